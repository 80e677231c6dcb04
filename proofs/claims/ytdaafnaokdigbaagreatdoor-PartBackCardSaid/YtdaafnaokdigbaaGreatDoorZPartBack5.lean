/-
  Texts in one (only what PartBack needs): HdK, HdC, PtB, PtK, HdA2, PtJ, PtS, PtT, LPartSafeP, PtSafe, LPartJoinsP, PtJR, PtL, PtBk, AvOpen.
-/
import Derived.Test.YtdaafnaokdigbaaGreatDoorZPartBack4
import Derived.Lib.ItoaNum
import Derived.RowKit
import Derived.OpenShut
import Derived.ChangeSlices
import Derived.SliceStrings
set_option linter.unusedVariables false
set_option linter.unusedSimpArgs false
namespace Go.Hd
open Go.Pv Go.Av
def noSp (w : Bs) : Prop := ∀ c ∈ w, spb c = false
theorem wf_word (w r : Bs) (hw : noSp w) (h0 : w ≠ []) (c : UInt8) (hc : spb c = true) : wf [] (w ++ c :: r) = w :: wf [] r := by
  rw [wf_run _ w [] hw, List.nil_append, wf, if_pos hc, if_neg h0]
theorem wf_sp (r : Bs) (c : UInt8) (hc : spb c = true) : wf [] (c :: r) = wf [] r := by
  rw [wf, if_pos hc, if_pos rfl]
def tailOf : Int → List Bs → Bs
  | _, [] => [13, 10]
  | n, w :: ws => (lnStep (n, []) w).2 ++ tailOf (lnStep (n, []) w).1 ws
theorem lnStep_app (n : Int) (o : Bs) (w : Bs) : lnStep (n, o) w = ((lnStep (n, []) w).1, o ++ (lnStep (n, []) w).2) := by
  unfold lnStep
  by_cases h : 76 < n + 1 + (w.length : Int)
  · rw [if_pos h, if_pos h]; simp
  · rw [if_neg h, if_neg h]; simp
theorem fold_tail : ∀ (ws : List Bs) (n : Int) (o : Bs), (ws.foldl lnStep (n, o)).2 ++ [13, 10] = o ++ tailOf n ws
  | [], n, o => rfl
  | w :: ws, n, o => by
    rw [List.foldl_cons, lnStep_app n o w, fold_tail ws _ _, tailOf, List.append_assoc]
theorem lineOf_eq (a b : Bs) : lineOf a b = a ++ 58 :: tailOf ((a.length + 1 : Nat) : Int) (wordsOf b) := by
  unfold lineOf
  rw [fold_tail]; simp
theorem wf_tail : ∀ (ws : List Bs) (n : Int), (∀ w ∈ ws, noSp w ∧ w ≠ []) → wf [] (tailOf n ws) = ws ∧ ∃ c r, tailOf n ws = c :: r ∧ spb c = true
  | [], n, h => ⟨rfl, 13, [10], rfl, rfl⟩
  | w :: ws, n, h => by
    have ⟨hw, hne⟩ := h w (by simp)
    obtain ⟨ih, c, r, e, hc⟩ := wf_tail ws (lnStep (n, []) w).1 (fun x hx => h x (by simp [hx]))
    rw [tailOf]
    have : ∃ p : Bs, (lnStep (n, []) w).2 = p ++ w ∧ (p = [32] ∨ p = [13, 10, 32]) := by
      unfold lnStep
      split
      · exact ⟨[13, 10, 32], rfl, .inr rfl⟩
      · exact ⟨[32], rfl, .inl rfl⟩
    obtain ⟨p, hp, hp2⟩ := this
    have key : wf [] (w ++ tailOf (lnStep (n, []) w).1 ws) = w :: ws := by
      rw [e] at ih ⊢
      rw [wf_word w r hw hne c hc]
      rw [wf_sp r c hc] at ih
      rw [ih]
    rw [hp, List.append_assoc]
    rcases hp2 with rfl | rfl
    · refine ⟨?_, 32, _, rfl, rfl⟩
      show wf [] (32 :: (w ++ _)) = _
      rw [wf_sp _ 32 rfl, key]
    · refine ⟨?_, 13, _, rfl, rfl⟩
      show wf [] (13 :: 10 :: 32 :: (w ++ _)) = _
      rw [wf_sp _ 13 rfl, wf_sp _ 10 rfl, wf_sp _ 32 rfl, key]
theorem ch_nosp (n : Nat) (h : n < 64) : spb (ch n) = false := by
  have := of_all64 (fun n => !(spb (ch n))) (by decide +kernel) n h
  simpa using this
theorem enc_nosp : ∀ b : Bs, noSp (enc b)
  | a :: b :: c :: r => by
    have ih := enc_nosp r
    have hq := q3_lt a b c
    intro x hx
    rw [enc] at hx
    rcases List.mem_append.1 hx with hx | hx
    · simp only [four, List.mem_cons, List.not_mem_nil, or_false] at hx
      rcases hx with rfl | rfl | rfl | rfl <;> exact ch_nosp _ (by omega)
    · exact ih x hx
  | [a, b] => by
    have hq := q3_lt a b 0
    intro x hx
    simp only [enc, four, List.take, List.mem_append, List.mem_cons, List.not_mem_nil, or_false] at hx
    rcases hx with (rfl | rfl | rfl) | rfl
    · exact ch_nosp _ (by omega)
    · exact ch_nosp _ (by omega)
    · exact ch_nosp _ (by omega)
    · rfl
  | [a] => by
    have hq := q3_lt a 0 0
    intro x hx
    simp only [enc, four, List.take, List.mem_append, List.mem_cons, List.not_mem_nil, or_false] at hx
    rcases hx with (rfl | rfl) | rfl | rfl
    · exact ch_nosp _ (by omega)
    · exact ch_nosp _ (by omega)
    · rfl
    · rfl
  | [] => fun x hx => by cases hx
theorem word_nosp (p : Bs) : noSp (word p) ∧ word p ≠ [] := by
  refine ⟨fun c hc => ?_, by simp [word, ahead]⟩
  unfold word at hc
  rcases List.mem_append.1 hc with hc | hc
  · rcases List.mem_append.1 hc with hc | hc
    · have : ∀ c ∈ ahead, spb c = false := by decide
      exact this c hc
    · exact enc_nosp p c hc
  · have : ∀ c ∈ behind, spb c = false := by decide
    exact this c hc
theorem pieces_nosp (s : Bs) : ∀ n, s.length ≤ n → ∀ w ∈ pieces s, ∃ p, w = word p := by
  intro n
  induction n generalizing s with
  | zero => intro h; have : s = [] := List.eq_nil_of_length_eq_zero (by omega); subst this; simp [pieces_nil]
  | succ n ih =>
    intro h
    by_cases h0 : s = []
    · subst h0; simp [pieces_nil]
    · have hp := pt_le s
      have hl := List.length_pos_iff.2 h0
      have h3 := hp.2.2 h0
      rw [pieces_cons h0]
      intro w hw
      rcases List.mem_cons.1 hw with rfl | hw
      · exact ⟨_, rfl⟩
      · exact ih _ (by simp; omega) w hw
theorem isCoded_word (p : Bs) : isCoded (word p) = true ∧ mid (word p) = enc p := by
  have hal : ahead.length = 10 := rfl
  have hbl : behind.length = 2 := rfl
  have hl : (word p).length = 12 + (enc p).length := by unfold word; simp [hal, hbl]; omega
  refine ⟨?_, ?_⟩
  · unfold isCoded
    have h1 : (word p).take 10 = ahead := by unfold word; rw [List.append_assoc, List.take_left' hal]
    have h2 : (word p).drop ((word p).length - 2) = behind := by
      rw [hl]; unfold word; rw [List.drop_left' (by simp [hal]; omega)]
    rw [decide_eq_true h1, decide_eq_true h2, decide_eq_true (by omega)]; rfl
  · unfold mid
    rw [hl]
    unfold word
    rw [List.take_left' (by simp [hal]; omega), List.drop_left' hal]
theorem cd_word (p : Bs) : cdB (word p) = true ∧ cdT (word p) = p := by
  have ⟨h1, h2⟩ := isCoded_word p
  unfold cdB cdT
  rw [h1, h2, dec_enc]
  exact ⟨rfl, rfl⟩
theorem value_pieces (s : Bs) : ∀ n, s.length ≤ n → (pieces s).all cdB = true ∧ catT (pieces s) = s := by
  intro n
  induction n generalizing s with
  | zero => intro h; have : s = [] := List.eq_nil_of_length_eq_zero (by omega); subst this; exact ⟨rfl, rfl⟩
  | succ n ih =>
    intro h
    by_cases h0 : s = []
    · subst h0; exact ⟨rfl, rfl⟩
    · have hp := pt_le s
      have hl := List.length_pos_iff.2 h0
      have h3 := hp.2.2 h0
      have ⟨i1, i2⟩ := ih (s.drop (pt s)) (by simp; omega)
      have ⟨c1, c2⟩ := cd_word (s.take (pt s))
      rw [pieces_cons h0, catT_cons, List.all_cons, c1, c2, i1, i2]
      exact ⟨rfl, List.take_append_drop _ _⟩
theorem join_prep (cur : Bs) (l : List Bs) (h : l ≠ []) : Str.join [32] (prep cur l) = cur ++ Str.join [32] l := by
  cases l with
  | nil => exact absurd rfl h
  | cons p ps => simp [prep, Str.join]
theorem join_cons_nil (l : List Bs) (h : l ≠ []) : Str.join [32] ([] :: l) = 32 :: Str.join [32] l := by
  cases l with
  | nil => exact absurd rfl h
  | cons p ps => simp [Str.join, Str.rest]
theorem join_sp : ∀ s : Bs, Str.join [32] (sp 32 s) = s
  | [] => rfl
  | c :: r => by
    have ih := join_sp r
    by_cases h : c = 32
    · subst h; rw [sp_cons_eq, join_cons_nil _ (sp_ne 32 r), ih]
    · rw [sp_cons_ne h, join_prep _ _ (sp_ne 32 r), ih]; rfl
theorem has2_tail {p : UInt8 → UInt8 → Bool} {c : UInt8} {r : Bs} (h : has2 p (c :: r) = false) : has2 p r = false := by
  cases r with
  | nil => rfl
  | cons d r => rw [has2, Bool.or_eq_false_iff] at h; exact h.2
theorem mem_prep {cur w : Bs} {l : List Bs} (h : w ∈ prep cur l) : (∃ p ps, l = p :: ps ∧ w = cur ++ p) ∨ w ∈ l.drop 1 ∨ (l = [] ∧ w = cur) := by
  cases l with
  | nil => simp [prep] at h; exact .inr (.inr ⟨rfl, h⟩)
  | cons p ps =>
    simp only [prep, List.mem_cons] at h
    rcases h with h | h
    · exact .inl ⟨p, ps, rfl, h⟩
    · exact .inr (.inl h)
theorem sp_nosp : ∀ s : Bs, (s.all okb = true) → ∀ w ∈ sp 32 s, noSp w
  | [], _, w, hw => by simp [sp] at hw; subst hw; exact fun c hc => by cases hc
  | c :: r, h, w, hw => by
    rw [List.all_cons, Bool.and_eq_true] at h
    have ih := sp_nosp r h.2
    by_cases hc : c = 32
    · subst hc
      rw [sp_cons_eq] at hw
      rcases List.mem_cons.1 hw with rfl | hw
      · exact fun c hc => by cases hc
      · exact ih w hw
    · rw [sp_cons_ne hc] at hw
      rcases mem_prep hw with ⟨p, ps, e, rfl⟩ | h2 | ⟨e, _⟩
      · intro x hx
        rcases List.mem_append.1 hx with hx | hx
        · have : x = c := by simpa using hx
          subst this
          have := h.1
          unfold okb at this
          simp only [Bool.and_eq_true, decide_eq_true_eq] at this
          unfold spb
          have n13 : x ≠ 13 := fun e => by rw [e] at this; revert this; decide
          have n10 : x ≠ 10 := fun e => by rw [e] at this; revert this; decide
          rw [decide_eq_false hc, decide_eq_false n13, decide_eq_false n10]; rfl
        · exact ih p (by rw [e]; simp) x hx
      · exact ih w (List.mem_of_mem_drop h2)
      · exact absurd e (sp_ne 32 r)
theorem sp_full : ∀ s : Bs, has2 bad s = false → s.getLast? ≠ some 32 → ∀ w ∈ (sp 32 s).drop 1, w ≠ []
  | [], _, _, w, hw => by simp [sp] at hw
  | c :: r, h, hl, w, hw => by
    have hr : r = [] ∨ r.getLast? ≠ some 32 := by
      cases r with
      | nil => exact .inl rfl
      | cons d r => right; simpa using hl
    have ih : ∀ w ∈ (sp 32 r).drop 1, w ≠ [] := by
      rcases hr with rfl | hr
      · intro w hw; simp [sp] at hw
      · exact sp_full r (has2_tail h) hr
    by_cases hc : c = 32
    · subst hc
      rw [sp_cons_eq] at hw
      cases r with
      | nil => simp at hl
      | cons d r =>
        have hd : d ≠ 32 := fun e => by
          subst e
          rw [has2, Bool.or_eq_false_iff] at h
          have := h.1
          revert this; decide
        rw [List.drop_one, List.tail_cons] at hw
        have hne := sp_ne 32 (d :: r)
        cases hs : sp 32 (d :: r) with
        | nil => exact absurd hs hne
        | cons p ps =>
          rw [hs] at hw ih
          rcases List.mem_cons.1 hw with rfl | hw
          · intro e
            subst e
            rw [sp_cons_ne hd] at hs
            cases h3 : sp 32 r with
            | nil => exact absurd h3 (sp_ne 32 r)
            | cons q qs => rw [h3] at hs; simp [prep] at hs
          · exact ih w (by simpa using hw)
    · rw [sp_cons_ne hc] at hw
      refine ih w ?_
      cases hs : sp 32 r with
      | nil => exact absurd hs (sp_ne 32 r)
      | cons p ps => rw [hs] at hw; simpa [prep] using hw
theorem sp_first (c : UInt8) (r : Bs) (hc : c ≠ 32) : ∃ p ps, sp 32 (c :: r) = (c :: p) :: ps ∧ ∃ q, r = p ++ q := by
  rw [sp_cons_ne hc]
  have : ∀ s : Bs, ∃ p ps, sp 32 s = p :: ps ∧ ∃ q, s = p ++ q := by
    intro s
    induction s with
    | nil => exact ⟨[], [], rfl, [], rfl⟩
    | cons d s ih =>
      obtain ⟨p, ps, e, q, hq⟩ := ih
      by_cases hd : d = 32
      · subst hd; exact ⟨[], _, sp_cons_eq 32 s, _, rfl⟩
      · exact ⟨d :: p, ps, by rw [sp_cons_ne hd, e]; rfl, q, by rw [hq]; rfl⟩
  obtain ⟨p, ps, e, q, hq⟩ := this r
  exact ⟨p, ps, by rw [e]; rfl, q, hq⟩
theorem words_plain {s : Bs} (h : plainB s = true) : (∀ w ∈ sp 32 s, noSp w ∧ w ≠ []) ∧ (sp 32 s).all cdB = false := by
  unfold plainB at h
  simp only [Bool.and_eq_true, Bool.not_eq_true', decide_eq_false_iff_not, decide_eq_true_eq] at h
  obtain ⟨⟨⟨ha, hne⟩, hh, hl⟩, hb⟩ := h
  cases s with
  | nil => exact absurd rfl hne
  | cons c r =>
    have hc : c ≠ 32 := fun e => hh (by rw [e]; rfl)
    have hs := sp_nosp (c :: r) ha
    have hf := sp_full (c :: r) hb hl
    obtain ⟨p, ps, e, q, hq⟩ := sp_first c r hc
    rw [e] at hs hf ⊢
    refine ⟨fun w hw => ⟨hs w hw, ?_⟩, ?_⟩
    · rcases List.mem_cons.1 hw with rfl | hw
      · simp
      · exact hf w (by simpa using hw)
    · rw [List.all_cons]
      have : cdB (c :: p) = false := by
        cases hi : isCoded (c :: p) with
        | false => unfold cdB; rw [hi, fand]
        | true =>
          exfalso
          unfold isCoded at hi
          simp only [Bool.and_eq_true, decide_eq_true_eq] at hi
          have h10 := hi.2.1
          cases p with
          | nil => simp at hi
          | cons d p =>
            have e1 : c = 61 ∧ d = 63 := by
              unfold ahead at h10
              simp only [List.take_succ_cons, List.cons.injEq] at h10
              exact ⟨h10.1, h10.2.1⟩
            rw [hq, e1.1, e1.2] at hb
            simp [has2, bad] at hb
      rw [this, fand]
theorem value_words (s : Bs) : valueOf (wordsOf s) = s ∧ ∀ w ∈ wordsOf s, noSp w ∧ w ≠ [] := by
  unfold wordsOf
  cases hp : plainB s with
  | true =>
    have ⟨h1, h2⟩ := words_plain hp
    rw [ctr]
    unfold valueOf
    rw [h2, cfl]
    exact ⟨join_sp s, h1⟩
  | false =>
    have ⟨h1, h2⟩ := value_pieces s s.length (by omega)
    rw [cfl]
    unfold valueOf
    rw [h1, ctr]
    exact ⟨h2, fun w hw => by obtain ⟨p, rfl⟩ := pieces_nosp s s.length (by omega) w hw; exact word_nosp p⟩
theorem name_colon {a : Bs} (h : nameB a = true) : ∀ c ∈ a, c ≠ 58 := by
  unfold nameB at h
  simp only [Bool.and_eq_true] at h
  intro c hc e
  have := List.all_eq_true.1 h.1.1 c hc
  rw [e] at this
  revert this; decide
theorem read_line (a b : Bs) (h : okLine a b = true) : readOf (lineOf a b) = (a, b, 0) := by
  have ⟨h1, h2⟩ := value_words b
  have h3 := (wf_tail (wordsOf b) ((a.length + 1 : Nat) : Int) h2).1
  unfold readOf
  rw [lineOf_eq, cutAt_app _ (name_colon (okLine_s h).1)]
  dsimp only
  rw [h3, h1, if_pos ⟨h, lineOf_eq a b⟩]
theorem readOf_zero {s x y : Bs} (h : readOf s = (x, y, 0)) : okLine x y = true ∧ lineOf x y = s := by
  unfold readOf at h
  cases hc : cutAt 58 s with
  | none => rw [hc] at h; cases h
  | some z =>
    obtain ⟨p, q⟩ := z
    rw [hc] at h
    dsimp only at h
    by_cases hi : okLine p (valueOf (wf [] q)) = true ∧ lineOf p (valueOf (wf [] q)) = s
    · rw [if_pos hi] at h; cases h; exact hi
    · rw [if_neg hi] at h; cases h
def wsum : List Bs → Nat
  | [] => 0
  | w :: ws => w.length + 3 + wsum ws
theorem fold_len : ∀ (ws : List Bs) (st : Int × Bs), (ws.foldl lnStep st).2.length ≤ st.2.length + wsum ws
  | [], st => by simp [wsum]
  | w :: ws, st => by
    have h1 := lnStep_len st w
    have h2 := fold_len ws (lnStep st w)
    rw [List.foldl_cons, wsum]; omega
theorem wsum_total : ∀ ws : List Bs, wsum ws = Str.total ws + 3 * ws.length
  | [] => rfl
  | w :: ws => by rw [wsum, wsum_total ws]; simp [Str.total]; omega
theorem pieces_few (s : Bs) : ∀ n, s.length ≤ n → 42 * (pieces s).length ≤ s.length + 42 := by
  intro n
  induction n generalizing s with
  | zero => intro h; have : s = [] := List.eq_nil_of_length_eq_zero (by omega); subst this; simp [pieces_nil]
  | succ n ih =>
    intro h
    by_cases h0 : s = []
    · subst h0; simp [pieces_nil]
    · have hp := pt_le s
      have hl := List.length_pos_iff.2 h0
      have h3 := hp.2.2 h0
      have hi := ih (s.drop (pt s)) (by simp; omega)
      rw [pieces_cons h0, List.length_cons]
      by_cases h45 : s.length ≤ 45
      · have : pt s = s.length := by unfold pt; rw [if_pos h45]
        rw [this, List.drop_length, pieces_nil]; simp
      · have h42 : 42 ≤ pt s := by unfold pt; rw [if_neg h45]; exact (dn_le s 4 (by omega)).1
        rw [List.length_drop] at hi
        omega
theorem wsum_pieces : ∀ l : List Bs, (∀ w ∈ l, w.length ≤ 104) → wsum l ≤ 107 * l.length
  | [], _ => by simp [wsum]
  | w :: ws, h => by
    have := wsum_pieces ws (fun x hx => h x (by simp [hx]))
    have := h w (by simp)
    rw [wsum, List.length_cons]; omega
theorem line_short (a b : Bs) (h : okLine a b = true) (hb : b.length ≤ 600) : (lineOf a b).length ≤ 1900 := by
  have ha := (okLine_s h).2.2
  have hf := fold_len (wordsOf b) (((a.length + 1 : Nat) : Int), a ++ [58])
  have hw : wsum (wordsOf b) ≤ 1803 := by
    unfold wordsOf
    cases plainB b with
    | true =>
      have h1 := sp_total 32 b
      rw [ctr, wsum_total]; omega
    | false =>
      have h1 := pieces_few b b.length (by omega)
      have h2 := wsum_pieces (pieces b) (pieces_len b b.length (by omega)).2
      rw [cfl]; omega
  unfold lineOf
  rw [List.length_append]
  simp at hf ⊢; omega
end Go.Hd
namespace Go.Hd
open Go.Pv Go.Av
def en : Bs → Option Nat
  | [] => none
  | c :: r => if (c = 13 ∧ r.head? = some 10) ∧ (r.drop 1).head? ≠ some 32 then some 2 else match en r with
    | none => none
    | some n => some (n + 1)
theorem en_le : ∀ {s : Bs} {n : Nat}, en s = some n → 2 ≤ n ∧ n ≤ s.length
  | [], n, h => by cases h
  | c :: r, n, h => by
    rw [en] at h
    split at h
    · rename_i hc
      cases h
      have : r ≠ [] := fun e => by rw [e] at hc; cases hc.1.2
      have := List.length_pos_iff.2 this
      rw [List.length_cons]; omega
    · cases hr : en r with
      | none => rw [hr] at h; cases h
      | some m =>
        rw [hr] at h; cases h
        have := en_le hr
        rw [List.length_cons]; omega
theorem head_at (s : Bs) (i : Nat) : (s.drop i).head? = s[i]? := by rw [List.head?_drop]
theorem index_cons (x : UInt8) (r sub : Bs) : Go.Lib.index (x :: r) sub = if sub.isPrefixOf (x :: r) = true then 0 else if Go.Lib.index r sub = -1 then -1 else Go.Lib.index r sub + 1 := by
  rw [Go.Lib.index]
  simp only [beq_iff_eq]
theorem pre2 (x : UInt8) (r : Bs) : ([13, 10] : Bs).isPrefixOf (x :: r) = true ↔ x = 13 ∧ r.head? = some 10 := by
  cases r with
  | nil => simp [List.isPrefixOf]
  | cons y r => simp [List.isPrefixOf]; constructor <;> (intro ⟨h1, h2⟩; exact ⟨h1.symm, h2.symm⟩)
theorem en_index : ∀ (s : Bs), (Go.Lib.index s [13, 10] = -1 ∧ en s = none) ∨ ∃ j : Nat, Go.Lib.index s [13, 10] = (j : Int) ∧ j + 2 ≤ s.length ∧
    en s = if (s.drop (j + 2)).head? = some 32 then (match en (s.drop (j + 2)) with | none => none | some k => some (j + 2 + k)) else some (j + 2)
  | [] => .inl ⟨rfl, rfl⟩
  | c :: r => by
    have ih := en_index r
    rw [index_cons, en]
    by_cases hp : c = 13 ∧ r.head? = some 10
    · right
      refine ⟨0, by rw [if_pos ((pre2 c r).2 hp)]; rfl, ?_, ?_⟩
      · have : r ≠ [] := fun e => by rw [e] at hp; cases hp.2
        have := List.length_pos_iff.2 this
        rw [List.length_cons]; omega
      · have hd : (c :: r).drop (0 + 2) = r.drop 1 := rfl
        rw [hd]
        by_cases h32 : (r.drop 1).head? = some 32
        · rw [if_neg (fun h => h.2 h32), if_pos h32]
          -- the sign behind is the line feed
          cases r with
          | nil => cases hp.2
          | cons d r =>
            have : d = 10 := by simpa using hp.2
            subst this
            rw [en, if_neg (fun h => by have := h.1.1; revert this; decide)]
            show (match (match en r with | none => none | some n => some (n + 1)) with | none => none | some n => some (n + 1)) = match en r with | none => none | some k => some (0 + 2 + k)
            cases en r with
            | none => rfl
            | some k => dsimp only; congr 1; omega
        · rw [if_pos ⟨hp, h32⟩, if_neg h32]
    · have hp1 : ¬ ([13, 10] : Bs).isPrefixOf (c :: r) = true := fun h => hp ((pre2 c r).1 h)
      have hp3 : ¬ ((c = 13 ∧ r.head? = some 10) ∧ (r.drop 1).head? ≠ some 32) := fun h => hp h.1
      rw [if_neg hp1, if_neg hp3]
      rcases ih with ⟨h1, h2⟩ | ⟨j, h1, hjl, h2⟩
      · left; rw [h1, h2]; exact ⟨rfl, rfl⟩
      · right
        refine ⟨j + 1, by rw [h1, if_neg (by omega)]; rfl, by rw [List.length_cons]; omega, ?_⟩
        have hd : (c :: r).drop (j + 1 + 2) = r.drop (j + 2) := by rw [show j + 1 + 2 = (j + 2) + 1 by omega]; rfl
        rw [hd, h2]
        by_cases h32 : (r.drop (j + 2)).head? = some 32
        · rw [if_pos h32, if_pos h32]
          cases en (r.drop (j + 2)) with
          | none => rfl
          | some k => dsimp only; congr 1; omega
        · rw [if_neg h32, if_neg h32]
theorem fo (x : Bool) : (false || x) = x := Eq.symm (Eq.symm rfl)
abbrev Rr := List Bs × Bs × Bool
theorem in_loop (s : Bs) (ls : List Bs) (rec10 : (Bs × List Bs) → Option Rr) (hs : s.length ≤ 1000000) : ∀ (m i : Nat), s.length - i + 1 < m → i ≤ s.length → (i = 0 ∨ (s.drop i).head? = some 32) →
    head_lines_L1 s ls rec10 m (i : Int) = match en (s.drop i) with
      | none => some ([], [], false)
      | some k => head_lines_j2 s ls rec10 ((i + k : Nat) : Int) := by
  intro m
  induction m with
  | zero => intro i h; omega
  | succ m ih =>
    intro i hm hi hz
    show head_lines_B1 s ls rec10 (head_lines_L1 s ls rec10 m) (i : Int) = _
    unfold head_lines_B1
    have hcond : ∀ k : UInt8 → Option Rr, (grdc ((!(decide ((i : Int) = 0))) && (decide ((i : Int) < (s.length : Int)))) (okAt (i : Int) s.length) <| lt (at_ s (i : Int)) fun x22 => k x22) = k (at_ s (i : Int)) := fun k => by
      rw [lt_eq]
      by_cases hl : i < s.length
      · rw [show okAt (i : Int) s.length = true from decide_eq_true (by omega)]
        cases (!(decide ((i : Int) = 0))) && (decide ((i : Int) < (s.length : Int))) <;> rfl
      · rw [decide_eq_false (show ¬ (i : Int) < s.length by omega), Bool.and_false, grdc_f]
    rw [hcond]
    have hgo : ((decide ((i : Int) = 0)) || ((decide ((i : Int) < (s.length : Int))) && (decide (at_ s (i : Int) = 32)))) = true := by
      rcases hz with h | h
      · rw [decide_eq_true (show (i : Int) = 0 by omega)]; rfl
      · rw [head_at] at h
        have hl : i < s.length := (List.getElem?_eq_some_iff.1 h).1
        have h3 := (List.getElem?_eq_some_iff.1 h).2
        rw [at_nat hl, decide_eq_true h3, decide_eq_true (show (i : Int) < s.length by omega)]; simp
    have h2 : decide (2 ≤ ([13, 10] : Bs).length) = true := rfl
    rw [hgo, ctr, grd_To (by omega), lt_eq, from_nat, grd_S (by simp; omega), h2, grd_t, grd_S (by simp), lt_eq]
    rcases en_index (s.drop i) with ⟨e1, e2⟩ | ⟨j, e1, hjl, e2⟩
    · rw [e1, e2, bT (by omega)]
    · rw [List.length_drop] at hjl
      have hij : (i : Int) + ((j : Int) + 2) = ((i + j + 2 : Nat) : Int) := by omega
      rw [e1, bF (by omega), grd_I (by omega), grd_I (by omega), hij]
      have hdd : (s.drop i).drop (j + 2) = s.drop (i + j + 2) := by rw [List.drop_drop]; congr 1
      rw [hdd] at e2
      rw [e2]
      by_cases h32 : (s.drop (i + j + 2)).head? = some 32
      · rw [if_pos h32, ih (i + j + 2) (by omega) (by omega) (.inr h32)]
        cases en (s.drop (i + j + 2)) with
        | none => rfl
        | some k => dsimp only; congr 2; omega
      · rw [if_neg h32]
        dsimp only
        obtain ⟨m, rfl⟩ : ∃ q, m = q + 1 := ⟨m - 1, by omega⟩
        show head_lines_B1 s ls rec10 (head_lines_L1 s ls rec10 m) ((i + j + 2 : Nat) : Int) = _
        unfold head_lines_B1
        simp only [decide_eq_false (show ¬ ((i + j + 2 : Nat) : Int) = 0 by omega), nfl, tand, fo]
        by_cases hl : i + j + 2 < s.length
        · rw [head_at, List.getElem?_eq_getElem hl] at h32
          have h3 : ¬ s[i + j + 2] = 32 := fun e => h32 (by rw [e])
          rw [decide_eq_true (show ((i + j + 2 : Nat) : Int) < s.length by omega), grdc_t, grd_At (by omega), lt_eq, at_nat hl, decide_eq_false h3, Bool.and_false, cfl]
          congr 1
        · rw [decide_eq_false (show ¬ ((i + j + 2 : Nat) : Int) < s.length by omega), grdc_f, lt_eq, fand, cfl]
          congr 1
def ln : Nat → Bs → Option (List Bs × Bs)
  | 0, _ => none
  | f + 1, s => if Go.Lib.hasPrefix s [13, 10] = true then some ([], s.drop 2) else match en s with
    | none => none
    | some n => match ln f (s.drop n) with
      | none => none
      | some (l, r) => some (s.take n :: l, r)
theorem lines_loop (F : Nat) : ∀ (m : Nat) (s : Bs) (ls : List Bs), s.length < m → s.length + 3 < F → s.length ≤ 1000000 → ls.length + s.length ≤ 1000000 →
    head_lines_L2 F m (s, ls) = some (match ln m s with
      | none => ([], [], false)
      | some (l, r) => (ls ++ l, r, decide (((ls ++ l).length : Int) ≤ 50))) := by
  intro m
  induction m with
  | zero => intro s ls h; omega
  | succ m ih =>
    intro s ls hm hF hs hl
    show head_lines_B2 F (head_lines_L2 F m) s ls = _
    unfold head_lines_B2
    rw [lt_eq, ln]
    by_cases hp : Go.Lib.hasPrefix s [13, 10] = true
    · have h2 : 2 ≤ s.length := by
        have := (List.isPrefixOf_iff_prefix.1 hp).length_le
        simpa using this
      rw [hp, ntr, cfl, if_pos rfl]
      unfold head_lines_j1
      rw [grd_To (by omega), lt_eq, show (2 : Int) = ((2 : Nat) : Int) from rfl, from_nat]
      dsimp only
      rw [List.append_nil]
    · rw [if_neg hp]
      have hp2 : Go.Lib.hasPrefix s [13, 10] = false := by simpa using hp
      rw [hp2, nfl, ctr]
      have := in_loop s ls (head_lines_L2 F m) hs F 0 (by omega) (by omega) (.inl rfl)
      refine Eq.trans this ?_
      rw [List.drop_zero]
      cases he : en s with
      | none => rfl
      | some n =>
        have ⟨n1, n2⟩ := en_le he
        dsimp only
        unfold head_lines_j2
        rw [Nat.zero_add, grd_To (by omega), lt_eq, to_nat, grd_To (by omega), lt_eq, from_nat, grd_Cat (by simp; omega), lt_eq, ih _ _ (by simp; omega) (by simp; omega) (by simp; omega) (by simp; omega)]
        cases ln m (s.drop n) with
        | none => rfl
        | some z =>
          obtain ⟨l, r⟩ := z
          dsimp only
          rw [List.append_assoc]; rfl
theorem ln_more : ∀ (m k : Nat) (s : Bs), s.length < m → s.length < k → ln m s = ln k s := by
  intro m
  induction m with
  | zero => intro k s h; omega
  | succ m ih =>
    intro k s h1 h2
    obtain ⟨k, rfl⟩ : ∃ j, k = j + 1 := ⟨k - 1, by omega⟩
    rw [ln, ln]
    split
    · rfl
    · cases he : en s with
      | none => rfl
      | some n =>
        have ⟨n1, n2⟩ := en_le he
        dsimp only
        rw [ih k (s.drop n) (by simp; omega) (by simp; omega)]
def lnOf (s : Bs) : Option (List Bs × Bs) := ln (s.length + 1) s
theorem ln_sum : ∀ (m : Nat) (s : Bs) {l : List Bs} {r : Bs}, ln m s = some (l, r) → Str.total l + 2 + r.length = s.length := by
  intro m
  induction m with
  | zero => intro s l r h; cases h
  | succ m ih =>
    intro s l r h
    rw [ln] at h
    by_cases hp : Go.Lib.hasPrefix s [13, 10] = true
    · have h2 : 2 ≤ s.length := by
        have := (List.isPrefixOf_iff_prefix.1 hp).length_le
        simpa using this
      rw [if_pos hp] at h
      cases h
      simp [Str.total]; omega
    · rw [if_neg hp] at h
      cases he : en s with
      | none => rw [he] at h; cases h
      | some n =>
        have ⟨n1, n2⟩ := en_le he
        rw [he] at h
        dsimp only at h
        cases hr : ln m (s.drop n) with
        | none => rw [hr] at h; cases h
        | some z =>
          obtain ⟨l2, r2⟩ := z
          rw [hr] at h
          cases h
          have := ih _ hr
          simp [Str.total] at this ⊢; omega
noncomputable def rdT (s : Bs) : Bs × Bs := ((readOf s).1, (readOf s).2.1)
noncomputable def rdB (s : Bs) : Bool := decide ((readOf s).2.2 = 0)
noncomputable def cutOf (s : Bs) : List (Bs × Bs) × Bs × Int := match lnOf s with
  | none => ([], [], 2)
  | some (l, r) => bif decide (l.length ≤ 50) && l.all rdB then (l.map rdT, r, 0) else ([], [], 2)
theorem each_loop (F : Nat) (hF : 900000 < F) (l : List Bs) (hl : l.length ≤ 1000000) (hw : ∀ w ∈ l, w.length ≤ 250000) : ∀ (m i : Nat) (hs : List (Bs × Bs)), l.length - i < m → i ≤ l.length → hs.length ≤ i →
    ∃ c : Int, head_eachR_L1 F l m (hs, (i : Int)) = some (bif (l.drop i).all rdB then (hs ++ (l.drop i).map rdT, 0) else ([], c)) ∧ c ≠ 0 := by
  intro m
  induction m with
  | zero => intro i hs h; omega
  | succ m ih =>
    intro i hs hm hi hh
    show ∃ c : Int, head_eachR_B1 F l (head_eachR_L1 F l m) hs (i : Int) = _ ∧ _
    unfold head_eachR_B1 head_eachR_j1
    by_cases h : i < l.length
    · have hd : l.drop i = l[i] :: l.drop (i + 1) := List.drop_eq_getElem_cons h
      obtain ⟨c, h1, h2⟩ := ih (i + 1) (hs ++ [rdT l[i]]) (by omega) (by omega) (by simp; omega)
      rw [bT (by omega), grd_At (by omega), lt_eq, at_nat h, Read_eq F _ (hw _ (List.getElem_mem h)) hF, hd, List.all_cons]
      have e : readOf l[i] = ((rdT l[i]).1, (rdT l[i]).2, (readOf l[i]).2.2) := rfl
      rw [e, bnd3_some]
      by_cases hz : (readOf l[i]).2.2 = 0
      · have hb : rdB l[i] = true := decide_eq_true hz
        refine ⟨c, ?_, h2⟩
        rw [decide_eq_true hz, ntr, cfl, grd_Cat (by simp; omega), lt_eq, grd_I (by omega), cast_succ, h1, hb, tand, List.map_cons, List.append_assoc]
        rfl
      · have hb : rdB l[i] = false := decide_eq_false hz
        refine ⟨(readOf l[i]).2.2, ?_, hz⟩
        rw [decide_eq_false hz, nfl, ctr, hb, fand, cfl]
    · have hd : l.drop i = [] := List.drop_eq_nil_of_le (by omega)
      rw [bF (by omega), hd]
      exact ⟨1, by simp, by omega⟩
theorem Cut_eq (F : Nat) (hF : 900000 < F) (s : Bs) (hs : s.length ≤ 250000) : head_Cut F s = some (cutOf s) := by
  have hl := lines_loop F F s [] (by omega) (by omega) (by omega) (by simp; omega)
  unfold head_Cut cutOf lnOf
  have hl2 : head_lines F s = _ := hl
  rw [hl2, ln_more F (s.length + 1) s (by omega) (by omega)]
  cases hn : ln (s.length + 1) s with
  | none => rfl
  | some z =>
    obtain ⟨l, r⟩ := z
    have hsum := ln_sum _ _ hn
    dsimp only
    rw [List.nil_append, bnd3_some]
    by_cases h50 : l.length ≤ 50
    · obtain ⟨c, h1, h2⟩ := each_loop F hF l (by omega) (fun w hw => by have := mem_total hw; omega) F 0 [] (by omega) (by omega) (by simp)
      have h1' : head_eachR F l = _ := h1
      rw [decide_eq_true (show (l.length : Int) ≤ 50 by omega), decide_eq_true h50, ntr, cfl, tand, h1', List.drop_zero]
      cases l.all rdB with
      | true => rw [ctr, ctr, bnd2_some, decide_eq_true rfl, ntr, cfl, grd_S (by omega), lt_eq, List.nil_append]
      | false => rw [cfl, cfl, bnd2_some, decide_eq_false h2, nfl, ctr]
    · rw [decide_eq_false (show ¬ (l.length : Int) ≤ 50 by omega), decide_eq_false h50, nfl, ctr, fand, cfl]
theorem hp2 (s : Bs) : Go.Lib.hasPrefix s [13, 10] = (decide (2 ≤ s.length) && (decide (gb s 0 = 13) && decide (gb s 1 = 10))) := by
  unfold Go.Lib.hasPrefix
  match s with
  | [] => rfl
  | [x] => simp [List.isPrefixOf]
  | x :: y :: r =>
    simp only [List.isPrefixOf, List.length_cons, Bool.and_true]
    rw [decide_eq_true (show 2 ≤ r.length + 1 + 1 by omega), tand]
    show (13 == x && 10 == y) = (decide (x = 13) && decide (y = 10))
    rw [bq, bq, Bool.beq_comm, Bool.beq_comm (a := (10 : UInt8))]
end Go.Hd
namespace Go.Pt
open Go.Pv Go.Av
open Go.Hd (fand tand nfl ntr cfl ctr bq of_all8 Bs hp_take index_cons contains_cons)
open Go.Lib (decDigits)
theorem dd_small {n : Nat} (h : n < 10) : decDigits n = [UInt8.ofNat (48 + n)] := by rw [decDigits, dif_pos h]
theorem dd_big {n : Nat} (h : ¬ n < 10) : decDigits n = decDigits (n / 10) ++ [UInt8.ofNat (48 + n % 10)] := by rw [decDigits, dif_neg h]
theorem dd_len : ∀ (m n : Nat), n < m → (decDigits n).length ≤ n + 1 := by
  intro m
  induction m with
  | zero => intro n h; omega
  | succ m ih =>
    intro n h
    by_cases hn : n < 10
    · rw [dd_small hn]; simp
    · have := ih (n / 10) (by omega)
      rw [dd_big hn, List.length_append, List.length_singleton]; omega
theorem itoa_eq (n : Nat) : Go.Lib.itoa (n : Int) = decDigits n := by
  unfold Go.Lib.itoa
  rw [if_neg (by omega), Int.toNat_natCast]
theorem idx_short {r x : Bs} (h : r.length < x.length) : Go.Lib.index r x = -1 := Go.Lib.index_long (Nat.le_of_lt h) (fun e => by rw [e] at h; omega)
def bd (n : Nat) : Bs := [61, 95] ++ decDigits n
def fnd (l : List Bs) (n : Nat) : Bool := l.any fun b => Go.Lib.contains b (bd n)
theorem bd_len (n : Nat) (h : n ≤ 100000) : 2 ≤ (bd n).length ∧ (bd n).length ≤ 200000 := by
  have := dd_len (n + 1) n (by omega)
  unfold bd
  rw [List.length_append]
  constructor
  · simp
  · simp; omega
theorem hasC_eq (F : Nat) (b x : Bs) (hb : b.length ≤ 1000000) (h2 : 2 ≤ x.length) (hx : x.length ≤ 1000000) : part_hasC F b x = some (Go.Lib.contains b x) := by
  unfold part_hasC
  rw [grd_Cat (by omega), grd_S (by omega), grd_D h2, grd_S (by omega), lt_eq]
theorem idxB_loop (F : Nat) (l : List Bs) (x : Bs) (hl : l.length ≤ 1000000) (hb : ∀ b ∈ l, b.length ≤ 1000000) (h2 : 2 ≤ x.length) (hx : x.length ≤ 1000000) : ∀ (m i : Nat), l.length - i < m → i ≤ l.length →
    ∃ r : Int, part_IndexB_L1 F l x m (i : Int) = some r ∧ decide (0 ≤ r) = (l.drop i).any (fun b => Go.Lib.contains b x) := by
  intro m
  induction m with
  | zero => intro i h; omega
  | succ m ih =>
    intro i hm hi
    show ∃ r : Int, part_IndexB_B1 F l x (part_IndexB_L1 F l x m) (i : Int) = some r ∧ _
    unfold part_IndexB_B1 part_IndexB_j1
    by_cases h : i < l.length
    · have hd : l.drop i = l[i] :: l.drop (i + 1) := List.drop_eq_getElem_cons h
      rw [bT (by omega), grd_At (by omega), lt_eq, at_nat h, hasC_eq F _ x (hb _ (List.getElem_mem h)) h2 hx, bnd_some, hd, List.any_cons]
      cases hc : Go.Lib.contains l[i] x with
      | true => exact ⟨(i : Int), rfl, by rw [decide_eq_true (by omega)]; rfl⟩
      | false =>
        obtain ⟨r, h1, h3⟩ := ih (i + 1) (by omega) (by omega)
        exact ⟨r, by rw [cfl, grd_I (by omega), cast_succ, h1], by rw [h3, fo]⟩
    · rw [bF (by omega), List.drop_eq_nil_of_le (by omega)]
      exact ⟨-1, rfl, rfl⟩
theorem ContainsB_eq (F : Nat) (l : List Bs) (x : Bs) (hl : l.length ≤ 1000000) (hF : l.length < F) (hb : ∀ b ∈ l, b.length ≤ 1000000) (h2 : 2 ≤ x.length) (hx : x.length ≤ 1000000) : part_ContainsB F l x = some (l.any fun b => Go.Lib.contains b x) := by
  obtain ⟨r, h1, h3⟩ := idxB_loop F l x hl hb h2 hx F 0 (by omega) (by omega)
  rw [List.drop_zero] at h3
  unfold part_ContainsB
  have h1' : part_IndexB F l x = some r := h1
  rw [h1', bnd_some, h3]
theorem bnd_loop (F : Nat) (l : List Bs) (hl : l.length ≤ 1000000) (hF : l.length < F) (hb : ∀ b ∈ l, b.length ≤ 1000000) (N : Nat) (hN : N ≤ 100000) (h0 : fnd l N = false) : ∀ (m i : Nat), N - i < m → i ≤ N → (∀ k, i ≤ k → k < N → fnd l k = true) → part_Boundary_L1 F l m (i : Int) = some (bd N) := by
  intro m
  induction m with
  | zero => intro i h; omega
  | succ m ih =>
    intro i hm hi hk
    show part_Boundary_B1 F l (part_Boundary_L1 F l m) (i : Int) = _
    unfold part_Boundary_B1
    have ⟨b1, b2⟩ := bd_len i (by omega)
    have hd := dd_len (i + 1) i (by omega)
    rw [grd_I (by omega), lt_eq, itoa_eq, grd_Cat (by simp; omega), lt_eq]
    show bnd (part_ContainsB F l (bd i)) _ = _
    rw [ContainsB_eq F l (bd i) hl hF hb b1 (by omega), bnd_some]
    show (bif !(fnd l i) then some (bd i) else _) = _
    by_cases he : i = N
    · subst he; rw [h0]; rfl
    · rw [hk i (by omega) (by omega), ntr, cfl, grd_I (by omega), cast_succ, ih (i + 1) (by omega) (by omega) (fun k h1 h2 => hk k (by omega) h2)]
theorem Boundary_eq (F : Nat) (l : List Bs) (hl : l.length ≤ 1000000) (hF : l.length < F) (hb : ∀ b ∈ l, b.length ≤ 1000000) (N : Nat) (hN : N ≤ 100000) (hNF : N < F) (h0 : fnd l N = false) (hk : ∀ k, k < N → fnd l k = true) : part_Boundary F l = some (bd N) :=
  bnd_loop F l hl hF hb N hN h0 F 0 (by omega) (by omega) (fun k _ h => hk k h)
def val (l : Bs) : Nat := l.foldl (fun a c => 10 * a + (c.toNat - 48)) 0
end Go.Pt
namespace Go.Pt
open Go.Pv Go.Av
open Go.Hd (fand tand nfl ntr cfl ctr bq of_all8 Bs has2 contains_two trim_id has2_tail)
def sg (c : UInt8) : Bool := (((((((decide ((97 : Int) ≤ (c.toNat : Int))) && (decide ((c.toNat : Int) ≤ (122 : Int)))) || ((decide ((48 : Int) ≤ (c.toNat : Int))) && (decide ((c.toNat : Int) ≤ (57 : Int))))) || (decide (c = 47))) || (decide (c = 45))) || (decide (c = 61))) || (decide (c = 59)))
def sgb (c : UInt8) : Bool := sg c || decide (c = 32)
theorem sgb_idx (c : UInt8) : decide (Go.Lib.indexByte parta_k1 c < 0) = !sgb c := by
  have := of_all8 (fun c => decide (Go.Lib.indexByte parta_k1 c < 0) == !sgb c) (by decide +kernel) c
  exact eq_of_beq this
def dbl (x y : UInt8) : Bool := x == 32 && y == 32
def kindB (s : Bs) : Bool := (s.all sgb && (!decide (s = []) && decide (s.length ≤ 60))) && ((decide (s.head? ≠ some 32) && decide (s.getLast? ≠ some 32)) && !has2 dbl s)
theorem kind_j (s : Bs) : part_kind_j1 s = some ((!decide (s = []) && decide (s.length ≤ 60)) && ((decide (s.head? ≠ some 32) && decide (s.getLast? ≠ some 32)) && !has2 dbl s)) := by
  unfold part_kind_j1
  have e1 : decide ((s.length : Int) ≤ 60) = decide (s.length ≤ 60) := decide_eq_decide.2 (by omega)
  have hS : ∀ (x : Bool) (k : Option Bool), grdc (((!decide (s = ([] : Bs))) && (decide ((s.length : Int) ≤ 60))) && x) (okS s.length) k = k := fun x k => by
    by_cases h : s.length ≤ 60
    · rw [show okS s.length = true from decide_eq_true (by omega)]; cases ((!decide (s = ([] : Bs))) && (decide ((s.length : Int) ≤ 60))) && x <;> rfl
    · rw [decide_eq_false (show ¬ (s.length : Int) ≤ 60 by omega), Bool.and_false, fand, grdc_f]
  have hS1 : ∀ (k : Option Bool), grdc ((!decide (s = ([] : Bs))) && (decide ((s.length : Int) ≤ 60))) (okS s.length) k = k := fun k => by
    have := hS true k
    rwa [Bool.and_true] at this
  rw [hS1, lt_eq, hS, lt_eq, contains_two]
  have e2 : decide (Go.Lib.trimB s 32 = s) = (decide (s.head? ≠ some 32) && decide (s.getLast? ≠ some 32)) := by
    rw [← Bool.decide_and]; exact decide_eq_decide.2 (trim_id 32 s)
  rw [e1, e2, Bool.and_assoc ((!decide (s = ([] : Bs))) && (decide (s.length ≤ 60)))]
  rfl
theorem kind_loop (s : Bs) (hs : s.length ≤ 1000000) : ∀ (n i : Nat), s.length - i < n → i ≤ s.length → part_kind_L1 s n (i : Int) = bif (s.drop i).all sgb then part_kind_j1 s else some false := by
  intro n
  induction n with
  | zero => intro i h; omega
  | succ n ih =>
    intro i hn hi
    show part_kind_B1 s (part_kind_L1 s n) (i : Int) = _
    unfold part_kind_B1
    by_cases h : i < s.length
    · have hd : s.drop i = s[i] :: s.drop (i + 1) := List.drop_eq_getElem_cons h
      rw [bT (by omega), grd_At (by omega), lt_eq, at_nat h, lt_eq, sgb_idx, hd, List.all_cons]
      cases hp : sgb s[i] with
      | false => rw [nfl, ctr, fand, cfl]
      | true => rw [ntr, cfl, grd_I (by omega), cast_succ, ih (i + 1) (by omega) (by omega), tand]
    · rw [bF (by omega), List.drop_eq_nil_of_le (by omega), List.all_nil, ctr]
theorem kind_eq (F : Nat) (s : Bs) (hs : s.length ≤ 1000000) (hF : s.length < F) : part_kind F s = some (kindB s) := by
  have := kind_loop s hs F 0 (by omega) (by omega)
  rw [List.drop_zero] at this
  refine Eq.trans this ?_
  rw [kind_j]
  unfold kindB
  cases s.all sgb <;> rfl
end Go.Pt
namespace Go.Hd
open Go.Pv Go.Av
theorem Line_all (F : Nat) (a b : Bs) (hF : 4200 < F) : head_Line F a b = some (if okLine a b = true then (lineOf a b, 0) else ([], 1)) := by
  by_cases h : a.length ≤ 40
  · exact Line_eq F a b (by omega) (by omega) hF
  · have hn : okLine a b ≠ true := fun ho => h (okLine_s ho).2.2
    unfold head_Line head_name
    rw [if_neg hn, decide_eq_false (show ¬ (a.length : Int) ≤ 40 by omega), bndc_f, fand, bnd_some]; rfl
def okX (x : Bs × Bs) : Bool := okLine x.1 x.2
def lnX (x : Bs × Bs) : Bs := lineOf x.1 x.2
theorem eachL_loop (F : Nat) (hF : 900000 < F) (l : List (Bs × Bs)) (hl : l.length ≤ 1000000) : ∀ (m i : Nat) (ls : List Bs), l.length - i < m → i ≤ l.length → ls.length ≤ i →
    head_eachL_L1 F l m (ls, (i : Int)) = some (bif (l.drop i).all okX then (ls ++ (l.drop i).map lnX, 0) else ([], 1)) := by
  intro m
  induction m with
  | zero => intro i ls h; omega
  | succ m ih =>
    intro i ls hm hi hh
    show head_eachL_B1 F l (head_eachL_L1 F l m) ls (i : Int) = _
    unfold head_eachL_B1 head_eachL_j1
    by_cases h : i < l.length
    · have hd : l.drop i = l[i] :: l.drop (i + 1) := List.drop_eq_getElem_cons h
      rw [bT (by omega), grd_At (by omega), lt_eq, at_nat h, Line_all F _ _ (by omega), hd, List.all_cons]
      by_cases ho : okLine l[i].1 l[i].2 = true
      · have hb : okX l[i] = true := ho
        rw [if_pos ho, bnd2_some, decide_eq_true rfl, ntr, cfl, grd_Cat (by simp; omega), lt_eq, grd_I (by omega), cast_succ, ih (i + 1) _ (by omega) (by omega) (by simp; omega), hb, tand, List.map_cons, List.append_assoc]
        rfl
      · have hb : okX l[i] = false := by unfold okX; simpa using ho
        rw [if_neg ho, bnd2_some, decide_eq_false (show ¬ (1 : Int) = 0 by omega), nfl, ctr, hb, fand, cfl]
    · have hd : l.drop i = [] := List.drop_eq_nil_of_le (by omega)
      rw [bF (by omega), hd]; simp
def allOf (l : List (Bs × Bs)) : Bs × Int := bif decide (l.length ≤ 50) then (bif l.all okX then ((l.map lnX).flatten ++ [13, 10], 0) else ([], 1)) else ([], 4)
theorem flat_len : ∀ (l : List (Bs × Bs)), (∀ x ∈ l, x.2.length ≤ 600) → l.all okX = true → ((l.map lnX).flatten).length ≤ 1900 * l.length
  | [], _, _ => by simp
  | x :: l, h, ha => by
    rw [List.all_cons, Bool.and_eq_true] at ha
    have := flat_len l (fun y hy => h y (by simp [hy])) ha.2
    have h1 := line_short x.1 x.2 ha.1 (h x (by simp))
    rw [List.map_cons, List.flatten_cons, List.length_append, List.length_cons]
    have e : lnX x = lineOf x.1 x.2 := rfl
    rw [e]; omega
theorem All_eq (F : Nat) (hF : 900000 < F) (l : List (Bs × Bs)) (hx : ∀ x ∈ l, x.2.length ≤ 600) : head_All F l = some (allOf l) := by
  unfold head_All allOf
  by_cases h : l.length ≤ 50
  · have he : head_eachL F l = _ := eachL_loop F hF l (by omega) F 0 [] (by omega) (by omega) (by simp)
    rw [bF (by omega), decide_eq_true h, ctr, he, List.drop_zero]
    cases ha : l.all okX with
    | false => rw [cfl, cfl, bnd2_some, decide_eq_false (show ¬ (1 : Int) = 0 by omega), nfl, ctr]
    | true =>
      have hfl := flat_len l hx ha
      rw [ctr, ctr, bnd2_some, decide_eq_true rfl, ntr, cfl, List.nil_append]
      have hj : okJoin0 (l.map lnX) = true := by
        unfold okJoin0
        rw [decide_eq_true (show ((l.map lnX).flatten).length ≤ 1000000000 by omega), decide_eq_true (show (l.map lnX).length ≤ 1000000000 by simp; omega)]
        cases l with
        | nil => rfl
        | cons x l =>
          have e : lnX x = lineOf x.1 x.2 := rfl
          have : ((x :: l).map lnX).flatten ≠ [] := by
            rw [List.map_cons, List.flatten_cons, e, lineOf_eq]; simp
          cases hf : ((x :: l).map lnX).flatten with
          | nil => exact absurd hf this
          | cons y r => simp
      rw [hj, grd_t, lt_eq, grd_Cat (by simp only [List.length_append, List.length_cons, List.length_nil]; omega), lt_eq]
  · rw [bT (by omega), decide_eq_false h, cfl]
def fld : Bs → Bool
  | [] => true
  | c :: r => (decide (c ≠ 13) || (decide (r.head? = some 10) && decide ((r.drop 1).head? = some 32))) && fld r
theorem en_fld : ∀ (p r : Bs), fld p = true → r.head? ≠ some 32 → en (p ++ 13 :: 10 :: r) = some (p.length + 2)
  | [], r, h, hr => by
    show en (13 :: 10 :: r) = _
    rw [en, if_pos ⟨⟨rfl, rfl⟩, hr⟩]; rfl
  | c :: p, r, h, hr => by
    rw [fld, Bool.and_eq_true] at h
    have ih := en_fld p r h.2 hr
    show en (c :: (p ++ 13 :: 10 :: r)) = _
    have hn : ¬ ((c = 13 ∧ (p ++ 13 :: 10 :: r).head? = some 10) ∧ ((p ++ 13 :: 10 :: r).drop 1).head? ≠ some 32) := by
      intro hh
      have h1 := h.1
      rw [decide_eq_false (show ¬ c ≠ 13 from fun e => e hh.1.1), fo, Bool.and_eq_true, decide_eq_true_eq, decide_eq_true_eq] at h1
      match p, h1 with
      | [], h1 => cases h1.1
      | [d], h1 => cases h1.2
      | d :: e :: p, h1 => exact hh.2 h1.2
    rw [en, ih, if_neg hn]; rfl
theorem fld_word (r : Bs) : ∀ (w : Bs), (∀ c ∈ w, c ≠ 13) → fld (w ++ r) = fld r
  | [], _ => rfl
  | c :: w, h => by
    rw [List.cons_append, fld, decide_eq_true (h c (by simp)), Bool.true_or, tand, fld_word r w (fun x hx => h x (by simp [hx]))]
theorem nosp_13 {w : Bs} (h : noSp w) : ∀ c ∈ w, c ≠ 13 := fun c hc e => by
  have := h c hc
  rw [e] at this; revert this; decide
def body : Int → List Bs → Bs
  | _, [] => []
  | n, w :: ws => (lnStep (n, []) w).2 ++ body (lnStep (n, []) w).1 ws
theorem tail_body : ∀ (ws : List Bs) (n : Int), tailOf n ws = body n ws ++ [13, 10]
  | [], n => rfl
  | w :: ws, n => by rw [tailOf, body, tail_body ws, List.append_assoc]
theorem fld_body : ∀ (ws : List Bs) (n : Int), (∀ w ∈ ws, noSp w) → fld (body n ws) = true
  | [], n, _ => rfl
  | w :: ws, n, h => by
    have ih := fld_body ws (lnStep (n, []) w).1 (fun x hx => h x (by simp [hx]))
    have hw := nosp_13 (h w (by simp))
    rw [body]
    generalize hb : body (lnStep (n, []) w).1 ws = b at ih
    unfold lnStep
    by_cases hc : 76 < n + 1 + (w.length : Int)
    · rw [if_pos hc]
      show fld (13 :: 10 :: 32 :: (w ++ b)) = true
      rw [fld, fld, fld, fld_word b w hw, ih]; rfl
    · rw [if_neg hc]
      show fld (32 :: (w ++ b)) = true
      rw [fld, fld_word b w hw, ih]; rfl
theorem name_13 {a : Bs} (h : nameB a = true) : ∀ c ∈ a, c ≠ 13 := by
  unfold nameB at h
  simp only [Bool.and_eq_true] at h
  intro c hc e
  have := List.all_eq_true.1 h.1.1 c hc
  rw [e] at this
  revert this; decide
theorem line_end (a b r : Bs) (h : okLine a b = true) (hr : r.head? ≠ some 32) : en (lineOf a b ++ r) = some (lineOf a b).length ∧ Go.Lib.hasPrefix (lineOf a b ++ r) [13, 10] = false := by
  have hn := (okLine_s h).1
  have h2 := (value_words b).2
  have e : lineOf a b = ((a ++ [58]) ++ body ((a.length + 1 : Nat) : Int) (wordsOf b)) ++ [13, 10] := by
    rw [lineOf_eq, tail_body]; simp
  have hf : fld ((a ++ [58]) ++ body ((a.length + 1 : Nat) : Int) (wordsOf b)) = true := by
    rw [fld_word _ (a ++ [58]) (by
      intro c hc
      rcases List.mem_append.1 hc with hc | hc
      · exact name_13 hn c hc
      · have : c = 58 := by simpa using hc
        rw [this]; decide)]
    exact fld_body _ _ (fun w hw => (h2 w hw).1)
  constructor
  · rw [e, List.append_assoc]
    have := en_fld ((a ++ [58]) ++ body ((a.length + 1 : Nat) : Int) (wordsOf b)) r hf hr
    refine Eq.trans this ?_
    rw [List.length_append (bs := [13, 10])]; rfl
  · rw [lineOf_eq]
    cases a with
    | nil => unfold nameB at hn; simp at hn
    | cons c a =>
      have := name_13 hn c (by simp)
      unfold Go.Lib.hasPrefix
      simp only [List.cons_append, List.isPrefixOf]
      rw [Bool.and_eq_false_iff]
      left
      simpa using fun e => this e.symm
theorem lines_back (t : Bs) : ∀ (l : List (Bs × Bs)) (m : Nat), l.all okX = true → ((l.map lnX).flatten ++ [13, 10] ++ t).length < m → ln m ((l.map lnX).flatten ++ [13, 10] ++ t) = some (l.map lnX, t) := by
  intro l
  induction l with
  | nil =>
    intro m ha hm
    obtain ⟨m, rfl⟩ : ∃ k, m = k + 1 := ⟨m - 1, by omega⟩
    show ln (m + 1) (13 :: 10 :: t) = _
    have hp : Go.Lib.hasPrefix (13 :: 10 :: t) [13, 10] = true := by simp [Go.Lib.hasPrefix, List.isPrefixOf]
    rw [ln, if_pos hp]; rfl
  | cons x l ih =>
    intro m ha hm
    rw [List.all_cons, Bool.and_eq_true] at ha
    obtain ⟨m, rfl⟩ : ∃ k, m = k + 1 := ⟨m - 1, by omega⟩
    have e : ((x :: l).map lnX).flatten ++ [13, 10] ++ t = lineOf x.1 x.2 ++ ((l.map lnX).flatten ++ [13, 10] ++ t) := by
      rw [List.map_cons, List.flatten_cons, List.append_assoc, List.append_assoc, List.append_assoc]; rfl
    have hr : ((l.map lnX).flatten ++ [13, 10] ++ t).head? ≠ some 32 := by
      cases l with
      | nil => simp
      | cons y l =>
        have hy := ha.2
        rw [List.all_cons, Bool.and_eq_true] at hy
        have hn := (okLine_s hy.1).1
        have ey : lnX y = lineOf y.1 y.2 := rfl
        rw [List.map_cons, List.flatten_cons, ey, lineOf_eq]
        cases hy1 : y.1 with
        | nil => rw [hy1] at hn; unfold nameB at hn; simp at hn
        | cons c a =>
          rw [hy1] at hn
          simp only [List.cons_append, List.head?_cons]
          intro e
          unfold nameB at hn
          simp only [Bool.and_eq_true, List.all_cons] at hn
          have := hn.1.1.1
          rw [Option.some.inj e] at this
          revert this; decide
    have ⟨h1, h2⟩ := line_end x.1 x.2 _ ha.1 hr
    rw [e] at hm ⊢
    rw [List.length_append] at hm
    have hl2 := (en_le h1).1
    rw [ln, h2, if_neg (by simp), h1]
    dsimp only
    rw [List.take_left' rfl, List.drop_left' rfl, ih m ha.2 (by omega)]
    rfl
theorem cut_all (l : List (Bs × Bs)) (t : Bs) (hl : l.length ≤ 50) (ha : l.all okX = true) : cutOf ((l.map lnX).flatten ++ [13, 10] ++ t) = (l, t, 0) := by
  have hr : ∀ x : Bs × Bs, okX x = true → readOf (lnX x) = (x.1, x.2, 0) := fun x hx => read_line x.1 x.2 hx
  have h1 : (l.map lnX).all rdB = true := by
    rw [List.all_map, List.all_eq_true]
    intro x hx
    have := hr x (List.all_eq_true.1 ha x hx)
    show rdB (lnX x) = true
    unfold rdB; rw [this]; rfl
  have h2 : (l.map lnX).map rdT = l := by
    rw [List.map_map]
    conv => rhs; rw [← List.map_id l]
    refine List.map_congr_left fun x hx => ?_
    have := hr x (List.all_eq_true.1 ha x hx)
    show rdT (lnX x) = x
    unfold rdT; rw [this]
  unfold cutOf lnOf
  rw [lines_back t l _ ha (Nat.lt_succ_self _)]
  dsimp only
  rw [decide_eq_true (show (l.map lnX).length ≤ 50 by simpa using hl), h1, tand, ctr, h2]
end Go.Hd
namespace Go.Pt
open Go.Pv Go.Av
open Go.Hd (fand tand nfl ntr cfl ctr bq of_all8 Bs contains_cons allOf)
def okn (c : UInt8) : Option UInt8 → Bool
  | none => decide (c ≠ 61)
  | some d => decide (c ≠ 61) || decide (d ≠ 95)
def sf : Bs → Bool
  | [] => true
  | c :: r => okn c r.head? && sf r
theorem sf_app : ∀ (a b : Bs), sf a = true → sf b = true → sf (a ++ b) = true
  | [], b, _, h => h
  | [c], b, h, g => by
    rw [sf, Bool.and_eq_true] at h
    have hc : c ≠ 61 := of_decide_eq_true h.1
    show sf (c :: b) = true
    rw [sf, g, Bool.and_true]
    cases b with
    | nil => exact decide_eq_true hc
    | cons d t => show (decide (c ≠ 61) || _) = true; rw [decide_eq_true hc]; rfl
  | c :: d :: r, b, h, g => by
    rw [sf, Bool.and_eq_true] at h
    show sf (c :: d :: (r ++ b)) = true
    rw [sf, Bool.and_eq_true]
    exact ⟨h.1, sf_app (d :: r) b h.2 g⟩
theorem sf_cont (x : Bs) : ∀ s : Bs, sf s = true → Go.Lib.contains s ([61, 95] ++ x) = false
  | [], _ => by
    unfold Go.Lib.contains
    rw [idx_short (r := []) (by simp)]; rfl
  | c :: r, h => by
    rw [sf, Bool.and_eq_true] at h
    rw [contains_cons, sf_cont x r h.2, Bool.or_false]
    cases r with
    | nil => simp [List.isPrefixOf]
    | cons d t =>
      have h1 : (decide (c ≠ 61) || decide (d ≠ 95)) = true := h.1
      show ((61 == c) && ((95 == d) && _)) = false
      by_cases hc : c = 61
      · subst hc
        have hd : d ≠ 95 := by simpa using h1
        have : ((95 : UInt8) == d) = false := by simpa using fun e => hd e.symm
        rw [this]; simp
      · have : ((61 : UInt8) == c) = false := by simpa using fun e => hc e.symm
        rw [this]; rfl
theorem dg_ne (n : Nat) (h : n < 16) : Qp.dg n ≠ 95 ∧ Qp.dg n ≠ 61 := by
  have : ∀ k : Fin 16, Qp.dg k.val ≠ 95 ∧ Qp.dg k.val ≠ 61 := by decide +kernel
  exact this ⟨n, h⟩
theorem sf_code (c : UInt8) (r : Bs) : sf (Qp.code c r) = true := by
  rcases Qp.code_cases c r with ⟨_, e, h61, _⟩ | e
  · rw [e]
    have : c ≠ 61 := fun hh => h61 (by rw [hh]; rfl)
    simp [sf, okn, this]
  · rw [show Qp.code c r = [61, Qp.dg (c.toNat / 16), Qp.dg (c.toNat % 16)] from by first | exact e | exact e.1]
    have h8 := c.toNat_lt
    have ⟨a1, a2⟩ := dg_ne (c.toNat / 16) (by omega)
    have ⟨b1, b2⟩ := dg_ne (c.toNat % 16) (by omega)
    simp [sf, okn, a1, a2, b2]
theorem sf_enc : ∀ (b : Bs) (n : Nat), sf (Qp.enc n b) = true
  | [], n => by simp [Qp.enc, sf]
  | c :: r, n => by
    rw [Qp.enc]
    split
    · exact sf_app _ _ (by decide) (sf_enc r 0)
    · refine sf_app _ _ ?_ (sf_enc r _)
      unfold Qp.put
      split
      · exact sf_app _ _ (by decide) (sf_code c r)
      · exact sf_code c r
theorem fnd_enc (l : List Bs) : fnd (l.map (Qp.enc 0)) 0 = false := by
  unfold fnd
  rw [List.any_map, List.any_eq_false]
  intro b hb
  have := sf_cont (Go.Lib.decDigits 0) (Qp.enc 0 b) (sf_enc b 0)
  show ¬ Go.Lib.contains (Qp.enc 0 b) (bd 0) = true
  rw [show bd 0 = [61, 95] ++ Go.Lib.decDigits 0 from rfl, this]; simp
theorem bd0 : bd 0 = [61, 95, 48] := by
  unfold bd
  rw [dd_small (by omega)]; rfl
def ct : Bs := [67, 111, 110, 116, 101, 110, 116, 45, 84, 121, 112, 101]
def qpn : Bs := [113, 117, 111, 116, 101, 100, 45, 112, 114, 105, 110, 116, 97, 98, 108, 101]
def hs2 (k : Bs) : List (Bs × Bs) := [(ct, k), (parta_k2, qpn)]
def hdr (k : Bs) : Bs := (allOf (hs2 k)).1
theorem hs2_in (k : Bs) (hk : k.length ≤ 600) : ∀ x ∈ hs2 k, x.1.length ≤ 100 ∧ x.2.length ≤ 600 := by
  have h2 : parta_k2.length = 25 := by decide +kernel
  intro x hx
  simp only [hs2, List.mem_cons, List.not_mem_nil, or_false] at hx
  rcases hx with rfl | rfl
  · exact ⟨by simp [ct], hk⟩
  · exact ⟨by rw [h2]; omega, by simp [qpn]⟩
theorem hdr_len (k : Bs) (hk : k.length ≤ 600) : (hdr k).length ≤ 4000 := by
  unfold hdr allOf
  have hf := Go.Hd.flat_len (hs2 k) (fun x hx => (hs2_in k hk x hx).2)
  cases h : (hs2 k).all Go.Hd.okX with
  | false => cases decide ((hs2 k).length ≤ 50) <;> simp
  | true =>
    have := hf h
    have h2 : (hs2 k).length = 2 := rfl
    cases decide ((hs2 k).length ≤ 50)
    · simp
    · rw [ctr, ctr]
      dsimp only
      simp only [List.length_append, List.length_cons, List.length_nil]
      omega
def one1 (x k c : Bs) : Bs := ([45, 45] ++ x ++ [13, 10]) ++ hdr k ++ c ++ [13, 10]
theorem put_eq1 (F : Nat) (hF : 900000 < F) (o x k c : Bs) (ho : o.length ≤ 10000000) (hx : x.length ≤ 1000000) (hk : k.length ≤ 600) (hc : c.length ≤ 10000000) : part_put F o x k c = some (o ++ one1 x k c) := by
  have hl := hdr_len k hk
  have hA := Go.Hd.All_eq F hF (hs2 k) (fun y hy => (hs2_in k hk y hy).2)
  unfold part_put part_put_j1
  have e : head_All F ([(([67, 111, 110, 116, 101, 110, 116, 45, 84, 121, 112, 101] : Bs), k), (parta_k2, ([113, 117, 111, 116, 101, 100, 45, 112, 114, 105, 110, 116, 97, 98, 108, 101] : Bs))] : List (Bs × Bs)) = some (hdr k, (allOf (hs2 k)).2) := hA
  rw [e, bnd2_some]
  simp (disch := (first | omega | (simp only [List.length_append, List.length_cons, List.length_nil]; omega))) only [grd_Cat, lt_eq]
  unfold one1
  simp
def endl (x : Bs) : Bs := [45, 45] ++ x ++ [45, 45] ++ [13, 10]
def body (x : Bs) : List Bs → List Bs → Bs
  | k :: ks, c :: cs => one1 x k c ++ body x ks cs
  | _, _ => []
theorem join_loop (F : Nat) (hF : 900000 < F) (ks cs : List Bs) (x : Bs) (hx : x.length ≤ 1000) (hl : ks.length = cs.length) (h8 : cs.length ≤ 8) (hk : ∀ k ∈ ks, k.length ≤ 600) (hc : ∀ c ∈ cs, c.length ≤ 600000) : ∀ (m i : Nat) (o : Bs), cs.length - i < m → i ≤ cs.length → o.length ≤ 610000 * i →
    part_Join_L1 F ks cs x m ((i : Int), o) = some (o ++ body x (ks.drop i) (cs.drop i) ++ endl x, x, 0) := by
  intro m
  induction m with
  | zero => intro i o h; omega
  | succ m ih =>
    intro i o hm hi ho
    show part_Join_B1 F ks cs x (part_Join_L1 F ks cs x m) (i : Int) o = _
    unfold part_Join_B1
    by_cases h : i < cs.length
    · have hd : cs.drop i = cs[i] :: cs.drop (i + 1) := List.drop_eq_getElem_cons h
      have hd2 : ks.drop i = ks[i]'(by omega) :: ks.drop (i + 1) := List.drop_eq_getElem_cons (by omega)
      have hkl := hk _ (List.getElem_mem (show i < ks.length by omega))
      have hcl := hc _ (List.getElem_mem h)
      have hh := hdr_len _ hkl
      have hol : (one1 x (ks[i]'(by omega)) cs[i]).length ≤ 610000 := by unfold one1; simp only [List.length_append, List.length_cons, List.length_nil]; omega
      rw [bT (by omega), grd_At (by omega), lt_eq, at_nat h, grd_At (by omega), lt_eq, at_nat (by omega), put_eq1 F hF o x _ _ (by omega) (by omega) hkl (by omega), bnd_some, grd_I (by omega), cast_succ, ih (i + 1) _ (by omega) (by omega) (by rw [List.length_append]; omega), hd, hd2, body]
      simp only [List.append_assoc]
    · rw [bF (by omega), List.drop_eq_nil_of_le (show cs.length ≤ i by omega)]
      have hb : body x (ks.drop i) [] = [] := by cases ks.drop i <;> rfl
      unfold part_Join_j1
      rw [hb]
      simp (disch := (first | omega | (simp only [List.length_append, List.length_cons, List.length_nil]; omega))) only [grd_Cat, lt_eq]
      unfold endl
      simp
def joinT (ks l : List Bs) : Bs := body (bd 0) ks (l.map (Qp.enc 0)) ++ endl (bd 0)
def okJ (ks l : List Bs) : Bool := (decide (ks.length = l.length) && (!decide (l.length = 0) && decide (l.length ≤ 8))) && ks.all kindB
def joinOf (ks l : List Bs) : Bs × Bs × Int := bif okJ ks l then (joinT ks l, bd 0, 0) else ([], [], 1)
theorem kindB_len {k : Bs} (h : kindB k = true) : k.length ≤ 60 := by
  unfold kindB at h
  simp only [Bool.and_eq_true, decide_eq_true_eq] at h
  exact h.1.2.2
theorem idxK_loop (F : Nat) (l : List Bs) (hl : l.length ≤ 1000000) (hb : ∀ b ∈ l, b.length ≤ 1000000 ∧ b.length < F) : ∀ (m i : Nat), l.length - i < m → i ≤ l.length →
    ∃ r : Int, part_IndexK_L1 F l m (i : Int) = some r ∧ decide (0 ≤ r) = !(l.drop i).all kindB := by
  intro m
  induction m with
  | zero => intro i h; omega
  | succ m ih =>
    intro i hm hi
    show ∃ r : Int, part_IndexK_B1 F l (part_IndexK_L1 F l m) (i : Int) = some r ∧ _
    unfold part_IndexK_B1 part_IndexK_j1 part_notC
    by_cases h : i < l.length
    · have hd : l.drop i = l[i] :: l.drop (i + 1) := List.drop_eq_getElem_cons h
      have ⟨h1, h2⟩ := hb _ (List.getElem_mem h)
      rw [bT (by omega), grd_At (by omega), lt_eq, at_nat h, kind_eq F _ h1 h2, bnd_some, bnd_some, hd, List.all_cons]
      cases hc : kindB l[i] with
      | false => exact ⟨(i : Int), rfl, by rw [decide_eq_true (by omega)]; rfl⟩
      | true =>
        obtain ⟨r, h1, h3⟩ := ih (i + 1) (by omega) (by omega)
        exact ⟨r, by rw [ntr, cfl, grd_I (by omega), cast_succ, h1], by rw [h3, tand]⟩
    · rw [bF (by omega), List.drop_eq_nil_of_le (by omega)]
      exact ⟨-1, rfl, rfl⟩
theorem ContainsK_eq (F : Nat) (l : List Bs) (hl : l.length ≤ 1000000) (hF : l.length < F) (hb : ∀ b ∈ l, b.length ≤ 1000000 ∧ b.length < F) : part_ContainsK F l = some (!l.all kindB) := by
  obtain ⟨r, h1, h3⟩ := idxK_loop F l hl hb F 0 (by omega) (by omega)
  rw [List.drop_zero] at h3
  unfold part_ContainsK
  have h1' : part_IndexK F l = some r := h1
  rw [h1', bnd_some, h3]
theorem encs_loop (F : Nat) (hF : 1000000 < F) (ks l : List Bs) (hl : l.length ≤ 8) (hb : ∀ b ∈ l, b.length ≤ 100000) : ∀ (m i : Nat) (cs : List Bs), l.length - i < m → i ≤ l.length → cs.length ≤ i →
    part_Join_L2 F ks l m (cs, (i : Int)) = part_Join_j2 F ks (cs ++ (l.drop i).map (Qp.enc 0)) := by
  intro m
  induction m with
  | zero => intro i cs h; omega
  | succ m ih =>
    intro i cs hm hi hc
    show part_Join_B2 F ks l (part_Join_L2 F ks l m) cs (i : Int) = _
    unfold part_Join_B2
    by_cases h : i < l.length
    · have hd : l.drop i = l[i] :: l.drop (i + 1) := List.drop_eq_getElem_cons h
      have := hb _ (List.getElem_mem h)
      rw [bT (by omega), grd_At (by omega), lt_eq, at_nat h, Encode_eq F _ (by omega) (by omega), bnd_some, grd_Cat (by simp; omega), lt_eq, grd_I (by omega), cast_succ, ih (i + 1) _ (by omega) (by omega) (by simp; omega), hd, List.map_cons, List.append_assoc]
      rfl
    · rw [bF (by omega), List.drop_eq_nil_of_le (by omega), List.map_nil, List.append_nil]
theorem enc_in (l : List Bs) (hb : ∀ b ∈ l, b.length ≤ 100000) : ∀ c ∈ l.map (Qp.enc 0), c.length ≤ 600000 := fun c hc => by
  obtain ⟨b, hb1, rfl⟩ := List.mem_map.1 hc
  have := Qp.enc_length b 0
  have := hb b hb1
  omega
theorem Join_eq (F : Nat) (hF : 1000000 < F) (ks l : List Bs) (hk : ∀ k ∈ ks, k.length ≤ 100000) (hb : ∀ b ∈ l, b.length ≤ 100000) : part_Join F ks l = some (joinOf ks l) := by
  unfold part_Join joinOf okJ
  have e1 : decide ((ks.length : Int) = (l.length : Int)) = decide (ks.length = l.length) := decide_eq_decide.2 (by omega)
  have e2 : decide ((l.length : Int) = 0) = decide (l.length = 0) := decide_eq_decide.2 (by omega)
  have e3 : decide (8 < (l.length : Int)) = !decide (l.length ≤ 8) := by
    by_cases h : l.length ≤ 8
    · rw [decide_eq_true h, decide_eq_false (by omega)]; rfl
    · rw [decide_eq_false h, decide_eq_true (by omega)]; rfl
  rw [e1, e2, e3]
  by_cases hc : ks.length = l.length ∧ l.length ≠ 0 ∧ l.length ≤ 8
  · rw [decide_eq_true hc.1, decide_eq_false hc.2.1, decide_eq_true hc.2.2]
    have hK := ContainsK_eq F ks (by omega) (by omega) (fun k h => by have := hk k h; omega)
    simp only [ntr, nfl, fo, tand]
    rw [bndc_t, hK, bnd_some]
    cases ha : ks.all kindB with
    | false => rfl
    | true =>
      rw [ntr, cfl, ctr]
      have h1 := encs_loop F hF ks l hc.2.2 hb F 0 [] (by omega) (by omega) (by simp)
      refine Eq.trans h1 ?_
      rw [List.nil_append, List.drop_zero]
      unfold part_Join_j2
      have hcs := enc_in l hb
      have hlen : (l.map (Qp.enc 0)).length = l.length := List.length_map _
      rw [Boundary_eq F _ (by omega) (by omega) (fun b hb => by have := hcs b hb; omega) 0 (by omega) (by omega) (fnd_enc l) (fun k h => by omega), bnd_some]
      have hkk : ∀ k ∈ ks, k.length ≤ 600 := fun k h => by have := kindB_len (List.all_eq_true.1 ha k h); omega
      have hb0 : (bd 0).length ≤ 1000 := by rw [bd0]; simp
      have h2 := join_loop F (by omega) ks (l.map (Qp.enc 0)) (bd 0) hb0 (by omega) (by omega) hkk hcs F 0 [] (by omega) (by omega) (by simp)
      refine Eq.trans h2 ?_
      rw [List.nil_append, List.drop_zero, List.drop_zero]; rfl
  · have hf : (decide (ks.length = l.length) && (!decide (l.length = 0) && decide (l.length ≤ 8))) = false := by
      by_cases h1 : ks.length = l.length
      · by_cases h2 : l.length = 0
        · rw [decide_eq_true h2]; simp
        · rw [decide_eq_false (show ¬ l.length ≤ 8 from fun h3 => hc ⟨h1, h2, h3⟩)]; simp
      · rw [decide_eq_false h1]; rfl
    have hg : (((!decide (ks.length = l.length)) || (decide (l.length = 0))) || (!decide (l.length ≤ 8))) = true := by
      have : (((!decide (ks.length = l.length)) || (decide (l.length = 0))) || (!decide (l.length ≤ 8))) = !(decide (ks.length = l.length) && (!decide (l.length = 0) && decide (l.length ≤ 8))) := by
        cases decide (ks.length = l.length) <;> cases decide (l.length = 0) <;> cases decide (l.length ≤ 8) <;> rfl
      rw [this, hf]; rfl
    rw [hg, hf, ntr, bndc_f, Bool.true_or, ctr, fand, cfl]
end Go.Pt
namespace Go.Pt
open Go.Pv Go.Av
open Go.Hd (fand tand nfl ntr cfl ctr bq of_all8 Bs contains_cons allOf index_cons cutOf)
noncomputable def oneOf (c : Bs) : Option (Bs × Bs) :=
  if ((cutOf c).2.2 = 0 ∧ (cutOf c).1.length = 2) ∧ 2 ≤ (cutOf c).2.1.length then
    (match Qp.decode ((cutOf c).2.1.take ((cutOf c).2.1.length - 2)) with
    | some x => some (((cutOf c).1.getD 0 ([], [])).2, x)
    | none => none)
  else none
theorem cut_rest (c : Bs) : (cutOf c).2.1.length ≤ c.length := by
  unfold cutOf Go.Hd.lnOf
  cases h : Go.Hd.ln (c.length + 1) c with
  | none => simp
  | some z =>
    obtain ⟨l, r⟩ := z
    have := Go.Hd.ln_sum _ _ h
    dsimp only
    cases (decide (l.length ≤ 50) && l.all Go.Hd.rdB)
    · rw [cfl]; simp
    · rw [ctr]; dsimp only; omega
theorem one_eq (F : Nat) (hF : 1000000 < F) (c : Bs) (hc : c.length ≤ 250000) : ∃ k x f, part_one F c = some (k, x, f) ∧ (f = true → oneOf c = some (k, x)) ∧ (f = false → oneOf c = none) := by
  unfold part_one oneOf
  have hr := cut_rest c
  rw [Go.Hd.Cut_eq F (by omega) c hc]
  generalize cutOf c = z at hr
  obtain ⟨h, r, e⟩ := z
  dsimp only at hr
  rw [bnd3_some]
  dsimp only
  by_cases hz : (e = 0 ∧ h.length = 2) ∧ 2 ≤ r.length
  · have e2 : (r.length : Int) - 2 = ((r.length - 2 : Nat) : Int) := by omega
    rw [decide_eq_true hz.1.1, decide_eq_true (show (h.length : Int) = 2 by omega), decide_eq_false (show ¬ (r.length : Int) < 2 by omega), if_pos hz]
    simp only [ntr, fo, cfl]
    rw [grd_I (by omega), grd_To (by omega), lt_eq, e2, to_nat, Decode_eq F _ (by simp; omega) (by simp; omega)]
    cases hd : Qp.decode (r.take (r.length - 2)) with
    | none =>
      refine ⟨(at_ h 0).2, [], false, ?_, fun h => (by cases h), fun _ => rfl⟩
      show bnd2 (some (([] : Bs), (2 : Int))) _ = _
      rw [bnd2_some, grd_At (by omega), lt_eq]; rfl
    | some x =>
      refine ⟨(h.getD 0 ([], [])).2, x, true, ?_, fun _ => rfl, fun h => (by cases h)⟩
      show bnd2 (some (([] : Bs) ++ x, (0 : Int))) _ = _
      rw [bnd2_some, grd_At (by omega), lt_eq, List.nil_append, decide_eq_true rfl]
      have ea : at_ h 0 = h.getD 0 ([], []) := rfl
      rw [ea]
  · rw [if_neg hz]
    have : (((!decide (e = 0)) || (!decide ((h.length : Int) = 2))) || (decide ((r.length : Int) < 2))) = true := by
      by_cases h1 : e = 0
      · by_cases h2 : h.length = 2
        · rw [decide_eq_true (show (r.length : Int) < 2 by have : ¬ 2 ≤ r.length := fun h3 => hz ⟨⟨h1, h2⟩, h3⟩; omega)]; simp
        · rw [decide_eq_false (show ¬ (h.length : Int) = 2 by omega)]; simp
      · rw [decide_eq_false h1]; rfl
    rw [this, ctr]
    exact ⟨[], [], false, rfl, fun h => (by cases h), fun _ => rfl⟩
theorem one_len {c k x : Bs} (h : oneOf c = some (k, x)) : k.length ≤ 4000 ∧ x.length ≤ c.length := by
  unfold oneOf at h
  split at h
  · rename_i hz
    have hr := cut_rest c
    cases hd : Qp.decode ((cutOf c).2.1.take ((cutOf c).2.1.length - 2)) with
    | none => rw [hd] at h; cases h
    | some y =>
      rw [hd] at h
      have h1 := (Prod.mk.inj (Option.some.inj h)).1
      have h2 := (Prod.mk.inj (Option.some.inj h)).2
      have hl := Qp.decode_len ((cutOf c).2.1.take ((cutOf c).2.1.length - 2))
      rw [hd] at hl
      simp only [Option.getD_some, List.length_take] at hl
      refine ⟨?_, by rw [← h2]; omega⟩
      rw [← h1]
      have hall : ∀ p ∈ (cutOf c).1, p.2.length ≤ 4000 := by
        unfold cutOf
        cases Go.Hd.lnOf c with
        | none => intro p hp; cases hp
        | some z =>
          obtain ⟨l, r⟩ := z
          dsimp only
          cases hb : (decide (l.length ≤ 50) && l.all Go.Hd.rdB) with
          | false => rw [cfl]; intro p hp; cases hp
          | true =>
            rw [ctr]
            intro p hp
            obtain ⟨s, hs, rfl⟩ := List.mem_map.1 hp
            rw [Bool.and_eq_true] at hb
            have hz : (Go.Hd.readOf s).2.2 = 0 := of_decide_eq_true (List.all_eq_true.1 hb.2 s hs)
            have e : Go.Hd.readOf s = ((Go.Hd.readOf s).1, (Go.Hd.readOf s).2.1, 0) := by rw [← hz]
            have := (Go.Hd.okLine_s (Go.Hd.readOf_zero e).1).2.1
            exact this
      have h0 : 0 < (cutOf c).1.length := by omega
      rw [List.getD, List.getElem?_eq_getElem h0, Option.getD_some]
      exact hall _ (List.getElem_mem h0)
  · cases h
def dashB (x : Bs) : Bs := [45, 45] ++ x
def lineB (x : Bs) : Bs := [45, 45] ++ x ++ [13, 10]
noncomputable def pr (x : Bs) : Nat → List Bs → List Bs → Bs → Option (List Bs × List Bs × Bs)
  | 0, _, _, _ => none
  | m + 1, ks, ls, left =>
    if ls.length ≤ 8 ∧ Go.Lib.hasPrefix left (lineB x) = true then
      (if Go.Lib.index (left.drop (lineB x).length) (dashB x) < 0 then none
      else match oneOf ((left.drop (lineB x).length).take (Go.Lib.index (left.drop (lineB x).length) (dashB x)).toNat) with
        | none => none
        | some (k, y) => pr x m (ks ++ [k]) (ls ++ [y]) ((left.drop (lineB x).length).drop (Go.Lib.index (left.drop (lineB x).length) (dashB x)).toNat))
    else some (ks, ls, left)
theorem split_loop (F : Nat) (hF : 1000000 < F) (s x : Bs) (hx : x.length ≤ 1000) : ∀ (m : Nat) (ks ls : List Bs) (left : Bs), left.length < m → left.length ≤ 100000 → ks.length ≤ 9 → ls.length ≤ 9 → ks.length = ls.length →
    part_Split_L1 F s x m (ks, ls, left) = match pr x m ks ls left with
      | none => some ([], [], 2)
      | some (k, l, _) => part_Split_j1 F s x k l := by
  intro m
  induction m with
  | zero => intro ks ls left h; omega
  | succ m ih =>
    intro ks ls left hm hl hk hls heq
    show part_Split_B1 F s x (part_Split_L1 F s x m) ks ls left = _
    unfold part_Split_B1 pr
    have hll : (lineB x).length = x.length + 4 := by unfold lineB; simp
    have hdl : (dashB x).length = x.length + 2 := by unfold dashB; simp
    by_cases h8 : ls.length ≤ 8
    · rw [bT (by omega), grd_Cat (by simp; omega), lt_eq, grd_Cat (by simp; omega), lt_eq]
      show grd (okCat (lineB x).length) (grd (decide (1 ≤ (lineB x).length)) (lt (Go.Lib.trimPrefix left (lineB x), Go.Lib.hasPrefix left (lineB x)) _)) = _
      rw [grd_Cat (by omega), grd_D (by omega), lt_eq]
      dsimp only
      cases hp : Go.Lib.hasPrefix left (lineB x) with
      | false => rw [nfl, ctr, if_neg (fun h => by cases h.2)]
      | true =>
        have hle : (lineB x).length ≤ left.length := (List.isPrefixOf_iff_prefix.1 hp).length_le
        have ht : Go.Lib.trimPrefix left (lineB x) = left.drop (lineB x).length := by unfold Go.Lib.trimPrefix; rw [hp]; rfl
        rw [ntr, cfl, if_pos ⟨h8, rfl⟩, ht, grd_Cat (by simp; omega), lt_eq]
        show grd (okCat (dashB x).length) (grd (okS (left.drop (lineB x).length).length) (grd (decide (2 ≤ (dashB x).length)) (grd (okS (dashB x).length) (lt (Go.Lib.index (left.drop (lineB x).length) (dashB x)) _)))) = _
        rw [grd_Cat (by omega), grd_S (by simp; omega), grd_D (by omega), grd_S (by omega), lt_eq]
        by_cases hn : Go.Lib.index (left.drop (lineB x).length) (dashB x) < 0
        · rw [bT hn, if_pos hn]
        · obtain ⟨n, hnn⟩ := Int.eq_ofNat_of_zero_le (show 0 ≤ Go.Lib.index (left.drop (lineB x).length) (dashB x) by omega)
          have hroom := Go.Lib.index_room (left.drop (lineB x).length) (dashB x) (by omega)
          rw [bF hn, if_neg hn, hnn, Int.toNat_natCast, grd_To (by omega), lt_eq, to_nat]
          rw [hnn] at hroom
          obtain ⟨k, y, f, o1, o2, o3⟩ := one_eq F hF ((left.drop (lineB x).length).take n) (by simp; omega)
          rw [o1, bnd3_some]
          cases f with
          | false => rw [o3 rfl, nfl, ctr]
          | true =>
            rw [o2 rfl, ntr, cfl, grd_To (by omega), lt_eq, from_nat, grd_Cat (by simp; omega), lt_eq, grd_Cat (by simp; omega), lt_eq]
            exact ih _ _ _ (by simp; omega) (by simp; omega) (by simp; omega) (by simp; omega) (by simp; omega)
    · rw [bF (by omega), if_neg (fun h => h8 h.1)]
end Go.Pt
namespace Go.Pt
open Go.Pv Go.Av
open Go.Hd (fand tand nfl ntr cfl ctr bq of_all8 Bs contains_cons allOf index_cons cutOf wordsOf lineOf tailOf lnStep okX lnX)
def no95 (s : Bs) : Prop := ∀ c ∈ s, c ≠ 95
theorem no95_app {a b : Bs} (h : no95 a) (g : no95 b) : no95 (a ++ b) := fun c hc => (List.mem_append.1 hc).elim (h c) (g c)
theorem sf_no95 : ∀ (s : Bs), no95 s → s.getLast? ≠ some 61 → sf s = true
  | [], _, _ => rfl
  | [c], _, hl => by
    have : c ≠ 61 := fun e => hl (by rw [e]; rfl)
    simp [sf, okn, this]
  | c :: d :: r, h, hl => by
    have hd : d ≠ 95 := h d (by simp)
    rw [sf, sf_no95 (d :: r) (fun x hx => h x (List.mem_cons_of_mem _ hx)) (by rw [List.getLast?_cons_cons] at hl; exact hl), Bool.and_true]
    show (decide (c ≠ 61) || decide (d ≠ 95)) = true
    rw [decide_eq_true hd, Bool.or_true]
theorem ch_95 (n : Nat) (h : n < 64) : Go.Hd.ch n ≠ 95 := by
  have : ∀ k : Fin 64, Go.Hd.ch k.val ≠ 95 := by decide +kernel
  exact this ⟨n, h⟩
theorem enc_95 : ∀ b : Bs, no95 (Go.Hd.enc b)
  | a :: b :: c :: r => by
    have ih := enc_95 r
    have hq := Go.Hd.q3_lt a b c
    intro x hx
    rw [Go.Hd.enc] at hx
    rcases List.mem_append.1 hx with hx | hx
    · simp only [Go.Hd.four, List.mem_cons, List.not_mem_nil, or_false] at hx
      rcases hx with rfl | rfl | rfl | rfl <;> exact ch_95 _ (by omega)
    · exact ih x hx
  | [a, b] => by
    have hq := Go.Hd.q3_lt a b 0
    intro x hx
    simp only [Go.Hd.enc, Go.Hd.four, List.take, List.mem_append, List.mem_cons, List.not_mem_nil, or_false] at hx
    rcases hx with (rfl | rfl | rfl) | rfl
    · exact ch_95 _ (by omega)
    · exact ch_95 _ (by omega)
    · exact ch_95 _ (by omega)
    · decide
  | [a] => by
    have hq := Go.Hd.q3_lt a 0 0
    intro x hx
    simp only [Go.Hd.enc, Go.Hd.four, List.take, List.mem_append, List.mem_cons, List.not_mem_nil, or_false] at hx
    rcases hx with (rfl | rfl) | rfl | rfl
    · exact ch_95 _ (by omega)
    · exact ch_95 _ (by omega)
    · decide
    · decide
  | [] => fun x hx => by cases hx
theorem word_95 (p : Bs) : no95 (Go.Hd.word p) := by
  unfold Go.Hd.word
  exact no95_app (no95_app (by unfold no95; decide) (enc_95 p)) (by unfold no95; decide)
theorem sp_95 : ∀ s : Bs, no95 s → ∀ w ∈ Go.Hd.sp 32 s, no95 w
  | [], _, w, hw => by simp [Go.Hd.sp] at hw; subst hw; exact fun c hc => by cases hc
  | c :: r, h, w, hw => by
    have ih := sp_95 r (fun x hx => h x (by simp [hx]))
    by_cases hc : c = 32
    · subst hc
      rw [Go.Hd.sp_cons_eq] at hw
      rcases List.mem_cons.1 hw with rfl | hw
      · exact fun c hc => by cases hc
      · exact ih w hw
    · rw [Go.Hd.sp_cons_ne hc] at hw
      rcases Go.Hd.mem_prep hw with ⟨p, ps, e, rfl⟩ | h2 | ⟨e, _⟩
      · exact no95_app (fun x hx => by have : x = c := by simpa using hx
                                       rw [this]; exact h c (by simp)) (ih p (by rw [e]; simp))
      · exact ih w (List.mem_of_mem_drop h2)
      · exact absurd e (Go.Hd.sp_ne 32 r)
theorem words_95 (s : Bs) (h : no95 s) : ∀ w ∈ wordsOf s, no95 w := by
  unfold wordsOf
  cases Go.Hd.plainB s with
  | true => rw [ctr]; exact sp_95 s h
  | false =>
    rw [cfl]
    intro w hw
    obtain ⟨p, rfl⟩ := Go.Hd.pieces_nosp s s.length (by omega) w hw
    exact word_95 p
theorem tail_95 : ∀ (ws : List Bs) (n : Int), (∀ w ∈ ws, no95 w) → no95 (tailOf n ws)
  | [], n, _ => by unfold tailOf no95; decide
  | w :: ws, n, h => by
    rw [tailOf]
    refine no95_app ?_ (tail_95 ws _ (fun x hx => h x (by simp [hx])))
    have hw := h w (by simp)
    unfold lnStep
    split
    · show no95 (([] ++ [13, 10] ++ [32] : Bs) ++ w)
      exact no95_app (by unfold no95; decide) hw
    · show no95 (([] ++ [32] : Bs) ++ w)
      exact no95_app (by unfold no95; decide) hw
theorem line_95 (a b : Bs) (ha : no95 a) (hb : no95 b) : no95 (lineOf a b) := by
  rw [Go.Hd.lineOf_eq]
  refine no95_app ha (fun c hc => ?_)
  rcases List.mem_cons.1 hc with rfl | hc
  · decide
  · exact tail_95 _ _ (words_95 b hb) c hc
theorem kind_95 {k : Bs} (h : kindB k = true) : no95 k := by
  unfold kindB at h
  simp only [Bool.and_eq_true] at h
  intro c hc e
  have := List.all_eq_true.1 h.1.1 c hc
  rw [e] at this
  revert this; decide +kernel
theorem ct_95 : no95 ct := by unfold no95; decide
theorem k2_95 : no95 parta_k2 := by
  have : ∀ c ∈ parta_k2, c ≠ 95 := by decide +kernel
  exact this
theorem qp_95 : no95 qpn := by unfold no95; decide
theorem hs2_ok {k : Bs} (h : kindB k = true) : (hs2 k).all okX = true := by
  have hk := kindB_len h
  have n1 : Go.Hd.nameB ct = true := by decide +kernel
  have n2 : okX (parta_k2, qpn) = true := by decide +kernel
  unfold hs2
  rw [List.all_cons, List.all_cons, List.all_nil, n2]
  have : okX (ct, k) = true := by
    unfold okX Go.Hd.okLine
    rw [n1, tand]; exact decide_eq_true (by dsimp only; omega)
  rw [this]; rfl
theorem hdr_eq {k : Bs} (h : kindB k = true) : hdr k = ((hs2 k).map lnX).flatten ++ [13, 10] := by
  unfold hdr allOf
  have e : decide ((hs2 k).length ≤ 50) = true := rfl
  rw [e, hs2_ok h]; rfl
theorem hdr_95 {k : Bs} (h : kindB k = true) : no95 (hdr k) := by
  rw [hdr_eq h]
  have e : ((hs2 k).map lnX).flatten = lineOf ct k ++ (lineOf parta_k2 qpn ++ []) := rfl
  rw [e]
  refine no95_app (no95_app (line_95 _ _ ct_95 (kind_95 h)) (no95_app (line_95 _ _ k2_95 qp_95) (fun c hc => by cases hc))) (by unfold no95; decide)
theorem hdr_sf {k : Bs} (h : kindB k = true) : sf (hdr k) = true := by
  refine sf_no95 _ (hdr_95 h) ?_
  rw [hdr_eq h, List.getLast?_append]
  simp
theorem idx_find (x R : Bs) (hR : Go.Lib.hasPrefix R ([45, 45, 61, 95] ++ x) = true) : ∀ (A : Bs), sf A = true → Go.Lib.index (A ++ 13 :: 10 :: R) ([45, 45, 61, 95] ++ x) = ((A.length + 2 : Nat) : Int)
  | [], _ => by
    show Go.Lib.index (13 :: 10 :: R) _ = _
    have n1 : ¬ ([45, 45, 61, 95] ++ x : Bs).isPrefixOf (13 :: 10 :: R) = true := by simp [List.isPrefixOf]
    have n2 : ¬ ([45, 45, 61, 95] ++ x : Bs).isPrefixOf (10 :: R) = true := by simp [List.isPrefixOf]
    have h0 : Go.Lib.index R ([45, 45, 61, 95] ++ x) = 0 := by
      cases R with
      | nil => simp [Go.Lib.hasPrefix, List.isPrefixOf] at hR
      | cons c r => rw [index_cons, if_pos (show ([45, 45, 61, 95] ++ x : Bs).isPrefixOf (c :: r) = true from hR)]
    rw [index_cons, if_neg n1, index_cons, if_neg n2, h0]; rfl
  | c :: A, h => by
    rw [sf, Bool.and_eq_true] at h
    have ih := idx_find x R hR A h.2
    show Go.Lib.index (c :: (A ++ 13 :: 10 :: R)) _ = _
    have n1 : ¬ ([45, 45, 61, 95] ++ x : Bs).isPrefixOf (c :: (A ++ 13 :: 10 :: R)) = true := by
      intro hp
      match A, h with
      | [], h => simp [List.isPrefixOf] at hp
      | [a], h => simp [List.isPrefixOf] at hp
      | [a, b], h => simp [List.isPrefixOf] at hp
      | a :: b :: d :: r, h =>
        have h2 := h.2
        rw [sf, Bool.and_eq_true] at h2
        have h3 := h2.2
        rw [sf, Bool.and_eq_true] at h3
        have h4 : (decide (b ≠ 61) || decide (d ≠ 95)) = true := h3.1
        simp only [List.cons_append, List.isPrefixOf, Bool.and_eq_true, beq_iff_eq] at hp
        rw [← hp.2.2.1, ← hp.2.2.2.1] at h4
        revert h4; decide
    rw [index_cons, if_neg n1, ih, if_neg (by omega), List.length_cons]; omega
theorem one_back {k : Bs} (b : Bs) (h : kindB k = true) : oneOf (hdr k ++ Qp.enc 0 b ++ [13, 10]) = some (k, b) := by
  have hc := Go.Hd.cut_all (hs2 k) (Qp.enc 0 b ++ [13, 10]) (by simp [hs2]) (hs2_ok h)
  have e : hdr k ++ Qp.enc 0 b ++ [13, 10] = ((hs2 k).map lnX).flatten ++ [13, 10] ++ (Qp.enc 0 b ++ [13, 10]) := by rw [hdr_eq h]; simp
  unfold oneOf
  rw [e, hc]
  dsimp only
  rw [if_pos ⟨⟨rfl, rfl⟩, by simp⟩]
  have e2 : (Qp.enc 0 b ++ [13, 10]).take ((Qp.enc 0 b ++ [13, 10]).length - 2) = Qp.enc 0 b := by rw [List.length_append]; exact List.take_left' (by simp)
  rw [e2, Qp.back]; rfl
theorem body_pre (y : Bs) (hy : y = [45, 45] ++ bd 0) : ∀ ks cs : List Bs, Go.Lib.hasPrefix (body (bd 0) ks cs ++ endl (bd 0)) y = true := by
  intro ks cs
  have key : ∀ r : Bs, Go.Lib.hasPrefix (y ++ r) y = true := fun r => List.isPrefixOf_iff_prefix.2 (List.prefix_append _ _)
  cases ks with
  | nil =>
    show Go.Lib.hasPrefix ([] ++ endl (bd 0)) y = true
    have e : [] ++ endl (bd 0) = y ++ ([45, 45] ++ [13, 10]) := by unfold endl; rw [hy]; simp
    rw [e]; exact key _
  | cons k ks =>
    cases cs with
    | nil =>
      show Go.Lib.hasPrefix ([] ++ endl (bd 0)) y = true
      have e : [] ++ endl (bd 0) = y ++ ([45, 45] ++ [13, 10]) := by unfold endl; rw [hy]; simp
      rw [e]; exact key _
    | cons c cs =>
      have e : body (bd 0) (k :: ks) (c :: cs) ++ endl (bd 0) = y ++ ([13, 10] ++ hdr k ++ c ++ [13, 10] ++ body (bd 0) ks cs ++ endl (bd 0)) := by
        rw [body]; unfold one1; rw [hy]; simp
      rw [e]; exact key _
theorem pr_back : ∀ (m : Nat) (ks l K L : List Bs), ks.length = l.length → ks.all kindB = true → L.length + l.length ≤ 8 → (body (bd 0) ks (l.map (Qp.enc 0)) ++ endl (bd 0)).length < m →
    pr (bd 0) m K L (body (bd 0) ks (l.map (Qp.enc 0)) ++ endl (bd 0)) = some (K ++ ks, L ++ l, endl (bd 0)) := by
  intro m
  induction m with
  | zero => intro ks l K L h1 h2 h3 h; omega
  | succ m ih =>
    intro ks l K L heq hk h8 hm
    cases ks with
    | nil =>
      have : l = [] := List.eq_nil_of_length_eq_zero (by simpa using heq.symm)
      subst this
      show pr (bd 0) (m + 1) K L ([] ++ endl (bd 0)) = _
      have hn : Go.Lib.hasPrefix ([] ++ endl (bd 0)) (lineB (bd 0)) = false := by
        rw [bd0]; decide
      unfold pr
      rw [hn, if_neg (fun h => by cases h.2)]; simp
    | cons k ks =>
      cases l with
      | nil => simp at heq
      | cons b l =>
        rw [List.all_cons, Bool.and_eq_true] at hk
        have hb := body_pre ([45, 45] ++ bd 0) rfl ks (l.map (Qp.enc 0))
        have e : body (bd 0) (k :: ks) ((b :: l).map (Qp.enc 0)) ++ endl (bd 0) = lineB (bd 0) ++ ((hdr k ++ Qp.enc 0 b) ++ 13 :: 10 :: (body (bd 0) ks (l.map (Qp.enc 0)) ++ endl (bd 0))) := by
          rw [List.map_cons, body]; unfold one1 lineB; simp
        rw [e] at hm ⊢
        have hp : Go.Lib.hasPrefix (lineB (bd 0) ++ ((hdr k ++ Qp.enc 0 b) ++ 13 :: 10 :: (body (bd 0) ks (l.map (Qp.enc 0)) ++ endl (bd 0)))) (lineB (bd 0)) = true := List.isPrefixOf_iff_prefix.2 (List.prefix_append _ _)
        have hd : (lineB (bd 0) ++ ((hdr k ++ Qp.enc 0 b) ++ 13 :: 10 :: (body (bd 0) ks (l.map (Qp.enc 0)) ++ endl (bd 0)))).drop (lineB (bd 0)).length = (hdr k ++ Qp.enc 0 b) ++ 13 :: 10 :: (body (bd 0) ks (l.map (Qp.enc 0)) ++ endl (bd 0)) := List.drop_left' rfl
        have hdash : dashB (bd 0) = [45, 45, 61, 95] ++ [48] := by unfold dashB; rw [bd0]; rfl
        have hb2 : Go.Lib.hasPrefix (body (bd 0) ks (l.map (Qp.enc 0)) ++ endl (bd 0)) ([45, 45, 61, 95] ++ [48]) = true := by rw [bd0] at hb ⊢; exact hb
        have hi := idx_find [48] _ hb2 (hdr k ++ Qp.enc 0 b) (sf_app _ _ (hdr_sf hk.1) (sf_enc b 0))
        have ht : ((hdr k ++ Qp.enc 0 b) ++ 13 :: 10 :: (body (bd 0) ks (l.map (Qp.enc 0)) ++ endl (bd 0))).take ((hdr k ++ Qp.enc 0 b).length + 2) = hdr k ++ Qp.enc 0 b ++ [13, 10] := by
          rw [show (hdr k ++ Qp.enc 0 b) ++ 13 :: 10 :: (body (bd 0) ks (l.map (Qp.enc 0)) ++ endl (bd 0)) = (hdr k ++ Qp.enc 0 b ++ [13, 10]) ++ (body (bd 0) ks (l.map (Qp.enc 0)) ++ endl (bd 0)) by simp]
          exact List.take_left' (by simp only [List.length_append, List.length_cons, List.length_nil])
        have hdr2 : ((hdr k ++ Qp.enc 0 b) ++ 13 :: 10 :: (body (bd 0) ks (l.map (Qp.enc 0)) ++ endl (bd 0))).drop ((hdr k ++ Qp.enc 0 b).length + 2) = body (bd 0) ks (l.map (Qp.enc 0)) ++ endl (bd 0) := by
          rw [show (hdr k ++ Qp.enc 0 b) ++ 13 :: 10 :: (body (bd 0) ks (l.map (Qp.enc 0)) ++ endl (bd 0)) = (hdr k ++ Qp.enc 0 b ++ [13, 10]) ++ (body (bd 0) ks (l.map (Qp.enc 0)) ++ endl (bd 0)) by simp]
          exact List.drop_left' (by simp only [List.length_append, List.length_cons, List.length_nil])
        unfold pr
        rw [if_pos ⟨by simp at h8; omega, hp⟩, hd, hdash, hi, if_neg (by omega), Int.toNat_natCast, ht, one_back b hk.1, hdr2]
        dsimp only
        rw [List.length_append, List.length_append, List.length_cons, List.length_cons] at hm
        rw [ih ks l _ _ (by simpa using heq) hk.2 (by simp at h8 ⊢; omega) (by omega)]
        simp
end Go.Pt
namespace Go.Pt
open Go.Pv Go.Av
open Go.Hd (fand tand nfl ntr cfl ctr Bs)
theorem few_in (l : List Bs) (hl : l.length ≤ 10) : ∀ (n i : Nat), l.length - i < n → i ≤ l.length → ∃ b, law15_Few_L1 l n (i : Int) = some b ∧ (b = true → ∀ x ∈ l.drop i, x.length ≤ 300) := by
  intro n
  induction n with
  | zero => intro i h; omega
  | succ n ih =>
    intro i hn hi
    show ∃ b, law15_Few_B1 l (law15_Few_L1 l n) (i : Int) = some b ∧ _
    unfold law15_Few_B1 law15_Few_j1
    by_cases h : i < l.length
    · obtain ⟨b, h1, h2⟩ := ih (i + 1) (by omega) (by omega)
      rw [bT (by omega), grd_At (by omega), lt_eq, at_nat h, List.drop_eq_getElem_cons h]
      by_cases hc : 300 < (l[i].length : Int)
      · rw [bT hc]; exact ⟨false, rfl, fun h => by cases h⟩
      · rw [bF hc]
        refine ⟨b, by rw [grd_I (by omega), cast_succ, h1], fun hb x hx => ?_⟩
        rcases List.mem_cons.1 hx with rfl | hx
        · omega
        · exact h2 hb x hx
    · rw [bF (by omega), List.drop_eq_nil_of_le (by omega)]
      exact ⟨true, rfl, fun _ x hx => by cases hx⟩
theorem few_out (F : Nat) (hF : 100 < F) (k l : List Bs) (hk : k.length ≤ 10) (hl : l.length ≤ 10) : ∀ (n i : Nat), k.length - i < n → i ≤ k.length → ∃ b, law15_Few_L2 F k l n (i : Int) = some b ∧ (b = true → (∀ x ∈ k.drop i, x.length ≤ 100) ∧ ∀ x ∈ l, x.length ≤ 300) := by
  intro n
  induction n with
  | zero => intro i h; omega
  | succ n ih =>
    intro i hn hi
    show ∃ b, law15_Few_B2 F k l (law15_Few_L2 F k l n) (i : Int) = some b ∧ _
    unfold law15_Few_B2 law15_Few_j2
    by_cases h : i < k.length
    · obtain ⟨b, h1, h2⟩ := ih (i + 1) (by omega) (by omega)
      rw [bT (by omega), grd_At (by omega), lt_eq, at_nat h, List.drop_eq_getElem_cons h]
      by_cases hc : 100 < (k[i].length : Int)
      · rw [bT hc]; exact ⟨false, rfl, fun h => by cases h⟩
      · rw [bF hc]
        refine ⟨b, by rw [grd_I (by omega), cast_succ, h1], fun hb => ⟨fun x hx => ?_, (h2 hb).2⟩⟩
        rcases List.mem_cons.1 hx with rfl | hx
        · omega
        · exact (h2 hb).1 x hx
    · rw [bF (by omega), List.drop_eq_nil_of_le (by omega)]
      obtain ⟨b, h1, h2⟩ := few_in l hl F 0 (by omega) (by omega)
      rw [List.drop_zero] at h2
      exact ⟨b, h1, fun hb => ⟨fun x hx => (by cases hx), h2 hb⟩⟩
theorem Few_eq (F : Nat) (hF : 100 < F) (k l : List Bs) : ∃ b, law15_Few F k l = some b ∧ (b = true → (k.length ≤ 10 ∧ l.length ≤ 10) ∧ (∀ x ∈ k, x.length ≤ 100) ∧ ∀ x ∈ l, x.length ≤ 300) := by
  unfold law15_Few
  by_cases h : k.length ≤ 10 ∧ l.length ≤ 10
  · obtain ⟨b, h1, h2⟩ := few_out F hF k l h.1 h.2 F 0 (by omega) (by omega)
    rw [decide_eq_false (show ¬ 10 < (k.length : Int) by omega), decide_eq_false (show ¬ 10 < (l.length : Int) by omega), fo, cfl]
    rw [List.drop_zero] at h2
    exact ⟨b, h1, fun hb => ⟨h, h2 hb⟩⟩
  · have : ((decide (10 < (k.length : Int))) || (decide (10 < (l.length : Int)))) = true := by
      simp only [Bool.or_eq_true, decide_eq_true_eq]; omega
    rw [this, ctr]
    exact ⟨false, rfl, fun h => by cases h⟩
end Go.Pt
namespace Go.Pt
open Go.Pv Go.Av
open Go.Hd (fand tand nfl ntr cfl ctr bq of_all8 Bs contains_cons allOf)
theorem awake_eq2 : law15_awake 2000000 = some true := by decide +kernel
end Go.Pt
namespace Go.Pt
open Go.Pv Go.Av
open Go.Hd (fand tand nfl ntr cfl ctr bq Bs)
theorem pr_len (x : Bs) : ∀ (m : Nat) (ks ls : List Bs) (left : Bs) {k l : List Bs} {t : Bs}, left.length ≤ 100000 → (∀ a ∈ ks, a.length ≤ 100000) → (∀ a ∈ ls, a.length ≤ 100000) → pr x m ks ls left = some (k, l, t) → (∀ a ∈ k, a.length ≤ 100000) ∧ (∀ a ∈ l, a.length ≤ 100000) := by
  intro m
  induction m with
  | zero => intro ks ls left k l t _ _ _ h; cases h
  | succ m ih =>
    intro ks ls left k l t hl hk hls h
    unfold pr at h
    split at h
    · split at h
      · cases h
      · cases ho : oneOf ((left.drop (lineB x).length).take (Go.Lib.index (left.drop (lineB x).length) (dashB x)).toNat) with
        | none => rw [ho] at h; cases h
        | some z =>
          obtain ⟨k1, y⟩ := z
          rw [ho] at h
          have hz := one_len ho
          rw [List.length_take, List.length_drop] at hz
          refine ih _ _ _ (by simp; omega) (fun a ha => ?_) (fun a ha => ?_) h
          · rcases List.mem_append.1 ha with ha | ha
            · exact hk a ha
            · have : a = k1 := by simpa using ha
              rw [this]; omega
          · rcases List.mem_append.1 ha with ha | ha
            · exact hls a ha
            · have : a = y := by simpa using ha
              rw [this]; omega
    · cases h; exact ⟨hk, hls⟩
noncomputable def splitOf (s x : Bs) : List Bs × List Bs × Int := match pr x (s.length + 1) [] [] s with
  | none => ([], [], 2)
  | some (k, l, _) => if ((joinOf k l).2.2 = 0 ∧ (joinOf k l).2.1 = x) ∧ (joinOf k l).1 = s then (k, l, 0) else ([], [], 2)
theorem pr_more (x : Bs) : ∀ (m n : Nat) (ks ls : List Bs) (left : Bs), left.length < m → left.length < n → pr x m ks ls left = pr x n ks ls left := by
  intro m
  induction m with
  | zero => intro n ks ls left h; omega
  | succ m ih =>
    intro n ks ls left h1 h2
    obtain ⟨n, rfl⟩ : ∃ j, n = j + 1 := ⟨n - 1, by omega⟩
    unfold pr
    have hll : (lineB x).length = x.length + 4 := by unfold lineB; simp
    by_cases hc : ls.length ≤ 8 ∧ Go.Lib.hasPrefix left (lineB x) = true
    · rw [if_pos hc, if_pos hc]
      have hle : (lineB x).length ≤ left.length := (List.isPrefixOf_iff_prefix.1 hc.2).length_le
      by_cases hn : Go.Lib.index (left.drop (lineB x).length) (dashB x) < 0
      · rw [if_pos hn, if_pos hn]
      · rw [if_neg hn, if_neg hn]
        cases oneOf ((left.drop (lineB x).length).take (Go.Lib.index (left.drop (lineB x).length) (dashB x)).toNat) with
        | none => rfl
        | some z =>
          obtain ⟨k1, y⟩ := z
          exact ih n _ _ _ (by simp; omega) (by simp; omega)
    · rw [if_neg hc, if_neg hc]
theorem Split_eq (F : Nat) (hF : 1000000 < F) (s x : Bs) (hs : s.length ≤ 100000) (hx : x.length ≤ 1000) : part_Split F s x = some (splitOf s x) := by
  have h := split_loop F hF s x hx F [] [] s (by omega) hs (by simp) (by simp) rfl
  unfold part_Split splitOf
  refine Eq.trans h ?_
  rw [pr_more x F (s.length + 1) [] [] s (by omega) (by omega)]
  cases hp : pr x (s.length + 1) [] [] s with
  | none => rfl
  | some z =>
    obtain ⟨k, l, t⟩ := z
    have ⟨hk, hl⟩ := pr_len x _ _ _ _ hs (by simp) (by simp) hp
    dsimp only
    unfold part_Split_j1
    rw [Join_eq F hF k l hk hl, show joinOf k l = ((joinOf k l).1, (joinOf k l).2.1, (joinOf k l).2.2) from rfl, bnd3_some, lt_eq]
    by_cases hc : ((joinOf k l).2.2 = 0 ∧ (joinOf k l).2.1 = x) ∧ (joinOf k l).1 = s
    · rw [if_pos hc, decide_eq_true hc.1.1, decide_eq_true hc.1.2, decide_eq_true hc.2]; rfl
    · rw [if_neg hc]
      have : (((!decide ((joinOf k l).2.2 = 0)) || (!decide ((joinOf k l).2.1 = x))) || (!decide ((joinOf k l).1 = s))) = true := by
        rw [← Bool.not_and, ← Bool.not_and, ← Bool.decide_and, ← Bool.decide_and, decide_eq_false hc]; rfl
      rw [this, ctr]
theorem joinOf_ok {k l : List Bs} (h : (joinOf k l).2.2 = 0) : okJ k l = true ∧ joinOf k l = (joinT k l, bd 0, 0) := by
  unfold joinOf at h ⊢
  cases ho : okJ k l with
  | true => exact ⟨rfl, by rw [ctr]⟩
  | false => rw [ho, cfl] at h; cases h
theorem okJ_s {k l : List Bs} (h : okJ k l = true) : k.length = l.length ∧ l.length ≤ 8 ∧ k.all kindB = true := by
  unfold okJ at h
  simp only [Bool.and_eq_true, decide_eq_true_eq] at h
  exact ⟨h.1.1, h.1.2.2, h.2⟩
theorem pr_join {k l : List Bs} (h : okJ k l = true) : pr (bd 0) ((joinT k l).length + 1) [] [] (joinT k l) = some (k, l, endl (bd 0)) := by
  have ⟨h1, h2, h3⟩ := okJ_s h
  have := pr_back ((joinT k l).length + 1) k l [] [] h1 h3 (by simpa using h2) (Nat.lt_succ_self _)
  rw [List.nil_append, List.nil_append] at this
  exact this
theorem same_in (l : List Bs) (hl : l.length ≤ 1000000) : ∀ (n i : Nat), l.length - i < n → i ≤ l.length → law15_same_L1 l l n (i : Int) = some true := by
  intro n
  induction n with
  | zero => intro i h; omega
  | succ n ih =>
    intro i hn hi
    show law15_same_B1 l l (law15_same_L1 l l n) (i : Int) = _
    unfold law15_same_B1 law15_same_j1
    by_cases h : i < l.length
    · rw [bT (by omega), grd_At (by omega), lt_eq, at_nat h, grd_At (by omega), lt_eq, decide_eq_true rfl, ntr, cfl, grd_I (by omega), cast_succ, ih (i + 1) (by omega) (by omega)]
    · rw [bF (by omega)]
theorem same_out (F : Nat) (k l : List Bs) (hk : k.length ≤ 1000000) (hl : l.length ≤ 1000000) (hF : l.length < F) : ∀ (n i : Nat), k.length - i < n → i ≤ k.length → law15_same_L2 F k l k l n (i : Int) = some true := by
  intro n
  induction n with
  | zero => intro i h; omega
  | succ n ih =>
    intro i hn hi
    show law15_same_B2 F k l k l (law15_same_L2 F k l k l n) (i : Int) = _
    unfold law15_same_B2 law15_same_j2
    by_cases h : i < k.length
    · rw [bT (by omega), grd_At (by omega), lt_eq, at_nat h, grd_At (by omega), lt_eq, decide_eq_true rfl, ntr, cfl, grd_I (by omega), cast_succ, ih (i + 1) (by omega) (by omega)]
    · rw [bF (by omega)]
      exact same_in l hl F 0 (by omega) (by omega)
theorem same_eq (F : Nat) (k l : List Bs) (hk : k.length ≤ 1000000) (hl : l.length ≤ 1000000) (hF : l.length < F) (hF2 : k.length < F) : law15_same F k l k l = some true := by
  unfold law15_same
  rw [decide_eq_true rfl, decide_eq_true rfl, ntr, fo, cfl]
  exact same_out F k l hk hl hF F 0 (by omega) (by omega)
theorem body_len (ks l : List Bs) (hk : ∀ k ∈ ks, k.length ≤ 600) (hl : ∀ b ∈ l, b.length ≤ 300) : (body (bd 0) ks (l.map (Qp.enc 0))).length ≤ 6000 * l.length := by
  induction l generalizing ks with
  | nil => cases ks <;> simp [body]
  | cons b l ih =>
    cases ks with
    | nil => simp [body]
    | cons k ks =>
      have i1 := ih ks (fun x hx => hk x (by simp [hx])) (fun x hx => hl x (by simp [hx]))
      have h1 := hdr_len k (hk k (by simp))
      have h2 := Qp.enc_length b 0
      have h3 := hl b (by simp)
      rw [List.map_cons, body]
      unfold one1
      have hb : (bd 0).length = 3 := by rw [bd0]; rfl
      simp only [List.length_append, List.length_cons, List.length_nil]
      omega
end Go.Pt
namespace Go.Pt
open Go.Pv Go.Av
open Go.Hd (fand tand nfl ntr cfl ctr bq Bs)
theorem PartBack_F (F : Nat) (hF : 1000000 < F) (hw : law15_awake F = some true) (ks l : List Bs) (x : Bs) : law15_PartBack F ks l x = some true := by
  unfold law15_PartBack
  obtain ⟨f, h1, h2⟩ := Few_eq F (by omega) ks l
  rw [hw, bnd_some, h1, bnd_some]
  cases f with
  | false => rfl
  | true =>
    obtain ⟨⟨hkl, hl⟩, hk, hb⟩ := h2 rfl
    by_cases hx : 100 < (x.length : Int)
    · rw [decide_eq_true hx]; rfl
    · have hb1 : ∀ b ∈ l, b.length ≤ 100000 := fun b h => by have := hb b h; omega
      have hk1 : ∀ b ∈ ks, b.length ≤ 100000 := fun b h => by have := hk b h; omega
      rw [decide_eq_false hx, ntr, fo, fo, cfl, Join_eq F hF ks l hk1 hb1]
      cases ho : okJ ks l with
      | false =>
        have e : joinOf ks l = ([], [], 1) := by unfold joinOf; rw [ho, cfl]
        rw [e, bnd3_some, decide_eq_false (show ¬ (1 : Int) = 0 by omega), nfl, ctr]; rfl
      | true =>
        have e : joinOf ks l = (joinT ks l, bd 0, 0) := by unfold joinOf; rw [ho, ctr]
        have hlen := body_len ks l (fun k h => by have := hk k h; omega) hb
        have hb0 : (bd 0).length = 3 := by rw [bd0]; rfl
        have htl : (joinT ks l).length ≤ 100000 := by
          unfold joinT endl
          simp only [List.length_append, List.length_cons, List.length_nil]
          omega
        have hs1 : splitOf (joinT ks l) (bd 0) = (ks, l, 0) := by
          unfold splitOf
          rw [pr_join ho]
          dsimp only
          rw [e, if_pos ⟨⟨rfl, rfl⟩, rfl⟩]
        rw [e, bnd3_some, decide_eq_true rfl, ntr, cfl, Split_eq F hF _ _ htl (by omega), hs1, bnd3_some, same_eq F ks l (by omega) (by omega) (by omega) (by omega), bnd_some, Split_eq F hF _ x htl (by omega), show splitOf (joinT ks l) x = ((splitOf (joinT ks l) x).1, (splitOf (joinT ks l) x).2.1, (splitOf (joinT ks l) x).2.2) from rfl, bnd3_some, decide_eq_true rfl, tand, tand]
        by_cases hxx : x = bd 0
        · rw [decide_eq_true hxx]; rfl
        · have : (splitOf (joinT ks l) x).2.2 = 2 := by
            unfold splitOf
            cases pr x ((joinT ks l).length + 1) [] [] (joinT ks l) with
            | none => rfl
            | some z =>
              obtain ⟨k, m, t⟩ := z
              dsimp only
              rw [if_neg (fun hc => hxx (by have := (joinOf_ok hc.1.1).2; rw [← hc.1.2, this]))]
          rw [this, decide_eq_true rfl, Bool.or_true]
theorem PartBack_t (ks l : List Bs) (x : Bs) : law15_PartBack 2000000 ks l x = some true := PartBack_F 2000000 (by omega) awake_eq2 ks l x
end Go.Pt
namespace Go.Av
open Go.RowKit Go.ChangeShapes Go.WideShapes
section
variable {H : Type} {enc : TypeId × Value → H} {P : Program} {w : World}
def Opens {H : Type} (enc : TypeId × Value → H) (P : Program) (w : World) (t : TypeId) {α : Type} (E : α → List AV) (p : α → Prop) : Prop :=
  ∀ fuel cs d, DataW.trod enc P w 0 (fun _ => true) true fuel t cs = some d → ∃ x, p x ∧ RelL (Info.start w) w (E x) cs
theorem opens_bytes {t e : TypeId} (ht : P.underlying t = some (.slice e)) (he : P.underlying e = some (.int .u8)) (hc : P.cellsOf e = 1) :
    Opens enc P w t (fun l : List UInt8 => [slE Enc.byte l none]) (fun l => l.length ≤ maxLen) := by
  intro fuel cs d h
  rcases open_ints ht he hc h with ⟨rfl, _⟩ | ⟨x, len, cap, zs, rfl, _, hl, hm, hz, _, hcell, hw⟩
  · exact ⟨[], by simp, .cons (.slz _ _ _) .nil⟩
  · simp only [if_true] at hz
    obtain ⟨l, hl', hm', r⟩ := rel_bytes (w := w) (a := some x) (len := len) (cap := cap) (zs := zs) (.inr ⟨x, rfl, hl, hm, hz, hcell, hw⟩)
    exact ⟨l, by omega, .cons r .nil⟩
theorem opens_strs {t e : TypeId} (ht : P.underlying t = some (.slice e)) (he : P.underlying e = some .string) (hc : P.cellsOf e = 1) :
    Opens enc P w t (fun l : List (List UInt8) => [slE Enc.str l none]) (fun l => l.length ≤ maxLen ∧ ∀ s ∈ l, s.length ≤ maxLen) := by
  intro fuel cs d h
  rcases open_strings ht he hc h with ⟨rfl, _⟩ | ⟨x, len, cap, zs, rfl, _, hl, hm, hz, _, hcell, hw⟩
  · exact ⟨[], ⟨by simp, by simp⟩, .cons (.slz _ _ _) .nil⟩
  · simp only [if_true] at hz
    have hll : ((zs.take len).map fun s => s.data.toList).length = len := by simp; omega
    refine ⟨(zs.take len).map fun s => s.data.toList, ⟨by rw [hll]; omega, fun n hn => ?_⟩, .cons ?_ .nil⟩
    · obtain ⟨s, hs, rfl⟩ := List.mem_map.1 hn
      simpa using hw s (List.mem_of_mem_take hs)
    have := rel_row (w := w) Enc.str (fun s => .string ⟨s.toArray⟩) (fun _ => rfl) ((zs.take len).map fun s => s.data.toList) x cap (by omega) (fun i hi => by
      rw [hll] at hi
      rw [hcell i (by omega)]
      simp [List.getD, show i < zs.length by omega])
    rw [hll] at this
    exact this
theorem add_add (a : Addr) (m r : Nat) : (a.add m).add r = a.add (m + r) := by
  unfold Addr.add
  by_cases hm : m = 0
  · subst hm; simp
  · by_cases hr : r = 0
    · subst hr; simp
    · simp [hm, hr, Nat.add_assoc]
theorem opens_slice {t e : TypeId} {α β : Type} {E : α → List AV} {p : α → Prop} (G : Enc β) (g : α → β) (ht : P.underlying t = some (.slice e)) (hc : P.cellsOf e = G.k)
    (h : Opens enc P w e E p) (hg : ∀ x, E x = G.f (g x)) : Opens enc P w t (fun l : List β => [slE G l none]) (fun l => l.length ≤ maxLen ∧ ∀ y ∈ l, ∃ x, g x = y ∧ p x) := by
  intro fuel cs d hd
  rcases DataW.trod_slice ht hd with ⟨rfl, _⟩ | ⟨a, len, cap, elems, rest, n, _, rfl, _, _, hl, hm, hlen, hel, _, _⟩
  · exact ⟨[], ⟨by simp, by simp⟩, .cons (.slz _ _ _) .nil⟩
  · have go : ∀ r i, i + r = len → ∃ (l : List β) (vs : List Value), (l.length = r ∧ ∀ y ∈ l, ∃ x, g x = y ∧ p x) ∧ RelL (Info.start w) w (G.fl l) vs ∧ ∀ j, j < vs.length → w.cell? (a.add (i * G.k + j)) = vs[j]? := by
      intro r
      induction r with
      | zero => intro i hi; exact ⟨[], [], ⟨rfl, by simp⟩, .nil, fun j hj => by simp at hj⟩
      | succ r ih =>
        intro i hi
        have hb := hel i (by omega)
        rw [List.getElem?_eq_getElem (by omega), Option.bind_eq_some_iff] at hb
        obtain ⟨cs', hcs, hy⟩ := hb
        rw [hc] at hcs
        obtain ⟨_, hcl, hce⟩ := World.cells?_some hcs
        obtain ⟨x, hx, rx⟩ := h _ _ _ hy
        rw [hg] at rx
        obtain ⟨l, vs, ⟨l1, l2⟩, rl, hv⟩ := ih (i + 1) (by omega)
        refine ⟨g x :: l, cs' ++ vs, ⟨by simp [l1], fun y hy => ?_⟩, by rw [G.fl_cons]; exact rx.append rl, fun j hj => ?_⟩
        · rcases List.mem_cons.1 hy with rfl | hy
          · exact ⟨x, rfl, hx⟩
          · exact l2 y hy
        · by_cases hjk : j < G.k
          · have := hce j hjk
            rw [add_add] at this
            rw [this, List.getElem?_append_left (by omega)]
          · have := hv (j - G.k) (by simp at hj; omega)
            rw [List.getElem?_append_right (by omega), hcl, ← this, Nat.succ_mul]
            congr 2; omega
    obtain ⟨l, vs, ⟨l1, l2⟩, rl, hv⟩ := go len 0 (by omega)
    refine ⟨l, ⟨by omega, l2⟩, .cons ?_ .nil⟩
    by_cases h0 : l = []
    · subst h0
      simp at l1
      subst l1
      exact .slz _ _ _
    · have hlp := List.length_pos_iff.2 h0
      have hvl : vs.length = len * G.k := by rw [rl.1, G.fl_length, l1]
      have hpos := G.pos
      have hv0 : 0 < vs.length := by rw [hvl]; exact Nat.mul_pos (by omega) hpos
      have hx0 := hv 0 hv0
      rw [List.getElem?_eq_getElem hv0, Nat.zero_mul] at hx0
      obtain ⟨hb, hs⟩ := cell_lt hx0
      have hx : a = ⟨a.block, a.off, none⟩ := by
        have : a.add (0 + 0) = a := rfl
        rw [this] at hs
        cases a; simp at hs; subst hs; rfl
      have hb' : a.block < w.heap.size := hb
      rw [hx]
      have hadd : ∀ i, w.cell? ⟨a.block, a.off + i, none⟩ = w.cell? (a.add i) := fun i => by
        unfold Addr.add
        by_cases h : i = 0
        · rw [if_pos h]; subst h; rw [Nat.add_zero, ← hx]
        · rw [if_neg h]
      unfold slE
      have hfl : (G.fl l).length = vs.length := rl.1.symm
      refine .sl G.k (G.fl l) none a.block a.off len cap (fun j => vs.getD j undef) G.pos (by rw [hfl, hvl]) hl (stab_start hb') ?_ ?_ (fun _ h => by cases h)
      · intro j hj
        have := hv j (by omega)
        rw [Nat.zero_mul, Nat.zero_add] at this
        rw [hadd j, this, List.getElem?_eq_getElem (by omega)]
        simp [List.getD, show j < vs.length by omega]
      · intro j hj
        have := rl.2 j hj
        simpa [List.getD, show j < vs.length by omega] using this
theorem one_of {t : TypeId} {v : Value} {d : DataW H} {ps : List MemPlace} {α : Type} {E : α → AV} {p : α → Prop} (hv : v.cells = #[v]) (hd : DataW.Trod enc P w 0 (fun _ => true) true t v d ps) (h : Opens enc P w t (fun x => [E x]) p) :
    ∃ x, p x ∧ Rel (Info.start w) w (E x) v := by
  obtain ⟨fuel, hf⟩ := hd
  obtain ⟨x, hx, rx⟩ := h _ _ _ hf
  rw [hv] at rx
  exact ⟨x, hx, rx.head⟩
end
end Go.Av
