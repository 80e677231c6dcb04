/-
  Texts in one: PnTrim, PnSplit, PnPlain, PnMarks, PnWraps, PnLoose, PnLines, PnNum, PnSign, PnGone, PnLooseEq, PnLooseB, PnWrapEq, PnPieces, PnMarkEq, PnMarkRef, PnBreaks, PnTells, PnTellsT.
-/
import Derived.Test.YtjajiokihccobaaGreatDoorEntAP
import Derived.Lib.SplitLaws
import Derived.Lib.IndexMore
import Derived.Test.YtjajiokihccobaaGreatDoorPlainLP
import Derived.Test.YtjajiokihccobaaGreatDoorRefAP
import Derived.Laws.RangeAny
import Derived.Test.YtjajiokihccobaaGreatDoorPlainTP
set_option linter.unusedVariables false
set_option linter.unusedSimpArgs false
namespace Go.Pn
open Go.Pv Go.Av

abbrev Bs := List UInt8
/-- A blank. -/
def bl (c : UInt8) : Bool := (((decide (c = 9)) || (decide (c = 10))) || (decide (c = 13))) || (decide (c = 32))
mutual
/-- Behind a sign. -/
def T1 : Bs → Bs
  | [] => []
  | c :: r => bif bl c then T2 r else c :: T1 r
/-- In a gap behind a sign. -/
def T2 : Bs → Bs
  | [] => []
  | c :: r => bif bl c then T2 r else 32 :: c :: T1 r
end
/-- Without blanks at its ends, and with one where there are several. -/
def trim : Bs → Bs
  | [] => []
  | c :: r => bif bl c then trim r else c :: T1 r

theorem ref07_Space_eq (F : Nat) (c : UInt8) : ref07_Space F c = some (bl c) := rfl

def tl (out : Bs) (gap : Bool) (r : Bs) : Bs := if out = [] then trim r else bif gap then T2 r else T1 r

theorem ref07_loop (F : Nat) (s : Bs) (hs : s.length ≤ 1000000) : ∀ (n : Nat) (out : Bs) (gap : Bool) (i : Nat), s.length - i < n → i ≤ s.length → out.length + gap.toNat ≤ i → (gap = true → out ≠ []) →
    ref07_Trim_L1 F s n (out, gap, (i : Int)) = some (out ++ tl out gap (s.drop i)) := by
  intro n
  induction n with
  | zero => intro out gap i h; omega
  | succ n ih =>
    intro out gap i hn hi ho hg
    show ref07_Trim_B1 F s (ref07_Trim_L1 F s n) out gap (i : Int) = _
    unfold ref07_Trim_B1 ref07_Trim_j3 ref07_Trim_j2 ref07_Trim_j1
    by_cases h : i < s.length
    · have hd : s.drop i = s[i] :: s.drop (i + 1) := List.drop_eq_getElem_cons h
      simp (disch := omega) only [bT, grd_At, lt_eq, at_nat h, ref07_Space_eq, bnd_some, grd_I, cast_succ]
      rw [hd]
      cases hb : bl s[i] with
      | true =>
        simp only [cond_true]
        by_cases h0 : out = []
        · subst h0
          rw [ih _ _ _ (by omega) (by omega) (by simp) (by simp)]
          simp [tl, trim, hb]
        · have h1 : (0 : Int) < out.length := by have := List.length_pos_iff.2 h0; omega
          rw [decide_eq_true h1, ih _ _ _ (by omega) (by omega) (by simp; omega) (fun _ => h0)]
          cases gap <;> simp [tl, h0, T1, T2, hb]
      | false =>
        simp only [cond_false]
        cases gap with
        | true =>
          have h0 := hg rfl
          have h1 : out.length + 1 ≤ i := ho
          simp (disch := (simp; omega)) only [cond_true, grd_Cat]
          rw [ih _ _ _ (by omega) (by omega) (by simp; omega) (by simp)]
          simp [tl, h0, T2, hb]
        | false =>
          have h1 : out.length ≤ i := ho
          simp (disch := (simp; omega)) only [cond_false, grd_Cat]
          rw [ih _ _ _ (by omega) (by omega) (by simp; omega) (by simp)]
          by_cases h0 : out = []
          · subst h0; simp [tl, trim, hb]
          · simp [tl, h0, T1, hb]
    · have hi2 : i = s.length := by omega
      subst hi2
      simp (disch := omega) only [bF, List.drop_length]
      simp [tl, trim, T1, T2]
theorem ref07_Trim_eq (F : Nat) (s : Bs) (hs : s.length ≤ 1000000) (hF : s.length < F) : ref07_Trim F s = some (trim s) := by
  have := ref07_loop F s hs F [] false 0 (by omega) (by omega) (by simp) (by simp)
  simpa [tl, ref07_Trim] using this

/-! The words, and how ent.Trim finds them. -/
/-- The words of a text, of which the first one has begun by cur. -/
def wgo (cur : Bs) : Bs → List Bs
  | [] => if cur = [] then [] else [cur]
  | c :: r => bif bl c then (if cur = [] then wgo [] r else cur :: wgo [] r) else wgo (cur ++ [c]) r

theorem rest_wgo (s : Bs) : (∀ cur : Bs, cur ≠ [] → Str.join [32] (wgo cur s) = cur ++ T1 s) ∧ Str.join [32] (wgo [] s) = trim s ∧ Str.rest [32] (wgo [] s) = T2 s := by
  induction s with
  | nil => exact ⟨fun cur h => by simp [wgo, h, Str.join, Str.rest, T1], by simp [wgo, Str.join, trim], by simp [wgo, Str.rest, T2]⟩
  | cons c r ih =>
    obtain ⟨h1, h2, h3⟩ := ih
    cases hb : bl c with
    | true =>
      refine ⟨fun cur h => ?_, ?_, ?_⟩
      · simp [wgo, hb, h, Str.join, T1, h3]
      · simp [wgo, hb, trim, h2]
      · simp [wgo, hb, T2, h3]
    | false =>
      have h4 := h1 [c] (by simp)
      refine ⟨fun cur h => ?_, ?_, ?_⟩
      · simp only [wgo, hb, cond_false, T1]
        rw [h1 _ (by simp)]; simp
      · simp only [wgo, hb, cond_false, trim, List.nil_append]
        rw [h4]; rfl
      · simp only [wgo, hb, cond_false, T2, List.nil_append]
        have : Str.rest [32] (wgo [c] r) = 32 :: Str.join [32] (wgo [c] r) := by
          cases hw : wgo [c] r with
          | nil => rw [hw] at h4; simp [Str.join] at h4
          | cons w ws => simp [Str.rest, Str.join]
        rw [this, h4]; rfl
theorem join_wgo (s : Bs) : Str.join [32] (wgo [] s) = trim s := (rest_wgo s).2.1

theorem wgo_total (s : Bs) : ∀ cur : Bs, Str.total (wgo cur s) + (wgo cur s).length ≤ cur.length + s.length + 1 := by
  induction s with
  | nil => intro cur; by_cases h : cur = [] <;> simp [wgo, h, Str.total]
  | cons c r ih =>
    intro cur
    cases hb : bl c with
    | true =>
      have := ih []
      by_cases h : cur = []
      · simp [wgo, hb, h] at this ⊢; omega
      · simp [wgo, hb, h, Str.total] at this ⊢; omega
    | false =>
      have := ih (cur ++ [c])
      simp [wgo, hb] at this ⊢; omega

theorem ent_Space_eq (F : Nat) (c : UInt8) : ent_Space F c = some (bl c) := by
  have : ∀ n : Nat, n < 256 → decide (0 ≤ Go.Lib.indexByte ([9, 10, 13, 32] : List UInt8) (UInt8.ofNat n)) = bl (UInt8.ofNat n) := by decide +kernel
  have h := this c.toNat c.toNat_lt
  rw [UInt8.ofNat_toNat] at h
  unfold ent_Space
  simp only [lt_eq]
  rw [h]

theorem total_append (a b : List Bs) : Str.total (a ++ b) = Str.total a + Str.total b := by
  induction a with
  | nil => simp [Str.total]
  | cons x a ih => simp [Str.total, ih]; omega

theorem ent_end (F : Nat) (s : Bs) (hs : s.length ≤ 1000000) (n : Nat) (l : List Bs) (hl : l.length + Str.total l ≤ 100000000) (hn1 : n ≥ 1) : ent_Trim_L1 F s n (l, (-1), ((s.length + 1 : Nat) : Int)) = some (Str.join [32] l) := by
  obtain ⟨m, rfl⟩ : ∃ m, n = m + 1 := ⟨n - 1, by omega⟩
  show ent_Trim_B1 F s (ent_Trim_L1 F s m) l (-1) ((s.length + 1 : Nat) : Int) = _
  unfold ent_Trim_B1 ent_Trim_j1
  have h1 : ¬ (((s.length + 1 : Nat) : Int) ≤ (s.length : Int)) := by omega
  rw [bF h1, grd_Join (by simp; omega), lt_eq]
theorem ent_loop (F : Nat) (s : Bs) (hs : s.length ≤ 1000000) : ∀ (n : Nat) (l : List Bs) (fr : Int) (cur : Bs) (i : Nat), s.length + 1 - i < n → i ≤ s.length → l.length ≤ i →
    ((fr = -1 ∧ cur = []) ∨ ∃ f : Nat, fr = (f : Int) ∧ f < i ∧ cur = (s.take i).drop f) → (l ++ wgo cur (s.drop i)).length + Str.total (l ++ wgo cur (s.drop i)) ≤ 100000000 →
    ent_Trim_L1 F s n (l, fr, (i : Int)) = some (Str.join [32] (l ++ wgo cur (s.drop i))) := by
  intro n
  induction n with
  | zero => intro l fr cur i h; omega
  | succ n ih =>
    intro l fr cur i hn hi hl hf hJ
    show ent_Trim_B1 F s (ent_Trim_L1 F s n) l fr (i : Int) = _
    unfold ent_Trim_B1 ent_Trim_j2
    have hend : ∀ l : List Bs, l.length + Str.total l ≤ 100000000 → n ≥ 1 → ent_Trim_L1 F s n (l, (-1), ((s.length + 1 : Nat) : Int)) = some (Str.join [32] l) := ent_end F s hs n
    by_cases h : i < s.length
    · have hd : s.drop i = s[i] :: s.drop (i + 1) := List.drop_eq_getElem_cons h
      have hne : decide ((i : Int) = (s.length : Int)) = false := decide_eq_false (by omega)
      simp (disch := omega) only [bT, hne, Bool.not_false, grdc_t, grd_At, lt_eq, at_nat h, ent_Space_eq, bndc_t, bnd_some, Bool.false_or]
      rw [hd] at hJ ⊢
      cases hb : bl s[i] with
      | true =>
        simp only [wgo, hb, cond_true] at hJ ⊢
        rcases hf with ⟨rfl, rfl⟩ | ⟨f, rfl, hfi, rfl⟩
        · simp only [if_true] at hJ ⊢
          simp (disch := omega) only [Bool.not_true, Bool.false_and, cond_false, Bool.true_and, bF, grd_I, cast_succ]
          exact ih l (-1) [] (i + 1) (by omega) (by omega) (by omega) (.inl ⟨rfl, rfl⟩) hJ
        · have hc : (s.take i).drop f ≠ [] := by
            intro h2; have := congrArg List.length h2; simp at this; omega
          simp only [hc, if_false] at hJ ⊢
          simp (disch := (first | omega | (simp; omega))) only [Bool.not_true, Bool.false_and, cond_false, Bool.true_and, bT, grd_Sub, grd_Cat, sub_nat, grd_I, cast_succ]
          rw [ih (l ++ [(s.take i).drop f]) (-1) [] (i + 1) (by omega) (by omega) (by simp; omega) (.inl ⟨rfl, rfl⟩) (by simpa using hJ)]
          simp
      | false =>
        simp only [wgo, hb, cond_false] at hJ ⊢
        rcases hf with ⟨rfl, rfl⟩ | ⟨f, rfl, hfi, rfl⟩
        · simp (disch := omega) only [Bool.not_false, Bool.true_and, bT, grd_I, cast_succ]
          have hc : ([] : Bs) ++ [s[i]] = (s.take (i + 1)).drop i := by
            rw [List.take_succ_eq_append_getElem h, List.drop_append_of_le_length (by simp; omega), List.drop_eq_nil_of_le (by simp; omega)]
          rw [hc] at hJ ⊢
          exact ih l (i : Int) _ (i + 1) (by omega) (by omega) (by omega) (.inr ⟨i, rfl, by omega, rfl⟩) hJ
        · simp (disch := omega) only [Bool.not_false, Bool.true_and, bF, Bool.false_and, cond_false, grd_I, cast_succ]
          have hc : (s.take i).drop f ++ [s[i]] = (s.take (i + 1)).drop f := by
            rw [List.take_succ_eq_append_getElem h, List.drop_append_of_le_length (by simp; omega)]
          rw [hc] at hJ ⊢
          exact ih l (f : Int) _ (i + 1) (by omega) (by omega) (by omega) (.inr ⟨f, rfl, by omega, rfl⟩) hJ
    · have hi2 : i = s.length := by omega
      subst hi2
      have hyes : decide ((s.length : Int) = (s.length : Int)) = true := decide_eq_true rfl
      simp (disch := omega) only [bT, hyes, Bool.not_true, grdc_f, lt_eq, ent_Space_eq, bndc_f, Bool.true_or, List.drop_length] at hJ ⊢
      rcases hf with ⟨rfl, rfl⟩ | ⟨f, rfl, hfi, rfl⟩
      · simp (disch := omega) only [Bool.false_and, cond_false, Bool.true_and, bF, grd_I, cast_succ]
        rw [hend l (by simpa [wgo] using hJ) (by omega)]
        simp [wgo, grdc_f, bndc_f]
      · have hc : (s.take s.length).drop f ≠ [] := by
          intro h2; have := congrArg List.length h2; simp at this; omega
        simp only [wgo, hc, if_false] at hJ ⊢
        simp (disch := (first | omega | (simp; omega))) only [Bool.false_and, cond_false, Bool.true_and, bT, grd_Sub, grd_Cat, sub_nat, grd_I, cast_succ]
        exact hend _ hJ (by omega)
theorem ent_Trim_eq (F : Nat) (s : Bs) (hs : s.length ≤ 1000000) (hF : s.length + 1 < F) : ent_Trim F s = some (trim s) := by
  have h1 := wgo_total s []
  have := ent_loop F s hs F [] (-1) [] 0 (by omega) (by omega) (by simp) (.inl ⟨rfl, rfl⟩) (by simp at h1 ⊢; omega)
  rw [← join_wgo]
  simpa [ent_Trim] using this
end Go.Pn
namespace Go.Pn
open Go.Pv Go.Av

/-- A text cut at each c. -/
def sp (c : UInt8) : Bs → List Bs
  | [] => [[]]
  | b :: r => if b = c then [] :: sp c r else match sp c r with
    | [] => [[b]]
    | p :: ps => (b :: p) :: ps

theorem sp_ne (c : UInt8) (s : Bs) : sp c s ≠ [] := by
  cases s with
  | nil => simp [sp]
  | cons b r => unfold sp; split; simp; split <;> simp

theorem index_one_cons (b c : UInt8) (l : Bs) : Go.Lib.index (b :: l) [c] = if b = c then 0 else if Go.Lib.index l [c] = -1 then -1 else Go.Lib.index l [c] + 1 := by
  by_cases h : b = c
  · subst h; simp [Go.Lib.index]
  · simp [Go.Lib.index, h, Ne.symm h]

/-- Ahead of the first piece. -/
def prep (cur : Bs) : List Bs → List Bs
  | [] => [cur]
  | p :: ps => (cur ++ p) :: ps

theorem sp_cons_ne {b c : UInt8} (h : ¬ b = c) (r : Bs) : sp c (b :: r) = prep [b] (sp c r) := by
  simp only [sp, h, if_false]
  cases sp c r <;> rfl
theorem sp_cons_eq (c : UInt8) (r : Bs) : sp c (c :: r) = [] :: sp c r := by simp [sp]
theorem prep_prep (a b : Bs) (l : List Bs) : prep a (prep b l) = prep (a ++ b) l := by cases l <;> simp [prep]
theorem prep_nil {l : List Bs} (h : l ≠ []) : prep [] l = l := by cases l <;> simp_all [prep]
theorem sp_no {c : UInt8} {s : Bs} (h : ∀ b ∈ s, b ≠ c) : sp c s = [s] := by
  induction s with
  | nil => rfl
  | cons b r ih =>
    rw [sp_cons_ne (h b (by simp)), ih (fun x hx => h x (by simp [hx]))]; rfl

theorem splitK_eq (c : UInt8) : ∀ (s : Bs), Go.Lib.splitK [c] 0 (s.count c) s = sp c s
  | [] => rfl
  | b :: l => by
    have ih := splitK_eq c l
    have hi := index_one_cons b c l
    have hge := Go.Lib.index_ge l [c]
    by_cases h : b = c
    · subst h
      rw [List.count_cons_self, sp_cons_eq, Go.Lib.splitK, hi]
      simp [ih]
    · rw [List.count_cons_of_ne h, sp_cons_ne h, ← ih]
      cases hk : l.count c with
      | zero => simp [Go.Lib.splitK, prep]
      | succ k =>
        rw [Go.Lib.splitK, Go.Lib.splitK, hi]
        simp only [h, if_false]
        by_cases hm : Go.Lib.index l [c] = -1
        · simp [hm, prep]
        · obtain ⟨j, hj⟩ := Int.eq_ofNat_of_zero_le (show 0 ≤ Go.Lib.index l [c] by omega)
          have h2 : ¬ (Go.Lib.index l [c] + 1 = -1) := by omega
          have h3 : (Go.Lib.index l [c] + 1).toNat = j + 1 := by omega
          have h4 : (Go.Lib.index l [c]).toNat = j := by omega
          simp [hm, h2, h3, h4, prep]
theorem split_one (s : Bs) (c : UInt8) : Go.Lib.split s [c] = sp c s := by
  unfold Go.Lib.split
  rw [Go.Lib.count_one, splitK_eq]

theorem sp_length (c : UInt8) (s : Bs) : (sp c s).length ≤ s.length + 1 := by
  induction s with
  | nil => simp [sp]
  | cons b r ih =>
    by_cases h : b = c
    · subst h; rw [sp_cons_eq]; simp; omega
    · rw [sp_cons_ne h]
      cases hs : sp c r with
      | nil => simp [prep]
      | cons p ps => rw [hs] at ih; simp [prep] at ih ⊢; omega
theorem sp_total (c : UInt8) (s : Bs) : Str.total (sp c s) + (sp c s).length = s.length + 1 := by
  induction s with
  | nil => simp [sp, Str.total]
  | cons b r ih =>
    by_cases h : b = c
    · subst h; rw [sp_cons_eq]; simp [Str.total]; omega
    · rw [sp_cons_ne h]
      cases hs : sp c r with
      | nil => exact absurd hs (sp_ne c r)
      | cons p ps => rw [hs] at ih; simp [prep, Str.total] at ih ⊢; omega

theorem ref05_loop (s : Bs) (c : UInt8) (hs : s.length ≤ 1000000) : ∀ (n : Nat) (l : List Bs) (f i : Nat), s.length + 1 - i < n → i ≤ s.length → f ≤ i → l.length ≤ i →
    ref05_Split_L1 s c n (l, (f : Int), (i : Int)) = some (l ++ prep ((s.take i).drop f) (sp c (s.drop i))) := by
  intro n
  induction n with
  | zero => intro l f i h; omega
  | succ n ih =>
    intro l f i hn hi hf hl
    show ref05_Split_B1 s c (ref05_Split_L1 s c n) l (f : Int) (i : Int) = _
    unfold ref05_Split_B1 ref05_Split_j2
    by_cases h : i < s.length
    · have hd : s.drop i = s[i] :: s.drop (i + 1) := List.drop_eq_getElem_cons h
      have hne : decide ((i : Int) = (s.length : Int)) = false := decide_eq_false (by omega)
      simp (disch := omega) only [bT, hne, Bool.not_false, grdc_t, grd_At, lt_eq, at_nat h, Bool.false_or]
      rw [hd]
      by_cases hc : s[i] = c
      · simp (disch := (first | omega | (simp; omega))) only [hc, decide_true, cond_true, grd_Sub, sub_nat, grd_Cat, grd_I, cast_succ]
        rw [ih _ _ _ (by omega) (by omega) (by omega) (by simp; omega)]
        rw [List.drop_eq_nil_of_le (show (s.take (i + 1)).length ≤ i + 1 by simp; omega), prep_nil (sp_ne _ _), sp_cons_eq]
        simp [prep]
      · simp (disch := (first | omega | (simp; omega))) only [hc, decide_false, cond_false, grd_I, cast_succ]
        rw [ih _ _ _ (by omega) (by omega) (by omega) (by omega), sp_cons_ne hc, prep_prep]
        rw [List.take_succ_eq_append_getElem h, List.drop_append_of_le_length (by simp; omega)]
    · have hi2 : i = s.length := by omega
      subst hi2
      have hyes : decide ((s.length : Int) = (s.length : Int)) = true := decide_eq_true rfl
      simp (disch := (first | omega | (simp; omega))) only [bT, hyes, Bool.not_true, grdc_f, lt_eq, Bool.true_or, cond_true, grd_Sub, sub_nat, grd_Cat, grd_I, cast_succ, List.drop_length]
      obtain ⟨m, rfl⟩ : ∃ m, n = m + 1 := ⟨n - 1, by omega⟩
      show ref05_Split_B1 s c (ref05_Split_L1 s c m) _ _ ((s.length + 1 : Nat) : Int) = _
      unfold ref05_Split_B1 ref05_Split_j1
      have h1 : ¬ (((s.length + 1 : Nat) : Int) ≤ (s.length : Int)) := by omega
      rw [bF h1]
      simp [sp, prep]
theorem ref05_Split_eq (F : Nat) (s : Bs) (c : UInt8) (hs : s.length ≤ 1000000) (hF : s.length + 1 < F) : ref05_Split F s c = some (sp c s) := by
  have := ref05_loop s c hs F [] 0 0 (by omega) (by omega) (by omega) (by simp)
  rw [show ref05_Split F s c = ref05_Split_L1 s c F ([], ((0 : Nat) : Int), ((0 : Nat) : Int)) from rfl, this]
  simp [prep_nil (sp_ne _ _)]
end Go.Pn
namespace Go.Pn
open Go.Pv Go.Av

theorem awake11 : law11_awake 3000 = some true := by decide +kernel

theorem indexByte_no {c : UInt8} {s : Bs} (h : ∀ b ∈ s, b ≠ c) : Go.Lib.indexByte s c = -1 := by
  induction s with
  | nil => rfl
  | cons b r ih => simp [Go.Lib.indexByte, h b (by simp), ih (fun x hx => h x (by simp [hx]))]

theorem loose_plain (F : Nat) (s : Bs) (hF : 0 < F) (hs : s.length ≤ 1000000) (h : ∀ b ∈ s, b ≠ 38) : ent_Loose F s = some s := by
  obtain ⟨n, rfl⟩ : ∃ n, F = n + 1 := ⟨F - 1, by omega⟩
  have : ent_gone (n + 1) s = some (s, true) := by
    show ent_gone_B1 (n + 1) (ent_gone_L1 (n + 1) n) s true [] = _
    unfold ent_gone_B1
    simp (disch := (first | omega | (simp; done) | (simp; omega))) only [lt_eq, indexByte_no h, bT, grd_W, List.nil_append]
  unfold ent_Loose
  rw [this]; rfl

/-- The lines of pieces. -/
def linesOf : List Bs → List Bs
  | [] => []
  | p :: r => if trim p = [] then linesOf r else trim p :: linesOf r

theorem of_loop (F : Nat) (ps : List Bs) (qs : List Bs) (hF : 2000000 < F ∨ ∀ q ∈ qs, q.length + 1 < F) (hq : qs.length = ps.length) (hp : ps.length ≤ 1000000) (hl : ∀ (i : Nat) (h : i < ps.length), ent_Loose F ps[i] = some (qs[i]'(by omega)))
    (hb : ∀ q ∈ qs, q.length ≤ 1000000) (hJ : (linesOf qs).length + Str.total (linesOf qs) ≤ 100000000) : ∀ (n : Nat) (i : Nat) (out : List Bs), ps.length - i < n → i ≤ ps.length → out.length ≤ i → out ++ linesOf (qs.drop i) = linesOf qs →
    plain_Of_L1 F ps n (out, (i : Int)) = some (Str.join [10] (linesOf qs)) := by
  intro n
  induction n with
  | zero => intro i out h; omega
  | succ n ih =>
    intro i out hn hi ho hout
    show plain_Of_B1 F ps (plain_Of_L1 F ps n) out (i : Int) = _
    unfold plain_Of_B1 plain_Of_j2 plain_Of_j1
    by_cases h : i < ps.length
    · have h' : i < qs.length := by omega
      have hd : qs.drop i = qs[i] :: qs.drop (i + 1) := List.drop_eq_getElem_cons h'
      have htr : ent_Trim F qs[i] = some (trim qs[i]) := ent_Trim_eq F _ (hb _ (List.getElem_mem h')) (by
        have h1 := hb _ (List.getElem_mem h')
        rcases hF with hF | hF
        · omega
        · exact hF _ (List.getElem_mem h'))
      simp (disch := omega) only [bT, grd_At, lt_eq, at_nat h, hl i h, bnd_some, htr, grd_I, cast_succ]
      rw [hd] at hout
      by_cases h0 : trim qs[i] = []
      · simp only [h0, decide_true, Bool.not_true, cond_false]
        exact ih _ _ (by omega) (by omega) (by omega) (by simpa [linesOf, h0] using hout)
      · simp (disch := (first | omega | (simp; done) | (simp; omega))) only [h0, decide_false, Bool.not_false, cond_true, grd_Cat]
        exact ih _ _ (by omega) (by omega) (by simp; omega) (by simpa [linesOf, h0] using hout)
    · have hi2 : i = ps.length := by omega
      subst hi2
      rw [← hq, List.drop_length] at hout
      simp only [linesOf, List.append_nil] at hout
      subst hout
      simp (disch := (first | omega | (simp; done) | (simp; omega))) only [bF, grd_Join, lt_eq]

theorem trim_len (s : Bs) : (trim s).length ≤ s.length := by
  have h : ∀ s : Bs, (trim s).length ≤ s.length ∧ (T1 s).length ≤ s.length ∧ (T2 s).length ≤ s.length + 1 ∧ (s ≠ [] → (T2 s).length ≤ s.length + 1) := by
    intro s
    induction s with
    | nil => simp [trim, T1, T2]
    | cons c r ih =>
      obtain ⟨h1, h2, h3, _⟩ := ih
      cases hb : bl c <;> simp [trim, T1, T2, hb] <;> omega
  exact (h s).1

theorem of_plain (s : Bs) (hs : s.length ≤ 1000) (h : ∀ b ∈ s, b ≠ 60 ∧ b ≠ 38) : plain_Of 3000 s = some (trim s) := by
  have h1 : cut_all 3000 s [] [] = some [s] := by
    unfold cut_all plain_breaking
    simp only [bnd_some]
    unfold cut_all_B1
    simp (disch := (first | omega | (simp; done) | (simp; omega))) only [lt_eq, indexByte_no (fun b hb => (h b hb).1), bT, grd_W, List.nil_append]
    have : cut_end 3000 s [] s = some [s] := by
      unfold cut_end cut_end_j1
      simp (disch := (first | omega | (simp; done) | (simp; omega))) only [grd_W, grd_Cat, lt_eq, List.nil_append]
    rw [this]; rfl
  unfold plain_Of
  rw [h1, bnd_some]
  have htl := trim_len s
  have := of_loop 3000 [s] [s] (.inr (by simp; omega)) rfl (by simp) (fun i hi => by
    have : i = 0 := by simpa using hi
    subst this
    exact loose_plain 3000 s (by omega) (by omega) (fun b hb => (h b hb).2)) (by simp; omega) (by by_cases h0 : trim s = [] <;> simp [linesOf, h0, Str.total]; omega) 3000 0 [] (by simp) (by simp) (by simp) rfl
  rw [show ((0 : Nat) : Int) = 0 from rfl] at this
  rw [this]
  by_cases h0 : trim s = [] <;> simp [linesOf, h0, Str.join, Str.rest]

end Go.Pn
namespace Go.Pn
open Go.Pv Go.Av

/-- A small letter. -/
def low (c : UInt8) : UInt8 := bif (decide (65 ≤ (c.toNat : Int))) && (decide ((c.toNat : Int) ≤ 90)) then (c + 97) - 65 else c

theorem small_loop (s : Bs) (hs : s.length ≤ 1000000) : ∀ (n i : Nat), s.length - i < n → i ≤ s.length →
    plain_small_L1 s n ((i : Int), (s.take i).map low ++ s.drop i) = some (s.map low) := by
  intro n
  induction n with
  | zero => intro i h; omega
  | succ n ih =>
    intro i hn hi
    show plain_small_B1 s (plain_small_L1 s n) (i : Int) ((s.take i).map low ++ s.drop i) = _
    unfold plain_small_B1 plain_small_j2 plain_small_j1
    have hl : ((s.take i).map low ++ s.drop i).length = s.length := by simp; omega
    by_cases h : i < s.length
    · have hg : ((s.take i).map low ++ s.drop i)[i]'(by omega) = s[i] := by
        rw [List.getElem_append_right (by simp; omega)]
        simp [show min i s.length = i by omega]
      have hset : ∀ x, ((s.take i).map low ++ s.drop i).set i x = (s.take i).map low ++ x :: s.drop (i + 1) := by
        intro x
        rw [List.set_append_right _ _ (by simp; omega), List.drop_eq_getElem_cons h]
        have : i - (List.map low (List.take i s)).length = 0 := by simp; omega
        rw [this]; rfl
      have hnx : ((s.take (i + 1)).map low ++ s.drop (i + 1)) = (s.take i).map low ++ low s[i] :: s.drop (i + 1) := by
        rw [List.take_succ_eq_append_getElem h, List.map_append, List.append_assoc]; rfl
      have hsame : (s.take i).map low ++ s.drop i = (s.take i).map low ++ s[i] :: s.drop (i + 1) := by rw [List.drop_eq_getElem_cons h]
      simp (disch := omega) only [bT, grd_At, lt_eq, at_nat (show i < ((s.take i).map low ++ s.drop i).length by omega), hg, grd_I, cast_succ, Int.toNat_natCast, hset]
      have := ih (i + 1) (by omega) (by omega)
      rw [hnx] at this
      cases hc : ((decide (65 ≤ ((s[i]).toNat : Int))) && (decide (((s[i]).toNat : Int) ≤ 90))) with
      | true =>
        have e : low s[i] = s[i] + 97 - 65 := by unfold low; rw [hc]; rfl
        rw [e] at this
        simpa using this
      | false =>
        have e : low s[i] = s[i] := by unfold low; rw [hc]; rfl
        rw [e] at this
        rw [hsame]
        simpa using this
    · have hi2 : i = s.length := by omega
      subst hi2
      simp (disch := (first | omega | (simp; done) | (simp; omega))) only [bF, grd_D, List.take_length, List.drop_length, List.append_nil]

theorem small_eq (F : Nat) (s : Bs) (hs : s.length ≤ 1000000) (hF : s.length < F) : plain_small F s = some (s.map low) := by
  unfold plain_small
  rw [grd_Cat (by omega)]
  simpa using small_loop s hs F 0 (by omega) (by omega)

theorem one_in (F : Nat) (l k : Bs) (i : Nat) (h : i < l.length) : plain_one F l (i : Int) k = some (decide (0 ≤ Go.Lib.indexByte k l[i])) := by
  unfold plain_one
  have h' : (i : Int) < (l.length : Int) := by omega
  simp (disch := omega) only [lt_eq, at_nat h, grdc_dAt]
  simp [h']

/-- The name of a mark is read. -/
theorem tag_loop (F : Nat) (a2 t r : Bs) (c : UInt8) (ht : ∀ b ∈ t, 0 ≤ Go.Lib.indexByte plaina_k1 b) (hc : Go.Lib.indexByte plaina_k1 c < 0) (hl : t.length ≤ 1000) : ∀ (n i : Nat), t.length - i < n → i ≤ t.length →
    cut_mark_L1 F a2 (t ++ c :: r) n (i : Int) = cut_mark_j3 F a2 (t ++ c :: r) (t.length : Int) := by
  intro n
  induction n with
  | zero => intro i h; omega
  | succ n ih =>
    intro i hn hi
    show cut_mark_B1 F a2 (t ++ c :: r) (cut_mark_L1 F a2 (t ++ c :: r) n) (i : Int) = _
    unfold cut_mark_B1
    rw [one_in F _ _ i (by simp; omega), bnd_some]
    by_cases h : i < t.length
    · have e : (t ++ c :: r)[i]'(by simp; omega) = t[i] := List.getElem_append_left h
      rw [e, decide_eq_true (ht _ (List.getElem_mem h))]
      simp (disch := omega) only [cond_true, grd_I, cast_succ]
      exact ih _ (by omega) (by omega)
    · have hi2 : i = t.length := by omega
      subst hi2
      have e : (t ++ c :: r)[t.length]'(by simp) = c := by simp
      rw [e, decide_eq_false (by omega)]
      rfl

theorem index_one (p q : Bs) (c : UInt8) (h : ∀ b ∈ p, b ≠ c) : Go.Lib.index (p ++ c :: q) [c] = (p.length : Int) := by
  induction p with
  | nil => simp [index_one_cons]
  | cons b r ih =>
    have := ih (fun x hx => h x (by simp [hx]))
    rw [List.cons_append, index_one_cons, if_neg (h b (by simp)), this, if_neg (by omega)]
    simp
theorem cut_one (p q : Bs) (c : UInt8) (h : ∀ b ∈ p, b ≠ c) : Go.Lib.cut (p ++ c :: q) [c] = (p, q, true) := by
  unfold Go.Lib.cut
  rw [index_one p q c h, if_pos (by omega)]
  simp

theorem indexByte_at (p q : Bs) (c : UInt8) (h : ∀ b ∈ p, b ≠ c) : Go.Lib.indexByte (p ++ c :: q) c = (p.length : Int) := by
  induction p with
  | nil => simp [Go.Lib.indexByte]
  | cons b r ih =>
    have := ih (fun x hx => h x (by simp [hx]))
    rw [List.cons_append, Go.Lib.indexByte, this]
    have h1 : (b == c) = false := by simpa using h b (by simp)
    have h2 : ((r.length : Int) == -1) = false := by simp
    rw [h1, h2]; simp

/-- A mark that hides nothing: its name, and what stands behind it. 'u' stands ahead of the '>'. -/
theorem mark_plain (F : Nat) (x sl t r u q name : Bs) (c : UInt8) (ys : List Bs) (sb : Bs) (hname : t.map low = name) (hxx : x = 60 :: (sl ++ t ++ c :: r)) (hsl : sl = [] ∨ sl = [47]) (htr : Go.Lib.trimPrefix (sl ++ t ++ c :: r) [47] = t ++ c :: r) (hu' : x = u ++ 62 :: q) (h62 : ∀ b ∈ u, b ≠ 62)
    (ht : ∀ b ∈ t, 0 ≤ Go.Lib.indexByte plaina_k1 b) (hc : Go.Lib.indexByte plaina_k1 c < 0) (hl : t.length ≤ 100) (hr : r.length ≤ 1000) (hF : 1100 < F)
    (hn : sl = [47] ∨ (t.map low ≠ [115, 99, 114, 105, 112, 116] ∧ t.map low ≠ [115, 116, 121, 108, 101])) : cut_mark F x ys sb = some (name, q) := by
  subst hname
  have hu : 60 :: (sl ++ t ++ c :: r) = u ++ 62 :: q := hxx.symm.trans hu'
  rw [hxx]
  have hlen : (60 :: (sl ++ t ++ c :: r)).length = 2 + sl.length + t.length + r.length := by simp; omega
  have hsl2 : sl.length ≤ 1 := by rcases hsl with h | h <;> simp [h]
  unfold cut_mark
  have e1 : from_ (60 :: (sl ++ t ++ c :: r)) 1 = sl ++ t ++ c :: r := by simp [from_]
  simp (disch := (first | omega | (simp; done) | (simp; omega))) only [grd_To, lt_eq, e1, grd_I]
  have e2 : Go.Lib.trimPrefix (sl ++ t ++ c :: r) [47] = t ++ c :: r := htr
  rw [e2]
  have := tag_loop F (60 :: (sl ++ t ++ c :: r)) t r c ht hc (by omega) F 0 (by omega) (by omega)
  rw [show ((0 : Nat) : Int) = 0 from rfl] at this
  rw [this]
  unfold cut_mark_j3 cut_mark_j1
  have e3 : to_ (t ++ c :: r) (t.length : Int) = t := by simp [to_nat]
  simp (disch := (first | omega | (simp; done) | (simp; omega))) only [grd_To, lt_eq, e3, small_eq F t (by omega) (by omega), bnd_some, grd_S]
  rw [hu, cut_one u q 62 h62]
  have hfin : ((!(decide (((t ++ c :: r).length : Int) < ((u ++ 62 :: q).length : Int) - 1))) && ((decide (t.map low = ([115, 99, 114, 105, 112, 116] : List UInt8))) || (decide (t.map low = ([115, 116, 121, 108, 101] : List UInt8))))) = false := by
    rcases hn with h | ⟨h1, h2⟩
    · rw [← hu, hlen, h]
      have : ((t ++ c :: r).length : Int) < ((2 + [(47 : UInt8)].length + t.length + r.length : Nat) : Int) - 1 := by simp; omega
      rw [decide_eq_true this]; rfl
    · rw [decide_eq_false h1, decide_eq_false h2]; simp
  rw [hfin]; rfl

/-- One step over a mark. -/
theorem all_mark (F : Nat) (rec : ((List (List UInt8 × Int)) × Bs × (List Bs) × Bs) → Option (List Bs)) (br : List (List UInt8 × Int)) (p x : Bs) (ys : List Bs) (acc name q : Bs) (hp : ∀ b ∈ p, b ≠ 60) (c : UInt8) (hx : 0 ≤ Go.Lib.indexByte plaina_k2 c)
    (hl : p.length + x.length + acc.length ≤ 100000) (hys : ys.length ≤ 10) (hm : cut_mark F (60 :: c :: x) ys (acc ++ p) = some (name, q)) :
    cut_all_B1 F rec br (p ++ 60 :: c :: x) ys acc = bif decide (0 < Go.Av.mget br name) then rec (br, q, ys ++ [acc ++ p], []) else rec (br, q, ys, acc ++ p) := by
  unfold cut_all_B1
  have e1 := indexByte_at p (c :: x) 60 hp
  have e2 : to_ (p ++ 60 :: c :: x) (p.length : Int) = p := by simp [to_nat]
  have e3 : from_ (p ++ 60 :: c :: x) (p.length : Int) = 60 :: c :: x := by simp [from_nat]
  have e4 : plain_one F (60 :: c :: x) 1 plaina_k2 = some true := by
    have := one_in F (60 :: c :: x) plaina_k2 1 (by simp)
    rw [show ((1 : Nat) : Int) = 1 from rfl] at this
    rw [this]; simp [hx]
  have e5 : cut_end F q ys (acc ++ p) = some (ys ++ [acc ++ p]) := by
    unfold cut_end cut_end_j1
    simp (disch := (first | omega | (simp; done) | (simp; omega))) only [grd_W, grd_Cat, lt_eq]
  simp (disch := (first | omega | (simp; done) | (simp; omega))) only [lt_eq, e1, bF, grd_To, e2, grd_W, e3, e4, bnd_some, hm, Bool.not_true, cond_false, bnd2_some, e5]

/-- No more marks. -/
theorem all_end (F : Nat) (rec : ((List (List UInt8 × Int)) × Bs × (List Bs) × Bs) → Option (List Bs)) (br : List (List UInt8 × Int)) (p : Bs) (ys : List Bs) (acc : Bs) (hp : ∀ b ∈ p, b ≠ 60) (hl : p.length + acc.length ≤ 100000) (hys : ys.length ≤ 10) :
    cut_all_B1 F rec br p ys acc = some (ys ++ [acc ++ p]) := by
  unfold cut_all_B1
  have e5 : cut_end F p ys (acc ++ p) = some (ys ++ [acc ++ p]) := by
    unfold cut_end cut_end_j1
    simp (disch := (first | omega | (simp; done) | (simp; omega))) only [grd_W, grd_Cat, lt_eq]
  simp (disch := (first | omega | (simp; done) | (simp; omega))) only [lt_eq, indexByte_no hp, bT, grd_W, e5, bnd_some]

theorem T1_none (s : Bs) (h : ∀ b ∈ s, bl b = false) : T1 s = s := by
  induction s with
  | nil => simp [T1]
  | cons c r ih => simp [T1, h c (by simp), ih (fun b hb => h b (by simp [hb]))]
theorem trim_none (s : Bs) (h : ∀ b ∈ s, bl b = false) : trim s = s := by
  cases s with
  | nil => rfl
  | cons c r => simp [trim, h c (by simp), T1_none r (fun b hb => h b (by simp [hb]))]

/-- A small letter of the alphabet. -/
def Let (c : UInt8) : Prop := 97 ≤ c.toNat ∧ c.toNat ≤ 122
theorem let_ne {c d : UInt8} (h : Let c) (hd : d.toNat < 97) : c ≠ d := by
  rintro rfl; have := h.1; omega
theorem let_bl {c : UInt8} (h : Let c) : bl c = false := by
  simp [bl, let_ne h (d := 9) (by decide), let_ne h (d := 10) (by decide), let_ne h (d := 13) (by decide), let_ne h (d := 32) (by decide)]
theorem let_low {c : UInt8} (h : Let c) : low c = c := by
  unfold low
  have : ¬ ((c.toNat : Int) ≤ 90) := by have := h.1; omega
  simp [this]

/-- What comes of pieces of letters. -/
theorem of_letters (s : Bs) (ps : List Bs) (hs : cut_all 3000 s [] [] = some ps) (hp : ps.length ≤ 10) (h : ∀ p ∈ ps, p.length ≤ 1000 ∧ p ≠ [] ∧ ∀ b ∈ p, Let b) : plain_Of 3000 s = some (Str.join [10] ps) := by
  have hlin : ∀ l : List Bs, (∀ p ∈ l, p.length ≤ 1000 ∧ p ≠ [] ∧ ∀ b ∈ p, Let b) → linesOf l = l ∧ Str.total l ≤ 1000 * l.length := by
    intro l
    induction l with
    | nil => intro _; exact ⟨rfl, by simp [Str.total]⟩
    | cons p r ih =>
      intro h
      obtain ⟨h1, h2, h3⟩ := h p (by simp)
      obtain ⟨i1, i2⟩ := ih (fun q hq => h q (by simp [hq]))
      have ht := trim_none p (fun b hb => let_bl (h3 b hb))
      refine ⟨by simp [linesOf, ht, h2, i1], ?_⟩
      simp only [Str.total, List.length_cons]; omega
  obtain ⟨hL, hT⟩ := hlin ps h
  unfold plain_Of
  rw [hs, bnd_some]
  have := of_loop 3000 ps ps (.inr (fun q hq => by have := (h q hq).1; omega)) rfl (by omega) (fun i hi => loose_plain 3000 _ (by omega) (by have := (h _ (List.getElem_mem hi)).1; omega) (fun b hb => let_ne ((h _ (List.getElem_mem hi)).2.2 b hb) (by decide)))
    (fun q hq => by have := (h q hq).1; omega) (by rw [hL]; omega) 3000 0 [] (by omega) (by omega) (by simp) (by simp [hL])
  rw [show ((0 : Nat) : Int) = 0 from rfl, hL] at this
  exact this

/-- One mark between letters. -/
theorem cut_all_one (a b m name : Bs) (c : UInt8) (ha : a.length ≤ 100) (hb : b.length ≤ 100) (hm : m.length ≤ 100) (h1 : ∀ x ∈ a, Let x) (h2 : ∀ x ∈ b, Let x) (hx : 0 ≤ Go.Lib.indexByte plaina_k2 c)
    (hmk : ∀ ys sb, cut_mark 3000 (60 :: c :: (m ++ b)) ys sb = some (name, b)) (brs : List (List UInt8 × Int)) (hbr : plain_breaking 3000 = some brs) :
    cut_all 3000 (a ++ 60 :: c :: m ++ b) [] [] = some (bif decide (0 < Go.Av.mget brs name) then [a, b] else [a ++ b]) := by
  unfold cut_all
  rw [hbr, bnd_some]
  have e : a ++ 60 :: c :: m ++ b = a ++ 60 :: c :: (m ++ b) := by simp
  rw [e, all_mark 3000 _ brs a (m ++ b) [] [] name b (fun x hx => let_ne (h1 x hx) (by decide)) c hx (by simp; omega) (by simp) (hmk _ _)]
  cases hd : decide (0 < Go.Av.mget brs name) with
  | true =>
    show cut_all_B1 3000 (cut_all_L1 3000 2999) brs b ([] ++ [[] ++ a]) [] = _
    rw [all_end _ _ _ _ _ _ (fun x hx => let_ne (h2 x hx) (by decide)) (by simp; omega) (by simp)]
    rfl
  | false =>
    show cut_all_B1 3000 (cut_all_L1 3000 2999) brs b [] ([] ++ a) = _
    rw [all_end _ _ _ _ _ _ (fun x hx => let_ne (h2 x hx) (by decide)) (by simp; omega) (by simp)]
    rfl
end Go.Pn
namespace Go.Pn
open Go.Pv Go.Av

/-- A word: not empty, and no blank in it. -/
def Wd (w : Bs) : Prop := w ≠ [] ∧ ∀ b ∈ w, bl b = false

theorem bl32 : bl 32 = true := by decide
theorem bl_ne {c : UInt8} (h : bl c = false) : c ≠ 32 := by rintro rfl; rw [bl32] at h; cases h

theorem prep_wd {c : UInt8} {l : List Bs} (hc : bl c = false) (h : ∀ w ∈ l, Wd w) : ∀ w ∈ prep [c] l, Wd w := by
  cases l with
  | nil => intro w hw; simp [prep] at hw; subst hw; exact ⟨by simp, by simpa using hc⟩
  | cons p r =>
    intro w hw
    simp only [prep, List.mem_cons] at hw
    rcases hw with rfl | hw
    · exact ⟨by simp, fun b hb => by
        rcases List.mem_cons.1 hb with rfl | hb
        · exact hc
        · exact (h p (by simp)).2 b hb⟩
    · exact h w (by simp [hw])

/-- The words of a trimmed text. -/
theorem T_words (s : Bs) : ∀ c, bl c = false → (∀ w ∈ sp 32 (c :: T1 s), Wd w) ∧ (∀ w ∈ sp 32 (c :: T2 s), Wd w) := by
  induction s with
  | nil =>
    intro c hc
    have : ∀ w ∈ sp 32 [c], Wd w := by
      rw [sp_cons_ne (bl_ne hc)]
      intro w hw
      have : w = [c] := by simpa [sp, prep] using hw
      subst this; exact ⟨by simp, by simpa using hc⟩
    exact ⟨by simpa [T1] using this, by simpa [T2] using this⟩
  | cons d r ih =>
    intro c hc
    cases hd : bl d with
    | true => exact ⟨by simpa [T1, hd] using (ih c hc).2, by simpa [T2, hd] using (ih c hc).2⟩
    | false =>
      have e1 : T1 (d :: r) = d :: T1 r := by simp [T1, hd]
      have e2 : T2 (d :: r) = 32 :: d :: T1 r := by simp [T2, hd]
      rw [e1, e2]
      refine ⟨?_, ?_⟩
      · rw [sp_cons_ne (bl_ne hc)]
        exact prep_wd hc (ih d hd).1
      · rw [sp_cons_ne (bl_ne hc), sp_cons_eq]
        intro w hw
        simp only [prep, List.mem_cons] at hw
        rcases hw with rfl | hw
        · exact ⟨by simp, by simpa using hc⟩
        · exact (ih d hd).1 w hw

theorem trim_words (s : Bs) (h : trim s ≠ []) : ∀ w ∈ sp 32 (trim s), Wd w := by
  induction s with
  | nil => simp [trim] at h
  | cons c r ih =>
    cases hc : bl c with
    | true => simp only [trim, hc, cond_true] at h ⊢; exact ih h
    | false => simp only [trim, hc, cond_false] at h ⊢; exact (T_words r c hc).1

theorem T1_app (w s : Bs) (h : ∀ b ∈ w, bl b = false) : T1 (w ++ s) = w ++ T1 s := by
  induction w with
  | nil => rfl
  | cons c r ih => simp [T1, h c (by simp), ih (fun b hb => h b (by simp [hb]))]
theorem T1_rest (ws : List Bs) (h : ∀ w ∈ ws, Wd w) : T1 (Str.rest [32] ws) = Str.rest [32] ws := by
  induction ws with
  | nil => simp [Str.rest, T1]
  | cons w r ih =>
    have ih' := ih (fun x hx => h x (by simp [hx]))
    obtain ⟨hw, hb⟩ := h w (by simp)
    cases w with
    | nil => exact absurd rfl hw
    | cons c v =>
      have e := T1_app v (Str.rest [32] r) (fun b hb2 => hb b (by simp [hb2]))
      have hc := hb c (by simp)
      simp [Str.rest, T1, T2, bl32, hc, e, ih']
theorem trim_join (w : Bs) (g : List Bs) (h : ∀ x ∈ w :: g, Wd x) : trim (Str.join [32] (w :: g)) = Str.join [32] (w :: g) := by
  obtain ⟨hw, hb⟩ := h w (by simp)
  cases w with
  | nil => exact absurd rfl hw
  | cons c v =>
    have e := T1_app v (Str.rest [32] g) (fun b hb2 => hb b (by simp [hb2]))
    have e2 := T1_rest g (fun x hx => h x (by simp [hx]))
    have hc := hb c (by simp)
    simp [Str.join, trim, hc, e, e2]
theorem sp_app (c : UInt8) (w s : Bs) (h : ∀ b ∈ w, b ≠ c) : sp c (w ++ s) = prep w (sp c s) := by
  induction w with
  | nil => rw [List.nil_append, prep_nil (sp_ne _ _)]
  | cons b r ih =>
    rw [List.cons_append, sp_cons_ne (h b (by simp)), ih (fun x hx => h x (by simp [hx])), prep_prep]; rfl
theorem sp_rest (ws : List Bs) (h : ∀ w ∈ ws, ∀ b ∈ w, b ≠ 32) : sp 32 (Str.rest [32] ws) = [] :: ws := by
  induction ws with
  | nil => rfl
  | cons w r ih =>
    have ih' := ih (fun x hx => h x (by simp [hx]))
    show sp 32 ([32] ++ w ++ Str.rest [32] r) = _
    rw [List.append_assoc, List.singleton_append, sp_cons_eq, sp_app 32 w _ (h w (by simp)), ih']
    simp [prep]
theorem sp_join (w : Bs) (g : List Bs) (h : ∀ x ∈ w :: g, Wd x) : sp 32 (Str.join [32] (w :: g)) = w :: g := by
  show sp 32 (w ++ Str.rest [32] g) = _
  rw [sp_app 32 w _ (fun b hb => bl_ne ((h w (by simp)).2 b hb)), sp_rest g (fun x hx b hb => bl_ne ((h x (by simp [hx])).2 b hb))]
  simp [prep]
theorem rest_app (sep : Bs) (a b : List Bs) : Str.rest sep (a ++ b) = Str.rest sep a ++ Str.rest sep b := by
  induction a with
  | nil => rfl
  | cons x r ih => simp [Str.rest, ih]
theorem join_app (sep : Bs) (a : List Bs) (x : Bs) (h : a ≠ []) : Str.join sep (a ++ [x]) = Str.join sep a ++ sep ++ x := by
  cases a with
  | nil => exact absurd rfl h
  | cons y r => simp [Str.join, rest_app, Str.rest]
theorem prep_rest (w : Bs) (l : List Bs) (h : l ≠ []) : Str.join [32] (prep w l) = w ++ Str.join [32] l := by
  cases l with
  | nil => exact absurd rfl h
  | cons p r => simp [prep, Str.join]
theorem join_sp (s : Bs) : Str.join [32] (sp 32 s) = s := by
  induction s with
  | nil => rfl
  | cons b r ih =>
    by_cases h : b = 32
    · subst h
      rw [sp_cons_eq]
      cases he : sp 32 r with
      | nil => exact absurd he (sp_ne _ _)
      | cons p ps => rw [he] at ih; simp [Str.join, Str.rest] at ih ⊢; exact ih
    · rw [sp_cons_ne h, prep_rest _ _ (sp_ne _ _), ih]; rfl

/-- Words into lines. -/
def wr (n : Nat) (l : Bs) : List Bs → List Bs
  | [] => [l]
  | w :: r => if l.length + 1 + w.length ≤ n then wr n (l ++ ([32] ++ w)) r else l :: wr n w r

/-- What lines are like. -/
def LOk (n : Nat) : Option Bs → List Bs → Prop
  | _, [] => True
  | p, l :: r => (∃ w g, (∀ x ∈ w :: g, Wd x) ∧ l = Str.join [32] (w :: g) ∧ (l.length ≤ n ∨ g = []) ∧ (∀ q, p = some q → n < q.length + 1 + w.length)) ∧ LOk n (some l) r

theorem wr_ok (n : Nat) : ∀ (ws : List Bs) (w : Bs) (g : List Bs) (p : Option Bs), (∀ x ∈ ws, Wd x) → (∀ x ∈ w :: g, Wd x) → ((Str.join [32] (w :: g)).length ≤ n ∨ g = []) → (∀ q, p = some q → n < q.length + 1 + w.length) →
    LOk n p (wr n (Str.join [32] (w :: g)) ws)
  | [], w, g, p, _, h, hn, hp => ⟨⟨w, g, h, rfl, hn, hp⟩, trivial⟩
  | v :: r, w, g, p, hws, h, hn, hp => by
    unfold wr
    by_cases hc : (Str.join [32] (w :: g)).length + 1 + v.length ≤ n
    · rw [if_pos hc]
      have e : Str.join [32] (w :: g) ++ ([32] ++ v) = Str.join [32] (w :: (g ++ [v])) := by
        have := join_app [32] (w :: g) v (by simp)
        rw [List.cons_append] at this; rw [this]; simp
      have el : (Str.join [32] (w :: (g ++ [v]))).length ≤ n := by rw [← e]; simp; omega
      rw [e]
      exact wr_ok n r w (g ++ [v]) p (fun x hx => hws x (by simp [hx])) (fun x hx => by
        rw [← List.cons_append] at hx
        rcases List.mem_append.1 hx with hx | hx
        · exact h x hx
        · have : x = v := by simpa using hx
          subst this; exact hws x (by simp)) (.inl el) hp
    · rw [if_neg hc]
      refine ⟨⟨w, g, h, rfl, hn, hp⟩, ?_⟩
      have := wr_ok n r v [] (some (Str.join [32] (w :: g))) (fun x hx => hws x (by simp [hx])) (by intro x hx; have : x = v := by simpa using hx
                                                                                                    subst this; exact hws x (by simp)) (.inr rfl) (fun q hq => by cases hq; omega)
      have e : Str.join [32] [v] = v := by simp [Str.join, Str.rest]
      rwa [e] at this

theorem wr_ne (n : Nat) : ∀ (ws : List Bs) (l : Bs), wr n l ws ≠ []
  | [], l => by simp [wr]
  | w :: r, l => by
    unfold wr
    split
    · exact wr_ne n r _
    · simp
theorem wr_join (n : Nat) : ∀ (ws : List Bs) (l : Bs), Str.join [32] (wr n l ws) = l ++ Str.rest [32] ws
  | [], l => rfl
  | w :: r, l => by
    unfold wr
    split
    · rw [wr_join n r]; simp [Str.rest]
    · have := wr_join n r w
      cases he : wr n w r with
      | nil => exact absurd he (wr_ne n r w)
      | cons p ps =>
        rw [he] at this
        simp [Str.join, Str.rest] at this ⊢; exact this
theorem rest_len (L : List Bs) : (Str.rest [32] L).length = Str.total L + L.length := by
  induction L with
  | nil => rfl
  | cons x r ih => simp [Str.rest, Str.total, ih]; omega
theorem mem_total {L : List Bs} {l : Bs} (h : l ∈ L) : l.length ≤ Str.total L := by
  induction L with
  | nil => cases h
  | cons x r ih =>
    rcases List.mem_cons.1 h with rfl | h
    · simp [Str.total]
    · have := ih h; simp [Str.total]; omega
theorem join_len (L : List Bs) (h : L ≠ []) : (Str.join [32] L).length + 1 = Str.total L + L.length := by
  cases L with
  | nil => exact absurd rfl h
  | cons x r => simp [Str.join, Str.total, rest_len]; omega

theorem LOk_drop {n : Nat} {L : List Bs} {p : Option Bs} (h : LOk n p L) : ∀ i, i < L.length → ∃ w g, (∀ x ∈ w :: g, Wd x) ∧ L[i]? = some (Str.join [32] (w :: g)) ∧ ((Str.join [32] (w :: g)).length ≤ n ∨ g = []) ∧
    (∀ q, (match i with | 0 => p | j + 1 => L[j]?) = some q → n < q.length + 1 + w.length) := by
  induction L generalizing p with
  | nil => intro i hi; simp at hi
  | cons l r ih =>
    intro i hi
    obtain ⟨⟨w, g, h1, h2, h3, h4⟩, h5⟩ := h
    cases i with
    | zero => exact ⟨w, g, h1, by simp [h2], by rw [← h2]; exact h3, h4⟩
    | succ j =>
      obtain ⟨w', g', a1, a2, a3, a4⟩ := ih h5 j (by simpa using hi)
      refine ⟨w', g', a1, by simpa using a2, a3, ?_⟩
      intro q hq
      cases j with
      | zero => exact a4 q (by simpa using hq)
      | succ k => exact a4 q (by simpa using hq)
end Go.Pn
namespace Go.Pn
open Go.Pv Go.Av

theorem decR_pos (s : Bs) (p : Nat) : 1 ≤ (decR s p).2 := by
  unfold decR Utf8.decode
  simp only
  repeat' split
  all_goals simp

theorem runeStr_len (n : Int) : (runeStr n).length ≤ 4 := by
  unfold runeStr Utf8.encode
  simp only
  repeat' split
  all_goals simp

theorem runeStr_two (n : Int) (h : 128 ≤ n) : 2 ≤ (runeStr n).length ∧ ((runeStr n).length = 2 → ¬ (59 : UInt8) = at_ (runeStr n) 1) := by
  have hc : ¬ (if Utf8.valid n = true then n.toNat else Utf8.runeError) < 128 := by
    split
    · omega
    · decide
  unfold runeStr Utf8.encode
  simp only
  generalize (if Utf8.valid n = true then n.toNat else Utf8.runeError) = c at hc ⊢
  rw [if_neg hc]
  by_cases h2 : c < 2048
  · rw [if_pos h2]
    refine ⟨by simp, fun _ => ?_⟩
    show ¬ (59 : UInt8) = UInt8.ofNat (128 + c % 64)
    intro e
    have := congrArg UInt8.toNat e
    rw [UInt8.toNat_ofNat'] at this
    have e59 : (59 : UInt8).toNat = 59 := rfl
    omega
  · rw [if_neg h2]
    split <;> simp

theorem idxRune_two (F : Nat) (hF : 5 ≤ F) (r : Int) : ∃ j, idxRune F [38, 59] r = some j := by
  unfold idxRune
  by_cases h1 : 0 ≤ r ∧ r < 128
  · simp only [h1, decide_true, Bool.and_self, cond_true]; exact ⟨_, rfl⟩
  · have hf : ((decide (0 ≤ r)) && (decide (r < 128))) = false := by
      cases h : (decide (0 ≤ r)) && (decide (r < 128)) with
      | false => rfl
      | true => exact absurd (by simpa using h) h1
    rw [hf, cond_false]
    by_cases h2 : r = 65533
    · rw [bT h2]
      obtain ⟨m, rfl⟩ : ∃ m, F = m + 3 := ⟨F - 3, by omega⟩
      have e0 : decR [38, 59] 0 = (38, 1) := by decide +kernel
      have e1 : decR [38, 59] 1 = (59, 1) := by decide +kernel
      refine ⟨-1, ?_⟩
      show idxRune_B1 [38, 59] (idxRune_L1 [38, 59] (m + 2)) 0 = _
      unfold idxRune_B1
      simp only [e0]
      show idxRune_B1 [38, 59] (idxRune_L1 [38, 59] (m + 1)) 1 = _
      unfold idxRune_B1
      simp only [e1]
      rfl
    · rw [bF h2]
      have hv : ∃ b, ValidRune F r = some b ∧ (b = true → 0 ≤ r) := by
        unfold ValidRune
        by_cases ha : 0 ≤ r ∧ r < 55296
        · refine ⟨true, ?_, fun _ => ha.1⟩; simp [ha]
        · by_cases hb : 57343 < r ∧ r ≤ 1114111
          · refine ⟨true, ?_, fun _ => by omega⟩; simp [hb]
          · refine ⟨false, ?_, fun h => by cases h⟩
            have e1 : ((decide (0 ≤ r)) && (decide (r < 55296))) = false := by
              cases h : (decide (0 ≤ r)) && (decide (r < 55296)) with
              | false => rfl
              | true => exact absurd (by simpa using h) ha
            have e2 : ((decide (57343 < r)) && (decide (r ≤ 1114111))) = false := by
              cases h : (decide (57343 < r)) && (decide (r ≤ 1114111)) with
              | false => rfl
              | true => exact absurd (by simpa using h) hb
            rw [e1, e2]; rfl
      obtain ⟨b, hb, hp⟩ := hv
      rw [hb, bnd_some]
      cases b with
      | false => exact ⟨-1, rfl⟩
      | true =>
        have hr : 128 ≤ r := by have := hp rfl; omega
        obtain ⟨k1, k2⟩ := runeStr_two r hr
        have k3 := runeStr_len r
        obtain ⟨m, rfl⟩ : ∃ m, F = m + 1 := ⟨F - 1, by omega⟩
        refine ⟨-1, ?_⟩
        simp (disch := omega) only [Bool.not_true, cond_false, lt_eq, grd_I]
        show idxRune_B2 [38, 59] (runeStr r) (idxRune_L2 [38, 59] (runeStr r) m) = _
        unfold idxRune_B2 idxRune_j2
        by_cases h3 : (runeStr r).length = 2
        · have e1 : ((runeStr r).length : Int) - 1 = 1 := by omega
          have e2 : at_ ([38, 59] : Bs) 1 = 59 := rfl
          have e3 : from_ ([38, 59] : Bs) (1 + 1) = [] := rfl
          rw [e1]
          simp (disch := (first | omega | (simp; done) | (simp; omega))) only [bT, grd_At, lt_eq, e2, decide_eq_false (k2 h3), Bool.not_false, grd_t, grd_I, grd_To, e3]
          rfl
        · have : ¬ ((runeStr r).length : Int) - 1 < (([38, 59] : Bs).length : Int) := by simp; omega
          rw [bF this]

theorem indexByte_r (s : Bs) (c : UInt8) : -1 ≤ Go.Lib.indexByte s c ∧ Go.Lib.indexByte s c < s.length := by
  induction s with
  | nil => simp [Go.Lib.indexByte]
  | cons b r ih =>
    unfold Go.Lib.indexByte
    split
    · first | (simp; done) | (simp; omega)
    · split
      · first | (simp; done) | (simp; omega)
      · rename_i h
        have h' : ¬ Go.Lib.indexByte r c = -1 := by simpa using h
        simp; omega
theorem indexAny_r (s cs : Bs) : -1 ≤ Go.Lib.indexAny s cs ∧ Go.Lib.indexAny s cs < s.length := by
  induction s with
  | nil => simp [Go.Lib.indexAny]
  | cons b r ih =>
    unfold Go.Lib.indexAny
    split
    · first | (simp; done) | (simp; omega)
    · split
      · first | (simp; done) | (simp; omega)
      · rename_i h
        have h' : ¬ Go.Lib.indexAny r cs = -1 := by simpa using h
        simp; omega

theorem idxAnyG_loop (F : Nat) (hF : 5 ≤ F) (s : Bs) : ∀ (n y : Nat), s.length - y < n → ∃ j, idxAnyG_L1 F s [38, 59] n y = some j ∧ -1 ≤ j ∧ j < s.length := by
  intro n
  induction n with
  | zero => intro y h; omega
  | succ n ih =>
    intro y hy
    show ∃ j, idxAnyG_B1 F s [38, 59] (idxAnyG_L1 F s [38, 59] n) y = some j ∧ _
    unfold idxAnyG_B1 idxAnyG_j2
    by_cases h : y < s.length
    · rw [bT h]
      obtain ⟨j, hj⟩ := idxRune_two F hF ((decR s y).1 : Int)
      rw [hj, bnd_some]
      by_cases h0 : 0 ≤ j
      · rw [bT h0]; exact ⟨_, rfl, by omega, by omega⟩
      · rw [bF h0]
        have := decR_pos s y
        exact ih _ (by omega)
    · rw [bF h]; exact ⟨-1, rfl, by omega, by omega⟩

theorem idxAny_two (F : Nat) (s : Bs) (hF : 20 ≤ F) : ∃ j, idxAny F s [38, 59] = some j ∧ -1 ≤ j ∧ j < s.length := by
  unfold idxAny
  by_cases h : 8 < s.length
  · obtain ⟨h1, h2⟩ := indexAny_r s [38, 59]
    refine ⟨Go.Lib.indexAny s [38, 59], ?_, h1, h2⟩
    simp [h]
  · have e : ((decide (8 < s.length)) && (decide (2 ≤ ([38, 59] : Bs).length))) = false := by simp [h]
    rw [e, cond_false]
    unfold idxAnyG useSet idxAnyG_j3
    have e3 : decide ((8 : Int) < (s.length : Int)) = false := decide_eq_false (by omega)
    simp (disch := (first | omega | (simp; done) | (simp; omega))) only [bF, bnd_some, e3, Bool.not_false, grd_t]
    exact idxAnyG_loop F (by omega) s F 0 (by omega)

theorem contains_one (F : Nat) (s : Bs) (hs : s.length ≤ 1000) : ∃ b, containsAny F s [95] = some b := by
  unfold containsAny idxAny idxAnyG idxAnyG_j1 idxRune
  have e : ((decide (8 < s.length)) && (decide (2 ≤ ([95] : Bs).length))) = false := by simp
  have e2 : at_ ([95] : Bs) 0 = 95 := rfl
  have e3 : asciiB [95] = true := by decide
  have e4 : ((95 : UInt8).toNat : Int) = 95 := rfl
  rw [e, cond_false]
  simp (disch := (first | omega | (simp; done) | (simp; omega))) only [e3, grd_t, grd_S, bF, bT, grd_At, lt_eq, e2, e4, grd_J]
  exact ⟨_, rfl⟩

theorem wrap_nn (x : Int) : 0 ≤ IntKind.u64.wrap x := by
  have : IntKind.u64.wrap x = x % 18446744073709551616 := rfl
  rw [this]; omega

/-- The answer of a number's reading. -/
def Ok3 (r : Option (Int × Int)) : Prop := ∃ v e, r = some (v, e) ∧ 0 ≤ v ∧ (e = 0 ∨ e = 1 ∨ e = 2)

theorem uint_loop (F : Nat) (s : Bs) (b c : Int) (hb : b = 10 ∨ b = 16) (hs : s.length ≤ 1000) : ∀ (n i : Nat) (v : Int), s.length - i < n → 0 ≤ v → Ok3 (sc_ParseUint_L1 F s b c n (false, v, (i : Int))) := by
  intro n
  induction n with
  | zero => intro i v h; omega
  | succ n ih =>
    intro i v hn hv
    show Ok3 (sc_ParseUint_B1 F s b c (sc_ParseUint_L1 F s b c n) false v (i : Int))
    unfold sc_ParseUint_B1 sc_ParseUint_j1 sc_lower
    by_cases h : i < s.length
    · have key : ∀ d : UInt8, Ok3 (sc_ParseUint_j3 b c false v (i : Int) (sc_ParseUint_L1 F s b c n) d) := by
        intro d
        unfold sc_ParseUint_j3 sc_ParseUint_j2
        cases decide (((Go.Av.toB b).toNat : Int) ≤ (d.toNat : Int)) with
        | true => exact ⟨0, 2, rfl, by omega, by omega⟩
        | false =>
          rw [cond_false]
          cases decide (c ≤ v) with
          | true => exact ⟨_, 1, rfl, wrap_nn _, by omega⟩
          | false =>
            rw [cond_false]
            generalize ((decide (IntKind.u64.wrap ((IntKind.u64.wrap (v * (IntKind.u64.wrap b))) + (IntKind.u64.wrap (d.toNat : Int))) < IntKind.u64.wrap (v * (IntKind.u64.wrap b)))) || (decide (IntKind.u64.wrap ((IntKind.u64.wrap (1 * 2 ^ min (Int.toNat (IntKind.u64.wrap 64)) IntKind.u64.bits)) - 1) < IntKind.u64.wrap ((IntKind.u64.wrap (v * (IntKind.u64.wrap b))) + (IntKind.u64.wrap (d.toNat : Int)))))) = q
            cases q with
            | true => exact ⟨_, 1, rfl, wrap_nn _, by omega⟩
            | false =>
              rw [cond_false, grd_I (by omega), cast_succ]
              exact ih _ _ (by omega) (wrap_nn _)
      have hb0 : decide (b = 0) = false := decide_eq_false (by omega)
      simp (disch := omega) only [bT, grd_At, lt_eq, at_nat h, hb0, Bool.and_false, cond_false, bnd_some, bndc_some]
      generalize ((decide (48 ≤ ((s[i]).toNat : Int))) && (decide (((s[i]).toNat : Int) ≤ 57))) = q1
      cases q1 with
      | true => exact key _
      | false =>
        rw [cond_false]
        generalize ((decide (97 ≤ ((s[i] ||| 32).toNat : Int))) && (decide ((((bif decide (97 ≤ ((s[i] ||| 32).toNat : Int)) then (s[i] ||| 32) else default) : UInt8).toNat : Int) ≤ 122))) = q2
        cases q2 with
        | true => exact key _
        | false => exact ⟨0, 2, rfl, by omega, by omega⟩
    · rw [bF (by omega), bndc_f]
      exact ⟨v, 0, rfl, hv, by omega⟩

theorem uint_tot (F : Nat) (s : Bs) (b : Int) (hb : b = 10 ∨ b = 16) (hs : s.length ≤ 1000) (hF : s.length < F) : Ok3 (sc_ParseUint F s b 0) := by
  unfold sc_ParseUint sc_ParseUint_j6 sc_ParseUint_j5 sc_ParseUint_j4
  by_cases h0 : s = []
  · rw [bT h0]; exact ⟨0, 2, rfl, by omega, by omega⟩
  · rw [bF h0]
    have h2 : ((decide (2 ≤ b)) && (decide (b ≤ 36))) = true := by rcases hb with rfl | rfl <;> rfl
    have hw := wrap_nn 64
    rw [h2, grd_t, grd_D rfl]
    have go := fun c => uint_loop F s b c hb hs F 0 0 (by omega) (by omega)
    rcases hb with rfl | rfl
    · rw [bT rfl, grd_D hw, grd_Cat (by omega)]; exact go _
    · rw [bF (by omega), bT rfl, grd_D hw, grd_Cat (by omega)]; exact go _

theorem int_tot (F : Nat) (s : Bs) (b : Int) (hb : b = 10 ∨ b = 16) (hs : s.length ≤ 1000) (hF : s.length < F) (h43 : at_ s 0 ≠ 43) (h45 : at_ s 0 ≠ 45) : ∃ v e, strconv_ParseInt F s b 0 = some (v, e) := by
  have hi : ∃ v e, sc_ParseInt F s b 0 = some (v, e) ∧ (e = 0 ∨ e = 1 ∨ e = 2) := by
    unfold sc_ParseInt sc_ParseInt_j3 sc_ParseInt_j2 sc_ParseInt_j1
    by_cases h0 : s = []
    · rw [bT h0]; exact ⟨0, 2, rfl, by omega⟩
    · have hp : 0 < s.length := List.length_pos_iff.2 h0
      obtain ⟨v, e, hv, hv0, he⟩ := uint_tot F s b hb hs hF
      have e1 : IntKind.u64.wrap (1 * 2 ^ min (Int.toNat (IntKind.u64.wrap (64 - 1))) IntKind.u64.bits) = 9223372036854775808 := by decide +kernel
      have e2 : (0 : Int) ≤ IntKind.u64.wrap (64 - 1) := by decide +kernel
      have e3 : IntKind.u64.wrap (9223372036854775808 - 1) = 9223372036854775807 := by decide +kernel
      simp (disch := omega) only [bF, grd_At, lt_eq, hv, bnd2_some, e1, e3, grd_D e2, grd_I, grd_D, Bool.not_false, Bool.true_and, Bool.false_and, cond_false]
      rcases he with rfl | rfl | rfl
      · rw [show ((!decide ((0 : Int) = 0)) && (!decide ((0 : Int) = 1))) = false by rfl, cond_false]
        by_cases hb : (9223372036854775808 : Int) ≤ v
        · rw [bT hb]; exact ⟨_, 1, rfl, by omega⟩
        · rw [bF hb, grd_I (by omega)]; exact ⟨_, 0, rfl, by omega⟩
      · rw [show ((!decide ((1 : Int) = 0)) && (!decide ((1 : Int) = 1))) = false by rfl, cond_false]
        by_cases hb : (9223372036854775808 : Int) ≤ v
        · rw [bT hb]; exact ⟨_, 1, rfl, by omega⟩
        · rw [bF hb, grd_I (by omega)]; exact ⟨_, 0, rfl, by omega⟩
      · rw [show ((!decide ((2 : Int) = 0)) && (!decide ((2 : Int) = 1))) = true by rfl, cond_true]
        exact ⟨_, 2, rfl, by omega⟩
  obtain ⟨v, e, hv, he⟩ := hi
  unfold strconv_ParseInt
  rw [hv, bnd2_some]
  rcases he with rfl | rfl | rfl
  · exact ⟨_, _, rfl⟩
  · rw [show (!decide ((1 : Int) = 0)) = true by rfl, cond_true, grd_S (by omega), grd_D (by omega)]; exact ⟨_, _, rfl⟩
  · rw [show (!decide ((2 : Int) = 0)) = true by rfl, cond_true, grd_S (by omega), grd_D (by omega)]; exact ⟨_, _, rfl⟩

theorem rune_tot (F : Nat) (r : Int) : ∃ o b, ent_Rune F r = some (o, b) ∧ o.length ≤ 4 := by
  have fin : -2147483648 ≤ r ∧ r ≤ 2147483647 → ∃ o b, grd (okJ r) (lt (runeStr r) fun x17 => some (x17, true)) = some (o, b) ∧ o.length ≤ 4 := by
    intro h; rw [grd_J h]; exact ⟨_, _, rfl, runeStr_len r⟩
  unfold ent_Rune ent_in
  simp only [bndc_some]
  cases hA : ((decide (r = 9)) || (decide (r = 10))) || (decide (r = 13)) with
  | true =>
    have : r = 9 ∨ r = 10 ∨ r = 13 := by simpa [or_assoc] using hA
    simp only [Bool.not_true, Bool.false_and, cond_false]
    exact fin (by omega)
  | false =>
    simp only [Bool.not_false, Bool.true_and, cond_true]
    cases h7 : (decide (32 ≤ r)) && (decide (r ≤ 55295)) with
    | true =>
      have : 32 ≤ r ∧ r ≤ 55295 := by simpa using h7
      simp only [Bool.not_true, Bool.false_and, cond_false]
      exact fin (by omega)
    | false =>
      simp only [Bool.not_false, Bool.true_and, cond_true]
      cases h10 : (decide (57344 ≤ r)) && (decide (r ≤ 65533)) with
      | true =>
        have : 57344 ≤ r ∧ r ≤ 65533 := by simpa using h10
        simp only [Bool.not_true, Bool.false_and, cond_false]
        exact fin (by omega)
      | false =>
        simp only [Bool.not_false, Bool.true_and, cond_true]
        cases h13 : (decide (65536 ≤ r)) && (decide (r ≤ 1114111)) with
        | true =>
          have : 65536 ≤ r ∧ r ≤ 1114111 := by simpa using h13
          simp only [Bool.not_true, Bool.false_and, cond_false]
          exact fin (by omega)
        | false => exact ⟨[], false, rfl, by simp⟩

theorem number_tot (F : Nat) (s : Bs) (b : Int) (hb : b = 10 ∨ b = 16) (hs : s.length ≤ 1000) (hF : s.length < F) : ∃ o k, ent_number F s b = some (o, k) ∧ o.length ≤ 4 := by
  obtain ⟨cb, hcb⟩ := contains_one F s hs
  have no : ∃ o k, (some (([] : Bs), false) : Option (Bs × Bool)) = some (o, k) ∧ o.length ≤ 4 := ⟨[], false, rfl, by simp⟩
  unfold ent_number
  cases s with
  | nil => simp [grdc_f, lt_eq, bndc_f]
  | cons c r =>
    have h0 : decide ((c :: r) = []) = false := decide_eq_false (by simp)
    have ha : at_ (c :: r) 0 = c := rfl
    have hg : ∀ (q : Bool) (k : Option (Bs × Bool)), grdc q (okAt 0 (c :: r).length) k = k := fun q k => grdc_At (fun _ => by simp)
    simp only [hg, h0, lt_eq, ha, hcb, bndc_some, Bool.false_or]
    by_cases h1 : c = 43
    · simp [h1]
    · by_cases h2 : c = 45
      · simp [h2]
      · by_cases h3 : c = 95
        · simp [h3]
        · simp only [h1, h2, h3, decide_false, Bool.or_self, Bool.false_or, Bool.not_false, cond_true]
          cases cb with
          | true => exact no
          | false =>
            obtain ⟨v, e, hv⟩ := int_tot F (c :: r) b hb hs hF (by rw [ha]; exact h1) (by rw [ha]; exact h2)
            rw [cond_false, hv, bnd2_some]
            cases hz : (!decide (e = 0)) with
            | true => exact no
            | false =>
              obtain ⟨o, k, ho, hl⟩ := rune_tot F v
              rw [cond_false, ho, bnd2_some]
              exact ⟨o, k, rfl, hl⟩

theorem sign_tot (F : Nat) (s : Bs) (hs : s.length ≤ 1000) (hF : s.length < F) : ∃ o k, ent_sign F s = some (o, k) ∧ o.length ≤ 4 := by
  have htp : ∀ p, (Go.Lib.trimPrefix s p).length ≤ s.length := by
    intro p; unfold Go.Lib.trimPrefix; split <;> simp
  unfold ent_sign ent_signs
  simp only [bnd_some, lt_eq]
  generalize ([(([97, 109, 112] : List UInt8), (38 : Int)), (([108, 116] : List UInt8), 60), (([103, 116] : List UInt8), 62), (([113, 117, 111, 116] : List UInt8), 34), (([97, 112, 111, 115] : List UInt8), 39)] : List (List UInt8 × Int)) = m
  cases Go.Av.mhas m s with
  | true => exact ⟨_, _, rfl, runeStr_len _⟩
  | false =>
    rw [cond_false]
    cases Go.Lib.hasPrefix s [35, 120] with
    | true =>
      have := htp [35, 120]
      obtain ⟨o, k, ho, hl⟩ := number_tot F (Go.Lib.trimPrefix s [35, 120]) 16 (.inr rfl) (by omega) (by omega)
      rw [cond_true, ho, bnd2_some]; exact ⟨o, k, rfl, hl⟩
    | false =>
      rw [cond_false]
      cases Go.Lib.hasPrefix s [35] with
      | true =>
        have := htp [35]
        obtain ⟨o, k, ho, hl⟩ := number_tot F (Go.Lib.trimPrefix s [35]) 10 (.inl rfl) (by omega) (by omega)
        rw [cond_true, ho, bnd2_some]; exact ⟨o, k, rfl, hl⟩
      | false => exact ⟨[], false, rfl, by simp⟩

theorem first_tot (F : Nat) (s : Bs) (h1 : 1 ≤ s.length) (hs : s.length ≤ 1000) (hF : s.length + 20 < F) : ∃ o k, ent_first F s = some (o, k) ∧ (k = 0 ∨ (3 ≤ k ∧ k ≤ s.length ∧ o.length ≤ 4)) := by
  have no : ∃ o k, (some (([] : Bs), (0 : Int)) : Option (Bs × Int)) = some (o, k) ∧ (k = 0 ∨ (3 ≤ k ∧ k ≤ s.length ∧ o.length ≤ 4)) := ⟨[], 0, rfl, .inl rfl⟩
  have hl : (from_ s 1).length = s.length - 1 := by simp [from_]
  obtain ⟨j, hj, hj1, hj2⟩ := idxAny_two F (from_ s 1) (by omega)
  have ha : asciiB [38, 59] = true := by decide
  unfold ent_first ent_in
  simp (disch := (first | omega | (simp; done) | (simp; omega))) only [grd_To, lt_eq, ha, grd_t, grd_S, hj, bnd_some]
  by_cases h : 1 ≤ j ∧ j ≤ 10
  · have hx : ((decide (1 ≤ j)) && (decide (j ≤ 10))) = true := by simp [h]
    simp (disch := (first | omega | (simp; done) | (simp; omega))) only [hx, Bool.not_true, Bool.not_false, grdc_t, grd_I, grd_At, Bool.false_or]
    cases decide (at_ s (j + 1) = 38) with
    | true => exact no
    | false =>
      have hsub : (sub s 1 (j + 1)).length ≤ s.length := by simp [sub]; omega
      obtain ⟨o, k, ho, hol⟩ := sign_tot F (sub s 1 (j + 1)) (by omega) (by omega)
      simp (disch := (first | omega | (simp; done) | (simp; omega))) only [cond_false, grd_Sub, lt_eq, ho, bnd2_some]
      cases k with
      | false => exact no
      | true =>
        simp (disch := (first | omega | (simp; done) | (simp; omega))) only [Bool.not_true, cond_false, grd_I]
        exact ⟨o, j + 2, rfl, .inr ⟨by omega, by omega, hol⟩⟩
  · have hx : ((decide (1 ≤ j)) && (decide (j ≤ 10))) = false := by
      cases hq : (decide (1 ≤ j)) && (decide (j ≤ 10)) with
      | false => rfl
      | true => exact absurd (by simpa using hq) h
    simp only [hx, Bool.not_false, Bool.not_true, grdc_f, Bool.true_or, cond_true]
    exact no

theorem gone_tot (F : Nat) : ∀ (n : Nat) (s : Bs) (ok : Bool) (acc : Bs), s.length < n → s.length ≤ 1000 → s.length + 20 < F → acc.length + 2 * s.length ≤ 10000 → ∃ o k, ent_gone_L1 F n (s, ok, acc) = some (o, k) ∧ o.length ≤ acc.length + 2 * s.length := by
  intro n
  induction n with
  | zero => intro s ok acc h; omega
  | succ n ih =>
    intro s ok acc hn hs hF ha
    show ∃ o k, ent_gone_B1 F (ent_gone_L1 F n) s ok acc = some (o, k) ∧ _
    unfold ent_gone_B1 ent_gone_j1
    obtain ⟨hi1, hi2⟩ := indexByte_r s 38
    by_cases h : Go.Lib.indexByte s 38 < 0
    · simp (disch := (first | omega | (simp; done) | (simp; omega))) only [lt_eq, bT, grd_W]
      exact ⟨_, _, rfl, by simp; omega⟩
    · obtain ⟨i, hi⟩ : ∃ i : Nat, Go.Lib.indexByte s 38 = i := ⟨(Go.Lib.indexByte s 38).toNat, by omega⟩
      have il : i < s.length := by omega
      have l1 : (to_ s (i : Int)).length = i := by simp [to_nat]; omega
      have l2 : (from_ s (i : Int)).length = s.length - i := by simp [from_nat]
      obtain ⟨o, k, ho, hk⟩ := first_tot F (from_ s (i : Int)) (by omega) (by omega) (by omega)
      simp (disch := (first | omega | (simp; done) | (simp; omega))) only [lt_eq, hi, bF, grd_To, grd_W, ho, bnd2_some]
      rcases hk with rfl | ⟨k3, kl, ol⟩
      · have l3 : (from_ (from_ s (i : Int)) 1).length = s.length - i - 1 := by simp [from_, l2]; omega
        simp (disch := (first | omega | (simp; done) | (simp; omega))) only [decide_true, cond_true, grd_W, lt_eq, grd_To]
        obtain ⟨o', k', e1, e2⟩ := ih (from_ (from_ s (i : Int)) 1) false (acc ++ to_ s (i : Int) ++ [38]) (by omega) (by omega) (by omega) (by simp; omega)
        exact ⟨o', k', e1, by simp at e2; omega⟩
      · have l3 : (from_ (from_ s (i : Int)) k).length = s.length - i - k.toNat := by simp [from_]; omega
        simp (disch := (first | omega | (simp; done) | (simp; omega))) only [bF, grd_W, lt_eq, grd_To]
        obtain ⟨o', k', e1, e2⟩ := ih (from_ (from_ s (i : Int)) k) ok (acc ++ to_ s (i : Int) ++ o) (by omega) (by omega) (by omega) (by simp; omega)
        exact ⟨o', k', e1, by simp at e2; omega⟩

theorem loose_tot (F : Nat) (s : Bs) (hs : s.length ≤ 1000) (hF : s.length + 20 < F) : ∃ q, ent_Loose F s = some q ∧ q.length ≤ 2 * s.length := by
  obtain ⟨o, k, h1, h2⟩ := gone_tot F F s true [] (by omega) hs hF (by simp; omega)
  unfold ent_Loose ent_gone
  rw [h1, bnd2_some]
  exact ⟨o, rfl, by simpa using h2⟩
end Go.Pn
namespace Go.Pn
open Go.Pv Go.Av

theorem awakeL : law11_awake 10000 = some true := by decide +kernel

theorem one_tot (F : Nat) (l k : Bs) (i : Nat) : ∃ b, plain_one F l (i : Int) k = some b ∧ (b = true → i < l.length) := by
  by_cases h : i < l.length
  · exact ⟨_, one_in F l k i h, fun _ => h⟩
  · refine ⟨false, ?_, fun h => by cases h⟩
    unfold plain_one
    have hd : decide ((i : Int) < (l.length : Int)) = false := decide_eq_false (by omega)
    simp only [hd, grdc_f, lt_eq, Bool.false_and]

theorem index_up (s u : Bs) : Go.Lib.index s u ≤ s.length := by
  induction s with
  | nil => unfold Go.Lib.index; split <;> simp
  | cons b r ih =>
    unfold Go.Lib.index
    split
    · simp; omega
    · split
      · simp; omega
      · simp; omega

theorem cut_rest (x u : Bs) (hx : 1 ≤ x.length) (hu : 1 ≤ u.length) : (Go.Lib.cut x u).2.1.length + 1 ≤ x.length := by
  unfold Go.Lib.cut
  split
  · simp; omega
  · simpa using hx

theorem j3_tot (F : Nat) (x l : Bs) (i : Nat) (hx : 1 ≤ x.length) (hs : x.length ≤ 1000) (hF : x.length < F) (hl : l.length ≤ 1000) (hlF : l.length < F) (hi : i ≤ l.length) : ∃ nm q, cut_mark_j3 F x l (i : Int) = some (nm, q) ∧ q.length + 1 ≤ x.length := by
  have hc := cut_rest x [62] hx (by simp)
  have ht : (to_ l (i : Int)).length ≤ l.length := by simp [to_nat]; omega
  unfold cut_mark_j3 cut_mark_j1
  simp (disch := (first | omega | (simp; done) | (simp; omega))) only [grd_To, lt_eq, small_eq F (to_ l (i : Int)) (by omega) (by omega), bnd_some, grd_S]
  generalize hg : (to_ l (i : Int)).map low = nm
  have hnm : nm.length ≤ l.length := by rw [← hg]; simp; omega
  generalize ((!(decide ((l.length : Int) < (x.length : Int) - 1))) && ((decide (nm = ([115, 99, 114, 105, 112, 116] : List UInt8))) || (decide (nm = ([115, 116, 121, 108, 101] : List UInt8))))) = cnd
  cases cnd with
  | false => exact ⟨nm, _, rfl, hc⟩
  | true =>
    have hm : ((Go.Lib.cut x [62]).2.1.map low).length = (Go.Lib.cut x [62]).2.1.length := by simp
    simp (disch := (first | omega | (simp; done) | (simp; omega))) only [cond_true, small_eq F (Go.Lib.cut x [62]).2.1 (by omega) (by omega), bnd_some, grd_Cat, lt_eq, grd_S, hm]
    have h1 := index_up ((Go.Lib.cut x [62]).2.1.map low) ([60, 47] ++ nm)
    have h2 := Go.Lib.index_ge ((Go.Lib.cut x [62]).2.1.map low) ([60, 47] ++ nm)
    generalize Go.Lib.index ((Go.Lib.cut x [62]).2.1.map low) ([60, 47] ++ nm) = j at h1 h2 ⊢
    unfold cut_mark_j2 cut_mark_j1
    by_cases hj : j < 0
    · rw [bT hj, grd_To (by omega), lt_eq]
      exact ⟨nm, _, rfl, by simp [from_]; omega⟩
    · rw [bF hj, grd_To (by omega), lt_eq]
      exact ⟨nm, _, rfl, by simp [from_]; omega⟩

theorem mark_tot (F : Nat) (x : Bs) (ys : List Bs) (sb : Bs) (hx : 1 ≤ x.length) (hs : x.length ≤ 1000) (hF : x.length < F) : ∃ nm q, cut_mark F x ys sb = some (nm, q) ∧ q.length + 1 ≤ x.length := by
  have h1 : (from_ x 1).length = x.length - 1 := by simp [from_]
  have h2 : (Go.Lib.trimPrefix (from_ x 1) [47]).length ≤ x.length - 1 := by
    unfold Go.Lib.trimPrefix; split <;> first | omega | (simp; omega)
  unfold cut_mark
  simp (disch := (first | omega | (simp; done) | (simp; omega))) only [grd_To, lt_eq, grd_I]
  generalize Go.Lib.trimPrefix (from_ x 1) [47] = l at h2 ⊢
  have key : ∀ (n i : Nat), l.length - i < n → i ≤ l.length → ∃ nm q, cut_mark_L1 F x l n (i : Int) = some (nm, q) ∧ q.length + 1 ≤ x.length := by
    intro n
    induction n with
    | zero => intro i h; omega
    | succ n ih =>
      intro i hn hi
      show ∃ nm q, cut_mark_B1 F x l (cut_mark_L1 F x l n) (i : Int) = some (nm, q) ∧ _
      unfold cut_mark_B1
      obtain ⟨b, hb, hlt⟩ := one_tot F l plaina_k1 i
      rw [hb, bnd_some]
      cases b with
      | true =>
        have := hlt rfl
        rw [cond_true, grd_I (by omega), cast_succ]
        exact ih _ (by omega) (by omega)
      | false => exact j3_tot F x l i hx hs hF (by omega) (by omega) hi
  exact key F 0 (by omega) (by omega)

theorem total_app (a b : List Bs) : Str.total (a ++ b) = Str.total a + Str.total b := by
  induction a with
  | nil => simp [Str.total]
  | cons x r ih => simp [Str.total, ih]; omega

theorem end_eq (F : Nat) (p : Bs) (ys : List Bs) (sb : Bs) (h1 : sb.length ≤ 100000) (h2 : ys.length ≤ 100000) : cut_end F p ys sb = some (ys ++ [sb]) := by
  unfold cut_end cut_end_j1
  simp (disch := (first | omega | (simp; done) | (simp; omega))) only [grd_W, grd_Cat, lt_eq]

theorem all_tot (F : Nat) (br : List (List UInt8 × Int)) : ∀ (n : Nat) (s : Bs) (ys : List Bs) (acc : Bs), s.length < n → s.length ≤ 1000 → s.length < F → ys.length + s.length ≤ 2000 → acc.length + s.length ≤ 2000 →
    ∃ ps, cut_all_L1 F n (br, s, ys, acc) = some ps ∧ Str.total ps ≤ Str.total ys + acc.length + s.length ∧ ps.length ≤ ys.length + s.length + 1 := by
  intro n
  induction n with
  | zero => intro s ys acc h; omega
  | succ n ih =>
    intro s ys acc hn hs hF hy ha
    show ∃ ps, cut_all_B1 F (cut_all_L1 F n) br s ys acc = some ps ∧ _
    unfold cut_all_B1
    obtain ⟨hi1, hi2⟩ := indexByte_r s 60
    by_cases h : Go.Lib.indexByte s 60 < 0
    · simp (disch := (first | omega | (simp; done) | (simp; omega))) only [lt_eq, bT, grd_W, end_eq, bnd_some]
      refine ⟨_, rfl, ?_, by simp⟩
      rw [total_app]; simp [Str.total]; omega
    · obtain ⟨i, hi⟩ : ∃ i : Nat, Go.Lib.indexByte s 60 = i := ⟨(Go.Lib.indexByte s 60).toNat, by omega⟩
      have il : i < s.length := by omega
      have l1 : (to_ s (i : Int)).length = i := by simp [to_nat]; omega
      have l2 : (from_ s (i : Int)).length = s.length - i := by simp [from_nat]
      have l3 : (acc ++ to_ s (i : Int)).length = acc.length + i := by simp [l1]
      obtain ⟨b, hb, _⟩ := one_tot F (from_ s (i : Int)) plaina_k2 1
      rw [show ((1 : Nat) : Int) = 1 from rfl] at hb
      simp (disch := (first | omega | (simp; done) | (simp; omega))) only [lt_eq, hi, bF, grd_To, grd_W, hb, bnd_some]
      cases b with
      | false =>
        have l4 : (from_ (from_ s (i : Int)) 1).length = s.length - i - 1 := by first | (simp [from_, l2]; done) | (simp [from_, l2]; omega)
        have l5 : (acc ++ to_ s (i : Int) ++ [60]).length = acc.length + i + 1 := by first | (simp [l1]; done) | (simp [l1]; omega)
        simp (disch := (first | omega | (simp; done) | (simp; omega))) only [Bool.not_false, cond_true, grd_W, lt_eq, grd_To]
        obtain ⟨ps, e1, e2, e3⟩ := ih (from_ (from_ s (i : Int)) 1) ys (acc ++ to_ s (i : Int) ++ [60]) (by omega) (by omega) (by omega) (by omega) (by omega)
        exact ⟨ps, e1, by omega, by omega⟩
      | true =>
        obtain ⟨nm, q, hm, hq⟩ := mark_tot F (from_ s (i : Int)) ys (acc ++ to_ s (i : Int)) (by omega) (by omega) (by omega)
        simp (disch := (first | omega | (simp; done) | (simp; omega))) only [Bool.not_true, cond_false, hm, bnd2_some, end_eq, bnd_some]
        cases decide (0 < Go.Av.mget br nm) with
        | true =>
          have l6 : (ys ++ [acc ++ to_ s (i : Int)]).length = ys.length + 1 := by simp
          have l7 : Str.total (ys ++ [acc ++ to_ s (i : Int)]) = Str.total ys + (acc.length + i) := by rw [total_app]; simp [Str.total, l1]
          obtain ⟨ps, e1, e2, e3⟩ := ih q (ys ++ [acc ++ to_ s (i : Int)]) [] (by omega) (by omega) (by omega) (by omega) (by simp; omega)
          simp only [List.length_nil] at e2
          exact ⟨ps, e1, by omega, by omega⟩
        | false =>
          obtain ⟨ps, e1, e2, e3⟩ := ih q ys (acc ++ to_ s (i : Int)) (by omega) (by omega) (by omega) (by omega) (by omega)
          exact ⟨ps, e1, by omega, by omega⟩

theorem lines_total (qs : List Bs) : Str.total (linesOf qs) ≤ Str.total qs ∧ (linesOf qs).length ≤ qs.length := by
  induction qs with
  | nil => simp [linesOf, Str.total]
  | cons q r ih =>
    have := trim_len q
    unfold linesOf
    split <;> simp [Str.total] <;> omega

def brsL : List (List UInt8 × Int) := (plain_breaking 10000).getD []
theorem brsL_eq : plain_breaking 10000 = some brsL := rfl
/-- A plain text, of any text. -/
theorem of_tot (s : Bs) (hs : s.length ≤ 1000) : ∃ qs, plain_Of 10000 s = some (Str.join [10] (linesOf qs)) ∧ (Str.join [10] (linesOf qs)).length ≤ 4000 := by
  obtain ⟨ps, hps, ht, hn⟩ := all_tot 10000 brsL (10000 + 1) s [] [] (by omega) hs (by omega) (by simp; omega) (by simp; omega)
  simp only [Str.total, List.length_nil] at ht hn
  have hall : cut_all 10000 s [] [] = some ps := by
    unfold cut_all
    rw [brsL_eq, bnd_some]
    exact hps
  have hmem : ∀ p ∈ ps, p.length ≤ 1000 := fun p hp => by
    have : ∀ l : List Bs, p ∈ l → p.length ≤ Str.total l := by
      intro l
      induction l with
      | nil => intro h; cases h
      | cons x r ih =>
        intro h
        rcases List.mem_cons.1 h with rfl | h
        · simp [Str.total]
        · have := ih h; simp [Str.total]; omega
    have := this ps hp; omega
  have hlo : ∀ p ∈ ps, ent_Loose 10000 p = some ((ent_Loose 10000 p).getD []) ∧ ((ent_Loose 10000 p).getD []).length ≤ 2 * p.length := fun p hp => by
    obtain ⟨q, h1, h2⟩ := loose_tot 10000 p (hmem p hp) (by have := hmem p hp; omega)
    rw [h1]; exact ⟨rfl, h2⟩
  have htq : Str.total (ps.map fun p => (ent_Loose 10000 p).getD []) ≤ 2 * Str.total ps := by
    have : ∀ l : List Bs, (∀ p ∈ l, ((ent_Loose 10000 p).getD []).length ≤ 2 * p.length) → Str.total (l.map fun p => (ent_Loose 10000 p).getD []) ≤ 2 * Str.total l := by
      intro l
      induction l with
      | nil => intro _; simp [Str.total]
      | cons x r ih =>
        intro h
        have h1 := h x (by simp)
        have h2 := ih (fun p hp => h p (by simp [hp]))
        simp only [List.map_cons, Str.total]; omega
    exact this ps (fun p hp => (hlo p hp).2)
  generalize hqs : (ps.map fun p => (ent_Loose 10000 p).getD []) = qs at htq
  have hlen : qs.length = ps.length := by rw [← hqs]; simp
  have hq : ∀ q ∈ qs, q.length ≤ 2000 := fun q hq => by
    rw [← hqs] at hq
    obtain ⟨p, hp, rfl⟩ := List.mem_map.1 hq
    have h1 := (hlo p hp).2
    have h2 := hmem p hp
    omega
  obtain ⟨hL1, hL2⟩ := lines_total qs
  refine ⟨qs, ?_, ?_⟩
  · unfold plain_Of
    rw [hall, bnd_some]
    have := of_loop 10000 ps qs (.inr (fun q h => by have := hq q h; omega)) hlen (by omega) (fun i hi => by
      subst hqs
      rw [List.getElem_map]
      exact (hlo _ (List.getElem_mem hi)).1) (fun q h => by have := hq q h; omega) (by omega) 10000 0 [] (by omega) (by omega) (by simp) (by simp)
    exact this
  · cases hL : linesOf qs with
    | nil => simp [Str.join]
    | cons x r =>
      rw [hL] at hL1 hL2
      have : (Str.rest [10] r).length = Str.total r + r.length := by
        clear hL hL1 hL2
        induction r with
        | nil => rfl
        | cons y r ih => simp [Str.rest, Str.total, ih]; omega
      simp only [Str.total, List.length_cons] at hL1 hL2
      simp only [Str.join, List.length_append, this]; omega

/-- What must not follow what. -/
def bad (p c : UInt8) : Bool := (((((decide (c = 10)) && (decide (p = 10))) || ((decide (c = 32)) && ((decide (p = 32)) || (decide (p = 10))))) || ((decide (c = 10)) && (decide (p = 32)))) || (decide (c = 9))) || (decide (c = 13))
def chk : UInt8 → Bs → Bool
  | p, [] => (!decide (p = 10)) && (!decide (p = 32))
  | p, c :: r => !bad p c && chk c r

theorem bl_f {c : UInt8} (h : bl c = false) : c ≠ 9 ∧ c ≠ 10 ∧ c ≠ 13 ∧ c ≠ 32 := by
  refine ⟨?_, ?_, ?_, ?_⟩ <;> · rintro rfl; exact absurd h (by decide)
theorem bad_sign (p : UInt8) {c : UInt8} (h : bl c = false) : bad p c = false := by
  obtain ⟨h1, h2, h3, h4⟩ := bl_f h
  simp [bad, h1, h2, h3, h4]
theorem bad_gap {p : UInt8} (h : bl p = false) : bad p 32 = false ∧ bad p 10 = false := by
  obtain ⟨h1, h2, h3, h4⟩ := bl_f h
  constructor <;> simp [bad, h1, h2, h3, h4]
theorem chk_T (t : Bs) (ht : ∀ d, bl d = false → chk d t = true) (s : Bs) : ∀ c, bl c = false → chk c (T1 s ++ t) = true ∧ chk c (T2 s ++ t) = true := by
  induction s with
  | nil => intro c hc; exact ⟨by simpa [T1] using ht c hc, by simpa [T2] using ht c hc⟩
  | cons d r ih =>
    intro c hc
    cases hd : bl d with
    | true => exact ⟨by simpa [T1, hd] using (ih c hc).2, by simpa [T2, hd] using (ih c hc).2⟩
    | false =>
      have e := (ih d hd).1
      refine ⟨?_, ?_⟩
      · simp [T1, hd, chk, bad_sign c hd, e]
      · simp [T2, hd, chk, bad_sign 32 hd, (bad_gap hc).1, e]
theorem trim_cons (s : Bs) (h : trim s ≠ []) : ∃ d r, trim s = d :: T1 r ∧ bl d = false := by
  induction s with
  | nil => simp [trim] at h
  | cons c r ih =>
    cases hc : bl c with
    | true => simp only [trim, hc, cond_true] at h ⊢; exact ih h
    | false => exact ⟨c, r, by simp [trim, hc], hc⟩
theorem chk_lines (qs : List Bs) : (∀ d, bl d = false → chk d (Str.rest [10] (linesOf qs)) = true) ∧ (linesOf qs ≠ [] → chk 10 (Str.join [10] (linesOf qs)) = true) := by
  induction qs with
  | nil =>
    refine ⟨fun d hd => ?_, fun h => absurd rfl h⟩
    obtain ⟨h1, h2, h3, h4⟩ := bl_f hd
    simp [linesOf, Str.rest, chk, h2, h4]
  | cons q r ih =>
    by_cases h0 : trim q = []
    · have e : linesOf (q :: r) = linesOf r := by simp [linesOf, h0]
      rw [e]; exact ih
    · have e : linesOf (q :: r) = trim q :: linesOf r := by simp [linesOf, h0]
      obtain ⟨d, v, hv, hd⟩ := trim_cons q h0
      have k := (chk_T (Str.rest [10] (linesOf r)) ih.1 v d hd).1
      rw [e, hv]
      refine ⟨fun c hc => ?_, fun _ => ?_⟩
      · simp [Str.rest, chk, (bad_gap hc).2, bad_sign 10 hd, k]
      · simp [Str.join, chk, bad_sign 10 hd, k]
theorem lines_join_ne {qs : List Bs} (h : linesOf qs = []) : Str.join [10] (linesOf qs) = [] := by rw [h]; rfl

end Go.Pn
namespace Go.Pn
open Go.Pv Go.Av

/-- A digit's number; 99: it is none. -/
def dg (c : UInt8) : Nat := if 48 ≤ c.toNat ∧ c.toNat ≤ 57 then c.toNat - 48 else if 97 ≤ c.toNat ∧ c.toNat ≤ 102 then c.toNat - 87 else if 65 ≤ c.toNat ∧ c.toNat ≤ 70 then c.toNat - 55 else 99

theorem all_u8 {p : UInt8 → Prop} (h : ∀ n : Nat, n < 256 → p (UInt8.ofNat n)) (c : UInt8) : p c := by
  have := h c.toNat (UInt8.toNat_lt c)
  rwa [UInt8.ofNat_toNat] at this

theorem digit_eq (F : Nat) (c : UInt8) : ref07_digit F c = some (dg c : Int) := by
  show ref07_digit 0 c = _
  exact all_u8 (p := fun c => ref07_digit 0 c = some (dg c : Int)) (by decide +kernel) c

/-- What a byte counts as a digit, as the library has it. -/
def isD (x : UInt8) : Bool := (decide (48 ≤ (x.toNat : Int))) && (decide ((x.toNat : Int) ≤ 57))
def isL (x : UInt8) : Bool := (decide (97 ≤ ((x ||| 32).toNat : Int))) && (decide (((x ||| 32).toNat : Int) ≤ 122))
theorem dig_D (b : Nat) (hb : b = 10 ∨ b = 16) (x : UInt8) (h : isD x = true) : (b ≤ (x - 48).toNat ↔ b ≤ dg x) ∧ ((x - 48).toNat < b → (x - 48).toNat = dg x) := by
  revert h
  refine all_u8 (p := fun x => isD x = true → (b ≤ (x - 48).toNat ↔ b ≤ dg x) ∧ ((x - 48).toNat < b → (x - 48).toNat = dg x)) ?_ x
  rcases hb with rfl | rfl <;> decide +kernel
theorem dig_L (b : Nat) (hb : b = 10 ∨ b = 16) (x : UInt8) (h0 : isD x = false) (h : isL x = true) : (b ≤ ((x ||| 32) - 97 + 10).toNat ↔ b ≤ dg x) ∧ (((x ||| 32) - 97 + 10).toNat < b → ((x ||| 32) - 97 + 10).toNat = dg x) := by
  revert h0 h
  refine all_u8 (p := fun x => isD x = false → isL x = true → (b ≤ ((x ||| 32) - 97 + 10).toNat ↔ b ≤ dg x) ∧ (((x ||| 32) - 97 + 10).toNat < b → ((x ||| 32) - 97 + 10).toNat = dg x)) ?_ x
  rcases hb with rfl | rfl <;> decide +kernel
theorem dig_no (x : UInt8) (h0 : isD x = false) (h : isL x = false) : dg x = 99 := by
  revert h0 h
  exact all_u8 (p := fun x => isD x = false → isL x = false → dg x = 99) (by decide +kernel) x

/-- What digits say. -/
def num (b : Nat) : Nat → Bs → Option Nat
  | v, [] => some v
  | v, c :: r => if b ≤ dg c then none else num b (b * v + dg c) r

theorem u64_id (x : Int) (h0 : 0 ≤ x) (h1 : x < 18446744073709551616) : IntKind.u64.wrap x = x := by
  have : IntKind.u64.wrap x = x % 18446744073709551616 := rfl
  rw [this]; omega

theorem uint_loop_eq (F : Nat) (s : Bs) (b : Nat) (hb : b = 10 ∨ b = 16) (c : Int) (hc : 1152921504606846976 ≤ c) (hs : s.length ≤ 10) : ∀ (n i v : Nat), s.length - i < n → v < 16 ^ i → i ≤ s.length →
    sc_ParseUint_L1 F s (b : Int) c n (false, (v : Int), (i : Int)) = match num b v (s.drop i) with | none => some (0, 2) | some w => some ((w : Int), 0) := by
  intro n
  induction n with
  | zero => intro i v h; omega
  | succ n ih =>
    intro i v hn hv hi
    show sc_ParseUint_B1 F s (b : Int) c (sc_ParseUint_L1 F s (b : Int) c n) false (v : Int) (i : Int) = _
    unfold sc_ParseUint_B1 sc_ParseUint_j1 sc_lower
    by_cases h : i < s.length
    · have hd : s.drop i = s[i] :: s.drop (i + 1) := List.drop_eq_getElem_cons h
      have hp : (16 : Nat) ^ i ≤ 16 ^ 9 := Nat.pow_le_pow_right (by omega) (by omega)
      have hp2 : (16 : Nat) ^ 9 = 68719476736 := rfl
      have hp3 : (16 : Nat) ^ (i + 1) = 16 ^ i * 16 := Nat.pow_succ _ _
      have key : ∀ d : UInt8, ((b ≤ d.toNat ↔ b ≤ dg s[i]) ∧ (d.toNat < b → d.toNat = dg s[i])) → sc_ParseUint_j3 (b : Int) c false (v : Int) (i : Int) (sc_ParseUint_L1 F s (b : Int) c n) d = match num b v (s.drop i) with | none => some (0, 2) | some w => some ((w : Int), 0) := by
        intro d ⟨h1, h2⟩
        rw [hd]
        unfold sc_ParseUint_j3 sc_ParseUint_j2
        have hB : ((Go.Av.toB (b : Int)).toNat : Int) = (b : Int) := by rcases hb with rfl | rfl <;> rfl
        rw [hB]
        by_cases hbd : b ≤ d.toNat
        · rw [bT (by omega)]
          simp [num, h1.1 hbd]
        · have hd2 := h2 (by omega)
          have hbd' : ¬ b ≤ dg s[i] := fun e => hbd (h1.2 e)
          have hlt : d.toNat < 16 := by rcases hb with rfl | rfl <;> omega
          have hbv : b * v ≤ 16 * v := Nat.mul_le_mul_right v (by rcases hb with rfl | rfl <;> omega)
          have hmul : (v : Int) * (b : Int) = ((b * v : Nat) : Int) := by rw [Nat.mul_comm]; simp
          have wb : IntKind.u64.wrap (b : Int) = (b : Int) := u64_id _ (by omega) (by rcases hb with rfl | rfl <;> omega)
          have wd : IntKind.u64.wrap (d.toNat : Int) = (d.toNat : Int) := u64_id _ (by omega) (by omega)
          have wm : IntKind.u64.wrap ((b * v : Nat) : Int) = ((b * v : Nat) : Int) := u64_id _ (by omega) (by omega)
          have ws : IntKind.u64.wrap (((b * v : Nat) : Int) + (d.toNat : Int)) = ((b * v + d.toNat : Nat) : Int) := by rw [u64_id _ (by omega) (by omega)]; simp
          have wc : IntKind.u64.wrap ((IntKind.u64.wrap (1 * 2 ^ min (Int.toNat (IntKind.u64.wrap 64)) IntKind.u64.bits)) - 1) = 18446744073709551615 := by decide +kernel
          rw [wb, wd, hmul, wm, ws, wc, bF (by omega), bF (by omega), decide_eq_false (by omega : ¬ ((b * v + d.toNat : Nat) : Int) < ((b * v : Nat) : Int)), decide_eq_false (by omega : ¬ (18446744073709551615 : Int) < ((b * v + d.toNat : Nat) : Int))]
          rw [Bool.or_self, cond_false, grd_I (by omega), cast_succ, ih (i + 1) (b * v + d.toNat) (by omega) (by rw [hp3]; rcases hb with rfl | rfl <;> omega) (by omega)]
          simp only [num, hbd', if_false, hd2]
      have hb0 : decide ((b : Int) = 0) = false := decide_eq_false (by rcases hb with rfl | rfl <;> omega)
      simp (disch := omega) only [bT, grd_At, lt_eq, at_nat h, hb0, Bool.and_false, cond_false, bnd_some, bndc_some]
      cases hD : isD s[i] with
      | true =>
        have e : ((decide (48 ≤ ((s[i]).toNat : Int))) && (decide (((s[i]).toNat : Int) ≤ 57))) = true := hD
        rw [e, cond_true]
        exact key _ (dig_D b hb _ hD)
      | false =>
        have e : ((decide (48 ≤ ((s[i]).toNat : Int))) && (decide (((s[i]).toNat : Int) ≤ 57))) = false := hD
        rw [e, cond_false]
        have el : ((decide (97 ≤ ((s[i] ||| 32).toNat : Int))) && (decide ((((bif decide (97 ≤ ((s[i] ||| 32).toNat : Int)) then (s[i] ||| 32) else default) : UInt8).toNat : Int) ≤ 122))) = isL s[i] := by
          unfold isL
          cases decide (97 ≤ ((s[i] ||| 32).toNat : Int)) <;> rfl
        rw [el]
        cases hL : isL s[i] with
        | true =>
          rw [cond_true]
          exact key _ (dig_L b hb _ hD hL)
        | false =>
          rw [cond_false, hd]
          have := dig_no _ hD hL
          have : b ≤ dg s[i] := by rw [this]; rcases hb with rfl | rfl <;> omega
          simp [num, this]
    · rw [bF (by omega), bndc_f]
      have hi2 : s.length ≤ i := by omega
      rw [List.drop_eq_nil_of_le hi2]
      rfl

theorem int_eq (F : Nat) (s : Bs) (b : Nat) (hb : b = 10 ∨ b = 16) (h0 : s ≠ []) (hs : s.length ≤ 10) (hF : 20 < F) (h43 : at_ s 0 ≠ 43) (h45 : at_ s 0 ≠ 45) :
    strconv_ParseInt F s (b : Int) 0 = match num b 0 s with | none => some (0, 1) | some w => some ((w : Int), 0) := by
  have hp : 0 < s.length := List.length_pos_iff.2 h0
  have hw : ∀ (t : Bs) (v w : Nat), num b v t = some w → t.length ≤ 10 → v < 16 ^ (10 - t.length) → w < 16 ^ 10 := by
    intro t
    induction t with
    | nil => intro v w h _ hv; have : v = w := by simpa [num] using h
             subst this; exact hv
    | cons c r ih =>
      intro v w h hl hv
      simp only [num] at h
      split at h
      · cases h
      · rename_i hd
        simp only [List.length_cons] at hl hv
        refine ih _ _ h (by omega) ?_
        have e : 10 - r.length = (10 - (r.length + 1)) + 1 := by omega
        rw [e, Nat.pow_succ]
        rcases hb with rfl | rfl <;> omega
  have hu : sc_ParseUint F s (b : Int) 0 = match num b 0 s with | none => some (0, 2) | some w => some ((w : Int), 0) := by
    unfold sc_ParseUint sc_ParseUint_j6 sc_ParseUint_j5 sc_ParseUint_j4
    have h2 : ((decide (2 ≤ (b : Int))) && (decide ((b : Int) ≤ 36))) = true := by rcases hb with rfl | rfl <;> rfl
    rw [bF h0, h2, grd_t, grd_D rfl]
    have hwr := wrap_nn 64
    have go := fun c hc => uint_loop_eq F s b hb c hc hs F 0 0 (by omega) (by omega) (by omega)
    rcases hb with rfl | rfl
    · rw [bT (show ((10 : Nat) : Int) = 10 from rfl), grd_D hwr, grd_Cat (by omega)]; exact go _ (by omega)
    · rw [bF (show ¬ ((16 : Nat) : Int) = 10 by decide), bT (show ((16 : Nat) : Int) = 16 from rfl), grd_D hwr, grd_Cat (by omega)]; exact go _ (by omega)
  have hi : sc_ParseInt F s (b : Int) 0 = match num b 0 s with | none => some (0, 2) | some w => some ((w : Int), 0) := by
    unfold sc_ParseInt sc_ParseInt_j3 sc_ParseInt_j2 sc_ParseInt_j1
    have e1 : IntKind.u64.wrap (1 * 2 ^ min (Int.toNat (IntKind.u64.wrap (64 - 1))) IntKind.u64.bits) = 9223372036854775808 := by decide +kernel
    have e2 : (0 : Int) ≤ IntKind.u64.wrap (64 - 1) := by decide +kernel
    rw [hu]
    cases hn : num b 0 s with
    | none => simp (disch := omega) only [bF h0, bF, grd_At, lt_eq, bnd2_some]; rfl
    | some w =>
      have hwb : w < 16 ^ 10 := hw s 0 w hn hs (Nat.pow_pos (by omega))
      have hp2 : (16 : Nat) ^ 10 = 1099511627776 := rfl
      simp (disch := omega) only [bF h0, bF, grd_At, lt_eq, bnd2_some, e1, grd_D e2, grd_I, grd_D, Bool.not_false, Bool.true_and, Bool.false_and, cond_false]
      rfl
  unfold strconv_ParseInt
  rw [hi]
  cases hn : num b 0 s with
  | none =>
    simp only [bnd2_some]
    rw [show (!decide ((2 : Int) = 0)) = true by rfl, cond_true, grd_S (by omega)]; rfl
  | some w => rfl

theorem toB_nat (n : Int) (c : Nat) (h : n = c) : toB n = UInt8.ofNat c := by
  subst h
  unfold toB
  apply UInt8.toNat.inj
  rw [UInt8.toNat_ofNat', UInt8.toNat_ofNat']
  omega

/-- A sign's bytes. -/
theorem ent_rune (F : Nat) (r : Int) : ent_Rune F r = if (r = 9 ∨ r = 10 ∨ r = 13) ∨ (32 ≤ r ∧ r ≤ 55295) ∨ (57344 ≤ r ∧ r ≤ 65533) ∨ (65536 ≤ r ∧ r ≤ 1114111) then some (runeStr r, true) else some ([], false) := by
  have fin : -2147483648 ≤ r ∧ r ≤ 2147483647 → (grd (okJ r) (lt (runeStr r) fun x17 => some (x17, true))) = some (runeStr r, true) := fun h => by rw [grd_J h]; rfl
  unfold ent_Rune ent_in
  simp only [bndc_some]
  cases hA : ((decide (r = 9)) || (decide (r = 10))) || (decide (r = 13)) with
  | true =>
    have : r = 9 ∨ r = 10 ∨ r = 13 := by simpa [or_assoc] using hA
    simp only [Bool.not_true, Bool.false_and, cond_false]
    rw [if_pos (.inl this)]; exact fin (by omega)
  | false =>
    have hA' : ¬ (r = 9 ∨ r = 10 ∨ r = 13) := by simp at hA; omega
    simp only [Bool.not_false, Bool.true_and, cond_true]
    cases h7 : (decide (32 ≤ r)) && (decide (r ≤ 55295)) with
    | true =>
      have : 32 ≤ r ∧ r ≤ 55295 := by simpa using h7
      simp only [Bool.not_true, Bool.false_and, cond_false]
      rw [if_pos (by omega)]; exact fin (by omega)
    | false =>
      have h7' : ¬ (32 ≤ r ∧ r ≤ 55295) := fun e => by simp [e] at h7
      simp only [Bool.not_false, Bool.true_and, cond_true]
      cases h10 : (decide (57344 ≤ r)) && (decide (r ≤ 65533)) with
      | true =>
        have : 57344 ≤ r ∧ r ≤ 65533 := by simpa using h10
        simp only [Bool.not_true, Bool.false_and, cond_false]
        rw [if_pos (by omega)]; exact fin (by omega)
      | false =>
        have h10' : ¬ (57344 ≤ r ∧ r ≤ 65533) := fun e => by simp [e] at h10
        simp only [Bool.not_false, Bool.true_and, cond_true]
        cases h13 : (decide (65536 ≤ r)) && (decide (r ≤ 1114111)) with
        | true =>
          have : 65536 ≤ r ∧ r ≤ 1114111 := by simpa using h13
          simp only [Bool.not_true, Bool.false_and, cond_false]
          rw [if_pos (by omega)]; exact fin (by omega)
        | false =>
          have h13' : ¬ (65536 ≤ r ∧ r ≤ 1114111) := fun e => by simp [e] at h13
          rw [if_neg (by omega)]; rfl

theorem cond9 (p q s a b c d e f : Prop) [Decidable p] [Decidable q] [Decidable s] [Decidable a] [Decidable b] [Decidable c] [Decidable d] [Decidable e] [Decidable f] :
    (((!((((decide p) || (decide q)) || (decide s)) || ((decide a) && (decide b)))) && (!((decide c) && (decide d)))) && (!((decide e) && (decide f)))) = !decide ((p ∨ q ∨ s) ∨ (a ∧ b) ∨ (c ∧ d) ∨ (e ∧ f)) := by
  simp only [Bool.decide_or, Bool.decide_and, Bool.not_or, Bool.and_assoc, Bool.or_assoc]
theorem rune_cond (r : Int) : (((!((((decide (r = 9)) || (decide (r = 10))) || (decide (r = 13))) || ((decide (32 ≤ r)) && (decide (r ≤ 55295))))) && (!((decide (57344 ≤ r)) && (decide (r ≤ 65533))))) && (!((decide (65536 ≤ r)) && (decide (r ≤ 1114111))))) = !decide ((r = 9 ∨ r = 10 ∨ r = 13) ∨ (32 ≤ r ∧ r ≤ 55295) ∨ (57344 ≤ r ∧ r ≤ 65533) ∨ (65536 ≤ r ∧ r ≤ 1114111)) := cond9 _ _ _ _ _ _ _ _ _

theorem tb_div (k m c : Nat) : toB ((k : Int) + (c : Int) / (m : Int)) = UInt8.ofNat (k + c / m) := toB_nat _ _ (by rw [Int.natCast_add, Int.natCast_ediv])
theorem tb_mod (k m c : Nat) : toB ((k : Int) + (c : Int) % (m : Int)) = UInt8.ofNat (k + c % m) := toB_nat _ _ (by rw [Int.natCast_add, Int.natCast_emod])
theorem tb_both (k m n c : Nat) : toB ((k : Int) + (c : Int) / (m : Int) % (n : Int)) = UInt8.ofNat (k + c / m % n) := toB_nat _ _ (by rw [Int.natCast_add, Int.natCast_emod, Int.natCast_ediv])
theorem enc1 (c : Nat) (hc : Utf8.valid (c : Int) = true) : Utf8.encode (c : Int) = if c < 128 then ⟨#[UInt8.ofNat c]⟩ else if c < 2048 then ⟨#[UInt8.ofNat (192 + c / 64), UInt8.ofNat (128 + c % 64)]⟩
    else if c < 65536 then ⟨#[UInt8.ofNat (224 + c / 4096), UInt8.ofNat (128 + c / 64 % 64), UInt8.ofNat (128 + c % 64)]⟩ else ⟨#[UInt8.ofNat (240 + c / 262144), UInt8.ofNat (128 + c / 4096 % 64), UInt8.ofNat (128 + c / 64 % 64), UInt8.ofNat (128 + c % 64)]⟩ := by
  have hcc : (if Utf8.valid (c : Int) = true then ((c : Int)).toNat else Utf8.runeError) = c := by rw [if_pos hc, Int.toNat_natCast]
  unfold Utf8.encode
  rw [hcc]
theorem runeStr_def (n : Int) : runeStr n = (Utf8.encode n).data.toList := rfl
/-- What the document says of a sign's bytes. -/
theorem rune_bytes (c : Nat) (hc : Utf8.valid (c : Int) = true) : runeStr (c : Int) = if c < 128 then [toB c] else if c < 2048 then [toB (192 + (c : Int) / 64), toB (128 + (c : Int) % 64)]
    else if c < 65536 then [toB (224 + (c : Int) / 4096), toB (128 + (c : Int) / 64 % 64), toB (128 + (c : Int) % 64)] else [toB (240 + (c : Int) / 262144), toB (128 + (c : Int) / 4096 % 64), toB (128 + (c : Int) / 64 % 64), toB (128 + (c : Int) % 64)] := by
  have t1 : toB (c : Int) = UInt8.ofNat c := toB_nat (c : Int) c rfl
  have t2 : toB (192 + (c : Int) / 64) = UInt8.ofNat (192 + c / 64) := tb_div 192 64 c
  have t3 : toB (128 + (c : Int) % 64) = UInt8.ofNat (128 + c % 64) := tb_mod 128 64 c
  have t4 : toB (224 + (c : Int) / 4096) = UInt8.ofNat (224 + c / 4096) := tb_div 224 4096 c
  have t5 : toB (128 + (c : Int) / 64 % 64) = UInt8.ofNat (128 + c / 64 % 64) := tb_both 128 64 64 c
  have t6 : toB (240 + (c : Int) / 262144) = UInt8.ofNat (240 + c / 262144) := tb_div 240 262144 c
  have t7 : toB (128 + (c : Int) / 4096 % 64) = UInt8.ofNat (128 + c / 4096 % 64) := tb_both 128 4096 64 c
  rw [t1, t2, t3, t4, t5, t6, t7, runeStr_def, enc1 c hc]
  by_cases h1 : c < 128
  · rw [if_pos h1, if_pos h1]
  · rw [if_neg h1, if_neg h1]
    by_cases h2 : c < 2048
    · rw [if_pos h2, if_pos h2]
    · rw [if_neg h2, if_neg h2]
      by_cases h3 : c < 65536
      · rw [if_pos h3, if_pos h3]
      · rw [if_neg h3, if_neg h3]
theorem rune_valid (c : Nat) (h : ((c : Int) = 9 ∨ (c : Int) = 10 ∨ (c : Int) = 13) ∨ (32 ≤ (c : Int) ∧ (c : Int) ≤ 55295) ∨ (57344 ≤ (c : Int) ∧ (c : Int) ≤ 65533) ∨ (65536 ≤ (c : Int) ∧ (c : Int) ≤ 1114111)) : Utf8.valid (c : Int) = true := by
  unfold Utf8.valid
  by_cases h1 : (c : Int) < 55296
  · have : (0 : Int) ≤ (c : Int) := by omega
    rw [decide_eq_true this, decide_eq_true h1]; rfl
  · have h2 : (57344 : Int) ≤ (c : Int) := by omega
    have h3 : (c : Int) ≤ 1114111 := by omega
    rw [decide_eq_true h2, decide_eq_true h3, Bool.and_self, Bool.or_true]

theorem rune_eq (F : Nat) (r : Int) : ent_Rune F r = ref07_Rune F r := by
  rw [ent_rune]
  unfold ref07_Rune
  rw [rune_cond]
  by_cases h : (r = 9 ∨ r = 10 ∨ r = 13) ∨ (32 ≤ r ∧ r ≤ 55295) ∨ (57344 ≤ r ∧ r ≤ 65533) ∨ (65536 ≤ r ∧ r ≤ 1114111)
  · rw [if_pos h, decide_eq_true h, Bool.not_true, cond_false]
    obtain ⟨c, rfl⟩ : ∃ c : Nat, r = c := ⟨r.toNat, by omega⟩
    rw [rune_bytes c (rune_valid c h)]
    by_cases h1 : c < 128
    · rw [if_pos h1, bT (by omega)]
    · rw [if_neg h1, bF (by omega)]
      by_cases h2 : c < 2048
      · rw [if_pos h2, bT (by omega)]
        simp (disch := omega) only [grd_Div, grd_I]
      · rw [if_neg h2, bF (by omega)]
        by_cases h3 : c < 65536
        · rw [if_pos h3, bT (by omega)]
          simp (disch := omega) only [grd_Div, grd_I]
        · rw [if_neg h3, bF (by omega)]
          simp (disch := omega) only [grd_Div, grd_I]
  · rw [if_neg h, decide_eq_false h]; rfl

/-- What the document says of a number. -/
def cap (w : Nat) : Nat := if 1114111 < w then 1114112 else w

theorem refnum_loop (F : Nat) (s : Bs) (b : Nat) (hb : b = 10 ∨ b = 16) (hs : s.length ≤ 1000) : ∀ (n i v : Nat), s.length - i < n → i ≤ s.length →
    ref07_number_L1 F s (b : Int) n ((cap v : Int), (i : Int)) = match num b v (s.drop i) with | none => some (-1) | some w => some (if s.length = 0 then -1 else (cap w : Int)) := by
  intro n
  induction n with
  | zero => intro i v h; omega
  | succ n ih =>
    intro i v hn hi
    show ref07_number_B1 F s (b : Int) (ref07_number_L1 F s (b : Int) n) (cap v : Int) (i : Int) = _
    unfold ref07_number_B1 ref07_number_j2 ref07_number_j1
    have hcv : cap v ≤ 1114112 := by unfold cap; split <;> omega
    by_cases h : i < s.length
    · have hd : s.drop i = s[i] :: s.drop (i + 1) := List.drop_eq_getElem_cons h
      simp (disch := omega) only [bT, grd_At, lt_eq, at_nat h, digit_eq, bnd_some]
      rw [hd]
      by_cases hbd : b ≤ dg s[i]
      · rw [bT (by omega)]; simp [num, hbd]
      · have hdb : dg s[i] < 16 := by rcases hb with rfl | rfl <;> omega
        have hbc : b * cap v ≤ 16 * cap v := Nat.mul_le_mul_right _ (by rcases hb with rfl | rfl <;> omega)
        have e1 : (b : Int) * (cap v : Int) = ((b * cap v : Nat) : Int) := by simp
        have e2 : ((b * cap v : Nat) : Int) + (dg s[i] : Int) = ((b * cap v + dg s[i] : Nat) : Int) := by simp
        have e3 : cap (b * v + dg s[i]) = if 1114111 < b * cap v + dg s[i] then 1114112 else b * cap v + dg s[i] := by
          unfold cap
          rcases hb with rfl | rfl <;> (split <;> split <;> (try split) <;> omega)
        rw [bF (by omega), e1, e2, grd_I (by omega), grd_I (by omega)]
        simp only [num, hbd, if_false]
        have := ih (i + 1) (b * v + dg s[i]) (by omega) (by omega)
        rw [e3] at this
        by_cases hc : 1114111 < b * cap v + dg s[i]
        · rw [bT (by omega), grd_I (by omega), cast_succ]
          rw [if_pos hc] at this
          exact this
        · rw [bF (by omega), grd_I (by omega), cast_succ]
          rw [if_neg hc] at this
          exact this
    · have hi2 : s.length ≤ i := by omega
      rw [bF (by omega), List.drop_eq_nil_of_le hi2]
      simp only [num]
      by_cases h0 : s.length = 0
      · rw [bT (by omega), if_pos h0]
      · rw [bF (by omega), if_neg h0]

theorem refnum_eq (F : Nat) (s : Bs) (b : Nat) (hb : b = 10 ∨ b = 16) (hs : s.length ≤ 1000) (hF : s.length < F) :
    ref07_number F s (b : Int) = match num b 0 s with | none => some (-1) | some w => some (if s.length = 0 then -1 else (cap w : Int)) := by
  have := refnum_loop F s b hb hs F 0 0 (by omega) (by omega)
  have hc : cap 0 = 0 := rfl
  rw [hc, List.drop_zero] at this
  exact this

theorem num_no {s : Bs} {b v : Nat} (hb : b = 10 ∨ b = 16) {c : UInt8} (hc : dg c = 99) (h : c ∈ s) : num b v s = none := by
  induction s generalizing v with
  | nil => cases h
  | cons d r ih =>
    simp only [num]
    rcases List.mem_cons.1 h with rfl | h
    · rw [if_pos (by rcases hb with rfl | rfl <;> omega)]
    · split
      · rfl
      · exact ih h
end Go.Pn
namespace Go.Pn
open Go.Pv Go.Av

theorem rune_neg (F : Nat) : ref07_Rune F (-1) = some ([], false) := by rw [← rune_eq, ent_rune, if_neg (by omega)]
theorem rune_cap (F w : Nat) : ref07_Rune F (cap w : Int) = ref07_Rune F (w : Int) := by
  unfold cap
  split
  · rw [← rune_eq, ← rune_eq, ent_rune, ent_rune, if_neg (by omega), if_neg (by omega)]
  · rfl

theorem contains_some (F : Nat) (s : Bs) (hs : s.length ≤ 1000) : containsAny F s [95] = some (decide (0 ≤ Go.Lib.indexByte s 95)) := by
  unfold containsAny idxAny idxAnyG idxAnyG_j1 idxRune
  have e : ((decide (8 < s.length)) && (decide (2 ≤ ([95] : Bs).length))) = false := by simp
  have e2 : at_ ([95] : Bs) 0 = 95 := rfl
  have e3 : asciiB [95] = true := by decide
  have e4 : ((95 : UInt8).toNat : Int) = 95 := rfl
  have e5 : toB 95 = 95 := rfl
  rw [e, cond_false]
  simp (disch := (first | omega | (simp; done) | (simp; omega))) only [e3, grd_t, grd_S, bF, bT, grd_At, lt_eq, e2, e4, grd_J]
  rfl

/-- A number, read by the program, is the document's. -/
theorem number_same (F : Nat) (s : Bs) (b : Nat) (hb : b = 10 ∨ b = 16) (hs : s.length ≤ 10) (hF : 20 < F) : ∃ v, ref07_number F s (b : Int) = some v ∧ ent_number F s (b : Int) = ref07_Rune F v := by
  rw [refnum_eq F s b hb (by omega) (by omega)]
  unfold ent_number
  cases s with
  | nil =>
    refine ⟨-1, rfl, ?_⟩
    rw [rune_neg]
    simp [grdc_f, lt_eq, bndc_f]
  | cons c r =>
    have h0 : decide ((c :: r) = []) = false := decide_eq_false (by simp)
    have ha : at_ (c :: r) 0 = c := rfl
    have hg : ∀ (q : Bool) (k : Option (Bs × Bool)), grdc q (okAt 0 (c :: r).length) k = k := fun q k => grdc_At (fun _ => by simp)
    have hlen : ¬ (c :: r).length = 0 := by simp
    rw [contains_some F (c :: r) (by omega)]
    simp only [hg, h0, lt_eq, ha, bndc_some, Bool.false_or]
    by_cases h1 : c = 43
    · rw [num_no hb (c := 43) (by decide) (by simp [h1])]
      refine ⟨-1, rfl, ?_⟩
      rw [rune_neg]; simp [h1]
    · by_cases h2 : c = 45
      · rw [num_no hb (c := 45) (by decide) (by simp [h2])]
        refine ⟨-1, rfl, ?_⟩
        rw [rune_neg]; simp [h2]
      · by_cases h3 : c = 95
        · rw [num_no hb (c := 95) (by decide) (by simp [h3])]
          refine ⟨-1, rfl, ?_⟩
          rw [rune_neg]; simp [h3]
        · simp only [h1, h2, h3, decide_false, Bool.or_self, Bool.false_or, Bool.not_false, cond_true]
          by_cases h4 : 0 ≤ Go.Lib.indexByte (c :: r) 95
          · rw [bT h4]
            have hmem : (95 : UInt8) ∈ c :: r := by
              by_cases hm : (95 : UInt8) ∈ c :: r
              · exact hm
              · have := indexByte_no (c := 95) (s := c :: r) (fun x hx e => hm (e ▸ hx))
                omega
            rw [num_no hb (c := 95) (by decide) hmem]
            exact ⟨-1, rfl, (rune_neg F).symm⟩
          · rw [bF h4, int_eq F (c :: r) b hb (by simp) hs hF (by rw [ha]; exact h1) (by rw [ha]; exact h2)]
            cases hn : num b 0 (c :: r) with
            | none => exact ⟨-1, rfl, by rw [rune_neg]; rfl⟩
            | some w =>
              refine ⟨(cap w : Int), by simp only [hlen, if_false], ?_⟩
              rw [rune_cap, ← rune_eq]
              simp only [bnd2_some]
              simp only [decide_true, Bool.not_true, cond_false]
              cases he : ent_Rune F (w : Int) with
              | none => rfl
              | some p => rfl

/-- An entity's sign. -/
theorem sign_same (F : Nat) (b : Bs) (hb : b.length ≤ 10) (hF : 20 < F) : ent_sign F b = ref07_sign F b := by
  have fallback : mhas [(([97, 109, 112] : List UInt8), (38 : Int)), (([108, 116] : List UInt8), 60), (([103, 116] : List UInt8), 62), (([113, 117, 111, 116] : List UInt8), 34), (([97, 112, 111, 115] : List UInt8), 39)] b = false →
      ¬ b = [97, 109, 112] → ¬ b = [108, 116] → ¬ b = [103, 116] → ¬ b = [113, 117, 111, 116] → ¬ b = [97, 112, 111, 115] → ent_sign F b = ref07_sign F b := by
    intro hm n1 n2 n3 n4 n5
    unfold ent_sign ent_signs ref07_sign ref07_sign_j1
    simp only [bnd_some, lt_eq, hm, cond_false, bF n1, bF n2, bF n3, bF n4, bF n5]
    cases b with
    | nil => simp [Go.Lib.hasPrefix, grdc_f]
    | cons c r =>
      cases r with
      | nil =>
        obtain ⟨v, _, hv⟩ := number_same F [] 10 (.inl rfl) (by simp) hF
        have e0 : ent_number F [] 10 = some ([], false) := by unfold ent_number; simp [grdc_f, lt_eq, bndc_f]
        by_cases h : c = 35
        · subst h
          have e1 : Go.Lib.hasPrefix [35] [35, 120] = false := by decide
          have e2 : Go.Lib.hasPrefix [35] [35] = true := by decide
          have e3 : Go.Lib.trimPrefix [35] [35] = [] := by decide
          rw [e1, e2, e3, cond_false, cond_true, e0]
          simp [bnd2_some, grdc_f]
        · have e1 : Go.Lib.hasPrefix [c] [35, 120] = false := by simp [Go.Lib.hasPrefix, List.isPrefixOf]
          have e2 : Go.Lib.hasPrefix [c] [35] = false := by simp [Go.Lib.hasPrefix, List.isPrefixOf, Ne.symm h]
          rw [e1, e2, cond_false, cond_false]
          simp [grdc_f]
      | cons d r =>
        have ha : at_ (c :: d :: r) 0 = c := rfl
        have hb1 : at_ (c :: d :: r) 1 = d := rfl
        have hl : decide (((c :: d :: r).length : Int) < 2) = false := decide_eq_false (by simp only [List.length_cons]; omega)
        have f1 : from_ (c :: d :: r) 1 = d :: r := rfl
        have f2 : from_ (c :: d :: r) 2 = r := rfl
        have hg : ∀ (q : Bool) (k : Option (Bs × Bool)), grdc q (okAt 0 (c :: d :: r).length) k = k := fun q k => grdc_At (fun _ => by simp only [List.length_cons]; omega)
        simp only [hg, hl, ha, hb1, f1, f2, Bool.false_or]
        by_cases h : c = 35
        · subst h
          rw [show (!decide ((35 : UInt8) = 35)) = false by rfl, cond_false]
          obtain ⟨v, hv1, hv2⟩ := number_same F (d :: r) 10 (.inl rfl) (by simp at hb ⊢; omega) hF
          have hv1' : ref07_number F (d :: r) 10 = some v := hv1
          have hv2' : ent_number F (d :: r) 10 = ref07_Rune F v := hv2
          simp (disch := (first | omega | (simp; done) | (simp; omega))) only [grd_To, grd_At, hv1', bnd_some]
          by_cases hx : d = 120
          · subst hx
            obtain ⟨u, hu1, hu2⟩ := number_same F r 16 (.inr rfl) (by simp at hb ⊢; omega) hF
            have hu1' : ref07_number F r 16 = some u := hu1
            have hu2' : ent_number F r 16 = ref07_Rune F u := hu2
            have e1 : Go.Lib.hasPrefix (35 :: 120 :: r) [35, 120] = true := by simp [Go.Lib.hasPrefix, List.isPrefixOf]
            have e3 : Go.Lib.trimPrefix (35 :: 120 :: r) [35, 120] = r := by simp [Go.Lib.trimPrefix, Go.Lib.hasPrefix, List.isPrefixOf]
            rw [e1, e3, cond_true, bT rfl, hu1', bnd_some, hu2']
          · have e1 : Go.Lib.hasPrefix (35 :: d :: r) [35, 120] = false := by simp [Go.Lib.hasPrefix, List.isPrefixOf, Ne.symm hx]
            have e2 : Go.Lib.hasPrefix (35 :: d :: r) [35] = true := by simp [Go.Lib.hasPrefix, List.isPrefixOf]
            have e3 : Go.Lib.trimPrefix (35 :: d :: r) [35] = d :: r := by simp [Go.Lib.trimPrefix, Go.Lib.hasPrefix, List.isPrefixOf]
            rw [e1, e2, e3, cond_false, cond_true, bF hx, hv2']
        · have e1 : Go.Lib.hasPrefix (c :: d :: r) [35, 120] = false := by simp [Go.Lib.hasPrefix, List.isPrefixOf, Ne.symm h]
          have e2 : Go.Lib.hasPrefix (c :: d :: r) [35] = false := by simp [Go.Lib.hasPrefix, List.isPrefixOf, Ne.symm h]
          rw [e1, e2, cond_false, cond_false, decide_eq_false h]; rfl
  have named : ∀ (n : Bs) (k : Int) (x : Bs), (mhas [(([97, 109, 112] : List UInt8), (38 : Int)), (([108, 116] : List UInt8), 60), (([103, 116] : List UInt8), 62), (([113, 117, 111, 116] : List UInt8), 34), (([97, 112, 111, 115] : List UInt8), 39)] n = true) →
      runeStr (mget [(([97, 109, 112] : List UInt8), (38 : Int)), (([108, 116] : List UInt8), 60), (([103, 116] : List UInt8), 62), (([113, 117, 111, 116] : List UInt8), 34), (([97, 112, 111, 115] : List UInt8), 39)] n) = x → ent_sign F n = some (x, true) := by
    intro n k x h1 h2
    unfold ent_sign ent_signs
    simp only [bnd_some, lt_eq, h1, h2, cond_true]
  by_cases n1 : b = [97, 109, 112]
  · subst n1; rw [named _ 38 [38] (by decide +kernel) (by decide +kernel)]; rfl
  by_cases n2 : b = [108, 116]
  · subst n2; rw [named _ 60 [60] (by decide +kernel) (by decide +kernel)]; rfl
  by_cases n3 : b = [103, 116]
  · subst n3; rw [named _ 62 [62] (by decide +kernel) (by decide +kernel)]; rfl
  by_cases n4 : b = [113, 117, 111, 116]
  · subst n4; rw [named _ 34 [34] (by decide +kernel) (by decide +kernel)]; rfl
  by_cases n5 : b = [97, 112, 111, 115]
  · subst n5; rw [named _ 39 [39] (by decide +kernel) (by decide +kernel)]; rfl
  refine fallback ?_ n1 n2 n3 n4 n5
  simp [mhas, List.lookup, beq_false_of_ne n1, beq_false_of_ne n2, beq_false_of_ne n3, beq_false_of_ne n4, beq_false_of_ne n5]
end Go.Pn
namespace Go.Pn
open Go.Pv Go.Av

theorem getD_at (s : Bs) (k : Nat) (h : k < s.length) : (⟨s.toArray⟩ : ByteArray).get! k = s[k] := by
  show (s.toArray)[k]! = _
  simp [h]

/-- The bytes of a sign that is not ASCII are none of ASCII. -/
theorem decR_skip (s : Bs) (p m : Nat) (hm : 0 < m) (hk : m < (decR s p).2) : ∃ h : p + m < s.length, 128 ≤ (s[p + m]).toNat := by
  have key : ∀ k, (decide (p + k < (⟨s.toArray⟩ : ByteArray).size) && ((⟨s.toArray⟩ : ByteArray).get! (p + k)).toNat / 64 == 2) = true → ∃ h : p + k < s.length, 128 ≤ (s[p + k]).toNat := by
    intro k hk
    simp only [Bool.and_eq_true, decide_eq_true_eq, beq_iff_eq] at hk
    obtain ⟨h1, h2⟩ := hk
    have h1' : p + k < s.length := h1
    rw [getD_at s (p + k) h1'] at h2
    exact ⟨h1', by omega⟩
  unfold decR Utf8.decode at hk
  simp only at hk
  split at hk
  · simp at hk; omega
  · split at hk
    · rename_i h2
      simp only [Bool.and_eq_true] at h2
      split at hk
      · have : m = 1 := by simp at hk; omega
        subst this
        exact key 1 (by simpa using h2.2)
      · simp at hk; omega
    · split at hk
      · rename_i h2
        simp only [Bool.and_eq_true] at h2
        split at hk
        · have : m = 1 ∨ m = 2 := by simp at hk; omega
          rcases this with rfl | rfl
          · exact key 1 (by simpa using h2.1.2)
          · exact key 2 (by simpa using h2.2)
        · simp at hk; omega
      · split at hk
        · rename_i h2
          simp only [Bool.and_eq_true] at h2
          split at hk
          · have : m = 1 ∨ m = 2 ∨ m = 3 := by simp at hk; omega
            rcases this with rfl | rfl | rfl
            · exact key 1 (by simpa using h2.1.1.2)
            · exact key 2 (by simpa using h2.1.2)
            · exact key 3 (by simpa using h2.2)
          · simp at hk; omega
        · simp at hk; omega

theorem getE (s : Bs) (p : Nat) (h : p < s.length) : ((⟨s.toArray⟩ : ByteArray)[p]'h) = s[p] := rfl
theorem decR_low (s : Bs) (p : Nat) (h : p < s.length) (hb : (s[p]).toNat < 128) : decR s p = ((s[p]).toNat, 1) := decode_ascii (⟨s.toArray⟩ : ByteArray) p h hb
theorem decR_high (s : Bs) (p : Nat) (h : p < s.length) (hb : 128 ≤ (s[p]).toNat) : 128 ≤ (decR s p).1 := (decode_high (⟨s.toArray⟩ : ByteArray) p h hb).1

theorem idxRune_hi (F : Nat) (hF : 5 ≤ F) (r : Int) (hr : 128 ≤ r) : idxRune F [38, 59] r = some (-1) := by
  obtain ⟨k1, k2⟩ := runeStr_two r hr
  have k3 := runeStr_len r
  unfold idxRune
  have hf : ((decide (0 ≤ r)) && (decide (r < 128))) = false := by rw [decide_eq_false (by omega : ¬ r < 128), Bool.and_false]
  rw [hf, cond_false]
  by_cases h2 : r = 65533
  · rw [bT h2]
    obtain ⟨m, rfl⟩ : ∃ m, F = m + 3 := ⟨F - 3, by omega⟩
    have e0 : decR [38, 59] 0 = (38, 1) := by decide +kernel
    have e1 : decR [38, 59] 1 = (59, 1) := by decide +kernel
    show idxRune_B1 [38, 59] (idxRune_L1 [38, 59] (m + 2)) 0 = _
    unfold idxRune_B1
    simp only [e0]
    show idxRune_B1 [38, 59] (idxRune_L1 [38, 59] (m + 1)) 1 = _
    unfold idxRune_B1
    simp only [e1]
    rfl
  · rw [bF h2]
    have hv : ∃ b, ValidRune F r = some b := by
      unfold ValidRune
      cases (decide (0 ≤ r)) && (decide (r < 55296)) with
      | true => exact ⟨true, rfl⟩
      | false =>
        rw [cond_false]
        cases (decide (57343 < r)) && (decide (r ≤ 1114111)) with
        | true => exact ⟨true, rfl⟩
        | false => exact ⟨false, rfl⟩
    obtain ⟨b, hb⟩ := hv
    rw [hb, bnd_some]
    cases b with
    | false => rfl
    | true =>
      obtain ⟨m, rfl⟩ : ∃ m, F = m + 1 := ⟨F - 1, by omega⟩
      simp (disch := omega) only [Bool.not_true, cond_false, lt_eq, grd_I]
      show idxRune_B2 [38, 59] (runeStr r) (idxRune_L2 [38, 59] (runeStr r) m) = _
      unfold idxRune_B2 idxRune_j2
      by_cases h3 : (runeStr r).length = 2
      · have e1 : ((runeStr r).length : Int) - 1 = 1 := by omega
        have e2 : at_ ([38, 59] : Bs) 1 = 59 := rfl
        have e3 : from_ ([38, 59] : Bs) (1 + 1) = [] := rfl
        rw [e1]
        simp (disch := (first | omega | (simp; done) | (simp; omega))) only [bT, grd_At, lt_eq, e2, decide_eq_false (k2 h3), Bool.not_false, grd_t, grd_I, grd_To, e3]
        rfl
      · have : ¬ ((runeStr r).length : Int) - 1 < (([38, 59] : Bs).length : Int) := by simp; omega
        rw [bF this]

/-- Where the next '&' or ';' stands, from a place on. -/
def nxt (s : Bs) (y : Nat) : Int := if Go.Lib.indexAny (s.drop y) [38, 59] = -1 then -1 else (y : Int) + Go.Lib.indexAny (s.drop y) [38, 59]
theorem nxt_step (s : Bs) (y : Nat) (h : y < s.length) (hc : ([38, 59] : Bs).contains s[y] = false) : nxt s (y + 1) = nxt s y := by
  unfold nxt
  rw [List.drop_eq_getElem_cons h]
  simp only [Go.Lib.indexAny, hc]
  have := (indexAny_r (s.drop (y + 1)) [38, 59]).1
  by_cases e : Go.Lib.indexAny (s.drop (y + 1)) [38, 59] = -1
  · simp [e]
  · have e2 : (Go.Lib.indexAny (s.drop (y + 1)) [38, 59] == -1) = false := by simpa using e
    have e3 : ¬ Go.Lib.indexAny (s.drop (y + 1)) [38, 59] + 1 = -1 := by omega
    simp [e, e2, e3]; omega
theorem nxt_hi (s : Bs) (y : Nat) (h : y < s.length) (hb : 128 ≤ (s[y]).toNat) : nxt s (y + 1) = nxt s y := by
  refine nxt_step s y h ?_
  have h1 : s[y] ≠ 38 := by intro e; rw [e] at hb; revert hb; decide
  have h2 : s[y] ≠ 59 := by intro e; rw [e] at hb; revert hb; decide
  simp [h1, h2]
theorem nxt_skip (s : Bs) (y : Nat) : ∀ k, (∀ m, m < k → ∃ h : y + m < s.length, 128 ≤ (s[y + m]).toNat) → nxt s (y + k) = nxt s y := by
  intro k
  induction k with
  | zero => intro _; rfl
  | succ k ih =>
    intro h
    obtain ⟨h1, h2⟩ := h k (by omega)
    rw [show y + (k + 1) = y + k + 1 by omega, nxt_hi s (y + k) h1 h2]
    exact ih (fun m hm => h m (by omega))

theorem idxAnyG_eq (F : Nat) (hF : 5 ≤ F) (s : Bs) : ∀ (n y : Nat), s.length - y < n → idxAnyG_L1 F s [38, 59] n y = some (nxt s y) := by
  intro n
  induction n with
  | zero => intro y h; omega
  | succ n ih =>
    intro y hy
    show idxAnyG_B1 F s [38, 59] (idxAnyG_L1 F s [38, 59] n) y = _
    unfold idxAnyG_B1 idxAnyG_j2
    by_cases h : y < s.length
    · rw [bT h]
      by_cases hb : (s[y]).toNat < 128
      · rw [decR_low s y h hb]
        have hi : idxRune F [38, 59] ((s[y]).toNat : Int) = some (Go.Lib.indexByte [38, 59] s[y]) := by
          unfold idxRune
          have e : ((decide ((0 : Int) ≤ ((s[y]).toNat : Int))) && (decide (((s[y]).toNat : Int) < 128))) = true := by
            rw [decide_eq_true (by omega : (0 : Int) ≤ ((s[y]).toNat : Int)), decide_eq_true (by omega : ((s[y]).toNat : Int) < 128)]; rfl
          rw [e, cond_true, lt_eq, toB_nat _ (s[y]).toNat rfl, UInt8.ofNat_toNat]
        simp only [hi, bnd_some]
        by_cases hc : ([38, 59] : Bs).contains s[y] = true
        · have h0 : 0 ≤ Go.Lib.indexByte [38, 59] s[y] := by
            have : s[y] = 38 ∨ s[y] = 59 := by simpa using hc
            rcases this with e | e <;> rw [e] <;> decide
          rw [bT h0]
          unfold nxt
          rw [List.drop_eq_getElem_cons h]
          simp only [Go.Lib.indexAny, hc, if_true]
          simp
        · have hc' : ([38, 59] : Bs).contains s[y] = false := by simpa using hc
          have h0 : ¬ 0 ≤ Go.Lib.indexByte [38, 59] s[y] := by
            have hne : ¬ s[y] = 38 ∧ ¬ s[y] = 59 := by simpa using hc'
            have := indexByte_no (c := s[y]) (s := [38, 59]) (fun b hb e => by
              simp at hb
              rcases hb with rfl | rfl
              · exact hne.1 e.symm
              · exact hne.2 e.symm)
            omega
          rw [bF h0, ih (y + 1) (by omega), nxt_step s y h hc']
      · have hh := decR_high s y h (by omega)
        have hp := decR_pos s y
        rw [idxRune_hi F hF _ (by omega), bnd_some, bF (by omega), ih _ (by omega)]
        rw [nxt_skip s y (decR s y).2 (fun m hm => by
          cases m with
          | zero => exact ⟨h, by simpa using hb⟩
          | succ m => exact decR_skip s y (m + 1) (by omega) hm)]
    · rw [bF h]
      unfold nxt
      rw [List.drop_eq_nil_of_le (by omega)]
      rfl

theorem idxAny_eq (F : Nat) (s : Bs) (hF : 20 ≤ F) : idxAny F s [38, 59] = some (Go.Lib.indexAny s [38, 59]) := by
  unfold idxAny
  by_cases h : 8 < s.length
  · simp [h]
  · have e : ((decide (8 < s.length)) && (decide (2 ≤ ([38, 59] : Bs).length))) = false := by simp [h]
    rw [e, cond_false]
    unfold idxAnyG useSet idxAnyG_j3
    have e3 : decide ((8 : Int) < (s.length : Int)) = false := decide_eq_false (by omega)
    simp (disch := (first | omega | (simp; done) | (simp; omega))) only [bF, bnd_some, e3, Bool.not_false, grd_t]
    rw [idxAnyG_eq F (by omega) s F 0 (by omega)]
    unfold nxt
    rw [List.drop_zero]
    split
    · rename_i e; rw [e]
    · simp
end Go.Pn
namespace Go.Pn
open Go.Pv Go.Av

abbrev amp : Bs := [38, 59]
theorem any_cons (c : UInt8) (r : Bs) : Go.Lib.indexAny (c :: r) amp = if c = 38 ∨ c = 59 then 0 else if Go.Lib.indexAny r amp = -1 then -1 else Go.Lib.indexAny r amp + 1 := by
  simp [Go.Lib.indexAny]
theorem any_at (r : Bs) : ∀ (k : Nat) (h : k < r.length), (∀ b ∈ r.take k, ¬ (b = 38 ∨ b = 59)) → (r[k] = 38 ∨ r[k] = 59) → Go.Lib.indexAny r amp = (k : Int) := by
  induction r with
  | nil => intro k h; simp at h
  | cons c r ih =>
    intro k h hb hk
    rw [any_cons]
    cases k with
    | zero => rw [if_pos (by simpa using hk)]; rfl
    | succ k =>
      rw [if_neg (hb c (by simp)), ih k (by simpa using h) (fun b hb' => hb b (by simp [hb'])) (by simpa using hk), if_neg (by omega)]
      rfl
theorem any_ge (r : Bs) : ∀ (k : Nat), (∀ b ∈ r.take k, ¬ (b = 38 ∨ b = 59)) → Go.Lib.indexAny r amp = -1 ∨ (k : Int) ≤ Go.Lib.indexAny r amp := by
  induction r with
  | nil => intro k _; exact .inl rfl
  | cons c r ih =>
    intro k hb
    rw [any_cons]
    cases k with
    | zero =>
      have := (indexAny_r (c :: r) amp).1
      rw [any_cons] at this
      omega
    | succ k =>
      rw [if_neg (hb c (by simp))]
      rcases ih k (fun b hb' => hb b (by simp [hb'])) with h | h
      · rw [if_pos h]; exact .inl rfl
      · split
        · exact .inl rfl
        · right; omega
theorem any_is (r : Bs) : ∀ (k : Nat) (h : k < r.length), Go.Lib.indexAny r amp = (k : Int) → r[k] = 38 ∨ r[k] = 59 := by
  induction r with
  | nil => intro k h; simp at h
  | cons c r ih =>
    intro k h hk
    rw [any_cons] at hk
    by_cases hc : c = 38 ∨ c = 59
    · rw [if_pos hc] at hk
      have : k = 0 := by omega
      subst this; simpa using hc
    · rw [if_neg hc] at hk
      split at hk
      · omega
      · cases k with
        | zero => have := (indexAny_r r amp).1; omega
        | succ k => simpa using ih k (by simpa using h) (by omega)

/-- The body of an entity, and whether there is one. -/
def bodyOf (r : Bs) : Bs × Bool :=
  if 0 ≤ Go.Lib.indexAny r amp ∧ Go.Lib.indexAny r amp ≤ 10 ∧ r.getD (Go.Lib.indexAny r amp).toNat 0 = 59 then (r.take (Go.Lib.indexAny r amp).toNat, decide (0 < Go.Lib.indexAny r amp)) else ([], false)

theorem body_loop (s r : Bs) (i : Nat) (hr : s.drop (i + 1) = r) (hi : i < s.length) (hs : s.length ≤ 1000) : ∀ (n k : Nat), s.length - (i + 1 + k) < n → k ≤ 11 → k ≤ r.length → (∀ b ∈ r.take k, ¬ (b = 38 ∨ b = 59)) →
    ref07_body_L1 s (i : Int) n ((i + 1 + k : Nat) : Int) = some (bodyOf r) := by
  have hlr : r.length = s.length - (i + 1) := by rw [← hr]; simp
  intro n
  induction n with
  | zero => intro k h; omega
  | succ n ih =>
    intro k hn hk hkr hb
    show ref07_body_B1 s (i : Int) (ref07_body_L1 s (i : Int) n) ((i + 1 + k : Nat) : Int) = _
    unfold ref07_body_B1 ref07_body_j1
    have hg : ∀ (q : Bool) (k : Option (Bs × Bool)), grdc q (okI ((i : Int) + 11)) k = k := fun q k => by
      cases q
      · rw [grdc_f]
      · rw [grdc_t, grd_I (by omega)]
    rw [hg]
    have hge := any_ge r k hb
    by_cases h : i + 1 + k < s.length ∧ k ≤ 10
    · have e : ((decide (((i + 1 + k : Nat) : Int) < (s.length : Int))) && (decide (((i + 1 + k : Nat) : Int) ≤ (i : Int) + 11))) = true := by
        rw [decide_eq_true (by omega : ((i + 1 + k : Nat) : Int) < (s.length : Int)), decide_eq_true (by omega : ((i + 1 + k : Nat) : Int) ≤ (i : Int) + 11)]; rfl
      have hkl : k < r.length := by omega
      have hsr : s[i + 1 + k] = r[k] := by subst hr; simp
      rw [e, cond_true]
      simp (disch := omega) only [grd_At, lt_eq, at_nat h.1, hsr]
      by_cases h38 : r[k] = 38
      · rw [bT h38]
        have hj := any_at r k hkl hb (.inl h38)
        have hget : ¬ r.getD (k : Int).toNat 0 = 59 := by simp [hkl, h38]
        unfold bodyOf
        rw [hj, if_neg (fun hh => hget hh.2.2)]
      · rw [bF h38]
        by_cases h59 : r[k] = 59
        · rw [bT h59]
          have hj := any_at r k hkl hb (.inr h59)
          have hget : r.getD (k : Int).toNat 0 = 59 := by simp [hkl, h59]
          have hsub : sub s ((i : Int) + 1) ((i + 1 + k : Nat) : Int) = r.take k := by
            rw [show (i : Int) + 1 = ((i + 1 : Nat) : Int) from rfl, sub_nat, ← hr, List.drop_take]
            congr 1; omega
          have hdec : decide ((i : Int) + 1 < ((i + 1 + k : Nat) : Int)) = decide ((0 : Int) < (k : Int)) := by
            by_cases hk0 : 0 < k
            · rw [decide_eq_true (by omega), decide_eq_true (by omega)]
            · rw [decide_eq_false (by omega), decide_eq_false (by omega)]
          unfold bodyOf
          simp (disch := omega) only [grd_I, grd_Sub, hsub, hdec]
          rw [hj, if_pos ⟨by omega, by omega, hget⟩]
          simp
        · rw [bF h59, grd_I (by omega)]
          have := ih (k + 1) (by omega) (by omega) (by omega) (by
            rw [List.take_succ_eq_append_getElem hkl]
            intro b hb'
            rcases List.mem_append.1 hb' with hb' | hb'
            · exact hb b hb'
            · have : b = r[k] := by simpa using hb'
              rw [this]; rintro (e | e)
              · exact h38 e
              · exact h59 e)
          rw [show ((i + 1 + k : Nat) : Int) + 1 = ((i + 1 + (k + 1) : Nat) : Int) by omega]
          exact this
    · have e : ((decide (((i + 1 + k : Nat) : Int) < (s.length : Int))) && (decide (((i + 1 + k : Nat) : Int) ≤ (i : Int) + 11))) = false := by
        by_cases h1 : i + 1 + k < s.length
        · rw [decide_eq_false (by omega : ¬ ((i + 1 + k : Nat) : Int) ≤ (i : Int) + 11), Bool.and_false]
        · rw [decide_eq_false (by omega : ¬ ((i + 1 + k : Nat) : Int) < (s.length : Int)), Bool.false_and]
      rw [e, cond_false]
      have hlt := (indexAny_r r amp).2
      unfold bodyOf
      rw [if_neg (by omega)]

theorem body_eq (F : Nat) (s r : Bs) (i : Nat) (hr : s.drop (i + 1) = r) (hi : i < s.length) (hs : s.length ≤ 1000) (hF : s.length < F) : ref07_body F s (i : Int) = some (bodyOf r) := by
  unfold ref07_body
  rw [grd_I (by omega)]
  have := body_loop s r i hr hi hs F 0 (by omega) (by omega) (by omega) (by simp)
  exact this

theorem body_len (r : Bs) : (bodyOf r).1.length ≤ 10 := by
  unfold bodyOf
  split
  · rename_i h; simp; omega
  · simp

/-- What an entity gives, and how long it is. -/
theorem first_eq (F : Nat) (r : Bs) (hs : r.length ≤ 1000) (hF : 2000 < F) : ∃ x k, ref07_sign F (bodyOf r).1 = some (x, k) ∧ ent_first F (38 :: r) = some (if (bodyOf r).2 = true ∧ k = true then (x, ((bodyOf r).1.length : Int) + 2) else ([], 0)) := by
  have hbl := body_len r
  obtain ⟨x, k, hx, _⟩ := sign_tot F (bodyOf r).1 (by omega) (by omega)
  refine ⟨x, k, by rw [← sign_same F _ hbl (by omega)]; exact hx, ?_⟩
  obtain ⟨hj1, hj2⟩ := indexAny_r r amp
  have h1 : from_ (38 :: r) 1 = r := rfl
  have ha : asciiB [38, 59] = true := by decide
  have hl : ((38 :: r : Bs).length : Int) = (r.length : Int) + 1 := by simp
  unfold ent_first ent_in
  simp (disch := (first | omega | (simp; done) | (simp; omega))) only [grd_To, lt_eq, ha, grd_t, grd_S, h1, idxAny_eq F r (by omega), bnd_some]
  by_cases h : 1 ≤ Go.Lib.indexAny r amp ∧ Go.Lib.indexAny r amp ≤ 10
  · obtain ⟨j, hj⟩ : ∃ j : Nat, Go.Lib.indexAny r amp = j := ⟨(Go.Lib.indexAny r amp).toNat, by omega⟩
    have hjl : j < r.length := by omega
    have hc := any_is r j hjl hj
    have hx' : ((decide (1 ≤ Go.Lib.indexAny r amp)) && (decide (Go.Lib.indexAny r amp ≤ 10))) = true := by simp [h]
    have hat : at_ (38 :: r) ((j : Int) + 1) = r[j] := by
      rw [show (j : Int) + 1 = ((j + 1 : Nat) : Int) from rfl, at_nat (by simp; omega)]; simp
    have hsub : sub (38 :: r) 1 ((j : Int) + 1) = r.take j := by
      rw [show (j : Int) + 1 = ((j + 1 : Nat) : Int) from rfl, show (1 : Int) = ((1 : Nat) : Int) from rfl, sub_nat]; simp
    rw [hj] at hx' h ⊢
    simp (disch := (first | omega | (simp; done) | (simp; omega))) only [hx', Bool.not_true, Bool.not_false, grdc_t, grd_I, grd_At, Bool.false_or, hat]
    have hget : r.getD (j : Int).toNat 0 = r[j] := by simp [hjl]
    rcases hc with hc | hc
    · have hb : bodyOf r = ([], false) := by
        unfold bodyOf
        rw [hj, hget, hc, if_neg (by simp)]
      rw [bT hc, hb]; simp
    · have hb : bodyOf r = (r.take j, true) := by
        unfold bodyOf
        rw [hj, hget, hc, if_pos ⟨by omega, by omega, rfl⟩, decide_eq_true (by omega)]
        simp
      rw [hb] at hx ⊢
      have hlt : ((r.take j).length : Int) = (j : Int) := by simp; omega
      rw [bF (by rw [hc]; decide)]
      simp (disch := (first | omega | (simp; done) | (simp; omega))) only [grd_Sub, lt_eq, hsub, hx, bnd2_some]
      cases k with
      | false => simp
      | true =>
        simp (disch := (first | omega | (simp; done) | (simp; omega))) only [Bool.not_true, cond_false, grd_I]
        simp [hlt]; omega
  · have hx' : ((decide (1 ≤ Go.Lib.indexAny r amp)) && (decide (Go.Lib.indexAny r amp ≤ 10))) = false := by
      cases hq : (decide (1 ≤ Go.Lib.indexAny r amp)) && (decide (Go.Lib.indexAny r amp ≤ 10)) with
      | false => rfl
      | true => exact absurd (by simpa using hq) h
    simp only [hx', Bool.not_false, Bool.not_true, grdc_f, Bool.true_or, cond_true]
    have hb : (bodyOf r).2 = false := by
      unfold bodyOf
      split
      · rename_i hh; simp; omega
      · rfl
    rw [hb]; simp
end Go.Pn
namespace Go.Pn
open Go.Pv Go.Av

/-- What an entity gives, and how many bytes it has (behind its '&'). -/
def ent1 (F : Nat) (r : Bs) : Option (Bs × Nat) :=
  match ref07_sign F (bodyOf r).1 with
  | some (x, true) => bif (bodyOf r).2 then some (x, (bodyOf r).1.length + 2) else none
  | _ => none

def G1 (F : Nat) : Nat → Bs → Bool → Bs → Bs × Bool
  | 0, _, ok, acc => (acc, ok)
  | _ + 1, [], ok, acc => (acc, ok)
  | m + 1, c :: r, ok, acc =>
    if c = 38 then
      match ent1 F r with
      | some (x, k) => G1 F m ((c :: r).drop k) ok (acc ++ x)
      | none => G1 F m r false (acc ++ [38])
    else G1 F m r ok (acc ++ [c])

theorem ent1_two {F : Nat} {r : Bs} {x : Bs} {k : Nat} (h : ent1 F r = some (x, k)) : 2 ≤ k := by
  unfold ent1 at h
  split at h
  · cases hb : (bodyOf r).2 with
    | true => rw [hb] at h; simp at h; omega
    | false => rw [hb] at h; simp at h
  · cases h

theorem G1_fuel (F : Nat) : ∀ (m m' : Nat) (s : Bs) (ok : Bool) (acc : Bs), s.length < m → s.length < m' → G1 F m s ok acc = G1 F m' s ok acc := by
  intro m
  induction m with
  | zero => intro m' s ok acc h; omega
  | succ m ih =>
    intro m' s ok acc h h'
    obtain ⟨m'', rfl⟩ : ∃ m'', m' = m'' + 1 := ⟨m' - 1, by omega⟩
    cases s with
    | nil => rfl
    | cons c r =>
      simp only [List.length_cons] at h h'
      simp only [G1]
      by_cases hc : c = 38
      · rw [if_pos hc, if_pos hc]
        cases he : ent1 F r with
        | none => exact ih _ _ _ _ (by omega) (by omega)
        | some p =>
          have := ent1_two (x := p.1) (k := p.2) he
          exact ih _ _ _ _ (by simp; omega) (by simp; omega)
      · rw [if_neg hc, if_neg hc]
        exact ih _ _ _ _ (by omega) (by omega)

theorem G1_skip (F : Nat) : ∀ (p t : Bs) (m : Nat) (ok : Bool) (acc : Bs), (∀ b ∈ p, b ≠ 38) → p.length + t.length < m → G1 F m (p ++ t) ok acc = G1 F m t ok (acc ++ p) := by
  intro p
  induction p with
  | nil => intro t m ok acc _ _; simp
  | cons c r ih =>
    intro t m ok acc hp hm
    obtain ⟨m', rfl⟩ : ∃ m', m = m' + 1 := ⟨m - 1, by omega⟩
    simp only [List.length_cons] at hm
    simp only [List.cons_append, G1]
    rw [if_neg (hp c (by simp)), ih t m' ok _ (fun b hb => hp b (by simp [hb])) (by omega), G1_fuel F m' (m' + 1) t ok _ (by omega) (by omega)]
    simp

theorem indexByte_split (s : Bs) (i : Nat) (h : Go.Lib.indexByte s 38 = (i : Int)) : (∀ b ∈ s.take i, b ≠ 38) ∧ ∃ r, s.drop i = 38 :: r := by
  induction s generalizing i with
  | nil => simp [Go.Lib.indexByte] at h
  | cons c r ih =>
    unfold Go.Lib.indexByte at h
    by_cases hc : c = 38
    · subst hc
      have : i = 0 := by simp at h; omega
      subst this
      exact ⟨by simp, r, rfl⟩
    · have hcb : (c == 38) = false := by simpa using hc
      rw [hcb] at h
      by_cases hn : Go.Lib.indexByte r 38 = -1
      · simp [hn] at h
      · have hnb : (Go.Lib.indexByte r 38 == -1) = false := by simpa using hn
        rw [hnb] at h
        have hr := indexByte_r r 38
        simp at h
        obtain ⟨j, rfl⟩ : ∃ j, i = j + 1 := ⟨i - 1, by omega⟩
        obtain ⟨h1, t, h2⟩ := ih j (by omega)
        refine ⟨fun b hb => ?_, t, by simpa using h2⟩
        simp only [List.take_succ_cons, List.mem_cons] at hb
        rcases hb with rfl | hb
        · exact hc
        · exact h1 b hb
theorem indexByte_neg (s : Bs) (h : Go.Lib.indexByte s 38 < 0) : ∀ b ∈ s, b ≠ 38 := by
  induction s with
  | nil => simp
  | cons c r ih =>
    have hr := indexByte_r r 38
    unfold Go.Lib.indexByte at h
    split at h
    · omega
    · rename_i hc
      have hc' : c ≠ 38 := by simpa using hc
      split at h
      · rename_i hn
        have hn' : Go.Lib.indexByte r 38 = -1 := by simpa using hn
        intro b hb
        rcases List.mem_cons.1 hb with rfl | hb
        · exact hc'
        · exact ih (by omega) b hb
      · rename_i hn
        have hn' : ¬ Go.Lib.indexByte r 38 = -1 := by simpa using hn
        omega

theorem ent_gone_eq (F : Nat) (hF : 3000 < F) : ∀ (n : Nat) (s : Bs) (ok : Bool) (acc : Bs) (m : Nat), s.length < n → s.length < m → s.length ≤ 1000 → acc.length + 4 * s.length ≤ 10000 → ent_gone_L1 F n (s, ok, acc) = some (G1 F m s ok acc) := by
  intro n
  induction n with
  | zero => intro s ok acc m h; omega
  | succ n ih =>
    intro s ok acc m hn hm hs ha
    show ent_gone_B1 F (ent_gone_L1 F n) s ok acc = _
    unfold ent_gone_B1 ent_gone_j1
    obtain ⟨hi1, hi2⟩ := indexByte_r s 38
    by_cases h : Go.Lib.indexByte s 38 < 0
    · simp (disch := (first | omega | (simp; done) | (simp; omega))) only [lt_eq, bT, grd_W]
      have := G1_skip F s [] m ok acc (indexByte_neg s h) (by simpa using hm)
      rw [List.append_nil] at this
      rw [this]
      obtain ⟨m', rfl⟩ : ∃ m', m = m' + 1 := ⟨m - 1, by omega⟩
      rfl
    · obtain ⟨i, hi⟩ : ∃ i : Nat, Go.Lib.indexByte s 38 = i := ⟨(Go.Lib.indexByte s 38).toNat, by omega⟩
      obtain ⟨hp, r, hr⟩ := indexByte_split s i hi
      have il : i < s.length := by omega
      have l1 : (to_ s (i : Int)).length = i := by simp [to_nat]; omega
      have e2 : from_ s (i : Int) = 38 :: r := by rw [from_nat, hr]
      have hsp : s = s.take i ++ 38 :: r := by rw [← hr, List.take_append_drop]
      have lr : r.length = s.length - i - 1 := by
        have := congrArg List.length hr
        simp at this; omega
      have e1 : to_ s (i : Int) = s.take i := to_nat
      obtain ⟨x, k, hx, hf⟩ := first_eq F r (by omega) (by omega)
      obtain ⟨o, kk, ho, hk⟩ := first_tot F (38 :: r) (by simp) (by simp; omega) (by simp; omega)
      rw [hf] at ho
      have hG : G1 F m s ok acc = G1 F m (38 :: r) ok (acc ++ s.take i) := by
        have := G1_skip F (s.take i) (38 :: r) m ok acc hp (by simp; omega)
        rw [← hsp] at this; exact this
      obtain ⟨m', rfl⟩ : ∃ m', m = m' + 1 := ⟨m - 1, by omega⟩
      have ltk : (s.take i).length = i := by simp; omega
      rw [hG]
      simp (disch := (first | omega | (simp; done) | (simp; omega))) only [lt_eq, hi, bF, grd_To, grd_W, e2, hf]
      simp only [G1, if_true, ent1, hx]
      by_cases hb : (bodyOf r).2 = true ∧ k = true
      · rw [if_pos hb] at ho ⊢
        obtain ⟨hb1, rfl⟩ := hb
        have ho' := Option.some.inj ho
        have hk1 : ((bodyOf r).1.length : Int) + 2 = kk := (Prod.mk.inj ho').2
        have ho1 : x = o := (Prod.mk.inj ho').1
        subst ho1
        rcases hk with rfl | ⟨k3, kl, ol⟩
        · omega
        · simp only [List.length_cons] at kl
          have ef : from_ (38 :: r) (((bodyOf r).1.length : Int) + 2) = (38 :: r).drop ((bodyOf r).1.length + 2) := by
            rw [show ((bodyOf r).1.length : Int) + 2 = (((bodyOf r).1.length + 2 : Nat) : Int) from rfl, from_nat]
          simp only [hb1, cond_true, bnd2_some, ef]
          simp (disch := (first | omega | (simp; done) | (simp; omega))) only [bF, grd_W, lt_eq, grd_To, e1]
          rw [ih _ ok _ m' (by simp; omega) (by simp; omega) (by simp; omega) (by simp; omega)]
      · rw [if_neg hb]
        have e0 : from_ (38 :: r) 1 = r := rfl
        have hm1 : (match (some (x, k) : Option (Bs × Bool)) with | some (x, true) => bif (bodyOf r).2 then some (x, (bodyOf r).1.length + 2) else none | _ => none) = none := by
          cases k with
          | false => rfl
          | true =>
            have : (bodyOf r).2 = false := by
              cases hq : (bodyOf r).2 with
              | false => rfl
              | true => exact absurd ⟨hq, rfl⟩ hb
            rw [this]; rfl
        simp only [bnd2_some]
        simp (disch := (first | omega | (simp; done) | (simp; omega))) only [decide_true, cond_true, grd_W, lt_eq, grd_To, e0, e1]
        rw [ih r false _ m' (by omega) (by omega) (by omega) (by simp; omega)]
        have hm2 : ent1 F r = none := by unfold ent1; rw [hx]; exact hm1
        unfold ent1 at hm2; rw [hx] at hm2
        cases k with
        | false => rfl
        | true => 
          cases hq : (bodyOf r).2 with
          | false => rfl
          | true => exact absurd ⟨hq, rfl⟩ hb

theorem ref_gone_eq (F : Nat) (hF : 3000 < F) (s : Bs) (hs : s.length ≤ 1000) : ∀ (n i m : Nat) (ok : Bool) (acc : Bs), s.length - i < n → s.length - i < m → i ≤ s.length → acc.length ≤ 4 * i → ref07_gone_L1 F s n (acc, ok, (i : Int)) = some (G1 F m (s.drop i) ok acc) := by
  intro n
  induction n with
  | zero => intro i m ok acc h; omega
  | succ n ih =>
    intro i m ok acc hn hm hi ha
    obtain ⟨m', rfl⟩ : ∃ m', m = m' + 1 := ⟨m - 1, by omega⟩
    show ref07_gone_B1 F s (ref07_gone_L1 F s n) acc ok (i : Int) = _
    unfold ref07_gone_B1 ref07_gone_j2 ref07_gone_j1
    by_cases h : i < s.length
    · have hd : s.drop i = s[i] :: s.drop (i + 1) := List.drop_eq_getElem_cons h
      have lr : (s.drop (i + 1)).length = s.length - (i + 1) := by simp
      simp (disch := (first | omega | (simp; done) | (simp; omega))) only [bT, grd_At, lt_eq, at_nat h, grd_Cat, grd_I, cast_succ]
      rw [hd]
      simp only [G1]
      by_cases hc : s[i] = 38
      · rw [bT hc, if_pos hc, body_eq F s _ i rfl h hs (by omega), bnd2_some' (bodyOf (s.drop (i + 1)))]
        obtain ⟨x, k, hx, hf⟩ := first_eq F (s.drop (i + 1)) (by omega) (by omega)
        obtain ⟨o, kk, ho, hk⟩ := first_tot F (38 :: s.drop (i + 1)) (by simp) (by simp; omega) (by simp; omega)
        rw [hf] at ho
        rw [hx, bnd2_some]
        simp only [ent1, hx]
        by_cases hb : (bodyOf (s.drop (i + 1))).2 = true ∧ k = true
        · rw [if_pos hb] at ho
          obtain ⟨hb1, rfl⟩ := hb
          have ho' := Option.some.inj ho
          have hk1 : ((bodyOf (s.drop (i + 1))).1.length : Int) + 2 = kk := (Prod.mk.inj ho').2
          have ho1 : x = o := (Prod.mk.inj ho').1
          subst ho1
          rcases hk with rfl | ⟨k3, kl, ol⟩
          · omega
          · simp only [List.length_cons] at kl
            simp only [hb1, Bool.and_self, cond_true]
            rw [grd_Cat (by omega), grd_I (by omega), grd_I (by omega)]
            have e1 : (i : Int) + ((bodyOf (s.drop (i + 1))).1.length : Int) + 2 = ((i + ((bodyOf (s.drop (i + 1))).1.length + 2) : Nat) : Int) := by omega
            rw [e1, ih _ m' ok _ (by omega) (by omega) (by omega) (by simp; omega)]
            rw [← hd, List.drop_drop]
        · have hbf : ((bodyOf (s.drop (i + 1))).2 && k) = false := by
            cases hq : (bodyOf (s.drop (i + 1))).2 <;> cases k <;> first | rfl | exact absurd ⟨hq, rfl⟩ hb
          rw [hbf, cond_false, ih (i + 1) m' false _ (by omega) (by omega) (by omega) (by simp; omega), hc]
          cases k with
          | false => rfl
          | true =>
            cases hq : (bodyOf (s.drop (i + 1))).2 with
            | false => rfl
            | true => exact absurd ⟨hq, rfl⟩ hb
      · rw [bF hc, if_neg hc]
        exact ih (i + 1) m' ok _ (by omega) (by omega) (by omega) (by simp; omega)
    · rw [bF (by omega), List.drop_eq_nil_of_le (by omega)]
      rfl
where
  bnd2_some' {ρ : Type} (p : Bs × Bool) {f : Bs → Bool → Option ρ} : bnd2 (some p) f = f p.1 p.2 := rfl

/-- A text gone through, by the program and by the document. -/
theorem gone_same (F : Nat) (hF : 3000 < F) (s : Bs) (hs : s.length ≤ 1000) : ref07_gone F s = ent_gone F s := by
  have h1 := ent_gone_eq F hF F s true [] (s.length + 1) (by omega) (by omega) hs (by simp; omega)
  have h2 := ref_gone_eq F hF s hs F 0 (s.length + 1) true [] (by omega) (by omega) (by omega) (by simp)
  unfold ref07_gone ent_gone
  rw [h1]
  exact h2
theorem loose_same (F : Nat) (hF : 3000 < F) (s : Bs) (hs : s.length ≤ 1000) : ref07_Loose F s = ent_Loose F s := by
  unfold ref07_Loose ent_Loose
  rw [gone_same F hF s hs]
end Go.Pn
namespace Go.Pn
open Go.Pv Go.Av

theorem wr_length (k : Nat) : ∀ (ws : List Bs) (l : Bs), (wr k l ws).length ≤ ws.length + 1
  | [], l => by simp [wr]
  | w :: r, l => by
    unfold wr
    split
    · have := wr_length k r (l ++ ([32] ++ w)); simp only [List.length_cons]; omega
    · have := wr_length k r w; simp; omega

/-- A line's lines. -/
def lw (k : Nat) (l : Bs) : List Bs := match sp 32 (trim l) with | [] => [] | w :: ws => wr k w ws
theorem lw_length (k : Nat) (l : Bs) : (lw k l).length ≤ l.length + 2 := by
  unfold lw
  have h1 := sp_length 32 (trim l)
  have h2 := trim_len l
  split
  · simp
  · rename_i w ws h
    rw [h] at h1
    have := wr_length k ws w
    simp at h1; omega

theorem wrapG (a2 : Int) (k : Nat) (hk : a2 = k) (y : Int) (W : List Bs) (rec : ((List Bs) × Int) → Option (List Bs)) : ∀ (n i : Nat) (out : List Bs) (line : Bs), W.length - i < n → i ≤ W.length → out.length + (W.length - i) ≤ 10000000 → line.length + Str.total (W.drop i) + (W.length - i) ≤ 100000 → W.length ≤ 100000 →
    plain_Wrap_L1 a2 y W rec n (out, line, false, (i : Int)) = plain_Wrap_j2 y rec (out ++ wr k line (W.drop i)) := by
  subst hk
  intro n
  induction n with
  | zero => intro i out line h; omega
  | succ n ih =>
    intro i out line hn hi ho hB hW
    show plain_Wrap_B1 (k : Int) y W rec (plain_Wrap_L1 (k : Int) y W rec n) out line false (i : Int) = _
    unfold plain_Wrap_B1 plain_Wrap_j4 plain_Wrap_j3
    by_cases h : i < W.length
    · have hd : W.drop i = W[i] :: W.drop (i + 1) := List.drop_eq_getElem_cons h
      have ht := Str.total_drop W i h
      simp (disch := (first | omega | (simp; done) | (simp; omega))) only [bT, grd_At, lt_eq, at_nat h, cond_false, grd_I, grd_Cat, cast_succ]
      rw [hd]
      by_cases hc : line.length + 1 + W[i].length ≤ k
      · have hc' : ((line.length + 1 : Nat) : Int) + (W[i].length : Int) ≤ (k : Int) := by omega
        rw [bT hc', ih (i + 1) out _ (by omega) (by omega) (by omega) (by simp; omega) hW]
        simp only [wr]; rw [if_pos hc]
      · have hc' : ¬ ((line.length + 1 : Nat) : Int) + (W[i].length : Int) ≤ (k : Int) := by omega
        rw [bF hc', ih (i + 1) _ _ (by omega) (by omega) (by simp; omega) (by omega) hW]
        simp only [wr]; rw [if_neg hc]; simp
    · have hi2 : i = W.length := by omega
      subst hi2
      simp (disch := (first | omega | (simp; done) | (simp; omega))) only [bF, grd_Cat, lt_eq, List.drop_length, wr]

theorem refG (a2 : Int) (k : Nat) (hk : a2 = k) (y : Int) (W : List Bs) (rec : ((List Bs) × Int) → Option (List Bs)) : ∀ (n i : Nat) (out : List Bs) (line : Bs), 0 < i → W.length - i < n → i ≤ W.length → out.length + (W.length - i) ≤ 10000000 → line.length + Str.total (W.drop i) + (W.length - i) ≤ 100000 → W.length ≤ 100000 →
    ref11_Wrap_L1 a2 y W rec n (out, line, (i : Int)) = ref11_Wrap_j2 y rec (out ++ wr k line (W.drop i)) := by
  subst hk
  intro n
  induction n with
  | zero => intro i out line _ h; omega
  | succ n ih =>
    intro i out line h0 hn hi ho hB hW
    show ref11_Wrap_B1 (k : Int) y W rec (ref11_Wrap_L1 (k : Int) y W rec n) out line (i : Int) = _
    unfold ref11_Wrap_B1 ref11_Wrap_j5 ref11_Wrap_j4 ref11_Wrap_j3
    by_cases h : i < W.length
    · have hd : W.drop i = W[i] :: W.drop (i + 1) := List.drop_eq_getElem_cons h
      have ht := Str.total_drop W i h
      have z : decide ((0 : Int) < (i : Int)) = true := decide_eq_true (by omega)
      simp (disch := (first | omega | (simp; done) | (simp; omega))) only [bT, z, grdc_t, grd_At, lt_eq, at_nat h, Bool.true_and, cond_true, grd_I, grd_Cat, cast_succ]
      rw [hd]
      by_cases hc : line.length + 1 + W[i].length ≤ k
      · have hc' : ((line.length + 1 : Nat) : Int) + (W[i].length : Int) ≤ (k : Int) := by omega
        rw [bT hc', ih (i + 1) out _ (by omega) (by omega) (by omega) (by omega) (by simp; omega) hW]
        simp only [wr]; rw [if_pos hc, List.append_assoc]
      · have hc' : ¬ ((line.length + 1 : Nat) : Int) + (W[i].length : Int) ≤ (k : Int) := by omega
        rw [bF hc', ih (i + 1) _ _ (by omega) (by omega) (by omega) (by simp; omega) (by omega) hW]
        simp only [wr]; rw [if_neg hc]; simp
    · have hi2 : i = W.length := by omega
      subst hi2
      simp (disch := (first | omega | (simp; done) | (simp; omega))) only [bF, grd_Cat, lt_eq, List.drop_length, wr]

/-- The lines of each line. -/
def lws (k : Nat) (ls : List Bs) : List Bs := ls.flatMap (lw k)
theorem lws_cons (k : Nat) (l : Bs) (r : List Bs) : lws k (l :: r) = lw k l ++ lws k r := by simp [lws]

theorem plain_lines (F : Nat) (a2 : Int) (k : Nat) (hk : a2 = k) (hF : 3000 < F) (ls : List Bs) (hl : ∀ l ∈ ls, l.length ≤ 1000) (hn : ls.length ≤ 1001) : ∀ (n i : Nat) (out : List Bs), ls.length - i < n → i ≤ ls.length → out.length ≤ 2000 * i →
    plain_Wrap_L2 F a2 ls n (out, (i : Int)) = some (out ++ lws k (ls.drop i)) := by
  intro n
  induction n with
  | zero => intro i out h; omega
  | succ n ih =>
    intro i out hni hi ho
    show plain_Wrap_B2 F a2 ls (plain_Wrap_L2 F a2 ls n) out (i : Int) = _
    unfold plain_Wrap_B2 plain_Wrap_j1
    by_cases h : i < ls.length
    · have hd : ls.drop i = ls[i] :: ls.drop (i + 1) := List.drop_eq_getElem_cons h
      have h6 := hl _ (List.getElem_mem h)
      have htl := trim_len ls[i]
      have hln := sp_length 32 (trim ls[i])
      have htt := sp_total 32 (trim ls[i])
      have hlw := lw_length k ls[i]
      cases he : sp 32 (trim ls[i]) with
      | nil => exact absurd he (sp_ne _ _)
      | cons w ws =>
        rw [he] at hln htt
        simp only [Str.total, List.length_cons] at hln htt
        have elw : lw k ls[i] = wr k w ws := by unfold lw; rw [he]
        have e32 : Go.Lib.split (trim ls[i]) [32] = w :: ws := by rw [split_one, he]
        simp (disch := (first | omega | (simp; done) | (simp; omega))) only [bT, grd_At, lt_eq, at_nat h, ent_Trim_eq F ls[i] (by omega) (by omega), bnd_some, grd_S, grd_D, e32]
        obtain ⟨F', rfl⟩ : ∃ F', F = F' + 1 := ⟨F - 1, by omega⟩
        show plain_Wrap_B1 a2 (i : Int) (w :: ws) (plain_Wrap_L2 (F' + 1) a2 ls n) (plain_Wrap_L1 a2 (i : Int) (w :: ws) (plain_Wrap_L2 (F' + 1) a2 ls n) F') out [] true 0 = _
        unfold plain_Wrap_B1 plain_Wrap_j4
        have e1 : at_ (w :: ws) 0 = w := rfl
        simp (disch := (first | omega | (simp; done) | (simp; omega))) only [bT, grd_At, lt_eq, e1, cond_true, grd_I]
        rw [show (0 : Int) + 1 = ((1 : Nat) : Int) from rfl, wrapG a2 k hk (i : Int) (w :: ws) _ F' 1 out w (by simp; omega) (by simp) (by simp; omega) (by simp; omega) (by simp; omega)]
        unfold plain_Wrap_j2
        simp only [List.drop_succ_cons, List.drop_zero]
        rw [grd_I (by omega), cast_succ, ← elw, ih (i + 1) (out ++ lw k ls[i]) (by omega) (by omega) (by simp; omega), hd, lws_cons, List.append_assoc]
    · rw [bF (by omega), List.drop_eq_nil_of_le (by omega)]
      simp [lws]

theorem ref_lines (F : Nat) (a2 : Int) (k : Nat) (hk : a2 = k) (hF : 3000 < F) (ls : List Bs) (hl : ∀ l ∈ ls, l.length ≤ 1000) (hn : ls.length ≤ 1001) : ∀ (n i : Nat) (out : List Bs), ls.length - i < n → i ≤ ls.length → out.length ≤ 2000 * i →
    ref11_Wrap_L2 F a2 ls n (out, (i : Int)) = some (out ++ lws k (ls.drop i)) := by
  intro n
  induction n with
  | zero => intro i out h; omega
  | succ n ih =>
    intro i out hni hi ho
    show ref11_Wrap_B2 F a2 ls (ref11_Wrap_L2 F a2 ls n) out (i : Int) = _
    unfold ref11_Wrap_B2 ref11_Wrap_j1
    by_cases h : i < ls.length
    · have hd : ls.drop i = ls[i] :: ls.drop (i + 1) := List.drop_eq_getElem_cons h
      have h6 := hl _ (List.getElem_mem h)
      have htl := trim_len ls[i]
      have hln := sp_length 32 (trim ls[i])
      have htt := sp_total 32 (trim ls[i])
      have hlw := lw_length k ls[i]
      obtain ⟨F', rfl⟩ : ∃ F', F = F' + 1 := ⟨F - 1, by omega⟩
      simp (disch := (first | omega | (simp; done) | (simp; omega))) only [bT, grd_At, lt_eq, at_nat h]
      unfold ref11_Words
      rw [ref07_Trim_eq (F' + 1) ls[i] (by omega) (by omega), bnd_some]
      by_cases ht : trim ls[i] = []
      · rw [bT ht, bnd_some]
        show ref11_Wrap_B1 a2 (i : Int) [] (ref11_Wrap_L2 (F' + 1) a2 ls n) (ref11_Wrap_L1 a2 (i : Int) [] (ref11_Wrap_L2 (F' + 1) a2 ls n) F') out [] 0 = _
        unfold ref11_Wrap_B1 ref11_Wrap_j3 ref11_Wrap_j2
        have elw : lw k ls[i] = [[]] := by unfold lw; rw [ht]; rfl
        simp (disch := (first | omega | (simp; done) | (simp; omega))) only [bF, grd_Cat, lt_eq, grd_I, cast_succ]
        rw [ih (i + 1) (out ++ [[]]) (by omega) (by omega) (by simp; omega), hd, lws_cons, elw, List.append_assoc]
      · rw [bF ht, ref05_Split_eq (F' + 1) _ 32 (by omega) (by omega), bnd_some, bnd_some]
        cases he : sp 32 (trim ls[i]) with
        | nil => exact absurd he (sp_ne _ _)
        | cons w ws =>
          rw [he] at hln htt
          simp only [Str.total, List.length_cons] at hln htt
          have elw : lw k ls[i] = wr k w ws := by unfold lw; rw [he]
          show ref11_Wrap_B1 a2 (i : Int) (w :: ws) (ref11_Wrap_L2 (F' + 1) a2 ls n) (ref11_Wrap_L1 a2 (i : Int) (w :: ws) (ref11_Wrap_L2 (F' + 1) a2 ls n) F') out [] 0 = _
          unfold ref11_Wrap_B1 ref11_Wrap_j5 ref11_Wrap_j4
          have e1 : at_ (w :: ws) 0 = w := rfl
          have z : decide ((0 : Int) < 0) = false := rfl
          simp (disch := (first | omega | (simp; done) | (simp; omega))) only [bT, z, grdc_f, Bool.false_and, cond_false, grd_At, lt_eq, e1, grd_I]
          rw [show (0 : Int) + 1 = ((1 : Nat) : Int) from rfl, refG a2 k hk (i : Int) (w :: ws) _ F' 1 out w (by omega) (by simp; omega) (by simp) (by simp; omega) (by simp; omega) (by simp; omega)]
          unfold ref11_Wrap_j2
          simp only [List.drop_succ_cons, List.drop_zero]
          rw [grd_I (by omega), cast_succ, ← elw, ih (i + 1) (out ++ lw k ls[i]) (by omega) (by omega) (by simp; omega), hd, lws_cons, List.append_assoc]
    · rw [bF (by omega), List.drop_eq_nil_of_le (by omega)]
      simp [lws]

theorem sp_mem (c : UInt8) (s : Bs) : ∀ l ∈ sp c s, l.length ≤ s.length := by
  intro l hl
  have h1 := sp_total c s
  have h2 := sp_ne c s
  have h3 : 0 < (sp c s).length := List.length_pos_iff.2 h2
  have := mem_total hl
  omega

/-- What is wrapped is what the document says. -/
theorem wrap_same (F : Nat) (hF : 3000 < F) (s : Bs) (m : Int) (hs : s.length ≤ 1000) : ∃ L, plain_Wrap F s m = some L ∧ ref11_Wrap F s m = some L := by
  unfold plain_Wrap ref11_Wrap
  by_cases h : m < 1
  · rw [bT h, bT h]; exact ⟨[], rfl, rfl⟩
  · obtain ⟨k, rfl⟩ : ∃ k : Nat, m = k := ⟨m.toNat, by omega⟩
    have e10 : Go.Lib.split s [10] = sp 10 s := split_one s 10
    have hln := sp_length 10 s
    have hm : ∀ l ∈ sp 10 s, l.length ≤ 1000 := fun l hl => by have := sp_mem 10 s l hl; omega
    refine ⟨lws k (sp 10 s), ?_, ?_⟩
    · simp (disch := (first | omega | (simp; done) | (simp; omega))) only [bF, grd_S, grd_D, lt_eq, e10]
      have := plain_lines F (k : Int) k rfl hF (sp 10 s) hm (by omega) F 0 [] (by omega) (by omega) (by simp)
      exact this
    · rw [bF h, ref05_Split_eq F s 10 (by omega) (by omega), bnd_some]
      have := ref_lines F (k : Int) k rfl hF (sp 10 s) hm (by omega) F 0 [] (by omega) (by omega) (by simp)
      exact this

/-- A list is the same as itself. -/
theorem same_self (F : Nat) (L : List Bs) (hF : L.length < F) (hL : L.length ≤ 100000000) : ref11_Same F L L = some true := by
  unfold ref11_Same
  simp only [decide_true, Bool.not_true, cond_false]
  have key : ∀ (n i : Nat), L.length - i < n → ref11_Same_L1 L L n (i : Int) = some true := by
    intro n
    induction n with
    | zero => intro i h; omega
    | succ n ih =>
      intro i hn
      show ref11_Same_B1 L L (ref11_Same_L1 L L n) (i : Int) = _
      unfold ref11_Same_B1 ref11_Same_j1
      by_cases h : i < L.length
      · simp (disch := omega) only [bT, grd_At, lt_eq, at_nat h, decide_true, Bool.not_true, cond_false, grd_I, cast_succ]
        exact ih _ (by omega)
      · rw [bF (by omega)]
  exact key F 0 (by omega)
end Go.Pn
namespace Go.Pn
open Go.Pv Go.Av

/-- Does a mark begin ahead of this? -/
def isMark : Bs → Bool
  | [] => false
  | d :: _ => decide (0 ≤ Go.Lib.indexByte plaina_k2 d)
/-- A mark's name, and what stands behind it. -/
def markOf (F : Nat) (r : Bs) : Bs × Bs := (cut_mark F (60 :: r) [] []).getD ([], [])
def PC (F : Nat) (br : List (List UInt8 × Int)) : Nat → Bs → List Bs → Bs → List Bs
  | 0, _, ys, acc => ys ++ [acc]
  | _ + 1, [], ys, acc => ys ++ [acc]
  | m + 1, c :: r, ys, acc =>
    if c = 60 ∧ isMark r = true then
      if 0 < Go.Av.mget br (markOf F r).1 then PC F br m (markOf F r).2 (ys ++ [acc]) [] else PC F br m (markOf F r).2 ys acc
    else PC F br m r ys (acc ++ [c])

theorem mark_eq (F : Nat) (r : Bs) (ys : List Bs) (sb : Bs) (hs : r.length + 1 ≤ 1000) (hF : 2000 < F) : cut_mark F (60 :: r) ys sb = some (markOf F r) ∧ (markOf F r).2.length ≤ r.length := by
  obtain ⟨nm, q, h1, h2⟩ := mark_tot F (60 :: r) [] [] (by simp) (by simpa using hs) (by simp; omega)
  have e : markOf F r = (nm, q) := by unfold markOf; rw [h1]; rfl
  have h3 : cut_mark F (60 :: r) ys sb = cut_mark F (60 :: r) [] [] := rfl
  rw [h3, h1, e]
  refine ⟨rfl, ?_⟩
  simp only [List.length_cons] at h2
  show q.length ≤ r.length
  omega

theorem one_mark (F : Nat) (r : Bs) : plain_one F (60 :: r) 1 plaina_k2 = some (isMark r) := by
  cases r with
  | nil =>
    unfold plain_one isMark
    have hd : decide ((1 : Int) < ((60 :: [] : Bs).length : Int)) = false := by decide
    simp only [hd, grdc_f, lt_eq, Bool.false_and]
  | cons d r =>
    have := one_in F (60 :: d :: r) plaina_k2 1 (by simp)
    rw [show ((1 : Nat) : Int) = 1 from rfl] at this
    rw [this]; rfl

theorem PC_fuel (F : Nat) (hF : 2000 < F) (br : List (List UInt8 × Int)) : ∀ (m m' : Nat) (s : Bs) (ys : List Bs) (acc : Bs), s.length ≤ 1000 → s.length < m → s.length < m' → PC F br m s ys acc = PC F br m' s ys acc := by
  intro m
  induction m with
  | zero => intro m' s ys acc _ h; omega
  | succ m ih =>
    intro m' s ys acc hs h h'
    obtain ⟨m'', rfl⟩ : ∃ m'', m' = m'' + 1 := ⟨m' - 1, by omega⟩
    cases s with
    | nil => rfl
    | cons c r =>
      simp only [List.length_cons] at h h' hs
      have hq := (mark_eq F r [] [] (by omega) hF).2
      simp only [PC]
      rw [ih m'' (markOf F r).2 (ys ++ [acc]) [] (by omega) (by omega) (by omega), ih m'' (markOf F r).2 ys acc (by omega) (by omega) (by omega), ih m'' r ys (acc ++ [c]) (by omega) (by omega) (by omega)]

theorem PC_skip (F : Nat) (hF : 2000 < F) (br : List (List UInt8 × Int)) : ∀ (p t : Bs) (m : Nat) (ys : List Bs) (acc : Bs), (∀ b ∈ p, b ≠ 60) → p.length + t.length ≤ 1000 → p.length + t.length < m → PC F br m (p ++ t) ys acc = PC F br m t ys (acc ++ p) := by
  intro p
  induction p with
  | nil => intro t m ys acc _ _ _; simp
  | cons c r ih =>
    intro t m ys acc hp hs hm
    obtain ⟨m', rfl⟩ : ∃ m', m = m' + 1 := ⟨m - 1, by omega⟩
    simp only [List.length_cons] at hm hs
    simp only [List.cons_append, PC]
    rw [if_neg (fun h => hp c (by simp) h.1), ih t m' ys _ (fun b hb => hp b (by simp [hb])) (by omega) (by omega), PC_fuel F hF br m' (m' + 1) t ys _ (by omega) (by omega) (by omega)]
    simp

theorem indexByte_split' (s : Bs) (d : UInt8) (i : Nat) (h : Go.Lib.indexByte s d = (i : Int)) : (∀ b ∈ s.take i, b ≠ d) ∧ ∃ r, s.drop i = d :: r := by
  induction s generalizing i with
  | nil => simp [Go.Lib.indexByte] at h
  | cons c r ih =>
    unfold Go.Lib.indexByte at h
    by_cases hc : c = d
    · subst hc
      have : i = 0 := by simp at h; omega
      subst this
      exact ⟨by simp, r, rfl⟩
    · have hcb : (c == d) = false := by simpa using hc
      rw [hcb] at h
      by_cases hn : Go.Lib.indexByte r d = -1
      · simp [hn] at h
      · have hnb : (Go.Lib.indexByte r d == -1) = false := by simpa using hn
        rw [hnb] at h
        have hr := indexByte_r r d
        simp at h
        obtain ⟨j, rfl⟩ : ∃ j, i = j + 1 := ⟨i - 1, by omega⟩
        obtain ⟨h1, t, h2⟩ := ih j (by omega)
        refine ⟨fun b hb => ?_, t, by simpa using h2⟩
        simp only [List.take_succ_cons, List.mem_cons] at hb
        rcases hb with rfl | hb
        · exact hc
        · exact h1 b hb
theorem indexByte_neg' (s : Bs) (d : UInt8) (h : Go.Lib.indexByte s d < 0) : ∀ b ∈ s, b ≠ d := by
  induction s with
  | nil => simp
  | cons c r ih =>
    have hr := indexByte_r r d
    unfold Go.Lib.indexByte at h
    split at h
    · omega
    · rename_i hc
      have hc' : c ≠ d := by simpa using hc
      split at h
      · rename_i hn
        have hn' : Go.Lib.indexByte r d = -1 := by simpa using hn
        intro b hb
        rcases List.mem_cons.1 hb with rfl | hb
        · exact hc'
        · exact ih (by omega) b hb
      · rename_i hn
        have hn' : ¬ Go.Lib.indexByte r d = -1 := by simpa using hn
        omega

theorem all_eq (F : Nat) (hF : 3000 < F) (br : List (List UInt8 × Int)) : ∀ (n : Nat) (s : Bs) (ys : List Bs) (acc : Bs) (m : Nat), s.length < n → s.length < m → s.length ≤ 1000 → ys.length + s.length ≤ 2000 → acc.length + s.length ≤ 2000 →
    cut_all_L1 F n (br, s, ys, acc) = some (PC F br m s ys acc) := by
  intro n
  induction n with
  | zero => intro s ys acc m h; omega
  | succ n ih =>
    intro s ys acc m hn hm hs hy ha
    show cut_all_B1 F (cut_all_L1 F n) br s ys acc = _
    unfold cut_all_B1
    obtain ⟨hi1, hi2⟩ := indexByte_r s 60
    by_cases h : Go.Lib.indexByte s 60 < 0
    · simp (disch := (first | omega | (simp; done) | (simp; omega))) only [lt_eq, bT, grd_W, end_eq, bnd_some]
      have := PC_skip F (by omega) br s [] m ys acc (indexByte_neg' s 60 h) (by simpa using hs) (by simpa using hm)
      rw [List.append_nil] at this
      rw [this]
      obtain ⟨m', rfl⟩ : ∃ m', m = m' + 1 := ⟨m - 1, by omega⟩
      rfl
    · obtain ⟨i, hi⟩ : ∃ i : Nat, Go.Lib.indexByte s 60 = i := ⟨(Go.Lib.indexByte s 60).toNat, by omega⟩
      obtain ⟨hp, r, hr⟩ := indexByte_split' s 60 i hi
      have il : i < s.length := by omega
      have l1 : (to_ s (i : Int)).length = i := by simp [to_nat]; omega
      have e2 : from_ s (i : Int) = 60 :: r := by rw [from_nat, hr]
      have hsp : s = s.take i ++ 60 :: r := by rw [← hr, List.take_append_drop]
      have lr : r.length = s.length - i - 1 := by
        have := congrArg List.length hr
        simp at this; omega
      have e1 : to_ s (i : Int) = s.take i := to_nat
      have ltk : (s.take i).length = i := by simp; omega
      have hG : PC F br m s ys acc = PC F br m (60 :: r) ys (acc ++ s.take i) := by
        have := PC_skip F (by omega) br (s.take i) (60 :: r) m ys acc hp (by simp; omega) (by simp; omega)
        rw [← hsp] at this; exact this
      obtain ⟨m', rfl⟩ : ∃ m', m = m' + 1 := ⟨m - 1, by omega⟩
      rw [hG]
      simp (disch := (first | omega | (simp; done) | (simp; omega))) only [lt_eq, hi, bF, grd_To, grd_W, e2, one_mark, bnd_some, e1]
      simp only [PC, true_and]
      obtain ⟨hmk, hq⟩ := mark_eq F r ys (acc ++ s.take i) (by omega) (by omega)
      cases hmark : isMark r with
      | false =>
        have e0 : from_ (60 :: r) 1 = r := rfl
        simp (disch := (first | omega | (simp; done) | (simp; omega))) only [Bool.not_false, cond_true, grd_W, lt_eq, grd_To, e0]
        rw [if_neg (by simp), ih r ys _ m' (by omega) (by omega) (by omega) (by omega) (by simp; omega)]
      | true =>
        have hq' : (markOf F r).2.length ≤ r.length := hq
        rw [Bool.not_true, cond_false, hmk]
        rw [if_pos rfl]
        show (bif decide (0 < Go.Av.mget br (markOf F r).1) then bnd (cut_end F (markOf F r).2 ys (acc ++ s.take i)) fun x56 => cut_all_L1 F n (br, (markOf F r).2, x56, []) else cut_all_L1 F n (br, (markOf F r).2, ys, acc ++ s.take i)) = _
        rw [end_eq F _ ys _ (by simp; omega) (by omega), bnd_some]
        by_cases hd : 0 < Go.Av.mget br (markOf F r).1
        · rw [bT hd, if_pos hd, ih (markOf F r).2 (ys ++ [acc ++ s.take i]) [] m' (by omega) (by omega) (by omega) (by simp; omega) (by simp; omega)]
        · rw [bF hd, if_neg hd, ih (markOf F r).2 ys (acc ++ s.take i) m' (by omega) (by omega) (by omega) (by omega) (by simp; omega)]
end Go.Pn
namespace Go.Pn
open Go.Pv Go.Av

theorem all8 {p : UInt8 → Prop} (h : ∀ n : Nat, n < 256 → p (UInt8.ofNat n)) (c : UInt8) : p c := by
  have := h c.toNat (UInt8.toNat_lt c)
  rwa [UInt8.ofNat_toNat] at this

/-- A letter or a digit. -/
def wd (d : UInt8) : Bool := decide (0 ≤ Go.Lib.indexByte plaina_k1 d)
theorem word_eq (F : Nat) (d : UInt8) : ref11_word F d = some (wd d) := by
  show ref11_word 0 d = _
  exact all8 (p := fun d => ref11_word 0 d = some (wd d)) (by decide +kernel) d
theorem mark_sign (F : Nat) (d : UInt8) : (bnd (ref11_letter F d) fun x => some ((x || (decide (d = 47))) || (decide (d = 33)))) = some (decide (0 ≤ Go.Lib.indexByte plaina_k2 d)) := by
  show (bnd (ref11_letter 0 d) fun x => some ((x || (decide (d = 47))) || (decide (d = 33)))) = _
  exact all8 (p := fun d => (bnd (ref11_letter 0 d) fun x => some ((x || (decide (d = 47))) || (decide (d = 33)))) = some (decide (0 ≤ Go.Lib.indexByte plaina_k2 d))) (by decide +kernel) d
theorem wd_slash : wd 47 = false := by decide +kernel
theorem low_add (c : UInt8) : low c = bif (decide (65 ≤ (c.toNat : Int))) && (decide ((c.toNat : Int) ≤ 90)) then c + 32 else c :=
  all8 (p := fun c => low c = bif (decide (65 ≤ (c.toNat : Int))) && (decide ((c.toNat : Int) ≤ 90)) then c + 32 else c) (by decide +kernel) c

theorem small_ref (F : Nat) (s : Bs) (hs : s.length ≤ 1000000) (hF : s.length < F) : ref05_Small F s = some (s.map low) := by
  have key : ∀ (n i : Nat), s.length - i < n → i ≤ s.length → ref05_Small_L1 s n ((s.take i).map low, (i : Int)) = some (s.map low) := by
    intro n
    induction n with
    | zero => intro i h; omega
    | succ n ih =>
      intro i hn hi
      show ref05_Small_B1 s (ref05_Small_L1 s n) ((s.take i).map low) (i : Int) = _
      unfold ref05_Small_B1 ref05_Small_j2 ref05_Small_j1
      by_cases h : i < s.length
      · have e := ih (i + 1) (by omega) (by omega)
        rw [List.take_succ_eq_append_getElem h, List.map_append] at e
        have hl := low_add s[i]
        simp (disch := (first | omega | (simp; done) | (simp; omega))) only [bT, grd_At, lt_eq, at_nat h, grd_Cat, grd_I, cast_succ]
        cases hc : (decide (65 ≤ ((s[i]).toNat : Int))) && (decide (((s[i]).toNat : Int) ≤ 90)) with
        | true => rw [hc] at hl; rw [show [s[i]].map low = [s[i] + 32] by simp [hl]] at e; exact e
        | false => rw [hc] at hl; rw [show [s[i]].map low = [s[i]] by simp [hl]] at e; exact e
      · have hi2 : i = s.length := by omega
        subst hi2
        rw [bF (by omega), List.take_length]
  have := key F 0 (by omega) (by omega)
  exact this

/-- Where a name ends. -/
theorem tag_any (F : Nat) (a x : Bs) (hl : x.length ≤ 1000) : ∀ (n i : Nat), x.length - i < n → i ≤ (x.takeWhile wd).length → cut_mark_L1 F a x n (i : Int) = cut_mark_j3 F a x ((x.takeWhile wd).length : Int) := by
  have hsp : x.takeWhile wd ++ x.dropWhile wd = x := List.takeWhile_append_dropWhile
  have hlen : (x.takeWhile wd).length + (x.dropWhile wd).length = x.length := by
    have := congrArg List.length hsp; rwa [List.length_append] at this
  intro n
  induction n with
  | zero => intro i h; omega
  | succ n ih =>
    intro i hn hi
    show cut_mark_B1 F a x (cut_mark_L1 F a x n) (i : Int) = _
    unfold cut_mark_B1
    by_cases h : i < (x.takeWhile wd).length
    · have hx : i < x.length := by omega
      have hw : wd x[i] = true := by
        have e : (x.takeWhile wd)[i] = x[i] := by
          have : (x.takeWhile wd ++ x.dropWhile wd)[i]'(by rw [hsp]; exact hx) = x[i] := by simp only [hsp]
          rw [← this, List.getElem_append_left h]
        rw [← e]
        exact List.all_eq_true.1 List.all_takeWhile _ (List.getElem_mem h)
      rw [one_in F x plaina_k1 i hx, bnd_some]
      have hw' : decide (0 ≤ Go.Lib.indexByte plaina_k1 x[i]) = true := hw
      rw [hw', cond_true, grd_I (by omega), cast_succ]
      exact ih _ (by omega) (by omega)
    · have hi2 : i = (x.takeWhile wd).length := by omega
      have hb : plain_one F x (i : Int) plaina_k1 = some false := by
        by_cases hx : i < x.length
        · rw [one_in F x plaina_k1 i hx]
          have hne : x.dropWhile wd ≠ [] := by intro e; rw [e] at hlen; simp at hlen; omega
          have hh := List.head_dropWhile_not wd hne
          have e : x[i] = (x.dropWhile wd).head hne := by
            have : (x.takeWhile wd ++ x.dropWhile wd)[i]'(by rw [hsp]; exact hx) = x[i] := by simp only [hsp]
            rw [← this, List.getElem_append_right (by omega), List.head_eq_getElem]
            congr 1; omega
          rw [e]
          have : decide (0 ≤ Go.Lib.indexByte plaina_k1 ((x.dropWhile wd).head hne)) = false := by simpa [wd] using hh
          rw [this]
        · obtain ⟨b, h1, h2⟩ := one_tot F x plaina_k1 i
          cases b with
          | true => exact absurd (h2 rfl) hx
          | false => exact h1
      rw [hb, bnd_some, cond_false, hi2]

/-- A mark's name. -/
def nameOf (r : Bs) : Bs := ((Go.Lib.trimPrefix r [47]).takeWhile wd).map low
/-- What stands behind a mark. -/
def behind (r : Bs) : Bs :=
  let rest := (Go.Lib.cut (60 :: r) [62]).2.1
  if Go.Lib.hasPrefix r [47] = false ∧ (nameOf r = [115, 99, 114, 105, 112, 116] ∨ nameOf r = [115, 116, 121, 108, 101]) then
    (if Go.Lib.index (rest.map low) ([60, 47] ++ nameOf r) < 0 then [] else rest.drop (Go.Lib.index (rest.map low) ([60, 47] ++ nameOf r)).toNat)
  else rest

theorem mark_words (F : Nat) (r : Bs) (hs : r.length + 1 ≤ 1000) (hF : 2000 < F) : cut_mark F (60 :: r) [] [] = some (nameOf r, behind r) := by
  have h1 : from_ (60 :: r) 1 = r := rfl
  have htp : (Go.Lib.trimPrefix r [47]).length = if Go.Lib.hasPrefix r [47] = true then r.length - 1 else r.length := by
    unfold Go.Lib.trimPrefix; split <;> simp
  have htl : (Go.Lib.trimPrefix r [47]).length ≤ r.length := by rw [htp]; split <;> omega
  have hpos : Go.Lib.hasPrefix r [47] = true → 1 ≤ r.length := by
    intro h; cases r with
    | nil => simp [Go.Lib.hasPrefix] at h
    | cons c r => simp
  unfold cut_mark
  simp (disch := (first | omega | (simp; done) | (simp; omega))) only [grd_To, lt_eq, grd_I, h1]
  have ht := tag_any F (60 :: r) (Go.Lib.trimPrefix r [47]) (by omega) F 0 (by omega) (by omega)
  rw [show ((0 : Nat) : Int) = 0 from rfl] at ht
  rw [ht]
  have hnm : to_ (Go.Lib.trimPrefix r [47]) ((((Go.Lib.trimPrefix r [47]).takeWhile wd).length : Nat) : Int) = (Go.Lib.trimPrefix r [47]).takeWhile wd := by
    rw [to_nat]
    generalize Go.Lib.trimPrefix r [47] = y
    have h2 : ∀ (u v : Bs), (u ++ v).take u.length = u := fun u v => by simp
    have := h2 (y.takeWhile wd) (y.dropWhile wd)
    rwa [List.takeWhile_append_dropWhile] at this
  have hle : ((Go.Lib.trimPrefix r [47]).takeWhile wd).length ≤ (Go.Lib.trimPrefix r [47]).length := (List.takeWhile_sublist _).length_le
  have hc := cut_rest (60 :: r) [62] (by simp) (by simp)
  simp only [List.length_cons] at hc
  unfold cut_mark_j3 cut_mark_j1
  simp (disch := (first | omega | (simp; done) | (simp; omega))) only [grd_To, lt_eq, hnm, small_eq F ((Go.Lib.trimPrefix r [47]).takeWhile wd) (by omega) (by omega), bnd_some, grd_S]
  have hnd : ((Go.Lib.trimPrefix r [47]).takeWhile wd).map low = nameOf r := rfl
  have hnl : (nameOf r).length ≤ r.length := by rw [← hnd]; simp; omega
  rw [hnd]
  have hcnd : ((!(decide (((Go.Lib.trimPrefix r [47]).length : Int) < ((60 :: r).length : Int) - 1))) && ((decide (nameOf r = ([115, 99, 114, 105, 112, 116] : List UInt8))) || (decide (nameOf r = ([115, 116, 121, 108, 101] : List UInt8))))) = decide (Go.Lib.hasPrefix r [47] = false ∧ (nameOf r = [115, 99, 114, 105, 112, 116] ∨ nameOf r = [115, 116, 121, 108, 101])) := by
    rw [Bool.decide_and, Bool.decide_or]
    congr 1
    cases hp : Go.Lib.hasPrefix r [47] with
    | true =>
      have := hpos hp
      rw [hp, if_pos rfl] at htp
      rw [decide_eq_true (by simp only [List.length_cons]; omega)]; rfl
    | false =>
      rw [hp, if_neg (by simp)] at htp
      rw [decide_eq_false (by simp only [List.length_cons]; omega)]; rfl
  rw [hcnd]
  unfold behind
  by_cases hh : Go.Lib.hasPrefix r [47] = false ∧ (nameOf r = [115, 99, 114, 105, 112, 116] ∨ nameOf r = [115, 116, 121, 108, 101])
  · rw [decide_eq_true hh, cond_true, if_pos hh]
    have hm : ((Go.Lib.cut (60 :: r) [62]).2.1.map low).length = (Go.Lib.cut (60 :: r) [62]).2.1.length := by simp
    simp (disch := (first | omega | (simp; done) | (simp; omega))) only [small_eq F (Go.Lib.cut (60 :: r) [62]).2.1 (by omega) (by omega), bnd_some, grd_Cat, lt_eq, grd_S, hm]
    have hi1 := index_up ((Go.Lib.cut (60 :: r) [62]).2.1.map low) ([60, 47] ++ nameOf r)
    have hi2 := Go.Lib.index_ge ((Go.Lib.cut (60 :: r) [62]).2.1.map low) ([60, 47] ++ nameOf r)
    unfold cut_mark_j2 cut_mark_j1
    by_cases hj : Go.Lib.index ((Go.Lib.cut (60 :: r) [62]).2.1.map low) ([60, 47] ++ nameOf r) < 0
    · rw [bT hj, if_pos hj, grd_To (by omega), lt_eq]
      simp [from_]
    · rw [bF hj, if_neg hj, grd_To (by omega), lt_eq]
      rfl
  · rw [decide_eq_false hh, cond_false, if_neg hh]
theorem markOf_eq (F : Nat) (r : Bs) (hs : r.length + 1 ≤ 1000) (hF : 2000 < F) : markOf F r = (nameOf r, behind r) := by
  unfold markOf; rw [mark_words F r hs hF]; rfl
end Go.Pn
namespace Go.Pn
open Go.Pv Go.Av

theorem drop_at {s : Bs} {i : Nat} {c : UInt8} {r : Bs} (h : s.drop i = c :: r) : ∃ hi : i < s.length, s[i] = c ∧ s.drop (i + 1) = r ∧ r.length = s.length - i - 1 := by
  have hi : i < s.length := by
    by_cases hh : i < s.length
    · exact hh
    · rw [List.drop_eq_nil_of_le (by omega)] at h; cases h
  rw [List.drop_eq_getElem_cons hi] at h
  obtain ⟨h1, h2⟩ := List.cons.inj h
  refine ⟨hi, h1, h2, ?_⟩
  rw [← h2]; simp; omega

theorem Mark_eq (F : Nat) (s r : Bs) (i : Nat) (c : UInt8) (hd : s.drop i = c :: r) (hs : s.length ≤ 1000) : ref11_Mark F s (i : Int) = some ((decide (c = 60)) && isMark r) := by
  obtain ⟨hi, hc, hr, hl⟩ := drop_at hd
  unfold ref11_Mark
  simp (disch := omega) only [grd_At, lt_eq, at_nat hi, hc]
  by_cases h : c = 60
  · subst h
    simp only [decide_true, Bool.not_true, Bool.not_false, grdc_t, Bool.false_or, Bool.true_and]
    rw [grd_I (by omega)]
    cases r with
    | nil =>
      simp only [List.length_nil] at hl
      rw [bT (by omega)]; rfl
    | cons d r' =>
      simp only [List.length_cons] at hl
      have hi1 : i + 1 < s.length := by omega
      obtain ⟨_, hd1, _, _⟩ := drop_at hr
      have hg1 : ∀ (q : Bool) (k : Option Bool), grdc q (okI ((i : Int) + 1)) k = k := fun q k => by
        cases q
        · rw [grdc_f]
        · rw [grdc_t, grd_I (by omega)]
      have hg2 : ∀ (q : Bool) (k : Option Bool), grdc q (okAt ((i : Int) + 1) s.length) k = k := fun q k => grdc_At (fun _ => by omega)
      have ha : at_ s ((i : Int) + 1) = d := by rw [cast_succ, at_nat hi1, hd1]
      rw [bF (by omega), grd_I (by omega), grd_At (by omega)]
      simp only [lt_eq, ha, hg1, hg2]
      exact mark_sign F d
  · simp only [decide_eq_false h, Bool.not_false, Bool.not_true, grdc_f, Bool.true_or, cond_true, Bool.false_and]

theorem name_loop (F : Nat) (s : Bs) (y : Nat) (hs : s.length ≤ 1000) (hF : 2000 < F) (hy : y ≤ s.length) : ∀ (n k : Nat), s.length - (y + k) < n → k ≤ ((s.drop y).takeWhile wd).length →
    ref11_name_L1 F s (y : Int) n ((y + k : Nat) : Int) = some (((s.drop y).takeWhile wd).map low) := by
  have hsp := List.takeWhile_append_dropWhile (p := wd) (l := s.drop y)
  have hlen : ((s.drop y).takeWhile wd).length + ((s.drop y).dropWhile wd).length = s.length - y := by
    have := congrArg List.length hsp; rw [List.length_append, List.length_drop] at this; exact this
  have hend : ref11_name_j1 F s (y : Int) ((y + ((s.drop y).takeWhile wd).length : Nat) : Int) = some (((s.drop y).takeWhile wd).map low) := by
    unfold ref11_name_j1
    have hsub : sub s (y : Int) ((y + ((s.drop y).takeWhile wd).length : Nat) : Int) = (s.drop y).takeWhile wd := by
      rw [sub_nat, List.drop_take]
      have h2 : ∀ (u v : Bs), (u ++ v).take u.length = u := fun u v => by simp
      have := h2 ((s.drop y).takeWhile wd) ((s.drop y).dropWhile wd)
      rw [hsp] at this
      rw [show y + ((s.drop y).takeWhile wd).length - y = ((s.drop y).takeWhile wd).length by omega]
      exact this
    rw [grd_Sub (by omega), lt_eq, hsub, small_ref F _ (by omega) (by omega), bnd_some]
  intro n
  induction n with
  | zero => intro k h; omega
  | succ n ih =>
    intro k hn hk
    show ref11_name_B1 F s (y : Int) (ref11_name_L1 F s (y : Int) n) ((y + k : Nat) : Int) = _
    unfold ref11_name_B1
    by_cases hx : y + k < s.length
    · have e0 : s[y + k] = (s.drop y)[k]'(by simp; omega) := by simp
      simp (disch := omega) only [bT, grd_At, lt_eq, at_nat hx, word_eq, bnd_some]
      by_cases h : k < ((s.drop y).takeWhile wd).length
      · have hw : wd s[y + k] = true := by
          have e : ((s.drop y).takeWhile wd)[k] = (s.drop y)[k]'(by simp; omega) := by
            have : ((s.drop y).takeWhile wd ++ (s.drop y).dropWhile wd)[k]'(by rw [hsp]; simp; omega) = (s.drop y)[k]'(by simp; omega) := by simp only [hsp]
            rw [← this, List.getElem_append_left h]
          rw [e0, ← e]
          exact List.all_eq_true.1 List.all_takeWhile _ (List.getElem_mem h)
        rw [hw, Bool.not_true, cond_false, grd_I (by omega)]
        have := ih (k + 1) (by omega) (by omega)
        rw [show ((y + k : Nat) : Int) + 1 = ((y + (k + 1) : Nat) : Int) by omega]
        exact this
      · have hk2 : k = ((s.drop y).takeWhile wd).length := by omega
        have hne : (s.drop y).dropWhile wd ≠ [] := by intro e; rw [e] at hlen; simp at hlen; omega
        have hh := List.head_dropWhile_not wd hne
        have hw : wd s[y + k] = false := by
          have e : (s.drop y)[k]'(by simp; omega) = ((s.drop y).dropWhile wd).head hne := by
            have : ((s.drop y).takeWhile wd ++ (s.drop y).dropWhile wd)[k]'(by rw [hsp]; simp; omega) = (s.drop y)[k]'(by simp; omega) := by simp only [hsp]
            rw [← this, List.getElem_append_right (by omega), List.head_eq_getElem]
            congr 1; omega
          rw [e0, e]; simpa using hh
        rw [hw, Bool.not_false, cond_true, hk2]
        exact hend
    · have hk2 : k = ((s.drop y).takeWhile wd).length := by omega
      rw [bF (by omega), hk2]
      exact hend

theorem name_eq (F : Nat) (s r : Bs) (i : Nat) (hd : s.drop i = 60 :: r) (hm : isMark r = true) (hs : s.length ≤ 1000) (hF : 2000 < F) : ref11_name F s (i : Int) = some (nameOf r) := by
  obtain ⟨hi, hc, hr, hl⟩ := drop_at hd
  cases r with
  | nil => simp [isMark] at hm
  | cons d r' =>
    obtain ⟨hi1, hd1, hr1, hl1⟩ := drop_at hr
    have ha : at_ s ((i : Int) + 1) = d := by rw [cast_succ, at_nat hi1, hd1]
    unfold ref11_name ref11_name_j2
    simp (disch := omega) only [grd_I, grd_At, lt_eq, ha]
    by_cases h : d = 47
    · rw [bT h]
      have e : nameOf (d :: r') = ((s.drop (i + 1 + 1)).takeWhile wd).map low := by
        unfold nameOf Go.Lib.trimPrefix Go.Lib.hasPrefix
        subst h
        rw [hr1]; simp [List.isPrefixOf]
      rw [e]
      have := name_loop F s (i + 1 + 1) hs hF (by omega) F 0 (by omega) (by omega)
      exact this
    · rw [bF h]
      have e : nameOf (d :: r') = ((s.drop (i + 1)).takeWhile wd).map low := by
        unfold nameOf Go.Lib.trimPrefix Go.Lib.hasPrefix
        rw [hr]; simp [List.isPrefixOf, Ne.symm h]
      rw [e]
      have := name_loop F s (i + 1) hs hF (by omega) F 0 (by omega) (by omega)
      exact this

theorem prefix_take (u v : Bs) : u.isPrefixOf v = decide (v.take u.length = u) := by
  induction u generalizing v with
  | nil => simp
  | cons a u ih =>
    cases v with
    | nil => simp
    | cons b v =>
      simp only [List.isPrefixOf, ih v, List.length_cons, List.take_succ_cons]
      by_cases h : a = b
      · subst h; simp
      · simp [h, Ne.symm h]

/-- Up to where is hidden: where the name's end stands, or all. -/
theorem hidden_loop (F : Nat) (s e : Bs) (he : 2 ≤ e.length) (hs : s.length ≤ 1000) (hel : e.length ≤ 2000) (hF : 4000 < F) : ∀ (n i : Nat), s.length - i < n → i ≤ s.length →
    ref11_hidden_L1 F s e n (i : Int) = some (if Go.Lib.index ((s.drop i).map low) e < 0 then (s.length : Int) else (i : Int) + Go.Lib.index ((s.drop i).map low) e) := by
  intro n
  induction n with
  | zero => intro i h; omega
  | succ n ih =>
    intro i hn hi
    show ref11_hidden_B1 F s e (ref11_hidden_L1 F s e n) (i : Int) = _
    unfold ref11_hidden_B1 ref11_hidden_j1
    rw [grd_I (by omega)]
    by_cases h : i + e.length ≤ s.length
    · have hil : i < s.length := by omega
      have hd : s.drop i = s[i] :: s.drop (i + 1) := List.drop_eq_getElem_cons hil
      have hsub : sub s (i : Int) ((i : Int) + (e.length : Int)) = (s.drop i).take e.length := by
        rw [show (i : Int) + (e.length : Int) = ((i + e.length : Nat) : Int) by simp, sub_nat, List.drop_take]
        congr 1; omega
      have hsl : ((s.drop i).take e.length).length = e.length := by simp; omega
      rw [bT (by omega)]
      simp (disch := omega) only [grd_I, grd_Sub, lt_eq, hsub, small_ref F ((s.drop i).take e.length) (by omega) (by omega), bnd_some]
      have hm : ((s.drop i).take e.length).map low = ((s.drop i).map low).take e.length := by simp
      by_cases hq : ((s.drop i).take e.length).map low = e
      · rw [bT hq]
        have hp : e.isPrefixOf ((s.drop i).map low) = true := by rw [prefix_take, ← hm, hq]; simp
        have h0 : Go.Lib.index ((s.drop i).map low) e = 0 := by
          rw [hd] at hp ⊢
          simp only [List.map_cons] at hp ⊢
          unfold Go.Lib.index
          rw [if_pos hp]
        rw [h0, if_neg (by omega)]; simp
      · rw [bF hq, cast_succ, ih (i + 1) (by omega) (by omega)]
        have hp : e.isPrefixOf ((s.drop i).map low) = false := by rw [prefix_take, ← hm]; simpa using hq
        have hge := Go.Lib.index_ge ((s.drop (i + 1)).map low) e
        have h0 : Go.Lib.index ((s.drop i).map low) e = if Go.Lib.index ((s.drop (i + 1)).map low) e = -1 then -1 else Go.Lib.index ((s.drop (i + 1)).map low) e + 1 := by
          rw [hd] at hp ⊢
          simp only [List.map_cons] at hp ⊢
          rw [Go.Lib.index, hp]
          simp
        rw [h0]
        by_cases hz : Go.Lib.index ((s.drop (i + 1)).map low) e = -1
        · rw [if_pos (by omega), if_pos hz, if_pos (by omega)]
        · rw [if_neg (by omega), if_neg hz, if_neg (by omega)]
          congr 1; omega
    · rw [bF (by omega)]
      have hno : ∀ (v : Bs), v.length < e.length → Go.Lib.index v e = -1 := by
        intro v
        induction v with
        | nil => intro hv; unfold Go.Lib.index; rw [if_neg (by cases e with | nil => simp at he | cons a b => simp)]
        | cons a v ihv =>
          intro hv
          simp only [List.length_cons] at hv
          have hp : e.isPrefixOf (a :: v) = false := by
            rw [prefix_take, decide_eq_false]
            intro hq
            have := congrArg List.length hq
            simp at this; omega
          rw [Go.Lib.index, hp, ihv (by omega)]; rfl
      rw [hno _ (by simp; omega), if_pos (by omega)]

theorem hidden_eq (F : Nat) (s nm : Bs) (i : Nat) (hs : s.length ≤ 1000) (hn : nm.length ≤ 1000) (hF : 4000 < F) (hi : i ≤ s.length) :
    ref11_hidden F s (i : Int) nm = some (if Go.Lib.index ((s.drop i).map low) ([60, 47] ++ nm) < 0 then (s.length : Int) else (i : Int) + Go.Lib.index ((s.drop i).map low) ([60, 47] ++ nm)) := by
  unfold ref11_hidden
  simp (disch := (first | omega | (simp; done) | (simp; omega))) only [grd_Cat, lt_eq]
  exact hidden_loop F s ([60, 47] ++ nm) (by simp) hs (by simp; omega) hF F i (by omega) hi
end Go.Pn
namespace Go.Pn
open Go.Pv Go.Av

def breakNames : List Bs := [[112], [98, 114], [100, 105, 118], [108, 105], [116, 114], [117, 108], [111, 108], [116, 97, 98, 108, 101], [104, 49], [104, 50], [104, 51], [104, 52], [104, 53], [104, 54]]

theorem breaks_ref (F : Nat) (n : Bs) : ref11_breaks F n = some (decide (n ∈ breakNames)) := by
  unfold ref11_breaks ref11_breaks_j1 breakNames
  by_cases h1 : n = [112]
  · subst h1; rfl
  by_cases h2 : n = [98, 114]
  · subst h2; rfl
  by_cases h3 : n = [100, 105, 118]
  · subst h3; rfl
  by_cases h4 : n = [108, 105]
  · subst h4; rfl
  by_cases h5 : n = [116, 114]
  · subst h5; rfl
  by_cases h6 : n = [117, 108]
  · subst h6; rfl
  by_cases h7 : n = [111, 108]
  · subst h7; rfl
  by_cases h8 : n = [116, 97, 98, 108, 101]
  · subst h8; rfl
  by_cases h9 : n = [104, 49]
  · subst h9; rfl
  by_cases h10 : n = [104, 50]
  · subst h10; rfl
  by_cases h11 : n = [104, 51]
  · subst h11; rfl
  by_cases h12 : n = [104, 52]
  · subst h12; rfl
  by_cases h13 : n = [104, 53]
  · subst h13; rfl
  by_cases h14 : n = [104, 54]
  · subst h14; rfl
  rw [bF h1, bF h2, bF h3, bF h4, bF h5, bF h6, bF h7, bF h8, bF h9, bF h10, bF h11, bF h12, bF h13, decide_eq_false h14]
  simp [h1, h2, h3, h4, h5, h6, h7, h8, h9, h10, h11, h12, h13, h14]

theorem lookup_mem (l : List Bs) (n : Bs) : (l.map fun x => (x, (1 : Int))).lookup n = if n ∈ l then some 1 else none := by
  induction l with
  | nil => rfl
  | cons x r ih =>
    simp only [List.map_cons, List.lookup_cons]
    by_cases h : n = x
    · subst h; simp
    · have : (n == x) = false := by simpa using h
      rw [this]; simp [ih, h]
theorem breaks_eq (F : Nat) (n : Bs) : ref11_breaks F n = some (decide (0 < Go.Av.mget brsL n)) := by
  rw [breaks_ref]
  have e : brsL = breakNames.map fun x => (x, (1 : Int)) := by rfl
  unfold Go.Av.mget
  rw [e, lookup_mem]
  by_cases h : n ∈ breakNames
  · rw [if_pos h, decide_eq_true h]; rfl
  · rw [if_neg h, decide_eq_false h]; rfl
end Go.Pn
namespace Go.Pn
open Go.Pv Go.Av

/-- Not yet a mark's end. -/
def ne62 (c : UInt8) : Bool := !decide (c = 62)

theorem skip_loop (F : Nat) (s : Bs) (y5 : Nat) (y8 : List Bs) (nm : Bs) (d : UInt8) (rec : (Nat × Int × List Bs) → Option (List Bs)) (hs : s.length ≤ 1000) : ∀ (n y : Nat), s.length - y < n → y ≤ s.length →
    ref11_pieces_L1 F s y5 y8 nm d rec n (y : Int) = ref11_pieces_j4 F s y5 y8 nm d rec ((y + ((s.drop y).takeWhile ne62).length : Nat) : Int) := by
  intro n
  induction n with
  | zero => intro y h; omega
  | succ n ih =>
    intro y hn hy
    show ref11_pieces_B1 F s y5 y8 nm d rec (ref11_pieces_L1 F s y5 y8 nm d rec n) (y : Int) = _
    unfold ref11_pieces_B1
    by_cases h : y < s.length
    · have hd : s.drop y = s[y] :: s.drop (y + 1) := List.drop_eq_getElem_cons h
      have e : decide ((y : Int) < (s.length : Int)) = true := decide_eq_true (by omega)
      rw [e, grdc_t, grd_At (by omega), lt_eq, at_nat h, Bool.true_and, hd]
      by_cases hc : s[y] = 62
      · rw [decide_eq_true hc, Bool.not_true, cond_false]
        have : ne62 s[y] = false := by simp [ne62, hc]
        rw [List.takeWhile_cons, this]; simp
      · rw [decide_eq_false hc, Bool.not_false, cond_true, grd_I (by omega), cast_succ, ih (y + 1) (by omega) (by omega)]
        have : ne62 s[y] = true := by simp [ne62, hc]
        rw [List.takeWhile_cons, this]
        simp only [if_true, List.length_cons]
        congr 1; omega
    · have e : decide ((y : Int) < (s.length : Int)) = false := decide_eq_false (by omega)
      rw [e, grdc_f, lt_eq, Bool.false_and, cond_false, List.drop_eq_nil_of_le (by omega)]
      simp

theorem index_none (x : Bs) (c : UInt8) (h : ∀ b ∈ x, b ≠ c) : Go.Lib.index x [c] = -1 := by
  induction x with
  | nil => rfl
  | cons b r ih => rw [index_one_cons, if_neg (h b (by simp)), ih (fun x hx => h x (by simp [hx])), if_pos rfl]

/-- Where a mark ends, and what stands behind it. -/
theorem mark_end (s x : Bs) (i : Nat) (hx : s.drop i = x) (hi : i < s.length) : ∃ e : Nat, (if i + (x.takeWhile ne62).length < s.length then i + (x.takeWhile ne62).length + 1 else i + (x.takeWhile ne62).length) = e ∧ s.drop e = (Go.Lib.cut x [62]).2.1 ∧ i < e ∧ e ≤ s.length := by
  have hsp := List.takeWhile_append_dropWhile (p := ne62) (l := x)
  have hxl : x.length = s.length - i := by rw [← hx]; simp
  have hlen : (x.takeWhile ne62).length + (x.dropWhile ne62).length = s.length - i := by
    have := congrArg List.length hsp; rw [List.length_append] at this; omega
  have htw : ∀ b ∈ x.takeWhile ne62, b ≠ 62 := by
    intro b hb e
    have := List.all_eq_true.1 List.all_takeWhile b hb
    simp [ne62, e] at this
  refine ⟨_, rfl, ?_⟩
  cases hd : x.dropWhile ne62 with
  | nil =>
    rw [hd] at hsp hlen
    simp only [List.append_nil, List.length_nil] at hsp hlen
    rw [if_neg (by omega)]
    refine ⟨?_, by omega, by omega⟩
    have hno : ∀ b ∈ x, b ≠ 62 := by rw [hsp] at htw; exact htw
    unfold Go.Lib.cut
    rw [index_none x 62 hno, if_neg (by omega), List.drop_eq_nil_of_le (by omega)]
  | cons c q =>
    have hc : c = 62 := by
      have hne : x.dropWhile ne62 ≠ [] := by rw [hd]; simp
      have := List.head_dropWhile_not ne62 hne
      have e : (x.dropWhile ne62).head hne = c := by simp [hd]
      rw [e] at this
      simpa [ne62] using this
    subst hc
    rw [hd] at hsp hlen
    simp only [List.length_cons] at hlen
    rw [if_pos (by omega)]
    refine ⟨?_, by omega, by omega⟩
    have hcut := cut_one (x.takeWhile ne62) q 62 htw
    rw [hsp] at hcut
    rw [hcut]
    show s.drop (i + (x.takeWhile ne62).length + 1) = q
    rw [Nat.add_assoc, ← List.drop_drop, hx]
    conv => lhs; arg 2; rw [← hsp]
    rw [← List.drop_drop, List.drop_left]; rfl

theorem nameOf_len (r : Bs) : (nameOf r).length ≤ r.length := by
  unfold nameOf
  rw [List.length_map]
  refine Nat.le_trans (List.takeWhile_sublist _).length_le ?_
  unfold Go.Lib.trimPrefix
  split <;> simp

/-- Behind a mark's end: what it hides is left out. -/
theorem j3_eq (F : Nat) (s : Bs) (y5 : Nat) (y8 : List Bs) (r r' : Bs) (d : UInt8) (rec : (Nat × Int × List Bs) → Option (List Bs)) (i e : Nat) (hd : s.drop i = 60 :: r) (hr : r = d :: r') (hs : s.length ≤ 1000) (hF : 4000 < F)
    (he : s.drop e = (Go.Lib.cut (60 :: r) [62]).2.1) (hie : i < e) (hel : e ≤ s.length) :
    ∃ i' : Nat, ref11_pieces_j3 F s y5 y8 (nameOf r) d rec (e : Int) = ref11_pieces_j2 F y5 y8 (nameOf r) rec (i' : Int) ∧ s.drop i' = behind r ∧ i < i' ∧ i' ≤ s.length := by
  obtain ⟨hi, hc, hr1, hl⟩ := drop_at hd
  have hpre : Go.Lib.hasPrefix r [47] = decide (d = 47) := by
    subst hr
    by_cases h : d = 47
    · subst h; simp [Go.Lib.hasPrefix, List.isPrefixOf]
    · simp [Go.Lib.hasPrefix, List.isPrefixOf, h, Ne.symm h]
  unfold ref11_pieces_j3
  by_cases h : d = 47
  · rw [decide_eq_true h, Bool.not_true, Bool.false_and, cond_false]
    refine ⟨e, rfl, ?_, hie, hel⟩
    unfold behind
    rw [hpre, decide_eq_true h, if_neg (fun h => by cases h.1), he]
  · by_cases hn : nameOf r = [115, 99, 114, 105, 112, 116] ∨ nameOf r = [115, 116, 121, 108, 101]
    · have hc : ((!decide (d = 47)) && ((decide (nameOf r = ([115, 99, 114, 105, 112, 116] : List UInt8))) || (decide (nameOf r = ([115, 116, 121, 108, 101] : List UInt8))))) = true := by
        rw [decide_eq_false h]
        rcases hn with hn | hn <;> rw [hn] <;> rfl
      rw [hc, cond_true, hidden_eq F s (nameOf r) e hs (by have := nameOf_len r; omega) hF hel, bnd_some, he]
      have hb : behind r = (if Go.Lib.index ((Go.Lib.cut (60 :: r) [62]).2.1.map low) ([60, 47] ++ nameOf r) < 0 then [] else (Go.Lib.cut (60 :: r) [62]).2.1.drop (Go.Lib.index ((Go.Lib.cut (60 :: r) [62]).2.1.map low) ([60, 47] ++ nameOf r)).toNat) := by
        unfold behind
        rw [hpre, decide_eq_false h, if_pos ⟨rfl, hn⟩]
      rw [hb]
      generalize hx : (Go.Lib.cut (60 :: r) [62]).2.1 = x at *
      have hup := index_up (x.map low) ([60, 47] ++ nameOf r)
      rw [List.length_map, ← he, List.length_drop] at hup
      rw [he] at hup
      generalize hk : Go.Lib.index (x.map low) ([60, 47] ++ nameOf r) = k at *
      by_cases hneg : k < 0
      · rw [if_pos hneg, if_pos hneg]
        exact ⟨s.length, rfl, List.drop_eq_nil_of_le (Nat.le_refl _), hi, Nat.le_refl _⟩
      · rw [if_neg hneg, if_neg hneg]
        refine ⟨e + k.toNat, ?_, ?_, by omega, by omega⟩
        · have : ((e : Int) + k) = ((e + k.toNat : Nat) : Int) := by omega
          rw [this]
        · rw [← List.drop_drop, he]
    · have hc : ((!decide (d = 47)) && ((decide (nameOf r = ([115, 99, 114, 105, 112, 116] : List UInt8))) || (decide (nameOf r = ([115, 116, 121, 108, 101] : List UInt8))))) = false := by
        rw [decide_eq_false (fun h => hn (.inl h)), decide_eq_false (fun h => hn (.inr h))]
        simp
      rw [hc, cond_false]
      refine ⟨e, rfl, ?_, hie, hel⟩
      unfold behind
      rw [if_neg (fun h => hn h.2), he]

theorem pieces_loop (F : Nat) (s : Bs) (hs : s.length ≤ 1000) (hF : 4000 < F) : ∀ (n i : Nat) (ys : List Bs) (acc : Bs) (m : Nat), s.length - i < n → s.length - i < m → i ≤ s.length → ys.length ≤ i → acc.length ≤ i →
    ref11_pieces_L2 F s n ((ys ++ [acc]).length, (i : Int), ys ++ [acc]) = some (PC F brsL m (s.drop i) ys acc) := by
  intro n
  induction n with
  | zero => intro i ys acc m h; omega
  | succ n ih =>
    intro i ys acc m hn hm hi hy ha
    obtain ⟨m', rfl⟩ : ∃ m', m = m' + 1 := ⟨m - 1, by omega⟩
    show ref11_pieces_B2 F s (ref11_pieces_L2 F s n) (ys ++ [acc]).length (i : Int) (ys ++ [acc]) = _
    unfold ref11_pieces_B2
    by_cases h : i < s.length
    · have hd : s.drop i = s[i] :: s.drop (i + 1) := List.drop_eq_getElem_cons h
      rw [bT (by omega), Mark_eq F s _ i _ hd hs, bnd_some, hd]
      simp only [PC]
      generalize hr : s.drop (i + 1) = r at *
      generalize hcc : s[i] = c at *
      cases hmk : (decide (c = 60)) && isMark r with
      | false =>
        have hno : ¬ (c = 60 ∧ isMark r = true) := fun ⟨h1, h2⟩ => by rw [decide_eq_true h1, h2] at hmk; cases hmk
        rw [if_neg hno, Bool.not_false, cond_true]
        have e1 : ((ys ++ [acc]).length : Int) - 1 = (ys.length : Int) := by simp
        have e2 : at_ (ys ++ [acc]) (ys.length : Int) = acc := by rw [at_nat (by simp)]; simp
        have e3 : sub s (i : Int) ((i + 1 : Nat) : Int) = [c] := by
          rw [sub_nat, List.take_succ_eq_append_getElem h, List.drop_left' (by simp; omega), hcc]
        have e4 : (ys ++ [acc]).set (Int.toNat (ys.length : Int)) (acc ++ [c]) = ys ++ [acc ++ [c]] := by simp
        have e5 : (ys ++ [acc]).length = (ys ++ [acc ++ [c]]).length := by simp
        simp (disch := (first | omega | (simp; done) | (simp; omega))) only [e1, e2, e3, e4, grd_I, grd_At, grd_Sub, grd_Cat, lt_eq, cast_succ]
        rw [e5, ih (i + 1) ys (acc ++ [c]) m' (by omega) (by omega) (by omega) (by omega) (by simp; omega), hr]
      | true =>
        rw [Bool.and_eq_true] at hmk
        obtain ⟨hc60, hmk⟩ := hmk
        have hc60 := of_decide_eq_true hc60
        subst hc60
        rw [if_pos ⟨rfl, hmk⟩, Bool.not_true, cond_false, name_eq F s r i hd hmk hs (by omega), bnd_some, markOf_eq F r (by have := congrArg List.length hd; simp at this; omega) (by omega)]
        cases r with
        | nil => simp [isMark] at hmk
        | cons d r' =>
          obtain ⟨hi1, hd1, hr1, hl1⟩ := drop_at hr
          have e1 : at_ s ((i : Int) + 1) = d := by rw [cast_succ, at_nat hi1, hd1]
          simp (disch := omega) only [grd_I, grd_At, lt_eq, e1]
          rw [skip_loop F s _ _ _ d _ hs F i (by omega) (by omega)]
          obtain ⟨e, he1, he2, he3, he4⟩ := mark_end s (60 :: d :: r') i hd h
          have hj4 : ∀ (y5 : Nat) (y8 : List Bs) (rec : (Nat × Int × List Bs) → Option (List Bs)), ref11_pieces_j4 F s y5 y8 (nameOf (d :: r')) d rec ((i + ((s.drop i).takeWhile ne62).length : Nat) : Int) = ref11_pieces_j3 F s y5 y8 (nameOf (d :: r')) d rec (e : Int) := by
            intro y5 y8 rec
            unfold ref11_pieces_j4
            rw [hd, ← he1]
            by_cases hlt : i + ((60 :: d :: r').takeWhile ne62).length < s.length
            · rw [bT (by omega), if_pos hlt, grd_I (by omega), cast_succ]
            · rw [bF (by omega), if_neg hlt]
          rw [hj4]
          obtain ⟨i', h1, h2, h3, h4⟩ := j3_eq F s (ys ++ [acc]).length (ys ++ [acc]) (d :: r') r' d (ref11_pieces_L2 F s n) i e hd rfl hs hF he2 he3 he4
          rw [h1]
          unfold ref11_pieces_j2
          rw [breaks_eq, bnd_some]
          by_cases hb : 0 < Go.Av.mget brsL (nameOf (d :: r'))
          · rw [bT hb, if_pos hb]
            simp (disch := (first | omega | (simp; done) | (simp; omega))) only [grd_D, grd_Cat, lt_eq]
            rw [ih i' (ys ++ [acc]) [] m' (by omega) (by omega) h4 (by simp; omega) (by simp), h2]
          · rw [bF hb, if_neg hb, ih i' ys acc m' (by omega) (by omega) h4 (by omega) (by omega), h2]
    · have hi2 : i = s.length := by omega
      subst hi2
      rw [bF (by omega), List.drop_length]
      unfold ref11_pieces_j1
      rw [grd_D rfl]; rfl

theorem pieces_eq (F : Nat) (s : Bs) (hs : s.length ≤ 1000) (hF : 4000 < F) : ref11_pieces F s = some (PC F brsL (s.length + 1) s [] []) :=
  pieces_loop F s hs hF F 0 [] [] (s.length + 1) (by omega) (by omega) (by omega) (by simp) (by simp)

theorem linesOf_ne (qs : List Bs) : ∀ l ∈ linesOf qs, l ≠ [] := by
  induction qs with
  | nil => simp [linesOf]
  | cons q r ih =>
    unfold linesOf
    split
    · exact ih
    · rename_i h
      intro l hl
      rcases List.mem_cons.1 hl with rfl | hl
      · exact h
      · exact ih l hl

theorem ref_of_loop (F : Nat) (ps qs : List Bs) (hF : 4000 < F) (hq : qs.length = ps.length) (hp : ps.length ≤ 1000000) (hl : ∀ (i : Nat) (h : i < ps.length), ent_Loose F ps[i] = some (qs[i]'(by omega)))
    (hp2 : ∀ p ∈ ps, p.length ≤ 1000) (hb : ∀ q ∈ qs, q.length ≤ 2000) (hJ : (linesOf qs).length + Str.total (linesOf qs) ≤ 100000000) : ∀ (n i : Nat) (L : List Bs), ps.length - i < n → i ≤ ps.length → L ++ linesOf (qs.drop i) = linesOf qs →
    ref11_Of_L1 F ps n (Str.join [10] L, (i : Int)) = some (Str.join [10] (linesOf qs)) := by
  intro n
  induction n with
  | zero => intro i L h; omega
  | succ n ih =>
    intro i L hn hi hL
    show ref11_Of_B1 F ps (ref11_Of_L1 F ps n) (Str.join [10] L) (i : Int) = _
    unfold ref11_Of_B1
    by_cases h : i < ps.length
    · have h' : i < qs.length := by omega
      have hd : qs.drop i = qs[i] :: qs.drop (i + 1) := List.drop_eq_getElem_cons h'
      have hqb := hb _ (List.getElem_mem h')
      have htr : ref07_Trim F qs[i] = some (trim qs[i]) := ref07_Trim_eq F _ (by omega) (by omega)
      have hlo : ref07_Loose F ps[i] = some qs[i] := by rw [loose_same F (by omega) _ (hp2 _ (List.getElem_mem h)), hl i h]
      simp (disch := omega) only [bT, grd_At, lt_eq, at_nat h, hlo, bnd_some, htr]
      rw [hd] at hL
      unfold ref11_Of_j2
      by_cases h0 : trim qs[i] = []
      · simp (disch := omega) only [h0, decide_true, cond_true, grd_I, cast_succ]
        exact ih (i + 1) L (by omega) (by omega) (by simpa [linesOf, h0] using hL)
      · have hL' : (L ++ [trim qs[i]]) ++ linesOf (qs.drop (i + 1)) = linesOf qs := by simpa [linesOf, h0] using hL
        have hlt : Str.total L + L.length ≤ 100000000 := by
          rw [← hL'] at hJ
          simp only [total_app, List.length_append] at hJ
          omega
        have htl := trim_len qs[i]
        simp only [decide_eq_false h0, cond_false]
        unfold ref11_Of_j3 ref11_Of_j2
        cases L with
        | nil =>
          simp (disch := (first | omega | (simp [Str.join]; done) | (simp [Str.join]; omega))) only [Str.join, decide_true, Bool.not_true, cond_false, grd_Cat, lt_eq, grd_I, cast_succ]
          have := ih (i + 1) [trim qs[i]] (by omega) (by omega) hL'
          simpa [Str.join, Str.rest] using this
        | cons x g =>
          have hx : x ≠ [] := linesOf_ne qs x (by rw [← hL']; simp)
          have hne : Str.join [10] (x :: g) ≠ [] := by
            simp only [Str.join]
            intro h
            exact hx (List.append_eq_nil_iff.1 h).1
          have hjl : (Str.join [10] (x :: g)).length ≤ 100000000 := by
            have : ∀ r : List Bs, (Str.rest [10] r).length = Str.total r + r.length := by
              intro r
              induction r with
              | nil => rfl
              | cons y r ih => simp [Str.rest, Str.total, ih]; omega
            simp only [Str.total, List.length_cons] at hlt
            simp only [Str.join, List.length_append, this]; omega
          simp (disch := (first | omega | (simp; done) | (simp; omega))) only [decide_eq_false hne, Bool.not_false, cond_true, grd_Cat, lt_eq, grd_I, cast_succ]
          have := ih (i + 1) (x :: g ++ [trim qs[i]]) (by omega) (by omega) hL'
          rw [join_app [10] (x :: g) (trim qs[i]) (by simp)] at this
          exact this
    · have hi2 : i = ps.length := by omega
      subst hi2
      rw [← hq, List.drop_length] at hL
      simp only [linesOf, List.append_nil] at hL
      subst hL
      rw [bF (by omega)]; rfl

theorem of_same (s : Bs) (hs : s.length ≤ 1000) : ∃ t, plain_Of 10000 s = some t ∧ ref11_Of 10000 s = some t := by
  obtain ⟨ps, hps, ht, hn⟩ := all_tot 10000 brsL (10000 + 1) s [] [] (by omega) hs (by omega) (by simp; omega) (by simp; omega)
  simp only [Str.total, List.length_nil] at ht hn
  have hall : cut_all 10000 s [] [] = some ps := by
    unfold cut_all
    rw [brsL_eq, bnd_some]
    exact hps
  have hpc : ps = PC 10000 brsL (s.length + 1) s [] [] := by
    have := all_eq 10000 (by omega) brsL 10001 s [] [] (s.length + 1) (by omega) (by omega) hs (by simp; omega) (by simp; omega)
    rw [hps] at this
    exact Option.some.inj this
  have href : ref11_pieces 10000 s = some ps := by rw [hpc]; exact pieces_eq 10000 s hs (by omega)
  have hmem : ∀ p ∈ ps, p.length ≤ 1000 := fun p hp => by
    have : ∀ l : List Bs, p ∈ l → p.length ≤ Str.total l := by
      intro l
      induction l with
      | nil => intro h; cases h
      | cons x r ih =>
        intro h
        rcases List.mem_cons.1 h with rfl | h
        · simp [Str.total]
        · have := ih h; simp [Str.total]; omega
    have := this ps hp; omega
  have hlo : ∀ p ∈ ps, ent_Loose 10000 p = some ((ent_Loose 10000 p).getD []) ∧ ((ent_Loose 10000 p).getD []).length ≤ 2 * p.length := fun p hp => by
    obtain ⟨q, h1, h2⟩ := loose_tot 10000 p (hmem p hp) (by have := hmem p hp; omega)
    rw [h1]; exact ⟨rfl, h2⟩
  have htq : Str.total (ps.map fun p => (ent_Loose 10000 p).getD []) ≤ 2 * Str.total ps := by
    have : ∀ l : List Bs, (∀ p ∈ l, ((ent_Loose 10000 p).getD []).length ≤ 2 * p.length) → Str.total (l.map fun p => (ent_Loose 10000 p).getD []) ≤ 2 * Str.total l := by
      intro l
      induction l with
      | nil => intro _; simp [Str.total]
      | cons x r ih =>
        intro h
        have h1 := h x (by simp)
        have h2 := ih (fun p hp => h p (by simp [hp]))
        simp only [List.map_cons, Str.total]; omega
    exact this ps (fun p hp => (hlo p hp).2)
  generalize hqs : (ps.map fun p => (ent_Loose 10000 p).getD []) = qs at htq
  have hlen : qs.length = ps.length := by rw [← hqs]; simp
  have hq : ∀ q ∈ qs, q.length ≤ 2000 := fun q hq => by
    rw [← hqs] at hq
    obtain ⟨p, hp, rfl⟩ := List.mem_map.1 hq
    have h1 := (hlo p hp).2
    have h2 := hmem p hp
    omega
  obtain ⟨hL1, hL2⟩ := lines_total qs
  have hloo : ∀ (i : Nat) (h : i < ps.length), ent_Loose 10000 ps[i] = some (qs[i]'(by omega)) := fun i hi => by
    subst hqs
    rw [List.getElem_map]
    exact (hlo _ (List.getElem_mem hi)).1
  refine ⟨Str.join [10] (linesOf qs), ?_, ?_⟩
  · unfold plain_Of
    rw [hall, bnd_some]
    exact of_loop 10000 ps qs (.inr (fun q h => by have := hq q h; omega)) hlen (by omega) hloo (fun q h => by have := hq q h; omega) (by omega) 10000 0 [] (by omega) (by omega) (by simp) (by simp)
  · unfold ref11_Of
    rw [href, bnd_some]
    exact ref_of_loop 10000 ps qs (by omega) hlen (by omega) hloo hmem hq (by omega) 10000 0 [] (by omega) (by omega) (by simp)
end Go.Pn
namespace Go.Pn
open Go.Pv Go.Av

theorem lws_len (k : Nat) (ls : List Bs) : (lws k ls).length ≤ Str.total ls + 2 * ls.length := by
  induction ls with
  | nil => simp [lws, Str.total]
  | cons l r ih =>
    have := lw_length k l
    rw [lws_cons]
    simp only [List.length_append, Str.total, List.length_cons]; omega

theorem wrap_short (F : Nat) (hF : 3000 < F) (s : Bs) (m : Int) (hs : s.length ≤ 1000) (L : List Bs) (h1 : ref11_Wrap F s m = some L) : L.length ≤ 2002 := by
  unfold ref11_Wrap at h1
  by_cases h : m < 1
  · rw [bT h] at h1
    cases h1; simp
  · obtain ⟨k, rfl⟩ : ∃ k : Nat, m = k := ⟨m.toNat, by omega⟩
    have hln := sp_length 10 s
    have hlt := sp_total 10 s
    have hm : ∀ l ∈ sp 10 s, l.length ≤ 1000 := fun l hl => by have := sp_mem 10 s l hl; omega
    rw [bF h, ref05_Split_eq F s 10 (by omega) (by omega), bnd_some] at h1
    have := ref_lines F (k : Int) k rfl hF (sp 10 s) hm (by omega) F 0 [] (by omega) (by omega) (by simp)
    have e : L = lws k (sp 10 s) := by
      have h2 := h1.symm.trans this
      simpa using h2
    have := lws_len k (sp 10 s)
    rw [e]; omega

theorem PlainTells_t (s : Bs) (m : Int) : law11_PlainTells 10000 s m = some true := by
  unfold law11_PlainTells
  rw [awakeL, bnd_some]
  cases hc : (!true) || (decide (1000 < (s.length : Int))) with
  | true => rfl
  | false =>
    have hs : s.length ≤ 1000 := by
      have : (s.length : Int) ≤ 1000 := by simpa using hc
      omega
    rw [cond_false]
    obtain ⟨L, h1, h2⟩ := wrap_same 10000 (by omega) s m hs
    obtain ⟨t, h3, h4⟩ := of_same s hs
    have hL := wrap_short 10000 (by omega) s m hs L h2
    rw [h1, bnd_some, h2, bnd_some, same_self 10000 L (by omega) (by omega), bnd_some, h3, h4]
    simp only [bndc_some, cond_true, decide_true, Bool.and_self]
end Go.Pn
