/-
  PlainWraps: the lines of a text, and what is asked of them. No program is spoken of.
-/
import Derived.Test.YtjajiokihccobaaDoorPnWraps
set_option linter.unusedVariables false
set_option linter.unusedSimpArgs false
namespace Go.Pn
open Go.Pv Go.Av

theorem wrap_loop (k : Nat) (hk : k ≤ 1000) (y : Int) (W : List Bs) (rec : ((List Bs) × Int) → Option (List Bs)) : ∀ (n i : Nat) (out : List Bs) (line : Bs), W.length - i < n → i ≤ W.length → out.length ≤ i → line.length + Str.total (W.drop i) + (W.length - i) ≤ 100000 → W.length ≤ 100000 →
    plain_Wrap_L1 (k : Int) y W rec n (out, line, false, (i : Int)) = plain_Wrap_j2 y rec (out ++ wr k line (W.drop i)) := by
  intro n
  induction n with
  | zero => intro i out line h; omega
  | succ n ih =>
    intro i out line hn hi ho hB hW
    show plain_Wrap_B1 (k : Int) y W rec (plain_Wrap_L1 (k : Int) y W rec n) out line false (i : Int) = _
    unfold plain_Wrap_B1 plain_Wrap_j4 plain_Wrap_j3
    by_cases h : i < W.length
    · have hd : W.drop i = W[i] :: W.drop (i + 1) := List.drop_eq_getElem_cons h
      have ht := Str.total_drop W i h
      simp (disch := (first | omega | (simp; done) | (simp; omega))) only [bT, grd_At, lt_eq, at_nat h, cond_false, grd_I, grd_Cat, cast_succ]
      rw [hd]
      by_cases hc : line.length + 1 + W[i].length ≤ k
      · have hc' : ((line.length + 1 : Nat) : Int) + (W[i].length : Int) ≤ (k : Int) := by omega
        rw [bT hc', ih (i + 1) out _ (by omega) (by omega) (by omega) (by simp; omega) hW]
        simp only [wr]; rw [if_pos hc]
      · have hc' : ¬ ((line.length + 1 : Nat) : Int) + (W[i].length : Int) ≤ (k : Int) := by omega
        rw [bF hc', ih (i + 1) _ _ (by omega) (by omega) (by simp; omega) (by omega) hW]
        simp only [wr]; rw [if_neg hc]; simp
    · have hi2 : i = W.length := by omega
      subst hi2
      simp (disch := (first | omega | (simp; done) | (simp; omega))) only [bF, grd_Cat, lt_eq, List.drop_length, wr]

/-- One line's words into lines. -/
theorem wrap_eq (s : Bs) (k : Nat) (hk : k ≤ 1000) (h1 : 1 ≤ k) (hs : s.length ≤ 600) (h10 : ∀ b ∈ s, b ≠ 10) : ∃ w ws, sp 32 (trim s) = w :: ws ∧ plain_Wrap 3000 s (k : Int) = some (wr k w ws) := by
  cases he : sp 32 (trim s) with
  | nil => exact absurd he (sp_ne _ _)
  | cons w ws =>
    refine ⟨w, ws, rfl, ?_⟩
    have htl := trim_len s
    have hln := sp_length 32 (trim s)
    have htt := sp_total 32 (trim s)
    rw [he] at hln htt
    simp only [Str.total, List.length_cons] at hln htt
    unfold plain_Wrap
    have e10 : Go.Lib.split s [10] = [s] := by rw [split_one, sp_no h10]
    simp (disch := (first | omega | (simp; done) | (simp; omega))) only [bF, grd_S, grd_D, lt_eq, e10]
    show plain_Wrap_B2 3000 (k : Int) [s] (plain_Wrap_L2 3000 (k : Int) [s] 2999) [] 0 = _
    unfold plain_Wrap_B2
    have e0 : at_ [s] 0 = s := rfl
    have e32 : Go.Lib.split (trim s) [32] = w :: ws := by rw [split_one, he]
    simp (disch := (first | omega | (simp; done) | (simp; omega))) only [bT, grd_At, lt_eq, e0, ent_Trim_eq 3000 s (by omega) (by omega), bnd_some, grd_S, grd_D, e32]
    show plain_Wrap_B1 (k : Int) 0 (w :: ws) (plain_Wrap_L2 3000 (k : Int) [s] 2999) (plain_Wrap_L1 (k : Int) 0 (w :: ws) (plain_Wrap_L2 3000 (k : Int) [s] 2999) 2999) [] [] true 0 = _
    unfold plain_Wrap_B1 plain_Wrap_j4
    have e1 : at_ (w :: ws) 0 = w := rfl
    simp (disch := (first | omega | (simp; done) | (simp; omega))) only [bT, grd_At, lt_eq, e1, cond_true, grd_I]
    have := wrap_loop k hk 0 (w :: ws) (plain_Wrap_L2 3000 (k : Int) [s] 2999) 2999 1 [] w (by simp; omega) (by simp) (by simp) (by simp; omega) (by simp; omega)
    rw [show (0 : Int) + 1 = ((1 : Nat) : Int) from rfl, this]
    unfold plain_Wrap_j2
    simp (disch := (first | omega | (simp; done) | (simp; omega))) only [grd_I, List.drop_succ_cons, List.drop_zero, List.nil_append]
    show plain_Wrap_B2 3000 (k : Int) [s] (plain_Wrap_L2 3000 (k : Int) [s] 2998) (wr k w ws) 1 = _
    unfold plain_Wrap_B2 plain_Wrap_j1
    simp (disch := (first | omega | (simp; done) | (simp; omega))) only [bF]

theorem words_line (w : Bs) (g : List Bs) (h : ∀ x ∈ w :: g, Wd x) (hl : (Str.join [32] (w :: g)).length ≤ 1000) : ref11_Words 3000 (Str.join [32] (w :: g)) = some (w :: g) ∧ ref07_Trim 3000 (Str.join [32] (w :: g)) = some (Str.join [32] (w :: g)) := by
  have ht := trim_join w g h
  have hr : ref07_Trim 3000 (Str.join [32] (w :: g)) = some (Str.join [32] (w :: g)) := by rw [ref07_Trim_eq 3000 _ (by omega) (by omega), ht]
  have hne : Str.join [32] (w :: g) ≠ [] := by
    have := (h w (by simp)).1
    simp [Str.join, this]
  refine ⟨?_, hr⟩
  unfold ref11_Words
  rw [hr, bnd_some, bF hne, ref05_Split_eq 3000 _ 32 (by omega) (by omega), sp_join w g h]; rfl

theorem wraps_loop (s : Bs) (k : Nat) (L : List Bs) (hk : k ≤ 1000) (h1 : 1 ≤ k) (hs : s.length ≤ 600) (hok : LOk k none L) (hL : L.length ≤ 1000) (hlen : ∀ l ∈ L, l.length ≤ 600) (hJ : Str.join [32] L = trim s) (htot : ∀ i, (Str.join [32] (L.take i)).length ≤ 1000000) : ∀ (n i : Nat), L.length - i < n → i ≤ L.length →
    law11_PlainWraps_L1 3000 s (k : Int) L n (Str.join [32] (L.take i), (i : Int)) = some true := by
  intro n
  induction n with
  | zero => intro i h; omega
  | succ n ih =>
    intro i hn hi
    show law11_PlainWraps_B1 3000 s (k : Int) L (law11_PlainWraps_L1 3000 s (k : Int) L n) (Str.join [32] (L.take i)) (i : Int) = _
    unfold law11_PlainWraps_B1 law11_PlainWraps_j2 law11_PlainWraps_j1
    by_cases h : i < L.length
    · obtain ⟨w, g, hw, hli, hn1, hp⟩ := LOk_drop hok i h
      have hli' : L[i] = Str.join [32] (w :: g) := by simpa [h] using hli
      have hl6 : (Str.join [32] (w :: g)).length ≤ 600 := by rw [← hli']; exact hlen _ (List.getElem_mem h)
      obtain ⟨hW, hT⟩ := words_line w g hw (by omega)
      have e0 : at_ (w :: g) 0 = w := rfl
      have hc1 : ((decide ((k : Int) < ((Str.join [32] (w :: g)).length : Int))) && (!decide (((w :: g).length : Int) = 1))) = false := by
        rcases hn1 with hn1 | hn1
        · rw [decide_eq_false (by omega)]; rfl
        · subst hn1; simp
      have hc2 : decide (((w :: g).length : Int) = 0) = false := decide_eq_false (by simp; omega)
      simp (disch := (first | omega | (simp; done) | (simp; omega))) only [bT, grd_At, lt_eq, at_nat h, hli', hW, bnd_some, hc1, hc2, e0, Bool.not_false, Bool.true_and, Bool.and_true, Bool.false_or]
      cases i with
      | zero =>
        have t0 : L.take 0 = [] := rfl
        have t1 : L.take (0 + 1) = [Str.join [32] (w :: g)] := by rw [List.take_succ_eq_append_getElem h, hli']; rfl
        have e := ih 1 (by omega) (by omega)
        rw [t1] at e
        have z : decide ((0 : Int) < ((0 : Nat) : Int)) = false := rfl
        have js : Str.join [32] [Str.join [32] (w :: g)] = [] ++ Str.join [32] (w :: g) := by simp [Str.join, Str.rest]
        have jn : Str.join [32] ([] : List Bs) = [] := rfl
        rw [js] at e
        simp (disch := (first | omega | (simp; done) | (simp; omega))) only [z, grdc_f, Bool.false_and, Bool.not_false, grdc_t, grd_At, bndc_t, hT, bnd_some, decide_true, Bool.not_true, cond_false, grd_Cat, grd_I, lt_eq, t0, jn]
        exact e
      | succ j =>
        have hj : j < L.length := by omega
        have z : decide ((0 : Int) < ((j + 1 : Nat) : Int)) = true := decide_eq_true (by omega)
        have hm1 : ((j + 1 : Nat) : Int) - 1 = (j : Int) := by omega
        have hprev := hp L[j] (by simp [hj])
        have hl5 := hlen _ (List.getElem_mem hj)
        have hw6 : w.length ≤ 600 := by
          have : (Str.join [32] (w :: g)).length = w.length + (Str.rest [32] g).length := by simp [Str.join]
          omega
        have hc3 : decide ((L[j].length : Int) + 1 + (w.length : Int) ≤ (k : Int)) = false := decide_eq_false (by omega)
        have tk : L.take (j + 1 + 1) = L.take (j + 1) ++ [Str.join [32] (w :: g)] := by rw [List.take_succ_eq_append_getElem h, hli']
        have tn : L.take (j + 1) ≠ [] := by
          intro e; have := congrArg List.length e; rw [List.length_take] at this; simp only [List.length_nil] at this; omega
        have e := ih (j + 1 + 1) (by omega) (by omega)
        have htot1 := htot (j + 1)
        rw [tk, join_app _ _ _ tn] at e
        simp (disch := (first | omega | (simp; done) | (simp; omega))) only [z, hm1, grdc_t, grd_At, grd_I, at_nat hj, lt_eq, Bool.true_and, hc3, Bool.not_false, bndc_t, hT, bnd_some, decide_true, Bool.not_true, cond_false, cond_true, Bool.or_false, grd_Cat]
        exact e
    · have hi2 : i = L.length := by omega
      subst hi2
      rw [List.take_length, hJ]
      simp (disch := (first | omega | (simp; done) | (simp; omega))) only [bF, ref07_Trim_eq 3000 s (by omega) (by omega), bnd_some, decide_true]

theorem wraps_j3 (s : Bs) (k : Nat) (hk : k ≤ 1000) (h1 : 1 ≤ k) (hs : s.length ≤ 600) (h10 : ∀ b ∈ s, b ≠ 10) : law11_PlainWraps_j3 3000 s (k : Int) = some true := by
  obtain ⟨w, ws, he, hw⟩ := wrap_eq s k hk h1 hs h10
  have htl := trim_len s
  have hJ : Str.join [32] (wr k w ws) = trim s := by rw [wr_join, ← join_sp (trim s), he]; rfl
  have hjl := join_len (wr k w ws) (wr_ne k ws w)
  rw [hJ] at hjl
  have hpos : 0 < (wr k w ws).length := List.length_pos_iff.2 (wr_ne k ws w)
  unfold law11_PlainWraps_j3
  rw [hw, bnd_some, bF (by omega)]
  by_cases ht : trim s = []
  · rw [ht] at he
    have : w = [] ∧ ws = [] := by simpa [sp, eq_comm] using he
    obtain ⟨rfl, rfl⟩ := this
    show law11_PlainWraps_B1 3000 s (k : Int) [[]] (law11_PlainWraps_L1 3000 s (k : Int) [[]] 2999) [] 0 = _
    unfold law11_PlainWraps_B1 law11_PlainWraps_j2
    have e0 : at_ ([[]] : List Bs) 0 = [] := rfl
    have eW : ref11_Words 3000 [] = some [] := by decide +kernel
    have eT : ref07_Trim 3000 [] = some [] := by decide +kernel
    have hk0 : decide ((k : Int) < (([] : Bs).length : Int)) = false := decide_eq_false (by simp)
    have z : decide ((0 : Int) < 0) = false := rfl
    simp (disch := (first | omega | (simp; done) | (simp; omega))) only [bT, grd_At, lt_eq, e0, eW, bnd_some, hk0, z, Bool.false_and, Bool.not_false, Bool.and_false, grdc_f, grdc_t, Bool.or_false, bndc_t, eT, decide_true, Bool.not_true, cond_false, grd_Cat, grd_I]
    show law11_PlainWraps_B1 3000 s (k : Int) [[]] (law11_PlainWraps_L1 3000 s (k : Int) [[]] 2998) [] 1 = _
    unfold law11_PlainWraps_B1 law11_PlainWraps_j1
    simp (disch := (first | omega | (simp; done) | (simp; omega))) only [bF, ref07_Trim_eq 3000 s (by omega) (by omega), bnd_some, ht, decide_true]
  · have hwd := trim_words s ht
    rw [he] at hwd
    have hok := wr_ok k ws w [] none (fun x hx => hwd x (by simp [hx])) (by
      intro x hx
      have : x = w := by simpa using hx
      subst this; exact hwd x (by simp)) (.inr rfl) (fun q hq => by cases hq)
    have e1 : Str.join [32] [w] = w := by simp [Str.join, Str.rest]
    rw [e1] at hok
    have hpre : ∀ (L : List Bs) (i : Nat), (Str.join [32] (L.take i)).length ≤ Str.total L + L.length := by
      intro L i
      have h2 : Str.total (L.take i) ≤ Str.total L := by
        induction L generalizing i with
        | nil => simp
        | cons x r ih => cases i with
          | zero => simp [Str.total]
          | succ i => have := ih i; simp [Str.total]; omega
      by_cases h3 : L.take i = []
      · rw [h3]; simp [Str.join]
      · have := join_len _ h3
        have h4 : (L.take i).length ≤ L.length := by simp; omega
        omega
    have := wraps_loop s k (wr k w ws) hk h1 hs hok (by omega) (fun l hl => by have := mem_total hl; omega) hJ (fun i => by have := hpre (wr k w ws) i; omega) 3000 0 (by omega) (by omega)
    exact this

theorem PlainWraps_t (s : Bs) (m : Int) : law11_PlainWraps 3000 s m = some true := by
  unfold law11_PlainWraps
  rw [awake11, bnd_some]
  cases hc : ((((!true) || (decide (600 < (s.length : Int)))) || (decide (m < 1))) || (decide (1000 < m))) with
  | true => rfl
  | false =>
    simp only [Bool.or_eq_false_iff, decide_eq_false_iff_not, Bool.not_true] at hc
    obtain ⟨⟨⟨_, h1⟩, h2⟩, h3⟩ := hc
    obtain ⟨k, rfl⟩ : ∃ k : Nat, m = k := ⟨m.toNat, by omega⟩
    rw [cond_false]
    have key : ∀ (n i : Nat), s.length - i < n → i ≤ s.length → (∀ x ∈ s.take i, x ≠ 10) → law11_PlainWraps_L2 3000 s (k : Int) n (i : Int) = some true := by
      intro n
      induction n with
      | zero => intro i h; omega
      | succ n ih =>
        intro i hn hi hb
        show law11_PlainWraps_B2 3000 s (k : Int) (law11_PlainWraps_L2 3000 s (k : Int) n) (i : Int) = _
        unfold law11_PlainWraps_B2
        by_cases h : i < s.length
        · simp (disch := omega) only [bT, grd_At, lt_eq, at_nat h, grd_I, cast_succ]
          by_cases hc : s[i] = 10
          · simp [hc]
          · simp only [hc, decide_false, cond_false]
            refine ih _ (by omega) (by omega) ?_
            rw [List.take_succ_eq_append_getElem h]
            intro x hx
            rcases List.mem_append.1 hx with hx | hx
            · exact hb x hx
            · have hx' : x = s[i] := by simpa using hx
              rw [hx']; exact hc
        · have hi2 : i = s.length := by omega
          subst hi2
          simp (disch := omega) only [bF]
          rw [List.take_length] at hb
          exact wraps_j3 s k (by omega) (by omega) (by omega) hb
    exact key 3000 0 (by omega) (by omega) (by simp)
end Go.Pn
