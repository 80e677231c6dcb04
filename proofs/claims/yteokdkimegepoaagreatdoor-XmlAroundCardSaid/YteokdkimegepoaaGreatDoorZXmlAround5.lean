/-
  Texts in one (only what XmlAround needs): XmAr.
-/
import Derived.Test.YteokdkimegepoaaGreatDoorZXmlAround4
set_option linter.unusedVariables false
set_option linter.unusedSimpArgs false
set_option linter.unusedSectionVars false
namespace Go.Xm
open Go.Pv Go.Av
abbrev arnd : List Bs := [([] : Bs), [10, 32], comD, mO ++ (10 :: iX)]
theorem sA (a : Int) (h0 : 0 ≤ a) (h3 : a ≤ 3) : (at_ arnd a = [] ∨ at_ arnd a = [10, 32] ∨ at_ arnd a = comD ∨ at_ arnd a = mO ++ (10 :: iX)) ∧ (at_ arnd a).length ≤ 34 := by
  have : a = 0 ∨ a = 1 ∨ a = 2 ∨ a = 3 := by omega
  rcases this with h | h | h | h <;> subst h
  · exact ⟨.inl rfl, by decide⟩
  · exact ⟨.inr (.inl rfl), by decide⟩
  · exact ⟨.inr (.inr (.inl rfl)), by decide⟩
  · exact ⟨.inr (.inr (.inr rfl)), by decide⟩
theorem around_t (F : Nat) (hF : 1500000 < F) (hw : gA F = some true) (s : Bs) (a b : Int) : eb F s a b = some true := by
  unfold eb
  rw [hw, bD]
  have ek : ej = mO ++ (10 :: iX) := by decide
  rw [ek]
  by_cases h : s.length ≤ 1000 ∧ 0 ≤ a ∧ a ≤ 3 ∧ 0 ≤ b ∧ b ≤ 3
  · obtain ⟨h1, h2, h3, h4, h5⟩ := h
    rw [notT, decide_eq_false (p := (1000 : Int) < (s.length : Int)) (by omega), decide_eq_false (p := a < 0) (by omega), decide_eq_false (p := 3 < a) (by omega), decide_eq_false (p := b < 0) (by omega), decide_eq_false (p := 3 < b) (by omega)]
    simp only [Bool.or_self]
    rw [eU, tok_eq hF (by omega), show kZ (dec F) s = ((kZ (dec F) s).1, (kZ (dec F) s).2) from rfl, aQ]
    obtain ⟨qa, la⟩ := sA a h2 h3;obtain ⟨qb, lb⟩ := sA b h4 h5
    have l4 : arnd.length = 4 := rfl
    show grd (cy a arnd.length) (lt (at_ arnd a) _) = _
    rw [cX (by omega), bx]
    show grd _ (lt (at_ arnd a ++ s) fun x21 => grd (cy b arnd.length) (lt (at_ arnd b) _)) = _
    rw [eA (by omega), bx, cX (by omega), bx]
    generalize at_ arnd a = A at qa la ⊢
    generalize at_ arnd b = C at qb lb ⊢
    rw [eA (by simp; omega), bx, eA (by simp; omega), tok_eq hF (by simp; omega), show kZ (dec F) (A ++ s ++ C) = ((kZ (dec F) (A ++ s ++ C)).1, (kZ (dec F) (A ++ s ++ C)).2) from rfl, aQ]
    by_cases g : (kZ (dec F) s).2 = 0
    · rw [decide_eq_true g, bnT]
      have := around (dec_blk F) qa qb (s := s) (l := (kZ (dec F) s).1) (by rw [← g]) fun e he => run_no he
      rw [← List.append_assoc] at this
      rw [this, decide_eq_true rfl, bndc_t, Same_eq F _ _ (by have := tok_len (d := dec F) (s := s) (by omega); omega) (tok_ats (by omega)) (by omega), bD, decide_eq_true rfl]; rfl
    · rw [decide_eq_false g, bnF]
  · have : ((((((!true) || (decide (1000 < (s.length : Int)))) || (decide (a < 0))) || (decide (3 < a))) || (decide (b < 0))) || (decide (3 < b))) = true := by
      simp only [notT, Bool.false_or, Bool.or_eq_true, decide_eq_true_eq]
      omega
    rw [this, jP]
theorem XmlAround_t (s : Bs) (a b : Int) : eb 2000000 s a b = some true := around_t 2000000 (by omega) awake s a b
end Go.Xm
