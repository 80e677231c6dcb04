/-
  Texts that are cut at a byte. No program is spoken of.
-/
import Derived.Test.YtjajiokihccobaaDoorPnTrim
import Derived.Lib.SplitLaws
import Derived.Lib.IndexMore
set_option linter.unusedVariables false
set_option linter.unusedSimpArgs false
namespace Go.Pn
open Go.Pv Go.Av

/-- A text cut at each c. -/
def sp (c : UInt8) : Bs → List Bs
  | [] => [[]]
  | b :: r => if b = c then [] :: sp c r else match sp c r with
    | [] => [[b]]
    | p :: ps => (b :: p) :: ps

theorem sp_ne (c : UInt8) (s : Bs) : sp c s ≠ [] := by
  cases s with
  | nil => simp [sp]
  | cons b r => unfold sp; split; simp; split <;> simp

theorem index_one_cons (b c : UInt8) (l : Bs) : Go.Lib.index (b :: l) [c] = if b = c then 0 else if Go.Lib.index l [c] = -1 then -1 else Go.Lib.index l [c] + 1 := by
  by_cases h : b = c
  · subst h; simp [Go.Lib.index]
  · simp [Go.Lib.index, h, Ne.symm h]

/-- Ahead of the first piece. -/
def prep (cur : Bs) : List Bs → List Bs
  | [] => [cur]
  | p :: ps => (cur ++ p) :: ps

theorem sp_cons_ne {b c : UInt8} (h : ¬ b = c) (r : Bs) : sp c (b :: r) = prep [b] (sp c r) := by
  simp only [sp, h, if_false]
  cases sp c r <;> rfl
theorem sp_cons_eq (c : UInt8) (r : Bs) : sp c (c :: r) = [] :: sp c r := by simp [sp]
theorem prep_prep (a b : Bs) (l : List Bs) : prep a (prep b l) = prep (a ++ b) l := by cases l <;> simp [prep]
theorem prep_nil {l : List Bs} (h : l ≠ []) : prep [] l = l := by cases l <;> simp_all [prep]
theorem sp_no {c : UInt8} {s : Bs} (h : ∀ b ∈ s, b ≠ c) : sp c s = [s] := by
  induction s with
  | nil => rfl
  | cons b r ih =>
    rw [sp_cons_ne (h b (by simp)), ih (fun x hx => h x (by simp [hx]))]; rfl

theorem splitK_eq (c : UInt8) : ∀ (s : Bs), Go.Lib.splitK [c] 0 (s.count c) s = sp c s
  | [] => rfl
  | b :: l => by
    have ih := splitK_eq c l
    have hi := index_one_cons b c l
    have hge := Go.Lib.index_ge l [c]
    by_cases h : b = c
    · subst h
      rw [List.count_cons_self, sp_cons_eq, Go.Lib.splitK, hi]
      simp [ih]
    · rw [List.count_cons_of_ne h, sp_cons_ne h, ← ih]
      cases hk : l.count c with
      | zero => simp [Go.Lib.splitK, prep]
      | succ k =>
        rw [Go.Lib.splitK, Go.Lib.splitK, hi]
        simp only [h, if_false]
        by_cases hm : Go.Lib.index l [c] = -1
        · simp [hm, prep]
        · obtain ⟨j, hj⟩ := Int.eq_ofNat_of_zero_le (show 0 ≤ Go.Lib.index l [c] by omega)
          have h2 : ¬ (Go.Lib.index l [c] + 1 = -1) := by omega
          have h3 : (Go.Lib.index l [c] + 1).toNat = j + 1 := by omega
          have h4 : (Go.Lib.index l [c]).toNat = j := by omega
          simp [hm, h2, h3, h4, prep]
theorem split_one (s : Bs) (c : UInt8) : Go.Lib.split s [c] = sp c s := by
  unfold Go.Lib.split
  rw [Go.Lib.count_one, splitK_eq]

theorem sp_length (c : UInt8) (s : Bs) : (sp c s).length ≤ s.length + 1 := by
  induction s with
  | nil => simp [sp]
  | cons b r ih =>
    by_cases h : b = c
    · subst h; rw [sp_cons_eq]; simp; omega
    · rw [sp_cons_ne h]
      cases hs : sp c r with
      | nil => simp [prep]
      | cons p ps => rw [hs] at ih; simp [prep] at ih ⊢; omega
theorem sp_total (c : UInt8) (s : Bs) : Str.total (sp c s) + (sp c s).length = s.length + 1 := by
  induction s with
  | nil => simp [sp, Str.total]
  | cons b r ih =>
    by_cases h : b = c
    · subst h; rw [sp_cons_eq]; simp [Str.total]; omega
    · rw [sp_cons_ne h]
      cases hs : sp c r with
      | nil => exact absurd hs (sp_ne c r)
      | cons p ps => rw [hs] at ih; simp [prep, Str.total] at ih ⊢; omega

theorem ref05_loop (s : Bs) (c : UInt8) (hs : s.length ≤ 1000000) : ∀ (n : Nat) (l : List Bs) (f i : Nat), s.length + 1 - i < n → i ≤ s.length → f ≤ i → l.length ≤ i →
    ref05_Split_L1 s c n (l, (f : Int), (i : Int)) = some (l ++ prep ((s.take i).drop f) (sp c (s.drop i))) := by
  intro n
  induction n with
  | zero => intro l f i h; omega
  | succ n ih =>
    intro l f i hn hi hf hl
    show ref05_Split_B1 s c (ref05_Split_L1 s c n) l (f : Int) (i : Int) = _
    unfold ref05_Split_B1 ref05_Split_j2
    by_cases h : i < s.length
    · have hd : s.drop i = s[i] :: s.drop (i + 1) := List.drop_eq_getElem_cons h
      have hne : decide ((i : Int) = (s.length : Int)) = false := decide_eq_false (by omega)
      simp (disch := omega) only [bT, hne, Bool.not_false, grdc_t, grd_At, lt_eq, at_nat h, Bool.false_or]
      rw [hd]
      by_cases hc : s[i] = c
      · simp (disch := (first | omega | (simp; omega))) only [hc, decide_true, cond_true, grd_Sub, sub_nat, grd_Cat, grd_I, cast_succ]
        rw [ih _ _ _ (by omega) (by omega) (by omega) (by simp; omega)]
        rw [List.drop_eq_nil_of_le (show (s.take (i + 1)).length ≤ i + 1 by simp; omega), prep_nil (sp_ne _ _), sp_cons_eq]
        simp [prep]
      · simp (disch := (first | omega | (simp; omega))) only [hc, decide_false, cond_false, grd_I, cast_succ]
        rw [ih _ _ _ (by omega) (by omega) (by omega) (by omega), sp_cons_ne hc, prep_prep]
        rw [List.take_succ_eq_append_getElem h, List.drop_append_of_le_length (by simp; omega)]
    · have hi2 : i = s.length := by omega
      subst hi2
      have hyes : decide ((s.length : Int) = (s.length : Int)) = true := decide_eq_true rfl
      simp (disch := (first | omega | (simp; omega))) only [bT, hyes, Bool.not_true, grdc_f, lt_eq, Bool.true_or, cond_true, grd_Sub, sub_nat, grd_Cat, grd_I, cast_succ, List.drop_length]
      obtain ⟨m, rfl⟩ : ∃ m, n = m + 1 := ⟨n - 1, by omega⟩
      show ref05_Split_B1 s c (ref05_Split_L1 s c m) _ _ ((s.length + 1 : Nat) : Int) = _
      unfold ref05_Split_B1 ref05_Split_j1
      have h1 : ¬ (((s.length + 1 : Nat) : Int) ≤ (s.length : Int)) := by omega
      rw [bF h1]
      simp [sp, prep]
theorem ref05_Split_eq (F : Nat) (s : Bs) (c : UInt8) (hs : s.length ≤ 1000000) (hF : s.length + 1 < F) : ref05_Split F s c = some (sp c s) := by
  have := ref05_loop s c hs F [] 0 0 (by omega) (by omega) (by omega) (by simp)
  rw [show ref05_Split F s c = ref05_Split_L1 s c F ([], ((0 : Nat) : Int), ((0 : Nat) : Int)) from rfl, this]
  simp [prep_nil (sp_ne _ _)]
end Go.Pn
