/-
  Texts in one: CnA0, CnF, CnG, CnH, CnI, CnJ, CnL, CnP.
-/
import Derived.Test.YtpbfajkbkomfcaaDoorCronQP
import Derived.Test.YtpbfajkbkomfcaaDoorCronAP
import Derived.Test.YtpbfajkbkomfcaaDoorCronRP
import Derived.Lib.SplitLaws
import Derived.Lib.IndexMore
import Derived.Lib.ItoaNum
import Derived.Test.YtpbfajkbkomfcaaDoorLCronNamesP
set_option linter.unusedVariables false
set_option linter.unusedSimpArgs false
namespace Go.Cn
open Go.Pv Go.Av

theorem has_loop (l : List Int) (n : Int) (hl : l.length ≤ 1000000) : ∀ (k i : Nat), l.length - i < k → i ≤ l.length → ref05_Has_L1 l n k (i : Int) = some (decide (n ∈ l.drop i)) := by
  intro k
  induction k with
  | zero => intro i h; omega
  | succ k ih =>
    intro i hk hi
    show ref05_Has_B1 l n (ref05_Has_L1 l n k) (i : Int) = _
    unfold ref05_Has_B1 ref05_Has_j1
    by_cases h : i < l.length
    · have hd : l.drop i = l[i] :: l.drop (i + 1) := List.drop_eq_getElem_cons h
      simp (disch := omega) only [bT, grd_At, lt_eq, at_nat h, grd_I, cast_succ]
      by_cases hc : l[i] = n
      · rw [bT hc, hd, decide_eq_true]; simp [hc]
      · rw [bF hc, ih (i + 1) (by omega) (by omega), hd]
        simp only [List.mem_cons, show (n = l[i]) = False from eq_false (fun h => hc h.symm), false_or]
    · have : l.drop i = [] := List.drop_eq_nil_of_le (by omega)
      rw [bF (by omega), this]; simp
theorem Has_eq (F : Nat) (l : List Int) (n : Int) (hl : l.length ≤ 1000000) (hF : l.length < F) : ref05_Has F l n = some (decide (n ∈ l)) := by
  have := has_loop l n hl F 0 (by omega) (by omega)
  rw [List.drop_zero] at this
  exact this

end Go.Cn
namespace Go.Cn
open Go.Pv Go.Av
abbrev Bs := List UInt8

/-- A text cut at each c. -/
def sp (c : UInt8) : Bs → List Bs
  | [] => [[]]
  | b :: r => if b = c then [] :: sp c r else match sp c r with
    | [] => [[b]]
    | p :: ps => (b :: p) :: ps

theorem sp_ne (c : UInt8) (s : Bs) : sp c s ≠ [] := by
  cases s with
  | nil => simp [sp]
  | cons b r => unfold sp; split; simp; split <;> simp

theorem index_one_cons (b c : UInt8) (l : Bs) : Go.Lib.index (b :: l) [c] = if b = c then 0 else if Go.Lib.index l [c] = -1 then -1 else Go.Lib.index l [c] + 1 := by
  by_cases h : b = c
  · subst h; simp [Go.Lib.index]
  · simp [Go.Lib.index, h, Ne.symm h]

/-- Ahead of the first piece. -/
def prep (cur : Bs) : List Bs → List Bs
  | [] => [cur]
  | p :: ps => (cur ++ p) :: ps

theorem sp_cons_ne {b c : UInt8} (h : ¬ b = c) (r : Bs) : sp c (b :: r) = prep [b] (sp c r) := by
  simp only [sp, h, if_false]
  cases sp c r <;> rfl
theorem sp_cons_eq (c : UInt8) (r : Bs) : sp c (c :: r) = [] :: sp c r := by simp [sp]
theorem prep_prep (a b : Bs) (l : List Bs) : prep a (prep b l) = prep (a ++ b) l := by cases l <;> simp [prep]
theorem prep_nil {l : List Bs} (h : l ≠ []) : prep [] l = l := by cases l <;> simp_all [prep]
theorem sp_no {c : UInt8} {s : Bs} (h : ∀ b ∈ s, b ≠ c) : sp c s = [s] := by
  induction s with
  | nil => rfl
  | cons b r ih =>
    rw [sp_cons_ne (h b (by simp)), ih (fun x hx => h x (by simp [hx]))]; rfl

theorem splitK_eq (c : UInt8) : ∀ (s : Bs), Go.Lib.splitK [c] 0 (s.count c) s = sp c s
  | [] => rfl
  | b :: l => by
    have ih := splitK_eq c l
    have hi := index_one_cons b c l
    have hge := Go.Lib.index_ge l [c]
    by_cases h : b = c
    · subst h
      rw [List.count_cons_self, sp_cons_eq, Go.Lib.splitK, hi]
      simp [ih]
    · rw [List.count_cons_of_ne h, sp_cons_ne h, ← ih]
      cases hk : l.count c with
      | zero => simp [Go.Lib.splitK, prep]
      | succ k =>
        rw [Go.Lib.splitK, Go.Lib.splitK, hi]
        simp only [h, if_false]
        by_cases hm : Go.Lib.index l [c] = -1
        · simp [hm, prep]
        · obtain ⟨j, hj⟩ := Int.eq_ofNat_of_zero_le (show 0 ≤ Go.Lib.index l [c] by omega)
          have h2 : ¬ (Go.Lib.index l [c] + 1 = -1) := by omega
          have h3 : (Go.Lib.index l [c] + 1).toNat = j + 1 := by omega
          have h4 : (Go.Lib.index l [c]).toNat = j := by omega
          simp [hm, h2, h3, h4, prep]
theorem split_one (s : Bs) (c : UInt8) : Go.Lib.split s [c] = sp c s := by
  unfold Go.Lib.split
  rw [Go.Lib.count_one, splitK_eq]

theorem sp_length (c : UInt8) (s : Bs) : (sp c s).length ≤ s.length + 1 := by
  induction s with
  | nil => simp [sp]
  | cons b r ih =>
    by_cases h : b = c
    · subst h; rw [sp_cons_eq]; simp; omega
    · rw [sp_cons_ne h]
      cases hs : sp c r with
      | nil => simp [prep]
      | cons p ps => rw [hs] at ih; simp [prep] at ih ⊢; omega
theorem sp_total (c : UInt8) (s : Bs) : Str.total (sp c s) + (sp c s).length = s.length + 1 := by
  induction s with
  | nil => simp [sp, Str.total]
  | cons b r ih =>
    by_cases h : b = c
    · subst h; rw [sp_cons_eq]; simp [Str.total]; omega
    · rw [sp_cons_ne h]
      cases hs : sp c r with
      | nil => exact absurd hs (sp_ne c r)
      | cons p ps => rw [hs] at ih; simp [prep, Str.total] at ih ⊢; omega

theorem ref05_loop (s : Bs) (c : UInt8) (hs : s.length ≤ 1000000) : ∀ (n : Nat) (l : List Bs) (f i : Nat), s.length + 1 - i < n → i ≤ s.length → f ≤ i → l.length ≤ i →
    ref05_Split_L1 s c n (l, (f : Int), (i : Int)) = some (l ++ prep ((s.take i).drop f) (sp c (s.drop i))) := by
  intro n
  induction n with
  | zero => intro l f i h; omega
  | succ n ih =>
    intro l f i hn hi hf hl
    show ref05_Split_B1 s c (ref05_Split_L1 s c n) l (f : Int) (i : Int) = _
    unfold ref05_Split_B1 ref05_Split_j2
    by_cases h : i < s.length
    · have hd : s.drop i = s[i] :: s.drop (i + 1) := List.drop_eq_getElem_cons h
      have hne : decide ((i : Int) = (s.length : Int)) = false := decide_eq_false (by omega)
      simp (disch := omega) only [bT, hne, Bool.not_false, grdc_t, grd_At, lt_eq, at_nat h, Bool.false_or]
      rw [hd]
      by_cases hc : s[i] = c
      · simp (disch := (first | omega | (simp; omega))) only [hc, decide_true, cond_true, grd_Sub, sub_nat, grd_Cat, grd_I, cast_succ]
        rw [ih _ _ _ (by omega) (by omega) (by omega) (by simp; omega)]
        rw [List.drop_eq_nil_of_le (show (s.take (i + 1)).length ≤ i + 1 by simp; omega), prep_nil (sp_ne _ _), sp_cons_eq]
        simp [prep]
      · simp (disch := (first | omega | (simp; omega))) only [hc, decide_false, cond_false, grd_I, cast_succ]
        rw [ih _ _ _ (by omega) (by omega) (by omega) (by omega), sp_cons_ne hc, prep_prep]
        rw [List.take_succ_eq_append_getElem h, List.drop_append_of_le_length (by simp; omega)]
    · have hi2 : i = s.length := by omega
      subst hi2
      have hyes : decide ((s.length : Int) = (s.length : Int)) = true := decide_eq_true rfl
      simp (disch := (first | omega | (simp; omega))) only [bT, hyes, Bool.not_true, grdc_f, lt_eq, Bool.true_or, cond_true, grd_Sub, sub_nat, grd_Cat, grd_I, cast_succ, List.drop_length]
      obtain ⟨m, rfl⟩ : ∃ m, n = m + 1 := ⟨n - 1, by omega⟩
      show ref05_Split_B1 s c (ref05_Split_L1 s c m) _ _ ((s.length + 1 : Nat) : Int) = _
      unfold ref05_Split_B1 ref05_Split_j1
      have h1 : ¬ (((s.length + 1 : Nat) : Int) ≤ (s.length : Int)) := by omega
      rw [bF h1]
      simp [sp, prep]
theorem ref05_Split_eq (F : Nat) (s : Bs) (c : UInt8) (hs : s.length ≤ 1000000) (hF : s.length + 1 < F) : ref05_Split F s c = some (sp c s) := by
  have := ref05_loop s c hs F [] 0 0 (by omega) (by omega) (by omega) (by simp)
  rw [show ref05_Split F s c = ref05_Split_L1 s c F ([], ((0 : Nat) : Int), ((0 : Nat) : Int)) from rfl, this]
  simp [prep_nil (sp_ne _ _)]

/-! ### Digits -/
def isD (b : UInt8) : Bool := decide (48 ≤ b.toNat) && decide (b.toNat ≤ 57)
def val (b : UInt8) : Int := (b.toNat : Int) - 48
def digS : Bs → Option Int
  | [a] => if isD a then some (val a) else none
  | [a, b] => if isD a && isD b then some (10 * val a + val b) else none
  | _ => none
theorem digS_1 (a : UInt8) : digS [a] = if isD a then some (val a) else none := rfl
theorem digS_2 (a b : UInt8) : digS [a, b] = if isD a && isD b then some (10 * val a + val b) else none := rfl
theorem digS_3 (a b c : UInt8) (r : Bs) : digS (a :: b :: c :: r) = none := rfl
def digs : Bs := [48, 49, 50, 51, 52, 53, 54, 55, 56, 57]
theorem of_all (p : UInt8 → Bool) (h : ∀ k : Fin 256, p (UInt8.ofNat k.val) = true) (b : UInt8) : p b = true := by
  have := h ⟨b.toNat, b.toNat_lt⟩
  simpa using this
theorem digs_has (b : UInt8) : digs.contains b = isD b := by
  have := of_all (fun b => digs.contains b == isD b) (by decide +kernel) b
  simpa using this
theorem trim1 (a : UInt8) : Go.Lib.trimS [a] digs = if isD a then [] else [a] := by
  rw [← digs_has]
  cases h : digs.contains a <;> simp only [Go.Lib.trimS, Go.Lib.trimLeftS, Go.Lib.trimRightS, List.reverse_cons, List.reverse_nil, List.nil_append, List.dropWhile_cons, List.dropWhile_nil, h, if_true, if_false, Bool.false_eq_true]
theorem trim2 (a b : UInt8) : (Go.Lib.trimS [a, b] digs = []) ↔ (isD a && isD b) = true := by
  rw [← digs_has, ← digs_has]
  cases h : digs.contains a <;> cases g : digs.contains b <;> simp only [Go.Lib.trimS, Go.Lib.trimLeftS, Go.Lib.trimRightS, List.reverse_cons, List.reverse_nil, List.nil_append, List.singleton_append, List.cons_append, List.dropWhile_cons, List.dropWhile_nil, h, g, if_true, if_false, Bool.false_eq_true, Bool.and_self, Bool.and_true, Bool.and_false, Bool.false_and, reduceCtorEq, iff_false, iff_true, not_false_eq_true]
theorem isD_s {a : UInt8} (h : isD a = true) : 48 ≤ a.toNat ∧ a.toNat ≤ 57 := by simpa [isD] using h
theorem digit_val {a : UInt8} (h : isD a = true) : Go.Lib.digitVal a = some (a.toNat - 48) := by
  unfold Go.Lib.digitVal; rw [if_pos (isD_s h)]
theorem isD_ne {a : UInt8} (h : isD a = true) : (a == 45) = false ∧ (a == 43) = false := by
  have := isD_s h
  constructor <;> (simp only [beq_eq_false_iff_ne]; intro e; subst e; simp at this)
theorem atoi1 {a : UInt8} (h : isD a = true) : atoi18 [a] = (val a, 0) := by
  obtain ⟨h1, h2⟩ := isD_ne h
  have := isD_s h
  unfold atoi18
  simp only [Go.Lib.atoi, h1, h2, Go.Lib.decNat, Go.Lib.decFrom, digit_val h, List.isEmpty_cons, Bool.false_eq_true, if_false, Option.map_some, val]
  congr 1; omega
theorem atoi2 {a b : UInt8} (h : isD a = true) (g : isD b = true) : atoi18 [a, b] = (10 * val a + val b, 0) := by
  obtain ⟨h1, h2⟩ := isD_ne h
  have := isD_s h
  have := isD_s g
  unfold atoi18
  simp only [Go.Lib.atoi, h1, h2, Go.Lib.decNat, Go.Lib.decFrom, digit_val h, digit_val g, List.isEmpty_cons, Bool.false_eq_true, if_false, Option.map_some, val]
  congr 1; omega
theorem digits_eq (F : Nat) (s : Bs) : cron_digits F s = some (match digS s with | some n => (n, true) | none => (0, false)) := by
  rcases s with _ | ⟨a, _ | ⟨b, _ | ⟨c, r⟩⟩⟩
  · have e : ((decide ((([] : Bs).length : Int) < 1)) || (decide (2 < (([] : Bs).length : Int)))) = true := rfl
    unfold cron_digits
    rw [e, Bool.not_true, grdc_f, grdc_f, grdc_f, lt_eq]; rfl
  · have e : ((decide ((([a] : Bs).length : Int) < 1)) || (decide (2 < (([a] : Bs).length : Int)))) = false := rfl
    unfold cron_digits
    rw [e, Bool.not_false, grdc_t, grdc_t, grdc_t, grd_S (by simp), grd_S (by simp)]
    have e2 : asciiB ([48, 49, 50, 51, 52, 53, 54, 55, 56, 57] : Bs) = true := by decide
    have e3 : Go.Lib.trimS [a] ([48, 49, 50, 51, 52, 53, 54, 55, 56, 57] : Bs) = _ := trim1 a
    rw [e2, grd_t, lt_eq, e3, digS_1]
    cases h : isD a with
    | false => rfl
    | true =>
      simp only [if_true, decide_true, Bool.not_true, Bool.or_self, cond_false]
      rw [grd_D (by simp), lt_eq, atoi1 h]; rfl
  · have e : ((decide ((([a, b] : Bs).length : Int) < 1)) || (decide (2 < (([a, b] : Bs).length : Int)))) = false := rfl
    unfold cron_digits
    rw [e, Bool.not_false, grdc_t, grdc_t, grdc_t, grd_S (by simp), grd_S (by simp)]
    have e2 : asciiB ([48, 49, 50, 51, 52, 53, 54, 55, 56, 57] : Bs) = true := by decide
    have e3 : (Go.Lib.trimS [a, b] ([48, 49, 50, 51, 52, 53, 54, 55, 56, 57] : Bs) = []) ↔ _ := trim2 a b
    rw [e2, grd_t, lt_eq, digS_2]
    cases h : isD a && isD b with
    | false =>
      have : ¬ (Go.Lib.trimS [a, b] ([48, 49, 50, 51, 52, 53, 54, 55, 56, 57] : Bs) = []) := fun hh => by rw [e3, h] at hh; cases hh
      rw [decide_eq_false this]; rfl
    | true =>
      rw [decide_eq_true (e3.2 h)]
      simp only [if_true, Bool.not_true, Bool.or_self, cond_false]
      simp only [Bool.and_eq_true] at h
      rw [grd_D (by simp), lt_eq, atoi2 h.1 h.2]; rfl
  · have e : ((decide (((a :: b :: c :: r : Bs).length : Int) < 1)) || (decide (2 < ((a :: b :: c :: r : Bs).length : Int)))) = true := by
      rw [decide_eq_true (show 2 < ((a :: b :: c :: r : Bs).length : Int) by simp; omega), Bool.or_true]
    unfold cron_digits
    rw [e, Bool.not_true, grdc_f, grdc_f, grdc_f, lt_eq]; rfl
theorem sub48 {a : UInt8} (h : isD a = true) : (((a - 48 : UInt8)).toNat : Int) = val a := by
  have := isD_s h
  unfold val
  rw [UInt8.toNat_sub_of_le _ _ (by show 48 ≤ a.toNat; omega)]
  show ((a.toNat - 48 : Nat) : Int) = _
  omega
theorem val_range {a : UInt8} (h : isD a = true) : 0 ≤ val a ∧ val a ≤ 9 := by
  have := isD_s h
  unfold val; omega
theorem rdig_step (s : Bs) (n i : Nat) (y : Int) (a : UInt8) (hs : s.length ≤ 2) (hi : i < s.length) (ha : s[i] = a) (hy : 0 ≤ y ∧ y ≤ 1000) :
    ref05_digits_L1 s (n + 1) (y, (i : Int)) = if isD a then ref05_digits_L1 s n (10 * y + val a, ((i + 1 : Nat) : Int)) else some (-1) := by
  show ref05_digits_B1 s (ref05_digits_L1 s n) y (i : Int) = _
  unfold ref05_digits_B1
  rw [bT (by omega), grd_At (by omega), lt_eq, at_nat hi, grdc_At (fun _ => by omega), lt_eq, ha]
  cases h : isD a with
  | false =>
    have : ((decide ((a.toNat : Int) < 48)) || (decide (57 < (a.toNat : Int)))) = true := by
      unfold isD at h
      by_cases h1 : 48 ≤ a.toNat
      · rw [decide_eq_true h1, Bool.true_and, decide_eq_false_iff_not] at h
        rw [decide_eq_true (show 57 < (a.toNat : Int) by omega), Bool.or_true]
      · rw [decide_eq_true (show (a.toNat : Int) < 48 by omega)]; rfl
    rw [this]; simp
  | true =>
    have hd := isD_s h
    have hv := val_range h
    have : ((decide ((a.toNat : Int) < 48)) || (decide (57 < (a.toNat : Int)))) = false := by
      rw [decide_eq_false (by omega), decide_eq_false (by omega)]; rfl
    rw [this, cond_false, grd_I (by omega), grd_At (by omega), lt_eq, sub48 h, grd_I (by omega), grd_I (by omega)]; rfl
theorem rdig_end (s : Bs) (n : Nat) (y : Int) : ref05_digits_L1 s (n + 1) (y, (s.length : Int)) = some y := by
  show ref05_digits_B1 s (ref05_digits_L1 s n) y (s.length : Int) = _
  unfold ref05_digits_B1 ref05_digits_j1
  rw [bF (by omega)]
theorem rdigits_eq (F : Nat) (hF : 4 ≤ F) (s : Bs) : ref05_digits F s = some (match digS s with | some n => n | none => -1) := by
  obtain ⟨n, rfl⟩ : ∃ n, F = n + 1 + 1 + 1 := ⟨F - 3, by omega⟩
  rcases s with _ | ⟨a, _ | ⟨b, _ | ⟨c, r⟩⟩⟩
  · rfl
  · have e : ref05_digits (n + 1 + 1 + 1) [a] = ref05_digits_L1 [a] (n + 1 + 1 + 1) (0, ((0 : Nat) : Int)) := rfl
    rw [e, rdig_step [a] _ 0 0 a (by simp) (by simp) rfl (by omega), digS_1]
    cases h : isD a with
    | false => rfl
    | true =>
      simp only [if_true]
      refine (rdig_end [a] _ _).trans ?_
      congr 1; omega
  · have e : ref05_digits (n + 1 + 1 + 1) [a, b] = ref05_digits_L1 [a, b] (n + 1 + 1 + 1) (0, ((0 : Nat) : Int)) := rfl
    rw [e, rdig_step [a, b] _ 0 0 a (by simp) (by simp) rfl (by omega), digS_2]
    cases h : isD a with
    | false => simp
    | true =>
      have hv := val_range h
      simp only [if_true]
      rw [rdig_step [a, b] _ 1 _ b (by simp) (by simp) rfl (by omega)]
      cases g : isD b with
      | false => simp
      | true =>
        simp only [if_true, Bool.and_self]
        refine (rdig_end [a, b] _ _).trans ?_
        show some (10 * (10 * 0 + val a) + val b) = some (10 * val a + val b)
        congr 1; omega
  · have e : ((decide (((a :: b :: c :: r : Bs).length : Int) < 1)) || (decide (2 < ((a :: b :: c :: r : Bs).length : Int)))) = true := by
      rw [decide_eq_true (show 2 < ((a :: b :: c :: r : Bs).length : Int) by simp; omega), Bool.or_true]
    unfold ref05_digits
    rw [e]; rfl
theorem digS_s {s : Bs} {n : Int} (h : digS s = some n) : (∃ a, s = [a] ∧ isD a = true ∧ n = val a) ∨ (∃ a b, s = [a, b] ∧ isD a = true ∧ isD b = true ∧ n = 10 * val a + val b) := by
  rcases s with _ | ⟨a, _ | ⟨b, _ | ⟨c, r⟩⟩⟩
  · cases h
  · rw [digS_1] at h
    cases ha : isD a with
    | false => rw [ha] at h; cases h
    | true =>
      rw [ha, if_pos rfl] at h
      exact .inl ⟨a, rfl, ha, (Option.some.inj h).symm⟩
  · rw [digS_2] at h
    cases ha : isD a with
    | false => rw [ha, Bool.false_and] at h; cases h
    | true =>
      cases hb : isD b with
      | false => rw [ha, hb] at h; cases h
      | true =>
        rw [ha, hb, Bool.and_self, if_pos rfl] at h
        exact .inr ⟨a, b, rfl, ha, hb, (Option.some.inj h).symm⟩
  · cases h
theorem digS_range {s : Bs} {n : Int} (h : digS s = some n) : 0 ≤ n ∧ n ≤ 99 := by
  rcases digS_s h with ⟨a, rfl, ha, rfl⟩ | ⟨a, b, rfl, ha, hb, rfl⟩
  · have := val_range ha; omega
  · have := val_range ha; have := val_range hb; omega
theorem digS_mem {s : Bs} {n : Int} (h : digS s = some n) : ∀ b ∈ s, isD b = true := by
  rcases digS_s h with ⟨a, rfl, ha, rfl⟩ | ⟨a, b, rfl, ha, hb, rfl⟩
  · intro x hx; simp at hx; subst hx; exact ha
  · intro x hx; simp at hx; rcases hx with rfl | rfl <;> assumption

/-! ### Small letters -/
def sm (b : UInt8) : UInt8 := if 65 ≤ b.toNat ∧ b.toNat ≤ 90 then b + 32 else b
theorem sm_a (b : UInt8) : (b + 97) - 65 = b + 32 := by
  have := of_all (fun b => (b + 97) - 65 == b + 32) (by decide +kernel) b
  simpa using this
theorem small_cond (b : UInt8) : ((decide (65 ≤ (b.toNat : Int))) && (decide ((b.toNat : Int) ≤ 90))) = decide (65 ≤ b.toNat ∧ b.toNat ≤ 90) := by
  rw [Bool.eq_iff_iff]; simp; omega
theorem small_loop (s : Bs) (hs : s.length ≤ 1000000) : ∀ (k i : Nat), s.length - i < k → i ≤ s.length → cron_small_L1 s k ((i : Int), (s.take i).map sm ++ s.drop i) = some (s.map sm) := by
  intro k
  induction k with
  | zero => intro i h; omega
  | succ k ih =>
    intro i hk hi
    show cron_small_B1 s (cron_small_L1 s k) (i : Int) ((s.take i).map sm ++ s.drop i) = _
    unfold cron_small_B1 cron_small_j1 cron_small_j2
    have hlen : ((s.take i).map sm ++ s.drop i).length = s.length := by simp; omega
    by_cases h : i < s.length
    · have hd : s.drop i = s[i] :: s.drop (i + 1) := List.drop_eq_getElem_cons h
      have hat : ((s.take i).map sm ++ s.drop i)[i]'(by omega) = s[i] := by
        rw [List.getElem_append_right (by simp; omega)]
        simp
        congr 1; omega
      have hnext : (s.take (i + 1)).map sm ++ s.drop (i + 1) = ((s.take i).map sm ++ s.drop i).set i (sm s[i]) := by
        rw [List.take_succ_eq_append_getElem h, List.map_append, List.set_append_right _ _ (by simp; omega)]
        have : i - ((s.take i).map sm).length = 0 := by simp; omega
        rw [this, hd, List.set_cons_zero, List.append_assoc]; rfl
      rw [bT (by omega), grd_At (by omega), grd_At (by omega), lt_eq, at_nat (by omega), hat, small_cond]
      by_cases hc : 65 ≤ s[i].toNat ∧ s[i].toNat ≤ 90
      · rw [decide_eq_true hc, cond_true, grd_At (by omega), grd_At (by omega), lt_eq, grd_I (by omega), cast_succ, Int.toNat_natCast, sm_a]
        have e : sm s[i] = s[i] + 32 := by unfold sm; rw [if_pos hc]
        rw [← e, ← hnext]
        exact ih (i + 1) (by omega) (by omega)
      · rw [decide_eq_false hc, cond_false, grd_I (by omega), cast_succ]
        have e : sm s[i] = s[i] := by unfold sm; rw [if_neg hc]
        have e2 : ((s.take i).map sm ++ s.drop i) = (s.take (i + 1)).map sm ++ s.drop (i + 1) := by
          rw [hnext, e]
          have := List.set_getElem_self (as := (s.take i).map sm ++ s.drop i) (i := i) (by omega)
          rw [hat] at this
          exact this.symm
        rw [e2]
        exact ih (i + 1) (by omega) (by omega)
    · have hi2 : i = s.length := by omega
      rw [bF (by omega), hi2]
      simp [grd_t]
theorem small_eq (F : Nat) (s : Bs) (hs : s.length ≤ 1000000) (hF : s.length < F) : cron_small F s = some (s.map sm) := by
  unfold cron_small
  rw [grd_Cat (by omega)]
  have := small_loop s hs F 0 (by omega) (by omega)
  simpa using this
theorem rsmall_loop (s : Bs) (hs : s.length ≤ 1000000) : ∀ (k i : Nat), s.length - i < k → i ≤ s.length → ref05_Small_L1 s k ((s.take i).map sm, (i : Int)) = some (s.map sm) := by
  intro k
  induction k with
  | zero => intro i h; omega
  | succ k ih =>
    intro i hk hi
    show ref05_Small_B1 s (ref05_Small_L1 s k) ((s.take i).map sm) (i : Int) = _
    unfold ref05_Small_B1 ref05_Small_j1 ref05_Small_j2
    by_cases h : i < s.length
    · rw [bT (by omega), grd_At (by omega), lt_eq, at_nat h, small_cond]
      have e : (s.take i).map sm ++ [sm s[i]] = (s.take (i + 1)).map sm := by rw [List.take_succ_eq_append_getElem h, List.map_append]; rfl
      by_cases hc : 65 ≤ s[i].toNat ∧ s[i].toNat ≤ 90
      · have e1 : sm s[i] = s[i] + 32 := by unfold sm; rw [if_pos hc]
        rw [decide_eq_true hc, cond_true, grd_Cat (by simp; omega), lt_eq, grd_I (by omega), cast_succ, ← e1, e]
        exact ih (i + 1) (by omega) (by omega)
      · have e1 : sm s[i] = s[i] := by unfold sm; rw [if_neg hc]
        rw [decide_eq_false hc, cond_false, grd_Cat (by simp; omega), lt_eq, grd_I (by omega), cast_succ]
        rw [e1] at e
        rw [e]
        exact ih (i + 1) (by omega) (by omega)
    · have hi2 : i = s.length := by omega
      rw [bF (by omega), hi2]; simp
theorem rsmall_eq (F : Nat) (s : Bs) (hs : s.length ≤ 1000000) (hF : s.length < F) : ref05_Small F s = some (s.map sm) := by
  have := rsmall_loop s hs F 0 (by omega) (by omega)
  unfold ref05_Small
  simpa using this
end Go.Cn
namespace Go.Cn
open Go.Pv Go.Av

/-- The i-th name. -/
def tr (nm : Bs) (i : Nat) : Bs := (nm.take (3 * i + 3)).drop (3 * i)
def lastR (nm low : Bs) : Nat → Nat → Int → Int
  | 0, _, y => y
  | c + 1, i, y => lastR nm low c (i + 1) (if tr nm i = low then (i : Int) else y)
def firstR (nm low : Bs) : Nat → Nat → Int
  | 0, _ => -1
  | c + 1, i => if tr nm i = low then (i : Int) else firstR nm low c (i + 1)
theorem lastR_range (nm low : Bs) : ∀ (c i : Nat) (y : Int), -1 ≤ y ∧ y < i + c → -1 ≤ lastR nm low c i y ∧ lastR nm low c i y < i + c := by
  intro c
  induction c with
  | zero => intro i y h; exact h
  | succ c ih =>
    intro i y h
    have := ih (i + 1) (if tr nm i = low then (i : Int) else y) (by split <;> omega)
    simp only [lastR]; omega
theorem lastR_no (nm low : Bs) : ∀ (c i : Nat) (y : Int), (∀ j, i ≤ j → j < i + c → tr nm j ≠ low) → lastR nm low c i y = y := by
  intro c
  induction c with
  | zero => intro i y _; rfl
  | succ c ih =>
    intro i y h
    simp only [lastR, if_neg (h i (by omega) (by omega))]
    exact ih (i + 1) y fun j h1 h2 => h j (by omega) (by omega)
theorem last_first (nm low : Bs) (N : Nat) (hd : ∀ i j, i < N → j < N → tr nm i = tr nm j → i = j) : ∀ (c i : Nat), i + c = N → lastR nm low c i (-1) = firstR nm low c i := by
  intro c
  induction c with
  | zero => intro i _; rfl
  | succ c ih =>
    intro i h
    simp only [lastR, firstR]
    by_cases e : tr nm i = low
    · rw [if_pos e, if_pos e]
      exact lastR_no nm low c (i + 1) _ fun j h1 h2 he => by have := hd i j (by omega) (by omega) (e.trans he.symm); omega
    · rw [if_neg e, if_neg e]
      exact ih (i + 1) (by omega)
theorem tr_len (nm : Bs) (i : Nat) (h : 3 * i + 3 ≤ nm.length) : (tr nm i).length = 3 := by unfold tr; simp; omega

def inS (lo hi ov n : Int) : Option Int := if lo ≤ n ∧ n ≤ max hi ov then some n else none
def ix (nm s : Bs) : Int := lastR nm (s.map sm) (nm.length / 3) 0 (-1)
def numS (lo hi ov : Int) (nm s : Bs) : Option Int := match digS s with
  | some n => inS lo hi ov n
  | none => if 0 ≤ ix nm s then inS lo hi ov (lo + ix nm s) else none
def okR {α : Type} (o : Option α) : Res α := match o with | some n => .ok n | none => .pan 0
theorem num_j1 (F : Nat) (lo hi ov n : Int) : cron_number_j1 F lo hi ov n = some (okR (inS lo hi ov n)) := by
  unfold cron_number_j1 cron_unless inS okR
  by_cases h : lo ≤ n ∧ n ≤ max hi ov
  · rw [decide_eq_true h.1, decide_eq_true h.2, if_pos h]; rfl
  · have : ((decide (lo ≤ n)) && (decide (n ≤ max hi ov))) = false := by simpa using h
    rw [this, if_neg h]; rfl
theorem number_loop (F : Nat) (lo hi ov : Int) (nm s : Bs) (hs : s.length ≤ 1000) (hF : 1000 < F) (hn : nm.length ≤ 1000) : ∀ (c k i : Nat) (y : Int), nm.length = 3 * (i + c) → c < k →
    cron_number_L1 F lo hi nm ov s k (y, ((3 * i : Nat) : Int)) = cron_number_j2 F lo hi ov (lastR nm (s.map sm) c i y) := by
  intro c
  induction c with
  | zero =>
    intro k i y h hk
    obtain ⟨k, rfl⟩ : ∃ k', k = k' + 1 := ⟨k - 1, by omega⟩
    show cron_number_B1 F lo hi nm ov s (cron_number_L1 F lo hi nm ov s k) y ((3 * i : Nat) : Int) = _
    unfold cron_number_B1
    rw [grd_I (by omega), bF (by omega)]; rfl
  | succ c ih =>
    intro k i y h hk
    obtain ⟨k, rfl⟩ : ∃ k', k = k' + 1 := ⟨k - 1, by omega⟩
    show cron_number_B1 F lo hi nm ov s (cron_number_L1 F lo hi nm ov s k) y ((3 * i : Nat) : Int) = _
    unfold cron_number_B1 cron_number_j3
    have e3 : ((3 * i : Nat) : Int) + 3 = ((3 * i + 3 : Nat) : Int) := by omega
    have e4 : ((3 * i : Nat) : Int) / 3 = (i : Int) := by omega
    have e5 : ((3 * i + 3 : Nat) : Int) = ((3 * (i + 1) : Nat) : Int) := by omega
    have hgI : ∀ q : Option (Res Int), grd (okI ((3 * i + 3 : Nat) : Int)) q = q := fun q => grd_I (by omega)
    rw [e3, hgI, bT (by omega), hgI, grd_Sub (by omega), lt_eq, sub_nat, small_eq F s (by omega) (by omega), bnd_some, grd_Div (by omega), e4]
    simp only [hgI]
    rw [e5]
    have := ih k (i + 1)
    simp only [lastR]
    by_cases ht : tr nm i = s.map sm
    · have ht' : List.drop (3 * i) (List.take (3 * i + 3) nm) = s.map sm := ht
      rw [bT ht', if_pos ht]
      exact this (i : Int) (by omega) (by omega)
    · have ht' : ¬ List.drop (3 * i) (List.take (3 * i + 3) nm) = s.map sm := ht
      rw [bF ht', if_neg ht]
      exact this y (by omega) (by omega)
theorem num_eq (F : Nat) (lo hi ov : Int) (nm s : Bs) (hs : s.length ≤ 1000) (hF : 1000 < F) (hn : nm.length ≤ 1000) (h3 : nm.length = 3 * (nm.length / 3)) (hlo : 0 ≤ lo ∧ lo ≤ 1000) :
    cron_number F lo hi nm ov s = some (okR (numS lo hi ov nm s)) := by
  unfold cron_number numS
  rw [digits_eq]
  cases hd : digS s with
  | some n =>
    simp only [bnd2_some, Bool.not_true, cond_false]
    exact num_j1 F lo hi ov n
  | none =>
    simp only [bnd2_some, Bool.not_false, cond_true]
    have h := number_loop F lo hi ov nm s hs hF hn (nm.length / 3) F 0 (-1) (by omega) (by omega)
    have h' : cron_number_L1 F lo hi nm ov s F (-1, 0) = _ := h
    have hr := lastR_range nm (s.map sm) (nm.length / 3) 0 (-1) (by omega)
    rw [h']
    unfold cron_number_j2 cron_unless
    show _ = some (okR (if 0 ≤ ix nm s then inS lo hi ov (lo + ix nm s) else none))
    by_cases hc : 0 ≤ ix nm s
    · have hc' : 0 ≤ lastR nm (s.map sm) (nm.length / 3) 0 (-1) := hc
      rw [decide_eq_true hc', if_pos hc]
      simp only [Bool.not_true, cond_false, bndr_ok]
      rw [grd_I (by omega)]
      exact num_j1 F lo hi ov _
    · have hc' : ¬ 0 ≤ lastR nm (s.map sm) (nm.length / 3) 0 (-1) := hc
      rw [decide_eq_false hc', if_neg hc]; rfl

/-! ### By the document -/
def orM (o : Option Int) : Int := match o with | some n => n | none => -1
def rN (first r : Int) : Int := if r = -1 then -1 else first + r
theorem named_loop (nm low : Bs) (first : Int) (hf : 0 ≤ first ∧ first ≤ 1000) (hn : nm.length ≤ 1000) : ∀ (c k i : Nat), nm.length = 3 * (i + c) → c < k →
    ref05_named_L1 nm first low k (i : Int) = some (rN first (firstR nm low c i)) := by
  intro c
  induction c with
  | zero =>
    intro k i h hk
    obtain ⟨k, rfl⟩ : ∃ k', k = k' + 1 := ⟨k - 1, by omega⟩
    show ref05_named_B1 nm first low (ref05_named_L1 nm first low k) (i : Int) = _
    unfold ref05_named_B1 ref05_named_j1
    rw [grd_I (by omega), bF (by omega)]; rfl
  | succ c ih =>
    intro k i h hk
    obtain ⟨k, rfl⟩ : ∃ k', k = k' + 1 := ⟨k - 1, by omega⟩
    show ref05_named_B1 nm first low (ref05_named_L1 nm first low k) (i : Int) = _
    unfold ref05_named_B1
    have e1 : 3 * (i : Int) = ((3 * i : Nat) : Int) := by omega
    have e3 : ((3 * i : Nat) : Int) + 3 = ((3 * i + 3 : Nat) : Int) := by omega
    have hgI : ∀ q : Option Int, grd (okI ((3 * i : Nat) : Int)) q = q := fun q => grd_I (by omega)
    rw [e1, hgI, bT (by omega), hgI, hgI, e3, grd_I (by omega), grd_Sub (by omega), lt_eq, sub_nat, grd_I (by omega), grd_I (by omega), cast_succ]
    by_cases ht : tr nm i = low
    · have ht' : List.drop (3 * i) (List.take (3 * i + 3) nm) = low := ht
      have e : firstR nm low (c + 1) i = (i : Int) := by simp only [firstR, if_pos ht]
      rw [bT ht', e]
      unfold rN
      rw [if_neg (by omega)]
    · have ht' : ¬ List.drop (3 * i) (List.take (3 * i + 3) nm) = low := ht
      have e : firstR nm low (c + 1) i = firstR nm low c (i + 1) := by simp only [firstR, if_neg ht]
      rw [bF ht', e]
      exact ih k (i + 1) (by omega) (by omega)
theorem named_eq (F : Nat) (nm s : Bs) (first : Int) (hf : 0 ≤ first ∧ first ≤ 1000) (hn : nm.length ≤ 1000) (h3 : nm.length = 3 * (nm.length / 3)) (hs : s.length ≤ 1000) (hF : 1000 < F)
    (hd : ∀ i j, i < nm.length / 3 → j < nm.length / 3 → tr nm i = tr nm j → i = j) : ref05_named F s nm first = some (if 0 ≤ ix nm s then first + ix nm s else -1) := by
  unfold ref05_named
  by_cases hl : s.length = 3
  · rw [decide_eq_true (show (s.length : Int) = 3 by omega), Bool.not_true, cond_false, rsmall_eq F s (by omega) (by omega), bnd_some]
    have h := named_loop nm (s.map sm) first hf hn (nm.length / 3) F 0 (by omega) (by omega)
    refine Eq.trans h ?_
    rw [← last_first nm (s.map sm) (nm.length / 3) hd (nm.length / 3) 0 (by omega)]
    have hr := lastR_range nm (s.map sm) (nm.length / 3) 0 (-1) (by omega)
    show some (rN first (ix nm s)) = _
    unfold rN
    have hr' : -1 ≤ ix nm s := hr.1
    by_cases h0 : ix nm s = -1
    · rw [if_pos h0, if_neg (by omega)]
    · rw [if_neg h0, if_pos (by omega)]
  · rw [decide_eq_false (show ¬ (s.length : Int) = 3 by omega), Bool.not_false, cond_true]
    have : ix nm s = -1 := lastR_no nm (s.map sm) (nm.length / 3) 0 (-1) fun j _ h2 he => by
      have := congrArg List.length he
      rw [tr_len nm j (by omega), List.length_map] at this
      omega
    rw [this, if_neg (by omega)]
theorem rj1 (F : Nat) (f lo h y : Int) (hlo : ref05_Low F f = some lo) : ref05_number_j1 F f y h = some (if lo ≤ y ∧ y ≤ h then y else -1) := by
  unfold ref05_number_j1
  rw [hlo, bnd_some]
  by_cases hc : lo ≤ y ∧ y ≤ h
  · rw [if_pos hc, decide_eq_false (by omega), decide_eq_false (by omega)]; rfl
  · have : ((decide (y < lo)) || (decide (h < y))) = true := by
      by_cases h1 : lo ≤ y
      · rw [decide_eq_true (show h < y by omega), Bool.or_true]
      · rw [decide_eq_true (show y < lo by omega)]; rfl
    rw [if_neg hc, this]; rfl
theorem orM_in (lo hi ov n : Int) : orM (inS lo hi ov n) = if lo ≤ n ∧ n ≤ max hi ov then n else -1 := by
  unfold inS; split <;> rfl
/-- The fields. -/
def lo_ (f : Nat) : Int := if f = 2 ∨ f = 3 then 1 else 0
def hi_ (f : Nat) : Int := match f with | 0 => 59 | 1 => 23 | 2 => 31 | 3 => 12 | _ => 6
def ov_ (f : Nat) : Int := if f = 4 then 7 else 0
def nm_ (f : Nat) : Bs := match f with | 3 => crona_k1 | 4 => crona_k2 | _ => []
theorem rnum_eq (F : Nat) (hF : 1000 < F) (f : Nat) (hf : f < 5) (s : Bs) (hs : s.length ≤ 1000) : ref05_number F (f : Int) s = some (orM (numS (lo_ f) (hi_ f) (ov_ f) (nm_ f) s)) := by
  unfold ref05_number numS
  rw [rdigits_eq F (by omega), bnd_some]
  have hlow : ∀ f : Nat, f < 5 → ref05_Low F (f : Int) = some (lo_ f) := by
    intro f hf
    have : f = 0 ∨ f = 1 ∨ f = 2 ∨ f = 3 ∨ f = 4 := by omega
    rcases this with rfl | rfl | rfl | rfl | rfl <;> rfl
  have hcases : f = 0 ∨ f = 1 ∨ f = 2 ∨ f = 3 ∨ f = 4 := by omega
  have hix0 : ix [] s = -1 := rfl
  cases hd : digS s with
  | some n =>
    have hn := digS_range hd
    show _ = some (orM (inS (lo_ f) (hi_ f) (ov_ f) n))
    rw [orM_in]
    have e : decide (n < 0) = false := decide_eq_false (by omega)
    simp only [e, Bool.and_false, cond_false]
    unfold ref05_number_j3 ref05_number_j2
    simp only [e, Bool.and_false, cond_false]
    rcases hcases with rfl | rfl | rfl | rfl | rfl
    · exact rj1 F 0 0 59 n (hlow 0 (by omega))
    · exact rj1 F 1 0 23 n (hlow 1 (by omega))
    · exact rj1 F 2 1 31 n (hlow 2 (by omega))
    · exact rj1 F 3 1 12 n (hlow 3 (by omega))
    · exact rj1 F 4 0 7 n (hlow 4 (by omega))
  | none =>
    show _ = some (orM (if 0 ≤ ix (nm_ f) s then inS (lo_ f) (hi_ f) (ov_ f) (lo_ f + ix (nm_ f) s) else none))
    have e : decide ((-1 : Int) < 0) = true := rfl
    rcases hcases with rfl | rfl | rfl | rfl | rfl
    · exact rj1 F 0 0 59 (-1) (hlow 0 (by omega))
    · exact rj1 F 1 0 23 (-1) (hlow 1 (by omega))
    · exact rj1 F 2 1 31 (-1) (hlow 2 (by omega))
    · have hN := named_eq F crona_k1 s 1 (by omega) (by decide) (by decide) hs hF (by
        have : ∀ i j : Fin 12, tr crona_k1 i = tr crona_k1 j → i = j := by decide +kernel
        intro i j hi hj h
        have := this ⟨i, hi⟩ ⟨j, hj⟩ h
        exact congrArg Fin.val this)
      have hN' : ref05_named F s cronr_k1 1 = _ := hN
      have hr := lastR_range crona_k1 (s.map sm) (crona_k1.length / 3) 0 (-1) (by omega)
      have hr' : -1 ≤ ix crona_k1 s := hr.1
      show (bnd (ref05_named F s cronr_k1 1) fun x8 => ref05_number_j3 F 3 s x8) = _
      rw [hN', bnd_some]
      show ref05_number_j1 F 3 (if 0 ≤ ix crona_k1 s then 1 + ix crona_k1 s else -1) 12 = some (orM (if 0 ≤ ix crona_k1 s then inS 1 12 0 (1 + ix crona_k1 s) else none))
      rw [rj1 F 3 1 12 _ (hlow 3 (by omega))]
      by_cases h0 : 0 ≤ ix crona_k1 s
      · rw [if_pos h0, if_pos h0, orM_in]; rfl
      · rw [if_neg h0, if_neg h0]; rfl
    · have hN := named_eq F crona_k2 s 0 (by omega) (by decide) (by decide) hs hF (by
        have : ∀ i j : Fin 7, tr crona_k2 i = tr crona_k2 j → i = j := by decide +kernel
        intro i j hi hj h
        have := this ⟨i, hi⟩ ⟨j, hj⟩ h
        exact congrArg Fin.val this)
      have hN' : ref05_named F s cronr_k2 0 = _ := hN
      show (bnd (ref05_named F s cronr_k2 0) fun x8 => ref05_number_j2 F 4 x8) = _
      rw [hN', bnd_some]
      show ref05_number_j1 F 4 (if 0 ≤ ix crona_k2 s then 0 + ix crona_k2 s else -1) 7 = some (orM (if 0 ≤ ix crona_k2 s then inS 0 6 7 (0 + ix crona_k2 s) else none))
      rw [rj1 F 4 0 7 _ (hlow 4 (by omega))]
      by_cases h0 : 0 ≤ ix crona_k2 s
      · rw [if_pos h0, if_pos h0, orM_in]; rfl
      · rw [if_neg h0, if_neg h0]; rfl
end Go.Cn
namespace Go.Cn
open Go.Pv Go.Av

/-! ### What is cut at the first -/
theorem join_sp (c : UInt8) : ∀ l : Bs, Str.join [c] (sp c l) = l := by
  intro l
  induction l with
  | nil => rfl
  | cons b l ih =>
    cases hs : sp c l with
    | nil => exact absurd hs (sp_ne c l)
    | cons p ps =>
      rw [hs] at ih
      by_cases h : b = c
      · subst h
        rw [sp_cons_eq, hs]
        simp only [Str.join, Str.rest, List.nil_append, List.singleton_append, List.cons_append] at ih ⊢
        rw [ih]
      · rw [sp_cons_ne h, hs]
        show b :: (p ++ Str.rest [c] ps) = b :: l
        have ih' : p ++ Str.rest [c] ps = l := ih
        rw [ih']
theorem cut_cons_eq (c : UInt8) (l : Bs) : Go.Lib.cut (c :: l) [c] = ([], l, true) := by
  unfold Go.Lib.cut
  rw [index_one_cons, if_pos rfl]; rfl
theorem cut_cons_ne {b c : UInt8} (h : ¬ b = c) (l : Bs) : Go.Lib.cut (b :: l) [c] = (b :: (Go.Lib.cut l [c]).1, (Go.Lib.cut l [c]).2) := by
  have hge := Go.Lib.index_ge l [c]
  unfold Go.Lib.cut
  rw [index_one_cons, if_neg h]
  by_cases hm : Go.Lib.index l [c] = -1
  · rw [if_pos hm, hm]; rfl
  · rw [if_neg hm, if_pos (by omega), if_pos (by omega)]
    have h3 : (Go.Lib.index l [c] + 1).toNat = (Go.Lib.index l [c]).toNat + 1 := by omega
    rw [h3]
    simp only [List.take_succ_cons, List.length_singleton, List.drop_succ_cons]
def cutS (c : UInt8) : List Bs → Bs × Bs × Bool
  | [] => ([], [], false)
  | [w] => (w, [], false)
  | w :: t :: r => (w, Str.join [c] (t :: r), true)
theorem cut_eq (c : UInt8) : ∀ l : Bs, Go.Lib.cut l [c] = cutS c (sp c l) := by
  intro l
  induction l with
  | nil => rfl
  | cons b l ih =>
    by_cases h : b = c
    · subst h
      rw [cut_cons_eq, sp_cons_eq]
      cases hs : sp b l with
      | nil => exact absurd hs (sp_ne b l)
      | cons p ps =>
        show _ = ([], Str.join [b] (p :: ps), true)
        rw [← hs, join_sp]
    · rw [cut_cons_ne h, ih, sp_cons_ne h]
      cases hs : sp c l with
      | nil => exact absurd hs (sp_ne c l)
      | cons p ps => cases ps <;> rfl
theorem sp_lens {c : UInt8} {s : Bs} {p : Bs} (h : p ∈ sp c s) : p.length ≤ s.length := by
  have h1 := sp_total c s
  have h2 : ∀ (L : List Bs), p ∈ L → p.length + L.length ≤ Str.total L + L.length := by
    intro L
    induction L with
    | nil => intro h; cases h
    | cons q L ih =>
      intro h
      rcases List.mem_cons.1 h with rfl | h
      · simp only [Str.total, List.length_cons]; omega
      · have := ih h; simp only [Str.total, List.length_cons]; omega
  have h3 := h2 _ h
  have h4 : (sp c s).length ≠ 0 := fun h => sp_ne c s (List.eq_nil_of_length_eq_zero h)
  omega

/-! ### Fields -/
structure Fld (lo hi ov : Int) (nm : Bs) : Prop where
  l0 : 0 ≤ lo
  l1 : lo ≤ 1
  lh : lo ≤ hi
  h1 : hi ≤ 100
  o : ov = 0 ∨ ov = hi + 1
  n1 : nm.length ≤ 1000
  n3 : nm.length = 3 * (nm.length / 3)
  nd : ∀ b ∈ nm, b ≠ 45
theorem fld (f : Nat) (hf : f < 5) : Fld (lo_ f) (hi_ f) (ov_ f) (nm_ f) := by
  have : f = 0 ∨ f = 1 ∨ f = 2 ∨ f = 3 ∨ f = 4 := by omega
  rcases this with rfl | rfl | rfl | rfl | rfl <;> exact ⟨by decide, by decide, by decide, by decide, by decide, by decide, by decide, by decide⟩
theorem numS_range {lo hi ov n : Int} {nm s : Bs} (h : numS lo hi ov nm s = some n) : lo ≤ n ∧ n ≤ max hi ov := by
  have go : ∀ m, inS lo hi ov m = some n → lo ≤ n ∧ n ≤ max hi ov := by
    intro m hm
    unfold inS at hm
    by_cases hc : lo ≤ m ∧ m ≤ max hi ov
    · rw [if_pos hc] at hm; cases hm; exact hc
    · rw [if_neg hc] at hm; cases hm
  unfold numS at h
  cases hd : digS s with
  | some m => rw [hd] at h; exact go m h
  | none =>
    rw [hd] at h
    by_cases hc : 0 ≤ ix nm s
    · have h' : (if 0 ≤ ix nm s then inS lo hi ov (lo + ix nm s) else none) = some n := h
      rw [if_pos hc] at h'; exact go _ h'
    · have h' : (if 0 ≤ ix nm s then inS lo hi ov (lo + ix nm s) else none) = some n := h
      rw [if_neg hc] at h'; cases h'
theorem numS_dash {lo hi ov : Int} {nm s : Bs} (F : Fld lo hi ov nm) (h : (45 : UInt8) ∈ s) : numS lo hi ov nm s = none := by
  have hd : digS s = none := by
    cases hd : digS s with
    | none => rfl
    | some n => have := digS_mem hd 45 h; exact absurd this (by decide)
  have hx : ix nm s = -1 := lastR_no nm (s.map sm) (nm.length / 3) 0 (-1) fun j _ h2 he => by
    have h3 : (45 : UInt8) ∈ s.map sm := List.mem_map.2 ⟨45, h, by decide⟩
    rw [← he] at h3
    exact F.nd 45 (List.mem_of_mem_take (List.mem_of_mem_drop h3)) rfl
  unfold numS
  rw [hd]
  show (if 0 ≤ ix nm s then inS lo hi ov (lo + ix nm s) else none) = none
  rw [hx, if_neg (by omega)]
theorem digS_slash {s : Bs} (h : (47 : UInt8) ∈ s) : digS s = none := by
  cases hd : digS s with
  | none => rfl
  | some n => have := digS_mem hd 47 h; exact absurd this (by decide)

/-! ### Steps, and what they mark -/
def stepsL : Nat → Int → Int → Int → List Int
  | 0, _, _, _ => []
  | k + 1, a, b, st => if a ≤ b then a :: stepsL k (a + st) b st else []
def img (lo ov n : Int) : Int := if n = ov ∧ 0 < ov then lo else n
def mk (m : Nat) (xs : List Int) : List Bool := (List.range m).map fun (i : Nat) => decide ((i : Int) ∈ xs)
theorem mk_len (m : Nat) (xs : List Int) : (mk m xs).length = m := by simp [mk]
theorem mk_set (m : Nat) (xs : List Int) (v : Int) (h : 0 ≤ v ∧ v < m) : (mk m xs).set v.toNat true = mk m (xs ++ [v]) := by
  apply List.ext_getElem (by simp [mk])
  intro i h1 h2
  simp only [mk, List.getElem_set, List.getElem_map, List.getElem_range, List.mem_append, List.mem_singleton]
  by_cases hi : v.toNat = i
  · rw [if_pos hi]; symm; rw [decide_eq_true_eq]; exact .inr (by omega)
  · rw [if_neg hi]
    have : ¬ (i : Int) = v := by omega
    simp only [this, or_false]
theorem marks_loop (lo ov st b : Int) (m : Nat) (hst : 1 ≤ st ∧ st ≤ 1000) (hlo : 0 ≤ lo ∧ lo < m) (hm : m ≤ 1000) (hb : b ≤ 1000) (hB : ∀ n : Int, 0 ≤ n → n ≤ b → 0 ≤ img lo ov n ∧ img lo ov n < m) : ∀ (j k : Nat) (a : Int) (xs : List Int), 0 ≤ a → (b + 1 - a).toNat ≤ j → (b + 1 - a).toNat < k →
    cron_piece_L1 lo ov m st b k (a, mk m xs) = some (Res.ok (mk m (xs ++ (stepsL j a b st).map (img lo ov)))) := by
  intro j
  induction j with
  | zero =>
    intro k a xs ha hj hk
    obtain ⟨k, rfl⟩ : ∃ k', k = k' + 1 := ⟨k - 1, by omega⟩
    show cron_piece_B1 lo ov m st b (cron_piece_L1 lo ov m st b k) a (mk m xs) = _
    unfold cron_piece_B1
    rw [bF (by omega)]; simp [stepsL]
  | succ j ih =>
    intro k a xs ha hj hk
    obtain ⟨k, rfl⟩ : ∃ k', k = k' + 1 := ⟨k - 1, by omega⟩
    show cron_piece_B1 lo ov m st b (cron_piece_L1 lo ov m st b k) a (mk m xs) = _
    unfold cron_piece_B1 cron_piece_j1
    by_cases hab : a ≤ b
    · have hB' := hB a ha hab
      have e : xs ++ (stepsL (j + 1) a b st).map (img lo ov) = (xs ++ [img lo ov a]) ++ (stepsL j (a + st) b st).map (img lo ov) := by
        simp only [stepsL, if_pos hab, List.map_cons, List.append_assoc, List.singleton_append]
      have hgI : ∀ q : Option (Res (List Bool)), grd (okI (a + st)) q = q := fun q => grd_I (by omega)
      have hih := ih k (a + st) (xs ++ [img lo ov a]) (by omega) (by omega) (by omega)
      rw [bT hab, e]
      simp only [mk_len, hgI]
      unfold img at hB' hih ⊢
      by_cases hc : a = ov ∧ 0 < ov
      · rw [decide_eq_true hc.1, decide_eq_true hc.2]
        simp only [if_pos hc, Bool.and_self, cond_true] at hB' hih ⊢
        rw [grd_At (by omega), grd_At (by omega), lt_eq, mk_set m xs lo (by omega)]
        exact hih
      · have : ((decide (a = ov)) && (decide (0 < ov))) = false := by simpa using hc
        rw [this]
        simp only [if_neg hc, cond_false] at hB' hih ⊢
        rw [grd_At (by omega), grd_At (by omega), lt_eq, mk_set m xs a (by omega)]
        exact hih
    · rw [bF hab]; simp [stepsL, hab]
theorem rsteps_loop (st b : Int) (hst : 1 ≤ st ∧ st ≤ 1000) (hb : b ≤ 1000) : ∀ (j k : Nat) (a : Int) (acc : List Int), 0 ≤ a → (b + 1 - a).toNat ≤ j → (b + 1 - a).toNat < k → acc.length + j ≤ 100000 →
    ref05_piece_L1 st b k (acc, a) = some (acc ++ stepsL j a b st) := by
  intro j
  induction j with
  | zero =>
    intro k a acc ha hj hk hl
    obtain ⟨k, rfl⟩ : ∃ k', k = k' + 1 := ⟨k - 1, by omega⟩
    show ref05_piece_B1 st b (ref05_piece_L1 st b k) acc a = _
    unfold ref05_piece_B1 ref05_piece_j1
    rw [bF (by omega)]; simp [stepsL]
  | succ j ih =>
    intro k a acc ha hj hk hl
    obtain ⟨k, rfl⟩ : ∃ k', k = k' + 1 := ⟨k - 1, by omega⟩
    show ref05_piece_B1 st b (ref05_piece_L1 st b k) acc a = _
    unfold ref05_piece_B1 ref05_piece_j1
    by_cases hab : a ≤ b
    · rw [bT hab, grd_Cat (by simp; omega), lt_eq, grd_I (by omega), ih k (a + st) (acc ++ [a]) (by omega) (by omega) (by omega) (by simp; omega)]
      simp only [stepsL, if_pos hab, List.append_assoc, List.singleton_append]
    · rw [bF hab]; simp [stepsL, hab]

/-! ### A piece -/
def stepS : List Bs → Option Int
  | [_] => some 1
  | [_, t] => (match digS t with | some n => if 0 < n then some n else none | none => none)
  | _ => none
def endsS (lo hi ov : Int) (nm : Bs) (w : Bs) (stepped : Bool) : Option (Int × Int) :=
  if w = [42] then some (lo, hi) else match sp 45 w with
    | [q] => if stepped then none else (match numS lo hi ov nm q with | some a => some (a, a) | none => none)
    | [q, r] => (match numS lo hi ov nm q with
      | some a => (match numS lo hi ov nm r with | some b => if a ≤ b then some (a, b) else none | none => none)
      | none => none)
    | _ => none
def pieceL (lo hi ov : Int) (nm : Bs) (L : List Bs) : Option (Int × Int × Int) := match L with
  | [] => none
  | w :: t => (match stepS (w :: t) with
    | some st => (match endsS lo hi ov nm w (!t.isEmpty) with | some ab => some (ab.1, ab.2, st) | none => none)
    | none => none)
def pieceS (lo hi ov : Int) (nm s : Bs) : Option (Int × Int × Int) := pieceL lo hi ov nm (sp 47 s)
theorem stepS_range {L : List Bs} {n : Int} (h : stepS L = some n) : 1 ≤ n ∧ n ≤ 99 := by
  rcases L with _ | ⟨w, _ | ⟨t, _ | ⟨u, r⟩⟩⟩
  · cases h
  · cases h; decide
  · simp only [stepS] at h
    cases hd : digS t with
    | none => rw [hd] at h; cases h
    | some m =>
      have := digS_range hd
      rw [hd] at h
      simp only at h
      by_cases h0 : 0 < m
      · rw [if_pos h0] at h; cases h; omega
      · rw [if_neg h0] at h; cases h
  · cases h
theorem endsS_range {lo hi ov : Int} {nm w : Bs} {st : Bool} {ab : Int × Int} (F : Fld lo hi ov nm) (h : endsS lo hi ov nm w st = some ab) : lo ≤ ab.1 ∧ ab.1 ≤ ab.2 ∧ ab.2 ≤ max hi ov := by
  have := F.lh
  unfold endsS at h
  by_cases hw : w = [42]
  · rw [if_pos hw] at h; cases h; simp only; omega
  · rw [if_neg hw] at h
    rcases hs : sp 45 w with _ | ⟨q, _ | ⟨r, _ | ⟨u, v⟩⟩⟩
    · rw [hs] at h; cases h
    · rw [hs] at h
      simp only at h
      cases st with
      | true => cases h
      | false =>
        cases hq : numS lo hi ov nm q with
        | none => rw [hq] at h; cases h
        | some a => rw [hq] at h; cases h; have := numS_range hq; simp only; omega
    · rw [hs] at h
      simp only at h
      cases hq : numS lo hi ov nm q with
      | none => rw [hq] at h; cases h
      | some a =>
        cases hr : numS lo hi ov nm r with
        | none => rw [hq, hr] at h; cases h
        | some b =>
          rw [hq, hr] at h
          simp only at h
          have := numS_range hq
          have := numS_range hr
          by_cases hab : a ≤ b
          · rw [if_pos hab] at h; cases h; simp only; omega
          · rw [if_neg hab] at h; cases h
    · rw [hs] at h; cases h
def numsOf (lo ov : Int) (x : Int × Int × Int) : List Int := (stepsL 200 x.1 x.2.1 x.2.2).map (img lo ov)
theorem img_range {lo hi ov : Int} {nm : Bs} (F : Fld lo hi ov nm) {n b : Int} (h0 : 0 ≤ n) (hb : n ≤ b) (hb2 : b ≤ max hi ov) : 0 ≤ img lo ov n ∧ img lo ov n < ((hi + 1).toNat : Int) := by
  have := F.l0; have := F.lh; have := F.o
  unfold img
  by_cases hc : n = ov ∧ 0 < ov
  · rw [if_pos hc]; omega
  · rw [if_neg hc]; omega
theorem piece_j2 (Fu : Nat) (hF : 1000 < Fu) {lo hi ov : Int} {nm : Bs} (F : Fld lo hi ov nm) (st a b : Int) (xs : List Int) (hst : 1 ≤ st ∧ st ≤ 99) (ha : lo ≤ a) (hb : b ≤ max hi ov) :
    cron_piece_j2 Fu lo ov (hi + 1).toNat (mk (hi + 1).toNat xs) st a b = some (Res.ok (mk (hi + 1).toNat (xs ++ numsOf lo ov (a, b, st)))) := by
  have := F.l0; have := F.lh; have := F.o; have := F.h1
  exact marks_loop lo ov st b (hi + 1).toNat (by omega) (by omega) (by omega) (by omega) (fun n h0 h1 => img_range F h0 h1 hb) 200 Fu a xs (by omega) (by omega) (by omega)
theorem unless_t (Fu : Nat) {α : Type} {f : Unit → Option (Res α)} : bndr (cron_unless Fu true) f = f () := rfl
theorem unless_f (Fu : Nat) {α : Type} {f : Unit → Option (Res α)} : bndr (cron_unless Fu false) f = some (Res.pan 0) := rfl
theorem mem_join {c : UInt8} (t u : Bs) (r : List Bs) : c ∈ Str.join [c] (t :: u :: r) := by simp [Str.join, Str.rest]
theorem join_len_le {c : UInt8} {s w t : Bs} {r : List Bs} (h : sp c s = w :: t :: r) : (Str.join [c] (t :: r)).length ≤ s.length := by
  have h1 := join_sp c s
  rw [h] at h1
  have h2 := congrArg List.length h1
  simp only [Str.join, Str.rest, List.length_append, List.length_cons, List.length_nil] at h2 ⊢
  omega
def res3 (lo hi ov : Int) (xs : List Int) (o : Option (Int × Int × Int)) : Option (Res (List Bool)) := match o with
  | some x => some (Res.ok (mk (hi + 1).toNat (xs ++ numsOf lo ov x)))
  | none => some (Res.pan 0)
theorem piece_j4 (Fu : Nat) (hF : 1000 < Fu) {lo hi ov : Int} {nm : Bs} (F : Fld lo hi ov nm) (w t : Bs) (two : Bool) (st : Int) (xs : List Int) (hw : w.length ≤ 300) (hst : 1 ≤ st ∧ st ≤ 99) :
    cron_piece_j4 Fu lo hi nm ov (hi + 1).toNat (mk (hi + 1).toNat xs) (w, t, two) st = res3 lo hi ov xs (match endsS lo hi ov nm w two with | some ab => some (ab.1, ab.2, st) | none => none) := by
  have hn : ∀ q : Bs, q.length ≤ 1000 → cron_number Fu lo hi nm ov q = some (okR (numS lo hi ov nm q)) := fun q hq => num_eq Fu lo hi ov nm q hq hF F.n1 F.n3 (by have := F.l0; have := F.l1; omega)
  unfold cron_piece_j4 endsS
  by_cases h42 : w = [42]
  · rw [decide_eq_true (show (w, t, two).1 = ([42] : Bs) from h42), if_pos h42]
    simp only [Bool.not_true, cond_false]
    exact piece_j2 Fu hF F st lo hi xs hst (by omega) (by omega)
  · rw [decide_eq_false (show ¬ (w, t, two).1 = ([42] : Bs) from h42), if_neg h42]
    simp only [Bool.not_false, cond_true]
    rw [grd_S (by omega), lt_eq, cut_eq]
    rcases hs : sp 45 w with _ | ⟨q, _ | ⟨r, _ | ⟨u, v⟩⟩⟩
    · exact absurd hs (sp_ne 45 w)
    · have hq : q.length ≤ w.length := sp_lens (c := 45) (by rw [hs]; simp)
      simp only [cutS, Bool.false_or]
      cases two with
      | true => rfl
      | false =>
        simp only [Bool.not_false, unless_t, hn q (by omega), Bool.false_eq_true, if_false, cond_false]
        cases hnq : numS lo hi ov nm q with
        | none => rfl
        | some a =>
          have hr := numS_range hnq
          show cron_piece_j3 Fu lo ov (hi + 1).toNat (mk (hi + 1).toNat xs) st a a = _
          unfold cron_piece_j3
          rw [decide_eq_true (Int.le_refl a), unless_t]
          exact piece_j2 Fu hF F st a a xs hst hr.1 hr.2
    · have hq : q.length ≤ w.length := sp_lens (c := 45) (by rw [hs]; simp)
      have hr : r.length ≤ w.length := sp_lens (c := 45) (by rw [hs]; simp)
      have hj : Str.join [45] [r] = r := by simp [Str.join, Str.rest]
      simp only [cutS, Bool.true_or, unless_t, hn q (by omega), hj, hn r (by omega), cond_true]
      cases hnq : numS lo hi ov nm q with
      | none => rfl
      | some a =>
        have hra := numS_range hnq
        cases hnr : numS lo hi ov nm r with
        | none => rfl
        | some b =>
          have hrb := numS_range hnr
          show cron_piece_j3 Fu lo ov (hi + 1).toNat (mk (hi + 1).toNat xs) st a b = _
          unfold cron_piece_j3
          by_cases hab : a ≤ b
          · rw [decide_eq_true hab, unless_t]
            simp only [if_pos hab]
            exact piece_j2 Fu hF F st a b xs hst hra.1 hrb.2
          · rw [decide_eq_false hab, unless_f]
            simp only [if_neg hab]; rfl
    · have hq : q.length ≤ w.length := sp_lens (c := 45) (by rw [hs]; simp)
      have hl := join_len_le hs
      have hnone := numS_dash (lo := lo) (hi := hi) (ov := ov) (nm := nm) F (mem_join (c := 45) r u v)
      simp only [cutS, Bool.true_or, unless_t, hn q (by omega), hn _ (show (Str.join [45] (r :: u :: v)).length ≤ 1000 by omega), hnone, cond_true]
      cases hnq : numS lo hi ov nm q <;> rfl
theorem piece_eq (Fu : Nat) (hF : 1000 < Fu) {lo hi ov : Int} {nm : Bs} (F : Fld lo hi ov nm) (s : Bs) (hs : s.length ≤ 300) (xs : List Int) :
    cron_piece Fu lo hi nm ov s (hi + 1).toNat (mk (hi + 1).toNat xs) = res3 lo hi ov xs (pieceS lo hi ov nm s) := by
  unfold cron_piece pieceS
  rw [grd_S (by omega), lt_eq, cut_eq]
  rcases hsp : sp 47 s with _ | ⟨w, _ | ⟨t, _ | ⟨u, v⟩⟩⟩
  · exact absurd hsp (sp_ne 47 s)
  · have hw : w.length ≤ s.length := sp_lens (c := 47) (by rw [hsp]; simp)
    simp only [cutS, cond_false]
    exact piece_j4 Fu hF F w [] false 1 xs (by omega) (by omega)
  · have hw : w.length ≤ s.length := sp_lens (c := 47) (by rw [hsp]; simp)
    have hj : Str.join [47] [t] = t := by simp [Str.join, Str.rest]
    simp only [cutS, cond_true, hj, digits_eq, pieceL, stepS]
    cases hd : digS t with
    | none => rfl
    | some n =>
      have hr := digS_range hd
      simp only [bnd2_some, Bool.true_and]
      by_cases h0 : 0 < n
      · rw [decide_eq_true h0, unless_t]
        simp only [if_pos h0]
        exact piece_j4 Fu hF F w t true n xs (by omega) (by omega)
      · rw [decide_eq_false h0, unless_f]
        simp only [if_neg h0]; rfl
  · have hnone := digS_slash (mem_join (c := 47) t u v)
    simp only [cutS, cond_true, digits_eq, hnone, bnd2_some, Bool.false_and, unless_f]; rfl
end Go.Cn
namespace Go.Cn
open Go.Pv Go.Av

/-! ### A piece, by the document -/
theorem rlow (F : Nat) (f : Nat) (hf : f < 5) : ref05_Low F (f : Int) = some (lo_ f) := by
  have : f = 0 ∨ f = 1 ∨ f = 2 ∨ f = 3 ∨ f = 4 := by omega
  rcases this with rfl | rfl | rfl | rfl | rfl <;> rfl
theorem rhigh (F : Nat) (f : Nat) (hf : f < 5) : ref05_High F (f : Int) = some (hi_ f) := by
  have : f = 0 ∨ f = 1 ∨ f = 2 ∨ f = 3 ∨ f = 4 := by omega
  rcases this with rfl | rfl | rfl | rfl | rfl <;> rfl
theorem rpiece_j2 (F : Nat) (hF : 1000 < F) (y a b : Int) (hy : y ≤ 99) (hb : b ≤ 108) : ref05_piece_j2 F y a b = some (if 1 ≤ y ∧ 0 ≤ a ∧ a ≤ b then stepsL 200 a b y else []) := by
  unfold ref05_piece_j2
  by_cases h : 1 ≤ y ∧ 0 ≤ a ∧ a ≤ b
  · rw [if_pos h, decide_eq_false (by omega), decide_eq_false (by omega), decide_eq_false (by omega), decide_eq_false (by omega)]
    have := rsteps_loop y b (by omega) (by omega) 200 F a [] h.2.1 (by omega) (by omega) (by simp)
    simpa using this
  · rw [if_neg h]
    have : ((((decide (y < 1)) || (decide (a < 0))) || (decide (b < 0))) || (decide (b < a))) = true := by
      by_cases h1 : 1 ≤ y
      · by_cases h2 : 0 ≤ a
        · rw [decide_eq_true (show b < a by omega), Bool.or_true]
        · rw [decide_eq_true (show a < 0 by omega), Bool.or_true, Bool.true_or, Bool.true_or]
      · rw [decide_eq_true (show y < 1 by omega)]; rfl
    rw [this]; rfl
theorem orM_le {lo hi ov : Int} {nm s : Bs} (F : Fld lo hi ov nm) : -1 ≤ orM (numS lo hi ov nm s) ∧ orM (numS lo hi ov nm s) ≤ 108 := by
  have := F.l0; have := F.h1; have := F.o
  cases h : numS lo hi ov nm s with
  | none => simp [orM]
  | some n => have := numS_range h; simp only [orM]; omega
def stepsIf (y : Int) (o : Option (Int × Int)) : List Int := match o with | some ab => if 1 ≤ y then stepsL 200 ab.1 ab.2 y else [] | none => []
theorem rpiece_j3 (F : Nat) (hF : 1000 < F) (f : Nat) (hf : f < 5) (w : Bs) (t : List Bs) (y : Int) (hy : y ≤ 99) (hw : w.length ≤ 300) (ht : t.length ≤ 1) :
    ref05_piece_j3 F (f : Int) (w :: t) y = some (stepsIf y (endsS (lo_ f) (hi_ f) (ov_ f) (nm_ f) w (!t.isEmpty))) := by
  have Fd := fld f hf
  have := Fd.l0; have := Fd.lh; have := Fd.h1
  unfold ref05_piece_j3 endsS
  have hat : at_ (w :: t) 0 = w := rfl
  rw [rlow F f hf, rhigh F f hf, bnd_some, bnd_some, grd_At (by simp), lt_eq, hat]
  by_cases h42 : w = [42]
  · rw [decide_eq_true h42, if_pos h42]
    simp only [Bool.not_true, cond_false]
    rw [rpiece_j2 F hF y _ _ hy (by omega)]
    unfold stepsIf
    simp only
    by_cases h1 : 1 ≤ y
    · rw [if_pos ⟨h1, by omega, by omega⟩, if_pos h1]
    · rw [if_neg (fun h => h1 h.1), if_neg h1]
  · rw [decide_eq_false h42, if_neg h42]
    simp only [Bool.not_false, cond_true]
    rw [grd_At (by simp), lt_eq, ref05_Split_eq F w 45 (by omega) (by omega), bnd_some]
    have nums : ∀ q : Bs, q ∈ sp 45 w → ref05_number F (f : Int) q = some (orM (numS (lo_ f) (hi_ f) (ov_ f) (nm_ f) q)) := fun q hq => rnum_eq F hF f hf q (by have := sp_lens hq; omega)
    rcases hs : sp 45 w with _ | ⟨q, _ | ⟨r, _ | ⟨u, v⟩⟩⟩
    · exact absurd hs (sp_ne 45 w)
    · rw [hs] at nums
      have e1 : (decide (2 < (([q] : List Bs).length : Int))) = false := rfl
      have e2 : (decide ((([q] : List Bs).length : Int) = 1)) = true := rfl
      rw [e1, e2, Bool.false_or, Bool.true_and]
      cases t with
      | cons t0 t1 =>
        have ht1 : t1 = [] := by simpa using ht
        subst ht1
        rfl
      | nil =>
        have e3 : (decide ((([w] : List Bs).length : Int) = 2)) = false := rfl
        have hq0 : at_ ([q] : List Bs) 0 = q := rfl
        have hql : at_ ([q] : List Bs) ((([q] : List Bs).length : Int) - 1) = q := rfl
        rw [e3, cond_false, grd_At (by simp), lt_eq, hq0, nums q (by simp), bnd_some, grd_I (by simp), grd_At (by simp), lt_eq, hql, nums q (by simp), bnd_some]
        have ho := orM_le (s := q) Fd
        rw [rpiece_j2 F hF y _ _ hy ho.2]
        show _ = some (stepsIf y (match numS (lo_ f) (hi_ f) (ov_ f) (nm_ f) q with | some a => some (a, a) | none => none))
        cases hn : numS (lo_ f) (hi_ f) (ov_ f) (nm_ f) q with
        | none =>
          have : ¬ (1 ≤ y ∧ 0 ≤ orM none ∧ orM none ≤ orM none) := fun h => by have := h.2.1; simp [orM] at this
          rw [if_neg this]; rfl
        | some a =>
          have hr := numS_range hn
          unfold stepsIf orM
          simp only
          by_cases h1 : 1 ≤ y
          · rw [if_pos ⟨h1, by omega, by omega⟩, if_pos h1]
          · rw [if_neg (fun h => h1 h.1), if_neg h1]
    · rw [hs] at nums
      have e1 : (decide (2 < (([q, r] : List Bs).length : Int))) = false := rfl
      have e2 : (decide ((([q, r] : List Bs).length : Int) = 1)) = false := rfl
      have hq0 : at_ ([q, r] : List Bs) 0 = q := rfl
      have hql : at_ ([q, r] : List Bs) ((([q, r] : List Bs).length : Int) - 1) = r := rfl
      rw [e1, e2, Bool.false_or, Bool.false_and, cond_false, grd_At (by simp), lt_eq, hq0, nums q (by simp), bnd_some, grd_I (by simp), grd_At (by simp), lt_eq, hql, nums r (by simp), bnd_some]
      have ho := orM_le (s := r) Fd
      rw [rpiece_j2 F hF y _ _ hy ho.2]
      simp only
      cases hn : numS (lo_ f) (hi_ f) (ov_ f) (nm_ f) q with
      | none =>
        have : ¬ (1 ≤ y ∧ 0 ≤ orM none ∧ orM none ≤ orM (numS (lo_ f) (hi_ f) (ov_ f) (nm_ f) r)) := fun h => by have := h.2.1; simp [orM] at this
        rw [if_neg this]; rfl
      | some a =>
        have hr := numS_range hn
        cases hm : numS (lo_ f) (hi_ f) (ov_ f) (nm_ f) r with
        | none =>
          have : ¬ (1 ≤ y ∧ 0 ≤ orM (some a) ∧ orM (some a) ≤ orM none) := fun h => by have h1 := h.2.1; have h2 := h.2.2; simp only [orM] at h1 h2; omega
          rw [if_neg this]; rfl
        | some b =>
          have hr2 := numS_range hm
          unfold stepsIf orM
          simp only
          by_cases hab : a ≤ b
          · rw [if_pos hab]
            simp only
            by_cases h1 : 1 ≤ y
            · rw [if_pos ⟨h1, by omega, hab⟩, if_pos h1]
            · rw [if_neg (fun h => h1 h.1), if_neg h1]
          · rw [if_neg hab, if_neg (fun h => hab h.2.2)]
    · have e1 : (decide (2 < ((q :: r :: u :: v : List Bs).length : Int))) = true := decide_eq_true (by simp; omega)
      rw [e1, Bool.true_or, cond_true]; rfl
def stepsOf (o : Option (Int × Int × Int)) : List Int := match o with | some x => stepsL 200 x.1 x.2.1 x.2.2 | none => []
theorem rpiece_eq (F : Nat) (hF : 1000 < F) (f : Nat) (hf : f < 5) (s : Bs) (hs : s.length ≤ 300) : ref05_piece F (f : Int) s = some (stepsOf (pieceS (lo_ f) (hi_ f) (ov_ f) (nm_ f) s)) := by
  unfold ref05_piece pieceS
  rw [ref05_Split_eq F s 47 (by omega) (by omega), bnd_some]
  rcases hsp : sp 47 s with _ | ⟨w, _ | ⟨t, _ | ⟨u, v⟩⟩⟩
  · exact absurd hsp (sp_ne 47 s)
  · have hw : w.length ≤ s.length := sp_lens (c := 47) (by rw [hsp]; simp)
    have e1 : (decide (2 < (([w] : List Bs).length : Int))) = false := rfl
    have e2 : (decide ((([w] : List Bs).length : Int) = 2)) = false := rfl
    rw [e1, e2, cond_false, cond_false, rpiece_j3 F hF f hf w [] 1 (by omega) (by omega) (by simp)]
    simp only [pieceL, stepS]
    cases endsS (lo_ f) (hi_ f) (ov_ f) (nm_ f) w (!([] : List Bs).isEmpty) <;> rfl
  · have hw : w.length ≤ s.length := sp_lens (c := 47) (by rw [hsp]; simp)
    have e1 : (decide (2 < (([w, t] : List Bs).length : Int))) = false := rfl
    have e2 : (decide ((([w, t] : List Bs).length : Int) = 2)) = true := rfl
    have h1 : at_ ([w, t] : List Bs) 1 = t := rfl
    rw [e1, e2, cond_false, cond_true, grd_At (by simp), lt_eq, h1, rdigits_eq F (by omega), bnd_some]
    simp only [pieceL, stepS]
    cases hd : digS t with
    | none =>
      rw [rpiece_j3 F hF f hf w [t] (-1) (by omega) (by omega) (by simp)]
      cases endsS (lo_ f) (hi_ f) (ov_ f) (nm_ f) w (!([t] : List Bs).isEmpty) <;> rfl
    | some n =>
      have hr := digS_range hd
      rw [rpiece_j3 F hF f hf w [t] n (by omega) (by omega) (by simp)]
      by_cases h0 : 0 < n
      · simp only [if_pos h0]
        cases endsS (lo_ f) (hi_ f) (ov_ f) (nm_ f) w (!([t] : List Bs).isEmpty) with
        | none => rfl
        | some ab => simp only [stepsIf, stepsOf, if_pos (show 1 ≤ n by omega)]
      · simp only [if_neg h0]
        cases endsS (lo_ f) (hi_ f) (ov_ f) (nm_ f) w (!([t] : List Bs).isEmpty) with
        | none => rfl
        | some ab => simp only [stepsIf, stepsOf, if_neg (show ¬ 1 ≤ n by omega)]
  · have e1 : (decide (2 < ((w :: t :: u :: v : List Bs).length : Int))) = true := decide_eq_true (by simp; omega)
    rw [e1, cond_true]; rfl

/-! ### A part -/
def allP (lo hi ov : Int) (nm : Bs) : List Bs → Option (List Int)
  | [] => some []
  | p :: ps => (match pieceS lo hi ov nm p with
    | some x => (match allP lo hi ov nm ps with | some r => some (numsOf lo ov x ++ r) | none => none)
    | none => none)
def flR (xs : List Int) : Nat → Nat → List Int
  | 0, _ => []
  | c + 1, i => if (i : Int) ∈ xs then (i : Int) :: flR xs c (i + 1) else flR xs c (i + 1)
def partS (lo hi ov : Int) (nm : Bs) (p : Bs) : Option (List Int) := match allP lo hi ov nm (sp 44 p) with
  | some xs => some (flR xs (hi + 1 - lo).toNat lo.toNat)
  | none => none
theorem flR_len (xs : List Int) : ∀ c i, (flR xs c i).length ≤ c := by
  intro c
  induction c with
  | zero => intro i; simp [flR]
  | succ c ih =>
    intro i
    have := ih (i + 1)
    unfold flR
    split <;> simp <;> omega
theorem part_loop1 (hi : Int) (hhi : 0 ≤ hi ∧ hi ≤ 100) (xs : List Int) : ∀ (c k i : Nat) (acc : List Int), i + c = (hi + 1).toNat → c < k → acc.length ≤ i →
    cron_part_L1 hi (mk (hi + 1).toNat xs) k (acc, (i : Int)) = some (Res.ok (acc ++ flR xs c i)) := by
  intro c
  induction c with
  | zero =>
    intro k i acc h hk hl
    obtain ⟨k, rfl⟩ : ∃ k', k = k' + 1 := ⟨k - 1, by omega⟩
    show cron_part_B1 hi (mk (hi + 1).toNat xs) (cron_part_L1 hi (mk (hi + 1).toNat xs) k) acc (i : Int) = _
    unfold cron_part_B1 cron_part_j1
    rw [bF (by omega)]; simp [flR]
  | succ c ih =>
    intro k i acc h hk hl
    obtain ⟨k, rfl⟩ : ∃ k', k = k' + 1 := ⟨k - 1, by omega⟩
    show cron_part_B1 hi (mk (hi + 1).toNat xs) (cron_part_L1 hi (mk (hi + 1).toNat xs) k) acc (i : Int) = _
    unfold cron_part_B1 cron_part_j2
    have hlen : i < (mk (hi + 1).toNat xs).length := by rw [mk_len]; omega
    have hat : (mk (hi + 1).toNat xs)[i] = decide ((i : Int) ∈ xs) := by simp [mk]
    rw [bT (by omega), grd_At (by omega), grd_At (by rw [mk_len]; omega), lt_eq, at_nat hlen, hat]
    by_cases hm : (i : Int) ∈ xs
    · have e : flR xs (c + 1) i = (i : Int) :: flR xs c (i + 1) := by simp only [flR, if_pos hm]
      rw [decide_eq_true hm, cond_true, grd_Cat (by simp; omega), lt_eq, grd_I (by omega), cast_succ, ih k (i + 1) _ (by omega) (by omega) (by simp; omega), e]
      simp
    · have e : flR xs (c + 1) i = flR xs c (i + 1) := by simp only [flR, if_neg hm]
      rw [decide_eq_false hm, cond_false, grd_I (by omega), cast_succ, ih k (i + 1) _ (by omega) (by omega) (by omega), e]
theorem numsOf_range {lo hi ov : Int} {nm s : Bs} (F : Fld lo hi ov nm) {x : Int × Int × Int} (h : pieceS lo hi ov nm s = some x) : ∀ n ∈ numsOf lo ov x, lo ≤ n ∧ n ≤ hi := by
  have := F.l0; have := F.lh; have := F.o
  have hx : lo ≤ x.1 ∧ x.1 ≤ x.2.1 ∧ x.2.1 ≤ max hi ov ∧ 1 ≤ x.2.2 := by
    unfold pieceS pieceL at h
    cases hs : sp 47 s with
    | nil => rw [hs] at h; cases h
    | cons w t =>
      rw [hs] at h
      simp only at h
      cases h1 : stepS (w :: t) with
      | none => rw [h1] at h; cases h
      | some st =>
        rw [h1] at h
        simp only at h
        cases h2 : endsS lo hi ov nm w (!t.isEmpty) with
        | none => rw [h2] at h; cases h
        | some ab =>
          rw [h2] at h
          cases h
          have r1 := stepS_range h1
          have r2 := endsS_range F h2
          exact ⟨r2.1, r2.2.1, r2.2.2, r1.1⟩
  have go : ∀ (k : Nat) (a : Int), lo ≤ a → ∀ n ∈ (stepsL k a x.2.1 x.2.2).map (img lo ov), lo ≤ n ∧ n ≤ hi := by
    intro k
    induction k with
    | zero => intro a _ n hn; simp [stepsL] at hn
    | succ k ih =>
      intro a ha n hn
      unfold stepsL at hn
      by_cases hab : a ≤ x.2.1
      · rw [if_pos hab, List.map_cons] at hn
        rcases List.mem_cons.1 hn with rfl | hn
        · unfold img; split <;> omega
        · exact ih (a + x.2.2) (by omega) n hn
      · rw [if_neg hab] at hn; simp at hn
  exact go 200 x.1 hx.1
theorem pieceS_le {lo hi ov : Int} {nm s : Bs} (F : Fld lo hi ov nm) {x : Int × Int × Int} (h : pieceS lo hi ov nm s = some x) : x.1 ≤ x.2.1 := by
  unfold pieceS pieceL at h
  cases hs : sp 47 s with
  | nil => rw [hs] at h; cases h
  | cons w t =>
    rw [hs] at h
    simp only at h
    cases h1 : stepS (w :: t) with
    | none => rw [h1] at h; cases h
    | some st =>
      rw [h1] at h
      simp only at h
      cases h2 : endsS lo hi ov nm w (!t.isEmpty) with
      | none => rw [h2] at h; cases h
      | some ab =>
        rw [h2] at h
        cases h
        exact (endsS_range F h2).2.1
theorem allP_range {lo hi ov : Int} {nm : Bs} (F : Fld lo hi ov nm) : ∀ (L : List Bs) (r : List Int), allP lo hi ov nm L = some r → ∀ n ∈ r, lo ≤ n ∧ n ≤ hi := by
  intro L
  induction L with
  | nil => intro r h; cases h; intro n hn; cases hn
  | cons p ps ih =>
    intro r h n hn
    unfold allP at h
    cases hp : pieceS lo hi ov nm p with
    | none => rw [hp] at h; cases h
    | some x =>
      rw [hp] at h
      simp only at h
      cases ha : allP lo hi ov nm ps with
      | none => rw [ha] at h; cases h
      | some r' =>
        rw [ha] at h
        cases h
        rcases List.mem_append.1 hn with hn | hn
        · exact numsOf_range F hp n hn
        · exact ih r' ha n hn
theorem flR_lo {lo hi : Int} (h0 : 0 ≤ lo) (h1 : lo ≤ 1) (hlh : lo ≤ hi) {xs : List Int} (hx : ∀ n ∈ xs, lo ≤ n) : flR xs (hi + 1).toNat 0 = flR xs (hi + 1 - lo).toNat lo.toNat := by
  have : lo = 0 ∨ lo = 1 := by omega
  rcases this with rfl | rfl
  · simp
  · have e : (hi + 1).toNat = (hi + 1 - 1).toNat + 1 := by omega
    have hn : ¬ ((0 : Nat) : Int) ∈ xs := fun h => by have := hx _ h; omega
    rw [e]
    simp only [flR, if_neg hn]; rfl
theorem part_loop2 (Fu : Nat) (hF : 1000 < Fu) {lo hi ov : Int} {nm : Bs} (F : Fld lo hi ov nm) (L : List Bs) (hL : L.length ≤ 1000) (hp : ∀ p ∈ L, p.length ≤ 300) : ∀ (k i : Nat) (xs : List Int), L.length - i < k → i ≤ L.length →
    cron_part_L2 Fu lo hi nm ov L k ((i : Int), mk (hi + 1).toNat xs) = some (match allP lo hi ov nm (L.drop i) with | some ys => Res.ok (flR (xs ++ ys) (hi + 1).toNat 0) | none => Res.pan 0) := by
  have hl0 := F.l0; have hlh := F.lh; have hh1 := F.h1
  intro k
  induction k with
  | zero => intro i xs h; omega
  | succ k ih =>
    intro i xs hk hi'
    show cron_part_B2 Fu lo hi nm ov L (cron_part_L2 Fu lo hi nm ov L k) (i : Int) (mk (hi + 1).toNat xs) = _
    unfold cron_part_B2 cron_part_j3
    by_cases h : i < L.length
    · have hd : L.drop i = L[i] :: L.drop (i + 1) := List.drop_eq_getElem_cons h
      rw [bT (by omega), grd_At (by omega), lt_eq, at_nat h, piece_eq Fu hF F L[i] (hp _ (List.getElem_mem h)) xs, hd]
      unfold allP
      cases hps : pieceS lo hi ov nm L[i] with
      | none => rfl
      | some x =>
        show bndr (some (Res.ok (mk (hi + 1).toNat (xs ++ numsOf lo ov x)))) _ = _
        rw [bndr_ok, grd_I (by omega), cast_succ, ih (i + 1) _ (by omega) (by omega)]
        simp only
        cases allP lo hi ov nm (L.drop (i + 1)) with
        | none => rfl
        | some r => simp only [List.append_assoc]
    · have : L.drop i = [] := List.drop_eq_nil_of_le (by omega)
      rw [bF (by omega), this]
      have h1 := part_loop1 hi (by omega) xs (hi + 1).toNat Fu 0 [] (by omega) (by omega) (by simp)
      simp only [allP, List.append_nil]
      exact h1
theorem part_eq (Fu : Nat) (hF : 1000 < Fu) {lo hi ov : Int} {nm : Bs} (F : Fld lo hi ov nm) (s : Bs) (hs : s.length ≤ 300) : cron_part Fu lo hi nm ov s = some (okR (partS lo hi ov nm s)) := by
  have hl0 := F.l0; have hlh := F.lh; have hh1 := F.h1
  unfold cron_part partS
  have hr : List.replicate (Int.toNat (hi + 1)) false = mk (hi + 1).toNat [] := by
    apply List.ext_getElem (by simp [mk])
    intro i h1 h2
    simp [mk]
  have hlen := sp_length 44 s
  have h := part_loop2 Fu hF F (sp 44 s) (by omega) (fun p hp => by have := sp_lens hp; omega) Fu 0 [] (by omega) (by omega)
  rw [grd_I (by omega), grd_At (by omega), grd_S (by omega), grd_D (by simp), lt_eq, split_one, hr]
  refine h.trans ?_
  rw [List.drop_zero]
  cases ha : allP lo hi ov nm (sp 44 s) with
  | none => rfl
  | some xs =>
    simp only [List.nil_append]
    rw [flR_lo hl0 F.l1 hlh (fun n hn => (allP_range F _ _ ha n hn).1)]; rfl
end Go.Cn
namespace Go.Cn
open Go.Pv Go.Av

abbrev PT := (List Int) × (List Int) × (List Int) × (List Int) × (List Int) × Bool × Bool × Bool × Bool × Bool × Int
def errT (e : Int) : PT := ([], [], [], [], [], false, false, false, false, false, e)
def P_ (f : Nat) (p : Bs) : Option (List Int) := partS (lo_ f) (hi_ f) (ov_ f) (nm_ f) p
def star (p : Bs) : Bool := decide (p = [42])
def optB {α β : Type} (o : Option α) (n : β) (f : α → β) : β := match o with | some x => f x | none => n
def cronL : List Bs → PT
  | [p0, p1, p2, p3, p4] => optB (P_ 0 p0) (errT 2) fun l0 => optB (P_ 1 p1) (errT 2) fun l1 => optB (P_ 2 p2) (errT 2) fun l2 => optB (P_ 3 p3) (errT 2) fun l3 => optB (P_ 4 p4) (errT 2) fun l4 =>
    (l0, l1, l2, l3, l4, star p0, star p1, star p2, star p3, star p4, 0)
  | _ => errT 2
def cronOf (s : Bs) : PT := if 200 < s.length then errT 4 else cronL (sp 32 s)
theorem cronL_5 (p0 p1 p2 p3 p4 : Bs) : cronL [p0, p1, p2, p3, p4] = optB (P_ 0 p0) (errT 2) fun l0 => optB (P_ 1 p1) (errT 2) fun l1 => optB (P_ 2 p2) (errT 2) fun l2 => optB (P_ 3 p3) (errT 2) fun l3 => optB (P_ 4 p4) (errT 2) fun l4 =>
    (l0, l1, l2, l3, l4, star p0, star p1, star p2, star p3, star p4, 0) := rfl
theorem bndk_ok' {α ρ : Type} (o : Option α) (k : Int → Option ρ) (f : α → Option ρ) : bndk (some (okR o)) k f = optB o (k 0) f := by cases o <;> rfl
theorem optB_some {α β : Type} (o : Option α) (n : β) (f : α → β) : optB o (some n) (fun x => some (f x)) = some (optB o n f) := by cases o <;> rfl
theorem len5 {L : List Bs} (h : L.length = 5) : ∃ p0 p1 p2 p3 p4, L = [p0, p1, p2, p3, p4] := by
  match L, h with
  | [p0, p1, p2, p3, p4], _ => exact ⟨_, _, _, _, _, rfl⟩
theorem cronL_no {L : List Bs} (h : L.length ≠ 5) : cronL L = errT 2 := by
  unfold cronL
  split
  · simp at h
  · rfl
theorem Parse_eq (F : Nat) (hF : 1000 < F) (s : Bs) (hs : s.length ≤ 300) : cron_Parse F s = some (cronOf s) := by
  unfold cron_Parse cronOf
  by_cases h2 : 200 < s.length
  · rw [bT (by omega), if_pos h2]; rfl
  · rw [bF (by omega), if_neg h2, grd_S (by omega), grd_D (by simp), lt_eq, split_one]
    by_cases h5 : (sp 32 s).length = 5
    · obtain ⟨p0, p1, p2, p3, p4, hL⟩ := len5 h5
      have hl : ∀ p ∈ sp 32 s, p.length ≤ 300 := fun p hp => by have := sp_lens hp; omega
      rw [hL] at hl ⊢
      have hu : cron_unless F (decide ((([p0, p1, p2, p3, p4] : List Bs).length : Int) = 5)) = some (Res.ok ()) := rfl
      have e0 : cron_part F 0 59 [] 0 p0 = some (okR (P_ 0 p0)) := part_eq F hF (fld 0 (by omega)) p0 (hl p0 (by simp))
      have e1 : cron_part F 0 23 [] 0 p1 = some (okR (P_ 1 p1)) := part_eq F hF (fld 1 (by omega)) p1 (hl p1 (by simp))
      have e2 : cron_part F 1 31 [] 0 p2 = some (okR (P_ 2 p2)) := part_eq F hF (fld 2 (by omega)) p2 (hl p2 (by simp))
      have e3 : cron_part F 1 12 crona_k1 0 p3 = some (okR (P_ 3 p3)) := part_eq F hF (fld 3 (by omega)) p3 (hl p3 (by simp))
      have e4 : cron_part F 0 6 crona_k2 7 p4 = some (okR (P_ 4 p4)) := part_eq F hF (fld 4 (by omega)) p4 (hl p4 (by simp))
      have a0 : at_ ([p0, p1, p2, p3, p4] : List Bs) 0 = p0 := rfl
      have a1 : at_ ([p0, p1, p2, p3, p4] : List Bs) 1 = p1 := rfl
      have a2 : at_ ([p0, p1, p2, p3, p4] : List Bs) 2 = p2 := rfl
      have a3 : at_ ([p0, p1, p2, p3, p4] : List Bs) 3 = p3 := rfl
      have a4 : at_ ([p0, p1, p2, p3, p4] : List Bs) 4 = p4 := rfl
      have hg : ∀ (i : Int) (q : Option PT), 0 ≤ i ∧ i < 5 → grd (okAt i ([p0, p1, p2, p3, p4] : List Bs).length) q = q := fun i q h => grd_At (by simpa using h)
      rw [hu, bndk_ok]
      unfold cron_fields
      rw [bnd_some]
      simp only [hg 0 _ (by omega), hg 1 _ (by omega), hg 2 _ (by omega), hg 3 _ (by omega), hg 4 _ (by omega), lt_eq, a0, a1, a2, a3, a4, e0, e1, e2, e3, e4, bndk_ok']
      unfold cron_Parse_j1
      rw [cronL_5]
      cases P_ 0 p0 with
      | none => rfl
      | some l0 =>
        cases P_ 1 p1 with
        | none => rfl
        | some l1 =>
          cases P_ 2 p2 with
          | none => rfl
          | some l2 =>
            cases P_ 3 p3 with
            | none => rfl
            | some l3 =>
              cases P_ 4 p4 with
              | none => rfl
              | some l4 => rfl
    · have hu : cron_unless F (decide (((sp 32 s).length : Int) = 5)) = some (Res.pan 0) := by rw [decide_eq_false (by omega)]; rfl
      rw [hu, bndk_pan, cronL_no h5]; rfl

/-! ### By the document -/
section
variable {ρ : Type}
def gA (F : Nat) (hi : Option Int) (xs : List Int) (K : List Int → Option ρ) (rec : (Int × (List Int)) → Option ρ) (y : Int) (acc : List Int) : Option ρ :=
  bnd hi fun x72 => bif decide (y ≤ x72) then
    bnd (ref05_Has F xs y) fun x75 => bif x75 then
      grd (okCat (acc.length + ([y] : List Int).length)) <| lt (acc ++ ([y] : List Int)) fun x80 => grd (okI (y + 1)) <| rec (y + 1, x80)
    else grd (okI (y + 1)) <| rec (y + 1, acc)
  else K acc
def gA' (F : Nat) (f : Int) (K : List Int → Option ρ) (xs : List Int) : Option ρ := bnd (ref05_Low F f) fun x65 => loop (fun rec x => gA F (ref05_High F f) xs K rec x.1 x.2) F (x65, [])
def gB (w : (Int → Option ρ) → Int → Option ρ) (K : List Int → Option ρ) (x : List Int) (rec : ((List Int) × Int) → Option ρ) (acc : List Int) (i : Int) : Option ρ :=
  bif decide (i < (x.length : Int)) then
    grd (okAt i x.length) <| lt (at_ x i) fun v => w (fun v => grd (okCat (acc.length + ([v] : List Int).length)) <| lt (acc ++ ([v] : List Int)) fun z => grd (okI (i + 1)) <| rec (z, i + 1)) v
  else K acc
def gC (w : (Int → Option ρ) → Int → Option ρ) (F : Nat) (f : Int) (E : Option ρ) (K : List Int → Option ρ) (L : List Bs) (rec : ((List Int) × Int) → Option ρ) (acc : List Int) (i : Int) : Option ρ :=
  bif decide (i < (L.length : Int)) then
    grd (okAt i L.length) <| lt (at_ L i) fun p => bnd (ref05_piece F f p) fun x => bif decide ((x.length : Int) = 0) then E
      else loop (fun rec2 z => gB w (fun a => grd (okI (i + 1)) <| rec (a, i + 1)) x rec2 z.1 z.2) F (acc, 0)
  else gA' F f K acc
def gF (w : (Int → Option ρ) → Int → Option ρ) (F : Nat) (f : Int) (E : Option ρ) (K : List Int → Option ρ) (L : List Bs) : Option ρ := loop (fun rec x => gC w F f E K L rec x.1 x.2) F ([], 0)
theorem gA_loop (F : Nat) (hF : 100000 < F) (hi : Int) (hh : 0 ≤ hi ∧ hi ≤ 100) (xs : List Int) (hx : xs.length ≤ 100000) (K : List Int → Option ρ) : ∀ (c k i : Nat) (acc : List Int), (i : Int) + c = hi + 1 → c < k → acc.length ≤ i →
    loop (fun rec x => gA F (some hi) xs K rec x.1 x.2) k ((i : Int), acc) = K (acc ++ flR xs c i) := by
  intro c
  induction c with
  | zero =>
    intro k i acc h hk hl
    obtain ⟨k, rfl⟩ : ∃ k', k = k' + 1 := ⟨k - 1, by omega⟩
    show gA F (some hi) xs K (loop (fun rec x => gA F (some hi) xs K rec x.1 x.2) k) (i : Int) acc = _
    unfold gA
    rw [bnd_some, bF (by omega)]; simp [flR]
  | succ c ih =>
    intro k i acc h hk hl
    obtain ⟨k, rfl⟩ : ∃ k', k = k' + 1 := ⟨k - 1, by omega⟩
    show gA F (some hi) xs K (loop (fun rec x => gA F (some hi) xs K rec x.1 x.2) k) (i : Int) acc = _
    have hu : ∀ r : (Int × (List Int)) → Option ρ, gA F (some hi) xs K r (i : Int) acc = if (i : Int) ∈ xs then r (((i + 1 : Nat) : Int), acc ++ [(i : Int)]) else r (((i + 1 : Nat) : Int), acc) := by
      intro r
      unfold gA
      rw [bnd_some, bT (by omega), Has_eq F xs i (by omega) (by omega), bnd_some]
      by_cases hm : (i : Int) ∈ xs
      · rw [decide_eq_true hm, if_pos hm, cond_true, grd_Cat (by simp; omega), lt_eq, grd_I (by omega)]; rfl
      · rw [decide_eq_false hm, if_neg hm, cond_false, grd_I (by omega)]; rfl
    rw [hu]
    by_cases hm : (i : Int) ∈ xs
    · have e : flR xs (c + 1) i = (i : Int) :: flR xs c (i + 1) := by simp only [flR, if_pos hm]
      rw [if_pos hm, ih k (i + 1) _ (by omega) (by omega) (by simp; omega), e]; simp
    · have e : flR xs (c + 1) i = flR xs c (i + 1) := by simp only [flR, if_neg hm]
      rw [if_neg hm, ih k (i + 1) _ (by omega) (by omega) (by omega), e]
theorem gA'_eq (F : Nat) (hF : 100000 < F) (f : Nat) (hf : f < 5) (K : List Int → Option ρ) (xs : List Int) (hx : xs.length ≤ 100000) : gA' F (f : Int) K xs = K (flR xs (hi_ f + 1 - lo_ f).toNat (lo_ f).toNat) := by
  have Fd := fld f hf
  have h0 := Fd.l0; have h1 := Fd.l1; have h2 := Fd.lh; have h3 := Fd.h1
  unfold gA'
  rw [rlow F f hf, rhigh F f hf, bnd_some]
  have := gA_loop F hF (hi_ f) (by omega) xs hx K (hi_ f + 1 - lo_ f).toNat F (lo_ f).toNat [] (by omega) (by omega) (by simp)
  rw [List.nil_append] at this
  rw [← this]
  congr 2; omega
theorem gB_loop (w : (Int → Option ρ) → Int → Option ρ) (g : Int → Int) (hw : ∀ J v, w J v = J (g v)) (K : List Int → Option ρ) (x : List Int) (hx : x.length ≤ 1000) : ∀ (k i : Nat) (acc : List Int), x.length - i < k → i ≤ x.length → acc.length ≤ 1000000 + i →
    loop (fun rec2 z => gB w K x rec2 z.1 z.2) k (acc, (i : Int)) = K (acc ++ (x.drop i).map g) := by
  intro k
  induction k with
  | zero => intro i acc h; omega
  | succ k ih =>
    intro i acc hk hi hl
    show gB w K x (loop (fun rec2 z => gB w K x rec2 z.1 z.2) k) acc (i : Int) = _
    by_cases h : i < x.length
    · have hd : x.drop i = x[i] :: x.drop (i + 1) := List.drop_eq_getElem_cons h
      have hu : ∀ r : ((List Int) × Int) → Option ρ, gB w K x r acc (i : Int) = r (acc ++ [g x[i]], ((i + 1 : Nat) : Int)) := by
        intro r
        unfold gB
        rw [bT (by omega), grd_At (by omega), lt_eq, at_nat h, hw, grd_Cat (by simp; omega), lt_eq, grd_I (by omega)]; rfl
      rw [hu, ih (i + 1) _ (by omega) (by omega) (by simp; omega), hd]
      simp only [List.map_cons, List.append_assoc, List.singleton_append]
    · have hd : x.drop i = [] := List.drop_eq_nil_of_le (by omega)
      unfold gB
      rw [bF (by omega), hd]; simp
theorem stepsL_len : ∀ (k : Nat) (a b st : Int), (stepsL k a b st).length ≤ k := by
  intro k
  induction k with
  | zero => intro a b st; simp [stepsL]
  | succ k ih =>
    intro a b st
    have := ih (a + st) b st
    unfold stepsL
    split <;> simp <;> omega
theorem gC_loop (w : (Int → Option ρ) → Int → Option ρ) (f : Nat) (hf : f < 5) (hw : ∀ J v, w J v = J (img (lo_ f) (ov_ f) v)) (F : Nat) (hF : 100000 < F) (E : Option ρ) (K : List Int → Option ρ) (L : List Bs) (hL : L.length ≤ 400) (hp : ∀ p ∈ L, p.length ≤ 300) :
    ∀ (k i : Nat) (acc : List Int), L.length - i < k → i ≤ L.length → acc.length ≤ 200 * i →
    loop (fun rec x => gC w F (f : Int) E K L rec x.1 x.2) k (acc, (i : Int)) = optB (allP (lo_ f) (hi_ f) (ov_ f) (nm_ f) (L.drop i)) E fun ys => K (flR (acc ++ ys) (hi_ f + 1 - lo_ f).toNat (lo_ f).toNat) := by
  intro k
  induction k with
  | zero => intro i acc h; omega
  | succ k ih =>
    intro i acc hk hi hl
    show gC w F (f : Int) E K L (loop (fun rec x => gC w F (f : Int) E K L rec x.1 x.2) k) acc (i : Int) = _
    by_cases h : i < L.length
    · have hd : L.drop i = L[i] :: L.drop (i + 1) := List.drop_eq_getElem_cons h
      unfold gC
      rw [bT (by omega), grd_At (by omega), lt_eq, at_nat h, rpiece_eq F (by omega) f hf L[i] (hp _ (List.getElem_mem h)), bnd_some, hd]
      unfold allP
      cases hps : pieceS (lo_ f) (hi_ f) (ov_ f) (nm_ f) L[i] with
      | none => rfl
      | some x =>
        have hle := pieceS_le (fld f hf) hps
        have hlen := stepsL_len 200 x.1 x.2.1 x.2.2
        have hne : ¬ (((stepsOf (some x)).length : Int) = 0) := by
          have e : stepsOf (some x) = x.1 :: stepsL 199 (x.1 + x.2.2) x.2.1 x.2.2 := if_pos hle
          rw [e, List.length_cons]; omega
        have hb := gB_loop w (img (lo_ f) (ov_ f)) hw (fun a => grd (okI ((i : Int) + 1)) <| (loop (fun rec x => gC w F (f : Int) E K L rec x.1 x.2) k) (a, (i : Int) + 1)) (stepsOf (some x)) (by simp only [stepsOf]; omega) F 0 acc (by simp only [stepsOf]; omega) (by omega) (by omega)
        rw [bF hne]
        refine hb.trans ?_
        have hn : (List.drop 0 (stepsOf (some x))).map (img (lo_ f) (ov_ f)) = numsOf (lo_ f) (ov_ f) x := rfl
        have hnl : (numsOf (lo_ f) (ov_ f) x).length ≤ 200 := by unfold numsOf; simp; omega
        simp only [hn]
        rw [grd_I (by omega), cast_succ, ih (i + 1) _ (by omega) (by omega) (by simp; omega)]
        cases allP (lo_ f) (hi_ f) (ov_ f) (nm_ f) (L.drop (i + 1)) with
        | none => rfl
        | some r => simp only [optB, List.append_assoc]
    · have hd : L.drop i = [] := List.drop_eq_nil_of_le (by omega)
      unfold gC
      rw [bF (by omega), hd, gA'_eq F hF f hf K acc (by omega)]
      simp only [allP, optB, List.append_nil]
theorem gF_eq (w : (Int → Option ρ) → Int → Option ρ) (f : Nat) (hf : f < 5) (hw : ∀ J v, w J v = J (img (lo_ f) (ov_ f) v)) (F : Nat) (hF : 100000 < F) (E : Option ρ) (K : List Int → Option ρ) (p : Bs) (hp : p.length ≤ 300) :
    gF w F (f : Int) E K (sp 44 p) = optB (P_ f p) E K := by
  have hlen := sp_length 44 p
  have h := gC_loop w f hf hw F hF E K (sp 44 p) (by omega) (fun q hq => by have := sp_lens hq; omega) F 0 [] (by omega) (by omega) (by simp)
  refine Eq.trans h ?_
  rw [List.drop_zero]
  unfold P_ partS
  cases allP (lo_ f) (hi_ f) (ov_ f) (nm_ f) (sp 44 p) <;> rfl
end
theorem img_0 (f : Nat) (hf : f < 4) (v : Int) : img (lo_ f) (ov_ f) v = v := by
  have : f = 0 ∨ f = 1 ∨ f = 2 ∨ f = 3 := by omega
  unfold img
  rcases this with rfl | rfl | rfl | rfl <;> exact if_neg (fun h => by have := h.2; simp [ov_] at this)
theorem img_4 (v : Int) : img (lo_ 4) (ov_ 4) v = if v = 7 then 0 else v := by
  unfold img
  by_cases h : v = 7
  · rw [if_pos h, if_pos ⟨h, by decide⟩]; rfl
  · rw [if_neg h, if_neg (fun hh => h hh.1)]
def w0 (J : Int → Option PT) (v : Int) : Option PT := J v
def w4 (J : Int → Option PT) (v : Int) : Option PT := bif decide (v = 7) then J 0 else J v
theorem w4_eq (J : Int → Option PT) (v : Int) : w4 J v = J (img (lo_ 4) (ov_ 4) v) := by
  rw [img_4]
  unfold w4
  by_cases h : v = 7
  · rw [bT h, if_pos h]
  · rw [bF h, if_neg h]
theorem rParse_eq (F : Nat) (hF : 100000 < F) (s : Bs) (hs : s.length ≤ 300) : ref05_Parse F s = some (cronOf s) := by
  unfold ref05_Parse cronOf
  by_cases h2 : 200 < s.length
  · rw [bT (by omega), if_pos h2]; rfl
  · rw [bF (by omega), if_neg h2, ref05_Split_eq F s 32 (by omega) (by omega), bnd_some]
    by_cases h5 : (sp 32 s).length = 5
    · obtain ⟨p0, p1, p2, p3, p4, hL⟩ := len5 h5
      have hl : ∀ p ∈ sp 32 s, p.length ≤ 300 := fun p hp => by have := sp_lens hp; omega
      rw [hL] at hl ⊢
      have hne : decide ((([p0, p1, p2, p3, p4] : List Bs).length : Int) = 5) = true := rfl
      have a0 : at_ ([p0, p1, p2, p3, p4] : List Bs) 0 = p0 := rfl
      have a1 : at_ ([p0, p1, p2, p3, p4] : List Bs) 1 = p1 := rfl
      have a2 : at_ ([p0, p1, p2, p3, p4] : List Bs) 2 = p2 := rfl
      have a3 : at_ ([p0, p1, p2, p3, p4] : List Bs) 3 = p3 := rfl
      have a4 : at_ ([p0, p1, p2, p3, p4] : List Bs) 4 = p4 := rfl
      have hg : ∀ (i : Int) (q : Option PT), 0 ≤ i ∧ i < 5 → grd (okAt i ([p0, p1, p2, p3, p4] : List Bs).length) q = q := fun i q h => grd_At (by simpa using h)
      have hsp : ∀ p, p ∈ ([p0, p1, p2, p3, p4] : List Bs) → ref05_Split F p 44 = some (sp 44 p) := fun p hp => ref05_Split_eq F p 44 (by have := hl p hp; omega) (by have := hl p hp; omega)
      rw [hne, Bool.not_true, cond_false, hg 0 _ (by omega), lt_eq, a0, hsp p0 (by simp), bnd_some]
      have g0 : ref05_Parse_L15 F [p0, p1, p2, p3, p4] (sp 44 p0) F ([], 0) = gF w0 F ((0 : Nat) : Int) (some (errT 2)) (ref05_Parse_j27 F [p0, p1, p2, p3, p4]) (sp 44 p0) := rfl
      rw [g0, gF_eq w0 0 (by omega) (fun J v => by rw [img_0 0 (by omega)]; rfl) F hF _ _ p0 (hl p0 (by simp)), cronL_5]
      cases P_ 0 p0 with
      | none => rfl
      | some l0 =>
        show ref05_Parse_j27 F [p0, p1, p2, p3, p4] l0 = _
        unfold ref05_Parse_j27 ref05_Parse_j26
        rw [hg 0 _ (by omega), lt_eq, a0, hg 1 _ (by omega), lt_eq, a1, hsp p1 (by simp), bnd_some]
        have g1 : ref05_Parse_L12 F [p0, p1, p2, p3, p4] l0 (decide (p0 = [42])) (sp 44 p1) F ([], 0) = gF w0 F ((1 : Nat) : Int) (some (errT 2)) (ref05_Parse_j21 F [p0, p1, p2, p3, p4] l0 (decide (p0 = [42]))) (sp 44 p1) := rfl
        rw [g1, gF_eq w0 1 (by omega) (fun J v => by rw [img_0 1 (by omega)]; rfl) F hF _ _ p1 (hl p1 (by simp))]
        cases P_ 1 p1 with
        | none => rfl
        | some l1 =>
          show ref05_Parse_j21 F [p0, p1, p2, p3, p4] l0 (decide (p0 = [42])) l1 = _
          unfold ref05_Parse_j21 ref05_Parse_j20
          rw [hg 1 _ (by omega), lt_eq, a1, hg 2 _ (by omega), lt_eq, a2, hsp p2 (by simp), bnd_some]
          have g2 : ref05_Parse_L9 F [p0, p1, p2, p3, p4] l0 (decide (p0 = [42])) l1 (decide (p1 = [42])) (sp 44 p2) F ([], 0) = gF w0 F ((2 : Nat) : Int) (some (errT 2)) (ref05_Parse_j15 F [p0, p1, p2, p3, p4] l0 (decide (p0 = [42])) l1 (decide (p1 = [42]))) (sp 44 p2) := rfl
          rw [g2, gF_eq w0 2 (by omega) (fun J v => by rw [img_0 2 (by omega)]; rfl) F hF _ _ p2 (hl p2 (by simp))]
          cases P_ 2 p2 with
          | none => rfl
          | some l2 =>
            show ref05_Parse_j15 F [p0, p1, p2, p3, p4] l0 (decide (p0 = [42])) l1 (decide (p1 = [42])) l2 = _
            unfold ref05_Parse_j15 ref05_Parse_j14
            rw [hg 2 _ (by omega), lt_eq, a2, hg 3 _ (by omega), lt_eq, a3, hsp p3 (by simp), bnd_some]
            have g3 : ref05_Parse_L6 F [p0, p1, p2, p3, p4] l0 (decide (p0 = [42])) l1 (decide (p1 = [42])) l2 (decide (p2 = [42])) (sp 44 p3) F ([], 0) = gF w0 F ((3 : Nat) : Int) (some (errT 2)) (ref05_Parse_j9 F [p0, p1, p2, p3, p4] l0 (decide (p0 = [42])) l1 (decide (p1 = [42])) l2 (decide (p2 = [42]))) (sp 44 p3) := rfl
            rw [g3, gF_eq w0 3 (by omega) (fun J v => by rw [img_0 3 (by omega)]; rfl) F hF _ _ p3 (hl p3 (by simp))]
            cases P_ 3 p3 with
            | none => rfl
            | some l3 =>
              show ref05_Parse_j9 F [p0, p1, p2, p3, p4] l0 (decide (p0 = [42])) l1 (decide (p1 = [42])) l2 (decide (p2 = [42])) l3 = _
              unfold ref05_Parse_j9 ref05_Parse_j8
              rw [hg 3 _ (by omega), lt_eq, a3, hg 4 _ (by omega), lt_eq, a4, hsp p4 (by simp), bnd_some]
              have g4 : ref05_Parse_L3 F [p0, p1, p2, p3, p4] l0 (decide (p0 = [42])) l1 (decide (p1 = [42])) l2 (decide (p2 = [42])) l3 (decide (p3 = [42])) (sp 44 p4) F ([], 0) = gF w4 F ((4 : Nat) : Int) (some (errT 2)) (ref05_Parse_j3 [p0, p1, p2, p3, p4] l0 (decide (p0 = [42])) l1 (decide (p1 = [42])) l2 (decide (p2 = [42])) l3 (decide (p3 = [42]))) (sp 44 p4) := rfl
              rw [g4, gF_eq w4 4 (by omega) w4_eq F hF _ _ p4 (hl p4 (by simp))]
              cases P_ 4 p4 with
              | none => rfl
              | some l4 =>
                show ref05_Parse_j3 [p0, p1, p2, p3, p4] l0 (decide (p0 = [42])) l1 (decide (p1 = [42])) l2 (decide (p2 = [42])) l3 (decide (p3 = [42])) l4 = _
                unfold ref05_Parse_j3
                rw [hg 4 _ (by omega), lt_eq, a4]; rfl
    · rw [decide_eq_false (show ¬ (((sp 32 s).length : Int) = 5) by omega), cronL_no h5]; rfl
theorem P_len (f : Nat) (hf : f < 5) {p : Bs} {l : List Int} (h : P_ f p = some l) : l.length ≤ 100 := by
  have Fd := fld f hf
  have h0 := Fd.l0; have h3 := Fd.h1
  unfold P_ partS at h
  cases ha : allP (lo_ f) (hi_ f) (ov_ f) (nm_ f) (sp 44 p) with
  | none => rw [ha] at h; cases h
  | some xs =>
    rw [ha] at h
    cases h
    have hh : hi_ f ≤ 59 := by
      have : f = 0 ∨ f = 1 ∨ f = 2 ∨ f = 3 ∨ f = 4 := by omega
      rcases this with rfl | rfl | rfl | rfl | rfl <;> decide
    have := flR_len xs (hi_ f + 1 - lo_ f).toNat (lo_ f).toNat
    omega
theorem cronOf_len (s : Bs) : (cronOf s).1.length ≤ 100 ∧ (cronOf s).2.1.length ≤ 100 ∧ (cronOf s).2.2.1.length ≤ 100 ∧ (cronOf s).2.2.2.1.length ≤ 100 ∧ (cronOf s).2.2.2.2.1.length ≤ 100 := by
  unfold cronOf
  by_cases h2 : 200 < s.length
  · rw [if_pos h2]; simp [errT]
  · rw [if_neg h2]
    by_cases h5 : (sp 32 s).length = 5
    · obtain ⟨p0, p1, p2, p3, p4, hL⟩ := len5 h5
      rw [hL, cronL_5]
      cases h0 : P_ 0 p0 with
      | none => simp [optB, errT]
      | some l0 =>
        cases h1 : P_ 1 p1 with
        | none => simp [optB, errT]
        | some l1 =>
          cases h2 : P_ 2 p2 with
          | none => simp [optB, errT]
          | some l2 =>
            cases h3 : P_ 3 p3 with
            | none => simp [optB, errT]
            | some l3 =>
              cases h4 : P_ 4 p4 with
              | none => simp [optB, errT]
              | some l4 => exact ⟨P_len 0 (by omega) h0, P_len 1 (by omega) h1, P_len 2 (by omega) h2, P_len 3 (by omega) h3, P_len 4 (by omega) h4⟩
    · rw [cronL_no h5]; simp [errT]
end Go.Cn
namespace Go.Cn
open Go.Pv Go.Av Go.Lib

theorem mem_flR (y : List Int) : ∀ (c i : Nat) (n : Int), n ∈ flR y c i ↔ ((i : Int) ≤ n ∧ n < i + c) ∧ n ∈ y := by
  intro c
  induction c with
  | zero => intro i n; simp [flR]; omega
  | succ c ih =>
    intro i n
    have := ih (i + 1) n
    unfold flR
    by_cases h : (i : Int) ∈ y
    · rw [if_pos h, List.mem_cons, this]
      constructor
      · rintro (rfl | ⟨h1, h2⟩)
        · exact ⟨by omega, h⟩
        · exact ⟨by omega, h2⟩
      · rintro ⟨h1, h2⟩
        by_cases e : n = i
        · exact .inl e
        · exact .inr ⟨by omega, h2⟩
    · rw [if_neg h, this]
      constructor
      · rintro ⟨h1, h2⟩; exact ⟨by omega, h2⟩
      · rintro ⟨h1, h2⟩
        have e : n ≠ i := fun e => h (e ▸ h2)
        exact ⟨by omega, h2⟩
theorem flR_pw (y : List Int) : ∀ (c i : Nat), (flR y c i).Pairwise (· < ·) := by
  intro c
  induction c with
  | zero => intro i; exact .nil
  | succ c ih =>
    intro i
    unfold flR
    by_cases h : (i : Int) ∈ y
    · rw [if_pos h]
      refine List.pairwise_cons.2 ⟨fun n hn => ?_, ih (i + 1)⟩
      have := (mem_flR y c (i + 1) n).1 hn
      omega
    · rw [if_neg h]; exact ih (i + 1)
theorem flR_self (y : List Int) : ∀ (c i : Nat) (x : List Int), (∀ n : Int, (i : Int) ≤ n → n < i + c → (n ∈ y ↔ n ∈ x)) → x.Pairwise (· < ·) → (∀ n ∈ x, (i : Int) ≤ n ∧ n < i + c) → flR y c i = x := by
  intro c
  induction c with
  | zero =>
    intro i x _ _ hb
    cases x with
    | nil => rfl
    | cons a r => have := hb a (by simp); omega
  | succ c ih =>
    intro i x hm hp hb
    unfold flR
    by_cases h : (i : Int) ∈ y
    · rw [if_pos h]
      have hx := (hm i (by omega) (by omega)).1 h
      cases x with
      | nil => simp at hx
      | cons a r =>
        obtain ⟨hp1, hp2⟩ := List.pairwise_cons.1 hp
        have ha := hb a (by simp)
        have ea : a = i := by
          rcases List.mem_cons.1 hx with e | e
          · exact e.symm
          · have := hp1 _ e; omega
        subst ea
        congr 1
        refine ih (i + 1) r (fun n h1 h2 => ?_) hp2 fun n hn => ?_
        · have := hm n (by omega) (by omega)
          rw [this, List.mem_cons]
          constructor
          · rintro (e | e)
            · omega
            · exact e
          · exact .inr
        · have h1 := hp1 n hn
          have h2 := hb n (by simp [hn])
          omega
    · rw [if_neg h]
      refine ih (i + 1) x (fun n h1 h2 => hm n (by omega) (by omega)) hp fun n hn => ?_
      have h2 := hb n hn
      have : n ≠ i := fun e => h ((hm i (by omega) (by omega)).2 (e ▸ hn))
      omega
theorem mem_stepsL (b st : Int) (hst : 1 ≤ st) : ∀ (k : Nat) (a n : Int), (b + 1 - a).toNat ≤ k → (n ∈ stepsL k a b st ↔ a ≤ n ∧ n ≤ b ∧ (n - a) % st = 0) := by
  intro k
  induction k with
  | zero => intro a n h; simp only [stepsL, List.not_mem_nil, false_iff]; omega
  | succ k ih =>
    intro a n h
    unfold stepsL
    by_cases hab : a ≤ b
    · rw [if_pos hab, List.mem_cons, ih (a + st) n (by omega)]
      have e : (n - (a + st)) % st = (n - a) % st := by
        rw [show n - (a + st) = (n - a) - st by omega, Int.sub_emod_right]
      rw [e]
      constructor
      · rintro (rfl | ⟨h1, h2, h3⟩)
        · exact ⟨by omega, hab, by simp⟩
        · exact ⟨by omega, h2, h3⟩
      · rintro ⟨h1, h2, h3⟩
        by_cases ea : n = a
        · exact .inl ea
        · by_cases hl : n - a < st
          · rw [Int.emod_eq_of_lt (by omega) hl] at h3; omega
          · exact .inr ⟨by omega, h2, h3⟩
    · rw [if_neg hab]
      simp only [List.not_mem_nil, false_iff]; omega
theorem sp_append {c : UInt8} : ∀ (p r : Bs), (∀ b ∈ p, b ≠ c) → sp c (p ++ c :: r) = p :: sp c r := by
  intro p
  induction p with
  | nil => intro r _; exact sp_cons_eq c r
  | cons b p ih =>
    intro r h
    rw [List.cons_append, sp_cons_ne (h b (by simp)), ih r fun x hx => h x (by simp [hx])]; rfl
theorem sp_join {c : UInt8} : ∀ (L : List Bs), L ≠ [] → (∀ p ∈ L, ∀ b ∈ p, b ≠ c) → sp c (Str.join [c] L) = L := by
  intro L
  induction L with
  | nil => intro h; exact absurd rfl h
  | cons p L ih =>
    intro _ h
    cases L with
    | nil =>
      have e : Str.join [c] [p] = p := by simp [Str.join, Str.rest]
      rw [e]
      exact sp_no (h p (by simp))
    | cons q r =>
      have e : Str.join [c] (p :: q :: r) = p ++ c :: Str.join [c] (q :: r) := by simp [Str.join, Str.rest]
      rw [e, sp_append p _ (h p (by simp)), ih (by simp) fun x hx => h x (by simp [hx])]
theorem dec_digS : ∀ n : Fin 100, digS (decDigits n.val) = some (n.val : Int) := by decide +kernel
theorem dig_ne {b : UInt8} (h : isD b = true) : b ≠ 42 ∧ b ≠ 44 ∧ b ≠ 45 ∧ b ≠ 47 ∧ b ≠ 32 := by
  have := isD_s h
  refine ⟨?_, ?_, ?_, ?_, ?_⟩ <;> (intro e; subst e; simp at this)
theorem dig_star {s : Bs} {n : Int} (h : digS s = some n) : s ≠ [42] := fun e => by
  have := digS_mem h 42 (by rw [e]; simp)
  exact absurd this (by decide)
theorem dec_one (lo hi ov : Int) (nm : Bs) {s : Bs} {n : Int} (h : digS s = some n) (h1 : lo ≤ n) (h2 : n ≤ max hi ov) : numS lo hi ov nm s = some n := by
  unfold numS
  rw [h]
  show inS lo hi ov n = some n
  unfold inS
  rw [if_pos ⟨h1, h2⟩]
/-- One number, as a piece. -/
theorem piece_one (lo hi ov : Int) (nm : Bs) {s : Bs} {n : Int} (h : digS s = some n) (h1 : lo ≤ n) (h2 : n ≤ max hi ov) : pieceS lo hi ov nm s = some (n, n, 1) := by
  have hm := digS_mem h
  have e1 : sp 47 s = [s] := sp_no fun b hb => (dig_ne (hm b hb)).2.2.2.1
  have e2 : sp 45 s = [s] := sp_no fun b hb => (dig_ne (hm b hb)).2.2.1
  unfold pieceS
  rw [e1]
  simp only [pieceL, stepS]
  unfold endsS
  rw [if_neg (dig_star h), e2]
  simp only [dec_one lo hi ov nm h h1 h2]; rfl
def full (f : Nat) : List Int := flR ((List.range 60).map fun (i : Nat) => (i : Int)) (hi_ f + 1 - lo_ f).toNat (lo_ f).toNat
theorem P_star (f : Nat) (hf : f < 5) : P_ f [42] = some (full f) := by
  have : f = 0 ∨ f = 1 ∨ f = 2 ∨ f = 3 ∨ f = 4 := by omega
  rcases this with rfl | rfl | rfl | rfl | rfl <;> decide +kernel
end Go.Cn
namespace Go.Cn
open Go.Pv Go.Av Go.Lib

theorem awake05f : law05_awake 1001 = some true := by decide +kernel
def tenth (k : Nat) : Int := match k with | 0 => 1 | 1 => 2 | 2 => 4 | 3 => 8 | 4 => 16 | _ => 32
theorem names_inner (x30 : Bs) (y35 : Int) (y36 : Bs) (rec : (Int × Bs) → Option Bool) : ∀ (j k : Nat) (n : Int) (i : Int), 0 ≤ i → i + j ≤ 10 → j < k → 0 ≤ n → n ≤ 1000 →
    ∃ m : Int, law05_CronNames_L1 x30 y35 y36 (i + j) rec k (n, i) = law05_CronNames_j3 x30 y35 y36 rec m ∧ 0 ≤ m ∧ m ≤ 1000 ∧ m = (Nat.repeat (fun z : Int => z / 2) j n) := by
  intro j
  induction j with
  | zero =>
    intro k n i h1 h2 h3 h4 h5
    obtain ⟨k, rfl⟩ : ∃ k', k = k' + 1 := ⟨k - 1, by omega⟩
    refine ⟨n, ?_, h4, h5, rfl⟩
    show law05_CronNames_B1 x30 y35 y36 (i + ((0 : Nat) : Int)) rec (law05_CronNames_L1 x30 y35 y36 (i + ((0 : Nat) : Int)) rec k) n i = _
    unfold law05_CronNames_B1
    rw [bF (by omega)]
  | succ j ih =>
    intro k n i h1 h2 h3 h4 h5
    obtain ⟨k, rfl⟩ : ∃ k', k = k' + 1 := ⟨k - 1, by omega⟩
    obtain ⟨m, e, a, b, c⟩ := ih k (n / 2) (i + 1) (by omega) (by omega) (by omega) (by omega) (by omega)
    have ei : i + ((j + 1 : Nat) : Int) = i + 1 + (j : Int) := by omega
    refine ⟨m, ?_, a, b, ?_⟩
    · rw [ei]
      show law05_CronNames_B1 x30 y35 y36 (i + 1 + (j : Int)) rec (law05_CronNames_L1 x30 y35 y36 (i + 1 + (j : Int)) rec k) n i = _
      unfold law05_CronNames_B1
      rw [bT (by omega), grd_Div (by omega), grd_I (by omega)]
      exact e
    · rw [c]
      clear e c ih
      induction j with
      | zero => rfl
      | succ j ihj => 
        show (Nat.repeat (fun z : Int => z / 2) j (n / 2)) / 2 = (Nat.repeat (fun z : Int => z / 2) (j + 1) n) / 2
        have := ihj (by omega) (by omega) (by omega)
        rw [this]
def half (j : Nat) (n : Int) : Int := Nat.repeat (fun z : Int => z / 2) j n
def bitOf (i : Nat) : Nat := if 3 < i then i - 1 else i
def stepY (g : Int) (i : Nat) (y : Bs) : Bs := if ¬ i = 3 ∧ half (bitOf i) g % 2 = 1 then y.set i (y.getD i 0 - 32) else y
theorem names_step (F : Nat) (hF : 10 < F) (m w g : Int) (x30 y : Bs) (k i : Nat) (hi : i < 7) (hx : x30.length = 7) (hy : y.length = 7) (hg : 0 ≤ g ∧ g ≤ 63) :
    law05_CronNames_L2 F m w g x30 (k + 1) ((i : Int), y) = law05_CronNames_L2 F m w g x30 k (((i + 1 : Nat) : Int), stepY g i y) := by
  show law05_CronNames_B2 F m w g x30 (law05_CronNames_L2 F m w g x30 k) (i : Int) y = _
  have hj4 : ∀ b : Nat, b ≤ 6 → b = bitOf i → law05_CronNames_j4 F g x30 (i : Int) y (law05_CronNames_L2 F m w g x30 k) (b : Int) = law05_CronNames_L2 F m w g x30 k (((i + 1 : Nat) : Int), stepY g i y) := by
    intro b hb hbi
    obtain ⟨v, e, a1, a2, a3⟩ := names_inner x30 (i : Int) y (law05_CronNames_L2 F m w g x30 k) b F g 0 (by omega) (by omega) (by omega) (by omega) (by omega)
    unfold law05_CronNames_j4
    rw [Int.zero_add] at e
    rw [e]
    unfold law05_CronNames_j3 law05_CronNames_j2
    have hv : half (bitOf i) g = v := by rw [a3, ← hbi]; rfl
    unfold stepY
    rw [hv]
    have hgd : ∀ (c : Bool) (q : Option Bool), grdc c (okDiv v 2) q = q := fun c q => by
      cases c with
      | false => exact grdc_f
      | true => rw [grdc_t, grd_Div (by omega)]
    rw [hgd]
    by_cases h3 : i = 3
    · rw [decide_eq_true (show (i : Int) = 3 by omega), if_neg (fun h => h.1 h3)]
      rw [Bool.not_true, Bool.false_and, cond_false, grd_I (by omega), cast_succ]
    · rw [decide_eq_false (show ¬ (i : Int) = 3 by omega)]
      simp only [Bool.not_false, Bool.true_and]
      by_cases ho : v % 2 = 1
      · rw [bT ho, if_pos ⟨h3, ho⟩, grd_At (by omega), grd_At (by omega), lt_eq, grd_At (by omega), grd_At (by omega), lt_eq, grd_I (by omega), at_nat (by omega)]
        have e1 : y.getD i 0 = y[i]'(by omega) := by simp [List.getD, show i < y.length by omega]
        rw [e1, cast_succ, Int.toNat_natCast]
      · rw [bF ho, if_neg (fun h => ho h.2), grd_I (by omega), cast_succ]
  unfold law05_CronNames_B2
  rw [bT (by omega)]
  by_cases h3 : 3 < i
  · have e : (i : Int) - 1 = ((i - 1 : Nat) : Int) := by omega
    rw [bT (by omega), grd_I (by omega), e]
    exact hj4 (i - 1) (by omega) (by unfold bitOf; rw [if_pos h3])
  · rw [bF (by omega)]
    exact hj4 i (by omega) (by unfold bitOf; rw [if_neg h3])
theorem stepY_len (g : Int) (i : Nat) (y : Bs) : (stepY g i y).length = y.length := by
  unfold stepY; split <;> simp
def cap (b : Bool) (c : UInt8) : UInt8 := bif b then c - 32 else c
def odd (k : Nat) (g : Int) : Bool := decide (half k g % 2 = 1)
theorem stepY_odd (g : Int) (i : Nat) (y : Bs) (h : i ≠ 3) : stepY g i y = y.set i (cap (odd (bitOf i) g) (y.getD i 0)) ∨ (odd (bitOf i) g = false ∧ stepY g i y = y) := by
  unfold stepY odd
  by_cases ho : half (bitOf i) g % 2 = 1
  · rw [if_pos ⟨h, ho⟩, decide_eq_true ho]; exact .inl rfl
  · rw [if_neg (fun hh => ho hh.2), decide_eq_false ho]; exact .inr ⟨rfl, rfl⟩
theorem stepY_is (g : Int) (i : Nat) (y : Bs) (h : i ≠ 3) (hi : i < y.length) : stepY g i y = y.set i (cap (odd (bitOf i) g) (y.getD i 0)) := by
  rcases stepY_odd g i y h with e | ⟨e1, e2⟩
  · exact e
  · rw [e2, e1]
    have e3 : y.getD i 0 = y[i] := by simp [List.getD, hi]
    show y = y.set i (y.getD i 0)
    rw [e3, List.set_getElem_self]
theorem names_end (F : Nat) (m w g : Int) (x30 y : Bs) (k : Nat) : law05_CronNames_L2 F m w g x30 (k + 1) (((7 : Nat) : Int), y) = law05_CronNames_j1 F m w x30 y := by
  show law05_CronNames_B2 F m w g x30 (law05_CronNames_L2 F m w g x30 k) ((7 : Nat) : Int) y = _
  unfold law05_CronNames_B2
  rw [bF (by omega)]
theorem names_run (F : Nat) (hF : 10 < F) (m w g : Int) (k : Nat) (hg : 0 ≤ g ∧ g ≤ 63) (c0 c1 c2 d0 d1 d2 : UInt8) : law05_CronNames_L2 F m w g [c0, c1, c2, 32, d0, d1, d2] (k + 1 + 1 + 1 + 1 + 1 + 1 + 1 + 1) (((0 : Nat) : Int), [c0, c1, c2, 32, d0, d1, d2]) =
    law05_CronNames_j1 F m w [c0, c1, c2, 32, d0, d1, d2] [cap (odd 0 g) c0, cap (odd 1 g) c1, cap (odd 2 g) c2, 32, cap (odd 3 g) d0, cap (odd 4 g) d1, cap (odd 5 g) d2] := by
  have st := fun (k i : Nat) (y : Bs) (hi : i < 7) (hy : y.length = 7) => names_step F hF m w g [c0, c1, c2, 32, d0, d1, d2] y k i hi rfl hy hg
  have s3 : ∀ y : Bs, stepY g 3 y = y := fun y => by unfold stepY; rw [if_neg (fun h => h.1 rfl)]
  rw [st _ 0 _ (by omega) rfl, stepY_is g 0 _ (by omega) (by simp)]
  simp only [List.set_cons_zero, List.getD_cons_zero]
  rw [st _ 1 _ (by omega) rfl, stepY_is g 1 _ (by omega) (by simp)]
  simp only [List.set_cons_succ, List.set_cons_zero, List.getD_cons_succ, List.getD_cons_zero]
  rw [st _ 2 _ (by omega) rfl, stepY_is g 2 _ (by omega) (by simp)]
  simp only [List.set_cons_succ, List.set_cons_zero, List.getD_cons_succ, List.getD_cons_zero]
  rw [st _ 3 _ (by omega) rfl, s3]
  rw [st _ 4 _ (by omega) rfl, stepY_is g 4 _ (by omega) (by simp)]
  simp only [List.set_cons_succ, List.set_cons_zero, List.getD_cons_succ, List.getD_cons_zero]
  rw [st _ 5 _ (by omega) rfl, stepY_is g 5 _ (by omega) (by simp)]
  simp only [List.set_cons_succ, List.set_cons_zero, List.getD_cons_succ, List.getD_cons_zero]
  rw [st _ 6 _ (by omega) rfl, stepY_is g 6 _ (by omega) (by simp)]
  simp only [List.set_cons_succ, List.set_cons_zero, List.getD_cons_succ, List.getD_cons_zero]
  have q0 : bitOf 0 = 0 := rfl
  have q1 : bitOf 1 = 1 := rfl
  have q2 : bitOf 2 = 2 := rfl
  have q4 : bitOf 4 = 3 := rfl
  have q5 : bitOf 5 = 4 := rfl
  have q6 : bitOf 6 = 5 := rfl
  simp only [Nat.reduceAdd]
  rw [names_end, q0, q1, q2, q4, q5, q6]
def mn (m : Nat) (i : Nat) : UInt8 := lcronnames_k1.getD (3 * m + i) 0
def wn (w : Nat) (i : Nat) : UInt8 := lcronnames_k2.getD (3 * w + i) 0
theorem mon_ok : ∀ (m : Fin 12) (b0 b1 b2 : Bool), P_ 3 [cap b0 (mn m.val 0), cap b1 (mn m.val 1), cap b2 (mn m.val 2)] = some [(m.val : Int) + 1] ∧ (∀ b ∈ [cap b0 (mn m.val 0), cap b1 (mn m.val 1), cap b2 (mn m.val 2)], b ≠ 32) := by decide +kernel
theorem day_ok : ∀ (w : Fin 7) (b0 b1 b2 : Bool), P_ 4 [cap b0 (wn w.val 0), cap b1 (wn w.val 1), cap b2 (wn w.val 2)] = some [(w.val : Int)] ∧ (∀ b ∈ [cap b0 (wn w.val 0), cap b1 (wn w.val 1), cap b2 (wn w.val 2)], b ≠ 32) := by decide +kernel
theorem mon_sub : ∀ m : Fin 12, sub lcronnames_k1 ((3 * ((m.val : Int) + 1)) - 3) (3 * ((m.val : Int) + 1)) = [mn m.val 0, mn m.val 1, mn m.val 2] := by decide +kernel
theorem day_sub : ∀ w : Fin 7, sub lcronnames_k2 (3 * (w.val : Int)) ((3 * (w.val : Int)) + 3) = [wn w.val 0, wn w.val 1, wn w.val 2] := by decide +kernel
theorem zero_ok : P_ 0 [48] = some [0] ∧ P_ 1 [48] = some [0] ∧ P_ 4 [55] = some [0] := by decide +kernel
theorem seven : cronOf [48, 32, 48, 32, 42, 32, 42, 32, 55] = ([0], [0], full 2, full 3, [0], false, false, true, true, false, 0) := by
  have e : sp 32 [48, 32, 48, 32, 42, 32, 42, 32, 55] = [[48], [48], [42], [42], [55]] := by decide
  unfold cronOf
  rw [if_neg (by simp), e, cronL_5, zero_ok.1, zero_ok.2.1, zero_ok.2.2, P_star 2 (by omega), P_star 3 (by omega)]; rfl
theorem CronNames_t (m w g : Int) : law05_CronNames 1001 m w g = some true := by
  unfold law05_CronNames
  rw [awake05f, bnd_some]
  cases hc : ((((((!true) || (decide (m < 1))) || (decide (12 < m))) || (decide (w < 0))) || (decide (6 < w))) || (decide (g < 0))) || (decide (63 < g)) with
  | true => rfl
  | false =>
    simp only [Bool.or_eq_false_iff, decide_eq_false_iff_not] at hc
    obtain ⟨⟨⟨⟨⟨⟨_, h1⟩, h2⟩, h3⟩, h4⟩, h5⟩, h6⟩ := hc
    obtain ⟨km, rfl⟩ : ∃ k : Nat, m = (k : Int) + 1 := ⟨(m - 1).toNat, by omega⟩
    obtain ⟨kw, rfl⟩ : ∃ k : Nat, w = k := ⟨w.toNat, by omega⟩
    have hkm : km < 12 := by omega
    have hkw : kw < 7 := by omega
    have sm := mon_sub ⟨km, hkm⟩
    have sw := day_sub ⟨kw, hkw⟩
    simp only at sm sw
    have l1 : lcronnames_k1.length = 36 := rfl
    have l2 : lcronnames_k2.length = 21 := rfl
    rw [cond_false, grd_I (by omega), grd_I (by omega), grd_I (by omega), grd_Sub (by rw [l1]; omega), lt_eq, sm, grd_Cat (by simp), lt_eq, grd_I (by omega), grd_I (by omega), grd_I (by omega), grd_Sub (by rw [l2]; omega), lt_eq, sw, grd_Cat (by simp), lt_eq]
    have ex : (([mn km 0, mn km 1, mn km 2] : Bs) ++ [32]) ++ [wn kw 0, wn kw 1, wn kw 2] = [mn km 0, mn km 1, mn km 2, 32, wn kw 0, wn kw 1, wn kw 2] := rfl
    have hrun := names_run 1001 (by omega) ((km : Int) + 1) (kw : Int) g 993 (by omega) (mn km 0) (mn km 1) (mn km 2) (wn kw 0) (wn kw 1) (wn kw 2)
    have hz : ((0 : Nat) : Int) = 0 := rfl
    rw [show (993 + 1 + 1 + 1 + 1 + 1 + 1 + 1 + 1 : Nat) = 1001 from rfl, hz] at hrun
    rw [ex, grd_Cat (by simp), hrun]
    obtain ⟨pm, nm⟩ := mon_ok ⟨km, hkm⟩ (odd 0 g) (odd 1 g) (odd 2 g)
    obtain ⟨pw, nw⟩ := day_ok ⟨kw, hkw⟩ (odd 3 g) (odd 4 g) (odd 5 g)
    simp only at pm nm pw nw
    have hco : cronOf ([48, 32, 48, 32, 42, 32] ++ [cap (odd 0 g) (mn km 0), cap (odd 1 g) (mn km 1), cap (odd 2 g) (mn km 2), 32, cap (odd 3 g) (wn kw 0), cap (odd 4 g) (wn kw 1), cap (odd 5 g) (wn kw 2)]) =
        ([0], [0], full 2, [(km : Int) + 1], [(kw : Int)], false, false, true, star [cap (odd 0 g) (mn km 0), cap (odd 1 g) (mn km 1), cap (odd 2 g) (mn km 2)], star [cap (odd 3 g) (wn kw 0), cap (odd 4 g) (wn kw 1), cap (odd 5 g) (wn kw 2)], 0) := by
      have e1 : sp 32 ([48, 32, 48, 32, 42, 32] ++ [cap (odd 0 g) (mn km 0), cap (odd 1 g) (mn km 1), cap (odd 2 g) (mn km 2), 32, cap (odd 3 g) (wn kw 0), cap (odd 4 g) (wn kw 1), cap (odd 5 g) (wn kw 2)]) =
          [[48], [48], [42], [cap (odd 0 g) (mn km 0), cap (odd 1 g) (mn km 1), cap (odd 2 g) (mn km 2)], [cap (odd 3 g) (wn kw 0), cap (odd 4 g) (wn kw 1), cap (odd 5 g) (wn kw 2)]] := by
        have a1 := sp_append (c := 32) [cap (odd 0 g) (mn km 0), cap (odd 1 g) (mn km 1), cap (odd 2 g) (mn km 2)] [cap (odd 3 g) (wn kw 0), cap (odd 4 g) (wn kw 1), cap (odd 5 g) (wn kw 2)] nm
        rw [sp_no nw] at a1
        have a2 := fun r => sp_append (c := 32) [42] r (by decide)
        have a3 := fun r => sp_append (c := 32) [48] r (by decide)
        refine (a3 _).trans ?_
        congr 1
        refine (a3 _).trans ?_
        congr 1
        refine (a2 _).trans ?_
        congr 1
      unfold cronOf
      rw [if_neg (by simp), e1, cronL_5, zero_ok.1, zero_ok.2.1, P_star 2 (by omega), pm, pw]; rfl
    unfold law05_CronNames_j1
    rw [grd_D (by simp), grd_Cat (by simp), lt_eq, Parse_eq 1001 (by omega) _ (by simp), bnd_some, hco, Parse_eq 1001 (by omega) _ (by simp), bnd_some, seven]
    have o1 : ∀ (c : Bool) (n : Int) (q : Option Bool), grdc c (okAt 0 ([n] : List Int).length) q = q := fun c n q => grdc_At (fun _ => by simp)
    have at0 : ∀ n : Int, at_ ([n] : List Int) 0 = n := fun n => rfl
    simp only [o1, lt_eq, at0, decide_true, Bool.true_and, List.length_singleton]
    rfl
end Go.Cn
