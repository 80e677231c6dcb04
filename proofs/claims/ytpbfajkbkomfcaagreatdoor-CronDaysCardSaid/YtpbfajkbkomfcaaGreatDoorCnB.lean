/-
  Schedules: which days and times are theirs; CronDays. No program is spoken of.
-/
import Derived.Test.YtpbfajkbkomfcaaGreatDoorCnA
import Derived.Test.YtpbfajkbkomfcaaGreatDoorLCronDaysP
set_option linter.unusedVariables false
set_option linter.unusedSimpArgs false
namespace Go.Cn
open Go.Pv Go.Av

theorem awake05 : law05_awake 1000 = some true := by decide +kernel

theorem few_step (a1 a2 a3 a4 a5 x : List Int) (n i : Nat) (r : Bool) (hi : i < 5) (hx : at_ ([a1, a2, a3, a4, a5] : List (List Int)) (i : Int) = x) (h : law05_Few_L1 a1 a2 a3 a4 a5 n ((i + 1 : Nat) : Int) = some r) :
    law05_Few_L1 a1 a2 a3 a4 a5 (n + 1) (i : Int) = some (decide (x.length ≤ 100) && r) := by
  show law05_Few_B1 a1 a2 a3 a4 a5 (law05_Few_L1 a1 a2 a3 a4 a5 n) (i : Int) = _
  unfold law05_Few_B1
  rw [bT (by omega), grd_At (by omega), lt_eq, hx]
  by_cases hc : x.length ≤ 100
  · rw [bF (by omega), grd_I (by omega), cast_succ, h, decide_eq_true hc, Bool.true_and]
  · rw [bT (by omega), decide_eq_false hc, Bool.false_and]
def fewB (a1 a2 a3 a4 a5 : List Int) : Bool := decide (a1.length ≤ 100) && (decide (a2.length ≤ 100) && (decide (a3.length ≤ 100) && (decide (a4.length ≤ 100) && decide (a5.length ≤ 100))))
theorem Few_eq (F : Nat) (hF : 6 ≤ F) (a1 a2 a3 a4 a5 : List Int) (a6 a7 a8 a9 a10 : Bool) : law05_Few F a1 a2 a3 a4 a5 a6 a7 a8 a9 a10 = some (fewB a1 a2 a3 a4 a5) := by
  obtain ⟨n, rfl⟩ : ∃ n, F = n + 1 + 5 := ⟨F - 6, by omega⟩
  have h5 : law05_Few_L1 a1 a2 a3 a4 a5 (n + 1) ((5 : Nat) : Int) = some true := by
    show law05_Few_B1 a1 a2 a3 a4 a5 (law05_Few_L1 a1 a2 a3 a4 a5 n) ((5 : Nat) : Int) = _
    unfold law05_Few_B1 law05_Few_j1
    rw [bF (by omega)]
  have h4 := few_step a1 a2 a3 a4 a5 a5 (n + 1) 4 true (by omega) rfl h5
  have h3 := few_step a1 a2 a3 a4 a5 a4 _ 3 _ (by omega) rfl h4
  have h2 := few_step a1 a2 a3 a4 a5 a3 _ 2 _ (by omega) rfl h3
  have h1 := few_step a1 a2 a3 a4 a5 a2 _ 1 _ (by omega) rfl h2
  have h0 := few_step a1 a2 a3 a4 a5 a1 _ 0 _ (by omega) rfl h1
  rw [Bool.and_true] at h0
  exact h0
theorem few_s {a1 a2 a3 a4 a5 : List Int} (h : fewB a1 a2 a3 a4 a5 = true) : a1.length ≤ 100 ∧ a2.length ≤ 100 ∧ a3.length ≤ 100 ∧ a4.length ≤ 100 ∧ a5.length ≤ 100 := by
  unfold fewB at h
  simpa using h

theorem has_eq (F : Nat) (a1 a2 a3 a4 a5 x : List Int) (a6 a7 a8 a9 a10 : Bool) (i : Nat) (n : Int) (hi : i < 5) (hx : at_ ([a1, a2, a3, a4, a5] : List (List Int)) (i : Int) = x) (hl : x.length ≤ 1000) (hF : x.length < F) :
    cron_has F a1 a2 a3 a4 a5 a6 a7 a8 a9 a10 (i : Int) n = some (decide (n ∈ x)) := by
  unfold cron_has
  rw [grd_At (by omega), lt_eq, hx, Contains_eq F x n (by omega) hF, bnd_some]

def dayB (a1 a2 a3 a4 a5 : List Int) (a6 a7 a8 a9 a10 : Bool) (y m d : Int) : Bool :=
  bif okDay y m d && (mayB a1 a2 a3 a4 a5 a6 a7 a8 a9 a10 && decide (m ∈ a4)) then
    bif a8 || a10 then decide (d ∈ a3) && decide (wday (num y m d) ∈ a5) else decide (d ∈ a3) || decide (wday (num y m d) ∈ a5)
  else false
theorem rz_len (lo up : Int) : ∀ (l : List Int) (q : Int), q ≤ up → rz lo up (some q) l = true → (l.length : Int) ≤ up - q := by
  intro l
  induction l with
  | nil => intro q h _; simp; omega
  | cons x r ih =>
    intro q hq h
    simp only [rz, Bool.and_eq_true, decide_eq_true_eq] at h
    have := ih x (by omega) h.2
    simp only [List.length_cons]; omega
theorem rz_all (lo up : Int) : ∀ (l : List Int) (p : Option Int) (k : Int), (p = none ∧ k = lo ∨ p = some (k - 1)) → rz lo up p l = true → up - k + 1 ≤ (l.length : Int) → ∀ n, k ≤ n → n ≤ up → lo ≤ k → n ∈ l := by
  intro l
  induction l with
  | nil => intro p k _ _ hl n h1 h2 _; simp at hl; omega
  | cons x r ih =>
    intro p k hp h hl n h1 h2 h3
    simp only [rz, Bool.and_eq_true, decide_eq_true_eq] at h
    have hx : k ≤ x := by
      rcases hp with ⟨rfl, rfl⟩ | rfl
      · exact h.1.1.1
      · have := h.1.2; simp at this; omega
    have hlen := rz_len lo up r x h.1.1.2 h.2
    simp only [List.length_cons] at hl
    have hxk : x = k := by omega
    by_cases hn : n = x
    · rw [hn]; exact List.mem_cons_self ..
    · refine List.mem_cons_of_mem _ (ih (some x) (k + 1) (.inr (by rw [hxk]; congr 1; omega)) h.2 (by omega) n (by omega) h2 (by omega))
theorem star_all {lo up : Int} {l : List Int} (h : fieldOk lo up l true = true) {n : Int} (h1 : lo ≤ n) (h2 : n ≤ up) : n ∈ l := by
  unfold fieldOk rises at h
  simp only [Bool.and_eq_true, Bool.true_and, Bool.not_eq_true', decide_eq_false_iff_not] at h
  exact rz_all lo up l none lo (.inl ⟨rfl, rfl⟩) h.1.2 (by omega) n h1 h2 (Int.le_refl _)
theorem may_s {a1 a2 a3 a4 a5 : List Int} {a6 a7 a8 a9 a10 : Bool} (h : mayB a1 a2 a3 a4 a5 a6 a7 a8 a9 a10 = true) : fieldOk 0 59 a1 a6 = true ∧ fieldOk 0 23 a2 a7 = true ∧ fieldOk 1 31 a3 a8 = true ∧ fieldOk 1 12 a4 a9 = true ∧ fieldOk 0 6 a5 a10 = true := by
  unfold mayB at h
  simpa only [Bool.and_eq_true] using h
theorem wday_range (n : Int) : 0 ≤ wday n ∧ wday n ≤ 6 := by
  unfold wday
  have h3 := Int.tmod_lt_of_pos (n + 4) (show (0 : Int) < 7 by omega)
  have h4 := Int.lt_tmod_of_pos (n + 4) (show (0 : Int) < 7 by omega)
  have h5 := Int.tmod_lt_of_pos (Int.tmod (n + 4) 7 + 7) (show (0 : Int) < 7 by omega)
  have h6 := Int.tmod_nonneg 7 (show 0 ≤ Int.tmod (n + 4) 7 + 7 by omega)
  omega

section
variable (F : Nat) (hF : 101 < F) (a1 a2 a3 a4 a5 : List Int) (a6 a7 a8 a9 a10 : Bool) (h1 : a1.length ≤ 100) (h2 : a2.length ≤ 100) (h3 : a3.length ≤ 100) (h4 : a4.length ≤ 100) (h5 : a5.length ≤ 100)
include hF h1 h2 h3 h4 h5
theorem Day_eq (y m d : Int) : cron_Day F a1 a2 a3 a4 a5 a6 a7 a8 a9 a10 y m d = some (dayB a1 a2 a3 a4 a5 a6 a7 a8 a9 a10 y m d) := by
  have e3 : cron_has F a1 a2 a3 a4 a5 a6 a7 a8 a9 a10 3 m = some (decide (m ∈ a4)) := has_eq F a1 a2 a3 a4 a5 a4 a6 a7 a8 a9 a10 3 m (by omega) rfl (by omega) (by omega)
  have e2 : cron_has F a1 a2 a3 a4 a5 a6 a7 a8 a9 a10 2 d = some (decide (d ∈ a3)) := has_eq F a1 a2 a3 a4 a5 a3 a6 a7 a8 a9 a10 2 d (by omega) rfl (by omega) (by omega)
  have e4 : ∀ n, cron_has F a1 a2 a3 a4 a5 a6 a7 a8 a9 a10 4 n = some (decide (n ∈ a5)) := fun n => has_eq F a1 a2 a3 a4 a5 a5 a6 a7 a8 a9 a10 4 n (by omega) rfl (by omega) (by omega)
  unfold cron_Day dayB
  rw [Ord_eq]
  cases ho : okDay y m d with
  | false =>
    rw [cond_false, bnd2_some]
    have e : (decide ((1 : Int) = 0)) = false := by decide
    simp only [e, Bool.not_false, Bool.not_true, bndc_f, Bool.true_or, cond_true, Bool.false_and, cond_false]
  | true =>
    rw [cond_true, bnd2_some]
    have e : (decide ((0 : Int) = 0)) = true := by decide
    simp only [e, decide_true, Bool.not_true, Bool.not_false, bndc_t, May_eq F (by omega) a1 a2 a3 a4 a5 a6 a7 a8 a9 a10 h1 h2 h3 h4 h5, bnd_some, Bool.false_or, Bool.true_and]
    cases hm : mayB a1 a2 a3 a4 a5 a6 a7 a8 a9 a10 with
    | false => simp only [Bool.not_false, Bool.not_true, bndc_f, Bool.true_or, cond_true, Bool.false_and, cond_false]
    | true =>
      simp only [Bool.not_true, Bool.not_false, bndc_t, e3, bnd_some, Bool.false_or, Bool.true_and]
      cases decide (m ∈ a4) with
      | false => rfl
      | true =>
        simp only [Bool.not_true, cond_false, cond_true, e2, bnd_some, Wday_eq F _ (num_range y m d ho), e4]
        cases a8 || a10 <;> rfl
theorem CronDays_b (y m d : Int) (ha : law05_awake F = some true) : law05_CronDays F a1 a2 a3 a4 a5 a6 a7 a8 a9 a10 y m d = some true := by
  unfold law05_CronDays
  rw [ha, bnd_some, Few_eq F (by omega), bnd_some, Ord_eq]
  have hf : fewB a1 a2 a3 a4 a5 = true := by unfold fewB; simp [h1, h2, h3, h4, h5]
  rw [hf]
  have hM := May_eq F (by omega) a1 a2 a3 a4 a5 a6 a7 a8 a9 a10 h1 h2 h3 h4 h5
  have hD := Day_eq F hF a1 a2 a3 a4 a5 a6 a7 a8 a9 a10 h1 h2 h3 h4 h5 y m d
  have q3 := Has_eq F a3 d (by omega) (by omega)
  have q4 := Has_eq F a4 m (by omega) (by omega)
  have q5 : ∀ n, ref05_Has F a5 n = some (decide (n ∈ a5)) := fun n => Has_eq F a5 n (by omega) (by omega)
  unfold dayB at hD
  cases ho : okDay y m d with
  | false =>
    rw [ho] at hD
    rw [cond_false, bnd2_some]
    have e : (decide ((1 : Int) = 0)) = false := by decide
    simp only [Bool.not_true, Bool.or_self, Bool.not_false, bndc_t, hM, bnd_some, Bool.false_or, e, Bool.false_and, cond_false] at hD ⊢
    cases mayB a1 a2 a3 a4 a5 a6 a7 a8 a9 a10 with
    | false => rfl
    | true => simp only [Bool.not_true, cond_false, hD, bnd_some, Bool.not_false, cond_true]
  | true =>
    rw [ho] at hD
    rw [cond_true, bnd2_some]
    have e : (decide ((0 : Int) = 0)) = true := by decide
    simp only [Bool.not_true, Bool.or_self, Bool.not_false, bndc_t, hM, bnd_some, Bool.false_or, e, decide_true, Bool.true_and] at hD ⊢
    cases hm : mayB a1 a2 a3 a4 a5 a6 a7 a8 a9 a10 with
    | false => rfl
    | true =>
      rw [hm] at hD
      simp only [decide_true, Bool.not_true, cond_false, hD, bnd_some, q3, q4, q5, Wday_eq F _ (num_range y m d ho), Bool.true_and]
      obtain ⟨f1, f2, f3, f4, f5⟩ := may_s hm
      obtain ⟨d1, d2, d3⟩ := okDay_s ho
      have hw := wday_range (num y m d)
      have s8 : a8 = true → decide (d ∈ a3) = true := fun h => by subst h; exact decide_eq_true (star_all f3 d3.1 d3.2)
      have s10 : a10 = true → decide (wday (num y m d) ∈ a5) = true := fun h => by subst h; exact decide_eq_true (star_all f5 hw.1 hw.2)
      clear hD hM f1 f2 f3 f4 f5
      revert s8 s10
      cases decide (m ∈ a4) <;> cases a8 <;> cases a10 <;> cases decide (d ∈ a3) <;> cases decide (wday (num y m d) ∈ a5) <;> intro s8 s10 <;> first | rfl | (cases s8 rfl; done) | (cases s10 rfl; done)
end
theorem CronDays_t (a1 a2 a3 a4 a5 : List Int) (a6 a7 a8 a9 a10 : Bool) (y m d : Int) : law05_CronDays 1000 a1 a2 a3 a4 a5 a6 a7 a8 a9 a10 y m d = some true := by
  cases hf : fewB a1 a2 a3 a4 a5 with
  | true =>
    obtain ⟨h1, h2, h3, h4, h5⟩ := few_s hf
    exact CronDays_b 1000 (by omega) a1 a2 a3 a4 a5 a6 a7 a8 a9 a10 h1 h2 h3 h4 h5 y m d awake05
  | false =>
    unfold law05_CronDays
    rw [awake05, bnd_some, Few_eq 1000 (by omega), bnd_some, hf, Ord_eq]
    cases okDay y m d <;> rfl
end Go.Cn
