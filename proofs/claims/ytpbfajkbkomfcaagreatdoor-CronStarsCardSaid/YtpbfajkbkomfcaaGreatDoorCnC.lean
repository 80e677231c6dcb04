/-
  Schedules: which day and time matches; CronStars. No program is spoken of.
-/
import Derived.Test.YtpbfajkbkomfcaaGreatDoorCnB
import Derived.Test.YtpbfajkbkomfcaaGreatDoorLCronStarsP
set_option linter.unusedVariables false
set_option linter.unusedSimpArgs false
namespace Go.Cn
open Go.Pv Go.Av

def mayT (y m d h mi s : Int) : Bool := ((okDay y m d && (decide (0 ≤ h) && decide (h < 24))) && (decide (0 ≤ mi) && decide (mi < 60))) && (decide (0 ≤ s) && decide (s < 60))
theorem StMay_eq (F : Nat) (y m d h mi s : Int) : stamp_May F y m d h mi s = some (mayT y m d h mi s) := by
  unfold stamp_May mayT stamp_in
  rw [Ord_eq]
  cases okDay y m d with
  | false => rfl
  | true =>
    rw [cond_true, bnd2_some]
    have e : (decide ((0 : Int) = 0)) = true := by decide
    simp only [e, bndc_t, Bool.true_and]
    cases (decide (0 ≤ h) && decide (h < 24)) with
    | false => rfl
    | true => cases (decide (0 ≤ mi) && decide (mi < 60)) <;> rfl
def matchB (a1 a2 a3 a4 a5 : List Int) (a6 a7 a8 a9 a10 : Bool) (y m d h mi s : Int) : Bool :=
  (((mayT y m d h mi s && decide (s = 0)) && decide (mi ∈ a1)) && decide (h ∈ a2)) && dayB a1 a2 a3 a4 a5 a6 a7 a8 a9 a10 y m d
section
variable (F : Nat) (hF : 101 < F) (a1 a2 a3 a4 a5 : List Int) (a6 a7 a8 a9 a10 : Bool) (h1 : a1.length ≤ 100) (h2 : a2.length ≤ 100) (h3 : a3.length ≤ 100) (h4 : a4.length ≤ 100) (h5 : a5.length ≤ 100)
include hF h1 h2 h3 h4 h5
theorem Match_eq (y m d h mi s : Int) : cron_Match F a1 a2 a3 a4 a5 a6 a7 a8 a9 a10 y m d h mi s = some (matchB a1 a2 a3 a4 a5 a6 a7 a8 a9 a10 y m d h mi s) := by
  have e0 : cron_has F a1 a2 a3 a4 a5 a6 a7 a8 a9 a10 0 mi = some (decide (mi ∈ a1)) := has_eq F a1 a2 a3 a4 a5 a1 a6 a7 a8 a9 a10 0 mi (by omega) rfl (by omega) (by omega)
  have e1 : cron_has F a1 a2 a3 a4 a5 a6 a7 a8 a9 a10 1 h = some (decide (h ∈ a2)) := has_eq F a1 a2 a3 a4 a5 a2 a6 a7 a8 a9 a10 1 h (by omega) rfl (by omega) (by omega)
  have hD := Day_eq F hF a1 a2 a3 a4 a5 a6 a7 a8 a9 a10 h1 h2 h3 h4 h5 y m d
  unfold cron_Match matchB
  rw [StMay_eq, bnd_some, e0, e1, hD]
  cases mayT y m d h mi s && decide (s = 0) with
  | false => rfl
  | true =>
    cases decide (mi ∈ a1) with
    | false => rfl
    | true => cases decide (h ∈ a2) <;> rfl
end

def HH : List Int := [0, 1, 2, 3, 4, 5, 6, 7, 8, 9, 10, 11, 12, 13, 14, 15, 16, 17, 18, 19, 20, 21, 22, 23]
def DD : List Int := [1, 2, 3, 4, 5, 6, 7, 8, 9, 10, 11, 12, 13, 14, 15, 16, 17, 18, 19, 20, 21, 22, 23, 24, 25, 26, 27, 28, 29, 30, 31]
def MM : List Int := [1, 2, 3, 4, 5, 6, 7, 8, 9, 10, 11, 12]
def WW : List Int := [0, 1, 2, 3, 4, 5, 6]
def NN : List Int := HH ++ [24, 25, 26, 27, 28, 29, 30, 31, 32, 33, 34, 35, 36, 37, 38, 39, 40, 41, 42, 43, 44, 45, 46, 47, 48, 49, 50, 51, 52, 53, 54, 55, 56, 57, 58, 59]
theorem match_star (a1 : List Int) (a6 : Bool) (hl : a1.length ≤ 100) (hf : fieldOk 0 59 a1 a6 = true) (y m d h mi s : Int) :
    cron_Match 1000 a1 HH DD MM WW a6 true true true true y m d h mi s = some ((mayT y m d h mi s && decide (s = 0)) && decide (mi ∈ a1)) := by
  rw [Match_eq 1000 (by omega) a1 HH DD MM WW a6 true true true true hl (by decide) (by decide) (by decide) (by decide)]
  congr 1
  unfold matchB
  cases hm : mayT y m d h mi s with
  | false => rfl
  | true =>
    have hm' := hm
    unfold mayT at hm'
    simp only [Bool.and_eq_true, decide_eq_true_eq] at hm'
    obtain ⟨⟨⟨ho, hh⟩, _⟩, _⟩ := hm'
    obtain ⟨_, d2, d3⟩ := okDay_s ho
    have hw := wday_range (num y m d)
    have f2 : fieldOk 0 23 HH true = true := by decide +kernel
    have f3 : fieldOk 1 31 DD true = true := by decide +kernel
    have f4 : fieldOk 1 12 MM true = true := by decide +kernel
    have f5 : fieldOk 0 6 WW true = true := by decide +kernel
    have e2 : decide (h ∈ HH) = true := decide_eq_true (star_all f2 hh.1 (by omega))
    have e3 : decide (d ∈ DD) = true := decide_eq_true (star_all f3 d3.1 d3.2)
    have e4 : decide (m ∈ MM) = true := decide_eq_true (star_all f4 d2.1 d2.2)
    have e5 : decide (wday (num y m d) ∈ WW) = true := decide_eq_true (star_all f5 hw.1 hw.2)
    have e : dayB a1 HH DD MM WW a6 true true true true y m d = true := by
      unfold dayB mayB
      rw [ho, hf, f2, f3, f4, f5, e3, e4, e5]; rfl
    rw [e, e2]
    simp only [Bool.and_true]

def starsT : List UInt8 := [32, 42, 32, 42, 32, 42, 32, 42]
instance decP9 : DecidableEq (Bool × Int) := fun a b => instDecidableEqProd a b
instance decP8 : DecidableEq (Bool × Bool × Int) := fun a b => instDecidableEqProd a b
instance decP7 : DecidableEq (Bool × Bool × Bool × Int) := fun a b => instDecidableEqProd a b
instance decP6 : DecidableEq (Bool × Bool × Bool × Bool × Int) := fun a b => instDecidableEqProd a b
instance decP5 : DecidableEq (Bool × Bool × Bool × Bool × Bool × Int) := fun a b => instDecidableEqProd a b
instance decP4 : DecidableEq ((List Int) × Bool × Bool × Bool × Bool × Bool × Int) := fun a b => instDecidableEqProd a b
instance decP3 : DecidableEq ((List Int) × (List Int) × Bool × Bool × Bool × Bool × Bool × Int) := fun a b => instDecidableEqProd a b
instance decP2 : DecidableEq ((List Int) × (List Int) × (List Int) × Bool × Bool × Bool × Bool × Bool × Int) := fun a b => instDecidableEqProd a b
instance decP1 : DecidableEq ((List Int) × (List Int) × (List Int) × (List Int) × Bool × Bool × Bool × Bool × Bool × Int) := fun a b => instDecidableEqProd a b
instance decP0 : DecidableEq ((List Int) × (List Int) × (List Int) × (List Int) × (List Int) × Bool × Bool × Bool × Bool × Bool × Int) := fun a b => instDecidableEqProd a b
theorem parse_star : cron_Parse 1000 [42, 32, 42, 32, 42, 32, 42, 32, 42] = some (NN, HH, DD, MM, WW, true, true, true, true, true, 0) := by decide +kernel
def dg (n : Int) : List UInt8 := (law05_digits 1000 n).getD []
theorem parse_one : ∀ m : Fin 60, law05_digits 1000 (m.val : Int) = some (dg (m.val : Int)) ∧ okCat ((dg (m.val : Int)).length + starsT.length) = true ∧
    cron_Parse 1000 (dg (m.val : Int) ++ starsT) = some ([(m.val : Int)], HH, DD, MM, WW, false, true, true, true, true, 0) := by decide +kernel

theorem CronStars_t (y m d h mi s n : Int) : law05_CronStars 1000 y m d h mi s n = some true := by
  unfold law05_CronStars
  rw [awake05, bnd_some]
  cases hc : ((!true) || (decide (n < 0))) || (decide (59 < n)) with
  | true => rfl
  | false =>
    simp only [Bool.or_eq_false_iff, decide_eq_false_iff_not] at hc
    obtain ⟨k, rfl⟩ : ∃ k : Nat, n = k := ⟨n.toNat, by omega⟩
    obtain ⟨q1, q2, q3⟩ := parse_one ⟨k, by omega⟩
    rw [cond_false, parse_star, bnd_some, q1, bnd_some]
    have q2' : okCat ((dg (k : Int)).length + ([32, 42, 32, 42, 32, 42, 32, 42] : List UInt8).length) = true := q2
    have q3' : cron_Parse 1000 (dg (k : Int) ++ [32, 42, 32, 42, 32, 42, 32, 42]) = _ := q3
    rw [q2', grd_t, lt_eq, q3', bnd_some, StMay_eq, match_star NN true (by decide) (by decide +kernel)]
    have f1 : fieldOk 0 59 [(k : Int)] false = true := by
      unfold fieldOk rises rz rz
      have a : decide (0 ≤ (k : Int)) = true := decide_eq_true (by omega)
      have b : decide ((k : Int) ≤ 59) = true := decide_eq_true (by omega)
      rw [a, b]; rfl
    rw [match_star [(k : Int)] false (by simp) f1]
    have e : decide ((0 : Int) = 0) = true := by decide
    simp only [e, Bool.not_true, Bool.or_self, cond_false, bnd_some]
    cases hm : mayT y m d h mi s with
    | false => rfl
    | true =>
      have hm' := hm
      unfold mayT at hm'
      simp only [Bool.and_eq_true, decide_eq_true_eq] at hm'
      have e6 : decide (mi ∈ NN) = true := decide_eq_true (star_all (lo := 0) (up := 59) (by decide +kernel) hm'.1.2.1 (by omega))
      have e7 : decide (mi ∈ [(k : Int)]) = decide (mi = (k : Int)) := by simp
      rw [e6, e7]
      cases decide (s = 0) <;> cases decide (mi = (k : Int)) <;> rfl
end Go.Cn
