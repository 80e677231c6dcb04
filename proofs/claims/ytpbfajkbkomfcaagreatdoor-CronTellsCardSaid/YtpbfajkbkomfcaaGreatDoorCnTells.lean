/-
  Texts in one: CnA, CnB, CnC, CnD, CnE.
-/
import Derived.Test.YtpbfajkbkomfcaaGreatDoorCronBP
import Derived.Test.YtpbfajkbkomfcaaGreatDoorCronQP
import Derived.Test.YtpbfajkbkomfcaaGreatDoorCronLP
import Derived.Test.YtpbfajkbkomfcaaGreatDoorCronSP
import Derived.Test.YtpbfajkbkomfcaaGreatDoorLCronTellsP
set_option linter.unusedVariables false
set_option linter.unusedSimpArgs false
namespace Go.Cn
open Go.Pv Go.Av

theorem has_loop (l : List Int) (n : Int) (hl : l.length ≤ 1000000) : ∀ (k i : Nat), l.length - i < k → i ≤ l.length → ref05_Has_L1 l n k (i : Int) = some (decide (n ∈ l.drop i)) := by
  intro k
  induction k with
  | zero => intro i h; omega
  | succ k ih =>
    intro i hk hi
    show ref05_Has_B1 l n (ref05_Has_L1 l n k) (i : Int) = _
    unfold ref05_Has_B1 ref05_Has_j1
    by_cases h : i < l.length
    · have hd : l.drop i = l[i] :: l.drop (i + 1) := List.drop_eq_getElem_cons h
      simp (disch := omega) only [bT, grd_At, lt_eq, at_nat h, grd_I, cast_succ]
      by_cases hc : l[i] = n
      · rw [bT hc, hd, decide_eq_true]; simp [hc]
      · rw [bF hc, ih (i + 1) (by omega) (by omega), hd]
        simp only [List.mem_cons, show (n = l[i]) = False from eq_false (fun h => hc h.symm), false_or]
    · have : l.drop i = [] := List.drop_eq_nil_of_le (by omega)
      rw [bF (by omega), this]; simp
theorem Has_eq (F : Nat) (l : List Int) (n : Int) (hl : l.length ≤ 1000000) (hF : l.length < F) : ref05_Has F l n = some (decide (n ∈ l)) := by
  have := has_loop l n hl F 0 (by omega) (by omega)
  rw [List.drop_zero] at this
  exact this

theorem index_loop (l : List Int) (n : Int) (hl : l.length ≤ 1000000) : ∀ (k i : Nat), l.length - i < k → i ≤ l.length → ∃ z, sl_Index_L1 l n k (i : Int) = some z ∧ (0 ≤ z ↔ n ∈ l.drop i) := by
  intro k
  induction k with
  | zero => intro i h; omega
  | succ k ih =>
    intro i hk hi
    show ∃ z, sl_Index_B1 l n (sl_Index_L1 l n k) (i : Int) = some z ∧ _
    unfold sl_Index_B1 sl_Index_j1
    by_cases h : i < l.length
    · have hd : l.drop i = l[i] :: l.drop (i + 1) := List.drop_eq_getElem_cons h
      simp (disch := omega) only [bT, grd_At, lt_eq, at_nat h, grd_I, cast_succ]
      by_cases hc : n = l[i]
      · rw [bT hc]
        refine ⟨_, rfl, ?_⟩
        rw [hd, hc]
        exact ⟨fun _ => List.mem_cons_self .., fun _ => by omega⟩
      · rw [bF hc]
        obtain ⟨z, h1, h2⟩ := ih (i + 1) (by omega) (by omega)
        exact ⟨z, h1, by rw [h2, hd, List.mem_cons, show (n = l[i]) = False from eq_false hc, false_or]⟩
    · have : l.drop i = [] := List.drop_eq_nil_of_le (by omega)
      rw [bF (by omega), this]
      exact ⟨_, rfl, by simp⟩
theorem Contains_eq (F : Nat) (l : List Int) (n : Int) (hl : l.length ≤ 1000000) (hF : l.length < F) : sl_Contains F l n = some (decide (n ∈ l)) := by
  obtain ⟨z, h1, h2⟩ := index_loop l n hl F 0 (by omega) (by omega)
  have h1' : sl_Index F l n = some z := h1
  unfold sl_Contains
  rw [h1', bnd_some]
  rw [List.drop_zero] at h2
  congr 1
  rw [Bool.eq_iff_iff, decide_eq_true_iff, decide_eq_true_iff, h2]

/-- Do numbers rise, within bounds? -/
def rz (lo hi : Int) : Option Int → List Int → Bool
  | _, [] => true
  | p, n :: r => (decide (lo ≤ n) && decide (n ≤ hi) && (match p with | some q => decide (q < n) | none => true)) && rz lo hi (some n) r
def rises (lo hi : Int) (l : List Int) : Bool := !l.isEmpty && rz lo hi none l

theorem rises_loop (lo up : Int) (l : List Int) (hl : l.length ≤ 1000000) : ∀ (k i : Nat) (p : Option Int), l.length - i < k → i ≤ l.length → (i = 0 → p = none) → (∀ h : 0 < i ∧ i ≤ l.length, p = some (l[i - 1]'(by omega))) →
    cron_rises_L1 lo up l k (i : Int) = some (rz lo up p (l.drop i) && decide (0 < (l.length : Int))) := by
  intro k
  induction k with
  | zero => intro i p h; omega
  | succ k ih =>
    intro i p hk hi hp0 hp1
    show cron_rises_B1 lo up l (cron_rises_L1 lo up l k) (i : Int) = _
    unfold cron_rises_B1 cron_rises_j1
    by_cases h : i < l.length
    · have hd : l.drop i = l[i] :: l.drop (i + 1) := List.drop_eq_getElem_cons h
      have hg : ∀ (q : Bool) (x : Option Bool), grdc (q && decide (0 < (i : Int))) (okI ((i : Int) - 1)) x = x := fun q x => by
        cases q && decide (0 < (i : Int)) with
        | false => exact grdc_f
        | true => rw [grdc_t, grd_I (by omega)]
      have hg2 : ∀ (q : Bool) (x : Option Bool), grdc (q && decide (0 < (i : Int))) (okAt ((i : Int) - 1) l.length) x = x := fun q x => grdc_At (fun hh => by
        simp only [Bool.and_eq_true, decide_eq_true_eq] at hh; omega)
      simp (disch := omega) only [bT, grd_At, lt_eq, at_nat h, hg, hg2]
      rw [hd]
      simp only [rz]
      by_cases h1 : l[i] < lo
      · have h2 : ¬ lo ≤ l[i] := by omega
        rw [decide_eq_true h1]
        simp [h2]
      · have h1' : lo ≤ l[i] := by omega
        by_cases h2 : up < l[i]
        · have h3 : ¬ l[i] ≤ up := by omega
          rw [decide_eq_true h2]
          simp [h3]
        · have h2' : l[i] ≤ up := by omega
          rw [decide_eq_false h1, decide_eq_false h2]
          have hih := ih (i + 1) (some l[i]) (by omega) (by omega) (by omega) (fun _ => rfl)
          by_cases h0 : i = 0
          · subst h0
            rw [hp0 rfl]
            simp (disch := omega) only [grd_I, cast_succ]
            simp [h1', h2', hih]
            have := hih
            simpa using this
          · have hpv := hp1 ⟨by omega, by omega⟩
            obtain ⟨j, rfl⟩ : ∃ j, i = j + 1 := ⟨i - 1, by omega⟩
            have e1 : at_ l (((j + 1 : Nat) : Int) - 1) = l[j] := by
              have : (((j + 1 : Nat) : Int) - 1) = (j : Int) := by omega
              rw [this, at_nat (by omega)]
            have e2 : p = some l[j] := hpv
            rw [e1, e2]
            have e3 : decide (0 < ((j + 1 : Nat) : Int)) = true := decide_eq_true (by omega)
            rw [e3]
            by_cases hlt : l[j] < l[j + 1]
            · have hle : ¬ l[j + 1] ≤ l[j] := by omega
              simp (disch := omega) only [grd_I, cast_succ]
              simp only [decide_eq_false hle, decide_eq_true hlt, decide_eq_true h1', decide_eq_true h2', Bool.or_self, Bool.true_and, Bool.and_self, cond_false]
              exact hih
            · have hle : l[j + 1] ≤ l[j] := by omega
              simp [hle, hlt]
    · have : l.drop i = [] := List.drop_eq_nil_of_le (by omega)
      rw [bF (by omega), this]; rfl
theorem rises_eq (F : Nat) (lo hi ov : Int) (nm : List UInt8) (l : List Int) (hl : l.length ≤ 1000000) (hF : l.length < F) : cron_rises F lo hi nm ov l = some (rises lo hi l) := by
  have := rises_loop lo hi l hl F 0 none (by omega) (by omega) (fun _ => rfl) (fun h => absurd h.1 (by omega))
  have e : cron_rises F lo hi nm ov l = cron_rises_L1 lo hi l F 0 := rfl
  rw [e]
  have h0 : ((0 : Nat) : Int) = 0 := rfl
  rw [h0] at this
  rw [this, List.drop_zero, rises, Bool.and_comm]
  cases l with
  | nil => rfl
  | cons x r => simp

/-- A field's bounds, as a schedule may be. -/
def fieldOk (lo hi : Int) (l : List Int) (star : Bool) : Bool := rises lo hi l && !(star && decide ((l.length : Int) ≤ hi - lo))
def mayB (a1 a2 a3 a4 a5 : List Int) (a6 a7 a8 a9 a10 : Bool) : Bool := fieldOk 0 59 a1 a6 && (fieldOk 0 23 a2 a7 && (fieldOk 1 31 a3 a8 && (fieldOk 1 12 a4 a9 && fieldOk 0 6 a5 a10)))

theorem may_step (F : Nat) (lo hi ov : Int) (nm : List UInt8) (l : List Int) (star : Bool) (k : Option Bool) (r : Bool) (hl : l.length ≤ 1000000) (hF : l.length < F) (hlo : 0 ≤ lo ∧ lo ≤ hi ∧ hi ≤ 1000) (hk : k = some r) :
    (bnd (cron_rises F lo hi nm ov l) fun x15 => grdc ((!(!x15)) && star) (okI (hi - lo)) <| bif (!x15) || (star && (decide ((l.length : Int) ≤ hi - lo))) then some false else k) = some (fieldOk lo hi l star && r) := by
  rw [rises_eq F lo hi ov nm l hl hF, bnd_some]
  have hg : ∀ (q : Bool) (x : Option Bool), grdc q (okI (hi - lo)) x = x := fun q x => by
    cases q with
    | false => exact grdc_f
    | true => rw [grdc_t, grd_I (by omega)]
  rw [hg, hk]
  unfold fieldOk
  cases rises lo hi l <;> cases star <;> cases decide ((l.length : Int) ≤ hi - lo) <;> rfl

theorem May_eq (F : Nat) (hF : 100 < F) (a1 a2 a3 a4 a5 : List Int) (a6 a7 a8 a9 a10 : Bool) (h1 : a1.length ≤ 100) (h2 : a2.length ≤ 100) (h3 : a3.length ≤ 100) (h4 : a4.length ≤ 100) (h5 : a5.length ≤ 100) :
    cron_May F a1 a2 a3 a4 a5 a6 a7 a8 a9 a10 = some (mayB a1 a2 a3 a4 a5 a6 a7 a8 a9 a10) := by
  unfold cron_May cron_fields
  rw [bnd_some]
  unfold mayB
  refine may_step F 0 59 _ _ a1 a6 _ _ (by omega) (by omega) (by omega) ?_
  refine may_step F 0 23 _ _ a2 a7 _ _ (by omega) (by omega) (by omega) ?_
  refine may_step F 1 31 _ _ a3 a8 _ _ (by omega) (by omega) (by omega) ?_
  refine may_step F 1 12 _ _ a4 a9 _ _ (by omega) (by omega) (by omega) ?_
  have := may_step F 0 6 7 crona_k2 a5 a10 (some true) true (by omega) (by omega) (by omega) rfl
  rw [Bool.and_true] at this
  exact this

/-! ### Days -/
def leap (y : Int) : Bool := (decide (y % 4 = 0)) && ((!decide (y % 100 = 0)) || (decide (y % 400 = 0)))
theorem Leap_eq (F : Nat) (y : Int) (h : 1 ≤ y ∧ y ≤ 9999) : civil_Leap F y = some (leap y) := by
  have hg : ∀ (q : Bool) (c : Int) (x : Option Bool), 1 ≤ c → grdc q (okDiv y c) x = x := fun q c x hc => by
    cases q with
    | false => exact grdc_f
    | true => rw [grdc_t, grd_Div (by omega)]
  unfold civil_Leap
  rw [grd_Div (by omega), hg _ _ _ (by omega), hg _ _ _ (by omega)]; rfl
def dm (y m : Int) : Int := at_ ([0, 31, bif leap y then 29 else 28, 31, 30, 31, 30, 31, 31, 30, 31, 30, 31] : List Int) m
theorem Days_eq (F : Nat) (y m : Int) (h : 1 ≤ y ∧ y ≤ 9999) : civil_Days F y m = some (bif (decide (m < 1)) || (decide (12 < m)) then 0 else dm y m) := by
  unfold civil_Days civil_lengths civil_feb
  rw [Leap_eq F y h, bnd_some]
  cases hm : (decide (m < 1)) || (decide (12 < m)) with
  | true => rfl
  | false =>
    simp only [Bool.or_eq_false_iff, decide_eq_false_iff_not] at hm
    rw [cond_false]
    have hg : grd (okI (28 + 1)) (some ((28 : Int) + 1)) = some 29 := by rw [grd_I (by omega)]; rfl
    rw [hg]
    unfold dm
    cases leap y <;> simp only [cond_true, cond_false, bnd_some] <;> rw [grd_At (by omega), lt_eq]
def num (y m d : Int) : Int :=
  let y' := if m ≤ 2 then y - 1 else y
  let m' := if m ≤ 2 then m + 12 else m
  ((((((((146097 * (y' / 400)) + (365 * (y' % 400))) + ((y' % 400) / 4)) - ((y' % 400) / 100)) + (((153 * (m' - 3)) + 2) / 5)) + d) - 1) - 719468)
theorem number_j (d y m : Int) (hy : 0 ≤ y ∧ y ≤ 9999) (hm : 3 ≤ m ∧ m ≤ 14) (hd : 1 ≤ d ∧ d ≤ 31) : civil_number_j1 d y m = some ((((((((146097 * (y / 400)) + (365 * (y % 400))) + ((y % 400) / 4)) - ((y % 400) / 100)) + (((153 * (m - 3)) + 2) / 5)) + d) - 1) - 719468) := by
  unfold civil_number_j1
  simp (disch := omega) only [grd_Div, grd_I]
theorem number_eq (F : Nat) (y m d : Int) (hy : 1 ≤ y ∧ y ≤ 9999) (hm : 1 ≤ m ∧ m ≤ 12) (hd : 1 ≤ d ∧ d ≤ 31) : civil_number F y m d = some (num y m d) := by
  unfold civil_number num
  by_cases h : m ≤ 2
  · rw [bT h, grd_I (by omega), grd_I (by omega), number_j d (y - 1) (m + 12) (by omega) (by omega) hd]
    simp only [if_pos h]
  · rw [bF h, number_j d y m (by omega) (by omega) hd]
    simp only [if_neg h]
theorem dm_le (y m : Int) (hm : 1 ≤ m ∧ m ≤ 12) : dm y m ≤ 31 := by
  unfold dm
  obtain ⟨k, rfl⟩ : ∃ k : Nat, m = k := ⟨m.toNat, by omega⟩
  have hk : k < 13 := by omega
  rw [at_nat (by simpa using hk)]
  have h2 : ∀ k : Fin 13, ([0, 31, bif leap y then 29 else 28, 31, 30, 31, 30, 31, 31, 30, 31, 30, 31] : List Int)[k] ≤ 31 := by
    intro k
    cases leap y <;> revert k <;> decide
  exact h2 ⟨k, hk⟩
/-- Is a day one of the calendar? -/
def okDay (y m d : Int) : Bool := !((((decide (y < 1)) || (decide (9999 < y))) || (decide (d < 1))) || (decide ((bif (decide (m < 1)) || (decide (12 < m)) then 0 else dm y m) < d)))
theorem okDay_s {y m d : Int} (h : okDay y m d = true) : (1 ≤ y ∧ y ≤ 9999) ∧ (1 ≤ m ∧ m ≤ 12) ∧ (1 ≤ d ∧ d ≤ 31) := by
  unfold okDay at h
  simp only [Bool.not_eq_true', Bool.or_eq_false_iff, decide_eq_false_iff_not] at h
  obtain ⟨⟨⟨h1, h2⟩, h3⟩, h4⟩ := h
  cases hm : (decide (m < 1)) || (decide (12 < m)) with
  | true => rw [hm, cond_true] at h4; omega
  | false =>
    rw [hm, cond_false] at h4
    simp only [Bool.or_eq_false_iff, decide_eq_false_iff_not] at hm
    have := dm_le y m (by omega)
    omega
theorem Ord_eq (F : Nat) (y m d : Int) : civil_Ord F y m d = some (bif okDay y m d then (num y m d, 0) else (0, 1)) := by
  unfold civil_Ord
  cases hc : ((decide (y < 1)) || (decide (9999 < y))) || (decide (d < 1)) with
  | true =>
    have : okDay y m d = false := by unfold okDay; rw [hc]; rfl
    rw [this]; rfl
  | false =>
    have hc' := hc
    simp only [Bool.or_eq_false_iff, decide_eq_false_iff_not] at hc'
    rw [Days_eq F y m (by omega)]
    simp only [Bool.not_false, bndc_t, bnd_some, Bool.false_or]
    have e : okDay y m d = !decide ((bif (decide (m < 1)) || (decide (12 < m)) then 0 else dm y m) < d) := by unfold okDay; rw [hc, Bool.false_or]
    cases hd : decide ((bif (decide (m < 1)) || (decide (12 < m)) then 0 else dm y m) < d) with
    | true => rw [e, hd]; rfl
    | false =>
      rw [hd] at e
      obtain ⟨h1, h2, h3⟩ := okDay_s (e.trans rfl)
      rw [e, number_eq F y m d h1 h2 h3]; rfl
theorem num_range (y m d : Int) (h : okDay y m d = true) : -1000000 ≤ num y m d ∧ num y m d ≤ 10000000 := by
  obtain ⟨h1, h2, h3⟩ := okDay_s h
  unfold num
  by_cases h : m ≤ 2
  · simp only [if_pos h]; omega
  · simp only [if_neg h]; omega
def wday (n : Int) : Int := Int.tmod (Int.tmod (n + 4) 7 + 7) 7
theorem Wday_eq (F : Nat) (n : Int) (h : -1000000 ≤ n ∧ n ≤ 10000000) : civil_Wday F n = some (wday n) := by
  unfold civil_Wday
  have h1 : ((decide (n < (-1099511627776))) || (decide (1099511627776 < n))) = false := by
    rw [decide_eq_false (by omega), decide_eq_false (by omega)]; rfl
  rw [h1, cond_false, grd_I (by omega)]
  have h2 : -7 < Int.tmod (n + 4) 7 ∧ Int.tmod (n + 4) 7 < 7 := by
    have h3 := Int.tmod_lt_of_pos (n + 4) (show (0 : Int) < 7 by omega)
    have h4 := Int.lt_tmod_of_pos (n + 4) (show (0 : Int) < 7 by omega)
    omega
  rw [grd_I (by omega)]; rfl
end Go.Cn
namespace Go.Cn
open Go.Pv Go.Av

theorem awake05 : law05_awake 1000 = some true := by decide +kernel

theorem few_step (a1 a2 a3 a4 a5 x : List Int) (n i : Nat) (r : Bool) (hi : i < 5) (hx : at_ ([a1, a2, a3, a4, a5] : List (List Int)) (i : Int) = x) (h : law05_Few_L1 a1 a2 a3 a4 a5 n ((i + 1 : Nat) : Int) = some r) :
    law05_Few_L1 a1 a2 a3 a4 a5 (n + 1) (i : Int) = some (decide (x.length ≤ 100) && r) := by
  show law05_Few_B1 a1 a2 a3 a4 a5 (law05_Few_L1 a1 a2 a3 a4 a5 n) (i : Int) = _
  unfold law05_Few_B1
  rw [bT (by omega), grd_At (by omega), lt_eq, hx]
  by_cases hc : x.length ≤ 100
  · rw [bF (by omega), grd_I (by omega), cast_succ, h, decide_eq_true hc, Bool.true_and]
  · rw [bT (by omega), decide_eq_false hc, Bool.false_and]
def fewB (a1 a2 a3 a4 a5 : List Int) : Bool := decide (a1.length ≤ 100) && (decide (a2.length ≤ 100) && (decide (a3.length ≤ 100) && (decide (a4.length ≤ 100) && decide (a5.length ≤ 100))))
theorem Few_eq (F : Nat) (hF : 6 ≤ F) (a1 a2 a3 a4 a5 : List Int) (a6 a7 a8 a9 a10 : Bool) : law05_Few F a1 a2 a3 a4 a5 a6 a7 a8 a9 a10 = some (fewB a1 a2 a3 a4 a5) := by
  obtain ⟨n, rfl⟩ : ∃ n, F = n + 1 + 5 := ⟨F - 6, by omega⟩
  have h5 : law05_Few_L1 a1 a2 a3 a4 a5 (n + 1) ((5 : Nat) : Int) = some true := by
    show law05_Few_B1 a1 a2 a3 a4 a5 (law05_Few_L1 a1 a2 a3 a4 a5 n) ((5 : Nat) : Int) = _
    unfold law05_Few_B1 law05_Few_j1
    rw [bF (by omega)]
  have h4 := few_step a1 a2 a3 a4 a5 a5 (n + 1) 4 true (by omega) rfl h5
  have h3 := few_step a1 a2 a3 a4 a5 a4 _ 3 _ (by omega) rfl h4
  have h2 := few_step a1 a2 a3 a4 a5 a3 _ 2 _ (by omega) rfl h3
  have h1 := few_step a1 a2 a3 a4 a5 a2 _ 1 _ (by omega) rfl h2
  have h0 := few_step a1 a2 a3 a4 a5 a1 _ 0 _ (by omega) rfl h1
  rw [Bool.and_true] at h0
  exact h0
theorem few_s {a1 a2 a3 a4 a5 : List Int} (h : fewB a1 a2 a3 a4 a5 = true) : a1.length ≤ 100 ∧ a2.length ≤ 100 ∧ a3.length ≤ 100 ∧ a4.length ≤ 100 ∧ a5.length ≤ 100 := by
  unfold fewB at h
  simpa using h

theorem has_eq (F : Nat) (a1 a2 a3 a4 a5 x : List Int) (a6 a7 a8 a9 a10 : Bool) (i : Nat) (n : Int) (hi : i < 5) (hx : at_ ([a1, a2, a3, a4, a5] : List (List Int)) (i : Int) = x) (hl : x.length ≤ 1000) (hF : x.length < F) :
    cron_has F a1 a2 a3 a4 a5 a6 a7 a8 a9 a10 (i : Int) n = some (decide (n ∈ x)) := by
  unfold cron_has
  rw [grd_At (by omega), lt_eq, hx, Contains_eq F x n (by omega) hF, bnd_some]

def dayB (a1 a2 a3 a4 a5 : List Int) (a6 a7 a8 a9 a10 : Bool) (y m d : Int) : Bool :=
  bif okDay y m d && (mayB a1 a2 a3 a4 a5 a6 a7 a8 a9 a10 && decide (m ∈ a4)) then
    bif a8 || a10 then decide (d ∈ a3) && decide (wday (num y m d) ∈ a5) else decide (d ∈ a3) || decide (wday (num y m d) ∈ a5)
  else false
theorem rz_len (lo up : Int) : ∀ (l : List Int) (q : Int), q ≤ up → rz lo up (some q) l = true → (l.length : Int) ≤ up - q := by
  intro l
  induction l with
  | nil => intro q h _; simp; omega
  | cons x r ih =>
    intro q hq h
    simp only [rz, Bool.and_eq_true, decide_eq_true_eq] at h
    have := ih x (by omega) h.2
    simp only [List.length_cons]; omega
theorem rz_all (lo up : Int) : ∀ (l : List Int) (p : Option Int) (k : Int), (p = none ∧ k = lo ∨ p = some (k - 1)) → rz lo up p l = true → up - k + 1 ≤ (l.length : Int) → ∀ n, k ≤ n → n ≤ up → lo ≤ k → n ∈ l := by
  intro l
  induction l with
  | nil => intro p k _ _ hl n h1 h2 _; simp at hl; omega
  | cons x r ih =>
    intro p k hp h hl n h1 h2 h3
    simp only [rz, Bool.and_eq_true, decide_eq_true_eq] at h
    have hx : k ≤ x := by
      rcases hp with ⟨rfl, rfl⟩ | rfl
      · exact h.1.1.1
      · have := h.1.2; simp at this; omega
    have hlen := rz_len lo up r x h.1.1.2 h.2
    simp only [List.length_cons] at hl
    have hxk : x = k := by omega
    by_cases hn : n = x
    · rw [hn]; exact List.mem_cons_self ..
    · refine List.mem_cons_of_mem _ (ih (some x) (k + 1) (.inr (by rw [hxk]; congr 1; omega)) h.2 (by omega) n (by omega) h2 (by omega))
theorem star_all {lo up : Int} {l : List Int} (h : fieldOk lo up l true = true) {n : Int} (h1 : lo ≤ n) (h2 : n ≤ up) : n ∈ l := by
  unfold fieldOk rises at h
  simp only [Bool.and_eq_true, Bool.true_and, Bool.not_eq_true', decide_eq_false_iff_not] at h
  exact rz_all lo up l none lo (.inl ⟨rfl, rfl⟩) h.1.2 (by omega) n h1 h2 (Int.le_refl _)
theorem may_s {a1 a2 a3 a4 a5 : List Int} {a6 a7 a8 a9 a10 : Bool} (h : mayB a1 a2 a3 a4 a5 a6 a7 a8 a9 a10 = true) : fieldOk 0 59 a1 a6 = true ∧ fieldOk 0 23 a2 a7 = true ∧ fieldOk 1 31 a3 a8 = true ∧ fieldOk 1 12 a4 a9 = true ∧ fieldOk 0 6 a5 a10 = true := by
  unfold mayB at h
  simpa only [Bool.and_eq_true] using h
theorem wday_range (n : Int) : 0 ≤ wday n ∧ wday n ≤ 6 := by
  unfold wday
  have h3 := Int.tmod_lt_of_pos (n + 4) (show (0 : Int) < 7 by omega)
  have h4 := Int.lt_tmod_of_pos (n + 4) (show (0 : Int) < 7 by omega)
  have h5 := Int.tmod_lt_of_pos (Int.tmod (n + 4) 7 + 7) (show (0 : Int) < 7 by omega)
  have h6 := Int.tmod_nonneg 7 (show 0 ≤ Int.tmod (n + 4) 7 + 7 by omega)
  omega

section
variable (F : Nat) (hF : 101 < F) (a1 a2 a3 a4 a5 : List Int) (a6 a7 a8 a9 a10 : Bool) (h1 : a1.length ≤ 100) (h2 : a2.length ≤ 100) (h3 : a3.length ≤ 100) (h4 : a4.length ≤ 100) (h5 : a5.length ≤ 100)
include hF h1 h2 h3 h4 h5
theorem Day_eq (y m d : Int) : cron_Day F a1 a2 a3 a4 a5 a6 a7 a8 a9 a10 y m d = some (dayB a1 a2 a3 a4 a5 a6 a7 a8 a9 a10 y m d) := by
  have e3 : cron_has F a1 a2 a3 a4 a5 a6 a7 a8 a9 a10 3 m = some (decide (m ∈ a4)) := has_eq F a1 a2 a3 a4 a5 a4 a6 a7 a8 a9 a10 3 m (by omega) rfl (by omega) (by omega)
  have e2 : cron_has F a1 a2 a3 a4 a5 a6 a7 a8 a9 a10 2 d = some (decide (d ∈ a3)) := has_eq F a1 a2 a3 a4 a5 a3 a6 a7 a8 a9 a10 2 d (by omega) rfl (by omega) (by omega)
  have e4 : ∀ n, cron_has F a1 a2 a3 a4 a5 a6 a7 a8 a9 a10 4 n = some (decide (n ∈ a5)) := fun n => has_eq F a1 a2 a3 a4 a5 a5 a6 a7 a8 a9 a10 4 n (by omega) rfl (by omega) (by omega)
  unfold cron_Day dayB
  rw [Ord_eq]
  cases ho : okDay y m d with
  | false =>
    rw [cond_false, bnd2_some]
    have e : (decide ((1 : Int) = 0)) = false := by decide
    simp only [e, Bool.not_false, Bool.not_true, bndc_f, Bool.true_or, cond_true, Bool.false_and, cond_false]
  | true =>
    rw [cond_true, bnd2_some]
    have e : (decide ((0 : Int) = 0)) = true := by decide
    simp only [e, decide_true, Bool.not_true, Bool.not_false, bndc_t, May_eq F (by omega) a1 a2 a3 a4 a5 a6 a7 a8 a9 a10 h1 h2 h3 h4 h5, bnd_some, Bool.false_or, Bool.true_and]
    cases hm : mayB a1 a2 a3 a4 a5 a6 a7 a8 a9 a10 with
    | false => simp only [Bool.not_false, Bool.not_true, bndc_f, Bool.true_or, cond_true, Bool.false_and, cond_false]
    | true =>
      simp only [Bool.not_true, Bool.not_false, bndc_t, e3, bnd_some, Bool.false_or, Bool.true_and]
      cases decide (m ∈ a4) with
      | false => rfl
      | true =>
        simp only [Bool.not_true, cond_false, cond_true, e2, bnd_some, Wday_eq F _ (num_range y m d ho), e4]
        cases a8 || a10 <;> rfl
end
end Go.Cn
namespace Go.Cn
open Go.Pv Go.Av

def mayT (y m d h mi s : Int) : Bool := ((okDay y m d && (decide (0 ≤ h) && decide (h < 24))) && (decide (0 ≤ mi) && decide (mi < 60))) && (decide (0 ≤ s) && decide (s < 60))
theorem StMay_eq (F : Nat) (y m d h mi s : Int) : stamp_May F y m d h mi s = some (mayT y m d h mi s) := by
  unfold stamp_May mayT stamp_in
  rw [Ord_eq]
  cases okDay y m d with
  | false => rfl
  | true =>
    rw [cond_true, bnd2_some]
    have e : (decide ((0 : Int) = 0)) = true := by decide
    simp only [e, bndc_t, Bool.true_and]
    cases (decide (0 ≤ h) && decide (h < 24)) with
    | false => rfl
    | true => cases (decide (0 ≤ mi) && decide (mi < 60)) <;> rfl
def matchB (a1 a2 a3 a4 a5 : List Int) (a6 a7 a8 a9 a10 : Bool) (y m d h mi s : Int) : Bool :=
  (((mayT y m d h mi s && decide (s = 0)) && decide (mi ∈ a1)) && decide (h ∈ a2)) && dayB a1 a2 a3 a4 a5 a6 a7 a8 a9 a10 y m d
section
variable (F : Nat) (hF : 101 < F) (a1 a2 a3 a4 a5 : List Int) (a6 a7 a8 a9 a10 : Bool) (h1 : a1.length ≤ 100) (h2 : a2.length ≤ 100) (h3 : a3.length ≤ 100) (h4 : a4.length ≤ 100) (h5 : a5.length ≤ 100)
include hF h1 h2 h3 h4 h5
theorem Match_eq (y m d h mi s : Int) : cron_Match F a1 a2 a3 a4 a5 a6 a7 a8 a9 a10 y m d h mi s = some (matchB a1 a2 a3 a4 a5 a6 a7 a8 a9 a10 y m d h mi s) := by
  have e0 : cron_has F a1 a2 a3 a4 a5 a6 a7 a8 a9 a10 0 mi = some (decide (mi ∈ a1)) := has_eq F a1 a2 a3 a4 a5 a1 a6 a7 a8 a9 a10 0 mi (by omega) rfl (by omega) (by omega)
  have e1 : cron_has F a1 a2 a3 a4 a5 a6 a7 a8 a9 a10 1 h = some (decide (h ∈ a2)) := has_eq F a1 a2 a3 a4 a5 a2 a6 a7 a8 a9 a10 1 h (by omega) rfl (by omega) (by omega)
  have hD := Day_eq F hF a1 a2 a3 a4 a5 a6 a7 a8 a9 a10 h1 h2 h3 h4 h5 y m d
  unfold cron_Match matchB
  rw [StMay_eq, bnd_some, e0, e1, hD]
  cases mayT y m d h mi s && decide (s = 0) with
  | false => rfl
  | true =>
    cases decide (mi ∈ a1) with
    | false => rfl
    | true => cases decide (h ∈ a2) <;> rfl
end

def HH : List Int := [0, 1, 2, 3, 4, 5, 6, 7, 8, 9, 10, 11, 12, 13, 14, 15, 16, 17, 18, 19, 20, 21, 22, 23]
def DD : List Int := [1, 2, 3, 4, 5, 6, 7, 8, 9, 10, 11, 12, 13, 14, 15, 16, 17, 18, 19, 20, 21, 22, 23, 24, 25, 26, 27, 28, 29, 30, 31]
def MM : List Int := [1, 2, 3, 4, 5, 6, 7, 8, 9, 10, 11, 12]
def WW : List Int := [0, 1, 2, 3, 4, 5, 6]
def NN : List Int := HH ++ [24, 25, 26, 27, 28, 29, 30, 31, 32, 33, 34, 35, 36, 37, 38, 39, 40, 41, 42, 43, 44, 45, 46, 47, 48, 49, 50, 51, 52, 53, 54, 55, 56, 57, 58, 59]
theorem match_star (a1 : List Int) (a6 : Bool) (hl : a1.length ≤ 100) (hf : fieldOk 0 59 a1 a6 = true) (y m d h mi s : Int) :
    cron_Match 1000 a1 HH DD MM WW a6 true true true true y m d h mi s = some ((mayT y m d h mi s && decide (s = 0)) && decide (mi ∈ a1)) := by
  rw [Match_eq 1000 (by omega) a1 HH DD MM WW a6 true true true true hl (by decide) (by decide) (by decide) (by decide)]
  congr 1
  unfold matchB
  cases hm : mayT y m d h mi s with
  | false => rfl
  | true =>
    have hm' := hm
    unfold mayT at hm'
    simp only [Bool.and_eq_true, decide_eq_true_eq] at hm'
    obtain ⟨⟨⟨ho, hh⟩, _⟩, _⟩ := hm'
    obtain ⟨_, d2, d3⟩ := okDay_s ho
    have hw := wday_range (num y m d)
    have f2 : fieldOk 0 23 HH true = true := by decide +kernel
    have f3 : fieldOk 1 31 DD true = true := by decide +kernel
    have f4 : fieldOk 1 12 MM true = true := by decide +kernel
    have f5 : fieldOk 0 6 WW true = true := by decide +kernel
    have e2 : decide (h ∈ HH) = true := decide_eq_true (star_all f2 hh.1 (by omega))
    have e3 : decide (d ∈ DD) = true := decide_eq_true (star_all f3 d3.1 d3.2)
    have e4 : decide (m ∈ MM) = true := decide_eq_true (star_all f4 d2.1 d2.2)
    have e5 : decide (wday (num y m d) ∈ WW) = true := decide_eq_true (star_all f5 hw.1 hw.2)
    have e : dayB a1 HH DD MM WW a6 true true true true y m d = true := by
      unfold dayB mayB
      rw [ho, hf, f2, f3, f4, f5, e3, e4, e5]; rfl
    rw [e, e2]
    simp only [Bool.and_true]

def starsT : List UInt8 := [32, 42, 32, 42, 32, 42, 32, 42]
instance decP9 : DecidableEq (Bool × Int) := fun a b => instDecidableEqProd a b
instance decP8 : DecidableEq (Bool × Bool × Int) := fun a b => instDecidableEqProd a b
instance decP7 : DecidableEq (Bool × Bool × Bool × Int) := fun a b => instDecidableEqProd a b
instance decP6 : DecidableEq (Bool × Bool × Bool × Bool × Int) := fun a b => instDecidableEqProd a b
instance decP5 : DecidableEq (Bool × Bool × Bool × Bool × Bool × Int) := fun a b => instDecidableEqProd a b
instance decP4 : DecidableEq ((List Int) × Bool × Bool × Bool × Bool × Bool × Int) := fun a b => instDecidableEqProd a b
instance decP3 : DecidableEq ((List Int) × (List Int) × Bool × Bool × Bool × Bool × Bool × Int) := fun a b => instDecidableEqProd a b
instance decP2 : DecidableEq ((List Int) × (List Int) × (List Int) × Bool × Bool × Bool × Bool × Bool × Int) := fun a b => instDecidableEqProd a b
instance decP1 : DecidableEq ((List Int) × (List Int) × (List Int) × (List Int) × Bool × Bool × Bool × Bool × Bool × Int) := fun a b => instDecidableEqProd a b
instance decP0 : DecidableEq ((List Int) × (List Int) × (List Int) × (List Int) × (List Int) × Bool × Bool × Bool × Bool × Bool × Int) := fun a b => instDecidableEqProd a b
theorem parse_star : cron_Parse 1000 [42, 32, 42, 32, 42, 32, 42, 32, 42] = some (NN, HH, DD, MM, WW, true, true, true, true, true, 0) := by decide +kernel
def dg (n : Int) : List UInt8 := (law05_digits 1000 n).getD []
theorem parse_one : ∀ m : Fin 60, law05_digits 1000 (m.val : Int) = some (dg (m.val : Int)) ∧ okCat ((dg (m.val : Int)).length + starsT.length) = true ∧
    cron_Parse 1000 (dg (m.val : Int) ++ starsT) = some ([(m.val : Int)], HH, DD, MM, WW, false, true, true, true, true, 0) := by decide +kernel

end Go.Cn
namespace Go.Cn
open Go.Pv Go.Av

theorem rLeap_eq (F : Nat) (y : Int) (h : 1 ≤ y ∧ y ≤ 9999) : ref01_Leap F y = some (leap y) := by
  have hg : ∀ (q : Bool) (c : Int) (x : Option Bool), 1 ≤ c → grdc q (okDiv y c) x = x := fun q c x hc => by
    cases q with
    | false => exact grdc_f
    | true => rw [grdc_t, grd_Div (by omega)]
  unfold ref01_Leap
  rw [grd_Div (by omega), hg _ _ _ (by omega), hg _ _ _ (by omega)]
  unfold leap
  congr 1
  by_cases h4 : y % 4 = 0
  · by_cases h1 : y % 100 = 0 <;> by_cases h2 : y % 400 = 0 <;> simp [h4, h1, h2] <;> omega
  · have h2 : ¬ y % 400 = 0 := by omega
    simp [h4, h2]
theorem rDays_eq (F : Nat) (y m : Int) (h : 1 ≤ y ∧ y ≤ 9999) : ref01_Days F y m = some (bif (decide (m < 1)) || (decide (12 < m)) then 0 else dm y m) := by
  by_cases hm : 1 ≤ m ∧ m ≤ 12
  · have e : ((decide (m < 1)) || (decide (12 < m))) = false := by rw [decide_eq_false (by omega), decide_eq_false (by omega)]; rfl
    rw [e, cond_false]
    obtain ⟨k, rfl⟩ : ∃ k : Nat, m = k := ⟨m.toNat, by omega⟩
    have hk : k = 1 ∨ k = 2 ∨ k = 3 ∨ k = 4 ∨ k = 5 ∨ k = 6 ∨ k = 7 ∨ k = 8 ∨ k = 9 ∨ k = 10 ∨ k = 11 ∨ k = 12 := by omega
    rcases hk with rfl | rfl | rfl | rfl | rfl | rfl | rfl | rfl | rfl | rfl | rfl | rfl
    case inr.inl =>
      have e2 : ref01_Days F y ((2 : Nat) : Int) = bnd (ref01_Leap F y) fun x20 => bif x20 then some 29 else some 28 := rfl
      rw [e2, rLeap_eq F y h, bnd_some]
      have e3 : dm y ((2 : Nat) : Int) = bif leap y then 29 else 28 := rfl
      rw [e3]
      cases leap y <;> rfl
    all_goals rfl
  · have e : ((decide (m < 1)) || (decide (12 < m))) = true := by
      by_cases h1 : m < 1
      · rw [decide_eq_true h1]; rfl
      · rw [decide_eq_true (show 12 < m by omega), Bool.or_true]
    rw [e, cond_true]
    unfold ref01_Days
    rw [bF (by omega), bF (by omega), bF (by omega), bF (by omega), bF (by omega), bF (by omega)]
    unfold ref01_Days_j2
    rw [bF (by omega), bF (by omega), bF (by omega), bF (by omega)]
    unfold ref01_Days_j1
    rw [bF (by omega), bF (by omega)]
def startY (y : Int) : Int := (((((365 * (y - 1)) + ((y - 1) / 4)) - ((y - 1) / 100)) + ((y - 1) / 400)) - 719162)
theorem Start_eq (F : Nat) (y : Int) (h : 1 ≤ y ∧ y ≤ 9999) : ref01_Start F y = some (startY y) := by
  unfold ref01_Start startY
  simp (disch := omega) only [grd_Div, grd_I]
def sd (y : Int) : Nat → Int → Int
  | 0, _ => 0
  | j + 1, k => dm y k + sd y j (k + 1)
theorem dm_pos (y m : Int) (hm : 1 ≤ m ∧ m ≤ 12) : 0 ≤ dm y m := by
  unfold dm
  obtain ⟨k, rfl⟩ : ∃ k : Nat, m = k := ⟨m.toNat, by omega⟩
  have hk : k < 13 := by omega
  rw [at_nat (by simpa using hk)]
  have h2 : ∀ k : Fin 13, 0 ≤ ([0, 31, bif leap y then 29 else 28, 31, 30, 31, 30, 31, 31, 30, 31, 30, 31] : List Int)[k] := by
    intro k
    cases leap y <;> revert k <;> decide
  exact h2 ⟨k, hk⟩
theorem ord_loop (F : Nat) (y m d : Int) (hy : 1 ≤ y ∧ y ≤ 9999) (hd : 1 ≤ d ∧ d ≤ 31) (hm : m ≤ 12) : ∀ (j n : Nat) (k acc : Int), m = k + j → 1 ≤ k → j < n → -1000000 ≤ acc ∧ acc ≤ 10000000 - 31 * j →
    ref01_Ord_L1 F y m d n (acc, k) = some (acc + sd y j k + d - 1, 0) := by
  intro j
  induction j with
  | zero =>
    intro n k acc h1 h2 h3 h4
    obtain ⟨n, rfl⟩ : ∃ n', n = n' + 1 := ⟨n - 1, by omega⟩
    show ref01_Ord_B1 F y m d (ref01_Ord_L1 F y m d n) acc k = _
    unfold ref01_Ord_B1 ref01_Ord_j1
    rw [bF (by omega), grd_I (by omega), grd_I (by omega)]
    simp [sd]
  | succ j ih =>
    intro n k acc h1 h2 h3 h4
    obtain ⟨n, rfl⟩ : ∃ n', n = n' + 1 := ⟨n - 1, by omega⟩
    show ref01_Ord_B1 F y m d (ref01_Ord_L1 F y m d n) acc k = _
    unfold ref01_Ord_B1
    have a := dm_le y k (by omega)
    have b := dm_pos y k (by omega)
    have e : ((decide (k < 1)) || (decide (12 < k))) = false := by rw [decide_eq_false (by omega), decide_eq_false (by omega)]; rfl
    rw [bT (by omega), rDays_eq F y k hy, e, cond_false, bnd_some, grd_I (by omega), grd_I (by omega), ih n (k + 1) (acc + dm y k) (by omega) (by omega) (by omega) (by omega)]
    simp only [sd]
    congr 2; omega
set_option maxHeartbeats 4000000 in
theorem num_same (y m d : Int) (hy : 1 ≤ y ∧ y ≤ 9999) (hm : 1 ≤ m ∧ m ≤ 12) : startY y + sd y (m - 1).toNat 1 + d - 1 = num y m d := by
  obtain ⟨k, rfl⟩ : ∃ k : Nat, m = k := ⟨m.toNat, by omega⟩
  have q1 : dm y 1 = 31 := rfl
  have q2 : dm y 2 = bif leap y then 29 else 28 := rfl
  have q3 : dm y 3 = 31 := rfl
  have q4 : dm y 4 = 30 := rfl
  have q5 : dm y 5 = 31 := rfl
  have q6 : dm y 6 = 30 := rfl
  have q7 : dm y 7 = 31 := rfl
  have q8 : dm y 8 = 31 := rfl
  have q9 : dm y 9 = 30 := rfl
  have q10 : dm y 10 = 31 := rfl
  have q11 : dm y 11 = 30 := rfl
  have hk : k = 1 ∨ k = 2 ∨ k = 3 ∨ k = 4 ∨ k = 5 ∨ k = 6 ∨ k = 7 ∨ k = 8 ∨ k = 9 ∨ k = 10 ∨ k = 11 ∨ k = 12 := by omega
  have hl : (leap y = true ∧ y % 4 = 0 ∧ (y % 100 ≠ 0 ∨ y % 400 = 0)) ∨ (leap y = false ∧ (y % 4 ≠ 0 ∨ (y % 100 = 0 ∧ y % 400 ≠ 0))) := by
    unfold leap
    by_cases h4 : y % 4 = 0
    · by_cases h1 : y % 100 = 0 <;> by_cases h2 : y % 400 = 0 <;> simp [h4, h1, h2]
    · simp [h4]
  rcases hk with rfl | rfl | rfl | rfl | rfl | rfl | rfl | rfl | rfl | rfl | rfl | rfl
  all_goals
    unfold num startY
    simp only [Int.reduceSub, Int.reduceToNat, sd, Int.reduceAdd, Int.reduceMul, Int.reduceDiv, Int.reduceLE, Int.cast_ofNat_Int, if_true, if_false, q1, q2, q3, q4, q5, q6, q7, q8, q9, q10, q11]
    rcases hl with ⟨hl, hl2⟩ | ⟨hl, hl2⟩ <;> (try simp only [hl, cond_true, cond_false]) <;> omega
theorem rOrd_eq (F : Nat) (hF : 13 < F) (y m d : Int) : ref01_Ord F y m d = some (bif okDay y m d then (num y m d, 0) else (0, 1)) := by
  unfold ref01_Ord
  cases hc : ((decide (y < 1)) || (decide (9999 < y))) || (decide (d < 1)) with
  | true =>
    have : okDay y m d = false := by unfold okDay; rw [hc]; rfl
    rw [this]; rfl
  | false =>
    have hc' := hc
    simp only [Bool.or_eq_false_iff, decide_eq_false_iff_not] at hc'
    rw [rDays_eq F y m (by omega)]
    simp only [Bool.not_false, bndc_t, bnd_some, Bool.false_or]
    have e : okDay y m d = !decide ((bif (decide (m < 1)) || (decide (12 < m)) then 0 else dm y m) < d) := by unfold okDay; rw [hc, Bool.false_or]
    cases hd : decide ((bif (decide (m < 1)) || (decide (12 < m)) then 0 else dm y m) < d) with
    | true => rw [e, hd]; rfl
    | false =>
      rw [hd] at e
      obtain ⟨h1, h2, h3⟩ := okDay_s (e.trans rfl)
      have hs : -719162 ≤ startY y ∧ startY y ≤ 5000000 := by unfold startY; omega
      rw [e, Start_eq F y h1, bnd_some, ord_loop F y m d h1 h3 h2.2 (m - 1).toNat F 1 (startY y) (by omega) (by omega) (by omega) (by omega), num_same y m d h1 h2]; rfl
theorem rWday_eq (F : Nat) (n : Int) (h : -1000000 ≤ n ∧ n ≤ 10000000) : ref01_Wday F n = some (wday n) := by
  unfold ref01_Wday ref01_Wday_j1 wday
  have h1 : ((decide (n < (-1099511627776))) || (decide (1099511627776 < n))) = false := by
    rw [decide_eq_false (by omega), decide_eq_false (by omega)]; rfl
  have h3 := Int.tmod_lt_of_pos (n + 4) (show (0 : Int) < 7 by omega)
  have h4 := Int.lt_tmod_of_pos (n + 4) (show (0 : Int) < 7 by omega)
  have h5 : Int.tmod (Int.tmod (n + 4) 7 + 7) 7 = (Int.tmod (n + 4) 7 + 7) % 7 := Int.tmod_eq_emod_of_nonneg (by omega)
  rw [h1, cond_false, grd_I (by omega), h5]
  by_cases hc : Int.tmod (n + 4) 7 < 0
  · rw [bT hc, grd_I (by omega)]; congr 1; omega
  · rw [bF hc]; congr 1; omega
theorem rMay2_eq (F : Nat) (hF : 13 < F) (y m d h mi s : Int) : ref02_May F y m d h mi s = some (mayT y m d h mi s) := by
  unfold ref02_May mayT
  rw [rOrd_eq F hF]
  have e1 : decide (h < 24) = decide (h ≤ 23) := decide_eq_decide.2 (by omega)
  have e2 : decide (mi < 60) = decide (mi ≤ 59) := decide_eq_decide.2 (by omega)
  have e3 : decide (s < 60) = decide (s ≤ 59) := decide_eq_decide.2 (by omega)
  rw [e1, e2, e3]
  cases okDay y m d with
  | false => rfl
  | true =>
    rw [cond_true, bnd2_some]
    have e : (decide ((0 : Int) = 0)) = true := by decide
    simp only [decide_true, Bool.true_and, Bool.and_assoc]

/-! ### What may be -/
theorem rmay_loop (F : Nat) (a6 a7 a8 a9 a10 : Bool) (f lo up : Int) (l : List Int) (rec : Int → Option Bool) (hlo : ref05_Low F f = some lo) (hup : ref05_High F f = some up) (hl : l.length ≤ 1000000) :
    ∀ (k i : Nat) (p : Option Int), l.length - i < k → i ≤ l.length → (i = 0 → p = none) → (∀ h : 0 < i ∧ i ≤ l.length, p = some (l[i - 1]'(by omega))) →
    ref05_May_L1 F a6 a7 a8 a9 a10 f l rec k (i : Int) = bif rz lo up p (l.drop i) then ref05_May_j3 F a6 a7 a8 a9 a10 f l rec else some false := by
  intro k
  induction k with
  | zero => intro i p h; omega
  | succ k ih =>
    intro i p hk hi hp0 hp1
    show ref05_May_B1 F a6 a7 a8 a9 a10 f l rec (ref05_May_L1 F a6 a7 a8 a9 a10 f l rec k) (i : Int) = _
    unfold ref05_May_B1
    by_cases h : i < l.length
    · have hd : l.drop i = l[i] :: l.drop (i + 1) := List.drop_eq_getElem_cons h
      have hg : ∀ (q : Bool) (x : Option Bool), grdc (q && decide (0 < (i : Int))) (okI ((i : Int) - 1)) x = x := fun q x => by
        cases q && decide (0 < (i : Int)) with
        | false => exact grdc_f
        | true => rw [grdc_t, grd_I (by omega)]
      have hg2 : ∀ (q : Bool) (x : Option Bool), grdc (q && decide (0 < (i : Int))) (okAt ((i : Int) - 1) l.length) x = x := fun q x => grdc_At (fun hh => by
        simp only [Bool.and_eq_true, decide_eq_true_eq] at hh; omega)
      have hg3 : ∀ (q : Bool) (x : Option Bool), grdc q (okAt (i : Int) l.length) x = x := fun q x => grdc_At (fun _ => by omega)
      rw [bT (by omega), grd_At (by omega), lt_eq, at_nat h, hlo, hup]
      simp only [bnd_some, bndc_some, hg, hg2, hg3, lt_eq, at_nat h]
      rw [hd]
      simp only [rz]
      by_cases h1 : l[i] < lo
      · have h2 : ¬ lo ≤ l[i] := by omega
        rw [decide_eq_true h1]
        simp [h2]
      · have h1' : lo ≤ l[i] := by omega
        rw [decide_eq_false h1]
        simp only [Bool.not_false, cond_true]
        by_cases h2 : up < l[i]
        · have h3 : ¬ l[i] ≤ up := by omega
          rw [decide_eq_true h2]
          simp [h3]
        · have h2' : l[i] ≤ up := by omega
          rw [decide_eq_false h2]
          have hih := ih (i + 1) (some l[i]) (by omega) (by omega) (by omega) (fun _ => rfl)
          by_cases h0 : i = 0
          · subst h0
            rw [hp0 rfl]
            simp (disch := omega) only [grd_I, cast_succ]
            simp [h1', h2']
            have := hih
            simpa using this
          · have hpv := hp1 ⟨by omega, by omega⟩
            obtain ⟨j, rfl⟩ : ∃ j, i = j + 1 := ⟨i - 1, by omega⟩
            have e1 : at_ l (((j + 1 : Nat) : Int) - 1) = l[j] := by
              have : (((j + 1 : Nat) : Int) - 1) = (j : Int) := by omega
              rw [this, at_nat (by omega)]
            have e2 : p = some l[j] := hpv
            rw [e1, e2]
            have e3 : decide (0 < ((j + 1 : Nat) : Int)) = true := decide_eq_true (by omega)
            rw [e3]
            by_cases hlt : l[j] < l[j + 1]
            · have hle : ¬ l[j + 1] ≤ l[j] := by omega
              simp (disch := omega) only [grd_I, cast_succ]
              simp only [decide_eq_false hle, decide_eq_true hlt, decide_eq_true h1', decide_eq_true h2', Bool.or_self, Bool.true_and, Bool.and_self, cond_false]
              exact hih
            · have hle : l[j + 1] ≤ l[j] := by omega
              simp [hle, hlt]
    · have : l.drop i = [] := List.drop_eq_nil_of_le (by omega)
      rw [bF (by omega), this]; rfl
theorem rz_len0 (lo up : Int) (l : List Int) (h0 : lo ≤ up) (h : rz lo up none l = true) : (l.length : Int) ≤ up - lo + 1 := by
  cases l with
  | nil => simp; omega
  | cons x r =>
    simp only [rz, Bool.and_eq_true, decide_eq_true_eq] at h
    have := rz_len lo up r x h.1.1.2 h.2
    simp only [List.length_cons]; omega
section
variable (F : Nat) (hF : 101 < F) (a1 a2 a3 a4 a5 : List Int) (a6 a7 a8 a9 a10 : Bool)
theorem rmay_step (l : List Int) (star : Bool) (lo up : Int) (rec : Int → Option Bool) (f : Nat) (r : Bool) (hf : f < 5) (hx : at_ ([a1, a2, a3, a4, a5] : List (List Int)) (f : Int) = l) (hs : at_ ([a6, a7, a8, a9, a10] : List Bool) (f : Int) = star)
    (hlo : ref05_Low F f = some lo) (hup : ref05_High F f = some up) (hb : 0 ≤ lo ∧ lo ≤ up ∧ up ≤ 1000) (hl : l.length ≤ 100) (hF : 101 < F) (hrec : rec ((f + 1 : Nat) : Int) = some r) :
    ref05_May_B2 F a1 a2 a3 a4 a5 a6 a7 a8 a9 a10 rec (f : Int) = some (fieldOk lo up l star && r) := by
  unfold ref05_May_B2
  rw [bT (by omega), grd_At (by omega), lt_eq, hx]
  have h := rmay_loop F a6 a7 a8 a9 a10 f lo up l rec hlo hup (by omega) F 0 none (by omega) (by omega) (fun _ => rfl) (fun h => absurd h.1 (by omega))
  have h0 : ((0 : Nat) : Int) = 0 := rfl
  rw [h0, List.drop_zero] at h
  rw [h]
  unfold fieldOk rises
  cases hr : rz lo up none l with
  | false => simp
  | true =>
    have hlen := rz_len0 lo up l hb.2.1 hr
    rw [cond_true]
    unfold ref05_May_j3 ref05_May_j2
    have hg : ∀ (q : Bool) (x : Option Bool), grdc q (okAt (f : Int) 5) x = x := fun q x => grdc_At (fun _ => by omega)
    rw [hg, lt_eq, hs, hlo, hup, bndc_some, bndc_some]
    have hg2 : ∀ (q : Bool) (x : Option Bool), grdc q (okI ((bif q then up else default) - (bif q then lo else default))) x = x := fun q x => by
      cases q with
      | false => exact grdc_f
      | true => rw [grdc_t, cond_true, cond_true, grd_I (by omega)]
    have hg3 : ∀ (q : Bool) (x : Option Bool), grdc q (okI (((bif q then up else default) - (bif q then lo else default)) + 1)) x = x := fun q x => by
      cases q with
      | false => exact grdc_f
      | true => rw [grdc_t, cond_true, cond_true, grd_I (by omega)]
    rw [hg2, hg3, grd_I (by omega), cast_succ, hrec]
    by_cases hn : l = []
    · subst hn; simp
    · have hn' : l.length ≠ 0 := fun h => hn (List.eq_nil_of_length_eq_zero h)
      have e1 : decide ((l.length : Int) = 0) = false := decide_eq_false (by omega)
      have e2 : l.isEmpty = false := by cases l <;> simp_all
      rw [e1, e2]
      cases star with
      | false => simp
      | true =>
        simp only [Bool.not_false, Bool.true_and, Bool.false_or, cond_true]
        by_cases h3 : (l.length : Int) = up - lo + 1
        · rw [decide_eq_true h3, decide_eq_false (show ¬ (l.length : Int) ≤ up - lo by omega)]; simp
        · rw [decide_eq_false h3, decide_eq_true (show (l.length : Int) ≤ up - lo by omega)]; simp
theorem rMay_eq (hF : 101 < F) (h1 : a1.length ≤ 100) (h2 : a2.length ≤ 100) (h3 : a3.length ≤ 100) (h4 : a4.length ≤ 100) (h5 : a5.length ≤ 100) :
    ref05_May F a1 a2 a3 a4 a5 a6 a7 a8 a9 a10 = some (mayB a1 a2 a3 a4 a5 a6 a7 a8 a9 a10) := by
  obtain ⟨n, hn⟩ : ∃ n, F = n + 1 + 5 := ⟨F - 6, by omega⟩
  have g5 : ref05_May_L2 F a1 a2 a3 a4 a5 a6 a7 a8 a9 a10 (n + 1) ((5 : Nat) : Int) = some true := by
    show ref05_May_B2 F a1 a2 a3 a4 a5 a6 a7 a8 a9 a10 (ref05_May_L2 F a1 a2 a3 a4 a5 a6 a7 a8 a9 a10 n) ((5 : Nat) : Int) = _
    unfold ref05_May_B2 ref05_May_j1
    rw [bF (by omega)]
  have g4 : ref05_May_L2 F a1 a2 a3 a4 a5 a6 a7 a8 a9 a10 (n + 2) ((4 : Nat) : Int) = _ := rmay_step F a1 a2 a3 a4 a5 a6 a7 a8 a9 a10 a5 a10 0 6 _ 4 _ (by omega) rfl rfl rfl rfl (by omega) h5 hF g5
  have g3 : ref05_May_L2 F a1 a2 a3 a4 a5 a6 a7 a8 a9 a10 (n + 3) ((3 : Nat) : Int) = _ := rmay_step F a1 a2 a3 a4 a5 a6 a7 a8 a9 a10 a4 a9 1 12 _ 3 _ (by omega) rfl rfl rfl rfl (by omega) h4 hF g4
  have g2 : ref05_May_L2 F a1 a2 a3 a4 a5 a6 a7 a8 a9 a10 (n + 4) ((2 : Nat) : Int) = _ := rmay_step F a1 a2 a3 a4 a5 a6 a7 a8 a9 a10 a3 a8 1 31 _ 2 _ (by omega) rfl rfl rfl rfl (by omega) h3 hF g3
  have g1 : ref05_May_L2 F a1 a2 a3 a4 a5 a6 a7 a8 a9 a10 (n + 5) ((1 : Nat) : Int) = _ := rmay_step F a1 a2 a3 a4 a5 a6 a7 a8 a9 a10 a2 a7 0 23 _ 1 _ (by omega) rfl rfl rfl rfl (by omega) h2 hF g2
  have g0 : ref05_May_L2 F a1 a2 a3 a4 a5 a6 a7 a8 a9 a10 (n + 6) ((0 : Nat) : Int) = _ := rmay_step F a1 a2 a3 a4 a5 a6 a7 a8 a9 a10 a1 a6 0 59 _ 0 _ (by omega) rfl rfl rfl rfl (by omega) h1 hF g1
  have e : ref05_May F a1 a2 a3 a4 a5 a6 a7 a8 a9 a10 = ref05_May_L2 F a1 a2 a3 a4 a5 a6 a7 a8 a9 a10 (n + 6) ((0 : Nat) : Int) := by
    unfold ref05_May
    rw [show n + 6 = F by omega]; rfl
  rw [e, g0, Bool.and_true]; rfl
end
section
variable (F : Nat) (hF : 101 < F) (a1 a2 a3 a4 a5 : List Int) (a6 a7 a8 a9 a10 : Bool) (h1 : a1.length ≤ 100) (h2 : a2.length ≤ 100) (h3 : a3.length ≤ 100) (h4 : a4.length ≤ 100) (h5 : a5.length ≤ 100)
include hF h1 h2 h3 h4 h5
theorem rDay_eq (y m d : Int) : ref05_Day F a1 a2 a3 a4 a5 a6 a7 a8 a9 a10 y m d = some (dayB a1 a2 a3 a4 a5 a6 a7 a8 a9 a10 y m d) := by
  unfold ref05_Day dayB
  rw [rMay_eq F a1 a2 a3 a4 a5 a6 a7 a8 a9 a10 hF h1 h2 h3 h4 h5, bnd_some, rOrd_eq F (by omega)]
  cases hm : mayB a1 a2 a3 a4 a5 a6 a7 a8 a9 a10 with
  | false => cases okDay y m d <;> rfl
  | true =>
    cases ho : okDay y m d with
    | false => rfl
    | true =>
      rw [cond_true, bnd2_some]
      have e : (decide ((0 : Int) = 0)) = true := by decide
      simp only [e, Bool.not_true, Bool.or_self, cond_false, Has_eq F a4 m (by omega) (by omega), Has_eq F a3 d (by omega) (by omega), bnd_some, rWday_eq F _ (num_range y m d ho), Has_eq F a5 _ (by omega) (by omega), Bool.true_and]
      cases a8 <;> cases a10 <;> cases decide (m ∈ a4) <;> simp
theorem rMatch_eq (y m d h mi s : Int) : ref05_Match F a1 a2 a3 a4 a5 a6 a7 a8 a9 a10 y m d h mi s = some (matchB a1 a2 a3 a4 a5 a6 a7 a8 a9 a10 y m d h mi s) := by
  unfold ref05_Match matchB
  rw [rMay2_eq F (by omega), bnd_some]
  cases mayT y m d h mi s with
  | false => rfl
  | true =>
    simp only [Bool.not_true, cond_false, Has_eq F a1 mi (by omega) (by omega), Has_eq F a2 h (by omega) (by omega), rDay_eq F hF a1 a2 a3 a4 a5 a6 a7 a8 a9 a10 h1 h2 h3 h4 h5, bnd_some, Bool.true_and]
    cases decide (s = 0) <;> cases decide (mi ∈ a1) <;> cases decide (h ∈ a2) <;> rfl
end
end Go.Cn
namespace Go.Cn
open Go.Pv Go.Av Go.Lib

theorem cons_dec {x y : Int} {r r' : List Int} : decide (x :: r = y :: r') = (decide (x = y) && decide (r = r')) := by
  by_cases h : x = y <;> by_cases g : r = r' <;> simp [h, g]
theorem equal_loop (a b : List Int) (hl : a.length ≤ 1000000) (he : a.length = b.length) : ∀ (k i : Nat), a.length - i < k → i ≤ a.length → sl_Equal_L1 a b k (i : Int) = some (decide (a.drop i = b.drop i)) := by
  intro k
  induction k with
  | zero => intro i h; omega
  | succ k ih =>
    intro i hk hi
    show sl_Equal_B1 a b (sl_Equal_L1 a b k) (i : Int) = _
    unfold sl_Equal_B1 sl_Equal_j1
    by_cases h : i < a.length
    · have hd : a.drop i = a[i] :: a.drop (i + 1) := List.drop_eq_getElem_cons h
      have hb : i < b.length := by omega
      have hd' : b.drop i = b[i] :: b.drop (i + 1) := List.drop_eq_getElem_cons hb
      rw [bT (by omega), grd_At (by omega), lt_eq, at_nat h, grd_At (by omega), lt_eq, at_nat hb, hd, hd']
      by_cases hc : a[i] = b[i]
      · rw [decide_eq_true hc, Bool.not_true, cond_false, grd_I (by omega), cast_succ, ih (i + 1) (by omega) (by omega), cons_dec, decide_eq_true hc, Bool.true_and]
      · rw [decide_eq_false hc, cons_dec, decide_eq_false hc]; simp only [Bool.not_false, cond_true, Bool.false_and, cond_false]
    · have : a.drop i = [] := List.drop_eq_nil_of_le (by omega)
      have h2 : b.drop i = [] := List.drop_eq_nil_of_le (by omega)
      rw [bF (by omega), this, h2]; rfl
theorem Equal_eq (F : Nat) (a b : List Int) (hl : a.length ≤ 1000) (hF : 1000 ≤ F) : sl_Equal (F + 1) a b = some (decide (a = b)) := by
  unfold sl_Equal
  by_cases he : a.length = b.length
  · rw [decide_eq_true (show (a.length : Int) = (b.length : Int) by omega), Bool.not_true, cond_false]
    have := equal_loop a b (by omega) he (F + 1) 0 (by omega) (by omega)
    simpa using this
  · rw [decide_eq_false (show ¬ (a.length : Int) = (b.length : Int) by omega), decide_eq_false (fun h => he (by rw [h]))]; rfl
section
variable (a1 a2 a3 a4 a5 : List Int) (a6 a7 a8 a9 a10 : Bool) (b1 b2 b3 b4 b5 : List Int) (b6 b7 b8 b9 b10 : Bool)
def sameB : Bool :=
  (decide (a1 = b1) && (decide (a2 = b2) && (decide (a3 = b3) && (decide (a4 = b4) && decide (a5 = b5))))) && ((a6 == b6) && ((a7 == b7) && ((a8 == b8) && ((a9 == b9) && (a10 == b10)))))
theorem same_step (F n f : Nat) (x y : List Int) (r : Bool) (hf : f < 5) (hF : 1001 ≤ F) (hx : at_ ([a1, a2, a3, a4, a5] : List (List Int)) (f : Int) = x) (hy : at_ ([b1, b2, b3, b4, b5] : List (List Int)) (f : Int) = y) (hl : x.length ≤ 100)
    (h : cron_Same_L1 F a1 a2 a3 a4 a5 a6 a7 a8 a9 a10 b1 b2 b3 b4 b5 b6 b7 b8 b9 b10 n ((f + 1 : Nat) : Int) = some r) :
    cron_Same_L1 F a1 a2 a3 a4 a5 a6 a7 a8 a9 a10 b1 b2 b3 b4 b5 b6 b7 b8 b9 b10 (n + 1) (f : Int) = some (decide (x = y) && r) := by
  show cron_Same_B1 F a1 a2 a3 a4 a5 a6 a7 a8 a9 a10 b1 b2 b3 b4 b5 b6 b7 b8 b9 b10 (cron_Same_L1 F a1 a2 a3 a4 a5 a6 a7 a8 a9 a10 b1 b2 b3 b4 b5 b6 b7 b8 b9 b10 n) (f : Int) = _
  unfold cron_Same_B1
  obtain ⟨G, rfl⟩ : ∃ G, F = G + 1 := ⟨F - 1, by omega⟩
  rw [bT (by omega), grd_At (by omega), lt_eq, hx, grd_At (by omega), lt_eq, hy, Equal_eq G x y (by omega) (by omega), bnd_some, grd_I (by omega), cast_succ, h]
  cases decide (x = y) <;> rfl
theorem Same_eq (F : Nat) (hF : 1001 ≤ F) (h1 : a1.length ≤ 100) (h2 : a2.length ≤ 100) (h3 : a3.length ≤ 100) (h4 : a4.length ≤ 100) (h5 : a5.length ≤ 100) :
    cron_Same F a1 a2 a3 a4 a5 a6 a7 a8 a9 a10 b1 b2 b3 b4 b5 b6 b7 b8 b9 b10 = some (sameB a1 a2 a3 a4 a5 a6 a7 a8 a9 a10 b1 b2 b3 b4 b5 b6 b7 b8 b9 b10) := by
  obtain ⟨n, hn⟩ : ∃ n, F = n + 1 + 5 := ⟨F - 6, by omega⟩
  have g5 : cron_Same_L1 F a1 a2 a3 a4 a5 a6 a7 a8 a9 a10 b1 b2 b3 b4 b5 b6 b7 b8 b9 b10 (n + 1) ((5 : Nat) : Int) = some ((a6 == b6) && ((a7 == b7) && ((a8 == b8) && ((a9 == b9) && ((a10 == b10) && true))))) := by
    show cron_Same_B1 F a1 a2 a3 a4 a5 a6 a7 a8 a9 a10 b1 b2 b3 b4 b5 b6 b7 b8 b9 b10 (cron_Same_L1 F a1 a2 a3 a4 a5 a6 a7 a8 a9 a10 b1 b2 b3 b4 b5 b6 b7 b8 b9 b10 n) ((5 : Nat) : Int) = _
    unfold cron_Same_B1 cron_Same_j1
    rw [bF (by omega)]
  have g4 := same_step a1 a2 a3 a4 a5 a6 a7 a8 a9 a10 b1 b2 b3 b4 b5 b6 b7 b8 b9 b10 F _ 4 a5 b5 _ (by omega) hF rfl rfl h5 g5
  have g3 := same_step a1 a2 a3 a4 a5 a6 a7 a8 a9 a10 b1 b2 b3 b4 b5 b6 b7 b8 b9 b10 F _ 3 a4 b4 _ (by omega) hF rfl rfl h4 g4
  have g2 := same_step a1 a2 a3 a4 a5 a6 a7 a8 a9 a10 b1 b2 b3 b4 b5 b6 b7 b8 b9 b10 F _ 2 a3 b3 _ (by omega) hF rfl rfl h3 g3
  have g1 := same_step a1 a2 a3 a4 a5 a6 a7 a8 a9 a10 b1 b2 b3 b4 b5 b6 b7 b8 b9 b10 F _ 1 a2 b2 _ (by omega) hF rfl rfl h2 g2
  have g0 := same_step a1 a2 a3 a4 a5 a6 a7 a8 a9 a10 b1 b2 b3 b4 b5 b6 b7 b8 b9 b10 F _ 0 a1 b1 _ (by omega) hF rfl rfl h1 g1
  have e : cron_Same F a1 a2 a3 a4 a5 a6 a7 a8 a9 a10 b1 b2 b3 b4 b5 b6 b7 b8 b9 b10 = cron_Same_L1 F a1 a2 a3 a4 a5 a6 a7 a8 a9 a10 b1 b2 b3 b4 b5 b6 b7 b8 b9 b10 (n + 1 + 5) ((0 : Nat) : Int) := by
    unfold cron_Same
    rw [show n + 1 + 5 = F by omega]; rfl
  rw [e]
  refine g0.trans ?_
  unfold sameB
  simp only [Bool.and_true, Bool.and_assoc]
theorem rsame_inner (x y : List Int) (f : Nat) (hf : f < 5) (rec : Int → Option Bool) (hx : at_ ([a1, a2, a3, a4, a5] : List (List Int)) (f : Int) = x) (hy : at_ ([b1, b2, b3, b4, b5] : List (List Int)) (f : Int) = y) (he : x.length = y.length) (hl : x.length ≤ 100) :
    ∀ (k i : Nat), x.length - i < k → i ≤ x.length → ref05_Same_L1 a1 a2 a3 a4 a5 b1 b2 b3 b4 b5 (f : Int) rec k (i : Int) = bif decide (x.drop i = y.drop i) then rec ((f + 1 : Nat) : Int) else some false := by
  intro k
  induction k with
  | zero => intro i h; omega
  | succ k ih =>
    intro i hk hi
    show ref05_Same_B1 a1 a2 a3 a4 a5 b1 b2 b3 b4 b5 (f : Int) rec (ref05_Same_L1 a1 a2 a3 a4 a5 b1 b2 b3 b4 b5 (f : Int) rec k) (i : Int) = _
    unfold ref05_Same_B1 ref05_Same_j2
    have hg : ∀ (q : Option Bool), grd (okAt (f : Int) 5) q = q := fun q => grd_At (by omega)
    by_cases h : i < x.length
    · have hd : x.drop i = x[i] :: x.drop (i + 1) := List.drop_eq_getElem_cons h
      have hb : i < y.length := by omega
      have hd' : y.drop i = y[i] :: y.drop (i + 1) := List.drop_eq_getElem_cons hb
      simp only [hg, lt_eq, hx, hy]
      rw [bT (by omega), grd_At (by omega), at_nat h, grd_At (by omega), at_nat hb, hd, hd']
      by_cases hc : x[i] = y[i]
      · rw [decide_eq_true hc, Bool.not_true, cond_false, grd_I (by omega), cast_succ, ih (i + 1) (by omega) (by omega), cons_dec, decide_eq_true hc, Bool.true_and]
      · rw [decide_eq_false hc, cons_dec, decide_eq_false hc]; simp only [Bool.not_false, cond_true, Bool.false_and, cond_false]
    · have e1 : x.drop i = [] := List.drop_eq_nil_of_le (by omega)
      have e2 : y.drop i = [] := List.drop_eq_nil_of_le (by omega)
      simp only [hg, lt_eq, hx]
      rw [bF (by omega), e1, e2, grd_I (by omega), cast_succ, decide_eq_true rfl, cond_true]
theorem rsame_step (F n f : Nat) (x y : List Int) (s t r : Bool) (hf : f < 5) (hF : 1001 ≤ F) (hx : at_ ([a1, a2, a3, a4, a5] : List (List Int)) (f : Int) = x) (hy : at_ ([b1, b2, b3, b4, b5] : List (List Int)) (f : Int) = y)
    (hs : at_ ([a6, a7, a8, a9, a10] : List Bool) (f : Int) = s) (ht : at_ ([b6, b7, b8, b9, b10] : List Bool) (f : Int) = t) (hl : x.length ≤ 100)
    (h : ref05_Same_L2 F a1 a2 a3 a4 a5 a6 a7 a8 a9 a10 b1 b2 b3 b4 b5 b6 b7 b8 b9 b10 n ((f + 1 : Nat) : Int) = some r) :
    ref05_Same_L2 F a1 a2 a3 a4 a5 a6 a7 a8 a9 a10 b1 b2 b3 b4 b5 b6 b7 b8 b9 b10 (n + 1) (f : Int) = some ((decide (x = y) && (s == t)) && r) := by
  show ref05_Same_B2 F a1 a2 a3 a4 a5 a6 a7 a8 a9 a10 b1 b2 b3 b4 b5 b6 b7 b8 b9 b10 (ref05_Same_L2 F a1 a2 a3 a4 a5 a6 a7 a8 a9 a10 b1 b2 b3 b4 b5 b6 b7 b8 b9 b10 n) (f : Int) = _
  unfold ref05_Same_B2
  have hg : ∀ (c : Bool) (q : Option Bool), grdc c (okAt (f : Int) 5) q = q := fun c q => grdc_At (fun _ => by omega)
  rw [bT (by omega), grd_At (by omega), lt_eq, hx, grd_At (by omega), lt_eq, hy, hg, lt_eq, hs, hg, lt_eq, ht]
  by_cases he : x.length = y.length
  · rw [decide_eq_true (show (x.length : Int) = (y.length : Int) by omega)]
    have hi := rsame_inner a1 a2 a3 a4 a5 b1 b2 b3 b4 b5 x y f hf (ref05_Same_L2 F a1 a2 a3 a4 a5 a6 a7 a8 a9 a10 b1 b2 b3 b4 b5 b6 b7 b8 b9 b10 n) hx hy he hl F 0 (by omega) (by omega)
    rw [List.drop_zero, List.drop_zero, h] at hi
    have hi' : ref05_Same_L1 a1 a2 a3 a4 a5 b1 b2 b3 b4 b5 (f : Int) (ref05_Same_L2 F a1 a2 a3 a4 a5 a6 a7 a8 a9 a10 b1 b2 b3 b4 b5 b6 b7 b8 b9 b10 n) F 0 = _ := hi
    rw [hi']
    cases s == t <;> cases decide (x = y) <;> rfl
  · rw [decide_eq_false (show ¬ (x.length : Int) = (y.length : Int) by omega), decide_eq_false (fun h => he (by rw [h]))]; rfl
theorem rSame_eq (F : Nat) (hF : 1001 ≤ F) (h1 : a1.length ≤ 100) (h2 : a2.length ≤ 100) (h3 : a3.length ≤ 100) (h4 : a4.length ≤ 100) (h5 : a5.length ≤ 100) :
    ref05_Same F a1 a2 a3 a4 a5 a6 a7 a8 a9 a10 b1 b2 b3 b4 b5 b6 b7 b8 b9 b10 = some (sameB a1 a2 a3 a4 a5 a6 a7 a8 a9 a10 b1 b2 b3 b4 b5 b6 b7 b8 b9 b10) := by
  obtain ⟨n, hn⟩ : ∃ n, F = n + 1 + 5 := ⟨F - 6, by omega⟩
  have g5 : ref05_Same_L2 F a1 a2 a3 a4 a5 a6 a7 a8 a9 a10 b1 b2 b3 b4 b5 b6 b7 b8 b9 b10 (n + 1) ((5 : Nat) : Int) = some true := by
    show ref05_Same_B2 F a1 a2 a3 a4 a5 a6 a7 a8 a9 a10 b1 b2 b3 b4 b5 b6 b7 b8 b9 b10 (ref05_Same_L2 F a1 a2 a3 a4 a5 a6 a7 a8 a9 a10 b1 b2 b3 b4 b5 b6 b7 b8 b9 b10 n) ((5 : Nat) : Int) = _
    unfold ref05_Same_B2 ref05_Same_j1
    rw [bF (by omega)]
  have g4 := rsame_step a1 a2 a3 a4 a5 a6 a7 a8 a9 a10 b1 b2 b3 b4 b5 b6 b7 b8 b9 b10 F _ 4 a5 b5 a10 b10 _ (by omega) hF rfl rfl rfl rfl h5 g5
  have g3 := rsame_step a1 a2 a3 a4 a5 a6 a7 a8 a9 a10 b1 b2 b3 b4 b5 b6 b7 b8 b9 b10 F _ 3 a4 b4 a9 b9 _ (by omega) hF rfl rfl rfl rfl h4 g4
  have g2 := rsame_step a1 a2 a3 a4 a5 a6 a7 a8 a9 a10 b1 b2 b3 b4 b5 b6 b7 b8 b9 b10 F _ 2 a3 b3 a8 b8 _ (by omega) hF rfl rfl rfl rfl h3 g3
  have g1 := rsame_step a1 a2 a3 a4 a5 a6 a7 a8 a9 a10 b1 b2 b3 b4 b5 b6 b7 b8 b9 b10 F _ 1 a2 b2 a7 b7 _ (by omega) hF rfl rfl rfl rfl h2 g2
  have g0 := rsame_step a1 a2 a3 a4 a5 a6 a7 a8 a9 a10 b1 b2 b3 b4 b5 b6 b7 b8 b9 b10 F _ 0 a1 b1 a6 b6 _ (by omega) hF rfl rfl rfl rfl h1 g1
  have e : ref05_Same F a1 a2 a3 a4 a5 a6 a7 a8 a9 a10 b1 b2 b3 b4 b5 b6 b7 b8 b9 b10 = ref05_Same_L2 F a1 a2 a3 a4 a5 a6 a7 a8 a9 a10 b1 b2 b3 b4 b5 b6 b7 b8 b9 b10 (n + 1 + 5) ((0 : Nat) : Int) := by
    unfold ref05_Same
    rw [show n + 1 + 5 = F by omega]; rfl
  rw [e]
  refine g0.trans ?_
  unfold sameB
  simp only [Bool.and_true]
  congr 1
  ac_rfl
end

/-! ### What is written -/
def ds (x : List Int) : List (List UInt8) := x.map fun n => decDigits n.toNat
def fT (x : List Int) (star : Bool) : List UInt8 := bif star then [42] else Str.join [44] (ds x)
theorem rz_mem {lo up : Int} : ∀ {l : List Int} {p : Option Int}, rz lo up p l = true → ∀ n ∈ l, lo ≤ n ∧ n ≤ up := by
  intro l
  induction l with
  | nil => intro p _ n hn; simp at hn
  | cons x r ih =>
    intro p h n hn
    simp only [rz, Bool.and_eq_true, decide_eq_true_eq] at h
    rcases List.mem_cons.1 hn with rfl | hn
    · exact h.1.1
    · exact ih h.2 n hn
theorem dec_len : ∀ n : Fin 100, (decDigits n.val).length ≤ 2 := by decide +kernel
theorem ref_num : ∀ n : Fin 100, ref03_Number 1001 (n.val : Int) = some (decDigits n.val) := by decide +kernel
theorem ds_total : ∀ {x : List Int}, (∀ n ∈ x, 0 ≤ n ∧ n < 100) → Str.total (ds x) ≤ 2 * x.length := by
  intro x
  induction x with
  | nil => intro _; simp [ds, Str.total]
  | cons n r ih =>
    intro h
    have h1 := h n (by simp)
    have h2 := ih (fun m hm => h m (by simp [hm]))
    have h3 : (decDigits n.toNat).length ≤ 2 := dec_len ⟨n.toNat, by omega⟩
    simp only [ds, List.map_cons, Str.total, List.length_cons] at h2 ⊢
    omega
theorem fT_len {x : List Int} {star : Bool} (h : ∀ n ∈ x, 0 ≤ n ∧ n < 100) (hl : x.length ≤ 100) : (fT x star).length ≤ 300 := by
  unfold fT
  cases star with
  | true => simp
  | false =>
    have h1 := Str.join_length [44] (ds x)
    have h2 := ds_total h
    have h3 : (ds x).length = x.length := by simp [ds]
    simp only [List.length_cons, List.length_nil, cond_false] at h1 ⊢
    omega
section
variable (a1 a2 a3 a4 a5 : List Int) (a6 a7 a8 a9 a10 : Bool)
theorem write_inner (x : List Int) (f : Int) (l : List (List UInt8)) (rec : ((List (List UInt8)) × Int) → Option ((List UInt8) × Int)) (hx : ∀ n ∈ x, 0 ≤ n ∧ n < 100) (hl : x.length ≤ 100) :
    ∀ (k i : Nat) (d : List (List UInt8)), x.length - i < k → i ≤ x.length → d.length = i → cron_Write_L1 a6 a7 a8 a9 a10 l f x rec k (d, (i : Int)) = cron_Write_j4 a6 a7 a8 a9 a10 l f rec (d ++ ds (x.drop i)) := by
  intro k
  induction k with
  | zero => intro i d h; omega
  | succ k ih =>
    intro i d hk hi hd
    show cron_Write_B1 a6 a7 a8 a9 a10 l f x rec (cron_Write_L1 a6 a7 a8 a9 a10 l f x rec k) d (i : Int) = _
    unfold cron_Write_B1
    by_cases h : i < x.length
    · have hdr : x.drop i = x[i] :: x.drop (i + 1) := List.drop_eq_getElem_cons h
      have hb := hx x[i] (List.getElem_mem h)
      rw [bT (by omega), grd_At (by omega), lt_eq, at_nat h, grd_At (by omega), lt_eq, grd_Cat (by simp; omega), lt_eq, grd_I (by omega), cast_succ, ih (i + 1) _ (by omega) (by omega) (by simp [hd]), hdr]
      simp only [ds, List.map_cons, List.append_assoc, List.singleton_append]
    · have : x.drop i = [] := List.drop_eq_nil_of_le (by omega)
      rw [bF (by omega), this]
      show _ = cron_Write_j4 a6 a7 a8 a9 a10 l f rec (d ++ [])
      rw [List.append_nil]
theorem write_step (F n f : Nat) (x : List Int) (star : Bool) (l : List (List UInt8)) (hf : f < 5) (hF : 1000 ≤ F) (hx : at_ ([a1, a2, a3, a4, a5] : List (List Int)) (f : Int) = x) (hs : at_ ([a6, a7, a8, a9, a10] : List Bool) (f : Int) = star)
    (hb : ∀ n ∈ x, 0 ≤ n ∧ n < 100) (hl : x.length ≤ 100) (hll : l.length ≤ 100) :
    cron_Write_L2 F a1 a2 a3 a4 a5 a6 a7 a8 a9 a10 (n + 1) (l, (f : Int)) = cron_Write_L2 F a1 a2 a3 a4 a5 a6 a7 a8 a9 a10 n (l ++ [fT x star], ((f + 1 : Nat) : Int)) := by
  show cron_Write_B2 F a1 a2 a3 a4 a5 a6 a7 a8 a9 a10 (cron_Write_L2 F a1 a2 a3 a4 a5 a6 a7 a8 a9 a10 n) l (f : Int) = _
  unfold cron_Write_B2
  rw [bT (by omega), grd_At (by omega), lt_eq, hx]
  have h := write_inner a6 a7 a8 a9 a10 x f l (cron_Write_L2 F a1 a2 a3 a4 a5 a6 a7 a8 a9 a10 n) hb hl F 0 [] (by omega) (by omega) rfl
  have h' : cron_Write_L1 a6 a7 a8 a9 a10 l (f : Int) x (cron_Write_L2 F a1 a2 a3 a4 a5 a6 a7 a8 a9 a10 n) F ([], 0) = _ := h
  rw [h', List.drop_zero, List.nil_append]
  unfold cron_Write_j4 cron_Write_j3 cron_Write_j2
  have h2 := ds_total hb
  have h3 : (ds x).length = x.length := by simp [ds]
  rw [grd_At (by omega), lt_eq, hs, grd_Join (by simp [Str.total]), grd_Join (by simp only [List.length_cons, List.length_nil]; omega)]
  simp only [lt_eq]
  rw [grd_Cat (by simp; omega), grd_Cat (by simp; omega)]
  have hgI : ∀ q : Option ((List UInt8) × Int), grd (okI ((f + 1 : Nat) : Int)) q = q := fun q => grd_I (by omega)
  simp only [cast_succ, hgI]
  unfold fT
  have hj : Str.join [44] [[42]] = [42] := rfl
  cases star <;> simp only [hj, cond_true, cond_false]
def wT : List UInt8 := Str.join [32] [fT a1 a6, fT a2 a7, fT a3 a8, fT a4 a9, fT a5 a10]
end
section
variable (a1 a2 a3 a4 a5 : List Int) (a6 a7 a8 a9 a10 : Bool)
theorem may_bounds (h : mayB a1 a2 a3 a4 a5 a6 a7 a8 a9 a10 = true) : (∀ n ∈ a1, 0 ≤ n ∧ n < 100) ∧ (∀ n ∈ a2, 0 ≤ n ∧ n < 100) ∧ (∀ n ∈ a3, 0 ≤ n ∧ n < 100) ∧ (∀ n ∈ a4, 0 ≤ n ∧ n < 100) ∧ (∀ n ∈ a5, 0 ≤ n ∧ n < 100) := by
  obtain ⟨f1, f2, f3, f4, f5⟩ := may_s h
  have go : ∀ {lo up : Int} {l : List Int} {s : Bool}, 0 ≤ lo → up < 100 → fieldOk lo up l s = true → ∀ n ∈ l, 0 ≤ n ∧ n < 100 := by
    intro lo up l s g1 g2 g n hn
    unfold fieldOk rises at g
    simp only [Bool.and_eq_true] at g
    have := rz_mem g.1.2 n hn
    omega
  exact ⟨go (by omega) (by omega) f1, go (by omega) (by omega) f2, go (by omega) (by omega) f3, go (by omega) (by omega) f4, go (by omega) (by omega) f5⟩
end
section
variable (F : Nat) (hF : 1000 < F) (a1 a2 a3 a4 a5 : List Int) (a6 a7 a8 a9 a10 : Bool) (h1 : a1.length ≤ 100) (h2 : a2.length ≤ 100) (h3 : a3.length ≤ 100) (h4 : a4.length ≤ 100) (h5 : a5.length ≤ 100)
include hF h1 h2 h3 h4 h5
theorem Write_eq : cron_Write F a1 a2 a3 a4 a5 a6 a7 a8 a9 a10 = some (bif mayB a1 a2 a3 a4 a5 a6 a7 a8 a9 a10 then (wT a1 a2 a3 a4 a5 a6 a7 a8 a9 a10, 0) else ([], 1)) := by
  unfold cron_Write
  rw [May_eq F (by omega) a1 a2 a3 a4 a5 a6 a7 a8 a9 a10 h1 h2 h3 h4 h5, bnd_some]
  cases hm : mayB a1 a2 a3 a4 a5 a6 a7 a8 a9 a10 with
  | false => rfl
  | true =>
    obtain ⟨q1, q2, q3, q4, q5⟩ := may_bounds a1 a2 a3 a4 a5 a6 a7 a8 a9 a10 hm
    obtain ⟨n, hn⟩ : ∃ n, F = n + 1 + 5 := ⟨F - 6, by omega⟩
    have e : cron_Write_L2 F a1 a2 a3 a4 a5 a6 a7 a8 a9 a10 F ([], 0) = cron_Write_L2 F a1 a2 a3 a4 a5 a6 a7 a8 a9 a10 (n + 1 + 5) ([], ((0 : Nat) : Int)) := by rw [show n + 1 + 5 = F by omega]; rfl
    rw [Bool.not_true, cond_false, cond_true, e]
    rw [write_step a1 a2 a3 a4 a5 a6 a7 a8 a9 a10 F _ 0 a1 a6 _ (by omega) (by omega) rfl rfl q1 h1 (by simp)]
    rw [write_step a1 a2 a3 a4 a5 a6 a7 a8 a9 a10 F _ 1 a2 a7 _ (by omega) (by omega) rfl rfl q2 h2 (by simp)]
    rw [write_step a1 a2 a3 a4 a5 a6 a7 a8 a9 a10 F _ 2 a3 a8 _ (by omega) (by omega) rfl rfl q3 h3 (by simp)]
    rw [write_step a1 a2 a3 a4 a5 a6 a7 a8 a9 a10 F _ 3 a4 a9 _ (by omega) (by omega) rfl rfl q4 h4 (by simp)]
    rw [write_step a1 a2 a3 a4 a5 a6 a7 a8 a9 a10 F _ 4 a5 a10 _ (by omega) (by omega) rfl rfl q5 h5 (by simp)]
    show cron_Write_B2 F a1 a2 a3 a4 a5 a6 a7 a8 a9 a10 (cron_Write_L2 F a1 a2 a3 a4 a5 a6 a7 a8 a9 a10 n) _ ((5 : Nat) : Int) = _
    unfold cron_Write_B2 cron_Write_j1
    have g1 := fT_len (star := a6) q1 h1
    have g2 := fT_len (star := a7) q2 h2
    have g3 := fT_len (star := a8) q3 h3
    have g4 := fT_len (star := a9) q4 h4
    have g5 := fT_len (star := a10) q5 h5
    rw [bF (by omega), grd_Join (by simp [Str.total]; omega), lt_eq]; rfl
end
section
variable (a1 a2 a3 a4 a5 : List Int) (a6 a7 a8 a9 a10 : Bool)
theorem rwrite_inner (x : List Int) (f : Nat) (hf : f < 5) (rec : ((List UInt8) × Int) → Option ((List UInt8) × Int)) (hx : at_ ([a1, a2, a3, a4, a5] : List (List Int)) (f : Int) = x) (hb : ∀ n ∈ x, 0 ≤ n ∧ n < 100) (hl : x.length ≤ 100) :
    ∀ (k i : Nat) (out : List UInt8), x.length - i < k → i ≤ x.length → out.length ≤ 100000 + 3 * i → ref05_Write_L1 1001 a1 a2 a3 a4 a5 (f : Int) rec k (out, (i : Int)) = rec (out ++ (if i = 0 then Str.join [44] (ds (x.drop i)) else Str.rest [44] (ds (x.drop i))), ((f + 1 : Nat) : Int)) := by
  intro k
  induction k with
  | zero => intro i out h; omega
  | succ k ih =>
    intro i out hk hi ho
    show ref05_Write_B1 1001 a1 a2 a3 a4 a5 (f : Int) rec (ref05_Write_L1 1001 a1 a2 a3 a4 a5 (f : Int) rec k) out (i : Int) = _
    unfold ref05_Write_B1
    rw [grd_At (by omega), lt_eq, hx]
    by_cases h : i < x.length
    · have hdr : x.drop i = x[i] :: x.drop (i + 1) := List.drop_eq_getElem_cons h
      have hbb := hb x[i] (List.getElem_mem h)
      have hn := ref_num ⟨x[i].toNat, by omega⟩
      have hn2 : ((x[i].toNat : Nat) : Int) = x[i] := by omega
      simp only [hn2] at hn
      have hdl := dec_len ⟨x[i].toNat, by omega⟩
      simp only at hdl
      rw [bT (by omega)]
      unfold ref05_Write_j3
      have hg : ∀ (q : Option ((List UInt8) × Int)), grd (okAt (f : Int) 5) q = q := fun q => grd_At (by omega)
      have hg2 : ∀ (q : Option ((List UInt8) × Int)), grd (okAt (i : Int) x.length) q = q := fun q => grd_At (by omega)
      have hg3 : ∀ (q : Option ((List UInt8) × Int)), grd (okI ((i : Int) + 1)) q = q := fun q => grd_I (by omega)
      simp only [hg, lt_eq, hx, hg2, at_nat h, hn, bnd_some, hg3]
      by_cases h0 : i = 0
      · subst h0
        rw [bF (by omega), grd_Cat (by omega), cast_succ, ih 1 _ (by omega) (by omega) (by simp only [List.length_append]; omega), hdr]
        simp only [ds, Str.join, List.map_cons, List.append_assoc, if_true, Nat.one_ne_zero, if_false]
      · rw [bT (by omega), grd_Cat (by simp; omega), grd_Cat (by simp; omega), cast_succ, ih (i + 1) _ (by omega) (by omega) (by simp only [List.length_append, List.length_cons, List.length_nil]; omega), hdr]
        simp only [ds, Str.rest, h0, if_false, List.map_cons, List.append_assoc, Nat.succ_ne_zero, Nat.add_eq_zero_iff, Nat.one_ne_zero, and_false]
    · have hd : x.drop i = [] := List.drop_eq_nil_of_le (by omega)
      unfold ref05_Write_j2
      rw [bF (by omega), hd, grd_I (by omega), cast_succ]
      by_cases h0 : i = 0 <;> simp [h0, ds, Str.join, Str.rest]
theorem rwrite_step (n f : Nat) (x : List Int) (star : Bool) (out : List UInt8) (hf : f < 5) (hx : at_ ([a1, a2, a3, a4, a5] : List (List Int)) (f : Int) = x) (hs : at_ ([a6, a7, a8, a9, a10] : List Bool) (f : Int) = star)
    (hb : ∀ n ∈ x, 0 ≤ n ∧ n < 100) (hl : x.length ≤ 100) (ho : out.length ≤ 90000) :
    ref05_Write_L2 1001 a1 a2 a3 a4 a5 a6 a7 a8 a9 a10 (n + 1) (out, (f : Int)) = ref05_Write_L2 1001 a1 a2 a3 a4 a5 a6 a7 a8 a9 a10 n ((out ++ (if f = 0 then [] else [32])) ++ fT x star, ((f + 1 : Nat) : Int)) := by
  show ref05_Write_B2 1001 a1 a2 a3 a4 a5 a6 a7 a8 a9 a10 (ref05_Write_L2 1001 a1 a2 a3 a4 a5 a6 a7 a8 a9 a10 n) out (f : Int) = _
  unfold ref05_Write_B2
  rw [bT (by omega), grd_Cat (by simp; omega), lt_eq]
  have j4 : ∀ o : List UInt8, o.length ≤ 90001 → ref05_Write_j4 1001 a1 a2 a3 a4 a5 a6 a7 a8 a9 a10 (f : Int) (ref05_Write_L2 1001 a1 a2 a3 a4 a5 a6 a7 a8 a9 a10 n) o = ref05_Write_L2 1001 a1 a2 a3 a4 a5 a6 a7 a8 a9 a10 n (o ++ fT x star, ((f + 1 : Nat) : Int)) := by
    intro o hoo
    unfold ref05_Write_j4 ref05_Write_j2
    rw [grd_At (by omega), lt_eq, hs, grd_Cat (by simp; omega), lt_eq, grd_I (by omega), cast_succ]
    have hi := rwrite_inner a1 a2 a3 a4 a5 x f hf (ref05_Write_L2 1001 a1 a2 a3 a4 a5 a6 a7 a8 a9 a10 n) hx hb hl 1001 0 o (by omega) (by omega) (by omega)
    have hi' : ref05_Write_L1 1001 a1 a2 a3 a4 a5 (f : Int) (ref05_Write_L2 1001 a1 a2 a3 a4 a5 a6 a7 a8 a9 a10 n) 1001 (o, 0) = _ := hi
    rw [hi']
    unfold fT
    cases star <;> simp
  by_cases h0 : f = 0
  · subst h0
    rw [bF (by omega), j4 out (by omega)]; simp
  · rw [bT (by omega), j4 _ (by simp; omega)]; simp [h0]
end
section
variable (a1 a2 a3 a4 a5 : List Int) (a6 a7 a8 a9 a10 : Bool) (h1 : a1.length ≤ 100) (h2 : a2.length ≤ 100) (h3 : a3.length ≤ 100) (h4 : a4.length ≤ 100) (h5 : a5.length ≤ 100)
include h1 h2 h3 h4 h5
theorem rWrite_eq : ref05_Write 1001 a1 a2 a3 a4 a5 a6 a7 a8 a9 a10 = some (bif mayB a1 a2 a3 a4 a5 a6 a7 a8 a9 a10 then (wT a1 a2 a3 a4 a5 a6 a7 a8 a9 a10, 0) else ([], 1)) := by
  unfold ref05_Write
  rw [rMay_eq 1001 a1 a2 a3 a4 a5 a6 a7 a8 a9 a10 (by omega) h1 h2 h3 h4 h5, bnd_some]
  cases hm : mayB a1 a2 a3 a4 a5 a6 a7 a8 a9 a10 with
  | false => rfl
  | true =>
    obtain ⟨q1, q2, q3, q4, q5⟩ := may_bounds a1 a2 a3 a4 a5 a6 a7 a8 a9 a10 hm
    have g1 := fT_len (star := a6) q1 h1
    have g2 := fT_len (star := a7) q2 h2
    have g3 := fT_len (star := a8) q3 h3
    have g4 := fT_len (star := a9) q4 h4
    have g5 := fT_len (star := a10) q5 h5
    have e : ref05_Write_L2 1001 a1 a2 a3 a4 a5 a6 a7 a8 a9 a10 1001 ([], 0) = ref05_Write_L2 1001 a1 a2 a3 a4 a5 a6 a7 a8 a9 a10 (995 + 1 + 5) ([], ((0 : Nat) : Int)) := rfl
    rw [Bool.not_true, cond_false, cond_true, e]
    have st := fun n f x star out => rwrite_step a1 a2 a3 a4 a5 a6 a7 a8 a9 a10 n f x star out
    rw [st _ 0 a1 a6 _ (by omega) rfl rfl q1 h1 (by simp), st _ 1 a2 a7 _ (by omega) rfl rfl q2 h2 (by simp; omega), st _ 2 a3 a8 _ (by omega) rfl rfl q3 h3 (by simp; omega),
      st _ 3 a4 a9 _ (by omega) rfl rfl q4 h4 (by simp; omega), st _ 4 a5 a10 _ (by omega) rfl rfl q5 h5 (by simp; omega)]
    show ref05_Write_B2 1001 a1 a2 a3 a4 a5 a6 a7 a8 a9 a10 (ref05_Write_L2 1001 a1 a2 a3 a4 a5 a6 a7 a8 a9 a10 995) _ ((5 : Nat) : Int) = _
    unfold ref05_Write_B2 ref05_Write_j1
    rw [bF (by omega)]
    simp [wT, Str.join, Str.rest]
end

theorem awake05b : law05_awake 1001 = some true := by decide +kernel
theorem CronTells_t (a1 a2 a3 a4 a5 : List Int) (a6 a7 a8 a9 a10 : Bool) (b1 b2 b3 b4 b5 : List Int) (b6 b7 b8 b9 b10 : Bool) (y m d h mi s : Int) :
    law05_CronTells 1001 a1 a2 a3 a4 a5 a6 a7 a8 a9 a10 b1 b2 b3 b4 b5 b6 b7 b8 b9 b10 y m d h mi s = some true := by
  unfold law05_CronTells
  rw [awake05b, bnd_some, Few_eq 1001 (by omega), bnd_some, Few_eq 1001 (by omega), bnd_some]
  cases hf : fewB a1 a2 a3 a4 a5 with
  | false => rfl
  | true =>
    cases hg : fewB b1 b2 b3 b4 b5 with
    | false => rfl
    | true =>
      obtain ⟨h1, h2, h3, h4, h5⟩ := few_s hf
      simp only [Bool.not_true, Bool.or_self, cond_false]
      rw [Write_eq 1001 (by omega) a1 a2 a3 a4 a5 a6 a7 a8 a9 a10 h1 h2 h3 h4 h5, rWrite_eq a1 a2 a3 a4 a5 a6 a7 a8 a9 a10 h1 h2 h3 h4 h5, rMay_eq 1001 a1 a2 a3 a4 a5 a6 a7 a8 a9 a10 (by omega) h1 h2 h3 h4 h5,
        rSame_eq a1 a2 a3 a4 a5 a6 a7 a8 a9 a10 b1 b2 b3 b4 b5 b6 b7 b8 b9 b10 1001 (by omega) h1 h2 h3 h4 h5, rMatch_eq 1001 (by omega) a1 a2 a3 a4 a5 a6 a7 a8 a9 a10 h1 h2 h3 h4 h5, rDay_eq 1001 (by omega) a1 a2 a3 a4 a5 a6 a7 a8 a9 a10 h1 h2 h3 h4 h5,
        May_eq 1001 (by omega) a1 a2 a3 a4 a5 a6 a7 a8 a9 a10 h1 h2 h3 h4 h5, Same_eq a1 a2 a3 a4 a5 a6 a7 a8 a9 a10 b1 b2 b3 b4 b5 b6 b7 b8 b9 b10 1001 (by omega) h1 h2 h3 h4 h5,
        Match_eq 1001 (by omega) a1 a2 a3 a4 a5 a6 a7 a8 a9 a10 h1 h2 h3 h4 h5, Day_eq 1001 (by omega) a1 a2 a3 a4 a5 a6 a7 a8 a9 a10 h1 h2 h3 h4 h5]
      cases mayB a1 a2 a3 a4 a5 a6 a7 a8 a9 a10 <;> simp only [cond_true, cond_false, bnd2_some, bnd_some, decide_true, Bool.and_self, beq_self_eq_true, bndc_t, Bool.true_and]
end Go.Cn
