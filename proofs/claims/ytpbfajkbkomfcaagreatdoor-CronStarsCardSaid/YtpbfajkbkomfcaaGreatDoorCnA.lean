/-
  Schedules: what a list has, what rises, days. No program is spoken of.
-/
import Derived.Test.YtpbfajkbkomfcaaGreatDoorCronBP
import Derived.Test.YtpbfajkbkomfcaaGreatDoorCronQP

set_option linter.unusedVariables false
set_option linter.unusedSimpArgs false
namespace Go.Cn
open Go.Pv Go.Av

theorem has_loop (l : List Int) (n : Int) (hl : l.length ≤ 1000000) : ∀ (k i : Nat), l.length - i < k → i ≤ l.length → ref05_Has_L1 l n k (i : Int) = some (decide (n ∈ l.drop i)) := by
  intro k
  induction k with
  | zero => intro i h; omega
  | succ k ih =>
    intro i hk hi
    show ref05_Has_B1 l n (ref05_Has_L1 l n k) (i : Int) = _
    unfold ref05_Has_B1 ref05_Has_j1
    by_cases h : i < l.length
    · have hd : l.drop i = l[i] :: l.drop (i + 1) := List.drop_eq_getElem_cons h
      simp (disch := omega) only [bT, grd_At, lt_eq, at_nat h, grd_I, cast_succ]
      by_cases hc : l[i] = n
      · rw [bT hc, hd, decide_eq_true]; simp [hc]
      · rw [bF hc, ih (i + 1) (by omega) (by omega), hd]
        simp only [List.mem_cons, show (n = l[i]) = False from eq_false (fun h => hc h.symm), false_or]
    · have : l.drop i = [] := List.drop_eq_nil_of_le (by omega)
      rw [bF (by omega), this]; simp
theorem Has_eq (F : Nat) (l : List Int) (n : Int) (hl : l.length ≤ 1000000) (hF : l.length < F) : ref05_Has F l n = some (decide (n ∈ l)) := by
  have := has_loop l n hl F 0 (by omega) (by omega)
  rw [List.drop_zero] at this
  exact this

theorem index_loop (l : List Int) (n : Int) (hl : l.length ≤ 1000000) : ∀ (k i : Nat), l.length - i < k → i ≤ l.length → ∃ z, sl_Index_L1 l n k (i : Int) = some z ∧ (0 ≤ z ↔ n ∈ l.drop i) := by
  intro k
  induction k with
  | zero => intro i h; omega
  | succ k ih =>
    intro i hk hi
    show ∃ z, sl_Index_B1 l n (sl_Index_L1 l n k) (i : Int) = some z ∧ _
    unfold sl_Index_B1 sl_Index_j1
    by_cases h : i < l.length
    · have hd : l.drop i = l[i] :: l.drop (i + 1) := List.drop_eq_getElem_cons h
      simp (disch := omega) only [bT, grd_At, lt_eq, at_nat h, grd_I, cast_succ]
      by_cases hc : n = l[i]
      · rw [bT hc]
        refine ⟨_, rfl, ?_⟩
        rw [hd, hc]
        exact ⟨fun _ => List.mem_cons_self .., fun _ => by omega⟩
      · rw [bF hc]
        obtain ⟨z, h1, h2⟩ := ih (i + 1) (by omega) (by omega)
        exact ⟨z, h1, by rw [h2, hd, List.mem_cons, show (n = l[i]) = False from eq_false hc, false_or]⟩
    · have : l.drop i = [] := List.drop_eq_nil_of_le (by omega)
      rw [bF (by omega), this]
      exact ⟨_, rfl, by simp⟩
theorem Contains_eq (F : Nat) (l : List Int) (n : Int) (hl : l.length ≤ 1000000) (hF : l.length < F) : sl_Contains F l n = some (decide (n ∈ l)) := by
  obtain ⟨z, h1, h2⟩ := index_loop l n hl F 0 (by omega) (by omega)
  have h1' : sl_Index F l n = some z := h1
  unfold sl_Contains
  rw [h1', bnd_some]
  rw [List.drop_zero] at h2
  congr 1
  rw [Bool.eq_iff_iff, decide_eq_true_iff, decide_eq_true_iff, h2]

/-- Do numbers rise, within bounds? -/
def rz (lo hi : Int) : Option Int → List Int → Bool
  | _, [] => true
  | p, n :: r => (decide (lo ≤ n) && decide (n ≤ hi) && (match p with | some q => decide (q < n) | none => true)) && rz lo hi (some n) r
def rises (lo hi : Int) (l : List Int) : Bool := !l.isEmpty && rz lo hi none l

theorem rises_loop (lo up : Int) (l : List Int) (hl : l.length ≤ 1000000) : ∀ (k i : Nat) (p : Option Int), l.length - i < k → i ≤ l.length → (i = 0 → p = none) → (∀ h : 0 < i ∧ i ≤ l.length, p = some (l[i - 1]'(by omega))) →
    cron_rises_L1 lo up l k (i : Int) = some (rz lo up p (l.drop i) && decide (0 < (l.length : Int))) := by
  intro k
  induction k with
  | zero => intro i p h; omega
  | succ k ih =>
    intro i p hk hi hp0 hp1
    show cron_rises_B1 lo up l (cron_rises_L1 lo up l k) (i : Int) = _
    unfold cron_rises_B1 cron_rises_j1
    by_cases h : i < l.length
    · have hd : l.drop i = l[i] :: l.drop (i + 1) := List.drop_eq_getElem_cons h
      have hg : ∀ (q : Bool) (x : Option Bool), grdc (q && decide (0 < (i : Int))) (okI ((i : Int) - 1)) x = x := fun q x => by
        cases q && decide (0 < (i : Int)) with
        | false => exact grdc_f
        | true => rw [grdc_t, grd_I (by omega)]
      have hg2 : ∀ (q : Bool) (x : Option Bool), grdc (q && decide (0 < (i : Int))) (okAt ((i : Int) - 1) l.length) x = x := fun q x => grdc_At (fun hh => by
        simp only [Bool.and_eq_true, decide_eq_true_eq] at hh; omega)
      simp (disch := omega) only [bT, grd_At, lt_eq, at_nat h, hg, hg2]
      rw [hd]
      simp only [rz]
      by_cases h1 : l[i] < lo
      · have h2 : ¬ lo ≤ l[i] := by omega
        rw [decide_eq_true h1]
        simp [h2]
      · have h1' : lo ≤ l[i] := by omega
        by_cases h2 : up < l[i]
        · have h3 : ¬ l[i] ≤ up := by omega
          rw [decide_eq_true h2]
          simp [h3]
        · have h2' : l[i] ≤ up := by omega
          rw [decide_eq_false h1, decide_eq_false h2]
          have hih := ih (i + 1) (some l[i]) (by omega) (by omega) (by omega) (fun _ => rfl)
          by_cases h0 : i = 0
          · subst h0
            rw [hp0 rfl]
            simp (disch := omega) only [grd_I, cast_succ]
            simp [h1', h2', hih]
            have := hih
            simpa using this
          · have hpv := hp1 ⟨by omega, by omega⟩
            obtain ⟨j, rfl⟩ : ∃ j, i = j + 1 := ⟨i - 1, by omega⟩
            have e1 : at_ l (((j + 1 : Nat) : Int) - 1) = l[j] := by
              have : (((j + 1 : Nat) : Int) - 1) = (j : Int) := by omega
              rw [this, at_nat (by omega)]
            have e2 : p = some l[j] := hpv
            rw [e1, e2]
            have e3 : decide (0 < ((j + 1 : Nat) : Int)) = true := decide_eq_true (by omega)
            rw [e3]
            by_cases hlt : l[j] < l[j + 1]
            · have hle : ¬ l[j + 1] ≤ l[j] := by omega
              simp (disch := omega) only [grd_I, cast_succ]
              simp only [decide_eq_false hle, decide_eq_true hlt, decide_eq_true h1', decide_eq_true h2', Bool.or_self, Bool.true_and, Bool.and_self, cond_false]
              exact hih
            · have hle : l[j + 1] ≤ l[j] := by omega
              simp [hle, hlt]
    · have : l.drop i = [] := List.drop_eq_nil_of_le (by omega)
      rw [bF (by omega), this]; rfl
theorem rises_eq (F : Nat) (lo hi ov : Int) (nm : List UInt8) (l : List Int) (hl : l.length ≤ 1000000) (hF : l.length < F) : cron_rises F lo hi nm ov l = some (rises lo hi l) := by
  have := rises_loop lo hi l hl F 0 none (by omega) (by omega) (fun _ => rfl) (fun h => absurd h.1 (by omega))
  have e : cron_rises F lo hi nm ov l = cron_rises_L1 lo hi l F 0 := rfl
  rw [e]
  have h0 : ((0 : Nat) : Int) = 0 := rfl
  rw [h0] at this
  rw [this, List.drop_zero, rises, Bool.and_comm]
  cases l with
  | nil => rfl
  | cons x r => simp

/-- A field's bounds, as a schedule may be. -/
def fieldOk (lo hi : Int) (l : List Int) (star : Bool) : Bool := rises lo hi l && !(star && decide ((l.length : Int) ≤ hi - lo))
def mayB (a1 a2 a3 a4 a5 : List Int) (a6 a7 a8 a9 a10 : Bool) : Bool := fieldOk 0 59 a1 a6 && (fieldOk 0 23 a2 a7 && (fieldOk 1 31 a3 a8 && (fieldOk 1 12 a4 a9 && fieldOk 0 6 a5 a10)))

theorem may_step (F : Nat) (lo hi ov : Int) (nm : List UInt8) (l : List Int) (star : Bool) (k : Option Bool) (r : Bool) (hl : l.length ≤ 1000000) (hF : l.length < F) (hlo : 0 ≤ lo ∧ lo ≤ hi ∧ hi ≤ 1000) (hk : k = some r) :
    (bnd (cron_rises F lo hi nm ov l) fun x15 => grdc ((!(!x15)) && star) (okI (hi - lo)) <| bif (!x15) || (star && (decide ((l.length : Int) ≤ hi - lo))) then some false else k) = some (fieldOk lo hi l star && r) := by
  rw [rises_eq F lo hi ov nm l hl hF, bnd_some]
  have hg : ∀ (q : Bool) (x : Option Bool), grdc q (okI (hi - lo)) x = x := fun q x => by
    cases q with
    | false => exact grdc_f
    | true => rw [grdc_t, grd_I (by omega)]
  rw [hg, hk]
  unfold fieldOk
  cases rises lo hi l <;> cases star <;> cases decide ((l.length : Int) ≤ hi - lo) <;> rfl

theorem May_eq (F : Nat) (hF : 100 < F) (a1 a2 a3 a4 a5 : List Int) (a6 a7 a8 a9 a10 : Bool) (h1 : a1.length ≤ 100) (h2 : a2.length ≤ 100) (h3 : a3.length ≤ 100) (h4 : a4.length ≤ 100) (h5 : a5.length ≤ 100) :
    cron_May F a1 a2 a3 a4 a5 a6 a7 a8 a9 a10 = some (mayB a1 a2 a3 a4 a5 a6 a7 a8 a9 a10) := by
  unfold cron_May cron_fields
  rw [bnd_some]
  unfold mayB
  refine may_step F 0 59 _ _ a1 a6 _ _ (by omega) (by omega) (by omega) ?_
  refine may_step F 0 23 _ _ a2 a7 _ _ (by omega) (by omega) (by omega) ?_
  refine may_step F 1 31 _ _ a3 a8 _ _ (by omega) (by omega) (by omega) ?_
  refine may_step F 1 12 _ _ a4 a9 _ _ (by omega) (by omega) (by omega) ?_
  have := may_step F 0 6 7 crona_k2 a5 a10 (some true) true (by omega) (by omega) (by omega) rfl
  rw [Bool.and_true] at this
  exact this

/-! ### Days -/
def leap (y : Int) : Bool := (decide (y % 4 = 0)) && ((!decide (y % 100 = 0)) || (decide (y % 400 = 0)))
theorem Leap_eq (F : Nat) (y : Int) (h : 1 ≤ y ∧ y ≤ 9999) : civil_Leap F y = some (leap y) := by
  have hg : ∀ (q : Bool) (c : Int) (x : Option Bool), 1 ≤ c → grdc q (okDiv y c) x = x := fun q c x hc => by
    cases q with
    | false => exact grdc_f
    | true => rw [grdc_t, grd_Div (by omega)]
  unfold civil_Leap
  rw [grd_Div (by omega), hg _ _ _ (by omega), hg _ _ _ (by omega)]; rfl
def dm (y m : Int) : Int := at_ ([0, 31, bif leap y then 29 else 28, 31, 30, 31, 30, 31, 31, 30, 31, 30, 31] : List Int) m
theorem Days_eq (F : Nat) (y m : Int) (h : 1 ≤ y ∧ y ≤ 9999) : civil_Days F y m = some (bif (decide (m < 1)) || (decide (12 < m)) then 0 else dm y m) := by
  unfold civil_Days civil_lengths civil_feb
  rw [Leap_eq F y h, bnd_some]
  cases hm : (decide (m < 1)) || (decide (12 < m)) with
  | true => rfl
  | false =>
    simp only [Bool.or_eq_false_iff, decide_eq_false_iff_not] at hm
    rw [cond_false]
    have hg : grd (okI (28 + 1)) (some ((28 : Int) + 1)) = some 29 := by rw [grd_I (by omega)]; rfl
    rw [hg]
    unfold dm
    cases leap y <;> simp only [cond_true, cond_false, bnd_some] <;> rw [grd_At (by omega), lt_eq]
def num (y m d : Int) : Int :=
  let y' := if m ≤ 2 then y - 1 else y
  let m' := if m ≤ 2 then m + 12 else m
  ((((((((146097 * (y' / 400)) + (365 * (y' % 400))) + ((y' % 400) / 4)) - ((y' % 400) / 100)) + (((153 * (m' - 3)) + 2) / 5)) + d) - 1) - 719468)
theorem number_j (d y m : Int) (hy : 0 ≤ y ∧ y ≤ 9999) (hm : 3 ≤ m ∧ m ≤ 14) (hd : 1 ≤ d ∧ d ≤ 31) : civil_number_j1 d y m = some ((((((((146097 * (y / 400)) + (365 * (y % 400))) + ((y % 400) / 4)) - ((y % 400) / 100)) + (((153 * (m - 3)) + 2) / 5)) + d) - 1) - 719468) := by
  unfold civil_number_j1
  simp (disch := omega) only [grd_Div, grd_I]
theorem number_eq (F : Nat) (y m d : Int) (hy : 1 ≤ y ∧ y ≤ 9999) (hm : 1 ≤ m ∧ m ≤ 12) (hd : 1 ≤ d ∧ d ≤ 31) : civil_number F y m d = some (num y m d) := by
  unfold civil_number num
  by_cases h : m ≤ 2
  · rw [bT h, grd_I (by omega), grd_I (by omega), number_j d (y - 1) (m + 12) (by omega) (by omega) hd]
    simp only [if_pos h]
  · rw [bF h, number_j d y m (by omega) (by omega) hd]
    simp only [if_neg h]
theorem dm_le (y m : Int) (hm : 1 ≤ m ∧ m ≤ 12) : dm y m ≤ 31 := by
  unfold dm
  obtain ⟨k, rfl⟩ : ∃ k : Nat, m = k := ⟨m.toNat, by omega⟩
  have hk : k < 13 := by omega
  rw [at_nat (by simpa using hk)]
  have h2 : ∀ k : Fin 13, ([0, 31, bif leap y then 29 else 28, 31, 30, 31, 30, 31, 31, 30, 31, 30, 31] : List Int)[k] ≤ 31 := by
    intro k
    cases leap y <;> revert k <;> decide
  exact h2 ⟨k, hk⟩
/-- Is a day one of the calendar? -/
def okDay (y m d : Int) : Bool := !((((decide (y < 1)) || (decide (9999 < y))) || (decide (d < 1))) || (decide ((bif (decide (m < 1)) || (decide (12 < m)) then 0 else dm y m) < d)))
theorem okDay_s {y m d : Int} (h : okDay y m d = true) : (1 ≤ y ∧ y ≤ 9999) ∧ (1 ≤ m ∧ m ≤ 12) ∧ (1 ≤ d ∧ d ≤ 31) := by
  unfold okDay at h
  simp only [Bool.not_eq_true', Bool.or_eq_false_iff, decide_eq_false_iff_not] at h
  obtain ⟨⟨⟨h1, h2⟩, h3⟩, h4⟩ := h
  cases hm : (decide (m < 1)) || (decide (12 < m)) with
  | true => rw [hm, cond_true] at h4; omega
  | false =>
    rw [hm, cond_false] at h4
    simp only [Bool.or_eq_false_iff, decide_eq_false_iff_not] at hm
    have := dm_le y m (by omega)
    omega
theorem Ord_eq (F : Nat) (y m d : Int) : civil_Ord F y m d = some (bif okDay y m d then (num y m d, 0) else (0, 1)) := by
  unfold civil_Ord
  cases hc : ((decide (y < 1)) || (decide (9999 < y))) || (decide (d < 1)) with
  | true =>
    have : okDay y m d = false := by unfold okDay; rw [hc]; rfl
    rw [this]; rfl
  | false =>
    have hc' := hc
    simp only [Bool.or_eq_false_iff, decide_eq_false_iff_not] at hc'
    rw [Days_eq F y m (by omega)]
    simp only [Bool.not_false, bndc_t, bnd_some, Bool.false_or]
    have e : okDay y m d = !decide ((bif (decide (m < 1)) || (decide (12 < m)) then 0 else dm y m) < d) := by unfold okDay; rw [hc, Bool.false_or]
    cases hd : decide ((bif (decide (m < 1)) || (decide (12 < m)) then 0 else dm y m) < d) with
    | true => rw [e, hd]; rfl
    | false =>
      rw [hd] at e
      obtain ⟨h1, h2, h3⟩ := okDay_s (e.trans rfl)
      rw [e, number_eq F y m d h1 h2 h3]; rfl
theorem num_range (y m d : Int) (h : okDay y m d = true) : -1000000 ≤ num y m d ∧ num y m d ≤ 10000000 := by
  obtain ⟨h1, h2, h3⟩ := okDay_s h
  unfold num
  by_cases h : m ≤ 2
  · simp only [if_pos h]; omega
  · simp only [if_neg h]; omega
def wday (n : Int) : Int := Int.tmod (Int.tmod (n + 4) 7 + 7) 7
theorem Wday_eq (F : Nat) (n : Int) (h : -1000000 ≤ n ∧ n ≤ 10000000) : civil_Wday F n = some (wday n) := by
  unfold civil_Wday
  have h1 : ((decide (n < (-1099511627776))) || (decide (1099511627776 < n))) = false := by
    rw [decide_eq_false (by omega), decide_eq_false (by omega)]; rfl
  rw [h1, cond_false, grd_I (by omega)]
  have h2 : -7 < Int.tmod (n + 4) 7 ∧ Int.tmod (n + 4) 7 < 7 := by
    have h3 := Int.tmod_lt_of_pos (n + 4) (show (0 : Int) < 7 by omega)
    have h4 := Int.lt_tmod_of_pos (n + 4) (show (0 : Int) < 7 by omega)
    omega
  rw [grd_I (by omega)]; rfl
end Go.Cn
