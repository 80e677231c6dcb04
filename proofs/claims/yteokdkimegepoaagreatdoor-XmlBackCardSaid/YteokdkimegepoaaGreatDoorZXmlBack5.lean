/-
  Texts in one (only what XmlBack needs): PnLoose, PnNum, PnSign, PnGone, PnLooseEq, PnLooseB, PnApp, XmP, XmQ, XmS, XmT, XmL, XmN, XmW, PnEnc, PnEncB, PnBackE, XmWr, XmBa, AvOpen.
-/
import Derived.Test.YteokdkimegepoaaGreatDoorZXmlBack4
import Derived.Laws.RangeAny
import Derived.RowKit
import Derived.OpenShut
import Derived.ChangeSlices
import Derived.SliceStrings
set_option linter.unusedVariables false
set_option linter.unusedSimpArgs false
set_option linter.unusedSectionVars false
namespace Go.Pn
open Go.Pv Go.Av
theorem tK (s : Bs) (p : Nat) : 1 ≤ (ll s p).2 := by
  unfold ll Utf8.decode
  simp only
  repeat' split
  all_goals simp
theorem jI (n : Int) : (cA n).length ≤ 4 := by
  unfold cA Utf8.encode
  simp only
  repeat' split
  all_goals simp
theorem oe (n : Int) (h : 128 ≤ n) : 2 ≤ (cA n).length ∧ ((cA n).length = 2 → ¬ (59 : UInt8) = at_ (cA n) 1) := by
  have hc : ¬ (if Utf8.valid n = true then n.toNat else Utf8.runeError) < 128 := by
    split
    · omega
    · decide
  unfold cA Utf8.encode
  simp only
  generalize (if Utf8.valid n = true then n.toNat else Utf8.runeError) = c at hc ⊢
  rw [if_neg hc]
  by_cases h2 : c < 2048
  · rw [if_pos h2]
    refine ⟨by simp, fun _ => ?_⟩;show ¬ (59 : UInt8) = UInt8.ofNat (128 + c % 64);intro e
    have := congrArg UInt8.toNat e
    rw [UInt8.toNat_ofNat'] at this
    have e59 : (59 : UInt8).toNat = 59 := rfl
    omega
  · rw [if_neg h2]
    split <;> simp
theorem sW (F : Nat) (hF : 5 ≤ F) (r : Int) : ∃ j, gE F [38, 59] r = some j := by
  unfold gE
  by_cases h1 : 0 ≤ r ∧ r < 128
  · simp only [h1, decide_true, Bool.and_self, cond_true]; exact ⟨_, rfl⟩
  · have hf : ((decide (0 ≤ r)) && (decide (r < 128))) = false := by
      cases h : (decide (0 ≤ r)) && (decide (r < 128)) with
      | false => rfl
      | true => exact absurd (by simpa using h) h1
    rw [hf, cond_false]
    by_cases h2 : r = 65533
    · rw [bT h2]
      obtain ⟨m, rfl⟩ : ∃ m, F = m + 3 := ⟨F - 3, by omega⟩
      have e0 : ll [38, 59] 0 = (38, 1) := by decide +kernel
      have e1 : ll [38, 59] 1 = (59, 1) := by decide +kernel
      refine ⟨-1, ?_⟩;show dT [38, 59] (gw [38, 59] (m + 2)) 0 = _
      unfold dT
      simp only [e0]
      show dT [38, 59] (gw [38, 59] (m + 1)) 1 = _
      unfold dT
      simp only [e1]
      rfl
    · rw [bF h2]
      have hv : ∃ b, ik F r = some b ∧ (b = true → 0 ≤ r) := by
        unfold ik
        by_cases ha : 0 ≤ r ∧ r < 55296
        · refine ⟨true, ?_, fun _ => ha.1⟩; simp [ha]
        · by_cases hb : 57343 < r ∧ r ≤ 1114111
          · refine ⟨true, ?_, fun _ => by omega⟩; simp [hb]
          · refine ⟨false, ?_, fun h => by cases h⟩
            have e1 : ((decide (0 ≤ r)) && (decide (r < 55296))) = false := by
              cases h : (decide (0 ≤ r)) && (decide (r < 55296)) with
              | false => rfl
              | true => exact absurd (by simpa using h) ha
            have e2 : ((decide (57343 < r)) && (decide (r ≤ 1114111))) = false := by
              cases h : (decide (57343 < r)) && (decide (r ≤ 1114111)) with
              | false => rfl
              | true => exact absurd (by simpa using h) hb
            rw [e1, e2]; rfl
      obtain ⟨b, hb, hp⟩ := hv
      rw [hb, bN]
      cases b with
      | false => exact ⟨-1, rfl⟩
      | true =>
        have hr : 128 ≤ r := by have := hp rfl; omega
        obtain ⟨k1, k2⟩ := oe r hr
        have k3 := jI r
        obtain ⟨m, rfl⟩ : ∃ m, F = m + 1 := ⟨F - 1, by omega⟩;refine ⟨-1, ?_⟩
        simp (disch := omega) only [Bool.not_true, cond_false, bk, cn]
        show gx [38, 59] (cA r) (jv [38, 59] (cA r) m) = _
        unfold gx ic
        by_cases h3 : (cA r).length = 2
        · have e1 : ((cA r).length : Int) - 1 = 1 := by omega
          have e2 : at_ ([38, 59] : Bs) 1 = 59 := rfl
          have e3 : dk ([38, 59] : Bs) (1 + 1) = [] := rfl
          rw [e1]
          simp (disch := (first | omega | (simp; done) | (simp; omega))) only [bT, ck, bk, e2, decide_eq_false (k2 h3), Bool.not_false, lc, cn, fS, e3]
          rfl
        · have : ¬ ((cA r).length : Int) - 1 < (([38, 59] : Bs).length : Int) := by simp; omega
          rw [bF this]
theorem jU (s : Bs) (c : UInt8) : -1 ≤ Go.Lib.indexByte s c ∧ Go.Lib.indexByte s c < s.length := by
  induction s with
  | nil => simp [Go.Lib.indexByte]
  | cons b r ih =>
    unfold Go.Lib.indexByte
    split
    · first | (simp; done) | (simp; omega)
    · split
      · first | (simp; done) | (simp; omega)
      · rename_i h
        have h' : ¬ Go.Lib.indexByte r c = -1 := by simpa using h
        simp; omega
theorem ib (s cs : Bs) : -1 ≤ Go.Lib.indexAny s cs ∧ Go.Lib.indexAny s cs < s.length := by
  induction s with
  | nil => simp [Go.Lib.indexAny]
  | cons b r ih =>
    unfold Go.Lib.indexAny
    split
    · first | (simp; done) | (simp; omega)
    · split
      · first | (simp; done) | (simp; omega)
      · rename_i h
        have h' : ¬ Go.Lib.indexAny r cs = -1 := by simpa using h
        simp; omega
theorem rQ (F : Nat) (hF : 5 ≤ F) (s : Bs) : ∀ (n y : Nat), s.length - y < n → ∃ j, gz F s [38, 59] n y = some j ∧ -1 ≤ j ∧ j < s.length := by
  intro n
  induction n with
  | zero => intro y h; omega
  | succ n ih =>
    intro y hy;show ∃ j, gA F s [38, 59] (gz F s [38, 59] n) y = some j ∧ _
    unfold gA ig
    by_cases h : y < s.length
    · rw [bT h]
      obtain ⟨j, hj⟩ := sW F hF ((ll s y).1 : Int)
      rw [hj, bN]
      by_cases h0 : 0 ≤ j
      · rw [bT h0]; exact ⟨_, rfl, by omega, by omega⟩
      · rw [bF h0]
        have := tK s y
        exact ih _ (by omega)
    · rw [bF h]; exact ⟨-1, rfl, by omega, by omega⟩
theorem ur (F : Nat) (s : Bs) (hF : 20 ≤ F) : ∃ j, kC F s [38, 59] = some j ∧ -1 ≤ j ∧ j < s.length := by
  unfold kC
  by_cases h : 8 < s.length
  · obtain ⟨h1, h2⟩ := ib s [38, 59]
    refine ⟨Go.Lib.indexAny s [38, 59], ?_, h1, h2⟩
    simp [h]
  · have e : ((decide (8 < s.length)) && (decide (2 ≤ ([38, 59] : Bs).length))) = false := by simp [h]
    rw [e, cond_false]
    unfold lk pQ ie
    have e3 : decide ((8 : Int) < (s.length : Int)) = false := decide_eq_false (by omega)
    simp (disch := (first | omega | (simp; done) | (simp; omega))) only [bF, bN, e3, Bool.not_false, lc]
    exact rQ F (by omega) s F 0 (by omega)
theorem rU (F : Nat) (s : Bs) (hs : s.length ≤ 100000) : ∃ b, fG F s [95] = some b := by
  unfold fG kC lk gy gE
  have e : ((decide (8 < s.length)) && (decide (2 ≤ ([95] : Bs).length))) = false := by simp
  have e2 : at_ ([95] : Bs) 0 = 95 := rfl
  have e3 : gM [95] = true := by decide
  have e4 : ((95 : UInt8).toNat : Int) = 95 := rfl
  rw [e, cond_false]
  simp (disch := (first | omega | (simp; done) | (simp; omega))) only [e3, lc, ma, bF, bT, ck, bk, e2, e4, grd_J]
  exact ⟨_, rfl⟩
theorem nt (x : Int) : 0 ≤ IntKind.u64.wrap x := by
  have : IntKind.u64.wrap x = x % 18446744073709551616 := rfl
  rw [this]; omega
def Ok3 (r : Option (Int × Int)) : Prop := ∃ v e, r = some (v, e) ∧ 0 ≤ v ∧ (e = 0 ∨ e = 1 ∨ e = 2)
theorem vH (F : Nat) (s : Bs) (b c : Int) (hb : b = 10 ∨ b = 16) (hs : s.length ≤ 100000) : ∀ (n i : Nat) (v : Int), s.length - i < n → 0 ≤ v → Ok3 (bW F s b c n (false, v, (i : Int))) := by
  intro n
  induction n with
  | zero => intro i v h; omega
  | succ n ih =>
    intro i v hn hv;show Ok3 (dt F s b c (bW F s b c n) false v (i : Int))
    unfold dt eb eP
    by_cases h : i < s.length
    · have key : ∀ d : UInt8, Ok3 (cL b c false v (i : Int) (bW F s b c n) d) := by
        intro d
        unfold cL dr
        cases decide (((Go.Av.toB b).toNat : Int) ≤ (d.toNat : Int)) with
        | true => exact ⟨0, 2, rfl, by omega, by omega⟩
        | false =>
          rw [cond_false]
          cases decide (c ≤ v) with
          | true => exact ⟨_, 1, rfl, nt _, by omega⟩
          | false =>
            rw [cond_false]
            generalize ((decide (IntKind.u64.wrap ((IntKind.u64.wrap (v * (IntKind.u64.wrap b))) + (IntKind.u64.wrap (d.toNat : Int))) < IntKind.u64.wrap (v * (IntKind.u64.wrap b)))) || (decide (IntKind.u64.wrap ((IntKind.u64.wrap (1 * 2 ^ min (Int.toNat (IntKind.u64.wrap 64)) IntKind.u64.bits)) - 1) < IntKind.u64.wrap ((IntKind.u64.wrap (v * (IntKind.u64.wrap b))) + (IntKind.u64.wrap (d.toNat : Int)))))) = q
            cases q with
            | true => exact ⟨_, 1, rfl, nt _, by omega⟩
            | false =>
              rw [cond_false, cn (by omega), bU]
              exact ih _ _ (by omega) (nt _)
      have hb0 : decide (b = 0) = false := decide_eq_false (by omega)
      simp (disch := omega) only [bT, ck, bk, dS h, hb0, Bool.and_false, cond_false, bN, fu]
      generalize ((decide (48 ≤ ((s[i]).toNat : Int))) && (decide (((s[i]).toNat : Int) ≤ 57))) = q1
      cases q1 with
      | true => exact key _
      | false =>
        rw [cond_false]
        generalize ((decide (97 ≤ ((s[i] ||| 32).toNat : Int))) && (decide ((((bif decide (97 ≤ ((s[i] ||| 32).toNat : Int)) then (s[i] ||| 32) else default) : UInt8).toNat : Int) ≤ 122))) = q2
        cases q2 with
        | true => exact key _
        | false => exact ⟨0, 2, rfl, by omega, by omega⟩
    · rw [bF (by omega), jC]
      exact ⟨v, 0, rfl, hv, by omega⟩
theorem uint_tot (F : Nat) (s : Bs) (b : Int) (hb : b = 10 ∨ b = 16) (hs : s.length ≤ 100000) (hF : s.length < F) : Ok3 (eY F s b 0) := by
  unfold eY dY dZ cV
  by_cases h0 : s = []
  · rw [bT h0]; exact ⟨0, 2, rfl, by omega, by omega⟩
  · rw [bF h0]
    have h2 : ((decide (2 ≤ b)) && (decide (b ≤ 36))) = true := by rcases hb with rfl | rfl <;> rfl
    have hw := nt 64
    rw [h2, lc, iP rfl]
    have go := fun c => vH F s b c hb hs F 0 0 (by omega) (by omega)
    rcases hb with rfl | rfl
    · rw [bT rfl, iP hw, dJ (by omega)]; exact go _
    · rw [bF (by omega), bT rfl, iP hw, dJ (by omega)]; exact go _
theorem int_tot (F : Nat) (s : Bs) (b : Int) (hb : b = 10 ∨ b = 16) (hs : s.length ≤ 100000) (hF : s.length < F) (h43 : at_ s 0 ≠ 43) (h45 : at_ s 0 ≠ 45) : ∃ v e, dd F s b 0 = some (v, e) := by
  have hi : ∃ v e, fy F s b 0 = some (v, e) ∧ (e = 0 ∨ e = 1 ∨ e = 2) := by
    unfold fy dm eJ dP
    by_cases h0 : s = []
    · rw [bT h0]; exact ⟨0, 2, rfl, by omega⟩
    · have hp : 0 < s.length := List.length_pos_iff.2 h0
      obtain ⟨v, e, hv, hv0, he⟩ := uint_tot F s b hb hs hF
      have e1 : IntKind.u64.wrap (1 * 2 ^ min (Int.toNat (IntKind.u64.wrap 63)) IntKind.u64.bits) = 9223372036854775808 := by decide +kernel
      have e2 : (0 : Int) ≤ IntKind.u64.wrap 63 := by decide +kernel
      have e3 : IntKind.u64.wrap (9223372036854775808 - 1) = 9223372036854775807 := by decide +kernel
      simp (disch := omega) only [bF, ck, bk, hv, aY, e1, e3, iP e2, cn, iP, Bool.not_false, Bool.true_and, Bool.false_and, cond_false]
      rcases he with rfl | rfl | rfl
      · rw [show ((!decide ((0 : Int) = 0)) && (!decide ((0 : Int) = 1))) = false by rfl, cond_false]
        by_cases hb : (9223372036854775808 : Int) ≤ v
        · rw [bT hb]; exact ⟨_, 1, rfl, by omega⟩
        · rw [bF hb, cn (by omega)]; exact ⟨_, 0, rfl, by omega⟩
      · rw [show ((!decide ((1 : Int) = 0)) && (!decide ((1 : Int) = 1))) = false by rfl, cond_false]
        by_cases hb : (9223372036854775808 : Int) ≤ v
        · rw [bT hb]; exact ⟨_, 1, rfl, by omega⟩
        · rw [bF hb, cn (by omega)]; exact ⟨_, 0, rfl, by omega⟩
      · rw [show ((!decide ((2 : Int) = 0)) && (!decide ((2 : Int) = 1))) = true by rfl, cond_true]
        exact ⟨_, 2, rfl, by omega⟩
  obtain ⟨v, e, hv, he⟩ := hi
  unfold dd
  rw [hv, aY]
  rcases he with rfl | rfl | rfl
  · exact ⟨_, _, rfl⟩
  · rw [show (!decide ((1 : Int) = 0)) = true by rfl, cond_true, ma (by omega), iP (by omega)]; exact ⟨_, _, rfl⟩
  · rw [show (!decide ((2 : Int) = 0)) = true by rfl, cond_true, ma (by omega), iP (by omega)]; exact ⟨_, _, rfl⟩
theorem rune_tot (F : Nat) (r : Int) : ∃ o b, hC F r = some (o, b) ∧ o.length ≤ 4 := by
  have fin : -2147483648 ≤ r ∧ r ≤ 2147483647 → ∃ o b, grd (okJ r) (lt (cA r) fun x17 => some (x17, true)) = some (o, b) ∧ o.length ≤ 4 := by
    intro h; rw [grd_J h]; exact ⟨_, _, rfl, jI r⟩
  unfold hC kD
  simp only [fu]
  cases hA : ((decide (r = 9)) || (decide (r = 10))) || (decide (r = 13)) with
  | true =>
    have : r = 9 ∨ r = 10 ∨ r = 13 := by simpa [or_assoc] using hA
    simp only [Bool.not_true, Bool.false_and, cond_false]
    exact fin (by omega)
  | false =>
    simp only [Bool.not_false, Bool.true_and, cond_true]
    cases h7 : (decide (32 ≤ r)) && (decide (r ≤ 55295)) with
    | true =>
      have : 32 ≤ r ∧ r ≤ 55295 := by simpa using h7
      simp only [Bool.not_true, Bool.false_and, cond_false]
      exact fin (by omega)
    | false =>
      simp only [Bool.not_false, Bool.true_and, cond_true]
      cases h10 : (decide (57344 ≤ r)) && (decide (r ≤ 65533)) with
      | true =>
        have : 57344 ≤ r ∧ r ≤ 65533 := by simpa using h10
        simp only [Bool.not_true, Bool.false_and, cond_false]
        exact fin (by omega)
      | false =>
        simp only [Bool.not_false, Bool.true_and, cond_true]
        cases h13 : (decide (65536 ≤ r)) && (decide (r ≤ 1114111)) with
        | true =>
          have : 65536 ≤ r ∧ r ≤ 1114111 := by simpa using h13
          simp only [Bool.not_true, Bool.false_and, cond_false]
          exact fin (by omega)
        | false => exact ⟨[], false, rfl, by simp⟩
theorem pq (F : Nat) (s : Bs) (b : Int) (hb : b = 10 ∨ b = 16) (hs : s.length ≤ 100000) (hF : s.length < F) : ∃ o k, du F s b = some (o, k) ∧ o.length ≤ 4 := by
  obtain ⟨cb, hcb⟩ := rU F s hs
  have no : ∃ o k, (some (([] : Bs), false) : Option (Bs × Bool)) = some (o, k) ∧ o.length ≤ 4 := ⟨[], false, rfl, by simp⟩
  unfold du
  cases s with
  | nil => simp [gl, bk, jC]
  | cons c r =>
    have h0 : decide ((c :: r) = []) = false := decide_eq_false (by simp)
    have ha : at_ (c :: r) 0 = c := rfl
    have hg : ∀ (q : Bool) (k : Option (Bs × Bool)), eK q (ce 0 (c :: r).length) k = k := fun q k => kr (fun _ => by simp)
    simp only [hg, h0, bk, ha, hcb, fu, Bool.false_or]
    by_cases h1 : c = 43
    · simp [h1]
    · by_cases h2 : c = 45
      · simp [h2]
      · by_cases h3 : c = 95
        · simp [h3]
        · simp only [h1, h2, h3, decide_false, Bool.or_self, Bool.false_or, Bool.not_false, cond_true]
          cases cb with
          | true => exact no
          | false =>
            obtain ⟨v, e, hv⟩ := int_tot F (c :: r) b hb hs hF (by rw [ha]; exact h1) (by rw [ha]; exact h2)
            rw [cond_false, hv, aY]
            cases hz : (!decide (e = 0)) with
            | true => exact no
            | false =>
              obtain ⟨o, k, ho, hl⟩ := rune_tot F v
              rw [cond_false, ho, aY]
              exact ⟨o, k, rfl, hl⟩
theorem tt (F : Nat) (s : Bs) (hs : s.length ≤ 100000) (hF : s.length < F) : ∃ o k, gr F s = some (o, k) ∧ o.length ≤ 4 := by
  have htp : ∀ p, (Go.Lib.trimPrefix s p).length ≤ s.length := by
    intro p; unfold Go.Lib.trimPrefix; split <;> simp
  unfold gr jp
  simp only [bN, bk]
  generalize ([(([97, 109, 112] : List UInt8), (38 : Int)), (([108, 116] : List UInt8), 60), (([103, 116] : List UInt8), 62), (([113, 117, 111, 116] : List UInt8), 34), (([97, 112, 111, 115] : List UInt8), 39)] : List (List UInt8 × Int)) = m
  cases Go.Av.mhas m s with
  | true => exact ⟨_, _, rfl, jI _⟩
  | false =>
    rw [cond_false]
    cases Go.Lib.hasPrefix s [35, 120] with
    | true =>
      have := htp [35, 120]
      obtain ⟨o, k, ho, hl⟩ := pq F (Go.Lib.trimPrefix s [35, 120]) 16 (.inr rfl) (by omega) (by omega)
      rw [cond_true, ho, aY]; exact ⟨o, k, rfl, hl⟩
    | false =>
      rw [cond_false]
      cases Go.Lib.hasPrefix s [35] with
      | true =>
        have := htp [35]
        obtain ⟨o, k, ho, hl⟩ := pq F (Go.Lib.trimPrefix s [35]) 10 (.inl rfl) (by omega) (by omega)
        rw [cond_true, ho, aY]; exact ⟨o, k, rfl, hl⟩
      | false => exact ⟨[], false, rfl, by simp⟩
theorem qP (F : Nat) (s : Bs) (h1 : 1 ≤ s.length) (hs : s.length ≤ 100000) (hF : s.length + 20 < F) : ∃ o k, ij F s = some (o, k) ∧ (k = 0 ∨ (3 ≤ k ∧ k ≤ s.length ∧ o.length ≤ 4)) := by
  have no : ∃ o k, (some (([] : Bs), (0 : Int)) : Option (Bs × Int)) = some (o, k) ∧ (k = 0 ∨ (3 ≤ k ∧ k ≤ s.length ∧ o.length ≤ 4)) := ⟨[], 0, rfl, .inl rfl⟩
  have hl : (dk s 1).length = s.length - 1 := by simp [dk]
  obtain ⟨j, hj, hj1, hj2⟩ := ur F (dk s 1) (by omega)
  have ha : gM [38, 59] = true := by decide
  unfold ij kD
  simp (disch := (first | omega | (simp; done) | (simp; omega))) only [fS, bk, ha, lc, ma, hj, bN]
  by_cases h : 1 ≤ j ∧ j ≤ 10
  · have hx : ((decide (1 ≤ j)) && (decide (j ≤ 10))) = true := by simp [h]
    simp (disch := (first | omega | (simp; done) | (simp; omega))) only [hx, Bool.not_true, Bool.not_false, lm, cn, ck, Bool.false_or]
    cases decide (at_ s (j + 1) = 38) with
    | true => exact no
    | false =>
      have hsub : (sub s 1 (j + 1)).length ≤ s.length := by simp [sub]; omega
      obtain ⟨o, k, ho, hol⟩ := tt F (sub s 1 (j + 1)) (by omega) (by omega)
      simp (disch := (first | omega | (simp; done) | (simp; omega))) only [cond_false, oW, bk, ho, aY]
      cases k with
      | false => exact no
      | true =>
        simp (disch := (first | omega | (simp; done) | (simp; omega))) only [Bool.not_true, cond_false, cn]
        exact ⟨o, j + 2, rfl, .inr ⟨by omega, by omega, hol⟩⟩
  · have hx : ((decide (1 ≤ j)) && (decide (j ≤ 10))) = false := by
      cases hq : (decide (1 ≤ j)) && (decide (j ≤ 10)) with
      | false => rfl
      | true => exact absurd (by simpa using hq) h
    simp only [hx, Bool.not_false, Bool.not_true, gl, Bool.true_or, cond_true]
    exact no
theorem gone_tot (F : Nat) : ∀ (n : Nat) (s : Bs) (ok : Bool) (acc : Bs), s.length < n → s.length ≤ 100000 → s.length + 20 < F → acc.length + 2 * s.length ≤ 1000000 → ∃ o k, eo F n (s, ok, acc) = some (o, k) ∧ o.length ≤ acc.length + 2 * s.length := by
  intro n
  induction n with
  | zero => intro s ok acc h; omega
  | succ n ih =>
    intro s ok acc hn hs hF ha;show ∃ o k, fD F (eo F n) s ok acc = some (o, k) ∧ _
    unfold fD fC
    obtain ⟨hi1, hi2⟩ := jU s 38
    by_cases h : Go.Lib.indexByte s 38 < 0
    · simp (disch := (first | omega | (simp; done) | (simp; omega))) only [bk, bT, grd_W]
      exact ⟨_, _, rfl, by simp; omega⟩
    · obtain ⟨i, hi⟩ : ∃ i : Nat, Go.Lib.indexByte s 38 = i := ⟨(Go.Lib.indexByte s 38).toNat, by omega⟩
      have il : i < s.length := by omega
      have l1 : (to_ s (i : Int)).length = i := by simp [oD]; omega
      have l2 : (dk s (i : Int)).length = s.length - i := by simp [lG]
      obtain ⟨o, k, ho, hk⟩ := qP F (dk s (i : Int)) (by omega) (by omega) (by omega)
      simp (disch := (first | omega | (simp; done) | (simp; omega))) only [bk, hi, bF, fS, grd_W, ho, aY]
      rcases hk with rfl | ⟨k3, kl, ol⟩
      · have l3 : (dk (dk s (i : Int)) 1).length = s.length - i - 1 := by simp [dk, l2]; omega
        simp (disch := (first | omega | (simp; done) | (simp; omega))) only [decide_true, cond_true, grd_W, bk, fS]
        obtain ⟨o', k', e1, e2⟩ := ih (dk (dk s (i : Int)) 1) false (acc ++ to_ s (i : Int) ++ [38]) (by omega) (by omega) (by omega) (by simp; omega);exact ⟨o', k', e1, by simp at e2; omega⟩
      · have l3 : (dk (dk s (i : Int)) k).length = s.length - i - k.toNat := by simp [dk]; omega
        simp (disch := (first | omega | (simp; done) | (simp; omega))) only [bF, grd_W, bk, fS]
        obtain ⟨o', k', e1, e2⟩ := ih (dk (dk s (i : Int)) k) ok (acc ++ to_ s (i : Int) ++ o) (by omega) (by omega) (by omega) (by simp; omega);exact ⟨o', k', e1, by simp at e2; omega⟩
end Go.Pn
namespace Go.Pn
open Go.Pv Go.Av
def dg (c : UInt8) : Nat := if 48 ≤ c.toNat ∧ c.toNat ≤ 57 then c.toNat - 48 else if 97 ≤ c.toNat ∧ c.toNat ≤ 102 then c.toNat - 87 else if 65 ≤ c.toNat ∧ c.toNat ≤ 70 then c.toNat - 55 else 99
theorem sz {p : UInt8 → Prop} (h : ∀ n : Nat, n < 256 → p (UInt8.ofNat n)) (c : UInt8) : p c := by
  have := h c.toNat (UInt8.toNat_lt c)
  rwa [UInt8.ofNat_toNat] at this
theorem digit_eq (F : Nat) (c : UInt8) : jS F c = some (dg c : Int) := by
  show jS 0 c = _;exact sz (p := fun c => jS 0 c = some (dg c : Int)) (by decide +kernel) c
def isD (x : UInt8) : Bool := (decide (48 ≤ (x.toNat : Int))) && (decide ((x.toNat : Int) ≤ 57))
def isL (x : UInt8) : Bool := (decide (97 ≤ ((x ||| 32).toNat : Int))) && (decide (((x ||| 32).toNat : Int) ≤ 122))
theorem dig_D (b : Nat) (hb : b = 10 ∨ b = 16) (x : UInt8) (h : isD x = true) : (b ≤ (x - 48).toNat ↔ b ≤ dg x) ∧ ((x - 48).toNat < b → (x - 48).toNat = dg x) := by
  revert h
  refine sz (p := fun x => isD x = true → (b ≤ (x - 48).toNat ↔ b ≤ dg x) ∧ ((x - 48).toNat < b → (x - 48).toNat = dg x)) ?_ x
  rcases hb with rfl | rfl <;> decide +kernel
theorem dig_L (b : Nat) (hb : b = 10 ∨ b = 16) (x : UInt8) (h0 : isD x = false) (h : isL x = true) : (b ≤ ((x ||| 32) - 97 + 10).toNat ↔ b ≤ dg x) ∧ (((x ||| 32) - 97 + 10).toNat < b → ((x ||| 32) - 97 + 10).toNat = dg x) := by
  revert h0 h
  refine sz (p := fun x => isD x = false → isL x = true → (b ≤ ((x ||| 32) - 97 + 10).toNat ↔ b ≤ dg x) ∧ (((x ||| 32) - 97 + 10).toNat < b → ((x ||| 32) - 97 + 10).toNat = dg x)) ?_ x
  rcases hb with rfl | rfl <;> decide +kernel
theorem dig_no (x : UInt8) (h0 : isD x = false) (h : isL x = false) : dg x = 99 := by
  revert h0 h
  exact sz (p := fun x => isD x = false → isL x = false → dg x = 99) (by decide +kernel) x
def num (b : Nat) : Nat → Bs → Option Nat
  | v, [] => some v
  | v, c :: r => if b ≤ dg c then none else num b (b * v + dg c) r
theorem sr (x : Int) (h0 : 0 ≤ x) (h1 : x < 18446744073709551616) : IntKind.u64.wrap x = x := by
  have : IntKind.u64.wrap x = x % 18446744073709551616 := rfl
  rw [this]; omega
theorem rJ (F : Nat) (s : Bs) (b : Nat) (hb : b = 10 ∨ b = 16) (c : Int) (hc : 1152921504606846976 ≤ c) (hs : s.length ≤ 10) : ∀ (n i v : Nat), s.length - i < n → v < 16 ^ i → i ≤ s.length →
    bW F s (b : Int) c n (false, (v : Int), (i : Int)) = match num b v (s.drop i) with | none => some (0, 2) | some w => some ((w : Int), 0) := by
  intro n
  induction n with
  | zero => intro i v h; omega
  | succ n ih =>
    intro i v hn hv hi;show dt F s (b : Int) c (bW F s (b : Int) c n) false (v : Int) (i : Int) = _
    unfold dt eb eP
    by_cases h : i < s.length
    · have hd : s.drop i = s[i] :: s.drop (i + 1) := aN h
      have hp : (16 : Nat) ^ i ≤ 16 ^ 9 := Nat.pow_le_pow_right (by omega) (by omega)
      have hp2 : (16 : Nat) ^ 9 = 68719476736 := rfl
      have hp3 : (16 : Nat) ^ (i + 1) = 16 ^ i * 16 := Nat.pow_succ _ _
      have key : ∀ d : UInt8, ((b ≤ d.toNat ↔ b ≤ dg s[i]) ∧ (d.toNat < b → d.toNat = dg s[i])) → cL (b : Int) c false (v : Int) (i : Int) (bW F s (b : Int) c n) d = match num b v (s.drop i) with | none => some (0, 2) | some w => some ((w : Int), 0) := by
        intro d ⟨h1, h2⟩
        rw [hd]
        unfold cL dr
        have hB : ((Go.Av.toB (b : Int)).toNat : Int) = (b : Int) := by rcases hb with rfl | rfl <;> rfl
        rw [hB]
        by_cases hbd : b ≤ d.toNat
        · rw [bT (by omega)]
          simp [num, h1.1 hbd]
        · have hd2 := h2 (by omega)
          have hbd' : ¬ b ≤ dg s[i] := fun e => hbd (h1.2 e)
          have hlt : d.toNat < 16 := by rcases hb with rfl | rfl <;> omega
          have hbv : b * v ≤ 16 * v := Nat.mul_le_mul_right v (by rcases hb with rfl | rfl <;> omega)
          have hmul : (v : Int) * (b : Int) = ((b * v : Nat) : Int) := by rw [Nat.mul_comm]; simp
          have wb : IntKind.u64.wrap (b : Int) = (b : Int) := sr _ (by omega) (by rcases hb with rfl | rfl <;> omega)
          have wd : IntKind.u64.wrap (d.toNat : Int) = (d.toNat : Int) := sr _ (by omega) (by omega)
          have wm : IntKind.u64.wrap ((b * v : Nat) : Int) = ((b * v : Nat) : Int) := sr _ (by omega) (by omega)
          have ws : IntKind.u64.wrap (((b * v : Nat) : Int) + (d.toNat : Int)) = ((b * v + d.toNat : Nat) : Int) := by rw [sr _ (by omega) (by omega)]; simp
          have wc : IntKind.u64.wrap ((IntKind.u64.wrap (1 * 2 ^ min (Int.toNat (IntKind.u64.wrap 64)) IntKind.u64.bits)) - 1) = 18446744073709551615 := by decide +kernel
          rw [wb, wd, hmul, wm, ws, wc, bF (by omega), bF (by omega), decide_eq_false (by omega : ¬ ((b * v + d.toNat : Nat) : Int) < ((b * v : Nat) : Int)), decide_eq_false (by omega : ¬ (18446744073709551615 : Int) < ((b * v + d.toNat : Nat) : Int))]
          rw [Bool.or_self, cond_false, cn (by omega), bU, ih (i + 1) (b * v + d.toNat) (by omega) (by rw [hp3]; rcases hb with rfl | rfl <;> omega) (by omega)]
          simp only [num, hbd', if_false, hd2]
      have hb0 : decide ((b : Int) = 0) = false := decide_eq_false (by rcases hb with rfl | rfl <;> omega)
      simp (disch := omega) only [bT, ck, bk, dS h, hb0, Bool.and_false, cond_false, bN, fu]
      cases hD : isD s[i] with
      | true =>
        have e : ((decide (48 ≤ ((s[i]).toNat : Int))) && (decide (((s[i]).toNat : Int) ≤ 57))) = true := hD
        rw [e, cond_true]
        exact key _ (dig_D b hb _ hD)
      | false =>
        have e : ((decide (48 ≤ ((s[i]).toNat : Int))) && (decide (((s[i]).toNat : Int) ≤ 57))) = false := hD
        rw [e, cond_false]
        have el : ((decide (97 ≤ ((s[i] ||| 32).toNat : Int))) && (decide ((((bif decide (97 ≤ ((s[i] ||| 32).toNat : Int)) then (s[i] ||| 32) else default) : UInt8).toNat : Int) ≤ 122))) = isL s[i] := by
          unfold isL
          cases decide (97 ≤ ((s[i] ||| 32).toNat : Int)) <;> rfl
        rw [el]
        cases hL : isL s[i] with
        | true =>
          rw [cond_true]
          exact key _ (dig_L b hb _ hD hL)
        | false =>
          rw [cond_false, hd]
          have := dig_no _ hD hL
          have : b ≤ dg s[i] := by rw [this]; rcases hb with rfl | rfl <;> omega
          simp [num, this]
    · rw [bF (by omega), jC]
      have hi2 : s.length ≤ i := by omega
      rw [aU hi2]
      rfl
theorem int_eq (F : Nat) (s : Bs) (b : Nat) (hb : b = 10 ∨ b = 16) (h0 : s ≠ []) (hs : s.length ≤ 10) (hF : 20 < F) (h43 : at_ s 0 ≠ 43) (h45 : at_ s 0 ≠ 45) :
    dd F s (b : Int) 0 = match num b 0 s with | none => some (0, 1) | some w => some ((w : Int), 0) := by
  have hp : 0 < s.length := List.length_pos_iff.2 h0
  have hw : ∀ (t : Bs) (v w : Nat), num b v t = some w → t.length ≤ 10 → v < 16 ^ (10 - t.length) → w < 16 ^ 10 := by
    intro t
    induction t with
    | nil => intro v w h _ hv; have : v = w := by simpa [num] using h
             subst this; exact hv
    | cons c r ih =>
      intro v w h hl hv
      simp only [num] at h
      split at h
      · cases h
      · rename_i hd
        simp only [List.length_cons] at hl hv
        refine ih _ _ h (by omega) ?_
        have e : 10 - r.length = (10 - (r.length + 1)) + 1 := by omega
        rw [e, Nat.pow_succ]
        rcases hb with rfl | rfl <;> omega
  have hu : eY F s (b : Int) 0 = match num b 0 s with | none => some (0, 2) | some w => some ((w : Int), 0) := by
    unfold eY dY dZ cV
    have h2 : ((decide (2 ≤ (b : Int))) && (decide ((b : Int) ≤ 36))) = true := by rcases hb with rfl | rfl <;> rfl
    rw [bF h0, h2, lc, iP rfl]
    have hwr := nt 64
    have go := fun c hc => rJ F s b hb c hc hs F 0 0 (by omega) (by omega) (by omega)
    rcases hb with rfl | rfl
    · rw [bT (show ((10 : Nat) : Int) = 10 from rfl), iP hwr, dJ (by omega)]; exact go _ (by omega)
    · rw [bF (show ¬ ((16 : Nat) : Int) = 10 by decide), bT (show ((16 : Nat) : Int) = 16 from rfl), iP hwr, dJ (by omega)]; exact go _ (by omega)
  have hi : fy F s (b : Int) 0 = match num b 0 s with | none => some (0, 2) | some w => some ((w : Int), 0) := by
    unfold fy dm eJ dP
    have e1 : IntKind.u64.wrap (1 * 2 ^ min (Int.toNat (IntKind.u64.wrap 63)) IntKind.u64.bits) = 9223372036854775808 := by decide +kernel
    have e2 : (0 : Int) ≤ IntKind.u64.wrap 63 := by decide +kernel
    rw [hu]
    cases hn : num b 0 s with
    | none => simp (disch := omega) only [bF h0, bF, ck, bk, aY]; rfl
    | some w =>
      have hwb : w < 16 ^ 10 := hw s 0 w hn hs (Nat.pow_pos (by omega))
      have hp2 : (16 : Nat) ^ 10 = 1099511627776 := rfl
      simp (disch := omega) only [bF h0, bF, ck, bk, aY, e1, iP e2, cn, iP, Bool.not_false, Bool.true_and, Bool.false_and, cond_false]
      rfl
  unfold dd
  rw [hi]
  cases hn : num b 0 s with
  | none =>
    simp only [aY]
    rw [show (!decide ((2 : Int) = 0)) = true by rfl, cond_true, ma (by omega)]; rfl
  | some w => rfl
theorem nv (n : Int) (c : Nat) (h : n = c) : toB n = UInt8.ofNat c := by
  subst h
  unfold toB
  apply UInt8.toNat.inj
  rw [UInt8.toNat_ofNat', UInt8.toNat_ofNat']
  omega
theorem nr (F : Nat) (r : Int) : hC F r = if (r = 9 ∨ r = 10 ∨ r = 13) ∨ (32 ≤ r ∧ r ≤ 55295) ∨ (57344 ≤ r ∧ r ≤ 65533) ∨ (65536 ≤ r ∧ r ≤ 1114111) then some (cA r, true) else some ([], false) := by
  have fin : -2147483648 ≤ r ∧ r ≤ 2147483647 → (grd (okJ r) (lt (cA r) fun x17 => some (x17, true))) = some (cA r, true) := fun h => by rw [grd_J h]; rfl
  unfold hC kD
  simp only [fu]
  cases hA : ((decide (r = 9)) || (decide (r = 10))) || (decide (r = 13)) with
  | true =>
    have : r = 9 ∨ r = 10 ∨ r = 13 := by simpa [or_assoc] using hA
    simp only [Bool.not_true, Bool.false_and, cond_false]
    rw [if_pos (.inl this)]; exact fin (by omega)
  | false =>
    have hA' : ¬ (r = 9 ∨ r = 10 ∨ r = 13) := by simp at hA; omega
    simp only [Bool.not_false, Bool.true_and, cond_true]
    cases h7 : (decide (32 ≤ r)) && (decide (r ≤ 55295)) with
    | true =>
      have : 32 ≤ r ∧ r ≤ 55295 := by simpa using h7
      simp only [Bool.not_true, Bool.false_and, cond_false]
      rw [if_pos (by omega)]; exact fin (by omega)
    | false =>
      have h7' : ¬ (32 ≤ r ∧ r ≤ 55295) := fun e => by simp [e] at h7
      simp only [Bool.not_false, Bool.true_and, cond_true]
      cases h10 : (decide (57344 ≤ r)) && (decide (r ≤ 65533)) with
      | true =>
        have : 57344 ≤ r ∧ r ≤ 65533 := by simpa using h10
        simp only [Bool.not_true, Bool.false_and, cond_false]
        rw [if_pos (by omega)]; exact fin (by omega)
      | false =>
        have h10' : ¬ (57344 ≤ r ∧ r ≤ 65533) := fun e => by simp [e] at h10
        simp only [Bool.not_false, Bool.true_and, cond_true]
        cases h13 : (decide (65536 ≤ r)) && (decide (r ≤ 1114111)) with
        | true =>
          have : 65536 ≤ r ∧ r ≤ 1114111 := by simpa using h13
          simp only [Bool.not_true, Bool.false_and, cond_false]
          rw [if_pos (by omega)]; exact fin (by omega)
        | false =>
          have h13' : ¬ (65536 ≤ r ∧ r ≤ 1114111) := fun e => by simp [e] at h13
          rw [if_neg (by omega)]; rfl
theorem cond9 (p q s a b c d e f : Prop) [Decidable p] [Decidable q] [Decidable s] [Decidable a] [Decidable b] [Decidable c] [Decidable d] [Decidable e] [Decidable f] :
    (((!((((decide p) || (decide q)) || (decide s)) || ((decide a) && (decide b)))) && (!((decide c) && (decide d)))) && (!((decide e) && (decide f)))) = !decide ((p ∨ q ∨ s) ∨ (a ∧ b) ∨ (c ∧ d) ∨ (e ∧ f)) := by
  simp only [Bool.decide_or, Bool.decide_and, Bool.not_or, Bool.and_assoc, Bool.or_assoc]
theorem vJ (r : Int) : (((!((((decide (r = 9)) || (decide (r = 10))) || (decide (r = 13))) || ((decide (32 ≤ r)) && (decide (r ≤ 55295))))) && (!((decide (57344 ≤ r)) && (decide (r ≤ 65533))))) && (!((decide (65536 ≤ r)) && (decide (r ≤ 1114111))))) = !decide ((r = 9 ∨ r = 10 ∨ r = 13) ∨ (32 ≤ r ∧ r ≤ 55295) ∨ (57344 ≤ r ∧ r ≤ 65533) ∨ (65536 ≤ r ∧ r ≤ 1114111)) := cond9 _ _ _ _ _ _ _ _ _
theorem uP (k m c : Nat) : toB ((k : Int) + (c : Int) / (m : Int)) = UInt8.ofNat (k + c / m) := nv _ _ (by rw [Int.natCast_add, Int.natCast_ediv])
theorem tb_mod (k m c : Nat) : toB ((k : Int) + (c : Int) % (m : Int)) = UInt8.ofNat (k + c % m) := nv _ _ (by rw [Int.natCast_add, Int.natCast_emod])
theorem uZ (k m n c : Nat) : toB ((k : Int) + (c : Int) / (m : Int) % (n : Int)) = UInt8.ofNat (k + c / m % n) := nv _ _ (by rw [Int.natCast_add, Int.natCast_emod, Int.natCast_ediv])
theorem enc1 (c : Nat) (hc : Utf8.valid (c : Int) = true) : Utf8.encode (c : Int) = if c < 128 then ⟨#[UInt8.ofNat c]⟩ else if c < 2048 then ⟨#[UInt8.ofNat (192 + c / 64), UInt8.ofNat (128 + c % 64)]⟩
    else if c < 65536 then ⟨#[UInt8.ofNat (224 + c / 4096), UInt8.ofNat (128 + c / 64 % 64), UInt8.ofNat (128 + c % 64)]⟩ else ⟨#[UInt8.ofNat (240 + c / 262144), UInt8.ofNat (128 + c / 4096 % 64), UInt8.ofNat (128 + c / 64 % 64), UInt8.ofNat (128 + c % 64)]⟩ := by
  have hcc : (if Utf8.valid (c : Int) = true then ((c : Int)).toNat else Utf8.runeError) = c := by rw [if_pos hc, Int.toNat_natCast]
  unfold Utf8.encode
  rw [hcc]
theorem sJ (n : Int) : cA n = (Utf8.encode n).data.toList := rfl
theorem uj (c : Nat) (hc : Utf8.valid (c : Int) = true) : cA (c : Int) = if c < 128 then [toB c] else if c < 2048 then [toB (192 + (c : Int) / 64), toB (128 + (c : Int) % 64)]
    else if c < 65536 then [toB (224 + (c : Int) / 4096), toB (128 + (c : Int) / 64 % 64), toB (128 + (c : Int) % 64)] else [toB (240 + (c : Int) / 262144), toB (128 + (c : Int) / 4096 % 64), toB (128 + (c : Int) / 64 % 64), toB (128 + (c : Int) % 64)] := by
  have t1 : toB (c : Int) = UInt8.ofNat c := nv (c : Int) c rfl
  have t2 : toB (192 + (c : Int) / 64) = UInt8.ofNat (192 + c / 64) := uP 192 64 c
  have t3 : toB (128 + (c : Int) % 64) = UInt8.ofNat (128 + c % 64) := tb_mod 128 64 c
  have t4 : toB (224 + (c : Int) / 4096) = UInt8.ofNat (224 + c / 4096) := uP 224 4096 c
  have t5 : toB (128 + (c : Int) / 64 % 64) = UInt8.ofNat (128 + c / 64 % 64) := uZ 128 64 64 c
  have t6 : toB (240 + (c : Int) / 262144) = UInt8.ofNat (240 + c / 262144) := uP 240 262144 c
  have t7 : toB (128 + (c : Int) / 4096 % 64) = UInt8.ofNat (128 + c / 4096 % 64) := uZ 128 4096 64 c
  rw [t1, t2, t3, t4, t5, t6, t7, sJ, enc1 c hc]
  by_cases h1 : c < 128
  · rw [if_pos h1, if_pos h1]
  · rw [if_neg h1, if_neg h1]
    by_cases h2 : c < 2048
    · rw [if_pos h2, if_pos h2]
    · rw [if_neg h2, if_neg h2]
      by_cases h3 : c < 65536
      · rw [if_pos h3, if_pos h3]
      · rw [if_neg h3, if_neg h3]
theorem ui (c : Nat) (h : ((c : Int) = 9 ∨ (c : Int) = 10 ∨ (c : Int) = 13) ∨ (32 ≤ (c : Int) ∧ (c : Int) ≤ 55295) ∨ (57344 ≤ (c : Int) ∧ (c : Int) ≤ 65533) ∨ (65536 ≤ (c : Int) ∧ (c : Int) ≤ 1114111)) : Utf8.valid (c : Int) = true := by
  unfold Utf8.valid
  by_cases h1 : (c : Int) < 55296
  · have : (0 : Int) ≤ (c : Int) := by omega
    rw [decide_eq_true this, decide_eq_true h1]; rfl
  · have h2 : (57344 : Int) ≤ (c : Int) := by omega
    have h3 : (c : Int) ≤ 1114111 := by omega
    rw [decide_eq_true h2, decide_eq_true h3, Bool.and_self, Bool.or_true]
theorem oT (F : Nat) (r : Int) : hC F r = fa F r := by
  rw [nr]
  unfold fa
  rw [vJ]
  by_cases h : (r = 9 ∨ r = 10 ∨ r = 13) ∨ (32 ≤ r ∧ r ≤ 55295) ∨ (57344 ≤ r ∧ r ≤ 65533) ∨ (65536 ≤ r ∧ r ≤ 1114111)
  · rw [if_pos h, decide_eq_true h, Bool.not_true, cond_false]
    obtain ⟨c, rfl⟩ : ∃ c : Nat, r = c := ⟨r.toNat, by omega⟩
    rw [uj c (ui c h)]
    by_cases h1 : c < 128
    · rw [if_pos h1, bT (by omega)]
    · rw [if_neg h1, bF (by omega)]
      by_cases h2 : c < 2048
      · rw [if_pos h2, bT (by omega)]
        simp (disch := omega) only [sn, cn]
      · rw [if_neg h2, bF (by omega)]
        by_cases h3 : c < 65536
        · rw [if_pos h3, bT (by omega)]
          simp (disch := omega) only [sn, cn]
        · rw [if_neg h3, bF (by omega)]
          simp (disch := omega) only [sn, cn]
  · rw [if_neg h, decide_eq_false h]; rfl
def cap (w : Nat) : Nat := if 1114111 < w then 1114112 else w
theorem sL (F : Nat) (s : Bs) (b : Nat) (hb : b = 10 ∨ b = 16) (hs : s.length ≤ 100000) : ∀ (n i v : Nat), s.length - i < n → i ≤ s.length →
    iU F s (b : Int) n ((cap v : Int), (i : Int)) = match num b v (s.drop i) with | none => some (-1) | some w => some (if s.length = 0 then -1 else (cap w : Int)) := by
  intro n
  induction n with
  | zero => intro i v h; omega
  | succ n ih =>
    intro i v hn hi;show iV F s (b : Int) (iU F s (b : Int) n) (cap v : Int) (i : Int) = _
    unfold iV iR kY
    have hcv : cap v ≤ 1114112 := by unfold cap; split <;> omega
    by_cases h : i < s.length
    · have hd : s.drop i = s[i] :: s.drop (i + 1) := aN h
      simp (disch := omega) only [bT, ck, bk, dS h, digit_eq, bN]
      rw [hd]
      by_cases hbd : b ≤ dg s[i]
      · rw [bT (by omega)]; simp [num, hbd]
      · have hdb : dg s[i] < 16 := by rcases hb with rfl | rfl <;> omega
        have hbc : b * cap v ≤ 16 * cap v := Nat.mul_le_mul_right _ (by rcases hb with rfl | rfl <;> omega)
        have e1 : (b : Int) * (cap v : Int) = ((b * cap v : Nat) : Int) := by simp
        have e2 : ((b * cap v : Nat) : Int) + (dg s[i] : Int) = ((b * cap v + dg s[i] : Nat) : Int) := by simp
        have e3 : cap (b * v + dg s[i]) = if 1114111 < b * cap v + dg s[i] then 1114112 else b * cap v + dg s[i] := by
          unfold cap
          rcases hb with rfl | rfl <;> (split <;> split <;> (try split) <;> omega)
        rw [bF (by omega), e1, e2, cn (by omega), cn (by omega)]
        simp only [num, hbd, if_false]
        have := ih (i + 1) (b * v + dg s[i]) (by omega) (by omega)
        rw [e3] at this
        by_cases hc : 1114111 < b * cap v + dg s[i]
        · rw [bT (by omega), cn (by omega), bU]
          rw [if_pos hc] at this
          exact this
        · rw [bF (by omega), cn (by omega), bU]
          rw [if_neg hc] at this
          exact this
    · have hi2 : s.length ≤ i := by omega
      rw [bF (by omega), aU hi2]
      simp only [num]
      by_cases h0 : s.length = 0
      · rw [bT (by omega), if_pos h0]
      · rw [bF (by omega), if_neg h0]
theorem vM (F : Nat) (s : Bs) (b : Nat) (hb : b = 10 ∨ b = 16) (hs : s.length ≤ 100000) (hF : s.length < F) :
    fL F s (b : Int) = match num b 0 s with | none => some (-1) | some w => some (if s.length = 0 then -1 else (cap w : Int)) := by
  have := sL F s b hb hs F 0 0 (by omega) (by omega)
  have hc : cap 0 = 0 := rfl
  rw [hc, List.drop_zero] at this
  exact this
theorem sx {s : Bs} {b v : Nat} (hb : b = 10 ∨ b = 16) {c : UInt8} (hc : dg c = 99) (h : c ∈ s) : num b v s = none := by
  induction s generalizing v with
  | nil => cases h
  | cons d r ih =>
    simp only [num]
    rcases List.mem_cons.1 h with rfl | h
    · rw [if_pos (by rcases hb with rfl | rfl <;> omega)]
    · split
      · rfl
      · exact ih h
end Go.Pn
namespace Go.Pn
open Go.Pv Go.Av
theorem kK (F : Nat) : fa F (-1) = some ([], false) := by rw [← oT, nr, if_neg (by omega)]
theorem rune_cap (F w : Nat) : fa F (cap w : Int) = fa F (w : Int) := by
  unfold cap
  split
  · rw [← oT, ← oT, nr, nr, if_neg (by omega), if_neg (by omega)]
  · rfl
theorem qn (F : Nat) (s : Bs) (hs : s.length ≤ 100000) : fG F s [95] = some (decide (0 ≤ Go.Lib.indexByte s 95)) := by
  unfold fG kC lk gy gE
  have e : ((decide (8 < s.length)) && (decide (2 ≤ ([95] : Bs).length))) = false := by simp
  have e2 : at_ ([95] : Bs) 0 = 95 := rfl
  have e3 : gM [95] = true := by decide
  have e4 : ((95 : UInt8).toNat : Int) = 95 := rfl
  have e5 : toB 95 = 95 := rfl
  rw [e, cond_false]
  simp (disch := (first | omega | (simp; done) | (simp; omega))) only [e3, lc, ma, bF, bT, ck, bk, e2, e4, grd_J]
  rfl
theorem lC (F : Nat) (s : Bs) (b : Nat) (hb : b = 10 ∨ b = 16) (hs : s.length ≤ 10) (hF : 20 < F) : ∃ v, fL F s (b : Int) = some v ∧ du F s (b : Int) = fa F v := by
  rw [vM F s b hb (by omega) (by omega)]
  unfold du
  cases s with
  | nil =>
    refine ⟨-1, rfl, ?_⟩
    rw [kK]
    simp [gl, bk, jC]
  | cons c r =>
    have h0 : decide ((c :: r) = []) = false := decide_eq_false (by simp)
    have ha : at_ (c :: r) 0 = c := rfl
    have hg : ∀ (q : Bool) (k : Option (Bs × Bool)), eK q (ce 0 (c :: r).length) k = k := fun q k => kr (fun _ => by simp)
    have hlen : ¬ (c :: r).length = 0 := by simp
    rw [qn F (c :: r) (by omega)]
    simp only [hg, h0, bk, ha, fu, Bool.false_or]
    by_cases h1 : c = 43
    · rw [sx hb (c := 43) (by decide) (by simp [h1])]
      refine ⟨-1, rfl, ?_⟩
      rw [kK]; simp [h1]
    · by_cases h2 : c = 45
      · rw [sx hb (c := 45) (by decide) (by simp [h2])]
        refine ⟨-1, rfl, ?_⟩
        rw [kK]; simp [h2]
      · by_cases h3 : c = 95
        · rw [sx hb (c := 95) (by decide) (by simp [h3])]
          refine ⟨-1, rfl, ?_⟩
          rw [kK]; simp [h3]
        · simp only [h1, h2, h3, decide_false, Bool.or_self, Bool.false_or, Bool.not_false, cond_true]
          by_cases h4 : 0 ≤ Go.Lib.indexByte (c :: r) 95
          · rw [bT h4]
            have hmem : (95 : UInt8) ∈ c :: r := by
              by_cases hm : (95 : UInt8) ∈ c :: r
              · exact hm
              · have := mX (c := 95) (s := c :: r) (fun x hx e => hm (e ▸ hx))
                omega
            rw [sx hb (c := 95) (by decide) hmem]
            exact ⟨-1, rfl, (kK F).symm⟩
          · rw [bF h4, int_eq F (c :: r) b hb (by simp) hs hF (by rw [ha]; exact h1) (by rw [ha]; exact h2)]
            cases hn : num b 0 (c :: r) with
            | none => exact ⟨-1, rfl, by rw [kK]; rfl⟩
            | some w =>
              refine ⟨(cap w : Int), by simp only [hlen, if_false], ?_⟩
              rw [rune_cap, ← oT]
              simp only [aY]
              simp only [decide_true, Bool.not_true, cond_false]
              cases he : hC F (w : Int) with
              | none => rfl
              | some p => rfl
theorem vI (F : Nat) (b : Bs) (hb : b.length ≤ 10) (hF : 20 < F) : gr F b = ju F b := by
  have fallback : mhas [(([97, 109, 112] : List UInt8), (38 : Int)), (([108, 116] : List UInt8), 60), (([103, 116] : List UInt8), 62), (([113, 117, 111, 116] : List UInt8), 34), (([97, 112, 111, 115] : List UInt8), 39)] b = false →
      ¬ b = [97, 109, 112] → ¬ b = [108, 116] → ¬ b = [103, 116] → ¬ b = [113, 117, 111, 116] → ¬ b = [97, 112, 111, 115] → gr F b = ju F b := by
    intro hm n1 n2 n3 n4 n5
    unfold gr jp ju kf
    simp only [bN, bk, hm, cond_false, bF n1, bF n2, bF n3, bF n4, bF n5]
    cases b with
    | nil => simp [Go.Lib.hasPrefix, gl]
    | cons c r =>
      cases r with
      | nil =>
        obtain ⟨v, _, hv⟩ := lC F [] 10 (.inl rfl) (by simp) hF
        have e0 : du F [] 10 = some ([], false) := by unfold du; simp [gl, bk, jC]
        by_cases h : c = 35
        · subst h
          have e1 : Go.Lib.hasPrefix [35] [35, 120] = false := by decide
          have e2 : Go.Lib.hasPrefix [35] [35] = true := by decide
          have e3 : Go.Lib.trimPrefix [35] [35] = [] := by decide
          rw [e1, e2, e3, cond_false, cond_true, e0]
          simp [aY, gl]
        · have e1 : Go.Lib.hasPrefix [c] [35, 120] = false := by simp [Go.Lib.hasPrefix, List.isPrefixOf]
          have e2 : Go.Lib.hasPrefix [c] [35] = false := by simp [Go.Lib.hasPrefix, List.isPrefixOf, Ne.symm h]
          rw [e1, e2, cond_false, cond_false]
          simp [gl]
      | cons d r =>
        have ha : at_ (c :: d :: r) 0 = c := rfl
        have hb1 : at_ (c :: d :: r) 1 = d := rfl
        have hl : decide (((c :: d :: r).length : Int) < 2) = false := decide_eq_false (by simp only [List.length_cons]; omega)
        have f1 : dk (c :: d :: r) 1 = d :: r := rfl
        have f2 : dk (c :: d :: r) 2 = r := rfl
        have hg : ∀ (q : Bool) (k : Option (Bs × Bool)), eK q (ce 0 (c :: d :: r).length) k = k := fun q k => kr (fun _ => by simp only [List.length_cons]; omega)
        simp only [hg, hl, ha, hb1, f1, f2, Bool.false_or]
        by_cases h : c = 35
        · subst h
          rw [show (!decide ((35 : UInt8) = 35)) = false by rfl, cond_false]
          obtain ⟨v, hv1, hv2⟩ := lC F (d :: r) 10 (.inl rfl) (by simp at hb ⊢; omega) hF
          have hv1' : fL F (d :: r) 10 = some v := hv1
          have hv2' : du F (d :: r) 10 = fa F v := hv2
          simp (disch := (first | omega | (simp; done) | (simp; omega))) only [fS, ck, hv1', bN]
          by_cases hx : d = 120
          · subst hx
            obtain ⟨u, hu1, hu2⟩ := lC F r 16 (.inr rfl) (by simp at hb ⊢; omega) hF
            have hu1' : fL F r 16 = some u := hu1
            have hu2' : du F r 16 = fa F u := hu2
            have e1 : Go.Lib.hasPrefix (35 :: 120 :: r) [35, 120] = true := by simp [Go.Lib.hasPrefix, List.isPrefixOf]
            have e3 : Go.Lib.trimPrefix (35 :: 120 :: r) [35, 120] = r := by simp [Go.Lib.trimPrefix, Go.Lib.hasPrefix, List.isPrefixOf]
            rw [e1, e3, cond_true, bT rfl, hu1', bN, hu2']
          · have e1 : Go.Lib.hasPrefix (35 :: d :: r) [35, 120] = false := by simp [Go.Lib.hasPrefix, List.isPrefixOf, Ne.symm hx]
            have e2 : Go.Lib.hasPrefix (35 :: d :: r) [35] = true := by simp [Go.Lib.hasPrefix, List.isPrefixOf]
            have e3 : Go.Lib.trimPrefix (35 :: d :: r) [35] = d :: r := by simp [Go.Lib.trimPrefix, Go.Lib.hasPrefix, List.isPrefixOf]
            rw [e1, e2, e3, cond_false, cond_true, bF hx, hv2']
        · have e1 : Go.Lib.hasPrefix (c :: d :: r) [35, 120] = false := by simp [Go.Lib.hasPrefix, List.isPrefixOf, Ne.symm h]
          have e2 : Go.Lib.hasPrefix (c :: d :: r) [35] = false := by simp [Go.Lib.hasPrefix, List.isPrefixOf, Ne.symm h]
          rw [e1, e2, cond_false, cond_false, decide_eq_false h]; rfl
  have named : ∀ (n : Bs) (k : Int) (x : Bs), (mhas [(([97, 109, 112] : List UInt8), (38 : Int)), (([108, 116] : List UInt8), 60), (([103, 116] : List UInt8), 62), (([113, 117, 111, 116] : List UInt8), 34), (([97, 112, 111, 115] : List UInt8), 39)] n = true) →
      cA (mget [(([97, 109, 112] : List UInt8), (38 : Int)), (([108, 116] : List UInt8), 60), (([103, 116] : List UInt8), 62), (([113, 117, 111, 116] : List UInt8), 34), (([97, 112, 111, 115] : List UInt8), 39)] n) = x → gr F n = some (x, true) := by
    intro n k x h1 h2
    unfold gr jp
    simp only [bN, bk, h1, h2, cond_true]
  by_cases n1 : b = [97, 109, 112]
  · subst n1; rw [named _ 38 [38] (by decide +kernel) (by decide +kernel)]; rfl
  by_cases n2 : b = [108, 116]
  · subst n2; rw [named _ 60 [60] (by decide +kernel) (by decide +kernel)]; rfl
  by_cases n3 : b = [103, 116]
  · subst n3; rw [named _ 62 [62] (by decide +kernel) (by decide +kernel)]; rfl
  by_cases n4 : b = [113, 117, 111, 116]
  · subst n4; rw [named _ 34 [34] (by decide +kernel) (by decide +kernel)]; rfl
  by_cases n5 : b = [97, 112, 111, 115]
  · subst n5; rw [named _ 39 [39] (by decide +kernel) (by decide +kernel)]; rfl
  refine fallback ?_ n1 n2 n3 n4 n5
  simp [mhas, List.lookup, beq_false_of_ne n1, beq_false_of_ne n2, beq_false_of_ne n3, beq_false_of_ne n4, beq_false_of_ne n5]
end Go.Pn
namespace Go.Pn
open Go.Pv Go.Av
theorem getD_at (s : Bs) (k : Nat) (h : k < s.length) : (⟨s.toArray⟩ : ByteArray).get! k = s[k] := by
  show (s.toArray)[k]! = _
  simp [h]
theorem wR (s : Bs) (p m : Nat) (hm : 0 < m) (hk : m < (ll s p).2) : ∃ h : p + m < s.length, 128 ≤ (s[p + m]).toNat := by
  have key : ∀ k, (decide (p + k < (⟨s.toArray⟩ : ByteArray).size) && ((⟨s.toArray⟩ : ByteArray).get! (p + k)).toNat / 64 == 2) = true → ∃ h : p + k < s.length, 128 ≤ (s[p + k]).toNat := by
    intro k hk
    simp only [Bool.and_eq_true, decide_eq_true_eq, beq_iff_eq] at hk
    obtain ⟨h1, h2⟩ := hk
    have h1' : p + k < s.length := h1
    rw [getD_at s (p + k) h1'] at h2
    exact ⟨h1', by omega⟩
  unfold ll Utf8.decode at hk
  simp only at hk
  split at hk
  · simp at hk; omega
  · split at hk
    · rename_i h2
      simp only [Bool.and_eq_true] at h2
      split at hk
      · have : m = 1 := by simp at hk; omega
        subst this;exact key 1 (by simpa using h2.2)
      · simp at hk; omega
    · split at hk
      · rename_i h2
        simp only [Bool.and_eq_true] at h2
        split at hk
        · have : m = 1 ∨ m = 2 := by simp at hk; omega
          rcases this with rfl | rfl
          · exact key 1 (by simpa using h2.1.2)
          · exact key 2 (by simpa using h2.2)
        · simp at hk; omega
      · split at hk
        · rename_i h2
          simp only [Bool.and_eq_true] at h2
          split at hk
          · have : m = 1 ∨ m = 2 ∨ m = 3 := by simp at hk; omega
            rcases this with rfl | rfl | rfl
            · exact key 1 (by simpa using h2.1.1.2)
            · exact key 2 (by simpa using h2.1.2)
            · exact key 3 (by simpa using h2.2)
          · simp at hk; omega
        · simp at hk; omega
theorem decR_low (s : Bs) (p : Nat) (h : p < s.length) (hb : (s[p]).toNat < 128) : ll s p = ((s[p]).toNat, 1) := decode_ascii (⟨s.toArray⟩ : ByteArray) p h hb
theorem wS (s : Bs) (p : Nat) (h : p < s.length) (hb : 128 ≤ (s[p]).toNat) : 128 ≤ (ll s p).1 := (decode_high (⟨s.toArray⟩ : ByteArray) p h hb).1
theorem uq (F : Nat) (hF : 5 ≤ F) (r : Int) (hr : 128 ≤ r) : gE F [38, 59] r = some (-1) := by
  obtain ⟨k1, k2⟩ := oe r hr
  have k3 := jI r
  unfold gE
  have hf : ((decide (0 ≤ r)) && (decide (r < 128))) = false := by rw [decide_eq_false (by omega : ¬ r < 128), Bool.and_false]
  rw [hf, cond_false]
  by_cases h2 : r = 65533
  · rw [bT h2]
    obtain ⟨m, rfl⟩ : ∃ m, F = m + 3 := ⟨F - 3, by omega⟩
    have e0 : ll [38, 59] 0 = (38, 1) := by decide +kernel
    have e1 : ll [38, 59] 1 = (59, 1) := by decide +kernel
    show dT [38, 59] (gw [38, 59] (m + 2)) 0 = _
    unfold dT
    simp only [e0]
    show dT [38, 59] (gw [38, 59] (m + 1)) 1 = _
    unfold dT
    simp only [e1]
    rfl
  · rw [bF h2]
    have hv : ∃ b, ik F r = some b := by
      unfold ik
      cases (decide (0 ≤ r)) && (decide (r < 55296)) with
      | true => exact ⟨true, rfl⟩
      | false =>
        rw [cond_false]
        cases (decide (57343 < r)) && (decide (r ≤ 1114111)) with
        | true => exact ⟨true, rfl⟩
        | false => exact ⟨false, rfl⟩
    obtain ⟨b, hb⟩ := hv
    rw [hb, bN]
    cases b with
    | false => rfl
    | true =>
      obtain ⟨m, rfl⟩ : ∃ m, F = m + 1 := ⟨F - 1, by omega⟩
      simp (disch := omega) only [Bool.not_true, cond_false, bk, cn]
      show gx [38, 59] (cA r) (jv [38, 59] (cA r) m) = _
      unfold gx ic
      by_cases h3 : (cA r).length = 2
      · have e1 : ((cA r).length : Int) - 1 = 1 := by omega
        have e2 : at_ ([38, 59] : Bs) 1 = 59 := rfl
        have e3 : dk ([38, 59] : Bs) (1 + 1) = [] := rfl
        rw [e1]
        simp (disch := (first | omega | (simp; done) | (simp; omega))) only [bT, ck, bk, e2, decide_eq_false (k2 h3), Bool.not_false, lc, cn, fS, e3]
        rfl
      · have : ¬ ((cA r).length : Int) - 1 < (([38, 59] : Bs).length : Int) := by simp; omega
        rw [bF this]
def nxt (s : Bs) (y : Nat) : Int := if Go.Lib.indexAny (s.drop y) [38, 59] = -1 then -1 else (y : Int) + Go.Lib.indexAny (s.drop y) [38, 59]
theorem tA (s : Bs) (y : Nat) (h : y < s.length) (hc : ([38, 59] : Bs).contains s[y] = false) : nxt s (y + 1) = nxt s y := by
  unfold nxt
  rw [aN h]
  simp only [Go.Lib.indexAny, hc]
  have := (ib (s.drop (y + 1)) [38, 59]).1
  by_cases e : Go.Lib.indexAny (s.drop (y + 1)) [38, 59] = -1
  · simp [e]
  · have e2 : (Go.Lib.indexAny (s.drop (y + 1)) [38, 59] == -1) = false := by simpa using e
    have e3 : ¬ Go.Lib.indexAny (s.drop (y + 1)) [38, 59] + 1 = -1 := by omega
    simp [e, e2, e3]; omega
theorem nxt_hi (s : Bs) (y : Nat) (h : y < s.length) (hb : 128 ≤ (s[y]).toNat) : nxt s (y + 1) = nxt s y := by
  refine tA s y h ?_
  have h1 : s[y] ≠ 38 := by intro e; rw [e] at hb; revert hb; decide
  have h2 : s[y] ≠ 59 := by intro e; rw [e] at hb; revert hb; decide
  simp [h1, h2]
theorem nxt_skip (s : Bs) (y : Nat) : ∀ k, (∀ m, m < k → ∃ h : y + m < s.length, 128 ≤ (s[y + m]).toNat) → nxt s (y + k) = nxt s y := by
  intro k
  induction k with
  | zero => intro _; rfl
  | succ k ih =>
    intro h;obtain ⟨h1, h2⟩ := h k (by omega)
    rw [show y + (k + 1) = y + k + 1 by omega, nxt_hi s (y + k) h1 h2]
    exact ih (fun m hm => h m (by omega))
theorem ut (F : Nat) (hF : 5 ≤ F) (s : Bs) : ∀ (n y : Nat), s.length - y < n → gz F s [38, 59] n y = some (nxt s y) := by
  intro n
  induction n with
  | zero => intro y h; omega
  | succ n ih =>
    intro y hy;show gA F s [38, 59] (gz F s [38, 59] n) y = _
    unfold gA ig
    by_cases h : y < s.length
    · rw [bT h]
      by_cases hb : (s[y]).toNat < 128
      · rw [decR_low s y h hb]
        have hi : gE F [38, 59] ((s[y]).toNat : Int) = some (Go.Lib.indexByte [38, 59] s[y]) := by
          unfold gE
          have e : ((decide ((0 : Int) ≤ ((s[y]).toNat : Int))) && (decide (((s[y]).toNat : Int) < 128))) = true := by
            rw [decide_eq_true (by omega : (0 : Int) ≤ ((s[y]).toNat : Int)), decide_eq_true (by omega : ((s[y]).toNat : Int) < 128)]; rfl
          rw [e, cond_true, bk, nv _ (s[y]).toNat rfl, UInt8.ofNat_toNat]
        simp only [hi, bN]
        by_cases hc : ([38, 59] : Bs).contains s[y] = true
        · have h0 : 0 ≤ Go.Lib.indexByte [38, 59] s[y] := by
            have : s[y] = 38 ∨ s[y] = 59 := by simpa using hc
            rcases this with e | e <;> rw [e] <;> decide
          rw [bT h0]
          unfold nxt
          rw [aN h]
          simp only [Go.Lib.indexAny, hc, if_true]
          simp
        · have hc' : ([38, 59] : Bs).contains s[y] = false := by simpa using hc
          have h0 : ¬ 0 ≤ Go.Lib.indexByte [38, 59] s[y] := by
            have hne : ¬ s[y] = 38 ∧ ¬ s[y] = 59 := by simpa using hc'
            have := mX (c := s[y]) (s := [38, 59]) (fun b hb e => by
              simp at hb
              rcases hb with rfl | rfl
              · exact hne.1 e.symm
              · exact hne.2 e.symm)
            omega
          rw [bF h0, ih (y + 1) (by omega), tA s y h hc']
      · have hh := wS s y h (by omega)
        have hp := tK s y
        rw [uq F hF _ (by omega), bN, bF (by omega), ih _ (by omega)]
        rw [nxt_skip s y (ll s y).2 (fun m hm => by
          cases m with
          | zero => exact ⟨h, by simpa using hb⟩
          | succ m => exact wR s y (m + 1) (by omega) hm)]
    · rw [bF h]
      unfold nxt
      rw [aU (by omega)]
      rfl
theorem vP (F : Nat) (s : Bs) (hF : 20 ≤ F) : kC F s [38, 59] = some (Go.Lib.indexAny s [38, 59]) := by
  unfold kC
  by_cases h : 8 < s.length
  · simp [h]
  · have e : ((decide (8 < s.length)) && (decide (2 ≤ ([38, 59] : Bs).length))) = false := by simp [h]
    rw [e, cond_false]
    unfold lk pQ ie
    have e3 : decide ((8 : Int) < (s.length : Int)) = false := decide_eq_false (by omega)
    simp (disch := (first | omega | (simp; done) | (simp; omega))) only [bF, bN, e3, Bool.not_false, lc]
    rw [ut F (by omega) s F 0 (by omega)]
    unfold nxt
    rw [List.drop_zero]
    split
    · rename_i e; rw [e]
    · simp
end Go.Pn
namespace Go.Pn
open Go.Pv Go.Av
abbrev amp : Bs := [38, 59]
theorem any_cons (c : UInt8) (r : Bs) : Go.Lib.indexAny (c :: r) amp = if c = 38 ∨ c = 59 then 0 else if Go.Lib.indexAny r amp = -1 then -1 else Go.Lib.indexAny r amp + 1 := by
  simp [Go.Lib.indexAny]
theorem any_is (r : Bs) : ∀ (k : Nat) (h : k < r.length), Go.Lib.indexAny r amp = (k : Int) → r[k] = 38 ∨ r[k] = 59 := by
  induction r with
  | nil => intro k h; simp at h
  | cons c r ih =>
    intro k h hk
    rw [any_cons] at hk
    by_cases hc : c = 38 ∨ c = 59
    · rw [if_pos hc] at hk
      have : k = 0 := by omega
      subst this; simpa using hc
    · rw [if_neg hc] at hk
      split at hk
      · omega
      · cases k with
        | zero => have := (ib r amp).1; omega
        | succ k => simpa using ih k (by simpa using h) (by omega)
def cI (r : Bs) : Bs × Bool :=
  if 0 ≤ Go.Lib.indexAny r amp ∧ Go.Lib.indexAny r amp ≤ 10 ∧ r.getD (Go.Lib.indexAny r amp).toNat 0 = 59 then (r.take (Go.Lib.indexAny r amp).toNat, decide (0 < Go.Lib.indexAny r amp)) else ([], false)
theorem body_len (r : Bs) : (cI r).1.length ≤ 10 := by
  unfold cI
  split
  · rename_i h; simp; omega
  · simp
theorem first_eq (F : Nat) (r : Bs) (hs : r.length ≤ 100000) (hF : 150000 < F) : ∃ x k, ju F (cI r).1 = some (x, k) ∧ ij F (38 :: r) = some (if (cI r).2 = true ∧ k = true then (x, ((cI r).1.length : Int) + 2) else ([], 0)) := by
  have hbl := body_len r
  obtain ⟨x, k, hx, _⟩ := tt F (cI r).1 (by omega) (by omega);refine ⟨x, k, by rw [← vI F _ hbl (by omega)]; exact hx, ?_⟩;obtain ⟨hj1, hj2⟩ := ib r amp
  have h1 : dk (38 :: r) 1 = r := rfl
  have ha : gM [38, 59] = true := by decide
  have hl : ((38 :: r : Bs).length : Int) = (r.length : Int) + 1 := by simp
  unfold ij kD
  simp (disch := (first | omega | (simp; done) | (simp; omega))) only [fS, bk, ha, lc, ma, h1, vP F r (by omega), bN]
  by_cases h : 1 ≤ Go.Lib.indexAny r amp ∧ Go.Lib.indexAny r amp ≤ 10
  · obtain ⟨j, hj⟩ : ∃ j : Nat, Go.Lib.indexAny r amp = j := ⟨(Go.Lib.indexAny r amp).toNat, by omega⟩
    have hjl : j < r.length := by omega
    have hc := any_is r j hjl hj
    have hx' : ((decide (1 ≤ Go.Lib.indexAny r amp)) && (decide (Go.Lib.indexAny r amp ≤ 10))) = true := by simp [h]
    have hat : at_ (38 :: r) ((j : Int) + 1) = r[j] := by
      rw [show (j : Int) + 1 = ((j + 1 : Nat) : Int) from rfl, dS (by simp; omega)]; simp
    have hsub : sub (38 :: r) 1 ((j : Int) + 1) = r.take j := by
      rw [show (j : Int) + 1 = ((j + 1 : Nat) : Int) from rfl, show (1 : Int) = ((1 : Nat) : Int) from rfl, sd]; simp
    rw [hj] at hx' h ⊢
    simp (disch := (first | omega | (simp; done) | (simp; omega))) only [hx', Bool.not_true, Bool.not_false, lm, cn, ck, Bool.false_or, hat]
    have hget : r.getD (j : Int).toNat 0 = r[j] := by simp [hjl]
    rcases hc with hc | hc
    · have hb : cI r = ([], false) := by
        unfold cI
        rw [hj, hget, hc, if_neg (by simp)]
      rw [bT hc, hb]; simp
    · have hb : cI r = (r.take j, true) := by
        unfold cI
        rw [hj, hget, hc, if_pos ⟨by omega, by omega, rfl⟩, decide_eq_true (by omega)]
        simp
      rw [hb] at hx ⊢
      have hlt : ((r.take j).length : Int) = (j : Int) := by simp; omega
      rw [bF (by rw [hc]; decide)]
      simp (disch := (first | omega | (simp; done) | (simp; omega))) only [oW, bk, hsub, hx, aY]
      cases k with
      | false => simp
      | true =>
        simp (disch := (first | omega | (simp; done) | (simp; omega))) only [Bool.not_true, cond_false, cn]
        simp [hlt]; omega
  · have hx' : ((decide (1 ≤ Go.Lib.indexAny r amp)) && (decide (Go.Lib.indexAny r amp ≤ 10))) = false := by
      cases hq : (decide (1 ≤ Go.Lib.indexAny r amp)) && (decide (Go.Lib.indexAny r amp ≤ 10)) with
      | false => rfl
      | true => exact absurd (by simpa using hq) h
    simp only [hx', Bool.not_false, Bool.not_true, gl, Bool.true_or, cond_true]
    have hb : (cI r).2 = false := by
      unfold cI
      split
      · rename_i hh; simp; omega
      · rfl
    rw [hb]; simp
end Go.Pn
namespace Go.Pn
open Go.Pv Go.Av
def mc (F : Nat) (r : Bs) : Option (Bs × Nat) :=
  match ju F (cI r).1 with
  | some (x, true) => bif (cI r).2 then some (x, (cI r).1.length + 2) else none
  | _ => none
def G1 (F : Nat) : Nat → Bs → Bool → Bs → Bs × Bool
  | 0, _, ok, acc => (acc, ok)
  | _ + 1, [], ok, acc => (acc, ok)
  | m + 1, c :: r, ok, acc =>
    if c = 38 then
      match mc F r with
      | some (x, k) => G1 F m ((c :: r).drop k) ok (acc ++ x)
      | none => G1 F m r false (acc ++ [38])
    else G1 F m r ok (acc ++ [c])
theorem ent1_two {F : Nat} {r : Bs} {x : Bs} {k : Nat} (h : mc F r = some (x, k)) : 2 ≤ k := by
  unfold mc at h
  split at h
  · cases hb : (cI r).2 with
    | true => rw [hb] at h; simp at h; omega
    | false => rw [hb] at h; simp at h
  · cases h
theorem G1_fuel (F : Nat) : ∀ (m m' : Nat) (s : Bs) (ok : Bool) (acc : Bs), s.length < m → s.length < m' → G1 F m s ok acc = G1 F m' s ok acc := by
  intro m
  induction m with
  | zero => intro m' s ok acc h; omega
  | succ m ih =>
    intro m' s ok acc h h';obtain ⟨m'', rfl⟩ : ∃ m'', m' = m'' + 1 := ⟨m' - 1, by omega⟩
    cases s with
    | nil => rfl
    | cons c r =>
      simp only [List.length_cons] at h h'
      simp only [G1]
      by_cases hc : c = 38
      · rw [if_pos hc, if_pos hc]
        cases he : mc F r with
        | none => exact ih _ _ _ _ (by omega) (by omega)
        | some p =>
          have := ent1_two (x := p.1) (k := p.2) he
          exact ih _ _ _ _ (by simp; omega) (by simp; omega)
      · rw [if_neg hc, if_neg hc]
        exact ih _ _ _ _ (by omega) (by omega)
theorem vC (F : Nat) : ∀ (p t : Bs) (m : Nat) (ok : Bool) (acc : Bs), (∀ b ∈ p, b ≠ 38) → p.length + t.length < m → G1 F m (p ++ t) ok acc = G1 F m t ok (acc ++ p) := by
  intro p
  induction p with
  | nil => intro t m ok acc _ _; simp
  | cons c r ih =>
    intro t m ok acc hp hm;obtain ⟨m', rfl⟩ : ∃ m', m = m' + 1 := ⟨m - 1, by omega⟩
    simp only [List.length_cons] at hm
    simp only [List.cons_append, G1]
    rw [if_neg (hp c (by simp)), ih t m' ok _ (fun b hb => hp b (by simp [hb])) (by omega), G1_fuel F m' (m' + 1) t ok _ (by omega) (by omega)]
    simp
theorem oJ (s : Bs) (i : Nat) (h : Go.Lib.indexByte s 38 = (i : Int)) : (∀ b ∈ s.take i, b ≠ 38) ∧ ∃ r, s.drop i = 38 :: r := by
  induction s generalizing i with
  | nil => simp [Go.Lib.indexByte] at h
  | cons c r ih =>
    unfold Go.Lib.indexByte at h
    by_cases hc : c = 38
    · subst hc
      have : i = 0 := by simp at h; omega
      subst this;exact ⟨by simp, r, rfl⟩
    · have hcb : (c == 38) = false := by simpa using hc
      rw [hcb] at h
      by_cases hn : Go.Lib.indexByte r 38 = -1
      · simp [hn] at h
      · have hnb : (Go.Lib.indexByte r 38 == -1) = false := by simpa using hn
        rw [hnb] at h
        have hr := jU r 38
        simp at h
        obtain ⟨j, rfl⟩ : ∃ j, i = j + 1 := ⟨i - 1, by omega⟩;obtain ⟨h1, t, h2⟩ := ih j (by omega);refine ⟨fun b hb => ?_, t, by simpa using h2⟩
        simp only [List.take_succ_cons, List.mem_cons] at hb
        rcases hb with rfl | hb
        · exact hc
        · exact h1 b hb
theorem qj (s : Bs) (h : Go.Lib.indexByte s 38 < 0) : ∀ b ∈ s, b ≠ 38 := by
  induction s with
  | nil => simp
  | cons c r ih =>
    have hr := jU r 38
    unfold Go.Lib.indexByte at h
    split at h
    · omega
    · rename_i hc
      have hc' : c ≠ 38 := by simpa using hc
      split at h
      · rename_i hn
        have hn' : Go.Lib.indexByte r 38 = -1 := by simpa using hn
        intro b hb
        rcases List.mem_cons.1 hb with rfl | hb
        · exact hc'
        · exact ih (by omega) b hb
      · rename_i hn
        have hn' : ¬ Go.Lib.indexByte r 38 = -1 := by simpa using hn
        omega
theorem tf (F : Nat) (hF : 200000 < F) : ∀ (n : Nat) (s : Bs) (ok : Bool) (acc : Bs) (m : Nat), s.length < n → s.length < m → s.length ≤ 100000 → acc.length + 4 * s.length ≤ 1000000 → eo F n (s, ok, acc) = some (G1 F m s ok acc) := by
  intro n
  induction n with
  | zero => intro s ok acc m h; omega
  | succ n ih =>
    intro s ok acc m hn hm hs ha;show fD F (eo F n) s ok acc = _
    unfold fD fC
    obtain ⟨hi1, hi2⟩ := jU s 38
    by_cases h : Go.Lib.indexByte s 38 < 0
    · simp (disch := (first | omega | (simp; done) | (simp; omega))) only [bk, bT, grd_W]
      have := vC F s [] m ok acc (qj s h) (by simpa using hm)
      rw [List.append_nil] at this
      rw [this]
      obtain ⟨m', rfl⟩ : ∃ m', m = m' + 1 := ⟨m - 1, by omega⟩
      rfl
    · obtain ⟨i, hi⟩ : ∃ i : Nat, Go.Lib.indexByte s 38 = i := ⟨(Go.Lib.indexByte s 38).toNat, by omega⟩
      obtain ⟨hp, r, hr⟩ := oJ s i hi
      have il : i < s.length := by omega
      have l1 : (to_ s (i : Int)).length = i := by simp [oD]; omega
      have e2 : dk s (i : Int) = 38 :: r := by rw [lG, hr]
      have hsp : s = s.take i ++ 38 :: r := by rw [← hr, List.take_append_drop]
      have lr : r.length = s.length - i - 1 := by
        have := congrArg List.length hr
        simp at this; omega
      have e1 : to_ s (i : Int) = s.take i := oD
      obtain ⟨x, k, hx, hf⟩ := first_eq F r (by omega) (by omega);obtain ⟨o, kk, ho, hk⟩ := qP F (38 :: r) (by simp) (by simp; omega) (by simp; omega)
      rw [hf] at ho
      have hG : G1 F m s ok acc = G1 F m (38 :: r) ok (acc ++ s.take i) := by
        have := vC F (s.take i) (38 :: r) m ok acc hp (by simp; omega)
        rw [← hsp] at this; exact this
      obtain ⟨m', rfl⟩ : ∃ m', m = m' + 1 := ⟨m - 1, by omega⟩
      have ltk : (s.take i).length = i := by simp; omega
      rw [hG]
      simp (disch := (first | omega | (simp; done) | (simp; omega))) only [bk, hi, bF, fS, grd_W, e2, hf]
      simp only [G1, if_true, mc, hx]
      by_cases hb : (cI r).2 = true ∧ k = true
      · rw [if_pos hb] at ho ⊢
        obtain ⟨hb1, rfl⟩ := hb
        have ho' := am ho
        have hk1 : ((cI r).1.length : Int) + 2 = kk := (Prod.mk.inj ho').2
        have ho1 : x = o := (Prod.mk.inj ho').1
        subst ho1
        rcases hk with rfl | ⟨k3, kl, ol⟩
        · omega
        · simp only [List.length_cons] at kl
          have ef : dk (38 :: r) (((cI r).1.length : Int) + 2) = (38 :: r).drop ((cI r).1.length + 2) := by
            rw [show ((cI r).1.length : Int) + 2 = (((cI r).1.length + 2 : Nat) : Int) from rfl, lG]
          simp only [hb1, cond_true, aY, ef]
          simp (disch := (first | omega | (simp; done) | (simp; omega))) only [bF, grd_W, bk, fS, e1]
          rw [ih _ ok _ m' (by simp; omega) (by simp; omega) (by simp; omega) (by simp; omega)]
      · rw [if_neg hb]
        have e0 : dk (38 :: r) 1 = r := rfl
        have hm1 : (match (some (x, k) : Option (Bs × Bool)) with | some (x, true) => bif (cI r).2 then some (x, (cI r).1.length + 2) else none | _ => none) = none := by
          cases k with
          | false => rfl
          | true =>
            have : (cI r).2 = false := by
              cases hq : (cI r).2 with
              | false => rfl
              | true => exact absurd ⟨hq, rfl⟩ hb
            rw [this]; rfl
        simp only [aY]
        simp (disch := (first | omega | (simp; done) | (simp; omega))) only [decide_true, cond_true, grd_W, bk, fS, e0, e1]
        rw [ih r false _ m' (by omega) (by omega) (by omega) (by simp; omega)]
        have hm2 : mc F r = none := by unfold mc; rw [hx]; exact hm1
        unfold mc at hm2; rw [hx] at hm2
        cases k with
        | false => rfl
        | true => 
          cases hq : (cI r).2 with
          | false => rfl
          | true => exact absurd ⟨hq, rfl⟩ hb
end Go.Pn
namespace Go.Pn
open Go.Pv Go.Av
theorem any_app (b : Bs) : ∀ r : Bs, 0 ≤ Go.Lib.indexAny r amp → Go.Lib.indexAny (r ++ b) amp = Go.Lib.indexAny r amp := by
  intro r
  induction r with
  | nil => intro h; exact absurd h (by decide)
  | cons c r ih =>
    intro h
    rw [List.cons_append, any_cons, any_cons]
    rw [any_cons] at h
    by_cases h1 : c = 38 ∨ c = 59
    · rw [if_pos h1, if_pos h1]
    · rw [if_neg h1] at h
      rw [if_neg h1, if_neg h1]
      by_cases h2 : Go.Lib.indexAny r amp = -1
      · rw [if_pos h2] at h; omega
      · have := ib r amp
        rw [ih (by omega)]
theorem body_app (b r : Bs) (h : (cI r).2 = true) : cI (r ++ b) = cI r ∧ (cI r).1.length + 1 ≤ r.length := by
  have hr := ib r amp
  unfold cI at h ⊢
  by_cases hc : 0 ≤ Go.Lib.indexAny r amp ∧ Go.Lib.indexAny r amp ≤ 10 ∧ r.getD (Go.Lib.indexAny r amp).toNat 0 = 59
  · have hl : (Go.Lib.indexAny r amp).toNat < r.length := by omega
    have hg : (r ++ b).getD (Go.Lib.indexAny r amp).toNat 0 = r.getD (Go.Lib.indexAny r amp).toNat 0 := by
      simp [List.getD, List.getElem?_append_left hl]
    rw [any_app b r hc.1, hg, if_pos hc, List.take_append_of_le_length (by omega), if_pos hc]
    refine ⟨rfl, ?_⟩
    simp only [List.length_take]
    omega
  · rw [if_neg hc] at h; cases h
theorem ns {F : Nat} (b : Bs) {r x : Bs} {k : Nat} (h : mc F r = some (x, k)) : mc F (r ++ b) = some (x, k) ∧ k ≤ r.length + 1 := by
  have hb : (cI r).2 = true := by
    unfold mc at h
    split at h
    · cases hq : (cI r).2 with
      | true => rfl
      | false => rw [hq] at h; cases h
    · cases h
  obtain ⟨e, hl⟩ := body_app b r hb;refine ⟨?_, ?_⟩
  · unfold mc; rw [e]; exact h
  · unfold mc at h
    split at h
    · rw [hb, cond_true] at h
      injection h with h; injection h with h1 h2
      omega
    · cases h
theorem goneG (F : Nat) (hF : 200000 < F) (s : Bs) (hs : s.length ≤ 100000) : lH F s = some (G1 F (s.length + 1) s true []) := tf F hF F s true [] (s.length + 1) (by omega) (by omega) hs (by simp; omega)
theorem decG (F : Nat) (hF : 200000 < F) (s : Bs) (hs : s.length ≤ 100000) : jw F s = some (bif (G1 F (s.length + 1) s true []).2 then ((G1 F (s.length + 1) s true []).1, 0) else ([], 2)) := by
  unfold jw; rw [goneG F hF s hs]
  obtain ⟨o, k⟩ := G1 F (s.length + 1) s true []
  rw [aY]
  cases k <;> rfl
end Go.Pn
namespace Go.Xm
open Go.Pv Go.Av
theorem fx {α : Type} {a b : α} : (bif true then a else b) = a := Eq.symm (Eq.symm rfl)
theorem dR {α : Type} {a b : α} : (bif false then a else b) = b := Eq.symm (Eq.symm rfl)
theorem bnT {α : Type} {a b : α} : (bif !true then a else b) = b := Eq.symm (Eq.symm rfl)
theorem bnF {α : Type} {a b : α} : (bif !false then a else b) = a := Eq.symm (Eq.symm rfl)
theorem qp : (!true) = false := Eq.symm (Eq.symm rfl)
theorem notF : (!false) = true := Eq.symm (Eq.symm rfl)
theorem ands {a b : Bool} (h : (a && b) = true) : a = true ∧ b = true := by cases a <;> cases b <;> first | exact ⟨rfl, rfl⟩ | cases h
theorem gcS {α : Type} {k : Option α} {c : Bool} {n : Nat} (h : n < 4294967281) : eK c (okS n) k = k := by
  cases c
  · exact gl
  · rw [lm, ma h]
theorem gcA {α : Type} {k : Option α} {c : Bool} : eK c (gM xmla_k1) k = k := by
  have : gM xmla_k1 = true := by decide +kernel
  rw [this]; cases c <;> rfl
theorem all8 (p : UInt8 → Bool) (h : ∀ k : Fin 256, p (UInt8.ofNat k.val) = true) (b : UInt8) : p b = true := by
  have := h ⟨b.toNat, b.toNat_lt⟩
  simpa using this
theorem tD (x : UInt8) (r u : Bs) : Go.Lib.index (x :: r) u = if u.isPrefixOf (x :: r) = true then 0 else if Go.Lib.index r u = -1 then -1 else Go.Lib.index r u + 1 := by
  by_cases h : u.isPrefixOf (x :: r) = true
  · simp [Go.Lib.index, h]
  · simp [Go.Lib.index, h]
def cutO : Option (Bs × Bs) → Bs → Bs × Bs × Bool
  | none, s => (s, [], false)
  | some (a, b), _ => (a, b, true)
theorem cut_eq {p : Bs} (hp : p ≠ []) : ∀ s : Bs, Go.Lib.cut s p = cutO (iy p s) s
  | [] => by
    have : p.isEmpty = false := by cases p with | nil => exact absurd rfl hp | cons a b => rfl
    unfold Go.Lib.cut iy
    rw [if_neg hp]
    simp [Go.Lib.index, this, cutO]
  | c :: r => by
    have ih := cut_eq hp r
    have hg := Go.Lib.index_ge r p
    unfold Go.Lib.cut at ih ⊢
    unfold iy
    rw [tD]
    by_cases h : p.isPrefixOf (c :: r) = true
    · rw [if_pos h, if_pos h, if_pos (Int.le_refl 0)]
      simp [cutO]
    · rw [if_neg h, if_neg h]
      by_cases h1 : Go.Lib.index r p = -1
      · rw [if_neg (by omega)] at ih
        rw [if_pos h1, if_neg (by omega)]
        cases e : iy p r with
        | none => rfl
        | some x => rw [e] at ih; obtain ⟨a, b⟩ := x; have := congrArg (fun x => x.2.2) ih; simp [cutO] at this
      · rw [if_pos (by omega)] at ih
        rw [if_neg h1, if_pos (by omega)]
        obtain ⟨n, hn⟩ : ∃ n : Nat, Go.Lib.index r p = (n : Int) := ⟨(Go.Lib.index r p).toNat, by omega⟩
        rw [hn] at ih ⊢
        cases e : iy p r with
        | none => rw [e] at ih; have := congrArg (fun x => x.2.2) ih; simp [cutO] at this
        | some x =>
          obtain ⟨a, b⟩ := x
          rw [e] at ih
          simp only [cutO, Prod.mk.injEq, Int.toNat_natCast, and_true] at ih ⊢
          have e1 : ((n : Int) + 1).toNat = n + 1 := by omega
          rw [e1]
          refine ⟨by rw [List.take_succ_cons, ih.1], ?_⟩
          rw [show n + 1 + p.length = (n + p.length) + 1 by omega, List.drop_succ_cons, ih.2]
theorem vq (s p : Bs) : Go.Lib.hasPrefix s p = p.isPrefixOf s := rfl
theorem kB {F : Nat} {s p : Bs} {o : List Bs} {k : Int} {l : List Tok} (h : p.isPrefixOf s = false) : eE F s o k l p = some (false, s) := by
  unfold eE Go.Lib.trimPrefix
  rw [bk, vq, h]; rfl
theorem jB {F : Nat} {s p : Bs} {o : List Bs} {k : Int} {l : List Tok} (h : p.isPrefixOf s = true) : eE F s o k l p = some (true, s.drop p.length) := by
  unfold eE Go.Lib.trimPrefix
  rw [bk, vq, h]; rfl
theorem oP {F : Nat} : cB F true = some (.ok ()) := Eq.symm (Eq.symm rfl)
theorem nI {F : Nat} : cB F false = some (.pan 2) := Eq.symm (Eq.symm rfl)
def cutR : Option (Bs × Bs) → Res (Bs × Bs)
  | none => .pan 2
  | some x => .ok x
theorem sb {F : Nat} {s p : Bs} {o : List Bs} {k : Int} {l : List Tok} (hp : p ≠ []) (hs : s.length ≤ 1000000) : gB F s o k l p = some (cutR (iy p s)) := by
  unfold gB
  rw [ma (by omega), bk, cut_eq hp]
  cases iy p s with
  | none => simp only [cutO]; rw [nI, cy]; rfl
  | some x => obtain ⟨a, b⟩ := x; simp only [cutO]; rw [oP, cg]; rfl
theorem blk_c (c : UInt8) : ([9, 10, 13, 32] : Bs).contains c = eV c := by
  have := all8 (fun c => ([9, 10, 13, 32] : Bs).contains c == eV c) (by decide +kernel) c
  simpa using this
theorem qD {F : Nat} {s : Bs} {o : List Bs} {k : Int} {l : List Tok} : jl F s o k l = some (decide (((s.dropWhile eV).length : Int) < (s.length : Int)), s.dropWhile eV) := by
  have h : gM ([9, 10, 13, 32] : List UInt8) = true := by decide +kernel
  have e : (fun x => ([9, 10, 13, 32] : Bs).contains x) = eV := funext blk_c
  unfold jl Go.Lib.trimLeftS
  rw [ma (by simp), h, lc, bk, e]
theorem sgn_i (c : UInt8) : decide (0 ≤ Go.Lib.indexByte xmla_k1 c) = jy c := by
  have := all8 (fun c => decide (0 ≤ Go.Lib.indexByte xmla_k1 c) == jy c) (by decide +kernel) c
  simpa using this
theorem sgn_n (c : UInt8) : decide (Go.Lib.indexByte xmla_k1 c < 0) = !jy c := by
  rw [← sgn_i]
  by_cases h : 0 ≤ Go.Lib.indexByte xmla_k1 c
  · rw [decide_eq_true h, decide_eq_false (by omega)]; rfl
  · rw [decide_eq_false h, decide_eq_true (by omega)]; rfl
theorem sgn_c (c : UInt8) : xmla_k1.contains c = jy c := by
  have := all8 (fun c => xmla_k1.contains c == jy c) (by decide +kernel) c
  simpa using this
theorem let_c (c : UInt8) : Go.Lib.contains xmla_k2 [c] = letB c := by
  have := all8 (fun c => Go.Lib.contains xmla_k2 [c] == letB c) (by decide +kernel) c
  simpa using this
theorem tw_at {f : UInt8 → Bool} : ∀ {s : Bs} {i : Nat}, i ≤ s.length → (s.take i).all f = true → (∀ h : i < s.length, f s[i] = false) → s.takeWhile f = s.take i ∧ s.dropWhile f = s.drop i
  | [], i, h, _, _ => by simp
  | c :: s, 0, h, _, g => by
    have := g (by simp)
    rw [List.getElem_cons_zero] at this
    rw [List.takeWhile_cons, List.dropWhile_cons, this]; simp
  | c :: s, i + 1, h, ha, g => by
    rw [List.take_succ_cons, List.all_cons] at ha
    obtain ⟨h1, h2⟩ := ands ha
    have := tw_at (s := s) (i := i) (by simpa using h) h2 fun q => by
      have := g (by simpa using q)
      rw [List.getElem_cons_succ] at this; exact this
    rw [List.takeWhile_cons, List.dropWhile_cons, h1]
    simp [this.1, this.2]
theorem pr (s : Bs) (hs : s.length ≤ 1000000) : ∀ (n i : Nat), s.length - i < n → i ≤ s.length → iz s n (i : Int) = some ((s.drop i).all jy)
  | 0, i, h, _ => by omega
  | n + 1, i, h, hi => by
    show iA s (iz s n) (i : Int) = _
    unfold iA
    by_cases g : i < s.length
    · rw [bT (by omega), ck (by omega), bk, dS g, bk, sgn_n, aN g, List.all_cons]
      cases jy s[i] with
      | false => rw [notF, fx, Bool.false_and]
      | true =>
        rw [qp, dR, cn (by omega), bU, pr s hs n (i + 1) (by omega) (by omega), Bool.true_and]
    · rw [bF (by omega), aU (by omega)]; rfl
theorem inner_eq (F : Nat) (s : Bs) (hs : s.length ≤ 1000000) (hF : s.length < F) : nc F s = some (s.all jy) := pr s hs F 0 (by omega) (by omega)
theorem sy (f : UInt8 → Bool) : ∀ l : Bs, l.dropWhile f = [] ↔ ∀ x ∈ l, f x = true
  | [] => by simp
  | c :: l => by
    have ih := sy f l
    cases h : f c with
    | true => simp [List.dropWhile_cons, h, ih]
    | false => simp [List.dropWhile_cons, h]
theorem trim_sgn (t : Bs) : decide (Go.Lib.trimS t xmla_k1 = []) = t.all jy := by
  unfold Go.Lib.trimS Go.Lib.trimLeftS Go.Lib.trimRightS
  have e : (fun x => xmla_k1.contains x) = jy := funext sgn_c
  rw [e]
  cases h : t.all jy with
  | true =>
    rw [List.all_eq_true] at h
    refine decide_eq_true ?_
    have : t.reverse.dropWhile jy = [] := by
      rw [sy]; intro x hx; exact h x (List.mem_reverse.1 hx)
    rw [this]; rfl
  | false =>
    rw [List.all_eq_false] at h
    obtain ⟨x, hx, hn⟩ := h
    refine decide_eq_false fun q => ?_
    rw [sy] at q
    have hne : t.reverse.dropWhile jy ≠ [] := by
      intro e
      rw [sy] at e
      exact hn (e x (List.mem_reverse.2 hx))
    have := List.head_dropWhile_not jy (l := t.reverse) hne
    have hm := q _ (List.mem_reverse.2 (List.head_mem hne))
    rw [hm] at this
    simp at this
theorem to1 (c : UInt8) (r : Bs) : to_ (c :: r) 1 = [c] := rfl
theorem uo (c : UInt8) (r : Bs) : hY (c :: r) = (letB c && ((c :: r).all jy && decide ((c :: r).length ≤ 60))) := Eq.symm (Eq.symm rfl)
theorem Name_eq (F : Nat) (s : Bs) (hs : s.length ≤ 1000000) (hF : 100 < F) : lX F s = some (hY s) := by
  unfold lX
  have l1 : xmla_k1.length < 4294967281 := by decide +kernel
  have l2 : xmla_k2.length < 4294967281 := by decide +kernel
  simp only [bk, gcS l1, gcS l2, gcS (n := s.length) (by omega), gcA]
  cases s with
  | nil => simp [eK, jE, hY]
  | cons c r =>
    rw [decide_eq_false (p := c :: r = ([] : List UInt8)) (by simp), notF, Bool.true_and, to1, let_c, trim_sgn]
    rw [uo]
    have hp : 0 < (c :: r).length := by simp
    by_cases h : (c :: r).length ≤ 60
    · rw [decide_eq_true h, decide_eq_true (p := (((c :: r).length : Nat) : Int) ≤ 60) (by omega), lm, fS (by omega), Bool.true_and]
      cases hc : letB c with
      | false => rw [Bool.false_and, jC, Bool.false_and, Bool.false_and]
      | true =>
        cases ha : (c :: r).all jy with
        | false => rw [Bool.and_false, jC, Bool.false_and, Bool.false_and, Bool.and_false]
        | true => rw [inner_eq F (c :: r) hs (by omega), ha, fu]; rfl
    · rw [decide_eq_false h, decide_eq_false (p := (((c :: r).length : Nat) : Int) ≤ 60) (by omega), gl, Bool.false_and, Bool.false_and, jC, Bool.false_and, Bool.and_false, Bool.and_false]
def lZ : Option (Bs × Bs) → Res (Bs × Bs)
  | none => .pan 2
  | some x => .ok x
theorem qI (F : Nat) (hF : 100 < F) (s : Bs) (hs : s.length ≤ 1000000) : ∀ (n i : Nat), s.length - i < n → i ≤ s.length → (s.take i).all jy = true → js F s n (i : Int) = some (lZ (fO s))
  | 0, i, h, _, _ => by omega
  | n + 1, i, h, hi, ha => by
    have fin : (∀ h : i < s.length, jy s[i] = false) → hZ F s (i : Int) = some (lZ (fO s)) := fun q => by
      obtain ⟨e1, e2⟩ := tw_at hi ha q
      unfold hZ fO
      rw [fS (by omega), bk, oD, lG, Name_eq F _ (by rw [List.length_take]; omega) hF, bN, e1, e2]
      cases hY (s.take i) with
      | false => rw [nI, cy]; rfl
      | true => rw [oP, cg, fS (by omega), bk]; rfl
    show jt F s (js F s n) (i : Int) = _
    unfold jt
    by_cases g : i < s.length
    · rw [decide_eq_true (p := (i : Int) < (s.length : Int)) (by omega), lm, ck (by omega), bk, dS g, bk, sgn_i, Bool.true_and]
      cases hc : jy s[i] with
      | false => rw [dR]; exact fin fun _ => hc
      | true =>
        rw [fx, cn (by omega), bU]
        refine qI F hF s hs n (i + 1) (by omega) (by omega) ?_
        rw [List.take_succ_eq_append_getElem g, List.all_append, ha, List.all_cons, hc]; rfl
    · rw [decide_eq_false (p := (i : Int) < (s.length : Int)) (by omega), gl, bk, bk, Bool.false_and, dR]
      exact fin fun q => absurd q g
theorem sm {F : Nat} {s : Bs} {o : List Bs} {k : Int} {l : List Tok} (hF : 100 < F) (hs : s.length ≤ 1000000) (hl : s.length < F) : km F s o k l = some (lZ (fO s)) :=
  qI F hF s hs F 0 (by omega) (by omega) (by simp)
end Go.Xm
namespace Go.Xm
open Go.Pv Go.Av
def dec (F : Nat) (s : Bs) : Option Bs := bif (Go.Pn.G1 F (s.length + 1) s true []).2 then some (Go.Pn.G1 F (s.length + 1) s true []).1 else none
def oR {α : Type} : Option α → Res α
  | none => .pan 2
  | some x => .ok x
section
variable {F : Nat} (hF : 1500000 < F)
include hF
theorem rn {s : Bs} (hs : s.length ≤ 100000) : gJ F s = some (oR (dec F s)) := by
  unfold gJ dec
  rw [Go.Pn.decG F (by omega) s hs]
  cases (Go.Pn.G1 F (s.length + 1) s true []).2 with
  | true => rw [fx, fx, aY, decide_eq_true rfl, oP, cg]; rfl
  | false => rw [dR, dR, aY, decide_eq_false (by decide), nI, cy]; rfl
omit hF in
theorem uY {s t : Bs} {o : List Bs} {k : Int} {l : List Tok} (hl : l.length ≤ 1000000) : lW F s o k l t = some (jY t l) := by
  unfold lW jY
  by_cases h : t = []
  · rw [decide_eq_true h, bnT, if_pos h]
  · rw [decide_eq_false h, bnF, if_neg h, dJ (by simp; omega), bk]
omit hF in
theorem at_last {o : List Bs} (h : o ≠ []) : at_ o ((o.length : Int) - 1) = o.getLast h := by
  have hp := List.length_pos_iff.2 h
  rw [show (o.length : Int) - 1 = ((o.length - 1 : Nat) : Int) by omega, dS (by omega), List.getLast_eq_getElem]
def tR : Rx → Res (List Tok × List Bs)
  | .ok x => .ok (x.2.2.2, x.2.1)
  | .no e => .pan e
omit hF in
theorem vf {s n : Bs} {o : List Bs} {k : Nat} {l : List Tok} (ho : o.length ≤ 100) (hl : l.length ≤ 1000000) : kj F s o (k : Int) l n = some (tR (jx n s o k l)) := by
  unfold kj jx
  rw [cn (by omega)]
  by_cases h : o = []
  · subst h
    rw [decide_eq_false (p := 0 ≤ ((([] : List Bs).length : Nat) : Int) - 1) (by simp), gl, gl, bk, Bool.false_and, nI, cy, if_neg (by simp)]; rfl
  · have hp := List.length_pos_iff.2 h
    rw [decide_eq_true (p := 0 ≤ (o.length : Int) - 1) (by omega), lm, lm, ck (by omega), ck (by omega), bk, at_last h, Bool.true_and, List.getLast?_eq_some_getLast h]
    by_cases g : o.getLast h = n
    · rw [decide_eq_true g, oP, cg, fS (by omega), bk, dJ (by simp; omega), bk, if_pos (by rw [g])]
      rw [show (o.length : Int) - 1 = ((o.length - 1 : Nat) : Int) by omega, oD, ← List.dropLast_eq_take]; rfl
    · rw [decide_eq_false g, nI, cy, if_neg (by simpa using g)]; rfl
omit hF in
theorem ib_eq : ∀ s : Bs, (Go.Lib.indexByte s 60 = -1 ∧ (s.takeWhile fun c => decide (c ≠ 60)) = s ∧ (s.dropWhile fun c => decide (c ≠ 60)) = []) ∨
    ∃ i : Nat, Go.Lib.indexByte s 60 = (i : Int) ∧ i < s.length ∧ (s.takeWhile fun c => decide (c ≠ 60)) = s.take i ∧ (s.dropWhile fun c => decide (c ≠ 60)) = s.drop i
  | [] => .inl ⟨rfl, rfl, rfl⟩
  | c :: r => by
    by_cases h : c = 60
    · right; subst h; exact ⟨0, by simp [Go.Lib.indexByte], by simp, by simp, by simp⟩
    · have hb : (c == 60) = false := by simpa using h
      rcases ib_eq r with ⟨h1, h2, h3⟩ | ⟨i, h1, h2, h3, h4⟩
      · left
        refine ⟨by simp [Go.Lib.indexByte, hb, h1], ?_, ?_⟩
        · rw [List.takeWhile_cons, if_pos (by simpa using h), h2]
        · rw [List.dropWhile_cons, if_pos (by simpa using h), h3]
      · right
        refine ⟨i + 1, ?_, by simpa using h2, ?_, ?_⟩
        · have : ¬ ((i : Int) = -1) := by omega
          simp [Go.Lib.indexByte, hb, h1, this]
        · rw [List.takeWhile_cons, if_pos (by simpa using h), h3]; rfl
        · rw [List.dropWhile_cons, if_pos (by simpa using h), h4]; rfl
omit hF in
theorem bl_blk (c : UInt8) : Go.Pn.bl c = eV c := Eq.symm (Eq.symm rfl)
omit hF in
theorem tn : ∀ s : Bs, decide (Go.Pn.trim s = []) = s.all eV
  | [] => rfl
  | c :: r => by
    rw [Go.Pn.trim, List.all_cons, bl_blk]
    cases eV c with
    | true => rw [fx, Bool.true_and, tn r]
    | false => rw [dR, Bool.false_and]; simp
def uS : Rx → Res (Bool × Bs × List Tok)
  | .ok x => .ok (true, x.1, x.2.2.2)
  | .no e => .pan e
theorem vh {s : Bs} {o : List Bs} {k : Nat} {l : List Tok} (i : Nat) (hs : s.length ≤ 100000) (hl : l.length ≤ 1000000) (hi : i ≤ s.length) (h0 : i ≠ 0)
    (e1 : (s.takeWhile fun c => decide (c ≠ 60)) = s.take i) (e2 : (s.dropWhile fun c => decide (c ≠ 60)) = s.drop i) : eU F s o (k : Int) l (i : Int) = some (uS (iM (dec F) s o k l)) := by
  have h1 : (s.take i).length ≤ 100000 := by rw [List.length_take]; omega
  unfold eU iM
  rw [bF (by omega), fS (by omega), bk, fS (by omega), bk, oD, lG, rn hF h1, e1, e2]
  cases dec F (s.take i) with
  | none => simp only [oR]; rw [cy]; rfl
  | some t =>
    simp only [oR]
    rw [cg]
    by_cases ho : o = []
    · subst ho
      rw [bT (by simp), Go.Pn.ent_Trim_eq F _ (by omega) (by omega), bN, tn, if_pos rfl]
      cases (s.take i).all eV with
      | true => rw [oP, cg]; rfl
      | false => rw [nI, cy]; rfl
    · have := List.length_pos_iff.2 ho
      rw [bF (by omega), uY hl, bN, if_neg ho]; rfl
theorem plain_eq {s : Bs} {o : List Bs} {k : Nat} {l : List Tok} (hs : s.length ≤ 100000) (hl : l.length ≤ 1000000) (h0 : s ≠ []) (h : ([60] : Bs).isPrefixOf s = false) :
    gZ F s o (k : Int) l = some (uS (iM (dec F) s o k l)) := by
  have hp := List.length_pos_iff.2 h0
  unfold gZ
  rw [bk]
  rcases ib_eq s with ⟨h1, h2, h3⟩ | ⟨i, h1, h2, h3, h4⟩
  · rw [h1, bT (by omega)]
    exact vh hF s.length hs hl (Nat.le_refl _) (by omega) (by rw [List.take_length]; exact h2) (by rw [List.drop_length]; exact h3)
  · rw [h1, bF (by omega)]
    refine vh hF i hs hl (by omega) (fun e => ?_) h3 h4;subst e
    cases s with
    | nil => exact h0 rfl
    | cons c r =>
      by_cases g : c = 60
      · subst g; simp at h
      · have hb : (c == 60) = false := by simpa using g
        have hg := Go.Lib.indexByte_ge r 60
        rw [Go.Lib.indexByte, hb] at h1
        simp only [Bool.false_eq_true, if_false] at h1
        by_cases q : Go.Lib.indexByte r 60 = -1
        · rw [q] at h1; simp at h1
        · simp only [beq_iff_eq, q, if_false] at h1; omega
omit hF in
theorem plain_no {s : Bs} {o : List Bs} {k : Int} {l : List Tok} (h : ([60] : Bs).isPrefixOf s = true) : gZ F s o k l = some (.ok (false, s, l)) := by
  cases s with
  | nil => cases h
  | cons c r =>
    have hc : c = 60 := by
      by_cases g : c = 60
      · exact g
      · have : (60 == c) = false := by simpa using fun q => g q.symm
        simp [List.isPrefixOf, this] at h
    subst hc
    have : Go.Lib.indexByte (60 :: r) 60 = 0 := by simp [Go.Lib.indexByte]
    unfold gZ
    rw [bk, this, bF (by omega)]
    unfold eU
    rw [bT rfl]
end
end Go.Xm
namespace Go.Xm
open Go.Pv Go.Av
theorem ib_ge (s : Bs) : -1 ≤ Go.Lib.index s [60] := Go.Lib.index_ge s [60]
theorem vy : ∀ s : Bs, Go.Lib.contains s [60] = decide (60 ∈ s)
  | [] => by simp [Go.Lib.contains, Go.Lib.index]
  | c :: r => by
    have ih := vy r
    have hg := ib_ge r
    unfold Go.Lib.contains at ih ⊢
    rw [tD]
    by_cases h : c = 60
    · subst h; simp
    · have hb : (60 == c) = false := by simpa using fun q => h q.symm
      have hm : (60 ∈ c :: r) ↔ 60 ∈ r := by rw [List.mem_cons]; exact ⟨fun q => q.elim (fun e => absurd e.symm h) id, .inr⟩
      rw [if_neg (by simp [List.isPrefixOf, hb]), decide_eq_decide.2 hm, ← ih]
      by_cases g : Go.Lib.index r [60] = -1
      · rw [if_pos g, g]
      · rw [if_neg g]; exact decide_eq_decide.2 (by omega)
def attrR : Option (At × Bs) → Res (Bs × Bs × Bs)
  | none => .pan 2
  | some (a, r) => .ok (a.1, a.2, r)
theorem qK (F : Nat) (as_ : List At) (n v : Bs) (hl : as_.length ≤ 1000000) : ∀ (m i : Nat), as_.length - i < m → i ≤ as_.length → ∃ j : Int, dW F as_ n v m (i : Int) = some j ∧ decide (0 ≤ j) = (as_.drop i).any fun x => decide (x.1 = n)
  | 0, i, h, _ => by omega
  | m + 1, i, h, hi => by
    show ∃ j : Int, fe F as_ n v (dW F as_ n v m) (i : Int) = some j ∧ _
    unfold fe
    by_cases g : i < as_.length
    · rw [bT (by omega), ck (by omega), bk, dS g, aN g, List.any_cons]
      unfold nd
      rw [bN]
      by_cases e : n = as_[i].1
      · rw [decide_eq_true e, fx, decide_eq_true e.symm, Bool.true_or]
        exact ⟨_, rfl, decide_eq_true (by omega)⟩
      · rw [decide_eq_false e, dR, cn (by omega), bU, decide_eq_false (fun q => e q.symm), Bool.false_or]
        exact qK F as_ n v hl m (i + 1) (by omega) (by omega)
    · rw [bF (by omega), aU (by omega)]
      exact ⟨-1, rfl, rfl⟩
theorem cont_eq (F : Nat) (as_ : List At) (n v : Bs) (hl : as_.length ≤ 1000000) (hF : as_.length < F) : fg F as_ n v = some (as_.any fun x => decide (x.1 = n)) := by
  obtain ⟨j, h1, h2⟩ := qK F as_ n v hl F 0 (by omega) (by omega)
  unfold fg jc
  show bnd (dW F as_ n v F ((0 : Nat) : Int)) _ = _
  rw [h1, bN, h2, List.drop_zero]
section
variable {F : Nat} (hF : 1500000 < F)
include hF
theorem attr_j {s : Bs} {o : List Bs} {k : Int} {l : List Tok} {x : Bs × Bs} (q : UInt8) (hs : s.length ≤ 100000) : gu F o k l x [q] s = some (attrR (lv (dec F) x.1 q s)) := by
  unfold gu lv
  rw [sb (by simp) (by omega)]
  cases e : iy [q] s with
  | none => simp only [cutR]; rw [cy]; rfl
  | some y =>
    obtain ⟨raw, r⟩ := y
    have hl := congrArg List.length (jA (by simp) e)
    simp only [List.length_append] at hl
    simp only [cutR]
    rw [cg, ma (by simp; omega), bk]
    simp only []
    rw [vy]
    by_cases g : 60 ∈ raw
    · rw [decide_eq_true g, qp, nI, cy, if_pos g]; rfl
    · rw [decide_eq_false g, notF, oP, cg, if_neg g, rn hF (by omega)]
      cases dec F raw with
      | none => simp only [oR]; rw [cy]; rfl
      | some t => simp only [oR]; rw [cg]; rfl
theorem attr_eq {s : Bs} {o : List Bs} {k : Int} {l : List Tok} (hs : s.length ≤ 100000) : lh F s o k l = some (attrR (jb (dec F) s)) := by
  unfold lh jb
  rw [sm (by omega) (by omega) (by omega)]
  cases e : fO s with
  | none => simp only [lZ]; rw [cy]; rfl
  | some y =>
    obtain ⟨n, r⟩ := y
    have hl := congrArg List.length (fv e).1
    rw [List.length_append] at hl
    simp only [lZ]
    rw [cg]
    simp only []
    by_cases h1 : ([61, 34] : Bs).isPrefixOf r = true
    · rw [jB h1, aY, bnT, if_pos h1]
      exact attr_j hF 34 (by simp; omega)
    · rw [kB (eq_false_of_ne_true h1), aY, bnF, if_neg h1]
      by_cases h2 : ([61, 39] : Bs).isPrefixOf r = true
      · rw [jB h2, aY, oP, cg, if_pos h2]
        exact attr_j hF 39 (by simp; omega)
      · rw [kB (eq_false_of_ne_true h2), aY, nI, cy, if_neg h2]; rfl
abbrev ER := Bool × Bs × Int × List Tok × List Bs
def tT : Rx → Res ER
  | .ok x => .ok (true, x.1, (x.2.2.1 : Int), x.2.2.2, x.2.1)
  | .no e => .pan e
omit hF in
theorem vi {s n v : Bs} {as_ : List At} {em : Bool} {o : List Bs} {k : Nat} {l : List Tok} (ho : o.length ≤ 20) (hl : l.length ≤ 999000) :
    eu F o l (n, v) em s as_ (k : Int) = some (tT (if 20 ≤ o.length then .no 5 else if em = true then .ok (s, o, k, (l ++ [(0, n, [], as_)]) ++ [(1, n, [], [])]) else .ok (s, o ++ [n], k, l ++ [(0, n, [], as_)]))) := by
  have hn : (o ++ [n]).length = o.length + 1 := by simp
  unfold eu fX
  dsimp only
  rw [dJ (by simp; omega), bk]
  by_cases h : 20 ≤ o.length
  · rw [bT (by omega), if_pos h]; rfl
  · rw [bF (by omega), if_neg h]
    unfold fY fZ
    dsimp only
    rw [dJ (by simp; omega), bk]
    cases em with
    | false => rw [dR, if_neg (by decide)]; rfl
    | true =>
      rw [fx, if_pos rfl, vf (by omega) (by simp; omega)]
      unfold jx
      rw [if_pos (by simp)]
      simp only [tR]
      rw [cg]
      simp [fj, tT]
omit hF in
theorem vj {s n v : Bs} {as_ : List At} {em : Bool} {o : List Bs} {k : Nat} {l : List Tok} (ho : o.length ≤ 20) (hl : l.length ≤ 999000) (hk : k ≤ 1) :
    er F o (k : Int) l (n, v) em s as_ = some (tT (lu n as_ em s o k l)) := by
  unfold er lu
  by_cases h : o = []
  · subst h
    rw [bT (by simp), cn (by omega)]
    by_cases g : k = 0
    · subst g
      rw [decide_eq_true (p := ((0 : Nat) : Int) + 1 = 1) (by omega), oP, cg, if_neg (by simp), if_pos rfl]
      exact vi (k := 1) (by simp) hl
    · rw [decide_eq_false (p := (k : Int) + 1 = 1) (by omega), nI, cy, if_pos ⟨rfl, g⟩]; rfl
  · have := List.length_pos_iff.2 h
    rw [bF (by omega), if_neg (fun q => h q.1), if_neg h]
    exact vi ho hl
def elemP' (F : Nat) (n : Bs) (o : List Bs) (k : Nat) (l : List Tok) : Option (List At × Bool × Bs) → Rx
  | none => .no 2
  | some (as_, em, r) => lu n as_ em r o k l
theorem rk {n v : Bs} {o : List Bs} {k : Nat} {l : List Tok} (ho : o.length ≤ 20) (hl : l.length ≤ 999000) (hk : k ≤ 1) : ∀ (m : Nat) (as_ : List At) (s : Bs), s.length < m → as_.length + s.length ≤ 100000 →
    ga F o (k : Int) l (n, v) m (as_, s) = some (tT (elemP' F n o k l (eL (dec F) (s.length + 1) as_ s)))
  | 0, as_, s, h, _ => by omega
  | m + 1, as_, s, h, hs => by
    show gb F o (k : Int) l (n, v) (ga F o (k : Int) l (n, v) m) as_ s = _
    have hd := oO eV s
    unfold gb eL
    rw [qD, aY]
    by_cases h1 : ([62] : Bs).isPrefixOf (s.dropWhile eV) = true
    · rw [jB h1, aY, fx, if_pos h1]
      exact vj ho hl hk
    · rw [kB (eq_false_of_ne_true h1), aY, dR, if_neg h1]
      by_cases h2 : ([47, 62] : Bs).isPrefixOf (s.dropWhile eV) = true
      · rw [jB h2, aY, fx, if_pos h2]
        exact vj ho hl hk
      · rw [kB (eq_false_of_ne_true h2), aY, dR, if_neg h2]
        by_cases h3 : (s.dropWhile eV).length = s.length
        · rw [if_pos h3, decide_eq_false (by omega), nI, cy]; rfl
        · rw [if_neg h3, decide_eq_true (by omega), oP, cg, attr_eq hF (by omega)]
          cases e : jb (dec F) (s.dropWhile eV) with
          | none => simp only [attrR]; rw [cy]; rfl
          | some y =>
            obtain ⟨a, r⟩ := y
            have hr := lR e
            simp only [attrR]
            rw [cg, cont_eq F as_ _ _ (by omega) (by omega), bN]
            cases hc : as_.any fun x => decide (x.1 = a.1) with
            | true => rw [qp, nI, cy, if_pos rfl]; rfl
            | false =>
              rw [notF, oP, cg, if_neg (by decide), dJ (by simp; omega), bk]
              have := rk (n := n) (v := v) ho hl hk m (as_ ++ [a]) r (by omega) (by simp; omega)
              rw [oz (k := s.length) (m := r.length + 1) (by omega) (by omega)]
              exact this
theorem wQ {s : Bs} {o : List Bs} {k : Nat} {l : List Tok} (hs : s.length ≤ 100000) (ho : o.length ≤ 20) (hl : l.length ≤ 999000) (hk : k ≤ 1) (h : ([60] : Bs).isPrefixOf s = true) :
    gt F s o (k : Int) l = some (tT (lf (dec F) (s.drop 1) o k l)) := by
  unfold gt lf
  rw [jB h, aY, bnT, sm (by omega) (by simp; omega) (by simp; omega)]
  show fq (some (lZ (fO (s.drop 1)))) _ = _
  cases e : fO (s.drop 1) with
  | none => simp only [lZ]; rw [cy]; rfl
  | some y =>
    obtain ⟨n, r⟩ := y
    have hr := congrArg List.length (fv e).1
    rw [List.length_append, List.length_drop] at hr
    simp only [lZ]
    rw [cg]
    refine Eq.trans (rk hF ho hl hk F [] r (by omega) (by simp; omega)) ?_
    cases eL (dec F) (r.length + 1) [] r with
    | none => rfl
    | some z => rfl
def pS : Rx → Res (Bool × Bs)
  | .ok x => .ok (true, x.1)
  | .no e => .pan e
def endR : Rx → Res (Bool × Bs × List Tok × List Bs)
  | .ok x => .ok (true, x.1, x.2.2.2, x.2.1)
  | .no e => .pan e
omit hF in
theorem sg {s p q : Bs} {o : List Bs} {k : Nat} {l : List Tok} (hs : s.length ≤ 1000000) (hp : p ≠ []) : (fq (gB F s o (k : Int) l p) fun x14 => some (Res.ok (true, x14.2))) = some (pS (hH p s o k l)) := by
  rw [sb hp hs]
  unfold hH
  cases iy p s with
  | none => simp only [cutR]; rw [cy]; rfl
  | some y => simp only [cutR]; rw [cg]; rfl
omit hF in
theorem data_eq {s : Bs} {o : List Bs} {k : Nat} {l : List Tok} (hs : s.length ≤ 1000000) (hl : l.length ≤ 1000000) (h : ([60, 33, 91, 67, 68, 65, 84, 65, 91] : Bs).isPrefixOf s = true) :
    kn F s o (k : Int) l = some (uS (mb (s.drop 9) o k l)) := by
  unfold kn mb
  rw [jB h, aY, bnT, sb (by simp) (by simp; omega)]
  show fq (some (cutR (iy [93, 93, 62] (s.drop 9)))) _ = _
  cases iy [93, 93, 62] (s.drop 9) with
  | none => simp only [cutR]; rw [cy]; rfl
  | some y =>
    obtain ⟨t, r⟩ := y
    simp only [cutR]
    rw [cg]
    by_cases ho : o = []
    · subst ho
      rw [decide_eq_false (by simp), nI, cy, if_pos rfl]; rfl
    · have := List.length_pos_iff.2 ho
      rw [decide_eq_true (by omega), oP, cg, uY hl, bN, if_neg ho]; rfl
theorem end_eq {s : Bs} {o : List Bs} {k : Nat} {l : List Tok} (hs : s.length ≤ 100000) (ho : o.length ≤ 20) (hl : l.length ≤ 999000) (h : ([60, 47] : Bs).isPrefixOf s = true) :
    gI F s o (k : Int) l = some (endR (oQ (s.drop 2) o k l)) := by
  unfold gI oQ
  rw [jB h, aY, bnT, sm (by omega) (by simp; omega) (by simp; omega)]
  show fq (some (lZ (fO (s.drop 2)))) _ = _
  cases fO (s.drop 2) with
  | none => simp only [lZ]; rw [cy]; rfl
  | some y =>
    obtain ⟨n, r⟩ := y
    simp only [lZ]
    rw [cg, qD, aY]
    simp only []
    by_cases h1 : ([62] : Bs).isPrefixOf (r.dropWhile eV) = true
    · rw [jB h1, aY, oP, cg, if_pos h1, vf (by omega) (by omega)]
      show fq (some (tR (jx n ((r.dropWhile eV).drop 1) o k l))) _ = _
      unfold jx
      by_cases g : o.getLast? = some n
      · rw [if_pos g]; simp only [tR]; rw [cg]; rfl
      · rw [if_neg g]; simp only [tR]; rw [cy]; rfl
    · rw [kB (eq_false_of_ne_true h1), aY, nI, cy, if_neg h1]; rfl
def stepR : Rx → Res (Bs × Int × List Tok × List Bs)
  | .ok x => .ok (x.1, (x.2.2.1 : Int), x.2.2.2, x.2.1)
  | .no e => .pan e
omit hF in
theorem kJ {p s : Bs} {o : List Bs} {k : Nat} {l : List Tok} {x : Sx} (h : hH p s o k l = .ok x) : x.2 = (o, k, l) := by
  unfold hH at h
  split at h
  · cases h
  · cases h; rfl
theorem step_eq {s : Bs} {o : List Bs} {k : Nat} {l : List Tok} (h0 : s ≠ []) (hs : s.length ≤ 100000) (ho : o.length ≤ 20) (hl : l.length ≤ 999000) (hk : k ≤ 1) :
    lg F s o (k : Int) l = some (stepR (eT (dec F) s o k l)) := by
  unfold lg eT
  by_cases h1 : ([60] : Bs).isPrefixOf s = true
  · rw [plain_no h1, cg, dR, if_neg (by rw [h1]; decide)]
    simp only []
    unfold ia
    by_cases h2 : ([60, 33, 45, 45] : Bs).isPrefixOf s = true
    · rw [jB h2, aY, bnT, sg (q := []) (by simp; omega) (by simp), if_pos h2]
      show fq (some (pS (hH [45, 45, 62] (s.drop 4) o k l))) _ = _
      cases e : hH [45, 45, 62] (s.drop 4) o k l with
      | no e => rfl
      | ok x =>
        have := kJ e
        obtain ⟨a, b⟩ := x
        simp only at this; subst this
        simp only [pS]; rw [cg]; rfl
    · rw [kB (eq_false_of_ne_true h2), aY, bnF, cg, dR, if_neg h2]
      simp only []
      unfold oB
      by_cases h3 : ([60, 63] : Bs).isPrefixOf s = true
      · rw [jB h3, aY, bnT, sg (q := []) (by simp; omega) (by simp), if_pos h3]
        show fq (some (pS (hH [63, 62] (s.drop 2) o k l))) _ = _
        cases e : hH [63, 62] (s.drop 2) o k l with
        | no e => rfl
        | ok x =>
          have := kJ e
          obtain ⟨a, b⟩ := x
          simp only at this; subst this
          simp only [pS]; rw [cg]; rfl
      · rw [kB (eq_false_of_ne_true h3), aY, bnF, cg, dR, if_neg h3]
        simp only []
        by_cases h4 : ([60, 33, 91, 67, 68, 65, 84, 65, 91] : Bs).isPrefixOf s = true
        · rw [data_eq (by omega) (by omega) h4, if_pos h4]
          unfold mb
          cases iy [93, 93, 62] (s.drop 9) with
          | none => rfl
          | some y =>
            obtain ⟨t, r⟩ := y
            simp only []
            by_cases g : o = []
            · rw [if_pos g]; rfl
            · rw [if_neg g]; rfl
        · rw [if_neg h4]
          unfold kn
          rw [kB (eq_false_of_ne_true h4), aY, bnF, cg, dR]
          simp only []
          unfold oA
          by_cases h5 : ([60, 33] : Bs).isPrefixOf s = true
          · rw [jB h5, aY, bnT, sg (q := []) (by simp; omega) (by simp), if_pos h5]
            show fq (some (pS (hH [62] (s.drop 2) o k l))) _ = _
            cases e : hH [62] (s.drop 2) o k l with
            | no e => rfl
            | ok x =>
              have := kJ e
              obtain ⟨a, b⟩ := x
              simp only at this; subst this
              simp only [pS]; rw [cg]; rfl
          · rw [kB (eq_false_of_ne_true h5), aY, bnF, cg, dR, if_neg h5]
            simp only []
            by_cases h6 : ([60, 47] : Bs).isPrefixOf s = true
            · rw [end_eq hF hs ho hl h6, if_pos h6]
              unfold oQ
              cases fO (s.drop 2) with
              | none => rfl
              | some y =>
                obtain ⟨n, r⟩ := y
                simp only []
                by_cases g : ([62] : Bs).isPrefixOf (r.dropWhile eV) = true
                · rw [if_pos g]
                  unfold jx
                  by_cases g2 : o.getLast? = some n
                  · rw [if_pos g2]; rfl
                  · rw [if_neg g2]; rfl
                · rw [if_neg g]; rfl
            · rw [if_neg h6]
              unfold gI
              rw [kB (eq_false_of_ne_true h6), aY, bnF, cg, dR]
              simp only []
              rw [wQ hF hs ho hl hk h1]
              cases lf (dec F) (s.drop 1) o k l with
              | no e => rfl
              | ok x => rfl
  · rw [plain_eq hF hs (by omega) h0 (eq_false_of_ne_true h1), if_pos (eq_false_of_ne_true h1)]
    unfold iM
    cases dec F (s.takeWhile fun c => decide (c ≠ 60)) with
    | none => rfl
    | some t =>
      simp only []
      by_cases g : o = []
      · rw [if_pos g]
        cases (s.takeWhile fun c => decide (c ≠ 60)).all eV with
        | true => rw [if_pos rfl]; rfl
        | false => rw [if_neg (by decide)]; rfl
      · rw [if_neg g]; rfl
end
end Go.Xm
namespace Go.Xm
open Go.Pv Go.Av
theorem qB (t : Bs) (l : List Tok) : (jY t l).length ≤ l.length + 1 := by
  unfold jY; split <;> simp
def Kp (o : List Bs) (k : Nat) (l : List Tok) (m : Nat) : Prop := o.length ≤ 20 ∧ k ≤ 1 ∧ l.length ≤ m
theorem sf {p s : Bs} {o : List Bs} {k : Nat} {l : List Tok} {m : Nat} {x : Sx} (h : Kp o k l m) (e : hH p s o k l = .ok x) : Kp x.2.1 x.2.2.1 x.2.2.2 (m + 2) := by
  have := kJ e
  obtain ⟨a, b⟩ := x
  simp only at this; subst this
  obtain ⟨h1, h2, h3⟩ := h;exact ⟨h1, h2, by simp only; omega⟩
theorem vd {d : Bs → Option Bs} {s : Bs} {o : List Bs} {k : Nat} {l : List Tok} {m : Nat} {x : Sx} (h : Kp o k l m) (e : eT d s o k l = .ok x) : Kp x.2.1 x.2.2.1 x.2.2.2 (m + 2) := by
  obtain ⟨h1, h2, h3⟩ := id h
  unfold eT at e
  split at e
  · unfold iM at e
    split at e
    · cases e
    · split at e
      · split at e
        · cases e; exact ⟨h1, h2, by simp only; omega⟩
        · cases e
      · rename_i t _ _
        cases e
        have := qB t l
        exact ⟨h1, h2, by simp only; omega⟩
  split at e
  · exact sf h e
  split at e
  · exact sf h e
  split at e
  · unfold mb at e
    split at e
    · cases e
    · split at e
      · cases e
      · rename_i t r _ _
        cases e
        have := qB t l
        exact ⟨h1, h2, by simp only; omega⟩
  split at e
  · exact sf h e
  split at e
  · unfold oQ at e
    split at e
    · cases e
    · split at e
      · unfold jx at e
        split at e
        · cases e; exact ⟨by simp only [List.length_dropLast]; omega, h2, by simp only [List.length_append, List.length_singleton]; omega⟩
        · cases e
      · cases e
  · unfold lf at e
    split at e
    · cases e
    · split at e
      · cases e
      · unfold lu at e
        split at e
        · cases e
        · rename_i g
          split at e
          · cases e
          · have hk : (if o = [] then k + 1 else k) ≤ 1 := by
              by_cases q : o = []
              · rw [if_pos q]
                have : k = 0 := Classical.byContradiction fun z => g ⟨q, z⟩
                omega
              · rw [if_neg q]; exact h2
            split at e
            · cases e; exact ⟨h1, hk, by simp; omega⟩
            · cases e; exact ⟨by simp; omega, hk, by simp; omega⟩
def tokE : Rx → List Tok × Int
  | .ok (_, o, k, l) => if o = [] ∧ 0 < k then (l, 0) else ([], 2)
  | .no e => ([], e)
theorem nu (d : Bs → Option Bs) (s : Bs) : hO d s = tokE (ix d (s.length + 1) (s, [], 0, [])) := by
  unfold hO
  cases ix d (s.length + 1) (s, [], 0, []) with
  | ok x => rfl
  | no e => rfl
theorem tp {F : Nat} (hF : 1500000 < F) : ∀ (n m : Nat) (s : Bs) (o : List Bs) (k : Nat) (l : List Tok), s.length < n → s.length < m → s.length ≤ 100000 → Kp o k l (900000 - 2 * s.length) →
    gQ F n (s, o, (k : Int), l) = some (tokE (ix (dec F) m (s, o, k, l)))
  | 0, _, s, o, k, l, h, _, _, _ => by omega
  | _, 0, s, o, k, l, _, h, _, _ => by omega
  | n + 1, m + 1, s, o, k, l, hn, hm, hs, hk => by
    show gR F (gQ F n) s o (k : Int) l = _
    unfold gR ix
    by_cases h0 : s = []
    · rw [decide_eq_true h0, bnT, if_pos h0]
      unfold gP tokE
      simp only []
      by_cases ho : o = []
      · subst ho
        by_cases g : 0 < k
        · rw [decide_eq_true (by simp), decide_eq_true (by omega), Bool.and_self, oP, vz, if_pos ⟨rfl, g⟩]
        · rw [decide_eq_true (by simp), decide_eq_false (p := (0 : Int) < (k : Int)) (by omega), Bool.and_false, nI, pM, if_neg fun q => g q.2]
      · have := List.length_pos_iff.2 ho
        rw [decide_eq_false (p := (o.length : Int) = 0) (by omega), Bool.false_and, nI, pM, if_neg fun q => ho q.1]
    · rw [decide_eq_false h0, bnF, if_neg h0, step_eq hF h0 hs hk.1 (by have := hk.2.2; omega) hk.2.1]
      cases e : eT (dec F) s o k l with
      | no e => simp only [stepR]; rw [pM]; rfl
      | ok x =>
        obtain ⟨s', o', k', l'⟩ := x
        have h1 := ni h0 e
        have h2 := vd hk e
        simp only at h1 h2
        simp only [stepR]
        rw [vz]
        simp only []
        exact tp hF n m s' o' k' l' (by omega) (by omega) (by omega) ⟨h2.1, h2.2.1, by have := h2.2.2; omega⟩
theorem ss {F : Nat} (hF : 1500000 < F) {s : Bs} (hs : s.length ≤ 100000) : eM F s = some (hO (dec F) s) := by
  unfold eM
  rw [bF (by omega), nu]
  exact tp hF F (s.length + 1) s [] 0 [] (by omega) (by omega) hs ⟨by simp, by omega, by simp⟩
theorem tok_over {F : Nat} {s : Bs} (hs : 100000 < s.length) : eM F s = some ([], 4) := by
  unfold eM
  rw [bT (by omega)]
theorem run_kp {d : Bs → Option Bs} : ∀ {n : Nat} {s : Bs} {o : List Bs} {k : Nat} {l : List Tok} {m : Nat} {x : Sx}, s.length ≤ m → Kp o k l (900000 - 2 * m) → m ≤ 100000 → ix d n (s, o, k, l) = .ok x → x.2.2.2.length ≤ 900000
  | 0, s, o, k, l, m, x, _, _, _, h => by cases h
  | n + 1, s, o, k, l, m, x, hs, hk, hm, h => by
    unfold ix at h
    by_cases h0 : s = []
    · rw [if_pos h0] at h; cases h; have := hk.2.2; simp only; omega
    · rw [if_neg h0] at h
      cases e : eT d s o k l with
      | no e' => rw [e] at h; cases h
      | ok y =>
        rw [e] at h
        obtain ⟨s', o', k', l'⟩ := y
        have h1 := ni h0 e
        have h2 := vd hk e
        have hp := List.length_pos_iff.2 h0
        simp only at h1 h2 h
        exact run_kp (m := m - 1) (by omega) ⟨h2.1, h2.2.1, by have := h2.2.2; omega⟩ (by omega) h
theorem tok_len {d : Bs → Option Bs} {s : Bs} (hs : s.length ≤ 100000) : (hO d s).1.length ≤ 900000 := by
  rw [nu]
  cases e : ix d (s.length + 1) (s, [], 0, []) with
  | no e => simp [tokE]
  | ok x =>
    have := run_kp (m := s.length) (Nat.le_refl _) ⟨by simp, by omega, by simp⟩ hs e
    obtain ⟨s', o', k', l'⟩ := x;show (if o' = [] ∧ 0 < k' then (l', (0 : Int)) else ([], 2)).1.length ≤ _
    split
    · exact this
    · simp
theorem tok_err {d : Bs → Option Bs} {s : Bs} (h : (hO d s).2 ≠ 0) : (hO d s).1 = [] := by
  rw [nu] at h ⊢
  cases e : ix d (s.length + 1) (s, [], 0, []) with
  | no e => rfl
  | ok x =>
    obtain ⟨s', o', k', l'⟩ := x
    rw [e] at h
    change (if o' = [] ∧ 0 < k' then (l', (0 : Int)) else ([], 2)).2 ≠ 0 at h
    show (if o' = [] ∧ 0 < k' then (l', (0 : Int)) else ([], 2)).1 = []
    by_cases g : o' = [] ∧ 0 < k'
    · rw [if_pos g] at h; exact absurd rfl h
    · rw [if_neg g]
end Go.Xm
namespace Go.Xm
open Go.Pv Go.Av
instance decBL : DecidableEq (Bs × List At) := instDecidableEqProd
instance decBBL : DecidableEq (Bs × Bs × List At) := instDecidableEqProd
instance decTok : DecidableEq Tok := instDecidableEqProd
theorem awake : iJ 2000000 = some true := by decide +kernel
theorem se {p s : Bs} {o : List Bs} {k : Nat} {l : List Tok} {e : Int} (h : hH p s o k l = .no e) : e ≠ 0 := by
  unfold hH at h
  split at h <;> (cases h; try decide)
theorem step_no {d : Bs → Option Bs} {s : Bs} {o : List Bs} {k : Nat} {l : List Tok} {e : Int} (h : eT d s o k l = .no e) : e ≠ 0 := by
  unfold eT at h
  split at h
  · unfold iM at h
    split at h
    · cases h; decide
    · split at h
      · split at h <;> (cases h; try decide)
      · cases h
  split at h
  · exact se h
  split at h
  · exact se h
  split at h
  · unfold mb at h
    split at h
    · cases h; decide
    · split at h <;> (cases h; try decide)
  split at h
  · exact se h
  split at h
  · unfold oQ at h
    split at h
    · cases h; decide
    · split at h
      · unfold jx at h
        split at h <;> (cases h; try decide)
      · cases h; decide
  · unfold lf at h
    split at h
    · cases h; decide
    · split at h
      · cases h; decide
      · unfold lu at h
        split at h
        · cases h; decide
        · split at h
          · cases h; decide
          · split at h <;> cases h
theorem run_no {d : Bs → Option Bs} : ∀ {n : Nat} {x : Sx} {e : Int}, ix d n x = .no e → e ≠ 0
  | 0, x, e, h => by cases h; decide
  | n + 1, (s, o, k, l), e, h => by
    unfold ix at h
    split at h
    · cases h
    · cases g : eT d s o k l with
      | no e' => rw [g] at h; cases h; exact step_no g
      | ok y => rw [g] at h; exact run_no h
theorem vt {α : Type} [DecidableEq α] (a b : α) (l m : List α) : decide (a :: l = b :: m) = (decide (a = b) && decide (l = m)) := by
  by_cases h : a = b
  · by_cases g : l = m
    · rw [decide_eq_true h, decide_eq_true g, decide_eq_true (by rw [h, g])]; rfl
    · rw [decide_eq_true h, decide_eq_false g, decide_eq_false fun q => g (List.cons.inj q).2]; rfl
  · rw [decide_eq_false h, decide_eq_false fun q => h (List.cons.inj q).1]; rfl
theorem oX {α β : Type} [DecidableEq α] [DecidableEq β] (a b : α × β) : decide (a = b) = (decide (a.1 = b.1) && decide (a.2 = b.2)) := by
  obtain ⟨a1, a2⟩ := a;obtain ⟨b1, b2⟩ := b
  by_cases h : a1 = b1
  · by_cases g : a2 = b2
    · rw [decide_eq_true (by rw [h, g] : (a1, a2) = (b1, b2)), decide_eq_true (p := (a1, a2).1 = (b1, b2).1) h, decide_eq_true (p := (a1, a2).2 = (b1, b2).2) g]; rfl
    · rw [decide_eq_false (p := (a1, a2) = (b1, b2)) fun q => g (congrArg Prod.snd q), decide_eq_false (p := (a1, a2).2 = (b1, b2).2) g, Bool.and_false]
  · rw [decide_eq_false (p := (a1, a2) = (b1, b2)) fun q => h (congrArg Prod.fst q), decide_eq_false (p := (a1, a2).1 = (b1, b2).1) h, Bool.false_and]
theorem len_ne {α : Type} [DecidableEq α] {a b : List α} (h : a.length ≠ b.length) : decide (a = b) = false := decide_eq_false fun q => h (by rw [q])
theorem pw (a b : List At) (hl : a.length = b.length) (ha : a.length ≤ 1000000) : ∀ (n i : Nat), a.length - i < n → i ≤ a.length → iG a b n (i : Int) = some (decide (a.drop i = b.drop i))
  | 0, i, h, _ => by omega
  | n + 1, i, h, hi => by
    show iH a b (iG a b n) (i : Int) = _
    unfold iH
    by_cases g : i < a.length
    · rw [bT (by omega), ck (by omega), bk, ck (by omega), bk, dS g, dS (by omega : i < b.length), aN g, aN (by omega : i < b.length), vt, oX]
      cases decide (a[i].1 = (b[i]'(by omega)).1) && decide (a[i].2 = (b[i]'(by omega)).2) with
      | false => rw [bnF, Bool.false_and]
      | true => rw [bnT, cn (by omega), bU, pw a b hl ha n (i + 1) (by omega) (by omega), Bool.true_and]
    · rw [bF (by omega), aU (by omega), aU (by omega)]; rfl
theorem equal_eq (F : Nat) (a b : List At) (ha : a.length ≤ 1000000) (hF : a.length < F) : lF F a b = some (decide (a = b)) := by
  unfold lF
  by_cases h : a.length = b.length
  · rw [decide_eq_true (by omega), bnT]
    exact pw a b h ha F 0 (by omega) (by omega)
  · rw [decide_eq_false (by omega), bnF, len_ne h]
def AtS (l : List Tok) (m : Nat) : Prop := ∀ t ∈ l, t.2.2.2.length ≤ m
theorem eq_tok (a b : Tok) : decide (a = b) = (((decide (a.1 = b.1) && decide (a.2.1 = b.2.1)) && decide (a.2.2.1 = b.2.2.1)) && decide (a.2.2.2 = b.2.2.2)) := by
  rw [oX, oX a.2 b.2, oX a.2.2 b.2.2, Bool.and_assoc, Bool.and_assoc]
theorem qE (F : Nat) (a b : List Tok) (hl : a.length = b.length) (ha : a.length ≤ 1000000) (hm : AtS a 1000000) (hF : 1000000 < F) : ∀ (n i : Nat), a.length - i < n → i ≤ a.length → dX F a b n (i : Int) = some (decide (a.drop i = b.drop i))
  | 0, i, h, _ => by omega
  | n + 1, i, h, hi => by
    show ff F a b (dX F a b n) (i : Int) = _
    unfold ff
    by_cases g : i < a.length
    · have h1 := hm _ (List.getElem_mem g)
      rw [bT (by omega), ck (by omega), bk, ck (by omega), bk, dS g, dS (by omega : i < b.length), aN g, aN (by omega : i < b.length), vt, eq_tok]
      unfold ng
      rw [equal_eq F _ _ h1 (by omega)]
      rw [fu, bN]
      generalize (((decide (a[i].1 = (b[i]'(by omega)).1)) && (decide (a[i].2.1 = (b[i]'(by omega)).2.1))) && (decide (a[i].2.2.1 = (b[i]'(by omega)).2.2.1))) = p
      generalize decide (a[i].2.2.2 = (b[i]'(by omega)).2.2.2) = q
      have go := qE F a b hl ha hm hF n (i + 1) (by omega) (by omega)
      cases p with
      | false => rw [Bool.false_and, bnF, Bool.false_and, Bool.false_and]
      | true =>
        cases q with
        | false => rw [fx, Bool.true_and, bnF, Bool.false_and]
        | true => rw [fx, Bool.true_and, bnT, cn (by omega), bU, go, Bool.true_and]
    · rw [bF (by omega), aU (by omega), aU (by omega)]; rfl
theorem sp (F : Nat) (a b : List Tok) (ha : a.length ≤ 1000000) (hm : AtS a 1000000) (hF : 1000000 < F) : ko F a b = some (decide (a = b)) := by
  unfold ko jd
  by_cases h : a.length = b.length
  · rw [decide_eq_true (by omega), bnT]
    have : dX F a b F 0 = _ := qE F a b h ha hm hF F 0 (by omega) (by omega)
    rw [this, bN, List.drop_zero, List.drop_zero]
  · rw [decide_eq_false (by omega), bnF, bN, len_ne h]
theorem ox {d : Bs → Option Bs} : ∀ {k : Nat} {as_ : List At} {s : Bs} {bs : List At} {e : Bool} {r : Bs}, eL d k as_ s = some (bs, e, r) → bs.length ≤ as_.length + s.length
  | 0, _, _, _, _, _, h => by cases h
  | k + 1, as_, s, bs, e, r, h => by
    have hd := oO eV s
    unfold eL at h
    split at h
    · cases h; omega
    · split at h
      · cases h; omega
      · split at h
        · cases h
        · cases ea : jb d (s.dropWhile eV) with
          | none => rw [ea] at h; cases h
          | some x =>
            obtain ⟨a, r'⟩ := x
            rw [ea] at h
            simp only at h
            have h1 := lR ea
            split at h
            · cases h
            · have := ox h
              rw [List.length_append, List.length_singleton] at this
              omega
theorem nA {l : List Tok} {m : Nat} (h : AtS l m) {t : Tok} (ht : t.2.2.2.length ≤ m) : AtS (l ++ [t]) m := fun x hx => by
  rcases List.mem_append.1 hx with hx | hx
  · exact h x hx
  · rw [List.mem_singleton.1 hx]; exact ht
theorem tN {l : List Tok} {m : Nat} (h : AtS l m) (t : Bs) : AtS (jY t l) m := by
  unfold jY
  split
  · exact h
  · exact nA h (by simp)
theorem ats_step {d : Bs → Option Bs} {s : Bs} {o : List Bs} {k : Nat} {l : List Tok} {m : Nat} {x : Sx} (h : AtS l m) (hs : s.length ≤ m) (e : eT d s o k l = .ok x) : AtS x.2.2.2 m := by
  have sk : ∀ {p s' : Bs} {y : Sx}, hH p s' o k l = .ok y → AtS y.2.2.2 m := fun q => by
    rw [kJ q]; exact h
  unfold eT at e
  split at e
  · unfold iM at e
    split at e
    · cases e
    · split at e
      · split at e
        · cases e; exact h
        · cases e
      · cases e; exact tN h _
  split at e
  · exact sk e
  split at e
  · exact sk e
  split at e
  · unfold mb at e
    split at e
    · cases e
    · split at e
      · cases e
      · cases e; exact tN h _
  split at e
  · exact sk e
  split at e
  · unfold oQ at e
    split at e
    · cases e
    · split at e
      · unfold jx at e
        split at e
        · cases e; exact nA h (by simp)
        · cases e
      · cases e
  · unfold lf at e
    split at e
    · cases e
    · rename_i n r en
      have hr := congrArg List.length (fv en).1
      rw [List.length_append, List.length_drop] at hr
      split at e
      · cases e
      · rename_i as_ em r' ea
        have ha := ox ea
        rw [List.length_nil] at ha
        have ha' : as_.length ≤ m := by omega
        unfold lu at e
        split at e
        · cases e
        · split at e
          · cases e
          · split at e
            · cases e; exact nA (nA h ha') (by simp)
            · cases e; exact nA h ha'
theorem vA {d : Bs → Option Bs} {m : Nat} : ∀ {n : Nat} {x y : Sx}, AtS x.2.2.2 m → x.1.length ≤ m → ix d n x = .ok y → AtS y.2.2.2 m
  | 0, _, _, _, _, h => by cases h
  | n + 1, (s, o, k, l), y, ha, hs, h => by
    unfold ix at h
    by_cases h0 : s = []
    · rw [if_pos h0] at h; cases h; exact ha
    · rw [if_neg h0] at h
      cases e : eT d s o k l with
      | no e' => rw [e] at h; cases h
      | ok z =>
        rw [e] at h
        have h1 := ni h0 e
        exact vA (ats_step ha hs e) (by simp only at hs; omega) h
theorem tok_ats {d : Bs → Option Bs} {s : Bs} {m : Nat} (hs : s.length ≤ m) : AtS (hO d s).1 m := by
  rw [nu]
  cases e : ix d (s.length + 1) (s, [], 0, []) with
  | no e => exact fun t ht => by cases ht
  | ok x =>
    have := vA (m := m) (x := (s, [], 0, [])) (fun t ht => by cases ht) hs e
    obtain ⟨s', o', k', l'⟩ := x;show AtS (if o' = [] ∧ 0 < k' then (l', (0 : Int)) else ([], 2)).1 m
    split
    · exact this
    · exact fun t ht => by cases ht
end Go.Xm
namespace Go.Xm
def rpS (f : Bool) (o : List Bs) (t : Tok) : Option (List Bs) :=
  if f = false ∧ o = [] then none
  else if t.1 = 0 then (if o.length < 20 then some (o ++ [t.2.1]) else none)
  else if t.1 = 1 then (if o.getLast? = some t.2.1 then some o.dropLast else none)
  else if (t.1 = 2 ∧ t.2.2.1 ≠ []) ∧ o ≠ [] then some o else none
def rp : Bool → List Bs → List Tok → Option (List Bs)
  | _, o, [] => some o
  | f, o, t :: r => match rpS f o t with | none => none | some o' => rp false o' r
theorem vg (t : Tok) : ∀ (l : List Tok) (f : Bool) (o : List Bs), rp f o (l ++ [t]) = match rp f o l with | none => none | some o' => rpS (f && l.isEmpty) o' t
  | [], f, o => by
    show (match rpS f o t with | none => none | some o' => some o') = rpS (f && true) o t
    rw [Bool.and_true]
    cases rpS f o t <;> rfl
  | x :: l, f, o => by
    show (match rpS f o x with | none => none | some o' => rp false o' (l ++ [t])) = match (match rpS f o x with | none => none | some o' => rp false o' l) with | none => none | some o' => rpS (f && false) o' t
    cases rpS f o x with
    | none => rfl
    | some o' =>
      simp only
      rw [vg t l false o', Bool.and_false, Bool.false_and]
structure Nest (o : List Bs) (k : Nat) (l : List Tok) : Prop where
  rp : rp true [] l = some o
  few : o.length ≤ 20
  one : k ≤ 1
  none : k = 0 → l = [] ∧ o = []
  some : k ≠ 0 → ∃ t r, l = t :: r ∧ t.1 = 0
theorem Nest.ne {o : List Bs} {k : Nat} {l : List Tok} (h : Nest o k l) (ho : o ≠ []) : k ≠ 0 ∧ l ≠ [] := by
  have : k ≠ 0 := fun e => ho (h.none e).2
  obtain ⟨t, r, e, _⟩ := h.some this;exact ⟨this, by rw [e]; simp⟩
theorem Nest.snoc {o o' : List Bs} {k : Nat} {l : List Tok} {t : Tok} (h : Nest o k l) (ho : o ≠ []) (hr : rpS false o t = Option.some o') (hf : o'.length ≤ 20) : Nest o' k (l ++ [t]) := by
  obtain ⟨hk, hl⟩ := h.ne ho;obtain ⟨x, r, e, hx⟩ := h.some hk;refine ⟨?_, hf, h.one, fun e => absurd e hk, fun _ => ⟨x, r ++ [t], by rw [e]; rfl, hx⟩⟩
  rw [vg, h.rp]
  have : l.isEmpty = false := by cases l with | nil => exact absurd rfl hl | cons a b => rfl
  rw [this, Bool.and_false]
  exact hr
theorem Nest.text {o : List Bs} {k : Nat} {l : List Tok} (h : Nest o k l) (ho : o ≠ []) (t : Bs) : Nest o k (jY t l) := by
  unfold jY
  by_cases e : t = []
  · rw [if_pos e]; exact h
  · rw [if_neg e]
    refine h.snoc ho ?_ h.few
    unfold rpS
    rw [if_neg (fun z => ho z.2), if_neg (show ¬ ((2 : Int) = 0) by decide), if_neg (show ¬ ((2 : Int) = 1) by decide), if_pos ⟨⟨rfl, e⟩, ho⟩]
theorem vo {o : List Bs} {n : Bs} (h : o.getLast? = some n) : o ≠ [] := fun e => by rw [e] at h; cases h
theorem Nest.shut {o : List Bs} {k : Nat} {l : List Tok} (h : Nest o k l) (n : Bs) (hl : o.getLast? = Option.some n) : Nest o.dropLast k (l ++ [(1, n, [], [])]) := by
  have ho := vo hl
  refine h.snoc ho ?_ (by have := h.few; rw [List.length_dropLast]; omega)
  unfold rpS
  rw [if_neg (fun z => ho z.2), if_neg (show ¬ ((1 : Int) = 0) by decide), if_pos rfl, if_pos hl]
theorem Nest.open_ {o : List Bs} {k : Nat} {l : List Tok} (h : Nest o k l) (n : Bs) (as_ : List At) (h1 : ¬ (o = [] ∧ k ≠ 0)) (h2 : ¬ 20 ≤ o.length) :
    Nest (o ++ [n]) (if o = [] then k + 1 else k) (l ++ [(0, n, [], as_)]) := by
  by_cases ho : o = []
  · have hk : k = 0 := by
      by_cases e : k = 0
      · exact e
      · exact absurd ⟨ho, e⟩ h1
    obtain ⟨e1, _⟩ := h.none hk
    subst ho; subst e1; subst hk
    rw [if_pos rfl]
    exact ⟨rfl, by simp, by omega, fun e => by omega, fun _ => ⟨_, [], rfl, rfl⟩⟩
  · rw [if_neg ho]
    refine h.snoc ho ?_ (by simp; omega)
    unfold rpS
    rw [if_neg (fun z => ho z.2), if_pos rfl, if_pos (by omega)]
section
variable {dec : Bs → Option Bs}
theorem Nest.step {s : Bs} {o : List Bs} {k : Nat} {l : List Tok} {x : Sx} (h : Nest o k l) (e : eT dec s o k l = .ok x) : Nest x.2.1 x.2.2.1 x.2.2.2 := by
  unfold eT at e
  split at e
  · unfold iM at e
    split at e
    · cases e
    · split at e
      · split at e
        · cases e; exact h
        · cases e
      · rename_i g
        cases e; exact h.text g _
  split at e
  · have := (gq (by simp) e).2
    rw [this]; exact h
  split at e
  · have := (gq (by simp) e).2
    rw [this]; exact h
  split at e
  · unfold mb at e
    split at e
    · cases e
    · split at e
      · cases e
      · rename_i g
        cases e; exact h.text g _
  split at e
  · have := (gq (by simp) e).2
    rw [this]; exact h
  split at e
  · unfold oQ at e
    split at e
    · cases e
    · split at e
      · unfold jx at e
        split at e
        · rename_i g
          cases e; exact h.shut _ g
        · cases e
      · cases e
  · unfold lf at e
    split at e
    · cases e
    · rename_i n r hn
      split at e
      · cases e
      · rename_i as_ em r' ha
        unfold lu at e
        split at e
        · cases e
        · rename_i g1
          split at e
          · cases e
          · rename_i g2
            have ho := h.open_ n as_ g1 g2
            split at e
            · cases e
              have := ho.shut n (by simp)
              simpa using this
            · cases e; exact ho
theorem Nest.run : ∀ {n : Nat} {x y : Sx}, Nest x.2.1 x.2.2.1 x.2.2.2 → ix dec n x = .ok y → Nest y.2.1 y.2.2.1 y.2.2.2
  | 0, x, y, h, e => by cases e
  | n + 1, (s, o, k, l), y, h, e => by
    unfold ix at e
    split at e
    · cases e; exact h
    · cases es : eT dec s o k l with
      | no e' => rw [es] at e; cases e
      | ok z =>
        rw [es] at e
        exact Nest.run (h.step es) e
theorem nest_nil : Nest [] 0 [] := ⟨rfl, by simp, by omega, fun _ => ⟨rfl, rfl⟩, fun e => absurd rfl e⟩
theorem tok_nest {s : Bs} {l : List Tok} (h : hO dec s = (l, 0)) (hd : ∀ e, ix dec (s.length + 1) (s, [], 0, []) = .no e → e ≠ 0) :
    rp true [] l = some [] ∧ 2 ≤ l.length ∧ ∃ t r, l = t :: r ∧ t.1 = 0 := by
  unfold hO at h
  cases e : ix dec (s.length + 1) (s, [], 0, []) with
  | no e' =>
    rw [e] at h
    have := hd e' e
    cases h
    exact absurd rfl this
  | ok y =>
    obtain ⟨s', o, k, l'⟩ := y
    rw [e] at h
    simp only at h
    have hn := Nest.run (x := (s, [], 0, [])) nest_nil e
    simp only at hn
    split at h
    · rename_i g
      cases h
      obtain ⟨g1, g2⟩ := g;subst g1;obtain ⟨t, r, hl, ht⟩ := hn.some (by omega);refine ⟨hn.rp, ?_, t, r, hl, ht⟩
      rw [hl]
      cases r with
      | nil =>
        have := hn.rp
        rw [hl] at this
        unfold rp rpS at this
        rw [if_neg (by rintro ⟨q, _⟩; cases q), if_pos ht, if_pos (by simp)] at this
        cases this
      | cons a b => simp
    · cases h
end
end Go.Xm
namespace Go.Xm
section
variable (enc : Bs → Bs)
def wrA (a : At) : Bs := [32] ++ a.1 ++ [61, 34] ++ enc a.2 ++ [34]
def wrT (t : Tok) : Bs :=
  if t.1 = 0 then [60] ++ t.2.1 ++ (t.2.2.2.map (wrA enc)).flatten ++ [62]
  else if t.1 = 1 then [60, 47] ++ t.2.1 ++ [62] else enc t.2.2.1
def wr (l : List Tok) : Bs := (l.map (wrT enc)).flatten
end
def Dist : List At → Prop
  | [] => True
  | a :: r => (∀ b ∈ r, b.1 ≠ a.1) ∧ Dist r
def kF (t : Tok) : Prop :=
  (t.1 = 0 ∧ hY t.2.1 = true ∧ t.2.2.1 = [] ∧ (∀ a ∈ t.2.2.2, hY a.1 = true) ∧ Dist t.2.2.2) ∨
  (t.1 = 1 ∧ hY t.2.1 = true ∧ t.2.2.1 = [] ∧ t.2.2.2 = []) ∨ (t.1 = 2 ∧ t.2.1 = [] ∧ t.2.2.1 ≠ [] ∧ t.2.2.2 = [])
theorem rm : ∀ {l : List At} {a : At}, Dist l → (∀ b ∈ l, b.1 ≠ a.1) → Dist (l ++ [a])
  | [], a, _, _ => ⟨by simp, trivial⟩
  | x :: l, a, ⟨h1, h2⟩, h => by
    refine ⟨fun b hb => ?_, rm h2 fun b hb => h b (List.mem_cons_of_mem _ hb)⟩
    rcases List.mem_append.1 hb with hb | hb
    · exact h1 b hb
    · rw [List.mem_singleton.1 hb]; exact fun e => h x List.mem_cons_self e.symm
section
variable {dec : Bs → Option Bs}
theorem uL {s : Bs} {a : At} {r : Bs} (h : jb dec s = some (a, r)) : hY a.1 = true := by
  unfold jb at h
  cases e : fO s with
  | none => rw [e] at h; cases h
  | some x =>
    obtain ⟨n, r'⟩ := x
    have hn := (fv e).2
    rw [e] at h
    simp only at h
    have hv : ∀ q s' , lv dec n q s' = some (a, r) → a.1 = n := fun q s' hh => by
      unfold lv at hh
      split at hh
      · cases hh
      · split at hh
        · cases hh
        · split at hh
          · cases hh
          · cases hh; rfl
    split at h
    · rw [hv _ _ h]; exact hn
    · split at h
      · rw [hv _ _ h]; exact hn
      · cases h
theorem oy : ∀ {k : Nat} {as_ : List At} {s : Bs} {bs : List At} {e : Bool} {r : Bs}, eL dec k as_ s = some (bs, e, r) → (∀ a ∈ as_, hY a.1 = true) → Dist as_ → (∀ a ∈ bs, hY a.1 = true) ∧ Dist bs
  | 0, _, _, _, _, _, h, _, _ => by cases h
  | k + 1, as_, s, bs, e, r, h, h1, h2 => by
    unfold eL at h
    split at h
    · cases h; exact ⟨h1, h2⟩
    · split at h
      · cases h; exact ⟨h1, h2⟩
      · split at h
        · cases h
        · cases ea : jb dec (s.dropWhile eV) with
          | none => rw [ea] at h; cases h
          | some x =>
            obtain ⟨a, r'⟩ := x
            rw [ea] at h
            simp only at h
            split at h
            · cases h
            · rename_i g
              refine oy h (fun b hb => ?_) (rm h2 fun b hb e => g ?_)
              · rcases List.mem_append.1 hb with hb | hb
                · exact h1 b hb
                · rw [List.mem_singleton.1 hb]; exact uL ea
              · rw [List.any_eq_true]; exact ⟨b, hb, decide_eq_true e⟩
theorem qL {l : List Tok} (h : ∀ t ∈ l, kF t) (x : Bs) : ∀ t ∈ jY x l, kF t := by
  unfold jY
  split
  · exact h
  · rename_i g
    intro t ht
    rcases List.mem_append.1 ht with ht | ht
    · exact h t ht
    · rw [List.mem_singleton.1 ht]; exact .inr (.inr ⟨rfl, rfl, g, rfl⟩)
theorem pK {l : List Tok} (h : ∀ t ∈ l, kF t) {x : Tok} (hx : kF x) : ∀ t ∈ l ++ [x], kF t := fun t ht => by
  rcases List.mem_append.1 ht with ht | ht
  · exact h t ht
  · rw [List.mem_singleton.1 ht]; exact hx
theorem vQ {s : Bs} {o : List Bs} {k : Nat} {l : List Tok} {x : Sx} (h : ∀ t ∈ l, kF t) (e : eT dec s o k l = .ok x) : ∀ t ∈ x.2.2.2, kF t := by
  unfold eT at e
  split at e
  · unfold iM at e
    split at e
    · cases e
    · split at e
      · split at e
        · cases e; exact h
        · cases e
      · cases e; exact qL h _
  split at e
  · have := (gq (by simp) e).2
    rw [this]; exact h
  split at e
  · have := (gq (by simp) e).2
    rw [this]; exact h
  split at e
  · unfold mb at e
    split at e
    · cases e
    · split at e
      · cases e
      · cases e; exact qL h _
  split at e
  · have := (gq (by simp) e).2
    rw [this]; exact h
  split at e
  · unfold oQ at e
    split at e
    · cases e
    · rename_i n r hn
      split at e
      · unfold jx at e
        split at e
        · cases e; exact pK h (.inr (.inl ⟨rfl, (fv hn).2, rfl, rfl⟩))
        · cases e
      · cases e
  · unfold lf at e
    split at e
    · cases e
    · rename_i n r hn
      split at e
      · cases e
      · rename_i as_ em r' ha
        obtain ⟨g1, g2⟩ := oy ha (by simp) trivial
        have hn' := (fv hn).2
        have ho := pK h (x := (0, n, [], as_)) (.inl ⟨rfl, hn', rfl, g1, g2⟩)
        unfold lu at e
        split at e
        · cases e
        · split at e
          · cases e
          · split at e
            · cases e; exact pK ho (.inr (.inl ⟨rfl, hn', rfl, rfl⟩))
            · cases e; exact ho
theorem tE : ∀ {n : Nat} {x y : Sx}, (∀ t ∈ x.2.2.2, kF t) → ix dec n x = .ok y → ∀ t ∈ y.2.2.2, kF t
  | 0, x, y, h, e => by cases e
  | n + 1, (s, o, k, l), y, h, e => by
    unfold ix at e
    split at e
    · cases e; exact h
    · cases es : eT dec s o k l with
      | no e' => rw [es] at e; cases e
      | ok z =>
        rw [es] at e
        exact tE (vQ h es) e
variable {enc : Bs → Bs}
structure Enc (dec : Bs → Option Bs) (enc : Bs → Bs) : Prop where
  back : ∀ t, dec (enc t) = some t
  no : ∀ t, ∀ c ∈ enc t, c ≠ 60 ∧ c ≠ 34
  ne : ∀ t, t ≠ [] → enc t ≠ []
theorem pC {f : UInt8 → Bool} {c : UInt8} (hc : f c = false) (r : Bs) : ∀ {a : Bs}, a.all f = true → (a ++ c :: r).takeWhile f = a ∧ (a ++ c :: r).dropWhile f = c :: r
  | [], _ => by
    rw [List.nil_append, List.takeWhile_cons, List.dropWhile_cons, hc]
    exact ⟨rfl, rfl⟩
  | x :: a, h => by
    rw [List.all_cons, Bool.and_eq_true] at h
    obtain ⟨i1, i2⟩ := pC hc r h.2
    rw [List.cons_append, List.takeWhile_cons, List.dropWhile_cons, h.1, if_pos rfl, if_pos rfl, i1, i2]
    exact ⟨rfl, rfl⟩
theorem pJ {n : Bs} {c : UInt8} (r : Bs) (h : hY n = true) (hc : jy c = false) : fO (n ++ c :: r) = some (n, c :: r) := by
  have ha : n.all jy = true := by
    cases n with
    | nil => cases h
    | cons a b =>
      unfold hY at h
      simp only [Bool.and_eq_true] at h
      exact h.2.1
  obtain ⟨h1, h2⟩ := pC hc r ha
  unfold fO
  rw [h1, h2, if_pos h]
theorem vx {c : UInt8} (r : Bs) : ∀ {a : Bs}, (∀ x ∈ a, x ≠ c) → iy [c] (a ++ c :: r) = some (a, r)
  | [], _ => by
    show iy [c] (c :: r) = _
    unfold iy
    rw [if_pos (by simp)]; rfl
  | x :: a, h => by
    have hx := h x List.mem_cons_self
    have : ([c] : Bs).isPrefixOf (x :: (a ++ c :: r)) = false := by
      have : (c == x) = false := by simpa using fun e => hx e.symm
      simp [List.isPrefixOf, this]
    show iy [c] (x :: (a ++ c :: r)) = _
    unfold iy
    rw [this, if_neg (by decide), vx r fun y hy => h y (List.mem_cons_of_mem _ hy)]
theorem qJ {n : Bs} (h : hY n = true) : ∃ c r, n = c :: r ∧ letB c = true := by
  cases n with
  | nil => cases h
  | cons c r =>
    unfold hY at h
    simp only [Bool.and_eq_true] at h
    exact ⟨c, r, rfl, h.1⟩
theorem vn {c : UInt8} (h : letB c = true) : eV c = false ∧ c ≠ 62 ∧ c ≠ 47 ∧ c ≠ 33 ∧ c ≠ 63 := by
  have : ∀ k : Fin 256, letB (UInt8.ofNat k.val) = true → eV (UInt8.ofNat k.val) = false ∧ UInt8.ofNat k.val ≠ 62 ∧ UInt8.ofNat k.val ≠ 47 ∧ UInt8.ofNat k.val ≠ 33 ∧ UInt8.ofNat k.val ≠ 63 := by decide +kernel
  have h1 := this ⟨c.toNat, c.toNat_lt⟩
  simp only [UInt8.ofNat_toNat] at h1
  exact h1 h
theorem nw {c x : UInt8} {p r : Bs} (h : x ≠ c) : (c :: p).isPrefixOf (x :: r) = false := by
  have : (c == x) = false := by simpa using fun e => h e.symm
  simp [List.isPrefixOf, this]
theorem sh {a b x : UInt8} {r : Bs} (h : x ≠ b) : ([a, b] : Bs).isPrefixOf (a :: x :: r) = false := by
  have : (b == x) = false := by simpa using fun q => h q.symm
  simp [List.isPrefixOf, this]
theorem attr_wr (he : Enc dec enc) {a : At} (r : Bs) (h : hY a.1 = true) : jb dec (a.1 ++ [61, 34] ++ enc a.2 ++ [34] ++ r) = some (a, r) := by
  have e1 : a.1 ++ [61, 34] ++ enc a.2 ++ [34] ++ r = a.1 ++ 61 :: (34 :: (enc a.2 ++ 34 :: r)) := by simp
  unfold jb
  rw [e1, pJ _ h (by decide)]
  simp only
  rw [if_pos (by simp)]
  show lv dec a.1 34 (enc a.2 ++ 34 :: r) = _
  unfold lv
  rw [vx r fun x hx => (he.no a.2 x hx).2]
  simp only
  rw [if_neg (fun z => (he.no a.2 60 z).1 rfl), he.back]
theorem tL (he : Enc dec enc) (r : Bs) : ∀ (bs as_ : List At) (k : Nat), (∀ a ∈ bs, hY a.1 = true) → Dist (as_ ++ bs) → bs.length < k → eL dec k as_ ((bs.map (wrA enc)).flatten ++ 62 :: r) = some (as_ ++ bs, false, r)
  | bs, as_, 0, _, _, hk => by omega
  | [], as_, k + 1, _, _, _ => by
    unfold eL
    show (if ([62] : Bs).isPrefixOf ((62 :: r).dropWhile eV) = true then some (as_, false, ((62 :: r).dropWhile eV).drop 1) else _) = _
    have : (62 :: r).dropWhile eV = 62 :: r := by rw [List.dropWhile_cons]; rfl
    rw [this, if_pos (by simp), List.append_nil]; rfl
  | b :: bs, as_, k + 1, h, hd, hk => by
    have hb := h b List.mem_cons_self
    obtain ⟨c, w, hc, hl⟩ := qJ hb;obtain ⟨n1, n2, n3, _, _⟩ := vn hl
    have e1 : ((b :: bs).map (wrA enc)).flatten ++ 62 :: r = 32 :: (b.1 ++ [61, 34] ++ enc b.2 ++ [34] ++ ((bs.map (wrA enc)).flatten ++ 62 :: r)) := by simp [wrA]
    have e2 : (32 :: (b.1 ++ [61, 34] ++ enc b.2 ++ [34] ++ ((bs.map (wrA enc)).flatten ++ 62 :: r))).dropWhile eV = b.1 ++ [61, 34] ++ enc b.2 ++ [34] ++ ((bs.map (wrA enc)).flatten ++ 62 :: r) := by
      rw [List.dropWhile_cons, if_pos (by decide), hc]
      simp only [List.cons_append]
      rw [List.dropWhile_cons, n1]; rfl
    unfold eL
    rw [e1, e2]
    have p1 : ([62] : Bs).isPrefixOf (b.1 ++ [61, 34] ++ enc b.2 ++ [34] ++ ((bs.map (wrA enc)).flatten ++ 62 :: r)) = false := by rw [hc]; exact nw n2
    have p2 : ([47, 62] : Bs).isPrefixOf (b.1 ++ [61, 34] ++ enc b.2 ++ [34] ++ ((bs.map (wrA enc)).flatten ++ 62 :: r)) = false := by rw [hc]; exact nw n3
    rw [p1, p2, if_neg (by decide), if_neg (by decide), if_neg (by rw [List.length_cons]; omega), attr_wr he _ hb]
    simp only
    have hdup : as_.any (fun x => decide (x.1 = b.1)) = false := by
      rw [List.any_eq_false]
      intro x hx
      have : ∀ {as_ : List At}, Dist (as_ ++ b :: bs) → ∀ x ∈ as_, x.1 ≠ b.1 := fun {as_} => by
        induction as_ with
        | nil => intro _ x hx; cases hx
        | cons y ys ih =>
          intro hq x hx;obtain ⟨q1, q2⟩ := hq
          rcases List.mem_cons.1 hx with rfl | hx
          · exact fun e => q1 b (by simp) e.symm
          · exact ih q2 x hx
      simpa using this hd x hx
    rw [hdup, if_neg (by decide)]
    have e3 : as_ ++ b :: bs = (as_ ++ [b]) ++ bs := by simp
    rw [e3] at hd ⊢
    exact tL he r bs (as_ ++ [b]) k (fun a ha => h a (List.mem_cons_of_mem _ ha)) hd (by simp at hk; omega)
def rZ : List Tok → Prop
  | [] => True
  | [_] => True
  | a :: b :: r => ¬ (a.1 = 2 ∧ b.1 = 2) ∧ rZ (b :: r)
theorem wr_head {t : Tok} (h : kF t) (h2 : t.1 ≠ 2) (r : Bs) : ∃ w, wrT enc t ++ r = 60 :: w := by
  rcases h with ⟨h, _⟩ | ⟨h, _⟩ | ⟨h, _⟩
  · unfold wrT; rw [if_pos h]; exact ⟨_, rfl⟩
  · unfold wrT; rw [if_neg (by omega), if_pos h]; exact ⟨_, rfl⟩
  · exact absurd h h2
theorem step_wr (he : Enc dec enc) {t : Tok} {o o' : List Bs} {k : Nat} {l : List Tok} {f : Bool} (r : Bs) (h : kF t) (hr : rpS f o t = some o') (hk : f = true → o = [] ∧ k = 0) (hk2 : f = false → o ≠ []) (h2 : t.1 = 2 → r = [] ∨ ∃ w, r = 60 :: w) :
    eT dec (wrT enc t ++ r) o k l = .ok (r, o', (if o = [] then k + 1 else k), l ++ [t]) := by
  obtain ⟨t1, t2, t3, t4⟩ := t
  rcases h with ⟨h0, hn, hx, ha, hd⟩ | ⟨h0, hn, hx, ha⟩ | ⟨h0, hn, hx, ha⟩
  · simp only at h0 hn hx ha hd
    subst h0; subst hx
    obtain ⟨c, w, hc, hl⟩ := qJ hn;obtain ⟨n1, n2, n3, n4, n5⟩ := vn hl
    have e1 : wrT enc (0, t2, [], t4) ++ r = 60 :: (t2 ++ ((t4.map (wrA enc)).flatten ++ 62 :: r)) := by unfold wrT; rw [if_pos rfl]; simp
    have hlen : o.length < 20 := by
      unfold rpS at hr
      split at hr
      · cases hr
      · rw [if_pos rfl] at hr
        split at hr
        · rename_i g; exact g
        · cases hr
    have ho' : o' = o ++ [t2] := by
      unfold rpS at hr
      split at hr
      · cases hr
      · rw [if_pos rfl] at hr
        exact (Option.some.inj hr).symm
    have q1 : ([60, 33, 45, 45] : Bs).isPrefixOf (60 :: (t2 ++ ((t4.map (wrA enc)).flatten ++ 62 :: r))) = false := by rw [hc]; simpa [List.isPrefixOf] using nw (p := [45, 45]) n4
    have q2 : ([60, 63] : Bs).isPrefixOf (60 :: (t2 ++ ((t4.map (wrA enc)).flatten ++ 62 :: r))) = false := by rw [hc]; exact sh n5
    have q3 : ([60, 33, 91, 67, 68, 65, 84, 65, 91] : Bs).isPrefixOf (60 :: (t2 ++ ((t4.map (wrA enc)).flatten ++ 62 :: r))) = false := by rw [hc]; simpa [List.isPrefixOf] using nw (p := [91, 67, 68, 65, 84, 65, 91]) n4
    have q4 : ([60, 33] : Bs).isPrefixOf (60 :: (t2 ++ ((t4.map (wrA enc)).flatten ++ 62 :: r))) = false := by rw [hc]; exact sh n4
    have q5 : ([60, 47] : Bs).isPrefixOf (60 :: (t2 ++ ((t4.map (wrA enc)).flatten ++ 62 :: r))) = false := by rw [hc]; exact sh n3
    unfold eT
    rw [e1, q1, q2, q3, q4, q5, if_neg (by simp), if_neg (by decide), if_neg (by decide), if_neg (by decide), if_neg (by decide), if_neg (by decide)]
    show lf dec (t2 ++ ((t4.map (wrA enc)).flatten ++ 62 :: r)) o k l = _
    have hfl : ∃ c' w', (t4.map (wrA enc)).flatten ++ 62 :: r = c' :: w' ∧ jy c' = false := by
      cases t4 with
      | nil => exact ⟨62, r, rfl, by decide⟩
      | cons b bs => exact ⟨32, _, rfl, by decide⟩
    obtain ⟨c', w', hcw, hs⟩ := hfl
    have ha' := tL he r t4 [] (((t4.map (wrA enc)).flatten ++ 62 :: r).length + 1) ha (by rw [List.nil_append]; exact hd) (by
      have : ∀ l : List At, l.length ≤ ((l.map (wrA enc)).flatten).length := fun l => by
        induction l with
        | nil => simp
        | cons a l ih => simp [wrA] at *; omega
      have := this t4
      rw [List.length_append, List.length_cons]; omega)
    unfold lf
    rw [hcw] at ha' ⊢
    rw [pJ w' hn hs]
    simp only
    rw [ha']
    simp only [List.nil_append]
    unfold lu
    have g1 : ¬ (o = [] ∧ k ≠ 0) := by
      rintro ⟨z1, z2⟩
      cases f with
      | true => exact z2 (hk rfl).2
      | false => exact hk2 rfl z1
    rw [if_neg g1, if_neg (by omega), if_neg (by decide), ho']
  · simp only at h0 hn hx ha
    subst h0; subst hx; subst ha
    have e1 : wrT enc (1, t2, [], []) ++ r = 60 :: 47 :: (t2 ++ 62 :: r) := by unfold wrT; rw [if_neg (show ¬ ((1 : Int) = 0) by decide), if_pos rfl]; simp
    have hl : o.getLast? = some t2 ∧ o' = o.dropLast := by
      unfold rpS at hr
      split at hr
      · cases hr
      · rw [if_neg (show ¬ ((1 : Int) = 0) by decide), if_pos rfl] at hr
        split at hr
        · rename_i g; exact ⟨g, (Option.some.inj hr).symm⟩
        · cases hr
    unfold eT
    rw [e1, if_neg (by simp), if_neg (by simp), if_neg (by simp), if_neg (by simp), if_neg (by simp), if_pos (by simp)]
    show oQ (t2 ++ 62 :: r) o k l = _
    unfold oQ
    rw [pJ r hn (by decide)]
    simp only
    have : (62 :: r).dropWhile eV = 62 :: r := by rw [List.dropWhile_cons]; rfl
    rw [this, if_pos (by simp)]
    show jx t2 r o k l = _
    unfold jx
    rw [if_pos hl.1, hl.2, if_neg (vo hl.1)]
  · simp only at h0 hn hx ha
    subst h0; subst hn; subst ha
    have e1 : wrT enc (2, [], t3, []) ++ r = enc t3 ++ r := by unfold wrT; rw [if_neg (show ¬ ((2 : Int) = 0) by decide), if_neg (show ¬ ((2 : Int) = 1) by decide)]
    have ho : o ≠ [] ∧ o' = o := by
      unfold rpS at hr
      split at hr
      · cases hr
      · rw [if_neg (show ¬ ((2 : Int) = 0) by decide), if_neg (show ¬ ((2 : Int) = 1) by decide)] at hr
        split at hr
        · rename_i g; exact ⟨g.2, (Option.some.inj hr).symm⟩
        · cases hr
    have hne := he.ne t3 hx
    have h60 : ([60] : Bs).isPrefixOf (enc t3 ++ r) = false := by
      cases hh : enc t3 with
      | nil => exact absurd hh hne
      | cons c w =>
        have := (he.no t3 c (by rw [hh]; exact List.mem_cons_self)).1
        exact nw this
    have hall : (enc t3).all (fun c => decide (c ≠ 60)) = true := by
      rw [List.all_eq_true]; intro c hc; exact decide_eq_true (he.no t3 c hc).1
    have ht : (enc t3 ++ r).takeWhile (fun c => decide (c ≠ 60)) = enc t3 ∧ (enc t3 ++ r).dropWhile (fun c => decide (c ≠ 60)) = r := by
      rcases h2 rfl with z | ⟨w, z⟩
      · subst z
        rw [List.append_nil]
        have : ∀ {s : Bs}, s.all (fun c => decide (c ≠ 60)) = true → s.takeWhile (fun c => decide (c ≠ 60)) = s ∧ s.dropWhile (fun c => decide (c ≠ 60)) = [] := fun {s} => by
          induction s with
          | nil => intro _; exact ⟨rfl, rfl⟩
          | cons a b ih =>
            intro hq
            rw [List.all_cons, Bool.and_eq_true] at hq
            obtain ⟨i1, i2⟩ := ih hq.2
            rw [List.takeWhile_cons, List.dropWhile_cons, hq.1, if_pos rfl, if_pos rfl, i1, i2]
            exact ⟨rfl, rfl⟩
        exact this hall
      · subst z
        exact pC (f := fun c => decide (c ≠ 60)) (c := 60) (by decide) w hall
    unfold eT
    rw [e1, if_pos h60]
    unfold iM
    rw [ht.1, ht.2, he.back]
    simp only
    rw [if_neg ho.1, ho.2, if_neg ho.1]
    unfold jY
    rw [if_neg hx]
theorem run_wr (he : Enc dec enc) : ∀ (r : List Tok) (f : Bool) (o o' : List Bs) (k : Nat) (l : List Tok) (n : Nat), (∀ t ∈ r, kF t) → rZ r → rp f o r = some o' → (f = true → o = [] ∧ k = 0) → r.length < n →
    ∃ k', ix dec n (wr enc r, o, k, l) = .ok ([], o', k', l ++ r) ∧ k ≤ k' ∧ (r ≠ [] → f = true → 0 < k')
  | r, f, o, o', k, l, 0, _, _, _, _, hn => by omega
  | [], f, o, o', k, l, n + 1, _, _, hr, _, _ => by
    cases hr
    refine ⟨k, ?_, Nat.le_refl _, fun z => absurd rfl z⟩;show ix dec (n + 1) ([], o, k, l) = _
    unfold ix
    rw [if_pos rfl, List.append_nil]
  | t :: r, f, o, o', k, l, n + 1, hg, hap, hr, hk, hn => by
    have ht := hg t List.mem_cons_self
    cases es : rpS f o t with
    | none => unfold rp at hr; rw [es] at hr; cases hr
    | some o1 =>
      unfold rp at hr
      rw [es] at hr
      simp only at hr
      have hk2 : f = false → o ≠ [] := fun e z => by
        unfold rpS at es
        rw [if_pos ⟨e, z⟩] at es; cases es
      have hnext : t.1 = 2 → wr enc r = [] ∨ ∃ w, wr enc r = 60 :: w := fun h2 => by
        cases r with
        | nil => exact .inl rfl
        | cons b r =>
          right
          have hb := hg b (by simp)
          have : b.1 ≠ 2 := fun z => hap.1 ⟨h2, z⟩
          have := wr_head (enc := enc) hb this (wr enc r)
          simpa [wr] using this
      have hst := step_wr (l := l) he (wr enc r) ht es hk hk2 hnext
      have e1 : wr enc (t :: r) = wrT enc t ++ wr enc r := by simp [wr]
      have hne : wrT enc t ++ wr enc r ≠ [] := by
        intro z
        rcases ht with ⟨h, _⟩ | ⟨h, _⟩ | ⟨h, _, h3, _⟩
        · unfold wrT at z; rw [if_pos h] at z; simp at z
        · unfold wrT at z; rw [if_neg (by omega), if_pos h] at z; simp at z
        · unfold wrT at z; rw [if_neg (by omega), if_neg (by omega)] at z
          exact he.ne _ h3 (List.append_eq_nil_iff.1 z).1
      have hap' : rZ r := by
        cases r with
        | nil => trivial
        | cons b r => exact hap.2
      obtain ⟨k', h1, h2, _⟩ := run_wr he r false o1 o' (if o = [] then k + 1 else k) (l ++ [t]) n (fun x hx => hg x (List.mem_cons_of_mem _ hx)) hap' hr (fun z => by cases z) (by simp at hn; omega);refine ⟨k', ?_, ?_, fun _ hf => ?_⟩
      · rw [e1, ix, if_neg hne, hst]
        simp only
        rw [h1]
        simp
      · by_cases z : o = []
        · rw [if_pos z] at h2; omega
        · rw [if_neg z] at h2; exact h2
      · rw [if_pos (hk hf).1] at h2; omega
theorem tok_wr (he : Enc dec enc) {s : Bs} {l : List Tok} (h : hO dec s = (l, 0)) (hd : ∀ e, ix dec (s.length + 1) (s, [], 0, []) = .no e → e ≠ 0) (hap : rZ l) : hO dec (wr enc l) = (l, 0) := by
  obtain ⟨h1, h2, t, r, h3, h4⟩ := tok_nest h hd
  have hg : ∀ x ∈ l, kF x := by
    unfold hO at h
    cases e : ix dec (s.length + 1) (s, [], 0, []) with
    | no e' =>
      rw [e] at h
      have := hd e' e
      cases h
      exact absurd rfl this
    | ok y =>
      obtain ⟨s', o, k, l'⟩ := y
      rw [e] at h
      simp only at h
      split at h
      · cases h
        exact tE (x := (s, [], 0, [])) (by simp) e
      · cases h
  have hlen : l.length ≤ (wr enc l).length := by
    have : ∀ l : List Tok, (∀ x ∈ l, kF x) → l.length ≤ (wr enc l).length := fun l => by
      induction l with
      | nil => intro _; simp
      | cons x l ih =>
        intro hx
        have i := ih fun y hy => hx y (List.mem_cons_of_mem _ hy)
        have hp : 0 < (wrT enc x).length := by
          rcases hx x List.mem_cons_self with ⟨h, _⟩ | ⟨h, _⟩ | ⟨h, _, h3, _⟩
          · unfold wrT; rw [if_pos h]; simp
          · unfold wrT; rw [if_neg (by omega), if_pos h]; simp
          · unfold wrT; rw [if_neg (by omega), if_neg (by omega)]; exact List.length_pos_iff.2 (he.ne _ h3)
        have e1 : wr enc (x :: l) = wrT enc x ++ wr enc l := by simp [wr]
        rw [e1, List.length_append, List.length_cons]; omega
    exact this l hg
  obtain ⟨k', r1, r2, r3⟩ := run_wr he l true [] [] 0 [] ((wr enc l).length + 1) hg hap h1 (fun _ => ⟨rfl, rfl⟩) (by omega)
  unfold hO
  rw [r1]
  simp only [List.nil_append]
  rw [if_pos ⟨trivial, r3 (by rw [h3]; simp) rfl⟩]
end
end Go.Xm
namespace Go.Pn
open Go.Pv Go.Av
def kN (c : UInt8) : Option Bs := if c = 38 then some [38, 97, 109, 112, 59] else if c = 60 then some [38, 108, 116, 59] else if c = 62 then some [38, 103, 116, 59] else if c = 34 then some [38, 113, 117, 111, 116, 59] else none
def e1 (c : UInt8) : Bs := (kN c).getD [c]
def enc (s : Bs) : Bs := s.flatMap e1
theorem oV (p : UInt8 → Bool) (h : ∀ k : Fin 256, p (UInt8.ofNat k.val) = true) (b : UInt8) : p b = true := by
  have := h ⟨b.toNat, b.toNat_lt⟩
  simpa using this
theorem uQ (c : UInt8) : at_ iO (c.toNat : Int) = kN c := by
  have := oV (fun c => at_ iO (c.toNat : Int) == kN c) (by decide +kernel) c
  simpa using this
theorem tab_ne (c : UInt8) : decide (kN c ≠ some []) = true := by
  have := oV (fun c => decide (kN c ≠ some [])) (by decide +kernel) c
  exact this
theorem sc (c : UInt8) : 1 ≤ (e1 c).length ∧ (e1 c).length ≤ 6 := by
  have := oV (fun c => decide (1 ≤ (e1 c).length ∧ (e1 c).length ≤ 6)) (by decide +kernel) c
  exact of_decide_eq_true this
theorem tq {c : UInt8} (h : (kN c).isNone = false) : (kN c).getD [] = e1 c := by
  unfold e1
  cases hc : kN c with
  | none => rw [hc] at h; cases h
  | some l => rfl
theorem pD {c : UInt8} (h : (kN c).isNone = true) : e1 c = [c] := by
  unfold e1
  cases hc : kN c with
  | none => rfl
  | some l => rw [hc] at h; cases h
def dl (s : Bs) : Int := ((enc s).length : Int) - s.length
def sps (s : Bs) : Bool := s.any fun c => !(kN c).isNone
theorem kL (c : UInt8) (r : Bs) : enc (c :: r) = e1 c ++ enc r := rfl
theorem enc_len (s : Bs) : s.length ≤ (enc s).length ∧ (enc s).length ≤ 6 * s.length := by
  induction s with
  | nil => simp [enc]
  | cons c r ih =>
    have := sc c
    rw [kL]
    simp only [List.length_append, List.length_cons]
    omega
theorem enc_no {s : Bs} (h : sps s = false) : enc s = s := by
  induction s with
  | nil => rfl
  | cons c r ih =>
    simp only [sps, List.any_cons, Bool.or_eq_false_iff, Bool.not_eq_false'] at h
    rw [kL, pD h.1, ih h.2]; rfl
theorem pF (c : UInt8) (r : Bs) : sps (c :: r) = (!(kN c).isNone || sps r) := rfl
theorem lay_loop (s : Bs) (hs : s.length ≤ 100000) (n : Int) (hn : 0 ≤ n ∧ n ≤ 1000000) : ∀ (k i : Nat) (done buf : Bs), s.length - i < k → i ≤ s.length → (buf.length : Int) = n → buf.take done.length = done → (done.length : Int) + (enc (s.drop i)).length = n →
    ez s n k ((done.length : Int), (i : Int), buf) = some (done ++ enc (s.drop i)) := by
  intro k
  induction k with
  | zero => intro i done buf h; omega
  | succ k ih =>
    intro i done buf hk hi hb ht hl;show gf s n (ez s n k) (done.length : Int) (i : Int) buf = _
    unfold gf gd fo
    have hnn : (n.toNat : Int) = n := Int.toNat_of_nonneg hn.1
    by_cases h : i < s.length
    · have hd : s.drop i = s[i] :: s.drop (i + 1) := aN h
      have h8 := s[i].toNat_lt
      have htl := sc s[i]
      have hd1 : (done.length : Int).toNat = done.length := Int.toNat_natCast _
      rw [hd, kL] at hl ⊢
      simp only [List.length_append] at hl
      have hgA : ∀ q : Option Bs, grd (ce (s[i].toNat : Int) 256) q = q := fun q => ck (by omega)
      rw [bT (by omega), ck (by omega), bk, dS h, hgA, bk, uQ, tab_ne, lc]
      cases hc : (kN s[i]).isNone with
      | false =>
        have e := tq hc
        simp only [Bool.not_false, cond_true]
        rw [iP (by omega), hgA, bk, e, hd1]
        rw [iP (by omega), iP (by omega), bk, cn (by omega), cn (by omega), ht]
        have hlen : (done ++ e1 s[i]).length = done.length + (e1 s[i]).length := by simp
        have ec : (done.length : Int) + ((e1 s[i]).length : Int) = ((done ++ e1 s[i]).length : Int) := by rw [hlen]; omega
        rw [ec, bU, ih (i + 1) (done ++ e1 s[i]) _ (by omega) (by omega) (by simp; omega) (by rw [List.take_append_of_le_length (Nat.le_refl _), List.take_length]) (by rw [hlen]; omega)]
        simp
      | true =>
        have e := pD hc
        rw [e] at hl ⊢
        simp only [List.length_singleton] at hl
        simp only [Bool.not_true, cond_false]
        rw [ck (by omega), ck (by omega), bk, cn (by omega), cn (by omega), hd1]
        have ec : (done.length : Int) + 1 = ((done ++ [s[i]]).length : Int) := by simp
        have hlt : done.length < buf.length := by omega
        have et : (buf.set done.length s[i]).take (done ++ [s[i]]).length = done ++ [s[i]] := by
          rw [List.length_append, List.length_singleton, List.take_succ_eq_append_getElem (by simpa using hlt), List.take_set_of_le (Nat.le_refl _), ht]
          simp
        rw [ec, bU, ih (i + 1) (done ++ [s[i]]) _ (by omega) (by omega) (by simpa using hb) et (by simp; omega)]
        simp
    · have hi2 : s.drop i = [] := aU (by omega)
      rw [hi2] at hl ⊢
      rw [bF (by omega), iP (by omega)]
      have hbl : buf.length = done.length := by simp [enc] at hl; omega
      rw [← hbl, List.take_length] at ht
      rw [ht]; simp [enc]
theorem j3_eq (F : Nat) (s : Bs) (hs : s.length ≤ 100000) (hF : 110000 < F) : di F s ((s.length : Int) + dl s) (sps s) = some (enc s) := by
  have hl := enc_len s
  unfold di dl
  have e : (s.length : Int) + (((enc s).length : Int) - s.length) = (enc s).length := by omega
  rw [e]
  cases h : sps s with
  | false => rw [enc_no h, Bool.not_false, cond_true]
  | true =>
    rw [Bool.not_true, cond_false, ck (by omega)]
    have := lay_loop s hs ((enc s).length : Int) (by omega) F 0 [] (List.replicate (Int.toNat ((enc s).length : Int)) 0) (by omega) (by omega) (by simp) (by simp) (by simp)
    simpa using this
theorem vv (c : UInt8) (r : Bs) : dl (c :: r) = ((e1 c).length : Int) - 1 + dl r := by
  unfold dl; rw [kL]; simp; omega
theorem uh (F : Nat) (hF : 110000 < F) (s : Bs) (hs : s.length ≤ 100000) : ∀ (k i : Nat) (n : Int) (an : Bool), s.length - i < k → i ≤ s.length → 0 ≤ n ∧ n ≤ 100000 + 6 * i →
    ew F s k (n, an, (i : Int)) = di F s (n + dl (s.drop i)) (an || sps (s.drop i)) := by
  intro k
  induction k with
  | zero => intro i n an h; omega
  | succ k ih =>
    intro i n an hk hi hn;show ge F s (ew F s k) n an (i : Int) = _
    unfold ge fk
    by_cases h : i < s.length
    · have hd : s.drop i = s[i] :: s.drop (i + 1) := aN h
      have h8 := s[i].toNat_lt
      have htl := sc s[i]
      have hgA : ∀ q : Option Bs, grd (ce (s[i].toNat : Int) 256) q = q := fun q => ck (by omega)
      rw [bT (by omega), ck (by omega), bk, dS h, hgA, bk, uQ, tab_ne, lc, hd, vv]
      cases hc : (kN s[i]).isNone with
      | false =>
        have e := tq hc
        have es := pF s[i] (s.drop (i + 1))
        rw [hc, Bool.not_false, Bool.true_or] at es
        rw [Bool.not_false, cond_true, hgA, bk, e, cn (by omega), cn (by omega), cn (by omega), bU, ih (i + 1) _ _ (by omega) (by omega) (by omega), es, Bool.true_or, Bool.or_true]
        congr 1; omega
      | true =>
        have e := pD hc
        have es := pF s[i] (s.drop (i + 1))
        rw [hc, Bool.not_true, Bool.false_or] at es
        rw [Bool.not_true, cond_false, cn (by omega), bU, ih (i + 1) _ _ (by omega) (by omega) (by omega), es, e]
        congr 1; simp
    · have hi2 : s.drop i = [] := aU (by omega)
      rw [bF (by omega), hi2]
      have : dl [] = 0 := rfl
      rw [this]; simp [sps]
end Go.Pn
namespace Go.Pn
open Go.Pv Go.Av
def ct (c : UInt8) (s : Bs) : Nat := s.count c
theorem oY (a c : UInt8) (s : Bs) : ct a (c :: s) = ct a s + if c = a then 1 else 0 := by
  unfold ct
  rw [List.count_cons]
  by_cases h : c = a <;> simp [h]
theorem tab_no {c : UInt8} (h1 : c ≠ 38) (h2 : c ≠ 60) (h3 : c ≠ 62) (h4 : c ≠ 34) : kN c = none := by
  unfold kN
  rw [if_neg h1, if_neg h2, if_neg h3, if_neg h4]
theorem tots (s : Bs) : dl s = (ct 34 s : Int) * 5 + (ct 62 s : Int) * 3 + (ct 60 s : Int) * 3 + (ct 38 s : Int) * 4 ∧ sps s = decide (0 < ct 34 s + ct 62 s + ct 60 s + ct 38 s) := by
  induction s with
  | nil => exact ⟨rfl, rfl⟩
  | cons c r ih =>
    obtain ⟨i1, i2⟩ := ih
    rw [vv, pF, i1, i2, oY 34, oY 62, oY 60, oY 38]
    by_cases h1 : c = 38
    · have e : (e1 c).length = 5 := by rw [h1]; rfl
      have f : (kN c).isNone = false := by rw [h1]; rfl
      rw [e, f, Bool.not_false, Bool.true_or, if_neg (show ¬ c = 34 by rw [h1]; decide), if_neg (show ¬ c = 62 by rw [h1]; decide), if_neg (show ¬ c = 60 by rw [h1]; decide), if_pos h1]
      exact ⟨by omega, Eq.symm (decide_eq_true (by omega))⟩
    by_cases h2 : c = 60
    · have e : (e1 c).length = 4 := by rw [h2]; rfl
      have f : (kN c).isNone = false := by rw [h2]; rfl
      rw [e, f, Bool.not_false, Bool.true_or, if_neg (show ¬ c = 34 by rw [h2]; decide), if_neg (show ¬ c = 62 by rw [h2]; decide), if_pos h2, if_neg h1]
      exact ⟨by omega, Eq.symm (decide_eq_true (by omega))⟩
    by_cases h3 : c = 62
    · have e : (e1 c).length = 4 := by rw [h3]; rfl
      have f : (kN c).isNone = false := by rw [h3]; rfl
      rw [e, f, Bool.not_false, Bool.true_or, if_neg (show ¬ c = 34 by rw [h3]; decide), if_pos h3, if_neg h2, if_neg h1]
      exact ⟨by omega, Eq.symm (decide_eq_true (by omega))⟩
    by_cases h4 : c = 34
    · have e : (e1 c).length = 6 := by rw [h4]; rfl
      have f : (kN c).isNone = false := by rw [h4]; rfl
      rw [e, f, Bool.not_false, Bool.true_or, if_pos h4, if_neg h3, if_neg h2, if_neg h1]
      exact ⟨by omega, Eq.symm (decide_eq_true (by omega))⟩
    · have f := tab_no h1 h2 h3 h4
      have e : (e1 c).length = 1 := by unfold e1; rw [f]; rfl
      have f' : (kN c).isNone = true := by rw [f]; rfl
      rw [e, f', Bool.not_true, Bool.false_or, if_neg h1, if_neg h2, if_neg h3, if_neg h4]
      exact ⟨by omega, rfl⟩
theorem lO (F : Nat) (s : Bs) (hs : s.length ≤ 100000) (k i : Nat) (c : UInt8) (l : Bs) (n : Int) (an : Bool) (hi : i < 4) (he : at_ entRep (i : Int) = [c]) (ht : kN c = some l) (hl : 1 ≤ l.length ∧ l.length ≤ 6) (hn : 0 ≤ n ∧ n ≤ 10000000) :
    cw F s (k + 1) (n, an, (i : Int)) = cw F s k (n + (ct c s : Int) * ((l.length : Int) - 1), an || decide (0 < ct c s), ((i + 1 : Nat) : Int)) := by
  show eA F s (cw F s k) n an (i : Int) = _
  unfold eA fm
  have hc : ct c s ≤ s.length := List.count_le_length
  have h8 := c.toNat_lt
  have hcb : Go.Lib.countByte s (at_ [c] 0) = ct c s := rfl
  have h4 : entRep.length = 4 := rfl
  rw [bT (by omega), ck (by omega), bk, he, iP (by simp), bk, hcb]
  generalize ct c s = q at hc ⊢
  have hm : 0 ≤ (q : Int) * ((l.length : Int) - 1) ∧ (q : Int) * ((l.length : Int) - 1) ≤ 100000 * 5 := by
    refine ⟨Int.mul_nonneg (by omega) (by omega), ?_⟩;exact Int.mul_le_mul (by omega) (by omega) (by omega) (by omega)
  by_cases h0 : q = 0
  · rw [h0, decide_eq_true (show ((0 : Nat) : Int) = 0 from rfl), Bool.not_true, cond_false, cn (by omega), bU]
    rw [decide_eq_false (show ¬ 0 < 0 by omega), Bool.or_false]
    have : n + ((0 : Nat) : Int) * ((l.length : Int) - 1) = n := by simp
    rw [this]
  · have a0 : at_ [c] 0 = c := rfl
    rw [decide_eq_false (show ¬ ((q : Int) = 0) by omega), Bool.not_false, cond_true, ck (by simp), bk, a0, ck (by omega), bk, uQ, ht]
    have e : (Option.getD (some l) [] : Bs) = l := rfl
    rw [e, cn (by omega), cn (by omega), cn (by omega), cn (by omega), bU, decide_eq_true (show 0 < q by omega), Bool.or_true]
theorem long_end (F : Nat) (s : Bs) (k : Nat) (n : Int) (an : Bool) : cw F s (k + 1) (n, an, ((4 : Nat) : Int)) = di F s n an := by
  show eA F s (cw F s k) n an ((4 : Nat) : Int) = _
  unfold eA
  have h4 : entRep.length = 4 := rfl
  rw [bF (by omega)]
theorem rep_eq (F : Nat) (hF : 110000 < F) (s : Bs) (hs : s.length ≤ 100000) : fH F s = some (enc s) := by
  have h4 : entRep.length = 4 := rfl
  unfold fH
  rw [cn (by omega)]
  by_cases hL : (entRep.length : Int) * 8 ≤ (s.length : Int)
  · rw [bT hL]
    obtain ⟨k, hk⟩ : ∃ k, F = k + 1 + 1 + 1 + 1 + 1 := ⟨F - 5, by omega⟩
    have c1 : ct 34 s ≤ s.length := List.count_le_length
    have c2 : ct 62 s ≤ s.length := List.count_le_length
    have c3 : ct 60 s ≤ s.length := List.count_le_length
    have e0 : cw F s F ((s.length : Int), false, 0) = cw F s (k + 1 + 1 + 1 + 1 + 1) ((s.length : Int), false, ((0 : Nat) : Int)) := by rw [← hk]; rfl
    rw [e0, lO F s hs _ 0 34 [38, 113, 117, 111, 116, 59] _ _ (by omega) rfl rfl (by decide) (by omega), lO F s hs _ 1 62 [38, 103, 116, 59] _ _ (by omega) rfl rfl (by decide) (by simp; omega),
      lO F s hs _ 2 60 [38, 108, 116, 59] _ _ (by omega) rfl rfl (by decide) (by simp; omega), lO F s hs _ 3 38 [38, 97, 109, 112, 59] _ _ (by omega) rfl rfl (by decide) (by simp; omega)]
    refine (long_end F s k _ _).trans ?_;obtain ⟨t1, t2⟩ := tots s
    have := j3_eq F s hs hF
    rw [t1, t2] at this
    rw [← this]
    have ea : ((((false || decide (0 < ct 34 s)) || decide (0 < ct 62 s)) || decide (0 < ct 60 s)) || decide (0 < ct 38 s)) = decide (0 < ct 34 s + ct 62 s + ct 60 s + ct 38 s) := by
      rw [Bool.eq_iff_iff]
      simp only [Bool.false_or, Bool.or_eq_true, decide_eq_true_iff]
      omega
    rw [ea]
    congr 1
    simp
    omega
  · rw [bF hL]
    have := uh F hF s hs F 0 (s.length : Int) false (by omega) (by omega) (by omega)
    refine Eq.trans this ?_
    rw [List.drop_zero, Bool.false_or]
    exact j3_eq F s hs hF
end Go.Pn
namespace Go.Pn
open Go.Pv Go.Av
theorem ent1_amp (F : Nat) (t : Bs) : mc F ([97, 109, 112, 59] ++ t) = some ([38], 5) := (ns t (r := [97, 109, 112, 59]) rfl).1
theorem ent1_lt (F : Nat) (t : Bs) : mc F ([108, 116, 59] ++ t) = some ([60], 4) := (ns t (r := [108, 116, 59]) rfl).1
theorem ent1_gt (F : Nat) (t : Bs) : mc F ([103, 116, 59] ++ t) = some ([62], 4) := (ns t (r := [103, 116, 59]) rfl).1
theorem vW (F : Nat) (t : Bs) : mc F ([113, 117, 111, 116, 59] ++ t) = some ([34], 6) := (ns t (r := [113, 117, 111, 116, 59]) rfl).1
theorem G1_enc (F : Nat) : ∀ (m : Nat) (s acc : Bs), (enc s).length < m → G1 F m (enc s) true acc = (acc ++ s, true) := by
  intro m
  induction m with
  | zero => intro s acc h; omega
  | succ m ih =>
    intro s acc h
    cases s with
    | nil => simp [enc, G1]
    | cons c r =>
      rw [kL] at h ⊢
      have go : ∀ (b : Bs) (k : Nat), e1 c = 38 :: b → mc F (b ++ enc r) = some ([c], k) → k = b.length + 1 → G1 F (m + 1) (e1 c ++ enc r) true acc = (acc ++ c :: r, true) := by
        intro b k he h1 hk
        rw [he] at h ⊢
        simp only [List.cons_append, List.length_cons, List.length_append] at h
        rw [List.cons_append]
        simp only [G1, if_true, h1]
        have hd : (38 :: (b ++ enc r)).drop k = enc r := by
          rw [hk, List.drop_succ_cons, List.drop_left]
        rw [hd, ih r (acc ++ [c]) (by omega)]
        simp
      by_cases h1 : c = 38
      · exact go [97, 109, 112, 59] 5 (by rw [h1]; rfl) (by rw [h1]; exact ent1_amp F _) rfl
      by_cases h2 : c = 60
      · exact go [108, 116, 59] 4 (by rw [h2]; rfl) (by rw [h2]; exact ent1_lt F _) rfl
      by_cases h3 : c = 62
      · exact go [103, 116, 59] 4 (by rw [h3]; rfl) (by rw [h3]; exact ent1_gt F _) rfl
      by_cases h4 : c = 34
      · exact go [113, 117, 111, 116, 59] 6 (by rw [h4]; rfl) (by rw [h4]; exact vW F _) rfl
      · have e : e1 c = [c] := by unfold e1; rw [tab_no h1 h2 h3 h4]; rfl
        rw [e] at h ⊢
        simp only [List.length_append, List.length_singleton] at h
        show G1 F (m + 1) (c :: enc r) true acc = _
        simp only [G1]
        rw [if_neg h1, ih r (acc ++ [c]) (by omega)]
        simp
def okB (c : UInt8) : Bool := !(((decide (c = 60)) || (decide (c = 62))) || (decide (c = 34)))
theorem e1_ok (c : UInt8) : (e1 c).all okB = true := by
  have := oV (fun c => (e1 c).all okB) (by decide +kernel) c
  exact this
theorem enc_ok (s : Bs) : (enc s).all okB = true := by
  induction s with
  | nil => rfl
  | cons c r ih => rw [kL, List.all_append, e1_ok, ih]; rfl
end Go.Pn
namespace Go.Xm
open Go.Pv Go.Av
open Go.Pn (enc)
def wtA : List At → Nat
  | [] => 0
  | a :: r => a.1.length + a.2.length + 1 + wtA r
def wtT (t : Tok) : Nat := t.2.1.length + t.2.2.1.length + wtA t.2.2.2 + 1
def wt : List Tok → Nat
  | [] => 0
  | t :: r => wtT t + wt r
theorem sa : ∀ a b : List At, wtA (a ++ b) = wtA a + wtA b
  | [], b => by simp [wtA]
  | x :: a, b => by rw [List.cons_append, wtA, wtA, sa a b]; omega
theorem mJ : ∀ a b : List Tok, wt (a ++ b) = wt a + wt b
  | [], b => by simp [wt]
  | x :: a, b => by rw [List.cons_append, wt, wt, mJ a b]; omega
theorem oS : ∀ a : List At, a.length ≤ wtA a
  | [] => Nat.le_refl _
  | x :: a => by have := oS a; rw [List.length_cons, wtA]; omega
theorem pP : ∀ a : List Tok, a.length ≤ wt a
  | [] => Nat.le_refl _
  | x :: a => by have := pP a; rw [List.length_cons, wt, wtT]; omega
theorem wt_drop {l : List Tok} {i : Nat} (h : i < l.length) : wt (l.drop i) = wtT l[i] + wt (l.drop (i + 1)) := by rw [aN h, wt]
theorem wtA_drop {l : List At} {i : Nat} (h : i < l.length) : wtA (l.drop i) = l[i].1.length + l[i].2.length + 1 + wtA (l.drop (i + 1)) := by rw [aN h, wtA]
theorem wt_take (l : List Tok) (i : Nat) : wt (l.take i) + wt (l.drop i) = wt l := by
  rw [← mJ, List.take_append_drop]
theorem wtA_take (l : List At) (i : Nat) : wtA (l.take i) + wtA (l.drop i) = wtA l := by
  rw [← sa, List.take_append_drop]
theorem uO : ∀ {l : List Tok} {t : Tok}, t ∈ l → wtT t ≤ wt l
  | x :: l, t, h => by
    rw [wt]
    rcases List.mem_cons.1 h with h | h
    · subst h; omega
    · have := uO h; omega
theorem wt_ats {l : List Tok} : AtS l (wt l) := fun t h => by
  have := uO h
  have := oS t.2.2.2
  unfold wtT at *
  omega
abbrev wrO (l : List Tok) : Bs := wr enc l
theorem sq : ∀ l : List Tok, (wrO l).length ≤ 6 * wt l
  | [] => by simp [wr]
  | t :: r => by
    have ih := sq r
    have ha : ∀ as_ : List At, ((as_.map (wrA enc)).flatten).length ≤ 6 * wtA as_ := fun as_ => by
      induction as_ with
      | nil => simp
      | cons a as_ iha =>
        have := (Go.Pn.enc_len a.2).2
        have hA : (wrA enc a).length ≤ 6 * (a.1.length + a.2.length + 1) := by
          unfold wrA
          simp only [List.length_append, List.length_singleton, List.length_cons, List.length_nil]
          omega
        rw [List.map_cons, List.flatten_cons, List.length_append, wtA]
        omega
    have h1 := ha t.2.2.2
    have h2 := (Go.Pn.enc_len t.2.2.1).2
    have ht : (wrT enc t).length ≤ 6 * wtT t := by
      unfold wrT wtT
      split
      · simp only [List.length_append, List.length_singleton]; omega
      · split
        · simp only [List.length_append, List.length_singleton, List.length_cons, List.length_nil]; omega
        · omega
    unfold wrO wr at ih ⊢
    rw [List.map_cons, List.flatten_cons, List.length_append, wt]
    omega
theorem wr_take (l : List Tok) (i : Nat) (h : i < l.length) : wrO (l.take (i + 1)) = wrO (l.take i) ++ wrT enc l[i] := by
  unfold wrO wr
  rw [List.take_succ_eq_append_getElem h, List.map_append, List.flatten_append]
  simp
theorem grd_W {α : Type} {k : Option α} {l s : Bs} (h : l.length + s.length ≤ 1000000000) : grd (okW l s) k = k := by
  unfold okW; rw [iP h]
section
variable {F : Nat} (hF : 1500000 < F)
include hF
def wrR (F : Nat) (l : List Tok) (w : Bs) : Bs × Int := if w.length ≤ 100000 ∧ hO (dec F) w = (l, 0) then (w, 0) else ([], 1)
theorem wr_j1 (l : List Tok) (w : Bs) (hw : w.length ≤ 10000000) (hl : wt l ≤ 1000000) : gG F l w = some (wrR F l w) := by
  unfold gG wrR
  rw [grd_W (by simp; omega), dJ (by omega)]
  by_cases h : w.length ≤ 100000
  · rw [ss hF h, show hO (dec F) w = ((hO (dec F) w).1, (hO (dec F) w).2) from rfl, aY]
    rw [sp F _ _ (by have := tok_len (d := dec F) h; omega) (fun t ht => Nat.le_trans (tok_ats (Nat.le_refl _) t ht) (by omega)) (by omega), fu]
    by_cases e : (hO (dec F) w).2 = 0
    · rw [decide_eq_true e, qp, notF, fx]
      by_cases g : (hO (dec F) w).1 = l
      · rw [decide_eq_true g, qp, Bool.or_self, dR, if_pos ⟨h, by rw [← g, ← e]⟩]
      · rw [decide_eq_false g, notF, Bool.false_or, fx, if_neg fun q => g (congrArg Prod.fst q.2)]
    · rw [decide_eq_false e, notF, qp, Bool.true_or, fx, if_neg fun q => e (congrArg Prod.snd q.2)]
  · rw [tok_over (by omega), aY]
    rw [decide_eq_false (p := (4 : Int) = 0) (by decide), notF, qp, jC, Bool.true_or, fx, if_neg fun q => h q.1]
theorem wr_in (l : List Tok) (i : Nat) (hi : i < l.length) (hl : wtT l[i] ≤ 100000) (hi2 : l.length ≤ 1000000) (rec11 : Int × Bs → Option (Bs × Int)) : ∀ (n j : Nat) (w : Bs), l[i].2.2.2.length - j < n → j ≤ l[i].2.2.2.length → w.length + 6 * wtA (l[i].2.2.2.drop j) ≤ 10000000 →
    iC F (i : Int) l[i] rec11 n ((j : Int), w) = ek (i : Int) rec11 (w ++ ((l[i].2.2.2.drop j).map (wrA enc)).flatten ++ [62])
  | 0, j, w, h, _, _ => by omega
  | n + 1, j, w, h, hj, hw => by
    have hb := hl
    have hb2 := oS l[i].2.2.2
    unfold wtT at hb
    show iE F (i : Int) l[i] rec11 (iC F (i : Int) l[i] rec11 n) (j : Int) w = _
    unfold iE
    by_cases g : j < l[i].2.2.2.length
    · have hd := wtA_drop g
      have ht := wtA_take l[i].2.2.2 j
      have he := (Go.Pn.enc_len l[i].2.2.2[j].2).2
      rw [bT (by omega), ck (by omega), bk, dS g, dJ (by simp; omega), bk, dJ (by simp; omega), bk, Go.Pn.rep_eq F (by omega) _ (by omega), bN, dJ (by simp; omega), bk, dJ (by simp; omega), bk,
        grd_W (by simp; omega), bk, cn (by omega), bU, wr_in l i hi hl hi2 rec11 n (j + 1) _ (by omega) (by omega) (by simp; omega), aN g, List.map_cons, List.flatten_cons]
      unfold wrA
      simp
    · rw [bF (by omega), aU (by omega)]
      unfold iB
      rw [grd_W (by simp; omega), bk]
      simp
theorem uX (l : List Tok) (hl : wt l ≤ 1000000) (hM : ∀ t ∈ l, wtT t ≤ 100000) : ∀ (n i : Nat), l.length - i < n → i ≤ l.length → cG F l n ((i : Int), wrO (l.take i)) = some (wrR F l (wrO l))
  | 0, i, h, _ => by omega
  | n + 1, i, h, hi => by
    have hll := pP l
    have hk := sq (l.take i)
    have hk2 := wt_take l i
    show iD F l (cG F l n) (i : Int) (wrO (l.take i)) = _
    unfold iD
    by_cases g : i < l.length
    · have hd := wt_drop g
      have hb : wtT l[i] = l[i].2.1.length + l[i].2.2.1.length + wtA l[i].2.2.2 + 1 := rfl
      have he := (Go.Pn.enc_len l[i].2.2.1).2
      have hm := hM _ (List.getElem_mem g)
      have ih := uX l hl hM n (i + 1) (by omega) (by omega)
      have go : ∀ w : Bs, w = wrO (l.take i) ++ wrT enc l[i] → ek (i : Int) (cG F l n) w = some (wrR F l (wrO l)) := fun w e => by
        unfold ek
        rw [cn (by omega), bU, e, ← wr_take l i g]
        exact ih
      rw [bT (by omega), ck (by omega), bk, dS g]
      by_cases k0 : l[i].1 = 0
      · rw [bT k0, dJ (by simp; omega), bk, grd_W (by simp; omega), bk]
        have := oS l[i].2.2.2
        have h1 := wr_in hF l i g hm (by omega) (cG F l n) F 0 (wrO (l.take i) ++ ([60] ++ l[i].2.1)) (by omega) (by omega) (by simp; omega)
        refine Eq.trans h1 (go _ ?_)
        unfold wrT
        rw [if_pos k0, List.drop_zero]
        simp
      · rw [bF k0]
        by_cases k1 : l[i].1 = 1
        · rw [bT k1, dJ (by simp; omega), bk, dJ (by simp; omega), bk, grd_W (by simp; omega), bk]
          refine go _ ?_
          unfold wrT
          rw [if_neg k0, if_pos k1]
        · rw [bF k1, Go.Pn.rep_eq F (by omega) _ (by omega), bN, grd_W (by omega), bk]
          refine go _ ?_
          unfold wrT
          rw [if_neg k0, if_neg k1]
    · have e : l.take i = l := List.take_of_length_le (by omega)
      rw [bF (by omega), e]
      exact wr_j1 hF l _ (by have := sq l; omega) hl
theorem tQ (l : List Tok) (hl : wt l ≤ 1000000) (hM : ∀ t ∈ l, wtT t ≤ 100000) : kI F l = some (wrR F l (wrO l)) := by
  have := pP l
  exact uX hF l hl hM F 0 (by omega) (by omega)
end
def fewA (as_ : List At) : Bool := as_.all fun a => decide (a.1.length ≤ 200) && decide (a.2.length ≤ 200)
theorem vU (a : At) (r : List At) : fewA (a :: r) = ((decide (a.1.length ≤ 200) && decide (a.2.length ≤ 200)) && fewA r) := Eq.symm (Eq.symm rfl)
theorem fewA_nil : fewA [] = true := Eq.symm (Eq.symm rfl)
def fewT (t : Tok) : Bool := ((decide (t.2.1.length ≤ 200) && decide (t.2.2.1.length ≤ 200)) && decide (t.2.2.2.length ≤ 10)) && fewA t.2.2.2
theorem few_in (F : Nat) (l : List Tok) (i : Nat) (hi : i < l.length) (h10 : l[i].2.2.2.length ≤ 10) (rec7 : Int → Option Bool) : ∀ (n j : Nat), l[i].2.2.2.length - j < n → j ≤ l[i].2.2.2.length →
    gV l (i : Int) rec7 n (j : Int) = bif fewA (l[i].2.2.2.drop j) then fN (i : Int) rec7 else some false
  | 0, j, h, _ => by omega
  | n + 1, j, h, hj => by
    show gX l (i : Int) rec7 (gV l (i : Int) rec7 n) (j : Int) = _
    unfold gX
    rw [ck (by omega), bk, dS hi]
    by_cases g : j < l[i].2.2.2.length
    · rw [bT (by omega), ck (by omega), bk, ck (by omega), bk, kr (fun _ => by omega), bk, kr (fun _ => by omega), bk, dS g, aN g, vU]
      by_cases c1 : l[i].2.2.2[j].1.length ≤ 200
      · by_cases c2 : l[i].2.2.2[j].2.length ≤ 200
        · rw [decide_eq_true c1, decide_eq_true c2, decide_eq_false (p := (200 : Int) < (l[i].2.2.2[j].1.length : Int)) (by omega), decide_eq_false (p := (200 : Int) < (l[i].2.2.2[j].2.length : Int)) (by omega), Bool.or_self, dR, cn (by omega), bU, few_in F l i hi h10 rec7 n (j + 1) (by omega) (by omega), Bool.true_and, Bool.true_and]
        · rw [decide_eq_false c2, decide_eq_true (p := (200 : Int) < (l[i].2.2.2[j].2.length : Int)) (by omega), Bool.or_true, fx, Bool.and_false, Bool.false_and, dR]
      · rw [decide_eq_false c1, decide_eq_true (p := (200 : Int) < (l[i].2.2.2[j].1.length : Int)) (by omega), Bool.true_or, fx, Bool.false_and, Bool.false_and, dR]
    · rw [bF (by omega), aU (by omega), fewA_nil, fx]
theorem tI (F : Nat) (hF : 1500000 < F) (l : List Tok) (hl : l.length ≤ 40) : ∀ (n i : Nat), l.length - i < n → i ≤ l.length → cM F l n (i : Int) = some ((l.drop i).all fewT)
  | 0, i, h, _ => by omega
  | n + 1, i, h, hi => by
    show gW F l (cM F l n) (i : Int) = _
    unfold gW
    by_cases g : i < l.length
    · have ih := tI F hF l hl n (i + 1) (by omega) (by omega)
      rw [bT (by omega), ck (by omega), bk, kr (fun _ => by omega), bk, kr (fun _ => by omega), bk, dS g, aN g, List.all_cons]
      unfold fewT
      by_cases c1 : l[i].2.1.length ≤ 200
      · by_cases c2 : l[i].2.2.1.length ≤ 200
        · by_cases c3 : l[i].2.2.2.length ≤ 10
          · rw [decide_eq_true c1, decide_eq_true c2, decide_eq_true c3, decide_eq_false (p := (200 : Int) < (l[i].2.1.length : Int)) (by omega), decide_eq_false (p := (200 : Int) < (l[i].2.2.1.length : Int)) (by omega), decide_eq_false (p := (10 : Int) < (l[i].2.2.2.length : Int)) (by omega), Bool.or_self, Bool.or_self, dR]
            have := few_in F l i g c3 (cM F l n) F 0 (by omega) (by omega)
            refine Eq.trans this ?_
            rw [List.drop_zero, Bool.and_self, Bool.and_self, Bool.true_and]
            cases fewA l[i].2.2.2 with
            | false => rw [dR, Bool.false_and]
            | true =>
              rw [fx, Bool.true_and]
              unfold fN
              rw [cn (by omega), bU, ih]
              rfl
          · rw [decide_eq_false c3, decide_eq_true (p := (10 : Int) < (l[i].2.2.2.length : Int)) (by omega), Bool.or_true, fx, Bool.and_false, Bool.false_and, Bool.false_and]
        · rw [decide_eq_false c2, decide_eq_true (p := (200 : Int) < (l[i].2.2.1.length : Int)) (by omega), Bool.or_true, Bool.true_or, fx, Bool.and_false, Bool.false_and, Bool.false_and, Bool.false_and]
      · rw [decide_eq_false c1, decide_eq_true (p := (200 : Int) < (l[i].2.1.length : Int)) (by omega), Bool.true_or, Bool.true_or, fx, Bool.false_and, Bool.false_and, Bool.false_and, Bool.false_and]
    · rw [bF (by omega), aU (by omega)]; rfl
theorem vr : ∀ {as_ : List At}, fewA as_ = true → wtA as_ ≤ 401 * as_.length
  | [], _ => by simp [wtA]
  | a :: as_, h => by
    unfold fewA at h
    rw [List.all_cons] at h
    obtain ⟨h1, h2⟩ := ands h;obtain ⟨h3, h4⟩ := ands h1
    have := vr (as_ := as_) h2
    have := of_decide_eq_true h3
    have := of_decide_eq_true h4
    rw [wtA, List.length_cons]
    omega
theorem uU : ∀ {l : List Tok}, l.all fewT = true → wt l ≤ 5000 * l.length
  | [], _ => by simp [wt]
  | t :: l, h => by
    rw [List.all_cons] at h
    obtain ⟨h1, h2⟩ := ands h
    unfold fewT at h1
    obtain ⟨h3, h4⟩ := ands h1;obtain ⟨h5, h6⟩ := ands h3;obtain ⟨h7, h8⟩ := ands h5
    have := uU (l := l) h2
    have := vr h4
    have := of_decide_eq_true h6
    have := of_decide_eq_true h7
    have := of_decide_eq_true h8
    rw [wt, wtT, List.length_cons]
    omega
theorem few_is (F : Nat) (hF : 1500000 < F) (l : List Tok) : jn F l 40 = some true ∧ (wt l ≤ 200000 ∧ ∀ t ∈ l, wtT t ≤ 100000) ∨ jn F l 40 = some false := by
  unfold jn
  by_cases h : l.length ≤ 40
  · rw [bF (by omega)]
    have e : cM F l F 0 = some ((l.drop 0).all fewT) := tI F hF l h F 0 (by omega) (by omega)
    rw [e, List.drop_zero]
    cases g : l.all fewT with
    | true =>
      left
      have := uU g
      refine ⟨rfl, by omega, fun t ht => ?_⟩
      have h1 := uU (l := [t]) (by rw [List.all_cons, List.all_nil, Bool.and_true]; exact List.all_eq_true.1 g t ht)
      rw [wt, List.length_singleton] at h1
      omega
    | false => right; rfl
  · right; rw [bT (by omega)]
end Go.Xm
namespace Go.Xm
open Go.Pv Go.Av
open Go.Pn (enc)
theorem tw_le (f : UInt8 → Bool) (s : Bs) : (s.takeWhile f).length + (s.dropWhile f).length = s.length := by
  have := congrArg List.length (List.takeWhile_append_dropWhile (p := f) (l := s))
  rwa [List.length_append] at this
def DecL (d : Bs → Option Bs) : Prop := ∀ s t : Bs, s.length ≤ 100000 → d s = some t → t.length ≤ 2 * s.length
theorem dec_len {F : Nat} (hF : 1500000 < F) : DecL (dec F) := fun s t hs h => by
  obtain ⟨o, k, h1, h2⟩ := Go.Pn.gone_tot F F s true [] (by omega) hs (by omega) (by simp; omega)
  have h3 : lH F s = some (o, k) := h1
  rw [Go.Pn.goneG F (by omega) s hs] at h3
  have e := am h3
  unfold dec at h
  rw [e] at h
  rw [List.length_nil] at h2
  cases k with
  | false => cases h
  | true => have : o = t := am h; rw [← this]; omega
theorem uW (t : Bs) (l : List Tok) : wt (jY t l) ≤ wt l + 2 * t.length := by
  unfold jY
  by_cases h : t = []
  · rw [if_pos h]; omega
  · have := List.length_pos_iff.2 h
    rw [if_neg h, mJ, wt, wt, wtT]
    simp only [List.length_nil, wtA]
    omega
section
variable {d : Bs → Option Bs} (hd : DecL d)
include hd
theorem tM {n s : Bs} {q : UInt8} {a : At} {r : Bs} (hs : s.length ≤ 100000) (h : lv d n q s = some (a, r)) : a.1 = n ∧ a.2.length + 2 + 2 * r.length ≤ 2 * s.length := by
  unfold lv at h
  cases e : iy [q] s with
  | none => rw [e] at h; cases h
  | some x =>
    obtain ⟨raw, r'⟩ := x
    have hl := congrArg List.length (jA (by simp) e)
    simp only [List.length_append, List.length_singleton] at hl
    rw [e] at h
    simp only at h
    split at h
    · cases h
    · split at h
      · cases h
      · rename_i t ht
        have := hd raw t (by omega) ht
        cases h
        refine ⟨rfl, ?_⟩
        simp only
        omega
theorem attrP_wt {s : Bs} {a : At} {r : Bs} (hs : s.length ≤ 100000) (h : jb d s = some (a, r)) : a.1.length + a.2.length + 1 + 2 * r.length ≤ 2 * s.length := by
  unfold jb at h
  cases e : fO s with
  | none => rw [e] at h; cases h
  | some x =>
    obtain ⟨n, r'⟩ := x
    have hl := congrArg List.length (fv e).1
    rw [List.length_append] at hl
    rw [e] at h
    simp only at h
    split at h
    · rename_i g
      obtain ⟨h1, h2⟩ := tM hd (by rw [List.length_drop]; omega) h
      rw [h1]
      rw [List.length_drop] at h2
      omega
    · split at h
      · obtain ⟨h1, h2⟩ := tM hd (by rw [List.length_drop]; omega) h
        rw [h1]
        rw [List.length_drop] at h2
        omega
      · cases h
theorem rt : ∀ {k : Nat} {as_ : List At} {s : Bs} {bs : List At} {e : Bool} {r : Bs}, s.length ≤ 100000 → eL d k as_ s = some (bs, e, r) → wtA bs + 2 * r.length ≤ wtA as_ + 2 * s.length
  | 0, _, _, _, _, _, _, h => by cases h
  | k + 1, as_, s, bs, e, r, hs, h => by
    have hw := oO eV s
    unfold eL at h
    split at h
    · cases h; simp only [List.length_drop]; omega
    · split at h
      · cases h; simp only [List.length_drop]; omega
      · split at h
        · cases h
        · cases ea : jb d (s.dropWhile eV) with
          | none => rw [ea] at h; cases h
          | some x =>
            obtain ⟨a, r'⟩ := x
            rw [ea] at h
            simp only at h
            have h1 := attrP_wt hd (by omega) ea
            split at h
            · cases h
            · have := rt (by omega) h
              rw [sa, wtA, wtA] at this
              omega
theorem step_wt {s : Bs} {o : List Bs} {k : Nat} {l : List Tok} {x : Sx} (hs : s.length ≤ 100000) (h : eT d s o k l = .ok x) : wt x.2.2.2 + 4 * x.1.length ≤ wt l + 4 * s.length := by
  have sk : ∀ {p s' : Bs} {y : Sx}, p ≠ [] → s'.length ≤ s.length → hH p s' o k l = .ok y → wt y.2.2.2 + 4 * y.1.length ≤ wt l + 4 * s.length := fun hp hl q => by
    have := (gq hp q).1
    rw [kJ q]
    simp only
    omega
  unfold eT at h
  split at h
  · unfold iM at h
    have hl := tw_le (fun c => decide (c ≠ 60)) s
    split at h
    · cases h
    · rename_i t ht
      have := hd _ t (by omega) ht
      split at h
      · split at h
        · cases h; simp only; omega
        · cases h
      · cases h
        have := uW t l
        simp only; omega
  split at h
  · exact sk (by simp) (by simp) h
  split at h
  · exact sk (by simp) (by simp) h
  split at h
  · unfold mb at h
    cases e : iy [93, 93, 62] (s.drop 9) with
    | none => rw [e] at h; cases h
    | some y =>
      obtain ⟨t, r⟩ := y
      have hl := congrArg List.length (jA (by simp) e)
      simp only [List.length_append, List.length_drop] at hl
      rw [e] at h
      simp only at h
      split at h
      · cases h
      · cases h
        have := uW t l
        simp only; omega
  split at h
  · exact sk (by simp) (by simp) h
  split at h
  · unfold oQ at h
    cases e : fO (s.drop 2) with
    | none => rw [e] at h; cases h
    | some y =>
      obtain ⟨n, r⟩ := y
      have hl := congrArg List.length (fv e).1
      simp only [List.length_append, List.length_drop] at hl
      have hp := pI (fv e).2
      have hw := oO eV r
      rw [e] at h
      simp only at h
      split at h
      · unfold jx at h
        split at h
        · cases h
          simp only [List.length_drop]
          rw [mJ, wt, wt, wtT]
          simp only [List.length_nil, wtA]
          omega
        · cases h
      · cases h
  · unfold lf at h
    cases e : fO (s.drop 1) with
    | none => rw [e] at h; cases h
    | some y =>
      obtain ⟨n, r⟩ := y
      have hl := congrArg List.length (fv e).1
      simp only [List.length_append, List.length_drop] at hl
      have hp := pI (fv e).2
      rw [e] at h
      simp only at h
      cases ea : eL d (r.length + 1) [] r with
      | none => rw [ea] at h; cases h
      | some z =>
        obtain ⟨as_, em, r'⟩ := z
        have hw := rt hd (by omega) ea
        rw [wtA] at hw
        rw [ea] at h
        simp only at h
        unfold lu at h
        split at h
        · cases h
        · split at h
          · cases h
          · split at h
            · cases h
              simp only
              rw [mJ, mJ, wt, wt, wt, wt, wtT, wtT]
              simp only [List.length_nil, wtA]
              omega
            · cases h
              simp only
              rw [mJ, wt, wt, wtT]
              simp only [List.length_nil]
              omega
theorem run_wt : ∀ {n : Nat} {x y : Sx}, x.1.length ≤ 100000 → ix d n x = .ok y → wt y.2.2.2 + 4 * y.1.length ≤ wt x.2.2.2 + 4 * x.1.length
  | 0, _, _, _, h => by cases h
  | n + 1, (s, o, k, l), y, hs, h => by
    unfold ix at h
    by_cases h0 : s = []
    · rw [if_pos h0] at h; cases h; exact Nat.le_refl _
    · rw [if_neg h0] at h
      cases e : eT d s o k l with
      | no e' => rw [e] at h; cases h
      | ok z =>
        rw [e] at h
        have h1 := ni h0 e
        have h2 := step_wt hd hs e
        simp only at hs h2 ⊢
        have := run_wt (x := z) (by omega) h
        omega
theorem tok_wt {s : Bs} (hs : s.length ≤ 100000) : wt (hO d s).1 ≤ 4 * s.length := by
  rw [nu]
  cases e : ix d (s.length + 1) (s, [], 0, []) with
  | no e => simp [tokE, wt]
  | ok x =>
    have := run_wt hd (x := (s, [], 0, [])) hs e
    obtain ⟨s', o', k', l'⟩ := x
    simp only [wt] at this
    show wt (if o' = [] ∧ 0 < k' then (l', (0 : Int)) else ([], 2)).1 ≤ _
    split
    · simp only; omega
    · simp [wt]
end
theorem dec_enc (F : Nat) : Enc (dec F) enc := ⟨fun t => by
    unfold dec
    rw [Go.Pn.G1_enc F _ t [] (by omega)]; rfl,
  fun t c hc => by
    have := List.all_eq_true.1 (Go.Pn.enc_ok t) c hc
    unfold Go.Pn.okB at this
    constructor
    · intro q; rw [q] at this; revert this; decide
    · intro q; rw [q] at this; revert this; decide,
  fun t ht e => by
    have := (Go.Pn.enc_len t).1
    rw [e, List.length_nil] at this
    have := List.length_pos_iff.2 ht
    omega⟩
def Pair (l : List Tok) (j : Nat) : Prop := ∃ (h1 : j < l.length) (h2 : j + 1 < l.length), l[j].1 = 2 ∧ l[j + 1].1 = 2
theorem tP : ∀ {l : List Tok}, (∀ j, ¬ Pair l j) → rZ l
  | [], _ => trivial
  | [_], _ => trivial
  | a :: b :: r, h => ⟨fun q => h 0 ⟨by simp, by simp, q⟩, tP (l := b :: r) fun j ⟨h1, h2, h3⟩ => h (j + 1) ⟨by simpa using h1, by simpa using h2, by simpa using h3⟩⟩
theorem rr {F : Nat} (l : List Tok) (hl : l.length ≤ 1000000) : ∀ (n i : Nat), l.length + 1 - i < n → 1 ≤ i → (∀ j, j + 1 < i → ¬ Pair l j) →
    df F l n (i : Int) = some true ∨ (df F l n (i : Int) = dB F l ∧ rZ l)
  | 0, i, h, _, _ => by omega
  | n + 1, i, h, h1, hp => by
    show dC F l (df F l n) (i : Int) = _ ∨ (dC F l (df F l n) (i : Int) = _ ∧ _)
    unfold dC
    by_cases g : i < l.length
    · have g1 : i - 1 < l.length := by omega
      rw [bT (by omega), ck (by omega), bk, dS g, show (i : Int) - 1 = ((i - 1 : Nat) : Int) by omega]
      rw [show ∀ q : Option Bool, eK (decide (l[i].1 = 2)) (okI ((i - 1 : Nat) : Int)) q = q from fun q => by
        cases decide (l[i].1 = 2)
        · exact gl
        · rw [lm, cn (by omega)]]
      rw [kr (fun _ => by omega), bk, dS g1]
      by_cases q : l[i].1 = 2 ∧ l[i - 1].1 = 2
      · rw [decide_eq_true q.1, decide_eq_true q.2, Bool.and_self, fx]
        exact .inl rfl
      · have : (decide (l[i].1 = 2) && decide (l[i - 1].1 = 2)) = false := by
          by_cases z : l[i].1 = 2
          · rw [decide_eq_false (p := l[i - 1].1 = 2) fun w => q ⟨z, w⟩, Bool.and_false]
          · rw [decide_eq_false z, Bool.false_and]
        rw [this, dR, cn (by omega), bU]
        refine rr l hl n (i + 1) (by omega) (by omega) fun j hj => ?_
        by_cases w : j + 1 < i
        · exact hp j w
        · have : j = i - 1 := by omega
          subst this;rintro ⟨a, b, c, e⟩
          have e2 : l[i - 1 + 1].1 = l[i].1 := by congr 2; omega
          exact q ⟨by rw [← e2]; exact e, c⟩
    · rw [bF (by omega)]
      refine .inr ⟨rfl, tP fun j => ?_⟩
      by_cases w : j + 1 < i
      · exact hp j w
      · rintro ⟨a, b, c⟩; omega
theorem back_t (F : Nat) (hF : 1500000 < F) (hw : iJ F = some true) (a : List Tok) (s : Bs) : gh F a s = some true := by
  have hdl := dec_len hF
  unfold gh
  rw [hw, bN, qp]
  have hj2 : s.length ≤ 2000 → de F s = some true := fun hs => by
    have hwt := tok_wt hdl (s := s) (by omega)
    unfold de
    rw [ss hF (by omega), show hO (dec F) s = ((hO (dec F) s).1, (hO (dec F) s).2) from rfl, aY]
    by_cases g : (hO (dec F) s).2 = 0
    · rw [decide_eq_true g, bnT]
      have hll := pP (hO (dec F) s).1
      rcases rr (F := F) (hO (dec F) s).1 (by omega) F 1 (by omega) (by omega) (fun j h => by omega) with h | ⟨h, hap⟩
      · exact h
      · refine Eq.trans h ?_
        have htw := tok_wr (dec_enc F) (s := s) (l := (hO (dec F) s).1) (by rw [← g]) (fun e he => run_no he) hap
        have hlen := sq (hO (dec F) s).1
        have hW : kI F (hO (dec F) s).1 = some (wrO (hO (dec F) s).1, 0) := by
          rw [tQ hF _ (by omega) fun t ht => Nat.le_trans (uO ht) (by omega)]
          unfold wrR
          rw [if_pos ⟨by omega, htw⟩]
        unfold dB
        rw [hW, aY, ss hF (by omega), htw, aY]
        rw [sp F _ _ (by omega) (fun t ht => Nat.le_trans (wt_ats t ht) (by omega)) (by omega), decide_eq_true rfl, Bool.and_self, bndc_t, bN, decide_eq_true rfl]; rfl
    · rw [decide_eq_false g, bnF, tok_err g]; rfl
  rcases few_is F hF a with ⟨h1, h2, h3⟩ | h1
  · rw [h1, bN, qp, Bool.false_or, Bool.false_or]
    by_cases h : 2000 < s.length
    · rw [bT (by omega)]
    · rw [bF (by omega), tQ hF a (by omega) h3]
      unfold wrR
      by_cases g : (wrO a).length ≤ 100000 ∧ hO (dec F) (wrO a) = (a, 0)
      · rw [if_pos g, aY, bT rfl, ss hF g.1, g.2, aY, sp F _ _ (by have := pP a; omega) (fun t ht => Nat.le_trans (wt_ats t ht) (by omega)) (by omega), fu]
        rw [decide_eq_true rfl, decide_eq_true rfl, qp, notF, fx, qp, Bool.or_self, dR]
        exact hj2 (by omega)
      · rw [if_neg g, aY, bF (by decide)]
        exact hj2 (by omega)
  · rw [h1, bN, notF, Bool.false_or, Bool.true_or, fx]
theorem XmlBack_t (a : List Tok) (s : Bs) : gh 2000000 a s = some true := back_t 2000000 (by omega) awake a s
end Go.Xm
namespace Go.Av
open Go.RowKit Go.ChangeShapes Go.WideShapes
section
variable {H : Type} {enc : TypeId × Value → H} {P : Program} {w : World}
def pV {H : Type} (enc : TypeId × Value → H) (P : Program) (w : World) (t : TypeId) {α : Type} (E : α → List AV) (p : α → Prop) : Prop :=
  ∀ fuel cs d, DataW.trod enc P w 0 (fun _ => true) true fuel t cs = some d → ∃ x, p x ∧ RelL (Info.start w) w (E x) cs
theorem opens_int {t : TypeId} {k : IntKind} (ht : P.underlying t = some (.int k)) : pV enc P w t (fun n : Int => [.v (.int k n)]) (fun n => (Lit.int k n).wf = true) := by
  intro fuel cs d h;obtain ⟨n, rfl, _, hw⟩ := DataW.trod_int ht h;exact ⟨n, hw, .cons (.v _) .nil⟩
theorem opens_str {t : TypeId} (ht : P.underlying t = some .string) : pV enc P w t (fun s : List UInt8 => [S s]) (fun s => s.length ≤ maxLen) := by
  intro fuel cs d h;obtain ⟨s, rfl, _, hw⟩ := DataW.trod_string ht h;refine ⟨s.data.toList, by simpa using hw, .cons (uk _ _ s) .nil⟩
theorem add_add (a : Addr) (m r : Nat) : (a.add m).add r = a.add (m + r) := by
  unfold Addr.add
  by_cases hm : m = 0
  · subst hm; simp
  · by_cases hr : r = 0
    · subst hr; simp
    · simp [hm, hr, Nat.add_assoc]
theorem opens_slice {t e : TypeId} {α β : Type} {E : α → List AV} {p : α → Prop} (G : Enc β) (g : α → β) (ht : P.underlying t = some (.slice e)) (hc : P.cellsOf e = G.k)
    (h : pV enc P w e E p) (hg : ∀ x, E x = G.f (g x)) : pV enc P w t (fun l : List β => [slE G l none]) (fun l => l.length ≤ maxLen ∧ ∀ y ∈ l, ∃ x, g x = y ∧ p x) := by
  intro fuel cs d hd
  rcases DataW.trod_slice ht hd with ⟨rfl, _⟩ | ⟨a, len, cap, elems, rest, n, _, rfl, _, _, hl, hm, hlen, hel, _, _⟩
  · exact ⟨[], ⟨by simp, by simp⟩, .cons (.slz _ _ _) .nil⟩
  · have go : ∀ r i, i + r = len → ∃ (l : List β) (vs : List Value), (l.length = r ∧ ∀ y ∈ l, ∃ x, g x = y ∧ p x) ∧ RelL (Info.start w) w (G.fl l) vs ∧ ∀ j, j < vs.length → w.cell? (a.add (i * G.k + j)) = vs[j]? := by
      intro r
      induction r with
      | zero => intro i hi; exact ⟨[], [], ⟨rfl, by simp⟩, .nil, fun j hj => by simp at hj⟩
      | succ r ih =>
        intro i hi
        have hb := hel i (by omega)
        rw [aD (by omega), Option.bind_eq_some_iff] at hb
        obtain ⟨cs', hcs, hy⟩ := hb
        rw [hc] at hcs
        obtain ⟨_, hcl, hce⟩ := World.cells?_some hcs;obtain ⟨x, hx, rx⟩ := h _ _ _ hy
        rw [hg] at rx
        obtain ⟨l, vs, ⟨l1, l2⟩, rl, hv⟩ := ih (i + 1) (by omega);refine ⟨g x :: l, cs' ++ vs, ⟨by simp [l1], fun y hy => ?_⟩, by rw [G.fl_cons]; exact rx.append rl, fun j hj => ?_⟩
        · rcases List.mem_cons.1 hy with rfl | hy
          · exact ⟨x, rfl, hx⟩
          · exact l2 y hy
        · by_cases hjk : j < G.k
          · have := hce j hjk
            rw [add_add] at this
            rw [this, List.getElem?_append_left (by omega)]
          · have := hv (j - G.k) (by simp at hj; omega)
            rw [List.getElem?_append_right (by omega), hcl, ← this, Nat.succ_mul]
            congr 2; omega
    obtain ⟨l, vs, ⟨l1, l2⟩, rl, hv⟩ := go len 0 (by omega);refine ⟨l, ⟨by omega, l2⟩, .cons ?_ .nil⟩
    by_cases h0 : l = []
    · subst h0
      simp at l1
      subst l1;exact .slz _ _ _
    · have hlp := List.length_pos_iff.2 h0
      have hvl : vs.length = len * G.k := by rw [rl.1, G.fl_length, l1]
      have hpos := G.pos
      have hv0 : 0 < vs.length := by rw [hvl]; exact Nat.mul_pos (by omega) hpos
      have hx0 := hv 0 hv0
      rw [aD hv0, Nat.zero_mul] at hx0
      obtain ⟨hb, hs⟩ := so hx0
      have hx : a = ⟨a.block, a.off, none⟩ := by
        have : a.add (0 + 0) = a := rfl
        rw [this] at hs
        cases a; simp at hs; subst hs; rfl
      have hb' : a.block < w.heap.size := hb
      rw [hx]
      have hadd : ∀ i, w.cell? ⟨a.block, a.off + i, none⟩ = w.cell? (a.add i) := fun i => by
        unfold Addr.add
        by_cases h : i = 0
        · rw [if_pos h]; subst h; rw [Nat.add_zero, ← hx]
        · rw [if_neg h]
      unfold slE
      have hfl : (G.fl l).length = vs.length := rl.1.symm
      refine .sl G.k (G.fl l) none a.block a.off len cap (fun j => vs.getD j undef) G.pos (by rw [hfl, hvl]) hl (mB hb') ?_ ?_ (fun _ h => by cases h)
      · intro j hj
        have := hv j (by omega)
        rw [Nat.zero_mul, Nat.zero_add] at this
        rw [hadd j, this, aD (by omega)]
        simp [List.getD, show j < vs.length by omega]
      · intro j hj
        have := rl.2 j hj
        simpa [List.getD, show j < vs.length by omega] using this
def sA {H : Type} (enc : TypeId × Value → H) (P : Program) (w : World) (tot off : Nat) (fs : List Field) {α : Type} (E : α → List AV) (p : α → Prop) : Prop :=
  ∀ (n : Nat) (cs : List Value), cs.length = tot → (∀ f ∈ fs, ∃ d, DataW.trod enc P w 0 (fun _ => true) true n f.type ((cs.drop f.offset).take (P.cellsOf f.type)) = some d) → ∃ x, p x ∧ RelL (Info.start w) w (E x) (cs.drop off)
theorem opensF_nil {tot : Nat} : sA enc P w tot tot [] (fun _ : Unit => []) (fun _ => True) := fun n cs hl _ => ⟨(), trivial, by rw [aU (by omega)]; exact .nil⟩
theorem opensF_cons {tot off k : Nat} {f : Field} {fs : List Field} {α β : Type} {E : α → List AV} {p : α → Prop} {F : β → List AV} {q : β → Prop} (ho : f.offset = off) (hk : P.cellsOf f.type = k)
    (h : pV enc P w f.type E p) (g : sA enc P w tot (off + k) fs F q) : sA enc P w tot off (f :: fs) (fun x : α × β => E x.1 ++ F x.2) (fun x => p x.1 ∧ q x.2) := by
  intro n cs hl H;obtain ⟨d, hd⟩ := H f (by simp);obtain ⟨x, hx, rx⟩ := h _ _ _ hd
  obtain ⟨y, hy, ry⟩ := g n cs hl fun f' hf' => H f' (by simp [hf'])
  refine ⟨(x, y), ⟨hx, hy⟩, ?_⟩
  rw [ho, hk] at rx
  have := rx.append ry
  rwa [← List.drop_drop, List.take_append_drop] at this
theorem opens_struct {t : TypeId} {fs : Array Field} {tot : Nat} {α : Type} {E : α → List AV} {p : α → Prop} (ht : P.underlying t = some (.struct fs)) (hc : P.cellsOf t = tot) (h : sA enc P w tot 0 fs.toList E p) :
    pV enc P w t E p := by
  intro fuel cs d hd;obtain ⟨xs, n, _, _, hl, hlen, each⟩ := DataW.trod_struct ht hd
  obtain ⟨x, hx, rx⟩ := h n cs (by omega) fun f hf => by
    obtain ⟨i, hi, rfl⟩ := List.getElem_of_mem hf
    have hi' : i < fs.size := by simpa using hi
    rw [each i _ (by simp [hi'])]
    exact ⟨xs[i]'(by omega), aD _⟩
  exact ⟨x, hx, by simpa using rx⟩
theorem one_of {t : TypeId} {v : Value} {d : DataW H} {ps : List MemPlace} {α : Type} {E : α → AV} {p : α → Prop} (hv : v.cells = #[v]) (hd : DataW.Trod enc P w 0 (fun _ => true) true t v d ps) (h : pV enc P w t (fun x => [E x]) p) :
    ∃ x, p x ∧ Rel (Info.start w) w (E x) v := by
  obtain ⟨fuel, hf⟩ := hd;obtain ⟨x, hx, rx⟩ := h _ _ _ hf
  rw [hv] at rx
  exact ⟨x, hx, rx.head⟩
end
end Go.Av
