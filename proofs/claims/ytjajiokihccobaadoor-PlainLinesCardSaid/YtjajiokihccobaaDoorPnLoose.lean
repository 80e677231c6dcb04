/-
  What goes through entities gives an answer at every text, and how long it is at most. No program is spoken of.
-/
import Derived.Test.YtjajiokihccobaaDoorPnPlain
set_option linter.unusedVariables false
set_option linter.unusedSimpArgs false
namespace Go.Pn
open Go.Pv Go.Av

theorem decR_pos (s : Bs) (p : Nat) : 1 ≤ (decR s p).2 := by
  unfold decR Utf8.decode
  simp only
  repeat' split
  all_goals simp

theorem runeStr_len (n : Int) : (runeStr n).length ≤ 4 := by
  unfold runeStr Utf8.encode
  simp only
  repeat' split
  all_goals simp

theorem runeStr_two (n : Int) (h : 128 ≤ n) : 2 ≤ (runeStr n).length ∧ ((runeStr n).length = 2 → ¬ (59 : UInt8) = at_ (runeStr n) 1) := by
  have hc : ¬ (if Utf8.valid n = true then n.toNat else Utf8.runeError) < 128 := by
    split
    · omega
    · decide
  unfold runeStr Utf8.encode
  simp only
  generalize (if Utf8.valid n = true then n.toNat else Utf8.runeError) = c at hc ⊢
  rw [if_neg hc]
  by_cases h2 : c < 2048
  · rw [if_pos h2]
    refine ⟨by simp, fun _ => ?_⟩
    show ¬ (59 : UInt8) = UInt8.ofNat (128 + c % 64)
    intro e
    have := congrArg UInt8.toNat e
    rw [UInt8.toNat_ofNat'] at this
    have e59 : (59 : UInt8).toNat = 59 := rfl
    omega
  · rw [if_neg h2]
    split <;> simp

theorem idxRune_two (F : Nat) (hF : 5 ≤ F) (r : Int) : ∃ j, idxRune F [38, 59] r = some j := by
  unfold idxRune
  by_cases h1 : 0 ≤ r ∧ r < 128
  · simp only [h1, decide_true, Bool.and_self, cond_true]; exact ⟨_, rfl⟩
  · have hf : ((decide (0 ≤ r)) && (decide (r < 128))) = false := by
      cases h : (decide (0 ≤ r)) && (decide (r < 128)) with
      | false => rfl
      | true => exact absurd (by simpa using h) h1
    rw [hf, cond_false]
    by_cases h2 : r = 65533
    · rw [bT h2]
      obtain ⟨m, rfl⟩ : ∃ m, F = m + 3 := ⟨F - 3, by omega⟩
      have e0 : decR [38, 59] 0 = (38, 1) := by decide +kernel
      have e1 : decR [38, 59] 1 = (59, 1) := by decide +kernel
      refine ⟨-1, ?_⟩
      show idxRune_B1 [38, 59] (idxRune_L1 [38, 59] (m + 2)) 0 = _
      unfold idxRune_B1
      simp only [e0]
      show idxRune_B1 [38, 59] (idxRune_L1 [38, 59] (m + 1)) 1 = _
      unfold idxRune_B1
      simp only [e1]
      rfl
    · rw [bF h2]
      have hv : ∃ b, ValidRune F r = some b ∧ (b = true → 0 ≤ r) := by
        unfold ValidRune
        by_cases ha : 0 ≤ r ∧ r < 55296
        · refine ⟨true, ?_, fun _ => ha.1⟩; simp [ha]
        · by_cases hb : 57343 < r ∧ r ≤ 1114111
          · refine ⟨true, ?_, fun _ => by omega⟩; simp [hb]
          · refine ⟨false, ?_, fun h => by cases h⟩
            have e1 : ((decide (0 ≤ r)) && (decide (r < 55296))) = false := by
              cases h : (decide (0 ≤ r)) && (decide (r < 55296)) with
              | false => rfl
              | true => exact absurd (by simpa using h) ha
            have e2 : ((decide (57343 < r)) && (decide (r ≤ 1114111))) = false := by
              cases h : (decide (57343 < r)) && (decide (r ≤ 1114111)) with
              | false => rfl
              | true => exact absurd (by simpa using h) hb
            rw [e1, e2]; rfl
      obtain ⟨b, hb, hp⟩ := hv
      rw [hb, bnd_some]
      cases b with
      | false => exact ⟨-1, rfl⟩
      | true =>
        have hr : 128 ≤ r := by have := hp rfl; omega
        obtain ⟨k1, k2⟩ := runeStr_two r hr
        have k3 := runeStr_len r
        obtain ⟨m, rfl⟩ : ∃ m, F = m + 1 := ⟨F - 1, by omega⟩
        refine ⟨-1, ?_⟩
        simp (disch := omega) only [Bool.not_true, cond_false, lt_eq, grd_I]
        show idxRune_B2 [38, 59] (runeStr r) (idxRune_L2 [38, 59] (runeStr r) m) = _
        unfold idxRune_B2 idxRune_j2
        by_cases h3 : (runeStr r).length = 2
        · have e1 : ((runeStr r).length : Int) - 1 = 1 := by omega
          have e2 : at_ ([38, 59] : Bs) 1 = 59 := rfl
          have e3 : from_ ([38, 59] : Bs) (1 + 1) = [] := rfl
          rw [e1]
          simp (disch := (first | omega | (simp; done) | (simp; omega))) only [bT, grd_At, lt_eq, e2, decide_eq_false (k2 h3), Bool.not_false, grd_t, grd_I, grd_To, e3]
          rfl
        · have : ¬ ((runeStr r).length : Int) - 1 < (([38, 59] : Bs).length : Int) := by simp; omega
          rw [bF this]

theorem indexByte_r (s : Bs) (c : UInt8) : -1 ≤ Go.Lib.indexByte s c ∧ Go.Lib.indexByte s c < s.length := by
  induction s with
  | nil => simp [Go.Lib.indexByte]
  | cons b r ih =>
    unfold Go.Lib.indexByte
    split
    · first | (simp; done) | (simp; omega)
    · split
      · first | (simp; done) | (simp; omega)
      · rename_i h
        have h' : ¬ Go.Lib.indexByte r c = -1 := by simpa using h
        simp; omega
theorem indexAny_r (s cs : Bs) : -1 ≤ Go.Lib.indexAny s cs ∧ Go.Lib.indexAny s cs < s.length := by
  induction s with
  | nil => simp [Go.Lib.indexAny]
  | cons b r ih =>
    unfold Go.Lib.indexAny
    split
    · first | (simp; done) | (simp; omega)
    · split
      · first | (simp; done) | (simp; omega)
      · rename_i h
        have h' : ¬ Go.Lib.indexAny r cs = -1 := by simpa using h
        simp; omega

theorem idxAnyG_loop (F : Nat) (hF : 5 ≤ F) (s : Bs) : ∀ (n y : Nat), s.length - y < n → ∃ j, idxAnyG_L1 F s [38, 59] n y = some j ∧ -1 ≤ j ∧ j < s.length := by
  intro n
  induction n with
  | zero => intro y h; omega
  | succ n ih =>
    intro y hy
    show ∃ j, idxAnyG_B1 F s [38, 59] (idxAnyG_L1 F s [38, 59] n) y = some j ∧ _
    unfold idxAnyG_B1 idxAnyG_j2
    by_cases h : y < s.length
    · rw [bT h]
      obtain ⟨j, hj⟩ := idxRune_two F hF ((decR s y).1 : Int)
      rw [hj, bnd_some]
      by_cases h0 : 0 ≤ j
      · rw [bT h0]; exact ⟨_, rfl, by omega, by omega⟩
      · rw [bF h0]
        have := decR_pos s y
        exact ih _ (by omega)
    · rw [bF h]; exact ⟨-1, rfl, by omega, by omega⟩

theorem idxAny_two (F : Nat) (s : Bs) (hF : 20 ≤ F) : ∃ j, idxAny F s [38, 59] = some j ∧ -1 ≤ j ∧ j < s.length := by
  unfold idxAny
  by_cases h : 8 < s.length
  · obtain ⟨h1, h2⟩ := indexAny_r s [38, 59]
    refine ⟨Go.Lib.indexAny s [38, 59], ?_, h1, h2⟩
    simp [h]
  · have e : ((decide (8 < s.length)) && (decide (2 ≤ ([38, 59] : Bs).length))) = false := by simp [h]
    rw [e, cond_false]
    unfold idxAnyG useSet idxAnyG_j3
    have e3 : decide ((8 : Int) < (s.length : Int)) = false := decide_eq_false (by omega)
    simp (disch := (first | omega | (simp; done) | (simp; omega))) only [bF, bnd_some, e3, Bool.not_false, grd_t]
    exact idxAnyG_loop F (by omega) s F 0 (by omega)

theorem contains_one (F : Nat) (s : Bs) (hs : s.length ≤ 1000) : ∃ b, containsAny F s [95] = some b := by
  unfold containsAny idxAny idxAnyG idxAnyG_j1 idxRune
  have e : ((decide (8 < s.length)) && (decide (2 ≤ ([95] : Bs).length))) = false := by simp
  have e2 : at_ ([95] : Bs) 0 = 95 := rfl
  have e3 : asciiB [95] = true := by decide
  have e4 : ((95 : UInt8).toNat : Int) = 95 := rfl
  rw [e, cond_false]
  simp (disch := (first | omega | (simp; done) | (simp; omega))) only [e3, grd_t, grd_S, bF, bT, grd_At, lt_eq, e2, e4, grd_J]
  exact ⟨_, rfl⟩

theorem wrap_nn (x : Int) : 0 ≤ IntKind.u64.wrap x := by
  have : IntKind.u64.wrap x = x % 18446744073709551616 := rfl
  rw [this]; omega

/-- The answer of a number's reading. -/
def Ok3 (r : Option (Int × Int)) : Prop := ∃ v e, r = some (v, e) ∧ 0 ≤ v ∧ (e = 0 ∨ e = 1 ∨ e = 2)

theorem uint_loop (F : Nat) (s : Bs) (b c : Int) (hb : b = 10 ∨ b = 16) (hs : s.length ≤ 1000) : ∀ (n i : Nat) (v : Int), s.length - i < n → 0 ≤ v → Ok3 (sc_ParseUint_L1 F s b c n (false, v, (i : Int))) := by
  intro n
  induction n with
  | zero => intro i v h; omega
  | succ n ih =>
    intro i v hn hv
    show Ok3 (sc_ParseUint_B1 F s b c (sc_ParseUint_L1 F s b c n) false v (i : Int))
    unfold sc_ParseUint_B1 sc_ParseUint_j1 sc_lower
    by_cases h : i < s.length
    · have key : ∀ d : UInt8, Ok3 (sc_ParseUint_j3 b c false v (i : Int) (sc_ParseUint_L1 F s b c n) d) := by
        intro d
        unfold sc_ParseUint_j3 sc_ParseUint_j2
        cases decide (((Go.Av.toB b).toNat : Int) ≤ (d.toNat : Int)) with
        | true => exact ⟨0, 2, rfl, by omega, by omega⟩
        | false =>
          rw [cond_false]
          cases decide (c ≤ v) with
          | true => exact ⟨_, 1, rfl, wrap_nn _, by omega⟩
          | false =>
            rw [cond_false]
            generalize ((decide (IntKind.u64.wrap ((IntKind.u64.wrap (v * (IntKind.u64.wrap b))) + (IntKind.u64.wrap (d.toNat : Int))) < IntKind.u64.wrap (v * (IntKind.u64.wrap b)))) || (decide (IntKind.u64.wrap ((IntKind.u64.wrap (1 * 2 ^ min (Int.toNat (IntKind.u64.wrap 64)) IntKind.u64.bits)) - 1) < IntKind.u64.wrap ((IntKind.u64.wrap (v * (IntKind.u64.wrap b))) + (IntKind.u64.wrap (d.toNat : Int)))))) = q
            cases q with
            | true => exact ⟨_, 1, rfl, wrap_nn _, by omega⟩
            | false =>
              rw [cond_false, grd_I (by omega), cast_succ]
              exact ih _ _ (by omega) (wrap_nn _)
      have hb0 : decide (b = 0) = false := decide_eq_false (by omega)
      simp (disch := omega) only [bT, grd_At, lt_eq, at_nat h, hb0, Bool.and_false, cond_false, bnd_some, bndc_some]
      generalize ((decide (48 ≤ ((s[i]).toNat : Int))) && (decide (((s[i]).toNat : Int) ≤ 57))) = q1
      cases q1 with
      | true => exact key _
      | false =>
        rw [cond_false]
        generalize ((decide (97 ≤ ((s[i] ||| 32).toNat : Int))) && (decide ((((bif decide (97 ≤ ((s[i] ||| 32).toNat : Int)) then (s[i] ||| 32) else default) : UInt8).toNat : Int) ≤ 122))) = q2
        cases q2 with
        | true => exact key _
        | false => exact ⟨0, 2, rfl, by omega, by omega⟩
    · rw [bF (by omega), bndc_f]
      exact ⟨v, 0, rfl, hv, by omega⟩

theorem uint_tot (F : Nat) (s : Bs) (b : Int) (hb : b = 10 ∨ b = 16) (hs : s.length ≤ 1000) (hF : s.length < F) : Ok3 (sc_ParseUint F s b 0) := by
  unfold sc_ParseUint sc_ParseUint_j6 sc_ParseUint_j5 sc_ParseUint_j4
  by_cases h0 : s = []
  · rw [bT h0]; exact ⟨0, 2, rfl, by omega, by omega⟩
  · rw [bF h0]
    have h2 : ((decide (2 ≤ b)) && (decide (b ≤ 36))) = true := by rcases hb with rfl | rfl <;> rfl
    have hw := wrap_nn 64
    rw [h2, grd_t, grd_D rfl]
    have go := fun c => uint_loop F s b c hb hs F 0 0 (by omega) (by omega)
    rcases hb with rfl | rfl
    · rw [bT rfl, grd_D hw, grd_Cat (by omega)]; exact go _
    · rw [bF (by omega), bT rfl, grd_D hw, grd_Cat (by omega)]; exact go _

theorem int_tot (F : Nat) (s : Bs) (b : Int) (hb : b = 10 ∨ b = 16) (hs : s.length ≤ 1000) (hF : s.length < F) (h43 : at_ s 0 ≠ 43) (h45 : at_ s 0 ≠ 45) : ∃ v e, strconv_ParseInt F s b 0 = some (v, e) := by
  have hi : ∃ v e, sc_ParseInt F s b 0 = some (v, e) ∧ (e = 0 ∨ e = 1 ∨ e = 2) := by
    unfold sc_ParseInt sc_ParseInt_j3 sc_ParseInt_j2 sc_ParseInt_j1
    by_cases h0 : s = []
    · rw [bT h0]; exact ⟨0, 2, rfl, by omega⟩
    · have hp : 0 < s.length := List.length_pos_iff.2 h0
      obtain ⟨v, e, hv, hv0, he⟩ := uint_tot F s b hb hs hF
      have e1 : IntKind.u64.wrap (1 * 2 ^ min (Int.toNat (IntKind.u64.wrap (64 - 1))) IntKind.u64.bits) = 9223372036854775808 := by decide +kernel
      have e2 : (0 : Int) ≤ IntKind.u64.wrap (64 - 1) := by decide +kernel
      have e3 : IntKind.u64.wrap (9223372036854775808 - 1) = 9223372036854775807 := by decide +kernel
      simp (disch := omega) only [bF, grd_At, lt_eq, hv, bnd2_some, e1, e3, grd_D e2, grd_I, grd_D, Bool.not_false, Bool.true_and, Bool.false_and, cond_false]
      rcases he with rfl | rfl | rfl
      · rw [show ((!decide ((0 : Int) = 0)) && (!decide ((0 : Int) = 1))) = false by rfl, cond_false]
        by_cases hb : (9223372036854775808 : Int) ≤ v
        · rw [bT hb]; exact ⟨_, 1, rfl, by omega⟩
        · rw [bF hb, grd_I (by omega)]; exact ⟨_, 0, rfl, by omega⟩
      · rw [show ((!decide ((1 : Int) = 0)) && (!decide ((1 : Int) = 1))) = false by rfl, cond_false]
        by_cases hb : (9223372036854775808 : Int) ≤ v
        · rw [bT hb]; exact ⟨_, 1, rfl, by omega⟩
        · rw [bF hb, grd_I (by omega)]; exact ⟨_, 0, rfl, by omega⟩
      · rw [show ((!decide ((2 : Int) = 0)) && (!decide ((2 : Int) = 1))) = true by rfl, cond_true]
        exact ⟨_, 2, rfl, by omega⟩
  obtain ⟨v, e, hv, he⟩ := hi
  unfold strconv_ParseInt
  rw [hv, bnd2_some]
  rcases he with rfl | rfl | rfl
  · exact ⟨_, _, rfl⟩
  · rw [show (!decide ((1 : Int) = 0)) = true by rfl, cond_true, grd_S (by omega), grd_D (by omega)]; exact ⟨_, _, rfl⟩
  · rw [show (!decide ((2 : Int) = 0)) = true by rfl, cond_true, grd_S (by omega), grd_D (by omega)]; exact ⟨_, _, rfl⟩

theorem rune_tot (F : Nat) (r : Int) : ∃ o b, ent_Rune F r = some (o, b) ∧ o.length ≤ 4 := by
  have fin : -2147483648 ≤ r ∧ r ≤ 2147483647 → ∃ o b, grd (okJ r) (lt (runeStr r) fun x17 => some (x17, true)) = some (o, b) ∧ o.length ≤ 4 := by
    intro h; rw [grd_J h]; exact ⟨_, _, rfl, runeStr_len r⟩
  unfold ent_Rune ent_in
  simp only [bndc_some]
  cases hA : ((decide (r = 9)) || (decide (r = 10))) || (decide (r = 13)) with
  | true =>
    have : r = 9 ∨ r = 10 ∨ r = 13 := by simpa [or_assoc] using hA
    simp only [Bool.not_true, Bool.false_and, cond_false]
    exact fin (by omega)
  | false =>
    simp only [Bool.not_false, Bool.true_and, cond_true]
    cases h7 : (decide (32 ≤ r)) && (decide (r ≤ 55295)) with
    | true =>
      have : 32 ≤ r ∧ r ≤ 55295 := by simpa using h7
      simp only [Bool.not_true, Bool.false_and, cond_false]
      exact fin (by omega)
    | false =>
      simp only [Bool.not_false, Bool.true_and, cond_true]
      cases h10 : (decide (57344 ≤ r)) && (decide (r ≤ 65533)) with
      | true =>
        have : 57344 ≤ r ∧ r ≤ 65533 := by simpa using h10
        simp only [Bool.not_true, Bool.false_and, cond_false]
        exact fin (by omega)
      | false =>
        simp only [Bool.not_false, Bool.true_and, cond_true]
        cases h13 : (decide (65536 ≤ r)) && (decide (r ≤ 1114111)) with
        | true =>
          have : 65536 ≤ r ∧ r ≤ 1114111 := by simpa using h13
          simp only [Bool.not_true, Bool.false_and, cond_false]
          exact fin (by omega)
        | false => exact ⟨[], false, rfl, by simp⟩

theorem number_tot (F : Nat) (s : Bs) (b : Int) (hb : b = 10 ∨ b = 16) (hs : s.length ≤ 1000) (hF : s.length < F) : ∃ o k, ent_number F s b = some (o, k) ∧ o.length ≤ 4 := by
  obtain ⟨cb, hcb⟩ := contains_one F s hs
  have no : ∃ o k, (some (([] : Bs), false) : Option (Bs × Bool)) = some (o, k) ∧ o.length ≤ 4 := ⟨[], false, rfl, by simp⟩
  unfold ent_number
  cases s with
  | nil => simp [grdc_f, lt_eq, bndc_f]
  | cons c r =>
    have h0 : decide ((c :: r) = []) = false := decide_eq_false (by simp)
    have ha : at_ (c :: r) 0 = c := rfl
    have hg : ∀ (q : Bool) (k : Option (Bs × Bool)), grdc q (okAt 0 (c :: r).length) k = k := fun q k => grdc_At (fun _ => by simp)
    simp only [hg, h0, lt_eq, ha, hcb, bndc_some, Bool.false_or]
    by_cases h1 : c = 43
    · simp [h1]
    · by_cases h2 : c = 45
      · simp [h2]
      · by_cases h3 : c = 95
        · simp [h3]
        · simp only [h1, h2, h3, decide_false, Bool.or_self, Bool.false_or, Bool.not_false, cond_true]
          cases cb with
          | true => exact no
          | false =>
            obtain ⟨v, e, hv⟩ := int_tot F (c :: r) b hb hs hF (by rw [ha]; exact h1) (by rw [ha]; exact h2)
            rw [cond_false, hv, bnd2_some]
            cases hz : (!decide (e = 0)) with
            | true => exact no
            | false =>
              obtain ⟨o, k, ho, hl⟩ := rune_tot F v
              rw [cond_false, ho, bnd2_some]
              exact ⟨o, k, rfl, hl⟩

theorem sign_tot (F : Nat) (s : Bs) (hs : s.length ≤ 1000) (hF : s.length < F) : ∃ o k, ent_sign F s = some (o, k) ∧ o.length ≤ 4 := by
  have htp : ∀ p, (Go.Lib.trimPrefix s p).length ≤ s.length := by
    intro p; unfold Go.Lib.trimPrefix; split <;> simp
  unfold ent_sign ent_signs
  simp only [bnd_some, lt_eq]
  generalize ([(([97, 109, 112] : List UInt8), (38 : Int)), (([108, 116] : List UInt8), 60), (([103, 116] : List UInt8), 62), (([113, 117, 111, 116] : List UInt8), 34), (([97, 112, 111, 115] : List UInt8), 39)] : List (List UInt8 × Int)) = m
  cases Go.Av.mhas m s with
  | true => exact ⟨_, _, rfl, runeStr_len _⟩
  | false =>
    rw [cond_false]
    cases Go.Lib.hasPrefix s [35, 120] with
    | true =>
      have := htp [35, 120]
      obtain ⟨o, k, ho, hl⟩ := number_tot F (Go.Lib.trimPrefix s [35, 120]) 16 (.inr rfl) (by omega) (by omega)
      rw [cond_true, ho, bnd2_some]; exact ⟨o, k, rfl, hl⟩
    | false =>
      rw [cond_false]
      cases Go.Lib.hasPrefix s [35] with
      | true =>
        have := htp [35]
        obtain ⟨o, k, ho, hl⟩ := number_tot F (Go.Lib.trimPrefix s [35]) 10 (.inl rfl) (by omega) (by omega)
        rw [cond_true, ho, bnd2_some]; exact ⟨o, k, rfl, hl⟩
      | false => exact ⟨[], false, rfl, by simp⟩

theorem first_tot (F : Nat) (s : Bs) (h1 : 1 ≤ s.length) (hs : s.length ≤ 1000) (hF : s.length + 20 < F) : ∃ o k, ent_first F s = some (o, k) ∧ (k = 0 ∨ (3 ≤ k ∧ k ≤ s.length ∧ o.length ≤ 4)) := by
  have no : ∃ o k, (some (([] : Bs), (0 : Int)) : Option (Bs × Int)) = some (o, k) ∧ (k = 0 ∨ (3 ≤ k ∧ k ≤ s.length ∧ o.length ≤ 4)) := ⟨[], 0, rfl, .inl rfl⟩
  have hl : (from_ s 1).length = s.length - 1 := by simp [from_]
  obtain ⟨j, hj, hj1, hj2⟩ := idxAny_two F (from_ s 1) (by omega)
  have ha : asciiB [38, 59] = true := by decide
  unfold ent_first ent_in
  simp (disch := (first | omega | (simp; done) | (simp; omega))) only [grd_To, lt_eq, ha, grd_t, grd_S, hj, bnd_some]
  by_cases h : 1 ≤ j ∧ j ≤ 10
  · have hx : ((decide (1 ≤ j)) && (decide (j ≤ 10))) = true := by simp [h]
    simp (disch := (first | omega | (simp; done) | (simp; omega))) only [hx, Bool.not_true, Bool.not_false, grdc_t, grd_I, grd_At, Bool.false_or]
    cases decide (at_ s (j + 1) = 38) with
    | true => exact no
    | false =>
      have hsub : (sub s 1 (j + 1)).length ≤ s.length := by simp [sub]; omega
      obtain ⟨o, k, ho, hol⟩ := sign_tot F (sub s 1 (j + 1)) (by omega) (by omega)
      simp (disch := (first | omega | (simp; done) | (simp; omega))) only [cond_false, grd_Sub, lt_eq, ho, bnd2_some]
      cases k with
      | false => exact no
      | true =>
        simp (disch := (first | omega | (simp; done) | (simp; omega))) only [Bool.not_true, cond_false, grd_I]
        exact ⟨o, j + 2, rfl, .inr ⟨by omega, by omega, hol⟩⟩
  · have hx : ((decide (1 ≤ j)) && (decide (j ≤ 10))) = false := by
      cases hq : (decide (1 ≤ j)) && (decide (j ≤ 10)) with
      | false => rfl
      | true => exact absurd (by simpa using hq) h
    simp only [hx, Bool.not_false, Bool.not_true, grdc_f, Bool.true_or, cond_true]
    exact no

theorem gone_tot (F : Nat) : ∀ (n : Nat) (s : Bs) (ok : Bool) (acc : Bs), s.length < n → s.length ≤ 1000 → s.length + 20 < F → acc.length + 2 * s.length ≤ 10000 → ∃ o k, ent_gone_L1 F n (s, ok, acc) = some (o, k) ∧ o.length ≤ acc.length + 2 * s.length := by
  intro n
  induction n with
  | zero => intro s ok acc h; omega
  | succ n ih =>
    intro s ok acc hn hs hF ha
    show ∃ o k, ent_gone_B1 F (ent_gone_L1 F n) s ok acc = some (o, k) ∧ _
    unfold ent_gone_B1 ent_gone_j1
    obtain ⟨hi1, hi2⟩ := indexByte_r s 38
    by_cases h : Go.Lib.indexByte s 38 < 0
    · simp (disch := (first | omega | (simp; done) | (simp; omega))) only [lt_eq, bT, grd_W]
      exact ⟨_, _, rfl, by simp; omega⟩
    · obtain ⟨i, hi⟩ : ∃ i : Nat, Go.Lib.indexByte s 38 = i := ⟨(Go.Lib.indexByte s 38).toNat, by omega⟩
      have il : i < s.length := by omega
      have l1 : (to_ s (i : Int)).length = i := by simp [to_nat]; omega
      have l2 : (from_ s (i : Int)).length = s.length - i := by simp [from_nat]
      obtain ⟨o, k, ho, hk⟩ := first_tot F (from_ s (i : Int)) (by omega) (by omega) (by omega)
      simp (disch := (first | omega | (simp; done) | (simp; omega))) only [lt_eq, hi, bF, grd_To, grd_W, ho, bnd2_some]
      rcases hk with rfl | ⟨k3, kl, ol⟩
      · have l3 : (from_ (from_ s (i : Int)) 1).length = s.length - i - 1 := by simp [from_, l2]; omega
        simp (disch := (first | omega | (simp; done) | (simp; omega))) only [decide_true, cond_true, grd_W, lt_eq, grd_To]
        obtain ⟨o', k', e1, e2⟩ := ih (from_ (from_ s (i : Int)) 1) false (acc ++ to_ s (i : Int) ++ [38]) (by omega) (by omega) (by omega) (by simp; omega)
        exact ⟨o', k', e1, by simp at e2; omega⟩
      · have l3 : (from_ (from_ s (i : Int)) k).length = s.length - i - k.toNat := by simp [from_]; omega
        simp (disch := (first | omega | (simp; done) | (simp; omega))) only [bF, grd_W, lt_eq, grd_To]
        obtain ⟨o', k', e1, e2⟩ := ih (from_ (from_ s (i : Int)) k) ok (acc ++ to_ s (i : Int) ++ o) (by omega) (by omega) (by omega) (by simp; omega)
        exact ⟨o', k', e1, by simp at e2; omega⟩

theorem loose_tot (F : Nat) (s : Bs) (hs : s.length ≤ 1000) (hF : s.length + 20 < F) : ∃ q, ent_Loose F s = some q ∧ q.length ≤ 2 * s.length := by
  obtain ⟨o, k, h1, h2⟩ := gone_tot F F s true [] (by omega) hs hF (by simp; omega)
  unfold ent_Loose ent_gone
  rw [h1, bnd2_some]
  exact ⟨o, rfl, by simpa using h2⟩
end Go.Pn
