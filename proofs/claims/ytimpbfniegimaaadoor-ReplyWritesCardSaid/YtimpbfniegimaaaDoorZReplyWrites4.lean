/-
  Texts in one (only what ReplyWrites needs): RpB, RpSp, RpM, RpW, RpL, RpI, RpT, RpR, RpWrites, AvOpen.
-/
import Derived.Test.YtimpbfniegimaaaDoorZReplyWrites3
import Derived.Lib.SplitLaws
import Derived.Lib.IndexBytes
import Derived.Lib.IndexLaws
import Derived.RowKit
import Derived.OpenShut
import Derived.ChangeSlices
import Derived.SliceStrings
set_option linter.unusedVariables false
set_option linter.unusedSimpArgs false
namespace Go.Rp
open Go.Pv Go.Av
open Go.Lib (decDigits)
open Go.Dg (val cZ fk ll lP lQ nq Dig nw gb gD lM pI cfl ctr gz hM fo nfl ntr)
def dgB (c : UInt8) : Bool := decide (48 ≤ c.toNat) && decide (c.toNat ≤ 57)
theorem lU {c : UInt8} (h : dgB c = true) : Dig c := by
  unfold dgB at h
  show 48 ≤ c.toNat ∧ c.toNat ≤ 57
  simpa using h
theorem dgB_of {c : UInt8} (h : Dig c) : dgB c = true := by
  unfold dgB
  rw [decide_eq_true h.1, decide_eq_true h.2]; rfl
def okN (s : Bs) : Bool := ((decide (1 ≤ s.length) && decide (s.length ≤ 3)) && s.all dgB) && !(decide (s.head? = some 48) && decide (1 < s.length))
def eI (s : Bs) : Option Nat := if okN s = true then some (val 0 s) else none
theorem hH (c : UInt8) (h : Dig c) (n : Nat) (hn : n = c.toNat - 48) : UInt8.ofNat (48 + n) = c := by
  obtain ⟨h1, h2⟩ := h;subst hn
  rw [show 48 + (c.toNat - 48) = c.toNat by omega, UInt8.ofNat_toNat]
theorem dd2 {n : Nat} (h : 10 ≤ n) (h2 : n < 100) : decDigits n = [UInt8.ofNat (48 + n / 10), UInt8.ofNat (48 + n % 10)] := by
  rw [fk (by omega), cZ (by omega)]; rfl
theorem dd3 {n : Nat} (h : 100 ≤ n) (h2 : n < 1000) : decDigits n = [UInt8.ofNat (48 + n / 10 / 10), UInt8.ofNat (48 + n / 10 % 10), UInt8.ofNat (48 + n % 10)] := by
  rw [fk (by omega), dd2 (by omega) (by omega)]; rfl
theorem dd_lt {n : Nat} (h : (decDigits n).length ≤ 3) : n < 1000 := by
  by_cases h1 : n < 1000
  · exact h1
  · rw [fk (by omega), fk (n := n / 10) (by omega), fk (n := n / 10 / 10) (by omega)] at h
    have := lP (n / 10 / 10 / 10)
    simp only [List.length_append, List.length_cons, List.length_nil] at h
    omega
theorem num_dd {s : Bs} {n : Nat} (h : eI s = some n) : s = decDigits n ∧ n < 1000 := by
  unfold eI at h
  by_cases hk : okN s = true
  · rw [if_pos hk] at h
    have hn : val 0 s = n := ak h
    unfold okN at hk
    simp only [Bool.and_eq_true, decide_eq_true_eq, Bool.not_eq_true', Bool.and_eq_false_iff, decide_eq_false_iff_not] at hk
    obtain ⟨⟨⟨h1, h2⟩, h3⟩, h4⟩ := hk
    match s, h1, h2, h3, h4, hn with
    | [a], _, _, h3, h4, hn =>
      have ha := lU (List.all_eq_true.1 h3 a (by simp))
      have hv : val 0 [a] = a.toNat - 48 := by show 10 * 0 + (a.toNat - 48) = _; omega
      have ha' := ha; obtain ⟨ha1, ha2⟩ := ha'
      refine ⟨?_, by omega⟩
      rw [← hn, hv, cZ (by omega), hH a ha _ rfl]
    | [a, b], _, _, h3, h4, hn =>
      have ha := lU (List.all_eq_true.1 h3 a (by simp))
      have hb := lU (List.all_eq_true.1 h3 b (by simp))
      have hv : val 0 [a, b] = 10 * (a.toNat - 48) + (b.toNat - 48) := by show 10 * (10 * 0 + (a.toNat - 48)) + (b.toNat - 48) = _; omega
      have ha' := ha; obtain ⟨ha1, ha2⟩ := ha'
      have hb' := hb; obtain ⟨hb1, hb2⟩ := hb'
      have hne : a.toNat ≠ 48 := by
        intro e
        have : a = 48 := UInt8.toNat.inj e
        rcases h4 with h4 | h4
        · exact h4 (by rw [this]; rfl)
        · exact h4 (by simp)
      refine ⟨?_, by omega⟩
      rw [← hn, hv, dd2 (by omega) (by omega), hH a ha _ (by omega), hH b hb _ (by omega)]
    | [a, b, c], _, _, h3, h4, hn =>
      have ha := lU (List.all_eq_true.1 h3 a (by simp))
      have hb := lU (List.all_eq_true.1 h3 b (by simp))
      have hc := lU (List.all_eq_true.1 h3 c (by simp))
      have hv : val 0 [a, b, c] = 100 * (a.toNat - 48) + 10 * (b.toNat - 48) + (c.toNat - 48) := by show 10 * (10 * (10 * 0 + (a.toNat - 48)) + (b.toNat - 48)) + (c.toNat - 48) = _; omega
      have ha' := ha; obtain ⟨ha1, ha2⟩ := ha'
      have hb' := hb; obtain ⟨hb1, hb2⟩ := hb'
      have hc' := hc; obtain ⟨hc1, hc2⟩ := hc'
      have hne : a.toNat ≠ 48 := by
        intro e
        have : a = 48 := UInt8.toNat.inj e
        rcases h4 with h4 | h4
        · exact h4 (by rw [this]; rfl)
        · exact h4 (by simp)
      refine ⟨?_, by omega⟩
      rw [← hn, hv, dd3 (by omega) (by omega), hH a ha _ (by omega), hH b hb _ (by omega), hH c hc _ (by omega)]
    | [], h1, _, _, _, _ => simp at h1
    | a :: b :: c :: d :: r, _, h2, _, _, _ => simp at h2
  · rw [if_neg hk] at h; cases h
theorem dd_head {n : Nat} (h : n < 1000) : ¬ ((decDigits n).head? = some 48 ∧ 1 < (decDigits n).length) := by
  rintro ⟨h1, h2⟩
  by_cases h10 : n < 10
  · rw [cZ h10] at h2; simp at h2
  · have key : ∀ k, k < 10 → 1 ≤ k → UInt8.ofNat (48 + k) ≠ 48 := by
      intro k hk h1 e
      have := congrArg UInt8.toNat e
      rw [gb k hk] at this
      have e48 : (48 : UInt8).toNat = 48 := rfl
      omega
    by_cases h100 : n < 100
    · rw [dd2 (by omega) h100] at h1
      exact key (n / 10) (by omega) (by omega) (ak h1)
    · rw [dd3 (by omega) h] at h1
      exact key (n / 10 / 10) (by omega) (by omega) (ak h1)
theorem dd_num {n : Nat} (h : n < 1000) : eI (decDigits n) = some n := by
  have h3 : (decDigits n).length ≤ 3 := by
    by_cases h10 : n < 10
    · rw [cZ h10]; simp
    · by_cases h100 : n < 100
      · rw [dd2 (by omega) h100]; simp
      · rw [dd3 (by omega) h]; simp
  have hk : okN (decDigits n) = true := by
    unfold okN
    rw [decide_eq_true (lP n), decide_eq_true h3, List.all_eq_true.2 fun c hc => dgB_of (ll n c hc)]
    have := dd_head h
    by_cases g : (decDigits n).head? = some 48
    · rw [decide_eq_false (p := 1 < (decDigits n).length) fun q => this ⟨g, q⟩, Bool.and_false]; rfl
    · rw [decide_eq_false g]; rfl
  unfold eI
  rw [if_pos hk, nq]
def lV (o : Option (Int × Int)) : Prop := ∃ x k, o = some (x, k) ∧ -9223372036854775808 ≤ x ∧ x ≤ 9223372036854775807
theorem kw {c : Bool} {a b : Option (Int × Int)} (ha : lV a) (hb : lV b) : lV (bif c then a else b) := by cases c <;> assumption
theorem kQ (a s : Bs) (ha : a ≠ []) (hs : s.length ≤ 18) : ∀ (n i v : Nat), s.length - i < n → i ≤ s.length → v < 10 ^ i → lV (dq a s n ((v : Int), (i : Int))) := by
  intro n
  induction n with
  | zero => intro i v h; omega
  | succ n ih =>
    intro i v hn hi hv;show lV (dr a s (dq a s n) (v : Int) (i : Int))
    unfold dr
    have hv18 : v < 10 ^ 18 := Nat.lt_of_lt_of_le hv (Nat.pow_le_pow_right (by omega) (by omega))
    by_cases h : i < s.length
    · have hv17 : v < 10 ^ 17 := Nat.lt_of_lt_of_le hv (Nat.pow_le_pow_right (by omega) (by omega))
      rw [bT (by omega), bt (by omega), bb]
      obtain ⟨c, hc⟩ : ∃ c, c = at_ s (i : Int) := ⟨_, rfl⟩
      rw [← hc]
      by_cases h9 : 9 < (c - 48).toNat
      · rw [bT (by omega)]; exact ⟨0, 2, rfl, by omega, by omega⟩
      · have e1 : ((v : Int) * 10) + ((c - 48).toNat : Int) = ((v * 10 + (c - 48).toNat : Nat) : Int) := by omega
        have e2 : ((i : Int) + 1) = ((i + 1 : Nat) : Int) := by omega
        rw [bF (by omega), bP (by omega), bP (by omega), bP (by omega), e1, e2]
        refine ih (i + 1) _ (by omega) (by omega) ?_
        rw [Nat.pow_succ]; omega
    · rw [bF (by omega)]
      unfold ef eg
      have hp : 0 < a.length := List.length_pos_iff.2 ha
      rw [bt (by omega), bb]
      refine kw ?_ ⟨_, 0, rfl, by omega, by omega⟩
      rw [bP (by omega)]; exact ⟨_, 0, rfl, by omega, by omega⟩
theorem atoi_b (F : Nat) (s : Bs) (hs : s.length ≤ 3) (hF : 10 < F) : lV (cx F s) := by
  have key : lV (fU F s) := by
    unfold fU ee fp
    by_cases h : 0 < s.length
    · have hc : ((decide (0 < (s.length : Int))) && (decide ((s.length : Int) < 19))) = true := by
        rw [decide_eq_true (by omega), decide_eq_true (by omega)]; rfl
      have hne : s ≠ [] := List.length_pos_iff.1 h
      have hf : (dg s 1).length ≤ s.length := by unfold dg; simp
      rw [hc, ctr, bt (by omega), bb]
      have hg : ∀ (c : Bool) (x : Option (Int × Int)), dK c (bQ 0 s.length) x = x := fun c x => fX fun _ => by omega
      rw [hg, bb]
      refine kw ?_ ?_
      · rw [dU (by omega), bb]
        refine kw ⟨0, 2, rfl, by omega, by omega⟩ ?_
        rw [bV (by omega)]
        exact kQ s _ hne (by omega) F 0 0 (by omega) (by omega) (by omega)
      · rw [bV (by omega)]
        exact kQ s _ hne (by omega) F 0 0 (by omega) (by omega) (by omega)
    · have e : s = [] := List.eq_nil_of_length_eq_zero (by omega)
      subst e;exact ⟨0, 2, rfl, by omega, by omega⟩
  obtain ⟨x, k, e, h1, h2⟩ := key;obtain ⟨x2, k2, e2⟩ := lM F s (by omega) (by omega);refine ⟨x2, k2, e2, ?_⟩
  unfold cx at e2
  rw [e, bR] at e2
  have : x2 = x := by
    by_cases h0 : k = 0
    · subst h0; rw [decide_eq_true rfl, ntr, cfl] at e2; cases e2; rfl
    · rw [decide_eq_false h0, nfl, ctr] at e2
      obtain ⟨_, e2⟩ := aI e2;obtain ⟨_, e2⟩ := aI e2
      cases e2; rfl
  rw [this]; exact ⟨h1, h2⟩
theorem iQ (F : Nat) (s : Bs) (hs : s.length ≤ 1000) (hF : 2000 < F) : ∃ x : Int, fq F s = some (x, (eI s).isSome) ∧ ∀ n, eI s = some n → x = n := by
  obtain ⟨x, k, e⟩ := lM F s hs (by omega)
  have hdd : ∀ n, eI s = some n → x = (n : Int) ∧ k = 0 ∧ s.length ≤ 3 ∧ s = decDigits n := by
    intro n hn;obtain ⟨h1, h2⟩ := num_dd hn
    have h3 : s.length ≤ 3 := by
      unfold eI at hn
      by_cases hk : okN s = true
      · unfold okN at hk
        simp only [Bool.and_eq_true, decide_eq_true_eq] at hk
        exact hk.1.1.2
      · rw [if_neg hk] at hn; cases hn
    have := pI F n (by omega) (by omega)
    rw [← h1, e] at this
    cases this
    exact ⟨rfl, rfl, h3, h1⟩
  unfold fq
  rw [e, bR]
  by_cases hc : k = 0 ∧ s.length ≤ 3
  · obtain ⟨rfl, h3⟩ := hc
    obtain ⟨x', k', e', hb⟩ := atoi_b F s h3 (by omega)
    rw [e] at e'; cases e'
    have hcc : ((decide ((0 : Int) = 0)) && (decide ((s.length : Int) ≤ 3))) = true := by
      rw [decide_eq_true (by omega : (s.length : Int) ≤ 3)]; rfl
    rw [hcc, jA, bP hb, bb]
    refine ⟨x, ?_, fun n hn => (hdd n hn).1⟩
    congr 2
    cases hn : eI s with
    | some n =>
      obtain ⟨h1, _, _, h4⟩ := hdd n hn
      rw [h1, gD, decide_eq_true h4.symm, decide_eq_true (Int.natCast_nonneg n)]; rfl
    | none =>
      by_cases h0 : 0 ≤ x
      · have h1 : ¬ Go.Lib.itoa x = s := by
          intro g
          have e2 : x = ((x.toNat : Nat) : Int) := by omega
          rw [e2, gD] at g
          rw [← g, dd_num (dd_lt (by rw [g]; exact h3))] at hn
          cases hn
        rw [decide_eq_false h1]; rfl
      · rw [decide_eq_false h0, Bool.and_false]; rfl
  · have hcc : ((decide (k = 0)) && (decide ((s.length : Int) ≤ 3))) = false := by
      by_cases h0 : k = 0
      · rw [decide_eq_false (p := (s.length : Int) ≤ 3) (by omega), Bool.and_false]
      · rw [decide_eq_false h0]; rfl
    rw [hcc, gP, bb]
    refine ⟨x, ?_, fun n hn => (hdd n hn).1⟩
    congr 2
    cases hn : eI s with
    | some n => obtain ⟨_, h2, h3, _⟩ := hdd n hn; exact absurd ⟨h2, h3⟩ hc
    | none => rfl
def numI (s : Bs) : Int := match eI s with | some n => (n : Int) | none => -1
theorem mY (s : Bs) (hs : s.length ≤ 3) : ∀ (n i v : Nat), s.length - i < n → i ≤ s.length → v < 10 ^ i →
    dz s n ((v : Int), (i : Int)) = some (if (s.drop i).all dgB = true then ((val v (s.drop i) : Nat) : Int) else -1) := by
  intro n
  induction n with
  | zero => intro i v h; omega
  | succ n ih =>
    intro i v hn hi hv;show dA s (dz s n) (v : Int) (i : Int) = _
    unfold dA
    have hv3 : v < 10 ^ 3 := Nat.lt_of_lt_of_le hv (Nat.pow_le_pow_right (by omega) (by omega))
    by_cases h : i < s.length
    · have hdr : s.drop i = s[i] :: s.drop (i + 1) := aJ h
      rw [bT (by omega), bt (by omega), bb, dV h]
      have hg : ∀ (c : Bool) (x : Option Int), dK c (bQ (i : Int) s.length) x = x := fun c x => fX fun _ => by omega
      rw [hg, bb, hdr, List.all_cons]
      by_cases hd : Dig s[i]
      · have hsub := nw _ hd
        have hd' := hd; obtain ⟨h1, h2⟩ := hd'
        have e : ((decide (((s[i]).toNat : Int) < 48)) || (decide (57 < ((s[i]).toNat : Int)))) = false := by
          rw [decide_eq_false (by omega), decide_eq_false (by omega)]; rfl
        have e1 : (10 * (v : Int)) + ((s[i] - 48).toNat : Int) = ((10 * v + ((s[i]).toNat - 48) : Nat) : Int) := by rw [hsub]; omega
        have e2 : ((i : Int) + 1) = ((i + 1 : Nat) : Int) := by omega
        rw [e, cfl, bP (by omega), bt (by omega), bb, bP (by omega), bP (by omega), e1, e2, ih (i + 1) _ (by omega) (by omega) (by rw [Nat.pow_succ]; omega), dgB_of hd, gz]
        rfl
      · have e : ((decide (((s[i]).toNat : Int) < 48)) || (decide (57 < ((s[i]).toNat : Int)))) = true := by
          by_cases h1 : 48 ≤ (s[i]).toNat
          · have h2 : 57 < (s[i]).toNat := by
              by_cases h2 : (s[i]).toNat ≤ 57
              · exact absurd ⟨h1, h2⟩ hd
              · omega
            rw [decide_eq_true (p := 57 < ((s[i]).toNat : Int)) (by omega), Bool.or_true]
          · rw [decide_eq_true (p := ((s[i]).toNat : Int) < 48) (by omega)]; rfl
        have e3 : dgB s[i] = false := by
          cases hq : dgB s[i] with
          | true => exact absurd (lU hq) hd
          | false => rfl
        rw [e, ctr, e3, hM]; rfl
    · rw [bF (by omega), aM (by omega)]; rfl
theorem ia (F : Nat) (s : Bs) (hF : 10 < F) : cU F s = some (numI s) := by
  unfold cU
  rw [fX (fun h => by
    simp only [Bool.not_eq_true', Bool.or_eq_false_iff, decide_eq_false_iff_not] at h
    omega), bb]
  unfold numI eI okN
  by_cases h1 : 1 ≤ s.length ∧ s.length ≤ 3
  · obtain ⟨ha, hb⟩ := h1
    rw [decide_eq_false (p := (s.length : Int) < 1) (by omega), decide_eq_false (p := (3 : Int) < s.length) (by omega), decide_eq_true ha, decide_eq_true hb, fo, fo, gz, gz]
    have e0 : s.head? = some (at_ s 0) := by
      rw [ny (by omega)]
      cases s with
      | nil => simp at ha
      | cons a r => rfl
    have el : decide ((1 : Int) < (s.length : Int)) = decide (1 < s.length) := by
      by_cases h : 1 < s.length
      · rw [decide_eq_true h, decide_eq_true (by omega)]
      · rw [decide_eq_false h, decide_eq_false (by omega)]
    have es : decide (s.head? = some 48) = decide (at_ s 0 = 48) := by
      rw [e0]
      by_cases h : at_ s 0 = 48
      · rw [decide_eq_true h, decide_eq_true (by rw [h])]
      · rw [decide_eq_false h, decide_eq_false (fun g => h (ak g))]
    rw [es, el]
    cases (decide (at_ s 0 = 48)) && (decide (1 < s.length)) with
    | true => rw [ctr, ntr, Bool.and_false]; rfl
    | false =>
      rw [cfl, nfl, Bool.and_true]
      have := mY s hb F 0 0 (by omega) (by omega) (by omega)
      refine Eq.trans this ?_
      rw [List.drop_zero]
      cases s.all dgB <;> rfl
  · have e : ((decide ((s.length : Int) < 1)) || (decide ((3 : Int) < (s.length : Int)))) = true := by
      by_cases h : 1 ≤ s.length
      · rw [decide_eq_true (p := (3 : Int) < s.length) (by omega), Bool.or_true]
      · rw [decide_eq_true (p := (s.length : Int) < 1) (by omega)]; rfl
    have e2 : ((decide (1 ≤ s.length)) && (decide (s.length ≤ 3))) = false := by
      by_cases h : 1 ≤ s.length
      · rw [decide_eq_false (p := s.length ≤ 3) (by omega), Bool.and_false]
      · rw [decide_eq_false h]; rfl
    rw [e, Bool.true_or, ctr, e2, hM, hM]; rfl
end Go.Rp
namespace Go.Rp
open Go.Pv Go.Av
def sp (c : UInt8) : Bs → List Bs
  | [] => [[]]
  | b :: r => if b = c then [] :: sp c r else match sp c r with
    | [] => [[b]]
    | p :: ps => (b :: p) :: ps
theorem ni (c : UInt8) (s : Bs) : sp c s ≠ [] := by
  cases s with
  | nil => simp [sp]
  | cons b r => unfold sp; split; simp; split <;> simp
theorem gc (b c : UInt8) (l : Bs) : Go.Lib.index (b :: l) [c] = if b = c then 0 else if Go.Lib.index l [c] = -1 then -1 else Go.Lib.index l [c] + 1 := by
  by_cases h : b = c
  · subst h; simp [Go.Lib.index]
  · simp [Go.Lib.index, h, Ne.symm h]
def lf (cur : Bs) : List Bs → List Bs
  | [] => [cur]
  | p :: ps => (cur ++ p) :: ps
theorem hU {b c : UInt8} (h : ¬ b = c) (r : Bs) : sp c (b :: r) = lf [b] (sp c r) := by
  simp only [sp, h, if_false]
  cases sp c r <;> rfl
theorem hZ (c : UInt8) (r : Bs) : sp c (c :: r) = [] :: sp c r := by simp [sp]
theorem pY (a b : Bs) (l : List Bs) : lf a (lf b l) = lf (a ++ b) l := by cases l <;> simp [lf]
theorem ox {l : List Bs} (h : l ≠ []) : lf [] l = l := by cases l <;> simp_all [lf]
theorem mx (c : UInt8) : ∀ (s : Bs), Go.Lib.splitK [c] 0 (s.count c) s = sp c s
  | [] => rfl
  | b :: l => by
    have ih := mx c l
    have hi := gc b c l
    have hge := Go.Lib.index_ge l [c]
    by_cases h : b = c
    · subst h
      rw [List.count_cons_self, hZ, Go.Lib.splitK, hi]
      simp [ih]
    · rw [List.count_cons_of_ne h, hU h, ← ih]
      cases hk : l.count c with
      | zero => simp [Go.Lib.splitK, lf]
      | succ k =>
        rw [Go.Lib.splitK, Go.Lib.splitK, hi]
        simp only [h, if_false]
        by_cases hm : Go.Lib.index l [c] = -1
        · simp [hm, lf]
        · obtain ⟨j, hj⟩ := Int.eq_ofNat_of_zero_le (show 0 ≤ Go.Lib.index l [c] by omega)
          have h2 : ¬ (Go.Lib.index l [c] + 1 = -1) := by omega
          have h3 : (Go.Lib.index l [c] + 1).toNat = j + 1 := by omega
          have h4 : (Go.Lib.index l [c]).toNat = j := by omega
          simp [hm, h2, h3, h4, lf]
theorem pQ (s : Bs) (c : UInt8) : Go.Lib.split s [c] = sp c s := by
  unfold Go.Lib.split
  rw [Go.Lib.count_one, mx]
theorem pb (s : Bs) (c : UInt8) (hs : s.length ≤ 1000000) : ∀ (n : Nat) (l : List Bs) (f i : Nat), s.length + 1 - i < n → i ≤ s.length → f ≤ i → l.length ≤ i →
    bX s c n (l, (f : Int), (i : Int)) = some (l ++ lf ((s.take i).drop f) (sp c (s.drop i))) := by
  intro n
  induction n with
  | zero => intro l f i h; omega
  | succ n ih =>
    intro l f i hn hi hf hl;show cJ s c (bX s c n) l (f : Int) (i : Int) = _
    unfold cJ dc
    by_cases h : i < s.length
    · have hd : s.drop i = s[i] :: s.drop (i + 1) := aJ h
      have hne : decide ((i : Int) = (s.length : Int)) = false := decide_eq_false (by omega)
      simp (disch := omega) only [bT, hne, Bool.not_false, jA, bt, bb, dV h, Bool.false_or]
      rw [hd]
      by_cases hc : s[i] = c
      · simp (disch := (first | omega | (simp; omega))) only [hc, decide_true, cond_true, lk, py, bV, bP, cH]
        rw [ih _ _ _ (by omega) (by omega) (by omega) (by simp; omega)]
        rw [aM (show (s.take (i + 1)).length ≤ i + 1 by simp; omega), ox (ni _ _), hZ]
        simp [lf]
      · simp (disch := (first | omega | (simp; omega))) only [hc, decide_false, cond_false, bP, cH]
        rw [ih _ _ _ (by omega) (by omega) (by omega) (by omega), hU hc, pY]
        rw [List.take_succ_eq_append_getElem h, List.drop_append_of_le_length (by simp; omega)]
    · have hi2 : i = s.length := by omega
      subst hi2
      have hyes : decide ((s.length : Int) = (s.length : Int)) = true := decide_eq_true rfl
      simp (disch := (first | omega | (simp; omega))) only [bT, hyes, Bool.not_true, gP, bb, Bool.true_or, cond_true, lk, py, bV, bP, cH, List.drop_length]
      obtain ⟨m, rfl⟩ : ∃ m, n = m + 1 := ⟨n - 1, by omega⟩;show cJ s c (bX s c m) _ _ ((s.length + 1 : Nat) : Int) = _
      unfold cJ ec
      have h1 : ¬ (((s.length + 1 : Nat) : Int) ≤ (s.length : Int)) := by omega
      rw [bF h1]
      simp [sp, lf]
theorem iA (F : Nat) (s : Bs) (c : UInt8) (hs : s.length ≤ 1000000) (hF : s.length + 1 < F) : eR F s c = some (sp c s) := by
  have := pb s c hs F [] 0 0 (by omega) (by omega) (by omega) (by simp)
  rw [show eR F s c = bX s c F ([], ((0 : Nat) : Int), ((0 : Nat) : Int)) from rfl, this]
  simp [ox (ni _ _)]
end Go.Rp
namespace Go.Rp
open Go.Pv Go.Av
open Go.Lib (decDigits)
open Go.Dg (gD cfl ctr gz hM fo nfl ntr)
abbrev M3 := Int × Int × Int
def more3 (c : Int) : List Bs → M3
  | [a, b, d] => if c / 100 = 3 then (0, 0, 0) else match eI a, eI b, eI d with
    | some x, some y, some z => if (x : Int) = c / 100 then ((x : Int), (y : Int), (z : Int)) else (0, 0, 0)
    | _, _, _ => (0, 0, 0)
  | _ => (0, 0, 0)
theorem kI (c : Int) (a b d : Bs) : more3 c [a, b, d] = if c / 100 = 3 then (0, 0, 0) else match eI a, eI b, eI d with
    | some x, some y, some z => if (x : Int) = c / 100 then ((x : Int), (y : Int), (z : Int)) else (0, 0, 0)
    | _, _, _ => (0, 0, 0) := rfl
def dX (c : Int) (s : Bs) : M3 := more3 c (sp 46 ((sp 32 s).headD []))
theorem lL : ∀ s : Bs, (Go.Lib.cut s [32]).1 = (sp 32 s).headD []
  | [] => rfl
  | b :: r => by
    have ih := lL r
    by_cases h : b = 32
    · subst h
      rw [hZ]
      unfold Go.Lib.cut
      rw [gc, if_pos rfl]
      rfl
    · rw [hU h]
      cases hs : sp 32 r with
      | nil => exact absurd hs (ni 32 r)
      | cons p ps =>
        rw [hs] at ih
        show (Go.Lib.cut (b :: r) [32]).1 = b :: p
        have ih' : (Go.Lib.cut r [32]).1 = p := ih
        rw [← ih']
        unfold Go.Lib.cut
        rw [gc, if_neg h]
        by_cases hn : Go.Lib.index r [32] = -1
        · rw [if_pos hn, if_neg (by omega), if_neg (by rw [hn]; omega)]
        · rw [if_neg hn]
          by_cases h0 : 0 ≤ Go.Lib.index r [32]
          · rw [if_pos (by omega), if_pos h0, show (Go.Lib.index r [32] + 1).toNat = (Go.Lib.index r [32]).toNat + 1 by omega]; rfl
          · have : Go.Lib.index r [32] = -1 := by
              have := Go.Lib.index_one r 32
              have h2 := Go.Lib.indexByte_ge r 32
              omega
            exact absurd this hn
theorem oI (s : Bs) : ((sp 32 s).headD []).length ≤ s.length := by
  rw [← lL]
  unfold Go.Lib.cut
  split <;> simp
  exact Nat.min_le_right _ _
theorem lg (c : UInt8) : ∀ s : Bs, ∀ w ∈ sp c s, w.length ≤ s.length
  | [], w, h => by
    have : w = [] := by simpa [sp] using h
    rw [this]; simp
  | b :: r, w, h => by
    by_cases hb : b = c
    · subst hb
      rw [hZ] at h
      rcases List.mem_cons.1 h with rfl | h
      · simp
      · have := lg b r w h; simp; omega
    · rw [hU hb] at h
      cases hs : sp c r with
      | nil => exact absurd hs (ni c r)
      | cons p ps =>
        rw [hs] at h
        rcases List.mem_cons.1 h with rfl | h
        · have := lg c r p (by rw [hs]; simp)
          simp; omega
        · have := lg c r w (by rw [hs]; simp [h])
          simp; omega
theorem pC (F : Nat) (hF : 2000 < F) (c : Nat) (s : Bs) (hs : s.length ≤ 900) : gC F (c : Int) s = some (dX (c : Int) s) ∨ 1000000 < c := by
  by_cases hc : 1000000 < c
  · exact .inr hc
  refine .inl ?_
  have hl := oI s
  unfold gC dX
  rw [nl (by omega), bb, lL, nl (by omega), grd_D (by decide), bb, pQ]
  generalize hw : sp 46 ((sp 32 s).headD []) = w
  have hlens : ∀ x ∈ w, x.length ≤ 1000 := fun x hx => by
    have := lg 46 ((sp 32 s).headD []) x (by rw [hw]; exact hx)
    omega
  have hg : ∀ (b : Bool) (x : Option M3), dK b (fO (c : Int) 100) x = x := by
    intro b x
    cases b
    · exact gP
    · rw [jA, fI (by omega)]
  rw [hg]
  match w, hlens with
  | [], _ => rfl
  | [a], _ => rfl
  | [a, b], _ => rfl
  | a :: b :: d :: e :: r, _ =>
    have : decide (((a :: b :: d :: e :: r).length : Int) = 3) = false := decide_eq_false (by simp; omega)
    rw [this, nfl, Bool.true_or, ctr]; rfl
  | [a, b, d], hlens =>
    have e3 : decide ((([a, b, d] : List Bs).length : Int) = 3) = true := rfl
    rw [e3, ntr, fo]
    rw [kI]
    by_cases h3 : (c : Int) / 100 = 3
    · rw [bT h3, if_pos h3]
    · rw [bF h3, if_neg h3]
      obtain ⟨xa, ea, ha⟩ := iQ F a (hlens a (by simp)) hF;obtain ⟨xb, eb, hb⟩ := iQ F b (hlens b (by simp)) hF;obtain ⟨xd, ed, hd⟩ := iQ F d (hlens d (by simp)) hF;obtain ⟨G, hG⟩ : ∃ G, F = G + 4 := ⟨F - 4, by omega⟩
      have step : ∀ (n : Nat) (i : Int) (u v w : Int), cB F (c : Int) [a, b, d] (n + 1) (i, u, v, w) = dl F (c : Int) [a, b, d] (cB F (c : Int) [a, b, d] n) i u v w := fun _ _ _ _ _ => rfl
      have lF : ∀ x, cB F (c : Int) [a, b, d] F x = cB F (c : Int) [a, b, d] (G + 3 + 1) x := fun x => by rw [hG]
      rw [lF, step]
      unfold dl
      have a0 : at_ [a, b, d] 0 = a := rfl
      have a1 : at_ [a, b, d] (0 + 1) = b := rfl
      have a2 : at_ [a, b, d] (0 + 1 + 1) = d := rfl
      rw [bT (by simp), bt (by simp), bb, a0, ea, bR]
      cases hna : eI a with
      | none => rfl
      | some x =>
        rw [show (some x).isSome = true from rfl, ntr, cfl, bt (by simp), bt (by simp), bb, bP (by omega), ha x hna]
        show cB F (c : Int) [a, b, d] (G + 2 + 1) (0 + 1, (x : Int), 0, 0) = _
        rw [step]
        unfold dl
        rw [bT (by simp), bt (by simp), bb, a1, eb, bR]
        cases hnb : eI b with
        | none => rfl
        | some y =>
          rw [show (some y).isSome = true from rfl, ntr, cfl, bt (by simp), bt (by simp), bb, bP (by omega), hb y hnb]
          show cB F (c : Int) [a, b, d] (G + 1 + 1) (0 + 1 + 1, (x : Int), (y : Int), 0) = _
          rw [step]
          unfold dl
          rw [bT (by simp), bt (by simp), bb, a2, ed, bR]
          cases hnd : eI d with
          | none => rfl
          | some z =>
            rw [show (some z).isSome = true from rfl, ntr, cfl, bt (by simp), bt (by simp), bb, bP (by omega), hd z hnd]
            show cB F (c : Int) [a, b, d] (G + 1) (0 + 1 + 1 + 1, (x : Int), (y : Int), (z : Int)) = _
            rw [step]
            unfold dl fB eP
            rw [bF (by simp), fI (by omega)]
            by_cases hx : (x : Int) = (c : Int) / 100
            · rw [bT hx]; simp only [if_pos hx]
            · rw [bF hx]; simp only [if_neg hx]
theorem gX {s : Bs} {n : Nat} (h : eI s = some n) : numI s = (n : Int) := by unfold numI; rw [h]
theorem iR {s : Bs} (h : eI s = none) : numI s = -1 := by unfold numI; rw [h]
theorem ov (F : Nat) (hF : 2000 < F) (c : Nat) (s : Bs) (hs : s.length ≤ 900) (hc : c ≤ 1000000) : eM F (c : Int) s = some (dX (c : Int) s) := by
  have hl := oI s
  unfold eM dX
  rw [iA F s 32 (by omega) (by omega), bh]
  have h0 : 0 < (sp 32 s).length := List.length_pos_iff.2 (ni 32 s)
  have e0 : at_ (sp 32 s) 0 = (sp 32 s).headD [] := by
    cases hs : sp 32 s with
    | nil => exact absurd hs (ni 32 s)
    | cons p ps => rfl
  rw [bt (by omega), bb, e0, iA F _ 46 (by omega) (by omega), bh]
  generalize sp 46 ((sp 32 s).headD []) = w
  have hg : ∀ (b : Bool) (x : Option M3), dK b (fO (c : Int) 100) x = x := by
    intro b x
    cases b
    · exact gP
    · rw [jA, fI (by omega)]
  rw [hg]
  match w with
  | [] => rfl
  | [a] => rfl
  | [a, b] => rfl
  | a :: b :: d :: e :: r =>
    have : decide (((a :: b :: d :: e :: r).length : Int) = 3) = false := decide_eq_false (by simp; omega)
    rw [this, nfl, Bool.true_or, ctr]; rfl
  | [a, b, d] =>
    have e3 : decide ((([a, b, d] : List Bs).length : Int) = 3) = true := rfl
    rw [e3, ntr, fo]
    rw [kI]
    by_cases h3 : (c : Int) / 100 = 3
    · rw [bT h3, if_pos h3]
    · have a0 : at_ [a, b, d] 0 = a := rfl
      have a1 : at_ [a, b, d] 1 = b := rfl
      have a2 : at_ [a, b, d] 2 = d := rfl
      rw [bF h3, if_neg h3, bt (by simp), bb, bt (by simp), bb, bt (by simp), bb, a0, a1, a2, ia F a (by omega), bh, ia F b (by omega), bh, ia F d (by omega), bh]
      unfold eB
      rw [fI (by omega)]
      cases hna : eI a with
      | none =>
        have : ¬ numI a = (c : Int) / 100 := by rw [iR hna]; omega
        rw [decide_eq_false this]; rfl
      | some x =>
        rw [gX hna]
        by_cases hx : (x : Int) = (c : Int) / 100
        · cases hnb : eI b with
          | none => rw [iR hnb, decide_eq_true hx]; rfl
          | some y =>
            cases hnd : eI d with
            | none => rw [iR hnd, decide_eq_true hx, gX hnb, decide_eq_false (p := (y : Int) < 0) (by omega)]; rfl
            | some z =>
              rw [gX hnb, gX hnd, decide_eq_true hx, decide_eq_false (p := (y : Int) < 0) (by omega), decide_eq_false (p := (z : Int) < 0) (by omega)]
              simp only [if_pos hx]; rfl
        · rw [decide_eq_false hx]
          cases eI b with
          | none => rfl
          | some y =>
            cases eI d with
            | none => rfl
            | some z => simp only [if_neg hx]; rfl
end Go.Rp
namespace Go.Rp
open Go.Pv Go.Av
open Go.Lib (decDigits)
open Go.Dg (gD cfl ctr gz hM fo nfl ntr cZ fk lQ)
def je (s : Bs) : Bool := !(s.any jV) && decide (s.length ≤ 506)
def lst (ls : List Bs) : Bs := at_ ls ((ls.length : Int) - 1)
def jU (c : Int) (ls : List Bs) (m : M3) : Bool := (((decide (200 ≤ c) && decide (c ≤ 599)) && (decide (1 ≤ ls.length) && decide (ls.length ≤ 100))) && ls.all je) && decide (m = dX c (lst ls))
theorem m3_eq (a b d x y z : Int) : ((a == x) && ((b == y) && ((d == z) && true))) = decide ((a, b, d) = (x, y, z)) := by
  by_cases h1 : a = x
  · by_cases h2 : b = y
    · by_cases h3 : d = z
      · subst h1; subst h2; subst h3; simp
      · simp [h3]
    · simp [h2]
  · simp [h1]
theorem lst_in {ls : List Bs} (h : 1 ≤ ls.length) : lst ls ∈ ls := by
  unfold lst
  have e : ((ls.length : Int) - 1) = ((ls.length - 1 : Nat) : Int) := by omega
  rw [e, dV (by omega)]
  exact List.getElem_mem _
theorem pD {α : Type} (c : Int) (ls : List Bs) (m : M3) (b : Bool) (X : Option Bool) (hb : b = ((((decide (c < 200)) || (decide (599 < c))) || (!decide (1 ≤ ls.length))) || (decide (100 < (ls.length : Int)))))
    (h : 200 ≤ c → c ≤ 599 → 1 ≤ ls.length → ls.length ≤ 100 → X = some (ls.all je && decide (m = dX c (lst ls)))) : (bif b then some false else X) = some (jU c ls m) := by
  subst hb
  unfold jU
  by_cases h1 : 200 ≤ c
  · by_cases h2 : c ≤ 599
    · by_cases h3 : 1 ≤ ls.length
      · by_cases h4 : ls.length ≤ 100
        · rw [h h1 h2 h3 h4, decide_eq_false (p := c < 200) (by omega), decide_eq_false (p := 599 < c) (by omega), decide_eq_true h3, decide_eq_false (p := 100 < (ls.length : Int)) (by omega), decide_eq_true h1, decide_eq_true h2, decide_eq_true h4]; rfl
        · rw [decide_eq_true (p := 100 < (ls.length : Int)) (by omega), decide_eq_false h4]; simp
      · rw [decide_eq_false h3]; simp
    · rw [decide_eq_true (p := 599 < c) (by omega), decide_eq_false h2]; simp
  · rw [decide_eq_true (p := c < 200) (by omega), decide_eq_false h1]; simp
theorem may_loop (F : Nat) (hF : 2000 < F) (c : Nat) (hc : c ≤ 1000) (ls : List Bs) (h1 : 1 ≤ ls.length) (h2 : ls.length ≤ 100) (m0 m1 m2 : Int) : ∀ (n i : Nat), ls.length - i < n → i ≤ ls.length → (ls.take i).all je = true →
    gh F (c : Int) ls m0 m1 m2 n (i : Int) = some ((ls.drop i).all je && decide ((m0, m1, m2) = dX (c : Int) (lst ls))) := by
  intro n
  induction n with
  | zero => intro i h; omega
  | succ n ih =>
    intro i hn hi ht;show gi F (c : Int) ls m0 m1 m2 (gh F (c : Int) ls m0 m1 m2 n) (i : Int) = _
    unfold gi
    by_cases h : i < ls.length
    · have hdr : ls.drop i = ls[i] :: ls.drop (i + 1) := aJ h
      rw [bT (by omega), bt (by omega), bb, dV h, hdr, List.all_cons]
      by_cases hl : 506 < (ls[i]).length
      · have e : je ls[i] = false := by unfold je; rw [decide_eq_false (by omega), Bool.and_false]
        rw [decide_eq_true (p := 506 < ((ls[i]).length : Int)) (by omega), ntr, pw, Bool.true_or, ctr, e, hM]; rfl
      · rw [decide_eq_false (p := 506 < ((ls[i]).length : Int)) (by omega), nfl, pv, oh F _ (by omega) (by omega), bh, fo]
        have e : je ls[i] = !(ls[i]).any jV := by unfold je; rw [decide_eq_true (by omega), Bool.and_true]
        rw [e]
        cases hq : (ls[i]).any jV with
        | true => rfl
        | false =>
          rw [cfl, bP (by omega), cH, ih (i + 1) (by omega) (by omega) ?_, nfl, gz]
          rw [List.take_succ_eq_append_getElem h, List.all_append, ht, gz]
          simp [e, hq]
    · have hi' : i = ls.length := by omega
      subst hi'
      rw [bF (by omega), List.drop_length]
      unfold gg
      have hls : (lst ls).length ≤ 900 := by
        rw [List.take_length] at ht
        have := List.all_eq_true.1 ht _ (lst_in h1)
        unfold je at this
        simp only [Bool.and_eq_true, decide_eq_true_eq] at this
        omega
      rw [bP (by omega), bt (by omega), bb]
      show lR (gC F (c : Int) (lst ls)) _ = _
      rcases pC F hF c (lst ls) hls with e | e
      · rw [e, show dX (c : Int) (lst ls) = ((dX (c : Int) (lst ls)).1, (dX (c : Int) (lst ls)).2.1, (dX (c : Int) (lst ls)).2.2) from rfl, fv, m3_eq]
        rfl
      · omega
theorem may_eq (F : Nat) (hF : 2000 < F) (c : Int) (ls : List Bs) (m0 m1 m2 : Int) : iw F c ls m0 m1 m2 = some (jU c ls (m0, m1, m2)) := by
  unfold iw
  refine pD (α := Unit) c ls _ _ _ ?_ fun h1 h2 h3 h4 => ?_
  · by_cases h : 1 ≤ ls.length
    · rw [decide_eq_false (p := (ls.length : Int) = 0) (by omega), decide_eq_true h]; rfl
    · rw [decide_eq_true (p := (ls.length : Int) = 0) (by omega), decide_eq_false h]; rfl
  · obtain ⟨k, rfl⟩ := Int.eq_ofNat_of_zero_le (show 0 ≤ c by omega)
    have := may_loop F hF k (by omega) ls h3 h4 m0 m1 m2 F 0 (by omega) (by omega) rfl
    rw [List.drop_zero] at this
    exact this
theorem oY (s : Bs) (hs : s.length ≤ 1000000) : ∀ (n i : Nat), s.length - i < n → i ≤ s.length → ez s n (i : Int) = some (!((s.drop i).any jV) && decide (s.length ≤ 506)) := by
  intro n
  induction n with
  | zero => intro i h; omega
  | succ n ih =>
    intro i hn hi;show eA s (ez s n) (i : Int) = _
    unfold eA
    by_cases h : i < s.length
    · have hdr : s.drop i = s[i] :: s.drop (i + 1) := aJ h
      have hg : ∀ (c : Bool) (x : Option Bool), dK c (bQ (i : Int) s.length) x = x := fun c x => fX fun _ => by omega
      rw [bT (by omega), bt (by omega), bb, hg, bb, dV h, hdr, List.any_cons]
      show (bif jV s[i] then _ else _) = _
      cases jV s[i] with
      | true => rfl
      | false => rw [cfl, bP (by omega), cH, ih (i + 1) (by omega) (by omega), fo]
    · rw [bF (by omega), aM (by omega)]
      unfold ey
      show some (decide ((s.length : Int) ≤ 506)) = some (true && decide (s.length ≤ 506))
      rw [gz]
      by_cases h5 : s.length ≤ 506
      · rw [decide_eq_true h5, decide_eq_true (by omega)]
      · rw [decide_eq_false h5, decide_eq_false (by omega)]
theorem rfits_eq (F : Nat) (s : Bs) (hs : s.length ≤ 1000) (hF : 1000 < F) : ie F s = some (je s) := by
  have := oY s (by omega) F 0 (by omega) (by omega)
  exact this
theorem pW (F : Nat) (hF : 2000 < F) (c : Nat) (hc : c ≤ 1000) (ls : List Bs) (h1 : 1 ≤ ls.length) (h2 : ls.length ≤ 100) (hl : ∀ s ∈ ls, s.length ≤ 900) (m0 m1 m2 : Int) : ∀ (n i : Nat), ls.length - i < n → i ≤ ls.length →
    fa F (c : Int) ls m0 m1 m2 n (i : Int) = some ((ls.drop i).all je && decide ((m0, m1, m2) = dX (c : Int) (lst ls))) := by
  intro n
  induction n with
  | zero => intro i h; omega
  | succ n ih =>
    intro i hn hi;show fb F (c : Int) ls m0 m1 m2 (fa F (c : Int) ls m0 m1 m2 n) (i : Int) = _
    unfold fb
    by_cases h : i < ls.length
    · have hdr : ls.drop i = ls[i] :: ls.drop (i + 1) := aJ h
      have := hl _ (List.getElem_mem h)
      rw [bT (by omega), bt (by omega), bb, dV h, hdr, List.all_cons, rfits_eq F _ (by omega) (by omega), bh]
      cases hq : je ls[i] with
      | false => rfl
      | true => rw [ntr, cfl, bP (by omega), cH, ih (i + 1) (by omega) (by omega), gz]
    · rw [bF (by omega), aM (by omega)]
      unfold eZ
      have hls := hl _ (lst_in h1)
      rw [bP (by omega), bt (by omega), bb]
      show lR (eM F (c : Int) (lst ls)) _ = _
      rw [ov F hF c (lst ls) hls (by omega), show dX (c : Int) (lst ls) = ((dX (c : Int) (lst ls)).1, (dX (c : Int) (lst ls)).2.1, (dX (c : Int) (lst ls)).2.2) from rfl, fv, m3_eq]
      rfl
theorem pz (F : Nat) (hF : 2000 < F) (c : Int) (ls : List Bs) (hl : ∀ s ∈ ls, s.length ≤ 900) (m0 m1 m2 : Int) : ga F c ls m0 m1 m2 = some (jU c ls (m0, m1, m2)) := by
  unfold ga
  refine pD (α := Unit) c ls _ _ _ ?_ fun h1 h2 h3 h4 => ?_
  · by_cases h : 1 ≤ ls.length
    · rw [decide_eq_false (p := (ls.length : Int) < 1) (by omega), decide_eq_true h]; rfl
    · rw [decide_eq_true (p := (ls.length : Int) < 1) (by omega), decide_eq_false h]; rfl
  · obtain ⟨k, rfl⟩ := Int.eq_ofNat_of_zero_le (show 0 ≤ c by omega)
    have := pW F hF k (by omega) ls h3 h4 hl m0 m1 m2 F 0 (by omega) (by omega)
    rw [List.drop_zero] at this
    exact this
def lnW (d : Bs) (g : UInt8) (s : Bs) : Bs := d ++ g :: (s ++ [13, 10])
def wrL (d : Bs) : List Bs → Bs
  | [] => []
  | s :: r => lnW d (if r = [] then 32 else 45) s ++ wrL d r
def wrA (c : Int) (ls : List Bs) : Bs := wrL (decDigits c.toNat) ls
theorem dd4 (c : Nat) (h : c ≤ 599) : (decDigits c).length ≤ 4 := lQ 3 c (by omega)
theorem sgn_eq {ls : List Bs} {i : Nat} (h : i < ls.length) : (if ls.drop (i + 1) = [] then (32 : UInt8) else 45) = if i + 1 = ls.length then 32 else 45 := by
  by_cases e : i + 1 = ls.length
  · rw [if_pos e, if_pos (aM (by omega))]
  · rw [if_neg e, if_neg (fun g => by have := congrArg List.length g; simp at this; omega)]
theorem oS (c : Nat) (hc : c ≤ 599) (ls : List Bs) (h2 : ls.length ≤ 100) (hl : ∀ s ∈ ls, s.length ≤ 506) : ∀ (n i : Nat) (y : Bs), ls.length - i < n → i ≤ ls.length → y.length ≤ 1000 * i →
    cT (c : Int) ls n (y, (i : Int)) = some (y ++ wrL (decDigits c) (ls.drop i), 0) := by
  intro n
  induction n with
  | zero => intro i y h; omega
  | succ n ih =>
    intro i y hn hi hy;show eX (c : Int) ls (cT (c : Int) ls n) y (i : Int) = _
    unfold eX
    have hd := dd4 c hc
    by_cases h : i < ls.length
    · have hdr : ls.drop i = ls[i] :: ls.drop (i + 1) := aJ h
      have hli := hl _ (List.getElem_mem h)
      have key : ∀ g : UInt8, dm (c : Int) y (i : Int) ls[i] (cT (c : Int) ls n) [g] = some (y ++ (lnW (decDigits c) g ls[i] ++ wrL (decDigits c) (ls.drop (i + 1))), 0) := by
        intro g
        unfold dm
        rw [bP (by omega), bb, gD, bV (by simp; omega), bb, bV (by simp; omega), bb, bV (by simp; omega), bb, bV (by simp; omega), bb, bP (by omega), cH,
          ih (i + 1) _ (by omega) (by omega) (by simp; omega)]
        unfold lnW
        simp only [List.append_assoc, List.singleton_append, List.cons_append, List.nil_append]
      rw [bT (by omega), bt (by omega), bb, dV h, bP (by omega), hdr]
      show _ = some (y ++ (lnW (decDigits c) (if ls.drop (i + 1) = [] then 32 else 45) ls[i] ++ wrL (decDigits c) (ls.drop (i + 1))), 0)
      rw [sgn_eq h]
      by_cases e : i + 1 = ls.length
      · rw [bT (by omega), if_pos e]; exact key 32
      · rw [bF (by omega), if_neg e]; exact key 45
    · rw [bF (by omega), aM (by omega)]
      show some (y, 0) = some (y ++ [], 0)
      rw [List.append_nil]
theorem may_s {c : Int} {ls : List Bs} {m : M3} (h : jU c ls m = true) : (200 ≤ c ∧ c ≤ 599) ∧ (1 ≤ ls.length ∧ ls.length ≤ 100) ∧ (∀ s ∈ ls, je s = true) ∧ m = dX c (lst ls) := by
  unfold jU at h
  simp only [Bool.and_eq_true, decide_eq_true_eq] at h
  exact ⟨h.1.1.1, h.1.1.2, fun s hs => List.all_eq_true.1 h.1.2 s hs, h.2⟩
theorem pF {s : Bs} (h : je s = true) : s.length ≤ 506 := by
  unfold je at h
  simp only [Bool.and_eq_true, decide_eq_true_eq] at h
  exact h.2
theorem write_eq (F : Nat) (hF : 2000 < F) (c : Int) (ls : List Bs) (m0 m1 m2 : Int) : gR F c ls m0 m1 m2 = some (if jU c ls (m0, m1, m2) = true then (wrA c ls, 0) else ([], 1)) := by
  unfold gR
  rw [may_eq F hF, bh]
  cases hm : jU c ls (m0, m1, m2) with
  | false => rfl
  | true =>
    obtain ⟨⟨h1, h2⟩, ⟨h3, h4⟩, h5, _⟩ := may_s hm;obtain ⟨k, rfl⟩ := Int.eq_ofNat_of_zero_le (show 0 ≤ c by omega)
    rw [ntr, cfl, if_pos rfl]
    have := oS k (by omega) ls h4 (fun s hs => pF (h5 s hs)) F 0 [] (by omega) (by omega) (by simp)
    exact this
theorem dg_sub (k : Nat) (h : k < 10) : sub ([48, 49, 50, 51, 52, 53, 54, 55, 56, 57] : Bs) (k : Int) ((k : Int) + 1) = [UInt8.ofNat (48 + k)] := by
  have : ∀ k : Fin 10, sub ([48, 49, 50, 51, 52, 53, 54, 55, 56, 57] : Bs) (k.val : Int) ((k.val : Int) + 1) = [UInt8.ofNat (48 + k.val)] := by decide +kernel
  exact this ⟨k, h⟩
theorem oC : ∀ (k m n : Nat) (acc : Bs), n < 10 ^ k → k < m → n ≤ 1073741824 → acc.length + k ≤ 1000 → dC m ((n : Int), acc) = some ((if n = 0 then [] else decDigits n) ++ acc)
  | k, 0, n, acc, _, h, _, _ => by omega
  | k, m + 1, n, acc, hk, hm, hn, ha => by
    show dD (dC m) (n : Int) acc = _
    unfold dD dB
    by_cases h : n = 0
    · rw [bF (by omega), if_pos h]; rfl
    · have e1 : (n : Int) % 10 = ((n % 10 : Nat) : Int) := by omega
      have e2 : (n : Int) / 10 = ((n / 10 : Nat) : Int) := by omega
      have hl : ([48, 49, 50, 51, 52, 53, 54, 55, 56, 57] : Bs).length = 10 := rfl
      match k, hk, hm, ha with
      | 0, hk, _, _ => omega
      | k + 1, hk, hm, ha =>
        have hk' : n / 10 < 10 ^ k := by rw [Nat.pow_succ] at hk; omega
        rw [bT (by omega), fI (by omega), fI (by omega), e1, bP (by omega), hl, lk (by omega), bb, dg_sub _ (by omega), bV (by simp; omega), bb, fI (by omega), e2, oC k m (n / 10) _ hk' (by omega) (by omega) (by simp; omega)]
        by_cases h10 : n < 10
        · rw [if_pos (by omega), if_neg h, cZ h10, Nat.mod_eq_of_lt h10]; rfl
        · rw [if_neg (by omega), if_neg h, fk h10, List.append_assoc]
theorem qO (F : Nat) (n : Nat) (hn : n ≤ 1073741824) (hF : 100 < F) : fc F (n : Int) = some (decDigits n) := by
  have e1 : (n : Int) % 10 = ((n % 10 : Nat) : Int) := by omega
  have e2 : (n : Int) / 10 = ((n / 10 : Nat) : Int) := by omega
  have hl : ([48, 49, 50, 51, 52, 53, 54, 55, 56, 57] : Bs).length = 10 := rfl
  unfold fc
  rw [fI (by omega), fI (by omega), e1, bP (by omega), hl, lk (by omega), bb, dg_sub _ (by omega), fI (by omega), e2, oC 10 F (n / 10) _ (by omega) (by omega) (by omega) (by simp)]
  by_cases h10 : n < 10
  · rw [if_pos (by omega), cZ h10, Nat.mod_eq_of_lt h10]; rfl
  · rw [if_neg (by omega), fk h10]
theorem nN (F : Nat) (hF : 2000 < F) (c : Nat) (hc : c ≤ 599) (ls : List Bs) (h2 : ls.length ≤ 100) (hl : ∀ s ∈ ls, s.length ≤ 506) : ∀ (n i : Nat) (y : Bs), ls.length - i < n → i ≤ ls.length → y.length ≤ 1000 * i →
    cr F (c : Int) ls n (y, (i : Int)) = some (y ++ wrL (decDigits c) (ls.drop i), 0) := by
  intro n
  induction n with
  | zero => intro i y h; omega
  | succ n ih =>
    intro i y hn hi hy;show dZ F (c : Int) ls (cr F (c : Int) ls n) y (i : Int) = _
    unfold dZ
    have hd := dd4 c hc
    by_cases h : i < ls.length
    · have hdr : ls.drop i = ls[i] :: ls.drop (i + 1) := aJ h
      have hli := hl _ (List.getElem_mem h)
      have key : ∀ g : UInt8, cI F (c : Int) ls y (i : Int) (cr F (c : Int) ls n) [g] = some (y ++ (lnW (decDigits c) g ls[i] ++ wrL (decDigits c) (ls.drop (i + 1))), 0) := by
        intro g
        unfold cI
        rw [bt (by omega), bb, dV h, qO F c (by omega) (by omega), bh, bV (by first | omega | (simp; omega)), bb, bV (by simp; omega), bb, bV (by simp; omega), bb, bV (by simp; omega), bb, bP (by omega), cH,
          ih (i + 1) _ (by omega) (by omega) (by simp; omega)]
        unfold lnW
        simp only [List.append_assoc, List.singleton_append, List.cons_append, List.nil_append]
      rw [bT (by omega), bP (by omega), hdr]
      show _ = some (y ++ (lnW (decDigits c) (if ls.drop (i + 1) = [] then 32 else 45) ls[i] ++ wrL (decDigits c) (ls.drop (i + 1))), 0)
      rw [sgn_eq h]
      by_cases e : i + 1 = ls.length
      · rw [bT (by omega), if_pos e]; exact key 32
      · rw [bF (by omega), if_neg e]; exact key 45
    · rw [bF (by omega), aM (by omega)]
      unfold dY
      rw [bV (by omega)]
      show some (y, 0) = some (y ++ [], 0)
      rw [List.append_nil]
theorem pT (F : Nat) (hF : 2000 < F) (c : Int) (ls : List Bs) (hl : ∀ s ∈ ls, s.length ≤ 900) (m0 m1 m2 : Int) : fC F c ls m0 m1 m2 = some (if jU c ls (m0, m1, m2) = true then (wrA c ls, 0) else ([], 1)) := by
  unfold fC
  rw [pz F hF c ls hl, bh]
  cases hm : jU c ls (m0, m1, m2) with
  | false => rfl
  | true =>
    obtain ⟨⟨h1, h2⟩, ⟨h3, h4⟩, h5, _⟩ := may_s hm;obtain ⟨k, rfl⟩ := Int.eq_ofNat_of_zero_le (show 0 ≤ c by omega)
    rw [ntr, cfl, if_pos rfl]
    have := nN F hF k (by omega) ls h4 (fun s hs => pF (h5 s hs)) F 0 [] (by omega) (by omega) (by simp)
    exact this
end Go.Rp
namespace Go.Rp
open Go.Pv Go.Av
open Go.Lib (decDigits indexByte)
open Go.Dg (val Dig gD cfl ctr gz hM fo nfl ntr cZ fk lQ ll lP)
theorem ib_ge (b : Bs) (c : UInt8) : -1 ≤ indexByte b c := Go.Lib.indexByte_ge b c
theorem ib_lt (b : Bs) (c : UInt8) : indexByte b c < b.length := (nZ b c).2
theorem ib_at (p q : Bs) (c : UInt8) (h : ∀ b ∈ p, b ≠ c) : indexByte (p ++ c :: q) c = (p.length : Int) := by
  induction p with
  | nil => simp [Go.Lib.indexByte]
  | cons a p ih =>
    have e : ¬ (a == c) = true := by simpa using h a (by simp)
    have ih' := ih fun b hb => h b (by simp [hb])
    show indexByte (a :: (p ++ c :: q)) c = _
    unfold Go.Lib.indexByte
    rw [if_neg e, ih']
    have e3 : (((p.length : Nat) : Int) == -1) = false := by
      simp
    rw [e3]
    simp
theorem iM {b : Bs} {c : UInt8} {i : Nat} (h : indexByte b c = (i : Int)) : ∃ p q, b = p ++ c :: q ∧ p.length = i ∧ ∀ x ∈ p, x ≠ c := by
  induction b generalizing i with
  | nil => have : (-1 : Int) = (i : Int) := h; omega
  | cons a b ih =>
    unfold Go.Lib.indexByte at h
    by_cases e : (a == c) = true
    · rw [if_pos e] at h
      refine ⟨[], b, ?_, by simp only [List.length_nil]; omega, by simp⟩
      rw [show a = c by simpa using e]; rfl
    · rw [if_neg e] at h
      by_cases e2 : indexByte b c = -1
      · rw [e2] at h
        have : (-1 : Int) = (i : Int) := h
        omega
      · have e3 : (indexByte b c == -1) = false := by simpa using e2
        rw [e3] at h
        simp only [Bool.false_eq_true, if_false] at h
        have hg := ib_ge b c
        obtain ⟨p, q, h1, h2, h3⟩ := ih (i := i - 1) (by omega);refine ⟨a :: p, q, by rw [h1]; rfl, by simp; omega, fun x hx => ?_⟩
        rcases List.mem_cons.1 hx with rfl | hx
        · intro e4; exact e (by simp [e4])
        · exact h3 x hx
theorem ib_no {b : Bs} {c : UInt8} (h : ∀ x ∈ b, x ≠ c) : indexByte b c = -1 := jS h
inductive Ln | wait | bad | ok (s : Bs)
def gB (b : Bs) : Ln :=
  if indexByte b 10 < 0 then (if b.length < 512 then .wait else .bad)
  else if indexByte b 10 < 512 ∧ 0 < indexByte b 10 ∧ indexByte b 13 = indexByte b 10 - 1 then .ok (b.take (indexByte b 10 - 1).toNat) else .bad
theorem ln_ok {b s : Bs} (h : gB b = .ok s) : ∃ t, b = s ++ 13 :: 10 :: t ∧ (∀ x ∈ s, jV x = false) ∧ s.length ≤ 510 := by
  unfold gB at h
  by_cases h0 : indexByte b 10 < 0
  · rw [if_pos h0] at h
    split at h <;> cases h
  · rw [if_neg h0] at h
    split at h
    · rename_i hc
      obtain ⟨h1, h2, h3⟩ := hc
      have hs : b.take (indexByte b 10 - 1).toNat = s := by injection h
      obtain ⟨p, q, e1, e2, e3⟩ := iM (b := b) (c := 10) (i := (indexByte b 10).toNat) (by omega);obtain ⟨p', q', g1, g2, g3⟩ := iM (b := b) (c := 13) (i := (indexByte b 10 - 1).toNat) (by omega)
      have hp' : p' = s := by rw [← hs, ← g2, g1, List.take_left' rfl]
      have hp : p = p' ++ [13] := by
        have a1 : b.take (indexByte b 10).toNat = p := by rw [← e2, e1, List.take_left' rfl]
        have a2 : b.take (indexByte b 10).toNat = p' ++ [13] := by
          have l : (indexByte b 10).toNat = (p' ++ [13]).length := by simp; omega
          rw [l, g1, show p' ++ 13 :: q' = (p' ++ [13]) ++ q' by simp, List.take_left' rfl]
        rw [← a1, a2]
      refine ⟨q, by rw [← hp', e1, hp]; simp, fun x hx => ?_, by rw [← hp']; omega⟩
      unfold jV
      rw [← hp'] at hx
      rw [decide_eq_false (g3 x hx), decide_eq_false (e3 x (by rw [hp]; simp [hx]))]; rfl
    · cases h
theorem ln_of (s t : Bs) (h : ∀ x ∈ s, jV x = false) (hl : s.length ≤ 510) : gB (s ++ 13 :: 10 :: t) = .ok s := by
  have h13 : ∀ x ∈ s, x ≠ 13 := fun x hx e => by have := h x hx; rw [e] at this; revert this; decide
  have h10 : ∀ x ∈ s ++ [13], x ≠ 10 := fun x hx e => by
    rcases List.mem_append.1 hx with hx | hx
    · have := h x hx; rw [e] at this; revert this; decide
    · rw [List.mem_singleton.1 hx] at e; revert e; decide
  have e1 := ib_at s (10 :: t) 13 h13
  have e2 := ib_at (s ++ [13]) t 10 h10
  rw [show (s ++ [13]) ++ 10 :: t = s ++ 13 :: 10 :: t by simp] at e2
  have e2' : indexByte (s ++ 13 :: 10 :: t) 10 = (s.length : Int) + 1 := by rw [e2]; simp
  unfold gB
  rw [e1, e2', if_neg (by omega), if_pos (by omega), show ((s.length : Int) + 1 - 1).toNat = s.length by omega, List.take_left']
  rfl
theorem pr {b s : Bs} (h : gB b = .ok s) : s.length + 2 ≤ b.length := by
  obtain ⟨t, rfl, _, _⟩ := ln_ok h
  simp
def gQ (s : Bs) : Option Nat :=
  if 4 ≤ s.length ∧ (at_ s 3 = 45 ∨ at_ s 3 = 32) then
    match eI (s.take 3) with
    | some n => if 200 ≤ n ∧ n ≤ 599 then some n else none
    | none => none
  else none
theorem code_s {s : Bs} {n : Nat} (h : gQ s = some n) : 4 ≤ s.length ∧ (at_ s 3 = 45 ∨ at_ s 3 = 32) ∧ (200 ≤ n ∧ n ≤ 599) ∧ eI (s.take 3) = some n := by
  unfold gQ at h
  split at h
  · rename_i hc
    cases hn : eI (s.take 3) with
    | none => rw [hn] at h; cases h
    | some k =>
      rw [hn] at h
      simp only at h
      split at h
      · cases h; rename_i hk; exact ⟨hc.1, hc.2, hk, rfl⟩
      · cases h
  · cases h
abbrev Rp := Int × List Bs × M3
inductive One | wait | bad | ok (x : Rp) (n : Nat)
def iy : Nat → Int → List Bs → Nat → Bs → One
  | 0, _, _, _, b => match gB b with
    | .wait => .wait
    | _ => .bad
  | k + 1, c, ls, at', b => match gB b with
    | .wait => .wait
    | .bad => .bad
    | .ok s => match gQ s with
      | none => .bad
      | some n => if ls ≠ [] ∧ (n : Int) ≠ c then .bad else
        if at_ s 3 = 32 then .ok ((n : Int), ls ++ [s.drop 4], dX (n : Int) (s.drop 4)) (at' + (s.length + 2))
        else iy k (n : Int) (ls ++ [s.drop 4]) (at' + (s.length + 2)) (b.drop (s.length + 2))
def one (b : Bs) : One := iy 100 0 [] 0 b
theorem ns : ∀ (k : Nat) (c : Int) (ls : List Bs) (a : Nat) (b : Bs) (x : Rp) (n : Nat), iy k c ls a b = .ok x n →
    ∃ (d : Nat) (l2 : List Bs), x = ((d : Int), ls ++ l2, dX (d : Int) (lst l2)) ∧ l2 ≠ [] ∧ l2.length ≤ k ∧ (∀ s ∈ l2, je s = true) ∧ (200 ≤ d ∧ d ≤ 599) ∧ (ls ≠ [] → (d : Int) = c) ∧ a < n ∧ n ≤ a + b.length ∧ b.take (n - a) = wrL (decDigits d) l2
  | 0, c, ls, a, b, x, n, h => by
    unfold iy at h
    split at h <;> cases h
  | k + 1, c, ls, a, b, x, n, h => by
    unfold iy at h
    cases hb : gB b with
    | wait => rw [hb] at h; cases h
    | bad => rw [hb] at h; cases h
    | ok s =>
      rw [hb] at h
      simp only at h
      cases hc : gQ s with
      | none => rw [hc] at h; cases h
      | some m =>
        rw [hc] at h
        simp only at h
        by_cases h1 : ls ≠ [] ∧ (m : Int) ≠ c
        · rw [if_pos h1] at h; cases h
        rw [if_neg h1] at h
        have hcode : ls ≠ [] → (m : Int) = c := fun g => by
          by_cases e : (m : Int) = c
          · exact e
          · exact absurd ⟨g, e⟩ h1
        obtain ⟨t, ht, hs, hl⟩ := ln_ok hb;obtain ⟨c1, c2, c3, c4⟩ := code_s hc;obtain ⟨d1, d2⟩ := num_dd c4
        have hlen := pr hb
        have hfit : je (s.drop 4) = true := by
          unfold je
          rw [decide_eq_true (p := (s.drop 4).length ≤ 506) (by simp; omega), Bool.and_true]
          have : (s.drop 4).any jV = false := by
            rw [List.any_eq_false]
            intro y hy
            rw [hs y (List.mem_of_mem_drop hy)]; simp
          rw [this]; rfl
        have hsplit : s = decDigits m ++ at_ s 3 :: s.drop 4 := by
          have e3 : at_ s 3 = s[3] := dV (i := 3) (by omega)
          rw [← d1, e3]
          have := aJ (l := s) (i := 3) (by omega)
          conv => lhs; rw [← List.take_append_drop 3 s, this]
        have hln : b.take (s.length + 2) = lnW (decDigits m) (at_ s 3) (s.drop 4) := by
          conv => lhs; rw [ht]
          rw [show s ++ 13 :: 10 :: t = (s ++ [13, 10]) ++ t by simp, show s.length + 2 = (s ++ [13, 10]).length by simp, List.take_left' rfl]
          unfold lnW
          conv => lhs; rw [hsplit]
          simp
        by_cases h2 : at_ s 3 = 32
        · rw [if_pos h2] at h
          injection h with hx hn
          subst hx; subst hn
          refine ⟨m, [s.drop 4], rfl, by simp, by simp, fun y hy => ?_, c3, hcode, by omega, by omega, ?_⟩
          · rw [List.mem_singleton.1 hy]; exact hfit
          · rw [show a + (s.length + 2) - a = s.length + 2 by omega, hln, h2]
            unfold wrL
            rw [if_pos rfl]; unfold wrL; simp
        · rw [if_neg h2] at h
          obtain ⟨d, l2, e1, e2, e3, e4, e5, e6, e7, e8, e9⟩ := ns k _ _ _ _ x n h
          have hd : (d : Int) = (m : Int) := e6 (by simp)
          have hdm : d = m := by omega
          subst hdm;refine ⟨d, s.drop 4 :: l2, ?_, by simp, by simp; omega, fun y hy => ?_, e5, hcode, by omega, by simp at e8; omega, ?_⟩
          · rw [e1]
            have : lst (s.drop 4 :: l2) = lst l2 := by
              have hp : 0 < l2.length := List.length_pos_iff.2 e2
              unfold lst
              rw [show (((s.drop 4 :: l2).length : Int) - 1) = ((l2.length - 1 + 1 : Nat) : Int) by simp; omega, show ((l2.length : Int) - 1) = ((l2.length - 1 : Nat) : Int) by omega, dV (by simp only [List.length_cons]; omega), dV (by omega)]
              rfl
            rw [this, List.append_assoc]; rfl
          · rcases List.mem_cons.1 hy with rfl | hy
            · exact hfit
            · exact e4 y hy
          · have g3 : at_ s 3 = 45 := by
              rcases c2 with g | g
              · exact g
              · exact absurd g h2
            have hle : s.length + 2 ≤ n - a := by omega
            have : b.take (n - a) = b.take (s.length + 2) ++ (b.drop (s.length + 2)).take (n - (a + (s.length + 2))) := by
              rw [show n - a = (s.length + 2) + (n - (a + (s.length + 2))) by omega, List.take_add]
            rw [this, e9, hln, g3]
            show _ = lnW (decDigits d) (if l2 = [] then 32 else 45) (s.drop 4) ++ wrL (decDigits d) l2
            rw [if_neg e2]
inductive All : Bs → List Rp → Nat → Bool → Prop
  | wait {b : Bs} : one b = .wait → All b [] 0 false
  | bad {b : Bs} : one b = .bad → All b [] 0 true
  | ok {b : Bs} {x : Rp} {n : Nat} {l : List Rp} {u : Nat} {bd : Bool} : one b = .ok x n → All (b.drop n) l u bd → All b (x :: l) (n + u) bd
theorem one_pos {b : Bs} {x : Rp} {n : Nat} (h : one b = .ok x n) : 0 < n ∧ n ≤ b.length := by
  obtain ⟨d, l2, _, _, _, _, _, _, h7, h8, _⟩ := ns 100 0 [] 0 b x n h
  omega
theorem All.ex : ∀ (m : Nat) (b : Bs), b.length < m → ∃ l u bd, All b l u bd
  | 0, b, h => by omega
  | m + 1, b, h => by
    cases hb : one b with
    | wait => exact ⟨_, _, _, .wait hb⟩
    | bad => exact ⟨_, _, _, .bad hb⟩
    | ok x n =>
      obtain ⟨h1, h2⟩ := one_pos hb;obtain ⟨l, u, bd, hh⟩ := All.ex m (b.drop n) (by simp; omega);exact ⟨_, _, _, .ok hb hh⟩
theorem All.le {b : Bs} {l : List Rp} {u : Nat} {bd : Bool} (h : All b l u bd) : u ≤ b.length ∧ l.length ≤ u := by
  induction h with
  | wait e => simp
  | bad e => simp
  | ok e _ ih =>
    have := one_pos e
    simp at ih ⊢
    omega
def wrX (x : Rp) : Bs := wrA x.1 x.2.1
def mayX (x : Rp) : Bool := jU x.1 x.2.1 x.2.2
theorem nW (l : List Bs) : ([] : List Bs) ++ l = l := rfl
theorem one_may {b : Bs} {x : Rp} {n : Nat} (h : one b = .ok x n) : mayX x = true ∧ wrX x = b.take n := by
  obtain ⟨d, l2, h1, h2, h3, h4, h5, _, _, _, h9⟩ := ns 100 0 [] 0 b x n h;subst h1
  have hp : 1 ≤ l2.length := List.length_pos_iff.2 h2
  refine ⟨?_, ?_⟩
  · unfold mayX jU
    simp only [Bool.and_eq_true, decide_eq_true_eq, nW]
    exact ⟨⟨⟨⟨by omega, by omega⟩, hp, h3⟩, List.all_eq_true.2 h4⟩, trivial⟩
  · rw [Nat.sub_zero] at h9
    rw [h9]; rfl
theorem All.may {b : Bs} {l : List Rp} {u : Nat} {bd : Bool} (h : All b l u bd) : (∀ x ∈ l, mayX x = true) ∧ (l.map wrX).flatten = b.take u := by
  induction h with
  | wait e => exact ⟨by simp, by simp⟩
  | bad e => exact ⟨by simp, by simp⟩
  | ok e _ ih =>
    obtain ⟨h1, h2⟩ := one_may e;refine ⟨fun y hy => ?_, ?_⟩
    · rcases List.mem_cons.1 hy with rfl | hy
      · exact h1
      · exact ih.1 y hy
    · rw [List.map_cons, List.flatten_cons, h2, ih.2, List.take_add]
end Go.Rp
namespace Go.Rp
open Go.Pv Go.Av
open Go.Lib (decDigits indexByte)
open Go.Dg (cfl ctr gz hM fo nfl ntr)
theorem kv (F : Nat) (b : Bool) : dt F b = some (bif b then Res.ok () else Res.pan 0) := by cases b <;> rfl
theorem oH (F : Nat) (b : Bs) (c : UInt8) : dE F b c = some (indexByte b c) := rfl
section
variable {σ : Type}
theorem pf (F : Nat) (k : σ → Bs → Option (σ × Option Bool)) (rec : (Bs × σ) → Option (σ × Bool × Bs)) (b : Bs) (st : σ) (hb : b.length ≤ 2000000) :
    dJ F k rec b st = match gB b with
      | .wait => some (st, false, b)
      | .bad => some (st, true, [])
      | .ok s => bnd (k st s) fun x => bndo x.2 (some (x.1, true, [])) fun g => bif !g then some (x.1, false, b) else rec (b.drop (s.length + 2), x.1) := by
  have g10 := ib_ge b 10
  have g13 := ib_ge b 13
  have l10 := ib_lt b 10
  have l13 := ib_lt b 13
  unfold dJ gB
  rw [oH, bh, oH]
  simp only [kv]
  by_cases h0 : indexByte b 10 < 0
  · rw [bT h0, if_pos h0]
    by_cases hl : b.length < 512
    · rw [decide_eq_true (p := (b.length : Int) < 512) (by omega), if_pos hl]; rfl
    · rw [decide_eq_false (p := (b.length : Int) < 512) (by omega), if_neg hl]; rfl
  · rw [bF h0, if_neg h0]
    by_cases h1 : indexByte b 10 < 512 ∧ 0 < indexByte b 10
    · obtain ⟨h1, h2⟩ := h1
      rw [decide_eq_true h1, decide_eq_true h2, gz, pv, bh, jA, bP (by omega), gz]
      by_cases h3 : indexByte b 13 = indexByte b 10 - 1
      · rw [decide_eq_true h3, ctr, nx, bP (by omega), dU (by omega), bb, if_pos ⟨h1, h2, h3⟩]
        have e1 : to_ b (indexByte b 10 - 1) = b.take (indexByte b 10 - 1).toNat := rfl
        have e2 : dg b (indexByte b 10 + 1) = b.drop ((b.take (indexByte b 10 - 1).toNat).length + 2) := by
          unfold dg
          congr 1
          rw [List.length_take]; omega
        have hI : -9223372036854775808 ≤ indexByte b 10 + 1 ∧ indexByte b 10 + 1 ≤ 9223372036854775807 := by omega
        have hT : 0 ≤ indexByte b 10 + 1 ∧ indexByte b 10 + 1 ≤ b.length := by omega
        rw [e1]
        simp only [bP hI, dU hT, bb, e2]
      · rw [decide_eq_false h3, cfl, gE, if_neg (fun g => h3 g.2.2)]
    · have e : ((decide (indexByte b 10 < 512)) && (decide (0 < indexByte b 10))) = false := by
        by_cases q : indexByte b 10 < 512
        · rw [decide_eq_false (p := 0 < indexByte b 10) (fun r => h1 ⟨q, r⟩), Bool.and_false]
        · rw [decide_eq_false q]; rfl
      rw [e, pw, gP, hM, cfl, gE, if_neg (fun g => h1 ⟨g.1, g.2.1⟩)]
end
abbrev S5 := Int × Int × List Bs × List Rp × Int
def kk (F : Nat) (s : S5) (x : Bs) : Option (S5 × Option Bool) := eL F s.1 s.2.1 s.2.2.1 s.2.2.2.1 s.2.2.2.2 x
def lineR (a : Nat) (c : Int) (ls : List Bs) (l : List Rp) (u : Int) (s : Bs) : S5 × Option Bool :=
  match gQ s with
  | none => (((a : Int), c, ls, l, u), none)
  | some n => if ls.length < 100 ∧ ¬ (ls ≠ [] ∧ (n : Int) ≠ c) then
      (if at_ s 3 = 32 then (((a + (s.length + 2) : Nat) : Int), 0, [], l ++ [((n : Int), ls ++ [s.drop 4], dX (n : Int) (s.drop 4))], ((a + (s.length + 2) : Nat) : Int))
       else (((a + (s.length + 2) : Nat) : Int), (n : Int), ls ++ [s.drop 4], l, u), some true)
    else (((a : Int), c, ls, l, u), none)
theorem kk_eq (F : Nat) (hF : 2000 < F) (a : Nat) (c : Int) (ls : List Bs) (l : List Rp) (u : Int) (s : Bs) (hs : s.length ≤ 510) (ha : a ≤ 2000000) (hls : ls.length ≤ 100) (hl : l.length ≤ 2000000) :
    kk F ((a : Int), c, ls, l, u) s = some (lineR a c ls l u s) := by
  unfold kk eL lineR gQ
  simp only
  by_cases h4 : 4 ≤ s.length
  · have hd4 : decide ((4 : Int) ≤ (s.length : Int)) = true := decide_eq_true (by omega)
    have hg : ∀ (b : Bool) (x : Option (S5 × Option Bool)), dK b (bQ 3 s.length) x = x := fun b x => fX fun _ => by omega
    rw [hd4, hg, bb, hg, bb, gz]
    simp only [kv]
    obtain ⟨g, hgd⟩ : ∃ g, g = at_ s 3 := ⟨_, rfl⟩
    rw [← hgd]
    by_cases hsg : g = 45 ∨ g = 32
    · have esg : ((decide (g = 45)) || (decide (g = 32))) = true := by
        rcases hsg with e | e <;> rw [e] <;> decide
      rw [if_pos ⟨h4, hsg⟩, esg, gz]
      by_cases h100 : ls.length < 100
      · rw [decide_eq_true (p := (ls.length : Int) < 100) (by omega), ctr, nx, dU (by omega), bb]
        have e3 : to_ s 3 = s.take 3 := rfl
        have e4 : dg s 4 = s.drop 4 := rfl
        obtain ⟨x, ex, hx⟩ := iQ F (s.take 3) (by simp; omega) hF
        rw [e3, ex, bR]
        cases hn : eI (s.take 3) with
        | none => rfl
        | some n =>
          rw [hx n hn, show (some n).isSome = true from rfl, gz]
          simp only
          by_cases hr : 200 ≤ n ∧ n ≤ 599
          · rw [if_pos hr, decide_eq_true (p := (200 : Int) ≤ (n : Int)) (by omega), decide_eq_true (p := (n : Int) ≤ 599) (by omega), gz, gz]
            simp only
            by_cases hc : ls ≠ [] ∧ (n : Int) ≠ c
            · have e : ((decide ((ls.length : Int) = 0)) || (decide ((n : Int) = c))) = false := by
                rw [decide_eq_false hc.2, Bool.or_false]
                refine decide_eq_false fun g => hc.1 (List.length_eq_zero_iff.1 (by omega))
              rw [e, cfl, gE, if_neg (fun g => g.2 hc)]
            · have e : ((decide ((ls.length : Int) = 0)) || (decide ((n : Int) = c))) = true := by
                by_cases q : (n : Int) = c
                · rw [decide_eq_true q, Bool.or_true]
                · have : ls = [] := by
                    by_cases q2 : ls = []
                    · exact q2
                    · exact absurd ⟨q2, q⟩ hc
                  rw [this]; rfl
              rw [e, ctr, nx, dU (by omega), bb, e4, bV (by simp; omega), bb, if_pos ⟨h100, hc⟩]
              unfold gd
              have ea : (a : Int) + ((s.length : Int) + 2) = ((a + (s.length + 2) : Nat) : Int) := by omega
              rw [bP (by omega), bP (by omega), bt (by omega), bb, ← hgd, ea]
              by_cases h32 : g = 32
              · rw [bT h32, if_pos h32, dU (by omega), bb, e4]
                rcases pC F hF n (s.drop 4) (by simp; omega) with em | em
                · rw [em, show dX (n : Int) (s.drop 4) = ((dX (n : Int) (s.drop 4)).1, (dX (n : Int) (s.drop 4)).2.1, (dX (n : Int) (s.drop 4)).2.2) from rfl, fv]
                  unfold jW
                  rw [bV (by simp; omega), bb, bR]
                · omega
              · rw [bF h32, if_neg h32]
          · have e : (((decide ((200 : Int) ≤ (n : Int))) && (decide ((n : Int) ≤ 599))) && ((decide ((ls.length : Int) = 0)) || (decide ((n : Int) = c)))) = false := by
              by_cases q : 200 ≤ n
              · rw [decide_eq_false (p := (n : Int) ≤ 599) (by omega), Bool.and_false, hM]
              · rw [decide_eq_false (p := (200 : Int) ≤ (n : Int)) (by omega), hM, hM]
            rw [e, cfl, gE, if_neg hr]
      · rw [decide_eq_false (p := (ls.length : Int) < 100) (by omega), cfl, gE]
        cases hn : eI (s.take 3) with
        | none => rfl
        | some n =>
          simp only
          by_cases hr : 200 ≤ n ∧ n ≤ 599
          · rw [if_pos hr]; simp only; rw [if_neg (fun q => h100 q.1)]
          · rw [if_neg hr]
    · have esg : ((decide (g = 45)) || (decide (g = 32))) = false := by
        rw [decide_eq_false (fun e => hsg (.inl e)), decide_eq_false (fun e => hsg (.inr e))]; rfl
      rw [if_neg (fun q => hsg q.2), esg, hM, cfl, gE]
  · have hd4 : decide ((4 : Int) ≤ (s.length : Int)) = false := decide_eq_false (by omega)
    rw [hd4, gP, bb, hM, gP, bb, hM, hM, kv, cfl, gE, if_neg (fun q => h4 q.1)]
theorem ij (d : Nat) : ∀ (k : Nat) (c : Int) (ls : List Bs) (a : Nat) (b : Bs), iy k c ls (a + d) b = match iy k c ls a b with | .ok x n => .ok x (n + d) | y => y
  | 0, c, ls, a, b => by
    unfold iy
    cases gB b <;> rfl
  | k + 1, c, ls, a, b => by
    unfold iy
    cases gB b with
    | wait => rfl
    | bad => rfl
    | ok s =>
      simp only
      cases gQ s with
      | none => rfl
      | some n =>
        simp only
        by_cases h1 : ls ≠ [] ∧ (n : Int) ≠ c
        · rw [if_pos h1, if_pos h1]
        · rw [if_neg h1, if_neg h1]
          by_cases h2 : at_ s 3 = 32
          · rw [if_pos h2, if_pos h2]
            simp only
            rw [show a + d + (s.length + 2) = a + (s.length + 2) + d by omega]
          · rw [if_neg h2, if_neg h2, show a + d + (s.length + 2) = a + (s.length + 2) + d by omega]
            exact ij d k _ _ _ _
abbrev LL (F : Nat) (m : Nat) (b : Bs) (st : S5) : Option (S5 × Bool × Bs) := dI F (kk F) m (b, st)
theorem pE (F : Nat) (hF : 2000 < F) (m : Nat) (b : Bs) (a : Nat) (c : Int) (ls : List Bs) (l : List Rp) (u : Int) (hb : b.length ≤ 1000000) (ha : a ≤ 1000000) (hls : ls.length ≤ 100) (hl : l.length ≤ 1000000) :
    LL F (m + 1) b ((a : Int), c, ls, l, u) = match gB b with
      | .wait => some (((a : Int), c, ls, l, u), false, b)
      | .bad => some (((a : Int), c, ls, l, u), true, [])
      | .ok s => match gQ s with
        | none => some (((a : Int), c, ls, l, u), true, [])
        | some n => if ls.length < 100 ∧ ¬ (ls ≠ [] ∧ (n : Int) ≠ c) then
            (if at_ s 3 = 32 then LL F m (b.drop (s.length + 2)) (((a + (s.length + 2) : Nat) : Int), 0, [], l ++ [((n : Int), ls ++ [s.drop 4], dX (n : Int) (s.drop 4))], ((a + (s.length + 2) : Nat) : Int))
             else LL F m (b.drop (s.length + 2)) (((a + (s.length + 2) : Nat) : Int), (n : Int), ls ++ [s.drop 4], l, u))
          else some (((a : Int), c, ls, l, u), true, []) := by
  have e : LL F (m + 1) b ((a : Int), c, ls, l, u) = dJ F (kk F) (dI F (kk F) m) b ((a : Int), c, ls, l, u) := rfl
  rw [e, pf F _ _ b _ (by omega)]
  cases hb : gB b with
  | wait => rfl
  | bad => rfl
  | ok s =>
    simp only
    obtain ⟨t, _, _, hsl⟩ := ln_ok hb
    rw [kk_eq F hF a c ls l u s hsl (by omega) (by omega) (by omega), bh]
    unfold lineR
    cases gQ s with
    | none => rfl
    | some n =>
      simp only
      by_cases h1 : ls.length < 100 ∧ ¬ (ls ≠ [] ∧ (n : Int) ≠ c)
      · simp only [if_pos h1]
        by_cases h2 : at_ s 3 = 32
        · simp only [if_pos h2]; rfl
        · simp only [if_neg h2]; rfl
      · simp only [if_neg h1]; rfl
theorem iV (F : Nat) (hF : 2000 < F) (l : List Rp) (u : Int) (hl : l.length ≤ 1000000) : ∀ (j m : Nat) (b : Bs) (a : Nat) (c : Int) (ls : List Bs), ls.length + j = 100 → b.length < m → a + b.length ≤ 1000000 →
    match iy j c ls a b with
    | .wait => ∃ st b', LL F m b ((a : Int), c, ls, l, u) = some (st, false, b') ∧ st.2.2.2.1 = l ∧ st.2.2.2.2 = u
    | .bad => ∃ st b', LL F m b ((a : Int), c, ls, l, u) = some (st, true, b') ∧ st.2.2.2.1 = l ∧ st.2.2.2.2 = u
    | .ok x n => ∃ m', (b.drop (n - a)).length < m' ∧ a < n ∧ LL F m b ((a : Int), c, ls, l, u) = LL F m' (b.drop (n - a)) ((n : Int), 0, [], l ++ [x], (n : Int))
  | j, 0, b, a, c, ls, hj, hm, ha => by omega
  | 0, m + 1, b, a, c, ls, hj, hm, ha => by
    rw [pE F hF m b a c ls l u (by omega) (by omega) (by omega) hl]
    unfold iy
    cases hb : gB b with
    | wait => exact ⟨_, _, rfl, rfl, rfl⟩
    | bad => exact ⟨_, _, rfl, rfl, rfl⟩
    | ok s =>
      simp only
      cases gQ s with
      | none => exact ⟨_, _, rfl, rfl, rfl⟩
      | some n =>
        simp only
        rw [if_neg (fun q => by omega)]
        exact ⟨_, _, rfl, rfl, rfl⟩
  | j + 1, m + 1, b, a, c, ls, hj, hm, ha => by
    rw [pE F hF m b a c ls l u (by omega) (by omega) (by omega) hl]
    unfold iy
    cases hb : gB b with
    | wait => exact ⟨_, _, rfl, rfl, rfl⟩
    | bad => exact ⟨_, _, rfl, rfl, rfl⟩
    | ok s =>
      have hln := pr hb
      simp only
      cases gQ s with
      | none => exact ⟨_, _, rfl, rfl, rfl⟩
      | some n =>
        simp only
        by_cases h1 : ls ≠ [] ∧ (n : Int) ≠ c
        · have h1' : ¬ (ls.length < 100 ∧ ¬ (ls ≠ [] ∧ (n : Int) ≠ c)) := fun q => q.2 h1
          simp only [if_pos h1, if_neg h1']
          exact ⟨_, _, rfl, rfl, rfl⟩
        · have h1' : ls.length < 100 ∧ ¬ (ls ≠ [] ∧ (n : Int) ≠ c) := ⟨by omega, h1⟩
          simp only [if_neg h1, if_pos h1']
          by_cases h2 : at_ s 3 = 32
          · simp only [if_pos h2]
            refine ⟨m, ?_, by omega, ?_⟩
            · rw [List.length_drop]; omega
            · rw [show a + (s.length + 2) - a = s.length + 2 by omega]
          · simp only [if_neg h2]
            have ih := iV F hF l u hl j m (b.drop (s.length + 2)) (a + (s.length + 2)) (n : Int) (ls ++ [s.drop 4]) (by simp; omega) (by rw [List.length_drop]; omega) (by rw [List.length_drop]; omega)
            cases hq : iy j (n : Int) (ls ++ [s.drop 4]) (a + (s.length + 2)) (b.drop (s.length + 2)) with
            | wait => rw [hq] at ih; exact ih
            | bad => rw [hq] at ih; exact ih
            | ok x n' =>
              rw [hq] at ih
              simp only at ih ⊢
              obtain ⟨m', i1, i2, i3⟩ := ih
              have ed : (b.drop (s.length + 2)).drop (n' - (a + (s.length + 2))) = b.drop (n' - a) := by
                rw [List.drop_drop]; congr 1; omega
              rw [ed] at i1 i3
              exact ⟨m', i1, by omega, i3⟩
theorem qd (F : Nat) (hF : 2000 < F) {b : Bs} {l2 : List Rp} {u : Nat} {bd : Bool} (h : All b l2 u bd) : ∀ (m a : Nat) (l : List Rp), b.length < m → a + b.length ≤ 1000000 → l.length ≤ a →
    ∃ st b', LL F m b ((a : Int), 0, [], l, (a : Int)) = some (st, bd, b') ∧ st.2.2.2.1 = l ++ l2 ∧ st.2.2.2.2 = ((a + u : Nat) : Int) := by
  induction h with
  | @wait b e =>
    intro m a l hm ha hl
    have := iV F hF l (a : Int) (by omega) 100 m b a 0 [] rfl hm ha
    have sh := ij a 100 0 [] 0 b
    rw [Nat.zero_add, show iy 100 0 [] 0 b = .wait from e] at sh
    rw [sh] at this
    obtain ⟨st, b', h1, h2, h3⟩ := this;exact ⟨st, b', h1, by rw [h2, List.append_nil], by rw [h3]; rfl⟩
  | @bad b e =>
    intro m a l hm ha hl
    have := iV F hF l (a : Int) (by omega) 100 m b a 0 [] rfl hm ha
    have sh := ij a 100 0 [] 0 b
    rw [Nat.zero_add, show iy 100 0 [] 0 b = .bad from e] at sh
    rw [sh] at this
    obtain ⟨st, b', h1, h2, h3⟩ := this;exact ⟨st, b', h1, by rw [h2, List.append_nil], by rw [h3]; rfl⟩
  | @ok b x n l2 u bd e hr ih =>
    intro m a l hm ha hl
    have hp := one_pos e
    have := iV F hF l (a : Int) (by omega) 100 m b a 0 [] rfl hm ha
    have sh := ij a 100 0 [] 0 b
    rw [Nat.zero_add, show iy 100 0 [] 0 b = .ok x n from e] at sh
    rw [sh] at this
    simp only at this
    obtain ⟨m', h1, h2, h3⟩ := this
    rw [show n + a - a = n by omega] at h1 h3
    obtain ⟨st, b', g1, g2, g3⟩ := ih m' (n + a) (l ++ [x]) h1 (by rw [List.length_drop]; omega) (by simp; omega);refine ⟨st, b', by rw [h3]; exact g1, by rw [g2, List.append_assoc]; rfl, by rw [g3]; congr 1; omega⟩
theorem all_eq (F : Nat) (hF : 2000 < F) {b : Bs} {l : List Rp} {u : Nat} {bd : Bool} (h : All b l u bd) (hb : b.length ≤ 1000000) (hbF : b.length < F) : iv F b [] 0 = some (l, (u : Int), bd) := by
  obtain ⟨st, b', h1, h2, h3⟩ := qd F hF h F 0 [] hbF (by omega) (by simp)
  unfold iv iP ib
  rw [bh]
  have e : dI F (fun (s : S5) x => eL F s.1 s.2.1 s.2.2.1 s.2.2.2.1 s.2.2.2.2 x) F (b, (0, 0, [], [], 0)) = some (st, bd, b') := h1
  rw [e, fv, h2, h3, Nat.zero_add]
  cases bd <;> rfl
theorem put_eq (F : Nat) (hF : 2000 < F) (B b : Bs) {l : List Rp} {u : Nat} {bd : Bool} (h : All (B ++ b) l u bd) (hb : (B ++ b).length ≤ 1000000) (hbF : (B ++ b).length < F) : kg F B false b = some (l, if bd = true then [] else (B ++ b).drop u, bd) := by
  have hle := h.le
  rw [List.length_append] at hb
  unfold kg ge
  rw [cfl, bV (by omega), bb, all_eq F hF h (by rw [List.length_append]; omega) hbF, fv]
  cases bd with
  | true => rfl
  | false =>
    rw [cfl, dU (by rw [List.length_append]; rw [List.length_append] at hle; omega), bb, kd, nl (by rw [List.length_drop, List.length_append]; omega)]
    rfl
theorem read_eq (F : Nat) (hF : 2000 < F) (b : Bs) {l : List Rp} {u : Nat} {bd : Bool} (h : All b l u bd) (hb : b.length ≤ 1000000) (hbF : b.length < F) : hC F b = some (if bd = true ∨ u < b.length then ([], 2) else (l, 0)) := by
  have hle := h.le
  have hp := put_eq F hF [] b h hb hbF
  unfold hC kh ki jX
  rw [bh, hp, fv, bh]
  cases bd with
  | true => rfl
  | false =>
    rw [nfl, pv, bh, fo]
    simp only [Bool.false_eq_true, if_false, false_or]
    by_cases hu : u < b.length
    · rw [bT (by rw [List.nil_append, List.length_drop]; omega), if_pos hu]
    · rw [bF (by rw [List.nil_append, List.length_drop]; omega), if_neg hu]
end Go.Rp
namespace Go.Rp
open Go.Pv Go.Av
open Go.Dg (cfl ctr gz hM fo nfl ntr)
theorem pS (a : List Bs) (ha : a.length ≤ 1000000) : ∀ (n i : Nat), a.length - i < n → i ≤ a.length → eE a a n (i : Int) = some true := by
  intro n
  induction n with
  | zero => intro i h; omega
  | succ n ih =>
    intro i hn hi;show eF a a (eE a a n) (i : Int) = _
    unfold eF
    by_cases h : i < a.length
    · rw [bT (by omega), bt (by omega), bb, bt (by omega), bb, decide_eq_true rfl, ntr, cfl, bP (by omega), cH]
      exact ih (i + 1) (by omega) (by omega)
    · rw [bF (by omega)]; rfl
theorem pR (F : Nat) (a : List Bs) (ha : a.length ≤ 1000000) (hF : a.length < F) : gm F a a = some true := by
  unfold gm
  rw [decide_eq_true rfl, ntr, cfl]
  exact pS a ha F 0 (by omega) (by omega)
theorem qc (F : Nat) (hF : 2000 < F) (l : List Rp) (hl : l.length ≤ 1000000) (h : ∀ x ∈ l, x.2.1.length ≤ 1000) : ∀ (n i : Nat), l.length - i < n → i ≤ l.length → eC F l l n (i : Int) = some true := by
  intro n
  induction n with
  | zero => intro i h; omega
  | succ n ih =>
    intro i hn hi;show eD F l l (eC F l l n) (i : Int) = _
    unfold eD
    by_cases hlt : i < l.length
    · have hm := h _ (List.getElem_mem hlt)
      rw [bT (by omega), bt (by omega), bb, bt (by omega), bb, dV hlt]
      unfold ig
      rw [pR F _ (by omega) (by omega), bh, bh, m3_eq, decide_eq_true rfl, decide_eq_true rfl, gz, gz, ntr, cfl, bP (by omega), cH]
      exact ih (i + 1) (by omega) (by omega)
    · rw [bF (by omega)]; rfl
theorem qb (F : Nat) (hF : 2000 < F) (l : List Rp) (hl : l.length ≤ 1000000) (hlF : l.length < F) (h : ∀ x ∈ l, x.2.1.length ≤ 1000) : gl F l l = some true := by
  unfold gl
  rw [decide_eq_true rfl, ntr, cfl]
  exact qc F hF l hl h F 0 (by omega) (by omega)
theorem qa {x : Rp} (h : mayX x = true) : x.2.1.length ≤ 100 := (may_s h).2.1.2
theorem few_loop (ls : List Bs) (h : ls.length ≤ 120) : ∀ (n i : Nat), ls.length - i < n → i ≤ ls.length → ∃ f, fe ls n (i : Int) = some f ∧ (f = true → ∀ s ∈ ls.drop i, s.length ≤ 600) := by
  intro n
  induction n with
  | zero => intro i h; omega
  | succ n ih =>
    intro i hn hi;show ∃ f, ff ls (fe ls n) (i : Int) = some f ∧ _
    unfold ff
    by_cases hlt : i < ls.length
    · rw [bT (by omega), bt (by omega), bb, dV hlt]
      by_cases h6 : 600 < (ls[i]).length
      · rw [bT (by omega)]; exact ⟨false, rfl, fun g => by cases g⟩
      · rw [bF (by omega), bP (by omega), cH]
        obtain ⟨f, h1, h2⟩ := ih (i + 1) (by omega) (by omega);refine ⟨f, h1, fun g s hs => ?_⟩
        rw [aJ hlt] at hs
        rcases List.mem_cons.1 hs with rfl | hs
        · omega
        · exact h2 g s hs
    · rw [bF (by omega), aM (by omega)]; exact ⟨true, rfl, fun _ s hs => by cases hs⟩
theorem few_eq (F : Nat) (hF : 2000 < F) (c : Int) (ls : List Bs) (m0 m1 m2 : Int) : ∃ f, gY F c ls m0 m1 m2 = some f ∧ (f = true → ls.length ≤ 120 ∧ ∀ s ∈ ls, s.length ≤ 600) := by
  unfold gY
  by_cases h : 120 < ls.length
  · rw [bT (by omega)]; exact ⟨false, rfl, fun g => by cases g⟩
  · rw [bF (by omega)]
    obtain ⟨f, h1, h2⟩ := few_loop ls (by omega) F 0 (by omega) (by omega);exact ⟨f, h1, fun g => ⟨by omega, h2 g⟩⟩
theorem awake_eq : fD 2000000 = some true := by decide +kernel
end Go.Rp
namespace Go.Rp
open Go.Pv Go.Av
open Go.Lib (decDigits indexByte)
open Go.Dg (cfl ctr gz hM fo nfl ntr)
theorem rline_in (F : Nat) (s : Bs) (hs : s.length ≤ 1000) : ∀ (n i : Nat), s.length - i < n → i ≤ s.length → et s n (i : Int) = some (if 13 ∈ s.drop i then ([], 2) else (s, 1)) := by
  intro n
  induction n with
  | zero => intro i h; omega
  | succ n ih =>
    intro i hn hi;show ew s (et s n) (i : Int) = _
    unfold ew
    by_cases h : i < s.length
    · rw [bT (by omega), bt (by omega), bb, dV h, aJ h]
      by_cases e : s[i] = 13
      · rw [bT e, if_pos (by rw [e]; simp)]
      · rw [bF e, bP (by omega), cH, ih (i + 1) (by omega) (by omega)]
        by_cases g : 13 ∈ s.drop (i + 1)
        · rw [if_pos g, if_pos (List.mem_cons_of_mem _ g)]
        · rw [if_neg g, if_neg (fun q => by
            rcases List.mem_cons.1 q with q | q
            · exact e q.symm
            · exact g q)]
    · rw [bF (by omega), aM (by omega)]; rfl
def lnT (b : Bs) : Bs × Int := match gB b with | .wait => ([], 0) | .bad => ([], 2) | .ok s => (s, 1)
theorem oE {b : Bs} (h : indexByte b 10 < 0) : gB b = if b.length < 512 then .wait else .bad := by unfold gB; rw [if_pos h]
theorem ln_far {b : Bs} (h : 512 ≤ indexByte b 10) : gB b = .bad := by unfold gB; rw [if_neg (by omega), if_neg (by omega)]
theorem oX (F : Nat) (hF : 2000 < F) (b : Bs) (hb : b.length ≤ 2000000) : ∀ (n i : Nat), 512 - i < n → i ≤ b.length → i ≤ 512 → (∀ x ∈ b.take i, x ≠ 10) → cY F b n (i : Int) = some (lnT b) := by
  intro n
  induction n with
  | zero => intro i h; omega
  | succ n ih =>
    intro i hn hi hi2 hno;show eu F b (cY F b n) (i : Int) = _
    unfold eu
    by_cases h : i < b.length ∧ i < 512
    · obtain ⟨h1, h2⟩ := h
      have hspl : b = b.take i ++ b[i] :: b.drop (i + 1) := by rw [← aJ h1, List.take_append_drop]
      rw [decide_eq_true (p := (i : Int) < (b.length : Int)) (by omega), decide_eq_true (p := (i : Int) < 512) (by omega), gz, ctr, bt (by omega), bb, dV h1]
      by_cases e : b[i] = 10
      · have hidx : indexByte b 10 = (i : Int) := by
          rw [e] at hspl
          have := ib_at (b.take i) (b.drop (i + 1)) 10 hno
          rw [← hspl, List.length_take] at this
          omega
        rw [bT e]
        by_cases h0 : i = 0
        · subst h0
          have : lnT b = ([], 2) := by
            unfold lnT gB
            rw [hidx, if_neg (by omega), if_neg (by omega)]
          rw [this]; rfl
        · have hd0 : decide ((i : Int) = 0) = false := decide_eq_false (by omega)
          have ei : (i : Int) - 1 = ((i - 1 : Nat) : Int) := by omega
          rw [hd0, nfl, jA, bP (by omega), jA, bt (by omega), bb, ei, dV (by omega), fo]
          by_cases e13 : b[i - 1] = 13
          · have hsp2 : b.take i = b.take (i - 1) ++ [13] := by
              have := List.take_succ_eq_append_getElem (l := b) (i := i - 1) (by omega)
              rw [show i - 1 + 1 = i by omega, e13] at this
              exact this
            have hlt : (b.take (i - 1)).length = i - 1 := by rw [List.length_take]; omega
            rw [decide_eq_true e13, ntr, cfl, bP (by omega), dU (by omega), bb, to_nat]
            have := rline_in F (b.take (i - 1)) (by omega) F 0 (by omega) (by omega)
            rw [List.drop_zero] at this
            refine Eq.trans this ?_
            by_cases g : 13 ∈ b.take (i - 1)
            · rw [if_pos g]
              have : lnT b = ([], 2) := by
                unfold lnT gB
                rw [hidx, if_neg (by omega), if_neg ?_]
                rintro ⟨_, _, q⟩;obtain ⟨p, r, q1, q2, q3⟩ := iM (b := b) (c := 13) (i := i - 1) (by omega)
                have : b.take (i - 1) = p := by rw [q1, ← q2, List.take_left' rfl]
                rw [this] at g
                exact q3 13 g rfl
              rw [this]
            · rw [if_neg g]
              have : lnT b = (b.take (i - 1), 1) := by
                have hq : b = b.take (i - 1) ++ 13 :: 10 :: b.drop (i + 1) := by
                  conv => lhs; rw [hspl, e, hsp2]
                  simp
                have hok := ln_of (b.take (i - 1)) (b.drop (i + 1)) (fun x hx => by
                  unfold jV
                  have a1 : ¬ x = 13 := fun q => g (q ▸ hx)
                  have a2 : ¬ x = 10 := hno x (by rw [hsp2]; simp [hx])
                  rw [decide_eq_false a1, decide_eq_false a2]; rfl) (by omega)
                rw [← hq] at hok
                unfold lnT; rw [hok]
              rw [this]
          · rw [decide_eq_false e13, nfl, ctr]
            have : lnT b = ([], 2) := by
              unfold lnT gB
              rw [hidx, if_neg (by omega), if_neg ?_]
              rintro ⟨_, _, q⟩;obtain ⟨p, r, q1, q2, q3⟩ := iM (b := b) (c := 13) (i := i - 1) (by omega)
              have : b[i - 1]? = some 13 := by rw [q1, ← q2]; simp
              rw [aw (by omega)] at this
              exact e13 (ak this)
            rw [this]
      · rw [bF e]
        unfold ep
        rw [bP (by omega), cH]
        refine ih (i + 1) (by omega) (by omega) (by omega) fun x hx => ?_
        rw [List.take_succ_eq_append_getElem h1] at hx
        rcases List.mem_append.1 hx with hx | hx
        · exact hno x hx
        · rw [List.mem_singleton.1 hx]; exact e
    · have ed : ((decide ((i : Int) < (b.length : Int))) && (decide ((i : Int) < 512))) = false := by
        by_cases q : i < b.length
        · rw [decide_eq_false (p := (i : Int) < 512) (by omega), Bool.and_false]
        · rw [decide_eq_false (p := (i : Int) < (b.length : Int)) (by omega)]; rfl
      rw [ed, cfl]
      unfold er
      by_cases q : i < b.length
      · have hi5 : i = 512 := by omega
        rw [bT (by omega)]
        have : lnT b = ([], 2) := by
          have hn : indexByte b 10 < 0 ∨ 512 ≤ indexByte b 10 := by
            by_cases g : indexByte b 10 < 0
            · exact .inl g
            · right
              obtain ⟨p, r, q1, q2, q3⟩ := iM (b := b) (c := 10) (i := (indexByte b 10).toNat) (by omega)
              by_cases g2 : 512 ≤ indexByte b 10
              · exact g2
              · exfalso
                refine hno 10 ?_ rfl
                rw [q1, hi5]
                have : (p ++ 10 :: r).take 512 = p ++ (10 :: r).take (512 - p.length) := by
                  rw [List.take_append, List.take_of_length_le (by omega)]
                rw [this, show 512 - p.length = (511 - p.length) + 1 by omega]
                simp
          unfold lnT
          rcases hn with g | g
          · rw [oE g, if_neg (by omega)]
          · rw [ln_far g]
        rw [this]
      · have hib : i = b.length := by omega
        rw [hib, List.take_length] at hno
        have hn : indexByte b 10 < 0 := by rw [ib_no hno]; decide
        unfold lnT
        rw [oE hn]
        by_cases g : b.length < 512
        · rw [bF (by omega), if_pos g]
        · rw [bT (by omega), if_neg g]
theorem ow (F : Nat) (hF : 2000 < F) (b : Bs) (hb : b.length ≤ 2000000) : ic F b = some (lnT b) := by
  have := oX F hF b hb F 0 (by omega) (by omega) (by omega) (by simp)
  exact this
def codeI (s : Bs) : Int := match gQ s with | some n => (n : Int) | none => -1
theorem jY (F : Nat) (hF : 2000 < F) (s : Bs) : gj F s = some (codeI s) := by
  unfold gj codeI gQ
  by_cases h4 : 4 ≤ s.length
  · have hd4 : decide ((s.length : Int) < 4) = false := decide_eq_false (by omega)
    have hg : ∀ (b : Bool) (x : Option Int), dK b (bQ 0 s.length) x = x := fun b x => fX fun _ => by omega
    have hg3 : ∀ (b : Bool) (x : Option Int), dK b (bQ 3 s.length) x = x := fun b x => fX fun _ => by omega
    rw [hd4, hg, bb, hg3, bb, hg3, bb, fo]
    by_cases h0 : at_ s 0 = 48
    · rw [decide_eq_true h0, Bool.true_or, ctr]
      have hz : eI (s.take 3) = none := by
        unfold eI
        have : okN (s.take 3) = false := by
          unfold okN
          have e1 : (s.take 3).head? = some 48 := by
            rw [ny (by omega)] at h0
            cases s with
            | nil => simp at h4
            | cons a r => rw [← h0]; rfl
          have e2 : 1 < (s.take 3).length := by rw [List.length_take]; omega
          rw [decide_eq_true e1, decide_eq_true e2]; simp
        rw [this]; rfl
      rw [hz]
      by_cases hq : 4 ≤ s.length ∧ (at_ s 3 = 45 ∨ at_ s 3 = 32)
      · rw [if_pos hq]
      · rw [if_neg hq]
    · rw [decide_eq_false h0, fo]
      by_cases hs : at_ s 3 = 45 ∨ at_ s 3 = 32
      · have e : ((!decide (at_ s 3 = 45)) && (!decide (at_ s 3 = 32))) = false := by
          rcases hs with q | q
          · rw [decide_eq_true q]; rfl
          · rw [decide_eq_true q, ntr, Bool.and_false]
        rw [e, cfl, dU (by omega), bb, show to_ s 3 = s.take 3 from rfl, ia F _ (by omega), bh, if_pos ⟨h4, hs⟩]
        cases hn : eI (s.take 3) with
        | none => rw [iR hn]; rfl
        | some n =>
          rw [gX hn]
          simp only
          by_cases hr : 200 ≤ n ∧ n ≤ 599
          · rw [if_pos hr, decide_eq_false (p := (n : Int) < 200) (by omega), decide_eq_false (p := 599 < (n : Int)) (by omega)]; rfl
          · rw [if_neg hr]
            by_cases q : 200 ≤ n
            · rw [decide_eq_true (p := 599 < (n : Int)) (by omega), Bool.or_true]; rfl
            · rw [decide_eq_true (p := (n : Int) < 200) (by omega)]; rfl
      · have e : ((!decide (at_ s 3 = 45)) && (!decide (at_ s 3 = 32))) = true := by
          rw [decide_eq_false (fun q => hs (.inl q)), decide_eq_false (fun q => hs (.inr q))]; rfl
        rw [e, ctr, if_neg (fun q => hs q.2)]
  · have hd4 : decide ((s.length : Int) < 4) = true := decide_eq_true (by omega)
    rw [hd4, ntr, gP, bb, Bool.true_or, ntr, gP, bb, hM, gP, bb, Bool.true_or, ctr, if_neg (fun q => h4 q.1)]
theorem mz (F : Nat) (hF : 2000 < F) (B : Bs) (hB : B.length ≤ 1000000) : ∀ (j m : Nat) (a : Nat) (c : Int) (ls : List Bs), ls.length + j = 100 → j < m → a ≤ B.length →
    match iy j c ls a (B.drop a) with
    | .wait => ∃ x y, bI F B m ((a : Int), c, ls) = some (x, y, 0, 0, 0, 0)
    | .bad => ∃ x y, bI F B m ((a : Int), c, ls) = some (x, y, 0, 0, 0, -1)
    | .ok x n => bI F B m ((a : Int), c, ls) = some (x.1, x.2.1, x.2.2.1, x.2.2.2.1, x.2.2.2.2, (n : Int))
  | j, 0, a, c, ls, hj, hm, ha => by omega
  | 0, m + 1, a, c, ls, hj, hm, ha => by
    show match iy 0 c ls a (B.drop a) with
      | .wait => ∃ x y, bZ F B (bI F B m) (a : Int) c ls = some (x, y, 0, 0, 0, 0)
      | .bad => ∃ x y, bZ F B (bI F B m) (a : Int) c ls = some (x, y, 0, 0, 0, -1)
      | .ok x n => bZ F B (bI F B m) (a : Int) c ls = some (x.1, x.2.1, x.2.2.1, x.2.2.2.1, x.2.2.2.2, (n : Int))
    unfold bZ iy
    have hl : decide ((ls.length : Int) = 100) = true := decide_eq_true (by omega)
    rw [dU (by omega), bb, kd, ow F hF _ (by rw [List.length_drop]; omega)]
    unfold lnT
    cases hb : gB (B.drop a) with
    | wait => exact ⟨_, _, rfl⟩
    | bad =>
      simp only
      rw [bR, bF (by decide), jY F hF, bh, show decide ((2 : Int) = 2) = true from rfl, Bool.true_or, Bool.true_or, Bool.true_or, ctr]
      exact ⟨_, _, rfl⟩
    | ok s =>
      simp only
      rw [bR, bF (by decide), jY F hF, bh, hl, Bool.or_true, Bool.true_or, ctr]
      exact ⟨_, _, rfl⟩
  | j + 1, m + 1, a, c, ls, hj, hm, ha => by
    show match iy (j + 1) c ls a (B.drop a) with
      | .wait => ∃ x y, bZ F B (bI F B m) (a : Int) c ls = some (x, y, 0, 0, 0, 0)
      | .bad => ∃ x y, bZ F B (bI F B m) (a : Int) c ls = some (x, y, 0, 0, 0, -1)
      | .ok x n => bZ F B (bI F B m) (a : Int) c ls = some (x.1, x.2.1, x.2.2.1, x.2.2.2.1, x.2.2.2.2, (n : Int))
    unfold bZ iy
    have hl : decide ((ls.length : Int) = 100) = false := decide_eq_false (by omega)
    rw [dU (by omega), bb, kd, ow F hF _ (by rw [List.length_drop]; omega)]
    unfold lnT
    cases hb : gB (B.drop a) with
    | wait => exact ⟨_, _, rfl⟩
    | bad =>
      simp only
      rw [bR, bF (by decide), jY F hF, bh, show decide ((2 : Int) = 2) = true from rfl, Bool.true_or, Bool.true_or, Bool.true_or, ctr]
      exact ⟨_, _, rfl⟩
    | ok s =>
      have hln := pr hb
      obtain ⟨t, _, _, hsl⟩ := ln_ok hb
      rw [List.length_drop] at hln
      simp only
      rw [bR, bF (by decide), jY F hF, bh, hl, Bool.or_false, show decide ((1 : Int) = 2) = false from rfl, fo]
      unfold codeI
      cases hc : gQ s with
      | none =>
        simp only
        rw [show decide ((-1 : Int) < 0) = true from rfl, Bool.true_or, ctr]
        exact ⟨_, _, rfl⟩
      | some n =>
        obtain ⟨h4, _, hr, _⟩ := code_s hc
        simp only
        rw [decide_eq_false (p := (n : Int) < 0) (by omega), fo]
        by_cases h1 : ls ≠ [] ∧ (n : Int) ≠ c
        · have hp := List.length_pos_iff.2 h1.1
          rw [decide_eq_true (p := 0 < (ls.length : Int)) (by omega), decide_eq_false h1.2, nfl, gz, ctr, if_pos h1]
          exact ⟨_, _, rfl⟩
        · have e : ((decide (0 < (ls.length : Int))) && (!decide ((n : Int) = c))) = false := by
            by_cases q : (n : Int) = c
            · rw [decide_eq_true q, ntr, Bool.and_false]
            · have : ls = [] := by
                by_cases q2 : ls = []
                · exact q2
                · exact absurd ⟨q2, q⟩ h1
              rw [this]; rfl
          rw [e, cfl, if_neg h1, dU (by omega), bb, show dg s 4 = s.drop 4 from rfl, bV (by simp; omega), bb]
          unfold eY
          have ea : (a : Int) + (s.length : Int) + 2 = ((a + (s.length + 2) : Nat) : Int) := by omega
          rw [bP (by omega), bP (by omega), bt (by omega), bb, ea]
          by_cases h32 : at_ s 3 = 32
          · rw [bT h32, if_pos h32, dU (by omega), bb, show dg s 4 = s.drop 4 from rfl, ov F hF n _ (by rw [List.length_drop]; omega) (by omega)]
            rfl
          · rw [bF h32, if_neg h32, List.drop_drop]
            exact mz F hF B hB j m (a + (s.length + 2)) (n : Int) (ls ++ [s.drop 4]) (by simp; omega) (by omega) (by omega)
theorem nr (F : Nat) (hF : 2000 < F) (b : Bs) (hb : b.length ≤ 1000000) :
    match one b with
    | .wait => ∃ x y, fZ F b = some (x, y, 0, 0, 0, 0)
    | .bad => ∃ x y, fZ F b = some (x, y, 0, 0, 0, -1)
    | .ok x n => fZ F b = some (x.1, x.2.1, x.2.2.1, x.2.2.2.1, x.2.2.2.2, (n : Int)) :=
  mz F hF b hb 100 F 0 0 [] rfl (by omega) (by omega)
theorem pV (F : Nat) (hF : 2000 < F) {b : Bs} {l2 : List Rp} {u : Nat} {bd : Bool} (h : All b l2 u bd) : ∀ (m : Nat) (l : List Rp), b.length < m → b.length ≤ 1000000 → l.length + b.length ≤ 1000000 →
    dn F false m (l, b) = some (l ++ l2, (if bd = true then [] else b.drop u), bd) := by
  induction h with
  | @wait b e =>
    intro m l hm hb hl;obtain ⟨m, rfl⟩ : ∃ k, m = k + 1 := ⟨m - 1, by omega⟩;show cy F false (dn F false m) l b = _
    have h1 := nr F hF b hb
    rw [e] at h1
    obtain ⟨x, y, h1⟩ := h1
    unfold cy
    rw [h1, bh]
    simp only
    rw [bF (by decide), bT (by decide), List.append_nil]
    rfl
  | @bad b e =>
    intro m l hm hb hl;obtain ⟨m, rfl⟩ : ∃ k, m = k + 1 := ⟨m - 1, by omega⟩;show cy F false (dn F false m) l b = _
    have h1 := nr F hF b hb
    rw [e] at h1
    obtain ⟨x, y, h1⟩ := h1
    unfold cy
    rw [h1, bh]
    simp only
    rw [bT (by decide), List.append_nil]
    rfl
  | @ok b x n l2 u bd e hr ih =>
    intro m l hm hb hl;obtain ⟨m, rfl⟩ : ∃ k, m = k + 1 := ⟨m - 1, by omega⟩;show cy F false (dn F false m) l b = _
    have hp := one_pos e
    have h1 := nr F hF b hb
    rw [e] at h1
    simp only at h1
    unfold cy
    rw [h1, bh]
    simp only
    rw [bF (by omega), bF (by omega), bV (by simp; omega), bb, dU (by omega), bb, kd, bV (by rw [List.length_drop]; omega)]
    have := ih m (l ++ [x]) (by rw [List.length_drop]; omega) (by rw [List.length_drop]; omega) (by rw [List.length_drop]; simp; omega)
    rw [List.append_assoc, List.drop_drop] at this
    exact this
theorem rread_eq (F : Nat) (hF : 2000 < F) (b : Bs) {l : List Rp} {u : Nat} {bd : Bool} (h : All b l u bd) (hb : b.length ≤ 1000000) (hbF : b.length < F) : gk F b = some (if bd = true ∨ u < b.length then ([], 2) else (l, 0)) := by
  have hle := h.le
  have hp : gW F [] false b = some (l, (if bd = true then [] else b.drop u), bd) := by
    unfold gW
    rw [cfl, bV (by decide), bV (by rw [List.length_nil]; omega), bb, List.nil_append]
    have := pV F hF h F [] hbF hb (by simp; omega)
    exact this
  unfold gk
  rw [hp, fv]
  cases bd with
  | true => rfl
  | false =>
    rw [fo]
    simp only [Bool.false_eq_true, if_false, false_or]
    by_cases hu : u < b.length
    · rw [bT (by rw [List.length_drop]; omega), if_pos hu]
    · rw [bF (by rw [List.length_drop]; omega), if_neg hu]
end Go.Rp
namespace Go.Rp
open Go.Pv Go.Av
open Go.Dg (cfl ctr gz hM fo nfl ntr)
theorem mo (F : Nat) (hF : 20000 < F) (hw : fD F = some true) (c : Int) (ls : List Bs) (m0 m1 m2 : Int) (b : Bs) : cR F c ls m0 m1 m2 b = some true := by
  unfold cR
  obtain ⟨f, hf, hfe⟩ := few_eq F (by omega) c ls m0 m1 m2
  rw [hw, bh, hf, bh]
  cases f with
  | false => rfl
  | true =>
    obtain ⟨_, hl⟩ := hfe rfl
    have e0 : ((!true) || (!true)) = false := rfl
    rw [e0, fo]
    by_cases h : 3000 < b.length
    · rw [bT (by omega)]
    · obtain ⟨l, u, bd, hA⟩ := All.ex _ b (Nat.lt_succ_self _)
      have hle := hA.le
      rw [bF (by omega), write_eq F (by omega), pT F (by omega) c ls (fun s hs => by have := hl s hs; omega), read_eq F (by omega) b hA (by omega) (by omega), rread_eq F (by omega) b hA (by omega) (by omega)]
      obtain ⟨w, hw⟩ : ∃ w : Bs × Int, w = if jU c ls (m0, m1, m2) = true then (wrA c ls, 0) else ([], 1) := ⟨_, rfl⟩
      obtain ⟨r, hr⟩ : ∃ r : List Rp × Int, r = if bd = true ∨ u < b.length then ([], 2) else (l, 0) := ⟨_, rfl⟩
      have hrl : r.1.length ≤ 3000 ∧ ∀ x ∈ r.1, x.2.1.length ≤ 1000 := by
        rw [hr]
        split
        · exact ⟨by simp, by simp⟩
        · exact ⟨by show l.length ≤ 3000; omega, fun x hx => by have := qa (hA.may.1 x hx); omega⟩
      rw [← hw, ← hr, show w = (w.1, w.2) from rfl, show r = (r.1, r.2) from rfl, bR, bR, bR, bR, qb F (by omega) r.1 (by omega) (by omega) hrl.2, bh, pz F (by omega) c ls (fun s hs => by have := hl s hs; omega), bh, may_eq F (by omega), decide_eq_true rfl, decide_eq_true rfl, decide_eq_true rfl]
      show some (true && (jU c ls (m0, m1, m2) == jU c ls (m0, m1, m2))) = some true
      cases jU c ls (m0, m1, m2) <;> rfl
theorem ReplyWrites_t (c : Int) (ls : List Bs) (m0 m1 m2 : Int) (b : Bs) : cR 2000000 c ls m0 m1 m2 b = some true := mo 2000000 (by omega) awake_eq c ls m0 m1 m2 b
end Go.Rp
namespace Go.Av
open Go.RowKit Go.ChangeShapes Go.WideShapes
section
variable {H : Type} {enc : TypeId × Value → H} {P : Program} {w : World}
def lW {H : Type} (enc : TypeId × Value → H) (P : Program) (w : World) (t : TypeId) {α : Type} (E : α → List AV) (p : α → Prop) : Prop :=
  ∀ fuel cs d, DataW.trod enc P w 0 (fun _ => true) true fuel t cs = some d → ∃ x, p x ∧ RelL (Info.start w) w (E x) cs
theorem opens_int {t : TypeId} {k : IntKind} (ht : P.underlying t = some (.int k)) : lW enc P w t (fun n : Int => [.v (.int k n)]) (fun n => (Lit.int k n).wf = true) := by
  intro fuel cs d h;obtain ⟨n, rfl, _, hw⟩ := DataW.trod_int ht h;exact ⟨n, hw, .cons (.v _) .nil⟩
theorem opens_strs {t e : TypeId} (ht : P.underlying t = some (.slice e)) (he : P.underlying e = some .string) (hc : P.cellsOf e = 1) :
    lW enc P w t (fun l : List (List UInt8) => [slE Enc.str l none]) (fun l => l.length ≤ maxLen ∧ ∀ s ∈ l, s.length ≤ maxLen) := by
  intro fuel cs d h
  rcases open_strings ht he hc h with ⟨rfl, _⟩ | ⟨x, len, cap, zs, rfl, _, hl, hm, hz, _, hcell, hw⟩
  · exact ⟨[], ⟨by simp, by simp⟩, .cons (.slz _ _ _) .nil⟩
  · simp only [if_true] at hz
    have hll : ((zs.take len).map fun s => s.data.toList).length = len := by simp; omega
    refine ⟨(zs.take len).map fun s => s.data.toList, ⟨by rw [hll]; omega, fun n hn => ?_⟩, .cons ?_ .nil⟩
    · obtain ⟨s, hs, rfl⟩ := List.mem_map.1 hn
      simpa using hw s (List.mem_of_mem_take hs)
    have := pA (w := w) Enc.str (fun s => .string ⟨s.toArray⟩) (fun _ => rfl) ((zs.take len).map fun s => s.data.toList) x cap (by omega) (fun i hi => by
      rw [hll] at hi
      rw [hcell i (by omega)]
      simp [List.getD, show i < zs.length by omega])
    rw [hll] at this
    exact this
def nG {H : Type} (enc : TypeId × Value → H) (P : Program) (w : World) (tot off : Nat) (fs : List Field) {α : Type} (E : α → List AV) (p : α → Prop) : Prop :=
  ∀ (n : Nat) (cs : List Value), cs.length = tot → (∀ f ∈ fs, ∃ d, DataW.trod enc P w 0 (fun _ => true) true n f.type ((cs.drop f.offset).take (P.cellsOf f.type)) = some d) → ∃ x, p x ∧ RelL (Info.start w) w (E x) (cs.drop off)
theorem opensF_nil {tot : Nat} : nG enc P w tot tot [] (fun _ : Unit => []) (fun _ => True) := fun n cs hl _ => ⟨(), trivial, by rw [aM (by omega)]; exact .nil⟩
theorem opensF_cons {tot off k : Nat} {f : Field} {fs : List Field} {α β : Type} {E : α → List AV} {p : α → Prop} {F : β → List AV} {q : β → Prop} (ho : f.offset = off) (hk : P.cellsOf f.type = k)
    (h : lW enc P w f.type E p) (g : nG enc P w tot (off + k) fs F q) : nG enc P w tot off (f :: fs) (fun x : α × β => E x.1 ++ F x.2) (fun x => p x.1 ∧ q x.2) := by
  intro n cs hl H;obtain ⟨d, hd⟩ := H f (by simp);obtain ⟨x, hx, rx⟩ := h _ _ _ hd
  obtain ⟨y, hy, ry⟩ := g n cs hl fun f' hf' => H f' (by simp [hf'])
  refine ⟨(x, y), ⟨hx, hy⟩, ?_⟩
  rw [ho, hk] at rx
  have := rx.append ry
  rwa [← List.drop_drop, List.take_append_drop] at this
theorem opens_struct {t : TypeId} {fs : Array Field} {tot : Nat} {α : Type} {E : α → List AV} {p : α → Prop} (ht : P.underlying t = some (.struct fs)) (hc : P.cellsOf t = tot) (h : nG enc P w tot 0 fs.toList E p) :
    lW enc P w t E p := by
  intro fuel cs d hd;obtain ⟨xs, n, _, _, hl, hlen, each⟩ := DataW.trod_struct ht hd
  obtain ⟨x, hx, rx⟩ := h n cs (by omega) fun f hf => by
    obtain ⟨i, hi, rfl⟩ := List.getElem_of_mem hf
    have hi' : i < fs.size := by simpa using hi
    rw [each i _ (by simp [hi'])]
    exact ⟨xs[i]'(by omega), aw _⟩
  exact ⟨x, hx, by simpa using rx⟩
theorem opens_array {t e : TypeId} {m c : Nat} {α : Type} {E : α → List AV} {p : α → Prop} (ht : P.underlying t = some (.array m e)) (hc : P.cellsOf e = c) (ht' : P.cellsOf t = m * c) (h : lW enc P w e E p) :
    lW enc P w t (fun l : List α => l.flatMap E) (fun l => l.length = m ∧ ∀ x ∈ l, p x) := by
  intro fuel cs d hd;obtain ⟨xs, n, _, _, hl, hlen, each⟩ := DataW.trod_array ht hd
  have go : ∀ r i, i + r = m → ∃ l : List α, (l.length = r ∧ ∀ x ∈ l, p x) ∧ RelL (Info.start w) w (l.flatMap E) (cs.drop (i * c)) := by
    intro r
    induction r with
    | zero => intro i hi; exact ⟨[], ⟨rfl, by simp⟩, by rw [aM (by rw [hl, ht', show i = m by omega]; exact Nat.le_refl _)]; exact .nil⟩
    | succ r ih =>
      intro i hi
      have hd := each i (by omega)
      rw [aw (by omega), hc] at hd
      obtain ⟨x, hx, rx⟩ := h _ _ _ hd;obtain ⟨l, ⟨hl1, hl2⟩, rl⟩ := ih (i + 1) (by omega);refine ⟨x :: l, ⟨by simp [hl1], by simpa using ⟨hx, hl2⟩⟩, ?_⟩
      have := rx.append rl
      rw [Nat.succ_mul, ← List.drop_drop, List.take_append_drop] at this
      simpa using this
  obtain ⟨l, hl', rl⟩ := go m 0 (by omega);exact ⟨l, hl', by simpa using rl⟩
theorem open_agg {t : TypeId} {fs : Array Field} {r : Reach} {b0 : Nat} {v : Value} {d : DataW H} {ps : List MemPlace} {α : Type} {E : α → List AV} {p : α → Prop} (ht : P.underlying t = some (.struct fs))
    (hval : Value.okWide P w r b0 t v) (hd : DataW.Trod enc P w 0 (fun _ => true) true t v d ps) (h : lW enc P w t E p) : ∃ x, p x ∧ Rel (Info.start w) w (.agg (E x)) v := by
  obtain ⟨cs, rfl, _⟩ := okWide_struct ht hval;obtain ⟨fuel, hf⟩ := hd;obtain ⟨x, hx, rx⟩ := h _ _ _ hf;refine ⟨x, hx, ?_⟩
  have := Rel.agg _ _ rx.1 rx.2
  simpa [Value.cells] using this
theorem len_cons {α : Type} {l : List α} {n : Nat} (h : l.length = n + 1) : ∃ a l', l = a :: l' ∧ l'.length = n := by
  cases l with
  | nil => simp at h
  | cons a l => exact ⟨a, l, rfl, by simpa using h⟩
theorem len_nil {α : Type} {l : List α} (h : l.length = 0) : l = [] := List.eq_nil_of_length_eq_zero h
end
end Go.Av
