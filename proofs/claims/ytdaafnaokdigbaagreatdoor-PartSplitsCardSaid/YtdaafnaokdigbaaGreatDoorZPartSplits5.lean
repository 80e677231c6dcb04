/-
  Texts in one (only what PartSplits needs): HdD, HdR, HdW, HdL, HdF, HdV, QpPure, QpMore, PtQ, HdB, HdK, HdC, PtB, PtK, HdA2, PtJ, PtS, PtT, LPartSafeP, PtSafe, LPartJoinsP, PtJR, PtL, PtSp.
-/
import Derived.Test.YtdaafnaokdigbaaGreatDoorZPartSplits4
import Derived.Lib.TrimByte
import Derived.Laws.RangeString
import Derived.Laws.RangeAny
import Derived.Lib.ItoaNum
set_option linter.unusedVariables false
set_option linter.unusedSimpArgs false
namespace Go.Hd
open Go.Pv Go.Av
theorem pS (p : Nat → Bool) (h : ∀ k : Fin 64, p k.val = true) (n : Nat) (hn : n < 64) : p n = true := h ⟨n, hn⟩
def num (c : UInt8) : Int := if c = 61 then 0 else Go.Lib.indexByte b64_k1 c
theorem sr (n : Nat) (h : n < 64) : num (ch n) = n ∧ ch n ≠ 61 := by
  have := pS (fun n => decide (num (ch n) = n ∧ ch n ≠ 61)) (by decide +kernel) n h
  exact of_decide_eq_true this
def stp (acc n : Int) (c : UInt8) : Option (Int × Int) :=
  if num c < 0 ∨ (if c = 61 then n - 1 else n) < 1 then none
  else some (IntKind.u64.wrap ((BitVec.ofInt IntKind.u64.bits (IntKind.u64.wrap (acc * 2 ^ min (Int.toNat 6) IntKind.u64.bits)) ||| BitVec.ofInt IntKind.u64.bits (IntKind.u64.wrap (num c))).toNat), (if c = 61 then n - 1 else n))
theorem stp_n {acc n a m : Int} {c : UInt8} (h : stp acc n c = some (a, m)) : 1 ≤ m ∧ m ≤ n := by
  unfold stp at h
  by_cases hc : num c < 0 ∨ (if c = 61 then n - 1 else n) < 1
  · rw [if_pos hc] at h; cases h
  · rw [if_neg hc] at h
    have := (Prod.mk.inj (ak h)).2
    rw [← this]
    by_cases h6 : c = 61
    · rw [if_pos h6] at hc ⊢; omega
    · rw [if_neg h6] at hc ⊢; omega
theorem ml (acc : Nat) (n : Int) (k : Nat) (ha : acc < 262144) (hk : k < 64) (hn : 1 ≤ n) : stp (acc : Int) n (ch k) = some (((acc * 64 + k : Nat) : Int), n) := by
  have ⟨h1, h2⟩ := sr k hk
  have e6 : (2 : Int) ^ min (Int.toNat 6) IntKind.u64.bits = 64 := by decide +kernel
  have e7 : (acc : Int) * 64 = ((acc * 2 ^ 6 : Nat) : Int) := by omega
  unfold stp
  rw [if_neg h2, if_neg (by omega), h1, e6, jD ((acc : Int) * 64) (by omega) (by omega), jD (k : Int) (by omega) (by omega), e7, sn acc k 6 (by omega) (by omega) (by omega), jD ((acc * 2 ^ 6 + k : Nat) : Int) (by omega) (by omega)]
theorem rY (acc : Nat) (n : Int) (ha : acc < 262144) (hn : 2 ≤ n) : stp (acc : Int) n 61 = some (((acc * 64 : Nat) : Int), n - 1) := by
  have e6 : (2 : Int) ^ min (Int.toNat 6) IntKind.u64.bits = 64 := by decide +kernel
  have e7 : (acc : Int) * 64 = ((acc * 2 ^ 6 : Nat) : Int) := by omega
  have e8 : num 61 = ((0 : Nat) : Int) := rfl
  unfold stp
  rw [if_pos rfl, if_neg (by rw [e8]; omega), e8, e6, jD ((acc : Int) * 64) (by omega) (by omega), jD ((0 : Nat) : Int) (by omega) (by omega), e7, sn acc 0 6 (by omega) (by omega) (by omega), jD ((acc * 2 ^ 6 + 0 : Nat) : Int) (by omega) (by omega), Nat.add_zero]
def g4 (c0 c1 c2 c3 : UInt8) : Option (Int × Int) :=
  match stp 0 3 c0 with
  | none => none
  | some (a, n) => match stp a n c1 with
    | none => none
    | some (a, n) => match stp a n c2 with
      | none => none
      | some (a, n) => stp a n c3
def three (v n : Int) : Bs := to_ ([Go.Av.toB (Int.fdiv v (2 ^ min (Int.toNat 16) IntKind.u64.bits)), Go.Av.toB (Int.fdiv v (2 ^ min (Int.toNat 8) IntKind.u64.bits)), Go.Av.toB v] : Bs) n
def nU : Bs → Option Bs
  | [] => some []
  | c0 :: c1 :: c2 :: c3 :: r => match g4 c0 c1 c2 c3 with
    | none => none
    | some (v, n) => match nU r with
      | none => none
      | some d => some (three v n ++ d)
  | _ => none
theorem sm (out s : Bs) (rec8 : (Bs × Bs) → Option (Bs × Int)) (m j : Nat) (acc n : Int) (hj : j < 4) (hs : 4 ≤ s.length) (hn : n ≤ 3 ∧ 0 ≤ n) (c : UInt8) (hcc : s[j]'(by omega) = c) :
    dj out s rec8 (m + 1) (acc, n, (j : Int)) = match stp acc n c with
      | none => some ([], 2)
      | some (a, k) => dj out s rec8 m (a, k, ((j + 1 : Nat) : Int)) := by
  subst hcc;show eO out s rec8 (dj out s rec8 m) acc n (j : Int) = _
  unfold eO gw stp num
  rw [bT (by omega), bJ (by omega), aM, bP (by omega), aM, bJ (by omega), aM]
  by_cases hc : s[j]'(by omega) = 61
  · rw [bT hc, if_pos hc, if_pos hc, bl (by omega)]
    by_cases h1 : n - 1 < 1
    · rw [decide_eq_true h1, Bool.or_true, cond_true, if_pos (.inr h1)]
    · rw [decide_eq_false h1, decide_eq_false (by omega), Bool.or_false, cond_false, if_neg (by omega), ns (by omega), bl (by omega)]; rfl
  · rw [bF hc, if_neg hc, if_neg hc]
    by_cases h1 : Go.Lib.indexByte b64_k1 (s[j]'(by omega)) < 0
    · rw [decide_eq_true h1, Bool.true_or, cond_true, if_pos (.inl h1)]
    · by_cases h2 : n < 1
      · rw [decide_eq_true h2, Bool.or_true, cond_true, if_pos (.inr h2)]
      · rw [decide_eq_false h1, decide_eq_false h2, Bool.or_false, cond_false, if_neg (by omega), ns (by omega), bl (by omega)]; rfl
theorem oa (v n : Int) : (three v n).length ≤ 3 := by unfold three to_; simp; omega
theorem p_four (out : Bs) (c0 c1 c2 c3 : UInt8) (r : Bs) (rec8 : (Bs × Bs) → Option (Bs × Int)) (m : Nat) (ho : out.length ≤ 10000000) :
    dj out (c0 :: c1 :: c2 :: c3 :: r) rec8 (m + 5) (0, 3, 0) = match g4 c0 c1 c2 c3 with
      | none => some ([], 2)
      | some (v, n) => rec8 (out ++ three v n, r) := by
  have hl : 4 ≤ (c0 :: c1 :: c2 :: c3 :: r).length := by simp
  unfold g4
  refine (sm out (c0 :: c1 :: c2 :: c3 :: r) rec8 (m + 4) 0 0 3 (by omega) hl (by omega) c0 rfl).trans ?_
  cases h0 : stp 0 3 c0 with
  | none => rfl
  | some x =>
    obtain ⟨a0, n0⟩ := x
    have b0 := stp_n h0
    refine (sm out (c0 :: c1 :: c2 :: c3 :: r) rec8 (m + 3) 1 a0 n0 (by omega) hl (by omega) c1 rfl).trans ?_
    dsimp only
    cases h1 : stp a0 n0 c1 with
    | none => rfl
    | some x =>
      obtain ⟨a1, n1⟩ := x
      have b1 := stp_n h1
      refine (sm out (c0 :: c1 :: c2 :: c3 :: r) rec8 (m + 2) 2 a1 n1 (by omega) hl (by omega) c2 rfl).trans ?_
      dsimp only
      cases h2 : stp a1 n1 c2 with
      | none => rfl
      | some x =>
        obtain ⟨a2, n2⟩ := x
        have b2 := stp_n h2
        refine (sm out (c0 :: c1 :: c2 :: c3 :: r) rec8 (m + 1) 3 a2 n2 (by omega) hl (by omega) c3 rfl).trans ?_
        dsimp only
        cases h3 : stp a2 n2 c3 with
        | none => rfl
        | some x =>
          obtain ⟨a3, n3⟩ := x
          have b3 := stp_n h3
          show eO out (c0 :: c1 :: c2 :: c3 :: r) rec8 (dj out (c0 :: c1 :: c2 :: c3 :: r) rec8 m) a3 n3 ((4 : Nat) : Int) = _
          unfold eO jx
          have ht := oa a3 n3
          have hd : jA (c0 :: c1 :: c2 :: c3 :: r) 4 = r := rfl
          rw [bF (by omega), ns (by omega), ns (by omega), dI (by simp; omega), aM]
          show grd (bw (out.length + (three a3 n3).length)) _ = _
          rw [bc (by omega), aM, dI (by simp; omega), aM, hd]; rfl
theorem p_loop (F : Nat) (hF : 5 ≤ F) (a : Bs) : ∀ (n : Nat) (out s : Bs), s.length < n → out.length + s.length ≤ 10000000 →
    cu F a n (out, s) = match nU s with
      | none => some ([], 2)
      | some d => di F a (out ++ d) := by
  intro n
  induction n with
  | zero => intro out s h; omega
  | succ n ih =>
    intro out s hn hl;show jy F a (cu F a n) out s = _
    unfold jy
    match s with
    | [] => 
      rw [decide_eq_true rfl, Bool.not_true, cond_false]
      show _ = di F a (out ++ [])
      rw [List.append_nil]
    | [_] => rw [decide_eq_false (by simp), Bool.not_false, cond_true, bT (by simp)]; rfl
    | [_, _] => rw [decide_eq_false (by simp), Bool.not_false, cond_true, bT (by simp)]; rfl
    | [_, _, _] => rw [decide_eq_false (by simp), Bool.not_false, cond_true, bT (by simp)]; rfl
    | c0 :: c1 :: c2 :: c3 :: r =>
      obtain ⟨m, rfl⟩ : ∃ m, F = m + 5 := ⟨F - 5, by omega⟩
      simp only [List.length_cons] at hl hn
      rw [decide_eq_false (by simp), Bool.not_false, cond_true, bF (by simp; omega), p_four out c0 c1 c2 c3 r _ m (by omega)]
      unfold nU
      cases hg : g4 c0 c1 c2 c3 with
      | none => rfl
      | some x =>
        obtain ⟨v, k⟩ := x
        have ht := oa v k
        show cu (m + 5) a n (out ++ three v k, r) = _
        rw [ih _ _ (by omega) (by simp; omega)]
        cases nU r with
        | none => rfl
        | some d => 
          show di _ a (out ++ three v k ++ d) = di _ a (out ++ (three v k ++ d))
          rw [List.append_assoc]
theorem toB_v (v : Nat) (b : UInt8) (h : v % 256 = b.toNat) : Go.Av.toB (v : Int) = b := by
  have e : ((v : Int) % 256).toNat = b.toNat := by omega
  unfold Go.Av.toB
  rw [e]; simp
theorem fd (v k : Nat) : Int.fdiv (v : Int) ((k : Nat) : Int) = ((v / k : Nat) : Int) := by
  rw [Int.fdiv_eq_ediv_of_nonneg _ (Int.natCast_nonneg _)]; rfl
theorem rX (a b c : UInt8) (n : Nat) : three (q3 a.toNat b.toNat c.toNat : Int) (n : Int) = [a, b, c].take n := by
  have ha := a.toNat_lt
  have hb := b.toNat_lt
  have hc := c.toNat_lt
  have e16 : (2 : Int) ^ min (Int.toNat 16) IntKind.u64.bits = ((65536 : Nat) : Int) := by decide +kernel
  have e8 : (2 : Int) ^ min (Int.toNat 8) IntKind.u64.bits = ((256 : Nat) : Int) := by decide +kernel
  unfold three
  rw [e16, e8, fd, fd, toB_v _ a (by unfold q3; omega), toB_v _ b (by unfold q3; omega), toB_v _ c (by unfold q3; omega), kw]
theorem g4_full (a b c : UInt8) : g4 (ch (q3 a.toNat b.toNat c.toNat / 262144)) (ch (q3 a.toNat b.toNat c.toNat / 4096 % 64)) (ch (q3 a.toNat b.toNat c.toNat / 64 % 64)) (ch (q3 a.toNat b.toNat c.toNat % 64)) = some (((q3 a.toNat b.toNat c.toNat : Nat) : Int), 3) := by
  have hq := q3_lt a b c
  generalize q3 a.toNat b.toNat c.toNat = v at hq
  have h0 := ml 0 3 (v / 262144) (by omega) (by omega) (by omega)
  have h1 := ml (0 * 64 + v / 262144) 3 (v / 4096 % 64) (by omega) (by omega) (by omega)
  have h2 := ml ((0 * 64 + v / 262144) * 64 + v / 4096 % 64) 3 (v / 64 % 64) (by omega) (by omega) (by omega)
  have h3 := ml (((0 * 64 + v / 262144) * 64 + v / 4096 % 64) * 64 + v / 64 % 64) 3 (v % 64) (by omega) (by omega) (by omega)
  have e : (((0 * 64 + v / 262144) * 64 + v / 4096 % 64) * 64 + v / 64 % 64) * 64 + v % 64 = v := by omega
  rw [e] at h3
  unfold g4
  rw [show (0 : Int) = ((0 : Nat) : Int) from rfl, h0]
  simp only [h1, h2, h3]
theorem g4_two (a b : UInt8) : g4 (ch (q3 a.toNat b.toNat 0 / 262144)) (ch (q3 a.toNat b.toNat 0 / 4096 % 64)) (ch (q3 a.toNat b.toNat 0 / 64 % 64)) 61 = some (((q3 a.toNat b.toNat 0 : Nat) : Int), 2) := by
  have hq := q3_lt a b 0
  have hv : q3 a.toNat b.toNat 0 % 64 = 0 := by unfold q3; omega
  have hz : (0 : UInt8).toNat = 0 := rfl
  rw [hz] at hq
  generalize q3 a.toNat b.toNat 0 = v at hq hv
  have h0 := ml 0 3 (v / 262144) (by omega) (by omega) (by omega)
  have h1 := ml (0 * 64 + v / 262144) 3 (v / 4096 % 64) (by omega) (by omega) (by omega)
  have h2 := ml ((0 * 64 + v / 262144) * 64 + v / 4096 % 64) 3 (v / 64 % 64) (by omega) (by omega) (by omega)
  have h3 := rY (((0 * 64 + v / 262144) * 64 + v / 4096 % 64) * 64 + v / 64 % 64) 3 (by omega) (by omega)
  have e : (((0 * 64 + v / 262144) * 64 + v / 4096 % 64) * 64 + v / 64 % 64) * 64 = v := by omega
  rw [e] at h3
  unfold g4
  rw [show (0 : Int) = ((0 : Nat) : Int) from rfl, h0]
  simp only [h1, h2, h3]; rfl
theorem g4_one (a : UInt8) : g4 (ch (q3 a.toNat 0 0 / 262144)) (ch (q3 a.toNat 0 0 / 4096 % 64)) 61 61 = some (((q3 a.toNat 0 0 : Nat) : Int), 1) := by
  have hq := q3_lt a 0 0
  have hv : q3 a.toNat 0 0 % 4096 = 0 := by unfold q3; omega
  have hz : (0 : UInt8).toNat = 0 := rfl
  rw [hz] at hq
  generalize q3 a.toNat 0 0 = v at hq hv
  have h0 := ml 0 3 (v / 262144) (by omega) (by omega) (by omega)
  have h1 := ml (0 * 64 + v / 262144) 3 (v / 4096 % 64) (by omega) (by omega) (by omega)
  have h2 := rY ((0 * 64 + v / 262144) * 64 + v / 4096 % 64) 3 (by omega) (by omega)
  have h3 := rY (((0 * 64 + v / 262144) * 64 + v / 4096 % 64) * 64) (3 - 1) (by omega) (by omega)
  have e : (((0 * 64 + v / 262144) * 64 + v / 4096 % 64) * 64) * 64 = v := by omega
  rw [e] at h3
  unfold g4
  rw [show (0 : Int) = ((0 : Nat) : Int) from rfl, h0]
  simp only [h1, h2, h3]; rfl
theorem lM : ∀ b : Bs, nU (enc b) = some b
  | a :: b :: c :: r => by
    have ih := lM r
    show nU (_ :: _ :: _ :: _ :: enc r) = _
    unfold nU
    rw [g4_full, ih]
    show some (three (q3 a.toNat b.toNat c.toNat : Int) ((3 : Nat) : Int) ++ r) = _
    rw [rX]; rfl
  | [a, b] => by
    show nU (_ :: _ :: _ :: _ :: []) = _
    unfold nU
    rw [show (0 : UInt8).toNat = 0 from rfl, g4_two]
    show some (three (q3 a.toNat b.toNat (0 : UInt8).toNat : Int) ((2 : Nat) : Int) ++ []) = _
    rw [rX]; rfl
  | [a] => by
    show nU (_ :: _ :: _ :: _ :: []) = _
    unfold nU
    rw [show (0 : UInt8).toNat = 0 from rfl, g4_one]
    show some (three (q3 a.toNat (0 : UInt8).toNat (0 : UInt8).toNat : Int) ((1 : Nat) : Int) ++ []) = _
    rw [rX]; rfl
  | [] => rfl
theorem enc_inj {a b : Bs} (h : enc a = enc b) : a = b := by
  have := lM a
  rw [h, lM] at this
  exact (ak this).symm
theorem pX : ∀ (s d : Bs), nU s = some d → d.length ≤ s.length
  | [], d, h => by cases h; simp
  | [_], d, h => by cases h
  | [_, _], d, h => by cases h
  | [_, _, _], d, h => by cases h
  | c0 :: c1 :: c2 :: c3 :: r, d, h => by
    unfold nU at h
    cases hg : g4 c0 c1 c2 c3 with
    | none => rw [hg] at h; cases h
    | some x =>
      obtain ⟨v, n⟩ := x
      rw [hg] at h
      cases hr : nU r with
      | none => rw [hr] at h; cases h
      | some e =>
        rw [hr] at h
        cases h
        have := pX r e hr
        have := oa v n
        simp; omega
open Classical in
noncomputable def dec (s : Bs) : Bs × Int := if h : ∃ b, enc b = s then (h.choose, 0) else ([], 2)
theorem pc (b : Bs) : dec (enc b) = (b, 0) := by
  have h : ∃ x, enc x = enc b := ⟨b, rfl⟩
  unfold dec
  rw [dif_pos h]
  exact Prod.ext (enc_inj h.choose_spec) rfl
theorem qe {s : Bs} (h : ¬ ∃ b, enc b = s) : dec s = ([], 2) := by unfold dec; rw [dif_neg h]
theorem Bytes_eq (F : Nat) (s : Bs) (hs : s.length ≤ 400000) (hF : s.length + 10 < F) : mR F s = some (dec s) := by
  have hl := p_loop F (by omega) s F [] s (by omega) (by simp; omega)
  show cu F s F ([], s) = _
  rw [hl]
  cases hd : nU s with
  | none =>
    rw [qe (fun ⟨b, hb⟩ => by rw [← hb, lM] at hd; cases hd)]
  | some d =>
    have hdl := pX s d hd
    show di F s ([] ++ d) = _
    unfold di
    rw [List.nil_append, Raw_eq F d (by omega) (by omega), bC]
    by_cases he : enc d = s
    · rw [decide_eq_true he, Bool.not_true, cond_false, ← he, pc]
    · rw [decide_eq_false he, Bool.not_false, cond_true, qe (fun ⟨b, hb⟩ => by
        apply he; rw [← hb, lM] at hd; cases hd; exact hb)]
end Go.Hd
namespace Go.Hd
open Go.Pv Go.Av
def nrL (c : UInt8) : Bs → Nat → Nat
  | [], _ => 0
  | x :: r, i => if x = c then i else nrL c r (i + 1)
def nr (c : UInt8) : Nat := nrL c headr_k1 0
theorem oS (c : UInt8) : nr c < 64 := by
  have := cR (fun c => decide (nr c < 64)) (by decide +kernel) c
  exact of_decide_eq_true this
theorem nW (n : Nat) (h : n < 64) : nr (ch n) = n := by
  have := pS (fun n => decide (nr (ch n) = n)) (by decide +kernel) n h
  exact of_decide_eq_true this
theorem nr_loop (c : UInt8) : ∀ (n i : Nat), 64 - i < n → i ≤ 64 → eS c n (i : Int) = some ((nrL c (headr_k1.drop i) i : Nat) : Int) := by
  intro n
  induction n with
  | zero => intro i h; omega
  | succ n ih =>
    intro i hn hi;show eT c (eS c n) (i : Int) = _
    unfold eT eR
    have hl := rk_len
    by_cases h : i < 64
    · have hd : headr_k1.drop i = headr_k1[i]'(by omega) :: headr_k1.drop (i + 1) := ar (by omega)
      rw [bT (by omega), bJ (by omega), aM, bP (by omega), hd]
      unfold nrL
      by_cases hc : headr_k1[i]'(by omega) = c
      · rw [bT hc, if_pos hc]
      · rw [bF hc, if_neg hc, bl (by omega), bg, ih (i + 1) (by omega) (by omega)]
    · have hd : headr_k1.drop i = [] := aE (by omega)
      rw [bF (by omega), hd]; rfl
theorem xv (F : Nat) (hF : 64 < F) (c : UInt8) : kq F c = some ((nr c : Nat) : Int) := by
  have := nr_loop c F 0 (by omega) (by omega)
  exact this
def v4 (a b c d : UInt8) : Nat := 64 * (64 * (64 * nr a + nr b) + nr c) + nr d
def mm (v : Nat) : Bs := [UInt8.ofNat (v / 65536), UInt8.ofNat (v / 256 % 256), UInt8.ofNat (v % 256)]
def grR : Bs → Bs
  | a :: b :: c :: d :: r => mm (v4 a b c d) ++ grR r
  | _ => []
def kT (s : Bs) (k : Nat) (d : Bs) : Bs := if k ≤ s.length ∧ gb s (s.length - k) = 61 then d.take (d.length - 1) else d
def decR (s : Bs) : Bs := kT s 2 (kT s 1 (grR s))
theorem sk (F : Nat) (hF : 64 < F) (s out : Bs) (i j v m : Nat) (rec10 : (Bs × Int) → Option (Bs × Int)) (hs : s.length ≤ 1000000) (hi : i + 4 ≤ s.length) (hj : j < i + 4) (hv : v < 16777216) :
    cG F s out (i : Int) rec10 (m + 1) ((v : Int), (j : Int)) = cG F s out (i : Int) rec10 m (((64 * v + nr (gb s j) : Nat) : Int), ((j + 1 : Nat) : Int)) := by
  show dF F s out (i : Int) rec10 (cG F s out (i : Int) rec10 m) (v : Int) (j : Int) = _
  unfold dF
  have hlt := oS (gb s j)
  have hg : gb s j = s[j]'(by omega) := by simp [gb, show j < s.length by omega]
  rw [bl (by omega), bT (by omega), bl (by omega), bJ (by omega), aM, bP (by omega), xv F hF, bC, ← hg, bl (by omega), bl (by omega)]
  rfl
theorem r_four (F : Nat) (hF : 64 < F) (s out : Bs) (i m : Nat) (rec10 : (Bs × Int) → Option (Bs × Int)) (hs : s.length ≤ 1000000) (hi : i + 4 ≤ s.length) :
    cG F s out (i : Int) rec10 (m + 4) (((0 : Nat) : Int), (i : Int)) = cG F s out (i : Int) rec10 m (((v4 (gb s i) (gb s (i + 1)) (gb s (i + 2)) (gb s (i + 3)) : Nat) : Int), ((i + 4 : Nat) : Int)) := by
  have h0 := oS (gb s i)
  have h1 := oS (gb s (i + 1))
  have h2 := oS (gb s (i + 2))
  refine (sk F hF s out i i 0 (m + 3) rec10 hs hi (by omega) (by omega)).trans <| (sk F hF s out i (i + 1) (64 * 0 + nr (gb s i)) (m + 2) rec10 hs hi (by omega) (by omega)).trans <| (sk F hF s out i (i + 2) (64 * (64 * 0 + nr (gb s i)) + nr (gb s (i + 1))) (m + 1) rec10 hs hi (by omega) (by omega)).trans <| (sk F hF s out i (i + 3) (64 * (64 * (64 * 0 + nr (gb s i)) + nr (gb s (i + 1))) + nr (gb s (i + 2))) m rec10 hs hi (by omega) (by omega)).trans ?_
  have e : 64 * (64 * (64 * (64 * 0 + nr (gb s i)) + nr (gb s (i + 1))) + nr (gb s (i + 2))) + nr (gb s (i + 3)) = v4 (gb s i) (gb s (i + 1)) (gb s (i + 2)) (gb s (i + 3)) := by unfold v4; omega
  rw [e]
theorem v4_lt (a b c d : UInt8) : v4 a b c d < 16777216 := by
  have h0 := oS a
  have h1 := oS b
  have h2 := oS c
  have h3 := oS d
  unfold v4; omega
theorem toB_n (v : Nat) (h : v < 256) : Go.Av.toB (v : Int) = UInt8.ofNat v := by
  have e : ((v : Int) % 256).toNat = v := by omega
  unfold Go.Av.toB
  rw [e]
theorem gr_drop (s : Bs) (i : Nat) (h : i + 4 ≤ s.length) : grR (s.drop i) = mm (v4 (gb s i) (gb s (i + 1)) (gb s (i + 2)) (gb s (i + 3))) ++ grR (s.drop (i + 4)) := by
  have g : ∀ k, gb s (i + k) = (s.drop i).getD k 0 := by intro k; simp [gb, List.getD]
  have g0 := g 0
  have hl : (s.drop i).length = s.length - i := by simp
  have hd : s.drop (i + 4) = (s.drop i).drop 4 := by simp
  rw [Nat.add_zero] at g0
  rw [g0, g 1, g 2, g 3, hd]
  match hm : s.drop i with
  | a :: b :: c :: d :: r => rfl
  | [a, b, c] => rw [hm] at hl; simp at hl; omega
  | [a, b] => rw [hm] at hl; simp at hl; omega
  | [a] => rw [hm] at hl; simp at hl; omega
  | [] => rw [hm] at hl; simp at hl; omega
theorem rB2 (F : Nat) (s out : Bs) (i : Int) (rec10 : (Bs × Int) → Option (Bs × Int)) (m : Nat) (x : Int × Int) : cG F s out i rec10 (m + 1) x = dF F s out i rec10 (cG F s out i rec10 m) x.1 x.2 := rfl
theorem r_loop (F : Nat) (hF : 64 < F) (s : Bs) (hs : s.length ≤ 1000000) (h4 : s.length % 4 = 0) : ∀ (n i : Nat) (out : Bs), s.length - i < n → i ≤ s.length → i % 4 = 0 → out.length ≤ i → cj F s n (out, (i : Int)) = em F s (out ++ grR (s.drop i)) := by
  intro n
  induction n with
  | zero => intro i out h; omega
  | succ n ih =>
    intro i out hn hi hm ho;show fK F s (cj F s n) out (i : Int) = _
    unfold fK
    by_cases h : i < s.length
    · obtain ⟨m, rfl⟩ : ∃ m, F = m + 5 := ⟨F - 5, by omega⟩
      have hv := v4_lt (gb s i) (gb s (i + 1)) (gb s (i + 2)) (gb s (i + 3))
      rw [bT (by omega)]
      have h3 := r_four (m + 5) hF s out i (m + 1) (cj (m + 5) s n) hs (by omega)
      refine h3.trans ?_
      rw [gr_drop s i (by omega)]
      generalize v4 (gb s i) (gb s (i + 1)) (gb s (i + 2)) (gb s (i + 3)) = v at hv
      rw [rB2]
      unfold dF fI fJ
      have a1 : (v : Int) / 65536 = ((v / 65536 : Nat) : Int) := by omega
      have a2 : (v : Int) / 256 % 256 = ((v / 256 % 256 : Nat) : Int) := by omega
      have a3 : (v : Int) % 256 = ((v % 256 : Nat) : Int) := by omega
      have a4 : ((i : Int) + 4) = ((i + 4 : Nat) : Int) := by omega
      rw [bl (by omega), bF (by omega), ec (by omega), ec (by omega), ec (by omega), ec (by omega), a1, a2, a3, toB_n _ (by omega), toB_n _ (by omega), toB_n _ (by omega)]
      rw [bc (by simp; omega), aM, bl (by omega), a4, ih _ _ (by omega) (by omega) (by omega) (by simp; omega), List.append_assoc]
      rfl
    · have hd : s.drop i = [] := aE (by omega)
      rw [bF (by omega), hd]
      show _ = em F s (out ++ [])
      rw [List.append_nil]
theorem pa : ∀ s : Bs, s.length % 4 = 0 → 4 * (grR s).length = 3 * s.length
  | a :: b :: c :: d :: r, h => by
    have ih := pa r (by simp at h; omega)
    simp [grR, mm]; omega
  | [a, b, c], h => by simp at h
  | [a, b], h => by simp at h
  | [a], h => by simp at h
  | [], h => rfl
theorem lz (s d : Bs) (k : Nat) : (kT s k d).length ≤ d.length ∧ d.length ≤ (kT s k d).length + 1 := by
  unfold kT
  split
  · simp; omega
  · omega
theorem s_step (F : Nat) (s d : Bs) (k m : Nat) (hk : 1 ≤ k ∧ k ≤ 2) (hs : s.length ≤ 1000000) (hd : d.length ≤ 1000000) (hd1 : k ≤ s.length → 1 ≤ d.length) :
    cH F s (m + 1) (d, (k : Int)) = cH F s m (kT s k d, ((k + 1 : Nat) : Int)) := by
  show dG F s (cH F s m) d (k : Int) = _
  unfold dG eo kT
  rw [bT (by omega)]
  by_cases h : k ≤ s.length
  · have e : (s.length : Int) - k = ((s.length - k : Nat) : Int) := by omega
    have hg : gb s (s.length - k) = s[s.length - k]'(by omega) := by simp [gb, show s.length - k < s.length by omega]
    rw [decide_eq_true (show (k : Int) ≤ s.length by omega), lx, bl (by omega), lx, bJ (by omega), aM, e, bP (by omega), Bool.true_and, hg]
    by_cases hc : s[s.length - k]'(by omega) = 61
    · have e2 : (d.length : Int) - 1 = ((d.length - 1 : Nat) : Int) := by have := hd1 h; omega
      rw [bT hc, if_pos ⟨h, hc⟩, bl (by omega), dI (by have := hd1 h; omega), aM, e2, kw, bc (by simp; omega), bl (by omega)]; rfl
    · rw [bF hc, if_neg (fun x => hc x.2), bl (by omega)]; rfl
  · rw [decide_eq_false (show ¬ (k : Int) ≤ s.length by omega), dZ, dZ, aM, Bool.false_and, cond_false, if_neg (fun x => h x.1), bl (by omega)]; rfl
theorem uD (F : Nat) (s : Bs) (hs : s.length ≤ 400000) (hF : s.length + 100 < F) : iI F s = if s.length % 4 = 0 then er F s (decR s) else some ([], 2) := by
  unfold iI
  rw [ec (by omega)]
  by_cases h : s.length % 4 = 0
  · rw [decide_eq_true (show (s.length : Int) % 4 = 0 by omega), Bool.not_true, cond_false, if_pos h]
    have h2 := r_loop F (by omega) s (by omega) h F 0 [] (by omega) (by omega) rfl (by simp)
    refine h2.trans ?_
    rw [List.nil_append, List.drop_zero]
    obtain ⟨m, rfl⟩ : ∃ m, F = m + 3 := ⟨F - 3, by omega⟩
    have hl := pa s h
    have l1 := lz s (grR s) 1
    have l2 := lz s (kT s 1 (grR s)) 2
    have s1 := s_step (m + 3) s (grR s) 1 (m + 2) (by omega) (by omega) (by omega) (by omega)
    have s2 := s_step (m + 3) s (kT s 1 (grR s)) 2 (m + 1) (by omega) (by omega) (by omega) (by omega)
    show cH (m + 3) s (m + 3) (grR s, ((1 : Nat) : Int)) = _;refine (s1.trans s2).trans ?_;show dG (m + 3) s (cH (m + 3) s m) (decR s) ((3 : Nat) : Int) = _
    unfold dG
    rw [bF (by omega)]
  · rw [decide_eq_false (show ¬ (s.length : Int) % 4 = 0 by omega), Bool.not_false, cond_true, if_neg h]
theorem gb_app (p s : Bs) (k : Nat) (hk : 1 ≤ k ∧ k ≤ s.length) : gb (p ++ s) ((p ++ s).length - k) = gb s (s.length - k) := by
  have e : (p ++ s).length - k = p.length + (s.length - k) := by simp; omega
  rw [e]
  unfold gb List.getD
  rw [List.getElem?_append_right (by omega)]
  congr 2; omega
theorem qQ (p s P d : Bs) (k : Nat) (hk : 1 ≤ k ∧ k ≤ s.length) (hd : 1 ≤ d.length) : kT (p ++ s) k (P ++ d) = P ++ kT s k d := by
  unfold kT
  rw [gb_app p s k hk]
  by_cases h : gb s (s.length - k) = 61
  · rw [if_pos ⟨by simp; omega, h⟩, if_pos ⟨hk.2, h⟩, List.length_append, show P.length + d.length - 1 = P.length + (d.length - 1) by omega, List.take_append, List.take_of_length_le (by omega)]
    congr 2; omega
  · rw [if_neg (fun x => h x.2), if_neg (fun x => h x.2)]
theorem nr_61 : nr 61 = 0 := by decide +kernel
theorem ofN (v : Nat) (b : UInt8) (h : v = b.toNat) : UInt8.ofNat v = b := by rw [h]; simp
theorem b3_q (a b c : UInt8) : mm (q3 a.toNat b.toNat c.toNat) = [a, b, c] := by
  have ha := a.toNat_lt
  have hb := b.toNat_lt
  have hc := c.toNat_lt
  unfold mm
  rw [ofN _ a (by unfold q3; omega), ofN _ b (by unfold q3; omega), ofN _ c (by unfold q3; omega)]
theorem wo (v : Nat) (h : v < 16777216) : v4 (ch (v / 262144)) (ch (v / 4096 % 64)) (ch (v / 64 % 64)) (ch (v % 64)) = v := by
  unfold v4
  rw [nW _ (by omega), nW _ (by omega), nW _ (by omega), nW _ (by omega)]; omega
theorem v4_two (v : Nat) (h : v < 16777216) (hv : v % 64 = 0) : v4 (ch (v / 262144)) (ch (v / 4096 % 64)) (ch (v / 64 % 64)) 61 = v := by
  unfold v4
  rw [nW _ (by omega), nW _ (by omega), nW _ (by omega), nr_61]; omega
theorem v4_one (v : Nat) (h : v < 16777216) (hv : v % 4096 = 0) : v4 (ch (v / 262144)) (ch (v / 4096 % 64)) 61 61 = v := by
  unfold v4
  rw [nW _ (by omega), nW _ (by omega), nr_61]; omega
theorem pW : ∀ b : Bs, (enc b).length % 4 = 0
  | a :: b :: c :: r => by
    have := pW r
    simp [enc, four]; omega
  | [a, b] => by simp [enc, four]
  | [a] => by simp [enc, four]
  | [] => rfl
theorem enc_ne {b : Bs} (h : b ≠ []) : 4 ≤ (enc b).length := by
  match b with
  | a :: b :: c :: r => simp [enc, four]
  | [a, b] => simp [enc, four]
  | [a] => simp [enc, four]
  | [] => exact absurd rfl h
theorem uc : ∀ b : Bs, decR (enc b) = b
  | a :: b :: c :: r => by
    have ih := uc r
    have hq := q3_lt a b c
    by_cases h : r = []
    · subst h
      have e : enc [a, b, c] = four a b c := by simp [enc]
      have g : grR (four a b c) = [a, b, c] := by
        show mm (v4 _ _ _ _) ++ [] = _
        rw [wo _ hq, b3_q]; rfl
      have c1 := (sr (q3 a.toNat b.toNat c.toNat % 64) (by omega)).2
      have c2 := (sr (q3 a.toNat b.toNat c.toNat / 64 % 64) (by omega)).2
      rw [e]
      unfold decR kT
      rw [g, if_neg (fun x => c2 x.2), if_neg (fun x => c1 x.2)]
    · have hl := enc_ne h
      have h4 := pW r
      have hg := pa (enc r) h4
      have l1 := lz (enc r) (grR (enc r)) 1
      have g : grR (four a b c ++ enc r) = [a, b, c] ++ grR (enc r) := by
        show mm (v4 _ _ _ _) ++ grR (enc r) = _
        rw [wo _ hq, b3_q]
      show decR (four a b c ++ enc r) = _
      unfold decR
      rw [g, qQ _ _ _ _ 1 (by omega) (by omega), qQ _ _ _ _ 2 (by omega) (by omega)]
      unfold decR at ih
      rw [ih]; rfl
  | [a, b] => by
    have hq := q3_lt a b 0
    have g : grR (enc [a, b]) = [a, b, 0] := by
      show mm (v4 _ _ _ _) ++ [] = _
      rw [v4_two _ hq (by show q3 _ _ 0 % 64 = 0; unfold q3; omega), b3_q]; rfl
    have c2 := (sr (q3 a.toNat b.toNat (0 : UInt8).toNat / 64 % 64) (by omega)).2
    unfold decR kT
    rw [g, if_neg (fun x => c2 x.2), if_pos ⟨by simp [enc, four], rfl⟩]; rfl
  | [a] => by
    have hq := q3_lt a 0 0
    have g : grR (enc [a]) = [a, 0, 0] := by
      show mm (v4 _ _ _ _) ++ [] = _
      rw [v4_one _ hq (by show q3 _ 0 0 % 4096 = 0; unfold q3; omega), b3_q]; rfl
    unfold decR kT
    rw [g, if_pos ⟨by simp [enc, four], rfl⟩, if_pos ⟨by simp [enc, four], rfl⟩]; rfl
  | [] => rfl
theorem decR_len (s : Bs) (h : s.length % 4 = 0) : (decR s).length ≤ s.length := by
  have hg := pa s h
  have l1 := lz s (grR s) 1
  have l2 := lz s (kT s 1 (grR s)) 2
  unfold decR; omega
theorem xo (F : Nat) (s : Bs) (hs : s.length ≤ 400000) (hF : s.length + 100 < F) : iI F s = some (dec s) := by
  rw [uD F s hs hF]
  by_cases h : s.length % 4 = 0
  · have hl := decR_len s h
    rw [if_pos h]
    unfold er
    rw [wx F _ (by omega) (by omega), bC]
    by_cases he : enc (decR s) = s
    · rw [decide_eq_true he, Bool.not_true, cond_false]
      have := pc (decR s)
      rw [he] at this
      rw [this]
    · rw [decide_eq_false he, Bool.not_false, cond_true, qe (fun ⟨b, hb⟩ => by
        apply he; rw [← hb, uc])]
  · rw [if_neg h, qe (fun ⟨b, hb⟩ => by apply h; rw [← hb]; exact pW b)]
end Go.Hd
namespace Go.Hd
open Go.Pv Go.Av
def nX (c : UInt8) : Bool := ((((decide (97 ≤ (c.toNat : Int))) && (decide ((c.toNat : Int) ≤ 122))) || ((decide (65 ≤ (c.toNat : Int))) && (decide ((c.toNat : Int) ≤ 90)))) || ((decide (48 ≤ (c.toNat : Int))) && (decide ((c.toNat : Int) ≤ 57)))) || (decide (c = 45))
def okb (c : UInt8) : Bool := (decide (32 ≤ (c.toNat : Int))) && (decide ((c.toNat : Int) < 127))
theorem uI (F : Nat) (s : Bs) (hs : s.length ≤ 1000000) : ∀ (n i : Nat), s.length - i < n → i ≤ s.length → im F s n (i : Int) = some ((s.drop i).all nX && !decide (s = [])) := by
  intro n
  induction n with
  | zero => intro i h; omega
  | succ n ih =>
    intro i hn hi;show ip F s (im F s n) (i : Int) = _
    unfold ip il
    by_cases h : i < s.length
    · have hd : s.drop i = s[i] :: s.drop (i + 1) := ar h
      have hc : lW F s[i] = some (nX s[i]) := rfl
      rw [bT (by omega), bJ (by omega), aM, bP h, hc, bC, hd, List.all_cons]
      cases hp : nX s[i] with
      | false => rfl
      | true => rw [Bool.not_true, cond_false, bl (by omega), bg, ih (i + 1) (by omega) (by omega), Bool.true_and]
    · rw [bF (by omega), aE (by omega)]; simp
theorem onlyN_eq (F : Nat) (s : Bs) (hs : s.length ≤ 1000000) (hF : s.length < F) : lV F s = some (s.all nX && !decide (s = [])) := uI F s hs F 0 (by omega) (by omega)
theorem uH (F : Nat) (s : Bs) (hs : s.length ≤ 1000000) : ∀ (n i : Nat), s.length - i < n → i ≤ s.length → ij F s n (i : Int) = some ((s.drop i).all okb && !decide (s = [])) := by
  intro n
  induction n with
  | zero => intro i h; omega
  | succ n ih =>
    intro i hn hi;show ik F s (ij F s n) (i : Int) = _
    unfold ik ii
    by_cases h : i < s.length
    · have hd : s.drop i = s[i] :: s.drop (i + 1) := ar h
      have hc : lb F s[i] = some (okb s[i]) := rfl
      rw [bT (by omega), bJ (by omega), aM, bP h, hc, bC, hd, List.all_cons]
      cases hp : okb s[i] with
      | false => rfl
      | true => rw [Bool.not_true, cond_false, bl (by omega), bg, ih (i + 1) (by omega) (by omega), Bool.true_and]
    · rw [bF (by omega), aE (by omega)]; simp
theorem onlyP_eq (F : Nat) (s : Bs) (hs : s.length ≤ 1000000) (hF : s.length < F) : lU F s = some (s.all okb && !decide (s = [])) := uH F s hs F 0 (by omega) (by omega)
def nameB (s : Bs) : Bool := (s.all nX && !decide (s = [])) && decide (s.length ≤ 40)
theorem name_eq (F : Nat) (s : Bs) (hs : s.length ≤ 1000000) (hF : s.length < F) : kF F s = some (nameB s) := by
  unfold kF nameB
  rw [onlyN_eq F s hs hF]
  by_cases h : s.length ≤ 40
  · rw [decide_eq_true (show (s.length : Int) ≤ 40 by omega), decide_eq_true h, wl, bC, Bool.true_and, Bool.and_true]
  · rw [decide_eq_false (show ¬ (s.length : Int) ≤ 40 by omega), decide_eq_false h, wm, Bool.false_and, Bool.and_false]
theorem ut (s : Bs) (hs : s.length ≤ 1000000) : ∀ (n i : Nat), s.length - i < n → i ≤ s.length → gR s n (i : Int) = some (bif (s.drop i).all nX then (decide (1 ≤ (s.length : Int))) && (decide ((s.length : Int) ≤ 40)) else false) := by
  intro n
  induction n with
  | zero => intro i h; omega
  | succ n ih =>
    intro i hn hi;show gS s (gR s n) (i : Int) = _
    unfold gS gQ
    by_cases h : i < s.length
    · have hd : s.drop i = s[i] :: s.drop (i + 1) := ar h
      rw [bT (by omega), bJ (by omega), aM, bP h, hd, List.all_cons]
      change (bif !(nX s[i]) then _ else _) = _
      cases hp : nX s[i] with
      | false => rfl
      | true => rw [Bool.not_true, cond_false, bl (by omega), bg, ih (i + 1) (by omega) (by omega), Bool.true_and]
    · rw [bF (by omega), aE (by omega)]; rfl
theorem rname_eq (F : Nat) (s : Bs) (hs : s.length ≤ 1000000) (hF : s.length < F) : kL F s = some (nameB s) := by
  have := ut s hs F 0 (by omega) (by omega)
  unfold kL
  refine Eq.trans this ?_
  rw [List.drop_zero]
  unfold nameB
  cases s.all nX with
  | false => rfl
  | true =>
    rw [cond_true, Bool.true_and]
    congr 1
    by_cases h : s = []
    · subst h; rfl
    · have h1 := List.length_pos_iff.2 h
      rw [decide_eq_false h, decide_eq_true (show 1 ≤ (s.length : Int) by omega), Bool.not_false]
      congr 1
      exact decide_eq_decide.2 (by omega)
def bad (x y : UInt8) : Bool := (x == 32 && y == 32) || (x == 61 && y == 63)
def iA (p : UInt8 → UInt8 → Bool) : Bs → Bool
  | x :: y :: r => p x y || iA p (y :: r)
  | _ => false
theorem dA (x : UInt8) (r sub : Bs) : Go.Lib.contains (x :: r) sub = (sub.isPrefixOf (x :: r) || Go.Lib.contains r sub) := by
  unfold Go.Lib.contains
  have hg := Go.Lib.index_ge r sub
  rw [Go.Lib.index]
  cases hp : sub.isPrefixOf (x :: r) with
  | true => simp
  | false =>
    rw [if_neg (by simp), Bool.false_or]
    by_cases h : Go.Lib.index r sub = -1
    · rw [h]; rfl
    · rw [if_neg (by simpa using h)]
      exact decide_eq_decide.2 (by omega)
theorem jv (a b : UInt8) : ∀ s : Bs, Go.Lib.contains s [a, b] = iA (fun x y => x == a && y == b) s
  | [] => rfl
  | [x] => by rw [dA]; simp [iA, List.isPrefixOf, Go.Lib.contains, Go.Lib.index]
  | x :: y :: r => by
    rw [dA, jv a b (y :: r), iA]
    simp only [List.isPrefixOf, Bool.and_true]
    rw [Bool.beq_comm (a := x), Bool.beq_comm (a := y)]
theorem wH (p q : UInt8 → UInt8 → Bool) : ∀ s : Bs, iA (fun x y => p x y || q x y) s = (iA p s || iA q s)
  | [] => rfl
  | [x] => rfl
  | x :: y :: r => by
    rw [iA, iA, iA, wH p q (y :: r)]
    cases p x y <;> cases q x y <;> cases iA p (y :: r) <;> rfl
theorem su (p : UInt8 → Bool) : ∀ s : Bs, (s.dropWhile p).length ≤ s.length
  | [] => Nat.le_refl _
  | x :: r => by
    rw [List.dropWhile_cons]
    have := su p r
    split
    · simp; omega
    · exact Nat.le_refl _
theorem dw_id (c : UInt8) (s : Bs) : s.dropWhile (· == c) = s ↔ s.head? ≠ some c := by
  cases s with
  | nil => simp
  | cons x r =>
    rw [List.dropWhile_cons]
    have := su (· == c) r
    by_cases h : x = c
    · subst h
      simp only [beq_self_eq_true, if_true, List.head?_cons, ne_eq, not_true_eq_false, iff_false]
      intro he
      rw [he] at this
      simp at this
      omega
    · simp [h]
theorem rV (c : UInt8) (s : Bs) : Go.Lib.trimB s c = s ↔ s.head? ≠ some c ∧ s.getLast? ≠ some c := by
  have hr : Go.Lib.trimRightB s c = s ↔ s.getLast? ≠ some c := by
    unfold Go.Lib.trimRightB
    rw [← List.head?_reverse, ← dw_id, ← List.reverse_inj, List.reverse_reverse]
  have hl : (Go.Lib.trimRightB s c).length ≤ s.length := by
    have := su (· == c) s.reverse
    unfold Go.Lib.trimRightB
    simpa using this
  unfold Go.Lib.trimB
  constructor
  · intro h
    have h1 := su (· == c) (Go.Lib.trimRightB s c)
    have h2 : (Go.Lib.trimRightB s c) = s := by
      have e : (Go.Lib.trimRightB s c).length = s.length := by
        have := congrArg List.length h
        unfold Go.Lib.trimLeftB at this
        omega
      have p : Go.Lib.trimRightB s c <+: s := by
        unfold Go.Lib.trimRightB
        rw [← List.reverse_suffix, List.reverse_reverse]
        exact List.dropWhile_suffix _
      exact p.eq_of_length e
    rw [h2] at h
    exact ⟨(dw_id c s).1 h, hr.1 h2⟩
  · intro ⟨h1, h2⟩
    rw [hr.2 h2]
    exact (dw_id c s).2 h1
def plainB (s : Bs) : Bool := (((s.all okb && !decide (s = [])) && (decide (s.head? ≠ some 32) && decide (s.getLast? ≠ some 32))) && !iA bad s)
theorem Plain_eq (F : Nat) (s : Bs) (hs : s.length ≤ 1000000) (hF : s.length < F) : kQ F s = some (plainB s) := by
  unfold kQ
  have hS : ∀ (c : Bool) (k : Option Bool), cz c (okS s.length) k = k := fun c k => by
    rw [show okS s.length = true from decide_eq_true (by omega)]; cases c <;> rfl
  rw [onlyP_eq F s hs hF, bC, hS, aM, hS, aM, hS, aM, jv, jv]
  have e1 : iA bad s = (iA (fun x y => x == 32 && y == 32) s || iA (fun x y => x == 61 && y == 63) s) := wH _ _ s
  have e2 : decide (Go.Lib.trimB s 32 = s) = (decide (s.head? ≠ some 32) && decide (s.getLast? ≠ some 32)) := by
    rw [← Bool.decide_and]; exact decide_eq_decide.2 (rV 32 s)
  unfold plainB
  rw [e1, e2, Bool.not_or, Bool.and_assoc _ (!_) (!_)]
def chk (p : Option UInt8) : Bs → Bool
  | [] => true
  | c :: r => okb c && !(match p with | none => false | some x => bad x c) && chk (some c) r
theorem ud : ∀ (r : Bs) (p : UInt8), chk (some p) r = (r.all okb && !iA bad (p :: r))
  | [], p => rfl
  | c :: r, p => by
    rw [chk, ud r c, iA, List.all_cons]
    cases okb c <;> cases bad p c <;> cases r.all okb <;> rfl
theorem chk_none (s : Bs) : chk none s = (s.all okb && !iA bad s) := by
  cases s with
  | nil => rfl
  | cons c r => rw [chk, ud, List.all_cons]; cases okb c <;> cases r.all okb <;> rfl
theorem bq (a b : UInt8) : decide (a = b) = (a == b) := by by_cases h : a = b <;> simp [h]
theorem fw (x : Bool) : (false && x) = false := Eq.symm (Eq.symm rfl)
theorem ef (x : Bool) : (true && x) = x := Eq.symm (Eq.symm rfl)
theorem nfl : (!false) = true := Eq.symm (Eq.symm rfl)
theorem ntr : (!true) = false := Eq.symm (Eq.symm rfl)
theorem cfl {α : Type} (a b : α) : (bif false then a else b) = b := Eq.symm (Eq.symm rfl)
theorem ctr {α : Type} (a b : α) : (bif true then a else b) = a := Eq.symm (Eq.symm rfl)
def prev (s : Bs) (i : Nat) : Option UInt8 := if i = 0 then none else s[i - 1]?
theorem sV (s : Bs) (hs : s.length ≤ 1000000) : ∀ (n i : Nat), s.length - i < n → i ≤ s.length → fG s n (i : Int) = bif chk (prev s i) (s.drop i) then dE s else some false := by
  intro n
  induction n with
  | zero => intro i h; omega
  | succ n ih =>
    intro i hn hi;show fH s (fG s n) (i : Int) = _
    unfold fH
    by_cases h : i < s.length
    · have hd : s.drop i = s[i] :: s.drop (i + 1) := ar h
      have hp : prev s (i + 1) = some s[i] := by simp [prev, h]
      have hA : ∀ (c : Bool) (k : Option Bool), cz c (bQ (i : Int) s.length) k = k := fun c k => by
        rw [show bQ (i : Int) s.length = true from decide_eq_true (by omega)]; cases c <;> rfl
      have ok1 : okb s[i] = !((decide ((s[i].toNat : Int) < 32)) || (decide (126 < (s[i].toNat : Int)))) := by
        unfold okb
        by_cases h1 : (s[i].toNat : Int) < 32
        · rw [decide_eq_true h1, decide_eq_false (by omega)]; rfl
        · by_cases h2 : 126 < (s[i].toNat : Int)
          · rw [decide_eq_false h1, decide_eq_true h2, decide_eq_false (show ¬ (s[i].toNat : Int) < 127 by omega)]; cases decide (32 ≤ (s[i].toNat : Int)) <;> rfl
          · rw [decide_eq_false h1, decide_eq_false h2, decide_eq_true (show 32 ≤ (s[i].toNat : Int) by omega), decide_eq_true (show (s[i].toNat : Int) < 127 by omega)]; rfl
      rw [bT (by omega), bJ (by omega), aM, bP h, hA, aM, hd]
      unfold chk
      rw [ok1]
      cases hk : (decide ((s[i].toNat : Int) < 32)) || (decide (126 < (s[i].toNat : Int))) with
      | true => rw [ctr, ntr, fw, fw, cfl]
      | false =>
        rw [cfl, hA, aM]
        by_cases h0 : i = 0
        · have d0 : decide ((0 : Int) < (i : Int)) = false := decide_eq_false (by omega)
          have ep : prev s i = none := by unfold prev; rw [if_pos h0]
          simp only [d0, fw, dZ, aM, cfl, ep, nfl, ef]
          rw [bl (by omega), bg, ih (i + 1) (by omega) (by omega), hp]
        · have d0 : decide ((0 : Int) < (i : Int)) = true := decide_eq_true (by omega)
          have e1 : (i : Int) - 1 = ((i - 1 : Nat) : Int) := by omega
          have ep : prev s i = some s[i - 1] := by simp [prev, h0]
          have hB : ∀ (c : Bool) (k : Option Bool), cz c (bQ ((i - 1 : Nat) : Int) s.length) k = k := fun c k => by
            rw [show bQ ((i - 1 : Nat) : Int) s.length = true from decide_eq_true (by omega)]; cases c <;> rfl
          have hI : ∀ (c : Bool) (k : Option Bool), cz c (okI ((i - 1 : Nat) : Int)) k = k := fun c k => by
            rw [show okI ((i - 1 : Nat) : Int) = true from decide_eq_true (by omega)]; cases c <;> rfl
          simp only [e1, d0, ef, hA, hB, hI, aM, ep, nfl, bP (show i - 1 < s.length by omega)]
          have hb : (((decide (s[i] = 32)) && (decide (s[i - 1] = 32))) || ((decide (s[i] = 63)) && (decide (s[i - 1] = 61)))) = bad s[i - 1] s[i] := by
            unfold bad
            rw [bq, bq, bq, bq, Bool.and_comm, Bool.and_comm (s[i] == 63)]
          rw [hb]
          cases bad s[i - 1] s[i] with
          | true => rw [ctr, ntr, fw, cfl]
          | false => rw [cfl, bl (by omega), bg, ih (i + 1) (by omega) (by omega), hp, nfl, ef]
    · rw [bF (by omega), aE (by omega)]; rfl
theorem xn (F : Nat) (s : Bs) (hs : s.length ≤ 1000000) (hF : s.length < F) : jZ F s = some (plainB s) := by
  have := sV s hs F 0 (by omega) (by omega)
  unfold jZ
  refine Eq.trans this ?_
  rw [List.drop_zero, show prev s 0 = none from rfl, chk_none]
  unfold plainB
  by_cases h : s = []
  · subst h; rfl
  · have h1 := List.length_pos_iff.2 h
    have hj : dE s = some (decide (s.head? ≠ some 32) && decide (s.getLast? ≠ some 32)) := by
      have e1 : (s.length : Int) - 1 = ((s.length - 1 : Nat) : Int) := by omega
      have hA : ∀ (c : Bool) (i : Nat) (k : Option Bool), i < s.length → cz c (bQ (i : Int) s.length) k = k := fun c i k hi => by
        rw [show bQ (i : Int) s.length = true from decide_eq_true (by omega)]; cases c <;> rfl
      have hI : ∀ (c : Bool) (k : Option Bool), cz c (okI ((s.length - 1 : Nat) : Int)) k = k := fun c k => by
        rw [show okI ((s.length - 1 : Nat) : Int) = true from decide_eq_true (by omega)]; cases c <;> rfl
      unfold dE
      rw [show (0 : Int) = ((0 : Nat) : Int) from rfl]
      rw [hA _ 0 _ h1, aM, e1, hI, hA _ (s.length - 1) _ (by omega), aM, bP h1, bP (by omega), decide_eq_true (show ((0 : Nat) : Int) < s.length by omega), Bool.true_and]
      have x1 : s.head? = some s[0] := by rw [List.head?_eq_getElem?, aG h1]
      have x2 : s.getLast? = some s[s.length - 1] := by rw [List.getLast?_eq_getElem?, aG (by omega)]
      rw [x1, x2]
      simp
    rw [hj, decide_eq_false h]
    cases s.all okb <;> cases iA bad s <;> simp
def insb (c : UInt8) : Bool := decide (Go.Av.shr8 c 6 = 2)
theorem insb_eq (c : UInt8) : ((decide ((c.toNat : Int) < 128)) || (decide (191 < (c.toNat : Int)))) = !insb c := by
  have := cR (fun c => ((decide ((c.toNat : Int) < 128)) || (decide (191 < (c.toNat : Int)))) == !insb c) (by decide +kernel) c
  exact eq_of_beq this
def dn (s : Bs) : Nat → Nat
  | 0 => 45
  | k + 1 => bif insb (gb s (42 + k)) then dn s k else 42 + k
theorem ug {s : Bs} {i : Nat} (h : i < s.length) : gb s i = s[i] := by simp [gb, h]
theorem xq (F : Nat) (s : Bs) (hs : 45 < s.length) : ∀ (n k : Nat), k < n → k ≤ 4 → js F s n ((41 + k : Nat) : Int) = some ((dn s k : Nat) : Int) := by
  intro n
  induction n with
  | zero => intro k h; omega
  | succ n ih =>
    intro k hk h4;show jt F s (js F s n) ((41 + k : Nat) : Int) = _
    unfold jt
    cases k with
    | zero => rfl
    | succ k =>
      have e : 41 + (k + 1) = 42 + k := by omega
      have hb : lc F s[42 + k] = some (insb (gb s (42 + k))) := by rw [ug (by omega)]; rfl
      rw [e, decide_eq_true (show (41 : Int) < ((42 + k : Nat) : Int) by omega), lx, bJ (by omega), aM, bP (by omega), hb, wl, bC, Bool.true_and]
      unfold dn
      cases insb (gb s (42 + k)) with
      | true =>
        have e2 : ((42 + k : Nat) : Int) - 1 = ((41 + k : Nat) : Int) := by omega
        rw [cond_true, cond_true, bl (by omega), e2, ih k (by omega) (by omega)]
      | false =>
        rw [cond_false, cond_false]
        unfold jr
        rw [bF (by omega)]
theorem ur (s : Bs) (hs : 45 < s.length) : ∀ (n k : Nat), k < n → k ≤ 4 → gK s n ((41 + k : Nat) : Int) = some ((dn s k : Nat) : Int) := by
  intro n
  induction n with
  | zero => intro k h; omega
  | succ n ih =>
    intro k hk h4;show gL s (gK s n) ((41 + k : Nat) : Int) = _
    unfold gL
    cases k with
    | zero => rw [bF (by omega)]; rfl
    | succ k =>
      have e : 41 + (k + 1) = 42 + k := by omega
      have hA : ∀ (c : Bool) (k' : Option Int), cz c (bQ ((42 + k : Nat) : Int) s.length) k' = k' := fun c k' => by
        rw [show bQ ((42 + k : Nat) : Int) s.length = true from decide_eq_true (by omega)]; cases c <;> rfl
      rw [e, bT (by omega), bJ (by omega), aM, bP (by omega), hA, aM, insb_eq, ← ug (show 42 + k < s.length by omega)]
      unfold dn
      cases insb (gb s (42 + k)) with
      | true =>
        have e2 : ((42 + k : Nat) : Int) - 1 = ((41 + k : Nat) : Int) := by omega
        rw [Bool.not_true, cond_false, cond_true, bl (by omega), e2, ih k (by omega) (by omega)]
      | false => rfl
def pt (s : Bs) : Nat := if s.length ≤ 45 then s.length else dn s 4
theorem dn_le (s : Bs) : ∀ k, k ≤ 4 → 42 ≤ dn s k ∧ dn s k ≤ 45
  | 0, _ => by simp [dn]
  | k + 1, h => by
    have := dn_le s k (by omega)
    unfold dn
    cases insb (gb s (42 + k)) with
    | true => exact this
    | false => rw [cond_false]; omega
theorem oQ (s : Bs) : pt s ≤ s.length ∧ pt s ≤ 45 ∧ (s ≠ [] → 1 ≤ pt s) := by
  have := dn_le s 4 (by omega)
  unfold pt
  split
  · exact ⟨Nat.le_refl _, by omega, fun h => List.length_pos_iff.2 h⟩
  · exact ⟨by omega, by omega, fun h => by omega⟩
theorem part_eq (F : Nat) (hF : 5 ≤ F) (s : Bs) : lG F s = some ((pt s : Nat) : Int) := by
  unfold lG pt
  by_cases h : s.length ≤ 45
  · rw [bT (by omega), if_pos h]
  · rw [bF (by omega), if_neg h]; exact xq F s (by omega) F 4 (by omega) (by omega)
theorem rpart_eq (F : Nat) (hF : 5 ≤ F) (s : Bs) : kJ F s = some ((pt s : Nat) : Int) := by
  unfold kJ pt
  by_cases h : s.length ≤ 45
  · rw [bT (by omega), if_pos h]
  · rw [bF (by omega), if_neg h]; exact ur s (by omega) F 4 (by omega) (by omega)
def ahead : Bs := [61, 63, 117, 116, 102, 45, 56, 63, 66, 63]
def behind : Bs := [63, 61]
def word (p : Bs) : Bs := ahead ++ enc p ++ behind
def pcs : Nat → Bs → List Bs
  | 0, _ => []
  | n + 1, s => if s = [] then [] else word (s.take (pt s)) :: pcs n (s.drop (pt s))
theorem oW (n : Nat) : pcs n [] = [] := by cases n <;> rfl
theorem pcs_more : ∀ (n m : Nat) (s : Bs), s.length ≤ n → s.length ≤ m → pcs n s = pcs m s := by
  intro n
  induction n with
  | zero => intro m s h1 h2; have : s = [] := List.eq_nil_of_length_eq_zero (by omega); subst this; rw [oW, oW]
  | succ n ih =>
    intro m s h1 h2
    by_cases h : s = []
    · subst h; rw [oW, oW]
    · have hp := oQ s
      have hl := List.length_pos_iff.2 h
      have h3 := hp.2.2 h
      obtain ⟨m, rfl⟩ : ∃ k, m = k + 1 := ⟨m - 1, by omega⟩
      rw [pcs, pcs, if_neg h, if_neg h, ih m (s.drop (pt s)) (by simp; omega) (by simp; omega)]
def jF (s : Bs) : List Bs := pcs s.length s
theorem iK {s : Bs} (h : s ≠ []) : jF s = word (s.take (pt s)) :: jF (s.drop (pt s)) := by
  have hp := oQ s
  have hl := List.length_pos_iff.2 h
  have h3 := hp.2.2 h
  unfold jF
  obtain ⟨m, hm⟩ : ∃ k, s.length = k + 1 := ⟨s.length - 1, by omega⟩
  rw [hm, pcs, if_neg h, pcs_more m (s.drop (pt s)).length _ (by simp; omega) (by simp)]
theorem ga : jF [] = [] := rfl
def cL (s : Bs) : List Bs := bif plainB s then sp 32 s else jF s
def rT {σ : Type} (k : σ → Bs → Option (σ × Bool)) (st : σ) (w : Bs) : Option σ := match k st w with
  | some (st', true) => some st'
  | _ => none
def nZ {σ : Type} (k : σ → Bs → Option (σ × Bool)) : σ → List Bs → Option σ
  | st, [] => some st
  | st, w :: ws => match rT k st w with
    | none => none
    | some st' => nZ k st' ws
theorem fold1_s {σ : Type} {k : σ → Bs → Option (σ × Bool)} {st st' : σ} {w : Bs} (h : rT k st w = some st') : k st w = some (st', true) := by
  unfold rT at h
  split at h
  · rename_i h1; cases h; exact h1
  · cases h
theorem wJ {σ : Type} {k : σ → Bs → Option (σ × Bool)} {st st' : σ} {w : Bs} {ws : List Bs} (h : nZ k st (w :: ws) = some st') : ∃ m, k st w = some (m, true) ∧ nZ k m ws = some st' := by
  rw [nZ] at h
  cases hf : rT k st w with
  | none => rw [hf] at h; cases h
  | some m => rw [hf] at h; exact ⟨m, fold1_s hf, h⟩
theorem wI_loop {σ : Type} (F : Nat) (k : σ → Bs → Option (σ × Bool)) (hF : 60 ≤ F) : ∀ (n : Nat) (s : Bs) (st st' : σ), s.length < n → s.length ≤ 1000000 → nZ k st (jF s) = some st' → ∃ r, eA F k n (s, st) = some (st', r) := by
  intro n
  induction n with
  | zero => intro s st st' h; omega
  | succ n ih =>
    intro s st st' hn hs H
    have e : eA F k (n + 1) (s, st) = fV F k (eA F k n) s st := rfl
    rw [e]
    unfold fV
    by_cases h : s = []
    · subst h
      cases H
      exact ⟨[], rfl⟩
    · have hp := oQ s
      have hl := List.length_pos_iff.2 h
      have h3 := hp.2.2 h
      rw [iK h] at H
      obtain ⟨m, h1, h2⟩ := wJ H;obtain ⟨r, hr⟩ := ih (s.drop (pt s)) m st' (by simp; omega) (by simp; omega) h2;refine ⟨r, ?_⟩
      have he := pb (s.take (pt s))
      have ht : (s.take (pt s)).length ≤ 45 := by simp; omega
      rw [decide_eq_false h, Bool.not_false, cond_true, part_eq F (by omega), bC, dI (by omega), aM, kw, bc (by omega), Raw_eq F _ (by omega) (by omega), bC]
      rw [bc (by simp; omega), aM, bc (by simp; omega), aM]
      have hk : k st (([61, 63, 117, 116, 102, 45, 56, 63, 66, 63] : Bs) ++ enc (s.take (pt s)) ++ [63, 61]) = some (m, true) := h1
      rw [hk, bR, Bool.not_true, cond_false, dI (by omega), aM, eE]
      exact hr
theorem wS_loop {σ : Type} (a : Bs) (k : σ → Bs → Option (σ × Bool)) (l : List Bs) (hl : l.length ≤ 10000000) : ∀ (n i : Nat) (st st' : σ), l.length - i < n → i ≤ l.length → nZ k st (l.drop i) = some st' → ez a k l n ((i : Int), st) = some (st', a) := by
  intro n
  induction n with
  | zero => intro i st st' h; omega
  | succ n ih =>
    intro i st st' hn hi H
    have e : ez a k l (n + 1) ((i : Int), st) = fU a k l (ez a k l n) (i : Int) st := rfl
    rw [e]
    unfold fU
    by_cases h : i < l.length
    · rw [ar h] at H
      obtain ⟨m, h1, h2⟩ := wJ H
      rw [bT (by omega), bJ (by omega), aM, bP h, h1, bR, Bool.not_true, cond_false, bl (by omega), bg]
      exact ih (i + 1) m st' (by omega) (by omega) h2
    · rw [aE (by omega)] at H
      cases H
      rw [bF (by omega)]
theorem wT {σ : Type} (F : Nat) (k : σ → Bs → Option (σ × Bool)) (s : Bs) (st st' : σ) (hs : s.length ≤ 1000000) (hF : s.length + 100 < F) (H : nZ k st (cL s) = some st') : ∃ r, kg F k st s = some (st', r) := by
  unfold kg
  rw [Plain_eq F s hs (by omega), bC]
  unfold cL at H
  cases hp : plainB s with
  | true =>
    rw [hp, cond_true] at H
    have hl := qS 32 s
    rw [cond_true, mq (by omega), ns (by simp), aM, wW]
    exact ⟨s, wS_loop s k (sp 32 s) (by omega) F 0 st st' (by omega) (by omega) H⟩
  | false =>
    rw [hp, cond_false] at H
    rw [cond_false]
    exact wI_loop F k (by omega) F s st st' (by omega) hs H
theorem pD (s : Bs) : ∀ n, s.length ≤ n → (jF s).length ≤ s.length ∧ ∀ w ∈ jF s, w.length ≤ 104 := by
  intro n
  induction n generalizing s with
  | zero => intro h; have : s = [] := List.eq_nil_of_length_eq_zero (by omega); subst this; simp [ga]
  | succ n ih =>
    intro h
    by_cases h0 : s = []
    · subst h0; simp [ga]
    · have hp := oQ s
      have hl := List.length_pos_iff.2 h0
      have h3 := hp.2.2 h0
      have ⟨i1, i2⟩ := ih (s.drop (pt s)) (by simp; omega)
      have he := pb (s.take (pt s))
      have ht : (s.take (pt s)).length ≤ 45 := by simp; omega
      rw [iK h0]
      refine ⟨by simp at i1 ⊢; omega, fun w hw => ?_⟩
      rcases List.mem_cons.1 hw with rfl | hw
      · simp [word, ahead, behind]; omega
      · exact i2 w hw
theorem od {l : List Bs} {w : Bs} (h : w ∈ l) : w.length ≤ Str.total l := by
  induction l with
  | nil => cases h
  | cons x r ih =>
    rcases List.mem_cons.1 h with rfl | h
    · simp [Str.total]
    · have := ih h; simp [Str.total]; omega
theorem mC (s : Bs) : (cL s).length ≤ s.length + 1 ∧ ∀ w ∈ cL s, w.length ≤ s.length + 104 := by
  unfold cL
  cases plainB s with
  | true =>
    rw [cond_true]
    have h1 := tK 32 s
    have h2 := qS 32 s
    exact ⟨h2, fun w hw => by have := od hw; have := List.length_pos_iff.2 (List.ne_nil_of_mem hw); omega⟩
  | false =>
    rw [cond_false]
    have ⟨h1, h2⟩ := pD s s.length (by omega)
    exact ⟨by omega, fun w hw => by have := h2 w hw; omega⟩
theorem rW_loop (F : Nat) (hF : 200 ≤ F) : ∀ (n : Nat) (s : Bs) (acc : List Bs), s.length < n → acc.length + s.length ≤ 1000000 → fE F n (s, acc) = some (acc ++ jF s) := by
  intro n
  induction n with
  | zero => intro s acc h; omega
  | succ n ih =>
    intro s acc hn hs;show fF F (fE F n) s acc = _
    unfold fF
    by_cases h : s = []
    · subst h; rw [bF (by simp), ga, List.append_nil]; rfl
    · have hp := oQ s
      have hl := List.length_pos_iff.2 h
      have h3 := hp.2.2 h
      have he := pb (s.take (pt s))
      have ht : (s.take (pt s)).length ≤ 45 := by simp; omega
      rw [bT (by omega), rpart_eq F (by omega), bC, dI (by omega), aM, kw, bc (by omega), wx F _ (by omega) (by omega), bC]
      rw [bc (by simp; omega), aM, bc (by simp; omega), aM, bc (by simp; omega), aM, dI (by omega), aM, eE, ih _ _ (by simp; omega) (by simp; omega), iK h, List.append_assoc]
      rfl
theorem xl (F : Nat) (s : Bs) (hs : s.length ≤ 1000000) (hF : s.length + 300 < F) : jY F s = some (cL s) := by
  unfold jY cL
  rw [xn F s hs (by omega), bC]
  cases plainB s with
  | true => rw [cond_true, cond_true, pj F s 32 hs (by omega), bC]
  | false =>
    rw [cond_false, cond_false]
    have := rW_loop F (by omega) F s [] (by omega) (by simp; omega)
    rw [List.nil_append] at this
    exact this
end Go.Hd
namespace Go.Hd
open Go.Pv Go.Av
def cD (st : Int × Bs) (x : Bs) : Int × Bs := if 76 < st.1 + 1 + (x.length : Int) then (0 + 1 + (x.length : Int), st.2 ++ [13, 10] ++ [32] ++ x) else (st.1 + 1 + (x.length : Int), st.2 ++ [32] ++ x)
def cF (a b : Bs) : Bs := ((cL b).foldl cD (((a.length + 1 : Nat) : Int), a ++ [58])).2 ++ [13, 10]
theorem nq (st : Int × Bs) (x : Bs) : (cD st x).2.length ≤ st.2.length + x.length + 3 := by
  unfold cD; split <;> simp <;> omega
theorem tS (st : Int × Bs) (x : Bs) (h : 0 ≤ st.1) (hx : x.length ≤ 2000000) : 0 ≤ (cD st x).1 ∧ (cD st x).1 ≤ 2000001 := by
  unfold cD; split <;> simp <;> omega
theorem k1_eq (st : Int × Bs) (x : Bs) (h0 : 0 ≤ st.1) (h1 : st.1 ≤ 10000000) (hx : x.length ≤ 2000000) (ho : st.2.length + x.length + 3 ≤ 50000000000) :
    rT (fun s x => dT s.1 s.2 x) st x = some (cD st x) := by
  have hk : dT st.1 st.2 x = some (cD st x, true) := by
    unfold dT gp cD
    by_cases h : 76 < st.1 + 1 + (x.length : Int)
    · rw [bT h, if_pos h]
      simp (disch := (first | omega | (simp; omega))) only [bl, bc, aM]
    · rw [bF h, if_neg h]
      simp (disch := (first | omega | (simp; omega))) only [bl, bc, aM]
  unfold rT
  simp only [hk]
theorem oe : ∀ (ws : List Bs) (st : Int × Bs), (∀ w ∈ ws, w.length ≤ 2000000) → 0 ≤ st.1 → st.1 ≤ 10000000 → st.2.length + ws.length * 2000003 ≤ 50000000000 →
    nZ (fun s x => dT s.1 s.2 x) st ws = some (ws.foldl cD st) ∧ (ws.foldl cD st).2.length ≤ st.2.length + ws.length * 2000003
  | [], st, _, _, _, _ => ⟨rfl, by simp⟩
  | w :: ws, st, hw, h0, h1, hl => by
    have hx := hw w (by simp)
    have hn := tS st w h0 hx
    have hs := nq st w
    simp only [List.length_cons] at hl
    have ⟨i1, i2⟩ := oe ws (cD st w) (fun v hv => hw v (by simp [hv])) hn.1 (by omega) (by omega)
    rw [nZ, k1_eq st w h0 h1 hx (by omega)]
    refine ⟨i1, ?_⟩
    rw [List.foldl_cons, List.length_cons]; omega
def okLine (a b : Bs) : Bool := nameB a && decide (b.length ≤ 4000)
theorem okLine_s {a b : Bs} (h : okLine a b = true) : nameB a = true ∧ b.length ≤ 4000 ∧ a.length ≤ 40 := by
  unfold okLine at h
  rw [Bool.and_eq_true] at h
  refine ⟨h.1, of_decide_eq_true h.2, ?_⟩
  have := h.1
  unfold nameB at this
  rw [Bool.and_eq_true] at this
  exact of_decide_eq_true this.2
theorem uN (a b : Bs) (h : okLine a b = true) : (cF a b).length ≤ 50000000000 ∧ (a.length : Int) + 1 + (cL b).length ≤ 10000 := by
  have ⟨h1, h2, h3⟩ := okLine_s h
  have ⟨w1, w2⟩ := mC b
  have := (oe (cL b) (((a.length + 1 : Nat) : Int), a ++ [58]) (fun w hw => by have := w2 w hw; omega) (by simp; omega) (by simp; omega) (by simp; omega)).2
  refine ⟨?_, by omega⟩
  unfold cF
  simp at this ⊢; omega
theorem sh (F : Nat) (a b : Bs) (ha : a.length ≤ 1000000) (hFa : a.length < F) (hF : 4200 < F) : iM F a b = some (if okLine a b = true then (cF a b, 0) else ([], 1)) := by
  unfold iM ju
  rw [name_eq F a ha hFa, bC]
  by_cases h : okLine a b = true
  · have ⟨h1, h2, h3⟩ := okLine_s h
    have ⟨w1, w2⟩ := mC b
    have hlen := (uN a b h).1
    have ⟨f1, f2⟩ := oe (cL b) (((a.length + 1 : Nat) : Int), a ++ [58]) (fun w hw => by have := w2 w hw; omega) (by simp; omega) (by simp; omega) (by simp; omega)
    obtain ⟨r, hr⟩ := wT F _ b _ _ (by omega) (by omega) f1
    rw [if_pos h, h1, Bool.not_true, Bool.false_or, bF (by omega), bc (by simp; omega), aM, bc (by simp; omega)]
    unfold lS
    rw [bC]
    have e : (((a ++ [58] : Bs).length : Int), a ++ [58]) = (((a.length + 1 : Nat) : Int), a ++ [58]) := by simp
    rw [e, hr, bR, bc (by simp at f2 ⊢; omega), aM]
    rfl
  · rw [if_neg h]
    have : ((!nameB a) || (decide (4000 < (b.length : Int)))) = true := by
      unfold okLine at h
      cases hn : nameB a with
      | false => rfl
      | true =>
        rw [hn, Bool.true_and, decide_eq_true_eq] at h
        rw [decide_eq_true (show 4000 < (b.length : Int) by omega)]; rfl
    rw [this, cond_true]
theorem uA (l : List Bs) (hl : l.length ≤ 100000) (hw : ∀ w ∈ l, w.length ≤ 2000000) : ∀ (n i : Nat) (st : Int × Bs), l.length - i < n → i ≤ l.length → 0 ≤ st.1 → st.1 ≤ 10000000 → st.2.length + (l.length - i) * 2000003 ≤ 50000000000 →
    dW l n (st.2, st.1, (i : Int)) = some (((l.drop i).foldl cD st).2 ++ [13, 10], 0) := by
  intro n
  induction n with
  | zero => intro i st h; omega
  | succ n ih =>
    intro i st hn hi h0 h1 hb;show gW l (dW l n) st.2 st.1 (i : Int) = _
    unfold gW fk gV
    by_cases h : i < l.length
    · have hx := hw l[i] (List.getElem_mem h)
      have hs := nq st l[i]
      have hnn := tS st l[i] h0 hx
      have hm : (l.length - i) * 2000003 = (l.length - (i + 1)) * 2000003 + 2000003 := by
        rw [show l.length - i = (l.length - (i + 1)) + 1 by omega, Nat.add_mul]
      have := ih (i + 1) (cD st l[i]) (by omega) (by omega) hnn.1 (by omega) (by omega)
      rw [ar h, List.foldl_cons, ← this]
      rw [bT (by omega), bl (by omega), bJ (by omega), aM, bP h, bl (by omega)]
      unfold cD
      by_cases hc : 76 < st.1 + 1 + (l[i].length : Int)
      · rw [bT hc, if_pos hc]
        simp (disch := (first | omega | (simp; omega))) only [bl, bc, aM, bJ, bP h, bg, List.append_assoc]
      · rw [bF hc, if_neg hc]
        simp (disch := (first | omega | (simp; omega))) only [bl, bc, aM, bJ, bP h, bg, List.append_assoc]
    · rw [bF (by omega), aE (by omega), bc (by simp; omega), aM]; rfl
theorem tM (F : Nat) (a b : Bs) (ha : a.length ≤ 1000000) (hFa : a.length < F) (hF : 4400 < F) : jH F a b = some (if okLine a b = true then (cF a b, 0) else ([], 1)) := by
  unfold jH
  rw [rname_eq F a ha hFa, bC]
  by_cases h : okLine a b = true
  · have ⟨h1, h2, h3⟩ := okLine_s h
    have ⟨w1, w2⟩ := mC b
    rw [if_pos h, h1, Bool.not_true, Bool.false_or, bF (by omega), bc (by simp; omega), aM, bc (by simp; omega), xl F b (by omega) (by omega), bC]
    have := uA (cL b) (by omega) (fun w hw => by have := w2 w hw; omega) F 0 (((a.length + 1 : Nat) : Int), a ++ [58]) (by omega) (by omega) (by simp; omega) (by simp; omega) (by simp; omega)
    have e : (((a ++ [58] : Bs).length : Int)) = ((a.length + 1 : Nat) : Int) := by simp
    rw [e]
    exact this
  · rw [if_neg h]
    have : ((!nameB a) || (decide (4000 < (b.length : Int)))) = true := by
      unfold okLine at h
      cases hn : nameB a with
      | false => rfl
      | true =>
        rw [hn, Bool.true_and, decide_eq_true_eq] at h
        rw [decide_eq_true (show 4000 < (b.length : Int) by omega)]; rfl
    rw [this, cond_true]
end Go.Hd
namespace Go.Hd
open Go.Pv Go.Av
def spb (c : UInt8) : Bool := ((decide (c = 32)) || (decide (c = 13))) || (decide (c = 10))
def wf : Bs → Bs → List Bs
  | cur, [] => if cur = [] then [] else [cur]
  | cur, c :: r => if spb c = true then (if cur = [] then wf [] r else cur :: wf [] r) else wf (cur ++ [c]) r
theorem wa (r : Bs) : ∀ (p cur : Bs), (∀ c ∈ p, spb c = false) → wf cur (p ++ r) = wf (cur ++ p) r
  | [], cur, _ => by simp
  | c :: p, cur, h => by
    rw [List.cons_append, wf, if_neg (by rw [h c (by simp)]; simp), wa r p (cur ++ [c]) (fun x hx => h x (by simp [hx]))]
    simp
theorem wX (c : UInt8) (h : c.toNat < 128) : spB c.toNat = spb c := by
  have := cR (fun c => decide (c.toNat < 128 → spB c.toNat = spb c)) (by decide +kernel) c
  exact of_decide_eq_true this h
theorem spb_high (c : UInt8) (h : 128 ≤ c.toNat) : spb c = false := by
  have := cR (fun c => decide (128 ≤ c.toNat → spb c = false)) (by decide +kernel) c
  exact of_decide_eq_true this h
theorem spB_high (n : Nat) (h : 128 ≤ n) : spB n = false := by
  unfold spB
  rw [decide_eq_false (by omega), decide_eq_false (by omega), decide_eq_false (by omega)]; rfl
theorem kA (l : Bs) : (⟨l.toArray⟩ : ByteArray).size = l.length := by simp [ByteArray.size]
theorem ba_get (l : Bs) (i : Nat) (h : i < l.length) : (⟨l.toArray⟩ : ByteArray).get! i = l[i] := by
  simp [ByteArray.get!, h]
theorem ba_at (l : Bs) (i : Nat) (h : i < (⟨l.toArray⟩ : ByteArray).size) : (⟨l.toArray⟩ : ByteArray)[i]'h = l[i]'(by rwa [kA] at h) := rfl
theorem cover (l : Bs) (pos : Nat) (h : pos < l.length) (ha : 128 ≤ (l[pos]).toNat) :
    pos + (Utf8.decode ⟨l.toArray⟩ pos).2 ≤ l.length ∧ ∀ k, k < (Utf8.decode ⟨l.toArray⟩ pos).2 → 128 ≤ (gb l (pos + k)).toNat := by
  have hn : ¬ (l[pos]).toNat < 128 := by omega
  have e0 : (⟨l.toArray⟩ : ByteArray).get! (pos + 0) = l[pos] := ba_get l pos h
  have g0 : 128 ≤ (gb l (pos + 0)).toNat := by rw [Nat.add_zero, ug h]; exact ha
  have hg : ∀ k, pos + k < l.length → ((⟨l.toArray⟩ : ByteArray).get! (pos + k)).toNat / 64 = 2 → 128 ≤ (gb l (pos + k)).toNat := fun k hk he => by
    rw [ba_get l _ hk] at he; rw [ug hk]; omega
  have one : ∀ x : Nat × Nat, x.2 = 1 → pos + x.2 ≤ l.length ∧ ∀ k, k < x.2 → 128 ≤ (gb l (pos + k)).toNat := fun x hx => by
    rw [hx]; exact ⟨by omega, fun k hk => by obtain rfl : k = 0 := by omega
                                             exact g0⟩
  unfold Utf8.decode
  simp only [e0, kA]
  rw [if_neg hn]
  split
  · rename_i h1
    simp only [Bool.and_eq_true, beq_iff_eq, decide_eq_true_eq] at h1
    split
    · exact ⟨by dsimp only; omega, fun k hk => by
        dsimp only at hk
        rcases (show k = 0 ∨ k = 1 by omega) with rfl | rfl
        · exact g0
        · exact hg 1 h1.2.1 h1.2.2⟩
    · exact one _ rfl
  · split
    · rename_i h1
      simp only [Bool.and_eq_true, beq_iff_eq, decide_eq_true_eq] at h1
      split
      · exact ⟨by dsimp only; omega, fun k hk => by
          dsimp only at hk
          rcases (show k = 0 ∨ k = 1 ∨ k = 2 by omega) with rfl | rfl | rfl
          · exact g0
          · exact hg 1 h1.1.2.1 h1.1.2.2
          · exact hg 2 h1.2.1 h1.2.2⟩
      · exact one _ rfl
    · split
      · rename_i h1
        simp only [Bool.and_eq_true, beq_iff_eq, decide_eq_true_eq] at h1
        split
        · exact ⟨by dsimp only; omega, fun k hk => by
            dsimp only at hk
            rcases (show k = 0 ∨ k = 1 ∨ k = 2 ∨ k = 3 by omega) with rfl | rfl | rfl | rfl
            · exact g0
            · exact hg 1 h1.1.1.2.1 h1.1.1.2.2
            · exact hg 2 h1.1.2.1 h1.1.2.2
            · exact hg 3 h1.2.1 h1.2.2⟩
        · exact one _ rfl
      · exact one _ rfl
def opn (l : Bs) (st : Option Nat) (pos : Nat) : Bs := match st with
  | none => []
  | some a => (l.take pos).drop a
theorem we {l : Bs} {a pos : Nat} (h : a < pos) (hp : pos ≤ l.length) : (l.take pos).drop a ≠ [] := by
  intro h0
  have := congrArg List.length h0
  simp at this; omega
theorem ext_eq (l : Bs) (a b : Nat) : ((⟨l.toArray⟩ : ByteArray).extract a b).data.toList = (l.take b).drop a := by
  rw [Go.Lib.extract_data, ← List.drop_take]
theorem spans_wf (l : Bs) : ∀ (f pos : Nat) (st : Option Nat) (acc : List (Nat × Nat)), l.length - pos ≤ f → pos ≤ l.length → (∀ a, st = some a → a < pos) →
    (Go.Lib.closeSpans ⟨l.toArray⟩ (Go.Lib.spansFromP spB ⟨l.toArray⟩ f pos st acc)).map (fun x => (l.take x.2).drop x.1) = acc.map (fun x => (l.take x.2).drop x.1) ++ wf (opn l st pos) (l.drop pos) := by
  intro f
  induction f with
  | zero =>
    intro pos st acc hf hp hst
    have : pos = l.length := by omega
    subst this
    cases st with
    | none => simp [Go.Lib.spansFromP, Go.Lib.closeSpans, opn, wf]
    | some a =>
      have := we (hst a rfl) hp
      simp only [Go.Lib.spansFromP, Go.Lib.closeSpans, opn, kA, List.map_append, List.drop_length]
      rw [wf, if_neg this]; rfl
  | succ f ih =>
    intro pos st acc hf hp hst
    unfold Go.Lib.spansFromP
    by_cases h : pos < l.length
    · rw [if_pos (by rw [kA]; exact h)]
      have hd : l.drop pos = l[pos] :: l.drop (pos + 1) := ar h
      by_cases ha : (l[pos]).toNat < 128
      · have e := decode_ascii ⟨l.toArray⟩ pos (by rw [kA]; exact h) ha
        rw [ba_at] at e
        rw [e, wX _ ha, hd, wf]
        cases hs : spb l[pos] with
        | true =>
          rw [if_pos rfl, if_pos rfl]
          cases st with
          | none => 
            show (Go.Lib.closeSpans _ (Go.Lib.spansFromP spB _ f (pos + 1) none acc)).map _ = _
            rw [ih _ _ _ (by omega) (by omega) (fun a h => by cases h), if_pos (show opn l none pos = [] from rfl)]; rfl
          | some a =>
            have hn : opn l (some a) pos ≠ [] := we (hst a rfl) hp
            show (Go.Lib.closeSpans _ (Go.Lib.spansFromP spB _ f (pos + 1) none (acc ++ [(a, pos)]))).map _ = _
            rw [ih _ _ _ (by omega) (by omega) (fun a h => by cases h), if_neg hn, List.map_append, List.append_assoc]; rfl
        | false =>
          rw [if_neg (by simp), if_neg (by simp)]
          cases st with
          | none =>
            show (Go.Lib.closeSpans _ (Go.Lib.spansFromP spB _ f (pos + 1) (some pos) acc)).map _ = _
            rw [ih _ _ _ (by omega) (by omega) (fun a h => by cases h; omega)]
            have : opn l (some pos) (pos + 1) = opn l none pos ++ [l[pos]] := by
              show (l.take (pos + 1)).drop pos = _
              rw [List.take_succ_eq_append_getElem h, List.drop_left' (by simp; omega)]; rfl
            rw [this]
          | some a =>
            have hlt := hst a rfl
            show (Go.Lib.closeSpans _ (Go.Lib.spansFromP spB _ f (pos + 1) (some a) acc)).map _ = _
            rw [ih _ _ _ (by omega) (by omega) (fun b h => by cases h; omega)]
            have : opn l (some a) (pos + 1) = opn l (some a) pos ++ [l[pos]] := by
              show (l.take (pos + 1)).drop a = (l.take pos).drop a ++ _
              rw [List.take_succ_eq_append_getElem h, List.drop_append_of_le_length (by simp; omega)]
            rw [this]
      · have hb : 128 ≤ (l[pos]).toNat := by omega
        have ⟨d1, d2⟩ := decode_high ⟨l.toArray⟩ pos (by rw [kA]; exact h) hb
        have ⟨c1, c2⟩ := cover l pos h hb
        generalize Utf8.decode ⟨l.toArray⟩ pos = x at d1 d2 c1 c2
        obtain ⟨r, n⟩ := x
        dsimp only at d1 d2 c1 c2
        rw [spB_high _ d1, if_neg (by simp)]
        have hrun : l.drop pos = (l.take (pos + n)).drop pos ++ l.drop (pos + n) := by
          rw [← List.drop_append_of_le_length (by simp; omega), List.take_append_drop]
        have hall : ∀ c ∈ (l.take (pos + n)).drop pos, spb c = false := fun c hc => by
          obtain ⟨k, hk, rfl⟩ := List.mem_iff_getElem.1 hc
          simp at hk
          have := c2 k (by omega)
          rw [ug (by omega)] at this
          rw [List.getElem_drop, List.getElem_take]
          exact spb_high _ this
        rw [hrun, wa _ _ _ hall]
        cases st with
        | none =>
          show (Go.Lib.closeSpans _ (Go.Lib.spansFromP spB _ f (pos + n) (some pos) acc)).map _ = _
          rw [ih _ _ _ (by omega) c1 (fun a h => by cases h; omega)]; rfl
        | some a =>
          have hlt := hst a rfl
          show (Go.Lib.closeSpans _ (Go.Lib.spansFromP spB _ f (pos + n) (some a) acc)).map _ = _
          rw [ih _ _ _ (by omega) c1 (fun b h => by cases h; omega)]
          have : opn l (some a) (pos + n) = opn l (some a) pos ++ (l.take (pos + n)).drop pos := by
            show (l.take (pos + n)).drop a = (l.take pos).drop a ++ _
            have : l.take (pos + n) = l.take pos ++ (l.take (pos + n)).drop pos := by
              conv => lhs; rw [← List.take_append_drop pos (l.take (pos + n))]
              rw [List.take_take, Nat.min_eq_left (by omega)]
            rw [this, List.drop_append_of_le_length (by simp; omega)]
            congr 2
          rw [this]
    · have : pos = l.length := by omega
      subst this
      rw [if_neg (by rw [kA]; exact h)]
      cases st with
      | none => simp [Go.Lib.closeSpans, opn, wf]
      | some a =>
        have := we (hst a rfl) hp
        simp only [Go.Lib.closeSpans, opn, kA, List.map_append, List.drop_length]
        rw [wf, if_neg this]; rfl
theorem rb (s : Bs) : nG spB s = wf [] s := by
  have := spans_wf s (⟨s.toArray⟩ : ByteArray).size 0 none [] (by rw [kA]; omega) (by omega) (fun a h => by cases h)
  unfold nG Go.Lib.goFieldsP Go.Lib.spansOfP
  rw [List.map_map]
  have e : ((fun x : ByteArray => x.data.toList) ∘ fun x : Nat × Nat => (⟨s.toArray⟩ : ByteArray).extract x.1 x.2) = fun x => (s.take x.2).drop x.1 := by
    funext x; exact ext_eq s x.1 x.2
  rw [e, this]; rfl
theorem pO : ∀ (s cur : Bs), Str.total (wf cur s) + (wf cur s).length ≤ cur.length + s.length + 1
  | [], cur => by
    rw [wf]; split
    · simp [Str.total]
    · simp [Str.total]
  | c :: r, cur => by
    rw [wf]
    split
    · have := pO r []
      split
      · simp at this ⊢; omega
      · simp [Str.total] at this ⊢; omega
    · have := pO r (cur ++ [c])
      simp at this ⊢; omega
end Go.Hd
namespace Go.Hd
open Go.Pv Go.Av
def fx (w : Bs) : Bool := decide (12 ≤ w.length) && (decide (w.take 10 = ahead) && decide (w.drop (w.length - 2) = behind))
def mid (w : Bs) : Bs := (w.take (w.length - 2)).drop 10
noncomputable def cdB (w : Bs) : Bool := fx w && decide ((dec (mid w)).2 = 0)
noncomputable def cdT (w : Bs) : Bs := (dec (mid w)).1
theorem wN (s : Bs) : (dec s).1.length ≤ s.length := by
  by_cases h : ∃ b, enc b = s
  · obtain ⟨b, rfl⟩ := h
    rw [pc]
    have := pX (enc b) b (lM b)
    exact this
  · rw [qe h]; simp
theorem bql (a b : Bs) : decide (a = b) = (a == b) := by by_cases h : a = b <;> simp [h]
theorem hp_take {w p : Bs} : Go.Lib.hasPrefix w p = (decide (p.length ≤ w.length) && decide (w.take p.length = p)) := by
  rw [← Go.Lib.hasPrefix_of_take, bql]
theorem hs_drop {w p : Bs} : Go.Lib.hasSuffix w p = (decide (p.length ≤ w.length) && decide (w.drop (w.length - p.length) = p)) := by
  rw [← Go.Lib.hasSuffix_of_drop, bql]
theorem coded_eq (F : Nat) (w : Bs) (hw : w.length ≤ 300000) (hF : w.length + 100 < F) : ∃ d, kP F w = some (d, cdB w) ∧ (cdB w = true → d = cdT w) := by
  unfold kP
  rw [aM]
  have hal : ([61, 63, 117, 116, 102, 45, 56, 63, 66, 63] : Bs).length = 10 := rfl
  have hbl : ([63, 61] : Bs).length = 2 := rfl
  cases hp : Go.Lib.hasPrefix w [61, 63, 117, 116, 102, 45, 56, 63, 66, 63] with
  | false =>
    refine ⟨[], ?_, ?_⟩
    · dsimp only
      rw [Bool.not_false, cond_true]
      have : cdB w = false := by
        rw [hp_take, hal] at hp
        unfold cdB fx
        by_cases h : 12 ≤ w.length
        · rw [decide_eq_true (show 10 ≤ w.length by omega), ef] at hp
          have h9 : decide (w.take 10 = ahead) = false := hp
          rw [h9]; simp
        · rw [decide_eq_false h]; rfl
      rw [this]
    · intro h
      exfalso
      rw [hp_take, hal] at hp
      unfold cdB fx at h
      simp only [Bool.and_eq_true, decide_eq_true_eq] at h
      rw [decide_eq_true (show 10 ≤ w.length by omega), ef] at hp
      exact absurd h.1.2.1 (of_decide_eq_false hp)
  | true =>
    have hp2 := hp
    rw [hp_take, hal] at hp2
    simp only [Bool.and_eq_true, decide_eq_true_eq] at hp2
    have ht : Go.Lib.trimPrefix w [61, 63, 117, 116, 102, 45, 56, 63, 66, 63] = w.drop 10 := by unfold Go.Lib.trimPrefix; rw [hp]; rfl
    dsimp only
    rw [Bool.not_true, cond_false, ht, mq (by simp; omega), aM]
    have hts : (Go.Lib.trimSuffix (w.drop 10) [63, 61]).length ≤ w.length := by have := Go.Lib.trimSuffix_le (w.drop 10) [63, 61]; simp at this; omega
    dsimp only
    rw [Bytes_eq F _ (by omega) (by omega), show dec (Go.Lib.trimSuffix (w.drop 10) [63, 61]) = ((dec (Go.Lib.trimSuffix (w.drop 10) [63, 61])).1, (dec (Go.Lib.trimSuffix (w.drop 10) [63, 61])).2) from rfl, bR]
    have hsf : Go.Lib.hasSuffix (w.drop 10) [63, 61] = fx w := by
      rw [hs_drop, hbl]
      unfold fx
      have h1 : decide (w.take 10 = ahead) = true := decide_eq_true hp2.2
      rw [h1, ef]
      by_cases h : 12 ≤ w.length
      · have e : (w.drop 10).drop ((w.drop 10).length - 2) = w.drop (w.length - 2) := by
          rw [List.drop_drop]; congr 1; simp; omega
        rw [e, decide_eq_true h, decide_eq_true (show 2 ≤ (w.drop 10).length by simp; omega)]; rfl
      · rw [decide_eq_false h, decide_eq_false (show ¬ 2 ≤ (w.drop 10).length by simp; omega)]; rfl
    cases hc : fx w with
    | false =>
      refine ⟨(dec (Go.Lib.trimSuffix (w.drop 10) [63, 61])).1, ?_, ?_⟩
      · rw [hsf, hc, fw]
        have : cdB w = false := by unfold cdB; rw [hc, fw]
        rw [this]
      · intro h; unfold cdB at h; rw [hc] at h; cases h
    | true =>
      have hm : Go.Lib.trimSuffix (w.drop 10) [63, 61] = mid w := by
        unfold Go.Lib.trimSuffix mid
        rw [hsf, hc, if_pos rfl, hbl, List.drop_take]
        congr 1
        rw [List.length_drop]; omega
      refine ⟨(dec (Go.Lib.trimSuffix (w.drop 10) [63, 61])).1, ?_, fun _ => ?_⟩
      · rw [hsf, hc, ef]
        have : cdB w = decide ((dec (mid w)).2 = 0) := by unfold cdB; rw [hc, ef]
        rw [this, hm]
      · rw [hm]; rfl
theorem xi (F : Nat) (w : Bs) (hw : w.length ≤ 300000) (hF : w.length + 200 < F) : ∃ d, jX F w = some (d, cdB w) ∧ (cdB w = true → d = cdT w) ∧ d.length ≤ w.length := by
  unfold jX
  have e2 : (w.length : Int) - 2 = ((w.length - 2 : Nat) : Int) ∨ w.length < 2 := by omega
  by_cases h : 12 ≤ w.length
  · have e2 : (w.length : Int) - 2 = ((w.length - 2 : Nat) : Int) := by omega
    have e10 : (10 : Int) = ((10 : Nat) : Int) := rfl
    have hO : ∀ (c : Bool) (b : Bool) (k : Option (Bs × Int × Bool)), True := fun _ _ _ => trivial
    have hT : ∀ (c : Bool) (i : Nat) (k : Option (Bs × Bool)), i ≤ w.length → cz c (gA (i : Int) w.length) k = k := fun c i k hi => by
      rw [show gA (i : Int) w.length = true from decide_eq_true (by omega)]; cases c <;> rfl
    have hI : ∀ (c : Bool) (k : Option (Bs × Bool)), cz c (okI ((w.length - 2 : Nat) : Int)) k = k := fun c k => by
      rw [show okI ((w.length - 2 : Nat) : Int) = true from decide_eq_true (by omega)]; cases c <;> rfl
    rw [e2, e10, hT _ 10 _ (by omega), aM, kw, hI, hT _ _ _ (by omega), aM, eE, decide_eq_false (show ¬ (w.length : Int) < 12 by omega), Bool.false_or]
    by_cases h1 : w.take 10 = ahead
    · have h1' : decide (w.take 10 = ([61, 63, 117, 116, 102, 45, 56, 63, 66, 63] : Bs)) = true := decide_eq_true h1
      rw [h1', ntr, Bool.false_or]
      by_cases h2 : w.drop (w.length - 2) = behind
      · have h2' : decide (w.drop (w.length - 2) = ([63, 61] : Bs)) = true := decide_eq_true h2
        rw [h2', ntr, cfl, bl (by omega), kz (by omega), aM, lm]
        have hm : ((w.take (w.length - 2)).drop 10) = mid w := rfl
        have hml : (mid w).length ≤ w.length := by unfold mid; simp; omega
        rw [hm, xo F _ (by omega) (by omega), show dec (mid w) = ((dec (mid w)).1, (dec (mid w)).2) from rfl, bR]
        have : cdB w = decide ((dec (mid w)).2 = 0) := by
          unfold cdB fx
          rw [decide_eq_true h, decide_eq_true h1, decide_eq_true h2]; rfl
        have hdl := wN (mid w)
        exact ⟨(dec (mid w)).1, by rw [this], fun _ => rfl, by omega⟩
      · have h2' : decide (w.drop (w.length - 2) = ([63, 61] : Bs)) = false := decide_eq_false h2
        have : cdB w = false := by
          unfold cdB fx
          rw [decide_eq_false h2]; simp
        rw [h2', nfl, ctr]
        exact ⟨[], by rw [this], (fun h => by rw [this] at h; cases h), by simp⟩
    · have h1' : decide (w.take 10 = ([61, 63, 117, 116, 102, 45, 56, 63, 66, 63] : Bs)) = false := decide_eq_false h1
      have : cdB w = false := by
        unfold cdB fx
        rw [decide_eq_false h1]; simp
      rw [h1', nfl, Bool.true_or, ctr]
      exact ⟨[], by rw [this], (fun h => by rw [this] at h; cases h), by simp⟩
  · have hlt : decide ((w.length : Int) < 12) = true := decide_eq_true (by omega)
    have : cdB w = false := by
      unfold cdB fx
      rw [decide_eq_false h]; rfl
    rw [hlt, ntr, dZ, aM, Bool.true_or, ntr, dZ, dZ, aM, Bool.true_or, ctr]
    exact ⟨[], by rw [this], (fun h => by rw [this] at h; cases h), by simp⟩
noncomputable def oV (ws : List Bs) : Bs := ws.flatMap cdT
noncomputable def cZ (ws : List Bs) : Bs := bif ws.all cdB then oV ws else Str.join [32] ws
theorem wQ (w : Bs) : (cdT w).length ≤ w.length := by
  have h1 := wN (mid w)
  have h2 : (mid w).length ≤ w.length := by unfold mid; simp; omega
  unfold cdT; omega
theorem ol (w : Bs) (ws : List Bs) : oV (w :: ws) = cdT w ++ oV ws := by unfold oV; rw [List.flatMap_cons]
theorem ue : ∀ ws : List Bs, (oV ws).length ≤ Str.total ws
  | [] => by simp [oV, Str.total]
  | w :: ws => by
    have := ue ws
    have := wQ w
    simp [oV, Str.total] at *; omega
theorem ov (ws : List Bs) : (cZ ws).length ≤ ws.length + Str.total ws := by
  unfold cZ
  cases ws.all cdB with
  | true => have := ue ws; rw [ctr]; omega
  | false => have := Str.join_length [32] ws; rw [cfl]; simpa using this
theorem um (F : Nat) (ws : List Bs) (hF : 400100 < F) (hl : ws.length + Str.total ws ≤ 300000) : ∀ (n i : Nat) (out : Bs), ws.length - i < n → i ≤ ws.length → out.length + Str.total (ws.drop i) ≤ 300000 →
    ie F ws n ((i : Int), out) = some (bif (ws.drop i).all cdB then out ++ oV (ws.drop i) else Str.join [32] ws) := by
  intro n
  induction n with
  | zero => intro i out h; omega
  | succ n ih =>
    intro i out hn hi ho;show ig F ws (ie F ws n) (i : Int) out = _
    unfold ig ic
    by_cases h : i < ws.length
    · have hd : ws.drop i = ws[i] :: ws.drop (i + 1) := ar h
      have ht := Str.total_drop ws i h
      obtain ⟨d, c1, c2⟩ := coded_eq F ws[i] (by omega) (by omega)
      rw [bT (by omega), bJ (by omega), aM, bP h, c1, bR, hd, List.all_cons]
      cases hc : cdB ws[i] with
      | false => rw [nfl, ctr, grd_Join (by simp; omega), aM, fw, cfl]
      | true =>
        have hdl := wQ ws[i]
        rw [ntr, cfl, ef, c2 hc, grd_W (by omega), aM, bl (by omega), bg, ih (i + 1) _ (by omega) (by omega) (by simp; omega)]
        rw [ol, List.append_assoc]
    · have hd : ws.drop i = [] := aE (by omega)
      rw [bF (by omega), grd_W (by simp; omega), hd]
      simp [oV]
theorem tJ (F : Nat) (ws : List Bs) (hF : 400100 < F) (hl : ws.length + Str.total ws ≤ 300000) : lT F ws = some (cZ ws) := by
  have := um F ws hF hl F 0 [] (by omega) (by omega) (by simp; omega)
  rw [List.drop_zero, List.nil_append] at this
  exact this
def jn (i : Nat) (out : Bs) (r : List Bs) : Bs := if i = 0 then Str.join [32] r else out ++ Str.rest [32] r
theorem sO (F : Nat) (ws : List Bs) (hF : 400400 < F) (hl : ws.length + Str.total ws ≤ 300000) : ∀ (n i : Nat) (j c : Bs) (al : Bool), ws.length - i < n → i ≤ ws.length → j.length + Str.total (ws.drop i) + (ws.length - i) ≤ 800000 → c.length + Str.total (ws.drop i) ≤ 800000 → (i = 0 → j = []) →
    ∃ e, dk F ws n (j, c, al, (i : Int)) = some (bif al && (ws.drop i).all cdB then e else jn i j (ws.drop i)) ∧ ((al && (ws.drop i).all cdB) = true → e = c ++ oV (ws.drop i)) := by
  intro n
  induction n with
  | zero => intro i j c al h; omega
  | succ n ih =>
    intro i j c al hn hi hj hc h0;show ∃ e, fD F ws (dk F ws n) j c al (i : Int) = _ ∧ _
    unfold fD el fC
    by_cases h : i < ws.length
    · have hd : ws.drop i = ws[i] :: ws.drop (i + 1) := ar h
      have ht := Str.total_drop ws i h
      have hmt := od (List.getElem_mem h)
      obtain ⟨d, c1, c2, c3⟩ := xi F ws[i] (by omega) (by omega)
      rw [bT (by omega), bJ (by omega), aM, bP h, c1, bR, bc (by omega), aM, hd, List.all_cons]
      have key : ∀ j' : Bs, j' = (if i = 0 then ws[i] else j ++ [32] ++ ws[i]) → ∃ e, dk F ws n (j', c ++ d, al && cdB ws[i], ((i + 1 : Nat) : Int)) = some (bif al && (cdB ws[i] && (ws.drop (i + 1)).all cdB) then e else jn i j (ws[i] :: ws.drop (i + 1))) ∧ ((al && (cdB ws[i] && (ws.drop (i + 1)).all cdB)) = true → e = c ++ oV (ws[i] :: ws.drop (i + 1))) := by
        intro j' hj'
        have hl' : j'.length ≤ j.length + 1 + ws[i].length := by rw [hj']; split <;> simp <;> omega
        obtain ⟨e, e1, e2⟩ := ih (i + 1) j' (c ++ d) (al && cdB ws[i]) (by omega) (by omega) (by omega) (by simp; omega) (fun h => by omega);refine ⟨e, ?_, ?_⟩
        · rw [e1, Bool.and_assoc]
          congr 2
          unfold jn
          rw [if_neg (by omega), hj']
          by_cases hz : i = 0
          · rw [if_pos hz, if_pos hz]; rfl
          · rw [if_neg hz, if_neg hz]; simp [Str.rest]
        · intro hh
          rw [← Bool.and_assoc] at hh
          have h3 := e2 hh
          have h4 : cdB ws[i] = true := by
            simp only [Bool.and_eq_true] at hh; exact hh.1.2
          rw [h3, c2 h4, ol, List.append_assoc]
      by_cases hz : i = 0
      · have hj0 := h0 hz
        obtain ⟨e, e1, e2⟩ := key ws[i] (by rw [if_pos hz]);refine ⟨e, ?_, e2⟩
        rw [bF (by omega), bJ (by omega), aM, hj0, List.nil_append, bc (by simp; omega), aM, bl (by omega), bg]
        rw [hj0] at e1
        exact e1
      · obtain ⟨e, e1, e2⟩ := key (j ++ [32] ++ ws[i]) (by rw [if_neg hz])
        refine ⟨e, ?_, e2⟩
        rw [bT (by omega), bc (by simp; omega), aM, bJ (by omega), aM, bc (by simp; omega), aM, bl (by omega), bg]
        exact e1
    · have hd : ws.drop i = [] := aE (by omega)
      rw [bF (by omega), hd]
      refine ⟨c, ?_, fun _ => by simp [oV]⟩
      have hjn : jn i j [] = j := by
        unfold jn
        by_cases hz : i = 0
        · rw [if_pos hz, h0 hz]; rfl
        · rw [if_neg hz]; simp [Str.rest]
      rw [hjn]
      cases al <;> rfl
theorem wY (F : Nat) (ws : List Bs) (hF : 400400 < F) (hl : ws.length + Str.total ws ≤ 300000) : jW F ws = some (cZ ws) := by
  obtain ⟨e, e1, e2⟩ := sO F ws hF hl F 0 [] [] true (by omega) (by omega) (by simp; omega) (by simp; omega) (fun _ => rfl)
  unfold jW cZ
  rw [List.drop_zero, ef] at e1 e2
  refine Eq.trans e1 ?_
  cases hh : ws.all cdB with
  | false => rfl
  | true => rw [ctr, ctr, e2 hh]; rfl
end Go.Hd
namespace Go.Av.Qp
def dg (n : Nat) : UInt8 := [48, 49, 50, 51, 52, 53, 54, 55, 56, 57, 65, 66, 67, 68, 69, 70].getD n 0
def plainB (c : UInt8) (r : List UInt8) : Bool :=
  if c.toNat = 32 ∨ c.toNat = 9 then (match r with | [] => false | d :: _ => decide (d.toNat ≠ 10)) else decide (33 ≤ c.toNat ∧ c.toNat ≤ 126 ∧ c.toNat ≠ 61)
theorem pC (c : UInt8) : plainB c [] = decide (c.toNat ≠ 32 ∧ c.toNat ≠ 9 ∧ 33 ≤ c.toNat ∧ c.toNat ≤ 126 ∧ c.toNat ≠ 61) := by
  unfold plainB; split
  · rename_i h; rw [eq_comm, decide_eq_false_iff_not]; omega
  · rename_i h; rw [decide_eq_decide]; omega
theorem plainB_cons (c d : UInt8) (r : List UInt8) : plainB c (d :: r) = decide (((c.toNat = 32 ∨ c.toNat = 9) ∧ d.toNat ≠ 10) ∨ (c.toNat ≠ 32 ∧ c.toNat ≠ 9 ∧ 33 ≤ c.toNat ∧ c.toNat ≤ 126 ∧ c.toNat ≠ 61)) := by
  unfold plainB; split
  · rename_i h; simp only; rw [decide_eq_decide]; omega
  · rename_i h; rw [decide_eq_decide]; omega
def code (c : UInt8) (r : List UInt8) : List UInt8 := if plainB c r then [c] else [61, dg (c.toNat / 16), dg (c.toNat % 16)]
def put (line : Nat) (s : List UInt8) : List UInt8 × Nat := if line + s.length > 75 then ([61, 13, 10] ++ s, s.length) else (s, line + s.length)
def enc : Nat → List UInt8 → List UInt8
  | _, [] => []
  | n, c :: r => if c.toNat = 10 then [13, 10] ++ enc 0 r else (put n (code c r)).1 ++ enc (put n (code c r)).2 r
def dig (c : UInt8) : Option Nat :=
  if 48 ≤ c.toNat ∧ c.toNat ≤ 57 then some (c.toNat - 48) else if 65 ≤ c.toNat ∧ c.toNat ≤ 70 then some (c.toNat - 55) else if 97 ≤ c.toNat ∧ c.toNat ≤ 102 then some (c.toNat - 87) else none
def tok : List UInt8 → Option (List UInt8 × Nat)
  | [] => none
  | c :: r =>
    if c.toNat = 13 ∧ (r.map UInt8.toNat).head? = some 10 then some ([10], 2)
    else if c.toNat = 61 then
      (match r with
       | a :: b :: _ => if a.toNat = 13 ∧ b.toNat = 10 then some ([], 3) else (match dig a, dig b with | some x, some y => some ([UInt8.ofNat (16 * x + y)], 3) | _, _ => none)
       | _ => none)
    else if c.toNat = 9 ∨ (32 ≤ c.toNat ∧ c.toNat ≤ 126) then some ([c], 1) else none
def dec : Nat → List UInt8 → Option (List UInt8)
  | _, [] => some []
  | 0, _ :: _ => none
  | k + 1, b => match tok b with
    | none => none
    | some (x, n) => (dec k (b.drop n)).map (x ++ ·)
theorem code_length (c : UInt8) (r : List UInt8) : (code c r).length ≤ 3 := by unfold code; split <;> simp
theorem put_bounds (n : Nat) (s : List UInt8) (hn : n ≤ 75) (hs : s.length ≤ 3) : (put n s).2 ≤ 75 ∧ (put n s).1.length ≤ 6 := by
  unfold put; split
  · simp; omega
  · simp; omega
theorem enc_step (n : Nat) (b : List UInt8) (i : Nat) (h : i < b.length) : enc n (b.drop i) =
    if b[i].toNat = 10 then [13, 10] ++ enc 0 (b.drop (i + 1)) else (put n (code b[i] (b.drop (i + 1)))).1 ++ enc (put n (code b[i] (b.drop (i + 1)))).2 (b.drop (i + 1)) := by
  rw [ar h, enc]
theorem tok_pos {b x : List UInt8} {n : Nat} (h : tok b = some (x, n)) : 1 ≤ n ∧ n ≤ b.length ∧ x.length ≤ 1 := by
  unfold tok at h
  cases b with
  | nil => cases h
  | cons c r =>
    simp only at h
    split at h
    · rename_i h1
      cases h
      have : r ≠ [] := by intro e; subst e; simp at h1
      have := List.length_pos_iff.2 this
      simp; omega
    · split at h
      · split at h
        · rename_i a b' r'
          split at h
          · cases h; simp
          · split at h
            · cases h; simp
            · cases h
        · cases h
      · split at h
        · cases h; simp
        · cases h
def decode (b : List UInt8) : Option (List UInt8) := dec b.length b
theorem dec_more : ∀ (k : Nat) (b : List UInt8), b.length ≤ k → dec k b = dec b.length b := by
  intro k
  induction k using Nat.strongRecOn with
  | _ k ih =>
    intro b hb
    cases b with
    | nil => cases k <;> rfl
    | cons c r =>
      obtain ⟨k, rfl⟩ : ∃ m, k = m + 1 := ⟨k - 1, by simp at hb; omega⟩
      simp only [dec, List.length_cons]
      cases ht : tok (c :: r) with
      | none => rfl
      | some p =>
        obtain ⟨x, n⟩ := p;obtain ⟨h1, h2, _⟩ := tok_pos ht
        simp only
        simp at hb h2
        have hl : ((c :: r).drop n).length ≤ r.length := by simp; omega
        rw [ih k (by omega) _ (by omega)]
        by_cases hk : r.length < k + 1
        · rw [ih r.length hk _ hl]
        · omega
theorem decode_nil : decode [] = some [] := rfl
theorem oE {b : List UInt8} (hb : b ≠ []) : decode b = match tok b with
    | none => none
    | some (x, n) => (decode (b.drop n)).map (x ++ ·) := by
  cases b with
  | nil => exact absurd rfl hb
  | cons c r =>
    unfold decode
    simp only [List.length_cons, dec]
    cases ht : tok (c :: r) with
    | none => rfl
    | some p =>
      obtain ⟨x, n⟩ := p;obtain ⟨h1, h2, _⟩ := tok_pos ht
      simp only
      simp at h2
      rw [dec_more r.length _ (by simp; omega)]
theorem nat10 {c : UInt8} : c = 10 ↔ c.toNat = 10 := ⟨fun h => by rw [h]; rfl, fun h => UInt8.toNat_inj.1 h⟩
theorem nat13 {c : UInt8} : c = 13 ↔ c.toNat = 13 := ⟨fun h => by rw [h]; rfl, fun h => UInt8.toNat_inj.1 h⟩
theorem nat61 {c : UInt8} : c = 61 ↔ c.toNat = 61 := ⟨fun h => by rw [h]; rfl, fun h => UInt8.toNat_inj.1 h⟩
theorem tok_crlf {r : List UInt8} (h : (decide ([13, 10].length ≤ r.length) && decide (List.take [13, 10].length r = [13, 10])) = true) : tok r = some ([10], 2) := by
  match r with
  | [] => simp at h
  | [a] => simp at h
  | a :: b :: s =>
    simp at h
    obtain ⟨rfl, rfl⟩ := h
    rfl
theorem tok_soft {r : List UInt8} (h : (decide ([61, 13, 10].length ≤ r.length) && decide (List.take [61, 13, 10].length r = [61, 13, 10])) = true) : tok r = some ([], 3) := by
  match r with
  | [] => simp at h
  | [a] => simp at h
  | [a, b] => simp at h
  | a :: b :: c :: s =>
    simp at h
    obtain ⟨rfl, rfl, rfl⟩ := h
    rfl
theorem tok_hex {r : List UInt8} (h0 : 0 < r.length) (h1 : 1 < r.length) (h2 : 2 < r.length) (h3 : (decide ([61, 13, 10].length ≤ r.length) && decide (List.take [61, 13, 10].length r = [61, 13, 10])) = false) (h5 : r[0].toNat = 61)
    (h : ((dig r[1]).isSome && (dig r[2]).isSome) = true) : tok r = some ([UInt8.ofNat (16 * (dig r[1]).getD 0 + (dig r[2]).getD 0)], 3) := by
  match r with
  | [] => simp at h0
  | [a] => simp at h1
  | [a, b] => simp at h2
  | a :: b :: c :: s =>
    simp only [List.getElem_cons_zero, List.getElem_cons_succ] at h h5 ⊢
    simp [nat13, nat10, nat61] at h3
    have h6 : ¬(b.toNat = 13 ∧ c.toNat = 10) := fun e => h3 h5 e.1 e.2
    cases hb : dig b with
    | none => rw [hb] at h; simp at h
    | some x =>
      cases hc : dig c with
      | none => rw [hc] at h; simp at h
      | some y => simp only [tok]; rw [if_neg (by omega), if_pos h5, if_neg h6, hb, hc]; rfl
theorem tok_nohex {r : List UInt8} (h0 : 0 < r.length) (h1 : 1 < r.length) (h2 : 2 < r.length) (h3 : (decide ([61, 13, 10].length ≤ r.length) && decide (List.take [61, 13, 10].length r = [61, 13, 10])) = false) (h5 : r[0].toNat = 61)
    (h : ((dig r[1]).isSome && (dig r[2]).isSome) = false) : tok r = none := by
  match r with
  | [] => simp at h0
  | [a] => simp at h1
  | [a, b] => simp at h2
  | a :: b :: c :: s =>
    simp only [List.getElem_cons_zero, List.getElem_cons_succ] at h h5 ⊢
    simp [nat13, nat10, nat61] at h3
    have h6 : ¬(b.toNat = 13 ∧ c.toNat = 10) := fun e => h3 h5 e.1 e.2
    simp only [tok]; rw [if_neg (by omega), if_pos h5, if_neg h6]
    cases hb : dig b with
    | none => rfl
    | some x =>
      cases hc : dig c with
      | none => rfl
      | some y => rw [hb, hc] at h; simp at h
theorem tok_plain {r : List UInt8} (h0 : 0 < r.length) (h11 : r[0].toNat ≠ 61 ∧ (r[0].toNat = 9 ∨ 32 ≤ r[0].toNat ∧ r[0].toNat ≤ 126)) : tok r = some ([r[0]], 1) := by
  match r with
  | [] => simp at h0
  | a :: s =>
    simp only [List.getElem_cons_zero] at h11 ⊢
    simp only [tok]; rw [if_neg (by omega), if_neg h11.1, if_pos h11.2]
theorem tok_other {r : List UInt8} (h0 : 0 < r.length) (h2 : (decide ([13, 10].length ≤ r.length) && decide (List.take [13, 10].length r = [13, 10])) = false) (h5 : ¬(r[0].toNat = 61 ∧ 2 < r.length))
    (h11 : ¬(r[0].toNat ≠ 61 ∧ (r[0].toNat = 9 ∨ 32 ≤ r[0].toNat ∧ r[0].toNat ≤ 126))) : tok r = none := by
  match r with
  | [] => simp at h0
  | a :: s =>
    simp only [List.getElem_cons_zero] at h11 h5
    have h6 : ¬(a.toNat = 13 ∧ (s.map UInt8.toNat).head? = some 10) := by
      rintro ⟨e1, e2⟩
      cases s with
      | nil => simp at e2
      | cons b s => simp at e2; simp [nat13, nat10] at h2; exact h2 e1 e2
    simp only [tok]; rw [if_neg h6]
    by_cases h7 : a.toNat = 61
    · rw [if_pos h7]
      match s with
      | [] => rfl
      | [b] => rfl
      | b :: c :: s => simp [h7] at h5
    · rw [if_neg h7, if_neg (fun h => h11 ⟨h7, h⟩)]
theorem decode_some {b x : List UInt8} {n : Nat} (h0 : 0 < b.length) (h : tok b = some (x, n)) : decode b = (decode (b.drop n)).map (x ++ ·) := by
  rw [oE (by intro e; subst e; simp at h0), h]
theorem decode_none {b : List UInt8} (h0 : 0 < b.length) (h : tok b = none) : decode b = none := by
  rw [oE (by intro e; subst e; simp at h0), h]
def dgI (c : UInt8) : Int := match dig c with | some i => (i : Int) | none => -1
theorem plainB_in (c : UInt8) (b : List UInt8) (k : Nat) (h : k < b.length) : plainB c (b.drop k) = decide (((c.toNat = 32 ∨ c.toNat = 9) ∧ b[k].toNat ≠ 10) ∨ (c.toNat ≠ 32 ∧ c.toNat ≠ 9 ∧ 33 ≤ c.toNat ∧ c.toNat ≤ 126 ∧ c.toNat ≠ 61)) := by
  rw [ar h, plainB_cons]
theorem plainB_out (c : UInt8) (b : List UInt8) (k : Nat) (h : ¬ k < b.length) : plainB c (b.drop k) = decide (c.toNat ≠ 32 ∧ c.toNat ≠ 9 ∧ 33 ≤ c.toNat ∧ c.toNat ≤ 126 ∧ c.toNat ≠ 61) := by
  rw [aE (by omega), pC]
theorem plainB_other (c : UInt8) (r : List UInt8) (h : ¬ (c.toNat = 32 ∨ c.toNat = 9)) : plainB c r = decide (33 ≤ c.toNat ∧ c.toNat ≤ 126 ∧ c.toNat ≠ 61) := by
  unfold plainB; rw [if_neg h]
def nxt (b : List UInt8) (k : Nat) : Nat := if h : k < b.length then b[k].toNat else 256
theorem nxt_in (b : List UInt8) (k : Nat) (h : k < b.length) : nxt b k = b[k].toNat := dif_pos h
theorem nxt_out (b : List UInt8) (k : Nat) (h : ¬ k < b.length) : nxt b k = 256 := dif_neg h
theorem hd_nxt (b : List UInt8) (k : Nat) : ((b.drop k).map UInt8.toNat).head? = some 10 ↔ nxt b k = 10 := by
  by_cases h : k < b.length
  · rw [ar h, nxt_in b k h, List.map_cons, List.head?_cons, Option.some.injEq]
  · rw [aE (by omega), nxt_out b k h]; simp
theorem tokd_crlf (b : List UInt8) (i : Nat) (h : i < b.length) (h1 : b[i].toNat = 13 ∧ nxt b (i + 1) = 10) : tok (b.drop i) = some ([10], 2) := by
  rw [ar h]; simp only [tok]; rw [if_pos ⟨h1.1, (hd_nxt b _).2 h1.2⟩]
theorem tokd_plain (b : List UInt8) (i : Nat) (h : i < b.length) (h1 : b[i].toNat ≠ 61) (h2 : b[i].toNat = 9 ∨ (32 ≤ b[i].toNat ∧ b[i].toNat ≤ 126)) : tok (b.drop i) = some ([b[i]], 1) := by
  rw [ar h]; simp only [tok]; rw [if_neg (by omega), if_neg h1, if_pos h2]
theorem tokd_bad (b : List UInt8) (i : Nat) (h : i < b.length) (h0 : ¬(b[i].toNat = 13 ∧ nxt b (i + 1) = 10)) (h1 : b[i].toNat ≠ 61) (h2 : ¬(b[i].toNat = 9 ∨ (32 ≤ b[i].toNat ∧ b[i].toNat ≤ 126))) : tok (b.drop i) = none := by
  rw [ar h]; simp only [tok]; rw [if_neg (fun h => h0 ⟨h.1, (hd_nxt b _).1 h.2⟩), if_neg h1, if_neg h2]
theorem tokd_short (b : List UInt8) (i : Nat) (h : i < b.length) (h1 : b[i].toNat = 61) (h2 : b.length ≤ i + 2) : tok (b.drop i) = none := by
  rw [ar h]; simp only [tok]; rw [if_neg (by omega), if_pos h1]
  have : (b.drop (i + 1)).length ≤ 1 := by simp; omega
  match hb : b.drop (i + 1) with
  | [] => rfl
  | [x] => rfl
  | x :: y :: r => rw [hb] at this; simp at this
theorem drop3 (b : List UInt8) (i : Nat) (h : i + 2 < b.length) : b.drop i = b[i] :: b[i + 1] :: b[i + 2] :: b.drop (i + 3) := by
  rw [ar (by omega : i < b.length), ar (by omega : i + 1 < b.length), ar (by omega : i + 1 + 1 < b.length)]
theorem tokd_soft (b : List UInt8) (i : Nat) (h : i + 2 < b.length) (h1 : b[i].toNat = 61) (h2 : b[i + 1].toNat = 13 ∧ b[i + 2].toNat = 10) : tok (b.drop i) = some ([], 3) := by
  rw [drop3 b i h]; simp only [tok]; rw [if_neg (by omega), if_pos h1, if_pos h2]
theorem tokd_hex (b : List UInt8) (i : Nat) (h : i + 2 < b.length) (h1 : b[i].toNat = 61) (h2 : ¬(b[i + 1].toNat = 13 ∧ b[i + 2].toNat = 10)) (hx : (dig b[i + 1]).isSome = true) (hy : (dig b[i + 2]).isSome = true) :
    tok (b.drop i) = some ([UInt8.ofNat (16 * (dig b[i + 1]).getD 0 + (dig b[i + 2]).getD 0)], 3) := by
  rw [drop3 b i h]; simp only [tok]; rw [if_neg (by omega), if_pos h1, if_neg h2]
  obtain ⟨x, ex⟩ := Option.isSome_iff_exists.1 hx;obtain ⟨y, ey⟩ := Option.isSome_iff_exists.1 hy
  rw [ex, ey]; rfl
theorem tokd_nohex (b : List UInt8) (i : Nat) (h : i + 2 < b.length) (h1 : b[i].toNat = 61) (h2 : ¬(b[i + 1].toNat = 13 ∧ b[i + 2].toNat = 10)) (hx : (dig b[i + 1]).isSome = false ∨ (dig b[i + 2]).isSome = false) : tok (b.drop i) = none := by
  rw [drop3 b i h]; simp only [tok]; rw [if_neg (by omega), if_pos h1, if_neg h2]
  cases ex : dig b[i + 1] with
  | none => rfl
  | some x =>
    cases ey : dig b[i + 2] with
    | none => rfl
    | some y => rw [ex, ey] at hx; simp at hx
theorem put_long (n : Nat) (s : List UInt8) (h : 75 < n + s.length) : put n s = ([61, 13, 10] ++ s, s.length) := if_pos h
theorem put_short (n : Nat) (s : List UInt8) (h : ¬ 75 < n + s.length) : put n s = (s, n + s.length) := if_neg h
end Go.Av.Qp
namespace Go.Av.Qp
theorem up (b : List UInt8) : decode ([61, 13, 10] ++ b) = decode b := by
  rw [decode_some (x := []) (n := 3) (by simp) (by rfl)]
  simp
theorem dig_dg : ∀ n : Nat, n < 16 → dig (dg n) = some n ∧ (dg n).toNat ≠ 13 ∧ (dg n).toNat ≠ 10 ∧ 48 ≤ (dg n).toNat ∧ (dg n).toNat ≤ 70 := by decide +kernel
theorem dg_byte : ∀ n : Nat, n < 256 → UInt8.ofNat (16 * (n / 16) + n % 16) = UInt8.ofNat n := by decide +kernel
theorem code_cases (c : UInt8) (r : List UInt8) : (plainB c r = true ∧ code c r = [c] ∧ c.toNat ≠ 61 ∧ c.toNat ≠ 13 ∧ c.toNat ≠ 10 ∧ (c.toNat = 9 ∨ (32 ≤ c.toNat ∧ c.toNat ≤ 126))) ∨ code c r = [61, dg (c.toNat / 16), dg (c.toNat % 16)] := by
  unfold code
  by_cases h : plainB c r = true
  · left
    rw [if_pos h]
    refine ⟨h, rfl, ?_⟩
    cases r with
    | nil => rw [pC] at h; simp at h; omega
    | cons d r => rw [plainB_cons] at h; simp at h; omega
  · right; rw [if_neg h]
theorem rg (c : UInt8) (r x : List UInt8) : decode (code c r ++ x) = (decode x).map ([c] ++ ·) := by
  rcases code_cases c r with ⟨_, h, h1, h2, h3, h4⟩ | h
  · rw [h, decode_some (x := [c]) (n := 1) (by simp) (by simp only [List.cons_append, tok]; rw [if_neg (by omega), if_neg h1, if_pos h4])]
    rfl
  · rw [h]
    have a1 := dig_dg (c.toNat / 16) (by have := c.toNat_lt; omega)
    have a2 := dig_dg (c.toNat % 16) (by omega)
    have ht : tok ([61, dg (c.toNat / 16), dg (c.toNat % 16)] ++ x) = some ([c], 3) := by
      simp only [List.cons_append, tok]
      have e : (61 : UInt8).toNat = 61 := rfl
      rw [if_neg (by rw [e]; omega), if_pos e, if_neg (by omega), a1.1, a2.1]
      simp only
      rw [dg_byte _ c.toNat_lt, UInt8.ofNat_toNat]
    rw [decode_some (by simp) ht]
    rfl
theorem back : ∀ (b : List UInt8) (n : Nat), decode (enc n b) = some b := by
  intro b
  induction b with
  | nil => intro n; rfl
  | cons c r ih =>
    intro n
    unfold enc
    by_cases h : c.toNat = 10
    · rw [if_pos h, decode_some (x := [10]) (n := 2) (by simp) (by rfl)]
      show (decode (enc 0 r)).map ([10] ++ ·) = _; rw [ih]
      have : c = 10 := nat10.2 h
      rw [this]; rfl
    · rw [if_neg h]
      unfold put
      split
      · simp only [List.append_assoc]
        rw [up, rg, ih]; rfl
      · simp only
        rw [rg, ih]; rfl
def chk : Nat → Nat → List UInt8 → Bool
  | p, _, [] => decide (p ≠ 32 ∧ p ≠ 9)
  | p, n, c :: r =>
    if c.toNat = 13 then decide ((r.map UInt8.toNat).head? = some 10 ∧ p ≠ 32 ∧ p ≠ 9) && chk 13 n r
    else if c.toNat = 10 then decide (p = 13) && chk 10 0 r
    else decide (n + 1 ≤ 76 ∧ (c.toNat = 9 ∨ (32 ≤ c.toNat ∧ c.toNat ≤ 126))) && chk c.toNat (n + 1) r
theorem enc_length : ∀ (b : List UInt8) (n : Nat), (enc n b).length ≤ 6 * b.length := by
  intro b
  induction b with
  | nil => intro n; simp [enc]
  | cons c r ih =>
    intro n
    have hl := code_length c r
    have h1 := ih 0
    unfold enc put
    split
    · simp; omega
    · split
      · have := ih (code c r).length; simp; omega
      · have := ih (n + (code c r).length); simp; omega
theorem qK : ∀ (k : Nat) (b x : List UInt8), b.length ≤ k → decode b = some x → x.length ≤ b.length := by
  intro k
  induction k with
  | zero =>
    intro b x hb h
    have : b = [] := List.length_eq_zero_iff.1 (by omega)
    subst this
    rw [decode_nil] at h; cases h; simp
  | succ k ih =>
    intro b x hb h
    by_cases h0 : 0 < b.length
    · cases ht : tok b with
      | none => rw [decode_none h0 ht] at h; cases h
      | some p =>
        obtain ⟨y, n⟩ := p
        rw [decode_some h0 ht] at h
        obtain ⟨h1, h2, h3⟩ := tok_pos ht
        cases hd : decode (b.drop n) with
        | none => rw [hd] at h; cases h
        | some z =>
          rw [hd] at h; cases h
          have := ih (b.drop n) z (by simp; omega) hd
          simp at this ⊢; omega
    · have : b = [] := List.length_eq_zero_iff.1 (by omega)
      subst this
      rw [decode_nil] at h; cases h; simp
theorem decode_len (b : List UInt8) : ((decode b).getD []).length ≤ b.length := by
  cases h : decode b with
  | none => simp
  | some x => exact qK _ b x (Nat.le_refl _) h
end Go.Av.Qp
namespace Go.Pt
open Go.Pv Go.Av
open Go.Hd (fw ef nfl ntr cfl ctr bq cR Bs hp_take)
theorem fo (x : Bool) : (false || x) = x := Eq.symm (Eq.symm rfl)
theorem pl_nil (c : UInt8) (x : Bool) : ((((((decide (c = 32)) || (decide (c = 9))) && false)) && x) || (((decide (32 < (c.toNat : Int))) && (decide ((c.toNat : Int) < 127))) && (!decide (c = 61)))) = Qp.plainB c [] := by
  have := cR (fun c => (((((((decide (c = 32)) || (decide (c = 9))) && false)) && true) || (((decide (32 < (c.toNat : Int))) && (decide ((c.toNat : Int) < 127))) && (!decide (c = 61)))) == Qp.plainB c []) && ((((((decide (c = 32)) || (decide (c = 9))) && false)) && false) || (((decide (32 < (c.toNat : Int))) && (decide ((c.toNat : Int) < 127))) && (!decide (c = 61)))) == Qp.plainB c []) (by decide +kernel) c
  rw [Bool.and_eq_true, beq_iff_eq, beq_iff_eq] at this
  cases x
  · exact this.2
  · exact this.1
theorem pl_ten (c : UInt8) : ((((((decide (c = 32)) || (decide (c = 9))) && true)) && false) || (((decide (32 < (c.toNat : Int))) && (decide ((c.toNat : Int) < 127))) && (!decide (c = 61)))) = Qp.plainB c [10] := by
  have := cR (fun c => ((((((decide (c = 32)) || (decide (c = 9))) && true)) && false) || (((decide (32 < (c.toNat : Int))) && (decide ((c.toNat : Int) < 127))) && (!decide (c = 61)))) == Qp.plainB c [10]) (by decide +kernel) c
  exact eq_of_beq this
theorem pl_one (c : UInt8) : ((((((decide (c = 32)) || (decide (c = 9))) && true)) && true) || (((decide (32 < (c.toNat : Int))) && (decide ((c.toNat : Int) < 127))) && (!decide (c = 61)))) = Qp.plainB c [0] := by
  have := cR (fun c => ((((((decide (c = 32)) || (decide (c = 9))) && true)) && true) || (((decide (32 < (c.toNat : Int))) && (decide ((c.toNat : Int) < 127))) && (!decide (c = 61)))) == Qp.plainB c [0]) (by decide +kernel) c
  exact eq_of_beq this
theorem wz (c d e : UInt8) (r s : Bs) (h : (d.toNat ≠ 10) ↔ (e.toNat ≠ 10)) : Qp.plainB c (d :: r) = Qp.plainB c (e :: s) := by
  rw [Qp.plainB_cons, Qp.plainB_cons]
  exact decide_eq_decide.2 (by rw [h])
theorem hexA (c : UInt8) : bQ ((Go.Av.shr8 c 4).toNat : Int) ([48, 49, 50, 51, 52, 53, 54, 55, 56, 57, 65, 66, 67, 68, 69, 70] : Bs).length = true ∧ at_ ([48, 49, 50, 51, 52, 53, 54, 55, 56, 57, 65, 66, 67, 68, 69, 70] : Bs) ((Go.Av.shr8 c 4).toNat : Int) = Qp.dg (c.toNat / 16) := by
  have := cR (fun c => decide (bQ ((Go.Av.shr8 c 4).toNat : Int) ([48, 49, 50, 51, 52, 53, 54, 55, 56, 57, 65, 66, 67, 68, 69, 70] : Bs).length = true ∧ at_ ([48, 49, 50, 51, 52, 53, 54, 55, 56, 57, 65, 66, 67, 68, 69, 70] : Bs) ((Go.Av.shr8 c 4).toNat : Int) = Qp.dg (c.toNat / 16))) (by decide +kernel) c
  exact of_decide_eq_true this
theorem hexB (c : UInt8) : bQ ((c &&& 15).toNat : Int) ([48, 49, 50, 51, 52, 53, 54, 55, 56, 57, 65, 66, 67, 68, 69, 70] : Bs).length = true ∧ at_ ([48, 49, 50, 51, 52, 53, 54, 55, 56, 57, 65, 66, 67, 68, 69, 70] : Bs) ((c &&& 15).toNat : Int) = Qp.dg (c.toNat % 16) := by
  have := cR (fun c => decide (bQ ((c &&& 15).toNat : Int) ([48, 49, 50, 51, 52, 53, 54, 55, 56, 57, 65, 66, 67, 68, 69, 70] : Bs).length = true ∧ at_ ([48, 49, 50, 51, 52, 53, 54, 55, 56, 57, 65, 66, 67, 68, 69, 70] : Bs) ((c &&& 15).toNat : Int) = Qp.dg (c.toNat % 16))) (by decide +kernel) c
  exact of_decide_eq_true this
theorem code_eq (F : Nat) (c : UInt8) (r : Bs) : nE F c r = some (Qp.code c r) := by
  unfold nE
  have ⟨a1, a2⟩ := hexA c
  have ⟨b1, b2⟩ := hexB c
  simp only [a1, a2, b1, b2, oT, aM]
  have fin : ∀ b : Bool, b = Qp.plainB c r → (bif b then some ([c] : Bs) else some ([61, Qp.dg (c.toNat / 16), Qp.dg (c.toNat % 16)] : Bs)) = some (Qp.code c r) := by
    intro b hb;subst hb
    unfold Qp.code
    cases Qp.plainB c r <;> rfl
  cases r with
  | nil =>
    have h0 : decide ((0 : Int) < (([] : Bs).length : Int)) = false := rfl
    rw [h0, Bool.and_false, dZ]
    apply fin
    have := pl_nil c (!decide (at_ ([] : Bs) 0 = 10))
    rw [Bool.and_false] at this
    exact this
  | cons d t =>
    have h0 : decide ((0 : Int) < ((d :: t).length : Int)) = true := decide_eq_true (by simp)
    have hA : ∀ (b : Bool) (k : Option Bs), cz b (bQ 0 (d :: t).length) k = k := fun b k => by
      rw [show bQ 0 (d :: t).length = true from decide_eq_true (by simp)]; cases b <;> rfl
    have h1 : at_ (d :: t) 0 = d := rfl
    rw [h0, hA, h1]
    apply fin
    by_cases hd : d = 10
    · subst hd
      have := pl_ten c
      rw [wz c 10 10 t [] Iff.rfl, ← this]; rfl
    · have hd2 : d.toNat ≠ 10 := fun h => hd (UInt8.toNat_inj.1 h)
      have := pl_one c
      rw [wz c d 0 t [] ⟨fun _ => by decide, fun _ => hd2⟩, ← this, decide_eq_false hd]; rfl
theorem put_eq (F : Nat) (o s : Bs) (n : Nat) (hn : n ≤ 75) (hs : s.length ≤ 3) (ho : o.length ≤ 10000000000) : qa F o (n : Int) s = some (o ++ (Qp.put n s).1, ((Qp.put n s).2 : Int)) := by
  unfold qa kD
  by_cases h : 75 < n + s.length
  · rw [Qp.put_long n s h, bl (by omega), bT (by omega), bc (by simp; omega), aM, bc (by simp; omega), aM, bl (by omega)]
    simp
  · rw [Qp.put_short n s h, bl (by omega), bF (by omega), bc (by omega), aM, bl (by omega)]
    simp
theorem enc_loop (F : Nat) (b : Bs) (hb : b.length ≤ 1000000) : ∀ (m i : Nat) (o : Bs) (n : Nat), b.length - i < m → i ≤ b.length → n ≤ 75 → o.length ≤ 6 * i →
    eM F b m ((i : Int), o, (n : Int)) = some (o ++ Qp.enc n (b.drop i)) := by
  intro m
  induction m with
  | zero => intro i o n h; omega
  | succ m ih =>
    intro i o n hm hi hn ho;show jg F b (eM F b m) (i : Int) o (n : Int) = _
    unfold jg gk jf
    by_cases h : i < b.length
    · rw [bT (by omega), bJ (by omega), aM, bP h, Qp.enc_step n b i h]
      by_cases hc : b[i] = 10
      · rw [bT hc, if_pos (by rw [hc]; rfl), bc (by simp; omega), aM, bl (by omega), bg, show (0 : Int) = ((0 : Nat) : Int) from rfl, ih (i + 1) _ 0 (by omega) (by omega) (by omega) (by simp; omega), List.append_assoc]
      · have hc2 : ¬ b[i].toNat = 10 := fun h => hc (UInt8.toNat_inj.1 h)
        have hcl := Qp.code_length b[i] (b.drop (i + 1))
        have hpb := Qp.put_bounds n (Qp.code b[i] (b.drop (i + 1))) hn hcl
        rw [bF hc, if_neg hc2, bl (by omega), dI (by omega), aM, bg, eE, code_eq, bC, put_eq F o _ n hn hcl (by omega), bR, bl (by omega), ih (i + 1) _ _ (by omega) (by omega) hpb.1 (by simp; omega), List.append_assoc]
    · rw [bF (by omega), aE (by omega)]
      simp [Qp.enc]
theorem xP (F : Nat) (b : Bs) (hb : b.length ≤ 1000000) (hF : b.length < F) : mM F b = some (Qp.enc 0 b) := by
  have := enc_loop F b hb F 0 [] 0 (by omega) (by omega) (by omega) (by simp)
  rw [List.drop_zero, List.nil_append] at this
  exact this
theorem Hex_eq (F : Nat) (c : UInt8) : lE F c = some [Qp.dg (c.toNat / 16), Qp.dg (c.toNat % 16)] := by
  have := cR (fun c => decide (lE 0 c = some [Qp.dg (c.toNat / 16), Qp.dg (c.toNat % 16)])) (by decide +kernel) c
  exact of_decide_eq_true this
theorem xb (F : Nat) (b : Bs) (i : Nat) (hb : b.length ≤ 1000000) (h : i < b.length) : ka F b (i : Int) = some (Qp.plainB b[i] (b.drop (i + 1))) := by
  unfold ka
  rw [bJ (by omega), aM, bP h]
  have e1 : (decide (b[i] = 32) || decide (b[i] = 9)) = decide (b[i].toNat = 32 ∨ b[i].toNat = 9) := by
    have := cR (fun c => ((decide (c = 32)) || (decide (c = 9))) == decide (c.toNat = 32 ∨ c.toNat = 9)) (by decide +kernel) b[i]
    exact eq_of_beq this
  rw [e1]
  by_cases hc : b[i].toNat = 32 ∨ b[i].toNat = 9
  · rw [bT hc, bl (by omega)]
    by_cases hl : i + 1 < b.length
    · have hten : decide (b[i + 1] = 10) = decide (b[i + 1].toNat = 10) := decide_eq_decide.2 ⟨fun h => by rw [h]; rfl, fun h => UInt8.toNat_inj.1 h⟩
      rw [decide_eq_true (show (i : Int) + 1 < b.length by omega), lx, bl (by omega), lx, bJ (by omega), aM, bg, bP hl, ef, hten, Qp.plainB_in _ b (i + 1) hl]
      by_cases h10 : b[i + 1].toNat = 10
      · rw [decide_eq_true h10, decide_eq_false (by omega)]; rfl
      · rw [decide_eq_false h10, decide_eq_true (by omega)]; rfl
    · rw [decide_eq_false (show ¬ (i : Int) + 1 < b.length by omega), dZ, dZ, aM, fw, Qp.plainB_out _ b (i + 1) hl, decide_eq_false (by omega)]
  · rw [bF hc, Qp.plainB_other _ _ hc]
    congr 1
    have := cR (fun c => (((decide (33 ≤ (c.toNat : Int))) && (decide ((c.toNat : Int) ≤ 126))) && (!decide (c = 61))) == decide (33 ≤ c.toNat ∧ c.toNat ≤ 126 ∧ c.toNat ≠ 61)) (by decide +kernel) b[i]
    exact eq_of_beq this
theorem j4_eq (o s : Bs) (n i : Nat) (rec9 : (Bs × Int × Int) → Option Bs) (hn : n ≤ 75) (hs : s.length ≤ 3) (ho : o.length ≤ 10000000000) (hi : i ≤ 1000000) :
    cV o (n : Int) (i : Int) rec9 s = rec9 (o ++ (Qp.put n s).1, ((Qp.put n s).2 : Int), ((i + 1 : Nat) : Int)) := by
  unfold cV dL dq
  by_cases h : 75 < n + s.length
  · rw [Qp.put_long n s h, bl (by omega), bT (by omega), bc (by simp; omega), aM, bc (by simp; omega), aM, bl (by omega), bl (by omega), bg]
    simp
  · rw [Qp.put_short n s h, bl (by omega), bF (by omega), bc (by omega), aM, bl (by omega), bl (by omega), bg]
    simp
theorem xc (F : Nat) (b : Bs) (hb : b.length ≤ 1000000) : ∀ (m i : Nat) (o : Bs) (n : Nat), b.length - i < m → i ≤ b.length → n ≤ 75 → o.length ≤ 6 * i →
    ci F b m (o, (n : Int), (i : Int)) = some (o ++ Qp.enc n (b.drop i)) := by
  intro m
  induction m with
  | zero => intro i o n h; omega
  | succ m ih =>
    intro i o n hm hi hn ho;show eV F b (ci F b m) o (n : Int) (i : Int) = _
    unfold eV eU
    by_cases h : i < b.length
    · rw [bT (by omega), bJ (by omega), aM, bP h, Qp.enc_step n b i h]
      by_cases hc : b[i] = 10
      · unfold dq
        rw [bT hc, if_pos (by rw [hc]; rfl), bc (by simp; omega), aM, bl (by omega), bg, show (0 : Int) = ((0 : Nat) : Int) from rfl, ih (i + 1) _ 0 (by omega) (by omega) (by omega) (by simp; omega), List.append_assoc]
      · have hc2 : ¬ b[i].toNat = 10 := fun h => hc (UInt8.toNat_inj.1 h)
        have hcl := Qp.code_length b[i] (b.drop (i + 1))
        have hpb := Qp.put_bounds n (Qp.code b[i] (b.drop (i + 1))) hn hcl
        have key : cV o (n : Int) (i : Int) (ci F b m) (Qp.code b[i] (b.drop (i + 1))) = some (o ++ ((Qp.put n (Qp.code b[i] (b.drop (i + 1)))).1 ++ Qp.enc (Qp.put n (Qp.code b[i] (b.drop (i + 1)))).2 (b.drop (i + 1)))) := by
          rw [j4_eq o _ n i _ hn hcl (by omega) (by omega), ih (i + 1) _ _ (by omega) (by omega) hpb.1 (by simp; omega), List.append_assoc]
        rw [bF hc, if_neg hc2, bJ (by omega), aM, Hex_eq, bC, bc (by simp), aM, xb F b i hb h, bC, ← key]
        cases hp : Qp.plainB b[i] (b.drop (i + 1)) with
        | true =>
          have e : Qp.code b[i] (b.drop (i + 1)) = [b[i]] := by unfold Qp.code; rw [hp]; rfl
          have e1 : sub b (i : Int) ((i : Int) + 1) = [b[i]] := by
            rw [bg, lm, List.take_succ_eq_append_getElem h, List.drop_left' (by simp; omega)]
          rw [ctr, bl (by omega), kz (by omega), aM, e1, e]
        | false =>
          have e : Qp.code b[i] (b.drop (i + 1)) = [61, Qp.dg (b[i].toNat / 16), Qp.dg (b[i].toNat % 16)] := by unfold Qp.code; rw [hp]; rfl
          rw [cfl, e]; rfl
    · rw [bF (by omega), aE (by omega)]
      simp [Qp.enc]
theorem uB (F : Nat) (b : Bs) (hb : b.length ≤ 1000000) (hF : b.length < F) : kr F b = some (Qp.enc 0 b) := by
  have := xc F b hb F 0 [] 0 (by omega) (by omega) (by omega) (by simp)
  rw [List.drop_zero, List.nil_append] at this
  exact this
def qd (c : UInt8) : UInt8 × Bool := match Qp.dig c with
  | some k => (UInt8.ofNat k, true)
  | none => (0, false)
theorem ub (F : Nat) (c : UInt8) : lJ F c = some (qd c) := by
  have := cR (fun c => decide (lJ 0 c = some (qd c))) (by decide +kernel) c
  exact of_decide_eq_true this
theorem sv (c : UInt8) : (Qp.dig c).getD 0 < 16 := by
  have := cR (fun c => decide ((Qp.dig c).getD 0 < 16)) (by decide +kernel) c
  exact of_decide_eq_true this
theorem hexv (x y : Nat) (hx : x < 16) (hy : y < 16) : (Go.Av.shl8 (UInt8.ofNat x) 4 ||| UInt8.ofNat y) = UInt8.ofNat (16 * x + y) := by
  have : ∀ (a b : Fin 16), (Go.Av.shl8 (UInt8.ofNat a.val) 4 ||| UInt8.ofNat b.val) = UInt8.ofNat (16 * a.val + b.val) := by decide +kernel
  exact this ⟨x, hx⟩ ⟨y, hy⟩
def oU (o : Bs) (r : Option Bs) : Bs × Int := match r with
  | some d => (o ++ d, 0)
  | none => ([], 2)
theorem ua (o x : Bs) (r : Option Bs) : oU o (r.map (x ++ ·)) = oU (o ++ x) r := by
  cases r with
  | none => rfl
  | some d => simp [oU]
theorem dec_loop (F : Nat) : ∀ (m : Nat) (r o : Bs), r.length < m → o.length + r.length ≤ 10000000 → dS F m (r, o) = some (oU o (Qp.decode r)) := by
  intro m
  induction m with
  | zero => intro r o h; omega
  | succ m ih =>
    intro r o hm ho;show ji F (dS F m) r o = _
    unfold ji
    by_cases h : 0 < r.length
    · have go : ∀ (x : Bs) (n : Nat), Qp.tok r = some (x, n) → dx r (dS F m) (o ++ x) (n : Int) = some (oU o (Qp.decode r)) := by
        intro x n ht
        have hp := Qp.tok_pos ht
        unfold dx
        rw [dI (by omega), aM, eE, ih _ _ (by simp; omega) (by simp; omega), Qp.decode_some h ht, ua]
      have no : Qp.tok r = none → some (([] : Bs), (2 : Int)) = some (oU o (Qp.decode r)) := by
        intro ht; rw [Qp.decode_none h ht]; rfl
      have h0 : at_ r 0 = r[0] := bP (i := 0) h
      rw [bT (by omega), bJ (by omega), aM, aM, h0]
      cases hc : Go.Lib.hasPrefix r [13, 10] with
      | true =>
        rw [hp_take] at hc
        rw [ctr, bc (by simp; omega), aM]
        exact go [10] 2 (Qp.tok_crlf hc)
      | false =>
        rw [cfl, aM]
        rw [hp_take] at hc
        cases hs : Go.Lib.hasPrefix r [61, 13, 10] with
        | true =>
          rw [hp_take] at hs
          have := go [] 3 (Qp.tok_soft hs)
          rw [List.append_nil] at this
          rw [ctr]
          exact this
        | false =>
          rw [hp_take] at hs
          rw [cfl]
          by_cases h61 : r[0] = 61 ∧ 2 < r.length
          · have e61 : r[0].toNat = 61 := by rw [h61.1]; rfl
            have h1 : at_ r 1 = r[1] := bP (i := 1) (by omega)
            have h2 : at_ r 2 = r[2] := bP (i := 2) (by omega)
            rw [decide_eq_true h61.1, decide_eq_true (show 2 < (r.length : Int) by omega), ef, ctr, bJ (by omega), aM, h1, ub, show qd r[1] = ((qd r[1]).1, (qd r[1]).2) from rfl, bR, bJ (by omega), aM, h2, ub, show qd r[2] = ((qd r[2]).1, (qd r[2]).2) from rfl, bR]
            have hx := sv r[1]
            have hy := sv r[2]
            cases d1 : Qp.dig r[1] with
            | none =>
              have q1 : (qd r[1]).2 = false := by unfold qd; rw [d1]
              rw [q1, nfl, Bool.true_or, ctr]
              refine no (Qp.tok_nohex h (by omega) h61.2 hs e61 (by rw [d1]; rfl))
            | some a =>
              have q1 : qd r[1] = (UInt8.ofNat a, true) := by unfold qd; rw [d1]
              cases d2 : Qp.dig r[2] with
              | none =>
                have q2 : (qd r[2]).2 = false := by unfold qd; rw [d2]
                rw [q2, nfl, Bool.or_true, ctr]
                refine no (Qp.tok_nohex h (by omega) h61.2 hs e61 (by rw [d1, d2]; rfl))
              | some b =>
                have q2 : qd r[2] = (UInt8.ofNat b, true) := by unfold qd; rw [d2]
                rw [d1] at hx
                rw [d2] at hy
                have ht := Qp.tok_hex h (by omega) h61.2 hs e61 (by rw [d1, d2]; rfl)
                rw [d1, d2] at ht
                rw [q1, q2]
                dsimp only
                rw [ntr, fo, cfl, bc (by simp; omega), aM, hexv a b hx hy]
                exact go _ 3 ht
          · have e : ((decide (r[0] = 61)) && (decide (2 < (r.length : Int)))) = false := by
              rw [← Bool.decide_and]; exact decide_eq_false (fun h => h61 ⟨h.1, by omega⟩)
            have hcond : ((!decide (r[0] = 61)) && (((decide ((32 : Int) ≤ (r[0].toNat : Int))) && (decide ((r[0].toNat : Int) < (127 : Int)))) || (decide (r[0] = 9)))) = decide (r[0].toNat ≠ 61 ∧ (r[0].toNat = 9 ∨ 32 ≤ r[0].toNat ∧ r[0].toNat ≤ 126)) := by
              have := cR (fun c => ((!decide (c = 61)) && (((decide ((32 : Int) ≤ (c.toNat : Int))) && (decide ((c.toNat : Int) < (127 : Int)))) || (decide (c = 9)))) == decide (c.toNat ≠ 61 ∧ (c.toNat = 9 ∨ 32 ≤ c.toNat ∧ c.toNat ≤ 126))) (by decide +kernel) r[0]
              exact eq_of_beq this
            rw [e, cfl, hcond]
            by_cases hk : r[0].toNat ≠ 61 ∧ (r[0].toNat = 9 ∨ 32 ≤ r[0].toNat ∧ r[0].toNat ≤ 126)
            · rw [bT hk, bc (by simp; omega), aM]
              exact go _ 1 (Qp.tok_plain h hk)
            · rw [bF hk]
              exact no (Qp.tok_other h hc (fun hh => h61 ⟨UInt8.toNat_inj.1 (by rw [hh.1]; rfl), hh.2⟩) hk)
    · have : r = [] := List.eq_nil_of_length_eq_zero (by omega)
      subst this
      rw [bF (by simp)]
      unfold jh
      rw [Qp.decode_nil]
      simp [oU]
theorem xQ (F : Nat) (b : Bs) (hb : b.length ≤ 1000000) (hF : b.length < F) : mN F b = some (oU [] (Qp.decode b)) := dec_loop F F b [] hF (by simp; omega)
theorem qU (F : Nat) (c : UInt8) : iJ F c = some (Qp.dgI c) := by
  have := cR (fun c => decide (iJ 0 c = some (Qp.dgI c))) (by decide +kernel) c
  exact of_decide_eq_true this
theorem xf (F : Nat) (b : Bs) (hb : b.length ≤ 1000000) : ∀ (m i : Nat) (o : Bs), b.length - i < m → i ≤ b.length → o.length ≤ i → cW F b m (o, (i : Int)) = some (oU o (Qp.decode (b.drop i))) := by
  intro m
  induction m with
  | zero => intro i o h; omega
  | succ m ih =>
    intro i o hm hi ho;show eX F b (cW F b m) o (i : Int) = _
    unfold eX
    by_cases h : i < b.length
    · have hdl : 0 < (b.drop i).length := by simp; omega
      have go : ∀ (x : Bs) (n : Nat), Qp.tok (b.drop i) = some (x, n + 1) → cK (cW F b m) (o ++ x) ((i + n : Nat) : Int) = some (oU o (Qp.decode (b.drop i))) := by
        intro x n ht
        have hp := Qp.tok_pos ht
        rw [List.length_drop] at hp
        unfold cK
        rw [bl (by omega), bg, ih (i + n + 1) _ (by omega) (by omega) (by simp; omega), Qp.decode_some hdl ht, ua, List.drop_drop]
        rfl
      have no : Qp.tok (b.drop i) = none → some (([] : Bs), (2 : Int)) = some (oU o (Qp.decode (b.drop i))) := by
        intro ht; rw [Qp.decode_none hdl ht]; rfl
      have hG : ∀ k : UInt8 → Option (Bs × Int), (cz (decide (b[i] = 13)) (okI ((i : Int) + 1)) <| cz ((decide (b[i] = 13)) && (decide ((i : Int) + 1 < (b.length : Int)))) (okI ((i : Int) + 1)) <| cz ((decide (b[i] = 13)) && (decide ((i : Int) + 1 < (b.length : Int)))) (bQ ((i : Int) + 1) b.length) <| lt (at_ b ((i : Int) + 1)) fun x => k x) = k (at_ b ((i : Int) + 1)) := fun k => by
        rw [show okI ((i : Int) + 1) = true from decide_eq_true (by omega)]
        by_cases hl : i + 1 < b.length
        · rw [show bQ ((i : Int) + 1) b.length = true from decide_eq_true (by omega), aM]
          cases decide (b[i] = 13) <;> cases decide ((i : Int) + 1 < (b.length : Int)) <;> rfl
        · rw [decide_eq_false (show ¬ (i : Int) + 1 < (b.length : Int) by omega), Bool.and_false, dZ, dZ, aM]
          cases decide (b[i] = 13) <;> rfl
      rw [bT (by omega), bJ (by omega), aM, bP h, hG]
      by_cases hcr : b[i].toNat = 13 ∧ Qp.nxt b (i + 1) = 10
      · have hl : i + 1 < b.length := Classical.byContradiction fun hl => by rw [Qp.nxt_out b _ hl] at hcr; omega
        have h13 : b[i] = 13 := UInt8.toNat_inj.1 (by rw [hcr.1]; rfl)
        have h10 : b[i + 1] = 10 := by rw [Qp.nxt_in b _ hl] at hcr; exact UInt8.toNat_inj.1 (by rw [hcr.2]; rfl)
        rw [bg, bP hl, decide_eq_true h13, decide_eq_true h10, decide_eq_true (show ((i + 1 : Nat) : Int) < b.length by omega), ef, ef, ctr, bc (by simp; omega), aM, bl (by omega)]
        exact go [10] 1 (Qp.tokd_crlf b i h hcr)
      · have e : (((decide (b[i] = 13)) && (decide ((i : Int) + 1 < (b.length : Int)))) && (decide (at_ b ((i : Int) + 1) = 10))) = false := by
          rw [← Bool.decide_and, ← Bool.decide_and]
          refine decide_eq_false (fun hh => hcr ?_)
          have hl : i + 1 < b.length := by omega
          rw [bg, bP hl] at hh
          exact ⟨by rw [hh.1.1]; rfl, by rw [Qp.nxt_in b _ hl, hh.2]; rfl⟩
        rw [e, cfl]
        by_cases h61 : b[i] = 61
        · have e61 : b[i].toNat = 61 := by rw [h61]; rfl
          rw [decide_eq_true h61, ntr, cfl, bl (by omega)]
          by_cases hs : b.length ≤ i + 2
          · rw [bT (by omega)]
            exact no (Qp.tokd_short b i h e61 hs)
          · have c2 : (i : Int) + 2 = ((i + 2 : Nat) : Int) := by omega
            have hA2 : ∀ (c : Bool) (k : Option (Bs × Int)), cz c (bQ ((i + 2 : Nat) : Int) b.length) k = k := fun c k => by
              rw [show bQ ((i + 2 : Nat) : Int) b.length = true from decide_eq_true (by omega)]; cases c <;> rfl
            have hI2 : ∀ (c : Bool) (k : Option (Bs × Int)), cz c (okI ((i + 2 : Nat) : Int)) k = k := fun c k => by
              rw [show okI ((i + 2 : Nat) : Int) = true from decide_eq_true (by omega)]; cases c <;> rfl
            rw [bF (by omega), bl (by omega), bg, bJ (by omega), aM, bP (by omega), qU, bC, c2, bl (by omega), bJ (by omega), aM, bP (by omega), qU, bC, bl (by omega), bJ (by omega), aM, hI2, hA2, aM]
            by_cases hsf : b[i + 1].toNat = 13 ∧ b[i + 2].toNat = 10
            · have h13 : b[i + 1] = 13 := UInt8.toNat_inj.1 (by rw [hsf.1]; rfl)
              have h10 : b[i + 2] = 10 := UInt8.toNat_inj.1 (by rw [hsf.2]; rfl)
              rw [decide_eq_true h13, decide_eq_true h10, ef, ctr, bl (by omega)]
              have := go [] 2 (Qp.tokd_soft b i (by omega) e61 hsf)
              rw [List.append_nil] at this
              exact this
            · have e2 : ((decide (b[i + 1] = 13)) && (decide (b[i + 2] = 10))) = false := by
                rw [← Bool.decide_and]
                exact decide_eq_false (fun hh => hsf ⟨by rw [hh.1]; rfl, by rw [hh.2]; rfl⟩)
              rw [e2, cfl]
              have hx := sv b[i + 1]
              have hy := sv b[i + 2]
              unfold Qp.dgI
              cases d1 : Qp.dig b[i + 1] with
              | none =>
                rw [decide_eq_true (show (-1 : Int) < 0 by omega), Bool.true_or, ctr]
                exact no (Qp.tokd_nohex b i (by omega) e61 hsf (.inl (by rw [d1]; rfl)))
              | some x =>
                cases d2 : Qp.dig b[i + 2] with
                | none =>
                  dsimp only
                  rw [decide_eq_true (show (-1 : Int) < 0 by omega), Bool.or_true, ctr]
                  exact no (Qp.tokd_nohex b i (by omega) e61 hsf (.inr (by rw [d2]; rfl)))
                | some y =>
                  dsimp only
                  have ht := Qp.tokd_hex b i (by omega) e61 hsf (by rw [d1]; rfl) (by rw [d2]; rfl)
                  rw [d1] at hx ht
                  rw [d2] at hy ht
                  simp only [Option.getD_some] at hx hy ht
                  have ev : (16 * (x : Int)) + (y : Int) = ((16 * x + y : Nat) : Int) := by omega
                  rw [decide_eq_false (show ¬ (x : Int) < 0 by omega), decide_eq_false (show ¬ (y : Int) < 0 by omega), fo, cfl, bl (by omega), ev, bl (by omega), bc (by simp; omega), aM, bl (by omega)]
                  have et : Go.Av.toB ((16 * x + y : Nat) : Int) = UInt8.ofNat (16 * x + y) := by
                    unfold Go.Av.toB
                    congr 1; omega
                  rw [et]
                  exact go _ 2 ht
        · have e61 : b[i].toNat ≠ 61 := fun hh => h61 (UInt8.toNat_inj.1 (by rw [hh]; rfl))
          have hcond : ((!decide (b[i] = 9)) && ((decide ((b[i].toNat : Int) < (32 : Int))) || (decide ((126 : Int) < (b[i].toNat : Int))))) = decide (¬ (b[i].toNat = 9 ∨ (32 ≤ b[i].toNat ∧ b[i].toNat ≤ 126))) := by
            have := cR (fun c => ((!decide (c = 9)) && ((decide ((c.toNat : Int) < (32 : Int))) || (decide ((126 : Int) < (c.toNat : Int))))) == decide (¬ (c.toNat = 9 ∨ (32 ≤ c.toNat ∧ c.toNat ≤ 126)))) (by decide +kernel) b[i]
            exact eq_of_beq this
          rw [decide_eq_false h61, nfl, ctr, hcond]
          by_cases hk : b[i].toNat = 9 ∨ (32 ≤ b[i].toNat ∧ b[i].toNat ≤ 126)
          · rw [bF (fun hh => hh hk), bc (by simp; omega), aM]
            exact go _ 0 (Qp.tokd_plain b i h e61 hk)
          · rw [bT hk]
            exact no (Qp.tokd_bad b i h hcr e61 hk)
    · have : b.drop i = [] := aE (by omega)
      rw [bF (by omega), this]
      unfold eW
      rw [Qp.decode_nil]
      simp [oU]
theorem uC (F : Nat) (b : Bs) (hb : b.length ≤ 1000000) (hF : b.length < F) : kt F b = some (oU [] (Qp.decode b)) := by
  have := xf F b hb F 0 [] (by omega) (by omega) (by simp)
  rw [List.drop_zero] at this
  exact this
end Go.Pt
namespace Go.Hd
open Go.Pv Go.Av
def jB (c : UInt8) : Bs → Option (Bs × Bs)
  | [] => none
  | b :: r => if b = c then some ([], r) else match jB c r with
    | none => none
    | some (x, y) => some (b :: x, y)
theorem wO (c : UInt8) : ∀ s : Bs, Go.Lib.cut s [c] = match jB c s with
    | none => (s, [], false)
    | some (x, y) => (x, y, true)
  | [] => rfl
  | b :: r => by
    have ih := wO c r
    have hi := mA b c r
    have hge := Go.Lib.index_ge r [c]
    unfold jB
    unfold Go.Lib.cut at ih ⊢
    by_cases h : b = c
    · rw [if_pos h] at hi ⊢
      rw [hi]; rfl
    · rw [if_neg h] at hi ⊢
      by_cases hm : Go.Lib.index r [c] = -1
      · rw [if_pos hm] at hi
        rw [hm, if_neg (by omega)] at ih
        rw [hi, if_neg (by omega)]
        cases hc : jB c r with
        | none => rfl
        | some x => rw [hc] at ih; simp at ih
      · rw [if_neg hm] at hi
        obtain ⟨j, hj⟩ := Int.eq_ofNat_of_zero_le (show 0 ≤ Go.Lib.index r [c] by omega)
        rw [hj, if_pos (by omega), Int.toNat_natCast] at ih
        rw [hi, hj, if_pos (by omega), show ((j : Int) + 1).toNat = j + 1 by omega]
        cases hc : jB c r with
        | none => rw [hc] at ih; simp at ih
        | some x =>
          obtain ⟨x, y⟩ := x
          rw [hc] at ih
          simp only [Prod.mk.injEq] at ih
          show ((b :: r).take (j + 1), (b :: r).drop (j + 1 + 1), true) = (b :: x, y, true)
          rw [List.take_succ_cons, ih.1, List.drop_succ_cons]
          have h2 := ih.2.1
          rw [show ([c] : Bs).length = 1 from rfl] at h2
          rw [h2]
theorem oh {c : UInt8} : ∀ {s x y : Bs}, jB c s = some (x, y) → s = x ++ c :: y
  | [], x, y, h => by cases h
  | b :: r, x, y, h => by
    unfold jB at h
    by_cases hb : b = c
    · rw [if_pos hb] at h; cases h; rw [hb]; rfl
    · rw [if_neg hb] at h
      cases hc : jB c r with
      | none => rw [hc] at h; cases h
      | some z =>
        obtain ⟨p, q⟩ := z
        rw [hc] at h; cases h
        have := oh hc
        rw [this]; rfl
theorem re {c : UInt8} : ∀ {x : Bs} (y : Bs), (∀ b ∈ x, b ≠ c) → jB c (x ++ c :: y) = some (x, y)
  | [], y, h => by show jB c (c :: y) = _; unfold jB; rw [if_pos rfl]
  | b :: x, y, h => by
    show jB c (b :: (x ++ c :: y)) = _
    unfold jB
    rw [if_neg (h b (by simp)), re y (fun z hz => h z (by simp [hz]))]
noncomputable def readOf (s : Bs) : Bs × Bs × Int := match jB 58 s with
  | none => ([], [], 2)
  | some (x, y) => if okLine x (cZ (wf [] y)) = true ∧ cF x (cZ (wf [] y)) = s then (x, cZ (wf [] y), 0) else ([], [], 2)
theorem Read_eq (F : Nat) (s : Bs) (hs : s.length ≤ 250000) (hF : 900000 < F) : lH F s = some (readOf s) := by
  unfold lH readOf
  rw [mq (by omega), aM, wO]
  cases hc : jB 58 s with
  | none =>
    dsimp only
    have e : nG spB [] = [] := rb []
    rw [mq (by simp), aM, e, tJ F [] (by omega) (by simp [Str.total]), bC, sh F s _ (by omega) (by omega) (by omega)]
    generalize (if okLine s (cZ []) = true then (cF s (cZ []), (0 : Int)) else ([], 1)) = r
    obtain ⟨p, q⟩ := r
    rw [bR, aM, nfl, Bool.true_or, Bool.true_or, ctr]
  | some z =>
    obtain ⟨x, y⟩ := z
    have hl := congrArg List.length (oh hc)
    rw [List.length_append, List.length_cons] at hl
    have ht := pO y []
    have hv := ov (wf [] y)
    simp only [List.length_nil] at ht
    dsimp only
    rw [mq (by omega), aM, rb, tJ F _ (by omega) (by omega), bC, sh F x _ (by omega) (by omega) (by omega)]
    by_cases ho : okLine x (cZ (wf [] y)) = true
    · rw [if_pos ho, bR, aM, decide_eq_true rfl, ntr, Bool.false_or]
      by_cases he : cF x (cZ (wf [] y)) = s
      · rw [decide_eq_true he, ntr, Bool.false_or, cfl, if_pos ⟨ho, he⟩]
      · rw [decide_eq_false he, nfl, Bool.false_or, ctr, if_neg (fun h => he h.2)]
    · rw [if_neg ho, bR, aM, decide_eq_false (show ¬ (1 : Int) = 0 by omega), nfl, ntr, Bool.false_or, Bool.true_or, ctr, if_neg (fun h => ho h.1)]
def wd : Bs → Bs → List Bs
  | cur, [] => []
  | cur, c :: r => if spb c = true then (if cur = [] then wd [] r else cur :: wd [] r) else wd (cur ++ [c]) r
theorem wd_wf : ∀ (s cur : Bs), s.getLast? = some 10 → wd cur s = wf cur s
  | [], cur, h => by cases h
  | [c], cur, h => by
    have : c = 10 := by simpa using h
    subst this
    have h10 : spb 10 = true := rfl
    rw [wd, wf, if_pos h10, if_pos h10]; rfl
  | c :: d :: r, cur, h => by
    have h2 : (d :: r).getLast? = some 10 := by simpa using h
    rw [wd, wf, wd_wf (d :: r) [] h2, wd_wf (d :: r) (cur ++ [c]) h2]
theorem pP : ∀ (s cur : Bs), Str.total (wd cur s) + (wd cur s).length ≤ cur.length + s.length + 1
  | [], cur => by simp [wd, Str.total]
  | c :: r, cur => by
    rw [wd]
    split
    · have := pP r []
      split
      · simp at this ⊢; omega
      · simp [Str.total] at this ⊢; omega
    · have := pP r (cur ++ [c])
      simp at this ⊢; omega
theorem sZ (a b : Bs) : (cF a b).getLast? = some 10 := by unfold cF; simp
theorem uq (F : Nat) (s : Bs) (p : Int) (hs : s.length ≤ 250000) : ∀ (n i : Nat) (ws : List Bs) (cur : Bs), s.length - i < n → i ≤ s.length → cur.length ≤ i → ws.length ≤ i →
    dh F s p n (ws, cur, (i : Int)) = fj F s p (ws ++ wd cur (s.drop i)) := by
  intro n
  induction n with
  | zero => intro i ws cur h; omega
  | succ n ih =>
    intro i ws cur hn hi hc hw;show gP F s p (dh F s p n) ws cur (i : Int) = _
    unfold gP fh fi
    by_cases h : i < s.length
    · have hd : s.drop i = s[i] :: s.drop (i + 1) := ar h
      have hA : ∀ (c : Bool) (k : Option (Bs × Bs × Int)), cz c (bQ (i : Int) s.length) k = k := fun c k => by
        rw [show bQ (i : Int) s.length = true from decide_eq_true (by omega)]; cases c <;> rfl
      rw [bT (by omega), bJ (by omega), aM, bP h, hA, aM, hA, aM, hd, wd]
      have e : (((decide (s[i] = 32)) || (decide (s[i] = 13))) || (decide (s[i] = 10))) = spb s[i] := rfl
      rw [e]
      cases hb : spb s[i] with
      | true =>
        rw [ctr, if_pos rfl]
        by_cases h0 : cur = []
        · rw [decide_eq_true h0, ntr, cfl, if_pos h0, bl (by omega), bg, ih (i + 1) ws [] (by omega) (by omega) (by simp) (by omega)]
        · rw [decide_eq_false h0, nfl, ctr, if_neg h0, bc (by simp; omega), aM, bl (by omega), bg, ih (i + 1) _ [] (by omega) (by omega) (by simp) (by simp; omega), List.append_assoc]; rfl
      | false =>
        have e1 : sub s (i : Int) ((i : Int) + 1) = [s[i]] := by
          rw [bg, lm, List.take_succ_eq_append_getElem h, List.drop_left' (by simp; omega)]
        rw [cfl, if_neg (by simp), bl (by omega), kz (by omega), aM, e1, bc (by simp; omega), aM, bl (by omega), bg, ih (i + 1) ws _ (by omega) (by omega) (by simp; omega) (by omega)]
    · rw [bF (by omega), aE (by omega)]
      simp [wd]
theorem xh (F : Nat) (s : Bs) (hs : s.length ≤ 250000) : ∀ (n i : Nat), s.length - i < n → i ≤ s.length →
    gN F s n (i : Int) = match jB 58 (s.drop i) with
      | none => dz F s (s.length : Int)
      | some (x, y) => dz F s ((i + x.length : Nat) : Int) := by
  intro n
  induction n with
  | zero => intro i h; omega
  | succ n ih =>
    intro i hn hi;show gO F s (gN F s n) (i : Int) = _
    unfold gO
    by_cases h : i < s.length
    · have hd : s.drop i = s[i] :: s.drop (i + 1) := ar h
      rw [decide_eq_true (show (i : Int) < s.length by omega), lx, bJ (by omega), aM, bP h, ef, hd]
      unfold jB
      by_cases hc : s[i] = 58
      · rw [decide_eq_true hc, ntr, cfl, if_pos hc]; rfl
      · rw [decide_eq_false hc, nfl, ctr, if_neg hc, bl (by omega), bg, ih (i + 1) (by omega) (by omega)]
        cases jB 58 (s.drop (i + 1)) with
        | none => rfl
        | some z =>
          obtain ⟨x, y⟩ := z
          dsimp only
          rw [List.length_cons]
          congr 2; omega
    · have : i = s.length := by omega
      subst this
      rw [decide_eq_false (show ¬ ((s.length : Nat) : Int) < s.length by omega), dZ, aM, fw, cfl, List.drop_length]; rfl
theorem rRead_eq (F : Nat) (s : Bs) (hs : s.length ≤ 250000) (hF : 900000 < F) : kK F s = some (readOf s) := by
  have hl := xh F s hs F 0 (by omega) (by omega)
  rw [List.drop_zero] at hl
  unfold kK readOf
  refine Eq.trans hl ?_
  cases hc : jB 58 s with
  | none =>
    dsimp only
    unfold dz
    rw [bT (by omega)]
  | some z =>
    obtain ⟨x, y⟩ := z
    dsimp only
    have hcl := oh hc
    have hll := congrArg List.length hcl
    rw [List.length_append, List.length_cons] at hll
    have e1 : s.take x.length = x := by rw [hcl]; simp
    have e2 : s.drop (x.length + 1) = y := by rw [hcl, List.drop_append]; simp
    have ht := pP y []
    have hv := ov (wd [] y)
    simp only [List.length_nil] at ht
    unfold dz
    rw [bF (by omega), bl (by omega), show ((0 + x.length : Nat) : Int) + 1 = ((x.length + 1 : Nat) : Int) by omega, uq F s _ hs F (x.length + 1) [] [] (by omega) (by omega) (by simp) (by simp), e2, List.nil_append]
    unfold fj gM
    rw [dI (by omega), aM, kw, Nat.zero_add, e1, wY F _ (by omega) (by omega), bC, tM F x _ (by omega) (by omega) (by omega)]
    by_cases hlast : y.getLast? = some 10
    · rw [wd_wf y [] hlast]
      by_cases ho : okLine x (cZ (wf [] y)) = true
      · rw [if_pos ho, bR, decide_eq_true rfl, ntr, Bool.false_or]
        by_cases he : cF x (cZ (wf [] y)) = s
        · rw [decide_eq_true he, ntr, cfl, if_pos ⟨ho, he⟩]
        · rw [decide_eq_false he, nfl, ctr, if_neg (fun h => he h.2)]
      · rw [if_neg ho, bR, decide_eq_false (show ¬ (1 : Int) = 0 by omega), nfl, Bool.true_or, ctr, if_neg (fun h => ho h.1)]
    · have hno : ∀ v, cF x v ≠ s := fun v h => by
        have h1 := sZ x v
        rw [h, hcl] at h1
        rw [List.getLast?_append] at h1
        cases y with
        | nil => simp at h1
        | cons b r => 
          rw [List.getLast?_cons_cons] at h1
          apply hlast
          cases hh : (b :: r).getLast? with
          | none => simp at hh
          | some q => rw [hh] at h1; simpa using h1
      have hn2 : ¬ (okLine x (cZ (wf [] y)) = true ∧ cF x (cZ (wf [] y)) = s) := fun h => hno _ h.2
      rw [if_neg hn2]
      by_cases ho : okLine x (cZ (wd [] y)) = true
      · rw [if_pos ho, bR, decide_eq_true rfl, ntr, Bool.false_or, decide_eq_false (hno _), nfl, ctr]
      · rw [if_neg ho, bR, decide_eq_false (show ¬ (1 : Int) = 0 by omega), nfl, Bool.true_or, ctr]
end Go.Hd
namespace Go.Hd
open Go.Pv Go.Av
def noSp (w : Bs) : Prop := ∀ c ∈ w, spb c = false
theorem wf_word (w r : Bs) (hw : noSp w) (h0 : w ≠ []) (c : UInt8) (hc : spb c = true) : wf [] (w ++ c :: r) = w :: wf [] r := by
  rw [wa _ w [] hw, List.nil_append, wf, if_pos hc, if_neg h0]
theorem uf (r : Bs) (c : UInt8) (hc : spb c = true) : wf [] (c :: r) = wf [] r := by
  rw [wf, if_pos hc, if_pos rfl]
def jE : Int → List Bs → Bs
  | _, [] => [13, 10]
  | n, w :: ws => (cD (n, []) w).2 ++ jE (cD (n, []) w).1 ws
theorem uK (n : Int) (o : Bs) (w : Bs) : cD (n, o) w = ((cD (n, []) w).1, o ++ (cD (n, []) w).2) := by
  unfold cD
  by_cases h : 76 < n + 1 + (w.length : Int)
  · rw [if_pos h, if_pos h]; simp
  · rw [if_neg h, if_neg h]; simp
theorem ra : ∀ (ws : List Bs) (n : Int) (o : Bs), (ws.foldl cD (n, o)).2 ++ [13, 10] = o ++ jE n ws
  | [], n, o => rfl
  | w :: ws, n, o => by
    rw [List.foldl_cons, uK n o w, ra ws _ _, jE, List.append_assoc]
theorem lineOf_eq (a b : Bs) : cF a b = a ++ 58 :: jE ((a.length + 1 : Nat) : Int) (cL b) := by
  unfold cF
  rw [ra]; simp
theorem wn : ∀ (ws : List Bs) (n : Int), (∀ w ∈ ws, noSp w ∧ w ≠ []) → wf [] (jE n ws) = ws ∧ ∃ c r, jE n ws = c :: r ∧ spb c = true
  | [], n, h => ⟨rfl, 13, [10], rfl, rfl⟩
  | w :: ws, n, h => by
    have ⟨hw, hne⟩ := h w (by simp)
    obtain ⟨ih, c, r, e, hc⟩ := wn ws (cD (n, []) w).1 (fun x hx => h x (by simp [hx]))
    rw [jE]
    have : ∃ p : Bs, (cD (n, []) w).2 = p ++ w ∧ (p = [32] ∨ p = [13, 10, 32]) := by
      unfold cD
      split
      · exact ⟨[13, 10, 32], rfl, .inr rfl⟩
      · exact ⟨[32], rfl, .inl rfl⟩
    obtain ⟨p, hp, hp2⟩ := this
    have key : wf [] (w ++ jE (cD (n, []) w).1 ws) = w :: ws := by
      rw [e] at ih ⊢
      rw [wf_word w r hw hne c hc]
      rw [uf r c hc] at ih
      rw [ih]
    rw [hp, List.append_assoc]
    rcases hp2 with rfl | rfl
    · refine ⟨?_, 32, _, rfl, rfl⟩
      show wf [] (32 :: (w ++ _)) = _
      rw [uf _ 32 rfl, key]
    · refine ⟨?_, 13, _, rfl, rfl⟩
      show wf [] (13 :: 10 :: 32 :: (w ++ _)) = _
      rw [uf _ 13 rfl, uf _ 10 rfl, uf _ 32 rfl, key]
theorem mY (n : Nat) (h : n < 64) : spb (ch n) = false := by
  have := pS (fun n => !(spb (ch n))) (by decide +kernel) n h
  simpa using this
theorem tY : ∀ b : Bs, noSp (enc b)
  | a :: b :: c :: r => by
    have ih := tY r
    have hq := q3_lt a b c
    intro x hx
    rw [enc] at hx
    rcases List.mem_append.1 hx with hx | hx
    · simp only [four, List.mem_cons, List.not_mem_nil, or_false] at hx
      rcases hx with rfl | rfl | rfl | rfl <;> exact mY _ (by omega)
    · exact ih x hx
  | [a, b] => by
    have hq := q3_lt a b 0
    intro x hx
    simp only [enc, four, List.take, List.mem_append, List.mem_cons, List.not_mem_nil, or_false] at hx
    rcases hx with (rfl | rfl | rfl) | rfl
    · exact mY _ (by omega)
    · exact mY _ (by omega)
    · exact mY _ (by omega)
    · rfl
  | [a] => by
    have hq := q3_lt a 0 0
    intro x hx
    simp only [enc, four, List.take, List.mem_append, List.mem_cons, List.not_mem_nil, or_false] at hx
    rcases hx with (rfl | rfl) | rfl | rfl
    · exact mY _ (by omega)
    · exact mY _ (by omega)
    · rfl
    · rfl
  | [] => fun x hx => by cases hx
theorem wU (p : Bs) : noSp (word p) ∧ word p ≠ [] := by
  refine ⟨fun c hc => ?_, by simp [word, ahead]⟩
  unfold word at hc
  rcases List.mem_append.1 hc with hc | hc
  · rcases List.mem_append.1 hc with hc | hc
    · have : ∀ c ∈ ahead, spb c = false := by decide
      exact this c hc
    · exact tY p c hc
  · have : ∀ c ∈ behind, spb c = false := by decide
    exact this c hc
theorem pieces_nosp (s : Bs) : ∀ n, s.length ≤ n → ∀ w ∈ jF s, ∃ p, w = word p := by
  intro n
  induction n generalizing s with
  | zero => intro h; have : s = [] := List.eq_nil_of_length_eq_zero (by omega); subst this; simp [ga]
  | succ n ih =>
    intro h
    by_cases h0 : s = []
    · subst h0; simp [ga]
    · have hp := oQ s
      have hl := List.length_pos_iff.2 h0
      have h3 := hp.2.2 h0
      rw [iK h0]
      intro w hw
      rcases List.mem_cons.1 hw with rfl | hw
      · exact ⟨_, rfl⟩
      · exact ih _ (by simp; omega) w hw
theorem rL (p : Bs) : fx (word p) = true ∧ mid (word p) = enc p := by
  have hal : ahead.length = 10 := rfl
  have hbl : behind.length = 2 := rfl
  have hl : (word p).length = 12 + (enc p).length := by unfold word; simp [hal, hbl]; omega
  refine ⟨?_, ?_⟩
  · unfold fx
    have h1 : (word p).take 10 = ahead := by unfold word; rw [List.append_assoc, List.take_left' hal]
    have h2 : (word p).drop ((word p).length - 2) = behind := by
      rw [hl]; unfold word; rw [List.drop_left' (by simp [hal]; omega)]
    rw [decide_eq_true h1, decide_eq_true h2, decide_eq_true (by omega)]; rfl
  · unfold mid
    rw [hl]
    unfold word
    rw [List.take_left' (by simp [hal]; omega), List.drop_left' hal]
theorem cd_word (p : Bs) : cdB (word p) = true ∧ cdT (word p) = p := by
  have ⟨h1, h2⟩ := rL p
  unfold cdB cdT
  rw [h1, h2, pc]
  exact ⟨rfl, rfl⟩
theorem rF (s : Bs) : ∀ n, s.length ≤ n → (jF s).all cdB = true ∧ oV (jF s) = s := by
  intro n
  induction n generalizing s with
  | zero => intro h; have : s = [] := List.eq_nil_of_length_eq_zero (by omega); subst this; exact ⟨rfl, rfl⟩
  | succ n ih =>
    intro h
    by_cases h0 : s = []
    · subst h0; exact ⟨rfl, rfl⟩
    · have hp := oQ s
      have hl := List.length_pos_iff.2 h0
      have h3 := hp.2.2 h0
      have ⟨i1, i2⟩ := ih (s.drop (pt s)) (by simp; omega)
      have ⟨c1, c2⟩ := cd_word (s.take (pt s))
      rw [iK h0, ol, List.all_cons, c1, c2, i1, i2]
      exact ⟨rfl, List.take_append_drop _ _⟩
theorem xz (cur : Bs) (l : List Bs) (h : l ≠ []) : Str.join [32] (lw cur l) = cur ++ Str.join [32] l := by
  cases l with
  | nil => exact absurd rfl h
  | cons p ps => simp [lw, Str.join]
theorem qH (l : List Bs) (h : l ≠ []) : Str.join [32] ([] :: l) = 32 :: Str.join [32] l := by
  cases l with
  | nil => exact absurd rfl h
  | cons p ps => simp [Str.join, Str.rest]
theorem wF : ∀ s : Bs, Str.join [32] (sp 32 s) = s
  | [] => rfl
  | c :: r => by
    have ih := wF r
    by_cases h : c = 32
    · subst h; rw [sp_cons_eq, qH _ (sp_ne 32 r), ih]
    · rw [sp_cons_ne h, xz _ _ (sp_ne 32 r), ih]; rfl
theorem qZ {p : UInt8 → UInt8 → Bool} {c : UInt8} {r : Bs} (h : iA p (c :: r) = false) : iA p r = false := by
  cases r with
  | nil => rfl
  | cons d r => rw [iA, Bool.or_eq_false_iff] at h; exact h.2
theorem mem_prep {cur w : Bs} {l : List Bs} (h : w ∈ lw cur l) : (∃ p ps, l = p :: ps ∧ w = cur ++ p) ∨ w ∈ l.drop 1 ∨ (l = [] ∧ w = cur) := by
  cases l with
  | nil => simp [lw] at h; exact .inr (.inr ⟨rfl, h⟩)
  | cons p ps =>
    simp only [lw, List.mem_cons] at h
    rcases h with h | h
    · exact .inl ⟨p, ps, rfl, h⟩
    · exact .inr (.inl h)
theorem wq : ∀ s : Bs, (s.all okb = true) → ∀ w ∈ sp 32 s, noSp w
  | [], _, w, hw => by simp [sp] at hw; subst hw; exact fun c hc => by cases hc
  | c :: r, h, w, hw => by
    rw [List.all_cons, Bool.and_eq_true] at h
    have ih := wq r h.2
    by_cases hc : c = 32
    · subst hc
      rw [sp_cons_eq] at hw
      rcases List.mem_cons.1 hw with rfl | hw
      · exact fun c hc => by cases hc
      · exact ih w hw
    · rw [sp_cons_ne hc] at hw
      rcases mem_prep hw with ⟨p, ps, e, rfl⟩ | h2 | ⟨e, _⟩
      · intro x hx
        rcases List.mem_append.1 hx with hx | hx
        · have : x = c := by simpa using hx
          subst this
          have := h.1
          unfold okb at this
          simp only [Bool.and_eq_true, decide_eq_true_eq] at this
          unfold spb
          have n13 : x ≠ 13 := fun e => by rw [e] at this; revert this; decide
          have n10 : x ≠ 10 := fun e => by rw [e] at this; revert this; decide
          rw [decide_eq_false hc, decide_eq_false n13, decide_eq_false n10]; rfl
        · exact ih p (by rw [e]; simp) x hx
      · exact ih w (List.mem_of_mem_drop h2)
      · exact absurd e (sp_ne 32 r)
theorem wr : ∀ s : Bs, iA bad s = false → s.getLast? ≠ some 32 → ∀ w ∈ (sp 32 s).drop 1, w ≠ []
  | [], _, _, w, hw => by simp [sp] at hw
  | c :: r, h, hl, w, hw => by
    have hr : r = [] ∨ r.getLast? ≠ some 32 := by
      cases r with
      | nil => exact .inl rfl
      | cons d r => right; simpa using hl
    have ih : ∀ w ∈ (sp 32 r).drop 1, w ≠ [] := by
      rcases hr with rfl | hr
      · intro w hw; simp [sp] at hw
      · exact wr r (qZ h) hr
    by_cases hc : c = 32
    · subst hc
      rw [sp_cons_eq] at hw
      cases r with
      | nil => simp at hl
      | cons d r =>
        have hd : d ≠ 32 := fun e => by
          subst e
          rw [iA, Bool.or_eq_false_iff] at h
          have := h.1
          revert this; decide
        rw [List.drop_one, List.tail_cons] at hw
        have hne := sp_ne 32 (d :: r)
        cases hs : sp 32 (d :: r) with
        | nil => exact absurd hs hne
        | cons p ps =>
          rw [hs] at hw ih
          rcases List.mem_cons.1 hw with rfl | hw
          · intro e
            subst e
            rw [sp_cons_ne hd] at hs
            cases h3 : sp 32 r with
            | nil => exact absurd h3 (sp_ne 32 r)
            | cons q qs => rw [h3] at hs; simp [lw] at hs
          · exact ih w (by simpa using hw)
    · rw [sp_cons_ne hc] at hw
      refine ih w ?_
      cases hs : sp 32 r with
      | nil => exact absurd hs (sp_ne 32 r)
      | cons p ps => rw [hs] at hw; simpa [lw] using hw
theorem sp_first (c : UInt8) (r : Bs) (hc : c ≠ 32) : ∃ p ps, sp 32 (c :: r) = (c :: p) :: ps ∧ ∃ q, r = p ++ q := by
  rw [sp_cons_ne hc]
  have : ∀ s : Bs, ∃ p ps, sp 32 s = p :: ps ∧ ∃ q, s = p ++ q := by
    intro s
    induction s with
    | nil => exact ⟨[], [], rfl, [], rfl⟩
    | cons d s ih =>
      obtain ⟨p, ps, e, q, hq⟩ := ih
      by_cases hd : d = 32
      · subst hd; exact ⟨[], _, sp_cons_eq 32 s, _, rfl⟩
      · exact ⟨d :: p, ps, by rw [sp_cons_ne hd, e]; rfl, q, by rw [hq]; rfl⟩
  obtain ⟨p, ps, e, q, hq⟩ := this r;exact ⟨p, ps, by rw [e]; rfl, q, hq⟩
theorem sx {s : Bs} (h : plainB s = true) : (∀ w ∈ sp 32 s, noSp w ∧ w ≠ []) ∧ (sp 32 s).all cdB = false := by
  unfold plainB at h
  simp only [Bool.and_eq_true, Bool.not_eq_true', decide_eq_false_iff_not, decide_eq_true_eq] at h
  obtain ⟨⟨⟨ha, hne⟩, hh, hl⟩, hb⟩ := h
  cases s with
  | nil => exact absurd rfl hne
  | cons c r =>
    have hc : c ≠ 32 := fun e => hh (by rw [e]; rfl)
    have hs := wq (c :: r) ha
    have hf := wr (c :: r) hb hl
    obtain ⟨p, ps, e, q, hq⟩ := sp_first c r hc
    rw [e] at hs hf ⊢
    refine ⟨fun w hw => ⟨hs w hw, ?_⟩, ?_⟩
    · rcases List.mem_cons.1 hw with rfl | hw
      · simp
      · exact hf w (by simpa using hw)
    · rw [List.all_cons]
      have : cdB (c :: p) = false := by
        cases hi : fx (c :: p) with
        | false => unfold cdB; rw [hi, fw]
        | true =>
          exfalso
          unfold fx at hi
          simp only [Bool.and_eq_true, decide_eq_true_eq] at hi
          have h10 := hi.2.1
          cases p with
          | nil => simp at hi
          | cons d p =>
            have e1 : c = 61 ∧ d = 63 := by
              unfold ahead at h10
              simp only [List.take_succ_cons, List.cons.injEq] at h10
              exact ⟨h10.1, h10.2.1⟩
            rw [hq, e1.1, e1.2] at hb
            simp [iA, bad] at hb
      rw [this, fw]
theorem ou (s : Bs) : cZ (cL s) = s ∧ ∀ w ∈ cL s, noSp w ∧ w ≠ [] := by
  unfold cL
  cases hp : plainB s with
  | true =>
    have ⟨h1, h2⟩ := sx hp
    rw [ctr]
    unfold cZ
    rw [h2, cfl]
    exact ⟨wF s, h1⟩
  | false =>
    have ⟨h1, h2⟩ := rF s s.length (by omega)
    rw [cfl]
    unfold cZ
    rw [h1, ctr]
    exact ⟨h2, fun w hw => by obtain ⟨p, rfl⟩ := pieces_nosp s s.length (by omega) w hw; exact wU p⟩
theorem uJ {a : Bs} (h : nameB a = true) : ∀ c ∈ a, c ≠ 58 := by
  unfold nameB at h
  simp only [Bool.and_eq_true] at h
  intro c hc e
  have := List.all_eq_true.1 h.1.1 c hc
  rw [e] at this
  revert this; decide
theorem xe (a b : Bs) (h : okLine a b = true) : readOf (cF a b) = (a, b, 0) := by
  have ⟨h1, h2⟩ := ou b
  have h3 := (wn (cL b) ((a.length + 1 : Nat) : Int) h2).1
  unfold readOf
  rw [lineOf_eq, re _ (uJ (okLine_s h).1)]
  dsimp only
  rw [h3, h1, if_pos ⟨h, lineOf_eq a b⟩]
theorem readOf_zero {s x y : Bs} (h : readOf s = (x, y, 0)) : okLine x y = true ∧ cF x y = s := by
  unfold readOf at h
  cases hc : jB 58 s with
  | none => rw [hc] at h; cases h
  | some z =>
    obtain ⟨p, q⟩ := z
    rw [hc] at h
    dsimp only at h
    by_cases hi : okLine p (cZ (wf [] q)) = true ∧ cF p (cZ (wf [] q)) = s
    · rw [if_pos hi] at h; cases h; exact hi
    · rw [if_neg hi] at h; cases h
def wsum : List Bs → Nat
  | [] => 0
  | w :: ws => w.length + 3 + wsum ws
theorem tV : ∀ (ws : List Bs) (st : Int × Bs), (ws.foldl cD st).2.length ≤ st.2.length + wsum ws
  | [], st => by simp [wsum]
  | w :: ws, st => by
    have h1 := nq st w
    have h2 := tV ws (cD st w)
    rw [List.foldl_cons, wsum]; omega
theorem pv : ∀ ws : List Bs, wsum ws = Str.total ws + 3 * ws.length
  | [] => rfl
  | w :: ws => by rw [wsum, pv ws]; simp [Str.total]; omega
theorem uF (s : Bs) : ∀ n, s.length ≤ n → 42 * (jF s).length ≤ s.length + 42 := by
  intro n
  induction n generalizing s with
  | zero => intro h; have : s = [] := List.eq_nil_of_length_eq_zero (by omega); subst this; simp [ga]
  | succ n ih =>
    intro h
    by_cases h0 : s = []
    · subst h0; simp [ga]
    · have hp := oQ s
      have hl := List.length_pos_iff.2 h0
      have h3 := hp.2.2 h0
      have hi := ih (s.drop (pt s)) (by simp; omega)
      rw [iK h0, List.length_cons]
      by_cases h45 : s.length ≤ 45
      · have : pt s = s.length := by unfold pt; rw [if_pos h45]
        rw [this, List.drop_length, ga]; simp
      · have h42 : 42 ≤ pt s := by unfold pt; rw [if_neg h45]; exact (dn_le s 4 (by omega)).1
        rw [List.length_drop] at hi
        omega
theorem om : ∀ l : List Bs, (∀ w ∈ l, w.length ≤ 104) → wsum l ≤ 107 * l.length
  | [], _ => by simp [wsum]
  | w :: ws, h => by
    have := om ws (fun x hx => h x (by simp [hx]))
    have := h w (by simp)
    rw [wsum, List.length_cons]; omega
theorem pE (a b : Bs) (h : okLine a b = true) (hb : b.length ≤ 600) : (cF a b).length ≤ 1900 := by
  have ha := (okLine_s h).2.2
  have hf := tV (cL b) (((a.length + 1 : Nat) : Int), a ++ [58])
  have hw : wsum (cL b) ≤ 1803 := by
    unfold cL
    cases plainB b with
    | true =>
      have h1 := tK 32 b
      rw [ctr, pv]; omega
    | false =>
      have h1 := uF b b.length (by omega)
      have h2 := om (jF b) (pD b b.length (by omega)).2
      rw [cfl]; omega
  unfold cF
  rw [List.length_append]
  simp at hf ⊢; omega
end Go.Hd
namespace Go.Hd
open Go.Pv Go.Av
def en : Bs → Option Nat
  | [] => none
  | c :: r => if (c = 13 ∧ r.head? = some 10) ∧ (r.drop 1).head? ≠ some 32 then some 2 else match en r with
    | none => none
    | some n => some (n + 1)
theorem qi : ∀ {s : Bs} {n : Nat}, en s = some n → 2 ≤ n ∧ n ≤ s.length
  | [], n, h => by cases h
  | c :: r, n, h => by
    rw [en] at h
    split at h
    · rename_i hc
      cases h
      have : r ≠ [] := fun e => by rw [e] at hc; cases hc.1.2
      have := List.length_pos_iff.2 this
      rw [List.length_cons]; omega
    · cases hr : en r with
      | none => rw [hr] at h; cases h
      | some m =>
        rw [hr] at h; cases h
        have := qi hr
        rw [List.length_cons]; omega
theorem oZ (s : Bs) (i : Nat) : (s.drop i).head? = s[i]? := by rw [List.head?_drop]
theorem end_loop (s : Bs) (hs : s.length ≤ 1000000) : ∀ (m i : Nat), s.length + 2 - i < m → 2 ≤ i → i ≤ s.length + 2 →
    ge s m (i : Int) = some (match en (s.drop (i - 2)) with | none => -1 | some k => ((i - 2 + k : Nat) : Int)) := by
  intro m
  induction m with
  | zero => intro i h; omega
  | succ m ih =>
    intro i hm h2 hi;show iW s (ge s m) (i : Int) = _
    unfold iW iV
    by_cases h : i ≤ s.length
    · have e2 : (i : Int) - 2 = ((i - 2 : Nat) : Int) := by omega
      have e1 : (i : Int) - 1 = ((i - 1 : Nat) : Int) := by omega
      have hd : s.drop (i - 2) = s[i - 2]'(by omega) :: s.drop (i - 1) := by
        have := ar (show i - 2 < s.length by omega)
        rw [this]; congr 2; omega
      have hA : ∀ (c : Bool) (k : Option Int), cz c (bQ ((i - 1 : Nat) : Int) s.length) k = k := fun c k => by
        rw [show bQ ((i - 1 : Nat) : Int) s.length = true from decide_eq_true (by omega)]; cases c <;> rfl
      have hI : ∀ (c : Bool) (k : Option Int), cz c (okI ((i - 1 : Nat) : Int)) k = k := fun c k => by
        rw [show okI ((i - 1 : Nat) : Int) = true from decide_eq_true (by omega)]; cases c <;> rfl
      rw [bT (by omega), bl (by omega), e2, bJ (by omega), aM, bP (by omega), e1, hI, hA, aM, bP (by omega)]
      have hh : (s.drop (i - 1)).head? = some (s[i - 1]'(by omega)) := by rw [oZ, aG (by omega)]
      have hh2 : ((s.drop (i - 1)).drop 1).head? = s[i]? := by rw [List.drop_drop, oZ]; congr 1; omega
      rw [hd, en, hh, hh2]
      have hnext : ge s m ((i : Int) + 1) = some (match (match en (s.drop (i - 1)) with | none => none | some n => some (n + 1)) with | none => -1 | some k => ((i - 2 + k : Nat) : Int)) := by
        rw [bg, ih (i + 1) (by omega) (by omega) (by omega), show i + 1 - 2 = i - 1 by omega]
        cases en (s.drop (i - 1)) with
        | none => rfl
        | some k => dsimp only; congr 2; omega
      by_cases hc : s[i - 2]'(by omega) = 13 ∧ s[i - 1]'(by omega) = 10
      · have tt : ((decide (s[i - 2]'(by omega) = 13)) && (decide (s[i - 1]'(by omega) = 10))) = true := by rw [decide_eq_true hc.1, decide_eq_true hc.2]; rfl
        simp only [tt, ef]
        rw [hc.1, hc.2]
        by_cases hl : i = s.length
        · have : s[i]? = none := List.getElem?_eq_none (by omega)
          rw [decide_eq_true (show (i : Int) = s.length by omega), ntr, dZ, aM, Bool.true_or, ctr, this, if_pos ⟨⟨rfl, rfl⟩, by simp⟩]
          dsimp only; congr 2; omega
        · have : s[i]? = some (s[i]'(by omega)) := aG (by omega)
          rw [decide_eq_false (show ¬ (i : Int) = s.length by omega), nfl, lx, bJ (by omega), aM, bP (by omega), Bool.false_or, this]
          by_cases h32 : s[i]'(by omega) = 32
          · rw [decide_eq_true h32, ntr, cfl, bl (by omega), hnext, h32, if_neg (fun h => h.2 rfl)]
          · rw [decide_eq_false h32, nfl, ctr, if_pos ⟨⟨rfl, rfl⟩, fun h => h32 (ak h)⟩]
            dsimp only; congr 2; omega
      · have : ((decide (s[i - 2]'(by omega) = 13)) && (decide (s[i - 1]'(by omega) = 10))) = false := by rw [← Bool.decide_and]; exact decide_eq_false hc
        simp only [this, fw, dZ, aM, cfl]
        rw [bl (by omega), hnext, if_neg (fun h => hc ⟨h.1.1, ak h.1.2⟩)]
    · have : en (s.drop (i - 2)) = none := by
        have hlen : (s.drop (i - 2)).length ≤ 1 := by simp; omega
        cases he : en (s.drop (i - 2)) with
        | none => rfl
        | some k => have := qi he; omega
      rw [bF (by omega), this]
theorem end_eq (F : Nat) (s : Bs) (hs : s.length ≤ 1000000) (hF : s.length + 10 < F) : mL F s = some (match en s with | none => -1 | some k => (k : Int)) := by
  have := end_loop s hs F 2 (by omega) (Nat.le_refl 2) (by omega)
  refine Eq.trans this ?_;show some (match en s with | none => -1 | some k => ((0 + k : Nat) : Int)) = _
  cases en s with
  | none => rfl
  | some k => dsimp only; rw [Nat.zero_add]
theorem eQ (x : UInt8) (r sub : Bs) : Go.Lib.index (x :: r) sub = if sub.isPrefixOf (x :: r) = true then 0 else if Go.Lib.index r sub = -1 then -1 else Go.Lib.index r sub + 1 := by
  rw [Go.Lib.index]
  simp only [beq_iff_eq]
theorem pre2 (x : UInt8) (r : Bs) : ([13, 10] : Bs).isPrefixOf (x :: r) = true ↔ x = 13 ∧ r.head? = some 10 := by
  cases r with
  | nil => simp [List.isPrefixOf]
  | cons y r => simp [List.isPrefixOf]; constructor <;> (intro ⟨h1, h2⟩; exact ⟨h1.symm, h2.symm⟩)
theorem tZ : ∀ (s : Bs), (Go.Lib.index s [13, 10] = -1 ∧ en s = none) ∨ ∃ j : Nat, Go.Lib.index s [13, 10] = (j : Int) ∧ j + 2 ≤ s.length ∧
    en s = if (s.drop (j + 2)).head? = some 32 then (match en (s.drop (j + 2)) with | none => none | some k => some (j + 2 + k)) else some (j + 2)
  | [] => .inl ⟨rfl, rfl⟩
  | c :: r => by
    have ih := tZ r
    rw [eQ, en]
    by_cases hp : c = 13 ∧ r.head? = some 10
    · right
      refine ⟨0, by rw [if_pos ((pre2 c r).2 hp)]; rfl, ?_, ?_⟩
      · have : r ≠ [] := fun e => by rw [e] at hp; cases hp.2
        have := List.length_pos_iff.2 this
        rw [List.length_cons]; omega
      · have hd : (c :: r).drop (0 + 2) = r.drop 1 := rfl
        rw [hd]
        by_cases h32 : (r.drop 1).head? = some 32
        · rw [if_neg (fun h => h.2 h32), if_pos h32]
          -- the sign behind is the line feed
          cases r with
          | nil => cases hp.2
          | cons d r =>
            have : d = 10 := by simpa using hp.2
            subst this
            rw [en, if_neg (fun h => by have := h.1.1; revert this; decide)]
            show (match (match en r with | none => none | some n => some (n + 1)) with | none => none | some n => some (n + 1)) = match en r with | none => none | some k => some (0 + 2 + k)
            cases en r with
            | none => rfl
            | some k => dsimp only; congr 1; omega
        · rw [if_pos ⟨hp, h32⟩, if_neg h32]
    · have hp1 : ¬ ([13, 10] : Bs).isPrefixOf (c :: r) = true := fun h => hp ((pre2 c r).1 h)
      have hp3 : ¬ ((c = 13 ∧ r.head? = some 10) ∧ (r.drop 1).head? ≠ some 32) := fun h => hp h.1
      rw [if_neg hp1, if_neg hp3]
      rcases ih with ⟨h1, h2⟩ | ⟨j, h1, hjl, h2⟩
      · left; rw [h1, h2]; exact ⟨rfl, rfl⟩
      · right
        refine ⟨j + 1, by rw [h1, if_neg (by omega)]; rfl, by rw [List.length_cons]; omega, ?_⟩
        have hd : (c :: r).drop (j + 1 + 2) = r.drop (j + 2) := by rw [show j + 1 + 2 = (j + 2) + 1 by omega]; rfl
        rw [hd, h2]
        by_cases h32 : (r.drop (j + 2)).head? = some 32
        · rw [if_pos h32, if_pos h32]
          cases en (r.drop (j + 2)) with
          | none => rfl
          | some k => dsimp only; congr 1; omega
        · rw [if_neg h32, if_neg h32]
theorem fo (x : Bool) : (false || x) = x := Eq.symm (Eq.symm rfl)
abbrev Rr := List Bs × Bs × Bool
theorem in_loop (s : Bs) (ls : List Bs) (rec10 : (Bs × List Bs) → Option Rr) (hs : s.length ≤ 1000000) : ∀ (m i : Nat), s.length - i + 1 < m → i ≤ s.length → (i = 0 ∨ (s.drop i).head? = some 32) →
    fq s ls rec10 m (i : Int) = match en (s.drop i) with
      | none => some ([], [], false)
      | some k => fp s ls rec10 ((i + k : Nat) : Int) := by
  intro m
  induction m with
  | zero => intro i h; omega
  | succ m ih =>
    intro i hm hi hz;show dY s ls rec10 (fq s ls rec10 m) (i : Int) = _
    unfold dY
    have hcond : ∀ k : UInt8 → Option Rr, (cz ((!(decide ((i : Int) = 0))) && (decide ((i : Int) < (s.length : Int)))) (bQ (i : Int) s.length) <| lt (at_ s (i : Int)) fun x22 => k x22) = k (at_ s (i : Int)) := fun k => by
      rw [aM]
      by_cases hl : i < s.length
      · rw [show bQ (i : Int) s.length = true from decide_eq_true (by omega)]
        cases (!(decide ((i : Int) = 0))) && (decide ((i : Int) < (s.length : Int))) <;> rfl
      · rw [decide_eq_false (show ¬ (i : Int) < s.length by omega), Bool.and_false, dZ]
    rw [hcond]
    have hgo : ((decide ((i : Int) = 0)) || ((decide ((i : Int) < (s.length : Int))) && (decide (at_ s (i : Int) = 32)))) = true := by
      rcases hz with h | h
      · rw [decide_eq_true (show (i : Int) = 0 by omega)]; rfl
      · rw [oZ] at h
        have hl : i < s.length := (List.getElem?_eq_some_iff.1 h).1
        have h3 := (List.getElem?_eq_some_iff.1 h).2
        rw [bP hl, decide_eq_true h3, decide_eq_true (show (i : Int) < s.length by omega)]; simp
    have h2 : decide (2 ≤ ([13, 10] : Bs).length) = true := rfl
    rw [hgo, ctr, dI (by omega), aM, eE, mq (by simp; omega), h2, oT, mq (by simp), aM]
    rcases tZ (s.drop i) with ⟨e1, e2⟩ | ⟨j, e1, hjl, e2⟩
    · rw [e1, e2, bT (by omega)]
    · rw [List.length_drop] at hjl
      have hij : (i : Int) + ((j : Int) + 2) = ((i + j + 2 : Nat) : Int) := by omega
      rw [e1, bF (by omega), bl (by omega), bl (by omega), hij]
      have hdd : (s.drop i).drop (j + 2) = s.drop (i + j + 2) := by rw [List.drop_drop]; congr 1
      rw [hdd] at e2
      rw [e2]
      by_cases h32 : (s.drop (i + j + 2)).head? = some 32
      · rw [if_pos h32, ih (i + j + 2) (by omega) (by omega) (.inr h32)]
        cases en (s.drop (i + j + 2)) with
        | none => rfl
        | some k => dsimp only; congr 2; omega
      · rw [if_neg h32]
        dsimp only
        obtain ⟨m, rfl⟩ : ∃ q, m = q + 1 := ⟨m - 1, by omega⟩;show dY s ls rec10 (fq s ls rec10 m) ((i + j + 2 : Nat) : Int) = _
        unfold dY
        simp only [decide_eq_false (show ¬ ((i + j + 2 : Nat) : Int) = 0 by omega), nfl, ef, fo]
        by_cases hl : i + j + 2 < s.length
        · rw [oZ, aG hl] at h32
          have h3 : ¬ s[i + j + 2] = 32 := fun e => h32 (by rw [e])
          rw [decide_eq_true (show ((i + j + 2 : Nat) : Int) < s.length by omega), lx, bJ (by omega), aM, bP hl, decide_eq_false h3, Bool.and_false, cfl]
          congr 1
        · rw [decide_eq_false (show ¬ ((i + j + 2 : Nat) : Int) < s.length by omega), dZ, aM, fw, cfl]
          congr 1
def ln : Nat → Bs → Option (List Bs × Bs)
  | 0, _ => none
  | f + 1, s => if Go.Lib.hasPrefix s [13, 10] = true then some ([], s.drop 2) else match en s with
    | none => none
    | some n => match ln f (s.drop n) with
      | none => none
      | some (l, r) => some (s.take n :: l, r)
theorem uL (F : Nat) : ∀ (m : Nat) (s : Bs) (ls : List Bs), s.length < m → s.length + 3 < F → s.length ≤ 1000000 → ls.length + s.length ≤ 1000000 →
    cJ F m (s, ls) = some (match ln m s with
      | none => ([], [], false)
      | some (l, r) => (ls ++ l, r, decide (((ls ++ l).length : Int) ≤ 50))) := by
  intro m
  induction m with
  | zero => intro s ls h; omega
  | succ m ih =>
    intro s ls hm hF hs hl;show ir F (cJ F m) s ls = _
    unfold ir
    rw [aM, ln]
    by_cases hp : Go.Lib.hasPrefix s [13, 10] = true
    · have h2 : 2 ≤ s.length := by
        have := (List.isPrefixOf_iff_prefix.1 hp).length_le
        simpa using this
      rw [hp, ntr, cfl, if_pos rfl]
      unfold iq
      rw [dI (by omega), aM, show (2 : Int) = ((2 : Nat) : Int) from rfl, eE]
      dsimp only
      rw [List.append_nil]
    · rw [if_neg hp]
      have hp2 : Go.Lib.hasPrefix s [13, 10] = false := by simpa using hp
      rw [hp2, nfl, ctr]
      have := in_loop s ls (cJ F m) hs F 0 (by omega) (by omega) (.inl rfl)
      refine Eq.trans this ?_
      rw [List.drop_zero]
      cases he : en s with
      | none => rfl
      | some n =>
        have ⟨n1, n2⟩ := qi he
        dsimp only
        unfold fp
        rw [Nat.zero_add, dI (by omega), aM, kw, dI (by omega), aM, eE, bc (by simp; omega), aM, ih _ _ (by simp; omega) (by simp; omega) (by simp; omega) (by simp; omega)]
        cases ln m (s.drop n) with
        | none => rfl
        | some z =>
          obtain ⟨l, r⟩ := z
          dsimp only
          rw [List.append_assoc]; rfl
theorem wD : ∀ (m k : Nat) (s : Bs), s.length < m → s.length < k → ln m s = ln k s := by
  intro m
  induction m with
  | zero => intro k s h; omega
  | succ m ih =>
    intro k s h1 h2;obtain ⟨k, rfl⟩ : ∃ j, k = j + 1 := ⟨k - 1, by omega⟩
    rw [ln, ln]
    split
    · rfl
    · cases he : en s with
      | none => rfl
      | some n =>
        have ⟨n1, n2⟩ := qi he
        dsimp only
        rw [ih k (s.drop n) (by simp; omega) (by simp; omega)]
def lnOf (s : Bs) : Option (List Bs × Bs) := ln (s.length + 1) s
theorem ln_sum : ∀ (m : Nat) (s : Bs) {l : List Bs} {r : Bs}, ln m s = some (l, r) → Str.total l + 2 + r.length = s.length := by
  intro m
  induction m with
  | zero => intro s l r h; cases h
  | succ m ih =>
    intro s l r h
    rw [ln] at h
    by_cases hp : Go.Lib.hasPrefix s [13, 10] = true
    · have h2 : 2 ≤ s.length := by
        have := (List.isPrefixOf_iff_prefix.1 hp).length_le
        simpa using this
      rw [if_pos hp] at h
      cases h
      simp [Str.total]; omega
    · rw [if_neg hp] at h
      cases he : en s with
      | none => rw [he] at h; cases h
      | some n =>
        have ⟨n1, n2⟩ := qi he
        rw [he] at h
        dsimp only at h
        cases hr : ln m (s.drop n) with
        | none => rw [hr] at h; cases h
        | some z =>
          obtain ⟨l2, r2⟩ := z
          rw [hr] at h
          cases h
          have := ih _ hr
          simp [Str.total] at this ⊢; omega
noncomputable def rdT (s : Bs) : Bs × Bs := ((readOf s).1, (readOf s).2.1)
noncomputable def rdB (s : Bs) : Bool := decide ((readOf s).2.2 = 0)
noncomputable def fy (s : Bs) : List (Bs × Bs) × Bs × Int := match lnOf s with
  | none => ([], [], 2)
  | some (l, r) => bif decide (l.length ≤ 50) && l.all rdB then (l.map rdT, r, 0) else ([], [], 2)
theorem xK (F : Nat) (hF : 900000 < F) (l : List Bs) (hl : l.length ≤ 1000000) (hw : ∀ w ∈ l, w.length ≤ 250000) : ∀ (m i : Nat) (hs : List (Bs × Bs)), l.length - i < m → i ≤ l.length → hs.length ≤ i →
    ∃ c : Int, iv F l m (hs, (i : Int)) = some (bif (l.drop i).all rdB then (hs ++ (l.drop i).map rdT, 0) else ([], c)) ∧ c ≠ 0 := by
  intro m
  induction m with
  | zero => intro i hs h; omega
  | succ m ih =>
    intro i hs hm hi hh;show ∃ c : Int, iw F l (iv F l m) hs (i : Int) = _ ∧ _
    unfold iw iu
    by_cases h : i < l.length
    · have hd : l.drop i = l[i] :: l.drop (i + 1) := ar h
      obtain ⟨c, h1, h2⟩ := ih (i + 1) (hs ++ [rdT l[i]]) (by omega) (by omega) (by simp; omega)
      rw [bT (by omega), bJ (by omega), aM, bP h, Read_eq F _ (hw _ (List.getElem_mem h)) hF, hd, List.all_cons]
      have e : readOf l[i] = ((rdT l[i]).1, (rdT l[i]).2, (readOf l[i]).2.2) := rfl
      rw [e, eD]
      by_cases hz : (readOf l[i]).2.2 = 0
      · have hb : rdB l[i] = true := decide_eq_true hz
        refine ⟨c, ?_, h2⟩
        rw [decide_eq_true hz, ntr, cfl, bc (by simp; omega), aM, bl (by omega), bg, h1, hb, ef, List.map_cons, List.append_assoc]
        rfl
      · have hb : rdB l[i] = false := decide_eq_false hz
        refine ⟨(readOf l[i]).2.2, ?_, hz⟩
        rw [decide_eq_false hz, nfl, ctr, hb, fw, cfl]
    · have hd : l.drop i = [] := aE (by omega)
      rw [bF (by omega), hd]
      exact ⟨1, by simp, by omega⟩
theorem Cut_eq (F : Nat) (hF : 900000 < F) (s : Bs) (hs : s.length ≤ 250000) : mI F s = some (fy s) := by
  have hl := uL F F s [] (by omega) (by omega) (by omega) (by simp; omega)
  unfold mI fy lnOf
  have hl2 : lX F s = _ := hl
  rw [hl2, wD F (s.length + 1) s (by omega) (by omega)]
  cases hn : ln (s.length + 1) s with
  | none => rfl
  | some z =>
    obtain ⟨l, r⟩ := z
    have hsum := ln_sum _ _ hn
    dsimp only
    rw [List.nil_append, eD]
    by_cases h50 : l.length ≤ 50
    · obtain ⟨c, h1, h2⟩ := xK F hF l (by omega) (fun w hw => by have := od hw; omega) F 0 [] (by omega) (by omega) (by simp)
      have h1' : lY F l = _ := h1
      rw [decide_eq_true (show (l.length : Int) ≤ 50 by omega), decide_eq_true h50, ntr, cfl, ef, h1', List.drop_zero]
      cases l.all rdB with
      | true => rw [ctr, ctr, bR, decide_eq_true rfl, ntr, cfl, mq (by omega), aM, List.nil_append]
      | false => rw [cfl, cfl, bR, decide_eq_false h2, nfl, ctr]
    · rw [decide_eq_false (show ¬ (l.length : Int) ≤ 50 by omega), decide_eq_false h50, nfl, ctr, fw, cfl]
theorem hp2 (s : Bs) : Go.Lib.hasPrefix s [13, 10] = (decide (2 ≤ s.length) && (decide (gb s 0 = 13) && decide (gb s 1 = 10))) := by
  unfold Go.Lib.hasPrefix
  match s with
  | [] => rfl
  | [x] => simp [List.isPrefixOf]
  | x :: y :: r =>
    simp only [List.isPrefixOf, List.length_cons, Bool.and_true]
    rw [decide_eq_true (show 2 ≤ r.length + 1 + 1 by omega), ef]
    show (13 == x && 10 == y) = (decide (x = 13) && decide (y = 10))
    rw [bq, bq, Bool.beq_comm, Bool.beq_comm (a := (10 : UInt8))]
theorem xg (F : Nat) (hF : 900000 < F) : ∀ (m : Nat) (s : Bs) (hs : List (Bs × Bs)), s.length < m → s.length ≤ 250000 → hs.length ≤ 50 →
    iX F m (s, hs) = some (match ln m s with
      | none => ([], [], 2)
      | some (l, r) => bif decide (hs.length + l.length ≤ 50) && l.all rdB then (hs ++ l.map rdT, r, 0) else ([], [], 2)) := by
  intro m
  induction m with
  | zero => intro s hs h; omega
  | succ m ih =>
    intro s hs hm hl h50;show iY F (iX F m) s hs = _
    unfold iY
    rw [bT (by omega), ln, hp2]
    have hG : ∀ k : UInt8 → UInt8 → Option (List (Bs × Bs) × Bs × Int), (cz (decide (2 ≤ (s.length : Int))) (bQ 0 s.length) <| lt (at_ s 0) fun x15 => cz ((decide (2 ≤ (s.length : Int))) && (decide (x15 = 13))) (bQ 1 s.length) <| lt (at_ s 1) fun x19 => k x15 x19) = k (gb s 0) (gb s 1) := fun k => by
      by_cases h2 : 2 ≤ s.length
      · rw [decide_eq_true (show 2 ≤ (s.length : Int) by omega), lx, bJ (by omega), aM, ef, show bQ 1 s.length = true from decide_eq_true (by omega)]
        have e0 : at_ s 0 = gb s 0 := rfl
        have e1 : at_ s 1 = gb s 1 := rfl
        rw [e0, e1]
        cases decide (gb s 0 = 13) <;> rfl
      · rw [decide_eq_false (show ¬ 2 ≤ (s.length : Int) by omega), dZ, aM, fw, dZ, aM]; rfl
    rw [hG]
    have e2 : decide (2 ≤ (s.length : Int)) = decide (2 ≤ s.length) := decide_eq_decide.2 (by omega)
    rw [e2, Bool.and_assoc]
    cases hp : (decide (2 ≤ s.length) && (decide (gb s 0 = 13) && decide (gb s 1 = 10))) with
    | true =>
      have h2 : 2 ≤ s.length := by
        simp only [Bool.and_eq_true, decide_eq_true_eq] at hp; exact hp.1
      rw [ctr, if_pos rfl, dI (by omega), aM, show (2 : Int) = ((2 : Nat) : Int) from rfl, eE, bc (by simp; omega)]
      simp [h50]
    | false =>
      rw [cfl, if_neg (by simp), end_eq F s (by omega) (by omega), bC]
      cases he : en s with
      | none => rw [decide_eq_true (show (-1 : Int) < 0 by omega), Bool.true_or, ctr]
      | some n =>
        have ⟨n1, n2⟩ := qi he
        dsimp only
        rw [decide_eq_false (show ¬ (n : Int) < 0 by omega), Bool.false_or]
        by_cases hh : hs.length = 50
        · rw [decide_eq_true (show (hs.length : Int) = 50 by omega), ctr]
          cases ln m (s.drop n) with
          | none => rfl
          | some z =>
            obtain ⟨l, r⟩ := z
            dsimp only
            rw [decide_eq_false (by simp; omega), fw, cfl]
        · rw [decide_eq_false (show ¬ (hs.length : Int) = 50 by omega), cfl, dI (by omega), aM, kw, rRead_eq F _ (by simp; omega) hF]
          have e : readOf (s.take n) = ((rdT (s.take n)).1, (rdT (s.take n)).2, (readOf (s.take n)).2.2) := rfl
          rw [e, eD]
          by_cases hz : (readOf (s.take n)).2.2 = 0
          · have hb : rdB (s.take n) = true := decide_eq_true hz
            rw [decide_eq_true hz, ntr, cfl, bc (by simp; omega), aM, dI (by omega), aM, eE, ih _ _ (by simp; omega) (by simp; omega) (by simp; omega)]
            cases ln m (s.drop n) with
            | none => rfl
            | some z =>
              obtain ⟨l, r⟩ := z
              dsimp only
              rw [List.all_cons, hb, ef, List.map_cons, List.append_assoc, List.length_append, List.length_cons, List.length_cons, List.length_nil]
              rw [show hs.length + (0 + 1) + l.length = hs.length + (l.length + 1) by omega]
              rfl
          · have hb : rdB (s.take n) = false := decide_eq_false hz
            rw [decide_eq_false hz, nfl, ctr]
            cases ln m (s.drop n) with
            | none => rfl
            | some z =>
              obtain ⟨l, r⟩ := z
              dsimp only
              rw [List.all_cons, hb, fw, Bool.and_false, cfl]
theorem rCut_eq (F : Nat) (hF : 900000 < F) (s : Bs) (hs : s.length ≤ 250000) : lC F s = some (fy s) := by
  have := xg F hF F s [] (by omega) hs (by simp)
  unfold lC fy lnOf
  refine Eq.trans this ?_
  rw [wD F (s.length + 1) s (by omega) (by omega)]
  cases ln (s.length + 1) s with
  | none => rfl
  | some z =>
    obtain ⟨l, r⟩ := z
    dsimp only
    rw [List.length_nil, Nat.zero_add, List.nil_append]
end Go.Hd
namespace Go.Pt
open Go.Pv Go.Av
open Go.Hd (fw ef nfl ntr cfl ctr bq cR Bs hp_take eQ dA)
open Go.Lib (decDigits)
theorem nD {n : Nat} (h : n < 10) : decDigits n = [UInt8.ofNat (48 + n)] := by rw [decDigits, dif_pos h]
theorem wk {n : Nat} (h : ¬ n < 10) : decDigits n = decDigits (n / 10) ++ [UInt8.ofNat (48 + n % 10)] := by rw [decDigits, dif_neg h]
theorem dg_sub (k : Nat) (h : k < 10) : sub ([48, 49, 50, 51, 52, 53, 54, 55, 56, 57] : Bs) (k : Int) ((k : Int) + 1) = [UInt8.ofNat (48 + k)] := by
  have : ∀ k : Fin 10, sub ([48, 49, 50, 51, 52, 53, 54, 55, 56, 57] : Bs) (k.val : Int) ((k.val : Int) + 1) = [UInt8.ofNat (48 + k.val)] := by decide +kernel
  exact this ⟨k, h⟩
theorem wj : ∀ (m n : Nat), n < m → (decDigits n).length ≤ n + 1 := by
  intro m
  induction m with
  | zero => intro n h; omega
  | succ m ih =>
    intro n h
    by_cases hn : n < 10
    · rw [nD hn]; simp
    · have := ih (n / 10) (by omega)
      rw [wk hn, List.length_append, List.length_singleton]; omega
theorem num_loop : ∀ (m n : Nat) (acc : Bs), n < m → n ≤ 1000000 → acc.length ≤ 10000000 - n → eZ m ((n : Int), acc) = some ((if n = 0 then [] else decDigits n) ++ acc) := by
  intro m
  induction m with
  | zero => intro n acc h; omega
  | succ m ih =>
    intro n acc hm hn ha;show fa (eZ m) (n : Int) acc = _
    unfold fa eY
    by_cases h : n = 0
    · rw [bF (by omega), if_pos h]; rfl
    · have e1 : (n : Int) % 10 = ((n % 10 : Nat) : Int) := by omega
      have e2 : (n : Int) / 10 = ((n / 10 : Nat) : Int) := by omega
      have hl : ([48, 49, 50, 51, 52, 53, 54, 55, 56, 57] : Bs).length = 10 := rfl
      rw [bT (by omega), ec (by omega), ec (by omega), e1, bl (by omega), hl, kz (by omega), aM, dg_sub _ (by omega), bc (by simp; omega), aM, ec (by omega), e2, ih (n / 10) _ (by omega) (by omega) (by simp; omega), if_neg h]
      by_cases h10 : n < 10
      · rw [if_pos (by omega), nD h10, Nat.mod_eq_of_lt h10]; rfl
      · rw [if_neg (by omega), wk h10, List.append_assoc]
theorem xO (F : Nat) (n : Nat) (hn : n ≤ 1000000) (hF : n < F) : je F (n : Int) = some (decDigits n) := by
  have e1 : (n : Int) % 10 = ((n % 10 : Nat) : Int) := by omega
  have e2 : (n : Int) / 10 = ((n / 10 : Nat) : Int) := by omega
  have hl : ([48, 49, 50, 51, 52, 53, 54, 55, 56, 57] : Bs).length = 10 := rfl
  unfold je
  rw [ec (by omega), ec (by omega), e1, bl (by omega), hl, kz (by omega), aM, dg_sub _ (by omega), ec (by omega), e2, num_loop F (n / 10) _ (by omega) (by omega) (by simp; omega)]
  by_cases h10 : n < 10
  · rw [if_pos (by omega), nD h10, Nat.mod_eq_of_lt h10]; rfl
  · rw [if_neg (by omega), wk h10]
theorem itoa_eq (n : Nat) : Go.Lib.itoa (n : Int) = decDigits n := by
  unfold Go.Lib.itoa
  rw [if_neg (by omega), Int.toNat_natCast]
theorem qY {r x : Bs} (h : r.length < x.length) : Go.Lib.index r x = -1 := Go.Lib.index_long (Nat.le_of_lt h) (fun e => by rw [e] at h; omega)
theorem pre_take (x r : Bs) (h : x.length ≤ r.length) : x.isPrefixOf r = decide (r.take x.length = x) := by
  have := hp_take (w := r) (p := x)
  rw [decide_eq_true h, ef] at this
  exact this
theorem at_loop (s x : Bs) (hs : s.length ≤ 1000000) (hx : 1 ≤ x.length) (hx2 : x.length ≤ 1000000) : ∀ (m i : Nat), s.length - i < m → i ≤ s.length + 1 →
    jT s x m (i : Int) = some (if Go.Lib.index (s.drop i) x = -1 then -1 else (i : Int) + Go.Lib.index (s.drop i) x) := by
  intro m
  induction m with
  | zero => intro i h; omega
  | succ m ih =>
    intro i hm hi;show jU s x (jT s x m) (i : Int) = _
    unfold jU jS
    have e1 : (i : Int) + (x.length : Int) = ((i + x.length : Nat) : Int) := by omega
    rw [e1, bl (by omega)]
    by_cases h : i + x.length ≤ s.length
    · have hd : s.drop i = s[i]'(by omega) :: s.drop (i + 1) := ar (by omega)
      have hsub : (s.take (i + x.length)).drop i = (s.drop i).take x.length := by rw [List.drop_take]; congr 1; omega
      have hp := pre_take x (s.drop i) (by simp; omega)
      rw [bT (by omega), bl (by omega), kz (by omega), aM, lm, hsub]
      have hix := eQ (s[i]'(by omega)) (s.drop (i + 1)) x
      rw [← hd] at hix
      by_cases hc : (s.drop i).take x.length = x
      · rw [decide_eq_true hc] at hp
        rw [if_pos hp] at hix
        rw [bT hc, hix, if_neg (by omega)]; simp
      · rw [decide_eq_false hc] at hp
        rw [if_neg (by rw [hp]; simp)] at hix
        rw [bF hc, bl (by omega), bg, ih (i + 1) (by omega) (by omega), hix]
        by_cases hm1 : Go.Lib.index (s.drop (i + 1)) x = -1
        · rw [if_pos hm1, if_pos hm1, if_pos rfl]
        · have hge := Go.Lib.index_ge (s.drop (i + 1)) x
          rw [if_neg hm1, if_neg hm1, if_neg (by omega)]
          congr 1; omega
    · have : Go.Lib.index (s.drop i) x = -1 := qY (by simp; omega)
      rw [bF (by omega), if_pos this]
theorem at_eq (F : Nat) (s x : Bs) (i : Nat) (hs : s.length ≤ 1000000) (hx : 1 ≤ x.length) (hx2 : x.length ≤ 1000000) (hi : i ≤ s.length) (hF : s.length < F) :
    kW F s x (i : Int) = some (if Go.Lib.index (s.drop i) x = -1 then -1 else (i : Int) + Go.Lib.index (s.drop i) x) := at_loop s x hs hx hx2 F i (by omega) (by omega)
def bd (n : Nat) : Bs := [61, 95] ++ decDigits n
def fnd (l : List Bs) (n : Nat) : Bool := l.any fun b => Go.Lib.contains b (bd n)
theorem bd_len (n : Nat) (h : n ≤ 100000) : 2 ≤ (bd n).length ∧ (bd n).length ≤ 200000 := by
  have := wj (n + 1) n (by omega)
  unfold bd
  rw [List.length_append]
  constructor
  · simp
  · simp; omega
theorem hasC_eq (F : Nat) (b x : Bs) (hb : b.length ≤ 1000000) (h2 : 2 ≤ x.length) (hx : x.length ≤ 1000000) : lF F b x = some (Go.Lib.contains b x) := by
  unfold lF
  rw [bc (by omega), mq (by omega), ns h2, mq (by omega), aM]
theorem xC (F : Nat) (l : List Bs) (x : Bs) (hl : l.length ≤ 1000000) (hb : ∀ b ∈ l, b.length ≤ 1000000) (h2 : 2 ≤ x.length) (hx : x.length ≤ 1000000) : ∀ (m i : Nat), l.length - i < m → i ≤ l.length →
    ∃ r : Int, fQ F l x m (i : Int) = some r ∧ decide (0 ≤ r) = (l.drop i).any (fun b => Go.Lib.contains b x) := by
  intro m
  induction m with
  | zero => intro i h; omega
  | succ m ih =>
    intro i hm hi;show ∃ r : Int, fR F l x (fQ F l x m) (i : Int) = some r ∧ _
    unfold fR fP
    by_cases h : i < l.length
    · have hd : l.drop i = l[i] :: l.drop (i + 1) := ar h
      rw [bT (by omega), bJ (by omega), aM, bP h, hasC_eq F _ x (hb _ (List.getElem_mem h)) h2 hx, bC, hd, List.any_cons]
      cases hc : Go.Lib.contains l[i] x with
      | true => exact ⟨(i : Int), rfl, by rw [decide_eq_true (by omega)]; rfl⟩
      | false =>
        obtain ⟨r, h1, h3⟩ := ih (i + 1) (by omega) (by omega);exact ⟨r, by rw [cfl, bl (by omega), bg, h1], by rw [h3, fo]⟩
    · rw [bF (by omega), aE (by omega)]
      exact ⟨-1, rfl, rfl⟩
theorem rQ (F : Nat) (l : List Bs) (x : Bs) (hl : l.length ≤ 1000000) (hF : l.length < F) (hb : ∀ b ∈ l, b.length ≤ 1000000) (h2 : 2 ≤ x.length) (hx : x.length ≤ 1000000) : ew F l x = some (l.any fun b => Go.Lib.contains b x) := by
  obtain ⟨r, h1, h3⟩ := xC F l x hl hb h2 hx F 0 (by omega) (by omega)
  rw [List.drop_zero] at h3
  unfold ew
  have h1' : la F l x = some r := h1
  rw [h1', bC, h3]
theorem bnd_loop (F : Nat) (l : List Bs) (hl : l.length ≤ 1000000) (hF : l.length < F) (hb : ∀ b ∈ l, b.length ≤ 1000000) (N : Nat) (hN : N ≤ 100000) (h0 : fnd l N = false) : ∀ (m i : Nat), N - i < m → i ≤ N → (∀ k, i ≤ k → k < N → fnd l k = true) → eh F l m (i : Int) = some (bd N) := by
  intro m
  induction m with
  | zero => intro i h; omega
  | succ m ih =>
    intro i hm hi hk;show ei F l (eh F l m) (i : Int) = _
    unfold ei
    have ⟨b1, b2⟩ := bd_len i (by omega)
    have hd := wj (i + 1) i (by omega)
    rw [bl (by omega), aM, itoa_eq, bc (by simp; omega), aM]
    show bnd (ew F l (bd i)) _ = _
    rw [rQ F l (bd i) hl hF hb b1 (by omega), bC]
    show (bif !(fnd l i) then some (bd i) else _) = _
    by_cases he : i = N
    · subst he; rw [h0]; rfl
    · rw [hk i (by omega) (by omega), ntr, cfl, bl (by omega), bg, ih (i + 1) (by omega) (by omega) (fun k h1 h2 => hk k (by omega) h2)]
theorem tI (F : Nat) (l : List Bs) (hl : l.length ≤ 1000000) (hF : l.length < F) (hb : ∀ b ∈ l, b.length ≤ 1000000) (N : Nat) (hN : N ≤ 100000) (hNF : N < F) (h0 : fnd l N = false) (hk : ∀ k, k < N → fnd l k = true) : gZ F l = some (bd N) :=
  bnd_loop F l hl hF hb N hN h0 F 0 (by omega) (by omega) (fun k _ h => hk k h)
theorem at_cont (F : Nat) (s x : Bs) (hs : s.length ≤ 1000000) (hx : 1 ≤ x.length) (hx2 : x.length ≤ 1000000) (hF : s.length < F) : ∃ r, kW F s x 0 = some r ∧ decide (0 ≤ r) = Go.Lib.contains s x := by
  have := at_eq F s x 0 hs hx hx2 (by omega) hF
  rw [List.drop_zero] at this
  refine ⟨_, this, ?_⟩
  have hge := Go.Lib.index_ge s x
  unfold Go.Lib.contains
  by_cases h : Go.Lib.index s x = -1
  · rw [if_pos h, h]
  · rw [if_neg h]
    exact decide_eq_decide.2 (by omega)
theorem rin_loop (F : Nat) (l : List Bs) (x : Bs) (y : Int) (rec5 : Int → Option Bs) (hl : l.length ≤ 1000000) (hb : ∀ b ∈ l, b.length ≤ 1000000) (hbF : ∀ b ∈ l, b.length < F) (hx : 1 ≤ x.length) (hx2 : x.length ≤ 1000000) : ∀ (m i : Nat) (f : Bool), l.length - i < m → i ≤ l.length →
    dP F l y rec5 x m (f, (i : Int)) = dp y rec5 x (f || (l.drop i).any (fun b => Go.Lib.contains b x)) := by
  intro m
  induction m with
  | zero => intro i f h; omega
  | succ m ih =>
    intro i f hm hi;show dR F l y rec5 x (dP F l y rec5 x m) f (i : Int) = _
    unfold dR
    by_cases h : i < l.length
    · have hd : l.drop i = l[i] :: l.drop (i + 1) := ar h
      have hmem := List.getElem_mem h
      obtain ⟨r, h1, h3⟩ := at_cont F l[i] x (hb _ hmem) hx hx2 (hbF _ hmem)
      have hA : ∀ (c : Bool) (k : Option Bs), cz c (bQ (i : Int) l.length) k = k := fun c k => by
        rw [show bQ (i : Int) l.length = true from decide_eq_true (by omega)]; cases c <;> rfl
      rw [bT (by omega), hA, aM, bP h, h1, xL, bl (by omega), bg, ih (i + 1) _ (by omega) (by omega), hd, List.any_cons]
      congr 1
      cases f with
      | true => rfl
      | false => rw [nfl, ctr, fo, fo, h3]
    · rw [bF (by omega), aE (by omega)]
      simp
theorem xj (F : Nat) (l : List Bs) (hl : l.length ≤ 1000000) (hF : l.length < F) (hb : ∀ b ∈ l, b.length ≤ 1000000) (hbF : ∀ b ∈ l, b.length < F) (N : Nat) (hN : N ≤ 100000) (hNF : N < F) (h0 : fnd l N = false) : ∀ (m i : Nat), N - i < m → i ≤ N → (∀ k, i ≤ k → k < N → fnd l k = true) → bU F l m (i : Int) = some (bd N) := by
  intro m
  induction m with
  | zero => intro i h; omega
  | succ m ih =>
    intro i hm hi hk;show dQ F l (bU F l m) (i : Int) = _
    unfold dQ
    have ⟨b1, b2⟩ := bd_len i (by omega)
    have hd := wj (i + 1) i (by omega)
    rw [xO F i (by omega) (by omega), bC, bc (by simp; omega), aM]
    have := rin_loop F l (bd i) (i : Int) (bU F l m) hl hb hbF (by omega) (by omega) F 0 false (by omega) (by omega)
    rw [List.drop_zero, fo] at this
    refine Eq.trans this ?_
    unfold dp dN
    show (bif !(fnd l i) then some (bd i) else _) = _
    by_cases he : i = N
    · subst he; rw [h0]; rfl
    · rw [hk i (by omega) (by omega), ntr, cfl, bl (by omega), bg, ih (i + 1) (by omega) (by omega) (fun k h1 h2 => hk k (by omega) h2)]
theorem rI (F : Nat) (l : List Bs) (hl : l.length ≤ 1000000) (hF : l.length < F) (hb : ∀ b ∈ l, b.length ≤ 1000000) (hbF : ∀ b ∈ l, b.length < F) (N : Nat) (hN : N ≤ 100000) (hNF : N < F) (h0 : fnd l N = false) (hk : ∀ k, k < N → fnd l k = true) : iP F l = some (bd N) :=
  xj F l hl hF hb hbF N hN hNF h0 F 0 (by omega) (by omega) (fun k _ h => hk k h)
def val (l : Bs) : Nat := l.foldl (fun a c => 10 * a + (c.toNat - 48)) 0
end Go.Pt
namespace Go.Pt
open Go.Pv Go.Av
open Go.Hd (fw ef nfl ntr cfl ctr bq cR Bs iA jv rV qZ)
def sg (c : UInt8) : Bool := (((((((decide ((97 : Int) ≤ (c.toNat : Int))) && (decide ((c.toNat : Int) ≤ (122 : Int)))) || ((decide ((48 : Int) ≤ (c.toNat : Int))) && (decide ((c.toNat : Int) ≤ (57 : Int))))) || (decide (c = 47))) || (decide (c = 45))) || (decide (c = 61))) || (decide (c = 59)))
def sgb (c : UInt8) : Bool := sg c || decide (c = 32)
theorem sgb_idx (c : UInt8) : decide (Go.Lib.indexByte nz c < 0) = !sgb c := by
  have := cR (fun c => decide (Go.Lib.indexByte nz c < 0) == !sgb c) (by decide +kernel) c
  exact eq_of_beq this
def dbl (x y : UInt8) : Bool := x == 32 && y == 32
def gC (s : Bs) : Bool := (s.all sgb && (!decide (s = []) && decide (s.length ≤ 60))) && ((decide (s.head? ≠ some 32) && decide (s.getLast? ≠ some 32)) && !iA dbl s)
theorem kind_j (s : Bs) : eN s = some ((!decide (s = []) && decide (s.length ≤ 60)) && ((decide (s.head? ≠ some 32) && decide (s.getLast? ≠ some 32)) && !iA dbl s)) := by
  unfold eN
  have e1 : decide ((s.length : Int) ≤ 60) = decide (s.length ≤ 60) := decide_eq_decide.2 (by omega)
  have hS : ∀ (x : Bool) (k : Option Bool), cz (((!decide (s = ([] : Bs))) && (decide ((s.length : Int) ≤ 60))) && x) (okS s.length) k = k := fun x k => by
    by_cases h : s.length ≤ 60
    · rw [show okS s.length = true from decide_eq_true (by omega)]; cases ((!decide (s = ([] : Bs))) && (decide ((s.length : Int) ≤ 60))) && x <;> rfl
    · rw [decide_eq_false (show ¬ (s.length : Int) ≤ 60 by omega), Bool.and_false, fw, dZ]
  have hS1 : ∀ (k : Option Bool), cz ((!decide (s = ([] : Bs))) && (decide ((s.length : Int) ≤ 60))) (okS s.length) k = k := fun k => by
    have := hS true k
    rwa [Bool.and_true] at this
  rw [hS1, aM, hS, aM, jv]
  have e2 : decide (Go.Lib.trimB s 32 = s) = (decide (s.head? ≠ some 32) && decide (s.getLast? ≠ some 32)) := by
    rw [← Bool.decide_and]; exact decide_eq_decide.2 (rV 32 s)
  rw [e1, e2, Bool.and_assoc ((!decide (s = ([] : Bs))) && (decide (s.length ≤ 60)))]
  rfl
theorem xy (s : Bs) (hs : s.length ≤ 1000000) : ∀ (n i : Nat), s.length - i < n → i ≤ s.length → jj s n (i : Int) = bif (s.drop i).all sgb then eN s else some false := by
  intro n
  induction n with
  | zero => intro i h; omega
  | succ n ih =>
    intro i hn hi;show jk s (jj s n) (i : Int) = _
    unfold jk
    by_cases h : i < s.length
    · have hd : s.drop i = s[i] :: s.drop (i + 1) := ar h
      rw [bT (by omega), bJ (by omega), aM, bP h, aM, sgb_idx, hd, List.all_cons]
      cases hp : sgb s[i] with
      | false => rw [nfl, ctr, fw, cfl]
      | true => rw [ntr, cfl, bl (by omega), bg, ih (i + 1) (by omega) (by omega), ef]
    · rw [bF (by omega), aE (by omega), List.all_nil, ctr]
theorem kind_eq (F : Nat) (s : Bs) (hs : s.length ≤ 1000000) (hF : s.length < F) : mP F s = some (gC s) := by
  have := xy s hs F 0 (by omega) (by omega)
  rw [List.drop_zero] at this
  refine Eq.trans this ?_
  rw [kind_j]
  unfold gC
  cases s.all sgb <;> rfl
def okp : Option UInt8 → Bool
  | none => false
  | some x => !decide (x = 32)
def rk (p : Option UInt8) : Bs → Bool
  | [] => true
  | c :: r => (sg c || ((decide (c = 32) && okp p) && !decide (r = []))) && rk (some c) r
theorem sg_32 : sg 32 = false := by decide +kernel
theorem ww : ∀ (r : Bs) (p : UInt8), rk (some p) r = ((r.all sgb && !iA dbl (p :: r)) && decide (r.getLast? ≠ some 32))
  | [], p => by simp [rk, iA]
  | c :: r, p => by
    have ih := ww r c
    have hl : r ≠ [] → (c :: r).getLast? = r.getLast? := fun h => by
      cases r with
      | nil => exact absurd rfl h
      | cons d t => rw [List.getLast?_cons_cons]
    rw [rk, ih, iA, List.all_cons]
    unfold sgb dbl okp
    by_cases hc : c = 32
    · rw [hc, sg_32]
      by_cases hr : r = []
      · subst hr; simp [iA]
      · have := hl hr
        rw [hc] at this
        rw [this, decide_eq_false hr]
        by_cases hp : p = 32
        · rw [hp]; simp
        · have : (p == 32) = false := by simpa using hp
          rw [this]
          dsimp only
          rw [decide_eq_false hp]
          simp
    · have h1 : (c == 32) = false := by simpa using hc
      rw [decide_eq_false hc, h1]
      simp only [fw, Bool.or_false, Bool.and_false, fo]
      by_cases hr : r = []
      · subst hr
        cases sg c <;> simp [iA, hc]
      · rw [hl hr]
        cases sg c <;> simp
theorem rk_none (s : Bs) (h : s ≠ []) : rk none s = (s.all sgb && ((decide (s.head? ≠ some 32) && decide (s.getLast? ≠ some 32)) && !iA dbl s)) := by
  cases s with
  | nil => exact absurd rfl h
  | cons c r =>
    have hl : r ≠ [] → (c :: r).getLast? = r.getLast? := fun h => by
      cases r with
      | nil => exact absurd rfl h
      | cons d t => rw [List.getLast?_cons_cons]
    rw [rk, ww, List.all_cons]
    unfold sgb okp
    by_cases hc : c = 32
    · rw [hc, sg_32]; simp
    · rw [decide_eq_false hc]
      simp only [fw, Bool.or_false]
      have : decide ((c :: r).head? ≠ some (32 : UInt8)) = true := decide_eq_true (fun e => hc (ak e))
      rw [this, ef]
      by_cases hr : r = []
      · subst hr; cases sg c <;> simp [iA, hc]
      · rw [hl hr]
        cases sg c <;> cases r.all (fun c => sg c || decide (c = 32)) <;> simp [Bool.and_comm]
theorem uu (s : Bs) (hs : s.length ≤ 1000000) : ∀ (n i : Nat), s.length - i < n → i ≤ s.length → fe s n (i : Int) = bif rk (Go.Hd.prev s i) (s.drop i) then dV s else some false := by
  intro n
  induction n with
  | zero => intro i h; omega
  | succ n ih =>
    intro i hn hi;show gE s (fe s n) (i : Int) = _
    unfold gE
    by_cases h : i < s.length
    · have hd : s.drop i = s[i] :: s.drop (i + 1) := ar h
      have hp : Go.Hd.prev s (i + 1) = some s[i] := by simp [Go.Hd.prev, h]
      have hrn : decide (s.drop (i + 1) = []) = !decide ((i : Int) < (s.length : Int) - 1) := by
        by_cases hl : i + 1 < s.length
        · rw [decide_eq_true (show (i : Int) < (s.length : Int) - 1 by omega)]
          exact decide_eq_false (fun e => by have := congrArg List.length e; simp at this; omega)
        · rw [decide_eq_false (show ¬ (i : Int) < (s.length : Int) - 1 by omega)]
          exact decide_eq_true (aE (by omega))
      have fin : ∀ b : Bool, b = (sg s[i] || ((decide (s[i] = 32) && okp (Go.Hd.prev s i)) && !decide (s.drop (i + 1) = []))) →
          (bif !b then some false else grd (okI ((i : Int) + 1)) (fe s n ((i : Int) + 1))) = bif rk (Go.Hd.prev s i) (s[i] :: s.drop (i + 1)) then dV s else some false := by
        intro b hb
        rw [rk, ← hb]
        cases b with
        | false => rw [nfl, ctr, fw, cfl]
        | true => rw [ntr, cfl, bl (by omega), bg, ih (i + 1) (by omega) (by omega), hp, ef]
      have hI : ∀ (c : Bool) (k : Option Bool), cz c (okI ((s.length : Int) - 1)) k = k := fun c k => by
        rw [show okI ((s.length : Int) - 1) = true from decide_eq_true (by omega)]; cases c <;> rfl
      have hI2 : ∀ (c : Bool) (k : Option Bool), cz c (okI ((i : Int) - 1)) k = k := fun c k => by
        rw [show okI ((i : Int) - 1) = true from decide_eq_true (by omega)]; cases c <;> rfl
      rw [bT (by omega), bJ (by omega), aM, bP h, hI, hI2, hd]
      have hn2 : ∀ (a b : Bool), ((!a) && (!b)) = !(a || b) := fun a b => by cases a <;> cases b <;> rfl
      by_cases h0 : i = 0
      · have d0 : decide ((0 : Int) < (i : Int)) = false := decide_eq_false (by omega)
        have ep : Go.Hd.prev s i = none := by unfold Go.Hd.prev; rw [if_pos h0]
        simp only [d0, Bool.and_false, fw, dZ, aM]
        rw [hn2]
        apply fin
        rw [ep]
        simp [sg, okp]
      · have d0 : decide ((0 : Int) < (i : Int)) = true := decide_eq_true (by omega)
        have e1 : (i : Int) - 1 = ((i - 1 : Nat) : Int) := by omega
        have ep : Go.Hd.prev s i = some s[i - 1] := by simp [Go.Hd.prev, h0]
        have hA : ∀ (c : Bool) (k : Option Bool), cz c (bQ ((i - 1 : Nat) : Int) s.length) k = k := fun c k => by
          rw [show bQ ((i - 1 : Nat) : Int) s.length = true from decide_eq_true (by omega)]; cases c <;> rfl
        rw [d0, Bool.and_true, e1, hA, aM, bP (by omega), hn2]
        apply fin
        rw [ep, hrn, Bool.not_not]
        show (sg s[i] || _) = _
        unfold okp
        dsimp only
        cases sg s[i] <;> cases decide (s[i] = 32) <;> cases decide ((i : Int) < (s.length : Int) - 1) <;> cases decide (s[i - 1] = 32) <;> rfl
    · rw [bF (by omega), aE (by omega), rk, ctr]
theorem rKind_eq (F : Nat) (s : Bs) (hs : s.length ≤ 1000000) (hF : s.length < F) : lR F s = some (gC s) := by
  have := uu s hs F 0 (by omega) (by omega)
  rw [List.drop_zero] at this
  refine Eq.trans this ?_
  have ep : Go.Hd.prev s 0 = none := rfl
  rw [ep]
  unfold gC dV
  by_cases h : s = []
  · subst h; rfl
  · have hl := List.length_pos_iff.2 h
    have e1 : decide ((s.length : Int) ≤ 60) = decide (s.length ≤ 60) := decide_eq_decide.2 (by omega)
    rw [rk_none s h, decide_eq_false h, decide_eq_true (show 1 ≤ (s.length : Int) by omega), ef, nfl, ef, e1]
    cases s.all sgb <;> cases (decide (s.head? ≠ some 32) && decide (s.getLast? ≠ some 32)) && !iA dbl s <;> simp
end Go.Pt
namespace Go.Hd
open Go.Pv Go.Av
theorem Line_all (F : Nat) (a b : Bs) (hF : 4200 < F) : iM F a b = some (if okLine a b = true then (cF a b, 0) else ([], 1)) := by
  by_cases h : a.length ≤ 40
  · exact sh F a b (by omega) (by omega) hF
  · have hn : okLine a b ≠ true := fun ho => h (okLine_s ho).2.2
    unfold iM kF
    rw [if_neg hn, decide_eq_false (show ¬ (a.length : Int) ≤ 40 by omega), wm, fw, bC]; rfl
def okX (x : Bs × Bs) : Bool := okLine x.1 x.2
def lnX (x : Bs × Bs) : Bs := cF x.1 x.2
theorem vX (F : Nat) (hF : 900000 < F) (l : List (Bs × Bs)) (hl : l.length ≤ 1000000) : ∀ (m i : Nat) (ls : List Bs), l.length - i < m → i ≤ l.length → ls.length ≤ i →
    iy F l m (ls, (i : Int)) = some (bif (l.drop i).all okX then (ls ++ (l.drop i).map lnX, 0) else ([], 1)) := by
  intro m
  induction m with
  | zero => intro i ls h; omega
  | succ m ih =>
    intro i ls hm hi hh;show iz F l (iy F l m) ls (i : Int) = _
    unfold iz ix
    by_cases h : i < l.length
    · have hd : l.drop i = l[i] :: l.drop (i + 1) := ar h
      rw [bT (by omega), bJ (by omega), aM, bP h, Line_all F _ _ (by omega), hd, List.all_cons]
      by_cases ho : okLine l[i].1 l[i].2 = true
      · have hb : okX l[i] = true := ho
        rw [if_pos ho, bR, decide_eq_true rfl, ntr, cfl, bc (by simp; omega), aM, bl (by omega), bg, ih (i + 1) _ (by omega) (by omega) (by simp; omega), hb, ef, List.map_cons, List.append_assoc]
        rfl
      · have hb : okX l[i] = false := by unfold okX; simpa using ho
        rw [if_neg ho, bR, decide_eq_false (show ¬ (1 : Int) = 0 by omega), nfl, ctr, hb, fw, cfl]
    · have hd : l.drop i = [] := aE (by omega)
      rw [bF (by omega), hd]; simp
def mh (l : List (Bs × Bs)) : Bs × Int := bif decide (l.length ≤ 50) then (bif l.all okX then ((l.map lnX).flatten ++ [13, 10], 0) else ([], 1)) else ([], 4)
theorem flat_len : ∀ (l : List (Bs × Bs)), (∀ x ∈ l, x.2.length ≤ 600) → l.all okX = true → ((l.map lnX).flatten).length ≤ 1900 * l.length
  | [], _, _ => by simp
  | x :: l, h, ha => by
    rw [List.all_cons, Bool.and_eq_true] at ha
    have := flat_len l (fun y hy => h y (by simp [hy])) ha.2
    have h1 := pE x.1 x.2 ha.1 (h x (by simp))
    rw [List.map_cons, List.flatten_cons, List.length_append, List.length_cons]
    have e : lnX x = cF x.1 x.2 := rfl
    rw [e]; omega
theorem All_eq (F : Nat) (hF : 900000 < F) (l : List (Bs × Bs)) (hx : ∀ x ∈ l, x.2.length ≤ 600) : lL F l = some (mh l) := by
  unfold lL mh
  by_cases h : l.length ≤ 50
  · have he : lZ F l = _ := vX F hF l (by omega) F 0 [] (by omega) (by omega) (by simp)
    rw [bF (by omega), decide_eq_true h, ctr, he, List.drop_zero]
    cases ha : l.all okX with
    | false => rw [cfl, cfl, bR, decide_eq_false (show ¬ (1 : Int) = 0 by omega), nfl, ctr]
    | true =>
      have hfl := flat_len l hx ha
      rw [ctr, ctr, bR, decide_eq_true rfl, ntr, cfl, List.nil_append]
      have hj : mW (l.map lnX) = true := by
        unfold mW
        rw [decide_eq_true (show ((l.map lnX).flatten).length ≤ 1000000000 by omega), decide_eq_true (show (l.map lnX).length ≤ 1000000000 by simp; omega)]
        cases l with
        | nil => rfl
        | cons x l =>
          have e : lnX x = cF x.1 x.2 := rfl
          have : ((x :: l).map lnX).flatten ≠ [] := by
            rw [List.map_cons, List.flatten_cons, e, lineOf_eq]; simp
          cases hf : ((x :: l).map lnX).flatten with
          | nil => exact absurd hf this
          | cons y r => simp
      rw [hj, oT, aM, bc (by simp only [List.length_append, List.length_cons, List.length_nil]; omega), aM]
  · rw [bT (by omega), decide_eq_false h, cfl]
theorem xk (F : Nat) (hF : 900000 < F) (l : List (Bs × Bs)) (hl : l.length ≤ 60) (hx : ∀ x ∈ l, x.1.length ≤ 100 ∧ x.2.length ≤ 600) : ∀ (m i : Nat) (o : Bs), l.length - i < m → i ≤ l.length → o.length ≤ 1900 * i →
    ja F l m (o, (i : Int)) = some (bif (l.drop i).all okX then (o ++ ((l.drop i).map lnX).flatten ++ [13, 10], 0) else ([], 1)) := by
  intro m
  induction m with
  | zero => intro i o h; omega
  | succ m ih =>
    intro i o hm hi hh;show jb F l (ja F l m) o (i : Int) = _
    unfold jb iZ
    by_cases h : i < l.length
    · have hd : l.drop i = l[i] :: l.drop (i + 1) := ar h
      have ⟨x1, x2⟩ := hx l[i] (List.getElem_mem h)
      rw [bT (by omega), bJ (by omega), aM, bP h, tM F _ _ (by omega) (by omega) (by omega), hd, List.all_cons]
      by_cases ho : okLine l[i].1 l[i].2 = true
      · have hb : okX l[i] = true := ho
        have hsh := pE _ _ ho x2
        rw [if_pos ho, bR, decide_eq_true rfl, ntr, cfl, bc (by omega), aM, bl (by omega), bg, ih (i + 1) _ (by omega) (by omega) (by simp; omega), hb, ef, List.map_cons, List.flatten_cons, List.append_assoc]
        have e : lnX l[i] = cF l[i].1 l[i].2 := rfl
        rw [e]
        simp
      · have hb : okX l[i] = false := by unfold okX; simpa using ho
        rw [if_neg ho, bR, decide_eq_false (show ¬ (1 : Int) = 0 by omega), nfl, ctr, hb, fw, cfl]
    · have hd : l.drop i = [] := aE (by omega)
      rw [bF (by omega), hd, bc (by simp; omega), aM]; simp
theorem rAll_eq (F : Nat) (hF : 900000 < F) (l : List (Bs × Bs)) (hx : ∀ x ∈ l, x.1.length ≤ 100 ∧ x.2.length ≤ 600) : kC F l = some (mh l) := by
  unfold kC mh
  by_cases h : l.length ≤ 50
  · have he := xk F hF l (by omega) hx F 0 [] (by omega) (by omega) (by simp)
    rw [bF (by omega), decide_eq_true h, ctr]
    refine Eq.trans he ?_
    rw [List.drop_zero, List.nil_append]
  · rw [bT (by omega), decide_eq_false h, cfl]
def fld : Bs → Bool
  | [] => true
  | c :: r => (decide (c ≠ 13) || (decide (r.head? = some 10) && decide ((r.drop 1).head? = some 32))) && fld r
theorem en_fld : ∀ (p r : Bs), fld p = true → r.head? ≠ some 32 → en (p ++ 13 :: 10 :: r) = some (p.length + 2)
  | [], r, h, hr => by
    show en (13 :: 10 :: r) = _
    rw [en, if_pos ⟨⟨rfl, rfl⟩, hr⟩]; rfl
  | c :: p, r, h, hr => by
    rw [fld, Bool.and_eq_true] at h
    have ih := en_fld p r h.2 hr
    show en (c :: (p ++ 13 :: 10 :: r)) = _
    have hn : ¬ ((c = 13 ∧ (p ++ 13 :: 10 :: r).head? = some 10) ∧ ((p ++ 13 :: 10 :: r).drop 1).head? ≠ some 32) := by
      intro hh
      have h1 := h.1
      rw [decide_eq_false (show ¬ c ≠ 13 from fun e => e hh.1.1), fo, Bool.and_eq_true, decide_eq_true_eq, decide_eq_true_eq] at h1
      match p, h1 with
      | [], h1 => cases h1.1
      | [d], h1 => cases h1.2
      | d :: e :: p, h1 => exact hh.2 h1.2
    rw [en, ih, if_neg hn]; rfl
theorem nB (r : Bs) : ∀ (w : Bs), (∀ c ∈ w, c ≠ 13) → fld (w ++ r) = fld r
  | [], _ => rfl
  | c :: w, h => by
    rw [List.cons_append, fld, decide_eq_true (h c (by simp)), Bool.true_or, ef, nB r w (fun x hx => h x (by simp [hx]))]
theorem nosp_13 {w : Bs} (h : noSp w) : ∀ c ∈ w, c ≠ 13 := fun c hc e => by
  have := h c hc
  rw [e] at this; revert this; decide
def body : Int → List Bs → Bs
  | _, [] => []
  | n, w :: ws => (cD (n, []) w).2 ++ body (cD (n, []) w).1 ws
theorem qP : ∀ (ws : List Bs) (n : Int), jE n ws = body n ws ++ [13, 10]
  | [], n => rfl
  | w :: ws, n => by rw [jE, body, qP ws, List.append_assoc]
theorem tW : ∀ (ws : List Bs) (n : Int), (∀ w ∈ ws, noSp w) → fld (body n ws) = true
  | [], n, _ => rfl
  | w :: ws, n, h => by
    have ih := tW ws (cD (n, []) w).1 (fun x hx => h x (by simp [hx]))
    have hw := nosp_13 (h w (by simp))
    rw [body]
    generalize hb : body (cD (n, []) w).1 ws = b at ih
    unfold cD
    by_cases hc : 76 < n + 1 + (w.length : Int)
    · rw [if_pos hc]
      show fld (13 :: 10 :: 32 :: (w ++ b)) = true
      rw [fld, fld, fld, nB b w hw, ih]; rfl
    · rw [if_neg hc]
      show fld (32 :: (w ++ b)) = true
      rw [fld, nB b w hw, ih]; rfl
theorem wC {a : Bs} (h : nameB a = true) : ∀ c ∈ a, c ≠ 13 := by
  unfold nameB at h
  simp only [Bool.and_eq_true] at h
  intro c hc e
  have := List.all_eq_true.1 h.1.1 c hc
  rw [e] at this
  revert this; decide
theorem line_end (a b r : Bs) (h : okLine a b = true) (hr : r.head? ≠ some 32) : en (cF a b ++ r) = some (cF a b).length ∧ Go.Lib.hasPrefix (cF a b ++ r) [13, 10] = false := by
  have hn := (okLine_s h).1
  have h2 := (ou b).2
  have e : cF a b = ((a ++ [58]) ++ body ((a.length + 1 : Nat) : Int) (cL b)) ++ [13, 10] := by
    rw [lineOf_eq, qP]; simp
  have hf : fld ((a ++ [58]) ++ body ((a.length + 1 : Nat) : Int) (cL b)) = true := by
    rw [nB _ (a ++ [58]) (by
      intro c hc
      rcases List.mem_append.1 hc with hc | hc
      · exact wC hn c hc
      · have : c = 58 := by simpa using hc
        rw [this]; decide)]
    exact tW _ _ (fun w hw => (h2 w hw).1)
  constructor
  · rw [e, List.append_assoc]
    have := en_fld ((a ++ [58]) ++ body ((a.length + 1 : Nat) : Int) (cL b)) r hf hr
    refine Eq.trans this ?_
    rw [List.length_append (bs := [13, 10])]; rfl
  · rw [lineOf_eq]
    cases a with
    | nil => unfold nameB at hn; simp at hn
    | cons c a =>
      have := wC hn c (by simp)
      unfold Go.Lib.hasPrefix
      simp only [List.cons_append, List.isPrefixOf]
      rw [Bool.and_eq_false_iff]
      left
      simpa using fun e => this e.symm
theorem uM (t : Bs) : ∀ (l : List (Bs × Bs)) (m : Nat), l.all okX = true → ((l.map lnX).flatten ++ [13, 10] ++ t).length < m → ln m ((l.map lnX).flatten ++ [13, 10] ++ t) = some (l.map lnX, t) := by
  intro l
  induction l with
  | nil =>
    intro m ha hm;obtain ⟨m, rfl⟩ : ∃ k, m = k + 1 := ⟨m - 1, by omega⟩;show ln (m + 1) (13 :: 10 :: t) = _
    have hp : Go.Lib.hasPrefix (13 :: 10 :: t) [13, 10] = true := by simp [Go.Lib.hasPrefix, List.isPrefixOf]
    rw [ln, if_pos hp]; rfl
  | cons x l ih =>
    intro m ha hm
    rw [List.all_cons, Bool.and_eq_true] at ha
    obtain ⟨m, rfl⟩ : ∃ k, m = k + 1 := ⟨m - 1, by omega⟩
    have e : ((x :: l).map lnX).flatten ++ [13, 10] ++ t = cF x.1 x.2 ++ ((l.map lnX).flatten ++ [13, 10] ++ t) := by
      rw [List.map_cons, List.flatten_cons, List.append_assoc, List.append_assoc, List.append_assoc]; rfl
    have hr : ((l.map lnX).flatten ++ [13, 10] ++ t).head? ≠ some 32 := by
      cases l with
      | nil => simp
      | cons y l =>
        have hy := ha.2
        rw [List.all_cons, Bool.and_eq_true] at hy
        have hn := (okLine_s hy.1).1
        have ey : lnX y = cF y.1 y.2 := rfl
        rw [List.map_cons, List.flatten_cons, ey, lineOf_eq]
        cases hy1 : y.1 with
        | nil => rw [hy1] at hn; unfold nameB at hn; simp at hn
        | cons c a =>
          rw [hy1] at hn
          simp only [List.cons_append, List.head?_cons]
          intro e
          unfold nameB at hn
          simp only [Bool.and_eq_true, List.all_cons] at hn
          have := hn.1.1.1
          rw [ak e] at this
          revert this; decide
    have ⟨h1, h2⟩ := line_end x.1 x.2 _ ha.1 hr
    rw [e] at hm ⊢
    rw [List.length_append] at hm
    have hl2 := (qi h1).1
    rw [ln, h2, if_neg (by simp), h1]
    dsimp only
    rw [List.take_left' rfl, List.drop_left' rfl, ih m ha.2 (by omega)]
    rfl
theorem cut_all (l : List (Bs × Bs)) (t : Bs) (hl : l.length ≤ 50) (ha : l.all okX = true) : fy ((l.map lnX).flatten ++ [13, 10] ++ t) = (l, t, 0) := by
  have hr : ∀ x : Bs × Bs, okX x = true → readOf (lnX x) = (x.1, x.2, 0) := fun x hx => xe x.1 x.2 hx
  have h1 : (l.map lnX).all rdB = true := by
    rw [List.all_map, List.all_eq_true]
    intro x hx
    have := hr x (List.all_eq_true.1 ha x hx)
    show rdB (lnX x) = true
    unfold rdB; rw [this]; rfl
  have h2 : (l.map lnX).map rdT = l := by
    rw [List.map_map]
    conv => rhs; rw [← List.map_id l]
    refine List.map_congr_left fun x hx => ?_
    have := hr x (List.all_eq_true.1 ha x hx)
    show rdT (lnX x) = x
    unfold rdT; rw [this]
  unfold fy lnOf
  rw [uM t l _ ha (Nat.lt_succ_self _)]
  dsimp only
  rw [decide_eq_true (show (l.map lnX).length ≤ 50 by simpa using hl), h1, ef, ctr, h2]
end Go.Hd
namespace Go.Pt
open Go.Pv Go.Av
open Go.Hd (fw ef nfl ntr cfl ctr bq cR Bs dA mh)
def okn (c : UInt8) : Option UInt8 → Bool
  | none => decide (c ≠ 61)
  | some d => decide (c ≠ 61) || decide (d ≠ 95)
def sf : Bs → Bool
  | [] => true
  | c :: r => okn c r.head? && sf r
theorem pZ : ∀ (a b : Bs), sf a = true → sf b = true → sf (a ++ b) = true
  | [], b, _, h => h
  | [c], b, h, g => by
    rw [sf, Bool.and_eq_true] at h
    have hc : c ≠ 61 := of_decide_eq_true h.1
    show sf (c :: b) = true
    rw [sf, g, Bool.and_true]
    cases b with
    | nil => exact decide_eq_true hc
    | cons d t => show (decide (c ≠ 61) || _) = true; rw [decide_eq_true hc]; rfl
  | c :: d :: r, b, h, g => by
    rw [sf, Bool.and_eq_true] at h
    show sf (c :: d :: (r ++ b)) = true
    rw [sf, Bool.and_eq_true]
    exact ⟨h.1, pZ (d :: r) b h.2 g⟩
theorem wu (x : Bs) : ∀ s : Bs, sf s = true → Go.Lib.contains s ([61, 95] ++ x) = false
  | [], _ => by
    unfold Go.Lib.contains
    rw [qY (r := []) (by simp)]; rfl
  | c :: r, h => by
    rw [sf, Bool.and_eq_true] at h
    rw [dA, wu x r h.2, Bool.or_false]
    cases r with
    | nil => simp [List.isPrefixOf]
    | cons d t =>
      have h1 : (decide (c ≠ 61) || decide (d ≠ 95)) = true := h.1
      show ((61 == c) && ((95 == d) && _)) = false
      by_cases hc : c = 61
      · subst hc
        have hd : d ≠ 95 := by simpa using h1
        have : ((95 : UInt8) == d) = false := by simpa using fun e => hd e.symm
        rw [this]; simp
      · have : ((61 : UInt8) == c) = false := by simpa using fun e => hc e.symm
        rw [this]; rfl
theorem dg_ne (n : Nat) (h : n < 16) : Qp.dg n ≠ 95 ∧ Qp.dg n ≠ 61 := by
  have : ∀ k : Fin 16, Qp.dg k.val ≠ 95 ∧ Qp.dg k.val ≠ 61 := by decide +kernel
  exact this ⟨n, h⟩
theorem wv (c : UInt8) (r : Bs) : sf (Qp.code c r) = true := by
  rcases Qp.code_cases c r with ⟨_, e, h61, _⟩ | e
  · rw [e]
    have : c ≠ 61 := fun hh => h61 (by rw [hh]; rfl)
    simp [sf, okn, this]
  · rw [show Qp.code c r = [61, Qp.dg (c.toNat / 16), Qp.dg (c.toNat % 16)] from by first | exact e | exact e.1]
    have h8 := c.toNat_lt
    have ⟨a1, a2⟩ := dg_ne (c.toNat / 16) (by omega)
    have ⟨b1, b2⟩ := dg_ne (c.toNat % 16) (by omega)
    simp [sf, okn, a1, a2, b2]
theorem si : ∀ (b : Bs) (n : Nat), sf (Qp.enc n b) = true
  | [], n => by simp [Qp.enc, sf]
  | c :: r, n => by
    rw [Qp.enc]
    split
    · exact pZ _ _ (by decide) (si r 0)
    · refine pZ _ _ ?_ (si r _)
      unfold Qp.put
      split
      · exact pZ _ _ (by decide) (wv c r)
      · exact wv c r
theorem wK (l : List Bs) : fnd (l.map (Qp.enc 0)) 0 = false := by
  unfold fnd
  rw [List.any_map, List.any_eq_false]
  intro b hb
  have := wu (Go.Lib.decDigits 0) (Qp.enc 0 b) (si b 0)
  show ¬ Go.Lib.contains (Qp.enc 0 b) (bd 0) = true
  rw [show bd 0 = [61, 95] ++ Go.Lib.decDigits 0 from rfl, this]; simp
theorem bd0 : bd 0 = [61, 95, 48] := by
  unfold bd
  rw [nD (by omega)]; rfl
def ct : Bs := [67, 111, 110, 116, 101, 110, 116, 45, 84, 121, 112, 101]
def qpn : Bs := [113, 117, 111, 116, 101, 100, 45, 112, 114, 105, 110, 116, 97, 98, 108, 101]
theorem k2_eq : lK = parta_k2 := by decide +kernel
def hs2 (k : Bs) : List (Bs × Bs) := [(ct, k), (parta_k2, qpn)]
def hdr (k : Bs) : Bs := (mh (hs2 k)).1
theorem wh (k : Bs) (hk : k.length ≤ 600) : ∀ x ∈ hs2 k, x.1.length ≤ 100 ∧ x.2.length ≤ 600 := by
  have h2 : parta_k2.length = 25 := by decide +kernel
  intro x hx
  simp only [hs2, List.mem_cons, List.not_mem_nil, or_false] at hx
  rcases hx with rfl | rfl
  · exact ⟨by simp [ct], hk⟩
  · exact ⟨by rw [h2]; omega, by simp [qpn]⟩
theorem se (k : Bs) (hk : k.length ≤ 600) : (hdr k).length ≤ 4000 := by
  unfold hdr mh
  have hf := Go.Hd.flat_len (hs2 k) (fun x hx => (wh k hk x hx).2)
  cases h : (hs2 k).all Go.Hd.okX with
  | false => cases decide ((hs2 k).length ≤ 50) <;> simp
  | true =>
    have := hf h
    have h2 : (hs2 k).length = 2 := rfl
    cases decide ((hs2 k).length ≤ 50)
    · simp
    · rw [ctr, ctr]
      dsimp only
      simp only [List.length_append, List.length_cons, List.length_nil]
      omega
def qM (x k c : Bs) : Bs := ([45, 45] ++ x ++ [13, 10]) ++ hdr k ++ c ++ [13, 10]
theorem put_eq1 (F : Nat) (hF : 900000 < F) (o x k c : Bs) (ho : o.length ≤ 10000000) (hx : x.length ≤ 1000000) (hk : k.length ≤ 600) (hc : c.length ≤ 10000000) : mG F o x k c = some (o ++ qM x k c) := by
  have hl := se k hk
  have hA := Go.Hd.All_eq F hF (hs2 k) (fun y hy => (wh k hk y hy).2)
  unfold mG kd
  have e : lL F ([(([67, 111, 110, 116, 101, 110, 116, 45, 84, 121, 112, 101] : Bs), k), (parta_k2, ([113, 117, 111, 116, 101, 100, 45, 112, 114, 105, 110, 116, 97, 98, 108, 101] : Bs))] : List (Bs × Bs)) = some (hdr k, (mh (hs2 k)).2) := hA
  rw [e, bR]
  simp (disch := (first | omega | (simp only [List.length_append, List.length_cons, List.length_nil]; omega))) only [bc, aM]
  unfold qM
  simp
def fr (x : Bs) : Bs := [45, 45] ++ x ++ [45, 45] ++ [13, 10]
def body (x : Bs) : List Bs → List Bs → Bs
  | k :: ks, c :: cs => qM x k c ++ body x ks cs
  | _, _ => []
theorem xA (F : Nat) (hF : 900000 < F) (ks cs : List Bs) (x : Bs) (hx : x.length ≤ 1000) (hl : ks.length = cs.length) (h8 : cs.length ≤ 8) (hk : ∀ k ∈ ks, k.length ≤ 600) (hc : ∀ c ∈ cs, c.length ≤ 600000) : ∀ (m i : Nat) (o : Bs), cs.length - i < m → i ≤ cs.length → o.length ≤ 610000 * i →
    jo F ks cs x m ((i : Int), o) = some (o ++ body x (ks.drop i) (cs.drop i) ++ fr x, x, 0) := by
  intro m
  induction m with
  | zero => intro i o h; omega
  | succ m ih =>
    intro i o hm hi ho;show jq F ks cs x (jo F ks cs x m) (i : Int) o = _
    unfold jq
    by_cases h : i < cs.length
    · have hd : cs.drop i = cs[i] :: cs.drop (i + 1) := ar h
      have hd2 : ks.drop i = ks[i]'(by omega) :: ks.drop (i + 1) := ar (by omega)
      have hkl := hk _ (List.getElem_mem (show i < ks.length by omega))
      have hcl := hc _ (List.getElem_mem h)
      have hh := se _ hkl
      have hol : (qM x (ks[i]'(by omega)) cs[i]).length ≤ 610000 := by unfold qM; simp only [List.length_append, List.length_cons, List.length_nil]; omega
      rw [bT (by omega), bJ (by omega), aM, bP h, bJ (by omega), aM, bP (by omega), put_eq1 F hF o x _ _ (by omega) (by omega) hkl (by omega), bC, bl (by omega), bg, ih (i + 1) _ (by omega) (by omega) (by rw [List.length_append]; omega), hd, hd2, body]
      simp only [List.append_assoc]
    · rw [bF (by omega), aE (show cs.length ≤ i by omega)]
      have hb : body x (ks.drop i) [] = [] := by cases ks.drop i <;> rfl
      unfold jl
      rw [hb]
      simp (disch := (first | omega | (simp only [List.length_append, List.length_cons, List.length_nil]; omega))) only [bc, aM]
      unfold fr
      simp
def rS (ks l : List Bs) : Bs := body (bd 0) ks (l.map (Qp.enc 0)) ++ fr (bd 0)
def okJ (ks l : List Bs) : Bool := (decide (ks.length = l.length) && (!decide (l.length = 0) && decide (l.length ≤ 8))) && ks.all gC
def cO (ks l : List Bs) : Bs × Bs × Int := bif okJ ks l then (rS ks l, bd 0, 0) else ([], [], 1)
theorem og {k : Bs} (h : gC k = true) : k.length ≤ 60 := by
  unfold gC at h
  simp only [Bool.and_eq_true, decide_eq_true_eq] at h
  exact h.1.2.2
theorem xB (F : Nat) (l : List Bs) (hl : l.length ≤ 1000000) (hb : ∀ b ∈ l, b.length ≤ 1000000 ∧ b.length < F) : ∀ (m i : Nat), l.length - i < m → i ≤ l.length →
    ∃ r : Int, fN F l m (i : Int) = some r ∧ decide (0 ≤ r) = !(l.drop i).all gC := by
  intro m
  induction m with
  | zero => intro i h; omega
  | succ m ih =>
    intro i hm hi;show ∃ r : Int, fO F l (fN F l m) (i : Int) = some r ∧ _
    unfold fO fM mO
    by_cases h : i < l.length
    · have hd : l.drop i = l[i] :: l.drop (i + 1) := ar h
      have ⟨h1, h2⟩ := hb _ (List.getElem_mem h)
      rw [bT (by omega), bJ (by omega), aM, bP h, kind_eq F _ h1 h2, bC, bC, hd, List.all_cons]
      cases hc : gC l[i] with
      | false => exact ⟨(i : Int), rfl, by rw [decide_eq_true (by omega)]; rfl⟩
      | true =>
        obtain ⟨r, h1, h3⟩ := ih (i + 1) (by omega) (by omega);exact ⟨r, by rw [ntr, cfl, bl (by omega), bg, h1], by rw [h3, ef]⟩
    · rw [bF (by omega), aE (by omega)]
      exact ⟨-1, rfl, rfl⟩
theorem rP (F : Nat) (l : List Bs) (hl : l.length ≤ 1000000) (hF : l.length < F) (hb : ∀ b ∈ l, b.length ≤ 1000000 ∧ b.length < F) : fS F l = some (!l.all gC) := by
  obtain ⟨r, h1, h3⟩ := xB F l hl hb F 0 (by omega) (by omega)
  rw [List.drop_zero] at h3
  unfold fS
  have h1' : kZ F l = some r := h1
  rw [h1', bC, h3]
theorem xF (F : Nat) (hF : 1000000 < F) (ks l : List Bs) (hl : l.length ≤ 8) (hb : ∀ b ∈ l, b.length ≤ 100000) : ∀ (m i : Nat) (cs : List Bs), l.length - i < m → i ≤ l.length → cs.length ≤ i →
    jm F ks l m (cs, (i : Int)) = gl F ks (cs ++ (l.drop i).map (Qp.enc 0)) := by
  intro m
  induction m with
  | zero => intro i cs h; omega
  | succ m ih =>
    intro i cs hm hi hc;show jp F ks l (jm F ks l m) cs (i : Int) = _
    unfold jp
    by_cases h : i < l.length
    · have hd : l.drop i = l[i] :: l.drop (i + 1) := ar h
      have := hb _ (List.getElem_mem h)
      rw [bT (by omega), bJ (by omega), aM, bP h, xP F _ (by omega) (by omega), bC, bc (by simp; omega), aM, bl (by omega), bg, ih (i + 1) _ (by omega) (by omega) (by simp; omega), hd, List.map_cons, List.append_assoc]
      rfl
    · rw [bF (by omega), aE (by omega), List.map_nil, List.append_nil]
theorem enc_in (l : List Bs) (hb : ∀ b ∈ l, b.length ≤ 100000) : ∀ c ∈ l.map (Qp.enc 0), c.length ≤ 600000 := fun c hc => by
  obtain ⟨b, hb1, rfl⟩ := List.mem_map.1 hc
  have := Qp.enc_length b 0
  have := hb b hb1
  omega
theorem Join_eq (F : Nat) (hF : 1000000 < F) (ks l : List Bs) (hk : ∀ k ∈ ks, k.length ≤ 100000) (hb : ∀ b ∈ l, b.length ≤ 100000) : kE F ks l = some (cO ks l) := by
  unfold kE cO okJ
  have e1 : decide ((ks.length : Int) = (l.length : Int)) = decide (ks.length = l.length) := decide_eq_decide.2 (by omega)
  have e2 : decide ((l.length : Int) = 0) = decide (l.length = 0) := decide_eq_decide.2 (by omega)
  have e3 : decide (8 < (l.length : Int)) = !decide (l.length ≤ 8) := by
    by_cases h : l.length ≤ 8
    · rw [decide_eq_true h, decide_eq_false (by omega)]; rfl
    · rw [decide_eq_false h, decide_eq_true (by omega)]; rfl
  rw [e1, e2, e3]
  by_cases hc : ks.length = l.length ∧ l.length ≠ 0 ∧ l.length ≤ 8
  · rw [decide_eq_true hc.1, decide_eq_false hc.2.1, decide_eq_true hc.2.2]
    have hK := rP F ks (by omega) (by omega) (fun k h => by have := hk k h; omega)
    simp only [ntr, nfl, fo, ef]
    rw [wl, hK, bC]
    cases ha : ks.all gC with
    | false => rfl
    | true =>
      rw [ntr, cfl, ctr]
      have h1 := xF F hF ks l hc.2.2 hb F 0 [] (by omega) (by omega) (by simp)
      refine Eq.trans h1 ?_
      rw [List.nil_append, List.drop_zero]
      unfold gl
      have hcs := enc_in l hb
      have hlen : (l.map (Qp.enc 0)).length = l.length := List.length_map _
      rw [tI F _ (by omega) (by omega) (fun b hb => by have := hcs b hb; omega) 0 (by omega) (by omega) (wK l) (fun k h => by omega), bC]
      have hkk : ∀ k ∈ ks, k.length ≤ 600 := fun k h => by have := og (List.all_eq_true.1 ha k h); omega
      have hb0 : (bd 0).length ≤ 1000 := by rw [bd0]; simp
      have h2 := xA F (by omega) ks (l.map (Qp.enc 0)) (bd 0) hb0 (by omega) (by omega) hkk hcs F 0 [] (by omega) (by omega) (by simp)
      refine Eq.trans h2 ?_
      rw [List.nil_append, List.drop_zero, List.drop_zero]; rfl
  · have hf : (decide (ks.length = l.length) && (!decide (l.length = 0) && decide (l.length ≤ 8))) = false := by
      by_cases h1 : ks.length = l.length
      · by_cases h2 : l.length = 0
        · rw [decide_eq_true h2]; simp
        · rw [decide_eq_false (show ¬ l.length ≤ 8 from fun h3 => hc ⟨h1, h2, h3⟩)]; simp
      · rw [decide_eq_false h1]; rfl
    have hg : (((!decide (ks.length = l.length)) || (decide (l.length = 0))) || (!decide (l.length ≤ 8))) = true := by
      have : (((!decide (ks.length = l.length)) || (decide (l.length = 0))) || (!decide (l.length ≤ 8))) = !(decide (ks.length = l.length) && (!decide (l.length = 0) && decide (l.length ≤ 8))) := by
        cases decide (ks.length = l.length) <;> cases decide (l.length = 0) <;> cases decide (l.length ≤ 8) <;> rfl
      rw [this, hf]; rfl
    rw [hg, hf, ntr, wm, Bool.true_or, ctr, fw, cfl]
end Go.Pt
namespace Go.Pt
open Go.Pv Go.Av
open Go.Hd (fw ef nfl ntr cfl ctr bq cR Bs dA mh eQ fy)
noncomputable def mg (c : Bs) : Option (Bs × Bs) :=
  if ((fy c).2.2 = 0 ∧ (fy c).1.length = 2) ∧ 2 ≤ (fy c).2.1.length then
    (match Qp.decode ((fy c).2.1.take ((fy c).2.1.length - 2)) with
    | some x => some (((fy c).1.getD 0 ([], [])).2, x)
    | none => none)
  else none
theorem pY (c : Bs) : (fy c).2.1.length ≤ c.length := by
  unfold fy Go.Hd.lnOf
  cases h : Go.Hd.ln (c.length + 1) c with
  | none => simp
  | some z =>
    obtain ⟨l, r⟩ := z
    have := Go.Hd.ln_sum _ _ h
    dsimp only
    cases (decide (l.length ≤ 50) && l.all Go.Hd.rdB)
    · rw [cfl]; simp
    · rw [ctr]; dsimp only; omega
theorem one_eq (F : Nat) (hF : 1000000 < F) (c : Bs) (hc : c.length ≤ 250000) : ∃ k x f, mH F c = some (k, x, f) ∧ (f = true → mg c = some (k, x)) ∧ (f = false → mg c = none) := by
  unfold mH mg
  have hr := pY c
  rw [Go.Hd.Cut_eq F (by omega) c hc]
  generalize fy c = z at hr
  obtain ⟨h, r, e⟩ := z
  dsimp only at hr
  rw [eD]
  dsimp only
  by_cases hz : (e = 0 ∧ h.length = 2) ∧ 2 ≤ r.length
  · have e2 : (r.length : Int) - 2 = ((r.length - 2 : Nat) : Int) := by omega
    rw [decide_eq_true hz.1.1, decide_eq_true (show (h.length : Int) = 2 by omega), decide_eq_false (show ¬ (r.length : Int) < 2 by omega), if_pos hz]
    simp only [ntr, fo, cfl]
    rw [bl (by omega), dI (by omega), aM, e2, kw, xQ F _ (by simp; omega) (by simp; omega)]
    cases hd : Qp.decode (r.take (r.length - 2)) with
    | none =>
      refine ⟨(at_ h 0).2, [], false, ?_, fun h => (by cases h), fun _ => rfl⟩;show kV (some (([] : Bs), (2 : Int))) _ = _
      rw [bR, bJ (by omega), aM]; rfl
    | some x =>
      refine ⟨(h.getD 0 ([], [])).2, x, true, ?_, fun _ => rfl, fun h => (by cases h)⟩;show kV (some (([] : Bs) ++ x, (0 : Int))) _ = _
      rw [bR, bJ (by omega), aM, List.nil_append, decide_eq_true rfl]
      have ea : at_ h 0 = h.getD 0 ([], []) := rfl
      rw [ea]
  · rw [if_neg hz]
    have : (((!decide (e = 0)) || (!decide ((h.length : Int) = 2))) || (decide ((r.length : Int) < 2))) = true := by
      by_cases h1 : e = 0
      · by_cases h2 : h.length = 2
        · rw [decide_eq_true (show (r.length : Int) < 2 by have : ¬ 2 ≤ r.length := fun h3 => hz ⟨⟨h1, h2⟩, h3⟩; omega)]; simp
        · rw [decide_eq_false (show ¬ (h.length : Int) = 2 by omega)]; simp
      · rw [decide_eq_false h1]; rfl
    rw [this, ctr]
    exact ⟨[], [], false, rfl, fun h => (by cases h), fun _ => rfl⟩
theorem rone_eq (F : Nat) (hF : 1000000 < F) (c : Bs) (hc : c.length ≤ 250000) : ∃ k x f, lB F c = some (k, x, f) ∧ (f = true → mg c = some (k, x)) ∧ (f = false → mg c = none) := by
  unfold lB mg
  have hr := pY c
  rw [bc (by omega), Go.Hd.rCut_eq F (by omega) c hc]
  generalize fy c = z at hr
  obtain ⟨h, r, e⟩ := z
  dsimp only at hr
  rw [eD]
  dsimp only
  by_cases hz : (e = 0 ∧ h.length = 2) ∧ 2 ≤ r.length
  · have e2 : (r.length : Int) - 2 = ((r.length - 2 : Nat) : Int) := by omega
    rw [decide_eq_true hz.1.1, decide_eq_true (show (h.length : Int) = 2 by omega), decide_eq_false (show ¬ (r.length : Int) < 2 by omega), if_pos hz]
    simp only [ntr, fo, cfl]
    rw [bl (by omega), dI (by omega), aM, e2, kw, uC F _ (by simp; omega) (by simp; omega)]
    cases hd : Qp.decode (r.take (r.length - 2)) with
    | none =>
      refine ⟨(at_ h 0).2, [], false, ?_, fun h => (by cases h), fun _ => rfl⟩;show kV (some (([] : Bs), (2 : Int))) _ = _
      rw [bR, bJ (by omega), aM]; rfl
    | some x =>
      refine ⟨(h.getD 0 ([], [])).2, x, true, ?_, fun _ => rfl, fun h => (by cases h)⟩;show kV (some (([] : Bs) ++ x, (0 : Int))) _ = _
      rw [bR, bJ (by omega), aM, List.nil_append, decide_eq_true rfl]
      have ea : at_ h 0 = h.getD 0 ([], []) := rfl
      rw [ea]
  · rw [if_neg hz]
    have : (((!decide (e = 0)) || (!decide ((h.length : Int) = 2))) || (decide ((r.length : Int) < 2))) = true := by
      by_cases h1 : e = 0
      · by_cases h2 : h.length = 2
        · rw [decide_eq_true (show (r.length : Int) < 2 by have : ¬ 2 ≤ r.length := fun h3 => hz ⟨⟨h1, h2⟩, h3⟩; omega)]; simp
        · rw [decide_eq_false (show ¬ (h.length : Int) = 2 by omega)]; simp
      · rw [decide_eq_false h1]; rfl
    rw [this, ctr]
    exact ⟨[], [], false, rfl, fun h => (by cases h), fun _ => rfl⟩
theorem one_len {c k x : Bs} (h : mg c = some (k, x)) : k.length ≤ 4000 ∧ x.length ≤ c.length := by
  unfold mg at h
  split at h
  · rename_i hz
    have hr := pY c
    cases hd : Qp.decode ((fy c).2.1.take ((fy c).2.1.length - 2)) with
    | none => rw [hd] at h; cases h
    | some y =>
      rw [hd] at h
      have h1 := (Prod.mk.inj (ak h)).1
      have h2 := (Prod.mk.inj (ak h)).2
      have hl := Qp.decode_len ((fy c).2.1.take ((fy c).2.1.length - 2))
      rw [hd] at hl
      simp only [Option.getD_some, List.length_take] at hl
      refine ⟨?_, by rw [← h2]; omega⟩
      rw [← h1]
      have hall : ∀ p ∈ (fy c).1, p.2.length ≤ 4000 := by
        unfold fy
        cases Go.Hd.lnOf c with
        | none => intro p hp; cases hp
        | some z =>
          obtain ⟨l, r⟩ := z
          dsimp only
          cases hb : (decide (l.length ≤ 50) && l.all Go.Hd.rdB) with
          | false => rw [cfl]; intro p hp; cases hp
          | true =>
            rw [ctr]
            intro p hp;obtain ⟨s, hs, rfl⟩ := List.mem_map.1 hp
            rw [Bool.and_eq_true] at hb
            have hz : (Go.Hd.readOf s).2.2 = 0 := of_decide_eq_true (List.all_eq_true.1 hb.2 s hs)
            have e : Go.Hd.readOf s = ((Go.Hd.readOf s).1, (Go.Hd.readOf s).2.1, 0) := by rw [← hz]
            have := (Go.Hd.okLine_s (Go.Hd.readOf_zero e).1).2.1
            exact this
      have h0 : 0 < (fy c).1.length := by omega
      rw [List.getD, aG h0, Option.getD_some]
      exact hall _ (List.getElem_mem h0)
  · cases h
def fb (x : Bs) : Bs := [45, 45] ++ x
def bM (x : Bs) : Bs := [45, 45] ++ x ++ [13, 10]
noncomputable def pr (x : Bs) : Nat → List Bs → List Bs → Bs → Option (List Bs × List Bs × Bs)
  | 0, _, _, _ => none
  | m + 1, ks, ls, left =>
    if ls.length ≤ 8 ∧ Go.Lib.hasPrefix left (bM x) = true then
      (if Go.Lib.index (left.drop (bM x).length) (fb x) < 0 then none
      else match mg ((left.drop (bM x).length).take (Go.Lib.index (left.drop (bM x).length) (fb x)).toNat) with
        | none => none
        | some (k, y) => pr x m (ks ++ [k]) (ls ++ [y]) ((left.drop (bM x).length).drop (Go.Lib.index (left.drop (bM x).length) (fb x)).toNat))
    else some (ks, ls, left)
theorem uo (F : Nat) (hF : 1000000 < F) (s x : Bs) (hx : x.length ≤ 1000) : ∀ (m : Nat) (ks ls : List Bs) (left : Bs), left.length < m → left.length ≤ 100000 → ks.length ≤ 9 → ls.length ≤ 9 → ks.length = ls.length →
    gX F s x m (ks, ls, left) = match pr x m ks ls left with
      | none => some ([], [], 2)
      | some (k, l, _) => dX F s x k l := by
  intro m
  induction m with
  | zero => intro ks ls left h; omega
  | succ m ih =>
    intro ks ls left hm hl hk hls heq;show gY F s x (gX F s x m) ks ls left = _
    unfold gY pr
    have hll : (bM x).length = x.length + 4 := by unfold bM; simp
    have hdl : (fb x).length = x.length + 2 := by unfold fb; simp
    by_cases h8 : ls.length ≤ 8
    · rw [bT (by omega), bc (by simp; omega), aM, bc (by simp; omega), aM]
      show grd (bw (bM x).length) (grd (decide (1 ≤ (bM x).length)) (lt (Go.Lib.trimPrefix left (bM x), Go.Lib.hasPrefix left (bM x)) _)) = _
      rw [bc (by omega), ns (by omega), aM]
      dsimp only
      cases hp : Go.Lib.hasPrefix left (bM x) with
      | false => rw [nfl, ctr, if_neg (fun h => by cases h.2)]
      | true =>
        have hle : (bM x).length ≤ left.length := (List.isPrefixOf_iff_prefix.1 hp).length_le
        have ht : Go.Lib.trimPrefix left (bM x) = left.drop (bM x).length := by unfold Go.Lib.trimPrefix; rw [hp]; rfl
        rw [ntr, cfl, if_pos ⟨h8, rfl⟩, ht, bc (by simp; omega), aM]
        show grd (bw (fb x).length) (grd (okS (left.drop (bM x).length).length) (grd (decide (2 ≤ (fb x).length)) (grd (okS (fb x).length) (lt (Go.Lib.index (left.drop (bM x).length) (fb x)) _)))) = _
        rw [bc (by omega), mq (by simp; omega), ns (by omega), mq (by omega), aM]
        by_cases hn : Go.Lib.index (left.drop (bM x).length) (fb x) < 0
        · rw [bT hn, if_pos hn]
        · obtain ⟨n, hnn⟩ := Int.eq_ofNat_of_zero_le (show 0 ≤ Go.Lib.index (left.drop (bM x).length) (fb x) by omega)
          have hroom := Go.Lib.index_room (left.drop (bM x).length) (fb x) (by omega)
          rw [bF hn, if_neg hn, hnn, Int.toNat_natCast, dI (by omega), aM, kw]
          rw [hnn] at hroom
          obtain ⟨k, y, f, o1, o2, o3⟩ := one_eq F hF ((left.drop (bM x).length).take n) (by simp; omega)
          rw [o1, eD]
          cases f with
          | false => rw [o3 rfl, nfl, ctr]
          | true =>
            rw [o2 rfl, ntr, cfl, dI (by omega), aM, eE, bc (by simp; omega), aM, bc (by simp; omega), aM]
            exact ih _ _ _ (by simp; omega) (by simp; omega) (by simp; omega) (by simp; omega) (by simp; omega)
    · rw [bF (by omega), if_neg (fun h => h8 h.1)]
theorem sU (F : Nat) (hF : 1000000 < F) (s x : Bs) (hx : x.length ≤ 1000) (hs : s.length ≤ 100000) : ∀ (m i : Nat) (ks ls : List Bs), s.length - i < m → i ≤ s.length → ks.length ≤ 9 → ls.length ≤ 9 → ks.length = ls.length →
    ∃ i' : Nat, fA F s x (bM x) (fr x) m (ks, ls, (i : Int)) = (match pr x m ks ls (s.drop i) with
      | none => some ([], [], 2)
      | some (k, l, _) => ek F s x (fr x) k l (i' : Int)) ∧ i' ≤ s.length ∧ ∀ k l t, pr x m ks ls (s.drop i) = some (k, l, t) → t = s.drop i' := by
  intro m
  induction m with
  | zero => intro i ks ls h; omega
  | succ m ih =>
    intro i ks ls hm hi hk hls heq;show ∃ i' : Nat, fB F s x (bM x) (fr x) (fA F s x (bM x) (fr x) m) ks ls (i : Int) = _ ∧ _
    unfold fB pr
    have hll : (bM x).length = x.length + 4 := by unfold bM; simp
    have hdl : (fb x).length = x.length + 2 := by unfold fb; simp
    have e1 : (i : Int) + ((bM x).length : Int) = ((i + (bM x).length : Nat) : Int) := by omega
    have hI : ∀ (c : Bool) (k : Option (List Bs × List Bs × Int)), cz c (okI ((i + (bM x).length : Nat) : Int)) k = k := fun c k => by
      rw [show okI ((i + (bM x).length : Nat) : Int) = true from decide_eq_true (by omega)]; cases c <;> rfl
    have hSub : ∀ (k : Option (List Bs × List Bs × Int)), cz ((decide ((ls.length : Int) ≤ 8)) && (decide (((i + (bM x).length : Nat) : Int) ≤ (s.length : Int)))) (kl (i : Int) ((i + (bM x).length : Nat) : Int) s.length) k = k := fun k => by
      by_cases hle : i + (bM x).length ≤ s.length
      · rw [show kl (i : Int) ((i + (bM x).length : Nat) : Int) s.length = true from decide_eq_true (by omega)]
        cases ((decide ((ls.length : Int) ≤ 8)) && (decide (((i + (bM x).length : Nat) : Int) ≤ (s.length : Int)))) <;> rfl
      · rw [decide_eq_false (show ¬ ((i + (bM x).length : Nat) : Int) ≤ (s.length : Int) by omega), Bool.and_false, dZ]
    rw [e1, hI, hI, hSub, aM, lm]
    have hsub : (s.take (i + (bM x).length)).drop i = (s.drop i).take (bM x).length := by rw [List.drop_take]; congr 1; omega
    have hpe : Go.Lib.hasPrefix (s.drop i) (bM x) = ((decide (((i + (bM x).length : Nat) : Int) ≤ (s.length : Int))) && (decide ((s.drop i).take (bM x).length = bM x))) := by
      rw [Go.Hd.hp_take]
      congr 1
      exact decide_eq_decide.2 (by simp; omega)
    rw [hsub]
    by_cases h8 : ls.length ≤ 8
    · rw [decide_eq_true (show (ls.length : Int) ≤ 8 by omega), ef, ← hpe]
      cases hp : Go.Lib.hasPrefix (s.drop i) (bM x) with
      | false =>
        rw [cfl, if_neg (fun h => by cases h.2)]
        exact ⟨i, rfl, hi, fun k l t h => by cases h; rfl⟩
      | true =>
        have hle : (bM x).length ≤ (s.drop i).length := (List.isPrefixOf_iff_prefix.1 hp).length_le
        rw [List.length_drop] at hle
        have hat := at_eq F s (fb x) (i + (bM x).length) (by omega) (by omega) (by omega) (by omega) (by omega)
        have hdd : (s.drop i).drop (bM x).length = s.drop (i + (bM x).length) := List.drop_drop
        rw [ctr, if_pos ⟨h8, rfl⟩, bl (by omega), bc (by simp; omega), aM]
        show ∃ i' : Nat, bnd (kW F s (fb x) ((i + (bM x).length : Nat) : Int)) _ = _ ∧ _
        rw [hat, bC, hdd]
        have hge := Go.Lib.index_ge (s.drop (i + (bM x).length)) (fb x)
        by_cases hn : Go.Lib.index (s.drop (i + (bM x).length)) (fb x) < 0
        · rw [if_pos (show Go.Lib.index (s.drop (i + (bM x).length)) (fb x) = -1 by omega), bT (by omega), if_pos hn]
          exact ⟨i, rfl, hi, fun k l t h => by cases h⟩
        · obtain ⟨n, hnn⟩ := Int.eq_ofNat_of_zero_le (show 0 ≤ Go.Lib.index (s.drop (i + (bM x).length)) (fb x) by omega)
          have hroom := Go.Lib.index_room (s.drop (i + (bM x).length)) (fb x) (by omega)
          rw [if_neg (show ¬ Go.Lib.index (s.drop (i + (bM x).length)) (fb x) = -1 by omega), if_neg hn, hnn, Int.toNat_natCast]
          rw [hnn, List.length_drop] at hroom
          have e3 : ((i + (bM x).length : Nat) : Int) + (n : Int) = ((i + (bM x).length + n : Nat) : Int) := by omega
          have hs2 : (s.take (i + (bM x).length + n)).drop (i + (bM x).length) = (s.drop (i + (bM x).length)).take n := by rw [List.drop_take]; congr 1; omega
          rw [e3, bF (by omega), kz (by omega), aM, lm, hs2]
          obtain ⟨k, y, f, o1, o2, o3⟩ := rone_eq F hF ((s.drop (i + (bM x).length)).take n) (by simp; omega)
          rw [o1, eD]
          cases f with
          | false =>
            rw [o3 rfl, nfl, ctr]
            exact ⟨i, rfl, hi, fun k l t h => by cases h⟩
          | true =>
            rw [o2 rfl, ntr, cfl, bc (by simp; omega), aM, bc (by simp; omega), aM]
            have hd3 : (s.drop (i + (bM x).length)).drop n = s.drop (i + (bM x).length + n) := List.drop_drop
            rw [hd3]
            exact ih (i + (bM x).length + n) _ _ (by omega) (by omega) (by simp; omega) (by simp; omega) (by simp; omega)
    · rw [decide_eq_false (show ¬ (ls.length : Int) ≤ 8 by omega), fw, fw, cfl, if_neg (fun h => h8 h.1)]
      exact ⟨i, rfl, hi, fun k l t h => by cases h; rfl⟩
end Go.Pt
namespace Go.Pt
open Go.Pv Go.Av
open Go.Hd (fw ef nfl ntr cfl ctr bq cR Bs dA mh eQ fy cL cF jE cD okX lnX)
def jR (s : Bs) : Prop := ∀ c ∈ s, c ≠ 95
theorem iC {a b : Bs} (h : jR a) (g : jR b) : jR (a ++ b) := fun c hc => (List.mem_append.1 hc).elim (h c) (g c)
theorem wt : ∀ (s : Bs), jR s → s.getLast? ≠ some 61 → sf s = true
  | [], _, _ => rfl
  | [c], _, hl => by
    have : c ≠ 61 := fun e => hl (by rw [e]; rfl)
    simp [sf, okn, this]
  | c :: d :: r, h, hl => by
    have hd : d ≠ 95 := h d (by simp)
    rw [sf, wt (d :: r) (fun x hx => h x (List.mem_cons_of_mem _ hx)) (by rw [List.getLast?_cons_cons] at hl; exact hl), Bool.and_true]
    show (decide (c ≠ 61) || decide (d ≠ 95)) = true
    rw [decide_eq_true hd, Bool.or_true]
theorem rU (n : Nat) (h : n < 64) : Go.Hd.ch n ≠ 95 := by
  have : ∀ k : Fin 64, Go.Hd.ch k.val ≠ 95 := by decide +kernel
  exact this ⟨n, h⟩
theorem enc_95 : ∀ b : Bs, jR (Go.Hd.enc b)
  | a :: b :: c :: r => by
    have ih := enc_95 r
    have hq := Go.Hd.q3_lt a b c
    intro x hx
    rw [Go.Hd.enc] at hx
    rcases List.mem_append.1 hx with hx | hx
    · simp only [Go.Hd.four, List.mem_cons, List.not_mem_nil, or_false] at hx
      rcases hx with rfl | rfl | rfl | rfl <;> exact rU _ (by omega)
    · exact ih x hx
  | [a, b] => by
    have hq := Go.Hd.q3_lt a b 0
    intro x hx
    simp only [Go.Hd.enc, Go.Hd.four, List.take, List.mem_append, List.mem_cons, List.not_mem_nil, or_false] at hx
    rcases hx with (rfl | rfl | rfl) | rfl
    · exact rU _ (by omega)
    · exact rU _ (by omega)
    · exact rU _ (by omega)
    · decide
  | [a] => by
    have hq := Go.Hd.q3_lt a 0 0
    intro x hx
    simp only [Go.Hd.enc, Go.Hd.four, List.take, List.mem_append, List.mem_cons, List.not_mem_nil, or_false] at hx
    rcases hx with (rfl | rfl) | rfl | rfl
    · exact rU _ (by omega)
    · exact rU _ (by omega)
    · decide
    · decide
  | [] => fun x hx => by cases hx
theorem word_95 (p : Bs) : jR (Go.Hd.word p) := by
  unfold Go.Hd.word
  exact iC (iC (by unfold jR; decide) (enc_95 p)) (by unfold jR; decide)
theorem sp_95 : ∀ s : Bs, jR s → ∀ w ∈ Go.Hd.sp 32 s, jR w
  | [], _, w, hw => by simp [Go.Hd.sp] at hw; subst hw; exact fun c hc => by cases hc
  | c :: r, h, w, hw => by
    have ih := sp_95 r (fun x hx => h x (by simp [hx]))
    by_cases hc : c = 32
    · subst hc
      rw [Go.Hd.sp_cons_eq] at hw
      rcases List.mem_cons.1 hw with rfl | hw
      · exact fun c hc => by cases hc
      · exact ih w hw
    · rw [Go.Hd.sp_cons_ne hc] at hw
      rcases Go.Hd.mem_prep hw with ⟨p, ps, e, rfl⟩ | h2 | ⟨e, _⟩
      · exact iC (fun x hx => by have : x = c := by simpa using hx
                                 rw [this]; exact h c (by simp)) (ih p (by rw [e]; simp))
      · exact ih w (List.mem_of_mem_drop h2)
      · exact absurd e (Go.Hd.sp_ne 32 r)
theorem words_95 (s : Bs) (h : jR s) : ∀ w ∈ cL s, jR w := by
  unfold cL
  cases Go.Hd.plainB s with
  | true => rw [ctr]; exact sp_95 s h
  | false =>
    rw [cfl]
    intro w hw;obtain ⟨p, rfl⟩ := Go.Hd.pieces_nosp s s.length (by omega) w hw;exact word_95 p
theorem wp : ∀ (ws : List Bs) (n : Int), (∀ w ∈ ws, jR w) → jR (jE n ws)
  | [], n, _ => by unfold jE jR; decide
  | w :: ws, n, h => by
    rw [jE]
    refine iC ?_ (wp ws _ (fun x hx => h x (by simp [hx])))
    have hw := h w (by simp)
    unfold cD
    split
    · show jR (([] ++ [13, 10] ++ [32] : Bs) ++ w)
      exact iC (by unfold jR; decide) hw
    · show jR (([] ++ [32] : Bs) ++ w)
      exact iC (by unfold jR; decide) hw
theorem wE (a b : Bs) (ha : jR a) (hb : jR b) : jR (cF a b) := by
  rw [Go.Hd.lineOf_eq]
  refine iC ha (fun c hc => ?_)
  rcases List.mem_cons.1 hc with rfl | hc
  · decide
  · exact wp _ _ (words_95 b hb) c hc
theorem kind_95 {k : Bs} (h : gC k = true) : jR k := by
  unfold gC at h
  simp only [Bool.and_eq_true] at h
  intro c hc e
  have := List.all_eq_true.1 h.1.1 c hc
  rw [e] at this
  revert this; decide +kernel
theorem ct_95 : jR ct := by unfold jR; decide
theorem k2_95 : jR parta_k2 := by
  have : ∀ c ∈ parta_k2, c ≠ 95 := by decide +kernel
  exact this
theorem qp_95 : jR qpn := by unfold jR; decide
theorem hs2_ok {k : Bs} (h : gC k = true) : (hs2 k).all okX = true := by
  have hk := og h
  have n1 : Go.Hd.nameB ct = true := by decide +kernel
  have n2 : okX (parta_k2, qpn) = true := by decide +kernel
  unfold hs2
  rw [List.all_cons, List.all_cons, List.all_nil, n2]
  have : okX (ct, k) = true := by
    unfold okX Go.Hd.okLine
    rw [n1, ef]; exact decide_eq_true (by dsimp only; omega)
  rw [this]; rfl
theorem wi {k : Bs} (h : gC k = true) : hdr k = ((hs2 k).map lnX).flatten ++ [13, 10] := by
  unfold hdr mh
  have e : decide ((hs2 k).length ≤ 50) = true := rfl
  rw [e, hs2_ok h]; rfl
theorem hdr_95 {k : Bs} (h : gC k = true) : jR (hdr k) := by
  rw [wi h]
  have e : ((hs2 k).map lnX).flatten = cF ct k ++ (cF parta_k2 qpn ++ []) := rfl
  rw [e]
  refine iC (iC (wE _ _ ct_95 (kind_95 h)) (iC (wE _ _ k2_95 qp_95) (fun c hc => by cases hc))) (by unfold jR; decide)
theorem hdr_sf {k : Bs} (h : gC k = true) : sf (hdr k) = true := by
  refine wt _ (hdr_95 h) ?_
  rw [wi h, List.getLast?_append]
  simp
theorem tT (x R : Bs) (hR : Go.Lib.hasPrefix R ([45, 45, 61, 95] ++ x) = true) : ∀ (A : Bs), sf A = true → Go.Lib.index (A ++ 13 :: 10 :: R) ([45, 45, 61, 95] ++ x) = ((A.length + 2 : Nat) : Int)
  | [], _ => by
    show Go.Lib.index (13 :: 10 :: R) _ = _
    have n1 : ¬ ([45, 45, 61, 95] ++ x : Bs).isPrefixOf (13 :: 10 :: R) = true := by simp [List.isPrefixOf]
    have n2 : ¬ ([45, 45, 61, 95] ++ x : Bs).isPrefixOf (10 :: R) = true := by simp [List.isPrefixOf]
    have h0 : Go.Lib.index R ([45, 45, 61, 95] ++ x) = 0 := by
      cases R with
      | nil => simp [Go.Lib.hasPrefix, List.isPrefixOf] at hR
      | cons c r => rw [eQ, if_pos (show ([45, 45, 61, 95] ++ x : Bs).isPrefixOf (c :: r) = true from hR)]
    rw [eQ, if_neg n1, eQ, if_neg n2, h0]; rfl
  | c :: A, h => by
    rw [sf, Bool.and_eq_true] at h
    have ih := tT x R hR A h.2
    show Go.Lib.index (c :: (A ++ 13 :: 10 :: R)) _ = _
    have n1 : ¬ ([45, 45, 61, 95] ++ x : Bs).isPrefixOf (c :: (A ++ 13 :: 10 :: R)) = true := by
      intro hp
      match A, h with
      | [], h => simp [List.isPrefixOf] at hp
      | [a], h => simp [List.isPrefixOf] at hp
      | [a, b], h => simp [List.isPrefixOf] at hp
      | a :: b :: d :: r, h =>
        have h2 := h.2
        rw [sf, Bool.and_eq_true] at h2
        have h3 := h2.2
        rw [sf, Bool.and_eq_true] at h3
        have h4 : (decide (b ≠ 61) || decide (d ≠ 95)) = true := h3.1
        simp only [List.cons_append, List.isPrefixOf, Bool.and_eq_true, beq_iff_eq] at hp
        rw [← hp.2.2.1, ← hp.2.2.2.1] at h4
        revert h4; decide
    rw [eQ, if_neg n1, ih, if_neg (by omega), List.length_cons]; omega
theorem one_back {k : Bs} (b : Bs) (h : gC k = true) : mg (hdr k ++ Qp.enc 0 b ++ [13, 10]) = some (k, b) := by
  have hc := Go.Hd.cut_all (hs2 k) (Qp.enc 0 b ++ [13, 10]) (by simp [hs2]) (hs2_ok h)
  have e : hdr k ++ Qp.enc 0 b ++ [13, 10] = ((hs2 k).map lnX).flatten ++ [13, 10] ++ (Qp.enc 0 b ++ [13, 10]) := by rw [wi h]; simp
  unfold mg
  rw [e, hc]
  dsimp only
  rw [if_pos ⟨⟨rfl, rfl⟩, by simp⟩]
  have e2 : (Qp.enc 0 b ++ [13, 10]).take ((Qp.enc 0 b ++ [13, 10]).length - 2) = Qp.enc 0 b := by rw [List.length_append]; exact List.take_left' (by simp)
  rw [e2, Qp.back]; rfl
theorem body_pre (y : Bs) (hy : y = [45, 45] ++ bd 0) : ∀ ks cs : List Bs, Go.Lib.hasPrefix (body (bd 0) ks cs ++ fr (bd 0)) y = true := by
  intro ks cs
  have key : ∀ r : Bs, Go.Lib.hasPrefix (y ++ r) y = true := fun r => List.isPrefixOf_iff_prefix.2 (List.prefix_append _ _)
  cases ks with
  | nil =>
    show Go.Lib.hasPrefix ([] ++ fr (bd 0)) y = true
    have e : [] ++ fr (bd 0) = y ++ ([45, 45] ++ [13, 10]) := by unfold fr; rw [hy]; simp
    rw [e]; exact key _
  | cons k ks =>
    cases cs with
    | nil =>
      show Go.Lib.hasPrefix ([] ++ fr (bd 0)) y = true
      have e : [] ++ fr (bd 0) = y ++ ([45, 45] ++ [13, 10]) := by unfold fr; rw [hy]; simp
      rw [e]; exact key _
    | cons c cs =>
      have e : body (bd 0) (k :: ks) (c :: cs) ++ fr (bd 0) = y ++ ([13, 10] ++ hdr k ++ c ++ [13, 10] ++ body (bd 0) ks cs ++ fr (bd 0)) := by
        rw [body]; unfold qM; rw [hy]; simp
      rw [e]; exact key _
theorem pr_back : ∀ (m : Nat) (ks l K L : List Bs), ks.length = l.length → ks.all gC = true → L.length + l.length ≤ 8 → (body (bd 0) ks (l.map (Qp.enc 0)) ++ fr (bd 0)).length < m →
    pr (bd 0) m K L (body (bd 0) ks (l.map (Qp.enc 0)) ++ fr (bd 0)) = some (K ++ ks, L ++ l, fr (bd 0)) := by
  intro m
  induction m with
  | zero => intro ks l K L h1 h2 h3 h; omega
  | succ m ih =>
    intro ks l K L heq hk h8 hm
    cases ks with
    | nil =>
      have : l = [] := List.eq_nil_of_length_eq_zero (by simpa using heq.symm)
      subst this;show pr (bd 0) (m + 1) K L ([] ++ fr (bd 0)) = _
      have hn : Go.Lib.hasPrefix ([] ++ fr (bd 0)) (bM (bd 0)) = false := by
        rw [bd0]; decide
      unfold pr
      rw [hn, if_neg (fun h => by cases h.2)]; simp
    | cons k ks =>
      cases l with
      | nil => simp at heq
      | cons b l =>
        rw [List.all_cons, Bool.and_eq_true] at hk
        have hb := body_pre ([45, 45] ++ bd 0) rfl ks (l.map (Qp.enc 0))
        have e : body (bd 0) (k :: ks) ((b :: l).map (Qp.enc 0)) ++ fr (bd 0) = bM (bd 0) ++ ((hdr k ++ Qp.enc 0 b) ++ 13 :: 10 :: (body (bd 0) ks (l.map (Qp.enc 0)) ++ fr (bd 0))) := by
          rw [List.map_cons, body]; unfold qM bM; simp
        rw [e] at hm ⊢
        have hp : Go.Lib.hasPrefix (bM (bd 0) ++ ((hdr k ++ Qp.enc 0 b) ++ 13 :: 10 :: (body (bd 0) ks (l.map (Qp.enc 0)) ++ fr (bd 0)))) (bM (bd 0)) = true := List.isPrefixOf_iff_prefix.2 (List.prefix_append _ _)
        have hd : (bM (bd 0) ++ ((hdr k ++ Qp.enc 0 b) ++ 13 :: 10 :: (body (bd 0) ks (l.map (Qp.enc 0)) ++ fr (bd 0)))).drop (bM (bd 0)).length = (hdr k ++ Qp.enc 0 b) ++ 13 :: 10 :: (body (bd 0) ks (l.map (Qp.enc 0)) ++ fr (bd 0)) := List.drop_left' rfl
        have hdash : fb (bd 0) = [45, 45, 61, 95] ++ [48] := by unfold fb; rw [bd0]; rfl
        have hb2 : Go.Lib.hasPrefix (body (bd 0) ks (l.map (Qp.enc 0)) ++ fr (bd 0)) ([45, 45, 61, 95] ++ [48]) = true := by rw [bd0] at hb ⊢; exact hb
        have hi := tT [48] _ hb2 (hdr k ++ Qp.enc 0 b) (pZ _ _ (hdr_sf hk.1) (si b 0))
        have ht : ((hdr k ++ Qp.enc 0 b) ++ 13 :: 10 :: (body (bd 0) ks (l.map (Qp.enc 0)) ++ fr (bd 0))).take ((hdr k ++ Qp.enc 0 b).length + 2) = hdr k ++ Qp.enc 0 b ++ [13, 10] := by
          rw [show (hdr k ++ Qp.enc 0 b) ++ 13 :: 10 :: (body (bd 0) ks (l.map (Qp.enc 0)) ++ fr (bd 0)) = (hdr k ++ Qp.enc 0 b ++ [13, 10]) ++ (body (bd 0) ks (l.map (Qp.enc 0)) ++ fr (bd 0)) by simp]
          exact List.take_left' (by simp only [List.length_append, List.length_cons, List.length_nil])
        have hdr2 : ((hdr k ++ Qp.enc 0 b) ++ 13 :: 10 :: (body (bd 0) ks (l.map (Qp.enc 0)) ++ fr (bd 0))).drop ((hdr k ++ Qp.enc 0 b).length + 2) = body (bd 0) ks (l.map (Qp.enc 0)) ++ fr (bd 0) := by
          rw [show (hdr k ++ Qp.enc 0 b) ++ 13 :: 10 :: (body (bd 0) ks (l.map (Qp.enc 0)) ++ fr (bd 0)) = (hdr k ++ Qp.enc 0 b ++ [13, 10]) ++ (body (bd 0) ks (l.map (Qp.enc 0)) ++ fr (bd 0)) by simp]
          exact List.drop_left' (by simp only [List.length_append, List.length_cons, List.length_nil])
        unfold pr
        rw [if_pos ⟨by simp at h8; omega, hp⟩, hd, hdash, hi, if_neg (by omega), Int.toNat_natCast, ht, one_back b hk.1, hdr2]
        dsimp only
        rw [List.length_append, List.length_append, List.length_cons, List.length_cons] at hm
        rw [ih ks l _ _ (by simpa using heq) hk.2 (by simp at h8 ⊢; omega) (by omega)]
        simp
end Go.Pt
namespace Go.Pt
open Go.Pv Go.Av
open Go.Hd (fw ef nfl ntr cfl ctr bq cR Bs dA mh)
theorem uO (F : Nat) (hF : 900000 < F) (k : Bs) (hk : k.length ≤ 600) : gD F k = some (hdr k) := by
  unfold gD
  have hA := Go.Hd.rAll_eq F hF (hs2 k) (wh k hk)
  have e : kC F ([(([67, 111, 110, 116, 101, 110, 116, 45, 84, 121, 112, 101] : Bs), k), (lK, ([113, 117, 111, 116, 101, 100, 45, 112, 114, 105, 110, 116, 97, 98, 108, 101] : Bs))] : List (Bs × Bs)) = some (hdr k, (mh (hs2 k)).2) := by rw [k2_eq]; exact hA
  rw [e, bR]
theorem uv (F : Nat) (hF : 900000 < F) (ks l cs : List Bs) (x : Bs) (hx : x.length ≤ 1000) (hl : ks.length = cs.length) (hll : l.length = cs.length) (h8 : cs.length ≤ 8) (hk : ∀ k ∈ ks, k.length ≤ 600) (hc : ∀ c ∈ cs, c.length ≤ 600000) : ∀ (m i : Nat) (o : Bs), cs.length - i < m → i ≤ cs.length → o.length ≤ 610000 * i →
    fg F ks l cs x m (o, (i : Int)) = some (o ++ body x (ks.drop i) (cs.drop i) ++ fr x, x, 0) := by
  intro m
  induction m with
  | zero => intro i o h; omega
  | succ m ih =>
    intro i o hm hi ho;show gJ F ks l cs x (fg F ks l cs x m) o (i : Int) = _
    unfold gJ
    by_cases h : i < cs.length
    · have hd : cs.drop i = cs[i] :: cs.drop (i + 1) := ar h
      have hd2 : ks.drop i = ks[i]'(by omega) :: ks.drop (i + 1) := ar (by omega)
      have hkl := hk _ (List.getElem_mem (show i < ks.length by omega))
      have hcl := hc _ (List.getElem_mem h)
      have hh := se _ hkl
      have hol : (qM x (ks[i]'(by omega)) cs[i]).length ≤ 610000 := by unfold qM; simp only [List.length_append, List.length_cons, List.length_nil]; omega
      have key : fg F ks l cs x m (o ++ qM x (ks[i]'(by omega)) cs[i], ((i + 1 : Nat) : Int)) = some (o ++ body x (ks.drop i) (cs.drop i) ++ fr x, x, 0) := by
        rw [ih (i + 1) _ (by omega) (by omega) (by rw [List.length_append]; omega), hd, hd2, body]
        simp only [List.append_assoc]
      have hA2 : ∀ q : Option (Bs × Bs × Int), grd (bQ (i : Int) ks.length) q = q := fun q => bJ (by omega)
      rw [bT (by omega)]
      simp (disch := (first | omega | (simp only [List.length_append, List.length_cons, List.length_nil]; omega))) only [bc, aM, hA2, bP (show i < ks.length by omega), uO F hF _ hkl, bC, bJ, bP h, bl, bg]
      refine Eq.trans ?_ key
      unfold qM
      simp only [List.append_assoc]
    · rw [bF (by omega), aE (show cs.length ≤ i by omega)]
      have hb : body x (ks.drop i) [] = [] := by cases ks.drop i <;> rfl
      unfold gG
      rw [hb]
      simp (disch := (first | omega | (simp only [List.length_append, List.length_cons, List.length_nil]; omega))) only [bc, aM]
      unfold fr
      simp
theorem uw (F : Nat) (hF : 1000000 < F) (ks l : List Bs) (hkl : ks.length = l.length) (hl : l.length ≤ 8) (hk : ∀ k ∈ ks, k.length ≤ 100000) (hb : ∀ b ∈ l, b.length ≤ 100000) : ∀ (m i : Nat) (cs : List Bs), l.length - i < m → i ≤ l.length → cs.length ≤ i →
    gH F ks l m (cs, (i : Int)) = bif (ks.drop i).all gC then ff F ks l (cs ++ (l.drop i).map (Qp.enc 0)) else some ([], [], 1) := by
  intro m
  induction m with
  | zero => intro i cs h; omega
  | succ m ih =>
    intro i cs hm hi hc;show gI F ks l (gH F ks l m) cs (i : Int) = _
    unfold gI
    by_cases h : i < l.length
    · have hd : l.drop i = l[i] :: l.drop (i + 1) := ar h
      have hd2 : ks.drop i = ks[i]'(by omega) :: ks.drop (i + 1) := ar (by omega)
      have hbl := hb _ (List.getElem_mem h)
      have hkk := hk _ (List.getElem_mem (show i < ks.length by omega))
      rw [bT (by omega), bJ (by omega), aM, bP (by omega), rKind_eq F _ (by omega) (by omega), bC, hd2, List.all_cons]
      cases hkb : gC (ks[i]'(by omega)) with
      | false => rw [nfl, ctr, fw, cfl]
      | true =>
        rw [ntr, cfl, ef, bJ (by omega), aM, bP h, uB F _ (by omega) (by omega), bC, bc (by simp; omega), aM, bl (by omega), bg, ih (i + 1) _ (by omega) (by omega) (by simp; omega), hd, List.map_cons, List.append_assoc]
        rfl
    · rw [bF (by omega), aE (show l.length ≤ i by omega), aE (show ks.length ≤ i by omega), List.map_nil, List.append_nil, List.all_nil, ctr]
theorem rJoin_eq (F : Nat) (hF : 1000000 < F) (ks l : List Bs) (hk : ∀ k ∈ ks, k.length ≤ 100000) (hb : ∀ b ∈ l, b.length ≤ 100000) : kI F ks l = some (cO ks l) := by
  unfold kI cO okJ
  have e1 : decide ((ks.length : Int) = (l.length : Int)) = decide (ks.length = l.length) := decide_eq_decide.2 (by omega)
  have e2 : decide ((l.length : Int) < 1) = decide (l.length = 0) := decide_eq_decide.2 (by omega)
  have e3 : decide (8 < (l.length : Int)) = !decide (l.length ≤ 8) := by
    by_cases h : l.length ≤ 8
    · rw [decide_eq_true h, decide_eq_false (by omega)]; rfl
    · rw [decide_eq_false h, decide_eq_true (by omega)]; rfl
  rw [e1, e2, e3]
  by_cases hc : ks.length = l.length ∧ l.length ≠ 0 ∧ l.length ≤ 8
  · rw [decide_eq_true hc.1, decide_eq_false hc.2.1, decide_eq_true hc.2.2]
    simp only [ntr, nfl, fo, ef, cfl]
    have h1 := uw F hF ks l hc.1 hc.2.2 hk hb F 0 [] (by omega) (by omega) (by simp)
    refine Eq.trans h1 ?_
    rw [List.nil_append, List.drop_zero, List.drop_zero]
    cases ha : ks.all gC with
    | false => rw [cfl, cfl]
    | true =>
      rw [ctr, ctr]
      unfold ff
      have hcs := enc_in l hb
      have hlen : (l.map (Qp.enc 0)).length = l.length := List.length_map _
      rw [rI F _ (by omega) (by omega) (fun b hb => by have := hcs b hb; omega) (fun b hb => by have := hcs b hb; omega) 0 (by omega) (by omega) (wK l) (fun k h => by omega), bC]
      have hkk : ∀ k ∈ ks, k.length ≤ 600 := fun k h => by have := og (List.all_eq_true.1 ha k h); omega
      have hb0 : (bd 0).length ≤ 1000 := by rw [bd0]; simp
      have h2 := uv F (by omega) ks l (l.map (Qp.enc 0)) (bd 0) hb0 (by omega) (by omega) (by omega) hkk hcs F 0 [] (by omega) (by omega) (by simp)
      refine Eq.trans h2 ?_
      rw [List.nil_append, List.drop_zero, List.drop_zero]; rfl
  · have hf : (decide (ks.length = l.length) && (!decide (l.length = 0) && decide (l.length ≤ 8))) = false := by
      by_cases h1 : ks.length = l.length
      · by_cases h2 : l.length = 0
        · rw [decide_eq_true h2]; simp
        · rw [decide_eq_false (show ¬ l.length ≤ 8 from fun h3 => hc ⟨h1, h2, h3⟩)]; simp
      · rw [decide_eq_false h1]; rfl
    have hg : (((!decide (ks.length = l.length)) || (decide (l.length = 0))) || (!decide (l.length ≤ 8))) = true := by
      have : (((!decide (ks.length = l.length)) || (decide (l.length = 0))) || (!decide (l.length ≤ 8))) = !(decide (ks.length = l.length) && (!decide (l.length = 0) && decide (l.length ≤ 8))) := by
        cases decide (ks.length = l.length) <;> cases decide (l.length = 0) <;> cases decide (l.length ≤ 8) <;> rfl
      rw [this, hf]; rfl
    rw [hg, hf, ctr, fw, cfl]
theorem xM : kf 2000000 = some true := by decide +kernel
end Go.Pt
namespace Go.Pt
open Go.Pv Go.Av
open Go.Hd (fw ef nfl ntr cfl ctr bq Bs)
theorem pr_len (x : Bs) : ∀ (m : Nat) (ks ls : List Bs) (left : Bs) {k l : List Bs} {t : Bs}, left.length ≤ 100000 → (∀ a ∈ ks, a.length ≤ 100000) → (∀ a ∈ ls, a.length ≤ 100000) → pr x m ks ls left = some (k, l, t) → (∀ a ∈ k, a.length ≤ 100000) ∧ (∀ a ∈ l, a.length ≤ 100000) := by
  intro m
  induction m with
  | zero => intro ks ls left k l t _ _ _ h; cases h
  | succ m ih =>
    intro ks ls left k l t hl hk hls h
    unfold pr at h
    split at h
    · split at h
      · cases h
      · cases ho : mg ((left.drop (bM x).length).take (Go.Lib.index (left.drop (bM x).length) (fb x)).toNat) with
        | none => rw [ho] at h; cases h
        | some z =>
          obtain ⟨k1, y⟩ := z
          rw [ho] at h
          have hz := one_len ho
          rw [List.length_take, List.length_drop] at hz
          refine ih _ _ _ (by simp; omega) (fun a ha => ?_) (fun a ha => ?_) h
          · rcases List.mem_append.1 ha with ha | ha
            · exact hk a ha
            · have : a = k1 := by simpa using ha
              rw [this]; omega
          · rcases List.mem_append.1 ha with ha | ha
            · exact hls a ha
            · have : a = y := by simpa using ha
              rw [this]; omega
    · cases h; exact ⟨hk, hls⟩
noncomputable def jC (s x : Bs) : List Bs × List Bs × Int := match pr x (s.length + 1) [] [] s with
  | none => ([], [], 2)
  | some (k, l, _) => if ((cO k l).2.2 = 0 ∧ (cO k l).2.1 = x) ∧ (cO k l).1 = s then (k, l, 0) else ([], [], 2)
theorem wy (x : Bs) : ∀ (m n : Nat) (ks ls : List Bs) (left : Bs), left.length < m → left.length < n → pr x m ks ls left = pr x n ks ls left := by
  intro m
  induction m with
  | zero => intro n ks ls left h; omega
  | succ m ih =>
    intro n ks ls left h1 h2;obtain ⟨n, rfl⟩ : ∃ j, n = j + 1 := ⟨n - 1, by omega⟩
    unfold pr
    have hll : (bM x).length = x.length + 4 := by unfold bM; simp
    by_cases hc : ls.length ≤ 8 ∧ Go.Lib.hasPrefix left (bM x) = true
    · rw [if_pos hc, if_pos hc]
      have hle : (bM x).length ≤ left.length := (List.isPrefixOf_iff_prefix.1 hc.2).length_le
      by_cases hn : Go.Lib.index (left.drop (bM x).length) (fb x) < 0
      · rw [if_pos hn, if_pos hn]
      · rw [if_neg hn, if_neg hn]
        cases mg ((left.drop (bM x).length).take (Go.Lib.index (left.drop (bM x).length) (fb x)).toNat) with
        | none => rfl
        | some z =>
          obtain ⟨k1, y⟩ := z;exact ih n _ _ _ (by simp; omega) (by simp; omega)
    · rw [if_neg hc, if_neg hc]
theorem Split_eq (F : Nat) (hF : 1000000 < F) (s x : Bs) (hs : s.length ≤ 100000) (hx : x.length ≤ 1000) : jI F s x = some (jC s x) := by
  have h := uo F hF s x hx F [] [] s (by omega) hs (by simp) (by simp) rfl
  unfold jI jC
  refine Eq.trans h ?_
  rw [wy x F (s.length + 1) [] [] s (by omega) (by omega)]
  cases hp : pr x (s.length + 1) [] [] s with
  | none => rfl
  | some z =>
    obtain ⟨k, l, t⟩ := z
    have ⟨hk, hl⟩ := pr_len x _ _ _ _ hs (by simp) (by simp) hp
    dsimp only
    unfold dX
    rw [Join_eq F hF k l hk hl, show cO k l = ((cO k l).1, (cO k l).2.1, (cO k l).2.2) from rfl, eD, aM]
    by_cases hc : ((cO k l).2.2 = 0 ∧ (cO k l).2.1 = x) ∧ (cO k l).1 = s
    · rw [if_pos hc, decide_eq_true hc.1.1, decide_eq_true hc.1.2, decide_eq_true hc.2]; rfl
    · rw [if_neg hc]
      have : (((!decide ((cO k l).2.2 = 0)) || (!decide ((cO k l).2.1 = x))) || (!decide ((cO k l).1 = s))) = true := by
        rw [← Bool.not_and, ← Bool.not_and, ← Bool.decide_and, ← Bool.decide_and, decide_eq_false hc]; rfl
      rw [this, ctr]
theorem qX {k l : List Bs} (h : (cO k l).2.2 = 0) : okJ k l = true ∧ cO k l = (rS k l, bd 0, 0) := by
  unfold cO at h ⊢
  cases ho : okJ k l with
  | true => exact ⟨rfl, by rw [ctr]⟩
  | false => rw [ho, cfl] at h; cases h
theorem okJ_s {k l : List Bs} (h : okJ k l = true) : k.length = l.length ∧ l.length ≤ 8 ∧ k.all gC = true := by
  unfold okJ at h
  simp only [Bool.and_eq_true, decide_eq_true_eq] at h
  exact ⟨h.1.1, h.1.2.2, h.2⟩
theorem pr_join {k l : List Bs} (h : okJ k l = true) : pr (bd 0) ((rS k l).length + 1) [] [] (rS k l) = some (k, l, fr (bd 0)) := by
  have ⟨h1, h2, h3⟩ := okJ_s h
  have := pr_back ((rS k l).length + 1) k l [] [] h1 h3 (by simpa using h2) (Nat.lt_succ_self _)
  rw [List.nil_append, List.nil_append] at this
  exact this
theorem xm (F : Nat) (hF : 1000000 < F) (s x : Bs) (hs : s.length ≤ 100000) (hx : x.length ≤ 1000) : jV F s x = some (jC s x) := by
  obtain ⟨i, h, hi, ht⟩ := sU F hF s x hx hs F 0 [] [] (by omega) (by omega) (by simp) (by simp) rfl
  rw [List.drop_zero] at h ht
  unfold jV
  rw [bc (by simp; omega), aM, bc (by simp; omega), aM, bc (by simp; omega), aM, bc (by simp; omega), aM]
  have e1 : ([45, 45] ++ x : Bs) ++ [13, 10] = bM x := rfl
  have e2 : ([45, 45] ++ x : Bs) ++ [45, 45, 13, 10] = fr x := by unfold fr; simp
  rw [e1, e2]
  refine Eq.trans h ?_
  unfold jC
  rw [wy x F (s.length + 1) [] [] s (by omega) (by omega)] at ht ⊢
  cases hp : pr x (s.length + 1) [] [] s with
  | none => rfl
  | some z =>
    obtain ⟨k, l, t⟩ := z
    have ⟨hk, hl⟩ := pr_len x _ _ _ _ hs (by simp) (by simp) hp
    have htt := ht k l t hp
    dsimp only
    unfold ek
    rw [rJoin_eq F hF k l hk hl, show cO k l = ((cO k l).1, (cO k l).2.1, (cO k l).2.2) from rfl, eD, dI (by omega), aM, eE]
    by_cases hc : ((cO k l).2.2 = 0 ∧ (cO k l).2.1 = x) ∧ (cO k l).1 = s
    · have ⟨o1, o2⟩ := qX hc.1.1
      have hs1 : s = rS k l := by rw [← hc.2, o2]
      have hx1 : x = bd 0 := by rw [← hc.1.2, o2]
      have hb := pr_join o1
      rw [← hs1, ← hx1] at hb
      rw [hp] at hb
      have hte : t = fr x := (Prod.mk.inj (Prod.mk.inj (ak hb)).2).2
      rw [if_pos hc, ← htt, hte, decide_eq_true rfl, decide_eq_true hc.1.1, decide_eq_true hc.1.2, decide_eq_true hc.2]; rfl
    · rw [if_neg hc]
      have : ((((!decide (s.drop i = fr x)) || (!decide ((cO k l).2.2 = 0))) || (!decide ((cO k l).2.1 = x))) || (!decide ((cO k l).1 = s))) = true := by
        have h3 : (((!decide ((cO k l).2.2 = 0)) || (!decide ((cO k l).2.1 = x))) || (!decide ((cO k l).1 = s))) = true := by
          rw [← Bool.not_and, ← Bool.not_and, ← Bool.decide_and, ← Bool.decide_and, decide_eq_false hc]; rfl
        cases h4 : decide (s.drop i = fr x) with
        | true => rw [ntr, fo]; exact h3
        | false => rfl
      rw [this, ctr]
theorem same_in (l : List Bs) (hl : l.length ≤ 1000000) : ∀ (n i : Nat), l.length - i < n → i ≤ l.length → hZ l l n (i : Int) = some true := by
  intro n
  induction n with
  | zero => intro i h; omega
  | succ n ih =>
    intro i hn hi;show ib l l (hZ l l n) (i : Int) = _
    unfold ib hM
    by_cases h : i < l.length
    · rw [bT (by omega), bJ (by omega), aM, bP h, bJ (by omega), aM, decide_eq_true rfl, ntr, cfl, bl (by omega), bg, ih (i + 1) (by omega) (by omega)]
    · rw [bF (by omega)]
theorem same_out (F : Nat) (k l : List Bs) (hk : k.length ≤ 1000000) (hl : l.length ≤ 1000000) (hF : l.length < F) : ∀ (n i : Nat), k.length - i < n → i ≤ k.length → hU F k l k l n (i : Int) = some true := by
  intro n
  induction n with
  | zero => intro i h; omega
  | succ n ih =>
    intro i hn hi;show ia F k l k l (hU F k l k l n) (i : Int) = _
    unfold ia hH
    by_cases h : i < k.length
    · rw [bT (by omega), bJ (by omega), aM, bP h, bJ (by omega), aM, decide_eq_true rfl, ntr, cfl, bl (by omega), bg, ih (i + 1) (by omega) (by omega)]
    · rw [bF (by omega)]
      exact same_in l hl F 0 (by omega) (by omega)
theorem same_eq (F : Nat) (k l : List Bs) (hk : k.length ≤ 1000000) (hl : l.length ≤ 1000000) (hF : l.length < F) (hF2 : k.length < F) : kO F k l k l = some true := by
  unfold kO
  rw [decide_eq_true rfl, decide_eq_true rfl, ntr, fo, cfl]
  exact same_out F k l hk hl hF F 0 (by omega) (by omega)
theorem sN (s x : Bs) : (jC s x).1.length ≤ 8 ∧ (jC s x).2.1.length ≤ 8 := by
  unfold jC
  cases pr x (s.length + 1) [] [] s with
  | none => simp
  | some z =>
    obtain ⟨k, l, t⟩ := z
    dsimp only
    split
    · rename_i hc
      have ⟨h1, h2, _⟩ := okJ_s (qX hc.1.1).1
      exact ⟨by dsimp only; omega, h2⟩
    · simp
end Go.Pt
namespace Go.Pt
open Go.Pv Go.Av
open Go.Hd (fw ef nfl ntr cfl ctr bq Bs)
theorem rO (F : Nat) (hF : 1000000 < F) (hw : kf F = some true) (s x : Bs) : ej F s x = some true := by
  unfold ej
  rw [hw, bC]
  by_cases h1 : 2000 < (s.length : Int)
  · rw [decide_eq_true h1]; rfl
  · by_cases h2 : 100 < (x.length : Int)
    · rw [decide_eq_true h2, Bool.or_true, ctr]
    · have hl := sN s x
      rw [decide_eq_false h1, decide_eq_false h2, ntr, fo, fo, cfl, Split_eq F hF s x (by omega) (by omega), xm F hF s x (by omega) (by omega), show jC s x = ((jC s x).1, (jC s x).2.1, (jC s x).2.2) from rfl, eD, eD, same_eq F _ _ (by omega) (by omega) (by omega) (by omega), bC, decide_eq_true rfl]; rfl
theorem PartSplits_t (s x : Bs) : ej 2000000 s x = some true := rO 2000000 (by omega) xM s x
end Go.Pt
