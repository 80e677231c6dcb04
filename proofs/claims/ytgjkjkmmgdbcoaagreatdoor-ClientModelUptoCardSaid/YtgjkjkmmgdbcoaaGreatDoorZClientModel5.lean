/-
  Texts in one (only what ClientModel needs): RqL, ClA, RqI, RqR, ClR, ClT, ClModel, AvOpen, AvOpenN, AvOpenM.
-/
import Derived.Test.YtgjkjkmmgdbcoaaGreatDoorZClientModel4
import Derived.Lib.IndexLaws
import Derived.RowKit
import Derived.OpenShut
import Derived.ChangeSlices
import Derived.SliceStrings
import Derived.Test.YtgjkjkmmgdbcoaaGreatDoorRows
set_option linter.unusedVariables false
set_option linter.unusedSimpArgs false
namespace Go.Rp
open Go.Pv Go.Av
open Go.Lib (decDigits indexByte)
open Go.Dg (val Dig kH cfl ctr gz iX fo nfl ntr fj iV oE ou ql)
theorem ib_ge (b : Bs) (c : UInt8) : -1 ≤ indexByte b c := Go.Lib.indexByte_ge b c
theorem ib_lt (b : Bs) (c : UInt8) : indexByte b c < b.length := (pa b c).2
theorem ib_at (p q : Bs) (c : UInt8) (h : ∀ b ∈ p, b ≠ c) : indexByte (p ++ c :: q) c = (p.length : Int) := by
  induction p with
  | nil => simp [Go.Lib.indexByte]
  | cons a p ih =>
    have e : ¬ (a == c) = true := by simpa using h a (by simp)
    have ih' := ih fun b hb => h b (by simp [hb])
    show indexByte (a :: (p ++ c :: q)) c = _
    unfold Go.Lib.indexByte
    rw [if_neg e, ih']
    have e3 : (((p.length : Nat) : Int) == -1) = false := by
      simp
    rw [e3]
    simp
theorem px {b : Bs} {c : UInt8} {i : Nat} (h : indexByte b c = (i : Int)) : ∃ p q, b = p ++ c :: q ∧ p.length = i ∧ ∀ x ∈ p, x ≠ c := by
  induction b generalizing i with
  | nil => have : (-1 : Int) = (i : Int) := h; omega
  | cons a b ih =>
    unfold Go.Lib.indexByte at h
    by_cases e : (a == c) = true
    · rw [if_pos e] at h
      refine ⟨[], b, ?_, by simp only [List.length_nil]; omega, by simp⟩
      rw [show a = c by simpa using e]; rfl
    · rw [if_neg e] at h
      by_cases e2 : indexByte b c = -1
      · rw [e2] at h
        have : (-1 : Int) = (i : Int) := h
        omega
      · have e3 : (indexByte b c == -1) = false := by simpa using e2
        rw [e3] at h
        simp only [Bool.false_eq_true, if_false] at h
        have hg := ib_ge b c
        obtain ⟨p, q, h1, h2, h3⟩ := ih (i := i - 1) (by omega);refine ⟨a :: p, q, by rw [h1]; rfl, by simp; omega, fun x hx => ?_⟩
        rcases List.mem_cons.1 hx with rfl | hx
        · intro e4; exact e (by simp [e4])
        · exact h3 x hx
theorem ib_no {b : Bs} {c : UInt8} (h : ∀ x ∈ b, x ≠ c) : indexByte b c = -1 := nX h
inductive Ln | wait | bad | ok (s : Bs)
def lnOf (b : Bs) : Ln :=
  if indexByte b 10 < 0 then (if b.length < 512 then .wait else .bad)
  else if indexByte b 10 < 512 ∧ 0 < indexByte b 10 ∧ indexByte b 13 = indexByte b 10 - 1 then .ok (b.take (indexByte b 10 - 1).toNat) else .bad
theorem ln_ok {b s : Bs} (h : lnOf b = .ok s) : ∃ t, b = s ++ 13 :: 10 :: t ∧ (∀ x ∈ s, crlf x = false) ∧ s.length ≤ 510 := by
  unfold lnOf at h
  by_cases h0 : indexByte b 10 < 0
  · rw [if_pos h0] at h
    split at h <;> cases h
  · rw [if_neg h0] at h
    split at h
    · rename_i hc
      obtain ⟨h1, h2, h3⟩ := hc
      have hs : b.take (indexByte b 10 - 1).toNat = s := by injection h
      obtain ⟨p, q, e1, e2, e3⟩ := px (b := b) (c := 10) (i := (indexByte b 10).toNat) (by omega);obtain ⟨p', q', g1, g2, g3⟩ := px (b := b) (c := 13) (i := (indexByte b 10 - 1).toNat) (by omega)
      have hp' : p' = s := by rw [← hs, ← g2, g1, List.take_left' rfl]
      have hp : p = p' ++ [13] := by
        have a1 : b.take (indexByte b 10).toNat = p := by rw [← e2, e1, List.take_left' rfl]
        have a2 : b.take (indexByte b 10).toNat = p' ++ [13] := by
          have l : (indexByte b 10).toNat = (p' ++ [13]).length := by simp; omega
          rw [l, g1, show p' ++ 13 :: q' = (p' ++ [13]) ++ q' by simp, List.take_left' rfl]
        rw [← a1, a2]
      refine ⟨q, by rw [← hp', e1, hp]; simp, fun x hx => ?_, by rw [← hp']; omega⟩
      unfold crlf
      rw [← hp'] at hx
      rw [decide_eq_false (g3 x hx), decide_eq_false (e3 x (by rw [hp]; simp [hx]))]; rfl
    · cases h
theorem ln_len {b s : Bs} (h : lnOf b = .ok s) : s.length + 2 ≤ b.length := by
  obtain ⟨t, rfl, _, _⟩ := ln_ok h
  simp
def codeB (s : Bs) : Option Nat :=
  if 4 ≤ s.length ∧ (at_ s 3 = 45 ∨ at_ s 3 = 32) then
    match numB (s.take 3) with
    | some n => if 200 ≤ n ∧ n ≤ 599 then some n else none
    | none => none
  else none
theorem code_s {s : Bs} {n : Nat} (h : codeB s = some n) : 4 ≤ s.length ∧ (at_ s 3 = 45 ∨ at_ s 3 = 32) ∧ (200 ≤ n ∧ n ≤ 599) ∧ numB (s.take 3) = some n := by
  unfold codeB at h
  split at h
  · rename_i hc
    cases hn : numB (s.take 3) with
    | none => rw [hn] at h; cases h
    | some k =>
      rw [hn] at h
      simp only at h
      split at h
      · cases h; rename_i hk; exact ⟨hc.1, hc.2, hk, rfl⟩
      · cases h
  · cases h
abbrev Rp := Int × List Bs × M3
inductive One | wait | bad | ok (x : Rp) (n : Nat)
def oneA : Nat → Int → List Bs → Nat → Bs → One
  | 0, _, _, _, b => match lnOf b with
    | .wait => .wait
    | _ => .bad
  | k + 1, c, ls, at', b => match lnOf b with
    | .wait => .wait
    | .bad => .bad
    | .ok s => match codeB s with
      | none => .bad
      | some n => if ls ≠ [] ∧ (n : Int) ≠ c then .bad else
        if at_ s 3 = 32 then .ok ((n : Int), ls ++ [s.drop 4], moreB (n : Int) (s.drop 4)) (at' + (s.length + 2))
        else oneA k (n : Int) (ls ++ [s.drop 4]) (at' + (s.length + 2)) (b.drop (s.length + 2))
def one (b : Bs) : One := oneA 100 0 [] 0 b
theorem qw : ∀ (k : Nat) (c : Int) (ls : List Bs) (a : Nat) (b : Bs) (x : Rp) (n : Nat), oneA k c ls a b = .ok x n →
    ∃ (d : Nat) (l2 : List Bs), x = ((d : Int), ls ++ l2, moreB (d : Int) (lst l2)) ∧ l2 ≠ [] ∧ l2.length ≤ k ∧ (∀ s ∈ l2, fitB s = true) ∧ (200 ≤ d ∧ d ≤ 599) ∧ (ls ≠ [] → (d : Int) = c) ∧ a < n ∧ n ≤ a + b.length ∧ b.take (n - a) = wrL (decDigits d) l2
  | 0, c, ls, a, b, x, n, h => by
    unfold oneA at h
    split at h <;> cases h
  | k + 1, c, ls, a, b, x, n, h => by
    unfold oneA at h
    cases hb : lnOf b with
    | wait => rw [hb] at h; cases h
    | bad => rw [hb] at h; cases h
    | ok s =>
      rw [hb] at h
      simp only at h
      cases hc : codeB s with
      | none => rw [hc] at h; cases h
      | some m =>
        rw [hc] at h
        simp only at h
        by_cases h1 : ls ≠ [] ∧ (m : Int) ≠ c
        · rw [if_pos h1] at h; cases h
        rw [if_neg h1] at h
        have hcode : ls ≠ [] → (m : Int) = c := fun g => by
          by_cases e : (m : Int) = c
          · exact e
          · exact absurd ⟨g, e⟩ h1
        obtain ⟨t, ht, hs, hl⟩ := ln_ok hb;obtain ⟨c1, c2, c3, c4⟩ := code_s hc;obtain ⟨d1, d2⟩ := num_dd c4
        have hlen := ln_len hb
        have hfit : fitB (s.drop 4) = true := by
          unfold fitB
          rw [decide_eq_true (p := (s.drop 4).length ≤ 506) (by simp; omega), Bool.and_true]
          have : (s.drop 4).any crlf = false := by
            rw [List.any_eq_false]
            intro y hy
            rw [hs y (List.mem_of_mem_drop hy)]; simp
          rw [this]; rfl
        have hsplit : s = decDigits m ++ at_ s 3 :: s.drop 4 := by
          have e3 : at_ s 3 = s[3] := dM (i := 3) (by omega)
          rw [← d1, e3]
          have := bj (l := s) (i := 3) (by omega)
          conv => lhs; rw [← List.take_append_drop 3 s, this]
        have hln : b.take (s.length + 2) = lnW (decDigits m) (at_ s 3) (s.drop 4) := by
          conv => lhs; rw [ht]
          rw [show s ++ 13 :: 10 :: t = (s ++ [13, 10]) ++ t by simp, show s.length + 2 = (s ++ [13, 10]).length by simp, List.take_left' rfl]
          unfold lnW
          conv => lhs; rw [hsplit]
          simp
        by_cases h2 : at_ s 3 = 32
        · rw [if_pos h2] at h
          injection h with hx hn
          subst hx; subst hn
          refine ⟨m, [s.drop 4], rfl, by simp, by simp, fun y hy => ?_, c3, hcode, by omega, by omega, ?_⟩
          · rw [List.mem_singleton.1 hy]; exact hfit
          · rw [show a + (s.length + 2) - a = s.length + 2 by omega, hln, h2]
            unfold wrL
            rw [if_pos rfl]; unfold wrL; simp
        · rw [if_neg h2] at h
          obtain ⟨d, l2, e1, e2, e3, e4, e5, e6, e7, e8, e9⟩ := qw k _ _ _ _ x n h
          have hd : (d : Int) = (m : Int) := e6 (by simp)
          have hdm : d = m := by omega
          subst hdm;refine ⟨d, s.drop 4 :: l2, ?_, by simp, by simp; omega, fun y hy => ?_, e5, hcode, by omega, by simp at e8; omega, ?_⟩
          · rw [e1]
            have : lst (s.drop 4 :: l2) = lst l2 := by
              have hp : 0 < l2.length := List.length_pos_iff.2 e2
              unfold lst
              rw [show (((s.drop 4 :: l2).length : Int) - 1) = ((l2.length - 1 + 1 : Nat) : Int) by simp; omega, show ((l2.length : Int) - 1) = ((l2.length - 1 : Nat) : Int) by omega, dM (by simp only [List.length_cons]; omega), dM (by omega)]
              rfl
            rw [this, List.append_assoc]; rfl
          · rcases List.mem_cons.1 hy with rfl | hy
            · exact hfit
            · exact e4 y hy
          · have g3 : at_ s 3 = 45 := by
              rcases c2 with g | g
              · exact g
              · exact absurd g h2
            have hle : s.length + 2 ≤ n - a := by omega
            have : b.take (n - a) = b.take (s.length + 2) ++ (b.drop (s.length + 2)).take (n - (a + (s.length + 2))) := by
              rw [show n - a = (s.length + 2) + (n - (a + (s.length + 2))) by omega, List.take_add]
            rw [this, e9, hln, g3]
            show _ = lnW (decDigits d) (if l2 = [] then 32 else 45) (s.drop 4) ++ wrL (decDigits d) l2
            rw [if_neg e2]
inductive All : Bs → List Rp → Nat → Bool → Prop
  | wait {b : Bs} : one b = .wait → All b [] 0 false
  | bad {b : Bs} : one b = .bad → All b [] 0 true
  | ok {b : Bs} {x : Rp} {n : Nat} {l : List Rp} {u : Nat} {bd : Bool} : one b = .ok x n → All (b.drop n) l u bd → All b (x :: l) (n + u) bd
theorem one_pos {b : Bs} {x : Rp} {n : Nat} (h : one b = .ok x n) : 0 < n ∧ n ≤ b.length := by
  obtain ⟨d, l2, _, _, _, _, _, _, h7, h8, _⟩ := qw 100 0 [] 0 b x n h
  omega
theorem All.le {b : Bs} {l : List Rp} {u : Nat} {bd : Bool} (h : All b l u bd) : u ≤ b.length ∧ l.length ≤ u := by
  induction h with
  | wait e => simp
  | bad e => simp
  | ok e _ ih =>
    have := one_pos e
    simp at ih ⊢
    omega
end Go.Rp
namespace Go.Cl
open Go.Pv Go.Av
open Go.Lib (indexByte)
open Go.Dg (cfl ctr gz iX fo nfl ntr)
theorem ib_in (l : Bs) (c : UInt8) : decide (indexByte l c < 0) = !(l.contains c) := by
  have hlt := Go.Rp.ib_lt l c
  cases h : l.contains c with
  | false =>
    have : ∀ x ∈ l, x ≠ c := fun x hx e => by
      have : l.contains c = true := by rw [List.contains_iff_mem]; exact e ▸ hx
      rw [h] at this; cases this
    rw [Go.Rp.ib_no this]; rfl
  | true =>
    refine decide_eq_false fun g => ?_
    have hge := Go.Rp.ib_ge l c
    have hm : c ∈ l := by rw [← List.contains_iff_mem]; exact h
    obtain ⟨p, q, rfl, hp⟩ : ∃ p q, l = p ++ c :: q ∧ ∀ x ∈ p, x ≠ c := by
      rcases jn c l with z | z
      · exact absurd rfl (z c hm)
      · exact z
    rw [Go.Rp.ib_at p q c hp] at g
    omega
def lenB (s : Bs) : Bool := decide (3 ≤ s.length) && decide (s.length ≤ 60)
def iY (f : UInt8 → Bool) (s : Bs) : Bool := s.all f && (decide (s ≠ []) && decide (s.length ≤ 60))
theorem qW (s w : Bs) (hs : s.length ≤ 1100000) : ∀ (n i : Nat), s.length - i < n → i ≤ s.length →
    gP s w n (i : Int) = some ((s.drop i).all w.contains && (decide (s ≠ []) && decide (s.length ≤ 60))) := by
  intro n
  induction n with
  | zero => intro i h; omega
  | succ n ih =>
    intro i hn hi;show gQ s w (gP s w n) (i : Int) = _
    unfold gQ
    by_cases h : i < s.length
    · rw [bT (by omega), cK (by omega), bO, bO, dM h, ib_in, bj h, List.all_cons]
      cases hc : w.contains s[i] with
      | false => rfl
      | true => rw [ntr, cfl, gz, dW (by omega), eY, ih (i + 1) (by omega) (by omega)]
    · rw [bF (by omega), ba (by omega)]
      unfold gO
      have e1 : (!decide (s = ([] : List UInt8))) = decide (s ≠ []) := by by_cases q : s = [] <;> simp [q]
      have e2 : decide ((s.length : Int) ≤ 60) = decide (s.length ≤ 60) := by by_cases q : s.length ≤ 60 <;> simp [q] <;> omega
      rw [e1, e2, List.all_nil, gz]
theorem om (F : Nat) (s w : Bs) (hs : s.length ≤ 1100000) (hF : s.length < F) : iR F s w = some (iY w.contains s) := by
  unfold iR iY
  have := qW s w hs F 0 (by omega) (by omega)
  rw [List.drop_zero] at this
  exact this
def perB (c : UInt8) : Bool := clia_k1.contains c
def hostB (c : UInt8) : Bool := clia_k2.contains c
def gt (s : Bs) : Bool := (((Go.Lib.cut s [64]).2.2 && iY perB (Go.Lib.cut s [64]).1) && iY perB (Go.Lib.cut s [64]).2.1) && lenB s
theorem rD (s : Bs) : (Go.Lib.cut s [64]).1.length ≤ s.length ∧ (Go.Lib.cut s [64]).2.1.length ≤ s.length := by
  rcases jn 64 s with h | ⟨p, q, rfl, h⟩
  · rw [oG 64 s h]; simp
  · rw [oH 64 q p h]; simp; omega
theorem len_dec (s : Bs) : ((decide (3 ≤ (s.length : Int))) && (decide ((s.length : Int) ≤ 60))) = lenB s := by
  unfold lenB
  have e1 : decide (3 ≤ (s.length : Int)) = decide (3 ≤ s.length) := by by_cases q : 3 ≤ s.length <;> simp [q] <;> omega
  have e2 : decide ((s.length : Int) ≤ 60) = decide (s.length ≤ 60) := by by_cases q : s.length ≤ 60 <;> simp [q] <;> omega
  rw [e1, e2]
theorem mt (F : Nat) (s : Bs) (hs : s.length ≤ 1100000) (hF : s.length < F) : fX F s = some (gt s) := by
  unfold fX gt
  obtain ⟨l1, l2⟩ := rD s
  rw [iZ (by omega), bO, om F _ _ (by omega) (by omega), gc, om F _ _ (by omega) (by omega), gc, Bool.and_assoc, len_dec]
  show some _ = some _
  congr 1
  show ((((Go.Lib.cut s [64]).2.2 && (bif (Go.Lib.cut s [64]).2.2 then iY perB (Go.Lib.cut s [64]).1 else default)) && (bif ((Go.Lib.cut s [64]).2.2 && (bif (Go.Lib.cut s [64]).2.2 then iY perB (Go.Lib.cut s [64]).1 else default)) then iY perB (Go.Lib.cut s [64]).2.1 else default)) && lenB s) = _
  cases (Go.Lib.cut s [64]).2.2 with
  | false => rfl
  | true =>
    rw [ctr, gz]
    cases iY perB (Go.Lib.cut s [64]).1 with
    | false => rfl
    | true => rfl
def mayS (fr rc nm ml : Bs) : Bool := ((gt fr && gt rc) && iY hostB nm) && iU ml
abbrev S7 := Int × Int × Bs × Bs × Bs × Bs × Int
def ov (fr rc nm ml : Bs) : S7 := if mayS fr rc nm ml = true then (0, 0, fr, rc, nm, ml, 0) else (0, 0, [], [], [], [], 1)
theorem start_eq (F : Nat) (fr rc nm ml : Bs) (hfr : fr.length ≤ 1100000) (hrc : rc.length ≤ 1100000) (hnm : nm.length ≤ 1100000) (hml : ml.length ≤ 1100000) (h1 : fr.length < F) (h2 : rc.length < F) (h3 : nm.length < F) (h4 : ml.length < F) :
    iw F fr rc nm ml = some (ov fr rc nm ml) := by
  unfold iw
  rw [mt F fr hfr h1, cC, mt F rc hrc h2, gc, om F nm _ hnm h3, gc, qx F ml hml h4, gc]
  show (bif (((!gt fr) || (!(bif !(!gt fr) then gt rc else default))) || (!(bif !((!gt fr) || (!(bif !(!gt fr) then gt rc else default))) then iY hostB nm else default))) || (!(bif !(((!gt fr) || (!(bif !(!gt fr) then gt rc else default))) || (!(bif !((!gt fr) || (!(bif !(!gt fr) then gt rc else default))) then iY hostB nm else default))) then iU ml else default)) then some ((0, 0, [], [], [], [], 1) : S7) else grd (okS ml.length) (some ((0, 0, fr, rc, nm, ml, 0) : S7))) = _
  unfold ov mayS
  rw [iZ (by omega)]
  cases gt fr with
  | false => rfl
  | true =>
    cases gt rc with
    | false => rfl
    | true =>
      cases iY hostB nm with
      | false => rfl
      | true => cases iU ml <;> rfl
end Go.Cl
namespace Go.Rp
open Go.Pv Go.Av
open Go.Lib (decDigits indexByte)
open Go.Dg (cfl ctr gz iX fo nfl ntr)
section
variable {σ : Type}
end
abbrev S5 := Int × Int × List Bs × List Rp × Int
def kk (F : Nat) (s : S5) (x : Bs) : Option (S5 × Option Bool) := gM F s.1 s.2.1 s.2.2.1 s.2.2.2.1 s.2.2.2.2 x
end Go.Rp
namespace Go.Cl
open Go.Pv Go.Av
open Go.Dg (cfl ctr gz iX fo nfl ntr)
theorem bif_t {α : Type} {x : Bool} {a b : α} (h : x = true) : (bif x then a else b) = a := by rw [h]; rfl
theorem bif_f {α : Type} {x : Bool} {a b : α} (h : x = false) : (bif x then a else b) = b := by rw [h]; rfl
theorem few_eq (F : Nat) (ph out : Int) (fr rc nm ml : Bs) : iq F ph out fr rc nm ml = some (decide (((fr.length ≤ 100 ∧ rc.length ≤ 100) ∧ nm.length ≤ 100) ∧ ml.length ≤ 600)) := by
  unfold iq
  congr 1
  by_cases h : ((fr.length ≤ 100 ∧ rc.length ≤ 100) ∧ nm.length ≤ 100) ∧ ml.length ≤ 600
  · rw [decide_eq_true h]
    simp only [Bool.and_eq_true, decide_eq_true_eq]
    omega
  · rw [decide_eq_false h]
    simp only [Bool.and_eq_false_iff, decide_eq_false_iff_not]
    omega
theorem awake_eq : gk 2000000 = some true := by decide +kernel
end Go.Cl
namespace Go.Cl
open Go.Pv Go.Av
open Go.Dg (cfl ctr gz iX fo nfl ntr)
theorem qq (F : Nat) (B : Bs) (hB : B.length ≤ 1000000) (acc pre : Bs) (c : UInt8) (t : Bs) (n : Nat) (hb : B = pre ++ c :: t) (ha : acc.length ≤ 1000000)
    (hk : ¬ (c = 46 ∧ (pre = [] ∨ pre.getLast? = some 10))) :
    bH F (B ++ [46, 13, 10]) (n + 1) (acc, (pre.length : Int)) = bH F (B ++ [46, 13, 10]) n (acc ++ [c], ((pre ++ [c]).length : Int)) := by
  show cr F (B ++ [46, 13, 10]) (bH F (B ++ [46, 13, 10]) n) acc (pre.length : Int) = _
  have e3 : (B ++ [46, 13, 10]).length = B.length + 3 := by simp
  have hl : pre.length < B.length := by rw [hb]; simp
  have e1 : ([c] : Bs).length = 1 := rfl
  have hat : at_ (B ++ [46, 13, 10]) (pre.length : Int) = c := by rw [dM (by omega)]; simp [hb]
  have gA : ∀ (q : Bool) (x : Option (Bs × Int)), dT (q && (!(decide ((pre.length : Int) = 0)))) (cA ((pre.length : Int) - 1) (B ++ [46, 13, 10]).length) x = x := fun q x => fQ fun e => by
    simp only [Bool.and_eq_true, Bool.not_eq_true', decide_eq_false_iff_not] at e
    omega
  have hp : ((decide ((pre.length : Int) = 0)) || (decide (at_ (B ++ [46, 13, 10]) ((pre.length : Int) - 1) = 10))) = decide (pre = [] ∨ pre.getLast? = some 10) := by
    by_cases h0 : pre = []
    · subst h0; rfl
    · have hpp := List.length_pos_iff.2 h0
      have ea : at_ (B ++ [46, 13, 10]) ((pre.length : Int) - 1) = pre[pre.length - 1] := by
        rw [show (pre.length : Int) - 1 = ((pre.length - 1 : Nat) : Int) by omega, dM (by omega)]
        simp only [hb, List.append_assoc]
        rw [List.getElem_append_left (by omega)]
      rw [decide_eq_false (p := (pre.length : Int) = 0) (by omega), fo, ea]
      have : (pre = [] ∨ pre.getLast? = some 10) ↔ pre[pre.length - 1] = 10 := by
        rw [List.getLast?_eq_getElem?, au (by omega)]
        simp [h0]
      simp only [this]
  unfold cr cP
  rw [e3, dW (by omega), bT (by omega), cK (by omega), bO, hat, gcI (by omega)]
  rw [e3] at gA
  rw [gA, bO, hp, bif_f, cK (by omega), bO, e1, dx (by omega), bO, dW (by omega), List.length_append, e1]
  · rfl
  · simp only [Bool.and_eq_false_iff, decide_eq_false_iff_not]
    by_cases q : c = 46
    · exact .inr (fun z => hk ⟨q, z⟩)
    · exact .inl q
theorem un_skip (F : Nat) (B : Bs) (hB : B.length ≤ 1000000) (acc pre : Bs) (t : Bs) (n : Nat) (hb : B = pre ++ 46 :: t) (hk : pre = [] ∨ pre.getLast? = some 10) :
    bH F (B ++ [46, 13, 10]) (n + 1) (acc, (pre.length : Int)) = bH F (B ++ [46, 13, 10]) n (acc, ((pre ++ [46]).length : Int)) := by
  show cr F (B ++ [46, 13, 10]) (bH F (B ++ [46, 13, 10]) n) acc (pre.length : Int) = _
  have e3 : (B ++ [46, 13, 10]).length = B.length + 3 := by simp
  have hl : pre.length < B.length := by rw [hb]; simp
  have hat : at_ (B ++ [46, 13, 10]) (pre.length : Int) = 46 := by rw [dM (by omega)]; simp [hb]
  have gA : ∀ (q : Bool) (x : Option (Bs × Int)), dT (q && (!(decide ((pre.length : Int) = 0)))) (cA ((pre.length : Int) - 1) (B ++ [46, 13, 10]).length) x = x := fun q x => fQ fun e => by
    simp only [Bool.and_eq_true, Bool.not_eq_true', decide_eq_false_iff_not] at e
    omega
  have hp : ((decide ((pre.length : Int) = 0)) || (decide (at_ (B ++ [46, 13, 10]) ((pre.length : Int) - 1) = 10))) = true := by
    by_cases h0 : pre = []
    · subst h0; rfl
    · have hpp := List.length_pos_iff.2 h0
      have ea : at_ (B ++ [46, 13, 10]) ((pre.length : Int) - 1) = pre[pre.length - 1] := by
        rw [show (pre.length : Int) - 1 = ((pre.length - 1 : Nat) : Int) by omega, dM (by omega)]
        simp only [hb, List.append_assoc]
        rw [List.getElem_append_left (by omega)]
      have : pre[pre.length - 1] = 10 := by
        rcases hk with z | z
        · exact absurd z h0
        · rw [List.getLast?_eq_getElem?, au (by omega)] at z
          exact aC z
      rw [ea, this, decide_eq_true (p := (10 : UInt8) = 10) rfl, Bool.or_true]
  unfold cr cP
  rw [e3, dW (by omega), bT (by omega), cK (by omega), bO, hat, gcI (by omega)]
  rw [e3] at gA
  rw [gA, bO, hp, decide_eq_true (p := (46 : UInt8) = 46) rfl, gz, ctr, dW (by omega), List.length_append]
  rfl
theorem oe (F : Nat) (B : Bs) (hB : B.length ≤ 1000000) : ∀ (r : Bs) (s : Bool) (pre acc : Bs) (n : Nat), B = pre ++ stD s r → (s = true ↔ (pre = [] ∨ pre.getLast? = some 10)) → (stD s r).length < n → acc.length + r.length ≤ 1000000 →
    bH F (B ++ [46, 13, 10]) n (acc, (pre.length : Int)) = dm F (B ++ [46, 13, 10]) (acc ++ r)
  | [], s, pre, acc, n, hb, hs, hn, ha => by
    obtain ⟨n, rfl⟩ : ∃ k, n = k + 1 := ⟨n - 1, by omega⟩
    have e : stD s [] = [] := by cases s <;> rfl
    rw [e, List.append_nil] at hb
    have e3 : (B ++ [46, 13, 10]).length = B.length + 3 := by simp
    show cr F (B ++ [46, 13, 10]) (bH F (B ++ [46, 13, 10]) n) acc (pre.length : Int) = _
    unfold cr
    rw [e3, dW (by omega), bF (by rw [hb]; omega), List.append_nil]
  | c :: r, s, pre, acc, n, hb, hs, hn, ha => by
    simp only [List.length_cons] at ha
    have es : stD s (c :: r) = (if s = true ∧ c = 46 then [46, c] else [c]) ++ stD (decide (c = 10)) r := rfl
    rw [es] at hb hn
    have hlast : ∀ p : Bs, (decide (c = 10) = true ↔ (p ++ [c] = [] ∨ (p ++ [c]).getLast? = some 10)) := fun p => by simp
    by_cases q : s = true ∧ c = 46
    · obtain ⟨q1, q2⟩ := q
      subst q2
      rw [if_pos ⟨q1, rfl⟩] at hb hn
      simp only [List.length_append, List.length_cons, List.length_nil] at hn
      obtain ⟨n, rfl⟩ : ∃ k, n = k + 1 + 1 := ⟨n - 2, by omega⟩
      rw [un_skip F B hB acc pre (46 :: stD (decide ((46 : UInt8) = 10)) r) (n + 1) (by rw [hb]; simp) (hs.1 q1)]
      rw [qq F B hB acc (pre ++ [46]) 46 (stD (decide ((46 : UInt8) = 10)) r) n (by rw [hb]; simp) (by omega) (fun z => by
        rcases z.2 with y | y
        · simp at y
        · simp at y)]
      rw [oe F B hB r (decide ((46 : UInt8) = 10)) (pre ++ [46] ++ [46]) (acc ++ [46]) n (by rw [hb]; simp) (hlast _) (by omega) (by rw [List.length_append]; simp; omega)]
      simp
    · rw [if_neg q] at hb hn
      simp only [List.length_append, List.length_cons, List.length_nil] at hn
      obtain ⟨n, rfl⟩ : ∃ k, n = k + 1 := ⟨n - 1, by omega⟩
      rw [qq F B hB acc pre c (stD (decide (c = 10)) r) n (by rw [hb]; simp) (by omega) (fun z => q ⟨hs.2 z.2, z.1⟩)]
      rw [oe F B hB r (decide (c = 10)) (pre ++ [c]) (acc ++ [c]) n (by rw [hb]; simp) (hlast _) (by omega) (by rw [List.length_append]; simp; omega)]
      simp
theorem un_sent (F : Nat) (hF : 20000 < F) (ml : Bs) (h : iU ml = true) (hl : ml.length ≤ 1000) : fa F (gR ml) = some (ml, 0) := by
  have hs : gR ml = stD true ml ++ [46, 13, 10] := by unfold gR; rw [if_pos h]
  have hlen := ow ml true
  rw [hs]
  unfold fa
  rw [bF (by simp; omega)]
  have := oe F (stD true ml) (by omega) ml true [] [] F rfl (by simp) (by omega) (by simp; omega)
  refine Eq.trans this ?_
  unfold dm
  rw [List.nil_append, qP F ml (by omega) (by omega), cl, hs, if_pos h, decide_eq_true rfl, decide_eq_true rfl]
  rfl
section
variable (F : Nat) (fr rc nm ml : Bs) (c0 c1 c2 c3 : Int)
theorem fu (hF : 20000 < F) (hf : ((fr.length ≤ 100 ∧ rc.length ≤ 100) ∧ nm.length ≤ 100) ∧ ml.length ≤ 600) (n : Nat) (got : Bs) (i : Int) (ph out c : Int) (ha : at_ ([220, c0, c1, c2, 354, c3, 221] : List Int) i = c) (h0 : 0 ≤ i) (h7 : i < 7) (hc : 200 ≤ c ∧ c ≤ 400) :
    bl F ml c0 c1 c2 c3 (n + 1) (got, i, ph, out, fr, rc, nm, ml) =
      bl F ml c0 c1 c2 c3 n ((if i = 4 then (dp fr rc nm ml ph out c [[111, 107]]).2.2 else got), i + 1, (dp fr rc nm ml ph out c [[111, 107]]).1, (dp fr rc nm ml ph out c [[111, 107]]).2.1, fr, rc, nm, ml) := by
  show ck F ml c0 c1 c2 c3 (bl F ml c0 c1 c2 c3 n) got i ph out fr rc nm ml = _
  have e7 : ([220, c0, c1, c2, 354, c3, 221] : List Int).length = 7 := rfl
  have e2 : ([111, 107] : Bs).length = 2 := rfl
  unfold ck cW cD
  rw [e7, bT (by omega), cK (by omega), bO, ha, Step_eq F fr rc nm ml c [[111, 107]] 0 0 0 (by omega) (by omega) (by omega) (by omega) (by omega) (by omega) (by omega) (fun s hs => by rw [List.mem_singleton.1 hs, e2]; omega) (by simp) ph out, cC]
  simp only
  rw [dW (by omega)]
  by_cases g : i = 4
  · rw [bT g, if_pos g]
  · rw [bF g, if_neg g, dW (by omega)]
theorem oB {ph c : Int} (hp : ph = 1 ∨ ph = 2 ∨ ph = 3 ∨ ph = 5) (h : 200 ≤ c ∧ c ≤ 299) : fm ph c = true := by
  unfold fm
  rw [if_neg (by omega), if_neg (by omega), decide_eq_true h.1, decide_eq_true h.2]; rfl
theorem rH (hF : 20000 < F) (hf : ((fr.length ≤ 100 ∧ rc.length ≤ 100) ∧ nm.length ≤ 100) ∧ ml.length ≤ 600) (hm : iU ml = true) (h0 : 200 ≤ c0 ∧ c0 ≤ 299) (h1 : 200 ≤ c1 ∧ c1 ≤ 299) (h2 : 200 ≤ c2 ∧ c2 ≤ 299) (h3 : 200 ≤ c3 ∧ c3 ≤ 299) :
    bl F ml c0 c1 c2 c3 F ([], 0, 0, 0, fr, rc, nm, ml) = some true := by
  obtain ⟨n, e⟩ : ∃ n, F = n + 1 + 1 + 1 + 1 + 1 + 1 + 1 + 1 := ⟨F - 8, by omega⟩
  have hz : fk [[111, 107]] = 0 := rfl
  have s0 : dp fr rc nm ml 0 0 220 [[111, 107]] = (1, 0, ehloD nm) := by
    unfold dp; rw [if_neg (by omega), if_neg (by omega), if_neg (by omega), if_pos (by rfl)]; rfl
  have s1 : dp fr rc nm ml 1 0 c0 [[111, 107]] = (2, 0, oc fr) := by
    unfold dp; rw [if_neg (by omega), if_neg (by omega), if_neg (by omega), if_pos (oB (.inl rfl) h0)]; simp [goP, hz]
  have s2 : dp fr rc nm ml 2 0 c1 [[111, 107]] = (3, 0, pD rc) := by
    unfold dp; rw [if_neg (by omega), if_neg (by omega), if_neg (by omega), if_pos (oB (.inr (.inl rfl)) h1)]; rfl
  have s3 : dp fr rc nm ml 3 0 c2 [[111, 107]] = (4, 0, dataD) := by
    unfold dp; rw [if_neg (by omega), if_neg (by omega), if_neg (by omega), if_pos (oB (.inr (.inr (.inl rfl))) h2)]; rfl
  have s4 : dp fr rc nm ml 4 0 354 [[111, 107]] = (5, 0, gR ml) := by
    unfold dp; rw [if_neg (by omega), if_neg (by omega), if_neg (by omega), if_pos (by rfl)]; rfl
  have s5 : dp fr rc nm ml 5 0 c3 [[111, 107]] = (6, 1, jL) := by
    unfold dp; rw [if_neg (by omega), if_neg (by omega), if_neg (by omega), if_pos (oB (.inr (.inr (.inr rfl))) h3)]; rfl
  have s6 : dp fr rc nm ml 6 1 221 [[111, 107]] = (7, 1, []) := by
    unfold dp; rw [if_neg (by omega), if_neg (by omega), if_pos rfl]
  have key : ∀ k, k = n + 1 + 1 + 1 + 1 + 1 + 1 + 1 + 1 → bl F ml c0 c1 c2 c3 k ([], 0, 0, 0, fr, rc, nm, ml) = some true := fun k hk => by
    rw [hk, fu F fr rc nm ml c0 c1 c2 c3 hF hf _ [] 0 0 0 220 rfl (by omega) (by omega) (by omega), s0, if_neg (by decide)]
    rw [fu F fr rc nm ml c0 c1 c2 c3 hF hf _ [] (0 + 1) 1 0 c0 rfl (by omega) (by omega) (by omega), s1, if_neg (by decide)]
    rw [fu F fr rc nm ml c0 c1 c2 c3 hF hf _ [] (0 + 1 + 1) 2 0 c1 rfl (by omega) (by omega) (by omega), s2, if_neg (by decide)]
    rw [fu F fr rc nm ml c0 c1 c2 c3 hF hf _ [] (0 + 1 + 1 + 1) 3 0 c2 rfl (by omega) (by omega) (by omega), s3, if_neg (by decide)]
    rw [fu F fr rc nm ml c0 c1 c2 c3 hF hf _ [] (0 + 1 + 1 + 1 + 1) 4 0 354 rfl (by omega) (by omega) (by omega), s4, if_pos (by decide)]
    rw [fu F fr rc nm ml c0 c1 c2 c3 hF hf _ (gR ml) (0 + 1 + 1 + 1 + 1 + 1) 5 0 c3 rfl (by omega) (by omega) (by omega), s5, if_neg (by decide)]
    rw [fu F fr rc nm ml c0 c1 c2 c3 hF hf _ (gR ml) (0 + 1 + 1 + 1 + 1 + 1 + 1) 6 1 221 rfl (by omega) (by omega) (by omega), s6, if_neg (by decide)]
    show ck F ml c0 c1 c2 c3 (bl F ml c0 c1 c2 c3 n) (gR ml) (0 + 1 + 1 + 1 + 1 + 1 + 1 + 1) 7 1 fr rc nm ml = _
    have e7 : ([220, c0, c1, c2, 354, c3, 221] : List Int).length = 7 := rfl
    unfold ck cX
    rw [e7, bF (by decide), un_sent F hF ml hm (by omega), cl]
    simp only [decide_true]
    rfl
  exact key F e
theorem pm (hF : 20000 < F) (hf : ((fr.length ≤ 100 ∧ rc.length ≤ 100) ∧ nm.length ≤ 100) ∧ ml.length ≤ 600) (hm : iU ml = true) (cs : List Int) (h4 : cs.length = 4) : ∀ (n i : Nat), 4 - i < n → i ≤ 4 → (∀ c ∈ cs.take i, 200 ≤ c ∧ c ≤ 299) →
    cY F ml cs (0, 0, fr, rc, nm, ml, 0) n (i : Int) = some true := by
  intro n
  induction n with
  | zero => intro i h; omega
  | succ n ih =>
    intro i hn hi hc;show cZ F ml cs (0, 0, fr, rc, nm, ml, 0) (cY F ml cs (0, 0, fr, rc, nm, ml, 0) n) (i : Int) = _
    unfold cZ
    by_cases h : i < 4
    · rw [bT (by omega), cK (by omega), bO, fQ (fun _ => by omega), bO, dM (by omega)]
      by_cases g : 200 ≤ cs[i] ∧ cs[i] ≤ 299
      · rw [bif_f, dW (by omega), eY]
        · refine ih (i + 1) (by omega) (by omega) fun c hx => ?_
          rw [List.take_succ_eq_append_getElem (by omega)] at hx
          rcases List.mem_append.1 hx with hx | hx
          · exact hc c hx
          · rw [List.mem_singleton.1 hx]; exact g
        · simp only [Bool.or_eq_false_iff, decide_eq_false_iff_not]
          omega
      · rw [bif_t]
        simp only [Bool.or_eq_true, decide_eq_true_eq]
        omega
    · have hi4 : i = 4 := by omega
      rw [bF (by omega)]
      rw [hi4, show cs.take 4 = cs from List.take_of_length_le (by omega)] at hc
      have m : ∀ k (hk : k < cs.length), 200 ≤ cs[k] ∧ cs[k] ≤ 299 := fun k hk => hc _ (List.getElem_mem hk)
      unfold cV
      have a0 : at_ cs 0 = cs[0] := lS (by omega)
      have a1 : at_ cs 1 = cs[1] := dM (i := 1) (by omega)
      have a2 : at_ cs 2 = cs[2] := dM (i := 2) (by omega)
      have a3 : at_ cs 3 = cs[3] := dM (i := 3) (by omega)
      rw [cK (by omega), bO, cK (by omega), bO, cK (by omega), bO, cK (by omega), bO, a0, a1, a2, a3]
      exact rH F fr rc nm ml _ _ _ _ hF hf hm (m 0 _) (m 1 _) (m 2 _) (m 3 _)
theorem mS (hF : 1100000 < F) (hw : gk F = some true) (ph out : Int) (hfr : fr.length ≤ 1100000) (hrc : rc.length ≤ 1100000) (hnm : nm.length ≤ 1100000) (hml : ml.length ≤ 1100000) (cs : List Int) : dB F ph out fr rc nm ml cs = some true := by
  unfold dB
  rw [hw, cC, few_eq, cC, start_eq F fr rc nm ml hfr hrc hnm hml (by omega) (by omega) (by omega) (by omega), cC]
  by_cases h : ((((fr.length ≤ 100 ∧ rc.length ≤ 100) ∧ nm.length ≤ 100) ∧ ml.length ≤ 600) ∧ mayS fr rc nm ml = true) ∧ cs.length = 4
  · have hmay : iU ml = true := by
      have := h.1.2
      unfold mayS at this
      simp only [Bool.and_eq_true] at this
      exact this.2
    unfold ov
    rw [if_pos h.1.2, bif_f]
    · exact pm F fr rc nm ml (by omega) h.1.1 hmay cs h.2 F 0 (by omega) (by omega) (by simp)
    · simp only [Bool.or_eq_false_iff, Bool.not_eq_false', decide_eq_true_eq, decide_eq_false_iff_not]
      exact ⟨⟨⟨trivial, h.1.1⟩, trivial⟩, by omega⟩
  · rw [bif_t]
    unfold ov
    by_cases g : mayS fr rc nm ml = true
    · simp only [Bool.or_eq_true, Bool.not_eq_true', decide_eq_true_eq, decide_eq_false_iff_not]
      have : ¬ ((((fr.length ≤ 100 ∧ rc.length ≤ 100) ∧ nm.length ≤ 100) ∧ ml.length ≤ 600) ∧ cs.length = 4) := fun z => h ⟨⟨z.1, g⟩, z.2⟩
      omega
    · rw [if_neg g]
      simp
end
theorem ClientModel_t (ph out : Int) (fr rc nm ml : Bs) (cs : List Int) (hfr : fr.length ≤ 1100000) (hrc : rc.length ≤ 1100000) (hnm : nm.length ≤ 1100000) (hml : ml.length ≤ 1100000) : dB 2000000 ph out fr rc nm ml cs = some true :=
  mS 2000000 fr rc nm ml (by omega) awake_eq ph out hfr hrc hnm hml cs
end Go.Cl
namespace Go.Av
open Go.RowKit Go.ChangeShapes Go.WideShapes
section
variable {H : Type} {enc : TypeId × Value → H} {P : Program} {w : World}
def Opens {H : Type} (enc : TypeId × Value → H) (P : Program) (w : World) (t : TypeId) {α : Type} (E : α → List AV) (p : α → Prop) : Prop :=
  ∀ fuel cs d, DataW.trod enc P w 0 (fun _ => true) true fuel t cs = some d → ∃ x, p x ∧ RelL (Info.start w) w (E x) cs
theorem qT {t : TypeId} {k : IntKind} (ht : P.underlying t = some (.int k)) : Opens enc P w t (fun n : Int => [.v (.int k n)]) (fun n => (Lit.int k n).wf = true) := by
  intro fuel cs d h;obtain ⟨n, rfl, _, hw⟩ := DataW.trod_int ht h;exact ⟨n, hw, .cons (.v _) .nil⟩
theorem pP {t e : TypeId} (ht : P.underlying t = some (.slice e)) (he : P.underlying e = some (.int .i64)) (hc : P.cellsOf e = 1) :
    Opens enc P w t (fun l : List Int => [slE Enc.int l none]) (fun l => l.length ≤ maxLen ∧ ∀ n ∈ l, (Lit.int .i64 n).wf = true) := by
  intro fuel cs d h
  rcases open_ints ht he hc h with ⟨rfl, _⟩ | ⟨x, len, cap, zs, rfl, _, hl, hm, hz, _, hcell, hw⟩
  · exact ⟨[], ⟨by simp, by simp⟩, .cons (.slz _ _ _) .nil⟩
  · simp only [if_true] at hz
    have hll : (zs.take len).length = len := by simp; omega
    refine ⟨zs.take len, ⟨by rw [hll]; omega, fun n hn => hw n (List.mem_of_mem_take hn)⟩, .cons ?_ .nil⟩
    have := qs (w := w) Enc.int (fun n => .int .i64 n) (fun _ => rfl) (zs.take len) x cap (by omega) (fun i hi => by
      rw [hll] at hi
      rw [hcell i (by omega)]
      simp [List.getD, show i < zs.length by omega])
    rw [hll] at this
    exact this
end
end Go.Av
namespace Go.Av
open Go.RowKit Go.ChangeShapes Go.WideShapes
open Go.Proofs.YtgjkjkmmgdbcoaaGreatDoor (Rows.uptoBulk Rows.uptoBulkAll Rows.uptoSmall)
section
variable {H : Type}
theorem bulk_one (d : DataW H) : 1 ≤ Rows.uptoBulk d := by
  cases d with
  | lit l => cases l <;> simp [Rows.uptoBulk]
  | _ => simp [Rows.uptoBulk]
theorem bulk_part {d : DataW H} : ∀ {l : List (DataW H)}, d ∈ l → Rows.uptoBulk d ≤ Rows.uptoBulkAll l
  | x :: r, h => by
    simp only [Rows.uptoBulkAll]
    rcases List.mem_cons.1 h with rfl | h
    · omega
    · have := bulk_part h; omega
theorem ly : ∀ l : List (DataW H), l.length ≤ Rows.uptoBulkAll l
  | [] => by simp [Rows.uptoBulkAll]
  | x :: r => by have := bulk_one x; have := ly r; simp only [Rows.uptoBulkAll, List.length_cons]; omega
theorem qg (a b : List (DataW H)) : Rows.uptoBulk (.slice a b) = Rows.uptoBulkAll a + Rows.uptoBulkAll b + 1 := by simp only [Rows.uptoBulk]
theorem bulk_str (b : List UInt8) : Rows.uptoBulk (DataW.lit (H := H) (.string b)) = b.length + 1 := by simp [Rows.uptoBulk]
theorem bulk_le {l : List (DataW H)} (hk : Rows.uptoSmall H l = true) : Rows.uptoBulkAll l ≤ 1048576 := by simpa only [Rows.uptoSmall, decide_eq_true_eq] using hk
end
section
variable {M : Nat} {H : Type} {enc : TypeId × Value → H} {P : Program} {w : World}
def jF (M : Nat) {H : Type} (enc : TypeId × Value → H) (P : Program) (w : World) (t : TypeId) {α : Type} (E : α → List AV) (p : α → Prop) : Prop :=
  ∀ fuel cs d, DataW.trod enc P w 0 (fun _ => true) true fuel t cs = some d → Rows.uptoBulk d.1 ≤ M → ∃ x, p x ∧ RelL (Info.start w) w (E x) cs
theorem opensN_bytes {t e : TypeId} (ht : P.underlying t = some (.slice e)) (he : P.underlying e = some (.int .u8)) (hc : P.cellsOf e = 1) :
    jF M enc P w t (fun l : List UInt8 => [slE Enc.byte l none]) (fun l => l.length ≤ M) := by
  intro fuel cs d h hbk
  rcases open_ints ht he hc h with ⟨rfl, _⟩ | ⟨x, len, cap, zs, rfl, _, hl, hm, hz, hd, hcell, hw⟩
  · exact ⟨[], by simp, .cons (.slz _ _ _) .nil⟩
  · simp only [if_true] at hz
    obtain ⟨l, hl', hm', r⟩ := qS (w := w) (a := some x) (len := len) (cap := cap) (zs := zs) (.inr ⟨x, rfl, hl, hm, hz, hcell, hw⟩);refine ⟨l, ?_, .cons r .nil⟩
    have := ly (H := H) (lits .u8 (zs.take len))
    rw [hd, qg] at hbk
    have h2 : (lits (H := H) .u8 (zs.take len)).length = len := by simp [lits]; omega
    omega
theorem oneN_of {t : TypeId} {v : Value} {d : DataW H} {ps : List MemPlace} {α : Type} {E : α → AV} {p : α → Prop} (hv : v.cells = #[v]) (hd : DataW.Trod enc P w 0 (fun _ => true) true t v d ps) (hk : Rows.uptoBulk d ≤ M) (h : jF M enc P w t (fun x => [E x]) p) :
    ∃ x, p x ∧ Rel (Info.start w) w (E x) v := by
  obtain ⟨fuel, hf⟩ := hd;obtain ⟨x, hx, rx⟩ := h _ _ _ hf hk
  rw [hv] at rx
  exact ⟨x, hx, rx.head⟩
end
end Go.Av
namespace Go.Av
open Go.RowKit Go.ChangeShapes Go.WideShapes
open Go.Proofs.YtgjkjkmmgdbcoaaGreatDoor (Rows.uptoBulk Rows.uptoBulkAll Rows.uptoSmall)
section
variable {M : Nat} {H : Type} {enc : TypeId × Value → H} {P : Program} {w : World}
theorem opensN_int {t : TypeId} {k : IntKind} (ht : P.underlying t = some (.int k)) : jF M enc P w t (fun n : Int => [.v (.int k n)]) (fun n => (Lit.int k n).wf = true) := fun fuel cs d h _ => qT ht fuel cs d h
theorem opensN_ints {t e : TypeId} (ht : P.underlying t = some (.slice e)) (he : P.underlying e = some (.int .i64)) (hc : P.cellsOf e = 1) :
    jF M enc P w t (fun l : List Int => [slE Enc.int l none]) (fun l => l.length ≤ maxLen ∧ ∀ n ∈ l, (Lit.int .i64 n).wf = true) := fun fuel cs d h _ => pP ht he hc fuel cs d h
theorem opensN_str {t : TypeId} (ht : P.underlying t = some .string) : jF M enc P w t (fun s : List UInt8 => [S s]) (fun s => s.length ≤ M) := by
  intro fuel cs d h hbk;obtain ⟨s, rfl, hd, hw⟩ := DataW.trod_string ht h;refine ⟨s.data.toList, ?_, .cons (mj _ _ s) .nil⟩
  rw [hd, bulk_str] at hbk
  omega
theorem bulk_agg (a : List (DataW H)) : Rows.uptoBulk (.agg a) = Rows.uptoBulkAll a + 1 := by simp only [Rows.uptoBulk]
def lT (M : Nat) {H : Type} (enc : TypeId × Value → H) (P : Program) (w : World) (tot off : Nat) (fs : List Field) {α : Type} (E : α → List AV) (p : α → Prop) : Prop :=
  ∀ (n : Nat) (cs : List Value), cs.length = tot → (∀ f ∈ fs, ∃ d, DataW.trod enc P w 0 (fun _ => true) true n f.type ((cs.drop f.offset).take (P.cellsOf f.type)) = some d ∧ Rows.uptoBulk d.1 ≤ M) → ∃ x, p x ∧ RelL (Info.start w) w (E x) (cs.drop off)
theorem opensFN_nil {tot : Nat} : lT M enc P w tot tot [] (fun _ : Unit => []) (fun _ => True) := fun n cs hl _ => ⟨(), trivial, by rw [ba (by omega)]; exact .nil⟩
theorem opensFN_cons {tot off k : Nat} {f : Field} {fs : List Field} {α β : Type} {E : α → List AV} {p : α → Prop} {F : β → List AV} {q : β → Prop} (ho : f.offset = off) (hk : P.cellsOf f.type = k)
    (h : jF M enc P w f.type E p) (g : lT M enc P w tot (off + k) fs F q) : lT M enc P w tot off (f :: fs) (fun x : α × β => E x.1 ++ F x.2) (fun x => p x.1 ∧ q x.2) := by
  intro n cs hl H;obtain ⟨d, hd, hb⟩ := H f (by simp);obtain ⟨x, hx, rx⟩ := h _ _ _ hd hb
  obtain ⟨y, hy, ry⟩ := g n cs hl fun f' hf' => H f' (by simp [hf'])
  refine ⟨(x, y), ⟨hx, hy⟩, ?_⟩
  rw [ho, hk] at rx
  have := rx.append ry
  rwa [← List.drop_drop, List.take_append_drop] at this
theorem opensN_struct {t : TypeId} {fs : Array Field} {tot : Nat} {α : Type} {E : α → List AV} {p : α → Prop} (ht : P.underlying t = some (.struct fs)) (hc : P.cellsOf t = tot) (h : lT M enc P w tot 0 fs.toList E p) :
    jF M enc P w t E p := by
  intro fuel cs d hd hbk;obtain ⟨xs, n, _, hde, hl, hlen, each⟩ := DataW.trod_struct ht hd
  obtain ⟨x, hx, rx⟩ := h n cs (by omega) fun f hf => by
    obtain ⟨i, hi, rfl⟩ := List.getElem_of_mem hf
    have hi' : i < fs.size := by simpa using hi
    rw [each i _ (by simp [hi'])]
    refine ⟨xs[i]'(by omega), au _, ?_⟩
    have hm : (xs[i]'(by omega)).1 ∈ xs.map (·.1) := List.mem_map.2 ⟨_, List.getElem_mem _, rfl⟩
    have := bulk_part hm
    rw [hde, bulk_agg] at hbk
    omega
  exact ⟨x, hx, by simpa using rx⟩
theorem open_aggN {t : TypeId} {fs : Array Field} {r : Reach} {b0 : Nat} {v : Value} {d : DataW H} {ps : List MemPlace} {α : Type} {E : α → List AV} {p : α → Prop} (ht : P.underlying t = some (.struct fs))
    (hval : Value.okWide P w r b0 t v) (hd : DataW.Trod enc P w 0 (fun _ => true) true t v d ps) (hk : Rows.uptoBulk d ≤ M) (h : jF M enc P w t E p) : ∃ x, p x ∧ Rel (Info.start w) w (.agg (E x)) v := by
  obtain ⟨cs, rfl, _⟩ := okWide_struct ht hval;obtain ⟨fuel, hf⟩ := hd;obtain ⟨x, hx, rx⟩ := h _ _ _ hf hk;refine ⟨x, hx, ?_⟩
  have := Rel.agg _ _ rx.1 rx.2
  simpa [Value.cells] using this
end
end Go.Av
