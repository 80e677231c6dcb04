/-
  Texts in one (only what ClientRuns needs): RqL, ClA, RqI, RqR, ClR, ClT, ClRuns, AvOpen.
-/
import Derived.Test.YtgjkjkmmgdbcoaaGreatDoorZClientRuns5
import Derived.Lib.IndexLaws
import Derived.RowKit
import Derived.OpenShut
import Derived.ChangeSlices
import Derived.SliceStrings
set_option linter.unusedVariables false
set_option linter.unusedSimpArgs false
namespace Go.Rp
open Go.Pv Go.Av
open Go.Lib (decDigits indexByte)
open Go.Dg (val Dig kg cfl ctr dG eC fo nfl ntr fD ja rn ov pl)
theorem ib_ge (b : Bs) (c : UInt8) : -1 ≤ indexByte b c := Go.Lib.indexByte_ge b c
theorem ib_lt (b : Bs) (c : UInt8) : indexByte b c < b.length := (rO b c).2
theorem ib_at (p q : Bs) (c : UInt8) (h : ∀ b ∈ p, b ≠ c) : indexByte (p ++ c :: q) c = (p.length : Int) := by
  induction p with
  | nil => simp [Go.Lib.indexByte]
  | cons a p ih =>
    have e : ¬ (a == c) = true := by simpa using h a (by simp)
    have ih' := ih fun b hb => h b (by simp [hb])
    show indexByte (a :: (p ++ c :: q)) c = _
    unfold Go.Lib.indexByte
    rw [if_neg e, ih']
    have e3 : (((p.length : Nat) : Int) == -1) = false := by
      simp
    rw [e3]
    simp
theorem ld {b : Bs} {c : UInt8} {i : Nat} (h : indexByte b c = (i : Int)) : ∃ p q, b = p ++ c :: q ∧ p.length = i ∧ ∀ x ∈ p, x ≠ c := by
  induction b generalizing i with
  | nil => have : (-1 : Int) = (i : Int) := h; omega
  | cons a b ih =>
    unfold Go.Lib.indexByte at h
    by_cases e : (a == c) = true
    · rw [if_pos e] at h
      refine ⟨[], b, ?_, by simp only [List.length_nil]; omega, by simp⟩
      rw [show a = c by simpa using e]; rfl
    · rw [if_neg e] at h
      by_cases e2 : indexByte b c = -1
      · rw [e2] at h
        have : (-1 : Int) = (i : Int) := h
        omega
      · have e3 : (indexByte b c == -1) = false := by simpa using e2
        rw [e3] at h
        simp only [Bool.false_eq_true, if_false] at h
        have hg := ib_ge b c
        obtain ⟨p, q, h1, h2, h3⟩ := ih (i := i - 1) (by omega);refine ⟨a :: p, q, by rw [h1]; rfl, by simp; omega, fun x hx => ?_⟩
        rcases List.mem_cons.1 hx with rfl | hx
        · intro e4; exact e (by simp [e4])
        · exact h3 x hx
theorem ib_no {b : Bs} {c : UInt8} (h : ∀ x ∈ b, x ≠ c) : indexByte b c = -1 := qN h
inductive Ln | wait | bad | ok (s : Bs)
def jz (b : Bs) : Ln :=
  if indexByte b 10 < 0 then (if b.length < 512 then .wait else .bad)
  else if indexByte b 10 < 512 ∧ 0 < indexByte b 10 ∧ indexByte b 13 = indexByte b 10 - 1 then .ok (b.take (indexByte b 10 - 1).toNat) else .bad
theorem ln_ok {b s : Bs} (h : jz b = .ok s) : ∃ t, b = s ++ 13 :: 10 :: t ∧ (∀ x ∈ s, crlf x = false) ∧ s.length ≤ 510 := by
  unfold jz at h
  by_cases h0 : indexByte b 10 < 0
  · rw [if_pos h0] at h
    split at h <;> cases h
  · rw [if_neg h0] at h
    split at h
    · rename_i hc
      obtain ⟨h1, h2, h3⟩ := hc
      have hs : b.take (indexByte b 10 - 1).toNat = s := by injection h
      obtain ⟨p, q, e1, e2, e3⟩ := ld (b := b) (c := 10) (i := (indexByte b 10).toNat) (by omega);obtain ⟨p', q', g1, g2, g3⟩ := ld (b := b) (c := 13) (i := (indexByte b 10 - 1).toNat) (by omega)
      have hp' : p' = s := by rw [← hs, ← g2, g1, List.take_left' rfl]
      have hp : p = p' ++ [13] := by
        have a1 : b.take (indexByte b 10).toNat = p := by rw [← e2, e1, List.take_left' rfl]
        have a2 : b.take (indexByte b 10).toNat = p' ++ [13] := by
          have l : (indexByte b 10).toNat = (p' ++ [13]).length := by simp; omega
          rw [l, g1, show p' ++ 13 :: q' = (p' ++ [13]) ++ q' by simp, List.take_left' rfl]
        rw [← a1, a2]
      refine ⟨q, by rw [← hp', e1, hp]; simp, fun x hx => ?_, by rw [← hp']; omega⟩
      unfold crlf
      rw [← hp'] at hx
      rw [decide_eq_false (g3 x hx), decide_eq_false (e3 x (by rw [hp]; simp [hx]))]; rfl
    · cases h
theorem ln_of (s t : Bs) (h : ∀ x ∈ s, crlf x = false) (hl : s.length ≤ 510) : jz (s ++ 13 :: 10 :: t) = .ok s := by
  have h13 : ∀ x ∈ s, x ≠ 13 := fun x hx e => by have := h x hx; rw [e] at this; revert this; decide
  have h10 : ∀ x ∈ s ++ [13], x ≠ 10 := fun x hx e => by
    rcases List.mem_append.1 hx with hx | hx
    · have := h x hx; rw [e] at this; revert this; decide
    · rw [List.mem_singleton.1 hx] at e; revert e; decide
  have e1 := ib_at s (10 :: t) 13 h13
  have e2 := ib_at (s ++ [13]) t 10 h10
  rw [show (s ++ [13]) ++ 10 :: t = s ++ 13 :: 10 :: t by simp] at e2
  have e2' : indexByte (s ++ 13 :: 10 :: t) 10 = (s.length : Int) + 1 := by rw [e2]; simp
  unfold jz
  rw [e1, e2', if_neg (by omega), if_pos (by omega), show ((s.length : Int) + 1 - 1).toNat = s.length by omega, List.take_left']
  rfl
theorem tq {b s : Bs} (h : jz b = .ok s) : s.length + 2 ≤ b.length := by
  obtain ⟨t, rfl, _, _⟩ := ln_ok h
  simp
def jT (s : Bs) : Option Nat :=
  if 4 ≤ s.length ∧ (at_ s 3 = 45 ∨ at_ s 3 = 32) then
    match gx (s.take 3) with
    | some n => if 200 ≤ n ∧ n ≤ 599 then some n else none
    | none => none
  else none
theorem code_s {s : Bs} {n : Nat} (h : jT s = some n) : 4 ≤ s.length ∧ (at_ s 3 = 45 ∨ at_ s 3 = 32) ∧ (200 ≤ n ∧ n ≤ 599) ∧ gx (s.take 3) = some n := by
  unfold jT at h
  split at h
  · rename_i hc
    cases hn : gx (s.take 3) with
    | none => rw [hn] at h; cases h
    | some k =>
      rw [hn] at h
      simp only at h
      split at h
      · cases h; rename_i hk; exact ⟨hc.1, hc.2, hk, rfl⟩
      · cases h
  · cases h
abbrev Rp := Int × List Bs × M3
inductive One | wait | bad | ok (x : Rp) (n : Nat)
def kL : Nat → Int → List Bs → Nat → Bs → One
  | 0, _, _, _, b => match jz b with
    | .wait => .wait
    | _ => .bad
  | k + 1, c, ls, at', b => match jz b with
    | .wait => .wait
    | .bad => .bad
    | .ok s => match jT s with
      | none => .bad
      | some n => if ls ≠ [] ∧ (n : Int) ≠ c then .bad else
        if at_ s 3 = 32 then .ok ((n : Int), ls ++ [s.drop 4], jS (n : Int) (s.drop 4)) (at' + (s.length + 2))
        else kL k (n : Int) (ls ++ [s.drop 4]) (at' + (s.length + 2)) (b.drop (s.length + 2))
def one (b : Bs) : One := kL 100 0 [] 0 b
theorem ra : ∀ (k : Nat) (c : Int) (ls : List Bs) (a : Nat) (b : Bs) (x : Rp) (n : Nat), kL k c ls a b = .ok x n →
    ∃ (d : Nat) (l2 : List Bs), x = ((d : Int), ls ++ l2, jS (d : Int) (lst l2)) ∧ l2 ≠ [] ∧ l2.length ≤ k ∧ (∀ s ∈ l2, fitB s = true) ∧ (200 ≤ d ∧ d ≤ 599) ∧ (ls ≠ [] → (d : Int) = c) ∧ a < n ∧ n ≤ a + b.length ∧ b.take (n - a) = wrL (decDigits d) l2
  | 0, c, ls, a, b, x, n, h => by
    unfold kL at h
    split at h <;> cases h
  | k + 1, c, ls, a, b, x, n, h => by
    unfold kL at h
    cases hb : jz b with
    | wait => rw [hb] at h; cases h
    | bad => rw [hb] at h; cases h
    | ok s =>
      rw [hb] at h
      simp only at h
      cases hc : jT s with
      | none => rw [hc] at h; cases h
      | some m =>
        rw [hc] at h
        simp only at h
        by_cases h1 : ls ≠ [] ∧ (m : Int) ≠ c
        · rw [if_pos h1] at h; cases h
        rw [if_neg h1] at h
        have hcode : ls ≠ [] → (m : Int) = c := fun g => by
          by_cases e : (m : Int) = c
          · exact e
          · exact absurd ⟨g, e⟩ h1
        obtain ⟨t, ht, hs, hl⟩ := ln_ok hb;obtain ⟨c1, c2, c3, c4⟩ := code_s hc;obtain ⟨d1, d2⟩ := num_dd c4
        have hlen := tq hb
        have hfit : fitB (s.drop 4) = true := by
          unfold fitB
          rw [decide_eq_true (p := (s.drop 4).length ≤ 506) (by simp; omega), Bool.and_true]
          have : (s.drop 4).any crlf = false := by
            rw [List.any_eq_false]
            intro y hy
            rw [hs y (List.mem_of_mem_drop hy)]; simp
          rw [this]; rfl
        have hsplit : s = decDigits m ++ at_ s 3 :: s.drop 4 := by
          have e3 : at_ s 3 = s[3] := dj (i := 3) (by omega)
          rw [← d1, e3]
          have := aP (l := s) (i := 3) (by omega)
          conv => lhs; rw [← List.take_append_drop 3 s, this]
        have hln : b.take (s.length + 2) = lnW (decDigits m) (at_ s 3) (s.drop 4) := by
          conv => lhs; rw [ht]
          rw [show s ++ 13 :: 10 :: t = (s ++ [13, 10]) ++ t by simp, show s.length + 2 = (s ++ [13, 10]).length by simp, List.take_left' rfl]
          unfold lnW
          conv => lhs; rw [hsplit]
          simp
        by_cases h2 : at_ s 3 = 32
        · rw [if_pos h2] at h
          injection h with hx hn
          subst hx; subst hn
          refine ⟨m, [s.drop 4], rfl, by simp, by simp, fun y hy => ?_, c3, hcode, by omega, by omega, ?_⟩
          · rw [List.mem_singleton.1 hy]; exact hfit
          · rw [show a + (s.length + 2) - a = s.length + 2 by omega, hln, h2]
            unfold wrL
            rw [if_pos rfl]; unfold wrL; simp
        · rw [if_neg h2] at h
          obtain ⟨d, l2, e1, e2, e3, e4, e5, e6, e7, e8, e9⟩ := ra k _ _ _ _ x n h
          have hd : (d : Int) = (m : Int) := e6 (by simp)
          have hdm : d = m := by omega
          subst hdm;refine ⟨d, s.drop 4 :: l2, ?_, by simp, by simp; omega, fun y hy => ?_, e5, hcode, by omega, by simp at e8; omega, ?_⟩
          · rw [e1]
            have : lst (s.drop 4 :: l2) = lst l2 := by
              have hp : 0 < l2.length := List.length_pos_iff.2 e2
              unfold lst
              rw [show (((s.drop 4 :: l2).length : Int) - 1) = ((l2.length - 1 + 1 : Nat) : Int) by simp; omega, show ((l2.length : Int) - 1) = ((l2.length - 1 : Nat) : Int) by omega, dj (by simp only [List.length_cons]; omega), dj (by omega)]
              rfl
            rw [this, List.append_assoc]; rfl
          · rcases List.mem_cons.1 hy with rfl | hy
            · exact hfit
            · exact e4 y hy
          · have g3 : at_ s 3 = 45 := by
              rcases c2 with g | g
              · exact g
              · exact absurd g h2
            have hle : s.length + 2 ≤ n - a := by omega
            have : b.take (n - a) = b.take (s.length + 2) ++ (b.drop (s.length + 2)).take (n - (a + (s.length + 2))) := by
              rw [show n - a = (s.length + 2) + (n - (a + (s.length + 2))) by omega, List.take_add]
            rw [this, e9, hln, g3]
            show _ = lnW (decDigits d) (if l2 = [] then 32 else 45) (s.drop 4) ++ wrL (decDigits d) l2
            rw [if_neg e2]
inductive All : Bs → List Rp → Nat → Bool → Prop
  | wait {b : Bs} : one b = .wait → All b [] 0 false
  | bad {b : Bs} : one b = .bad → All b [] 0 true
  | ok {b : Bs} {x : Rp} {n : Nat} {l : List Rp} {u : Nat} {bd : Bool} : one b = .ok x n → All (b.drop n) l u bd → All b (x :: l) (n + u) bd
theorem one_pos {b : Bs} {x : Rp} {n : Nat} (h : one b = .ok x n) : 0 < n ∧ n ≤ b.length := by
  obtain ⟨d, l2, _, _, _, _, _, _, h7, h8, _⟩ := ra 100 0 [] 0 b x n h
  omega
theorem All.ex : ∀ (m : Nat) (b : Bs), b.length < m → ∃ l u bd, All b l u bd
  | 0, b, h => by omega
  | m + 1, b, h => by
    cases hb : one b with
    | wait => exact ⟨_, _, _, .wait hb⟩
    | bad => exact ⟨_, _, _, .bad hb⟩
    | ok x n =>
      obtain ⟨h1, h2⟩ := one_pos hb;obtain ⟨l, u, bd, hh⟩ := All.ex m (b.drop n) (by simp; omega);exact ⟨_, _, _, .ok hb hh⟩
theorem All.le {b : Bs} {l : List Rp} {u : Nat} {bd : Bool} (h : All b l u bd) : u ≤ b.length ∧ l.length ≤ u := by
  induction h with
  | wait e => simp
  | bad e => simp
  | ok e _ ih =>
    have := one_pos e
    simp at ih ⊢
    omega
def wrX (x : Rp) : Bs := wrA x.1 x.2.1
def mayX (x : Rp) : Bool := mayB x.1 x.2.1 x.2.2
theorem rL (l : List Bs) : ([] : List Bs) ++ l = l := rfl
theorem one_may {b : Bs} {x : Rp} {n : Nat} (h : one b = .ok x n) : mayX x = true ∧ wrX x = b.take n := by
  obtain ⟨d, l2, h1, h2, h3, h4, h5, _, _, _, h9⟩ := ra 100 0 [] 0 b x n h;subst h1
  have hp : 1 ≤ l2.length := List.length_pos_iff.2 h2
  refine ⟨?_, ?_⟩
  · unfold mayX mayB
    simp only [Bool.and_eq_true, decide_eq_true_eq, rL]
    exact ⟨⟨⟨⟨by omega, by omega⟩, hp, h3⟩, List.all_eq_true.2 h4⟩, trivial⟩
  · rw [Nat.sub_zero] at h9
    rw [h9]; rfl
theorem All.may {b : Bs} {l : List Rp} {u : Nat} {bd : Bool} (h : All b l u bd) : (∀ x ∈ l, mayX x = true) ∧ (l.map wrX).flatten = b.take u := by
  induction h with
  | wait e => exact ⟨by simp, by simp⟩
  | bad e => exact ⟨by simp, by simp⟩
  | ok e _ ih =>
    obtain ⟨h1, h2⟩ := one_may e;refine ⟨fun y hy => ?_, ?_⟩
    · rcases List.mem_cons.1 hy with rfl | hy
      · exact h1
      · exact ih.1 y hy
    · rw [List.map_cons, List.flatten_cons, h2, ih.2, List.take_add]
end Go.Rp
namespace Go.Cl
open Go.Pv Go.Av
open Go.Lib (indexByte)
open Go.Dg (cfl ctr dG eC fo nfl ntr)
theorem ib_in (l : Bs) (c : UInt8) : decide (indexByte l c < 0) = !(l.contains c) := by
  have hlt := Go.Rp.ib_lt l c
  cases h : l.contains c with
  | false =>
    have : ∀ x ∈ l, x ≠ c := fun x hx e => by
      have : l.contains c = true := by rw [List.contains_iff_mem]; exact e ▸ hx
      rw [h] at this; cases this
    rw [Go.Rp.ib_no this]; rfl
  | true =>
    refine decide_eq_false fun g => ?_
    have hge := Go.Rp.ib_ge l c
    have hm : c ∈ l := by rw [← List.contains_iff_mem]; exact h
    obtain ⟨p, q, rfl, hp⟩ : ∃ p q, l = p ++ c :: q ∧ ∀ x ∈ p, x ≠ c := by
      rcases ke c l with z | z
      · exact absurd rfl (z c hm)
      · exact z
    rw [Go.Rp.ib_at p q c hp] at g
    omega
def lenB (s : Bs) : Bool := decide (3 ≤ s.length) && decide (s.length ≤ 60)
def jy (f : UInt8 → Bool) (s : Bs) : Bool := s.all f && (decide (s ≠ []) && decide (s.length ≤ 60))
theorem ul (s w : Bs) (hs : s.length ≤ 1100000) : ∀ (n i : Nat), s.length - i < n → i ≤ s.length →
    jw s w n (i : Int) = some ((s.drop i).all w.contains && (decide (s ≠ []) && decide (s.length ≤ 60))) := by
  intro n
  induction n with
  | zero => intro i h; omega
  | succ n ih =>
    intro i hn hi;show jx s w (jw s w n) (i : Int) = _
    unfold jx
    by_cases h : i < s.length
    · rw [bT (by omega), bO (by omega), bf, bf, dj h, ib_in, aP h, List.all_cons]
      cases hc : w.contains s[i] with
      | false => rfl
      | true => rw [ntr, cfl, dG, ci (by omega), cn, ih (i + 1) (by omega) (by omega)]
    · rw [bF (by omega), aR (by omega)]
      unfold jv
      have e1 : (!decide (s = ([] : List UInt8))) = decide (s ≠ []) := by by_cases q : s = [] <;> simp [q]
      have e2 : decide ((s.length : Int) ≤ 60) = decide (s.length ≤ 60) := by by_cases q : s.length ≤ 60 <;> simp [q] <;> omega
      rw [e1, e2, List.all_nil, dG]
theorem qZ (F : Nat) (s w : Bs) (hs : s.length ≤ 1100000) (hF : s.length < F) : kK F s w = some (jy w.contains s) := by
  unfold kK jy
  have := ul s w hs F 0 (by omega) (by omega)
  rw [List.drop_zero] at this
  exact this
def me (c : UInt8) : Bool := clia_k1.contains c
def mi (c : UInt8) : Bool := clia_k2.contains c
theorem host_c (x : UInt8) : ((((((decide (97 ≤ (x.toNat : Int))) && (decide ((x.toNat : Int) ≤ 122))) || ((decide (65 ≤ (x.toNat : Int))) && (decide ((x.toNat : Int) ≤ 90)))) || ((decide (48 ≤ (x.toNat : Int))) && (decide ((x.toNat : Int) ≤ 57)))) || (decide (x = 46))) || (decide (x = 45))) = mi x := by
  have : ∀ k : Fin 256, ((((((decide (97 ≤ ((UInt8.ofNat k.val).toNat : Int))) && (decide (((UInt8.ofNat k.val).toNat : Int) ≤ 122))) || ((decide (65 ≤ ((UInt8.ofNat k.val).toNat : Int))) && (decide (((UInt8.ofNat k.val).toNat : Int) ≤ 90)))) || ((decide (48 ≤ ((UInt8.ofNat k.val).toNat : Int))) && (decide (((UInt8.ofNat k.val).toNat : Int) ≤ 57)))) || (decide (UInt8.ofNat k.val = 46))) || (decide (UInt8.ofNat k.val = 45))) = mi (UInt8.ofNat k.val) := by decide +kernel
  have h1 := this ⟨x.toNat, x.toNat_lt⟩
  rw [show UInt8.ofNat x.toNat = x from UInt8.ofNat_toNat] at h1
  exact h1
theorem per_c (x : UInt8) : ((((((((decide (97 ≤ (x.toNat : Int))) && (decide ((x.toNat : Int) ≤ 122))) || ((decide (65 ≤ (x.toNat : Int))) && (decide ((x.toNat : Int) ≤ 90)))) || ((decide (48 ≤ (x.toNat : Int))) && (decide ((x.toNat : Int) ≤ 57)))) || (decide (x = 46))) || (decide (x = 45))) || (decide (x = 95))) || (decide (x = 43))) = me x := by
  have : ∀ k : Fin 256, ((((((((decide (97 ≤ ((UInt8.ofNat k.val).toNat : Int))) && (decide (((UInt8.ofNat k.val).toNat : Int) ≤ 122))) || ((decide (65 ≤ ((UInt8.ofNat k.val).toNat : Int))) && (decide (((UInt8.ofNat k.val).toNat : Int) ≤ 90)))) || ((decide (48 ≤ ((UInt8.ofNat k.val).toNat : Int))) && (decide (((UInt8.ofNat k.val).toNat : Int) ≤ 57)))) || (decide (UInt8.ofNat k.val = 46))) || (decide (UInt8.ofNat k.val = 45))) || (decide (UInt8.ofNat k.val = 95))) || (decide (UInt8.ofNat k.val = 43))) = me (UInt8.ofNat k.val) := by decide +kernel
  have h1 := this ⟨x.toNat, x.toNat_lt⟩
  rw [show UInt8.ofNat x.toNat = x from UInt8.ofNat_toNat] at h1
  exact h1
theorem uo (s : Bs) (hs : s.length ≤ 1100000) : ∀ (n i : Nat), s.length - i < n → i ≤ s.length →
    gj s n (i : Int) = some ((s.drop i).all mi && (decide (s ≠ []) && decide (s.length ≤ 60))) := by
  intro n
  induction n with
  | zero => intro i h; omega
  | succ n ih =>
    intro i hn hi;show gk s (gj s n) (i : Int) = _
    unfold gk
    by_cases h : i < s.length
    · rw [bT (by omega), bO (by omega), bf, dj h, host_c, aP h, List.all_cons]
      cases hc : mi s[i] with
      | false => rfl
      | true => rw [ntr, cfl, dG, ci (by omega), cn, ih (i + 1) (by omega) (by omega)]
    · rw [bF (by omega), aR (by omega)]
      unfold gi
      have e1 : decide (1 ≤ (s.length : Int)) = decide (s ≠ []) := by
        by_cases q : s = []
        · subst q; rfl
        · have := List.length_pos_iff.2 q
          rw [decide_eq_true (by omega), decide_eq_true q]
      have e2 : decide ((s.length : Int) ≤ 60) = decide (s.length ≤ 60) := by by_cases q : s.length ≤ 60 <;> simp [q] <;> omega
      rw [e1, e2, List.all_nil, dG]
theorem host_eq (F : Nat) (s : Bs) (hs : s.length ≤ 1100000) (hF : s.length < F) : js F s = some (jy mi s) := by
  unfold js jy
  have := uo s hs F 0 (by omega) (by omega)
  rw [List.drop_zero] at this
  exact this
def gC (s : Bs) : Bool := (((Go.Lib.cut s [64]).2.2 && jy me (Go.Lib.cut s [64]).1) && jy me (Go.Lib.cut s [64]).2.1) && lenB s
theorem uY (s : Bs) : (Go.Lib.cut s [64]).1.length ≤ s.length ∧ (Go.Lib.cut s [64]).2.1.length ≤ s.length := by
  rcases ke 64 s with h | ⟨p, q, rfl, h⟩
  · rw [pm 64 s h]; simp
  · rw [pn 64 q p h]; simp; omega
theorem tG (s : Bs) : ((decide (3 ≤ (s.length : Int))) && (decide ((s.length : Int) ≤ 60))) = lenB s := by
  unfold lenB
  have e1 : decide (3 ≤ (s.length : Int)) = decide (3 ≤ s.length) := by by_cases q : 3 ≤ s.length <;> simp [q] <;> omega
  have e2 : decide ((s.length : Int) ≤ 60) = decide (s.length ≤ 60) := by by_cases q : s.length ≤ 60 <;> simp [q] <;> omega
  rw [e1, e2]
theorem oW (F : Nat) (s : Bs) (hs : s.length ≤ 1100000) (hF : s.length < F) : iu F s = some (gC s) := by
  unfold iu gC
  obtain ⟨l1, l2⟩ := uY s
  rw [jE (by omega), bf, qZ F _ _ (by omega) (by omega), gP, qZ F _ _ (by omega) (by omega), gP, Bool.and_assoc, tG]
  show some _ = some _
  congr 1
  show ((((Go.Lib.cut s [64]).2.2 && (bif (Go.Lib.cut s [64]).2.2 then jy me (Go.Lib.cut s [64]).1 else default)) && (bif ((Go.Lib.cut s [64]).2.2 && (bif (Go.Lib.cut s [64]).2.2 then jy me (Go.Lib.cut s [64]).1 else default)) then jy me (Go.Lib.cut s [64]).2.1 else default)) && lenB s) = _
  cases (Go.Lib.cut s [64]).2.2 with
  | false => rfl
  | true =>
    rw [ctr, dG]
    cases jy me (Go.Lib.cut s [64]).1 with
    | false => rfl
    | true => rfl
theorem qa (s : Bs) (k : Int) : dL s k = some (decide (k = 1) && lenB s) := by
  unfold dL
  rw [Bool.and_assoc, tG]
theorem per_at : me 64 = false := by decide +kernel
theorem uh (s : Bs) (hs : s.length ≤ 1100000) : ∀ (n i k : Nat), s.length - i < n → i ≤ s.length → 1 ≤ i → 1 ≤ k → k ≤ i →
    cf s n ((k : Int), (i : Int)) = some (decide (k = 1) && ((s.drop i).all me && lenB s)) := by
  intro n
  induction n with
  | zero => intro i k h; omega
  | succ n ih =>
    intro i k hn hi h1 hk hki;show cl s (cf s n) (k : Int) (i : Int) = _
    unfold cl
    by_cases h : i < s.length
    · rw [bT (by omega), bO (by omega), bf, dj h, aP h, List.all_cons]
      by_cases c : s[i] = 64
      · have hz : (decide (k = 1) && ((me s[i] && (s.drop (i + 1)).all me) && lenB s)) = false := by
          rw [c, per_at, eC, eC, Bool.and_false]
        rw [hz, bT c, ci (by omega), gcI (by omega), decide_eq_false (p := (i : Int) = 0) (by omega), fo]
        by_cases q : (i : Int) = (s.length : Int) - 1
        · rw [bT q]
        · unfold cw
          rw [bF q, ci (by omega), cn, cn, ih (i + 1) (k + 1) (by omega) (by omega) (by omega) (by omega) (by omega), decide_eq_false (by omega)]
          rfl
      · rw [bF c, per_c]
        cases hc : me s[i] with
        | false => rw [nfl, ctr, eC, eC, Bool.and_false]
        | true =>
          unfold cw
          rw [ntr, cfl, dG, ci (by omega), cn, ih (i + 1) k (by omega) (by omega) (by omega) hk (by omega)]
    · rw [bF (by omega), aR (by omega), qa, List.all_nil, dG]
      have : decide ((k : Int) = 1) = decide (k = 1) := by by_cases q : k = 1 <;> simp [q] <;> omega
      rw [this]
theorem sO (s : Bs) (hs : s.length ≤ 1100000) : ∀ (n i : Nat), s.length - i < n → i ≤ s.length → (∀ x ∈ s.drop i, x ≠ 64) →
    cf s n (0, (i : Int)) = some false := by
  intro n
  induction n with
  | zero => intro i h; omega
  | succ n ih =>
    intro i hn hi hx;show cl s (cf s n) 0 (i : Int) = _
    unfold cl
    by_cases h : i < s.length
    · rw [aP h] at hx
      have c : ¬ s[i] = 64 := hx _ List.mem_cons_self
      rw [bT (by omega), bO (by omega), bf, dj h, bF c, per_c]
      cases hc : me s[i] with
      | false => rfl
      | true =>
        unfold cw
        rw [ntr, cfl, ci (by omega), cn, ih (i + 1) (by omega) (by omega) (fun x q => hx x (List.mem_cons_of_mem _ q))]
    · rw [bF (by omega), qa]; rfl
theorem pZ (s q : Bs) (hs : s.length ≤ 1100000) : ∀ (r p : Bs) (n : Nat), s = p ++ (r ++ 64 :: q) → (∀ x ∈ r, x ≠ 64) → s.length - p.length < n →
    cf s n (0, (p.length : Int)) = some (((r.all me && decide (p ++ r ≠ [])) && (q.all me && decide (q ≠ []))) && lenB s)
  | r, p, 0, e, _, hn => by omega
  | [], p, n + 1, e, hx, hn => by
    show cl s (cf s n) 0 (p.length : Int) = _
    have hl : s.length = p.length + 1 + q.length := by rw [e]; simp; omega
    have h : p.length < s.length := by omega
    have c : s[p.length] = 64 := by simp [e]
    unfold cl
    rw [bT (by omega), bO (by omega), bf, dj h, bT c, ci (by omega), gcI (by omega), List.append_nil, List.all_nil, dG]
    by_cases h0 : p = []
    · rw [decide_eq_true (p := (p.length : Int) = 0) (by rw [h0]; rfl), Bool.true_or, ctr, decide_eq_false (fun z => z h0), eC, eC]
    · have := List.length_pos_iff.2 h0
      rw [decide_eq_false (p := (p.length : Int) = 0) (by omega), fo, decide_eq_true h0, dG]
      by_cases hq : q = []
      · rw [bT (by rw [hl, hq]; simp), decide_eq_false (fun z => z hq), Bool.and_false, eC]
      · have := List.length_pos_iff.2 hq
        have hd : s.drop (p.length + 1) = q := by rw [e, show p ++ ([] ++ 64 :: q) = (p ++ [64]) ++ q by simp, List.drop_left' (by simp)]
        unfold cw
        rw [bF (by omega), decide_eq_true hq, Bool.and_true, ci (by omega), cn]
        have := uh s hs n (p.length + 1) 1 (by omega) (by omega) (by omega) (by omega) (by omega)
        rw [hd, decide_eq_true rfl, dG] at this
        exact this
  | x :: r, p, n + 1, e, hx, hn => by
    show cl s (cf s n) 0 (p.length : Int) = _
    have h : p.length < s.length := by rw [e]; simp
    have c : s[p.length] = x := by simp [e]
    have hne : ¬ x = 64 := hx x (by simp)
    unfold cl
    rw [bT (by omega), bO (by omega), bf, dj h, c, bF hne, per_c, List.all_cons]
    cases hc : me x with
    | false => rw [nfl, ctr, eC, eC, eC, eC]
    | true =>
      have ih := pZ s q hs r (p ++ [x]) n (by rw [e]; simp) (fun y hy => hx y (by simp [hy])) (by simp; omega)
      have e3 : ((p ++ [x]).length : Int) = (p.length : Int) + 1 := by simp
      have e4 : p ++ [x] ++ r = p ++ x :: r := by simp
      rw [e3, e4] at ih
      unfold cw
      rw [ntr, cfl, dG, ci (by omega)]
      exact ih
theorem sf (F : Nat) (s : Bs) (hs : s.length ≤ 1100000) (hF : s.length < F) : fx F s = some (gC s) := by
  unfold fx gC
  rcases ke 64 s with h | ⟨p, q, e, h⟩
  · have := sO s hs F 0 (by omega) (by omega) (by rw [List.drop_zero]; exact h)
    rw [pm 64 s h, eC, eC, eC]
    exact this
  · have := pZ s q hs p [] F e h (by simp; omega)
    rw [List.nil_append] at this
    have hc : Go.Lib.cut s [64] = (p, q, true) := by rw [e]; exact pn 64 q p h
    rw [hc]
    refine Eq.trans this ?_
    rw [dG]
    congr 1
    unfold jy lenB
    have hl : s.length = p.length + 1 + q.length := by rw [e]; simp; omega
    by_cases g : s.length ≤ 60
    · rw [decide_eq_true (p := p.length ≤ 60) (by omega), decide_eq_true (p := q.length ≤ 60) (by omega), Bool.and_true, Bool.and_true]
    · rw [decide_eq_false g, Bool.and_false, Bool.and_false, Bool.and_false]
def mayS (fr rc nm ml : Bs) : Bool := ((gC fr && gC rc) && jy mi nm) && lI ml
abbrev S7 := Int × Int × Bs × Bs × Bs × Bs × Int
def rh (fr rc nm ml : Bs) : S7 := if mayS fr rc nm ml = true then (0, 0, fr, rc, nm, ml, 0) else (0, 0, [], [], [], [], 1)
theorem start_eq (F : Nat) (fr rc nm ml : Bs) (hfr : fr.length ≤ 1100000) (hrc : rc.length ≤ 1100000) (hnm : nm.length ≤ 1100000) (hml : ml.length ≤ 1100000) (h1 : fr.length < F) (h2 : rc.length < F) (h3 : nm.length < F) (h4 : ml.length < F) :
    ki F fr rc nm ml = some (rh fr rc nm ml) := by
  unfold ki
  rw [oW F fr hfr h1, bn, oW F rc hrc h2, gP, qZ F nm _ hnm h3, gP, tE F ml hml h4, gP]
  show (bif (((!gC fr) || (!(bif !(!gC fr) then gC rc else default))) || (!(bif !((!gC fr) || (!(bif !(!gC fr) then gC rc else default))) then jy mi nm else default))) || (!(bif !(((!gC fr) || (!(bif !(!gC fr) then gC rc else default))) || (!(bif !((!gC fr) || (!(bif !(!gC fr) then gC rc else default))) then jy mi nm else default))) then lI ml else default)) then some ((0, 0, [], [], [], [], 1) : S7) else grd (okS ml.length) (some ((0, 0, fr, rc, nm, ml, 0) : S7))) = _
  unfold rh mayS
  rw [jE (by omega)]
  cases gC fr with
  | false => rfl
  | true =>
    cases gC rc with
    | false => rfl
    | true =>
      cases jy mi nm with
      | false => rfl
      | true => cases lI ml <;> rfl
theorem ud (F : Nat) (fr rc nm ml : Bs) (hfr : fr.length ≤ 1100000) (hrc : rc.length ≤ 1100000) (hnm : nm.length ≤ 1100000) (hml : ml.length ≤ 1100000) (h1 : fr.length < F) (h2 : rc.length < F) (h3 : nm.length < F) (h4 : ml.length < F) :
    iG F fr rc nm ml = some (rh fr rc nm ml) := by
  unfold iG
  rw [sf F fr hfr h1, bn, sf F rc hrc h2, bn, host_eq F nm hnm h3, bn, pW F ml hml h4, bn]
  unfold rh mayS
  cases gC fr with
  | false => rfl
  | true =>
    cases gC rc with
    | false => rfl
    | true =>
      cases jy mi nm with
      | false => rfl
      | true => cases lI ml <;> rfl
end Go.Cl
namespace Go.Rp
open Go.Pv Go.Av
open Go.Lib (decDigits indexByte)
open Go.Dg (cfl ctr dG eC fo nfl ntr)
theorem nr (F : Nat) (b : Bool) : fa F b = some (bif b then Res.ok () else Res.pan 0) := by cases b <;> rfl
theorem sq (F : Nat) (b : Bs) (c : UInt8) : fj F b c = some (indexByte b c) := rfl
section
variable {σ : Type}
theorem sV (F : Nat) (k : σ → Bs → Option (σ × Option Bool)) (rec : (Bs × σ) → Option (σ × Bool × Bs)) (b : Bs) (st : σ) (hb : b.length ≤ 2000000) :
    fv F k rec b st = match jz b with
      | .wait => some (st, false, b)
      | .bad => some (st, true, [])
      | .ok s => bnd (k st s) fun x => bndo x.2 (some (x.1, true, [])) fun g => bif !g then some (x.1, false, b) else rec (b.drop (s.length + 2), x.1) := by
  have g10 := ib_ge b 10
  have g13 := ib_ge b 13
  have l10 := ib_lt b 10
  have l13 := ib_lt b 13
  unfold fv jz
  rw [sq, bn, sq]
  simp only [nr]
  by_cases h0 : indexByte b 10 < 0
  · rw [bT h0, if_pos h0]
    by_cases hl : b.length < 512
    · rw [decide_eq_true (p := (b.length : Int) < 512) (by omega), if_pos hl]; rfl
    · rw [decide_eq_false (p := (b.length : Int) < 512) (by omega), if_neg hl]; rfl
  · rw [bF h0, if_neg h0]
    by_cases h1 : indexByte b 10 < 512 ∧ 0 < indexByte b 10
    · obtain ⟨h1, h2⟩ := h1
      rw [decide_eq_true h1, decide_eq_true h2, dG, bndc_t, bn, jB, ci (by omega), dG]
      by_cases h3 : indexByte b 13 = indexByte b 10 - 1
      · rw [decide_eq_true h3, ctr, rg, ci (by omega), eG (by omega), bf, if_pos ⟨h1, h2, h3⟩]
        have e1 : to_ b (indexByte b 10 - 1) = b.take (indexByte b 10 - 1).toNat := rfl
        have e2 : eJ b (indexByte b 10 + 1) = b.drop ((b.take (indexByte b 10 - 1).toNat).length + 2) := by
          unfold eJ
          congr 1
          rw [List.length_take]; omega
        have hI : -9223372036854775808 ≤ indexByte b 10 + 1 ∧ indexByte b 10 + 1 ≤ 9223372036854775807 := by omega
        have hT : 0 ≤ indexByte b 10 + 1 ∧ indexByte b 10 + 1 ≤ b.length := by omega
        rw [e1]
        simp only [ci hI, eG hT, bf, e2]
      · rw [decide_eq_false h3, cfl, jA, if_neg (fun g => h3 g.2.2)]
    · have e : ((decide (indexByte b 10 < 512)) && (decide (0 < indexByte b 10))) = false := by
        by_cases q : indexByte b 10 < 512
        · rw [decide_eq_false (p := 0 < indexByte b 10) (fun r => h1 ⟨q, r⟩), Bool.and_false]
        · rw [decide_eq_false q]; rfl
      rw [e, bndc_f, ij, eC, cfl, jA, if_neg (fun g => h1 ⟨g.1, g.2.1⟩)]
end
abbrev S5 := Int × Int × List Bs × List Rp × Int
def kk (F : Nat) (s : S5) (x : Bs) : Option (S5 × Option Bool) := gD F s.1 s.2.1 s.2.2.1 s.2.2.2.1 s.2.2.2.2 x
def lineR (a : Nat) (c : Int) (ls : List Bs) (l : List Rp) (u : Int) (s : Bs) : S5 × Option Bool :=
  match jT s with
  | none => (((a : Int), c, ls, l, u), none)
  | some n => if ls.length < 100 ∧ ¬ (ls ≠ [] ∧ (n : Int) ≠ c) then
      (if at_ s 3 = 32 then (((a + (s.length + 2) : Nat) : Int), 0, [], l ++ [((n : Int), ls ++ [s.drop 4], jS (n : Int) (s.drop 4))], ((a + (s.length + 2) : Nat) : Int))
       else (((a + (s.length + 2) : Nat) : Int), (n : Int), ls ++ [s.drop 4], l, u), some true)
    else (((a : Int), c, ls, l, u), none)
theorem kk_eq (F : Nat) (hF : 2000 < F) (a : Nat) (c : Int) (ls : List Bs) (l : List Rp) (u : Int) (s : Bs) (hs : s.length ≤ 510) (ha : a ≤ 2000000) (hls : ls.length ≤ 100) (hl : l.length ≤ 2000000) :
    kk F ((a : Int), c, ls, l, u) s = some (lineR a c ls l u s) := by
  unfold kk gD lineR jT
  simp only
  by_cases h4 : 4 ≤ s.length
  · have hd4 : decide ((4 : Int) ≤ (s.length : Int)) = true := decide_eq_true (by omega)
    have hg : ∀ (b : Bool) (x : Option (S5 × Option Bool)), dk b (ct 3 s.length) x = x := fun b x => eK fun _ => by omega
    rw [hd4, hg, bf, hg, bf, dG]
    simp only [nr]
    obtain ⟨g, hgd⟩ : ∃ g, g = at_ s 3 := ⟨_, rfl⟩
    rw [← hgd]
    by_cases hsg : g = 45 ∨ g = 32
    · have esg : ((decide (g = 45)) || (decide (g = 32))) = true := by
        rcases hsg with e | e <;> rw [e] <;> decide
      rw [if_pos ⟨h4, hsg⟩, esg, dG]
      by_cases h100 : ls.length < 100
      · rw [decide_eq_true (p := (ls.length : Int) < 100) (by omega), ctr, rg, eG (by omega), bf]
        have e3 : to_ s 3 = s.take 3 := rfl
        have e4 : eJ s 4 = s.drop 4 := rfl
        obtain ⟨x, ex, hx⟩ := ll F (s.take 3) (by simp; omega) hF
        rw [e3, ex, bM]
        cases hn : gx (s.take 3) with
        | none => rfl
        | some n =>
          rw [hx n hn, show (some n).isSome = true from rfl, dG]
          simp only
          by_cases hr : 200 ≤ n ∧ n ≤ 599
          · rw [if_pos hr, decide_eq_true (p := (200 : Int) ≤ (n : Int)) (by omega), decide_eq_true (p := (n : Int) ≤ 599) (by omega), dG, dG]
            simp only
            by_cases hc : ls ≠ [] ∧ (n : Int) ≠ c
            · have e : ((decide ((ls.length : Int) = 0)) || (decide ((n : Int) = c))) = false := by
                rw [decide_eq_false hc.2, Bool.or_false]
                refine decide_eq_false fun g => hc.1 (List.length_eq_zero_iff.1 (by omega))
              rw [e, cfl, jA, if_neg (fun g => g.2 hc)]
            · have e : ((decide ((ls.length : Int) = 0)) || (decide ((n : Int) = c))) = true := by
                by_cases q : (n : Int) = c
                · rw [decide_eq_true q, Bool.or_true]
                · have : ls = [] := by
                    by_cases q2 : ls = []
                    · exact q2
                    · exact absurd ⟨q2, q⟩ hc
                  rw [this]; rfl
              rw [e, ctr, rg, eG (by omega), bf, e4, bU (by simp; omega), bf, if_pos ⟨h100, hc⟩]
              unfold jn
              have ea : (a : Int) + ((s.length : Int) + 2) = ((a + (s.length + 2) : Nat) : Int) := by omega
              rw [ci (by omega), ci (by omega), bO (by omega), bf, ← hgd, ea]
              by_cases h32 : g = 32
              · rw [bT h32, if_pos h32, eG (by omega), bf, e4]
                rcases more_eq F hF n (s.drop 4) (by simp; omega) with em | em
                · rw [em, show jS (n : Int) (s.drop 4) = ((jS (n : Int) (s.drop 4)).1, (jS (n : Int) (s.drop 4)).2.1, (jS (n : Int) (s.drop 4)).2.2) from rfl, cQ]
                  unfold mE
                  rw [bU (by simp; omega), bf, bM]
                · omega
              · rw [bF h32, if_neg h32]
          · have e : (((decide ((200 : Int) ≤ (n : Int))) && (decide ((n : Int) ≤ 599))) && ((decide ((ls.length : Int) = 0)) || (decide ((n : Int) = c)))) = false := by
              by_cases q : 200 ≤ n
              · rw [decide_eq_false (p := (n : Int) ≤ 599) (by omega), Bool.and_false, eC]
              · rw [decide_eq_false (p := (200 : Int) ≤ (n : Int)) (by omega), eC, eC]
            rw [e, cfl, jA, if_neg hr]
      · rw [decide_eq_false (p := (ls.length : Int) < 100) (by omega), cfl, jA]
        cases hn : gx (s.take 3) with
        | none => rfl
        | some n =>
          simp only
          by_cases hr : 200 ≤ n ∧ n ≤ 599
          · rw [if_pos hr]; simp only; rw [if_neg (fun q => h100 q.1)]
          · rw [if_neg hr]
    · have esg : ((decide (g = 45)) || (decide (g = 32))) = false := by
        rw [decide_eq_false (fun e => hsg (.inl e)), decide_eq_false (fun e => hsg (.inr e))]; rfl
      rw [if_neg (fun q => hsg q.2), esg, eC, cfl, jA]
  · have hd4 : decide ((4 : Int) ≤ (s.length : Int)) = false := decide_eq_false (by omega)
    rw [hd4, ij, bf, eC, ij, bf, eC, eC, nr, cfl, jA, if_neg (fun q => h4 q.1)]
theorem kx (d : Nat) : ∀ (k : Nat) (c : Int) (ls : List Bs) (a : Nat) (b : Bs), kL k c ls (a + d) b = match kL k c ls a b with | .ok x n => .ok x (n + d) | y => y
  | 0, c, ls, a, b => by
    unfold kL
    cases jz b <;> rfl
  | k + 1, c, ls, a, b => by
    unfold kL
    cases jz b with
    | wait => rfl
    | bad => rfl
    | ok s =>
      simp only
      cases jT s with
      | none => rfl
      | some n =>
        simp only
        by_cases h1 : ls ≠ [] ∧ (n : Int) ≠ c
        · rw [if_pos h1, if_pos h1]
        · rw [if_neg h1, if_neg h1]
          by_cases h2 : at_ s 3 = 32
          · rw [if_pos h2, if_pos h2]
            simp only
            rw [show a + d + (s.length + 2) = a + (s.length + 2) + d by omega]
          · rw [if_neg h2, if_neg h2, show a + d + (s.length + 2) = a + (s.length + 2) + d by omega]
            exact kx d k _ _ _ _
abbrev LL (F : Nat) (m : Nat) (b : Bs) (st : S5) : Option (S5 × Bool × Bs) := fu F (kk F) m (b, st)
theorem tF (F : Nat) (hF : 2000 < F) (m : Nat) (b : Bs) (a : Nat) (c : Int) (ls : List Bs) (l : List Rp) (u : Int) (hb : b.length ≤ 1000000) (ha : a ≤ 1000000) (hls : ls.length ≤ 100) (hl : l.length ≤ 1000000) :
    LL F (m + 1) b ((a : Int), c, ls, l, u) = match jz b with
      | .wait => some (((a : Int), c, ls, l, u), false, b)
      | .bad => some (((a : Int), c, ls, l, u), true, [])
      | .ok s => match jT s with
        | none => some (((a : Int), c, ls, l, u), true, [])
        | some n => if ls.length < 100 ∧ ¬ (ls ≠ [] ∧ (n : Int) ≠ c) then
            (if at_ s 3 = 32 then LL F m (b.drop (s.length + 2)) (((a + (s.length + 2) : Nat) : Int), 0, [], l ++ [((n : Int), ls ++ [s.drop 4], jS (n : Int) (s.drop 4))], ((a + (s.length + 2) : Nat) : Int))
             else LL F m (b.drop (s.length + 2)) (((a + (s.length + 2) : Nat) : Int), (n : Int), ls ++ [s.drop 4], l, u))
          else some (((a : Int), c, ls, l, u), true, []) := by
  have e : LL F (m + 1) b ((a : Int), c, ls, l, u) = fv F (kk F) (fu F (kk F) m) b ((a : Int), c, ls, l, u) := rfl
  rw [e, sV F _ _ b _ (by omega)]
  cases hb : jz b with
  | wait => rfl
  | bad => rfl
  | ok s =>
    simp only
    obtain ⟨t, _, _, hsl⟩ := ln_ok hb
    rw [kk_eq F hF a c ls l u s hsl (by omega) (by omega) (by omega), bn]
    unfold lineR
    cases jT s with
    | none => rfl
    | some n =>
      simp only
      by_cases h1 : ls.length < 100 ∧ ¬ (ls ≠ [] ∧ (n : Int) ≠ c)
      · simp only [if_pos h1]
        by_cases h2 : at_ s 3 = 32
        · simp only [if_pos h2]; rfl
        · simp only [if_neg h2]; rfl
      · simp only [if_neg h1]; rfl
theorem lq (F : Nat) (hF : 2000 < F) (l : List Rp) (u : Int) (hl : l.length ≤ 1000000) : ∀ (j m : Nat) (b : Bs) (a : Nat) (c : Int) (ls : List Bs), ls.length + j = 100 → b.length < m → a + b.length ≤ 1000000 →
    match kL j c ls a b with
    | .wait => ∃ st b', LL F m b ((a : Int), c, ls, l, u) = some (st, false, b') ∧ st.2.2.2.1 = l ∧ st.2.2.2.2 = u
    | .bad => ∃ st b', LL F m b ((a : Int), c, ls, l, u) = some (st, true, b') ∧ st.2.2.2.1 = l ∧ st.2.2.2.2 = u
    | .ok x n => ∃ m', (b.drop (n - a)).length < m' ∧ a < n ∧ LL F m b ((a : Int), c, ls, l, u) = LL F m' (b.drop (n - a)) ((n : Int), 0, [], l ++ [x], (n : Int))
  | j, 0, b, a, c, ls, hj, hm, ha => by omega
  | 0, m + 1, b, a, c, ls, hj, hm, ha => by
    rw [tF F hF m b a c ls l u (by omega) (by omega) (by omega) hl]
    unfold kL
    cases hb : jz b with
    | wait => exact ⟨_, _, rfl, rfl, rfl⟩
    | bad => exact ⟨_, _, rfl, rfl, rfl⟩
    | ok s =>
      simp only
      cases jT s with
      | none => exact ⟨_, _, rfl, rfl, rfl⟩
      | some n =>
        simp only
        rw [if_neg (fun q => by omega)]
        exact ⟨_, _, rfl, rfl, rfl⟩
  | j + 1, m + 1, b, a, c, ls, hj, hm, ha => by
    rw [tF F hF m b a c ls l u (by omega) (by omega) (by omega) hl]
    unfold kL
    cases hb : jz b with
    | wait => exact ⟨_, _, rfl, rfl, rfl⟩
    | bad => exact ⟨_, _, rfl, rfl, rfl⟩
    | ok s =>
      have hln := tq hb
      simp only
      cases jT s with
      | none => exact ⟨_, _, rfl, rfl, rfl⟩
      | some n =>
        simp only
        by_cases h1 : ls ≠ [] ∧ (n : Int) ≠ c
        · have h1' : ¬ (ls.length < 100 ∧ ¬ (ls ≠ [] ∧ (n : Int) ≠ c)) := fun q => q.2 h1
          simp only [if_pos h1, if_neg h1']
          exact ⟨_, _, rfl, rfl, rfl⟩
        · have h1' : ls.length < 100 ∧ ¬ (ls ≠ [] ∧ (n : Int) ≠ c) := ⟨by omega, h1⟩
          simp only [if_neg h1, if_pos h1']
          by_cases h2 : at_ s 3 = 32
          · simp only [if_pos h2]
            refine ⟨m, ?_, by omega, ?_⟩
            · rw [List.length_drop]; omega
            · rw [show a + (s.length + 2) - a = s.length + 2 by omega]
          · simp only [if_neg h2]
            have ih := lq F hF l u hl j m (b.drop (s.length + 2)) (a + (s.length + 2)) (n : Int) (ls ++ [s.drop 4]) (by simp; omega) (by rw [List.length_drop]; omega) (by rw [List.length_drop]; omega)
            cases hq : kL j (n : Int) (ls ++ [s.drop 4]) (a + (s.length + 2)) (b.drop (s.length + 2)) with
            | wait => rw [hq] at ih; exact ih
            | bad => rw [hq] at ih; exact ih
            | ok x n' =>
              rw [hq] at ih
              simp only at ih ⊢
              obtain ⟨m', i1, i2, i3⟩ := ih
              have ed : (b.drop (s.length + 2)).drop (n' - (a + (s.length + 2))) = b.drop (n' - a) := by
                rw [List.drop_drop]; congr 1; omega
              rw [ed] at i1 i3
              exact ⟨m', i1, by omega, i3⟩
theorem um (F : Nat) (hF : 2000 < F) {b : Bs} {l2 : List Rp} {u : Nat} {bd : Bool} (h : All b l2 u bd) : ∀ (m a : Nat) (l : List Rp), b.length < m → a + b.length ≤ 1000000 → l.length ≤ a →
    ∃ st b', LL F m b ((a : Int), 0, [], l, (a : Int)) = some (st, bd, b') ∧ st.2.2.2.1 = l ++ l2 ∧ st.2.2.2.2 = ((a + u : Nat) : Int) := by
  induction h with
  | @wait b e =>
    intro m a l hm ha hl
    have := lq F hF l (a : Int) (by omega) 100 m b a 0 [] rfl hm ha
    have sh := kx a 100 0 [] 0 b
    rw [Nat.zero_add, show kL 100 0 [] 0 b = .wait from e] at sh
    rw [sh] at this
    obtain ⟨st, b', h1, h2, h3⟩ := this;exact ⟨st, b', h1, by rw [h2, List.append_nil], by rw [h3]; rfl⟩
  | @bad b e =>
    intro m a l hm ha hl
    have := lq F hF l (a : Int) (by omega) 100 m b a 0 [] rfl hm ha
    have sh := kx a 100 0 [] 0 b
    rw [Nat.zero_add, show kL 100 0 [] 0 b = .bad from e] at sh
    rw [sh] at this
    obtain ⟨st, b', h1, h2, h3⟩ := this;exact ⟨st, b', h1, by rw [h2, List.append_nil], by rw [h3]; rfl⟩
  | @ok b x n l2 u bd e hr ih =>
    intro m a l hm ha hl
    have hp := one_pos e
    have := lq F hF l (a : Int) (by omega) 100 m b a 0 [] rfl hm ha
    have sh := kx a 100 0 [] 0 b
    rw [Nat.zero_add, show kL 100 0 [] 0 b = .ok x n from e] at sh
    rw [sh] at this
    simp only at this
    obtain ⟨m', h1, h2, h3⟩ := this
    rw [show n + a - a = n by omega] at h1 h3
    obtain ⟨st, b', g1, g2, g3⟩ := ih m' (n + a) (l ++ [x]) h1 (by rw [List.length_drop]; omega) (by simp; omega);refine ⟨st, b', by rw [h3]; exact g1, by rw [g2, List.append_assoc]; rfl, by rw [g3]; congr 1; omega⟩
theorem all_eq (F : Nat) (hF : 2000 < F) {b : Bs} {l : List Rp} {u : Nat} {bd : Bool} (h : All b l u bd) (hb : b.length ≤ 1000000) (hbF : b.length < F) : kH F b [] 0 = some (l, (u : Int), bd) := by
  obtain ⟨st, b', h1, h2, h3⟩ := um F hF h F 0 [] hbF (by omega) (by simp)
  unfold kH lk kv
  rw [bn]
  have e : fu F (fun (s : S5) x => gD F s.1 s.2.1 s.2.2.1 s.2.2.2.1 s.2.2.2.2 x) F (b, (0, 0, [], [], 0)) = some (st, bd, b') := h1
  rw [e, cQ, h2, h3, Nat.zero_add]
  cases bd <;> rfl
theorem put_eq (F : Nat) (hF : 2000 < F) (B b : Bs) {l : List Rp} {u : Nat} {bd : Bool} (h : All (B ++ b) l u bd) (hb : (B ++ b).length ≤ 1000000) (hbF : (B ++ b).length < F) : mP F B false b = some (l, if bd = true then [] else (B ++ b).drop u, bd) := by
  have hle := h.le
  rw [List.length_append] at hb
  unfold mP jo
  rw [cfl, bU (by omega), bf, all_eq F hF h (by rw [List.length_append]; omega) hbF, cQ]
  cases bd with
  | true => rfl
  | false =>
    rw [cfl, eG (by rw [List.length_append]; rw [List.length_append] at hle; omega), bf, kh, jE (by rw [List.length_drop, List.length_append]; omega)]
    rfl
end Go.Rp
namespace Go.Rp
open Go.Pv Go.Av
open Go.Lib (decDigits indexByte)
open Go.Dg (cfl ctr dG eC fo nfl ntr)
theorem rline_in (F : Nat) (s : Bs) (hs : s.length ≤ 1000) : ∀ (n i : Nat), s.length - i < n → i ≤ s.length → gn s n (i : Int) = some (if 13 ∈ s.drop i then ([], 2) else (s, 1)) := by
  intro n
  induction n with
  | zero => intro i h; omega
  | succ n ih =>
    intro i hn hi;show gq s (gn s n) (i : Int) = _
    unfold gq
    by_cases h : i < s.length
    · rw [bT (by omega), bO (by omega), bf, dj h, aP h]
      by_cases e : s[i] = 13
      · rw [bT e, if_pos (by rw [e]; simp)]
      · rw [bF e, ci (by omega), cn, ih (i + 1) (by omega) (by omega)]
        by_cases g : 13 ∈ s.drop (i + 1)
        · rw [if_pos g, if_pos (List.mem_cons_of_mem _ g)]
        · rw [if_neg g, if_neg (fun q => by
            rcases List.mem_cons.1 q with q | q
            · exact e q.symm
            · exact g q)]
    · rw [bF (by omega), aR (by omega)]; rfl
def lnT (b : Bs) : Bs × Int := match jz b with | .wait => ([], 0) | .bad => ([], 2) | .ok s => (s, 1)
theorem sn {b : Bs} (h : indexByte b 10 < 0) : jz b = if b.length < 512 then .wait else .bad := by unfold jz; rw [if_pos h]
theorem ln_far {b : Bs} (h : 512 ≤ indexByte b 10) : jz b = .bad := by unfold jz; rw [if_neg (by omega), if_neg (by omega)]
theorem sL (F : Nat) (hF : 2000 < F) (b : Bs) (hb : b.length ≤ 2000000) : ∀ (n i : Nat), 512 - i < n → i ≤ b.length → i ≤ 512 → (∀ x ∈ b.take i, x ≠ 10) → er F b n (i : Int) = some (lnT b) := by
  intro n
  induction n with
  | zero => intro i h; omega
  | succ n ih =>
    intro i hn hi hi2 hno;show gp F b (er F b n) (i : Int) = _
    unfold gp
    by_cases h : i < b.length ∧ i < 512
    · obtain ⟨h1, h2⟩ := h
      have hspl : b = b.take i ++ b[i] :: b.drop (i + 1) := by rw [← aP h1, List.take_append_drop]
      rw [decide_eq_true (p := (i : Int) < (b.length : Int)) (by omega), decide_eq_true (p := (i : Int) < 512) (by omega), dG, ctr, bO (by omega), bf, dj h1]
      by_cases e : b[i] = 10
      · have hidx : indexByte b 10 = (i : Int) := by
          rw [e] at hspl
          have := ib_at (b.take i) (b.drop (i + 1)) 10 hno
          rw [← hspl, List.length_take] at this
          omega
        rw [bT e]
        by_cases h0 : i = 0
        · subst h0
          have : lnT b = ([], 2) := by
            unfold lnT jz
            rw [hidx, if_neg (by omega), if_neg (by omega)]
          rw [this]; rfl
        · have hd0 : decide ((i : Int) = 0) = false := decide_eq_false (by omega)
          have ei : (i : Int) - 1 = ((i - 1 : Nat) : Int) := by omega
          rw [hd0, nfl, jB, ci (by omega), jB, bO (by omega), bf, ei, dj (by omega), fo]
          by_cases e13 : b[i - 1] = 13
          · have hsp2 : b.take i = b.take (i - 1) ++ [13] := by
              have := List.take_succ_eq_append_getElem (l := b) (i := i - 1) (by omega)
              rw [show i - 1 + 1 = i by omega, e13] at this
              exact this
            have hlt : (b.take (i - 1)).length = i - 1 := by rw [List.length_take]; omega
            rw [decide_eq_true e13, ntr, cfl, ci (by omega), eG (by omega), bf, to_nat]
            have := rline_in F (b.take (i - 1)) (by omega) F 0 (by omega) (by omega)
            rw [List.drop_zero] at this
            refine Eq.trans this ?_
            by_cases g : 13 ∈ b.take (i - 1)
            · rw [if_pos g]
              have : lnT b = ([], 2) := by
                unfold lnT jz
                rw [hidx, if_neg (by omega), if_neg ?_]
                rintro ⟨_, _, q⟩;obtain ⟨p, r, q1, q2, q3⟩ := ld (b := b) (c := 13) (i := i - 1) (by omega)
                have : b.take (i - 1) = p := by rw [q1, ← q2, List.take_left' rfl]
                rw [this] at g
                exact q3 13 g rfl
              rw [this]
            · rw [if_neg g]
              have : lnT b = (b.take (i - 1), 1) := by
                have hq : b = b.take (i - 1) ++ 13 :: 10 :: b.drop (i + 1) := by
                  conv => lhs; rw [hspl, e, hsp2]
                  simp
                have hok := ln_of (b.take (i - 1)) (b.drop (i + 1)) (fun x hx => by
                  unfold crlf
                  have a1 : ¬ x = 13 := fun q => g (q ▸ hx)
                  have a2 : ¬ x = 10 := hno x (by rw [hsp2]; simp [hx])
                  rw [decide_eq_false a1, decide_eq_false a2]; rfl) (by omega)
                rw [← hq] at hok
                unfold lnT; rw [hok]
              rw [this]
          · rw [decide_eq_false e13, nfl, ctr]
            have : lnT b = ([], 2) := by
              unfold lnT jz
              rw [hidx, if_neg (by omega), if_neg ?_]
              rintro ⟨_, _, q⟩;obtain ⟨p, r, q1, q2, q3⟩ := ld (b := b) (c := 13) (i := i - 1) (by omega)
              have : b[i - 1]? = some 13 := by rw [q1, ← q2]; simp
              rw [aD (by omega)] at this
              exact e13 (ay this)
            rw [this]
      · rw [bF e]
        unfold gl
        rw [ci (by omega), cn]
        refine ih (i + 1) (by omega) (by omega) (by omega) fun x hx => ?_
        rw [List.take_succ_eq_append_getElem h1] at hx
        rcases List.mem_append.1 hx with hx | hx
        · exact hno x hx
        · rw [List.mem_singleton.1 hx]; exact e
    · have ed : ((decide ((i : Int) < (b.length : Int))) && (decide ((i : Int) < 512))) = false := by
        by_cases q : i < b.length
        · rw [decide_eq_false (p := (i : Int) < 512) (by omega), Bool.and_false]
        · rw [decide_eq_false (p := (i : Int) < (b.length : Int)) (by omega)]; rfl
      rw [ed, cfl]
      unfold gm
      by_cases q : i < b.length
      · have hi5 : i = 512 := by omega
        rw [bT (by omega)]
        have : lnT b = ([], 2) := by
          have hn : indexByte b 10 < 0 ∨ 512 ≤ indexByte b 10 := by
            by_cases g : indexByte b 10 < 0
            · exact .inl g
            · right
              obtain ⟨p, r, q1, q2, q3⟩ := ld (b := b) (c := 10) (i := (indexByte b 10).toNat) (by omega)
              by_cases g2 : 512 ≤ indexByte b 10
              · exact g2
              · exfalso
                refine hno 10 ?_ rfl
                rw [q1, hi5]
                have : (p ++ 10 :: r).take 512 = p ++ (10 :: r).take (512 - p.length) := by
                  rw [List.take_append, List.take_of_length_le (by omega)]
                rw [this, show 512 - p.length = (511 - p.length) + 1 by omega]
                simp
          unfold lnT
          rcases hn with g | g
          · rw [sn g, if_neg (by omega)]
          · rw [ln_far g]
        rw [this]
      · have hib : i = b.length := by omega
        rw [hib, List.take_length] at hno
        have hn : indexByte b 10 < 0 := by rw [ib_no hno]; decide
        unfold lnT
        rw [sn hn]
        by_cases g : b.length < 512
        · rw [bF (by omega), if_pos g]
        · rw [bT (by omega), if_neg g]
theorem sd (F : Nat) (hF : 2000 < F) (b : Bs) (hb : b.length ≤ 2000000) : kw F b = some (lnT b) := by
  have := sL F hF b hb F 0 (by omega) (by omega) (by omega) (by simp)
  exact this
def codeI (s : Bs) : Int := match jT s with | some n => (n : Int) | none => -1
theorem mF (F : Nat) (hF : 2000 < F) (s : Bs) : jt F s = some (codeI s) := by
  unfold jt codeI jT
  by_cases h4 : 4 ≤ s.length
  · have hd4 : decide ((s.length : Int) < 4) = false := decide_eq_false (by omega)
    have hg : ∀ (b : Bool) (x : Option Int), dk b (ct 0 s.length) x = x := fun b x => eK fun _ => by omega
    have hg3 : ∀ (b : Bool) (x : Option Int), dk b (ct 3 s.length) x = x := fun b x => eK fun _ => by omega
    rw [hd4, hg, bf, hg3, bf, hg3, bf, fo]
    by_cases h0 : at_ s 0 = 48
    · rw [decide_eq_true h0, Bool.true_or, ctr]
      have hz : gx (s.take 3) = none := by
        unfold gx
        have : okN (s.take 3) = false := by
          unfold okN
          have e1 : (s.take 3).head? = some 48 := by
            rw [mY (by omega)] at h0
            cases s with
            | nil => simp at h4
            | cons a r => rw [← h0]; rfl
          have e2 : 1 < (s.take 3).length := by rw [List.length_take]; omega
          rw [decide_eq_true e1, decide_eq_true e2]; simp
        rw [this]; rfl
      rw [hz]
      by_cases hq : 4 ≤ s.length ∧ (at_ s 3 = 45 ∨ at_ s 3 = 32)
      · rw [if_pos hq]
      · rw [if_neg hq]
    · rw [decide_eq_false h0, fo]
      by_cases hs : at_ s 3 = 45 ∨ at_ s 3 = 32
      · have e : ((!decide (at_ s 3 = 45)) && (!decide (at_ s 3 = 32))) = false := by
          rcases hs with q | q
          · rw [decide_eq_true q]; rfl
          · rw [decide_eq_true q, ntr, Bool.and_false]
        rw [e, cfl, eG (by omega), bf, show to_ s 3 = s.take 3 from rfl, ku F _ (by omega), bn, if_pos ⟨h4, hs⟩]
        cases hn : gx (s.take 3) with
        | none => rw [lm hn]; rfl
        | some n =>
          rw [jY hn]
          simp only
          by_cases hr : 200 ≤ n ∧ n ≤ 599
          · rw [if_pos hr, decide_eq_false (p := (n : Int) < 200) (by omega), decide_eq_false (p := 599 < (n : Int)) (by omega)]; rfl
          · rw [if_neg hr]
            by_cases q : 200 ≤ n
            · rw [decide_eq_true (p := 599 < (n : Int)) (by omega), Bool.or_true]; rfl
            · rw [decide_eq_true (p := (n : Int) < 200) (by omega)]; rfl
      · have e : ((!decide (at_ s 3 = 45)) && (!decide (at_ s 3 = 32))) = true := by
          rw [decide_eq_false (fun q => hs (.inl q)), decide_eq_false (fun q => hs (.inr q))]; rfl
        rw [e, ctr, if_neg (fun q => hs q.2)]
  · have hd4 : decide ((s.length : Int) < 4) = true := decide_eq_true (by omega)
    rw [hd4, ntr, ij, bf, Bool.true_or, ntr, ij, bf, eC, ij, bf, Bool.true_or, ctr, if_neg (fun q => h4 q.1)]
theorem pV (F : Nat) (hF : 2000 < F) (B : Bs) (hB : B.length ≤ 1000000) : ∀ (j m : Nat) (a : Nat) (c : Int) (ls : List Bs), ls.length + j = 100 → j < m → a ≤ B.length →
    match kL j c ls a (B.drop a) with
    | .wait => ∃ x y, cz F B m ((a : Int), c, ls) = some (x, y, 0, 0, 0, 0)
    | .bad => ∃ x y, cz F B m ((a : Int), c, ls) = some (x, y, 0, 0, 0, -1)
    | .ok x n => cz F B m ((a : Int), c, ls) = some (x.1, x.2.1, x.2.2.1, x.2.2.2.1, x.2.2.2.2, (n : Int))
  | j, 0, a, c, ls, hj, hm, ha => by omega
  | 0, m + 1, a, c, ls, hj, hm, ha => by
    show match kL 0 c ls a (B.drop a) with
      | .wait => ∃ x y, cY F B (cz F B m) (a : Int) c ls = some (x, y, 0, 0, 0, 0)
      | .bad => ∃ x y, cY F B (cz F B m) (a : Int) c ls = some (x, y, 0, 0, 0, -1)
      | .ok x n => cY F B (cz F B m) (a : Int) c ls = some (x.1, x.2.1, x.2.2.1, x.2.2.2.1, x.2.2.2.2, (n : Int))
    unfold cY kL
    have hl : decide ((ls.length : Int) = 100) = true := decide_eq_true (by omega)
    rw [eG (by omega), bf, kh, sd F hF _ (by rw [List.length_drop]; omega)]
    unfold lnT
    cases hb : jz (B.drop a) with
    | wait => exact ⟨_, _, rfl⟩
    | bad =>
      simp only
      rw [bM, bF (by decide), mF F hF, bn, show decide ((2 : Int) = 2) = true from rfl, Bool.true_or, Bool.true_or, Bool.true_or, ctr]
      exact ⟨_, _, rfl⟩
    | ok s =>
      simp only
      rw [bM, bF (by decide), mF F hF, bn, hl, Bool.or_true, Bool.true_or, ctr]
      exact ⟨_, _, rfl⟩
  | j + 1, m + 1, a, c, ls, hj, hm, ha => by
    show match kL (j + 1) c ls a (B.drop a) with
      | .wait => ∃ x y, cY F B (cz F B m) (a : Int) c ls = some (x, y, 0, 0, 0, 0)
      | .bad => ∃ x y, cY F B (cz F B m) (a : Int) c ls = some (x, y, 0, 0, 0, -1)
      | .ok x n => cY F B (cz F B m) (a : Int) c ls = some (x.1, x.2.1, x.2.2.1, x.2.2.2.1, x.2.2.2.2, (n : Int))
    unfold cY kL
    have hl : decide ((ls.length : Int) = 100) = false := decide_eq_false (by omega)
    rw [eG (by omega), bf, kh, sd F hF _ (by rw [List.length_drop]; omega)]
    unfold lnT
    cases hb : jz (B.drop a) with
    | wait => exact ⟨_, _, rfl⟩
    | bad =>
      simp only
      rw [bM, bF (by decide), mF F hF, bn, show decide ((2 : Int) = 2) = true from rfl, Bool.true_or, Bool.true_or, Bool.true_or, ctr]
      exact ⟨_, _, rfl⟩
    | ok s =>
      have hln := tq hb
      obtain ⟨t, _, _, hsl⟩ := ln_ok hb
      rw [List.length_drop] at hln
      simp only
      rw [bM, bF (by decide), mF F hF, bn, hl, Bool.or_false, show decide ((1 : Int) = 2) = false from rfl, fo]
      unfold codeI
      cases hc : jT s with
      | none =>
        simp only
        rw [show decide ((-1 : Int) < 0) = true from rfl, Bool.true_or, ctr]
        exact ⟨_, _, rfl⟩
      | some n =>
        obtain ⟨h4, _, hr, _⟩ := code_s hc
        simp only
        rw [decide_eq_false (p := (n : Int) < 0) (by omega), fo]
        by_cases h1 : ls ≠ [] ∧ (n : Int) ≠ c
        · have hp := List.length_pos_iff.2 h1.1
          rw [decide_eq_true (p := 0 < (ls.length : Int)) (by omega), decide_eq_false h1.2, nfl, dG, ctr, if_pos h1]
          exact ⟨_, _, rfl⟩
        · have e : ((decide (0 < (ls.length : Int))) && (!decide ((n : Int) = c))) = false := by
            by_cases q : (n : Int) = c
            · rw [decide_eq_true q, ntr, Bool.and_false]
            · have : ls = [] := by
                by_cases q2 : ls = []
                · exact q2
                · exact absurd ⟨q2, q⟩ h1
              rw [this]; rfl
          rw [e, cfl, if_neg h1, eG (by omega), bf, show eJ s 4 = s.drop 4 from rfl, bU (by simp; omega), bf]
          unfold hP
          have ea : (a : Int) + (s.length : Int) + 2 = ((a + (s.length + 2) : Nat) : Int) := by omega
          rw [ci (by omega), ci (by omega), bO (by omega), bf, ea]
          by_cases h32 : at_ s 3 = 32
          · rw [bT h32, if_pos h32, eG (by omega), bf, show eJ s 4 = s.drop 4 from rfl, rmore_eq F hF n _ (by rw [List.length_drop]; omega) (by omega)]
            rfl
          · rw [bF h32, if_neg h32, List.drop_drop]
            exact pV F hF B hB j m (a + (s.length + 2)) (n : Int) (ls ++ [s.drop 4]) (by simp; omega) (by omega) (by omega)
theorem qX (F : Nat) (hF : 2000 < F) (b : Bs) (hb : b.length ≤ 1000000) :
    match one b with
    | .wait => ∃ x y, jh F b = some (x, y, 0, 0, 0, 0)
    | .bad => ∃ x y, jh F b = some (x, y, 0, 0, 0, -1)
    | .ok x n => jh F b = some (x.1, x.2.1, x.2.2.1, x.2.2.2.1, x.2.2.2.2, (n : Int)) :=
  pV F hF b hb 100 F 0 0 [] rfl (by omega) (by omega)
theorem rput_loop (F : Nat) (hF : 2000 < F) {b : Bs} {l2 : List Rp} {u : Nat} {bd : Bool} (h : All b l2 u bd) : ∀ (m : Nat) (l : List Rp), b.length < m → b.length ≤ 1000000 → l.length + b.length ≤ 1000000 →
    eT F false m (l, b) = some (l ++ l2, (if bd = true then [] else b.drop u), bd) := by
  induction h with
  | @wait b e =>
    intro m l hm hb hl;obtain ⟨m, rfl⟩ : ∃ k, m = k + 1 := ⟨m - 1, by omega⟩;show dF F false (eT F false m) l b = _
    have h1 := qX F hF b hb
    rw [e] at h1
    obtain ⟨x, y, h1⟩ := h1
    unfold dF
    rw [h1, bn]
    simp only
    rw [bF (by decide), bT (by decide), List.append_nil]
    rfl
  | @bad b e =>
    intro m l hm hb hl;obtain ⟨m, rfl⟩ : ∃ k, m = k + 1 := ⟨m - 1, by omega⟩;show dF F false (eT F false m) l b = _
    have h1 := qX F hF b hb
    rw [e] at h1
    obtain ⟨x, y, h1⟩ := h1
    unfold dF
    rw [h1, bn]
    simp only
    rw [bT (by decide), List.append_nil]
    rfl
  | @ok b x n l2 u bd e hr ih =>
    intro m l hm hb hl;obtain ⟨m, rfl⟩ : ∃ k, m = k + 1 := ⟨m - 1, by omega⟩;show dF F false (eT F false m) l b = _
    have hp := one_pos e
    have h1 := qX F hF b hb
    rw [e] at h1
    simp only at h1
    unfold dF
    rw [h1, bn]
    simp only
    rw [bF (by omega), bF (by omega), bU (by simp; omega), bf, eG (by omega), bf, kh, bU (by rw [List.length_drop]; omega)]
    have := ih m (l ++ [x]) (by rw [List.length_drop]; omega) (by rw [List.length_drop]; omega) (by rw [List.length_drop]; simp; omega)
    rw [List.append_assoc, List.drop_drop] at this
    exact this
end Go.Rp
namespace Go.Cl
open Go.Pv Go.Av
open Go.Rp (All Rp)
open Go.Dg (cfl ctr dG eC fo nfl ntr)
theorem all_ok {b : Bs} {l : List Rp} {u : Nat} {bd : Bool} (h : All b l u bd) : okR l := fun x hx => by
  obtain ⟨h1, h2, h3, _⟩ := Go.Rp.may_s (h.may.1 x hx);exact ⟨h1, h2.2, fun s hs => Go.Rp.fit_len (h3 s hs)⟩
theorem Run_eq (F : Nat) (hF : 20000 < F) (fr rc nm ml : Bs) (hfr : fr.length ≤ 1000) (hrc : rc.length ≤ 1000) (hnm : nm.length ≤ 1000) (hml : ml.length ≤ 1000) (ph out : Int) (b : Bs) (hb : b.length ≤ 5000) {l : List Rp} {u : Nat} {bd : Bool} (h : All b l u bd) :
    nQ F ph out fr rc nm ml b = some ((nS (lG fr rc nm ml (ph, out, []) l)).1, (nS (lG fr rc nm ml (ph, out, []) l)).2.1, fr, rc, nm, ml, (nS (lG fr rc nm ml (ph, out, []) l)).2.2) := by
  have hle := h.le
  have hp := Go.Rp.put_eq F (by omega) [] b (l := l) (u := u) (bd := bd) (by rw [List.nil_append]; exact h) (by rw [List.nil_append]; omega) (by rw [List.nil_append]; omega)
  unfold nQ mO om
  rw [jE (by omega), bn, bn, hp, cQ]
  have := run_loop F hF fr rc nm ml hfr hrc hnm hml l (all_ok h) (by omega) F 0 ph out [] (by omega) (by omega) (by simp)
  rw [List.drop_zero] at this
  exact this
theorem se (F : Nat) (fr rc nm ml : Bs) (ph out : Int) : iq F ph out fr rc nm ml = some (7, (if out = 0 then 2 else out), fr, rc, nm, ml) := by
  unfold iq fw
  by_cases h : out = 0
  · rw [bT h, if_pos h]
  · rw [bF h, if_neg h]
theorem rgood_eq (F : Nat) (c : Int) (ph : Int) : jp F ph c = some (fI ph c) := by
  unfold jp fI
  by_cases h : ph = 0
  · rw [bT h, if_pos h]
  · rw [bF h, if_neg h]
    by_cases g : ph = 4
    · rw [bT g, if_pos g]
    · rw [bF g, if_neg g]
theorem rStep_eq (F : Nat) (hF : 20000 < F) (fr rc nm ml : Bs) (hfr : fr.length ≤ 1000) (hrc : rc.length ≤ 1000) (hnm : nm.length ≤ 1000) (hml : ml.length ≤ 1000) (c : Int) (ls : List Bs) (hls : ∀ s ∈ ls, s.length ≤ 1000) (hln : ls.length ≤ 1000) (m0 m1 m2 : Int) (ph out : Int) : jq F ph out fr rc nm ml c ls m0 m1 m2 = some ((gb fr rc nm ml ph out c ls).1, (gb fr rc nm ml ph out c ls).2.1, fr, rc, nm, ml, (gb fr rc nm ml ph out c ls).2.2) := by
  unfold jq gb
  by_cases h : ph < 0 ∨ 7 ≤ ph
  · have : ((decide (ph < 0)) || (decide (7 ≤ ph))) = true := by
      rcases h with h | h
      · rw [decide_eq_true h]; rfl
      · rw [decide_eq_true h, Bool.or_true]
    rw [if_pos h, this, ctr]
  · rw [if_neg h, decide_eq_false (fun z => h (.inl z)), decide_eq_false (fun z => h (.inr z)), fo, cfl]
    by_cases h2 : c = 421
    · rw [if_pos h2, bT h2, se F fr rc nm ml, bn]
    · rw [if_neg h2, bF h2]
      by_cases h6 : ph = 6
      · rw [if_pos h6, bT h6]
      · rw [if_neg h6, bF h6, rgood_eq F c, bn]
        by_cases hg : fI ph c = true
        · have e5 : ([69, 72, 76, 79, 32] : Bs).length = 5 := rfl
          have e2 : ([13, 10] : Bs).length = 2 := rfl
          have e11 : ([77, 65, 73, 76, 32, 70, 82, 79, 77, 58, 60] : Bs).length = 11 := rfl
          have e9 : ([82, 67, 80, 84, 32, 84, 79, 58, 60] : Bs).length = 9 := rfl
          have e3 : ([62, 13, 10] : Bs).length = 3 := rfl
          have e6 : ([68, 65, 84, 65, 13, 10] : Bs).length = 6 := rfl
          rw [if_pos hg, hg, ntr, cfl, uc F ml (by omega) (by omega), bM]
          unfold goP dH
          have hq : ph = 0 ∨ ph = 1 ∨ ph = 2 ∨ ph = 3 ∨ ph = 4 ∨ ph = 5 := by omega
          rcases hq with rfl | rfl | rfl | rfl | rfl | rfl
          · rw [bT rfl, if_pos rfl, e5, bU (by omega), bf, e2, List.length_append, e5, bU (by omega), bf, bU (by rw [List.length_append, List.length_append, e5, e2]; omega)]
            rfl
          · rw [bF (by decide), bT rfl, if_neg (by decide), if_pos rfl, rsize_eq F (by omega) c ls m0 m1 m2 hls (by omega) (by omega), bn]
            by_cases q : 0 < dW ls ∧ dW ls < (kl ml).length
            · rw [if_pos q, decide_eq_true (p := (0 : Int) < ((dW ls : Nat) : Int)) (by omega), decide_eq_true (p := ((dW ls : Nat) : Int) < ((kl ml).length : Int)) (by omega), dG, ctr]
              rfl
            · have : ((decide ((0 : Int) < ((dW ls : Nat) : Int))) && (decide (((dW ls : Nat) : Int) < ((kl ml).length : Int)))) = false := by
                by_cases g : 0 < dW ls
                · rw [decide_eq_false (p := ((dW ls : Nat) : Int) < ((kl ml).length : Int)) (fun z => q ⟨g, by omega⟩), Bool.and_false]
                · rw [decide_eq_false (p := (0 : Int) < ((dW ls : Nat) : Int)) (by omega)]; rfl
              rw [if_neg q, this, cfl, e11, bU (by omega), bf, e3, List.length_append, e11, bU (by omega), bf, bU (by rw [List.length_append, List.length_append, e11, e3]; omega)]
              rfl
          · rw [bF (by decide), bF (by decide), bT rfl, if_neg (by decide), if_neg (by decide), if_pos rfl, e9, bU (by omega), bf, e3, List.length_append, e9, bU (by omega), bf, bU (by rw [List.length_append, List.length_append, e9, e3]; omega)]
            rfl
          · rw [bF (by decide), bF (by decide), bF (by decide), bT rfl, if_neg (by decide), if_neg (by decide), if_neg (by decide), if_pos rfl, e6, bU (by omega)]
            rfl
          · rw [bF (by decide), bF (by decide), bF (by decide), bF (by decide), bT rfl, if_neg (by decide), if_neg (by decide), if_neg (by decide), if_neg (by decide), if_pos rfl]
          · rw [bF (by decide), bF (by decide), bF (by decide), bF (by decide), bF (by decide), if_neg (by decide), if_neg (by decide), if_neg (by decide), if_neg (by decide), if_neg (by decide)]
            rfl
        · have hg' : fI ph c = false := by
            cases z : fI ph c with
            | false => rfl
            | true => exact absurd z hg
          rw [if_neg hg, hg', nfl, ctr]
          unfold gE
          by_cases q : 500 ≤ c ∧ c ≤ 599
          · rw [if_pos q, decide_eq_true q.1, decide_eq_true q.2, dG, ctr]; rfl
          · have : ((decide (500 ≤ c)) && (decide (c ≤ 599))) = false := by
              by_cases a : 500 ≤ c
              · rw [decide_eq_false (p := c ≤ 599) (fun z => q ⟨a, z⟩), Bool.and_false]
              · rw [decide_eq_false a]; rfl
            rw [if_neg q, this, cfl]; rfl
theorem uf (F : Nat) (hF : 20000 < F) (fr rc nm ml : Bs) (hfr : fr.length ≤ 1000) (hrc : rc.length ≤ 1000) (hnm : nm.length ≤ 1000) (hml : ml.length ≤ 1000) (L : RL) (hL : okR L) (hn : L.length ≤ 10000) : ∀ (n i : Nat) (ph out : Int) (acc : Bs), L.length - i < n → i ≤ L.length → acc.length ≤ 5000 * i →
    eS F L n (acc, (i : Int), ph, out, fr, rc, nm, ml) = some ((nS (lG fr rc nm ml (ph, out, acc) (L.drop i))).1, (nS (lG fr rc nm ml (ph, out, acc) (L.drop i))).2.1, fr, rc, nm, ml, (nS (lG fr rc nm ml (ph, out, acc) (L.drop i))).2.2) := by
  intro n
  induction n with
  | zero => intro i ph out acc h; omega
  | succ n ih =>
    intro i ph out acc hn' hi ha;show hH F L (eS F L n) acc (i : Int) ph out fr rc nm ml = _
    unfold hH
    by_cases h : i < L.length
    · obtain ⟨hc, hl, hs⟩ := hL _ (List.getElem_mem h)
      have ho := sb fr rc nm ml hfr hrc hnm hml ph out (L[i]).1 (L[i]).2.1
      rw [bT (by omega), bO (by omega), bf, dj h, rStep_eq F hF fr rc nm ml hfr hrc hnm hml (L[i]).1 (L[i]).2.1 (fun s q => by have := hs s q; omega) (by omega) _ _ _ ph out, bn]
      unfold gZ
      simp only
      rw [bU (by omega), bf, ci (by omega), cn]
      rw [ih (i + 1) _ _ _ (by omega) (by omega) (by rw [List.length_append]; omega), aP h, sc]
    · rw [bF (by omega), aR (by omega)]
      unfold hC fV nS
      show _ = some ((if ph = 7 then (ph, out, acc) else (7, (if out = 0 then 2 else out), acc)).1, (if ph = 7 then (ph, out, acc) else (7, (if out = 0 then 2 else out), acc)).2.1, fr, rc, nm, ml, (if ph = 7 then (ph, out, acc) else (7, (if out = 0 then 2 else out), acc)).2.2)
      by_cases g : ph = 7
      · rw [decide_eq_true g, ntr, cfl, if_pos g]
      · rw [decide_eq_false g, nfl, ctr, if_neg g, se F fr rc nm ml, bn]
theorem rRun_eq (F : Nat) (hF : 20000 < F) (fr rc nm ml : Bs) (hfr : fr.length ≤ 1000) (hrc : rc.length ≤ 1000) (hnm : nm.length ≤ 1000) (hml : ml.length ≤ 1000) (ph out : Int) (b : Bs) (hb : b.length ≤ 5000) {l : List Rp} {u : Nat} {bd : Bool} (h : All b l u bd) :
    jW F ph out fr rc nm ml b = some ((nS (lG fr rc nm ml (ph, out, []) l)).1, (nS (lG fr rc nm ml (ph, out, []) l)).2.1, fr, rc, nm, ml, (nS (lG fr rc nm ml (ph, out, []) l)).2.2) := by
  have hle := h.le
  have hp : jX F [] false b = some (l, (if bd = true then [] else b.drop u), bd) := by
    unfold jX
    rw [cfl, bU (by decide), bU (by rw [List.length_nil]; omega), bf, List.nil_append]
    have := Go.Rp.rput_loop F (by omega) h F [] (by omega) (by omega) (by simp; omega)
    exact this
  unfold jW
  rw [hp, cQ]
  have := uf F hF fr rc nm ml hfr hrc hnm hml l (all_ok h) (by omega) F 0 ph out [] (by omega) (by omega) (by simp)
  rw [List.drop_zero] at this
  exact this
end Go.Cl
namespace Go.Cl
open Go.Pv Go.Av
open Go.Dg (cfl ctr dG eC fo nfl ntr)
theorem bif_t {α : Type} {x : Bool} {a b : α} (h : x = true) : (bif x then a else b) = a := by rw [h]; rfl
theorem bif_f {α : Type} {x : Bool} {a b : α} (h : x = false) : (bif x then a else b) = b := by rw [h]; rfl
theorem few_eq (F : Nat) (ph out : Int) (fr rc nm ml : Bs) : jZ F ph out fr rc nm ml = some (decide (((fr.length ≤ 100 ∧ rc.length ≤ 100) ∧ nm.length ≤ 100) ∧ ml.length ≤ 600)) := by
  unfold jZ
  congr 1
  by_cases h : ((fr.length ≤ 100 ∧ rc.length ≤ 100) ∧ nm.length ≤ 100) ∧ ml.length ≤ 600
  · rw [decide_eq_true h]
    simp only [Bool.and_eq_true, decide_eq_true_eq]
    omega
  · rw [decide_eq_false h]
    simp only [Bool.and_eq_false_iff, decide_eq_false_iff_not]
    omega
theorem tA (F : Nat) (ph out : Int) (fr rc nm ml : Bs) : ip F ph out fr rc nm ml ph out fr rc nm ml = some true := by
  unfold ip
  rw [decide_eq_true rfl, decide_eq_true rfl, decide_eq_true rfl, decide_eq_true rfl, decide_eq_true rfl, decide_eq_true rfl]
  rfl
theorem awake_eq : iK 2000000 = some true := by decide +kernel
end Go.Cl
namespace Go.Cl
open Go.Pv Go.Av
open Go.Rp (All)
open Go.Dg (cfl ctr dG eC fo nfl ntr)
theorem qR (F : Nat) (hF : 20000 < F) (hw : iK F = some true) (ph out : Int) (fr rc nm ml b : Bs) : eD F ph out fr rc nm ml b = some true := by
  unfold eD
  rw [hw, bn, few_eq, bn]
  by_cases h : (((fr.length ≤ 100 ∧ rc.length ≤ 100) ∧ nm.length ≤ 100) ∧ ml.length ≤ 600) ∧ b.length ≤ 2000
  · obtain ⟨l, u, bd, hA⟩ := All.ex _ b (Nat.lt_succ_self _)
    rw [bif_f]
    · rw [start_eq F fr rc nm ml (by omega) (by omega) (by omega) (by omega) (by omega) (by omega) (by omega) (by omega), bn, ud F fr rc nm ml (by omega) (by omega) (by omega) (by omega) (by omega) (by omega) (by omega) (by omega), bn, tA, bn, Run_eq F hF fr rc nm ml (by omega) (by omega) (by omega) (by omega) ph out b (by omega) hA, bn, rRun_eq F hF fr rc nm ml (by omega) (by omega) (by omega) (by omega) ph out b (by omega) hA, bn]
      simp only
      rw [tA, bn]
      simp only [decide_true]
      rfl
    · simp only [Bool.or_eq_false_iff, Bool.not_eq_false', decide_eq_true_eq, decide_eq_false_iff_not]
      exact ⟨⟨trivial, h.1⟩, by omega⟩
  · rw [bif_t]
    simp only [Bool.or_eq_true, Bool.not_eq_true', decide_eq_true_eq, decide_eq_false_iff_not]
    omega
theorem ClientRuns_t (ph out : Int) (fr rc nm ml b : Bs) : eD 2000000 ph out fr rc nm ml b = some true := qR 2000000 (by omega) awake_eq ph out fr rc nm ml b
end Go.Cl
namespace Go.Av
open Go.RowKit Go.ChangeShapes Go.WideShapes
section
variable {H : Type} {enc : TypeId × Value → H} {P : Program} {w : World}
def qV {H : Type} (enc : TypeId × Value → H) (P : Program) (w : World) (t : TypeId) {α : Type} (E : α → List AV) (p : α → Prop) : Prop :=
  ∀ fuel cs d, DataW.trod enc P w 0 (fun _ => true) true fuel t cs = some d → ∃ x, p x ∧ RelL (Info.start w) w (E x) cs
theorem opens_int {t : TypeId} {k : IntKind} (ht : P.underlying t = some (.int k)) : qV enc P w t (fun n : Int => [.v (.int k n)]) (fun n => (Lit.int k n).wf = true) := by
  intro fuel cs d h;obtain ⟨n, rfl, _, hw⟩ := DataW.trod_int ht h;exact ⟨n, hw, .cons (.v _) .nil⟩
theorem opens_str {t : TypeId} (ht : P.underlying t = some .string) : qV enc P w t (fun s : List UInt8 => [S s]) (fun s => s.length ≤ maxLen) := by
  intro fuel cs d h;obtain ⟨s, rfl, _, hw⟩ := DataW.trod_string ht h;refine ⟨s.data.toList, by simpa using hw, .cons (oO _ _ s) .nil⟩
theorem opens_bytes {t e : TypeId} (ht : P.underlying t = some (.slice e)) (he : P.underlying e = some (.int .u8)) (hc : P.cellsOf e = 1) :
    qV enc P w t (fun l : List UInt8 => [slE Enc.byte l none]) (fun l => l.length ≤ maxLen) := by
  intro fuel cs d h
  rcases open_ints ht he hc h with ⟨rfl, _⟩ | ⟨x, len, cap, zs, rfl, _, hl, hm, hz, _, hcell, hw⟩
  · exact ⟨[], by simp, .cons (.slz _ _ _) .nil⟩
  · simp only [if_true] at hz
    obtain ⟨l, hl', hm', r⟩ := rel_bytes (w := w) (a := some x) (len := len) (cap := cap) (zs := zs) (.inr ⟨x, rfl, hl, hm, hz, hcell, hw⟩);exact ⟨l, by omega, .cons r .nil⟩
def rt {H : Type} (enc : TypeId × Value → H) (P : Program) (w : World) (tot off : Nat) (fs : List Field) {α : Type} (E : α → List AV) (p : α → Prop) : Prop :=
  ∀ (n : Nat) (cs : List Value), cs.length = tot → (∀ f ∈ fs, ∃ d, DataW.trod enc P w 0 (fun _ => true) true n f.type ((cs.drop f.offset).take (P.cellsOf f.type)) = some d) → ∃ x, p x ∧ RelL (Info.start w) w (E x) (cs.drop off)
theorem opensF_nil {tot : Nat} : rt enc P w tot tot [] (fun _ : Unit => []) (fun _ => True) := fun n cs hl _ => ⟨(), trivial, by rw [aR (by omega)]; exact .nil⟩
theorem opensF_cons {tot off k : Nat} {f : Field} {fs : List Field} {α β : Type} {E : α → List AV} {p : α → Prop} {F : β → List AV} {q : β → Prop} (ho : f.offset = off) (hk : P.cellsOf f.type = k)
    (h : qV enc P w f.type E p) (g : rt enc P w tot (off + k) fs F q) : rt enc P w tot off (f :: fs) (fun x : α × β => E x.1 ++ F x.2) (fun x => p x.1 ∧ q x.2) := by
  intro n cs hl H;obtain ⟨d, hd⟩ := H f (by simp);obtain ⟨x, hx, rx⟩ := h _ _ _ hd
  obtain ⟨y, hy, ry⟩ := g n cs hl fun f' hf' => H f' (by simp [hf'])
  refine ⟨(x, y), ⟨hx, hy⟩, ?_⟩
  rw [ho, hk] at rx
  have := rx.append ry
  rwa [← List.drop_drop, List.take_append_drop] at this
theorem opens_struct {t : TypeId} {fs : Array Field} {tot : Nat} {α : Type} {E : α → List AV} {p : α → Prop} (ht : P.underlying t = some (.struct fs)) (hc : P.cellsOf t = tot) (h : rt enc P w tot 0 fs.toList E p) :
    qV enc P w t E p := by
  intro fuel cs d hd;obtain ⟨xs, n, _, _, hl, hlen, each⟩ := DataW.trod_struct ht hd
  obtain ⟨x, hx, rx⟩ := h n cs (by omega) fun f hf => by
    obtain ⟨i, hi, rfl⟩ := List.getElem_of_mem hf
    have hi' : i < fs.size := by simpa using hi
    rw [each i _ (by simp [hi'])]
    exact ⟨xs[i]'(by omega), aD _⟩
  exact ⟨x, hx, by simpa using rx⟩
theorem open_agg {t : TypeId} {fs : Array Field} {r : Reach} {b0 : Nat} {v : Value} {d : DataW H} {ps : List MemPlace} {α : Type} {E : α → List AV} {p : α → Prop} (ht : P.underlying t = some (.struct fs))
    (hval : Value.okWide P w r b0 t v) (hd : DataW.Trod enc P w 0 (fun _ => true) true t v d ps) (h : qV enc P w t E p) : ∃ x, p x ∧ Rel (Info.start w) w (.agg (E x)) v := by
  obtain ⟨cs, rfl, _⟩ := okWide_struct ht hval;obtain ⟨fuel, hf⟩ := hd;obtain ⟨x, hx, rx⟩ := h _ _ _ hf;refine ⟨x, hx, ?_⟩
  have := Rel.agg _ _ rx.1 rx.2
  simpa [Value.cells] using this
end
end Go.Av
