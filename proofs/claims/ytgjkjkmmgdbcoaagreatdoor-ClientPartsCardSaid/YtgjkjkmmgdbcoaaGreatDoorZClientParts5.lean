/-
  Texts in one (only what ClientParts needs): RqI, RqR, ClR, ClT, ClParts, AvOpen.
-/
import Derived.Test.YtgjkjkmmgdbcoaaGreatDoorZClientParts4
import Derived.RowKit
import Derived.OpenShut
import Derived.ChangeSlices
import Derived.SliceStrings
set_option linter.unusedVariables false
set_option linter.unusedSimpArgs false
namespace Go.Rp
open Go.Pv Go.Av
open Go.Lib (decDigits indexByte)
open Go.Dg (cfl ctr hU ia fo nfl ntr)
theorem lj (F : Nat) (b : Bool) : dW F b = some (bif b then Res.ok () else Res.pan 0) := by cases b <;> rfl
theorem pK (F : Nat) (b : Bs) (c : UInt8) : ef F b c = some (indexByte b c) := rfl
section
variable {σ : Type}
theorem qg (F : Nat) (k : σ → Bs → Option (σ × Option Bool)) (rec : (Bs × σ) → Option (σ × Bool × Bs)) (b : Bs) (st : σ) (hb : b.length ≤ 2000000) :
    eo F k rec b st = match hZ b with
      | .wait => some (st, false, b)
      | .bad => some (st, true, [])
      | .ok s => bnd (k st s) fun x => bndo x.2 (some (x.1, true, [])) fun g => bif !g then some (x.1, false, b) else rec (b.drop (s.length + 2), x.1) := by
  have g10 := lT b 10
  have g13 := lT b 13
  have l10 := ib_lt b 10
  have l13 := ib_lt b 13
  unfold eo hZ
  rw [pK, bJ, pK]
  simp only [lj]
  by_cases h0 : indexByte b 10 < 0
  · rw [bT h0, if_pos h0]
    by_cases hl : b.length < 512
    · rw [decide_eq_true (p := (b.length : Int) < 512) (by omega), if_pos hl]; rfl
    · rw [decide_eq_false (p := (b.length : Int) < 512) (by omega), if_neg hl]; rfl
  · rw [bF h0, if_neg h0]
    by_cases h1 : indexByte b 10 < 512 ∧ 0 < indexByte b 10
    · obtain ⟨h1, h2⟩ := h1
      rw [decide_eq_true h1, decide_eq_true h2, hU, bndc_t, bJ, mR, dl (by omega), hU]
      by_cases h3 : indexByte b 13 = indexByte b 10 - 1
      · rw [decide_eq_true h3, ctr, oL, dl (by omega), fW (by omega), bG, if_pos ⟨h1, h2, h3⟩]
        have e1 : to_ b (indexByte b 10 - 1) = b.take (indexByte b 10 - 1).toNat := rfl
        have e2 : eQ b (indexByte b 10 + 1) = b.drop ((b.take (indexByte b 10 - 1).toNat).length + 2) := by
          unfold eQ
          congr 1
          rw [List.length_take]; omega
        have hI : -9223372036854775808 ≤ indexByte b 10 + 1 ∧ indexByte b 10 + 1 ≤ 9223372036854775807 := by omega
        have hT : 0 ≤ indexByte b 10 + 1 ∧ indexByte b 10 + 1 ≤ b.length := by omega
        rw [e1]
        simp only [dl hI, fW hT, bG, e2]
      · rw [decide_eq_false h3, cfl, gK, if_neg (fun g => h3 g.2.2)]
    · have e : ((decide (indexByte b 10 < 512)) && (decide (0 < indexByte b 10))) = false := by
        by_cases q : indexByte b 10 < 512
        · rw [decide_eq_false (p := 0 < indexByte b 10) (fun r => h1 ⟨q, r⟩), Bool.and_false]
        · rw [decide_eq_false q]; rfl
      rw [e, bndc_f, ki, ia, cfl, gK, if_neg (fun g => h1 ⟨g.1, g.2.1⟩)]
end
abbrev S5 := Int × Int × List Bs × List Rp × Int
def kk (F : Nat) (s : S5) (x : Bs) : Option (S5 × Option Bool) := eX F s.1 s.2.1 s.2.2.1 s.2.2.2.1 s.2.2.2.2 x
def lineR (a : Nat) (c : Int) (ls : List Bs) (l : List Rp) (u : Int) (s : Bs) : S5 × Option Bool :=
  match iR s with
  | none => (((a : Int), c, ls, l, u), none)
  | some n => if ls.length < 100 ∧ ¬ (ls ≠ [] ∧ (n : Int) ≠ c) then
      (if at_ s 3 = 32 then (((a + (s.length + 2) : Nat) : Int), 0, [], l ++ [((n : Int), ls ++ [s.drop 4], iQ (n : Int) (s.drop 4))], ((a + (s.length + 2) : Nat) : Int))
       else (((a + (s.length + 2) : Nat) : Int), (n : Int), ls ++ [s.drop 4], l, u), some true)
    else (((a : Int), c, ls, l, u), none)
theorem kk_eq (F : Nat) (hF : 2000 < F) (a : Nat) (c : Int) (ls : List Bs) (l : List Rp) (u : Int) (s : Bs) (hs : s.length ≤ 510) (ha : a ≤ 2000000) (hls : ls.length ≤ 100) (hl : l.length ≤ 2000000) :
    kk F ((a : Int), c, ls, l, u) s = some (lineR a c ls l u s) := by
  unfold kk eX lineR iR
  simp only
  by_cases h4 : 4 ≤ s.length
  · have hd4 : decide ((4 : Int) ≤ (s.length : Int)) = true := decide_eq_true (by omega)
    have hg : ∀ (b : Bool) (x : Option (S5 × Option Bool)), fG b (dj 3 s.length) x = x := fun b x => kR fun _ => by omega
    rw [hd4, hg, bG, hg, bG, hU]
    simp only [lj]
    obtain ⟨g, hgd⟩ : ∃ g, g = at_ s 3 := ⟨_, rfl⟩
    rw [← hgd]
    by_cases hsg : g = 45 ∨ g = 32
    · have esg : ((decide (g = 45)) || (decide (g = 32))) = true := by
        rcases hsg with e | e <;> rw [e] <;> decide
      rw [if_pos ⟨h4, hsg⟩, esg, hU]
      by_cases h100 : ls.length < 100
      · rw [decide_eq_true (p := (ls.length : Int) < 100) (by omega), ctr, oL, fW (by omega), bG]
        have e3 : to_ s 3 = s.take 3 := rfl
        have e4 : eQ s 4 = s.drop 4 := rfl
        obtain ⟨x, ex, hx⟩ := jn F (s.take 3) (by simp; omega) hF
        rw [e3, ex, bw]
        cases hn : gW (s.take 3) with
        | none => rfl
        | some n =>
          rw [hx n hn, show (some n).isSome = true from rfl, hU]
          simp only
          by_cases hr : 200 ≤ n ∧ n ≤ 599
          · rw [if_pos hr, decide_eq_true (p := (200 : Int) ≤ (n : Int)) (by omega), decide_eq_true (p := (n : Int) ≤ 599) (by omega), hU, hU]
            simp only
            by_cases hc : ls ≠ [] ∧ (n : Int) ≠ c
            · have e : ((decide ((ls.length : Int) = 0)) || (decide ((n : Int) = c))) = false := by
                rw [decide_eq_false hc.2, Bool.or_false]
                refine decide_eq_false fun g => hc.1 (List.length_eq_zero_iff.1 (by omega))
              rw [e, cfl, gK, if_neg (fun g => g.2 hc)]
            · have e : ((decide ((ls.length : Int) = 0)) || (decide ((n : Int) = c))) = true := by
                by_cases q : (n : Int) = c
                · rw [decide_eq_true q, Bool.or_true]
                · have : ls = [] := by
                    by_cases q2 : ls = []
                    · exact q2
                    · exact absurd ⟨q2, q⟩ hc
                  rw [this]; rfl
              rw [e, ctr, oL, fW (by omega), bG, e4, cO (by simp; omega), bG, if_pos ⟨h100, hc⟩]
              unfold gC
              have ea : (a : Int) + ((s.length : Int) + 2) = ((a + (s.length + 2) : Nat) : Int) := by omega
              rw [dl (by omega), dl (by omega), cz (by omega), bG, ← hgd, ea]
              by_cases h32 : g = 32
              · rw [bT h32, if_pos h32, fW (by omega), bG, e4]
                rcases more_eq F hF n (s.drop 4) (by simp; omega) with em | em
                · rw [em, show iQ (n : Int) (s.drop 4) = ((iQ (n : Int) (s.drop 4)).1, (iQ (n : Int) (s.drop 4)).2.1, (iQ (n : Int) (s.drop 4)).2.2) from rfl, cn]
                  unfold kF
                  rw [cO (by simp; omega), bG, bw]
                · omega
              · rw [bF h32, if_neg h32]
          · have e : (((decide ((200 : Int) ≤ (n : Int))) && (decide ((n : Int) ≤ 599))) && ((decide ((ls.length : Int) = 0)) || (decide ((n : Int) = c)))) = false := by
              by_cases q : 200 ≤ n
              · rw [decide_eq_false (p := (n : Int) ≤ 599) (by omega), Bool.and_false, ia]
              · rw [decide_eq_false (p := (200 : Int) ≤ (n : Int)) (by omega), ia, ia]
            rw [e, cfl, gK, if_neg hr]
      · rw [decide_eq_false (p := (ls.length : Int) < 100) (by omega), cfl, gK]
        cases hn : gW (s.take 3) with
        | none => rfl
        | some n =>
          simp only
          by_cases hr : 200 ≤ n ∧ n ≤ 599
          · rw [if_pos hr]; simp only; rw [if_neg (fun q => h100 q.1)]
          · rw [if_neg hr]
    · have esg : ((decide (g = 45)) || (decide (g = 32))) = false := by
        rw [decide_eq_false (fun e => hsg (.inl e)), decide_eq_false (fun e => hsg (.inr e))]; rfl
      rw [if_neg (fun q => hsg q.2), esg, ia, cfl, gK]
  · have hd4 : decide ((4 : Int) ≤ (s.length : Int)) = false := decide_eq_false (by omega)
    rw [hd4, ki, bG, ia, ki, bG, ia, ia, lj, cfl, gK, if_neg (fun q => h4 q.1)]
theorem iy (d : Nat) : ∀ (k : Nat) (c : Int) (ls : List Bs) (a : Nat) (b : Bs), iM k c ls (a + d) b = match iM k c ls a b with | .ok x n => .ok x (n + d) | y => y
  | 0, c, ls, a, b => by
    unfold iM
    cases hZ b <;> rfl
  | k + 1, c, ls, a, b => by
    unfold iM
    cases hZ b with
    | wait => rfl
    | bad => rfl
    | ok s =>
      simp only
      cases iR s with
      | none => rfl
      | some n =>
        simp only
        by_cases h1 : ls ≠ [] ∧ (n : Int) ≠ c
        · rw [if_pos h1, if_pos h1]
        · rw [if_neg h1, if_neg h1]
          by_cases h2 : at_ s 3 = 32
          · rw [if_pos h2, if_pos h2]
            simp only
            rw [show a + d + (s.length + 2) = a + (s.length + 2) + d by omega]
          · rw [if_neg h2, if_neg h2, show a + d + (s.length + 2) = a + (s.length + 2) + d by omega]
            exact iy d k _ _ _ _
abbrev LL (F : Nat) (m : Nat) (b : Bs) (st : S5) : Option (S5 × Bool × Bs) := el F (kk F) m (b, st)
theorem qN (F : Nat) (hF : 2000 < F) (m : Nat) (b : Bs) (a : Nat) (c : Int) (ls : List Bs) (l : List Rp) (u : Int) (hb : b.length ≤ 1000000) (ha : a ≤ 1000000) (hls : ls.length ≤ 100) (hl : l.length ≤ 1000000) :
    LL F (m + 1) b ((a : Int), c, ls, l, u) = match hZ b with
      | .wait => some (((a : Int), c, ls, l, u), false, b)
      | .bad => some (((a : Int), c, ls, l, u), true, [])
      | .ok s => match iR s with
        | none => some (((a : Int), c, ls, l, u), true, [])
        | some n => if ls.length < 100 ∧ ¬ (ls ≠ [] ∧ (n : Int) ≠ c) then
            (if at_ s 3 = 32 then LL F m (b.drop (s.length + 2)) (((a + (s.length + 2) : Nat) : Int), 0, [], l ++ [((n : Int), ls ++ [s.drop 4], iQ (n : Int) (s.drop 4))], ((a + (s.length + 2) : Nat) : Int))
             else LL F m (b.drop (s.length + 2)) (((a + (s.length + 2) : Nat) : Int), (n : Int), ls ++ [s.drop 4], l, u))
          else some (((a : Int), c, ls, l, u), true, []) := by
  have e : LL F (m + 1) b ((a : Int), c, ls, l, u) = eo F (kk F) (el F (kk F) m) b ((a : Int), c, ls, l, u) := rfl
  rw [e, qg F _ _ b _ (by omega)]
  cases hb : hZ b with
  | wait => rfl
  | bad => rfl
  | ok s =>
    simp only
    obtain ⟨t, _, _, hsl⟩ := ln_ok hb
    rw [kk_eq F hF a c ls l u s hsl (by omega) (by omega) (by omega), bJ]
    unfold lineR
    cases iR s with
    | none => rfl
    | some n =>
      simp only
      by_cases h1 : ls.length < 100 ∧ ¬ (ls ≠ [] ∧ (n : Int) ≠ c)
      · simp only [if_pos h1]
        by_cases h2 : at_ s 3 = 32
        · simp only [if_pos h2]; rfl
        · simp only [if_neg h2]; rfl
      · simp only [if_neg h1]; rfl
theorem jp (F : Nat) (hF : 2000 < F) (l : List Rp) (u : Int) (hl : l.length ≤ 1000000) : ∀ (j m : Nat) (b : Bs) (a : Nat) (c : Int) (ls : List Bs), ls.length + j = 100 → b.length < m → a + b.length ≤ 1000000 →
    match iM j c ls a b with
    | .wait => ∃ st b', LL F m b ((a : Int), c, ls, l, u) = some (st, false, b') ∧ st.2.2.2.1 = l ∧ st.2.2.2.2 = u
    | .bad => ∃ st b', LL F m b ((a : Int), c, ls, l, u) = some (st, true, b') ∧ st.2.2.2.1 = l ∧ st.2.2.2.2 = u
    | .ok x n => ∃ m', (b.drop (n - a)).length < m' ∧ a < n ∧ LL F m b ((a : Int), c, ls, l, u) = LL F m' (b.drop (n - a)) ((n : Int), 0, [], l ++ [x], (n : Int))
  | j, 0, b, a, c, ls, hj, hm, ha => by omega
  | 0, m + 1, b, a, c, ls, hj, hm, ha => by
    rw [qN F hF m b a c ls l u (by omega) (by omega) (by omega) hl]
    unfold iM
    cases hb : hZ b with
    | wait => exact ⟨_, _, rfl, rfl, rfl⟩
    | bad => exact ⟨_, _, rfl, rfl, rfl⟩
    | ok s =>
      simp only
      cases iR s with
      | none => exact ⟨_, _, rfl, rfl, rfl⟩
      | some n =>
        simp only
        rw [if_neg (fun q => by omega)]
        exact ⟨_, _, rfl, rfl, rfl⟩
  | j + 1, m + 1, b, a, c, ls, hj, hm, ha => by
    rw [qN F hF m b a c ls l u (by omega) (by omega) (by omega) hl]
    unfold iM
    cases hb : hZ b with
    | wait => exact ⟨_, _, rfl, rfl, rfl⟩
    | bad => exact ⟨_, _, rfl, rfl, rfl⟩
    | ok s =>
      have hln := qB hb
      simp only
      cases iR s with
      | none => exact ⟨_, _, rfl, rfl, rfl⟩
      | some n =>
        simp only
        by_cases h1 : ls ≠ [] ∧ (n : Int) ≠ c
        · have h1' : ¬ (ls.length < 100 ∧ ¬ (ls ≠ [] ∧ (n : Int) ≠ c)) := fun q => q.2 h1
          simp only [if_pos h1, if_neg h1']
          exact ⟨_, _, rfl, rfl, rfl⟩
        · have h1' : ls.length < 100 ∧ ¬ (ls ≠ [] ∧ (n : Int) ≠ c) := ⟨by omega, h1⟩
          simp only [if_neg h1, if_pos h1']
          by_cases h2 : at_ s 3 = 32
          · simp only [if_pos h2]
            refine ⟨m, ?_, by omega, ?_⟩
            · rw [List.length_drop]; omega
            · rw [show a + (s.length + 2) - a = s.length + 2 by omega]
          · simp only [if_neg h2]
            have ih := jp F hF l u hl j m (b.drop (s.length + 2)) (a + (s.length + 2)) (n : Int) (ls ++ [s.drop 4]) (by simp; omega) (by rw [List.length_drop]; omega) (by rw [List.length_drop]; omega)
            cases hq : iM j (n : Int) (ls ++ [s.drop 4]) (a + (s.length + 2)) (b.drop (s.length + 2)) with
            | wait => rw [hq] at ih; exact ih
            | bad => rw [hq] at ih; exact ih
            | ok x n' =>
              rw [hq] at ih
              simp only at ih ⊢
              obtain ⟨m', i1, i2, i3⟩ := ih
              have ed : (b.drop (s.length + 2)).drop (n' - (a + (s.length + 2))) = b.drop (n' - a) := by
                rw [List.drop_drop]; congr 1; omega
              rw [ed] at i1 i3
              exact ⟨m', i1, by omega, i3⟩
theorem rq (F : Nat) (hF : 2000 < F) {b : Bs} {l2 : List Rp} {u : Nat} {bd : Bool} (h : All b l2 u bd) : ∀ (m a : Nat) (l : List Rp), b.length < m → a + b.length ≤ 1000000 → l.length ≤ a →
    ∃ st b', LL F m b ((a : Int), 0, [], l, (a : Int)) = some (st, bd, b') ∧ st.2.2.2.1 = l ++ l2 ∧ st.2.2.2.2 = ((a + u : Nat) : Int) := by
  induction h with
  | @wait b e =>
    intro m a l hm ha hl
    have := jp F hF l (a : Int) (by omega) 100 m b a 0 [] rfl hm ha
    have sh := iy a 100 0 [] 0 b
    rw [Nat.zero_add, show iM 100 0 [] 0 b = .wait from e] at sh
    rw [sh] at this
    obtain ⟨st, b', h1, h2, h3⟩ := this;exact ⟨st, b', h1, by rw [h2, List.append_nil], by rw [h3]; rfl⟩
  | @bad b e =>
    intro m a l hm ha hl
    have := jp F hF l (a : Int) (by omega) 100 m b a 0 [] rfl hm ha
    have sh := iy a 100 0 [] 0 b
    rw [Nat.zero_add, show iM 100 0 [] 0 b = .bad from e] at sh
    rw [sh] at this
    obtain ⟨st, b', h1, h2, h3⟩ := this;exact ⟨st, b', h1, by rw [h2, List.append_nil], by rw [h3]; rfl⟩
  | @ok b x n l2 u bd e hr ih =>
    intro m a l hm ha hl
    have hp := one_pos e
    have := jp F hF l (a : Int) (by omega) 100 m b a 0 [] rfl hm ha
    have sh := iy a 100 0 [] 0 b
    rw [Nat.zero_add, show iM 100 0 [] 0 b = .ok x n from e] at sh
    rw [sh] at this
    simp only at this
    obtain ⟨m', h1, h2, h3⟩ := this
    rw [show n + a - a = n by omega] at h1 h3
    obtain ⟨st, b', g1, g2, g3⟩ := ih m' (n + a) (l ++ [x]) h1 (by rw [List.length_drop]; omega) (by simp; omega);refine ⟨st, b', by rw [h3]; exact g1, by rw [g2, List.append_assoc]; rfl, by rw [g3]; congr 1; omega⟩
theorem all_eq (F : Nat) (hF : 2000 < F) {b : Bs} {l : List Rp} {u : Nat} {bd : Bool} (h : All b l u bd) (hb : b.length ≤ 1000000) (hbF : b.length < F) : iJ F b [] 0 = some (l, (u : Int), bd) := by
  obtain ⟨st, b', h1, h2, h3⟩ := rq F hF h F 0 [] hbF (by omega) (by simp)
  unfold iJ jm ix
  rw [bJ]
  have e : el F (fun (s : S5) x => eX F s.1 s.2.1 s.2.2.1 s.2.2.2.1 s.2.2.2.2 x) F (b, (0, 0, [], [], 0)) = some (st, bd, b') := h1
  rw [e, cn, h2, h3, Nat.zero_add]
  cases bd <;> rfl
theorem put_eq (F : Nat) (hF : 2000 < F) (B b : Bs) {l : List Rp} {u : Nat} {bd : Bool} (h : All (B ++ b) l u bd) (hb : (B ++ b).length ≤ 1000000) (hbF : (B ++ b).length < F) : jz F B false b = some (l, if bd = true then [] else (B ++ b).drop u, bd) := by
  have hle := h.le
  rw [List.length_append] at hb
  unfold jz gD
  rw [cfl, cO (by omega), bG, all_eq F hF h (by rw [List.length_append]; omega) hbF, cn]
  cases bd with
  | true => rfl
  | false =>
    rw [cfl, fW (by rw [List.length_append]; rw [List.length_append] at hle; omega), bG, mM, gQ (by rw [List.length_drop, List.length_append]; omega)]
    rfl
theorem read_eq (F : Nat) (hF : 2000 < F) (b : Bs) {l : List Rp} {u : Nat} {bd : Bool} (h : All b l u bd) (hb : b.length ≤ 1000000) (hbF : b.length < F) : ip F b = some (if bd = true ∨ u < b.length then ([], 2) else (l, 0)) := by
  have hle := h.le
  have hp := put_eq F hF [] b h hb hbF
  unfold ip jA lZ kG
  rw [bJ, hp, cn, bJ]
  cases bd with
  | true => rfl
  | false =>
    rw [nfl, bndc_t, bJ, fo]
    simp only [Bool.false_eq_true, if_false, false_or]
    by_cases hu : u < b.length
    · rw [bT (by rw [List.nil_append, List.length_drop]; omega), if_pos hu]
    · rw [bF (by rw [List.nil_append, List.length_drop]; omega), if_neg hu]
end Go.Rp
namespace Go.Cl
open Go.Pv Go.Av
open Go.Rp (All Rp)
open Go.Dg (cfl ctr hU ia fo nfl ntr)
theorem qE {b : Bs} {l : List Rp} {u : Nat} {bd : Bool} (h : All b l u bd) : okR l := fun x hx => by
  obtain ⟨h1, h2, h3, _⟩ := Go.Rp.may_s (h.may.1 x hx);exact ⟨h1, h2.2, fun s hs => Go.Rp.fit_len (h3 s hs)⟩
theorem Run_eq (F : Nat) (hF : 20000 < F) (fr rc nm ml : Bs) (hfr : fr.length ≤ 1000) (hrc : rc.length ≤ 1000) (hnm : nm.length ≤ 1000) (hml : ml.length ≤ 1000) (ph out : Int) (b : Bs) (hb : b.length ≤ 5000) {l : List Rp} {u : Nat} {bd : Bool} (h : All b l u bd) :
    lK F ph out fr rc nm ml b = some ((kD (lf fr rc nm ml (ph, out, []) l)).1, (kD (lf fr rc nm ml (ph, out, []) l)).2.1, fr, rc, nm, ml, (kD (lf fr rc nm ml (ph, out, []) l)).2.2) := by
  have hle := h.le
  have hp := Go.Rp.put_eq F (by omega) [] b (l := l) (u := u) (bd := bd) (by rw [List.nil_append]; exact h) (by rw [List.nil_append]; omega) (by rw [List.nil_append]; omega)
  unfold lK gc jA
  rw [gQ (by omega), bJ, bJ, hp, cn]
  have := run_loop F hF fr rc nm ml hfr hrc hnm hml l (qE h) (by omega) F 0 ph out [] (by omega) (by omega) (by simp)
  rw [List.drop_zero] at this
  exact this
end Go.Cl
namespace Go.Cl
open Go.Pv Go.Av
open Go.Dg (cfl ctr hU ia fo nfl ntr)
theorem bif_t {α : Type} {x : Bool} {a b : α} (h : x = true) : (bif x then a else b) = a := by rw [h]; rfl
theorem bif_f {α : Type} {x : Bool} {a b : α} (h : x = false) : (bif x then a else b) = b := by rw [h]; rfl
theorem few_eq (F : Nat) (ph out : Int) (fr rc nm ml : Bs) : ii F ph out fr rc nm ml = some (decide (((fr.length ≤ 100 ∧ rc.length ≤ 100) ∧ nm.length ≤ 100) ∧ ml.length ≤ 600)) := by
  unfold ii
  congr 1
  by_cases h : ((fr.length ≤ 100 ∧ rc.length ≤ 100) ∧ nm.length ≤ 100) ∧ ml.length ≤ 600
  · rw [decide_eq_true h]
    simp only [Bool.and_eq_true, decide_eq_true_eq]
    omega
  · rw [decide_eq_false h]
    simp only [Bool.and_eq_false_iff, decide_eq_false_iff_not]
    omega
theorem same_eq (F : Nat) (ph out : Int) (fr rc nm ml : Bs) : gE F ph out fr rc nm ml ph out fr rc nm ml = some true := by
  unfold gE
  rw [decide_eq_true rfl, decide_eq_true rfl, decide_eq_true rfl, decide_eq_true rfl, decide_eq_true rfl, decide_eq_true rfl]
  rfl
theorem end_run (s : St) : kD s = (7, (if s.1 = 7 then s.2.1 else if s.2.1 = 0 then 2 else s.2.1), s.2.2) := by
  obtain ⟨a, b, c⟩ := s
  unfold kD
  by_cases h : a = 7
  · simp only at h ⊢
    rw [if_pos h, if_pos h, h]
  · simp only at h ⊢
    rw [if_neg h, if_neg h]
theorem awake_eq : fS 2000000 = some true := by decide +kernel
end Go.Cl
namespace Go.Cl
open Go.Pv Go.Av
open Go.Rp (All Rp)
open Go.Dg (cfl ctr hU ia fo nfl ntr)
section
variable (F : Nat) (hF : 20000 < F) (ph0 out0 : Int) (fr rc nm ml : Bs) (a b : Bs) (hf : ((fr.length ≤ 100 ∧ rc.length ≤ 100) ∧ nm.length ≤ 100) ∧ ml.length ≤ 600) (ha : a.length ≤ 1000) (hb : b.length ≤ 1000)
variable {l m : List Rp} {u : Nat} (hA : All (a ++ b) (l ++ m) u false)
include hF hf ha hb hA
theorem rZ (s : St) (hs : s = lf fr rc nm ml (ph0, out0, []) (l ++ m)) : cB F ph0 out0 fr rc nm ml a b s.2.2 s.1 s.2.1 fr rc nm ml = some true := by
  have key : ∀ (ph out : Int), (ph, out) = ((kD s).1, (kD s).2.1) → cf F ph0 out0 fr rc nm ml a b s.2.2 ph out fr rc nm ml = some true := fun ph out e => by
    have e1 : ph = (kD s).1 := congrArg Prod.fst e
    have e2 : out = (kD s).2.1 := congrArg Prod.snd e
    have e3 : (kD s).2.2 = s.2.2 := by rw [end_run]
    unfold cf cS
    rw [cO (by omega), cO (by omega), bG, Run_eq F hF fr rc nm ml (by omega) (by omega) (by omega) (by omega) ph0 out0 (a ++ b) (by rw [List.length_append]; omega) hA, bJ, ← hs]
    simp only
    rw [e1, e2, same_eq, bJ, e3]
    simp only [decide_true]
    rfl
  unfold cB
  by_cases h : s.1 = 7
  · rw [decide_eq_true h, ntr, cfl]
    refine key _ _ ?_
    unfold kD; rw [if_pos h]
  · rw [decide_eq_false h, nfl, ctr, Drop_eq F s.1 s.2.1 fr rc nm ml (by omega), bJ]
    refine key _ _ ?_
    unfold kD; rw [if_neg h]
theorem qu (hl : okR l) (hm : okR m) (hn : l.length + m.length ≤ 3000) : ∀ (n i : Nat) (s : St), l.length + m.length - i < n → i ≤ l.length + m.length → s.2.2.length ≤ 5000 * i → lf fr rc nm ml s ((l ++ m).drop i) = lf fr rc nm ml (ph0, out0, []) (l ++ m) →
    bW F ph0 out0 fr rc nm ml a b l m n (s.2.2, (i : Int), s.1, s.2.1, fr, rc, nm, ml) = some true := by
  intro n
  induction n with
  | zero => intro i s h; omega
  | succ n ih =>
    intro i s hn' hi hs hr;show cT F ph0 out0 fr rc nm ml a b l m (bW F ph0 out0 fr rc nm ml a b l m n) s.2.2 (i : Int) s.1 s.2.1 fr rc nm ml = _
    unfold cT
    rw [dl (by omega)]
    have key : ∀ x : Rp, ((200 ≤ x.1 ∧ x.1 ≤ 599) ∧ x.2.1.length ≤ 100 ∧ ∀ s ∈ x.2.1, s.length ≤ 506) → i < l.length + m.length → (l ++ m).drop i = x :: (l ++ m).drop (i + 1) →
        ce F s.2.2 (i : Int) s.1 s.2.1 fr rc nm ml (bW F ph0 out0 fr rc nm ml a b l m n) x.1 x.2.1 x.2.2.1 x.2.2.2.1 x.2.2.2.2 = some true := fun x hx hlt hd => by
      obtain ⟨hc, hll, hls⟩ := hx
      have ho := pC fr rc nm ml (by omega) (by omega) (by omega) (by omega) s.1 s.2.1 x.1 x.2.1
      unfold ce
      rw [Step_eq F fr rc nm ml x.1 x.2.1 x.2.2.1 x.2.2.2.1 x.2.2.2.2 (by omega) (by omega) (by omega) (by omega) (by omega) (by omega) (by omega) (fun s q => by have := hls s q; omega) (by omega) s.1 s.2.1, bJ]
      simp only
      rw [cO (by omega), bG, dl (by omega), jt]
      refine ih (i + 1) ((eD fr rc nm ml s.1 s.2.1 x.1 x.2.1).1, (eD fr rc nm ml s.1 s.2.1 x.1 x.2.1).2.1, s.2.2 ++ (eD fr rc nm ml s.1 s.2.1 x.1 x.2.1).2.2) (by omega) (by omega) (by simp only [List.length_append]; omega) ?_
      rw [hd, pD] at hr
      exact hr
    by_cases h : i < l.length + m.length
    · rw [bT (by omega)]
      by_cases g : i < l.length
      · rw [bT (by omega), cz (by omega), bG, ib g]
        refine key _ (hl _ (List.getElem_mem g)) h ?_
        rw [bp (by rw [List.length_append]; exact h), List.getElem_append_left g]
      · have e : (i : Int) - (l.length : Int) = ((i - l.length : Nat) : Int) := by omega
        rw [bF (by omega), dl (by omega), cz (by omega), bG, e, ib (by omega)]
        refine key _ (hm _ (List.getElem_mem (by omega))) h ?_
        rw [bp (by rw [List.length_append]; exact h), List.getElem_append_right (by omega)]
    · rw [bF (by omega)]
      rw [bi (by rw [List.length_append]; omega)] at hr
      exact rZ F hF ph0 out0 fr rc nm ml a b hf ha hb hA s hr
end
theorem nh (F : Nat) (hF : 20000 < F) (hw : fS F = some true) (ph out : Int) (fr rc nm ml a b : Bs) : dr F ph out fr rc nm ml a b = some true := by
  unfold dr
  rw [hw, bJ, few_eq, bJ]
  by_cases h : ((((fr.length ≤ 100 ∧ rc.length ≤ 100) ∧ nm.length ≤ 100) ∧ ml.length ≤ 600) ∧ a.length ≤ 1000) ∧ b.length ≤ 1000
  · obtain ⟨l, u, bd, hA⟩ := All.ex _ a (Nat.lt_succ_self _)
    obtain ⟨m, v, bd', hB⟩ := All.ex _ b (Nat.lt_succ_self _)
    have hle := hA.le
    have hle' := hB.le
    rw [bif_f]
    · rw [Go.Rp.read_eq F (by omega) a hA (by omega) (by omega), Go.Rp.read_eq F (by omega) b hB (by omega) (by omega)]
      by_cases ga : bd = true ∨ u < a.length
      · rw [if_pos ga, bw]
        by_cases gb : bd' = true ∨ v < b.length
        · rw [if_pos gb, bw]; rfl
        · rw [if_neg gb, bw]; rfl
      · rw [if_neg ga, bw]
        by_cases gb : bd' = true ∨ v < b.length
        · rw [if_pos gb, bw]; rfl
        · rw [if_neg gb, bw]
          have e1 : bd = false := by cases bd with
            | false => rfl
            | true => exact absurd (.inl rfl) ga
          have e2 : bd' = false := by cases bd' with
            | false => rfl
            | true => exact absurd (.inl rfl) gb
          subst e1; subst e2
          have hu : u = a.length := by
            have : ¬ u < a.length := fun z => ga (.inr z)
            omega
          have hcat := hA.app (c := b) (l' := m) (u' := v) (bd' := false) (by rw [hu, bi (Nat.le_refl _), List.nil_append]; exact hB)
          rw [show ((!decide ((0 : Int) = 0)) || (!decide ((0 : Int) = 0))) = false from rfl, cfl]
          exact qu F hF ph out fr rc nm ml a b h.1.1 h.1.2 h.2 hcat (qE hA) (qE hB) (by omega) F 0 (ph, out, []) (by omega) (by omega) (by simp) rfl
    · simp only [Bool.or_eq_false_iff, Bool.not_eq_false', decide_eq_true_eq, decide_eq_false_iff_not]
      exact ⟨⟨⟨trivial, h.1.1⟩, by omega⟩, by omega⟩
  · rw [bif_t]
    simp only [Bool.or_eq_true, Bool.not_eq_true', decide_eq_true_eq, decide_eq_false_iff_not]
    omega
theorem ClientParts_t (ph out : Int) (fr rc nm ml a b : Bs) : dr 2000000 ph out fr rc nm ml a b = some true := nh 2000000 (by omega) awake_eq ph out fr rc nm ml a b
end Go.Cl
namespace Go.Av
open Go.RowKit Go.ChangeShapes Go.WideShapes
section
variable {H : Type} {enc : TypeId × Value → H} {P : Program} {w : World}
def oE {H : Type} (enc : TypeId × Value → H) (P : Program) (w : World) (t : TypeId) {α : Type} (E : α → List AV) (p : α → Prop) : Prop :=
  ∀ fuel cs d, DataW.trod enc P w 0 (fun _ => true) true fuel t cs = some d → ∃ x, p x ∧ RelL (Info.start w) w (E x) cs
theorem opens_int {t : TypeId} {k : IntKind} (ht : P.underlying t = some (.int k)) : oE enc P w t (fun n : Int => [.v (.int k n)]) (fun n => (Lit.int k n).wf = true) := by
  intro fuel cs d h;obtain ⟨n, rfl, _, hw⟩ := DataW.trod_int ht h;exact ⟨n, hw, .cons (.v _) .nil⟩
theorem opens_str {t : TypeId} (ht : P.underlying t = some .string) : oE enc P w t (fun s : List UInt8 => [S s]) (fun s => s.length ≤ maxLen) := by
  intro fuel cs d h;obtain ⟨s, rfl, _, hw⟩ := DataW.trod_string ht h;refine ⟨s.data.toList, by simpa using hw, .cons (my _ _ s) .nil⟩
theorem opens_bytes {t e : TypeId} (ht : P.underlying t = some (.slice e)) (he : P.underlying e = some (.int .u8)) (hc : P.cellsOf e = 1) :
    oE enc P w t (fun l : List UInt8 => [slE Enc.byte l none]) (fun l => l.length ≤ maxLen) := by
  intro fuel cs d h
  rcases open_ints ht he hc h with ⟨rfl, _⟩ | ⟨x, len, cap, zs, rfl, _, hl, hm, hz, _, hcell, hw⟩
  · exact ⟨[], by simp, .cons (.slz _ _ _) .nil⟩
  · simp only [if_true] at hz
    obtain ⟨l, hl', hm', r⟩ := rel_bytes (w := w) (a := some x) (len := len) (cap := cap) (zs := zs) (.inr ⟨x, rfl, hl, hm, hz, hcell, hw⟩);exact ⟨l, by omega, .cons r .nil⟩
def oX {H : Type} (enc : TypeId × Value → H) (P : Program) (w : World) (tot off : Nat) (fs : List Field) {α : Type} (E : α → List AV) (p : α → Prop) : Prop :=
  ∀ (n : Nat) (cs : List Value), cs.length = tot → (∀ f ∈ fs, ∃ d, DataW.trod enc P w 0 (fun _ => true) true n f.type ((cs.drop f.offset).take (P.cellsOf f.type)) = some d) → ∃ x, p x ∧ RelL (Info.start w) w (E x) (cs.drop off)
theorem opensF_nil {tot : Nat} : oX enc P w tot tot [] (fun _ : Unit => []) (fun _ => True) := fun n cs hl _ => ⟨(), trivial, by rw [bi (by omega)]; exact .nil⟩
theorem opensF_cons {tot off k : Nat} {f : Field} {fs : List Field} {α β : Type} {E : α → List AV} {p : α → Prop} {F : β → List AV} {q : β → Prop} (ho : f.offset = off) (hk : P.cellsOf f.type = k)
    (h : oE enc P w f.type E p) (g : oX enc P w tot (off + k) fs F q) : oX enc P w tot off (f :: fs) (fun x : α × β => E x.1 ++ F x.2) (fun x => p x.1 ∧ q x.2) := by
  intro n cs hl H;obtain ⟨d, hd⟩ := H f (by simp);obtain ⟨x, hx, rx⟩ := h _ _ _ hd
  obtain ⟨y, hy, ry⟩ := g n cs hl fun f' hf' => H f' (by simp [hf'])
  refine ⟨(x, y), ⟨hx, hy⟩, ?_⟩
  rw [ho, hk] at rx
  have := rx.append ry
  rwa [← List.drop_drop, List.take_append_drop] at this
theorem opens_struct {t : TypeId} {fs : Array Field} {tot : Nat} {α : Type} {E : α → List AV} {p : α → Prop} (ht : P.underlying t = some (.struct fs)) (hc : P.cellsOf t = tot) (h : oX enc P w tot 0 fs.toList E p) :
    oE enc P w t E p := by
  intro fuel cs d hd;obtain ⟨xs, n, _, _, hl, hlen, each⟩ := DataW.trod_struct ht hd
  obtain ⟨x, hx, rx⟩ := h n cs (by omega) fun f hf => by
    obtain ⟨i, hi, rfl⟩ := List.getElem_of_mem hf
    have hi' : i < fs.size := by simpa using hi
    rw [each i _ (by simp [hi'])]
    exact ⟨xs[i]'(by omega), aD _⟩
  exact ⟨x, hx, by simpa using rx⟩
theorem open_agg {t : TypeId} {fs : Array Field} {r : Reach} {b0 : Nat} {v : Value} {d : DataW H} {ps : List MemPlace} {α : Type} {E : α → List AV} {p : α → Prop} (ht : P.underlying t = some (.struct fs))
    (hval : Value.okWide P w r b0 t v) (hd : DataW.Trod enc P w 0 (fun _ => true) true t v d ps) (h : oE enc P w t E p) : ∃ x, p x ∧ Rel (Info.start w) w (.agg (E x)) v := by
  obtain ⟨cs, rfl, _⟩ := okWide_struct ht hval;obtain ⟨fuel, hf⟩ := hd;obtain ⟨x, hx, rx⟩ := h _ _ _ hf;refine ⟨x, hx, ?_⟩
  have := Rel.agg _ _ rx.1 rx.2
  simpa [Value.cells] using this
end
end Go.Av
