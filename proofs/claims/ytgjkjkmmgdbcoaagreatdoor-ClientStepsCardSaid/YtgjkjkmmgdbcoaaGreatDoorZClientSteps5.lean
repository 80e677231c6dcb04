/-
  Texts in one (only what ClientSteps needs): ClG, ClS, RqC, RqB, RqSp, RqM, RqW, RqL, ClA, RqI, RqR, ClR, ClT, ClSteps, AvOpen.
-/
import Derived.Test.YtgjkjkmmgdbcoaaGreatDoorZClientSteps4
import Derived.Laws.Closers25
import Derived.Laws.RangeAny
import Derived.Lib.IndexAny
import Derived.Lib.SplitLaws
import Derived.Lib.IndexBytes
import Derived.Lib.IndexLaws
import Derived.RowKit
import Derived.OpenShut
import Derived.ChangeSlices
import Derived.SliceStrings
set_option linter.unusedVariables false
set_option linter.unusedSimpArgs false
namespace Go.Cl
open Go.Pv Go.Av
open Go.Dg (cfl ctr gr jh fo nfl ntr)
theorem low_32 (c : UInt8) : c + 97 - 65 = c + 32 := by
  have : ∀ k : Fin 256, UInt8.ofNat k.val + 97 - 65 = UInt8.ofNat k.val + 32 := by decide +kernel
  have h1 := this ⟨c.toNat, c.toNat_lt⟩
  simpa using h1
theorem low_sp (c : UInt8) : ff c = 32 ↔ c = 32 := by
  have : ∀ k : Fin 256, ff (UInt8.ofNat k.val) = 32 ↔ UInt8.ofNat k.val = 32 := by decide +kernel
  have h1 := this ⟨c.toNat, c.toNat_lt⟩
  simpa using h1
theorem low_t {c : UInt8} (h : 65 ≤ c.toNat ∧ c.toNat ≤ 90) : ff c = c + 97 - 65 := by unfold ff; rw [if_pos h]
theorem low_f {c : UInt8} (h : ¬ (65 ≤ c.toNat ∧ c.toNat ≤ 90)) : ff c = c := by unfold ff; rw [if_neg h]
theorem low_c (c : UInt8) : ((decide (65 ≤ (c.toNat : Int))) && (decide ((c.toNat : Int) ≤ 90))) = decide (65 ≤ c.toNat ∧ c.toNat ≤ 90) := by
  by_cases h : 65 ≤ c.toNat
  · by_cases g : c.toNat ≤ 90
    · rw [decide_eq_true (by omega), decide_eq_true (by omega), decide_eq_true ⟨h, g⟩]; rfl
    · rw [decide_eq_true (by omega), decide_eq_false (by omega), decide_eq_false (by omega)]; rfl
  · rw [decide_eq_false (p := 65 ≤ (c.toNat : Int)) (by omega), decide_eq_false (p := 65 ≤ c.toNat ∧ c.toNat ≤ 90) (by omega)]; rfl
theorem mK (w : Bs) : ∀ (r p : Bs) (n : Nat), r.length < n → (p ++ r).length ≤ 1000000 →
    dY (p ++ r) w n ((p.length : Int), p.map ff ++ r) = some (decide ((p ++ r).map ff = w))
  | r, p, 0, hn, _ => by omega
  | [], p, n + 1, hn, hl => by
    rw [List.append_nil, List.append_nil] at *
    show eQ p w (dY p w n) (p.length : Int) (p.map ff) = _
    unfold eQ gA
    rw [bF (by omega), nh (by rw [List.length_map])]
  | c :: r, p, n + 1, hn, hl => by
    show eQ (p ++ c :: r) w (dY (p ++ c :: r) w n) (p.length : Int) (p.map ff ++ c :: r) = _
    have h1 : p.length < (p ++ c :: r).length := by simp
    have h2 : p.length < (p.map ff ++ c :: r).length := by simp
    have ea : (p.map ff ++ c :: r)[p.length] = c := by
      rw [List.getElem_append_right (by simp)]; simp
    have ih := mK w r (p ++ [c]) n (by simp at hn; omega) (by simpa using hl)
    have e1 : p ++ [c] ++ r = p ++ c :: r := by simp
    have e2 : (p ++ [c]).map ff ++ r = p.map ff ++ ff c :: r := by simp
    have e3 : ((p ++ [c]).length : Int) = (p.length : Int) + 1 := by simp
    rw [e1, e2, e3] at ih
    unfold eQ fC
    rw [bT (by omega), du (by omega), du (by omega), bN, fe h2, ea, low_c]
    by_cases h : 65 ≤ c.toNat ∧ c.toNat ≤ 90
    · have es : (p.map ff ++ c :: r).set p.length (c + 97 - 65) = p.map ff ++ (c + 97 - 65) :: r := by
        rw [List.set_append_right _ _ (by simp)]; simp
      rw [bT h, du (by omega), du (by omega), bN, Int.toNat_natCast, es, dW (by omega), ← low_t h]
      exact ih
    · rw [bF h, dW (by omega)]
      rw [low_f h] at ih
      exact ih
theorem small_eq (F : Nat) (s w : Bs) (hs : s.length ≤ 1000000) (hF : s.length < F) : jv F s w = some (decide (s.map ff = w)) := by
  unfold jv
  rw [cn (by omega)]
  exact mK w s [] F hF hs
theorem lU : ∀ (r p : Bs) (n : Nat), r.length < n → (p ++ r).length ≤ 1000000 →
    cX (p ++ r) n (p.map ff, (p.length : Int)) = some ((p ++ r).map ff)
  | r, p, 0, hn, _ => by omega
  | [], p, n + 1, hn, hl => by
    rw [List.append_nil] at *
    show dt p (cX p n) (p.map ff) (p.length : Int) = _
    unfold dt eM
    rw [bF (by omega)]
  | c :: r, p, n + 1, hn, hl => by
    show dt (p ++ c :: r) (cX (p ++ c :: r) n) (p.map ff) (p.length : Int) = _
    have h1 : p.length < (p ++ c :: r).length := by simp
    have ea : (p ++ c :: r)[p.length] = c := by
      rw [List.getElem_append_right (by simp)]; simp
    have ih := lU r (p ++ [c]) n (by simp at hn; omega) (by simpa using hl)
    have e1 : p ++ [c] ++ r = p ++ c :: r := by simp
    have e2 : (p ++ [c]).map ff = p.map ff ++ [ff c] := by simp
    have e3 : ((p ++ [c]).length : Int) = (p.length : Int) + 1 := by simp
    have el : (p.map ff).length = p.length := List.length_map _
    have e4 : ∀ x : UInt8, ([x] : Bs).length = 1 := fun _ => rfl
    rw [e1, e2, e3] at ih
    unfold dt dN
    rw [bT (by omega), du (by omega), bN, fe h1, ea, low_c]
    by_cases h : 65 ≤ c.toNat ∧ c.toNat ≤ 90
    · rw [bT h, e4, el, cn (by omega), bN, dW (by omega), ← low_32, ← low_t h]
      exact ih
    · rw [bF h, e4, el, cn (by omega), bN, dW (by omega)]
      rw [low_f h] at ih
      exact ih
theorem rC (F : Nat) (s : Bs) (hs : s.length ≤ 1000000) (hF : s.length < F) : gw F s = some (s.map ff) := by
  unfold gw
  exact lU s [] F hF hs
theorem qH {c : UInt8} (h : ii c = true) : Go.Dg.Dig c := by
  unfold ii at h
  simp only [Bool.and_eq_true, decide_eq_true_eq] at h
  exact h
theorem Atoi_dig (F : Nat) (s : Bs) (h1 : 1 ≤ s.length) (h9 : s.length ≤ 9) (hd : ∀ c ∈ s, Go.Dg.Dig c) (hF : 100 < F) : cS F s = some (((Go.Dg.val 0 s : Nat) : Int), 0) := by
  have h0 : at_ s 0 = s[0] := oU (by omega)
  have hd0 := hd _ (List.getElem_mem (show 0 < s.length by omega))
  have n45 : s[0] ≠ 45 := fun e => by rw [e] at hd0; exact absurd hd0.1 (by decide)
  have n43 : s[0] ≠ 43 := fun e => by rw [e] at hd0; exact absurd hd0.1 (by decide)
  have hc : ((decide (0 < (s.length : Int))) && (decide ((s.length : Int) < 19))) = true := by
    rw [decide_eq_true (by omega), decide_eq_true (by omega)]; rfl
  have hg : ∀ (c : Bool) (x : Option (Int × Int)), dP c (cI 0 s.length) x = x := fun c x => gE fun _ => by omega
  have e : gQ F s = some (((Go.Dg.val 0 s : Nat) : Int), 0) := by
    unfold gQ eR
    rw [hc, ctr, du (by omega), bN, hg, bN, h0, decide_eq_false n45, decide_eq_false n43, fo, cfl, cn (by omega)]
    have := Go.Dg.atoi_loop s s (by omega) hd F 0 0 (by omega) (by omega) (by omega)
    refine Eq.trans this ?_
    rw [List.drop_zero]
    unfold eS eT
    rw [du (by omega), bN, h0, decide_eq_false n45, cfl]
  unfold cS
  rw [e, cu, decide_eq_true rfl, ntr, cfl]
abbrev digs : Bs := [48, 49, 50, 51, 52, 53, 54, 55, 56, 57]
theorem digs_c (c : UInt8) : digs.contains c = ii c := by
  have : ∀ k : Fin 256, digs.contains (UInt8.ofNat k.val) = ii (UInt8.ofNat k.val) := by decide +kernel
  have h1 := this ⟨c.toNat, c.toNat_lt⟩
  simpa using h1
theorem pd (f : UInt8 → Bool) : ∀ l : Bs, l.dropWhile f = [] ↔ ∀ x ∈ l, f x = true
  | [] => by simp
  | c :: l => by
    have ih := pd f l
    cases h : f c with
    | true => simp [List.dropWhile_cons, h, ih]
    | false => simp [List.dropWhile_cons, h]
theorem ru (t : Bs) : decide (Go.Lib.trimS t digs = []) = t.all ii := by
  unfold Go.Lib.trimS Go.Lib.trimLeftS Go.Lib.trimRightS
  have e : (fun x => digs.contains x) = ii := funext digs_c
  rw [e]
  cases h : t.all ii with
  | true =>
    rw [List.all_eq_true] at h
    refine decide_eq_true ?_
    have : t.reverse.dropWhile ii = [] := by
      rw [pd]; intro x hx; exact h x (List.mem_reverse.1 hx)
    rw [this]; rfl
  | false =>
    rw [List.all_eq_false] at h
    obtain ⟨x, hx, hn⟩ := h
    refine decide_eq_false fun q => ?_
    rw [pd] at q
    have hne : t.reverse.dropWhile ii ≠ [] := by
      intro e
      rw [pd] at e
      exact hn (e x (List.mem_reverse.2 hx))
    have := List.head_dropWhile_not ii (l := t.reverse) hne
    have hm := q _ (List.mem_reverse.2 (List.head_mem hne))
    rw [hm] at this
    simp at this
theorem qX (b c : UInt8) (l : Bs) : Go.Lib.index (b :: l) [c] = if b = c then 0 else if Go.Lib.index l [c] = -1 then -1 else Go.Lib.index l [c] + 1 := by
  by_cases h : b = c
  · subst h; simp [Go.Lib.index]
  · simp [Go.Lib.index, h, Ne.symm h]
theorem cut_hit (c : UInt8) (l : Bs) : Go.Lib.cut (c :: l) [c] = ([], l, true) := by
  unfold Go.Lib.cut
  rw [qX, if_pos rfl]; rfl
theorem pW {b c : UInt8} (h : ¬ b = c) (l : Bs) : Go.Lib.cut (b :: l) [c] = (b :: (Go.Lib.cut l [c]).1, (Go.Lib.cut l [c]).2) := by
  have hge := Go.Lib.index_ge l [c]
  unfold Go.Lib.cut
  rw [qX, if_neg h]
  by_cases hm : Go.Lib.index l [c] = -1
  · rw [if_pos hm, hm]; rfl
  · rw [if_neg hm, if_pos (by omega), if_pos (by omega)]
    have h3 : (Go.Lib.index l [c] + 1).toNat = (Go.Lib.index l [c]).toNat + 1 := by omega
    rw [h3]
    simp only [List.take_succ_cons, List.length_singleton, List.drop_succ_cons]
theorem qK (c : UInt8) (r : Bs) : ∀ d : Bs, (∀ x ∈ d, x ≠ c) → Go.Lib.cut (d ++ c :: r) [c] = (d, r, true)
  | [], _ => cut_hit c r
  | b :: d, h => by
    rw [List.cons_append, pW (h b (List.mem_cons_self ..)), qK c r d fun x hx => h x (List.mem_cons_of_mem _ hx)]
theorem qJ (c : UInt8) : ∀ d : Bs, (∀ x ∈ d, x ≠ c) → Go.Lib.cut d [c] = (d, [], false)
  | [], _ => by simp [Go.Lib.cut, Go.Lib.index]
  | b :: d, h => by rw [pW (h b (by simp)), qJ c d fun x hx => h x (by simp [hx])]
theorem mW (c : UInt8) : ∀ s : Bs, (∀ x ∈ s, x ≠ c) ∨ ∃ p q, s = p ++ c :: q ∧ ∀ x ∈ p, x ≠ c
  | [] => .inl fun x hx => by cases hx
  | b :: s => by
    by_cases h : b = c
    · subst h; exact .inr ⟨[], s, rfl, fun x hx => by cases hx⟩
    · rcases mW c s with g | ⟨p, q, rfl, g⟩
      · left; intro x hx
        rcases List.mem_cons.1 hx with rfl | hx
        · exact h
        · exact g x hx
      · right; refine ⟨b :: p, q, rfl, fun x hx => ?_⟩
        rcases List.mem_cons.1 hx with rfl | hx
        · exact h
        · exact g x hx
def sizeC (w t : Bs) (is : Bool) : Option Nat := if (((is = true ∧ w.map ff = [115, 105, 122, 101]) ∧ t ≠ []) ∧ t.length ≤ 9) ∧ t.all ii = true then some (Go.Dg.val 0 t) else none
theorem pP {s : Bs} (h6 : 6 ≤ s.length) (h : (s.take 5).map ff = [115, 105, 122, 101, 32]) : ∃ p q, s = p ++ 32 :: q ∧ (∀ x ∈ p, x ≠ 32) ∧ p.map ff = [115, 105, 122, 101] ∧ p.length = 4 := by
  match s, h6, h with
  | a :: b :: c :: d :: e :: q, _, h =>
    simp only [List.take_succ_cons, List.take_zero, List.map_cons, List.map_nil, List.cons.injEq, and_true] at h
    obtain ⟨ha, hb, hc, hd, he⟩ := h
    have he := (low_sp e).1 he
    have hn : ∀ {x y : UInt8}, ff x = y → y ≠ 32 → x ≠ 32 := fun {x y} h1 h2 h3 => h2 (by rw [← h1]; exact (low_sp x).2 h3)
    subst he;refine ⟨[a, b, c, d], q, rfl, ?_, by simp [ha, hb, hc, hd], rfl⟩;intro x hx
    simp only [List.mem_cons, List.not_mem_nil, or_false] at hx
    rcases hx with rfl | rfl | rfl | rfl
    · exact hn ha (by decide)
    · exact hn hb (by decide)
    · exact hn hc (by decide)
    · exact hn hd (by decide)
theorem re {c : UInt8} : ∀ {p p' q q' : Bs}, (∀ x ∈ p, x ≠ c) → (∀ x ∈ p', x ≠ c) → p ++ c :: q = p' ++ c :: q' → p = p' ∧ q = q'
  | [], [], q, q', _, _, h => ⟨rfl, by simpa using h⟩
  | [], b :: p', q, q', _, h2, h => by
    simp at h; exact absurd h.1.symm (h2 b (by simp))
  | a :: p, [], q, q', h1, _, h => by
    simp at h; exact absurd h.1 (h1 a (by simp))
  | a :: p, b :: p', q, q', h1, h2, h => by
    simp only [List.cons_append, List.cons.injEq] at h
    obtain ⟨e1, e2⟩ := re (fun x hx => h1 x (by simp [hx])) (fun x hx => h2 x (by simp [hx])) h.2;exact ⟨by rw [h.1, e1], e2⟩
theorem sizeW_eq (s : Bs) : kv s = sizeC (Go.Lib.cut s [32]).1 (Go.Lib.cut s [32]).2.1 (Go.Lib.cut s [32]).2.2 := by
  rcases mW 32 s with h | ⟨p, q, rfl, h⟩
  · rw [qJ 32 s h]
    unfold sizeC kv
    have : ¬ ((6 ≤ s.length ∧ s.length ≤ 14) ∧ (s.take 5).map ff = [115, 105, 122, 101, 32] ∧ (s.drop 5).all ii = true) := fun g => by
      obtain ⟨p, q, rfl, _⟩ := pP g.1.1 g.2.1;exact h 32 (by simp) rfl
    rw [if_neg this, if_neg (by rintro ⟨⟨⟨⟨q, _⟩, _⟩, _⟩, _⟩; cases q)]
  · rw [qK 32 q p h]
    unfold sizeC kv
    by_cases g : p.map ff = [115, 105, 122, 101]
    · have hl : p.length = 4 := by have := congrArg List.length g; simpa using this
      have e1 : (p ++ 32 :: q).take 5 = p ++ [32] := by rw [show p ++ 32 :: q = (p ++ [32]) ++ q by simp, List.take_left' (by simp [hl])]
      have e2 : (p ++ 32 :: q).drop 5 = q := by rw [show p ++ 32 :: q = (p ++ [32]) ++ q by simp, List.drop_left' (by simp [hl])]
      have e3 : (p ++ [32]).map ff = [115, 105, 122, 101, 32] := by rw [List.map_append, g]; rfl
      have e4 : (p ++ 32 :: q).length = 5 + q.length := by simp [hl]; omega
      rw [e1, e2, e3, e4]
      by_cases k : ((1 ≤ q.length) ∧ q.length ≤ 9) ∧ q.all ii = true
      · rw [if_pos ⟨by omega, rfl, k.2⟩, if_pos ⟨⟨⟨⟨rfl, g⟩, fun e => by have e : q = [] := e; rw [e] at k; simp at k⟩, k.1.2⟩, k.2⟩]
      · rw [if_neg (fun z => k ⟨by omega, z.2.2⟩), if_neg (fun z => k ⟨⟨List.length_pos_iff.2 z.1.1.2, z.1.2⟩, z.2⟩)]
    · rw [if_neg (fun z => by
        obtain ⟨p', q', e, h', g', _⟩ := pP z.1.1 z.2.1;obtain ⟨rfl, _⟩ := re h h' e
        exact g g'), if_neg (fun z => g z.1.1.1.2)]
theorem cut_len (s : Bs) : (Go.Lib.cut s [32]).1.length ≤ s.length ∧ (Go.Lib.cut s [32]).2.1.length ≤ s.length := by
  rcases mW 32 s with h | ⟨p, q, rfl, h⟩
  · rw [qJ 32 s h]; simp
  · rw [qK 32 q p h]; simp; omega
theorem mL (s : Bs) (r : List Bs) : oJ (s :: r) = match kv s with | some n => n | none => oJ r := rfl
theorem nK (F : Nat) (hF : 2000 < F) (ls : List Bs) (rec : Int → Option Int) (i : Nat) (hi : i < ls.length) (hl : (ls[i]).length ≤ 1000) (hn : ls.length ≤ 1000000) :
    ef F ls rec (i : Int) = match (if i = 0 then none else kv ls[i]) with | some n => some ((n : Nat) : Int) | none => rec ((i + 1 : Nat) : Int) := by
  unfold ef
  obtain ⟨s, hs⟩ : ∃ s, s = ls[i] := ⟨_, rfl⟩
  rw [← hs] at hl ⊢
  obtain ⟨l1, l2⟩ := cut_len s
  rw [bT (by omega), du (by omega), bN, fe hi, ← hs, jT (by omega), bN, small_eq F _ _ (by omega) (by omega), iE]
  rw [gcS (by omega), gcS (by decide)]
  have ga : ∀ (c : Bool) (x : Option Int), dP c (pg ([48, 49, 50, 51, 52, 53, 54, 55, 56, 57] : List UInt8)) x = x := fun c x => by
    cases c
    · exact pa
    · rw [oZ]; rfl
  rw [ga, bN]
  unfold gj
  rw [dW (by omega), eD]
  by_cases h0 : i = 0
  · subst h0
    rw [if_pos rfl, show decide (((0 : Nat) : Int) = 0) = true from rfl, Bool.true_or, Bool.true_or, Bool.true_or, Bool.true_or, Bool.true_or, ctr]
  · rw [if_neg h0, sizeW_eq s, decide_eq_false (p := (i : Int) = 0) (by omega), fo]
    generalize (Go.Lib.cut s [32]).1 = w at *
    generalize (Go.Lib.cut s [32]).2.1 = t at *
    generalize (Go.Lib.cut s [32]).2.2 = is at *
    unfold sizeC
    cases is with
    | false =>
      rw [nfl, Bool.true_or, Bool.true_or, Bool.true_or, Bool.true_or, ctr, if_neg (fun z => by cases z.1.1.1.1)]
    | true =>
      rw [ntr, nfl, ctr, fo]
      by_cases g : w.map ff = [115, 105, 122, 101]
      · rw [decide_eq_true g, ntr, fo]
        by_cases g0 : t = []
        · rw [decide_eq_true g0, Bool.true_or, Bool.true_or, ctr, if_neg (fun z => z.1.1.2 g0)]
        · rw [decide_eq_false g0, fo]
          by_cases g9 : t.length ≤ 9
          · rw [decide_eq_false (p := (9 : Int) < (t.length : Int)) (by omega), fo, show decide (Go.Lib.trimS t ([48, 49, 50, 51, 52, 53, 54, 55, 56, 57] : List UInt8) = []) = t.all ii from ru t]
            cases gd : t.all ii with
            | false =>
              rw [nfl, ctr, if_neg (fun z => by cases z.2)]
            | true =>
              have hp := List.length_pos_iff.2 g0
              rw [ntr, cfl, if_pos ⟨⟨⟨⟨rfl, g⟩, g0⟩, g9⟩, rfl⟩, Atoi_dig F t hp g9 (fun c hc => qH (List.all_eq_true.1 gd c hc)) (by omega), cu, bT rfl]
          · rw [decide_eq_true (p := (9 : Int) < (t.length : Int)) (by omega), Bool.true_or, ctr, if_neg (fun z => g9 z.1.2)]
      · rw [decide_eq_false g, nfl, Bool.true_or, Bool.true_or, Bool.true_or, ctr, if_neg (fun z => g z.1.1.1.2)]
theorem rz (F : Nat) (hF : 2000 < F) (ls : List Bs) (hl : ∀ s ∈ ls, s.length ≤ 1000) (hn : ls.length ≤ 1000000) : ∀ (n i : Nat), ls.length - i < n → i ≤ ls.length → 0 < i →
    eV F ls n (i : Int) = some ((oJ (ls.drop i) : Nat) : Int) := by
  intro n
  induction n with
  | zero => intro i h; omega
  | succ n ih =>
    intro i hn' hi hp;show ef F ls (eV F ls n) (i : Int) = _
    by_cases h : i < ls.length
    · rw [nK F hF ls _ i h (hl _ (List.getElem_mem h)) hn, if_neg (by omega), bj h, mL]
      cases kv ls[i] with
      | some k => rfl
      | none => exact ih (i + 1) (by omega) (by omega) (by omega)
    · unfold ef
      rw [bF (by omega), aX (by omega)]; rfl
theorem qQ (F : Nat) (hF : 2000 < F) (c : Int) (ls : List Bs) (x y z : Int) (hl : ∀ s ∈ ls, s.length ≤ 1000) (hn : ls.length ≤ 1000000) (hlF : ls.length < F) : jR F c ls x y z = some ((dx ls : Nat) : Int) := by
  unfold jR dx
  obtain ⟨m, rfl⟩ : ∃ m, F = m + 1 := ⟨F - 1, by omega⟩;show ef (m + 1) ls (eV (m + 1) ls m) ((0 : Nat) : Int) = _
  by_cases h : 0 < ls.length
  · rw [nK (m + 1) hF ls _ 0 h (hl _ (List.getElem_mem h)) hn, if_pos rfl]
    exact rz (m + 1) hF ls hl hn m 1 (by omega) (by omega) (by omega)
  · unfold ef
    rw [bF (by omega), aX (by omega)]; rfl
theorem rsize_in (i : Int) (s : Bs) (hs : s.length ≤ 14) (rec : Int → Option Int) (X : Option Int) (hX : dh i rec = X) : ∀ (n k : Nat) (y : Int) (f : Bool), s.length - k < n → k ≤ s.length → 5 ≤ k → (-(10 ^ k : Nat) + 100 ≤ y ∧ y ≤ (10 ^ k : Nat) - 100) → (f = true → 0 ≤ y) →
    fh i s rec n (y, f, (k : Int)) = if f = true ∧ (s.drop k).all ii = true then some ((Go.Dg.val y.toNat (s.drop k) : Nat) : Int) else X := by
  intro n
  induction n with
  | zero => intro k y f h; omega
  | succ n ih =>
    intro k y f hn hk h5 hy hf;show fi i s rec (fh i s rec n) y f (k : Int) = _
    unfold fi
    by_cases h : k < s.length
    · have h14 : 10 ^ k ≤ 10 ^ 14 := Nat.pow_le_pow_right (by omega) (by omega)
      have h5' : 10 ^ 5 ≤ 10 ^ k := Nat.pow_le_pow_right (by omega) h5
      have hs1 : 10 ^ (k + 1) = 10 * 10 ^ k := by rw [Nat.pow_succ]; omega
      have hc := (s[k]).toNat_lt
      rw [bT (by omega), gE (fun _ => by omega), bN, gE (fun _ => by omega), bN, fe h, dW (by omega), du (by omega), bN, dW (by omega), dW (by omega), dW (by omega), eD]
      have ed : ((f && (decide (48 ≤ ((s[k]).toNat : Int)))) && (decide (((s[k]).toNat : Int) ≤ 57))) = (f && ii s[k]) := by
        unfold ii
        cases f with
        | false => rfl
        | true =>
          rw [gr, gr]
          by_cases a : 48 ≤ (s[k]).toNat
          · by_cases b : (s[k]).toNat ≤ 57
            · rw [decide_eq_true (by omega), decide_eq_true (by omega), decide_eq_true a, decide_eq_true b]
            · rw [decide_eq_false (p := ((s[k]).toNat : Int) ≤ 57) (by omega), decide_eq_false b, Bool.and_false, Bool.and_false]
          · rw [decide_eq_false (p := (48 : Int) ≤ ((s[k]).toNat : Int)) (by omega), decide_eq_false a]; rfl
      rw [ed, ih (k + 1) _ _ (by omega) (by omega) (by omega) (by omega) (fun q => by
        simp only [Bool.and_eq_true] at q
        have := qH q.2
        have := hf q.1
        unfold Go.Dg.Dig at *
        omega), bj h]
      by_cases q : f = true ∧ ii s[k] = true
      · have hd := qH q.2
        have h0 := hf q.1
        unfold Go.Dg.Dig at hd
        have ev : ((10 * y) + ((s[k]).toNat : Int) - 48).toNat = 10 * y.toNat + ((s[k]).toNat - 48) := by omega
        have evv : Go.Dg.val y.toNat (s[k] :: s.drop (k + 1)) = Go.Dg.val (10 * y.toNat + ((s[k]).toNat - 48)) (s.drop (k + 1)) := rfl
        rw [q.1, q.2, gr, ev, evv, List.all_cons, q.2, gr]
      · have : ¬ ((f && ii s[k]) = true ∧ (s.drop (k + 1)).all ii = true) := fun z => by
          have := z.1
          simp only [Bool.and_eq_true] at this
          exact q this
        have g : ¬ (f = true ∧ (s[k] :: s.drop (k + 1)).all ii = true) := fun z => by
          have := z.2
          rw [List.all_cons, Bool.and_eq_true] at this
          exact q ⟨z.1, this.1⟩
        rw [if_neg this, if_neg g]
    · rw [bF (by omega), aX (by omega)]
      unfold fg
      cases f with
      | false => rw [cfl, hX]; rfl
      | true =>
        have h0 := hf rfl
        rw [ctr, if_pos ⟨rfl, rfl⟩]
        show some y = some ((y.toNat : Nat) : Int)
        rw [Int.toNat_of_nonneg h0]
theorem qi (F : Nat) (hF : 2000 < F) (ls : List Bs) (rec : Int → Option Int) (i : Nat) (hi : i < ls.length) (hl : (ls[i]).length ≤ 1000) (hn : ls.length ≤ 1000000) :
    dH F ls rec (i : Int) = match kv ls[i] with | some n => some ((n : Nat) : Int) | none => rec ((i + 1 : Nat) : Int) := by
  unfold dH
  obtain ⟨s, hs⟩ : ∃ s, s = ls[i] := ⟨_, rfl⟩
  rw [← hs] at hl ⊢
  have hj : dh (i : Int) rec = rec ((i + 1 : Nat) : Int) := by
    unfold dh
    rw [dW (by omega), eD]
  have ht : (to_ s 5).length ≤ 5 := by show (s.take 5).length ≤ 5; rw [List.length_take]; omega
  have g1 : ∀ (x : Option Int), dP (!((decide ((s.length : Int) < 6)) || (decide (14 < (s.length : Int))))) (iv 5 s.length) x = x := fun x => by
    by_cases q : 6 ≤ s.length ∧ s.length ≤ 14
    · rw [decide_eq_false (by omega), decide_eq_false (by omega)]
      show dP true (iv 5 s.length) x = x
      rw [oZ, ky (by omega)]
    · have : ((decide ((s.length : Int) < 6)) || (decide (14 < (s.length : Int)))) = true := by
        by_cases a : s.length < 6
        · rw [decide_eq_true (by omega)]; rfl
        · rw [decide_eq_true (p := (14 : Int) < (s.length : Int)) (by omega), Bool.or_true]
      rw [this, ntr, pa]
  rw [bT (by omega), du (by omega), bN, fe hi, ← hs, g1, bN, rC F _ (by omega) (by omega), iE, hj]
  unfold kv
  by_cases q : 6 ≤ s.length ∧ s.length ≤ 14
  · rw [decide_eq_false (p := (s.length : Int) < 6) (by omega), decide_eq_false (p := (14 : Int) < (s.length : Int)) (by omega), fo, nfl, ctr, fo, show to_ s 5 = s.take 5 from rfl]
    by_cases g : (s.take 5).map ff = [115, 105, 122, 101, 32]
    · rw [decide_eq_true g, ntr, cfl]
      refine Eq.trans (rsize_in (i : Int) s q.2 rec _ hj F 5 0 true (by omega) (by omega) (by omega) (by omega) (fun _ => by omega)) ?_
      by_cases d : (s.drop 5).all ii = true
      · rw [if_pos ⟨rfl, d⟩, if_pos ⟨q, g, d⟩]; rfl
      · rw [if_neg (fun z => d z.2), if_neg (fun z => d z.2.2)]
    · rw [decide_eq_false g, nfl, ctr, if_neg (fun z => g z.2.1)]
  · have : ((decide ((s.length : Int) < 6)) || (decide (14 < (s.length : Int)))) = true := by
      by_cases a : s.length < 6
      · rw [decide_eq_true (by omega)]; rfl
      · rw [decide_eq_true (p := (14 : Int) < (s.length : Int)) (by omega), Bool.or_true]
    rw [this, Bool.true_or, ctr, if_neg (fun z => q z.1)]
theorem qj (F : Nat) (hF : 2000 < F) (ls : List Bs) (hl : ∀ s ∈ ls, s.length ≤ 1000) (hn : ls.length ≤ 1000000) : ∀ (n i : Nat), ls.length - i < n →
    cr F ls n (i : Int) = some ((oJ (ls.drop i) : Nat) : Int) := by
  intro n
  induction n with
  | zero => intro i h; omega
  | succ n ih =>
    intro i hn';show dH F ls (cr F ls n) (i : Int) = _
    by_cases h : i < ls.length
    · rw [qi F hF ls _ i h (hl _ (List.getElem_mem h)) hn, bj h, mL]
      cases kv ls[i] with
      | some k => rfl
      | none => exact ih (i + 1) (by omega)
    · unfold dH
      rw [bF (by omega), aX (by omega)]; rfl
theorem pK (F : Nat) (hF : 2000 < F) (c : Int) (ls : List Bs) (x y z : Int) (hl : ∀ s ∈ ls, s.length ≤ 1000) (hn : ls.length ≤ 1000000) (hlF : ls.length < F) : gc F c ls x y z = some ((dx ls : Nat) : Int) := by
  unfold gc dx
  exact qj F hF ls hl hn F 1 (by omega)
end Go.Cl
namespace Go.Cl
open Go.Pv Go.Av
open Go.Dg (cfl ctr gr jh fo nfl ntr)
theorem hund (c : Int) (h0 : -9223372036854775808 ≤ c) (h1 : c ≤ 9223372036854775807) : decide (IntKind.i64.wrap (Int.tdiv c 100) = 2) = (decide (200 ≤ c) && decide (c ≤ 299)) := by
  rw [wrap_i64_tdiv c 100 h0 h1 (by omega)]
  by_cases hn : 0 ≤ c
  · rw [Int.tdiv_eq_ediv_of_nonneg hn]
    by_cases a : 200 ≤ c
    · by_cases b : c ≤ 299
      · rw [decide_eq_true (by omega), decide_eq_true a, decide_eq_true b]; rfl
      · rw [decide_eq_false (by omega), decide_eq_true a, decide_eq_false b]; rfl
    · rw [decide_eq_false (by omega), decide_eq_false a]; rfl
  · have hk : c.tdiv 100 ≤ 0 := by
      have e := Int.neg_tdiv (a := -c) (b := 100)
      rw [Int.neg_neg] at e
      have := Int.tdiv_nonneg (a := -c) (b := 100) (by omega) (by omega)
      omega
    rw [decide_eq_false (by omega), decide_eq_false (by omega)]; rfl
theorem lh (F : Nat) (a2 a3 : Int) (a4 a5 a6 a7 a8 : Bs) (ph : Int) (l : List Bs) (x : Bs) (hj : Str.join [] l = x) (hl : Str.total l ≤ 1000000) (hn : l.length ≤ 10) (hx : x.length ≤ 1000000) (ha : a8.length ≤ 100000000) :
    gS F a2 a3 a4 a5 a6 a7 a8 ph l = some (ph, a8 ++ (x ++ [13, 10])) := by
  unfold gS
  have e0 : ([] : Bs).length = 0 := Eq.symm (Eq.symm rfl)
  have e2 : ([13, 10] : Bs).length = 2 := Eq.symm (Eq.symm rfl)
  rw [grd_Join (by rw [e0]; omega), bN, hj, e2, cn (by omega), bN, cn (by rw [List.length_append, e2]; omega), bN]
theorem mr (F : Nat) (a2 a3 : Int) (a4 a5 a6 a7 a8 : Bs) (o : Int) (ha : a8.length ≤ 100000000) : ip F a2 a3 a4 a5 a6 a7 a8 o = some (6, o, a8 ++ kw) := by
  unfold ip
  rw [lh F a2 o a4 a5 a6 a7 a8 6 _ [81, 85, 73, 84] rfl (by decide) (by decide) (by decide) ha, cu]
  rfl
section
variable (F : Nat) (fr rc nm ml : Bs) (c : Int) (ls : List Bs) (m0 m1 m2 : Int)
theorem step_j (ph out : Int) (acc : Bs) (ha : acc.length ≤ 100000000) (b : Bool) : cK F fr rc nm ml c b ph out acc = some (if b = true then (ph, out, acc) else (6, (if 500 ≤ c ∧ c ≤ 599 then 3 else 2), acc ++ kw)) := by
  unfold cK
  cases b with
  | true => rfl
  | false =>
    rw [cfl, if_neg (by decide)]
    by_cases h : 500 ≤ c ∧ c ≤ 599
    · rw [if_pos h, decide_eq_true h.1, decide_eq_true h.2, gr, ctr, mr F _ _ _ _ _ _ _ _ ha, dq]
    · have : ((decide (500 ≤ c)) && (decide (c ≤ 599))) = false := by
        by_cases q : 500 ≤ c
        · rw [decide_eq_false (p := c ≤ 599) (fun z => h ⟨q, z⟩), Bool.and_false]
        · rw [decide_eq_false q]; rfl
      rw [if_neg h, this, cfl, mr F _ _ _ _ _ _ _ _ ha, dq]
theorem greet_eq (hnm : nm.length ≤ 1000) (ph out : Int) (acc : Bs) (ha : acc.length ≤ 100000000) : jx F ph out fr rc nm ml acc c ls m0 m1 m2 = some (if eH 0 c = true then (true, 1, acc ++ ehloD nm) else (false, ph, acc)) := by
  have eg : eH 0 c = decide (c = 220) := by simp [eH]
  unfold jx
  rw [eg]
  by_cases h : c = 220
  · rw [decide_eq_true h, ntr, cfl, if_pos rfl, lh F ph out fr rc nm ml acc 1 _ ([69, 72, 76, 79, 32] ++ nm) (by simp [Str.join, Str.rest]) (by simp [Str.total]; omega) (by simp) (by simp; omega) ha, cu]
    rfl
  · rw [decide_eq_false h, nfl, ctr, if_neg (by decide)]
theorem data_eq (hF : 2000 < F) (hml : ml.length ≤ 1000) (ph out : Int) (acc : Bs) (ha : acc.length ≤ 100000000) : ll F ph out fr rc nm ml acc c ls m0 m1 m2 = some (if eH 4 c = true then (true, 5, acc ++ iI ml) else (false, ph, acc)) := by
  have eg : eH 4 c = decide (c = 354) := by simp [eH]
  unfold ll
  rw [eg]
  by_cases h : c = 354
  · have := pJ ml
    rw [decide_eq_true h, ntr, cfl, if_pos rfl, nI F ml (by omega) (by omega), cu, cn (by omega), bN]
  · rw [decide_eq_false h, nfl, ctr, if_neg (by decide)]
theorem lc (h0 : -9223372036854775808 ≤ c) (h1 : c ≤ 9223372036854775807) {ph : Int} (hp : ph = 1 ∨ ph = 2 ∨ ph = 3 ∨ ph = 5) : eH ph c = decide (IntKind.i64.wrap (Int.tdiv c 100) = 2) := by
  rw [hund c h0 h1]
  unfold eH
  rw [if_neg (by omega), if_neg (by omega)]
theorem hello_eq (hF : 2000 < F) (hfr : fr.length ≤ 1000) (hml : ml.length ≤ 1000) (h0 : -9223372036854775808 ≤ c) (h1 : c ≤ 9223372036854775807) (hls : ∀ s ∈ ls, s.length ≤ 1000) (hln : ls.length ≤ 1000) (ph out : Int) (acc : Bs) (ha : acc.length ≤ 100000000) : jw F ph out fr rc nm ml acc c ls m0 m1 m2 = some (if eH 1 c = true then (if 0 < dx ls ∧ dx ls < (iI ml).length then (true, 6, 3, acc ++ kw) else (true, 2, out, acc ++ qb fr)) else (false, ph, out, acc)) := by
  unfold jw
  rw [lc c h0 h1 (.inl rfl)]
  cases h : decide (IntKind.i64.wrap (Int.tdiv c 100) = 2) with
  | false => rw [nfl, ctr, if_neg (by decide)]
  | true =>
    rw [ntr, cfl, if_pos rfl, nI F ml (by omega) (by omega), cu, qQ F hF c ls m0 m1 m2 hls (by omega) (by omega), bS]
    by_cases q : 0 < dx ls ∧ dx ls < (iI ml).length
    · rw [if_pos q, decide_eq_true (p := (0 : Int) < ((dx ls : Nat) : Int)) (by omega), decide_eq_true (p := ((dx ls : Nat) : Int) < ((iI ml).length : Int)) (by omega), gr, ctr, mr F _ _ _ _ _ _ _ _ ha, dq]
    · have : ((decide ((0 : Int) < ((dx ls : Nat) : Int))) && (decide (((dx ls : Nat) : Int) < ((iI ml).length : Int)))) = false := by
        by_cases g : 0 < dx ls
        · rw [decide_eq_false (p := ((dx ls : Nat) : Int) < ((iI ml).length : Int)) (fun z => q ⟨g, by omega⟩), Bool.and_false]
        · rw [decide_eq_false (p := (0 : Int) < ((dx ls : Nat) : Int)) (by omega)]; rfl
      rw [if_neg q, this, cfl, lh F ph out fr rc nm ml acc 2 _ ([77, 65, 73, 76, 32, 70, 82, 79, 77, 58, 60] ++ fr ++ [62]) (by simp [Str.join, Str.rest]) (by simp [Str.total]; omega) (by simp) (by simp; omega) ha, cu]
      simp [qb]
theorem from_eq (hrc : rc.length ≤ 1000) (h0 : -9223372036854775808 ≤ c) (h1 : c ≤ 9223372036854775807) (ph out : Int) (acc : Bs) (ha : acc.length ≤ 100000000) : lk F ph out fr rc nm ml acc c ls m0 m1 m2 = some (if eH 2 c = true then (true, 3, acc ++ rcptD rc) else (false, ph, acc)) := by
  unfold lk
  rw [lc c h0 h1 (.inr (.inl rfl))]
  cases h : decide (IntKind.i64.wrap (Int.tdiv c 100) = 2) with
  | false => rw [nfl, ctr, if_neg (by decide)]
  | true =>
    rw [ntr, cfl, if_pos rfl, lh F ph out fr rc nm ml acc 3 _ ([82, 67, 80, 84, 32, 84, 79, 58, 60] ++ rc ++ [62]) (by simp [Str.join, Str.rest]) (by simp [Str.total]; omega) (by simp) (by simp; omega) ha, cu]
    simp [rcptD]
theorem rcpt_eq (h0 : -9223372036854775808 ≤ c) (h1 : c ≤ 9223372036854775807) (ph out : Int) (acc : Bs) (ha : acc.length ≤ 100000000) : li F ph out fr rc nm ml acc c ls m0 m1 m2 = some (if eH 3 c = true then (true, 4, acc ++ dataD) else (false, ph, acc)) := by
  unfold li
  rw [lc c h0 h1 (.inr (.inr (.inl rfl)))]
  cases h : decide (IntKind.i64.wrap (Int.tdiv c 100) = 2) with
  | false => rw [nfl, ctr, if_neg (by decide)]
  | true =>
    rw [ntr, cfl, if_pos rfl, lh F ph out fr rc nm ml acc 4 _ [68, 65, 84, 65] rfl (by decide) (by decide) (by decide) ha, cu]
    rfl
theorem body_eq (h0 : -9223372036854775808 ≤ c) (h1 : c ≤ 9223372036854775807) (ph out : Int) (acc : Bs) (ha : acc.length ≤ 100000000) : lm F ph out fr rc nm ml acc c ls m0 m1 m2 = some (if eH 5 c = true then (true, 6, 1, acc ++ kw) else (false, ph, out, acc)) := by
  unfold lm
  rw [lc c h0 h1 (.inr (.inr (.inr rfl)))]
  cases h : decide (IntKind.i64.wrap (Int.tdiv c 100) = 2) with
  | false => rw [nfl, ctr, if_neg (by decide)]
  | true => rw [ntr, cfl, if_pos rfl, mr F _ _ _ _ _ _ _ _ ha, dq]
theorem step_eq (hF : 2000 < F) (hfr : fr.length ≤ 1000) (hrc : rc.length ≤ 1000) (hnm : nm.length ≤ 1000) (hml : ml.length ≤ 1000) (h0 : -9223372036854775808 ≤ c) (h1 : c ≤ 9223372036854775807) (hls : ∀ s ∈ ls, s.length ≤ 1000) (hln : ls.length ≤ 1000) (ph out : Int) (acc : Bs) (ha : acc.length ≤ 100000000) : jQ F ph out fr rc nm ml acc c ls m0 m1 m2 = some ((fF fr rc nm ml ph out c ls).1, (fF fr rc nm ml ph out c ls).2.1, acc ++ (fF fr rc nm ml ph out c ls).2.2) := by
  unfold jQ fF
  by_cases h : ph < 0 ∨ 7 ≤ ph
  · have : ((decide (ph < 0)) || (decide (7 ≤ ph))) = true := by
      rcases h with h | h
      · rw [decide_eq_true h]; rfl
      · rw [decide_eq_true h, Bool.or_true]
    rw [if_pos h, this, ctr, List.append_nil]
  · rw [if_neg h, decide_eq_false (fun z => h (.inl z)), decide_eq_false (fun z => h (.inr z)), fo, cfl]
    by_cases h2 : c = 421
    · rw [if_pos h2, bT h2]
      unfold jf
      by_cases g : out = 0
      · rw [bT g, cu, if_pos g, List.append_nil]
      · rw [bF g, cu, if_neg g, List.append_nil]
    · rw [if_neg h2, bF h2, du (by omega)]
      unfold eC
      have hj := fun (ph out : Int) (acc : Bs) (ha : acc.length ≤ 100000000) (b : Bool) => step_j F fr rc nm ml c ph out acc ha b
      have hq : ph = 0 ∨ ph = 1 ∨ ph = 2 ∨ ph = 3 ∨ ph = 4 ∨ ph = 5 ∨ ph = 6 := by omega
      have hsl := pJ ml
      rcases hq with rfl | rfl | rfl | rfl | rfl | rfl | rfl
      · rw [bT rfl, bS, greet_eq F fr rc nm ml c ls m0 m1 m2 hnm 0 out acc ha, if_neg (show ¬ ((0 : Int) = 6) by decide)]
        by_cases q : eH 0 c = true
        · rw [if_pos q, if_pos q, dq]; rfl
        · rw [if_neg q, if_neg q, dq, hj _ _ _ ha]; rfl
      · rw [bF (by decide), bT rfl, bS, hello_eq F fr rc nm ml c ls m0 m1 m2 hF hfr hml h0 h1 hls hln 1 out acc ha, if_neg (show ¬ ((1 : Int) = 6) by decide)]
        by_cases q : eH 1 c = true
        · rw [if_pos q, if_pos q]
          have eg : goP fr rc nm ml 1 out ls = if 0 < dx ls ∧ dx ls < (iI ml).length then (6, 3, kw) else (2, out, qb fr) := by simp [goP]
          rw [eg]
          by_cases g : 0 < dx ls ∧ dx ls < (iI ml).length
          · rw [if_pos g, if_pos g]; rfl
          · rw [if_neg g, if_neg g]; rfl
        · rw [if_neg q, if_neg q]
          show cK F fr rc nm ml c false 1 out acc = _
          rw [hj _ _ _ ha]; rfl
      · rw [bF (by decide), bF (by decide), bT rfl, bS, from_eq F fr rc nm ml c ls m0 m1 m2 hrc h0 h1 2 out acc ha, if_neg (show ¬ ((2 : Int) = 6) by decide)]
        by_cases q : eH 2 c = true
        · rw [if_pos q, if_pos q, dq]; rfl
        · rw [if_neg q, if_neg q, dq, hj _ _ _ ha]; rfl
      · rw [bF (by decide), bF (by decide), bF (by decide), bT rfl, bS, rcpt_eq F fr rc nm ml c ls m0 m1 m2 h0 h1 3 out acc ha, if_neg (show ¬ ((3 : Int) = 6) by decide)]
        by_cases q : eH 3 c = true
        · rw [if_pos q, if_pos q, dq]; rfl
        · rw [if_neg q, if_neg q, dq, hj _ _ _ ha]; rfl
      · rw [bF (by decide), bF (by decide), bF (by decide), bF (by decide), bT rfl, bS, data_eq F fr rc nm ml c ls m0 m1 m2 hF hml 4 out acc ha, if_neg (show ¬ ((4 : Int) = 6) by decide)]
        by_cases q : eH 4 c = true
        · rw [if_pos q, if_pos q, dq]; rfl
        · rw [if_neg q, if_neg q, dq, hj _ _ _ ha]; rfl
      · rw [bF (by decide), bF (by decide), bF (by decide), bF (by decide), bF (by decide), bT rfl, bS, body_eq F fr rc nm ml c ls m0 m1 m2 h0 h1 5 out acc ha, if_neg (show ¬ ((5 : Int) = 6) by decide)]
        by_cases q : eH 5 c = true
        · rw [if_pos q, if_pos q]; rfl
        · rw [if_neg q, if_neg q]
          show cK F fr rc nm ml c false 5 out acc = _
          rw [hj _ _ _ ha]; rfl
      · rw [bF (by decide), bF (by decide), bF (by decide), bF (by decide), bF (by decide), bF (by decide), bS, if_pos rfl]
        unfold my
        rw [cu, hj _ _ _ ha, if_pos rfl, List.append_nil]
theorem Step_eq (hF : 2000 < F) (hfr : fr.length ≤ 1000) (hrc : rc.length ≤ 1000) (hnm : nm.length ≤ 1000) (hml : ml.length ≤ 1000) (h0 : -9223372036854775808 ≤ c) (h1 : c ≤ 9223372036854775807) (hls : ∀ s ∈ ls, s.length ≤ 1000) (hln : ls.length ≤ 1000) (ph out : Int) : ln F ph out fr rc nm ml c ls m0 m1 m2 = some ((fF fr rc nm ml ph out c ls).1, (fF fr rc nm ml ph out c ls).2.1, fr, rc, nm, ml, (fF fr rc nm ml ph out c ls).2.2) := by
  unfold ln hH
  rw [jT (by omega), bS, step_eq F fr rc nm ml c ls m0 m1 m2 hF hfr hrc hnm hml h0 h1 hls hln ph out [] (by simp), dq]
  rfl
end
theorem Drop_eq (F : Nat) (ph out : Int) (fr rc nm ml : Bs) (hml : ml.length ≤ 1000000) : lq F ph out fr rc nm ml = some (7, (if out = 0 then 2 else out), fr, rc, nm, ml) := by
  unfold lq hH jf
  rw [jT (by omega), bS]
  by_cases h : out = 0
  · rw [bT h, if_pos h]; rfl
  · rw [bF h, if_neg h]; rfl
end Go.Cl
namespace Go.Rp
open Go.Pv Go.Av
abbrev Bs := List UInt8
theorem getD_at (s : Bs) (k : Nat) (h : k < s.length) : (⟨s.toArray⟩ : ByteArray).get! k = s[k] := by
  show (s.toArray)[k]! = _
  simp [h]
def crlf (b : UInt8) : Bool := decide (b = 13) || decide (b = 10)
end Go.Rp
namespace Go.Rp
open Go.Pv Go.Av
open Go.Lib (decDigits)
open Go.Dg (val ft jg oT qI pe qN Dig qY iA lb Atoi_tot Atoi_dd cfl ctr gr jh fo nfl ntr)
def dgB (c : UInt8) : Bool := decide (48 ≤ c.toNat) && decide (c.toNat ≤ 57)
theorem oK {c : UInt8} (h : dgB c = true) : Dig c := by
  unfold dgB at h
  show 48 ≤ c.toNat ∧ c.toNat ≤ 57
  simpa using h
def okN (s : Bs) : Bool := ((decide (1 ≤ s.length) && decide (s.length ≤ 3)) && s.all dgB) && !(decide (s.head? = some 48) && decide (1 < s.length))
def numB (s : Bs) : Option Nat := if okN s = true then some (val 0 s) else none
theorem iH (c : UInt8) (h : Dig c) (n : Nat) (hn : n = c.toNat - 48) : UInt8.ofNat (48 + n) = c := by
  obtain ⟨h1, h2⟩ := h;subst hn
  rw [show 48 + (c.toNat - 48) = c.toNat by omega, UInt8.ofNat_toNat]
theorem dd2 {n : Nat} (h : 10 ≤ n) (h2 : n < 100) : decDigits n = [UInt8.ofNat (48 + n / 10), UInt8.ofNat (48 + n % 10)] := by
  rw [jg (by omega), ft (by omega)]; rfl
theorem dd3 {n : Nat} (h : 100 ≤ n) (h2 : n < 1000) : decDigits n = [UInt8.ofNat (48 + n / 10 / 10), UInt8.ofNat (48 + n / 10 % 10), UInt8.ofNat (48 + n % 10)] := by
  rw [jg (by omega), dd2 (by omega) (by omega)]; rfl
theorem num_dd {s : Bs} {n : Nat} (h : numB s = some n) : s = decDigits n ∧ n < 1000 := by
  unfold numB at h
  by_cases hk : okN s = true
  · rw [if_pos hk] at h
    have hn : val 0 s = n := aC h
    unfold okN at hk
    simp only [Bool.and_eq_true, decide_eq_true_eq, Bool.not_eq_true', Bool.and_eq_false_iff, decide_eq_false_iff_not] at hk
    obtain ⟨⟨⟨h1, h2⟩, h3⟩, h4⟩ := hk
    match s, h1, h2, h3, h4, hn with
    | [a], _, _, h3, h4, hn =>
      have ha := oK (List.all_eq_true.1 h3 a (by simp))
      have hv : val 0 [a] = a.toNat - 48 := by show 10 * 0 + (a.toNat - 48) = _; omega
      have ha' := ha; obtain ⟨ha1, ha2⟩ := ha'
      refine ⟨?_, by omega⟩
      rw [← hn, hv, ft (by omega), iH a ha _ rfl]
    | [a, b], _, _, h3, h4, hn =>
      have ha := oK (List.all_eq_true.1 h3 a (by simp))
      have hb := oK (List.all_eq_true.1 h3 b (by simp))
      have hv : val 0 [a, b] = 10 * (a.toNat - 48) + (b.toNat - 48) := by show 10 * (10 * 0 + (a.toNat - 48)) + (b.toNat - 48) = _; omega
      have ha' := ha; obtain ⟨ha1, ha2⟩ := ha'
      have hb' := hb; obtain ⟨hb1, hb2⟩ := hb'
      have hne : a.toNat ≠ 48 := by
        intro e
        have : a = 48 := UInt8.toNat.inj e
        rcases h4 with h4 | h4
        · exact h4 (by rw [this]; rfl)
        · exact h4 (by simp)
      refine ⟨?_, by omega⟩
      rw [← hn, hv, dd2 (by omega) (by omega), iH a ha _ (by omega), iH b hb _ (by omega)]
    | [a, b, c], _, _, h3, h4, hn =>
      have ha := oK (List.all_eq_true.1 h3 a (by simp))
      have hb := oK (List.all_eq_true.1 h3 b (by simp))
      have hc := oK (List.all_eq_true.1 h3 c (by simp))
      have hv : val 0 [a, b, c] = 100 * (a.toNat - 48) + 10 * (b.toNat - 48) + (c.toNat - 48) := by show 10 * (10 * (10 * 0 + (a.toNat - 48)) + (b.toNat - 48)) + (c.toNat - 48) = _; omega
      have ha' := ha; obtain ⟨ha1, ha2⟩ := ha'
      have hb' := hb; obtain ⟨hb1, hb2⟩ := hb'
      have hc' := hc; obtain ⟨hc1, hc2⟩ := hc'
      have hne : a.toNat ≠ 48 := by
        intro e
        have : a = 48 := UInt8.toNat.inj e
        rcases h4 with h4 | h4
        · exact h4 (by rw [this]; rfl)
        · exact h4 (by simp)
      refine ⟨?_, by omega⟩
      rw [← hn, hv, dd3 (by omega) (by omega), iH a ha _ (by omega), iH b hb _ (by omega), iH c hc _ (by omega)]
    | [], h1, _, _, _, _ => simp at h1
    | a :: b :: c :: d :: r, _, h2, _, _, _ => simp at h2
  · rw [if_neg hk] at h; cases h
end Go.Rp
namespace Go.Rp
open Go.Pv Go.Av
def sp (c : UInt8) : Bs → List Bs
  | [] => [[]]
  | b :: r => if b = c then [] :: sp c r else match sp c r with
    | [] => [[b]]
    | p :: ps => (b :: p) :: ps
end Go.Rp
namespace Go.Rp
open Go.Pv Go.Av
open Go.Lib (decDigits)
open Go.Dg (lb cfl ctr gr jh fo nfl ntr)
abbrev M3 := Int × Int × Int
def more3 (c : Int) : List Bs → M3
  | [a, b, d] => if c / 100 = 3 then (0, 0, 0) else match numB a, numB b, numB d with
    | some x, some y, some z => if (x : Int) = c / 100 then ((x : Int), (y : Int), (z : Int)) else (0, 0, 0)
    | _, _, _ => (0, 0, 0)
  | _ => (0, 0, 0)
def moreB (c : Int) (s : Bs) : M3 := more3 c (sp 46 ((sp 32 s).headD []))
end Go.Rp
namespace Go.Rp
open Go.Pv Go.Av
open Go.Lib (decDigits)
open Go.Dg (lb cfl ctr gr jh fo nfl ntr ft jg pe)
def fitB (s : Bs) : Bool := !(s.any crlf) && decide (s.length ≤ 506)
def lst (ls : List Bs) : Bs := at_ ls ((ls.length : Int) - 1)
def lnW (d : Bs) (g : UInt8) (s : Bs) : Bs := d ++ g :: (s ++ [13, 10])
def wrL (d : Bs) : List Bs → Bs
  | [] => []
  | s :: r => lnW d (if r = [] then 32 else 45) s ++ wrL d r
end Go.Rp
namespace Go.Rp
open Go.Pv Go.Av
open Go.Lib (decDigits indexByte)
open Go.Dg (val Dig lb cfl ctr gr jh fo nfl ntr ft jg pe oT qI)
theorem ib_ge (b : Bs) (c : UInt8) : -1 ≤ indexByte b c := Go.Lib.indexByte_ge b c
theorem pR {b : Bs} {c : UInt8} {i : Nat} (h : indexByte b c = (i : Int)) : ∃ p q, b = p ++ c :: q ∧ p.length = i ∧ ∀ x ∈ p, x ≠ c := by
  induction b generalizing i with
  | nil => have : (-1 : Int) = (i : Int) := h; omega
  | cons a b ih =>
    unfold Go.Lib.indexByte at h
    by_cases e : (a == c) = true
    · rw [if_pos e] at h
      refine ⟨[], b, ?_, by simp only [List.length_nil]; omega, by simp⟩
      rw [show a = c by simpa using e]; rfl
    · rw [if_neg e] at h
      by_cases e2 : indexByte b c = -1
      · rw [e2] at h
        have : (-1 : Int) = (i : Int) := h
        omega
      · have e3 : (indexByte b c == -1) = false := by simpa using e2
        rw [e3] at h
        simp only [Bool.false_eq_true, if_false] at h
        have hg := ib_ge b c
        obtain ⟨p, q, h1, h2, h3⟩ := ih (i := i - 1) (by omega);refine ⟨a :: p, q, by rw [h1]; rfl, by simp; omega, fun x hx => ?_⟩
        rcases List.mem_cons.1 hx with rfl | hx
        · intro e4; exact e (by simp [e4])
        · exact h3 x hx
inductive Ln | wait | bad | ok (s : Bs)
def lnOf (b : Bs) : Ln :=
  if indexByte b 10 < 0 then (if b.length < 512 then .wait else .bad)
  else if indexByte b 10 < 512 ∧ 0 < indexByte b 10 ∧ indexByte b 13 = indexByte b 10 - 1 then .ok (b.take (indexByte b 10 - 1).toNat) else .bad
theorem ln_ok {b s : Bs} (h : lnOf b = .ok s) : ∃ t, b = s ++ 13 :: 10 :: t ∧ (∀ x ∈ s, crlf x = false) ∧ s.length ≤ 510 := by
  unfold lnOf at h
  by_cases h0 : indexByte b 10 < 0
  · rw [if_pos h0] at h
    split at h <;> cases h
  · rw [if_neg h0] at h
    split at h
    · rename_i hc
      obtain ⟨h1, h2, h3⟩ := hc
      have hs : b.take (indexByte b 10 - 1).toNat = s := by injection h
      obtain ⟨p, q, e1, e2, e3⟩ := pR (b := b) (c := 10) (i := (indexByte b 10).toNat) (by omega);obtain ⟨p', q', g1, g2, g3⟩ := pR (b := b) (c := 13) (i := (indexByte b 10 - 1).toNat) (by omega)
      have hp' : p' = s := by rw [← hs, ← g2, g1, List.take_left' rfl]
      have hp : p = p' ++ [13] := by
        have a1 : b.take (indexByte b 10).toNat = p := by rw [← e2, e1, List.take_left' rfl]
        have a2 : b.take (indexByte b 10).toNat = p' ++ [13] := by
          have l : (indexByte b 10).toNat = (p' ++ [13]).length := by simp; omega
          rw [l, g1, show p' ++ 13 :: q' = (p' ++ [13]) ++ q' by simp, List.take_left' rfl]
        rw [← a1, a2]
      refine ⟨q, by rw [← hp', e1, hp]; simp, fun x hx => ?_, by rw [← hp']; omega⟩
      unfold crlf
      rw [← hp'] at hx
      rw [decide_eq_false (g3 x hx), decide_eq_false (e3 x (by rw [hp]; simp [hx]))]; rfl
    · cases h
theorem ln_len {b s : Bs} (h : lnOf b = .ok s) : s.length + 2 ≤ b.length := by
  obtain ⟨t, rfl, _, _⟩ := ln_ok h
  simp
def codeB (s : Bs) : Option Nat :=
  if 4 ≤ s.length ∧ (at_ s 3 = 45 ∨ at_ s 3 = 32) then
    match numB (s.take 3) with
    | some n => if 200 ≤ n ∧ n ≤ 599 then some n else none
    | none => none
  else none
theorem code_s {s : Bs} {n : Nat} (h : codeB s = some n) : 4 ≤ s.length ∧ (at_ s 3 = 45 ∨ at_ s 3 = 32) ∧ (200 ≤ n ∧ n ≤ 599) ∧ numB (s.take 3) = some n := by
  unfold codeB at h
  split at h
  · rename_i hc
    cases hn : numB (s.take 3) with
    | none => rw [hn] at h; cases h
    | some k =>
      rw [hn] at h
      simp only at h
      split at h
      · cases h; rename_i hk; exact ⟨hc.1, hc.2, hk, rfl⟩
      · cases h
  · cases h
abbrev Rp := Int × List Bs × M3
inductive One | wait | bad | ok (x : Rp) (n : Nat)
def oneA : Nat → Int → List Bs → Nat → Bs → One
  | 0, _, _, _, b => match lnOf b with
    | .wait => .wait
    | _ => .bad
  | k + 1, c, ls, at', b => match lnOf b with
    | .wait => .wait
    | .bad => .bad
    | .ok s => match codeB s with
      | none => .bad
      | some n => if ls ≠ [] ∧ (n : Int) ≠ c then .bad else
        if at_ s 3 = 32 then .ok ((n : Int), ls ++ [s.drop 4], moreB (n : Int) (s.drop 4)) (at' + (s.length + 2))
        else oneA k (n : Int) (ls ++ [s.drop 4]) (at' + (s.length + 2)) (b.drop (s.length + 2))
def one (b : Bs) : One := oneA 100 0 [] 0 b
theorem qW : ∀ (k : Nat) (c : Int) (ls : List Bs) (a : Nat) (b : Bs) (x : Rp) (n : Nat), oneA k c ls a b = .ok x n →
    ∃ (d : Nat) (l2 : List Bs), x = ((d : Int), ls ++ l2, moreB (d : Int) (lst l2)) ∧ l2 ≠ [] ∧ l2.length ≤ k ∧ (∀ s ∈ l2, fitB s = true) ∧ (200 ≤ d ∧ d ≤ 599) ∧ (ls ≠ [] → (d : Int) = c) ∧ a < n ∧ n ≤ a + b.length ∧ b.take (n - a) = wrL (decDigits d) l2
  | 0, c, ls, a, b, x, n, h => by
    unfold oneA at h
    split at h <;> cases h
  | k + 1, c, ls, a, b, x, n, h => by
    unfold oneA at h
    cases hb : lnOf b with
    | wait => rw [hb] at h; cases h
    | bad => rw [hb] at h; cases h
    | ok s =>
      rw [hb] at h
      simp only at h
      cases hc : codeB s with
      | none => rw [hc] at h; cases h
      | some m =>
        rw [hc] at h
        simp only at h
        by_cases h1 : ls ≠ [] ∧ (m : Int) ≠ c
        · rw [if_pos h1] at h; cases h
        rw [if_neg h1] at h
        have hcode : ls ≠ [] → (m : Int) = c := fun g => by
          by_cases e : (m : Int) = c
          · exact e
          · exact absurd ⟨g, e⟩ h1
        obtain ⟨t, ht, hs, hl⟩ := ln_ok hb;obtain ⟨c1, c2, c3, c4⟩ := code_s hc;obtain ⟨d1, d2⟩ := num_dd c4
        have hlen := ln_len hb
        have hfit : fitB (s.drop 4) = true := by
          unfold fitB
          rw [decide_eq_true (p := (s.drop 4).length ≤ 506) (by simp; omega), Bool.and_true]
          have : (s.drop 4).any crlf = false := by
            rw [List.any_eq_false]
            intro y hy
            rw [hs y (List.mem_of_mem_drop hy)]; simp
          rw [this]; rfl
        have hsplit : s = decDigits m ++ at_ s 3 :: s.drop 4 := by
          have e3 : at_ s 3 = s[3] := fe (i := 3) (by omega)
          rw [← d1, e3]
          have := bj (l := s) (i := 3) (by omega)
          conv => lhs; rw [← List.take_append_drop 3 s, this]
        have hln : b.take (s.length + 2) = lnW (decDigits m) (at_ s 3) (s.drop 4) := by
          conv => lhs; rw [ht]
          rw [show s ++ 13 :: 10 :: t = (s ++ [13, 10]) ++ t by simp, show s.length + 2 = (s ++ [13, 10]).length by simp, List.take_left' rfl]
          unfold lnW
          conv => lhs; rw [hsplit]
          simp
        by_cases h2 : at_ s 3 = 32
        · rw [if_pos h2] at h
          injection h with hx hn
          subst hx; subst hn
          refine ⟨m, [s.drop 4], rfl, by simp, by simp, fun y hy => ?_, c3, hcode, by omega, by omega, ?_⟩
          · rw [List.mem_singleton.1 hy]; exact hfit
          · rw [show a + (s.length + 2) - a = s.length + 2 by omega, hln, h2]
            unfold wrL
            rw [if_pos rfl]; unfold wrL; simp
        · rw [if_neg h2] at h
          obtain ⟨d, l2, e1, e2, e3, e4, e5, e6, e7, e8, e9⟩ := qW k _ _ _ _ x n h
          have hd : (d : Int) = (m : Int) := e6 (by simp)
          have hdm : d = m := by omega
          subst hdm;refine ⟨d, s.drop 4 :: l2, ?_, by simp, by simp; omega, fun y hy => ?_, e5, hcode, by omega, by simp at e8; omega, ?_⟩
          · rw [e1]
            have : lst (s.drop 4 :: l2) = lst l2 := by
              have hp : 0 < l2.length := List.length_pos_iff.2 e2
              unfold lst
              rw [show (((s.drop 4 :: l2).length : Int) - 1) = ((l2.length - 1 + 1 : Nat) : Int) by simp; omega, show ((l2.length : Int) - 1) = ((l2.length - 1 : Nat) : Int) by omega, fe (by simp only [List.length_cons]; omega), fe (by omega)]
              rfl
            rw [this, List.append_assoc]; rfl
          · rcases List.mem_cons.1 hy with rfl | hy
            · exact hfit
            · exact e4 y hy
          · have g3 : at_ s 3 = 45 := by
              rcases c2 with g | g
              · exact g
              · exact absurd g h2
            have hle : s.length + 2 ≤ n - a := by omega
            have : b.take (n - a) = b.take (s.length + 2) ++ (b.drop (s.length + 2)).take (n - (a + (s.length + 2))) := by
              rw [show n - a = (s.length + 2) + (n - (a + (s.length + 2))) by omega, List.take_add]
            rw [this, e9, hln, g3]
            show _ = lnW (decDigits d) (if l2 = [] then 32 else 45) (s.drop 4) ++ wrL (decDigits d) l2
            rw [if_neg e2]
inductive All : Bs → List Rp → Nat → Bool → Prop
  | wait {b : Bs} : one b = .wait → All b [] 0 false
  | bad {b : Bs} : one b = .bad → All b [] 0 true
  | ok {b : Bs} {x : Rp} {n : Nat} {l : List Rp} {u : Nat} {bd : Bool} : one b = .ok x n → All (b.drop n) l u bd → All b (x :: l) (n + u) bd
theorem one_pos {b : Bs} {x : Rp} {n : Nat} (h : one b = .ok x n) : 0 < n ∧ n ≤ b.length := by
  obtain ⟨d, l2, _, _, _, _, _, _, h7, h8, _⟩ := qW 100 0 [] 0 b x n h
  omega
theorem All.le {b : Bs} {l : List Rp} {u : Nat} {bd : Bool} (h : All b l u bd) : u ≤ b.length ∧ l.length ≤ u := by
  induction h with
  | wait e => simp
  | bad e => simp
  | ok e _ ih =>
    have := one_pos e
    simp at ih ⊢
    omega
end Go.Rp
namespace Go.Rp
open Go.Pv Go.Av
open Go.Lib (decDigits indexByte)
open Go.Dg (cfl ctr gr jh fo nfl ntr)
section
variable {σ : Type}
end
abbrev S5 := Int × Int × List Bs × List Rp × Int
def kk (F : Nat) (s : S5) (x : Bs) : Option (S5 × Option Bool) := gZ F s.1 s.2.1 s.2.2.1 s.2.2.2.1 s.2.2.2.2 x
end Go.Rp
namespace Go.Cl
open Go.Pv Go.Av
open Go.Rp (All Rp)
open Go.Dg (cfl ctr gr jh fo nfl ntr)
theorem pL (F : Nat) (fr rc nm ml : Bs) (ph out : Int) : gg F ph out fr rc nm ml = some (7, (if out = 0 then 2 else out), fr, rc, nm, ml) := by
  unfold gg eu
  by_cases h : out = 0
  · rw [bT h, if_pos h]
  · rw [bF h, if_neg h]
theorem rgood_eq (F : Nat) (c : Int) (ph : Int) : hB F ph c = some (eH ph c) := by
  unfold hB eH
  by_cases h : ph = 0
  · rw [bT h, if_pos h]
  · rw [bF h, if_neg h]
    by_cases g : ph = 4
    · rw [bT g, if_pos g]
    · rw [bF g, if_neg g]
theorem rStep_eq (F : Nat) (hF : 20000 < F) (fr rc nm ml : Bs) (hfr : fr.length ≤ 1000) (hrc : rc.length ≤ 1000) (hnm : nm.length ≤ 1000) (hml : ml.length ≤ 1000) (c : Int) (ls : List Bs) (hls : ∀ s ∈ ls, s.length ≤ 1000) (hln : ls.length ≤ 1000) (m0 m1 m2 : Int) (ph out : Int) : hC F ph out fr rc nm ml c ls m0 m1 m2 = some ((fF fr rc nm ml ph out c ls).1, (fF fr rc nm ml ph out c ls).2.1, fr, rc, nm, ml, (fF fr rc nm ml ph out c ls).2.2) := by
  unfold hC fF
  by_cases h : ph < 0 ∨ 7 ≤ ph
  · have : ((decide (ph < 0)) || (decide (7 ≤ ph))) = true := by
      rcases h with h | h
      · rw [decide_eq_true h]; rfl
      · rw [decide_eq_true h, Bool.or_true]
    rw [if_pos h, this, ctr]
  · rw [if_neg h, decide_eq_false (fun z => h (.inl z)), decide_eq_false (fun z => h (.inr z)), fo, cfl]
    by_cases h2 : c = 421
    · rw [if_pos h2, bT h2, pL F fr rc nm ml, bS]
    · rw [if_neg h2, bF h2]
      by_cases h6 : ph = 6
      · rw [if_pos h6, bT h6]
      · rw [if_neg h6, bF h6, rgood_eq F c, bS]
        by_cases hg : eH ph c = true
        · have e5 : ([69, 72, 76, 79, 32] : Bs).length = 5 := rfl
          have e2 : ([13, 10] : Bs).length = 2 := rfl
          have e11 : ([77, 65, 73, 76, 32, 70, 82, 79, 77, 58, 60] : Bs).length = 11 := rfl
          have e9 : ([82, 67, 80, 84, 32, 84, 79, 58, 60] : Bs).length = 9 := rfl
          have e3 : ([62, 13, 10] : Bs).length = 3 := rfl
          have e6 : ([68, 65, 84, 65, 13, 10] : Bs).length = 6 := rfl
          rw [if_pos hg, hg, ntr, cfl, rB F ml (by omega) (by omega), cu]
          unfold goP dg
          have hq : ph = 0 ∨ ph = 1 ∨ ph = 2 ∨ ph = 3 ∨ ph = 4 ∨ ph = 5 := by omega
          rcases hq with rfl | rfl | rfl | rfl | rfl | rfl
          · rw [bT rfl, if_pos rfl, e5, cn (by omega), bN, e2, List.length_append, e5, cn (by omega), bN, cn (by rw [List.length_append, List.length_append, e5, e2]; omega)]
            rfl
          · rw [bF (by decide), bT rfl, if_neg (by decide), if_pos rfl, pK F (by omega) c ls m0 m1 m2 hls (by omega) (by omega), bS]
            by_cases q : 0 < dx ls ∧ dx ls < (iI ml).length
            · rw [if_pos q, decide_eq_true (p := (0 : Int) < ((dx ls : Nat) : Int)) (by omega), decide_eq_true (p := ((dx ls : Nat) : Int) < ((iI ml).length : Int)) (by omega), gr, ctr]
              rfl
            · have : ((decide ((0 : Int) < ((dx ls : Nat) : Int))) && (decide (((dx ls : Nat) : Int) < ((iI ml).length : Int)))) = false := by
                by_cases g : 0 < dx ls
                · rw [decide_eq_false (p := ((dx ls : Nat) : Int) < ((iI ml).length : Int)) (fun z => q ⟨g, by omega⟩), Bool.and_false]
                · rw [decide_eq_false (p := (0 : Int) < ((dx ls : Nat) : Int)) (by omega)]; rfl
              rw [if_neg q, this, cfl, e11, cn (by omega), bN, e3, List.length_append, e11, cn (by omega), bN, cn (by rw [List.length_append, List.length_append, e11, e3]; omega)]
              rfl
          · rw [bF (by decide), bF (by decide), bT rfl, if_neg (by decide), if_neg (by decide), if_pos rfl, e9, cn (by omega), bN, e3, List.length_append, e9, cn (by omega), bN, cn (by rw [List.length_append, List.length_append, e9, e3]; omega)]
            rfl
          · rw [bF (by decide), bF (by decide), bF (by decide), bT rfl, if_neg (by decide), if_neg (by decide), if_neg (by decide), if_pos rfl, e6, cn (by omega)]
            rfl
          · rw [bF (by decide), bF (by decide), bF (by decide), bF (by decide), bT rfl, if_neg (by decide), if_neg (by decide), if_neg (by decide), if_neg (by decide), if_pos rfl]
          · rw [bF (by decide), bF (by decide), bF (by decide), bF (by decide), bF (by decide), if_neg (by decide), if_neg (by decide), if_neg (by decide), if_neg (by decide), if_neg (by decide)]
            rfl
        · have hg' : eH ph c = false := by
            cases z : eH ph c with
            | false => rfl
            | true => exact absurd z hg
          rw [if_neg hg, hg', nfl, ctr]
          unfold fx
          by_cases q : 500 ≤ c ∧ c ≤ 599
          · rw [if_pos q, decide_eq_true q.1, decide_eq_true q.2, gr, ctr]; rfl
          · have : ((decide (500 ≤ c)) && (decide (c ≤ 599))) = false := by
              by_cases a : 500 ≤ c
              · rw [decide_eq_false (p := c ≤ 599) (fun z => q ⟨a, z⟩), Bool.and_false]
              · rw [decide_eq_false a]; rfl
            rw [if_neg q, this, cfl]; rfl
end Go.Cl
namespace Go.Cl
open Go.Pv Go.Av
open Go.Dg (cfl ctr gr jh fo nfl ntr)
theorem bif_t {α : Type} {x : Bool} {a b : α} (h : x = true) : (bif x then a else b) = a := by rw [h]; rfl
theorem bif_f {α : Type} {x : Bool} {a b : α} (h : x = false) : (bif x then a else b) = b := by rw [h]; rfl
theorem few_eq (F : Nat) (ph out : Int) (fr rc nm ml : Bs) : iB F ph out fr rc nm ml = some (decide (((fr.length ≤ 100 ∧ rc.length ≤ 100) ∧ nm.length ≤ 100) ∧ ml.length ≤ 600)) := by
  unfold iB
  congr 1
  by_cases h : ((fr.length ≤ 100 ∧ rc.length ≤ 100) ∧ nm.length ≤ 100) ∧ ml.length ≤ 600
  · rw [decide_eq_true h]
    simp only [Bool.and_eq_true, decide_eq_true_eq]
    omega
  · rw [decide_eq_false h]
    simp only [Bool.and_eq_false_iff, decide_eq_false_iff_not]
    omega
theorem qR (F : Nat) (ph out : Int) (fr rc nm ml : Bs) : ge F ph out fr rc nm ml ph out fr rc nm ml = some true := by
  unfold ge
  rw [decide_eq_true rfl, decide_eq_true rfl, decide_eq_true rfl, decide_eq_true rfl, decide_eq_true rfl, decide_eq_true rfl]
  rfl
theorem awake_eq : gy 2000000 = some true := by decide +kernel
end Go.Cl
namespace Go.Cl
open Go.Pv Go.Av
open Go.Dg (cfl ctr gr jh fo nfl ntr)
theorem sn (F : Nat) (hF : 20000 < F) (ph out : Int) (fr rc nm ml : Bs) (c : Int) (h0 : -9223372036854775808 ≤ c) (h1 : c ≤ 9223372036854775807) (ls : List Bs) (m0 m1 m2 : Int)
    (hf : ((fr.length ≤ 100 ∧ rc.length ≤ 100) ∧ nm.length ≤ 100) ∧ ml.length ≤ 600) (hn : ls.length ≤ 20) (hl : ∀ s ∈ ls, s.length ≤ 600) :
    cC F ph out fr rc nm ml c ls m0 m1 m2 = some true := by
  unfold cC
  have hl' : ∀ s ∈ ls, s.length ≤ 1000 := fun s q => by have := hl s q; omega
  rw [Step_eq F fr rc nm ml c ls m0 m1 m2 (by omega) (by omega) (by omega) (by omega) (by omega) h0 h1 hl' (by omega) ph out, bS, rStep_eq F hF fr rc nm ml (by omega) (by omega) (by omega) (by omega) c ls hl' (by omega) m0 m1 m2 ph out, bS]
  simp only
  rw [qR, bS, Drop_eq F ph out fr rc nm ml (by omega), bS, pL F fr rc nm ml ph out, bS]
  simp only
  rw [qR, bS, qQ F (by omega) c ls m0 m1 m2 hl' (by omega) (by omega), pK F (by omega) c ls m0 m1 m2 hl' (by omega) (by omega), iE, iE]
  simp only [decide_true]
  rfl
theorem qC (F : Nat) (hF : 20000 < F) (ph out : Int) (fr rc nm ml : Bs) (c : Int) (h0 : -9223372036854775808 ≤ c) (h1 : c ≤ 9223372036854775807) (ls : List Bs) (m0 m1 m2 : Int)
    (hf : ((fr.length ≤ 100 ∧ rc.length ≤ 100) ∧ nm.length ≤ 100) ∧ ml.length ≤ 600) (hn : ls.length ≤ 20) : ∀ (n i : Nat), ls.length - i < n → i ≤ ls.length → (∀ s ∈ ls.take i, s.length ≤ 600) →
    cU F ph out fr rc nm ml c ls m0 m1 m2 n (i : Int) = some true := by
  intro n
  induction n with
  | zero => intro i h; omega
  | succ n ih =>
    intro i hn' hi hl;show cV F ph out fr rc nm ml c ls m0 m1 m2 (cU F ph out fr rc nm ml c ls m0 m1 m2 n) (i : Int) = _
    unfold cV
    by_cases h : i < ls.length
    · rw [bT (by omega), du (by omega), bN, fe h]
      by_cases g : (ls[i]).length ≤ 600
      · rw [bF (by omega), dW (by omega), eD]
        refine ih (i + 1) (by omega) (by omega) fun s hs => ?_
        rw [List.take_succ_eq_append_getElem h] at hs
        rcases List.mem_append.1 hs with hs | hs
        · exact hl s hs
        · rw [List.mem_singleton.1 hs]; exact g
      · rw [bT (by omega)]
    · rw [bF (by omega)]
      rw [show ls.take i = ls from List.take_of_length_le (by omega)] at hl
      exact sn F hF ph out fr rc nm ml c h0 h1 ls m0 m1 m2 hf hn hl
theorem nw (F : Nat) (hF : 20000 < F) (hw : gy F = some true) (ph out : Int) (fr rc nm ml : Bs) (c : Int) (h0 : -9223372036854775808 ≤ c) (h1 : c ≤ 9223372036854775807) (ls : List Bs) (m0 m1 m2 : Int) :
    dB F ph out fr rc nm ml c ls m0 m1 m2 = some true := by
  unfold dB
  rw [hw, bS, few_eq, bS]
  by_cases h : (((fr.length ≤ 100 ∧ rc.length ≤ 100) ∧ nm.length ≤ 100) ∧ ml.length ≤ 600) ∧ ls.length ≤ 20
  · rw [bif_f]
    · exact qC F hF ph out fr rc nm ml c h0 h1 ls m0 m1 m2 h.1 h.2 F 0 (by omega) (by omega) (by simp)
    · simp only [Bool.or_eq_false_iff, Bool.not_eq_false', decide_eq_true_eq, decide_eq_false_iff_not]
      exact ⟨⟨trivial, h.1⟩, by omega⟩
  · rw [bif_t]
    simp only [Bool.or_eq_true, Bool.not_eq_true', decide_eq_true_eq, decide_eq_false_iff_not]
    omega
theorem ClientSteps_t (ph out : Int) (fr rc nm ml : Bs) (c : Int) (ls : List Bs) (m0 m1 m2 : Int) (h : (Lit.int .i64 c).wf = true) : dB 2000000 ph out fr rc nm ml c ls m0 m1 m2 = some true := by
  have hb : -9223372036854775808 ≤ c ∧ c ≤ 9223372036854775807 := by
    unfold Lit.wf at h
    simp [IntKind.min, IntKind.max, IntKind.signed, IntKind.bits] at h
    omega
  exact nw 2000000 (by omega) awake_eq ph out fr rc nm ml c hb.1 hb.2 ls m0 m1 m2
end Go.Cl
namespace Go.Av
open Go.RowKit Go.ChangeShapes Go.WideShapes
section
variable {H : Type} {enc : TypeId × Value → H} {P : Program} {w : World}
def lA {H : Type} (enc : TypeId × Value → H) (P : Program) (w : World) (t : TypeId) {α : Type} (E : α → List AV) (p : α → Prop) : Prop :=
  ∀ fuel cs d, DataW.trod enc P w 0 (fun _ => true) true fuel t cs = some d → ∃ x, p x ∧ RelL (Info.start w) w (E x) cs
theorem opens_int {t : TypeId} {k : IntKind} (ht : P.underlying t = some (.int k)) : lA enc P w t (fun n : Int => [.v (.int k n)]) (fun n => (Lit.int k n).wf = true) := by
  intro fuel cs d h;obtain ⟨n, rfl, _, hw⟩ := DataW.trod_int ht h;exact ⟨n, hw, .cons (.v _) .nil⟩
theorem opens_str {t : TypeId} (ht : P.underlying t = some .string) : lA enc P w t (fun s : List UInt8 => [S s]) (fun s => s.length ≤ maxLen) := by
  intro fuel cs d h;obtain ⟨s, rfl, _, hw⟩ := DataW.trod_string ht h;refine ⟨s.data.toList, by simpa using hw, .cons (mN _ _ s) .nil⟩
theorem opens_bytes {t e : TypeId} (ht : P.underlying t = some (.slice e)) (he : P.underlying e = some (.int .u8)) (hc : P.cellsOf e = 1) :
    lA enc P w t (fun l : List UInt8 => [slE Enc.byte l none]) (fun l => l.length ≤ maxLen) := by
  intro fuel cs d h
  rcases open_ints ht he hc h with ⟨rfl, _⟩ | ⟨x, len, cap, zs, rfl, _, hl, hm, hz, _, hcell, hw⟩
  · exact ⟨[], by simp, .cons (.slz _ _ _) .nil⟩
  · simp only [if_true] at hz
    obtain ⟨l, hl', hm', r⟩ := rF (w := w) (a := some x) (len := len) (cap := cap) (zs := zs) (.inr ⟨x, rfl, hl, hm, hz, hcell, hw⟩);exact ⟨l, by omega, .cons r .nil⟩
theorem opens_strs {t e : TypeId} (ht : P.underlying t = some (.slice e)) (he : P.underlying e = some .string) (hc : P.cellsOf e = 1) :
    lA enc P w t (fun l : List (List UInt8) => [slE Enc.str l none]) (fun l => l.length ≤ maxLen ∧ ∀ s ∈ l, s.length ≤ maxLen) := by
  intro fuel cs d h
  rcases open_strings ht he hc h with ⟨rfl, _⟩ | ⟨x, len, cap, zs, rfl, _, hl, hm, hz, _, hcell, hw⟩
  · exact ⟨[], ⟨by simp, by simp⟩, .cons (.slz _ _ _) .nil⟩
  · simp only [if_true] at hz
    have hll : ((zs.take len).map fun s => s.data.toList).length = len := by simp; omega
    refine ⟨(zs.take len).map fun s => s.data.toList, ⟨by rw [hll]; omega, fun n hn => ?_⟩, .cons ?_ .nil⟩
    · obtain ⟨s, hs, rfl⟩ := List.mem_map.1 hn
      simpa using hw s (List.mem_of_mem_take hs)
    have := qS (w := w) Enc.str (fun s => .string ⟨s.toArray⟩) (fun _ => rfl) ((zs.take len).map fun s => s.data.toList) x cap (by omega) (fun i hi => by
      rw [hll] at hi
      rw [hcell i (by omega)]
      simp [List.getD, show i < zs.length by omega])
    rw [hll] at this
    exact this
def pi {H : Type} (enc : TypeId × Value → H) (P : Program) (w : World) (tot off : Nat) (fs : List Field) {α : Type} (E : α → List AV) (p : α → Prop) : Prop :=
  ∀ (n : Nat) (cs : List Value), cs.length = tot → (∀ f ∈ fs, ∃ d, DataW.trod enc P w 0 (fun _ => true) true n f.type ((cs.drop f.offset).take (P.cellsOf f.type)) = some d) → ∃ x, p x ∧ RelL (Info.start w) w (E x) (cs.drop off)
theorem opensF_nil {tot : Nat} : pi enc P w tot tot [] (fun _ : Unit => []) (fun _ => True) := fun n cs hl _ => ⟨(), trivial, by rw [aX (by omega)]; exact .nil⟩
theorem opensF_cons {tot off k : Nat} {f : Field} {fs : List Field} {α β : Type} {E : α → List AV} {p : α → Prop} {F : β → List AV} {q : β → Prop} (ho : f.offset = off) (hk : P.cellsOf f.type = k)
    (h : lA enc P w f.type E p) (g : pi enc P w tot (off + k) fs F q) : pi enc P w tot off (f :: fs) (fun x : α × β => E x.1 ++ F x.2) (fun x => p x.1 ∧ q x.2) := by
  intro n cs hl H;obtain ⟨d, hd⟩ := H f (by simp);obtain ⟨x, hx, rx⟩ := h _ _ _ hd
  obtain ⟨y, hy, ry⟩ := g n cs hl fun f' hf' => H f' (by simp [hf'])
  refine ⟨(x, y), ⟨hx, hy⟩, ?_⟩
  rw [ho, hk] at rx
  have := rx.append ry
  rwa [← List.drop_drop, List.take_append_drop] at this
theorem opens_struct {t : TypeId} {fs : Array Field} {tot : Nat} {α : Type} {E : α → List AV} {p : α → Prop} (ht : P.underlying t = some (.struct fs)) (hc : P.cellsOf t = tot) (h : pi enc P w tot 0 fs.toList E p) :
    lA enc P w t E p := by
  intro fuel cs d hd;obtain ⟨xs, n, _, _, hl, hlen, each⟩ := DataW.trod_struct ht hd
  obtain ⟨x, hx, rx⟩ := h n cs (by omega) fun f hf => by
    obtain ⟨i, hi, rfl⟩ := List.getElem_of_mem hf
    have hi' : i < fs.size := by simpa using hi
    rw [each i _ (by simp [hi'])]
    exact ⟨xs[i]'(by omega), aB _⟩
  exact ⟨x, hx, by simpa using rx⟩
theorem opens_array {t e : TypeId} {m c : Nat} {α : Type} {E : α → List AV} {p : α → Prop} (ht : P.underlying t = some (.array m e)) (hc : P.cellsOf e = c) (ht' : P.cellsOf t = m * c) (h : lA enc P w e E p) :
    lA enc P w t (fun l : List α => l.flatMap E) (fun l => l.length = m ∧ ∀ x ∈ l, p x) := by
  intro fuel cs d hd;obtain ⟨xs, n, _, _, hl, hlen, each⟩ := DataW.trod_array ht hd
  have go : ∀ r i, i + r = m → ∃ l : List α, (l.length = r ∧ ∀ x ∈ l, p x) ∧ RelL (Info.start w) w (l.flatMap E) (cs.drop (i * c)) := by
    intro r
    induction r with
    | zero => intro i hi; exact ⟨[], ⟨rfl, by simp⟩, by rw [aX (by rw [hl, ht', show i = m by omega]; exact Nat.le_refl _)]; exact .nil⟩
    | succ r ih =>
      intro i hi
      have hd := each i (by omega)
      rw [aB (by omega), hc] at hd
      obtain ⟨x, hx, rx⟩ := h _ _ _ hd;obtain ⟨l, ⟨hl1, hl2⟩, rl⟩ := ih (i + 1) (by omega);refine ⟨x :: l, ⟨by simp [hl1], by simpa using ⟨hx, hl2⟩⟩, ?_⟩
      have := rx.append rl
      rw [Nat.succ_mul, ← List.drop_drop, List.take_append_drop] at this
      simpa using this
  obtain ⟨l, hl', rl⟩ := go m 0 (by omega);exact ⟨l, hl', by simpa using rl⟩
theorem open_agg {t : TypeId} {fs : Array Field} {r : Reach} {b0 : Nat} {v : Value} {d : DataW H} {ps : List MemPlace} {α : Type} {E : α → List AV} {p : α → Prop} (ht : P.underlying t = some (.struct fs))
    (hval : Value.okWide P w r b0 t v) (hd : DataW.Trod enc P w 0 (fun _ => true) true t v d ps) (h : lA enc P w t E p) : ∃ x, p x ∧ Rel (Info.start w) w (.agg (E x)) v := by
  obtain ⟨cs, rfl, _⟩ := okWide_struct ht hval;obtain ⟨fuel, hf⟩ := hd;obtain ⟨x, hx, rx⟩ := h _ _ _ hf;refine ⟨x, hx, ?_⟩
  have := Rel.agg _ _ rx.1 rx.2
  simpa [Value.cells] using this
theorem len_cons {α : Type} {l : List α} {n : Nat} (h : l.length = n + 1) : ∃ a l', l = a :: l' ∧ l'.length = n := by
  cases l with
  | nil => simp at h
  | cons a l => exact ⟨a, l, rfl, by simpa using h⟩
theorem len_nil {α : Type} {l : List α} (h : l.length = 0) : l = [] := List.eq_nil_of_length_eq_zero h
end
end Go.Av
