/-
  A mark between letters. No program is spoken of.
-/
import Derived.Test.YtjajiokihccobaaDoorPnPlain
set_option linter.unusedVariables false
set_option linter.unusedSimpArgs false
namespace Go.Pn
open Go.Pv Go.Av

/-- A small letter. -/
def low (c : UInt8) : UInt8 := bif (decide (65 ≤ (c.toNat : Int))) && (decide ((c.toNat : Int) ≤ 90)) then (c + 97) - 65 else c

theorem small_loop (s : Bs) (hs : s.length ≤ 1000000) : ∀ (n i : Nat), s.length - i < n → i ≤ s.length →
    plain_small_L1 s n ((i : Int), (s.take i).map low ++ s.drop i) = some (s.map low) := by
  intro n
  induction n with
  | zero => intro i h; omega
  | succ n ih =>
    intro i hn hi
    show plain_small_B1 s (plain_small_L1 s n) (i : Int) ((s.take i).map low ++ s.drop i) = _
    unfold plain_small_B1 plain_small_j2 plain_small_j1
    have hl : ((s.take i).map low ++ s.drop i).length = s.length := by simp; omega
    by_cases h : i < s.length
    · have hg : ((s.take i).map low ++ s.drop i)[i]'(by omega) = s[i] := by
        rw [List.getElem_append_right (by simp; omega)]
        simp [show min i s.length = i by omega]
      have hset : ∀ x, ((s.take i).map low ++ s.drop i).set i x = (s.take i).map low ++ x :: s.drop (i + 1) := by
        intro x
        rw [List.set_append_right _ _ (by simp; omega), List.drop_eq_getElem_cons h]
        have : i - (List.map low (List.take i s)).length = 0 := by simp; omega
        rw [this]; rfl
      have hnx : ((s.take (i + 1)).map low ++ s.drop (i + 1)) = (s.take i).map low ++ low s[i] :: s.drop (i + 1) := by
        rw [List.take_succ_eq_append_getElem h, List.map_append, List.append_assoc]; rfl
      have hsame : (s.take i).map low ++ s.drop i = (s.take i).map low ++ s[i] :: s.drop (i + 1) := by rw [List.drop_eq_getElem_cons h]
      simp (disch := omega) only [bT, grd_At, lt_eq, at_nat (show i < ((s.take i).map low ++ s.drop i).length by omega), hg, grd_I, cast_succ, Int.toNat_natCast, hset]
      have := ih (i + 1) (by omega) (by omega)
      rw [hnx] at this
      cases hc : ((decide (65 ≤ ((s[i]).toNat : Int))) && (decide (((s[i]).toNat : Int) ≤ 90))) with
      | true =>
        have e : low s[i] = s[i] + 97 - 65 := by unfold low; rw [hc]; rfl
        rw [e] at this
        simpa using this
      | false =>
        have e : low s[i] = s[i] := by unfold low; rw [hc]; rfl
        rw [e] at this
        rw [hsame]
        simpa using this
    · have hi2 : i = s.length := by omega
      subst hi2
      simp (disch := (first | omega | (simp; done) | (simp; omega))) only [bF, grd_D, List.take_length, List.drop_length, List.append_nil]

theorem small_eq (F : Nat) (s : Bs) (hs : s.length ≤ 1000000) (hF : s.length < F) : plain_small F s = some (s.map low) := by
  unfold plain_small
  rw [grd_Cat (by omega)]
  simpa using small_loop s hs F 0 (by omega) (by omega)

theorem one_in (F : Nat) (l k : Bs) (i : Nat) (h : i < l.length) : plain_one F l (i : Int) k = some (decide (0 ≤ Go.Lib.indexByte k l[i])) := by
  unfold plain_one
  have h' : (i : Int) < (l.length : Int) := by omega
  simp (disch := omega) only [lt_eq, at_nat h, grdc_dAt]
  simp [h']

/-- The name of a mark is read. -/
theorem tag_loop (F : Nat) (a2 t r : Bs) (c : UInt8) (ht : ∀ b ∈ t, 0 ≤ Go.Lib.indexByte plaina_k1 b) (hc : Go.Lib.indexByte plaina_k1 c < 0) (hl : t.length ≤ 1000) : ∀ (n i : Nat), t.length - i < n → i ≤ t.length →
    cut_mark_L1 F a2 (t ++ c :: r) n (i : Int) = cut_mark_j3 F a2 (t ++ c :: r) (t.length : Int) := by
  intro n
  induction n with
  | zero => intro i h; omega
  | succ n ih =>
    intro i hn hi
    show cut_mark_B1 F a2 (t ++ c :: r) (cut_mark_L1 F a2 (t ++ c :: r) n) (i : Int) = _
    unfold cut_mark_B1
    rw [one_in F _ _ i (by simp; omega), bnd_some]
    by_cases h : i < t.length
    · have e : (t ++ c :: r)[i]'(by simp; omega) = t[i] := List.getElem_append_left h
      rw [e, decide_eq_true (ht _ (List.getElem_mem h))]
      simp (disch := omega) only [cond_true, grd_I, cast_succ]
      exact ih _ (by omega) (by omega)
    · have hi2 : i = t.length := by omega
      subst hi2
      have e : (t ++ c :: r)[t.length]'(by simp) = c := by simp
      rw [e, decide_eq_false (by omega)]
      rfl

theorem index_one (p q : Bs) (c : UInt8) (h : ∀ b ∈ p, b ≠ c) : Go.Lib.index (p ++ c :: q) [c] = (p.length : Int) := by
  induction p with
  | nil => simp [index_one_cons]
  | cons b r ih =>
    have := ih (fun x hx => h x (by simp [hx]))
    rw [List.cons_append, index_one_cons, if_neg (h b (by simp)), this, if_neg (by omega)]
    simp
theorem cut_one (p q : Bs) (c : UInt8) (h : ∀ b ∈ p, b ≠ c) : Go.Lib.cut (p ++ c :: q) [c] = (p, q, true) := by
  unfold Go.Lib.cut
  rw [index_one p q c h, if_pos (by omega)]
  simp

theorem indexByte_at (p q : Bs) (c : UInt8) (h : ∀ b ∈ p, b ≠ c) : Go.Lib.indexByte (p ++ c :: q) c = (p.length : Int) := by
  induction p with
  | nil => simp [Go.Lib.indexByte]
  | cons b r ih =>
    have := ih (fun x hx => h x (by simp [hx]))
    rw [List.cons_append, Go.Lib.indexByte, this]
    have h1 : (b == c) = false := by simpa using h b (by simp)
    have h2 : ((r.length : Int) == -1) = false := by simp
    rw [h1, h2]; simp

/-- A mark that hides nothing: its name, and what stands behind it. 'u' stands ahead of the '>'. -/
theorem mark_plain (F : Nat) (x sl t r u q name : Bs) (c : UInt8) (ys : List Bs) (sb : Bs) (hname : t.map low = name) (hxx : x = 60 :: (sl ++ t ++ c :: r)) (hsl : sl = [] ∨ sl = [47]) (htr : Go.Lib.trimPrefix (sl ++ t ++ c :: r) [47] = t ++ c :: r) (hu' : x = u ++ 62 :: q) (h62 : ∀ b ∈ u, b ≠ 62)
    (ht : ∀ b ∈ t, 0 ≤ Go.Lib.indexByte plaina_k1 b) (hc : Go.Lib.indexByte plaina_k1 c < 0) (hl : t.length ≤ 100) (hr : r.length ≤ 1000) (hF : 1100 < F)
    (hn : sl = [47] ∨ (t.map low ≠ [115, 99, 114, 105, 112, 116] ∧ t.map low ≠ [115, 116, 121, 108, 101])) : cut_mark F x ys sb = some (name, q) := by
  subst hname
  have hu : 60 :: (sl ++ t ++ c :: r) = u ++ 62 :: q := hxx.symm.trans hu'
  rw [hxx]
  have hlen : (60 :: (sl ++ t ++ c :: r)).length = 2 + sl.length + t.length + r.length := by simp; omega
  have hsl2 : sl.length ≤ 1 := by rcases hsl with h | h <;> simp [h]
  unfold cut_mark
  have e1 : from_ (60 :: (sl ++ t ++ c :: r)) 1 = sl ++ t ++ c :: r := by simp [from_]
  simp (disch := (first | omega | (simp; done) | (simp; omega))) only [grd_To, lt_eq, e1, grd_I]
  have e2 : Go.Lib.trimPrefix (sl ++ t ++ c :: r) [47] = t ++ c :: r := htr
  rw [e2]
  have := tag_loop F (60 :: (sl ++ t ++ c :: r)) t r c ht hc (by omega) F 0 (by omega) (by omega)
  rw [show ((0 : Nat) : Int) = 0 from rfl] at this
  rw [this]
  unfold cut_mark_j3 cut_mark_j1
  have e3 : to_ (t ++ c :: r) (t.length : Int) = t := by simp [to_nat]
  simp (disch := (first | omega | (simp; done) | (simp; omega))) only [grd_To, lt_eq, e3, small_eq F t (by omega) (by omega), bnd_some, grd_S]
  rw [hu, cut_one u q 62 h62]
  have hfin : ((!(decide (((t ++ c :: r).length : Int) < ((u ++ 62 :: q).length : Int) - 1))) && ((decide (t.map low = ([115, 99, 114, 105, 112, 116] : List UInt8))) || (decide (t.map low = ([115, 116, 121, 108, 101] : List UInt8))))) = false := by
    rcases hn with h | ⟨h1, h2⟩
    · rw [← hu, hlen, h]
      have : ((t ++ c :: r).length : Int) < ((2 + [(47 : UInt8)].length + t.length + r.length : Nat) : Int) - 1 := by simp; omega
      rw [decide_eq_true this]; rfl
    · rw [decide_eq_false h1, decide_eq_false h2]; simp
  rw [hfin]; rfl

/-- One step over a mark. -/
theorem all_mark (F : Nat) (rec : ((List (List UInt8 × Int)) × Bs × (List Bs) × Bs) → Option (List Bs)) (br : List (List UInt8 × Int)) (p x : Bs) (ys : List Bs) (acc name q : Bs) (hp : ∀ b ∈ p, b ≠ 60) (c : UInt8) (hx : 0 ≤ Go.Lib.indexByte plaina_k2 c)
    (hl : p.length + x.length + acc.length ≤ 100000) (hys : ys.length ≤ 10) (hm : cut_mark F (60 :: c :: x) ys (acc ++ p) = some (name, q)) :
    cut_all_B1 F rec br (p ++ 60 :: c :: x) ys acc = bif decide (0 < Go.Av.mget br name) then rec (br, q, ys ++ [acc ++ p], []) else rec (br, q, ys, acc ++ p) := by
  unfold cut_all_B1
  have e1 := indexByte_at p (c :: x) 60 hp
  have e2 : to_ (p ++ 60 :: c :: x) (p.length : Int) = p := by simp [to_nat]
  have e3 : from_ (p ++ 60 :: c :: x) (p.length : Int) = 60 :: c :: x := by simp [from_nat]
  have e4 : plain_one F (60 :: c :: x) 1 plaina_k2 = some true := by
    have := one_in F (60 :: c :: x) plaina_k2 1 (by simp)
    rw [show ((1 : Nat) : Int) = 1 from rfl] at this
    rw [this]; simp [hx]
  have e5 : cut_end F q ys (acc ++ p) = some (ys ++ [acc ++ p]) := by
    unfold cut_end cut_end_j1
    simp (disch := (first | omega | (simp; done) | (simp; omega))) only [grd_W, grd_Cat, lt_eq]
  simp (disch := (first | omega | (simp; done) | (simp; omega))) only [lt_eq, e1, bF, grd_To, e2, grd_W, e3, e4, bnd_some, hm, Bool.not_true, cond_false, bnd2_some, e5]

/-- No more marks. -/
theorem all_end (F : Nat) (rec : ((List (List UInt8 × Int)) × Bs × (List Bs) × Bs) → Option (List Bs)) (br : List (List UInt8 × Int)) (p : Bs) (ys : List Bs) (acc : Bs) (hp : ∀ b ∈ p, b ≠ 60) (hl : p.length + acc.length ≤ 100000) (hys : ys.length ≤ 10) :
    cut_all_B1 F rec br p ys acc = some (ys ++ [acc ++ p]) := by
  unfold cut_all_B1
  have e5 : cut_end F p ys (acc ++ p) = some (ys ++ [acc ++ p]) := by
    unfold cut_end cut_end_j1
    simp (disch := (first | omega | (simp; done) | (simp; omega))) only [grd_W, grd_Cat, lt_eq]
  simp (disch := (first | omega | (simp; done) | (simp; omega))) only [lt_eq, indexByte_no hp, bT, grd_W, e5, bnd_some]

theorem T1_none (s : Bs) (h : ∀ b ∈ s, bl b = false) : T1 s = s := by
  induction s with
  | nil => simp [T1]
  | cons c r ih => simp [T1, h c (by simp), ih (fun b hb => h b (by simp [hb]))]
theorem trim_none (s : Bs) (h : ∀ b ∈ s, bl b = false) : trim s = s := by
  cases s with
  | nil => rfl
  | cons c r => simp [trim, h c (by simp), T1_none r (fun b hb => h b (by simp [hb]))]

/-- A small letter of the alphabet. -/
def Let (c : UInt8) : Prop := 97 ≤ c.toNat ∧ c.toNat ≤ 122
theorem let_ne {c d : UInt8} (h : Let c) (hd : d.toNat < 97) : c ≠ d := by
  rintro rfl; have := h.1; omega
theorem let_bl {c : UInt8} (h : Let c) : bl c = false := by
  simp [bl, let_ne h (d := 9) (by decide), let_ne h (d := 10) (by decide), let_ne h (d := 13) (by decide), let_ne h (d := 32) (by decide)]
theorem let_low {c : UInt8} (h : Let c) : low c = c := by
  unfold low
  have : ¬ ((c.toNat : Int) ≤ 90) := by have := h.1; omega
  simp [this]

/-- What comes of pieces of letters. -/
theorem of_letters (s : Bs) (ps : List Bs) (hs : cut_all 3000 s [] [] = some ps) (hp : ps.length ≤ 10) (h : ∀ p ∈ ps, p.length ≤ 1000 ∧ p ≠ [] ∧ ∀ b ∈ p, Let b) : plain_Of 3000 s = some (Str.join [10] ps) := by
  have hlin : ∀ l : List Bs, (∀ p ∈ l, p.length ≤ 1000 ∧ p ≠ [] ∧ ∀ b ∈ p, Let b) → linesOf l = l ∧ Str.total l ≤ 1000 * l.length := by
    intro l
    induction l with
    | nil => intro _; exact ⟨rfl, by simp [Str.total]⟩
    | cons p r ih =>
      intro h
      obtain ⟨h1, h2, h3⟩ := h p (by simp)
      obtain ⟨i1, i2⟩ := ih (fun q hq => h q (by simp [hq]))
      have ht := trim_none p (fun b hb => let_bl (h3 b hb))
      refine ⟨by simp [linesOf, ht, h2, i1], ?_⟩
      simp only [Str.total, List.length_cons]; omega
  obtain ⟨hL, hT⟩ := hlin ps h
  unfold plain_Of
  rw [hs, bnd_some]
  have := of_loop 3000 ps ps (.inr (fun q hq => by have := (h q hq).1; omega)) rfl (by omega) (fun i hi => loose_plain 3000 _ (by omega) (by have := (h _ (List.getElem_mem hi)).1; omega) (fun b hb => let_ne ((h _ (List.getElem_mem hi)).2.2 b hb) (by decide)))
    (fun q hq => by have := (h q hq).1; omega) (by rw [hL]; omega) 3000 0 [] (by omega) (by omega) (by simp) (by simp [hL])
  rw [show ((0 : Nat) : Int) = 0 from rfl, hL] at this
  exact this

/-- One mark between letters. -/
theorem cut_all_one (a b m name : Bs) (c : UInt8) (ha : a.length ≤ 100) (hb : b.length ≤ 100) (hm : m.length ≤ 100) (h1 : ∀ x ∈ a, Let x) (h2 : ∀ x ∈ b, Let x) (hx : 0 ≤ Go.Lib.indexByte plaina_k2 c)
    (hmk : ∀ ys sb, cut_mark 3000 (60 :: c :: (m ++ b)) ys sb = some (name, b)) (brs : List (List UInt8 × Int)) (hbr : plain_breaking 3000 = some brs) :
    cut_all 3000 (a ++ 60 :: c :: m ++ b) [] [] = some (bif decide (0 < Go.Av.mget brs name) then [a, b] else [a ++ b]) := by
  unfold cut_all
  rw [hbr, bnd_some]
  have e : a ++ 60 :: c :: m ++ b = a ++ 60 :: c :: (m ++ b) := by simp
  rw [e, all_mark 3000 _ brs a (m ++ b) [] [] name b (fun x hx => let_ne (h1 x hx) (by decide)) c hx (by simp; omega) (by simp) (hmk _ _)]
  cases hd : decide (0 < Go.Av.mget brs name) with
  | true =>
    show cut_all_B1 3000 (cut_all_L1 3000 2999) brs b ([] ++ [[] ++ a]) [] = _
    rw [all_end _ _ _ _ _ _ (fun x hx => let_ne (h2 x hx) (by decide)) (by simp; omega) (by simp)]
    rfl
  | false =>
    show cut_all_B1 3000 (cut_all_L1 3000 2999) brs b [] ([] ++ a) = _
    rw [all_end _ _ _ _ _ _ (fun x hx => let_ne (h2 x hx) (by decide)) (by simp; omega) (by simp)]
    rfl
end Go.Pn
