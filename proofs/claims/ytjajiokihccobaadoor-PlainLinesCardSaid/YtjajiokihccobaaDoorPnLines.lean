/-
  PlainLines: a plain text of any text has no blank line, no blank at a line's end, no two blanks. No program is spoken of.
-/
import Derived.Test.YtjajiokihccobaaDoorPnMarks
import Derived.Test.YtjajiokihccobaaDoorPnLoose
set_option linter.unusedVariables false
set_option linter.unusedSimpArgs false
namespace Go.Pn
open Go.Pv Go.Av

theorem awakeL : law11_awake 10000 = some true := by decide +kernel

theorem one_tot (F : Nat) (l k : Bs) (i : Nat) : ∃ b, plain_one F l (i : Int) k = some b ∧ (b = true → i < l.length) := by
  by_cases h : i < l.length
  · exact ⟨_, one_in F l k i h, fun _ => h⟩
  · refine ⟨false, ?_, fun h => by cases h⟩
    unfold plain_one
    have hd : decide ((i : Int) < (l.length : Int)) = false := decide_eq_false (by omega)
    simp only [hd, grdc_f, lt_eq, Bool.false_and]

theorem index_up (s u : Bs) : Go.Lib.index s u ≤ s.length := by
  induction s with
  | nil => unfold Go.Lib.index; split <;> simp
  | cons b r ih =>
    unfold Go.Lib.index
    split
    · simp; omega
    · split
      · simp; omega
      · simp; omega

theorem cut_rest (x u : Bs) (hx : 1 ≤ x.length) (hu : 1 ≤ u.length) : (Go.Lib.cut x u).2.1.length + 1 ≤ x.length := by
  unfold Go.Lib.cut
  split
  · simp; omega
  · simpa using hx

theorem j3_tot (F : Nat) (x l : Bs) (i : Nat) (hx : 1 ≤ x.length) (hs : x.length ≤ 1000) (hF : x.length < F) (hl : l.length ≤ 1000) (hlF : l.length < F) (hi : i ≤ l.length) : ∃ nm q, cut_mark_j3 F x l (i : Int) = some (nm, q) ∧ q.length + 1 ≤ x.length := by
  have hc := cut_rest x [62] hx (by simp)
  have ht : (to_ l (i : Int)).length ≤ l.length := by simp [to_nat]; omega
  unfold cut_mark_j3 cut_mark_j1
  simp (disch := (first | omega | (simp; done) | (simp; omega))) only [grd_To, lt_eq, small_eq F (to_ l (i : Int)) (by omega) (by omega), bnd_some, grd_S]
  generalize hg : (to_ l (i : Int)).map low = nm
  have hnm : nm.length ≤ l.length := by rw [← hg]; simp; omega
  generalize ((!(decide ((l.length : Int) < (x.length : Int) - 1))) && ((decide (nm = ([115, 99, 114, 105, 112, 116] : List UInt8))) || (decide (nm = ([115, 116, 121, 108, 101] : List UInt8))))) = cnd
  cases cnd with
  | false => exact ⟨nm, _, rfl, hc⟩
  | true =>
    have hm : ((Go.Lib.cut x [62]).2.1.map low).length = (Go.Lib.cut x [62]).2.1.length := by simp
    simp (disch := (first | omega | (simp; done) | (simp; omega))) only [cond_true, small_eq F (Go.Lib.cut x [62]).2.1 (by omega) (by omega), bnd_some, grd_Cat, lt_eq, grd_S, hm]
    have h1 := index_up ((Go.Lib.cut x [62]).2.1.map low) ([60, 47] ++ nm)
    have h2 := Go.Lib.index_ge ((Go.Lib.cut x [62]).2.1.map low) ([60, 47] ++ nm)
    generalize Go.Lib.index ((Go.Lib.cut x [62]).2.1.map low) ([60, 47] ++ nm) = j at h1 h2 ⊢
    unfold cut_mark_j2 cut_mark_j1
    by_cases hj : j < 0
    · rw [bT hj, grd_To (by omega), lt_eq]
      exact ⟨nm, _, rfl, by simp [from_]; omega⟩
    · rw [bF hj, grd_To (by omega), lt_eq]
      exact ⟨nm, _, rfl, by simp [from_]; omega⟩

theorem mark_tot (F : Nat) (x : Bs) (ys : List Bs) (sb : Bs) (hx : 1 ≤ x.length) (hs : x.length ≤ 1000) (hF : x.length < F) : ∃ nm q, cut_mark F x ys sb = some (nm, q) ∧ q.length + 1 ≤ x.length := by
  have h1 : (from_ x 1).length = x.length - 1 := by simp [from_]
  have h2 : (Go.Lib.trimPrefix (from_ x 1) [47]).length ≤ x.length - 1 := by
    unfold Go.Lib.trimPrefix; split <;> first | omega | (simp; omega)
  unfold cut_mark
  simp (disch := (first | omega | (simp; done) | (simp; omega))) only [grd_To, lt_eq, grd_I]
  generalize Go.Lib.trimPrefix (from_ x 1) [47] = l at h2 ⊢
  have key : ∀ (n i : Nat), l.length - i < n → i ≤ l.length → ∃ nm q, cut_mark_L1 F x l n (i : Int) = some (nm, q) ∧ q.length + 1 ≤ x.length := by
    intro n
    induction n with
    | zero => intro i h; omega
    | succ n ih =>
      intro i hn hi
      show ∃ nm q, cut_mark_B1 F x l (cut_mark_L1 F x l n) (i : Int) = some (nm, q) ∧ _
      unfold cut_mark_B1
      obtain ⟨b, hb, hlt⟩ := one_tot F l plaina_k1 i
      rw [hb, bnd_some]
      cases b with
      | true =>
        have := hlt rfl
        rw [cond_true, grd_I (by omega), cast_succ]
        exact ih _ (by omega) (by omega)
      | false => exact j3_tot F x l i hx hs hF (by omega) (by omega) hi
  exact key F 0 (by omega) (by omega)

theorem total_app (a b : List Bs) : Str.total (a ++ b) = Str.total a + Str.total b := by
  induction a with
  | nil => simp [Str.total]
  | cons x r ih => simp [Str.total, ih]; omega

theorem end_eq (F : Nat) (p : Bs) (ys : List Bs) (sb : Bs) (h1 : sb.length ≤ 100000) (h2 : ys.length ≤ 100000) : cut_end F p ys sb = some (ys ++ [sb]) := by
  unfold cut_end cut_end_j1
  simp (disch := (first | omega | (simp; done) | (simp; omega))) only [grd_W, grd_Cat, lt_eq]

theorem all_tot (F : Nat) (br : List (List UInt8 × Int)) : ∀ (n : Nat) (s : Bs) (ys : List Bs) (acc : Bs), s.length < n → s.length ≤ 1000 → s.length < F → ys.length + s.length ≤ 2000 → acc.length + s.length ≤ 2000 →
    ∃ ps, cut_all_L1 F n (br, s, ys, acc) = some ps ∧ Str.total ps ≤ Str.total ys + acc.length + s.length ∧ ps.length ≤ ys.length + s.length + 1 := by
  intro n
  induction n with
  | zero => intro s ys acc h; omega
  | succ n ih =>
    intro s ys acc hn hs hF hy ha
    show ∃ ps, cut_all_B1 F (cut_all_L1 F n) br s ys acc = some ps ∧ _
    unfold cut_all_B1
    obtain ⟨hi1, hi2⟩ := indexByte_r s 60
    by_cases h : Go.Lib.indexByte s 60 < 0
    · simp (disch := (first | omega | (simp; done) | (simp; omega))) only [lt_eq, bT, grd_W, end_eq, bnd_some]
      refine ⟨_, rfl, ?_, by simp⟩
      rw [total_app]; simp [Str.total]; omega
    · obtain ⟨i, hi⟩ : ∃ i : Nat, Go.Lib.indexByte s 60 = i := ⟨(Go.Lib.indexByte s 60).toNat, by omega⟩
      have il : i < s.length := by omega
      have l1 : (to_ s (i : Int)).length = i := by simp [to_nat]; omega
      have l2 : (from_ s (i : Int)).length = s.length - i := by simp [from_nat]
      have l3 : (acc ++ to_ s (i : Int)).length = acc.length + i := by simp [l1]
      obtain ⟨b, hb, _⟩ := one_tot F (from_ s (i : Int)) plaina_k2 1
      rw [show ((1 : Nat) : Int) = 1 from rfl] at hb
      simp (disch := (first | omega | (simp; done) | (simp; omega))) only [lt_eq, hi, bF, grd_To, grd_W, hb, bnd_some]
      cases b with
      | false =>
        have l4 : (from_ (from_ s (i : Int)) 1).length = s.length - i - 1 := by first | (simp [from_, l2]; done) | (simp [from_, l2]; omega)
        have l5 : (acc ++ to_ s (i : Int) ++ [60]).length = acc.length + i + 1 := by first | (simp [l1]; done) | (simp [l1]; omega)
        simp (disch := (first | omega | (simp; done) | (simp; omega))) only [Bool.not_false, cond_true, grd_W, lt_eq, grd_To]
        obtain ⟨ps, e1, e2, e3⟩ := ih (from_ (from_ s (i : Int)) 1) ys (acc ++ to_ s (i : Int) ++ [60]) (by omega) (by omega) (by omega) (by omega) (by omega)
        exact ⟨ps, e1, by omega, by omega⟩
      | true =>
        obtain ⟨nm, q, hm, hq⟩ := mark_tot F (from_ s (i : Int)) ys (acc ++ to_ s (i : Int)) (by omega) (by omega) (by omega)
        simp (disch := (first | omega | (simp; done) | (simp; omega))) only [Bool.not_true, cond_false, hm, bnd2_some, end_eq, bnd_some]
        cases decide (0 < Go.Av.mget br nm) with
        | true =>
          have l6 : (ys ++ [acc ++ to_ s (i : Int)]).length = ys.length + 1 := by simp
          have l7 : Str.total (ys ++ [acc ++ to_ s (i : Int)]) = Str.total ys + (acc.length + i) := by rw [total_app]; simp [Str.total, l1]
          obtain ⟨ps, e1, e2, e3⟩ := ih q (ys ++ [acc ++ to_ s (i : Int)]) [] (by omega) (by omega) (by omega) (by omega) (by simp; omega)
          simp only [List.length_nil] at e2
          exact ⟨ps, e1, by omega, by omega⟩
        | false =>
          obtain ⟨ps, e1, e2, e3⟩ := ih q ys (acc ++ to_ s (i : Int)) (by omega) (by omega) (by omega) (by omega) (by omega)
          exact ⟨ps, e1, by omega, by omega⟩

theorem lines_total (qs : List Bs) : Str.total (linesOf qs) ≤ Str.total qs ∧ (linesOf qs).length ≤ qs.length := by
  induction qs with
  | nil => simp [linesOf, Str.total]
  | cons q r ih =>
    have := trim_len q
    unfold linesOf
    split <;> simp [Str.total] <;> omega

def brsL : List (List UInt8 × Int) := (plain_breaking 10000).getD []
theorem brsL_eq : plain_breaking 10000 = some brsL := rfl
/-- A plain text, of any text. -/
theorem of_tot (s : Bs) (hs : s.length ≤ 1000) : ∃ qs, plain_Of 10000 s = some (Str.join [10] (linesOf qs)) ∧ (Str.join [10] (linesOf qs)).length ≤ 4000 := by
  obtain ⟨ps, hps, ht, hn⟩ := all_tot 10000 brsL (10000 + 1) s [] [] (by omega) hs (by omega) (by simp; omega) (by simp; omega)
  simp only [Str.total, List.length_nil] at ht hn
  have hall : cut_all 10000 s [] [] = some ps := by
    unfold cut_all
    rw [brsL_eq, bnd_some]
    exact hps
  have hmem : ∀ p ∈ ps, p.length ≤ 1000 := fun p hp => by
    have : ∀ l : List Bs, p ∈ l → p.length ≤ Str.total l := by
      intro l
      induction l with
      | nil => intro h; cases h
      | cons x r ih =>
        intro h
        rcases List.mem_cons.1 h with rfl | h
        · simp [Str.total]
        · have := ih h; simp [Str.total]; omega
    have := this ps hp; omega
  have hlo : ∀ p ∈ ps, ent_Loose 10000 p = some ((ent_Loose 10000 p).getD []) ∧ ((ent_Loose 10000 p).getD []).length ≤ 2 * p.length := fun p hp => by
    obtain ⟨q, h1, h2⟩ := loose_tot 10000 p (hmem p hp) (by have := hmem p hp; omega)
    rw [h1]; exact ⟨rfl, h2⟩
  have htq : Str.total (ps.map fun p => (ent_Loose 10000 p).getD []) ≤ 2 * Str.total ps := by
    have : ∀ l : List Bs, (∀ p ∈ l, ((ent_Loose 10000 p).getD []).length ≤ 2 * p.length) → Str.total (l.map fun p => (ent_Loose 10000 p).getD []) ≤ 2 * Str.total l := by
      intro l
      induction l with
      | nil => intro _; simp [Str.total]
      | cons x r ih =>
        intro h
        have h1 := h x (by simp)
        have h2 := ih (fun p hp => h p (by simp [hp]))
        simp only [List.map_cons, Str.total]; omega
    exact this ps (fun p hp => (hlo p hp).2)
  generalize hqs : (ps.map fun p => (ent_Loose 10000 p).getD []) = qs at htq
  have hlen : qs.length = ps.length := by rw [← hqs]; simp
  have hq : ∀ q ∈ qs, q.length ≤ 2000 := fun q hq => by
    rw [← hqs] at hq
    obtain ⟨p, hp, rfl⟩ := List.mem_map.1 hq
    have h1 := (hlo p hp).2
    have h2 := hmem p hp
    omega
  obtain ⟨hL1, hL2⟩ := lines_total qs
  refine ⟨qs, ?_, ?_⟩
  · unfold plain_Of
    rw [hall, bnd_some]
    have := of_loop 10000 ps qs (.inr (fun q h => by have := hq q h; omega)) hlen (by omega) (fun i hi => by
      subst hqs
      rw [List.getElem_map]
      exact (hlo _ (List.getElem_mem hi)).1) (fun q h => by have := hq q h; omega) (by omega) 10000 0 [] (by omega) (by omega) (by simp) (by simp)
    exact this
  · cases hL : linesOf qs with
    | nil => simp [Str.join]
    | cons x r =>
      rw [hL] at hL1 hL2
      have : (Str.rest [10] r).length = Str.total r + r.length := by
        clear hL hL1 hL2
        induction r with
        | nil => rfl
        | cons y r ih => simp [Str.rest, Str.total, ih]; omega
      simp only [Str.total, List.length_cons] at hL1 hL2
      simp only [Str.join, List.length_append, this]; omega

/-- What must not follow what. -/
def bad (p c : UInt8) : Bool := (((((decide (c = 10)) && (decide (p = 10))) || ((decide (c = 32)) && ((decide (p = 32)) || (decide (p = 10))))) || ((decide (c = 10)) && (decide (p = 32)))) || (decide (c = 9))) || (decide (c = 13))
def chk : UInt8 → Bs → Bool
  | p, [] => (!decide (p = 10)) && (!decide (p = 32))
  | p, c :: r => !bad p c && chk c r

theorem bl_f {c : UInt8} (h : bl c = false) : c ≠ 9 ∧ c ≠ 10 ∧ c ≠ 13 ∧ c ≠ 32 := by
  refine ⟨?_, ?_, ?_, ?_⟩ <;> · rintro rfl; exact absurd h (by decide)
theorem bad_sign (p : UInt8) {c : UInt8} (h : bl c = false) : bad p c = false := by
  obtain ⟨h1, h2, h3, h4⟩ := bl_f h
  simp [bad, h1, h2, h3, h4]
theorem bad_gap {p : UInt8} (h : bl p = false) : bad p 32 = false ∧ bad p 10 = false := by
  obtain ⟨h1, h2, h3, h4⟩ := bl_f h
  constructor <;> simp [bad, h1, h2, h3, h4]
theorem chk_T (t : Bs) (ht : ∀ d, bl d = false → chk d t = true) (s : Bs) : ∀ c, bl c = false → chk c (T1 s ++ t) = true ∧ chk c (T2 s ++ t) = true := by
  induction s with
  | nil => intro c hc; exact ⟨by simpa [T1] using ht c hc, by simpa [T2] using ht c hc⟩
  | cons d r ih =>
    intro c hc
    cases hd : bl d with
    | true => exact ⟨by simpa [T1, hd] using (ih c hc).2, by simpa [T2, hd] using (ih c hc).2⟩
    | false =>
      have e := (ih d hd).1
      refine ⟨?_, ?_⟩
      · simp [T1, hd, chk, bad_sign c hd, e]
      · simp [T2, hd, chk, bad_sign 32 hd, (bad_gap hc).1, e]
theorem trim_cons (s : Bs) (h : trim s ≠ []) : ∃ d r, trim s = d :: T1 r ∧ bl d = false := by
  induction s with
  | nil => simp [trim] at h
  | cons c r ih =>
    cases hc : bl c with
    | true => simp only [trim, hc, cond_true] at h ⊢; exact ih h
    | false => exact ⟨c, r, by simp [trim, hc], hc⟩
theorem chk_lines (qs : List Bs) : (∀ d, bl d = false → chk d (Str.rest [10] (linesOf qs)) = true) ∧ (linesOf qs ≠ [] → chk 10 (Str.join [10] (linesOf qs)) = true) := by
  induction qs with
  | nil =>
    refine ⟨fun d hd => ?_, fun h => absurd rfl h⟩
    obtain ⟨h1, h2, h3, h4⟩ := bl_f hd
    simp [linesOf, Str.rest, chk, h2, h4]
  | cons q r ih =>
    by_cases h0 : trim q = []
    · have e : linesOf (q :: r) = linesOf r := by simp [linesOf, h0]
      rw [e]; exact ih
    · have e : linesOf (q :: r) = trim q :: linesOf r := by simp [linesOf, h0]
      obtain ⟨d, v, hv, hd⟩ := trim_cons q h0
      have k := (chk_T (Str.rest [10] (linesOf r)) ih.1 v d hd).1
      rw [e, hv]
      refine ⟨fun c hc => ?_, fun _ => ?_⟩
      · simp [Str.rest, chk, (bad_gap hc).2, bad_sign 10 hd, k]
      · simp [Str.join, chk, bad_sign 10 hd, k]
theorem lines_join_ne {qs : List Bs} (h : linesOf qs = []) : Str.join [10] (linesOf qs) = [] := by rw [h]; rfl

theorem lines_loop (x : Bs) (hx : x.length ≤ 100000) : ∀ (n i : Nat) (p : UInt8), x.length - i < n → i ≤ x.length → chk p (x.drop i) = true → law11_PlainLines_L1 x n (p, (i : Int)) = some true := by
  intro n
  induction n with
  | zero => intro i p h; omega
  | succ n ih =>
    intro i p hn hi hc
    show law11_PlainLines_B1 x (law11_PlainLines_L1 x n) p (i : Int) = _
    unfold law11_PlainLines_B1 law11_PlainLines_j1
    by_cases h : i < x.length
    · rw [List.drop_eq_getElem_cons h] at hc
      simp only [chk, Bool.and_eq_true] at hc
      obtain ⟨h1, h2⟩ := hc
      have hb : bad p x[i] = false := by simpa using h1
      unfold bad at hb
      have hg : ∀ (q : Bool) (k : Option Bool), grdc q (okAt (i : Int) x.length) k = k := fun q k => grdc_At (fun _ => by omega)
      simp (disch := omega) only [bT, grd_At, hg, lt_eq, at_nat h]
      rw [hb, cond_false]
      simp (disch := omega) only [grd_I, cast_succ]
      exact ih _ _ (by omega) (by omega) h2
    · have hi2 : i = x.length := by omega
      subst hi2
      rw [List.drop_length] at hc
      simp only [chk] at hc
      simp (disch := omega) only [bF]
      rw [hc, Bool.or_true]

theorem PlainLines_t (s : Bs) : law11_PlainLines 10000 s = some true := by
  unfold law11_PlainLines
  rw [awakeL, bnd_some]
  cases hc : (!true) || (decide (1000 < (s.length : Int))) with
  | true => rfl
  | false =>
    have hs : s.length ≤ 1000 := by
      have : (s.length : Int) ≤ 1000 := by simpa using hc
      omega
    rw [cond_false]
    obtain ⟨qs, h1, h2⟩ := of_tot s hs
    rw [h1, bnd_some]
    by_cases h0 : linesOf qs = []
    · rw [lines_join_ne h0]; rfl
    · exact lines_loop _ (by omega) 10000 0 10 (by omega) (by omega) ((chk_lines qs).2 h0)
end Go.Pn
