/-
  PlainMarks: each of ten marks between letters. No program is spoken of.
-/
import Derived.Test.YtjajiokihccobaaDoorPnMarks
set_option linter.unusedVariables false
set_option linter.unusedSimpArgs false
set_option linter.unusedSectionVars false
namespace Go.Pn
open Go.Pv Go.Av

/-- The marks that break a line. -/
def brs : List (Bs × Int) := (plain_breaking 3000).getD []
theorem brs_eq : plain_breaking 3000 = some brs := rfl

section
variable (a b : Bs) (ha : a.length ≤ 100) (hb : b.length ≤ 100) (h1 : ∀ x ∈ a, Let x) (h2 : ∀ x ∈ b, Let x) (na : a ≠ []) (nb : b ≠ [])
include ha hb h1 h2 na nb
theorem of_soft (m name : Bs) (c : UInt8) (hm : m.length ≤ 100) (hx : 0 ≤ Go.Lib.indexByte plaina_k2 c) (hmk : ∀ ys sb, cut_mark 3000 (60 :: c :: (m ++ b)) ys sb = some (name, b)) (hs : decide (0 < Go.Av.mget brs name) = false) :
    plain_Of 3000 (a ++ 60 :: c :: m ++ b) = some (a ++ b) := by
  have e := cut_all_one a b m name c ha hb hm h1 h2 hx hmk brs brs_eq
  rw [hs] at e
  have := of_letters _ _ e (by simp) (fun p hp => by
    have hp' : p = a ++ b := by simpa using hp
    subst hp'
    refine ⟨by simp; omega, by simp [na], fun x hx => ?_⟩
    rcases List.mem_append.1 hx with hx | hx
    · exact h1 x hx
    · exact h2 x hx)
  rw [this]; simp [Str.join, Str.rest]
theorem of_hard (m name : Bs) (c : UInt8) (hm : m.length ≤ 100) (hx : 0 ≤ Go.Lib.indexByte plaina_k2 c) (hmk : ∀ ys sb, cut_mark 3000 (60 :: c :: (m ++ b)) ys sb = some (name, b)) (hs : decide (0 < Go.Av.mget brs name) = true) :
    plain_Of 3000 (a ++ 60 :: c :: m ++ b) = some (a ++ [10] ++ b) := by
  have e := cut_all_one a b m name c ha hb hm h1 h2 hx hmk brs brs_eq
  rw [hs] at e
  have := of_letters _ _ e (by simp) (fun p hp => by
    have hp' : p = a ∨ p = b := by simpa using hp
    rcases hp' with rfl | rfl
    · exact ⟨by omega, na, h1⟩
    · exact ⟨by omega, nb, h2⟩)
  rw [this]; simp [Str.join, Str.rest]

theorem mark0 : plain_Of 3000 (a ++ [60, 98, 62] ++ b) = some (a ++ b) :=
  of_soft a b ha hb h1 h2 na nb [62] [98] 98 (by decide +kernel) (by decide +kernel) (fun ys sb => mark_plain 3000 _ [] [98] b [60, 98] b [98] 62 ys sb (by decide +kernel) (by simp) (.inl rfl) (by simp [Go.Lib.trimPrefix, Go.Lib.hasPrefix, List.isPrefixOf]) (by simp) (by decide +kernel) (by decide +kernel) (by decide +kernel) (by decide +kernel) (by omega) (by decide +kernel) (.inr (by decide +kernel))) (by decide +kernel)
theorem mark1 : plain_Of 3000 (a ++ [60, 47, 105, 62] ++ b) = some (a ++ b) :=
  of_soft a b ha hb h1 h2 na nb [105, 62] [105] 47 (by decide +kernel) (by decide +kernel) (fun ys sb => mark_plain 3000 _ [47] [105] b [60, 47, 105] b [105] 62 ys sb (by decide +kernel) (by simp) (.inr rfl) (by simp [Go.Lib.trimPrefix, Go.Lib.hasPrefix, List.isPrefixOf]) (by simp) (by decide +kernel) (by decide +kernel) (by decide +kernel) (by decide +kernel) (by omega) (by decide +kernel) (.inl rfl)) (by decide +kernel)
theorem mark2 : plain_Of 3000 (a ++ [60, 97, 32, 104, 114, 101, 102, 61, 34, 120, 34, 62] ++ b) = some (a ++ b) :=
  of_soft a b ha hb h1 h2 na nb [32, 104, 114, 101, 102, 61, 34, 120, 34, 62] [97] 97 (by decide +kernel) (by decide +kernel) (fun ys sb => mark_plain 3000 _ [] [97] ([104, 114, 101, 102, 61, 34, 120, 34, 62] ++ b) [60, 97, 32, 104, 114, 101, 102, 61, 34, 120, 34] b [97] 32 ys sb (by decide +kernel) (by simp) (.inl rfl) (by simp [Go.Lib.trimPrefix, Go.Lib.hasPrefix, List.isPrefixOf]) (by simp) (by decide +kernel) (by decide +kernel) (by decide +kernel) (by decide +kernel) (by simp <;> omega) (by decide +kernel) (.inr (by decide +kernel))) (by decide +kernel)
theorem mark3 : plain_Of 3000 (a ++ [60, 33, 45, 45, 32, 121, 32, 45, 45, 62] ++ b) = some (a ++ b) :=
  of_soft a b ha hb h1 h2 na nb [45, 45, 32, 121, 32, 45, 45, 62] [] 33 (by decide +kernel) (by decide +kernel) (fun ys sb => mark_plain 3000 _ [] [] ([45, 45, 32, 121, 32, 45, 45, 62] ++ b) [60, 33, 45, 45, 32, 121, 32, 45, 45] b [] 33 ys sb (by decide +kernel) (by simp) (.inl rfl) (by simp [Go.Lib.trimPrefix, Go.Lib.hasPrefix, List.isPrefixOf]) (by simp) (by decide +kernel) (by decide +kernel) (by decide +kernel) (by decide +kernel) (by simp <;> omega) (by decide +kernel) (.inr (by decide +kernel))) (by decide +kernel)
theorem mark5 : plain_Of 3000 (a ++ [60, 98, 114, 62] ++ b) = some (a ++ [10] ++ b) :=
  of_hard a b ha hb h1 h2 na nb [114, 62] [98, 114] 98 (by decide +kernel) (by decide +kernel) (fun ys sb => mark_plain 3000 _ [] [98, 114] b [60, 98, 114] b [98, 114] 62 ys sb (by decide +kernel) (by simp) (.inl rfl) (by simp [Go.Lib.trimPrefix, Go.Lib.hasPrefix, List.isPrefixOf]) (by simp) (by decide +kernel) (by decide +kernel) (by decide +kernel) (by decide +kernel) (by omega) (by decide +kernel) (.inr (by decide +kernel))) (by decide +kernel)
theorem mark6 : plain_Of 3000 (a ++ [60, 80, 62] ++ b) = some (a ++ [10] ++ b) :=
  of_hard a b ha hb h1 h2 na nb [62] [112] 80 (by decide +kernel) (by decide +kernel) (fun ys sb => mark_plain 3000 _ [] [80] b [60, 80] b [112] 62 ys sb (by decide +kernel) (by simp) (.inl rfl) (by simp [Go.Lib.trimPrefix, Go.Lib.hasPrefix, List.isPrefixOf]) (by simp) (by decide +kernel) (by decide +kernel) (by decide +kernel) (by decide +kernel) (by omega) (by decide +kernel) (.inr (by decide +kernel))) (by decide +kernel)
theorem mark7 : plain_Of 3000 (a ++ [60, 47, 100, 105, 118, 62] ++ b) = some (a ++ [10] ++ b) :=
  of_hard a b ha hb h1 h2 na nb [100, 105, 118, 62] [100, 105, 118] 47 (by decide +kernel) (by decide +kernel) (fun ys sb => mark_plain 3000 _ [47] [100, 105, 118] b [60, 47, 100, 105, 118] b [100, 105, 118] 62 ys sb (by decide +kernel) (by simp) (.inr rfl) (by simp [Go.Lib.trimPrefix, Go.Lib.hasPrefix, List.isPrefixOf]) (by simp) (by decide +kernel) (by decide +kernel) (by decide +kernel) (by decide +kernel) (by omega) (by decide +kernel) (.inl rfl)) (by decide +kernel)
theorem mark8 : plain_Of 3000 (a ++ [60, 104, 51, 32, 99, 108, 97, 115, 115, 61, 39, 122, 39, 62] ++ b) = some (a ++ [10] ++ b) :=
  of_hard a b ha hb h1 h2 na nb [51, 32, 99, 108, 97, 115, 115, 61, 39, 122, 39, 62] [104, 51] 104 (by decide +kernel) (by decide +kernel) (fun ys sb => mark_plain 3000 _ [] [104, 51] ([99, 108, 97, 115, 115, 61, 39, 122, 39, 62] ++ b) [60, 104, 51, 32, 99, 108, 97, 115, 115, 61, 39, 122, 39] b [104, 51] 32 ys sb (by decide +kernel) (by simp) (.inl rfl) (by simp [Go.Lib.trimPrefix, Go.Lib.hasPrefix, List.isPrefixOf]) (by simp) (by decide +kernel) (by decide +kernel) (by decide +kernel) (by decide +kernel) (by simp <;> omega) (by decide +kernel) (.inr (by decide +kernel))) (by decide +kernel)
theorem mark9 : plain_Of 3000 (a ++ [60, 108, 105, 47, 62] ++ b) = some (a ++ [10] ++ b) :=
  of_hard a b ha hb h1 h2 na nb [105, 47, 62] [108, 105] 108 (by decide +kernel) (by decide +kernel) (fun ys sb => mark_plain 3000 _ [] [108, 105] ([62] ++ b) [60, 108, 105, 47] b [108, 105] 47 ys sb (by decide +kernel) (by simp) (.inl rfl) (by simp [Go.Lib.trimPrefix, Go.Lib.hasPrefix, List.isPrefixOf]) (by simp) (by decide +kernel) (by decide +kernel) (by decide +kernel) (by decide +kernel) (by simp <;> omega) (by decide +kernel) (.inr (by decide +kernel))) (by decide +kernel)
end

theorem style_mark (b : Bs) (hb : b.length ≤ 100) (ys : List Bs) (sb : Bs) :
    cut_mark 3000 (60 :: 115 :: ([116, 121, 108, 101, 62, 113, 60, 47, 115, 116, 121, 108, 101, 62] ++ b)) ys sb = some ([115, 116, 121, 108, 101], 60 :: 47 :: ([115, 116, 121, 108, 101, 62] ++ b)) := by
  unfold cut_mark
  have e1 : from_ (60 :: 115 :: ([116, 121, 108, 101, 62, 113, 60, 47, 115, 116, 121, 108, 101, 62] ++ b)) 1 = [115, 116, 121, 108, 101] ++ 62 :: ([113, 60, 47, 115, 116, 121, 108, 101, 62] ++ b) := rfl
  have e2 : Go.Lib.trimPrefix ([115, 116, 121, 108, 101] ++ 62 :: ([113, 60, 47, 115, 116, 121, 108, 101, 62] ++ b)) [47] = [115, 116, 121, 108, 101] ++ 62 :: ([113, 60, 47, 115, 116, 121, 108, 101, 62] ++ b) := rfl
  simp (disch := (first | omega | (simp; done) | (simp; omega))) only [grd_To, lt_eq, e1, e2, grd_I]
  have := tag_loop 3000 (60 :: 115 :: ([116, 121, 108, 101, 62, 113, 60, 47, 115, 116, 121, 108, 101, 62] ++ b)) [115, 116, 121, 108, 101] ([113, 60, 47, 115, 116, 121, 108, 101, 62] ++ b) 62 (by decide +kernel) (by decide +kernel) (by decide) 3000 0 (by simp) (by simp)
  rw [show ((0 : Nat) : Int) = 0 from rfl] at this
  rw [this]
  unfold cut_mark_j3 cut_mark_j2 cut_mark_j1
  have e3 : to_ ([115, 116, 121, 108, 101] ++ 62 :: ([113, 60, 47, 115, 116, 121, 108, 101, 62] ++ b)) (([115, 116, 121, 108, 101] : Bs).length : Int) = [115, 116, 121, 108, 101] := rfl
  have e4 : ([115, 116, 121, 108, 101] : Bs).map low = [115, 116, 121, 108, 101] := by decide +kernel
  have e5 : Go.Lib.cut (60 :: 115 :: ([116, 121, 108, 101, 62, 113, 60, 47, 115, 116, 121, 108, 101, 62] ++ b)) [62] = ([60, 115, 116, 121, 108, 101], [113, 60, 47, 115, 116, 121, 108, 101, 62] ++ b, true) := cut_one [60, 115, 116, 121, 108, 101] _ 62 (by decide +kernel)
  simp (disch := (first | omega | (simp; done) | (simp; omega))) only [grd_To, lt_eq, e3, small_eq 3000 [115, 116, 121, 108, 101] (by simp) (by simp), bnd_some, grd_S, e4, e5]
  have hd : decide ((([115, 116, 121, 108, 101] ++ 62 :: ([113, 60, 47, 115, 116, 121, 108, 101, 62] ++ b)).length : Int) < ((60 :: 115 :: ([116, 121, 108, 101, 62, 113, 60, 47, 115, 116, 121, 108, 101, 62] ++ b)).length : Int) - 1) = false := by
    rw [decide_eq_false (by simp)]
  simp only [hd, Bool.not_false, Bool.true_and, decide_true, Bool.or_true, cond_true]
  have e6 : Go.Lib.index (([113, 60, 47, 115, 116, 121, 108, 101, 62] ++ b).map low) ([60, 47] ++ [115, 116, 121, 108, 101]) = 1 := by
    have : ([113, 60, 47, 115, 116, 121, 108, 101, 62] ++ b).map low = 113 :: 60 :: 47 :: 115 :: 116 :: 121 :: 108 :: 101 :: 62 :: b.map low := by
      rw [List.map_append, show ([113, 60, 47, 115, 116, 121, 108, 101, 62] : Bs).map low = [113, 60, 47, 115, 116, 121, 108, 101, 62] by decide +kernel]; rfl
    rw [this]
    simp [Go.Lib.index, List.isPrefixOf]
  have e7 : from_ ([113, 60, 47, 115, 116, 121, 108, 101, 62] ++ b) 1 = 60 :: 47 :: ([115, 116, 121, 108, 101, 62] ++ b) := rfl
  simp (disch := (first | omega | (simp; done) | (simp; omega))) only [cond_true, small_eq 3000 ([113, 60, 47, 115, 116, 121, 108, 101, 62] ++ b) (by simp; omega) (by simp; omega), bnd_some, grd_Cat, lt_eq, grd_S, e6, bF, grd_To, e7]

theorem mark4 (a b : Bs) (ha : a.length ≤ 100) (hb : b.length ≤ 100) (h1 : ∀ x ∈ a, Let x) (h2 : ∀ x ∈ b, Let x) (na : a ≠ []) (nb : b ≠ []) :
    plain_Of 3000 (a ++ [60, 115, 116, 121, 108, 101, 62, 113, 60, 47, 115, 116, 121, 108, 101, 62] ++ b) = some (a ++ b) := by
  have e : cut_all 3000 (a ++ [60, 115, 116, 121, 108, 101, 62, 113, 60, 47, 115, 116, 121, 108, 101, 62] ++ b) [] [] = some [a ++ b] := by
    unfold cut_all
    rw [brs_eq, bnd_some]
    have e : a ++ [60, 115, 116, 121, 108, 101, 62, 113, 60, 47, 115, 116, 121, 108, 101, 62] ++ b = a ++ 60 :: 115 :: ([116, 121, 108, 101, 62, 113, 60, 47, 115, 116, 121, 108, 101, 62] ++ b) := by simp
    have hs : decide (0 < Go.Av.mget brs [115, 116, 121, 108, 101]) = false := by decide +kernel
    rw [e, all_mark 3000 _ brs a _ [] [] [115, 116, 121, 108, 101] _ (fun x hx => let_ne (h1 x hx) (by decide)) 115 (by decide +kernel) (by simp; omega) (by simp) (style_mark b hb _ _), hs]
    show cut_all_B1 3000 (cut_all_L1 3000 2999) brs ([] ++ 60 :: 47 :: ([115, 116, 121, 108, 101, 62] ++ b)) [] ([] ++ a) = _
    rw [all_mark 3000 _ brs [] _ [] _ [115, 116, 121, 108, 101] b (by simp) 47 (by decide +kernel) (by simp; omega) (by simp) (mark_plain 3000 _ [47] [115, 116, 121, 108, 101] b [60, 47, 115, 116, 121, 108, 101] b [115, 116, 121, 108, 101] 62 _ _ (by decide +kernel) (by simp) (.inr rfl) (by simp [Go.Lib.trimPrefix, Go.Lib.hasPrefix, List.isPrefixOf]) (by simp) (by decide +kernel) (by decide +kernel) (by decide +kernel) (by decide) (by omega) (by decide) (.inl rfl)), hs]
    show cut_all_B1 3000 (cut_all_L1 3000 2998) brs b [] ([] ++ a ++ []) = _
    rw [all_end _ _ _ _ _ _ (fun x hx => let_ne (h2 x hx) (by decide)) (by simp; omega) (by simp)]
    simp
  have := of_letters _ _ e (by simp) (fun p hp => by
    have hp' : p = a ++ b := by simpa using hp
    subst hp'
    refine ⟨by simp; omega, by simp [na], fun x hx => ?_⟩
    rcases List.mem_append.1 hx with hx | hx
    · exact h1 x hx
    · exact h2 x hx)
  rw [this]; simp [Str.join, Str.rest]

theorem marks_j1 (a b : Bs) (k : Int) (ha : a.length ≤ 100) (hb : b.length ≤ 100) (h1 : ∀ x ∈ a, Let x) (h2 : ∀ x ∈ b, Let x) (na : a ≠ []) (nb : b ≠ []) (h0 : 0 ≤ k) (h9 : k ≤ 9) : law11_PlainMarks_j1 3000 a b k = some true := by
  have hk : k = 0 ∨ k = 1 ∨ k = 2 ∨ k = 3 ∨ k = 4 ∨ k = 5 ∨ k = 6 ∨ k = 7 ∨ k = 8 ∨ k = 9 := by omega
  unfold law11_PlainMarks_j1
  rcases hk with rfl | rfl | rfl | rfl | rfl | rfl | rfl | rfl | rfl | rfl <;>
    simp (disch := (first | omega | (simp; done) | (simp; omega))) only [grd_At, lt_eq, at_, Int.reduceToNat, List.getD_cons_succ, List.getD_cons_zero, grd_Cat, bnd_some, mark0 a b ha hb h1 h2 na nb, mark1 a b ha hb h1 h2 na nb, mark2 a b ha hb h1 h2 na nb, mark3 a b ha hb h1 h2 na nb, mark4 a b ha hb h1 h2 na nb, mark5 a b ha hb h1 h2 na nb, mark6 a b ha hb h1 h2 na nb, mark7 a b ha hb h1 h2 na nb, mark8 a b ha hb h1 h2 na nb, mark9 a b ha hb h1 h2 na nb, bT, bF, decide_true]

theorem PlainMarks_t (a b : Bs) (k : Int) : law11_PlainMarks 3000 a b k = some true := by
  unfold law11_PlainMarks
  rw [awake11, bnd_some]
  cases hc : (((((((!true) || (decide (100 < (a.length : Int)))) || (decide (100 < (b.length : Int)))) || (decide (k < 0))) || (decide (9 < k))) || (decide (a = ([] : List UInt8)))) || (decide (b = ([] : List UInt8)))) with
  | true => rfl
  | false =>
    simp only [Bool.or_eq_false_iff, decide_eq_false_iff_not, Bool.not_true] at hc
    obtain ⟨⟨⟨⟨⟨⟨_, h1⟩, h2⟩, h3⟩, h4⟩, na⟩, nb⟩ := hc
    rw [cond_false]
    rw [grd_Cat (by omega), lt_eq]
    have key : ∀ (n i : Nat), (a ++ b).length - i < n → i ≤ (a ++ b).length → (∀ x ∈ (a ++ b).take i, Let x) → law11_PlainMarks_L1 3000 a b k (a ++ b) n (i : Int) = some true := by
      intro n
      induction n with
      | zero => intro i h; omega
      | succ n ih =>
        intro i hn hi hb
        show law11_PlainMarks_B1 3000 a b k (a ++ b) (law11_PlainMarks_L1 3000 a b k (a ++ b) n) (i : Int) = _
        unfold law11_PlainMarks_B1
        have hlen : (a ++ b).length = a.length + b.length := List.length_append
        by_cases h : i < (a ++ b).length
        · simp (disch := omega) only [bT, grd_At, grdc_At, lt_eq, at_nat h, grd_I, cast_succ]
          by_cases hlo : (((a ++ b)[i]).toNat : Int) < 97
          · simp [hlo]
          · by_cases hhi : 122 < (((a ++ b)[i]).toNat : Int)
            · simp [hhi]
            · simp only [hlo, hhi, decide_false, Bool.or_self, cond_false]
              refine ih _ (by omega) (by omega) ?_
              rw [List.take_succ_eq_append_getElem h]
              intro x hx
              rcases List.mem_append.1 hx with hx | hx
              · exact hb x hx
              · have hx' : x = (a ++ b)[i] := by simpa using hx
                rw [hx']; exact ⟨by omega, by omega⟩
        · have hi2 : i = (a ++ b).length := by omega
          subst hi2
          simp (disch := omega) only [bF]
          rw [List.take_length] at hb
          exact marks_j1 a b k (by omega) (by omega) (fun x hx => hb x (List.mem_append.2 (.inl hx))) (fun x hx => hb x (List.mem_append.2 (.inr hx))) na nb (by omega) (by omega)
    exact key 3000 0 (by simp; omega) (by omega) (by simp)
end Go.Pn
