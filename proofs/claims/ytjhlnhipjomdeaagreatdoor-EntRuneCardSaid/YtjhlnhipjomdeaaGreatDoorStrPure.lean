/-
  Texts that are joined, in plain Lean. No program is spoken of.
-/
set_option linter.unusedVariables false
namespace Go.Av.Str

/-- What stands behind the first: each with the separator ahead. -/
def rest (sep : List UInt8) : List (List UInt8) → List UInt8
  | [] => []
  | x :: r => sep ++ x ++ rest sep r
def join (sep : List UInt8) : List (List UInt8) → List UInt8
  | [] => []
  | x :: r => x ++ rest sep r
/-- How many bytes. -/
def total : List (List UInt8) → Nat
  | [] => 0
  | x :: r => x.length + total r
theorem total_drop (l : List (List UInt8)) (i : Nat) (h : i < l.length) : total (l.drop i) = l[i].length + total (l.drop (i + 1)) := by
  rw [List.drop_eq_getElem_cons h]; rfl
theorem rest_drop (sep : List UInt8) (l : List (List UInt8)) (i : Nat) (h : i < l.length) : rest sep (l.drop i) = sep ++ l[i] ++ rest sep (l.drop (i + 1)) := by
  rw [List.drop_eq_getElem_cons h]; rfl
theorem rest_end (sep : List UInt8) (l : List (List UInt8)) (i : Nat) (h : l.length ≤ i) : rest sep (l.drop i) = [] := by
  rw [List.drop_eq_nil_of_le h]; rfl
theorem rest_length (sep : List UInt8) : ∀ l, (rest sep l).length = sep.length * l.length + total l
  | [] => by simp [rest, total]
  | x :: r => by
    have := rest_length sep r
    simp only [rest, total, List.length_append, List.length_cons, Nat.mul_succ]; omega
theorem join_at (sep : List UInt8) (l : List (List UInt8)) (h : 0 < l.length) : join sep l = l[0] ++ rest sep (l.drop 1) := by
  cases l with
  | nil => simp at h
  | cons x r => rfl
theorem join_one (sep : List UInt8) (l : List (List UInt8)) (h : l.length = 1) (h0 : 0 < l.length) : join sep l = l[0] := by
  rw [join_at sep l h0, rest_end _ _ _ (by omega), List.append_nil]
theorem mul_bounds (a b N : Nat) (h : a * b ≤ N) (hb : 1 ≤ b) : 0 ≤ (a : Int) * ((b : Int) - 1) ∧ (a : Int) * ((b : Int) - 1) ≤ N := by
  have h1 : ((a * (b - 1) : Nat) : Int) = (a : Int) * ((b : Int) - 1) := by rw [Int.natCast_mul, Int.natCast_sub hb]; rfl
  rw [← h1]
  have h2 : a * (b - 1) ≤ a * b := Nat.mul_le_mul_left _ (by omega)
  omega
theorem quo_great (a b N : Nat) (h : a * b ≤ 1000000000) (hb : 2 ≤ b) (hb2 : b ≤ 1000000000) : ¬ (9223372036854775807 / ((b : Int) - 1) ≤ (a : Int)) := by
  intro h1
  have hp : (0 : Int) < (b : Int) - 1 := by omega
  have h2 : (9223372036854775807 : Int) < ((a : Int) + 1) * ((b : Int) - 1) := by
    have := Int.lt_ediv_add_one_mul_self 9223372036854775807 hp
    have h3 : ((9223372036854775807 / ((b : Int) - 1)) + 1) * ((b : Int) - 1) ≤ ((a : Int) + 1) * ((b : Int) - 1) := Int.mul_le_mul_of_nonneg_right (by omega) (by omega)
    omega
  have h4 := (mul_bounds a b 1000000000 h (by omega)).2
  rw [Int.add_mul, Int.one_mul] at h2
  omega
theorem join_length (sep : List UInt8) (l : List (List UInt8)) : (join sep l).length ≤ sep.length * l.length + total l := by
  cases l with
  | nil => simp [join]
  | cons x r =>
    simp only [join, List.length_append, rest_length, List.length_cons, total]
    have : sep.length * r.length ≤ sep.length * (r.length + 1) := Nat.mul_le_mul_left _ (by omega)
    omega
theorem room (sep out : List UInt8) (l : List (List UInt8)) (i : Nat) (h : i < l.length) (h2 : out ++ rest sep (l.drop i) = join sep l) (hb : sep.length * l.length + total l ≤ 1000000000) : out.length + sep.length + l[i].length ≤ 1000000000 := by
  have h3 := congrArg List.length h2
  have h4 := join_length sep l
  rw [rest_drop sep l i h] at h3
  simp only [List.length_append] at h3
  omega
theorem out_room (sep out r : List UInt8) (l : List (List UInt8)) (h2 : out ++ r = join sep l) (hb : sep.length * l.length + total l ≤ 1000000000) : out.length ≤ 1000000000 := by
  have h3 := congrArg List.length h2
  have h4 := join_length sep l
  simp only [List.length_append] at h3
  omega
theorem mul_cast (a b : Nat) (hb : 1 ≤ b) : 0 + (a : Int) * ((b : Int) - 1) = ((a * (b - 1) : Nat) : Int) := by
  rw [Int.natCast_mul, Int.natCast_sub hb, Int.zero_add]; rfl
end Go.Av.Str
