/-
  Quoted text, in plain Lean: what is coded and decoded. No program is spoken of.
-/
set_option linter.unusedVariables false
namespace Go.Av.Qp

def dg (n : Nat) : UInt8 := [48, 49, 50, 51, 52, 53, 54, 55, 56, 57, 65, 66, 67, 68, 69, 70].getD n 0

/-- Whether a byte stands as it is, ahead of some. -/
def plainB (c : UInt8) (r : List UInt8) : Bool :=
  if c.toNat = 32 ∨ c.toNat = 9 then (match r with | [] => false | d :: _ => decide (d.toNat ≠ 10)) else decide (33 ≤ c.toNat ∧ c.toNat ≤ 126 ∧ c.toNat ≠ 61)

theorem plainB_nil (c : UInt8) : plainB c [] = decide (c.toNat ≠ 32 ∧ c.toNat ≠ 9 ∧ 33 ≤ c.toNat ∧ c.toNat ≤ 126 ∧ c.toNat ≠ 61) := by
  unfold plainB; split
  · rename_i h; rw [eq_comm, decide_eq_false_iff_not]; omega
  · rename_i h; rw [decide_eq_decide]; omega
theorem plainB_cons (c d : UInt8) (r : List UInt8) : plainB c (d :: r) = decide (((c.toNat = 32 ∨ c.toNat = 9) ∧ d.toNat ≠ 10) ∨ (c.toNat ≠ 32 ∧ c.toNat ≠ 9 ∧ 33 ≤ c.toNat ∧ c.toNat ≤ 126 ∧ c.toNat ≠ 61)) := by
  unfold plainB; split
  · rename_i h; simp only; rw [decide_eq_decide]; omega
  · rename_i h; rw [decide_eq_decide]; omega

def code (c : UInt8) (r : List UInt8) : List UInt8 := if plainB c r then [c] else [61, dg (c.toNat / 16), dg (c.toNat % 16)]

def put (line : Nat) (s : List UInt8) : List UInt8 × Nat := if line + s.length > 75 then ([61, 13, 10] ++ s, s.length) else (s, line + s.length)

def enc : Nat → List UInt8 → List UInt8
  | _, [] => []
  | n, c :: r => if c.toNat = 10 then [13, 10] ++ enc 0 r else (put n (code c r)).1 ++ enc (put n (code c r)).2 r

/-- A digit's number. -/
def dig (c : UInt8) : Option Nat :=
  if 48 ≤ c.toNat ∧ c.toNat ≤ 57 then some (c.toNat - 48) else if 65 ≤ c.toNat ∧ c.toNat ≤ 70 then some (c.toNat - 55) else if 97 ≤ c.toNat ∧ c.toNat ≤ 102 then some (c.toNat - 87) else none

/-- What comes first of coded bytes: what it is, and how many bytes it has. -/
def tok : List UInt8 → Option (List UInt8 × Nat)
  | [] => none
  | c :: r =>
    if c.toNat = 13 ∧ (r.map UInt8.toNat).head? = some 10 then some ([10], 2)
    else if c.toNat = 61 then
      (match r with
       | a :: b :: _ => if a.toNat = 13 ∧ b.toNat = 10 then some ([], 3) else (match dig a, dig b with | some x, some y => some ([UInt8.ofNat (16 * x + y)], 3) | _, _ => none)
       | _ => none)
    else if c.toNat = 9 ∨ (32 ≤ c.toNat ∧ c.toNat ≤ 126) then some ([c], 1) else none

def dec : Nat → List UInt8 → Option (List UInt8)
  | _, [] => some []
  | 0, _ :: _ => none
  | k + 1, b => match tok b with
    | none => none
    | some (x, n) => (dec k (b.drop n)).map (x ++ ·)

theorem code_length (c : UInt8) (r : List UInt8) : (code c r).length ≤ 3 := by unfold code; split <;> simp
theorem put_bounds (n : Nat) (s : List UInt8) (hn : n ≤ 75) (hs : s.length ≤ 3) : (put n s).2 ≤ 75 ∧ (put n s).1.length ≤ 6 := by
  unfold put; split
  · simp; omega
  · simp; omega
theorem enc_step (n : Nat) (b : List UInt8) (i : Nat) (h : i < b.length) : enc n (b.drop i) =
    if b[i].toNat = 10 then [13, 10] ++ enc 0 (b.drop (i + 1)) else (put n (code b[i] (b.drop (i + 1)))).1 ++ enc (put n (code b[i] (b.drop (i + 1)))).2 (b.drop (i + 1)) := by
  rw [List.drop_eq_getElem_cons h, enc]

theorem tok_pos {b x : List UInt8} {n : Nat} (h : tok b = some (x, n)) : 1 ≤ n ∧ n ≤ b.length ∧ x.length ≤ 1 := by
  unfold tok at h
  cases b with
  | nil => cases h
  | cons c r =>
    simp only at h
    split at h
    · rename_i h1
      cases h
      have : r ≠ [] := by intro e; subst e; simp at h1
      have := List.length_pos_iff.2 this
      simp; omega
    · split at h
      · split at h
        · rename_i a b' r'
          split at h
          · cases h; simp
          · split at h
            · cases h; simp
            · cases h
        · cases h
      · split at h
        · cases h; simp
        · cases h

/-- What is decoded of all. -/
def decode (b : List UInt8) : Option (List UInt8) := dec b.length b

theorem dec_more : ∀ (k : Nat) (b : List UInt8), b.length ≤ k → dec k b = dec b.length b := by
  intro k
  induction k using Nat.strongRecOn with
  | _ k ih =>
    intro b hb
    cases b with
    | nil => cases k <;> rfl
    | cons c r =>
      obtain ⟨k, rfl⟩ : ∃ m, k = m + 1 := ⟨k - 1, by simp at hb; omega⟩
      simp only [dec, List.length_cons]
      cases ht : tok (c :: r) with
      | none => rfl
      | some p =>
        obtain ⟨x, n⟩ := p
        obtain ⟨h1, h2, _⟩ := tok_pos ht
        simp only
        simp at hb h2
        have hl : ((c :: r).drop n).length ≤ r.length := by simp; omega
        rw [ih k (by omega) _ (by omega)]
        by_cases hk : r.length < k + 1
        · rw [ih r.length hk _ hl]
        · omega

theorem decode_nil : decode [] = some [] := rfl
theorem decode_step {b : List UInt8} (hb : b ≠ []) : decode b = match tok b with
    | none => none
    | some (x, n) => (decode (b.drop n)).map (x ++ ·) := by
  cases b with
  | nil => exact absurd rfl hb
  | cons c r =>
    unfold decode
    simp only [List.length_cons, dec]
    cases ht : tok (c :: r) with
    | none => rfl
    | some p =>
      obtain ⟨x, n⟩ := p
      obtain ⟨h1, h2, _⟩ := tok_pos ht
      simp only
      simp at h2
      rw [dec_more r.length _ (by simp; omega)]
theorem nat10 {c : UInt8} : c = 10 ↔ c.toNat = 10 := ⟨fun h => by rw [h]; rfl, fun h => UInt8.toNat_inj.1 h⟩
theorem nat13 {c : UInt8} : c = 13 ↔ c.toNat = 13 := ⟨fun h => by rw [h]; rfl, fun h => UInt8.toNat_inj.1 h⟩
theorem nat61 {c : UInt8} : c = 61 ↔ c.toNat = 61 := ⟨fun h => by rw [h]; rfl, fun h => UInt8.toNat_inj.1 h⟩
theorem tok_crlf {r : List UInt8} (h : (decide ([13, 10].length ≤ r.length) && decide (List.take [13, 10].length r = [13, 10])) = true) : tok r = some ([10], 2) := by
  match r with
  | [] => simp at h
  | [a] => simp at h
  | a :: b :: s =>
    simp at h
    obtain ⟨rfl, rfl⟩ := h
    rfl
theorem tok_soft {r : List UInt8} (h : (decide ([61, 13, 10].length ≤ r.length) && decide (List.take [61, 13, 10].length r = [61, 13, 10])) = true) : tok r = some ([], 3) := by
  match r with
  | [] => simp at h
  | [a] => simp at h
  | [a, b] => simp at h
  | a :: b :: c :: s =>
    simp at h
    obtain ⟨rfl, rfl, rfl⟩ := h
    rfl
theorem tok_hex {r : List UInt8} (h0 : 0 < r.length) (h1 : 1 < r.length) (h2 : 2 < r.length) (h3 : (decide ([61, 13, 10].length ≤ r.length) && decide (List.take [61, 13, 10].length r = [61, 13, 10])) = false) (h5 : r[0].toNat = 61)
    (h : ((dig r[1]).isSome && (dig r[2]).isSome) = true) : tok r = some ([UInt8.ofNat (16 * (dig r[1]).getD 0 + (dig r[2]).getD 0)], 3) := by
  match r with
  | [] => simp at h0
  | [a] => simp at h1
  | [a, b] => simp at h2
  | a :: b :: c :: s =>
    simp only [List.getElem_cons_zero, List.getElem_cons_succ] at h h5 ⊢
    simp [nat13, nat10, nat61] at h3
    have h6 : ¬(b.toNat = 13 ∧ c.toNat = 10) := fun e => h3 h5 e.1 e.2
    cases hb : dig b with
    | none => rw [hb] at h; simp at h
    | some x =>
      cases hc : dig c with
      | none => rw [hc] at h; simp at h
      | some y => simp only [tok]; rw [if_neg (by omega), if_pos h5, if_neg h6, hb, hc]; rfl
theorem tok_nohex {r : List UInt8} (h0 : 0 < r.length) (h1 : 1 < r.length) (h2 : 2 < r.length) (h3 : (decide ([61, 13, 10].length ≤ r.length) && decide (List.take [61, 13, 10].length r = [61, 13, 10])) = false) (h5 : r[0].toNat = 61)
    (h : ((dig r[1]).isSome && (dig r[2]).isSome) = false) : tok r = none := by
  match r with
  | [] => simp at h0
  | [a] => simp at h1
  | [a, b] => simp at h2
  | a :: b :: c :: s =>
    simp only [List.getElem_cons_zero, List.getElem_cons_succ] at h h5 ⊢
    simp [nat13, nat10, nat61] at h3
    have h6 : ¬(b.toNat = 13 ∧ c.toNat = 10) := fun e => h3 h5 e.1 e.2
    simp only [tok]; rw [if_neg (by omega), if_pos h5, if_neg h6]
    cases hb : dig b with
    | none => rfl
    | some x =>
      cases hc : dig c with
      | none => rfl
      | some y => rw [hb, hc] at h; simp at h
theorem tok_plain {r : List UInt8} (h0 : 0 < r.length) (h11 : r[0].toNat ≠ 61 ∧ (r[0].toNat = 9 ∨ 32 ≤ r[0].toNat ∧ r[0].toNat ≤ 126)) : tok r = some ([r[0]], 1) := by
  match r with
  | [] => simp at h0
  | a :: s =>
    simp only [List.getElem_cons_zero] at h11 ⊢
    simp only [tok]; rw [if_neg (by omega), if_neg h11.1, if_pos h11.2]
theorem tok_other {r : List UInt8} (h0 : 0 < r.length) (h2 : (decide ([13, 10].length ≤ r.length) && decide (List.take [13, 10].length r = [13, 10])) = false) (h5 : ¬(r[0].toNat = 61 ∧ 2 < r.length))
    (h11 : ¬(r[0].toNat ≠ 61 ∧ (r[0].toNat = 9 ∨ 32 ≤ r[0].toNat ∧ r[0].toNat ≤ 126))) : tok r = none := by
  match r with
  | [] => simp at h0
  | a :: s =>
    simp only [List.getElem_cons_zero] at h11 h5
    have h6 : ¬(a.toNat = 13 ∧ (s.map UInt8.toNat).head? = some 10) := by
      rintro ⟨e1, e2⟩
      cases s with
      | nil => simp at e2
      | cons b s => simp at e2; simp [nat13, nat10] at h2; exact h2 e1 e2
    simp only [tok]; rw [if_neg h6]
    by_cases h7 : a.toNat = 61
    · rw [if_pos h7]
      match s with
      | [] => rfl
      | [b] => rfl
      | b :: c :: s => simp [h7] at h5
    · rw [if_neg h7, if_neg (fun h => h11 ⟨h7, h⟩)]
theorem decode_some {b x : List UInt8} {n : Nat} (h0 : 0 < b.length) (h : tok b = some (x, n)) : decode b = (decode (b.drop n)).map (x ++ ·) := by
  rw [decode_step (by intro e; subst e; simp at h0), h]
theorem decode_none {b : List UInt8} (h0 : 0 < b.length) (h : tok b = none) : decode b = none := by
  rw [decode_step (by intro e; subst e; simp at h0), h]
/-- One step of decoding, in front of what was decoded before. -/
theorem decode_on {b r out x : List UInt8} {n : Nat} (h0 : 0 < r.length) (h2 : decode b = (decode r).map (out ++ ·)) (h : tok r = some (x, n)) : decode b = (decode (r.drop n)).map ((out ++ x) ++ ·) := by
  rw [h2, decode_some h0 h, Option.map_map]
  congr 1; funext y; simp
/-- A digit's number, or -1. -/
def dgI (c : UInt8) : Int := match dig c with | some i => (i : Int) | none => -1
theorem plainB_in (c : UInt8) (b : List UInt8) (k : Nat) (h : k < b.length) : plainB c (b.drop k) = decide (((c.toNat = 32 ∨ c.toNat = 9) ∧ b[k].toNat ≠ 10) ∨ (c.toNat ≠ 32 ∧ c.toNat ≠ 9 ∧ 33 ≤ c.toNat ∧ c.toNat ≤ 126 ∧ c.toNat ≠ 61)) := by
  rw [List.drop_eq_getElem_cons h, plainB_cons]
theorem plainB_out (c : UInt8) (b : List UInt8) (k : Nat) (h : ¬ k < b.length) : plainB c (b.drop k) = decide (c.toNat ≠ 32 ∧ c.toNat ≠ 9 ∧ 33 ≤ c.toNat ∧ c.toNat ≤ 126 ∧ c.toNat ≠ 61) := by
  rw [List.drop_eq_nil_of_le (by omega), plainB_nil]
theorem plainB_other (c : UInt8) (r : List UInt8) (h : ¬ (c.toNat = 32 ∨ c.toNat = 9)) : plainB c r = decide (33 ≤ c.toNat ∧ c.toNat ≤ 126 ∧ c.toNat ≠ 61) := by
  unfold plainB; rw [if_neg h]
theorem hexcat (c : UInt8) : (([48, 49, 50, 51, 52, 53, 54, 55, 56, 57, 65, 66, 67, 68, 69, 70] : List UInt8).take (c.toNat / 16 + 1)).drop (c.toNat / 16) ++ (([48, 49, 50, 51, 52, 53, 54, 55, 56, 57, 65, 66, 67, 68, 69, 70] : List UInt8).take (c.toNat % 16 + 1)).drop (c.toNat % 16) = [dg (c.toNat / 16), dg (c.toNat % 16)] := by
  have : ∀ n : Nat, n < 256 → (([48, 49, 50, 51, 52, 53, 54, 55, 56, 57, 65, 66, 67, 68, 69, 70] : List UInt8).take (n / 16 + 1)).drop (n / 16) ++ (([48, 49, 50, 51, 52, 53, 54, 55, 56, 57, 65, 66, 67, 68, 69, 70] : List UInt8).take (n % 16 + 1)).drop (n % 16) = [dg (n / 16), dg (n % 16)] := by decide +kernel
  exact this _ c.toNat_lt
/-- A byte's number, or 256. -/
def nxt (b : List UInt8) (k : Nat) : Nat := if h : k < b.length then b[k].toNat else 256
theorem nxt_in (b : List UInt8) (k : Nat) (h : k < b.length) : nxt b k = b[k].toNat := dif_pos h
theorem nxt_out (b : List UInt8) (k : Nat) (h : ¬ k < b.length) : nxt b k = 256 := dif_neg h
theorem hd_nxt (b : List UInt8) (k : Nat) : ((b.drop k).map UInt8.toNat).head? = some 10 ↔ nxt b k = 10 := by
  by_cases h : k < b.length
  · rw [List.drop_eq_getElem_cons h, nxt_in b k h, List.map_cons, List.head?_cons, Option.some.injEq]
  · rw [List.drop_eq_nil_of_le (by omega), nxt_out b k h]; simp
theorem tokd_crlf (b : List UInt8) (i : Nat) (h : i < b.length) (h1 : b[i].toNat = 13 ∧ nxt b (i + 1) = 10) : tok (b.drop i) = some ([10], 2) := by
  rw [List.drop_eq_getElem_cons h]; simp only [tok]; rw [if_pos ⟨h1.1, (hd_nxt b _).2 h1.2⟩]
theorem tokd_plain (b : List UInt8) (i : Nat) (h : i < b.length) (h1 : b[i].toNat ≠ 61) (h2 : b[i].toNat = 9 ∨ (32 ≤ b[i].toNat ∧ b[i].toNat ≤ 126)) : tok (b.drop i) = some ([b[i]], 1) := by
  rw [List.drop_eq_getElem_cons h]; simp only [tok]; rw [if_neg (by omega), if_neg h1, if_pos h2]
theorem tokd_bad (b : List UInt8) (i : Nat) (h : i < b.length) (h0 : ¬(b[i].toNat = 13 ∧ nxt b (i + 1) = 10)) (h1 : b[i].toNat ≠ 61) (h2 : ¬(b[i].toNat = 9 ∨ (32 ≤ b[i].toNat ∧ b[i].toNat ≤ 126))) : tok (b.drop i) = none := by
  rw [List.drop_eq_getElem_cons h]; simp only [tok]; rw [if_neg (fun h => h0 ⟨h.1, (hd_nxt b _).1 h.2⟩), if_neg h1, if_neg h2]
theorem tokd_short (b : List UInt8) (i : Nat) (h : i < b.length) (h1 : b[i].toNat = 61) (h2 : b.length ≤ i + 2) : tok (b.drop i) = none := by
  rw [List.drop_eq_getElem_cons h]; simp only [tok]; rw [if_neg (by omega), if_pos h1]
  have : (b.drop (i + 1)).length ≤ 1 := by simp; omega
  match hb : b.drop (i + 1) with
  | [] => rfl
  | [x] => rfl
  | x :: y :: r => rw [hb] at this; simp at this
theorem drop3 (b : List UInt8) (i : Nat) (h : i + 2 < b.length) : b.drop i = b[i] :: b[i + 1] :: b[i + 2] :: b.drop (i + 3) := by
  rw [List.drop_eq_getElem_cons (by omega : i < b.length), List.drop_eq_getElem_cons (by omega : i + 1 < b.length), List.drop_eq_getElem_cons (by omega : i + 1 + 1 < b.length)]
theorem tokd_soft (b : List UInt8) (i : Nat) (h : i + 2 < b.length) (h1 : b[i].toNat = 61) (h2 : b[i + 1].toNat = 13 ∧ b[i + 2].toNat = 10) : tok (b.drop i) = some ([], 3) := by
  rw [drop3 b i h]; simp only [tok]; rw [if_neg (by omega), if_pos h1, if_pos h2]
theorem tokd_hex (b : List UInt8) (i : Nat) (h : i + 2 < b.length) (h1 : b[i].toNat = 61) (h2 : ¬(b[i + 1].toNat = 13 ∧ b[i + 2].toNat = 10)) (hx : (dig b[i + 1]).isSome = true) (hy : (dig b[i + 2]).isSome = true) :
    tok (b.drop i) = some ([UInt8.ofNat (16 * (dig b[i + 1]).getD 0 + (dig b[i + 2]).getD 0)], 3) := by
  rw [drop3 b i h]; simp only [tok]; rw [if_neg (by omega), if_pos h1, if_neg h2]
  obtain ⟨x, ex⟩ := Option.isSome_iff_exists.1 hx
  obtain ⟨y, ey⟩ := Option.isSome_iff_exists.1 hy
  rw [ex, ey]; rfl
theorem tokd_nohex (b : List UInt8) (i : Nat) (h : i + 2 < b.length) (h1 : b[i].toNat = 61) (h2 : ¬(b[i + 1].toNat = 13 ∧ b[i + 2].toNat = 10)) (hx : (dig b[i + 1]).isSome = false ∨ (dig b[i + 2]).isSome = false) : tok (b.drop i) = none := by
  rw [drop3 b i h]; simp only [tok]; rw [if_neg (by omega), if_pos h1, if_neg h2]
  cases ex : dig b[i + 1] with
  | none => rfl
  | some x =>
    cases ey : dig b[i + 2] with
    | none => rfl
    | some y => rw [ex, ey] at hx; simp at hx
theorem decode_ond {b out x : List UInt8} {i n : Nat} (h0 : i < b.length) (h2 : decode b = (decode (b.drop i)).map (out ++ ·)) (h : tok (b.drop i) = some (x, n)) : decode b = (decode (b.drop (i + n))).map ((out ++ x) ++ ·) := by
  have := decode_on (r := b.drop i) (by simp; omega) h2 h
  rwa [List.drop_drop] at this
theorem decode_noned {b out : List UInt8} {i : Nat} (h0 : i < b.length) (h2 : decode b = (decode (b.drop i)).map (out ++ ·)) (h : tok (b.drop i) = none) : decode b = none := by
  rw [h2, decode_none (by simp; omega) h]; rfl
theorem put_long (n : Nat) (s : List UInt8) (h : 75 < n + s.length) : put n s = ([61, 13, 10] ++ s, s.length) := if_pos h
theorem put_short (n : Nat) (s : List UInt8) (h : ¬ 75 < n + s.length) : put n s = (s, n + s.length) := if_neg h
end Go.Av.Qp
