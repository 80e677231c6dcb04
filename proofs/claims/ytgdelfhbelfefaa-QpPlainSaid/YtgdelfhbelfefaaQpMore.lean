/-
  Quoted text, in plain Lean: the laws' own facts. No program is spoken of.
-/
import Derived.Test.YtgdelfhbelfefaaQpPure
set_option linter.unusedVariables false
namespace Go.Av.Qp

theorem tok_append {r b x : List UInt8} {n : Nat} (h : tok r = some (x, n)) : tok (r ++ b) = some (x, n) := by
  cases r with
  | nil => cases h
  | cons c r =>
    simp only [tok, List.cons_append] at h ⊢
    by_cases h1 : c.toNat = 13 ∧ (r.map UInt8.toNat).head? = some 10
    · rw [if_pos h1] at h
      have h2 : ((r ++ b).map UInt8.toNat).head? = some 10 := by
        cases r with
        | nil => simp at h1
        | cons d r => simpa using h1.2
      rw [if_pos ⟨h1.1, h2⟩, h]
    · rw [if_neg h1] at h
      by_cases h3 : c.toNat = 61
      · rw [if_pos h3] at h
        rw [if_neg (by omega), if_pos h3]
        match r with
        | [] => cases h
        | [a] => cases h
        | a :: d :: r => exact h
      · rw [if_neg h3] at h
        by_cases h4 : c.toNat = 9 ∨ (32 ≤ c.toNat ∧ c.toNat ≤ 126)
        · rw [if_pos h4] at h
          rw [if_neg (by omega), if_neg h3, if_pos h4, h]
        · rw [if_neg h4] at h; cases h

/-- What is decoded of two, one behind the other. -/
theorem joins (b : List UInt8) : ∀ (k : Nat) (a x : List UInt8), a.length ≤ k → decode a = some x → decode (a ++ b) = (decode b).map (x ++ ·) := by
  intro k
  induction k with
  | zero =>
    intro a x ha h
    have : a = [] := List.length_eq_zero_iff.1 (by omega)
    subst this
    rw [decode_nil] at h; cases h
    simp
  | succ k ih =>
    intro a x ha h
    by_cases h0 : 0 < a.length
    · cases ht : tok a with
      | none => rw [decode_none h0 ht] at h; cases h
      | some p =>
        obtain ⟨y, n⟩ := p
        rw [decode_some h0 ht] at h
        obtain ⟨h1, h2, _⟩ := tok_pos ht
        rw [decode_some (by simp; omega) (tok_append ht)]
        cases hd : decode (a.drop n) with
        | none => rw [hd] at h; cases h
        | some z =>
          rw [hd] at h; cases h
          rw [List.drop_append_of_le_length h2, ih _ _ (by simp; omega) hd, Option.map_map]
          congr 1; funext w; simp
    · have : a = [] := List.length_eq_zero_iff.1 (by omega)
      subst this
      rw [decode_nil] at h; cases h
      simp

theorem soft_ahead (b : List UInt8) : decode ([61, 13, 10] ++ b) = decode b := by
  rw [decode_some (x := []) (n := 3) (by simp) (by rfl)]
  simp
theorem soft_behind {b x : List UInt8} (h : decode b = some x) : decode (b ++ [61, 13, 10]) = some x := by
  rw [joins _ _ b x (Nat.le_refl _) h]
  have : decode [61, 13, 10] = some [] := by rfl
  rw [this]; simp

theorem dig_dg : ∀ n : Nat, n < 16 → dig (dg n) = some n ∧ (dg n).toNat ≠ 13 ∧ (dg n).toNat ≠ 10 ∧ 48 ≤ (dg n).toNat ∧ (dg n).toNat ≤ 70 := by decide +kernel
theorem dg_byte : ∀ n : Nat, n < 256 → UInt8.ofNat (16 * (n / 16) + n % 16) = UInt8.ofNat n := by decide +kernel

theorem code_cases (c : UInt8) (r : List UInt8) : (plainB c r = true ∧ code c r = [c] ∧ c.toNat ≠ 61 ∧ c.toNat ≠ 13 ∧ c.toNat ≠ 10 ∧ (c.toNat = 9 ∨ (32 ≤ c.toNat ∧ c.toNat ≤ 126))) ∨ code c r = [61, dg (c.toNat / 16), dg (c.toNat % 16)] := by
  unfold code
  by_cases h : plainB c r = true
  · left
    rw [if_pos h]
    refine ⟨h, rfl, ?_⟩
    cases r with
    | nil => rw [plainB_nil] at h; simp at h; omega
    | cons d r => rw [plainB_cons] at h; simp at h; omega
  · right; rw [if_neg h]

theorem back_code (c : UInt8) (r x : List UInt8) : decode (code c r ++ x) = (decode x).map ([c] ++ ·) := by
  rcases code_cases c r with ⟨_, h, h1, h2, h3, h4⟩ | h
  · rw [h, decode_some (x := [c]) (n := 1) (by simp) (by simp only [List.cons_append, tok]; rw [if_neg (by omega), if_neg h1, if_pos h4])]
    rfl
  · rw [h]
    have a1 := dig_dg (c.toNat / 16) (by have := c.toNat_lt; omega)
    have a2 := dig_dg (c.toNat % 16) (by omega)
    have ht : tok ([61, dg (c.toNat / 16), dg (c.toNat % 16)] ++ x) = some ([c], 3) := by
      simp only [List.cons_append, tok]
      have e : (61 : UInt8).toNat = 61 := rfl
      rw [if_neg (by rw [e]; omega), if_pos e, if_neg (by omega), a1.1, a2.1]
      simp only
      rw [dg_byte _ c.toNat_lt, UInt8.ofNat_toNat]
    rw [decode_some (by simp) ht]
    rfl

/-- What is coded is decoded. -/
theorem back : ∀ (b : List UInt8) (n : Nat), decode (enc n b) = some b := by
  intro b
  induction b with
  | nil => intro n; rfl
  | cons c r ih =>
    intro n
    unfold enc
    by_cases h : c.toNat = 10
    · rw [if_pos h, decode_some (x := [10]) (n := 2) (by simp) (by rfl)]
      show (decode (enc 0 r)).map ([10] ++ ·) = _; rw [ih]
      have : c = 10 := nat10.2 h
      rw [this]; rfl
    · rw [if_neg h]
      unfold put
      split
      · simp only [List.append_assoc]
        rw [soft_ahead, back_code, ih]; rfl
      · simp only
        rw [back_code, ih]; rfl

/-- What the law of lines looks for. -/
def chk : Nat → Nat → List UInt8 → Bool
  | p, _, [] => decide (p ≠ 32 ∧ p ≠ 9)
  | p, n, c :: r =>
    if c.toNat = 13 then decide ((r.map UInt8.toNat).head? = some 10 ∧ p ≠ 32 ∧ p ≠ 9) && chk 13 n r
    else if c.toNat = 10 then decide (p = 13) && chk 10 0 r
    else decide (n + 1 ≤ 76 ∧ (c.toNat = 9 ∨ (32 ≤ c.toNat ∧ c.toNat ≤ 126))) && chk c.toNat (n + 1) r

theorem chk_one (p n : Nat) (c : UInt8) (r : List UInt8) (h1 : c.toNat ≠ 13) (h2 : c.toNat ≠ 10) (h3 : n + 1 ≤ 76) (h4 : c.toNat = 9 ∨ (32 ≤ c.toNat ∧ c.toNat ≤ 126)) : chk p n (c :: r) = chk c.toNat (n + 1) r := by
  rw [chk, if_neg h1, if_neg h2, decide_eq_true ⟨h3, h4⟩, Bool.true_and]
theorem chk_crlf (p n : Nat) (r : List UInt8) (h : p ≠ 32 ∧ p ≠ 9) : chk p n (13 :: 10 :: r) = chk 10 0 r := by
  have e : (13 : UInt8).toNat = 13 := rfl
  have e2 : (10 : UInt8).toNat = 10 := rfl
  rw [chk, if_pos e, decide_eq_true ⟨rfl, h⟩, Bool.true_and, chk, if_neg (by rw [e2]; omega), if_pos e2, decide_eq_true rfl, Bool.true_and]

theorem chk_code (c : UInt8) (r x : List UInt8) (q m : Nat) (hm : m + (code c r).length ≤ 75)
    (hx : ∀ p, ((p = 32 ∨ p = 9) → ∃ d r', r = d :: r' ∧ d.toNat ≠ 10) → chk p (m + (code c r).length) x = true) : chk q m (code c r ++ x) = true := by
  rcases code_cases c r with ⟨h0, h, h1, h2, h3, h4⟩ | h
  · rw [h] at hm hx ⊢
    rw [List.cons_append, chk_one _ _ _ _ h2 h3 (by simp at hm; omega) h4]
    refine hx _ fun hp => ?_
    cases r with
    | nil => rw [plainB_nil] at h0; simp at h0; omega
    | cons d r' =>
      refine ⟨d, r', rfl, ?_⟩
      rw [plainB_cons] at h0; simp at h0; omega
  · rw [h] at hm hx ⊢
    simp only [List.length_cons, List.length_nil] at hm
    have a1 := dig_dg (c.toNat / 16) (by have := c.toNat_lt; omega)
    have a2 := dig_dg (c.toNat % 16) (by omega)
    have e : (61 : UInt8).toNat = 61 := rfl
    simp only [List.cons_append, List.nil_append]
    rw [chk_one _ _ _ _ (by rw [e]; omega) (by rw [e]; omega) (by omega) (by rw [e]; omega), chk_one _ _ _ _ (by omega) (by omega) (by omega) (by omega), chk_one _ _ _ _ (by omega) (by omega) (by omega) (by omega)]
    exact hx _ (fun hp => by omega)

theorem lines : ∀ (b : List UInt8) (n p : Nat), n ≤ 75 → ((p = 32 ∨ p = 9) → ∃ d r, b = d :: r ∧ d.toNat ≠ 10) → chk p n (enc n b) = true := by
  intro b
  induction b with
  | nil =>
    intro n p hn hp
    rw [enc, chk]
    have : ¬(p = 32 ∨ p = 9) := fun h => by obtain ⟨d, r, h, _⟩ := hp h; cases h
    simp; omega
  | cons c r ih =>
    intro n p hn hp
    unfold enc
    by_cases h : c.toNat = 10
    · rw [if_pos h]
      have : ¬(p = 32 ∨ p = 9) := fun h' => by obtain ⟨d, r', h1, h2⟩ := hp h'; cases h1; omega
      simp only [List.cons_append, List.nil_append]
      rw [chk_crlf _ _ _ (by omega)]
      exact ih 0 10 (by omega) (by omega)
    · rw [if_neg h]
      have hl := code_length c r
      unfold put
      split
      · have e : (61 : UInt8).toNat = 61 := rfl
        simp only [List.cons_append, List.nil_append]
        rw [chk_one _ _ _ _ (by rw [e]; omega) (by rw [e]; omega) (by omega) (by rw [e]; omega), chk_crlf _ _ _ (by rw [e]; omega)]
        refine chk_code c r _ 10 0 (by omega) fun p hp => ?_
        rw [Nat.zero_add]
        exact ih _ p (by omega) hp
      · refine chk_code c r _ p n (by omega) fun p hp => ?_
        exact ih _ p (by omega) hp

/-- Letters and digits, and blanks that are not the last. -/
def okP : List UInt8 → Prop
  | [] => True
  | c :: r => (((97 ≤ c.toNat ∧ c.toNat ≤ 122) ∨ (48 ≤ c.toNat ∧ c.toNat ≤ 57)) ∨ (c.toNat = 32 ∧ r ≠ [])) ∧ okP r

theorem plainP : ∀ (s : List UInt8) (n : Nat), n + s.length ≤ 75 → okP s → enc n s = s := by
  intro s
  induction s with
  | nil => intro n _ _; rfl
  | cons c r ih =>
    intro n hn h
    obtain ⟨h1, h2⟩ := h
    simp only [List.length_cons] at hn
    have hp : plainB c r = true := by
      cases r with
      | nil => rw [plainB_nil]; simp; rcases h1 with h1 | ⟨_, h1⟩; omega; exact absurd rfl h1
      | cons d r =>
        have h3 := h2.1
        rw [plainB_cons]; simp; omega
    have hc : code c r = [c] := by unfold code; rw [if_pos hp]
    unfold enc
    rw [if_neg (by omega), hc, put_short _ _ (by simp; omega)]
    simp only [List.length_cons, List.length_nil]
    rw [ih _ (by omega) h2]; rfl

theorem awake1 : enc 0 [195, 169, 10] = [61, 67, 51, 61, 65, 57, 13, 10] := by decide +kernel
theorem enc_length : ∀ (b : List UInt8) (n : Nat), (enc n b).length ≤ 6 * b.length := by
  intro b
  induction b with
  | nil => intro n; simp [enc]
  | cons c r ih =>
    intro n
    have hl := code_length c r
    have h1 := ih 0
    unfold enc put
    split
    · simp; omega
    · split
      · have := ih (code c r).length; simp; omega
      · have := ih (n + (code c r).length); simp; omega

theorem decode_length : ∀ (k : Nat) (b x : List UInt8), b.length ≤ k → decode b = some x → x.length ≤ b.length := by
  intro k
  induction k with
  | zero =>
    intro b x hb h
    have : b = [] := List.length_eq_zero_iff.1 (by omega)
    subst this
    rw [decode_nil] at h; cases h; simp
  | succ k ih =>
    intro b x hb h
    by_cases h0 : 0 < b.length
    · cases ht : tok b with
      | none => rw [decode_none h0 ht] at h; cases h
      | some p =>
        obtain ⟨y, n⟩ := p
        rw [decode_some h0 ht] at h
        obtain ⟨h1, h2, h3⟩ := tok_pos ht
        cases hd : decode (b.drop n) with
        | none => rw [hd] at h; cases h
        | some z =>
          rw [hd] at h; cases h
          have := ih (b.drop n) z (by simp; omega) hd
          simp at this ⊢; omega
    · have : b = [] := List.length_eq_zero_iff.1 (by omega)
      subst this
      rw [decode_nil] at h; cases h; simp
theorem decode_len (b : List UInt8) : ((decode b).getD []).length ≤ b.length := by
  cases h : decode b with
  | none => simp
  | some x => exact decode_length _ b x (Nat.le_refl _) h

/-- The byte's number ahead of a place, or 0. -/
def pv (x : List UInt8) (i : Nat) : Nat := if i = 0 then 0 else nxt x (i - 1)
theorem pv_zero (x : List UInt8) : pv x 0 = 0 := rfl
theorem pv_pos (x : List UInt8) (i : Nat) (h : i - 1 < x.length) (h0 : 0 < i) : pv x i = x[i - 1].toNat := by
  unfold pv; rw [if_neg (by omega), nxt_in x _ h]
theorem pv_next (x : List UInt8) (i : Nat) (h : i < x.length) : pv x (i + 1) = x[i].toNat := by
  unfold pv; rw [if_neg (by omega)]; exact nxt_in x i h
theorem chk13 {x : List UInt8} {i n : Nat} (hi : i < x.length) (h : chk (pv x i) n (x.drop i) = true) (e : x[i].toNat = 13) : nxt x (i + 1) = 10 ∧ pv x i ≠ 32 ∧ pv x i ≠ 9 ∧ chk (pv x (i + 1)) n (x.drop (i + 1)) = true := by
  rw [List.drop_eq_getElem_cons hi, chk, if_pos e, Bool.and_eq_true, decide_eq_true_eq] at h
  rw [pv_next x i hi, e]
  exact ⟨(hd_nxt _ _).1 h.1.1, h.1.2.1, h.1.2.2, h.2⟩
theorem chk10 {x : List UInt8} {i n : Nat} (hi : i < x.length) (h : chk (pv x i) n (x.drop i) = true) (e : x[i].toNat = 10) : pv x i = 13 ∧ chk (pv x (i + 1)) 0 (x.drop (i + 1)) = true := by
  rw [List.drop_eq_getElem_cons hi, chk, if_neg (by omega), if_pos e, Bool.and_eq_true, decide_eq_true_eq] at h
  rw [pv_next x i hi, e]
  exact h
theorem chkc {x : List UInt8} {i n : Nat} (hi : i < x.length) (h : chk (pv x i) n (x.drop i) = true) (e : x[i].toNat ≠ 13) (e2 : x[i].toNat ≠ 10) : n + 1 ≤ 76 ∧ (x[i].toNat = 9 ∨ (32 ≤ x[i].toNat ∧ x[i].toNat ≤ 126)) ∧ chk (pv x (i + 1)) (n + 1) (x.drop (i + 1)) = true := by
  rw [List.drop_eq_getElem_cons hi, chk, if_neg e, if_neg e2, Bool.and_eq_true, decide_eq_true_eq] at h
  rw [pv_next x i hi]
  exact ⟨h.1.1, h.1.2, h.2⟩
theorem okP_step {s : List UInt8} {i : Nat} (hi : i < s.length) (h : ((97 ≤ s[i].toNat ∧ s[i].toNat ≤ 122) ∨ (48 ≤ s[i].toNat ∧ s[i].toNat ≤ 57)) ∨ (s[i].toNat = 32 ∧ i + 1 ≠ s.length)) (h0 : okP (s.drop i) → okP s) : okP (s.drop (i + 1)) → okP s := by
  intro h1
  refine h0 ?_
  rw [List.drop_eq_getElem_cons hi]
  refine ⟨?_, h1⟩
  rcases h with h | ⟨h, h2⟩
  · exact .inl h
  · refine .inr ⟨h, fun h3 => ?_⟩
    have := congrArg List.length h3
    simp at this; omega
end Go.Av.Qp
