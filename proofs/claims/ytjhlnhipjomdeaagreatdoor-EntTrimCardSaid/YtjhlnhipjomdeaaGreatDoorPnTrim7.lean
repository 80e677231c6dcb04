/-
  Texts in one: PnTrim, PnWordsE, PnTrimE.
-/
import Derived.Test.YtjhlnhipjomdeaaGreatDoorEntAP
import Derived.Test.YtjhlnhipjomdeaaGreatDoorRefEP
import Derived.Test.YtjhlnhipjomdeaaGreatDoorLEntWordsP
import Derived.Test.YtjhlnhipjomdeaaGreatDoorLEntTrimP
set_option linter.unusedVariables false
set_option linter.unusedSimpArgs false
namespace Go.Pn
open Go.Pv Go.Av

abbrev Bs := List UInt8
/-- A blank. -/
def bl (c : UInt8) : Bool := (((decide (c = 9)) || (decide (c = 10))) || (decide (c = 13))) || (decide (c = 32))
mutual
/-- Behind a sign. -/
def T1 : Bs → Bs
  | [] => []
  | c :: r => bif bl c then T2 r else c :: T1 r
/-- In a gap behind a sign. -/
def T2 : Bs → Bs
  | [] => []
  | c :: r => bif bl c then T2 r else 32 :: c :: T1 r
end
/-- Without blanks at its ends, and with one where there are several. -/
def trim : Bs → Bs
  | [] => []
  | c :: r => bif bl c then trim r else c :: T1 r

theorem ref07_Space_eq (F : Nat) (c : UInt8) : ref07_Space F c = some (bl c) := rfl

def tl (out : Bs) (gap : Bool) (r : Bs) : Bs := if out = [] then trim r else bif gap then T2 r else T1 r

theorem ref07_loop (F : Nat) (s : Bs) (hs : s.length ≤ 1000000) : ∀ (n : Nat) (out : Bs) (gap : Bool) (i : Nat), s.length - i < n → i ≤ s.length → out.length + gap.toNat ≤ i → (gap = true → out ≠ []) →
    ref07_Trim_L1 F s n (out, gap, (i : Int)) = some (out ++ tl out gap (s.drop i)) := by
  intro n
  induction n with
  | zero => intro out gap i h; omega
  | succ n ih =>
    intro out gap i hn hi ho hg
    show ref07_Trim_B1 F s (ref07_Trim_L1 F s n) out gap (i : Int) = _
    unfold ref07_Trim_B1 ref07_Trim_j3 ref07_Trim_j2 ref07_Trim_j1
    by_cases h : i < s.length
    · have hd : s.drop i = s[i] :: s.drop (i + 1) := List.drop_eq_getElem_cons h
      simp (disch := omega) only [bT, grd_At, lt_eq, at_nat h, ref07_Space_eq, bnd_some, grd_I, cast_succ]
      rw [hd]
      cases hb : bl s[i] with
      | true =>
        simp only [cond_true]
        by_cases h0 : out = []
        · subst h0
          rw [ih _ _ _ (by omega) (by omega) (by simp) (by simp)]
          simp [tl, trim, hb]
        · have h1 : (0 : Int) < out.length := by have := List.length_pos_iff.2 h0; omega
          rw [decide_eq_true h1, ih _ _ _ (by omega) (by omega) (by simp; omega) (fun _ => h0)]
          cases gap <;> simp [tl, h0, T1, T2, hb]
      | false =>
        simp only [cond_false]
        cases gap with
        | true =>
          have h0 := hg rfl
          have h1 : out.length + 1 ≤ i := ho
          simp (disch := (simp; omega)) only [cond_true, grd_Cat]
          rw [ih _ _ _ (by omega) (by omega) (by simp; omega) (by simp)]
          simp [tl, h0, T2, hb]
        | false =>
          have h1 : out.length ≤ i := ho
          simp (disch := (simp; omega)) only [cond_false, grd_Cat]
          rw [ih _ _ _ (by omega) (by omega) (by simp; omega) (by simp)]
          by_cases h0 : out = []
          · subst h0; simp [tl, trim, hb]
          · simp [tl, h0, T1, hb]
    · have hi2 : i = s.length := by omega
      subst hi2
      simp (disch := omega) only [bF, List.drop_length]
      simp [tl, trim, T1, T2]
theorem ref07_Trim_eq (F : Nat) (s : Bs) (hs : s.length ≤ 1000000) (hF : s.length < F) : ref07_Trim F s = some (trim s) := by
  have := ref07_loop F s hs F [] false 0 (by omega) (by omega) (by simp) (by simp)
  simpa [tl, ref07_Trim] using this

/-! The words, and how ent.Trim finds them. -/
/-- The words of a text, of which the first one has begun by cur. -/
def wgo (cur : Bs) : Bs → List Bs
  | [] => if cur = [] then [] else [cur]
  | c :: r => bif bl c then (if cur = [] then wgo [] r else cur :: wgo [] r) else wgo (cur ++ [c]) r

theorem rest_wgo (s : Bs) : (∀ cur : Bs, cur ≠ [] → Str.join [32] (wgo cur s) = cur ++ T1 s) ∧ Str.join [32] (wgo [] s) = trim s ∧ Str.rest [32] (wgo [] s) = T2 s := by
  induction s with
  | nil => exact ⟨fun cur h => by simp [wgo, h, Str.join, Str.rest, T1], by simp [wgo, Str.join, trim], by simp [wgo, Str.rest, T2]⟩
  | cons c r ih =>
    obtain ⟨h1, h2, h3⟩ := ih
    cases hb : bl c with
    | true =>
      refine ⟨fun cur h => ?_, ?_, ?_⟩
      · simp [wgo, hb, h, Str.join, T1, h3]
      · simp [wgo, hb, trim, h2]
      · simp [wgo, hb, T2, h3]
    | false =>
      have h4 := h1 [c] (by simp)
      refine ⟨fun cur h => ?_, ?_, ?_⟩
      · simp only [wgo, hb, cond_false, T1]
        rw [h1 _ (by simp)]; simp
      · simp only [wgo, hb, cond_false, trim, List.nil_append]
        rw [h4]; rfl
      · simp only [wgo, hb, cond_false, T2, List.nil_append]
        have : Str.rest [32] (wgo [c] r) = 32 :: Str.join [32] (wgo [c] r) := by
          cases hw : wgo [c] r with
          | nil => rw [hw] at h4; simp [Str.join] at h4
          | cons w ws => simp [Str.rest, Str.join]
        rw [this, h4]; rfl
theorem join_wgo (s : Bs) : Str.join [32] (wgo [] s) = trim s := (rest_wgo s).2.1

theorem wgo_total (s : Bs) : ∀ cur : Bs, Str.total (wgo cur s) + (wgo cur s).length ≤ cur.length + s.length + 1 := by
  induction s with
  | nil => intro cur; by_cases h : cur = [] <;> simp [wgo, h, Str.total]
  | cons c r ih =>
    intro cur
    cases hb : bl c with
    | true =>
      have := ih []
      by_cases h : cur = []
      · simp [wgo, hb, h] at this ⊢; omega
      · simp [wgo, hb, h, Str.total] at this ⊢; omega
    | false =>
      have := ih (cur ++ [c])
      simp [wgo, hb] at this ⊢; omega

theorem ent_Space_eq (F : Nat) (c : UInt8) : ent_Space F c = some (bl c) := by
  have : ∀ n : Nat, n < 256 → decide (0 ≤ Go.Lib.indexByte ([9, 10, 13, 32] : List UInt8) (UInt8.ofNat n)) = bl (UInt8.ofNat n) := by decide +kernel
  have h := this c.toNat c.toNat_lt
  rw [UInt8.ofNat_toNat] at h
  unfold ent_Space
  simp only [lt_eq]
  rw [h]

theorem total_append (a b : List Bs) : Str.total (a ++ b) = Str.total a + Str.total b := by
  induction a with
  | nil => simp [Str.total]
  | cons x a ih => simp [Str.total, ih]; omega

theorem ent_end (F : Nat) (s : Bs) (hs : s.length ≤ 1000000) (n : Nat) (l : List Bs) (hl : l.length + Str.total l ≤ 100000000) (hn1 : n ≥ 1) : ent_Trim_L1 F s n (l, (-1), ((s.length + 1 : Nat) : Int)) = some (Str.join [32] l) := by
  obtain ⟨m, rfl⟩ : ∃ m, n = m + 1 := ⟨n - 1, by omega⟩
  show ent_Trim_B1 F s (ent_Trim_L1 F s m) l (-1) ((s.length + 1 : Nat) : Int) = _
  unfold ent_Trim_B1 ent_Trim_j1
  have h1 : ¬ (((s.length + 1 : Nat) : Int) ≤ (s.length : Int)) := by omega
  rw [bF h1, grd_Join (by simp; omega), lt_eq]
theorem ent_loop (F : Nat) (s : Bs) (hs : s.length ≤ 1000000) : ∀ (n : Nat) (l : List Bs) (fr : Int) (cur : Bs) (i : Nat), s.length + 1 - i < n → i ≤ s.length → l.length ≤ i →
    ((fr = -1 ∧ cur = []) ∨ ∃ f : Nat, fr = (f : Int) ∧ f < i ∧ cur = (s.take i).drop f) → (l ++ wgo cur (s.drop i)).length + Str.total (l ++ wgo cur (s.drop i)) ≤ 100000000 →
    ent_Trim_L1 F s n (l, fr, (i : Int)) = some (Str.join [32] (l ++ wgo cur (s.drop i))) := by
  intro n
  induction n with
  | zero => intro l fr cur i h; omega
  | succ n ih =>
    intro l fr cur i hn hi hl hf hJ
    show ent_Trim_B1 F s (ent_Trim_L1 F s n) l fr (i : Int) = _
    unfold ent_Trim_B1 ent_Trim_j2
    have hend : ∀ l : List Bs, l.length + Str.total l ≤ 100000000 → n ≥ 1 → ent_Trim_L1 F s n (l, (-1), ((s.length + 1 : Nat) : Int)) = some (Str.join [32] l) := ent_end F s hs n
    by_cases h : i < s.length
    · have hd : s.drop i = s[i] :: s.drop (i + 1) := List.drop_eq_getElem_cons h
      have hne : decide ((i : Int) = (s.length : Int)) = false := decide_eq_false (by omega)
      simp (disch := omega) only [bT, hne, Bool.not_false, grdc_t, grd_At, lt_eq, at_nat h, ent_Space_eq, bndc_t, bnd_some, Bool.false_or]
      rw [hd] at hJ ⊢
      cases hb : bl s[i] with
      | true =>
        simp only [wgo, hb, cond_true] at hJ ⊢
        rcases hf with ⟨rfl, rfl⟩ | ⟨f, rfl, hfi, rfl⟩
        · simp only [if_true] at hJ ⊢
          simp (disch := omega) only [Bool.not_true, Bool.false_and, cond_false, Bool.true_and, bF, grd_I, cast_succ]
          exact ih l (-1) [] (i + 1) (by omega) (by omega) (by omega) (.inl ⟨rfl, rfl⟩) hJ
        · have hc : (s.take i).drop f ≠ [] := by
            intro h2; have := congrArg List.length h2; simp at this; omega
          simp only [hc, if_false] at hJ ⊢
          simp (disch := (first | omega | (simp; omega))) only [Bool.not_true, Bool.false_and, cond_false, Bool.true_and, bT, grd_Sub, grd_Cat, sub_nat, grd_I, cast_succ]
          rw [ih (l ++ [(s.take i).drop f]) (-1) [] (i + 1) (by omega) (by omega) (by simp; omega) (.inl ⟨rfl, rfl⟩) (by simpa using hJ)]
          simp
      | false =>
        simp only [wgo, hb, cond_false] at hJ ⊢
        rcases hf with ⟨rfl, rfl⟩ | ⟨f, rfl, hfi, rfl⟩
        · simp (disch := omega) only [Bool.not_false, Bool.true_and, bT, grd_I, cast_succ]
          have hc : ([] : Bs) ++ [s[i]] = (s.take (i + 1)).drop i := by
            rw [List.take_succ_eq_append_getElem h, List.drop_append_of_le_length (by simp; omega), List.drop_eq_nil_of_le (by simp; omega)]
          rw [hc] at hJ ⊢
          exact ih l (i : Int) _ (i + 1) (by omega) (by omega) (by omega) (.inr ⟨i, rfl, by omega, rfl⟩) hJ
        · simp (disch := omega) only [Bool.not_false, Bool.true_and, bF, Bool.false_and, cond_false, grd_I, cast_succ]
          have hc : (s.take i).drop f ++ [s[i]] = (s.take (i + 1)).drop f := by
            rw [List.take_succ_eq_append_getElem h, List.drop_append_of_le_length (by simp; omega)]
          rw [hc] at hJ ⊢
          exact ih l (f : Int) _ (i + 1) (by omega) (by omega) (by omega) (.inr ⟨f, rfl, by omega, rfl⟩) hJ
    · have hi2 : i = s.length := by omega
      subst hi2
      have hyes : decide ((s.length : Int) = (s.length : Int)) = true := decide_eq_true rfl
      simp (disch := omega) only [bT, hyes, Bool.not_true, grdc_f, lt_eq, ent_Space_eq, bndc_f, Bool.true_or, List.drop_length] at hJ ⊢
      rcases hf with ⟨rfl, rfl⟩ | ⟨f, rfl, hfi, rfl⟩
      · simp (disch := omega) only [Bool.false_and, cond_false, Bool.true_and, bF, grd_I, cast_succ]
        rw [hend l (by simpa [wgo] using hJ) (by omega)]
        simp [wgo, grdc_f, bndc_f]
      · have hc : (s.take s.length).drop f ≠ [] := by
          intro h2; have := congrArg List.length h2; simp at this; omega
        simp only [wgo, hc, if_false] at hJ ⊢
        simp (disch := (first | omega | (simp; omega))) only [Bool.false_and, cond_false, Bool.true_and, bT, grd_Sub, grd_Cat, sub_nat, grd_I, cast_succ]
        exact hend _ hJ (by omega)
theorem ent_Trim_eq (F : Nat) (s : Bs) (hs : s.length ≤ 1000000) (hF : s.length + 1 < F) : ent_Trim F s = some (trim s) := by
  have h1 := wgo_total s []
  have := ent_loop F s hs F [] (-1) [] 0 (by omega) (by omega) (by simp) (.inl ⟨rfl, rfl⟩) (by simp at h1 ⊢; omega)
  rw [← join_wgo]
  simpa [ent_Trim] using this
end Go.Pn
namespace Go.Pn
open Go.Pv Go.Av

theorem T2_trim : ∀ s : Bs, T2 s = if trim s = [] then [] else 32 :: trim s := by
  intro s
  induction s with
  | nil => simp [T2, trim]
  | cons c r ih =>
    cases hb : bl c with
    | true => simp only [T2, trim, hb, cond_true, ih]
    | false => simp [T2, trim, hb]
theorem T_app (b : Bs) : ∀ a : Bs, T1 (a ++ 10 :: b) = T1 a ++ T2 b ∧ T2 (a ++ 10 :: b) = T2 a ++ T2 b := by
  intro a
  induction a with
  | nil => exact ⟨rfl, rfl⟩
  | cons c r ih =>
    cases hb : bl c with
    | true => simp only [List.cons_append, T1, T2, hb, cond_true, ih.2, and_self]
    | false => simp only [List.cons_append, T1, T2, hb, cond_false, ih.1, and_self]
theorem trim_app (b : Bs) : ∀ a : Bs, trim (a ++ 10 :: b) = if trim a = [] then trim b else trim a ++ T2 b := by
  intro a
  induction a with
  | nil => rfl
  | cons c r ih =>
    cases hb : bl c with
    | true => simp only [List.cons_append, trim, hb, cond_true, ih]
    | false => simp [trim, hb, (T_app b r).1]
theorem T_len : ∀ s : Bs, (T1 s).length ≤ s.length ∧ (T2 s).length ≤ s.length + 1 := by
  intro s
  induction s with
  | nil => simp [T1, T2]
  | cons c r ih => cases hb : bl c <;> simp [T1, T2, hb] <;> omega
theorem trim_len : ∀ s : Bs, (trim s).length ≤ s.length := by
  intro s
  induction s with
  | nil => simp [trim]
  | cons c r ih =>
    have := (T_len r).1
    cases hb : bl c <;> simp [trim, hb] <;> omega
theorem awake07 : law07_awake 4000 = some true := by decide +kernel
theorem EntWords_t (a b : Bs) : law07_EntWords 4000 a b = some true := by
  unfold law07_EntWords
  rw [awake07, bnd_some]
  by_cases ha : 300 < a.length
  · rw [decide_eq_true (show 300 < (a.length : Int) by omega)]; rfl
  · by_cases hb : 300 < b.length
    · rw [decide_eq_true (show 300 < (b.length : Int) by omega), Bool.or_true]; rfl
    · have la := trim_len a
      have lb := trim_len b
      rw [decide_eq_false (show ¬ 300 < (a.length : Int) by omega), decide_eq_false (show ¬ 300 < (b.length : Int) by omega)]
      simp only [Bool.not_true, Bool.or_self, cond_false]
      rw [ent_Trim_eq 4000 a (by omega) (by omega), bnd_some, ent_Trim_eq 4000 b (by omega) (by omega), bnd_some, grd_Cat (by simp; omega), lt_eq, grd_Cat (by simp; omega), lt_eq, ent_Trim_eq 4000 _ (by simp; omega) (by simp; omega), bnd_some]
      have e : trim (a ++ [10] ++ b) = if trim a = [] then trim b else trim a ++ T2 b := by
        rw [← trim_app]; simp
      rw [e, T2_trim]
      by_cases h1 : trim a = []
      · rw [decide_eq_true h1, Bool.true_or, cond_true, grd_Cat (by omega), lt_eq, if_pos h1, h1, List.nil_append]; simp
      · by_cases h2 : trim b = []
        · rw [decide_eq_true h2, Bool.or_true, cond_true, grd_Cat (by omega), lt_eq, if_neg h1, if_pos h2, h2]; simp
        · rw [decide_eq_false h1, decide_eq_false h2, Bool.or_self, cond_false, grd_Cat (by simp; omega), lt_eq, grd_Cat (by simp; omega), lt_eq, if_neg h1, if_neg h2]; simp
end Go.Pn
namespace Go.Pn
open Go.Pv Go.Av

theorem fand (b : Bool) : (false && b) = false := Eq.symm (Eq.symm rfl)
theorem tand (b : Bool) : (true && b) = b := Eq.symm (Eq.symm rfl)
theorem bandf (b : Bool) : (b && false) = false := by cases b <;> rfl
theorem bandt (b : Bool) : (b && true) = b := by cases b <;> rfl
theorem borf (b : Bool) : (b || false) = b := by cases b <;> rfl
theorem ntt : (!true) = false := Eq.symm (Eq.symm rfl)
theorem nff : (!false) = true := Eq.symm (Eq.symm rfl)
theorem cdf {α : Type} (a b : α) : cond false a b = b := Eq.symm (Eq.symm rfl)
theorem cdt {α : Type} (a b : α) : cond true a b = a := Eq.symm (Eq.symm rfl)
/-- Behind a sign: one blank at most, and a sign behind it. -/
inductive P1 : Bs → Prop
  | nil : P1 []
  | sign {c : UInt8} {t : Bs} (h : bl c = false) (g : P1 t) : P1 (c :: t)
  | gap {c : UInt8} {t : Bs} (h : bl c = false) (g : P1 t) : P1 (32 :: c :: t)
theorem P1_T (r : Bs) : P1 (T1 r) ∧ P1 (T2 r) := by
  induction r with
  | nil => exact ⟨.nil, .nil⟩
  | cons c r ih =>
    cases hb : bl c with
    | true => simp only [T1, T2, hb, cond_true]; exact ⟨ih.2, ih.2⟩
    | false => simp only [T1, T2, hb, cond_false]; exact ⟨.sign hb ih.1, .gap hb ih.1⟩
theorem bl32 : bl 32 = true := by decide
theorem T1_P1 {t : Bs} (h : P1 t) : T1 t = t := by
  induction h with
  | nil => rfl
  | sign h g ih => simp only [T1, h, cond_false, ih]
  | gap h g ih => simp only [T1, T2, bl32, h, cond_false, cond_true, ih]
theorem trim_form (s : Bs) : trim s = [] ∨ ∃ c t, trim s = c :: t ∧ bl c = false ∧ P1 t := by
  induction s with
  | nil => exact .inl rfl
  | cons c r ih =>
    cases hb : bl c with
    | true => simp only [trim, hb, cond_true]; exact ih
    | false => simp only [trim, hb, cond_false]; exact .inr ⟨c, _, rfl, hb, (P1_T r).1⟩
theorem trim_trim (s : Bs) : trim (trim s) = trim s := by
  rcases trim_form s with h | ⟨c, t, h, hc, ht⟩
  · rw [h]; rfl
  · rw [h]; simp only [trim, hc, cond_false, T1_P1 ht]

theorem drop_cons {x : Bs} {j : Nat} {c : UInt8} {t : Bs} (h : x.drop j = c :: t) : j < x.length ∧ at_ x (j : Int) = c ∧ x.drop (j + 1) = t := by
  have hl : j < x.length := by
    refine Nat.lt_of_not_le fun hn => ?_
    rw [List.drop_eq_nil_of_le hn] at h; cases h
  rw [List.drop_eq_getElem_cons hl] at h
  injection h with h1 h2
  exact ⟨hl, by rw [at_nat hl]; exact h1, h2⟩
theorem drop_nil {x : Bs} {j : Nat} (h : x.drop j = []) : x.length ≤ j := by
  simpa using h

theorem form_step (F : Nat) (x : Bs) (hx : x.length ≤ 1000) (y : Int) (k j : Nat) (c : UInt8) (t : Bs) (h : x.drop j = c :: t) (hc : bl c = false) : law07_EntTrim_L1 F x y (k + 1) (j : Int) = law07_EntTrim_L1 F x y k ((j + 1 : Nat) : Int) := by
  obtain ⟨hl, ha, _⟩ := drop_cons h
  show law07_EntTrim_B1 F x y (law07_EntTrim_L1 F x y k) (j : Int) = _
  unfold law07_EntTrim_B1
  rw [bT (by omega), grd_At (by omega), lt_eq, ha, ent_Space_eq, bnd_some, hc]
  simp only [fand, grdc_f, lt_eq, cdf]
  rw [grd_I (by omega), cast_succ]
theorem gap_step (F : Nat) (x : Bs) (hx : x.length ≤ 1000) (y : Int) (k j : Nat) (b c : UInt8) (t : Bs) (h : x.drop (j + 1) = 32 :: c :: t) (h0 : at_ x (j : Int) = b) (hb : bl b = false) : law07_EntTrim_L1 F x y (k + 1) ((j + 1 : Nat) : Int) = law07_EntTrim_L1 F x y k ((j + 1 + 1 : Nat) : Int) := by
  obtain ⟨hl, ha, hd⟩ := drop_cons h
  obtain ⟨hl2, _, _⟩ := drop_cons hd
  have n32 : b ≠ 32 := by rintro rfl; rw [bl32] at hb; cases hb
  have ej : ((j + 1 : Nat) : Int) - 1 = (j : Int) := by omega
  show law07_EntTrim_B1 F x y (law07_EntTrim_L1 F x y k) ((j + 1 : Nat) : Int) = _
  unfold law07_EntTrim_B1
  have d0 : decide (((j + 1 : Nat) : Int) = 0) = false := decide_eq_false (by omega)
  have d1 : decide (((j + 1 : Nat) : Int) = (x.length : Int) - 1) = false := decide_eq_false (by omega)
  rw [bT (by omega), grd_At (by omega), lt_eq, ha, ent_Space_eq, bnd_some, bl32, d0, d1, ej, h0]
  simp only [lt_eq]
  rw [decide_eq_false n32]
  simp only [decide_true, ntt, nff, borf, bandt, bandf, tand, cdf, grdc_t]
  rw [grd_At (by omega), grd_I (by omega), grd_I (by omega), grd_At (by omega), grd_I (by omega), cast_succ]
theorem form_end (F : Nat) (x : Bs) (k : Nat) : law07_EntTrim_L1 F x (x.length : Int) (k + 1) (x.length : Int) = some true := by
  show law07_EntTrim_B1 F x _ (law07_EntTrim_L1 F x _ k) _ = _
  unfold law07_EntTrim_B1 law07_EntTrim_j1
  rw [bF (by omega), decide_eq_true rfl]
theorem form_rest (F : Nat) (x : Bs) (hx : x.length ≤ 1000) : ∀ (t : Bs), P1 t → ∀ (j k : Nat) (b : UInt8), x.drop (j + 1) = t → at_ x (j : Int) = b → bl b = false → t.length < k → j + 1 ≤ x.length → law07_EntTrim_L1 F x (x.length : Int) k ((j + 1 : Nat) : Int) = some true := by
  intro t h
  induction h with
  | nil =>
    intro j k b hd h0 hb hk hj
    obtain ⟨k, rfl⟩ : ∃ k', k = k' + 1 := ⟨k - 1, by omega⟩
    have := drop_nil hd
    have e : j + 1 = x.length := by omega
    rw [e]; exact form_end F x k
  | sign h g ih =>
    intro j k b hd h0 hb hk hj
    simp only [List.length_cons] at hk
    obtain ⟨k, rfl⟩ : ∃ k', k = k' + 1 := ⟨k - 1, by omega⟩
    obtain ⟨hl, ha, hd'⟩ := drop_cons hd
    rw [form_step F x hx _ k _ _ _ hd h]
    exact ih (j + 1) k _ hd' ha h (by omega) (by omega)
  | gap h g ih =>
    intro j k b hd h0 hb hk hj
    simp only [List.length_cons] at hk
    obtain ⟨k, rfl⟩ : ∃ k', k = k' + 1 + 1 := ⟨k - 2, by omega⟩
    obtain ⟨hl, ha, hd'⟩ := drop_cons hd
    obtain ⟨hl2, ha2, hd2⟩ := drop_cons hd'
    rw [gap_step F x hx _ (k + 1) j b _ _ hd h0 hb, form_step F x hx _ k _ _ _ hd' h]
    exact ih (j + 1 + 1) k _ hd2 ha2 h (by omega) (by omega)
theorem form_ok (F : Nat) (s : Bs) (hx : (trim s).length ≤ 1000) (k : Nat) (hk : (trim s).length < k) : law07_EntTrim_L1 F (trim s) ((trim s).length : Int) k 0 = some true := by
  obtain ⟨k, rfl⟩ : ∃ k', k = k' + 1 := ⟨k - 1, by omega⟩
  rcases trim_form s with h | ⟨c, t, h, hc, ht⟩
  · have := form_end F (trim s) k
    have e : (((trim s).length : Nat) : Int) = 0 := by rw [h]; rfl
    rw [e] at this ⊢
    exact this
  · have hd : (trim s).drop 0 = c :: t := by rw [List.drop_zero]; exact h
    obtain ⟨hl, ha, hd'⟩ := drop_cons hd
    have e := form_step F (trim s) hx ((trim s).length : Int) k 0 c t hd hc
    have hlen : (trim s).length = t.length + 1 := by rw [h]; rfl
    refine Eq.trans e ?_
    exact form_rest F (trim s) hx t ht 0 k c hd' ha hc (by omega) (by omega)

/-! ### The signs are those of the text -/
theorem at_step (a x : Bs) (ha : a.length ≤ 1000) (hx : x.length ≤ 1000) (i p : Nat) (rec : (Int × Int) → Option Bool) (c : UInt8) (t : Bs) (hi : i < a.length) (hc : at_ a (i : Int) = c) (h : x.drop p = c :: t) : law07_EntTrim_j4 a x (i : Int) rec (p : Int) = rec (((p + 1 : Nat) : Int), ((i + 1 : Nat) : Int)) := by
  obtain ⟨hl, hp, _⟩ := drop_cons h
  unfold law07_EntTrim_j4 law07_EntTrim_j3
  rw [decide_eq_false (show ¬ (x.length : Int) ≤ (p : Int) by omega)]
  simp only [nff, grdc_t]
  rw [grd_At (by omega), lt_eq, grd_At (by omega), lt_eq, hp, hc, decide_eq_true rfl]
  simp only [ntt, borf, cdf]
  rw [grd_I (by omega), grd_I (by omega), cast_succ, cast_succ]
theorem at_sign (a x : Bs) (ha : a.length ≤ 1000) (hx : x.length ≤ 1000) (i p n : Nat) (rec : (Int × Int) → Option Bool) (c : UInt8) (t : Bs) (hi : i < a.length) (hc : at_ a (i : Int) = c) (hb : bl c = false) (h : x.drop p = c :: t) : law07_EntTrim_L2 a x (i : Int) rec (n + 1) (p : Int) = rec (((p + 1 : Nat) : Int), ((i + 1 : Nat) : Int)) := by
  obtain ⟨hl, hp, _⟩ := drop_cons h
  have n32 : c ≠ 32 := by rintro rfl; rw [bl32] at hb; cases hb
  show law07_EntTrim_B2 a x (i : Int) rec (law07_EntTrim_L2 a x (i : Int) rec n) (p : Int) = _
  unfold law07_EntTrim_B2
  rw [decide_eq_true (show (p : Int) < (x.length : Int) by omega), grdc_t, grd_At (by omega), lt_eq, hp, decide_eq_false n32]
  simp only [bandf, cdf]
  exact at_step a x ha hx i p rec c t hi hc h
theorem at_gap (a x : Bs) (hx : x.length ≤ 1000) (i p n : Nat) (rec : (Int × Int) → Option Bool) (t : Bs) (h : x.drop p = 32 :: t) : law07_EntTrim_L2 a x (i : Int) rec (n + 1) (p : Int) = law07_EntTrim_L2 a x (i : Int) rec n ((p + 1 : Nat) : Int) := by
  obtain ⟨hl, hp, _⟩ := drop_cons h
  show law07_EntTrim_B2 a x (i : Int) rec (law07_EntTrim_L2 a x (i : Int) rec n) (p : Int) = _
  unfold law07_EntTrim_B2
  rw [decide_eq_true (show (p : Int) < (x.length : Int) by omega), grdc_t, grd_At (by omega), lt_eq, hp, decide_eq_true (show (32 : UInt8) = 32 from rfl)]
  simp only [bandt, cdt]
  rw [grd_I (by omega), cast_succ]
theorem signs_loop (F : Nat) (hF : 2 ≤ F) (a s : Bs) (ha : a.length ≤ 1000) (hx : (trim s).length ≤ 1000) (hFx : (trim s).length < F) : ∀ (k i p : Nat), a.length - i < k → i ≤ a.length → p ≤ (trim s).length → ((trim s).drop p = T1 (a.drop i) ∨ (trim s).drop p = T2 (a.drop i) ∨ (trim s).drop p = trim (a.drop i)) → law07_EntTrim_L3 F a (trim s) k ((p : Int), (i : Int)) = some true := by
  intro k
  induction k with
  | zero => intro i p h; omega
  | succ k ih =>
    intro i p hk hi hp h
    show law07_EntTrim_B3 F a (trim s) (law07_EntTrim_L3 F a (trim s) k) (p : Int) (i : Int) = _
    unfold law07_EntTrim_B3
    by_cases hl : i < a.length
    · have hd : a.drop i = a[i] :: a.drop (i + 1) := List.drop_eq_getElem_cons hl
      have hat : at_ a (i : Int) = a[i] := at_nat hl
      rw [bT (by omega), grd_At (by omega), lt_eq, hat, ent_Space_eq, bnd_some]
      rw [hd] at h
      cases hb : bl a[i] with
      | true =>
        simp only [T1, T2, trim, hb, cdt] at h
        rw [cdt]
        unfold law07_EntTrim_j3
        rw [grd_I (by omega), cast_succ]
        refine ih (i + 1) p (by omega) (by omega) hp ?_
        rcases h with h | h | h
        · exact .inr (.inl h)
        · exact .inr (.inl h)
        · exact .inr (.inr h)
      | false =>
        simp only [T1, T2, trim, hb, cdf] at h
        rw [cdf]
        obtain ⟨m, hm⟩ : ∃ m, F = m + 1 + 1 := ⟨F - 2, by omega⟩
        have one : ∀ q n : Nat, (trim s).drop q = a[i] :: T1 (a.drop (i + 1)) → law07_EntTrim_L2 a (trim s) (i : Int) (law07_EntTrim_L3 F a (trim s) k) (n + 1) (q : Int) = some true := by
          intro q n hq
          obtain ⟨hql, _, hq'⟩ := drop_cons hq
          rw [at_sign a (trim s) ha hx i q n _ _ _ hl hat hb hq]
          exact ih (i + 1) (q + 1) (by omega) (by omega) (by omega) (.inl hq')
        have lift : ∀ G, G = F → law07_EntTrim_L2 a (trim s) (i : Int) (law07_EntTrim_L3 F a (trim s) k) G (p : Int) = some true := by
          intro G hG
          rw [hG.trans hm]
          rcases h with h | h | h
          · exact one p (m + 1) h
          · rw [at_gap a (trim s) hx i p (m + 1) _ _ h]
            exact one (p + 1) m (drop_cons h).2.2
          · exact one p (m + 1) h
        exact lift F rfl
    · have hd : a.drop i = [] := List.drop_eq_nil_of_le (by omega)
      rw [hd] at h
      have h' : (trim s).drop p = [] := by
        rcases h with h | h | h
        · exact h
        · exact h
        · exact h
      have hpe : p = (trim s).length := by have := drop_nil h'; omega
      rw [bF (by omega)]
      unfold law07_EntTrim_j2
      rw [hpe]
      exact form_ok F s hx F hFx
theorem trim7 (F : Nat) (hA : law07_awake F = some true) (hF : 3000 < F) (s : Bs) : law07_EntTrim F s = some true := by
  unfold law07_EntTrim
  rw [hA, bnd_some]
  by_cases hs : 600 < (s.length : Int)
  · rw [decide_eq_true hs, Bool.or_true, cdt]
  · have ht := trim_len s
    rw [decide_eq_false hs]
    simp only [ntt, borf, cdf]
    rw [ent_Trim_eq F s (by omega) (by omega), bnd_some, ent_Trim_eq F (trim s) (by omega) (by omega), bnd_some, trim_trim, decide_eq_true rfl, ntt, cdf]
    exact signs_loop F (by omega) s s (by omega) (by omega) (by omega) F 0 0 (by omega) (by omega) (by omega) (.inr (.inr (by simp)))
theorem EntTrim_t (s : Bs) : law07_EntTrim 4000 s = some true := trim7 4000 awake07 (by omega) s
end Go.Pn
