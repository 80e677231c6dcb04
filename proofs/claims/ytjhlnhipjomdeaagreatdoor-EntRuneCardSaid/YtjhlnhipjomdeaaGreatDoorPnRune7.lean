/-
  Texts in one: PnTrim, PnPlainE, PnLoose, PnNum, PnSign, PnGone, PnLooseEq, PnLooseB, PnWordsE, PnApp, PnRuneE.
-/
import Derived.Test.YtjhlnhipjomdeaaGreatDoorEntAP
import Derived.Test.YtjhlnhipjomdeaaGreatDoorRefEP
import Derived.Test.YtjhlnhipjomdeaaGreatDoorEntBP
import Derived.Laws.RangeAny
import Derived.Test.YtjhlnhipjomdeaaGreatDoorLEntWordsP
import Derived.Test.YtjhlnhipjomdeaaGreatDoorLEntRuneP
set_option linter.unusedVariables false
set_option linter.unusedSimpArgs false
namespace Go.Pn
open Go.Pv Go.Av

abbrev Bs := List UInt8
/-- A blank. -/
def bl (c : UInt8) : Bool := (((decide (c = 9)) || (decide (c = 10))) || (decide (c = 13))) || (decide (c = 32))
mutual
/-- Behind a sign. -/
def T1 : Bs → Bs
  | [] => []
  | c :: r => bif bl c then T2 r else c :: T1 r
/-- In a gap behind a sign. -/
def T2 : Bs → Bs
  | [] => []
  | c :: r => bif bl c then T2 r else 32 :: c :: T1 r
end
/-- Without blanks at its ends, and with one where there are several. -/
def trim : Bs → Bs
  | [] => []
  | c :: r => bif bl c then trim r else c :: T1 r

theorem ref07_Space_eq (F : Nat) (c : UInt8) : ref07_Space F c = some (bl c) := rfl

def tl (out : Bs) (gap : Bool) (r : Bs) : Bs := if out = [] then trim r else bif gap then T2 r else T1 r

theorem ref07_loop (F : Nat) (s : Bs) (hs : s.length ≤ 1000000) : ∀ (n : Nat) (out : Bs) (gap : Bool) (i : Nat), s.length - i < n → i ≤ s.length → out.length + gap.toNat ≤ i → (gap = true → out ≠ []) →
    ref07_Trim_L1 F s n (out, gap, (i : Int)) = some (out ++ tl out gap (s.drop i)) := by
  intro n
  induction n with
  | zero => intro out gap i h; omega
  | succ n ih =>
    intro out gap i hn hi ho hg
    show ref07_Trim_B1 F s (ref07_Trim_L1 F s n) out gap (i : Int) = _
    unfold ref07_Trim_B1 ref07_Trim_j3 ref07_Trim_j2 ref07_Trim_j1
    by_cases h : i < s.length
    · have hd : s.drop i = s[i] :: s.drop (i + 1) := List.drop_eq_getElem_cons h
      simp (disch := omega) only [bT, grd_At, lt_eq, at_nat h, ref07_Space_eq, bnd_some, grd_I, cast_succ]
      rw [hd]
      cases hb : bl s[i] with
      | true =>
        simp only [cond_true]
        by_cases h0 : out = []
        · subst h0
          rw [ih _ _ _ (by omega) (by omega) (by simp) (by simp)]
          simp [tl, trim, hb]
        · have h1 : (0 : Int) < out.length := by have := List.length_pos_iff.2 h0; omega
          rw [decide_eq_true h1, ih _ _ _ (by omega) (by omega) (by simp; omega) (fun _ => h0)]
          cases gap <;> simp [tl, h0, T1, T2, hb]
      | false =>
        simp only [cond_false]
        cases gap with
        | true =>
          have h0 := hg rfl
          have h1 : out.length + 1 ≤ i := ho
          simp (disch := (simp; omega)) only [cond_true, grd_Cat]
          rw [ih _ _ _ (by omega) (by omega) (by simp; omega) (by simp)]
          simp [tl, h0, T2, hb]
        | false =>
          have h1 : out.length ≤ i := ho
          simp (disch := (simp; omega)) only [cond_false, grd_Cat]
          rw [ih _ _ _ (by omega) (by omega) (by simp; omega) (by simp)]
          by_cases h0 : out = []
          · subst h0; simp [tl, trim, hb]
          · simp [tl, h0, T1, hb]
    · have hi2 : i = s.length := by omega
      subst hi2
      simp (disch := omega) only [bF, List.drop_length]
      simp [tl, trim, T1, T2]
theorem ref07_Trim_eq (F : Nat) (s : Bs) (hs : s.length ≤ 1000000) (hF : s.length < F) : ref07_Trim F s = some (trim s) := by
  have := ref07_loop F s hs F [] false 0 (by omega) (by omega) (by simp) (by simp)
  simpa [tl, ref07_Trim] using this

/-! The words, and how ent.Trim finds them. -/
/-- The words of a text, of which the first one has begun by cur. -/
def wgo (cur : Bs) : Bs → List Bs
  | [] => if cur = [] then [] else [cur]
  | c :: r => bif bl c then (if cur = [] then wgo [] r else cur :: wgo [] r) else wgo (cur ++ [c]) r

theorem rest_wgo (s : Bs) : (∀ cur : Bs, cur ≠ [] → Str.join [32] (wgo cur s) = cur ++ T1 s) ∧ Str.join [32] (wgo [] s) = trim s ∧ Str.rest [32] (wgo [] s) = T2 s := by
  induction s with
  | nil => exact ⟨fun cur h => by simp [wgo, h, Str.join, Str.rest, T1], by simp [wgo, Str.join, trim], by simp [wgo, Str.rest, T2]⟩
  | cons c r ih =>
    obtain ⟨h1, h2, h3⟩ := ih
    cases hb : bl c with
    | true =>
      refine ⟨fun cur h => ?_, ?_, ?_⟩
      · simp [wgo, hb, h, Str.join, T1, h3]
      · simp [wgo, hb, trim, h2]
      · simp [wgo, hb, T2, h3]
    | false =>
      have h4 := h1 [c] (by simp)
      refine ⟨fun cur h => ?_, ?_, ?_⟩
      · simp only [wgo, hb, cond_false, T1]
        rw [h1 _ (by simp)]; simp
      · simp only [wgo, hb, cond_false, trim, List.nil_append]
        rw [h4]; rfl
      · simp only [wgo, hb, cond_false, T2, List.nil_append]
        have : Str.rest [32] (wgo [c] r) = 32 :: Str.join [32] (wgo [c] r) := by
          cases hw : wgo [c] r with
          | nil => rw [hw] at h4; simp [Str.join] at h4
          | cons w ws => simp [Str.rest, Str.join]
        rw [this, h4]; rfl
theorem join_wgo (s : Bs) : Str.join [32] (wgo [] s) = trim s := (rest_wgo s).2.1

theorem wgo_total (s : Bs) : ∀ cur : Bs, Str.total (wgo cur s) + (wgo cur s).length ≤ cur.length + s.length + 1 := by
  induction s with
  | nil => intro cur; by_cases h : cur = [] <;> simp [wgo, h, Str.total]
  | cons c r ih =>
    intro cur
    cases hb : bl c with
    | true =>
      have := ih []
      by_cases h : cur = []
      · simp [wgo, hb, h] at this ⊢; omega
      · simp [wgo, hb, h, Str.total] at this ⊢; omega
    | false =>
      have := ih (cur ++ [c])
      simp [wgo, hb] at this ⊢; omega

theorem ent_Space_eq (F : Nat) (c : UInt8) : ent_Space F c = some (bl c) := by
  have : ∀ n : Nat, n < 256 → decide (0 ≤ Go.Lib.indexByte ([9, 10, 13, 32] : List UInt8) (UInt8.ofNat n)) = bl (UInt8.ofNat n) := by decide +kernel
  have h := this c.toNat c.toNat_lt
  rw [UInt8.ofNat_toNat] at h
  unfold ent_Space
  simp only [lt_eq]
  rw [h]

theorem total_append (a b : List Bs) : Str.total (a ++ b) = Str.total a + Str.total b := by
  induction a with
  | nil => simp [Str.total]
  | cons x a ih => simp [Str.total, ih]; omega

theorem ent_end (F : Nat) (s : Bs) (hs : s.length ≤ 1000000) (n : Nat) (l : List Bs) (hl : l.length + Str.total l ≤ 100000000) (hn1 : n ≥ 1) : ent_Trim_L1 F s n (l, (-1), ((s.length + 1 : Nat) : Int)) = some (Str.join [32] l) := by
  obtain ⟨m, rfl⟩ : ∃ m, n = m + 1 := ⟨n - 1, by omega⟩
  show ent_Trim_B1 F s (ent_Trim_L1 F s m) l (-1) ((s.length + 1 : Nat) : Int) = _
  unfold ent_Trim_B1 ent_Trim_j1
  have h1 : ¬ (((s.length + 1 : Nat) : Int) ≤ (s.length : Int)) := by omega
  rw [bF h1, grd_Join (by simp; omega), lt_eq]
theorem ent_loop (F : Nat) (s : Bs) (hs : s.length ≤ 1000000) : ∀ (n : Nat) (l : List Bs) (fr : Int) (cur : Bs) (i : Nat), s.length + 1 - i < n → i ≤ s.length → l.length ≤ i →
    ((fr = -1 ∧ cur = []) ∨ ∃ f : Nat, fr = (f : Int) ∧ f < i ∧ cur = (s.take i).drop f) → (l ++ wgo cur (s.drop i)).length + Str.total (l ++ wgo cur (s.drop i)) ≤ 100000000 →
    ent_Trim_L1 F s n (l, fr, (i : Int)) = some (Str.join [32] (l ++ wgo cur (s.drop i))) := by
  intro n
  induction n with
  | zero => intro l fr cur i h; omega
  | succ n ih =>
    intro l fr cur i hn hi hl hf hJ
    show ent_Trim_B1 F s (ent_Trim_L1 F s n) l fr (i : Int) = _
    unfold ent_Trim_B1 ent_Trim_j2
    have hend : ∀ l : List Bs, l.length + Str.total l ≤ 100000000 → n ≥ 1 → ent_Trim_L1 F s n (l, (-1), ((s.length + 1 : Nat) : Int)) = some (Str.join [32] l) := ent_end F s hs n
    by_cases h : i < s.length
    · have hd : s.drop i = s[i] :: s.drop (i + 1) := List.drop_eq_getElem_cons h
      have hne : decide ((i : Int) = (s.length : Int)) = false := decide_eq_false (by omega)
      simp (disch := omega) only [bT, hne, Bool.not_false, grdc_t, grd_At, lt_eq, at_nat h, ent_Space_eq, bndc_t, bnd_some, Bool.false_or]
      rw [hd] at hJ ⊢
      cases hb : bl s[i] with
      | true =>
        simp only [wgo, hb, cond_true] at hJ ⊢
        rcases hf with ⟨rfl, rfl⟩ | ⟨f, rfl, hfi, rfl⟩
        · simp only [if_true] at hJ ⊢
          simp (disch := omega) only [Bool.not_true, Bool.false_and, cond_false, Bool.true_and, bF, grd_I, cast_succ]
          exact ih l (-1) [] (i + 1) (by omega) (by omega) (by omega) (.inl ⟨rfl, rfl⟩) hJ
        · have hc : (s.take i).drop f ≠ [] := by
            intro h2; have := congrArg List.length h2; simp at this; omega
          simp only [hc, if_false] at hJ ⊢
          simp (disch := (first | omega | (simp; omega))) only [Bool.not_true, Bool.false_and, cond_false, Bool.true_and, bT, grd_Sub, grd_Cat, sub_nat, grd_I, cast_succ]
          rw [ih (l ++ [(s.take i).drop f]) (-1) [] (i + 1) (by omega) (by omega) (by simp; omega) (.inl ⟨rfl, rfl⟩) (by simpa using hJ)]
          simp
      | false =>
        simp only [wgo, hb, cond_false] at hJ ⊢
        rcases hf with ⟨rfl, rfl⟩ | ⟨f, rfl, hfi, rfl⟩
        · simp (disch := omega) only [Bool.not_false, Bool.true_and, bT, grd_I, cast_succ]
          have hc : ([] : Bs) ++ [s[i]] = (s.take (i + 1)).drop i := by
            rw [List.take_succ_eq_append_getElem h, List.drop_append_of_le_length (by simp; omega), List.drop_eq_nil_of_le (by simp; omega)]
          rw [hc] at hJ ⊢
          exact ih l (i : Int) _ (i + 1) (by omega) (by omega) (by omega) (.inr ⟨i, rfl, by omega, rfl⟩) hJ
        · simp (disch := omega) only [Bool.not_false, Bool.true_and, bF, Bool.false_and, cond_false, grd_I, cast_succ]
          have hc : (s.take i).drop f ++ [s[i]] = (s.take (i + 1)).drop f := by
            rw [List.take_succ_eq_append_getElem h, List.drop_append_of_le_length (by simp; omega)]
          rw [hc] at hJ ⊢
          exact ih l (f : Int) _ (i + 1) (by omega) (by omega) (by omega) (.inr ⟨f, rfl, by omega, rfl⟩) hJ
    · have hi2 : i = s.length := by omega
      subst hi2
      have hyes : decide ((s.length : Int) = (s.length : Int)) = true := decide_eq_true rfl
      simp (disch := omega) only [bT, hyes, Bool.not_true, grdc_f, lt_eq, ent_Space_eq, bndc_f, Bool.true_or, List.drop_length] at hJ ⊢
      rcases hf with ⟨rfl, rfl⟩ | ⟨f, rfl, hfi, rfl⟩
      · simp (disch := omega) only [Bool.false_and, cond_false, Bool.true_and, bF, grd_I, cast_succ]
        rw [hend l (by simpa [wgo] using hJ) (by omega)]
        simp [wgo, grdc_f, bndc_f]
      · have hc : (s.take s.length).drop f ≠ [] := by
          intro h2; have := congrArg List.length h2; simp at this; omega
        simp only [wgo, hc, if_false] at hJ ⊢
        simp (disch := (first | omega | (simp; omega))) only [Bool.false_and, cond_false, Bool.true_and, bT, grd_Sub, grd_Cat, sub_nat, grd_I, cast_succ]
        exact hend _ hJ (by omega)
theorem ent_Trim_eq (F : Nat) (s : Bs) (hs : s.length ≤ 1000000) (hF : s.length + 1 < F) : ent_Trim F s = some (trim s) := by
  have h1 := wgo_total s []
  have := ent_loop F s hs F [] (-1) [] 0 (by omega) (by omega) (by simp) (.inl ⟨rfl, rfl⟩) (by simp at h1 ⊢; omega)
  rw [← join_wgo]
  simpa [ent_Trim] using this
end Go.Pn
namespace Go.Pn
open Go.Pv Go.Av

theorem indexByte_no {c : UInt8} {s : Bs} (h : ∀ b ∈ s, b ≠ c) : Go.Lib.indexByte s c = -1 := by
  induction s with
  | nil => rfl
  | cons b r ih => simp [Go.Lib.indexByte, h b (by simp), ih (fun x hx => h x (by simp [hx]))]

theorem loose_plain (F : Nat) (s : Bs) (hF : 0 < F) (hs : s.length ≤ 1000000) (h : ∀ b ∈ s, b ≠ 38) : ent_Loose F s = some s := by
  obtain ⟨n, rfl⟩ : ∃ n, F = n + 1 := ⟨F - 1, by omega⟩
  have : ent_gone (n + 1) s = some (s, true) := by
    show ent_gone_B1 (n + 1) (ent_gone_L1 (n + 1) n) s true [] = _
    unfold ent_gone_B1
    simp (disch := (first | omega | (simp; done) | (simp; omega))) only [lt_eq, indexByte_no h, bT, grd_W, List.nil_append]
  unfold ent_Loose
  rw [this]; rfl

end Go.Pn
namespace Go.Pn
open Go.Pv Go.Av

theorem decR_pos (s : Bs) (p : Nat) : 1 ≤ (decR s p).2 := by
  unfold decR Utf8.decode
  simp only
  repeat' split
  all_goals simp

theorem runeStr_len (n : Int) : (runeStr n).length ≤ 4 := by
  unfold runeStr Utf8.encode
  simp only
  repeat' split
  all_goals simp

theorem runeStr_two (n : Int) (h : 128 ≤ n) : 2 ≤ (runeStr n).length ∧ ((runeStr n).length = 2 → ¬ (59 : UInt8) = at_ (runeStr n) 1) := by
  have hc : ¬ (if Utf8.valid n = true then n.toNat else Utf8.runeError) < 128 := by
    split
    · omega
    · decide
  unfold runeStr Utf8.encode
  simp only
  generalize (if Utf8.valid n = true then n.toNat else Utf8.runeError) = c at hc ⊢
  rw [if_neg hc]
  by_cases h2 : c < 2048
  · rw [if_pos h2]
    refine ⟨by simp, fun _ => ?_⟩
    show ¬ (59 : UInt8) = UInt8.ofNat (128 + c % 64)
    intro e
    have := congrArg UInt8.toNat e
    rw [UInt8.toNat_ofNat'] at this
    have e59 : (59 : UInt8).toNat = 59 := rfl
    omega
  · rw [if_neg h2]
    split <;> simp

theorem idxRune_two (F : Nat) (hF : 5 ≤ F) (r : Int) : ∃ j, idxRune F [38, 59] r = some j := by
  unfold idxRune
  by_cases h1 : 0 ≤ r ∧ r < 128
  · simp only [h1, decide_true, Bool.and_self, cond_true]; exact ⟨_, rfl⟩
  · have hf : ((decide (0 ≤ r)) && (decide (r < 128))) = false := by
      cases h : (decide (0 ≤ r)) && (decide (r < 128)) with
      | false => rfl
      | true => exact absurd (by simpa using h) h1
    rw [hf, cond_false]
    by_cases h2 : r = 65533
    · rw [bT h2]
      obtain ⟨m, rfl⟩ : ∃ m, F = m + 3 := ⟨F - 3, by omega⟩
      have e0 : decR [38, 59] 0 = (38, 1) := by decide +kernel
      have e1 : decR [38, 59] 1 = (59, 1) := by decide +kernel
      refine ⟨-1, ?_⟩
      show idxRune_B1 [38, 59] (idxRune_L1 [38, 59] (m + 2)) 0 = _
      unfold idxRune_B1
      simp only [e0]
      show idxRune_B1 [38, 59] (idxRune_L1 [38, 59] (m + 1)) 1 = _
      unfold idxRune_B1
      simp only [e1]
      rfl
    · rw [bF h2]
      have hv : ∃ b, ValidRune F r = some b ∧ (b = true → 0 ≤ r) := by
        unfold ValidRune
        by_cases ha : 0 ≤ r ∧ r < 55296
        · refine ⟨true, ?_, fun _ => ha.1⟩; simp [ha]
        · by_cases hb : 57343 < r ∧ r ≤ 1114111
          · refine ⟨true, ?_, fun _ => by omega⟩; simp [hb]
          · refine ⟨false, ?_, fun h => by cases h⟩
            have e1 : ((decide (0 ≤ r)) && (decide (r < 55296))) = false := by
              cases h : (decide (0 ≤ r)) && (decide (r < 55296)) with
              | false => rfl
              | true => exact absurd (by simpa using h) ha
            have e2 : ((decide (57343 < r)) && (decide (r ≤ 1114111))) = false := by
              cases h : (decide (57343 < r)) && (decide (r ≤ 1114111)) with
              | false => rfl
              | true => exact absurd (by simpa using h) hb
            rw [e1, e2]; rfl
      obtain ⟨b, hb, hp⟩ := hv
      rw [hb, bnd_some]
      cases b with
      | false => exact ⟨-1, rfl⟩
      | true =>
        have hr : 128 ≤ r := by have := hp rfl; omega
        obtain ⟨k1, k2⟩ := runeStr_two r hr
        have k3 := runeStr_len r
        obtain ⟨m, rfl⟩ : ∃ m, F = m + 1 := ⟨F - 1, by omega⟩
        refine ⟨-1, ?_⟩
        simp (disch := omega) only [Bool.not_true, cond_false, lt_eq, grd_I]
        show idxRune_B2 [38, 59] (runeStr r) (idxRune_L2 [38, 59] (runeStr r) m) = _
        unfold idxRune_B2 idxRune_j2
        by_cases h3 : (runeStr r).length = 2
        · have e1 : ((runeStr r).length : Int) - 1 = 1 := by omega
          have e2 : at_ ([38, 59] : Bs) 1 = 59 := rfl
          have e3 : from_ ([38, 59] : Bs) (1 + 1) = [] := rfl
          rw [e1]
          simp (disch := (first | omega | (simp; done) | (simp; omega))) only [bT, grd_At, lt_eq, e2, decide_eq_false (k2 h3), Bool.not_false, grd_t, grd_I, grd_To, e3]
          rfl
        · have : ¬ ((runeStr r).length : Int) - 1 < (([38, 59] : Bs).length : Int) := by simp; omega
          rw [bF this]

theorem indexByte_r (s : Bs) (c : UInt8) : -1 ≤ Go.Lib.indexByte s c ∧ Go.Lib.indexByte s c < s.length := by
  induction s with
  | nil => simp [Go.Lib.indexByte]
  | cons b r ih =>
    unfold Go.Lib.indexByte
    split
    · first | (simp; done) | (simp; omega)
    · split
      · first | (simp; done) | (simp; omega)
      · rename_i h
        have h' : ¬ Go.Lib.indexByte r c = -1 := by simpa using h
        simp; omega
theorem indexAny_r (s cs : Bs) : -1 ≤ Go.Lib.indexAny s cs ∧ Go.Lib.indexAny s cs < s.length := by
  induction s with
  | nil => simp [Go.Lib.indexAny]
  | cons b r ih =>
    unfold Go.Lib.indexAny
    split
    · first | (simp; done) | (simp; omega)
    · split
      · first | (simp; done) | (simp; omega)
      · rename_i h
        have h' : ¬ Go.Lib.indexAny r cs = -1 := by simpa using h
        simp; omega

theorem idxAnyG_loop (F : Nat) (hF : 5 ≤ F) (s : Bs) : ∀ (n y : Nat), s.length - y < n → ∃ j, idxAnyG_L1 F s [38, 59] n y = some j ∧ -1 ≤ j ∧ j < s.length := by
  intro n
  induction n with
  | zero => intro y h; omega
  | succ n ih =>
    intro y hy
    show ∃ j, idxAnyG_B1 F s [38, 59] (idxAnyG_L1 F s [38, 59] n) y = some j ∧ _
    unfold idxAnyG_B1 idxAnyG_j2
    by_cases h : y < s.length
    · rw [bT h]
      obtain ⟨j, hj⟩ := idxRune_two F hF ((decR s y).1 : Int)
      rw [hj, bnd_some]
      by_cases h0 : 0 ≤ j
      · rw [bT h0]; exact ⟨_, rfl, by omega, by omega⟩
      · rw [bF h0]
        have := decR_pos s y
        exact ih _ (by omega)
    · rw [bF h]; exact ⟨-1, rfl, by omega, by omega⟩

theorem idxAny_two (F : Nat) (s : Bs) (hF : 20 ≤ F) : ∃ j, idxAny F s [38, 59] = some j ∧ -1 ≤ j ∧ j < s.length := by
  unfold idxAny
  by_cases h : 8 < s.length
  · obtain ⟨h1, h2⟩ := indexAny_r s [38, 59]
    refine ⟨Go.Lib.indexAny s [38, 59], ?_, h1, h2⟩
    simp [h]
  · have e : ((decide (8 < s.length)) && (decide (2 ≤ ([38, 59] : Bs).length))) = false := by simp [h]
    rw [e, cond_false]
    unfold idxAnyG useSet idxAnyG_j3
    have e3 : decide ((8 : Int) < (s.length : Int)) = false := decide_eq_false (by omega)
    simp (disch := (first | omega | (simp; done) | (simp; omega))) only [bF, bnd_some, e3, Bool.not_false, grd_t]
    exact idxAnyG_loop F (by omega) s F 0 (by omega)

theorem contains_one (F : Nat) (s : Bs) (hs : s.length ≤ 3700) : ∃ b, containsAny F s [95] = some b := by
  unfold containsAny idxAny idxAnyG idxAnyG_j1 idxRune
  have e : ((decide (8 < s.length)) && (decide (2 ≤ ([95] : Bs).length))) = false := by simp
  have e2 : at_ ([95] : Bs) 0 = 95 := rfl
  have e3 : asciiB [95] = true := by decide
  have e4 : ((95 : UInt8).toNat : Int) = 95 := rfl
  rw [e, cond_false]
  simp (disch := (first | omega | (simp; done) | (simp; omega))) only [e3, grd_t, grd_S, bF, bT, grd_At, lt_eq, e2, e4, grd_J]
  exact ⟨_, rfl⟩

theorem wrap_nn (x : Int) : 0 ≤ IntKind.u64.wrap x := by
  have : IntKind.u64.wrap x = x % 18446744073709551616 := rfl
  rw [this]; omega

/-- The answer of a number's reading. -/
def Ok3 (r : Option (Int × Int)) : Prop := ∃ v e, r = some (v, e) ∧ 0 ≤ v ∧ (e = 0 ∨ e = 1 ∨ e = 2)

theorem uint_loop (F : Nat) (s : Bs) (b c : Int) (hb : b = 10 ∨ b = 16) (hs : s.length ≤ 3700) : ∀ (n i : Nat) (v : Int), s.length - i < n → 0 ≤ v → Ok3 (sc_ParseUint_L1 F s b c n (false, v, (i : Int))) := by
  intro n
  induction n with
  | zero => intro i v h; omega
  | succ n ih =>
    intro i v hn hv
    show Ok3 (sc_ParseUint_B1 F s b c (sc_ParseUint_L1 F s b c n) false v (i : Int))
    unfold sc_ParseUint_B1 sc_ParseUint_j1 sc_lower
    by_cases h : i < s.length
    · have key : ∀ d : UInt8, Ok3 (sc_ParseUint_j3 b c false v (i : Int) (sc_ParseUint_L1 F s b c n) d) := by
        intro d
        unfold sc_ParseUint_j3 sc_ParseUint_j2
        cases decide (((Go.Av.toB b).toNat : Int) ≤ (d.toNat : Int)) with
        | true => exact ⟨0, 2, rfl, by omega, by omega⟩
        | false =>
          rw [cond_false]
          cases decide (c ≤ v) with
          | true => exact ⟨_, 1, rfl, wrap_nn _, by omega⟩
          | false =>
            rw [cond_false]
            generalize ((decide (IntKind.u64.wrap ((IntKind.u64.wrap (v * (IntKind.u64.wrap b))) + (IntKind.u64.wrap (d.toNat : Int))) < IntKind.u64.wrap (v * (IntKind.u64.wrap b)))) || (decide (IntKind.u64.wrap ((IntKind.u64.wrap (1 * 2 ^ min (Int.toNat (IntKind.u64.wrap 64)) IntKind.u64.bits)) - 1) < IntKind.u64.wrap ((IntKind.u64.wrap (v * (IntKind.u64.wrap b))) + (IntKind.u64.wrap (d.toNat : Int)))))) = q
            cases q with
            | true => exact ⟨_, 1, rfl, wrap_nn _, by omega⟩
            | false =>
              rw [cond_false, grd_I (by omega), cast_succ]
              exact ih _ _ (by omega) (wrap_nn _)
      have hb0 : decide (b = 0) = false := decide_eq_false (by omega)
      simp (disch := omega) only [bT, grd_At, lt_eq, at_nat h, hb0, Bool.and_false, cond_false, bnd_some, bndc_some]
      generalize ((decide (48 ≤ ((s[i]).toNat : Int))) && (decide (((s[i]).toNat : Int) ≤ 57))) = q1
      cases q1 with
      | true => exact key _
      | false =>
        rw [cond_false]
        generalize ((decide (97 ≤ ((s[i] ||| 32).toNat : Int))) && (decide ((((bif decide (97 ≤ ((s[i] ||| 32).toNat : Int)) then (s[i] ||| 32) else default) : UInt8).toNat : Int) ≤ 122))) = q2
        cases q2 with
        | true => exact key _
        | false => exact ⟨0, 2, rfl, by omega, by omega⟩
    · rw [bF (by omega), bndc_f]
      exact ⟨v, 0, rfl, hv, by omega⟩

theorem uint_tot (F : Nat) (s : Bs) (b : Int) (hb : b = 10 ∨ b = 16) (hs : s.length ≤ 3700) (hF : s.length < F) : Ok3 (sc_ParseUint F s b 0) := by
  unfold sc_ParseUint sc_ParseUint_j6 sc_ParseUint_j5 sc_ParseUint_j4
  by_cases h0 : s = []
  · rw [bT h0]; exact ⟨0, 2, rfl, by omega, by omega⟩
  · rw [bF h0]
    have h2 : ((decide (2 ≤ b)) && (decide (b ≤ 36))) = true := by rcases hb with rfl | rfl <;> rfl
    have hw := wrap_nn 64
    rw [h2, grd_t, grd_D rfl]
    have go := fun c => uint_loop F s b c hb hs F 0 0 (by omega) (by omega)
    rcases hb with rfl | rfl
    · rw [bT rfl, grd_D hw, grd_Cat (by omega)]; exact go _
    · rw [bF (by omega), bT rfl, grd_D hw, grd_Cat (by omega)]; exact go _

theorem int_tot (F : Nat) (s : Bs) (b : Int) (hb : b = 10 ∨ b = 16) (hs : s.length ≤ 3700) (hF : s.length < F) (h43 : at_ s 0 ≠ 43) (h45 : at_ s 0 ≠ 45) : ∃ v e, strconv_ParseInt F s b 0 = some (v, e) := by
  have hi : ∃ v e, sc_ParseInt F s b 0 = some (v, e) ∧ (e = 0 ∨ e = 1 ∨ e = 2) := by
    unfold sc_ParseInt sc_ParseInt_j3 sc_ParseInt_j2 sc_ParseInt_j1
    by_cases h0 : s = []
    · rw [bT h0]; exact ⟨0, 2, rfl, by omega⟩
    · have hp : 0 < s.length := List.length_pos_iff.2 h0
      obtain ⟨v, e, hv, hv0, he⟩ := uint_tot F s b hb hs hF
      have e1 : IntKind.u64.wrap (1 * 2 ^ min (Int.toNat (IntKind.u64.wrap 63)) IntKind.u64.bits) = 9223372036854775808 := by decide +kernel
      have e2 : (0 : Int) ≤ IntKind.u64.wrap 63 := by decide +kernel
      have e3 : IntKind.u64.wrap (9223372036854775808 - 1) = 9223372036854775807 := by decide +kernel
      simp (disch := omega) only [bF, grd_At, lt_eq, hv, bnd2_some, e1, e3, grd_D e2, grd_I, grd_D, Bool.not_false, Bool.true_and, Bool.false_and, cond_false]
      rcases he with rfl | rfl | rfl
      · rw [show ((!decide ((0 : Int) = 0)) && (!decide ((0 : Int) = 1))) = false by rfl, cond_false]
        by_cases hb : (9223372036854775808 : Int) ≤ v
        · rw [bT hb]; exact ⟨_, 1, rfl, by omega⟩
        · rw [bF hb, grd_I (by omega)]; exact ⟨_, 0, rfl, by omega⟩
      · rw [show ((!decide ((1 : Int) = 0)) && (!decide ((1 : Int) = 1))) = false by rfl, cond_false]
        by_cases hb : (9223372036854775808 : Int) ≤ v
        · rw [bT hb]; exact ⟨_, 1, rfl, by omega⟩
        · rw [bF hb, grd_I (by omega)]; exact ⟨_, 0, rfl, by omega⟩
      · rw [show ((!decide ((2 : Int) = 0)) && (!decide ((2 : Int) = 1))) = true by rfl, cond_true]
        exact ⟨_, 2, rfl, by omega⟩
  obtain ⟨v, e, hv, he⟩ := hi
  unfold strconv_ParseInt
  rw [hv, bnd2_some]
  rcases he with rfl | rfl | rfl
  · exact ⟨_, _, rfl⟩
  · rw [show (!decide ((1 : Int) = 0)) = true by rfl, cond_true, grd_S (by omega), grd_D (by omega)]; exact ⟨_, _, rfl⟩
  · rw [show (!decide ((2 : Int) = 0)) = true by rfl, cond_true, grd_S (by omega), grd_D (by omega)]; exact ⟨_, _, rfl⟩

theorem rune_tot (F : Nat) (r : Int) : ∃ o b, ent_Rune F r = some (o, b) ∧ o.length ≤ 4 := by
  have fin : -2147483648 ≤ r ∧ r ≤ 2147483647 → ∃ o b, grd (okJ r) (lt (runeStr r) fun x17 => some (x17, true)) = some (o, b) ∧ o.length ≤ 4 := by
    intro h; rw [grd_J h]; exact ⟨_, _, rfl, runeStr_len r⟩
  unfold ent_Rune ent_in
  simp only [bndc_some]
  cases hA : ((decide (r = 9)) || (decide (r = 10))) || (decide (r = 13)) with
  | true =>
    have : r = 9 ∨ r = 10 ∨ r = 13 := by simpa [or_assoc] using hA
    simp only [Bool.not_true, Bool.false_and, cond_false]
    exact fin (by omega)
  | false =>
    simp only [Bool.not_false, Bool.true_and, cond_true]
    cases h7 : (decide (32 ≤ r)) && (decide (r ≤ 55295)) with
    | true =>
      have : 32 ≤ r ∧ r ≤ 55295 := by simpa using h7
      simp only [Bool.not_true, Bool.false_and, cond_false]
      exact fin (by omega)
    | false =>
      simp only [Bool.not_false, Bool.true_and, cond_true]
      cases h10 : (decide (57344 ≤ r)) && (decide (r ≤ 65533)) with
      | true =>
        have : 57344 ≤ r ∧ r ≤ 65533 := by simpa using h10
        simp only [Bool.not_true, Bool.false_and, cond_false]
        exact fin (by omega)
      | false =>
        simp only [Bool.not_false, Bool.true_and, cond_true]
        cases h13 : (decide (65536 ≤ r)) && (decide (r ≤ 1114111)) with
        | true =>
          have : 65536 ≤ r ∧ r ≤ 1114111 := by simpa using h13
          simp only [Bool.not_true, Bool.false_and, cond_false]
          exact fin (by omega)
        | false => exact ⟨[], false, rfl, by simp⟩

theorem number_tot (F : Nat) (s : Bs) (b : Int) (hb : b = 10 ∨ b = 16) (hs : s.length ≤ 3700) (hF : s.length < F) : ∃ o k, ent_number F s b = some (o, k) ∧ o.length ≤ 4 := by
  obtain ⟨cb, hcb⟩ := contains_one F s hs
  have no : ∃ o k, (some (([] : Bs), false) : Option (Bs × Bool)) = some (o, k) ∧ o.length ≤ 4 := ⟨[], false, rfl, by simp⟩
  unfold ent_number
  cases s with
  | nil => simp [grdc_f, lt_eq, bndc_f]
  | cons c r =>
    have h0 : decide ((c :: r) = []) = false := decide_eq_false (by simp)
    have ha : at_ (c :: r) 0 = c := rfl
    have hg : ∀ (q : Bool) (k : Option (Bs × Bool)), grdc q (okAt 0 (c :: r).length) k = k := fun q k => grdc_At (fun _ => by simp)
    simp only [hg, h0, lt_eq, ha, hcb, bndc_some, Bool.false_or]
    by_cases h1 : c = 43
    · simp [h1]
    · by_cases h2 : c = 45
      · simp [h2]
      · by_cases h3 : c = 95
        · simp [h3]
        · simp only [h1, h2, h3, decide_false, Bool.or_self, Bool.false_or, Bool.not_false, cond_true]
          cases cb with
          | true => exact no
          | false =>
            obtain ⟨v, e, hv⟩ := int_tot F (c :: r) b hb hs hF (by rw [ha]; exact h1) (by rw [ha]; exact h2)
            rw [cond_false, hv, bnd2_some]
            cases hz : (!decide (e = 0)) with
            | true => exact no
            | false =>
              obtain ⟨o, k, ho, hl⟩ := rune_tot F v
              rw [cond_false, ho, bnd2_some]
              exact ⟨o, k, rfl, hl⟩

theorem sign_tot (F : Nat) (s : Bs) (hs : s.length ≤ 3700) (hF : s.length < F) : ∃ o k, ent_sign F s = some (o, k) ∧ o.length ≤ 4 := by
  have htp : ∀ p, (Go.Lib.trimPrefix s p).length ≤ s.length := by
    intro p; unfold Go.Lib.trimPrefix; split <;> simp
  unfold ent_sign ent_signs
  simp only [bnd_some, lt_eq]
  generalize ([(([97, 109, 112] : List UInt8), (38 : Int)), (([108, 116] : List UInt8), 60), (([103, 116] : List UInt8), 62), (([113, 117, 111, 116] : List UInt8), 34), (([97, 112, 111, 115] : List UInt8), 39)] : List (List UInt8 × Int)) = m
  cases Go.Av.mhas m s with
  | true => exact ⟨_, _, rfl, runeStr_len _⟩
  | false =>
    rw [cond_false]
    cases Go.Lib.hasPrefix s [35, 120] with
    | true =>
      have := htp [35, 120]
      obtain ⟨o, k, ho, hl⟩ := number_tot F (Go.Lib.trimPrefix s [35, 120]) 16 (.inr rfl) (by omega) (by omega)
      rw [cond_true, ho, bnd2_some]; exact ⟨o, k, rfl, hl⟩
    | false =>
      rw [cond_false]
      cases Go.Lib.hasPrefix s [35] with
      | true =>
        have := htp [35]
        obtain ⟨o, k, ho, hl⟩ := number_tot F (Go.Lib.trimPrefix s [35]) 10 (.inl rfl) (by omega) (by omega)
        rw [cond_true, ho, bnd2_some]; exact ⟨o, k, rfl, hl⟩
      | false => exact ⟨[], false, rfl, by simp⟩

theorem first_tot (F : Nat) (s : Bs) (h1 : 1 ≤ s.length) (hs : s.length ≤ 3700) (hF : s.length + 20 < F) : ∃ o k, ent_first F s = some (o, k) ∧ (k = 0 ∨ (3 ≤ k ∧ k ≤ s.length ∧ o.length ≤ 4)) := by
  have no : ∃ o k, (some (([] : Bs), (0 : Int)) : Option (Bs × Int)) = some (o, k) ∧ (k = 0 ∨ (3 ≤ k ∧ k ≤ s.length ∧ o.length ≤ 4)) := ⟨[], 0, rfl, .inl rfl⟩
  have hl : (from_ s 1).length = s.length - 1 := by simp [from_]
  obtain ⟨j, hj, hj1, hj2⟩ := idxAny_two F (from_ s 1) (by omega)
  have ha : asciiB [38, 59] = true := by decide
  unfold ent_first ent_in
  simp (disch := (first | omega | (simp; done) | (simp; omega))) only [grd_To, lt_eq, ha, grd_t, grd_S, hj, bnd_some]
  by_cases h : 1 ≤ j ∧ j ≤ 10
  · have hx : ((decide (1 ≤ j)) && (decide (j ≤ 10))) = true := by simp [h]
    simp (disch := (first | omega | (simp; done) | (simp; omega))) only [hx, Bool.not_true, Bool.not_false, grdc_t, grd_I, grd_At, Bool.false_or]
    cases decide (at_ s (j + 1) = 38) with
    | true => exact no
    | false =>
      have hsub : (sub s 1 (j + 1)).length ≤ s.length := by simp [sub]; omega
      obtain ⟨o, k, ho, hol⟩ := sign_tot F (sub s 1 (j + 1)) (by omega) (by omega)
      simp (disch := (first | omega | (simp; done) | (simp; omega))) only [cond_false, grd_Sub, lt_eq, ho, bnd2_some]
      cases k with
      | false => exact no
      | true =>
        simp (disch := (first | omega | (simp; done) | (simp; omega))) only [Bool.not_true, cond_false, grd_I]
        exact ⟨o, j + 2, rfl, .inr ⟨by omega, by omega, hol⟩⟩
  · have hx : ((decide (1 ≤ j)) && (decide (j ≤ 10))) = false := by
      cases hq : (decide (1 ≤ j)) && (decide (j ≤ 10)) with
      | false => rfl
      | true => exact absurd (by simpa using hq) h
    simp only [hx, Bool.not_false, Bool.not_true, grdc_f, Bool.true_or, cond_true]
    exact no

theorem gone_tot (F : Nat) : ∀ (n : Nat) (s : Bs) (ok : Bool) (acc : Bs), s.length < n → s.length ≤ 3700 → s.length + 20 < F → acc.length + 2 * s.length ≤ 100000 → ∃ o k, ent_gone_L1 F n (s, ok, acc) = some (o, k) ∧ o.length ≤ acc.length + 2 * s.length := by
  intro n
  induction n with
  | zero => intro s ok acc h; omega
  | succ n ih =>
    intro s ok acc hn hs hF ha
    show ∃ o k, ent_gone_B1 F (ent_gone_L1 F n) s ok acc = some (o, k) ∧ _
    unfold ent_gone_B1 ent_gone_j1
    obtain ⟨hi1, hi2⟩ := indexByte_r s 38
    by_cases h : Go.Lib.indexByte s 38 < 0
    · simp (disch := (first | omega | (simp; done) | (simp; omega))) only [lt_eq, bT, grd_W]
      exact ⟨_, _, rfl, by simp; omega⟩
    · obtain ⟨i, hi⟩ : ∃ i : Nat, Go.Lib.indexByte s 38 = i := ⟨(Go.Lib.indexByte s 38).toNat, by omega⟩
      have il : i < s.length := by omega
      have l1 : (to_ s (i : Int)).length = i := by simp [to_nat]; omega
      have l2 : (from_ s (i : Int)).length = s.length - i := by simp [from_nat]
      obtain ⟨o, k, ho, hk⟩ := first_tot F (from_ s (i : Int)) (by omega) (by omega) (by omega)
      simp (disch := (first | omega | (simp; done) | (simp; omega))) only [lt_eq, hi, bF, grd_To, grd_W, ho, bnd2_some]
      rcases hk with rfl | ⟨k3, kl, ol⟩
      · have l3 : (from_ (from_ s (i : Int)) 1).length = s.length - i - 1 := by simp [from_, l2]; omega
        simp (disch := (first | omega | (simp; done) | (simp; omega))) only [decide_true, cond_true, grd_W, lt_eq, grd_To]
        obtain ⟨o', k', e1, e2⟩ := ih (from_ (from_ s (i : Int)) 1) false (acc ++ to_ s (i : Int) ++ [38]) (by omega) (by omega) (by omega) (by simp; omega)
        exact ⟨o', k', e1, by simp at e2; omega⟩
      · have l3 : (from_ (from_ s (i : Int)) k).length = s.length - i - k.toNat := by simp [from_]; omega
        simp (disch := (first | omega | (simp; done) | (simp; omega))) only [bF, grd_W, lt_eq, grd_To]
        obtain ⟨o', k', e1, e2⟩ := ih (from_ (from_ s (i : Int)) k) ok (acc ++ to_ s (i : Int) ++ o) (by omega) (by omega) (by omega) (by simp; omega)
        exact ⟨o', k', e1, by simp at e2; omega⟩

theorem loose_tot (F : Nat) (s : Bs) (hs : s.length ≤ 3700) (hF : s.length + 20 < F) : ∃ q, ent_Loose F s = some q ∧ q.length ≤ 2 * s.length := by
  obtain ⟨o, k, h1, h2⟩ := gone_tot F F s true [] (by omega) hs hF (by simp; omega)
  unfold ent_Loose ent_gone
  rw [h1, bnd2_some]
  exact ⟨o, rfl, by simpa using h2⟩
end Go.Pn
namespace Go.Pn
open Go.Pv Go.Av

/-- A digit's number; 99: it is none. -/
def dg (c : UInt8) : Nat := if 48 ≤ c.toNat ∧ c.toNat ≤ 57 then c.toNat - 48 else if 97 ≤ c.toNat ∧ c.toNat ≤ 102 then c.toNat - 87 else if 65 ≤ c.toNat ∧ c.toNat ≤ 70 then c.toNat - 55 else 99

theorem all_u8 {p : UInt8 → Prop} (h : ∀ n : Nat, n < 256 → p (UInt8.ofNat n)) (c : UInt8) : p c := by
  have := h c.toNat (UInt8.toNat_lt c)
  rwa [UInt8.ofNat_toNat] at this

theorem digit_eq (F : Nat) (c : UInt8) : ref07_digit F c = some (dg c : Int) := by
  show ref07_digit 0 c = _
  exact all_u8 (p := fun c => ref07_digit 0 c = some (dg c : Int)) (by decide +kernel) c

/-- What a byte counts as a digit, as the library has it. -/
def isD (x : UInt8) : Bool := (decide (48 ≤ (x.toNat : Int))) && (decide ((x.toNat : Int) ≤ 57))
def isL (x : UInt8) : Bool := (decide (97 ≤ ((x ||| 32).toNat : Int))) && (decide (((x ||| 32).toNat : Int) ≤ 122))
theorem dig_D (b : Nat) (hb : b = 10 ∨ b = 16) (x : UInt8) (h : isD x = true) : (b ≤ (x - 48).toNat ↔ b ≤ dg x) ∧ ((x - 48).toNat < b → (x - 48).toNat = dg x) := by
  revert h
  refine all_u8 (p := fun x => isD x = true → (b ≤ (x - 48).toNat ↔ b ≤ dg x) ∧ ((x - 48).toNat < b → (x - 48).toNat = dg x)) ?_ x
  rcases hb with rfl | rfl <;> decide +kernel
theorem dig_L (b : Nat) (hb : b = 10 ∨ b = 16) (x : UInt8) (h0 : isD x = false) (h : isL x = true) : (b ≤ ((x ||| 32) - 97 + 10).toNat ↔ b ≤ dg x) ∧ (((x ||| 32) - 97 + 10).toNat < b → ((x ||| 32) - 97 + 10).toNat = dg x) := by
  revert h0 h
  refine all_u8 (p := fun x => isD x = false → isL x = true → (b ≤ ((x ||| 32) - 97 + 10).toNat ↔ b ≤ dg x) ∧ (((x ||| 32) - 97 + 10).toNat < b → ((x ||| 32) - 97 + 10).toNat = dg x)) ?_ x
  rcases hb with rfl | rfl <;> decide +kernel
theorem dig_no (x : UInt8) (h0 : isD x = false) (h : isL x = false) : dg x = 99 := by
  revert h0 h
  exact all_u8 (p := fun x => isD x = false → isL x = false → dg x = 99) (by decide +kernel) x

/-- What digits say. -/
def num (b : Nat) : Nat → Bs → Option Nat
  | v, [] => some v
  | v, c :: r => if b ≤ dg c then none else num b (b * v + dg c) r

theorem u64_id (x : Int) (h0 : 0 ≤ x) (h1 : x < 18446744073709551616) : IntKind.u64.wrap x = x := by
  have : IntKind.u64.wrap x = x % 18446744073709551616 := rfl
  rw [this]; omega

theorem uint_loop_eq (F : Nat) (s : Bs) (b : Nat) (hb : b = 10 ∨ b = 16) (c : Int) (hc : 1152921504606846976 ≤ c) (hs : s.length ≤ 10) : ∀ (n i v : Nat), s.length - i < n → v < 16 ^ i → i ≤ s.length →
    sc_ParseUint_L1 F s (b : Int) c n (false, (v : Int), (i : Int)) = match num b v (s.drop i) with | none => some (0, 2) | some w => some ((w : Int), 0) := by
  intro n
  induction n with
  | zero => intro i v h; omega
  | succ n ih =>
    intro i v hn hv hi
    show sc_ParseUint_B1 F s (b : Int) c (sc_ParseUint_L1 F s (b : Int) c n) false (v : Int) (i : Int) = _
    unfold sc_ParseUint_B1 sc_ParseUint_j1 sc_lower
    by_cases h : i < s.length
    · have hd : s.drop i = s[i] :: s.drop (i + 1) := List.drop_eq_getElem_cons h
      have hp : (16 : Nat) ^ i ≤ 16 ^ 9 := Nat.pow_le_pow_right (by omega) (by omega)
      have hp2 : (16 : Nat) ^ 9 = 68719476736 := rfl
      have hp3 : (16 : Nat) ^ (i + 1) = 16 ^ i * 16 := Nat.pow_succ _ _
      have key : ∀ d : UInt8, ((b ≤ d.toNat ↔ b ≤ dg s[i]) ∧ (d.toNat < b → d.toNat = dg s[i])) → sc_ParseUint_j3 (b : Int) c false (v : Int) (i : Int) (sc_ParseUint_L1 F s (b : Int) c n) d = match num b v (s.drop i) with | none => some (0, 2) | some w => some ((w : Int), 0) := by
        intro d ⟨h1, h2⟩
        rw [hd]
        unfold sc_ParseUint_j3 sc_ParseUint_j2
        have hB : ((Go.Av.toB (b : Int)).toNat : Int) = (b : Int) := by rcases hb with rfl | rfl <;> rfl
        rw [hB]
        by_cases hbd : b ≤ d.toNat
        · rw [bT (by omega)]
          simp [num, h1.1 hbd]
        · have hd2 := h2 (by omega)
          have hbd' : ¬ b ≤ dg s[i] := fun e => hbd (h1.2 e)
          have hlt : d.toNat < 16 := by rcases hb with rfl | rfl <;> omega
          have hbv : b * v ≤ 16 * v := Nat.mul_le_mul_right v (by rcases hb with rfl | rfl <;> omega)
          have hmul : (v : Int) * (b : Int) = ((b * v : Nat) : Int) := by rw [Nat.mul_comm]; simp
          have wb : IntKind.u64.wrap (b : Int) = (b : Int) := u64_id _ (by omega) (by rcases hb with rfl | rfl <;> omega)
          have wd : IntKind.u64.wrap (d.toNat : Int) = (d.toNat : Int) := u64_id _ (by omega) (by omega)
          have wm : IntKind.u64.wrap ((b * v : Nat) : Int) = ((b * v : Nat) : Int) := u64_id _ (by omega) (by omega)
          have ws : IntKind.u64.wrap (((b * v : Nat) : Int) + (d.toNat : Int)) = ((b * v + d.toNat : Nat) : Int) := by rw [u64_id _ (by omega) (by omega)]; simp
          have wc : IntKind.u64.wrap ((IntKind.u64.wrap (1 * 2 ^ min (Int.toNat (IntKind.u64.wrap 64)) IntKind.u64.bits)) - 1) = 18446744073709551615 := by decide +kernel
          rw [wb, wd, hmul, wm, ws, wc, bF (by omega), bF (by omega), decide_eq_false (by omega : ¬ ((b * v + d.toNat : Nat) : Int) < ((b * v : Nat) : Int)), decide_eq_false (by omega : ¬ (18446744073709551615 : Int) < ((b * v + d.toNat : Nat) : Int))]
          rw [Bool.or_self, cond_false, grd_I (by omega), cast_succ, ih (i + 1) (b * v + d.toNat) (by omega) (by rw [hp3]; rcases hb with rfl | rfl <;> omega) (by omega)]
          simp only [num, hbd', if_false, hd2]
      have hb0 : decide ((b : Int) = 0) = false := decide_eq_false (by rcases hb with rfl | rfl <;> omega)
      simp (disch := omega) only [bT, grd_At, lt_eq, at_nat h, hb0, Bool.and_false, cond_false, bnd_some, bndc_some]
      cases hD : isD s[i] with
      | true =>
        have e : ((decide (48 ≤ ((s[i]).toNat : Int))) && (decide (((s[i]).toNat : Int) ≤ 57))) = true := hD
        rw [e, cond_true]
        exact key _ (dig_D b hb _ hD)
      | false =>
        have e : ((decide (48 ≤ ((s[i]).toNat : Int))) && (decide (((s[i]).toNat : Int) ≤ 57))) = false := hD
        rw [e, cond_false]
        have el : ((decide (97 ≤ ((s[i] ||| 32).toNat : Int))) && (decide ((((bif decide (97 ≤ ((s[i] ||| 32).toNat : Int)) then (s[i] ||| 32) else default) : UInt8).toNat : Int) ≤ 122))) = isL s[i] := by
          unfold isL
          cases decide (97 ≤ ((s[i] ||| 32).toNat : Int)) <;> rfl
        rw [el]
        cases hL : isL s[i] with
        | true =>
          rw [cond_true]
          exact key _ (dig_L b hb _ hD hL)
        | false =>
          rw [cond_false, hd]
          have := dig_no _ hD hL
          have : b ≤ dg s[i] := by rw [this]; rcases hb with rfl | rfl <;> omega
          simp [num, this]
    · rw [bF (by omega), bndc_f]
      have hi2 : s.length ≤ i := by omega
      rw [List.drop_eq_nil_of_le hi2]
      rfl

theorem int_eq (F : Nat) (s : Bs) (b : Nat) (hb : b = 10 ∨ b = 16) (h0 : s ≠ []) (hs : s.length ≤ 10) (hF : 20 < F) (h43 : at_ s 0 ≠ 43) (h45 : at_ s 0 ≠ 45) :
    strconv_ParseInt F s (b : Int) 0 = match num b 0 s with | none => some (0, 1) | some w => some ((w : Int), 0) := by
  have hp : 0 < s.length := List.length_pos_iff.2 h0
  have hw : ∀ (t : Bs) (v w : Nat), num b v t = some w → t.length ≤ 10 → v < 16 ^ (10 - t.length) → w < 16 ^ 10 := by
    intro t
    induction t with
    | nil => intro v w h _ hv; have : v = w := by simpa [num] using h
             subst this; exact hv
    | cons c r ih =>
      intro v w h hl hv
      simp only [num] at h
      split at h
      · cases h
      · rename_i hd
        simp only [List.length_cons] at hl hv
        refine ih _ _ h (by omega) ?_
        have e : 10 - r.length = (10 - (r.length + 1)) + 1 := by omega
        rw [e, Nat.pow_succ]
        rcases hb with rfl | rfl <;> omega
  have hu : sc_ParseUint F s (b : Int) 0 = match num b 0 s with | none => some (0, 2) | some w => some ((w : Int), 0) := by
    unfold sc_ParseUint sc_ParseUint_j6 sc_ParseUint_j5 sc_ParseUint_j4
    have h2 : ((decide (2 ≤ (b : Int))) && (decide ((b : Int) ≤ 36))) = true := by rcases hb with rfl | rfl <;> rfl
    rw [bF h0, h2, grd_t, grd_D rfl]
    have hwr := wrap_nn 64
    have go := fun c hc => uint_loop_eq F s b hb c hc hs F 0 0 (by omega) (by omega) (by omega)
    rcases hb with rfl | rfl
    · rw [bT (show ((10 : Nat) : Int) = 10 from rfl), grd_D hwr, grd_Cat (by omega)]; exact go _ (by omega)
    · rw [bF (show ¬ ((16 : Nat) : Int) = 10 by decide), bT (show ((16 : Nat) : Int) = 16 from rfl), grd_D hwr, grd_Cat (by omega)]; exact go _ (by omega)
  have hi : sc_ParseInt F s (b : Int) 0 = match num b 0 s with | none => some (0, 2) | some w => some ((w : Int), 0) := by
    unfold sc_ParseInt sc_ParseInt_j3 sc_ParseInt_j2 sc_ParseInt_j1
    have e1 : IntKind.u64.wrap (1 * 2 ^ min (Int.toNat (IntKind.u64.wrap 63)) IntKind.u64.bits) = 9223372036854775808 := by decide +kernel
    have e2 : (0 : Int) ≤ IntKind.u64.wrap 63 := by decide +kernel
    rw [hu]
    cases hn : num b 0 s with
    | none => simp (disch := omega) only [bF h0, bF, grd_At, lt_eq, bnd2_some]; rfl
    | some w =>
      have hwb : w < 16 ^ 10 := hw s 0 w hn hs (Nat.pow_pos (by omega))
      have hp2 : (16 : Nat) ^ 10 = 1099511627776 := rfl
      simp (disch := omega) only [bF h0, bF, grd_At, lt_eq, bnd2_some, e1, grd_D e2, grd_I, grd_D, Bool.not_false, Bool.true_and, Bool.false_and, cond_false]
      rfl
  unfold strconv_ParseInt
  rw [hi]
  cases hn : num b 0 s with
  | none =>
    simp only [bnd2_some]
    rw [show (!decide ((2 : Int) = 0)) = true by rfl, cond_true, grd_S (by omega)]; rfl
  | some w => rfl

theorem toB_nat (n : Int) (c : Nat) (h : n = c) : toB n = UInt8.ofNat c := by
  subst h
  unfold toB
  apply UInt8.toNat.inj
  rw [UInt8.toNat_ofNat', UInt8.toNat_ofNat']
  omega

/-- A sign's bytes. -/
theorem ent_rune (F : Nat) (r : Int) : ent_Rune F r = if (r = 9 ∨ r = 10 ∨ r = 13) ∨ (32 ≤ r ∧ r ≤ 55295) ∨ (57344 ≤ r ∧ r ≤ 65533) ∨ (65536 ≤ r ∧ r ≤ 1114111) then some (runeStr r, true) else some ([], false) := by
  have fin : -2147483648 ≤ r ∧ r ≤ 2147483647 → (grd (okJ r) (lt (runeStr r) fun x17 => some (x17, true))) = some (runeStr r, true) := fun h => by rw [grd_J h]; rfl
  unfold ent_Rune ent_in
  simp only [bndc_some]
  cases hA : ((decide (r = 9)) || (decide (r = 10))) || (decide (r = 13)) with
  | true =>
    have : r = 9 ∨ r = 10 ∨ r = 13 := by simpa [or_assoc] using hA
    simp only [Bool.not_true, Bool.false_and, cond_false]
    rw [if_pos (.inl this)]; exact fin (by omega)
  | false =>
    have hA' : ¬ (r = 9 ∨ r = 10 ∨ r = 13) := by simp at hA; omega
    simp only [Bool.not_false, Bool.true_and, cond_true]
    cases h7 : (decide (32 ≤ r)) && (decide (r ≤ 55295)) with
    | true =>
      have : 32 ≤ r ∧ r ≤ 55295 := by simpa using h7
      simp only [Bool.not_true, Bool.false_and, cond_false]
      rw [if_pos (by omega)]; exact fin (by omega)
    | false =>
      have h7' : ¬ (32 ≤ r ∧ r ≤ 55295) := fun e => by simp [e] at h7
      simp only [Bool.not_false, Bool.true_and, cond_true]
      cases h10 : (decide (57344 ≤ r)) && (decide (r ≤ 65533)) with
      | true =>
        have : 57344 ≤ r ∧ r ≤ 65533 := by simpa using h10
        simp only [Bool.not_true, Bool.false_and, cond_false]
        rw [if_pos (by omega)]; exact fin (by omega)
      | false =>
        have h10' : ¬ (57344 ≤ r ∧ r ≤ 65533) := fun e => by simp [e] at h10
        simp only [Bool.not_false, Bool.true_and, cond_true]
        cases h13 : (decide (65536 ≤ r)) && (decide (r ≤ 1114111)) with
        | true =>
          have : 65536 ≤ r ∧ r ≤ 1114111 := by simpa using h13
          simp only [Bool.not_true, Bool.false_and, cond_false]
          rw [if_pos (by omega)]; exact fin (by omega)
        | false =>
          have h13' : ¬ (65536 ≤ r ∧ r ≤ 1114111) := fun e => by simp [e] at h13
          rw [if_neg (by omega)]; rfl

theorem cond9 (p q s a b c d e f : Prop) [Decidable p] [Decidable q] [Decidable s] [Decidable a] [Decidable b] [Decidable c] [Decidable d] [Decidable e] [Decidable f] :
    (((!((((decide p) || (decide q)) || (decide s)) || ((decide a) && (decide b)))) && (!((decide c) && (decide d)))) && (!((decide e) && (decide f)))) = !decide ((p ∨ q ∨ s) ∨ (a ∧ b) ∨ (c ∧ d) ∨ (e ∧ f)) := by
  simp only [Bool.decide_or, Bool.decide_and, Bool.not_or, Bool.and_assoc, Bool.or_assoc]
theorem rune_cond (r : Int) : (((!((((decide (r = 9)) || (decide (r = 10))) || (decide (r = 13))) || ((decide (32 ≤ r)) && (decide (r ≤ 55295))))) && (!((decide (57344 ≤ r)) && (decide (r ≤ 65533))))) && (!((decide (65536 ≤ r)) && (decide (r ≤ 1114111))))) = !decide ((r = 9 ∨ r = 10 ∨ r = 13) ∨ (32 ≤ r ∧ r ≤ 55295) ∨ (57344 ≤ r ∧ r ≤ 65533) ∨ (65536 ≤ r ∧ r ≤ 1114111)) := cond9 _ _ _ _ _ _ _ _ _

theorem tb_div (k m c : Nat) : toB ((k : Int) + (c : Int) / (m : Int)) = UInt8.ofNat (k + c / m) := toB_nat _ _ (by rw [Int.natCast_add, Int.natCast_ediv])
theorem tb_mod (k m c : Nat) : toB ((k : Int) + (c : Int) % (m : Int)) = UInt8.ofNat (k + c % m) := toB_nat _ _ (by rw [Int.natCast_add, Int.natCast_emod])
theorem tb_both (k m n c : Nat) : toB ((k : Int) + (c : Int) / (m : Int) % (n : Int)) = UInt8.ofNat (k + c / m % n) := toB_nat _ _ (by rw [Int.natCast_add, Int.natCast_emod, Int.natCast_ediv])
theorem enc1 (c : Nat) (hc : Utf8.valid (c : Int) = true) : Utf8.encode (c : Int) = if c < 128 then ⟨#[UInt8.ofNat c]⟩ else if c < 2048 then ⟨#[UInt8.ofNat (192 + c / 64), UInt8.ofNat (128 + c % 64)]⟩
    else if c < 65536 then ⟨#[UInt8.ofNat (224 + c / 4096), UInt8.ofNat (128 + c / 64 % 64), UInt8.ofNat (128 + c % 64)]⟩ else ⟨#[UInt8.ofNat (240 + c / 262144), UInt8.ofNat (128 + c / 4096 % 64), UInt8.ofNat (128 + c / 64 % 64), UInt8.ofNat (128 + c % 64)]⟩ := by
  have hcc : (if Utf8.valid (c : Int) = true then ((c : Int)).toNat else Utf8.runeError) = c := by rw [if_pos hc, Int.toNat_natCast]
  unfold Utf8.encode
  rw [hcc]
theorem runeStr_def (n : Int) : runeStr n = (Utf8.encode n).data.toList := rfl
/-- What the document says of a sign's bytes. -/
theorem rune_bytes (c : Nat) (hc : Utf8.valid (c : Int) = true) : runeStr (c : Int) = if c < 128 then [toB c] else if c < 2048 then [toB (192 + (c : Int) / 64), toB (128 + (c : Int) % 64)]
    else if c < 65536 then [toB (224 + (c : Int) / 4096), toB (128 + (c : Int) / 64 % 64), toB (128 + (c : Int) % 64)] else [toB (240 + (c : Int) / 262144), toB (128 + (c : Int) / 4096 % 64), toB (128 + (c : Int) / 64 % 64), toB (128 + (c : Int) % 64)] := by
  have t1 : toB (c : Int) = UInt8.ofNat c := toB_nat (c : Int) c rfl
  have t2 : toB (192 + (c : Int) / 64) = UInt8.ofNat (192 + c / 64) := tb_div 192 64 c
  have t3 : toB (128 + (c : Int) % 64) = UInt8.ofNat (128 + c % 64) := tb_mod 128 64 c
  have t4 : toB (224 + (c : Int) / 4096) = UInt8.ofNat (224 + c / 4096) := tb_div 224 4096 c
  have t5 : toB (128 + (c : Int) / 64 % 64) = UInt8.ofNat (128 + c / 64 % 64) := tb_both 128 64 64 c
  have t6 : toB (240 + (c : Int) / 262144) = UInt8.ofNat (240 + c / 262144) := tb_div 240 262144 c
  have t7 : toB (128 + (c : Int) / 4096 % 64) = UInt8.ofNat (128 + c / 4096 % 64) := tb_both 128 4096 64 c
  rw [t1, t2, t3, t4, t5, t6, t7, runeStr_def, enc1 c hc]
  by_cases h1 : c < 128
  · rw [if_pos h1, if_pos h1]
  · rw [if_neg h1, if_neg h1]
    by_cases h2 : c < 2048
    · rw [if_pos h2, if_pos h2]
    · rw [if_neg h2, if_neg h2]
      by_cases h3 : c < 65536
      · rw [if_pos h3, if_pos h3]
      · rw [if_neg h3, if_neg h3]
theorem rune_valid (c : Nat) (h : ((c : Int) = 9 ∨ (c : Int) = 10 ∨ (c : Int) = 13) ∨ (32 ≤ (c : Int) ∧ (c : Int) ≤ 55295) ∨ (57344 ≤ (c : Int) ∧ (c : Int) ≤ 65533) ∨ (65536 ≤ (c : Int) ∧ (c : Int) ≤ 1114111)) : Utf8.valid (c : Int) = true := by
  unfold Utf8.valid
  by_cases h1 : (c : Int) < 55296
  · have : (0 : Int) ≤ (c : Int) := by omega
    rw [decide_eq_true this, decide_eq_true h1]; rfl
  · have h2 : (57344 : Int) ≤ (c : Int) := by omega
    have h3 : (c : Int) ≤ 1114111 := by omega
    rw [decide_eq_true h2, decide_eq_true h3, Bool.and_self, Bool.or_true]

theorem rune_eq (F : Nat) (r : Int) : ent_Rune F r = ref07_Rune F r := by
  rw [ent_rune]
  unfold ref07_Rune
  rw [rune_cond]
  by_cases h : (r = 9 ∨ r = 10 ∨ r = 13) ∨ (32 ≤ r ∧ r ≤ 55295) ∨ (57344 ≤ r ∧ r ≤ 65533) ∨ (65536 ≤ r ∧ r ≤ 1114111)
  · rw [if_pos h, decide_eq_true h, Bool.not_true, cond_false]
    obtain ⟨c, rfl⟩ : ∃ c : Nat, r = c := ⟨r.toNat, by omega⟩
    rw [rune_bytes c (rune_valid c h)]
    by_cases h1 : c < 128
    · rw [if_pos h1, bT (by omega)]
    · rw [if_neg h1, bF (by omega)]
      by_cases h2 : c < 2048
      · rw [if_pos h2, bT (by omega)]
        simp (disch := omega) only [grd_Div, grd_I]
      · rw [if_neg h2, bF (by omega)]
        by_cases h3 : c < 65536
        · rw [if_pos h3, bT (by omega)]
          simp (disch := omega) only [grd_Div, grd_I]
        · rw [if_neg h3, bF (by omega)]
          simp (disch := omega) only [grd_Div, grd_I]
  · rw [if_neg h, decide_eq_false h]; rfl

/-- What the document says of a number. -/
def cap (w : Nat) : Nat := if 1114111 < w then 1114112 else w

theorem refnum_loop (F : Nat) (s : Bs) (b : Nat) (hb : b = 10 ∨ b = 16) (hs : s.length ≤ 3700) : ∀ (n i v : Nat), s.length - i < n → i ≤ s.length →
    ref07_number_L1 F s (b : Int) n ((cap v : Int), (i : Int)) = match num b v (s.drop i) with | none => some (-1) | some w => some (if s.length = 0 then -1 else (cap w : Int)) := by
  intro n
  induction n with
  | zero => intro i v h; omega
  | succ n ih =>
    intro i v hn hi
    show ref07_number_B1 F s (b : Int) (ref07_number_L1 F s (b : Int) n) (cap v : Int) (i : Int) = _
    unfold ref07_number_B1 ref07_number_j2 ref07_number_j1
    have hcv : cap v ≤ 1114112 := by unfold cap; split <;> omega
    by_cases h : i < s.length
    · have hd : s.drop i = s[i] :: s.drop (i + 1) := List.drop_eq_getElem_cons h
      simp (disch := omega) only [bT, grd_At, lt_eq, at_nat h, digit_eq, bnd_some]
      rw [hd]
      by_cases hbd : b ≤ dg s[i]
      · rw [bT (by omega)]; simp [num, hbd]
      · have hdb : dg s[i] < 16 := by rcases hb with rfl | rfl <;> omega
        have hbc : b * cap v ≤ 16 * cap v := Nat.mul_le_mul_right _ (by rcases hb with rfl | rfl <;> omega)
        have e1 : (b : Int) * (cap v : Int) = ((b * cap v : Nat) : Int) := by simp
        have e2 : ((b * cap v : Nat) : Int) + (dg s[i] : Int) = ((b * cap v + dg s[i] : Nat) : Int) := by simp
        have e3 : cap (b * v + dg s[i]) = if 1114111 < b * cap v + dg s[i] then 1114112 else b * cap v + dg s[i] := by
          unfold cap
          rcases hb with rfl | rfl <;> (split <;> split <;> (try split) <;> omega)
        rw [bF (by omega), e1, e2, grd_I (by omega), grd_I (by omega)]
        simp only [num, hbd, if_false]
        have := ih (i + 1) (b * v + dg s[i]) (by omega) (by omega)
        rw [e3] at this
        by_cases hc : 1114111 < b * cap v + dg s[i]
        · rw [bT (by omega), grd_I (by omega), cast_succ]
          rw [if_pos hc] at this
          exact this
        · rw [bF (by omega), grd_I (by omega), cast_succ]
          rw [if_neg hc] at this
          exact this
    · have hi2 : s.length ≤ i := by omega
      rw [bF (by omega), List.drop_eq_nil_of_le hi2]
      simp only [num]
      by_cases h0 : s.length = 0
      · rw [bT (by omega), if_pos h0]
      · rw [bF (by omega), if_neg h0]

theorem refnum_eq (F : Nat) (s : Bs) (b : Nat) (hb : b = 10 ∨ b = 16) (hs : s.length ≤ 3700) (hF : s.length < F) :
    ref07_number F s (b : Int) = match num b 0 s with | none => some (-1) | some w => some (if s.length = 0 then -1 else (cap w : Int)) := by
  have := refnum_loop F s b hb hs F 0 0 (by omega) (by omega)
  have hc : cap 0 = 0 := rfl
  rw [hc, List.drop_zero] at this
  exact this

theorem num_no {s : Bs} {b v : Nat} (hb : b = 10 ∨ b = 16) {c : UInt8} (hc : dg c = 99) (h : c ∈ s) : num b v s = none := by
  induction s generalizing v with
  | nil => cases h
  | cons d r ih =>
    simp only [num]
    rcases List.mem_cons.1 h with rfl | h
    · rw [if_pos (by rcases hb with rfl | rfl <;> omega)]
    · split
      · rfl
      · exact ih h
end Go.Pn
namespace Go.Pn
open Go.Pv Go.Av

theorem rune_neg (F : Nat) : ref07_Rune F (-1) = some ([], false) := by rw [← rune_eq, ent_rune, if_neg (by omega)]
theorem rune_cap (F w : Nat) : ref07_Rune F (cap w : Int) = ref07_Rune F (w : Int) := by
  unfold cap
  split
  · rw [← rune_eq, ← rune_eq, ent_rune, ent_rune, if_neg (by omega), if_neg (by omega)]
  · rfl

theorem contains_some (F : Nat) (s : Bs) (hs : s.length ≤ 3700) : containsAny F s [95] = some (decide (0 ≤ Go.Lib.indexByte s 95)) := by
  unfold containsAny idxAny idxAnyG idxAnyG_j1 idxRune
  have e : ((decide (8 < s.length)) && (decide (2 ≤ ([95] : Bs).length))) = false := by simp
  have e2 : at_ ([95] : Bs) 0 = 95 := rfl
  have e3 : asciiB [95] = true := by decide
  have e4 : ((95 : UInt8).toNat : Int) = 95 := rfl
  have e5 : toB 95 = 95 := rfl
  rw [e, cond_false]
  simp (disch := (first | omega | (simp; done) | (simp; omega))) only [e3, grd_t, grd_S, bF, bT, grd_At, lt_eq, e2, e4, grd_J]
  rfl

/-- A number, read by the program, is the document's. -/
theorem number_same (F : Nat) (s : Bs) (b : Nat) (hb : b = 10 ∨ b = 16) (hs : s.length ≤ 10) (hF : 20 < F) : ∃ v, ref07_number F s (b : Int) = some v ∧ ent_number F s (b : Int) = ref07_Rune F v := by
  rw [refnum_eq F s b hb (by omega) (by omega)]
  unfold ent_number
  cases s with
  | nil =>
    refine ⟨-1, rfl, ?_⟩
    rw [rune_neg]
    simp [grdc_f, lt_eq, bndc_f]
  | cons c r =>
    have h0 : decide ((c :: r) = []) = false := decide_eq_false (by simp)
    have ha : at_ (c :: r) 0 = c := rfl
    have hg : ∀ (q : Bool) (k : Option (Bs × Bool)), grdc q (okAt 0 (c :: r).length) k = k := fun q k => grdc_At (fun _ => by simp)
    have hlen : ¬ (c :: r).length = 0 := by simp
    rw [contains_some F (c :: r) (by omega)]
    simp only [hg, h0, lt_eq, ha, bndc_some, Bool.false_or]
    by_cases h1 : c = 43
    · rw [num_no hb (c := 43) (by decide) (by simp [h1])]
      refine ⟨-1, rfl, ?_⟩
      rw [rune_neg]; simp [h1]
    · by_cases h2 : c = 45
      · rw [num_no hb (c := 45) (by decide) (by simp [h2])]
        refine ⟨-1, rfl, ?_⟩
        rw [rune_neg]; simp [h2]
      · by_cases h3 : c = 95
        · rw [num_no hb (c := 95) (by decide) (by simp [h3])]
          refine ⟨-1, rfl, ?_⟩
          rw [rune_neg]; simp [h3]
        · simp only [h1, h2, h3, decide_false, Bool.or_self, Bool.false_or, Bool.not_false, cond_true]
          by_cases h4 : 0 ≤ Go.Lib.indexByte (c :: r) 95
          · rw [bT h4]
            have hmem : (95 : UInt8) ∈ c :: r := by
              by_cases hm : (95 : UInt8) ∈ c :: r
              · exact hm
              · have := indexByte_no (c := 95) (s := c :: r) (fun x hx e => hm (e ▸ hx))
                omega
            rw [num_no hb (c := 95) (by decide) hmem]
            exact ⟨-1, rfl, (rune_neg F).symm⟩
          · rw [bF h4, int_eq F (c :: r) b hb (by simp) hs hF (by rw [ha]; exact h1) (by rw [ha]; exact h2)]
            cases hn : num b 0 (c :: r) with
            | none => exact ⟨-1, rfl, by rw [rune_neg]; rfl⟩
            | some w =>
              refine ⟨(cap w : Int), by simp only [hlen, if_false], ?_⟩
              rw [rune_cap, ← rune_eq]
              simp only [bnd2_some]
              simp only [decide_true, Bool.not_true, cond_false]
              cases he : ent_Rune F (w : Int) with
              | none => rfl
              | some p => rfl

/-- An entity's sign. -/
theorem sign_same (F : Nat) (b : Bs) (hb : b.length ≤ 10) (hF : 20 < F) : ent_sign F b = ref07_sign F b := by
  have fallback : mhas [(([97, 109, 112] : List UInt8), (38 : Int)), (([108, 116] : List UInt8), 60), (([103, 116] : List UInt8), 62), (([113, 117, 111, 116] : List UInt8), 34), (([97, 112, 111, 115] : List UInt8), 39)] b = false →
      ¬ b = [97, 109, 112] → ¬ b = [108, 116] → ¬ b = [103, 116] → ¬ b = [113, 117, 111, 116] → ¬ b = [97, 112, 111, 115] → ent_sign F b = ref07_sign F b := by
    intro hm n1 n2 n3 n4 n5
    unfold ent_sign ent_signs ref07_sign ref07_sign_j1
    simp only [bnd_some, lt_eq, hm, cond_false, bF n1, bF n2, bF n3, bF n4, bF n5]
    cases b with
    | nil => simp [Go.Lib.hasPrefix, grdc_f]
    | cons c r =>
      cases r with
      | nil =>
        obtain ⟨v, _, hv⟩ := number_same F [] 10 (.inl rfl) (by simp) hF
        have e0 : ent_number F [] 10 = some ([], false) := by unfold ent_number; simp [grdc_f, lt_eq, bndc_f]
        by_cases h : c = 35
        · subst h
          have e1 : Go.Lib.hasPrefix [35] [35, 120] = false := by decide
          have e2 : Go.Lib.hasPrefix [35] [35] = true := by decide
          have e3 : Go.Lib.trimPrefix [35] [35] = [] := by decide
          rw [e1, e2, e3, cond_false, cond_true, e0]
          simp [bnd2_some, grdc_f]
        · have e1 : Go.Lib.hasPrefix [c] [35, 120] = false := by simp [Go.Lib.hasPrefix, List.isPrefixOf]
          have e2 : Go.Lib.hasPrefix [c] [35] = false := by simp [Go.Lib.hasPrefix, List.isPrefixOf, Ne.symm h]
          rw [e1, e2, cond_false, cond_false]
          simp [grdc_f]
      | cons d r =>
        have ha : at_ (c :: d :: r) 0 = c := rfl
        have hb1 : at_ (c :: d :: r) 1 = d := rfl
        have hl : decide (((c :: d :: r).length : Int) < 2) = false := decide_eq_false (by simp only [List.length_cons]; omega)
        have f1 : from_ (c :: d :: r) 1 = d :: r := rfl
        have f2 : from_ (c :: d :: r) 2 = r := rfl
        have hg : ∀ (q : Bool) (k : Option (Bs × Bool)), grdc q (okAt 0 (c :: d :: r).length) k = k := fun q k => grdc_At (fun _ => by simp only [List.length_cons]; omega)
        simp only [hg, hl, ha, hb1, f1, f2, Bool.false_or]
        by_cases h : c = 35
        · subst h
          rw [show (!decide ((35 : UInt8) = 35)) = false by rfl, cond_false]
          obtain ⟨v, hv1, hv2⟩ := number_same F (d :: r) 10 (.inl rfl) (by simp at hb ⊢; omega) hF
          have hv1' : ref07_number F (d :: r) 10 = some v := hv1
          have hv2' : ent_number F (d :: r) 10 = ref07_Rune F v := hv2
          simp (disch := (first | omega | (simp; done) | (simp; omega))) only [grd_To, grd_At, hv1', bnd_some]
          by_cases hx : d = 120
          · subst hx
            obtain ⟨u, hu1, hu2⟩ := number_same F r 16 (.inr rfl) (by simp at hb ⊢; omega) hF
            have hu1' : ref07_number F r 16 = some u := hu1
            have hu2' : ent_number F r 16 = ref07_Rune F u := hu2
            have e1 : Go.Lib.hasPrefix (35 :: 120 :: r) [35, 120] = true := by simp [Go.Lib.hasPrefix, List.isPrefixOf]
            have e3 : Go.Lib.trimPrefix (35 :: 120 :: r) [35, 120] = r := by simp [Go.Lib.trimPrefix, Go.Lib.hasPrefix, List.isPrefixOf]
            rw [e1, e3, cond_true, bT rfl, hu1', bnd_some, hu2']
          · have e1 : Go.Lib.hasPrefix (35 :: d :: r) [35, 120] = false := by simp [Go.Lib.hasPrefix, List.isPrefixOf, Ne.symm hx]
            have e2 : Go.Lib.hasPrefix (35 :: d :: r) [35] = true := by simp [Go.Lib.hasPrefix, List.isPrefixOf]
            have e3 : Go.Lib.trimPrefix (35 :: d :: r) [35] = d :: r := by simp [Go.Lib.trimPrefix, Go.Lib.hasPrefix, List.isPrefixOf]
            rw [e1, e2, e3, cond_false, cond_true, bF hx, hv2']
        · have e1 : Go.Lib.hasPrefix (c :: d :: r) [35, 120] = false := by simp [Go.Lib.hasPrefix, List.isPrefixOf, Ne.symm h]
          have e2 : Go.Lib.hasPrefix (c :: d :: r) [35] = false := by simp [Go.Lib.hasPrefix, List.isPrefixOf, Ne.symm h]
          rw [e1, e2, cond_false, cond_false, decide_eq_false h]; rfl
  have named : ∀ (n : Bs) (k : Int) (x : Bs), (mhas [(([97, 109, 112] : List UInt8), (38 : Int)), (([108, 116] : List UInt8), 60), (([103, 116] : List UInt8), 62), (([113, 117, 111, 116] : List UInt8), 34), (([97, 112, 111, 115] : List UInt8), 39)] n = true) →
      runeStr (mget [(([97, 109, 112] : List UInt8), (38 : Int)), (([108, 116] : List UInt8), 60), (([103, 116] : List UInt8), 62), (([113, 117, 111, 116] : List UInt8), 34), (([97, 112, 111, 115] : List UInt8), 39)] n) = x → ent_sign F n = some (x, true) := by
    intro n k x h1 h2
    unfold ent_sign ent_signs
    simp only [bnd_some, lt_eq, h1, h2, cond_true]
  by_cases n1 : b = [97, 109, 112]
  · subst n1; rw [named _ 38 [38] (by decide +kernel) (by decide +kernel)]; rfl
  by_cases n2 : b = [108, 116]
  · subst n2; rw [named _ 60 [60] (by decide +kernel) (by decide +kernel)]; rfl
  by_cases n3 : b = [103, 116]
  · subst n3; rw [named _ 62 [62] (by decide +kernel) (by decide +kernel)]; rfl
  by_cases n4 : b = [113, 117, 111, 116]
  · subst n4; rw [named _ 34 [34] (by decide +kernel) (by decide +kernel)]; rfl
  by_cases n5 : b = [97, 112, 111, 115]
  · subst n5; rw [named _ 39 [39] (by decide +kernel) (by decide +kernel)]; rfl
  refine fallback ?_ n1 n2 n3 n4 n5
  simp [mhas, List.lookup, beq_false_of_ne n1, beq_false_of_ne n2, beq_false_of_ne n3, beq_false_of_ne n4, beq_false_of_ne n5]
end Go.Pn
namespace Go.Pn
open Go.Pv Go.Av

theorem getD_at (s : Bs) (k : Nat) (h : k < s.length) : (⟨s.toArray⟩ : ByteArray).get! k = s[k] := by
  show (s.toArray)[k]! = _
  simp [h]

/-- The bytes of a sign that is not ASCII are none of ASCII. -/
theorem decR_skip (s : Bs) (p m : Nat) (hm : 0 < m) (hk : m < (decR s p).2) : ∃ h : p + m < s.length, 128 ≤ (s[p + m]).toNat := by
  have key : ∀ k, (decide (p + k < (⟨s.toArray⟩ : ByteArray).size) && ((⟨s.toArray⟩ : ByteArray).get! (p + k)).toNat / 64 == 2) = true → ∃ h : p + k < s.length, 128 ≤ (s[p + k]).toNat := by
    intro k hk
    simp only [Bool.and_eq_true, decide_eq_true_eq, beq_iff_eq] at hk
    obtain ⟨h1, h2⟩ := hk
    have h1' : p + k < s.length := h1
    rw [getD_at s (p + k) h1'] at h2
    exact ⟨h1', by omega⟩
  unfold decR Utf8.decode at hk
  simp only at hk
  split at hk
  · simp at hk; omega
  · split at hk
    · rename_i h2
      simp only [Bool.and_eq_true] at h2
      split at hk
      · have : m = 1 := by simp at hk; omega
        subst this
        exact key 1 (by simpa using h2.2)
      · simp at hk; omega
    · split at hk
      · rename_i h2
        simp only [Bool.and_eq_true] at h2
        split at hk
        · have : m = 1 ∨ m = 2 := by simp at hk; omega
          rcases this with rfl | rfl
          · exact key 1 (by simpa using h2.1.2)
          · exact key 2 (by simpa using h2.2)
        · simp at hk; omega
      · split at hk
        · rename_i h2
          simp only [Bool.and_eq_true] at h2
          split at hk
          · have : m = 1 ∨ m = 2 ∨ m = 3 := by simp at hk; omega
            rcases this with rfl | rfl | rfl
            · exact key 1 (by simpa using h2.1.1.2)
            · exact key 2 (by simpa using h2.1.2)
            · exact key 3 (by simpa using h2.2)
          · simp at hk; omega
        · simp at hk; omega

theorem getE (s : Bs) (p : Nat) (h : p < s.length) : ((⟨s.toArray⟩ : ByteArray)[p]'h) = s[p] := rfl
theorem decR_low (s : Bs) (p : Nat) (h : p < s.length) (hb : (s[p]).toNat < 128) : decR s p = ((s[p]).toNat, 1) := decode_ascii (⟨s.toArray⟩ : ByteArray) p h hb
theorem decR_high (s : Bs) (p : Nat) (h : p < s.length) (hb : 128 ≤ (s[p]).toNat) : 128 ≤ (decR s p).1 := (decode_high (⟨s.toArray⟩ : ByteArray) p h hb).1

theorem idxRune_hi (F : Nat) (hF : 5 ≤ F) (r : Int) (hr : 128 ≤ r) : idxRune F [38, 59] r = some (-1) := by
  obtain ⟨k1, k2⟩ := runeStr_two r hr
  have k3 := runeStr_len r
  unfold idxRune
  have hf : ((decide (0 ≤ r)) && (decide (r < 128))) = false := by rw [decide_eq_false (by omega : ¬ r < 128), Bool.and_false]
  rw [hf, cond_false]
  by_cases h2 : r = 65533
  · rw [bT h2]
    obtain ⟨m, rfl⟩ : ∃ m, F = m + 3 := ⟨F - 3, by omega⟩
    have e0 : decR [38, 59] 0 = (38, 1) := by decide +kernel
    have e1 : decR [38, 59] 1 = (59, 1) := by decide +kernel
    show idxRune_B1 [38, 59] (idxRune_L1 [38, 59] (m + 2)) 0 = _
    unfold idxRune_B1
    simp only [e0]
    show idxRune_B1 [38, 59] (idxRune_L1 [38, 59] (m + 1)) 1 = _
    unfold idxRune_B1
    simp only [e1]
    rfl
  · rw [bF h2]
    have hv : ∃ b, ValidRune F r = some b := by
      unfold ValidRune
      cases (decide (0 ≤ r)) && (decide (r < 55296)) with
      | true => exact ⟨true, rfl⟩
      | false =>
        rw [cond_false]
        cases (decide (57343 < r)) && (decide (r ≤ 1114111)) with
        | true => exact ⟨true, rfl⟩
        | false => exact ⟨false, rfl⟩
    obtain ⟨b, hb⟩ := hv
    rw [hb, bnd_some]
    cases b with
    | false => rfl
    | true =>
      obtain ⟨m, rfl⟩ : ∃ m, F = m + 1 := ⟨F - 1, by omega⟩
      simp (disch := omega) only [Bool.not_true, cond_false, lt_eq, grd_I]
      show idxRune_B2 [38, 59] (runeStr r) (idxRune_L2 [38, 59] (runeStr r) m) = _
      unfold idxRune_B2 idxRune_j2
      by_cases h3 : (runeStr r).length = 2
      · have e1 : ((runeStr r).length : Int) - 1 = 1 := by omega
        have e2 : at_ ([38, 59] : Bs) 1 = 59 := rfl
        have e3 : from_ ([38, 59] : Bs) (1 + 1) = [] := rfl
        rw [e1]
        simp (disch := (first | omega | (simp; done) | (simp; omega))) only [bT, grd_At, lt_eq, e2, decide_eq_false (k2 h3), Bool.not_false, grd_t, grd_I, grd_To, e3]
        rfl
      · have : ¬ ((runeStr r).length : Int) - 1 < (([38, 59] : Bs).length : Int) := by simp; omega
        rw [bF this]

/-- Where the next '&' or ';' stands, from a place on. -/
def nxt (s : Bs) (y : Nat) : Int := if Go.Lib.indexAny (s.drop y) [38, 59] = -1 then -1 else (y : Int) + Go.Lib.indexAny (s.drop y) [38, 59]
theorem nxt_step (s : Bs) (y : Nat) (h : y < s.length) (hc : ([38, 59] : Bs).contains s[y] = false) : nxt s (y + 1) = nxt s y := by
  unfold nxt
  rw [List.drop_eq_getElem_cons h]
  simp only [Go.Lib.indexAny, hc]
  have := (indexAny_r (s.drop (y + 1)) [38, 59]).1
  by_cases e : Go.Lib.indexAny (s.drop (y + 1)) [38, 59] = -1
  · simp [e]
  · have e2 : (Go.Lib.indexAny (s.drop (y + 1)) [38, 59] == -1) = false := by simpa using e
    have e3 : ¬ Go.Lib.indexAny (s.drop (y + 1)) [38, 59] + 1 = -1 := by omega
    simp [e, e2, e3]; omega
theorem nxt_hi (s : Bs) (y : Nat) (h : y < s.length) (hb : 128 ≤ (s[y]).toNat) : nxt s (y + 1) = nxt s y := by
  refine nxt_step s y h ?_
  have h1 : s[y] ≠ 38 := by intro e; rw [e] at hb; revert hb; decide
  have h2 : s[y] ≠ 59 := by intro e; rw [e] at hb; revert hb; decide
  simp [h1, h2]
theorem nxt_skip (s : Bs) (y : Nat) : ∀ k, (∀ m, m < k → ∃ h : y + m < s.length, 128 ≤ (s[y + m]).toNat) → nxt s (y + k) = nxt s y := by
  intro k
  induction k with
  | zero => intro _; rfl
  | succ k ih =>
    intro h
    obtain ⟨h1, h2⟩ := h k (by omega)
    rw [show y + (k + 1) = y + k + 1 by omega, nxt_hi s (y + k) h1 h2]
    exact ih (fun m hm => h m (by omega))

theorem idxAnyG_eq (F : Nat) (hF : 5 ≤ F) (s : Bs) : ∀ (n y : Nat), s.length - y < n → idxAnyG_L1 F s [38, 59] n y = some (nxt s y) := by
  intro n
  induction n with
  | zero => intro y h; omega
  | succ n ih =>
    intro y hy
    show idxAnyG_B1 F s [38, 59] (idxAnyG_L1 F s [38, 59] n) y = _
    unfold idxAnyG_B1 idxAnyG_j2
    by_cases h : y < s.length
    · rw [bT h]
      by_cases hb : (s[y]).toNat < 128
      · rw [decR_low s y h hb]
        have hi : idxRune F [38, 59] ((s[y]).toNat : Int) = some (Go.Lib.indexByte [38, 59] s[y]) := by
          unfold idxRune
          have e : ((decide ((0 : Int) ≤ ((s[y]).toNat : Int))) && (decide (((s[y]).toNat : Int) < 128))) = true := by
            rw [decide_eq_true (by omega : (0 : Int) ≤ ((s[y]).toNat : Int)), decide_eq_true (by omega : ((s[y]).toNat : Int) < 128)]; rfl
          rw [e, cond_true, lt_eq, toB_nat _ (s[y]).toNat rfl, UInt8.ofNat_toNat]
        simp only [hi, bnd_some]
        by_cases hc : ([38, 59] : Bs).contains s[y] = true
        · have h0 : 0 ≤ Go.Lib.indexByte [38, 59] s[y] := by
            have : s[y] = 38 ∨ s[y] = 59 := by simpa using hc
            rcases this with e | e <;> rw [e] <;> decide
          rw [bT h0]
          unfold nxt
          rw [List.drop_eq_getElem_cons h]
          simp only [Go.Lib.indexAny, hc, if_true]
          simp
        · have hc' : ([38, 59] : Bs).contains s[y] = false := by simpa using hc
          have h0 : ¬ 0 ≤ Go.Lib.indexByte [38, 59] s[y] := by
            have hne : ¬ s[y] = 38 ∧ ¬ s[y] = 59 := by simpa using hc'
            have := indexByte_no (c := s[y]) (s := [38, 59]) (fun b hb e => by
              simp at hb
              rcases hb with rfl | rfl
              · exact hne.1 e.symm
              · exact hne.2 e.symm)
            omega
          rw [bF h0, ih (y + 1) (by omega), nxt_step s y h hc']
      · have hh := decR_high s y h (by omega)
        have hp := decR_pos s y
        rw [idxRune_hi F hF _ (by omega), bnd_some, bF (by omega), ih _ (by omega)]
        rw [nxt_skip s y (decR s y).2 (fun m hm => by
          cases m with
          | zero => exact ⟨h, by simpa using hb⟩
          | succ m => exact decR_skip s y (m + 1) (by omega) hm)]
    · rw [bF h]
      unfold nxt
      rw [List.drop_eq_nil_of_le (by omega)]
      rfl

theorem idxAny_eq (F : Nat) (s : Bs) (hF : 20 ≤ F) : idxAny F s [38, 59] = some (Go.Lib.indexAny s [38, 59]) := by
  unfold idxAny
  by_cases h : 8 < s.length
  · simp [h]
  · have e : ((decide (8 < s.length)) && (decide (2 ≤ ([38, 59] : Bs).length))) = false := by simp [h]
    rw [e, cond_false]
    unfold idxAnyG useSet idxAnyG_j3
    have e3 : decide ((8 : Int) < (s.length : Int)) = false := decide_eq_false (by omega)
    simp (disch := (first | omega | (simp; done) | (simp; omega))) only [bF, bnd_some, e3, Bool.not_false, grd_t]
    rw [idxAnyG_eq F (by omega) s F 0 (by omega)]
    unfold nxt
    rw [List.drop_zero]
    split
    · rename_i e; rw [e]
    · simp
end Go.Pn
namespace Go.Pn
open Go.Pv Go.Av

abbrev amp : Bs := [38, 59]
theorem any_cons (c : UInt8) (r : Bs) : Go.Lib.indexAny (c :: r) amp = if c = 38 ∨ c = 59 then 0 else if Go.Lib.indexAny r amp = -1 then -1 else Go.Lib.indexAny r amp + 1 := by
  simp [Go.Lib.indexAny]
theorem any_at (r : Bs) : ∀ (k : Nat) (h : k < r.length), (∀ b ∈ r.take k, ¬ (b = 38 ∨ b = 59)) → (r[k] = 38 ∨ r[k] = 59) → Go.Lib.indexAny r amp = (k : Int) := by
  induction r with
  | nil => intro k h; simp at h
  | cons c r ih =>
    intro k h hb hk
    rw [any_cons]
    cases k with
    | zero => rw [if_pos (by simpa using hk)]; rfl
    | succ k =>
      rw [if_neg (hb c (by simp)), ih k (by simpa using h) (fun b hb' => hb b (by simp [hb'])) (by simpa using hk), if_neg (by omega)]
      rfl
theorem any_ge (r : Bs) : ∀ (k : Nat), (∀ b ∈ r.take k, ¬ (b = 38 ∨ b = 59)) → Go.Lib.indexAny r amp = -1 ∨ (k : Int) ≤ Go.Lib.indexAny r amp := by
  induction r with
  | nil => intro k _; exact .inl rfl
  | cons c r ih =>
    intro k hb
    rw [any_cons]
    cases k with
    | zero =>
      have := (indexAny_r (c :: r) amp).1
      rw [any_cons] at this
      omega
    | succ k =>
      rw [if_neg (hb c (by simp))]
      rcases ih k (fun b hb' => hb b (by simp [hb'])) with h | h
      · rw [if_pos h]; exact .inl rfl
      · split
        · exact .inl rfl
        · right; omega
theorem any_is (r : Bs) : ∀ (k : Nat) (h : k < r.length), Go.Lib.indexAny r amp = (k : Int) → r[k] = 38 ∨ r[k] = 59 := by
  induction r with
  | nil => intro k h; simp at h
  | cons c r ih =>
    intro k h hk
    rw [any_cons] at hk
    by_cases hc : c = 38 ∨ c = 59
    · rw [if_pos hc] at hk
      have : k = 0 := by omega
      subst this; simpa using hc
    · rw [if_neg hc] at hk
      split at hk
      · omega
      · cases k with
        | zero => have := (indexAny_r r amp).1; omega
        | succ k => simpa using ih k (by simpa using h) (by omega)

/-- The body of an entity, and whether there is one. -/
def bodyOf (r : Bs) : Bs × Bool :=
  if 0 ≤ Go.Lib.indexAny r amp ∧ Go.Lib.indexAny r amp ≤ 10 ∧ r.getD (Go.Lib.indexAny r amp).toNat 0 = 59 then (r.take (Go.Lib.indexAny r amp).toNat, decide (0 < Go.Lib.indexAny r amp)) else ([], false)

theorem body_loop (s r : Bs) (i : Nat) (hr : s.drop (i + 1) = r) (hi : i < s.length) (hs : s.length ≤ 3700) : ∀ (n k : Nat), s.length - (i + 1 + k) < n → k ≤ 11 → k ≤ r.length → (∀ b ∈ r.take k, ¬ (b = 38 ∨ b = 59)) →
    ref07_body_L1 s (i : Int) n ((i + 1 + k : Nat) : Int) = some (bodyOf r) := by
  have hlr : r.length = s.length - (i + 1) := by rw [← hr]; simp
  intro n
  induction n with
  | zero => intro k h; omega
  | succ n ih =>
    intro k hn hk hkr hb
    show ref07_body_B1 s (i : Int) (ref07_body_L1 s (i : Int) n) ((i + 1 + k : Nat) : Int) = _
    unfold ref07_body_B1 ref07_body_j1
    have hg : ∀ (q : Bool) (k : Option (Bs × Bool)), grdc q (okI ((i : Int) + 11)) k = k := fun q k => by
      cases q
      · rw [grdc_f]
      · rw [grdc_t, grd_I (by omega)]
    rw [hg]
    have hge := any_ge r k hb
    by_cases h : i + 1 + k < s.length ∧ k ≤ 10
    · have e : ((decide (((i + 1 + k : Nat) : Int) < (s.length : Int))) && (decide (((i + 1 + k : Nat) : Int) ≤ (i : Int) + 11))) = true := by
        rw [decide_eq_true (by omega : ((i + 1 + k : Nat) : Int) < (s.length : Int)), decide_eq_true (by omega : ((i + 1 + k : Nat) : Int) ≤ (i : Int) + 11)]; rfl
      have hkl : k < r.length := by omega
      have hsr : s[i + 1 + k] = r[k] := by subst hr; simp
      rw [e, cond_true]
      simp (disch := omega) only [grd_At, lt_eq, at_nat h.1, hsr]
      by_cases h38 : r[k] = 38
      · rw [bT h38]
        have hj := any_at r k hkl hb (.inl h38)
        have hget : ¬ r.getD (k : Int).toNat 0 = 59 := by simp [hkl, h38]
        unfold bodyOf
        rw [hj, if_neg (fun hh => hget hh.2.2)]
      · rw [bF h38]
        by_cases h59 : r[k] = 59
        · rw [bT h59]
          have hj := any_at r k hkl hb (.inr h59)
          have hget : r.getD (k : Int).toNat 0 = 59 := by simp [hkl, h59]
          have hsub : sub s ((i : Int) + 1) ((i + 1 + k : Nat) : Int) = r.take k := by
            rw [show (i : Int) + 1 = ((i + 1 : Nat) : Int) from rfl, sub_nat, ← hr, List.drop_take]
            congr 1; omega
          have hdec : decide ((i : Int) + 1 < ((i + 1 + k : Nat) : Int)) = decide ((0 : Int) < (k : Int)) := by
            by_cases hk0 : 0 < k
            · rw [decide_eq_true (by omega), decide_eq_true (by omega)]
            · rw [decide_eq_false (by omega), decide_eq_false (by omega)]
          unfold bodyOf
          simp (disch := omega) only [grd_I, grd_Sub, hsub, hdec]
          rw [hj, if_pos ⟨by omega, by omega, hget⟩]
          simp
        · rw [bF h59, grd_I (by omega)]
          have := ih (k + 1) (by omega) (by omega) (by omega) (by
            rw [List.take_succ_eq_append_getElem hkl]
            intro b hb'
            rcases List.mem_append.1 hb' with hb' | hb'
            · exact hb b hb'
            · have : b = r[k] := by simpa using hb'
              rw [this]; rintro (e | e)
              · exact h38 e
              · exact h59 e)
          rw [show ((i + 1 + k : Nat) : Int) + 1 = ((i + 1 + (k + 1) : Nat) : Int) by omega]
          exact this
    · have e : ((decide (((i + 1 + k : Nat) : Int) < (s.length : Int))) && (decide (((i + 1 + k : Nat) : Int) ≤ (i : Int) + 11))) = false := by
        by_cases h1 : i + 1 + k < s.length
        · rw [decide_eq_false (by omega : ¬ ((i + 1 + k : Nat) : Int) ≤ (i : Int) + 11), Bool.and_false]
        · rw [decide_eq_false (by omega : ¬ ((i + 1 + k : Nat) : Int) < (s.length : Int)), Bool.false_and]
      rw [e, cond_false]
      have hlt := (indexAny_r r amp).2
      unfold bodyOf
      rw [if_neg (by omega)]

theorem body_eq (F : Nat) (s r : Bs) (i : Nat) (hr : s.drop (i + 1) = r) (hi : i < s.length) (hs : s.length ≤ 3700) (hF : s.length < F) : ref07_body F s (i : Int) = some (bodyOf r) := by
  unfold ref07_body
  rw [grd_I (by omega)]
  have := body_loop s r i hr hi hs F 0 (by omega) (by omega) (by omega) (by simp)
  exact this

theorem body_len (r : Bs) : (bodyOf r).1.length ≤ 10 := by
  unfold bodyOf
  split
  · rename_i h; simp; omega
  · simp

/-- What an entity gives, and how long it is. -/
theorem first_eq (F : Nat) (r : Bs) (hs : r.length ≤ 3700) (hF : 3800 < F) : ∃ x k, ref07_sign F (bodyOf r).1 = some (x, k) ∧ ent_first F (38 :: r) = some (if (bodyOf r).2 = true ∧ k = true then (x, ((bodyOf r).1.length : Int) + 2) else ([], 0)) := by
  have hbl := body_len r
  obtain ⟨x, k, hx, _⟩ := sign_tot F (bodyOf r).1 (by omega) (by omega)
  refine ⟨x, k, by rw [← sign_same F _ hbl (by omega)]; exact hx, ?_⟩
  obtain ⟨hj1, hj2⟩ := indexAny_r r amp
  have h1 : from_ (38 :: r) 1 = r := rfl
  have ha : asciiB [38, 59] = true := by decide
  have hl : ((38 :: r : Bs).length : Int) = (r.length : Int) + 1 := by simp
  unfold ent_first ent_in
  simp (disch := (first | omega | (simp; done) | (simp; omega))) only [grd_To, lt_eq, ha, grd_t, grd_S, h1, idxAny_eq F r (by omega), bnd_some]
  by_cases h : 1 ≤ Go.Lib.indexAny r amp ∧ Go.Lib.indexAny r amp ≤ 10
  · obtain ⟨j, hj⟩ : ∃ j : Nat, Go.Lib.indexAny r amp = j := ⟨(Go.Lib.indexAny r amp).toNat, by omega⟩
    have hjl : j < r.length := by omega
    have hc := any_is r j hjl hj
    have hx' : ((decide (1 ≤ Go.Lib.indexAny r amp)) && (decide (Go.Lib.indexAny r amp ≤ 10))) = true := by simp [h]
    have hat : at_ (38 :: r) ((j : Int) + 1) = r[j] := by
      rw [show (j : Int) + 1 = ((j + 1 : Nat) : Int) from rfl, at_nat (by simp; omega)]; simp
    have hsub : sub (38 :: r) 1 ((j : Int) + 1) = r.take j := by
      rw [show (j : Int) + 1 = ((j + 1 : Nat) : Int) from rfl, show (1 : Int) = ((1 : Nat) : Int) from rfl, sub_nat]; simp
    rw [hj] at hx' h ⊢
    simp (disch := (first | omega | (simp; done) | (simp; omega))) only [hx', Bool.not_true, Bool.not_false, grdc_t, grd_I, grd_At, Bool.false_or, hat]
    have hget : r.getD (j : Int).toNat 0 = r[j] := by simp [hjl]
    rcases hc with hc | hc
    · have hb : bodyOf r = ([], false) := by
        unfold bodyOf
        rw [hj, hget, hc, if_neg (by simp)]
      rw [bT hc, hb]; simp
    · have hb : bodyOf r = (r.take j, true) := by
        unfold bodyOf
        rw [hj, hget, hc, if_pos ⟨by omega, by omega, rfl⟩, decide_eq_true (by omega)]
        simp
      rw [hb] at hx ⊢
      have hlt : ((r.take j).length : Int) = (j : Int) := by simp; omega
      rw [bF (by rw [hc]; decide)]
      simp (disch := (first | omega | (simp; done) | (simp; omega))) only [grd_Sub, lt_eq, hsub, hx, bnd2_some]
      cases k with
      | false => simp
      | true =>
        simp (disch := (first | omega | (simp; done) | (simp; omega))) only [Bool.not_true, cond_false, grd_I]
        simp [hlt]; omega
  · have hx' : ((decide (1 ≤ Go.Lib.indexAny r amp)) && (decide (Go.Lib.indexAny r amp ≤ 10))) = false := by
      cases hq : (decide (1 ≤ Go.Lib.indexAny r amp)) && (decide (Go.Lib.indexAny r amp ≤ 10)) with
      | false => rfl
      | true => exact absurd (by simpa using hq) h
    simp only [hx', Bool.not_false, Bool.not_true, grdc_f, Bool.true_or, cond_true]
    have hb : (bodyOf r).2 = false := by
      unfold bodyOf
      split
      · rename_i hh; simp; omega
      · rfl
    rw [hb]; simp
end Go.Pn
namespace Go.Pn
open Go.Pv Go.Av

/-- What an entity gives, and how many bytes it has (behind its '&'). -/
def ent1 (F : Nat) (r : Bs) : Option (Bs × Nat) :=
  match ref07_sign F (bodyOf r).1 with
  | some (x, true) => bif (bodyOf r).2 then some (x, (bodyOf r).1.length + 2) else none
  | _ => none

def G1 (F : Nat) : Nat → Bs → Bool → Bs → Bs × Bool
  | 0, _, ok, acc => (acc, ok)
  | _ + 1, [], ok, acc => (acc, ok)
  | m + 1, c :: r, ok, acc =>
    if c = 38 then
      match ent1 F r with
      | some (x, k) => G1 F m ((c :: r).drop k) ok (acc ++ x)
      | none => G1 F m r false (acc ++ [38])
    else G1 F m r ok (acc ++ [c])

theorem ent1_two {F : Nat} {r : Bs} {x : Bs} {k : Nat} (h : ent1 F r = some (x, k)) : 2 ≤ k := by
  unfold ent1 at h
  split at h
  · cases hb : (bodyOf r).2 with
    | true => rw [hb] at h; simp at h; omega
    | false => rw [hb] at h; simp at h
  · cases h

theorem G1_fuel (F : Nat) : ∀ (m m' : Nat) (s : Bs) (ok : Bool) (acc : Bs), s.length < m → s.length < m' → G1 F m s ok acc = G1 F m' s ok acc := by
  intro m
  induction m with
  | zero => intro m' s ok acc h; omega
  | succ m ih =>
    intro m' s ok acc h h'
    obtain ⟨m'', rfl⟩ : ∃ m'', m' = m'' + 1 := ⟨m' - 1, by omega⟩
    cases s with
    | nil => rfl
    | cons c r =>
      simp only [List.length_cons] at h h'
      simp only [G1]
      by_cases hc : c = 38
      · rw [if_pos hc, if_pos hc]
        cases he : ent1 F r with
        | none => exact ih _ _ _ _ (by omega) (by omega)
        | some p =>
          have := ent1_two (x := p.1) (k := p.2) he
          exact ih _ _ _ _ (by simp; omega) (by simp; omega)
      · rw [if_neg hc, if_neg hc]
        exact ih _ _ _ _ (by omega) (by omega)

theorem G1_skip (F : Nat) : ∀ (p t : Bs) (m : Nat) (ok : Bool) (acc : Bs), (∀ b ∈ p, b ≠ 38) → p.length + t.length < m → G1 F m (p ++ t) ok acc = G1 F m t ok (acc ++ p) := by
  intro p
  induction p with
  | nil => intro t m ok acc _ _; simp
  | cons c r ih =>
    intro t m ok acc hp hm
    obtain ⟨m', rfl⟩ : ∃ m', m = m' + 1 := ⟨m - 1, by omega⟩
    simp only [List.length_cons] at hm
    simp only [List.cons_append, G1]
    rw [if_neg (hp c (by simp)), ih t m' ok _ (fun b hb => hp b (by simp [hb])) (by omega), G1_fuel F m' (m' + 1) t ok _ (by omega) (by omega)]
    simp

theorem indexByte_split (s : Bs) (i : Nat) (h : Go.Lib.indexByte s 38 = (i : Int)) : (∀ b ∈ s.take i, b ≠ 38) ∧ ∃ r, s.drop i = 38 :: r := by
  induction s generalizing i with
  | nil => simp [Go.Lib.indexByte] at h
  | cons c r ih =>
    unfold Go.Lib.indexByte at h
    by_cases hc : c = 38
    · subst hc
      have : i = 0 := by simp at h; omega
      subst this
      exact ⟨by simp, r, rfl⟩
    · have hcb : (c == 38) = false := by simpa using hc
      rw [hcb] at h
      by_cases hn : Go.Lib.indexByte r 38 = -1
      · simp [hn] at h
      · have hnb : (Go.Lib.indexByte r 38 == -1) = false := by simpa using hn
        rw [hnb] at h
        have hr := indexByte_r r 38
        simp at h
        obtain ⟨j, rfl⟩ : ∃ j, i = j + 1 := ⟨i - 1, by omega⟩
        obtain ⟨h1, t, h2⟩ := ih j (by omega)
        refine ⟨fun b hb => ?_, t, by simpa using h2⟩
        simp only [List.take_succ_cons, List.mem_cons] at hb
        rcases hb with rfl | hb
        · exact hc
        · exact h1 b hb
theorem indexByte_neg (s : Bs) (h : Go.Lib.indexByte s 38 < 0) : ∀ b ∈ s, b ≠ 38 := by
  induction s with
  | nil => simp
  | cons c r ih =>
    have hr := indexByte_r r 38
    unfold Go.Lib.indexByte at h
    split at h
    · omega
    · rename_i hc
      have hc' : c ≠ 38 := by simpa using hc
      split at h
      · rename_i hn
        have hn' : Go.Lib.indexByte r 38 = -1 := by simpa using hn
        intro b hb
        rcases List.mem_cons.1 hb with rfl | hb
        · exact hc'
        · exact ih (by omega) b hb
      · rename_i hn
        have hn' : ¬ Go.Lib.indexByte r 38 = -1 := by simpa using hn
        omega

theorem ent_gone_eq (F : Nat) (hF : 3900 < F) : ∀ (n : Nat) (s : Bs) (ok : Bool) (acc : Bs) (m : Nat), s.length < n → s.length < m → s.length ≤ 3700 → acc.length + 4 * s.length ≤ 100000 → ent_gone_L1 F n (s, ok, acc) = some (G1 F m s ok acc) := by
  intro n
  induction n with
  | zero => intro s ok acc m h; omega
  | succ n ih =>
    intro s ok acc m hn hm hs ha
    show ent_gone_B1 F (ent_gone_L1 F n) s ok acc = _
    unfold ent_gone_B1 ent_gone_j1
    obtain ⟨hi1, hi2⟩ := indexByte_r s 38
    by_cases h : Go.Lib.indexByte s 38 < 0
    · simp (disch := (first | omega | (simp; done) | (simp; omega))) only [lt_eq, bT, grd_W]
      have := G1_skip F s [] m ok acc (indexByte_neg s h) (by simpa using hm)
      rw [List.append_nil] at this
      rw [this]
      obtain ⟨m', rfl⟩ : ∃ m', m = m' + 1 := ⟨m - 1, by omega⟩
      rfl
    · obtain ⟨i, hi⟩ : ∃ i : Nat, Go.Lib.indexByte s 38 = i := ⟨(Go.Lib.indexByte s 38).toNat, by omega⟩
      obtain ⟨hp, r, hr⟩ := indexByte_split s i hi
      have il : i < s.length := by omega
      have l1 : (to_ s (i : Int)).length = i := by simp [to_nat]; omega
      have e2 : from_ s (i : Int) = 38 :: r := by rw [from_nat, hr]
      have hsp : s = s.take i ++ 38 :: r := by rw [← hr, List.take_append_drop]
      have lr : r.length = s.length - i - 1 := by
        have := congrArg List.length hr
        simp at this; omega
      have e1 : to_ s (i : Int) = s.take i := to_nat
      obtain ⟨x, k, hx, hf⟩ := first_eq F r (by omega) (by omega)
      obtain ⟨o, kk, ho, hk⟩ := first_tot F (38 :: r) (by simp) (by simp; omega) (by simp; omega)
      rw [hf] at ho
      have hG : G1 F m s ok acc = G1 F m (38 :: r) ok (acc ++ s.take i) := by
        have := G1_skip F (s.take i) (38 :: r) m ok acc hp (by simp; omega)
        rw [← hsp] at this; exact this
      obtain ⟨m', rfl⟩ : ∃ m', m = m' + 1 := ⟨m - 1, by omega⟩
      have ltk : (s.take i).length = i := by simp; omega
      rw [hG]
      simp (disch := (first | omega | (simp; done) | (simp; omega))) only [lt_eq, hi, bF, grd_To, grd_W, e2, hf]
      simp only [G1, if_true, ent1, hx]
      by_cases hb : (bodyOf r).2 = true ∧ k = true
      · rw [if_pos hb] at ho ⊢
        obtain ⟨hb1, rfl⟩ := hb
        have ho' := Option.some.inj ho
        have hk1 : ((bodyOf r).1.length : Int) + 2 = kk := (Prod.mk.inj ho').2
        have ho1 : x = o := (Prod.mk.inj ho').1
        subst ho1
        rcases hk with rfl | ⟨k3, kl, ol⟩
        · omega
        · simp only [List.length_cons] at kl
          have ef : from_ (38 :: r) (((bodyOf r).1.length : Int) + 2) = (38 :: r).drop ((bodyOf r).1.length + 2) := by
            rw [show ((bodyOf r).1.length : Int) + 2 = (((bodyOf r).1.length + 2 : Nat) : Int) from rfl, from_nat]
          simp only [hb1, cond_true, bnd2_some, ef]
          simp (disch := (first | omega | (simp; done) | (simp; omega))) only [bF, grd_W, lt_eq, grd_To, e1]
          rw [ih _ ok _ m' (by simp; omega) (by simp; omega) (by simp; omega) (by simp; omega)]
      · rw [if_neg hb]
        have e0 : from_ (38 :: r) 1 = r := rfl
        have hm1 : (match (some (x, k) : Option (Bs × Bool)) with | some (x, true) => bif (bodyOf r).2 then some (x, (bodyOf r).1.length + 2) else none | _ => none) = none := by
          cases k with
          | false => rfl
          | true =>
            have : (bodyOf r).2 = false := by
              cases hq : (bodyOf r).2 with
              | false => rfl
              | true => exact absurd ⟨hq, rfl⟩ hb
            rw [this]; rfl
        simp only [bnd2_some]
        simp (disch := (first | omega | (simp; done) | (simp; omega))) only [decide_true, cond_true, grd_W, lt_eq, grd_To, e0, e1]
        rw [ih r false _ m' (by omega) (by omega) (by omega) (by simp; omega)]
        have hm2 : ent1 F r = none := by unfold ent1; rw [hx]; exact hm1
        unfold ent1 at hm2; rw [hx] at hm2
        cases k with
        | false => rfl
        | true => 
          cases hq : (bodyOf r).2 with
          | false => rfl
          | true => exact absurd ⟨hq, rfl⟩ hb

theorem ref_gone_eq (F : Nat) (hF : 3900 < F) (s : Bs) (hs : s.length ≤ 3700) : ∀ (n i m : Nat) (ok : Bool) (acc : Bs), s.length - i < n → s.length - i < m → i ≤ s.length → acc.length ≤ 4 * i → ref07_gone_L1 F s n (acc, ok, (i : Int)) = some (G1 F m (s.drop i) ok acc) := by
  intro n
  induction n with
  | zero => intro i m ok acc h; omega
  | succ n ih =>
    intro i m ok acc hn hm hi ha
    obtain ⟨m', rfl⟩ : ∃ m', m = m' + 1 := ⟨m - 1, by omega⟩
    show ref07_gone_B1 F s (ref07_gone_L1 F s n) acc ok (i : Int) = _
    unfold ref07_gone_B1 ref07_gone_j2 ref07_gone_j1
    by_cases h : i < s.length
    · have hd : s.drop i = s[i] :: s.drop (i + 1) := List.drop_eq_getElem_cons h
      have lr : (s.drop (i + 1)).length = s.length - (i + 1) := by simp
      simp (disch := (first | omega | (simp; done) | (simp; omega))) only [bT, grd_At, lt_eq, at_nat h, grd_Cat, grd_I, cast_succ]
      rw [hd]
      simp only [G1]
      by_cases hc : s[i] = 38
      · rw [bT hc, if_pos hc, body_eq F s _ i rfl h hs (by omega), bnd2_some' (bodyOf (s.drop (i + 1)))]
        obtain ⟨x, k, hx, hf⟩ := first_eq F (s.drop (i + 1)) (by omega) (by omega)
        obtain ⟨o, kk, ho, hk⟩ := first_tot F (38 :: s.drop (i + 1)) (by simp) (by simp; omega) (by simp; omega)
        rw [hf] at ho
        rw [hx, bnd2_some]
        simp only [ent1, hx]
        by_cases hb : (bodyOf (s.drop (i + 1))).2 = true ∧ k = true
        · rw [if_pos hb] at ho
          obtain ⟨hb1, rfl⟩ := hb
          have ho' := Option.some.inj ho
          have hk1 : ((bodyOf (s.drop (i + 1))).1.length : Int) + 2 = kk := (Prod.mk.inj ho').2
          have ho1 : x = o := (Prod.mk.inj ho').1
          subst ho1
          rcases hk with rfl | ⟨k3, kl, ol⟩
          · omega
          · simp only [List.length_cons] at kl
            simp only [hb1, Bool.and_self, cond_true]
            rw [grd_Cat (by omega), grd_I (by omega), grd_I (by omega)]
            have e1 : (i : Int) + ((bodyOf (s.drop (i + 1))).1.length : Int) + 2 = ((i + ((bodyOf (s.drop (i + 1))).1.length + 2) : Nat) : Int) := by omega
            rw [e1, ih _ m' ok _ (by omega) (by omega) (by omega) (by simp; omega)]
            rw [← hd, List.drop_drop]
        · have hbf : ((bodyOf (s.drop (i + 1))).2 && k) = false := by
            cases hq : (bodyOf (s.drop (i + 1))).2 <;> cases k <;> first | rfl | exact absurd ⟨hq, rfl⟩ hb
          rw [hbf, cond_false, ih (i + 1) m' false _ (by omega) (by omega) (by omega) (by simp; omega), hc]
          cases k with
          | false => rfl
          | true =>
            cases hq : (bodyOf (s.drop (i + 1))).2 with
            | false => rfl
            | true => exact absurd ⟨hq, rfl⟩ hb
      · rw [bF hc, if_neg hc]
        exact ih (i + 1) m' ok _ (by omega) (by omega) (by omega) (by simp; omega)
    · rw [bF (by omega), List.drop_eq_nil_of_le (by omega)]
      rfl
where
  bnd2_some' {ρ : Type} (p : Bs × Bool) {f : Bs → Bool → Option ρ} : bnd2 (some p) f = f p.1 p.2 := rfl

/-- A text gone through, by the program and by the document. -/
theorem gone_same (F : Nat) (hF : 3900 < F) (s : Bs) (hs : s.length ≤ 3700) : ref07_gone F s = ent_gone F s := by
  have h1 := ent_gone_eq F hF F s true [] (s.length + 1) (by omega) (by omega) hs (by simp; omega)
  have h2 := ref_gone_eq F hF s hs F 0 (s.length + 1) true [] (by omega) (by omega) (by omega) (by simp)
  unfold ref07_gone ent_gone
  rw [h1]
  exact h2
theorem loose_same (F : Nat) (hF : 3900 < F) (s : Bs) (hs : s.length ≤ 3700) : ref07_Loose F s = ent_Loose F s := by
  unfold ref07_Loose ent_Loose
  rw [gone_same F hF s hs]
end Go.Pn
namespace Go.Pn
open Go.Pv Go.Av

theorem T2_trim : ∀ s : Bs, T2 s = if trim s = [] then [] else 32 :: trim s := by
  intro s
  induction s with
  | nil => simp [T2, trim]
  | cons c r ih =>
    cases hb : bl c with
    | true => simp only [T2, trim, hb, cond_true, ih]
    | false => simp [T2, trim, hb]
theorem T_app (b : Bs) : ∀ a : Bs, T1 (a ++ 10 :: b) = T1 a ++ T2 b ∧ T2 (a ++ 10 :: b) = T2 a ++ T2 b := by
  intro a
  induction a with
  | nil => exact ⟨rfl, rfl⟩
  | cons c r ih =>
    cases hb : bl c with
    | true => simp only [List.cons_append, T1, T2, hb, cond_true, ih.2, and_self]
    | false => simp only [List.cons_append, T1, T2, hb, cond_false, ih.1, and_self]
theorem trim_app (b : Bs) : ∀ a : Bs, trim (a ++ 10 :: b) = if trim a = [] then trim b else trim a ++ T2 b := by
  intro a
  induction a with
  | nil => rfl
  | cons c r ih =>
    cases hb : bl c with
    | true => simp only [List.cons_append, trim, hb, cond_true, ih]
    | false => simp [trim, hb, (T_app b r).1]
theorem T_len : ∀ s : Bs, (T1 s).length ≤ s.length ∧ (T2 s).length ≤ s.length + 1 := by
  intro s
  induction s with
  | nil => simp [T1, T2]
  | cons c r ih => cases hb : bl c <;> simp [T1, T2, hb] <;> omega
theorem trim_len : ∀ s : Bs, (trim s).length ≤ s.length := by
  intro s
  induction s with
  | nil => simp [trim]
  | cons c r ih =>
    have := (T_len r).1
    cases hb : bl c <;> simp [trim, hb] <;> omega
theorem awake07 : law07_awake 4000 = some true := by decide +kernel
theorem EntWords_t (a b : Bs) : law07_EntWords 4000 a b = some true := by
  unfold law07_EntWords
  rw [awake07, bnd_some]
  by_cases ha : 300 < a.length
  · rw [decide_eq_true (show 300 < (a.length : Int) by omega)]; rfl
  · by_cases hb : 300 < b.length
    · rw [decide_eq_true (show 300 < (b.length : Int) by omega), Bool.or_true]; rfl
    · have la := trim_len a
      have lb := trim_len b
      rw [decide_eq_false (show ¬ 300 < (a.length : Int) by omega), decide_eq_false (show ¬ 300 < (b.length : Int) by omega)]
      simp only [Bool.not_true, Bool.or_self, cond_false]
      rw [ent_Trim_eq 4000 a (by omega) (by omega), bnd_some, ent_Trim_eq 4000 b (by omega) (by omega), bnd_some, grd_Cat (by simp; omega), lt_eq, grd_Cat (by simp; omega), lt_eq, ent_Trim_eq 4000 _ (by simp; omega) (by simp; omega), bnd_some]
      have e : trim (a ++ [10] ++ b) = if trim a = [] then trim b else trim a ++ T2 b := by
        rw [← trim_app]; simp
      rw [e, T2_trim]
      by_cases h1 : trim a = []
      · rw [decide_eq_true h1, Bool.true_or, cond_true, grd_Cat (by omega), lt_eq, if_pos h1, h1, List.nil_append]; simp
      · by_cases h2 : trim b = []
        · rw [decide_eq_true h2, Bool.or_true, cond_true, grd_Cat (by omega), lt_eq, if_neg h1, if_pos h2, h2]; simp
        · rw [decide_eq_false h1, decide_eq_false h2, Bool.or_self, cond_false, grd_Cat (by simp; omega), lt_eq, grd_Cat (by simp; omega), lt_eq, if_neg h1, if_neg h2]; simp
end Go.Pn
namespace Go.Pn
open Go.Pv Go.Av

theorem any_app (b : Bs) : ∀ r : Bs, 0 ≤ Go.Lib.indexAny r amp → Go.Lib.indexAny (r ++ b) amp = Go.Lib.indexAny r amp := by
  intro r
  induction r with
  | nil => intro h; exact absurd h (by decide)
  | cons c r ih =>
    intro h
    rw [List.cons_append, any_cons, any_cons]
    rw [any_cons] at h
    by_cases h1 : c = 38 ∨ c = 59
    · rw [if_pos h1, if_pos h1]
    · rw [if_neg h1] at h
      rw [if_neg h1, if_neg h1]
      by_cases h2 : Go.Lib.indexAny r amp = -1
      · rw [if_pos h2] at h; omega
      · have := indexAny_r r amp
        rw [ih (by omega)]
theorem body_app (b r : Bs) (h : (bodyOf r).2 = true) : bodyOf (r ++ b) = bodyOf r ∧ (bodyOf r).1.length + 1 ≤ r.length := by
  have hr := indexAny_r r amp
  unfold bodyOf at h ⊢
  by_cases hc : 0 ≤ Go.Lib.indexAny r amp ∧ Go.Lib.indexAny r amp ≤ 10 ∧ r.getD (Go.Lib.indexAny r amp).toNat 0 = 59
  · have hl : (Go.Lib.indexAny r amp).toNat < r.length := by omega
    have hg : (r ++ b).getD (Go.Lib.indexAny r amp).toNat 0 = r.getD (Go.Lib.indexAny r amp).toNat 0 := by
      simp [List.getD, List.getElem?_append_left hl]
    rw [any_app b r hc.1, hg, if_pos hc, List.take_append_of_le_length (by omega), if_pos hc]
    refine ⟨rfl, ?_⟩
    simp only [List.length_take]
    omega
  · rw [if_neg hc] at h; cases h
theorem ent1_app {F : Nat} (b : Bs) {r x : Bs} {k : Nat} (h : ent1 F r = some (x, k)) : ent1 F (r ++ b) = some (x, k) ∧ k ≤ r.length + 1 := by
  have hb : (bodyOf r).2 = true := by
    unfold ent1 at h
    split at h
    · cases hq : (bodyOf r).2 with
      | true => rfl
      | false => rw [hq] at h; cases h
    · cases h
  obtain ⟨e, hl⟩ := body_app b r hb
  refine ⟨?_, ?_⟩
  · unfold ent1; rw [e]; exact h
  · unfold ent1 at h
    split at h
    · rw [hb, cond_true] at h
      injection h with h; injection h with h1 h2
      omega
    · cases h
theorem G1_false (F : Nat) : ∀ (m : Nat) (s acc : Bs), (G1 F m s false acc).2 = false := by
  intro m
  induction m with
  | zero => intro s acc; rfl
  | succ m ih =>
    intro s acc
    cases s with
    | nil => rfl
    | cons c r =>
      simp only [G1]
      by_cases hc : c = 38
      · rw [if_pos hc]
        cases he : ent1 F r with
        | none => exact ih _ _
        | some p => exact ih _ _
      · rw [if_neg hc]; exact ih _ _
theorem G1_acc (F : Nat) : ∀ (m : Nat) (s : Bs) (ok ok' : Bool) (acc : Bs), (G1 F m s ok acc).1 = acc ++ (G1 F m s ok' []).1 := by
  intro m
  induction m with
  | zero => intro s ok ok' acc; simp [G1]
  | succ m ih =>
    intro s ok ok' acc
    cases s with
    | nil => simp [G1]
    | cons c r =>
      simp only [G1]
      by_cases hc : c = 38
      · rw [if_pos hc, if_pos hc]
        cases he : ent1 F r with
        | none =>
          refine (ih r false false (acc ++ [38])).trans ?_
          rw [ih r false false ([] ++ [38])]; simp
        | some p =>
          refine (ih _ ok ok' (acc ++ p.1)).trans ?_
          have := ih ((c :: r).drop p.2) ok' ok' ([] ++ p.1)
          simp only [List.nil_append] at this ⊢
          rw [this]; simp
      · rw [if_neg hc, if_neg hc]
        refine (ih r ok ok' (acc ++ [c])).trans ?_
        rw [ih r ok' ok' ([] ++ [c])]; simp
theorem G1_app (F : Nat) (b : Bs) : ∀ (m : Nat) (a : Bs) (M M' : Nat) (ok : Bool) (acc : Bs), a.length < m → (a ++ b).length < M → b.length < M' → (G1 F m a true acc).2 = true → G1 F M (a ++ b) ok acc = G1 F M' b ok (G1 F m a true acc).1 := by
  intro m
  induction m with
  | zero => intro a M M' ok acc h; omega
  | succ m ih =>
    intro a M M' ok acc h hM hM' hg
    cases a with
    | nil =>
      rw [List.nil_append] at hM ⊢
      exact G1_fuel F M M' b ok acc hM hM'
    | cons c r =>
      obtain ⟨M, rfl⟩ : ∃ k, M = k + 1 := ⟨M - 1, by omega⟩
      simp only [List.length_cons, List.cons_append] at h hM
      simp only [G1] at hg
      simp only [List.cons_append, G1]
      by_cases hc : c = 38
      · rw [if_pos hc] at hg
        rw [if_pos hc, if_pos hc]
        cases he : ent1 F r with
        | none =>
          rw [he] at hg
          have := G1_false F m r (acc ++ [38])
          exact absurd (hg.symm.trans this) (by decide)
        | some p =>
          obtain ⟨x, k⟩ := p
          rw [he] at hg
          obtain ⟨e, hl⟩ := ent1_app b he
          have h2 := ent1_two he
          rw [e]
          have hd : (c :: (r ++ b)).drop k = (c :: r).drop k ++ b := by
            rw [← List.cons_append, List.drop_append_of_le_length (by simp; omega)]
          show G1 F M ((c :: (r ++ b)).drop k) ok (acc ++ x) = _
          rw [hd]
          simp only [List.length_append] at hM
          exact ih _ M M' ok (acc ++ x) (by simp; omega) (by simp; omega) hM' hg
      · rw [if_neg hc] at hg
        rw [if_neg hc, if_neg hc]
        exact ih r M M' ok (acc ++ [c]) (by omega) (by omega) hM' hg

theorem goneG (F : Nat) (hF : 3900 < F) (s : Bs) (hs : s.length ≤ 3700) : ent_gone F s = some (G1 F (s.length + 1) s true []) := ent_gone_eq F hF F s true [] (s.length + 1) (by omega) (by omega) hs (by simp; omega)
theorem looseG (F : Nat) (hF : 3900 < F) (s : Bs) (hs : s.length ≤ 3700) : ent_Loose F s = some (G1 F (s.length + 1) s true []).1 := by
  unfold ent_Loose; rw [goneG F hF s hs]; rfl
theorem decG (F : Nat) (hF : 3900 < F) (s : Bs) (hs : s.length ≤ 3700) : ent_Decode F s = some (bif (G1 F (s.length + 1) s true []).2 then ((G1 F (s.length + 1) s true []).1, 0) else ([], 2)) := by
  unfold ent_Decode; rw [goneG F hF s hs]
  obtain ⟨o, k⟩ := G1 F (s.length + 1) s true []
  rw [bnd2_some]
  cases k <;> rfl
theorem no_amp (F : Nat) (a : Bs) (h : (a.any fun c => decide (c = 38)) = false) : G1 F (a.length + 1) a true [] = (a, true) := by
  have hn : ∀ b ∈ a, b ≠ 38 := by
    intro b hb e
    have := List.any_eq_false.mp h b hb
    exact this (decide_eq_true e)
  have := G1_skip F a [] (a.length + 1) true [] hn (by simp)
  rw [List.append_nil, List.nil_append] at this
  rw [this]; rfl
end Go.Pn
namespace Go.Pn
open Go.Pv Go.Av

/-! ### Digits -/
def hx (d : Nat) : UInt8 := if d < 10 then UInt8.ofNat (48 + d) else UInt8.ofNat (87 + d)
def D (b : Nat) : Nat → Nat → Bs
  | 0, _ => []
  | k + 1, n => if n = 0 then [] else D b k (n / b) ++ [hx (n % b)]
theorem all16 (p : Nat → Bool) (h : ∀ k : Fin 16, p k.val = true) (d : Nat) (hd : d < 16) : p d = true := h ⟨d, hd⟩
theorem dg_hx (d : Nat) (h : d < 16) : dg (hx d) = d := by
  have := all16 (fun d => dg (hx d) == d) (by decide +kernel) d h
  simpa using this
theorem hx_ok (d : Nat) (h : d < 16) : hx d ≠ 38 ∧ hx d ≠ 59 ∧ hx d ≠ 120 := by
  have := all16 (fun d => decide (hx d ≠ 38 ∧ hx d ≠ 59 ∧ hx d ≠ 120)) (by decide +kernel) d h
  exact of_decide_eq_true this
theorem sub10 (d : Nat) (h : d < 10) : sub ([48, 49, 50, 51, 52, 53, 54, 55, 56, 57] : Bs) (d : Int) ((d : Int) + 1) = [hx d] := by
  have := all16 (fun d => decide (10 ≤ d) || (sub ([48, 49, 50, 51, 52, 53, 54, 55, 56, 57] : Bs) (d : Int) ((d : Int) + 1) == [hx d])) (by decide +kernel) d (by omega)
  simpa [show ¬ 10 ≤ d by omega] using this
theorem sub16 (d : Nat) (h : d < 16) : sub ([48, 49, 50, 51, 52, 53, 54, 55, 56, 57, 97, 98, 99, 100, 101, 102] : Bs) (d : Int) ((d : Int) + 1) = [hx d] := by
  have := all16 (fun d => (sub ([48, 49, 50, 51, 52, 53, 54, 55, 56, 57, 97, 98, 99, 100, 101, 102] : Bs) (d : Int) ((d : Int) + 1) == [hx d])) (by decide +kernel) d h
  simpa using this
theorem num_snoc (b : Nat) (c : UInt8) : ∀ (x : Bs) (v w : Nat), num b v x = some w → dg c < b → num b v (x ++ [c]) = some (b * w + dg c) := by
  intro x
  induction x with
  | nil =>
    intro v w h hc
    have : v = w := Option.some.inj h
    subst this
    show num b v [c] = _
    simp only [num]
    rw [if_neg (by omega)]
  | cons d r ih =>
    intro v w h hc
    rw [List.cons_append]
    simp only [num] at h ⊢
    by_cases hd : b ≤ dg d
    · rw [if_pos hd] at h; cases h
    · rw [if_neg hd] at h ⊢
      exact ih _ _ h hc
theorem D_num (b : Nat) (hb : b = 10 ∨ b = 16) : ∀ (k n : Nat), n < b ^ k → num b 0 (D b k n) = some n := by
  intro k
  induction k with
  | zero => intro n h; have : n = 0 := by simpa using h
            rw [this]; rfl
  | succ k ih =>
    intro n h
    simp only [D]
    by_cases h0 : n = 0
    · rw [if_pos h0, h0]; rfl
    · rw [if_neg h0]
      have hb0 : 0 < b := by rcases hb with rfl | rfl <;> omega
      have hm : n % b < b := Nat.mod_lt _ hb0
      have h16 : n % b < 16 := by rcases hb with rfl | rfl <;> omega
      have hq : n / b < b ^ k := Nat.div_lt_of_lt_mul (by rw [Nat.pow_succ, Nat.mul_comm] at h; exact h)
      rw [num_snoc b (hx (n % b)) _ 0 (n / b) (ih _ hq) (by rw [dg_hx _ h16]; exact hm), dg_hx _ h16, Nat.div_add_mod]
theorem D_len (b : Nat) : ∀ (k n : Nat), (D b k n).length ≤ k := by
  intro k
  induction k with
  | zero => intro n; simp [D]
  | succ k ih =>
    intro n
    have := ih (n / b)
    simp only [D]
    split <;> simp <;> omega
theorem D_ok (b : Nat) (hb : b = 10 ∨ b = 16) : ∀ (k n : Nat), ∀ c ∈ D b k n, c ≠ 38 ∧ c ≠ 59 ∧ c ≠ 120 := by
  intro k
  induction k with
  | zero => intro n c h; simp [D] at h
  | succ k ih =>
    intro n c h
    simp only [D] at h
    by_cases h0 : n = 0
    · rw [if_pos h0] at h; cases h
    · rw [if_neg h0] at h
      rcases List.mem_append.1 h with h | h
      · exact ih _ c h
      · have : c = hx (n % b) := by simpa using h
        rw [this]
        exact hx_ok _ (by rcases hb with rfl | rfl <;> omega)
theorem D_ne (b k n : Nat) (h : n ≠ 0) : D b (k + 1) n ≠ [] := by
  simp only [D]
  rw [if_neg h]
  simp

/-! ### What an entity of digits gives -/
theorem bodyB (b : Bs) (hl : 1 ≤ b.length ∧ b.length ≤ 10) (hn : ∀ c ∈ b, c ≠ 38 ∧ c ≠ 59) : bodyOf (b ++ [59]) = (b, true) := by
  have hi : Go.Lib.indexAny (b ++ [59]) amp = (b.length : Int) := any_at (b ++ [59]) b.length (by simp) (by
    intro c hc
    rw [List.take_left] at hc
    have := hn c hc
    intro h
    rcases h with h | h
    · exact this.1 h
    · exact this.2 h) (.inr (by simp))
  unfold bodyOf
  rw [hi, Int.toNat_natCast, if_pos ⟨by omega, by omega, by simp⟩, List.take_left, decide_eq_true (by omega)]
theorem decB (F : Nat) (hF : 3900 < F) (b w : Bs) (hl : 1 ≤ b.length ∧ b.length ≤ 10) (hn : ∀ c ∈ b, c ≠ 38 ∧ c ≠ 59) (hs : ref07_sign F b = some (w, true)) : ent_Decode F (38 :: (b ++ [59])) = some (w, 0) := by
  have he : ent1 F (b ++ [59]) = some (w, b.length + 2) := by
    unfold ent1
    rw [bodyB b hl hn, hs]; rfl
  have hG : G1 F ((38 :: (b ++ [59])).length + 1) (38 :: (b ++ [59])) true [] = (w, true) := by
    simp only [G1, if_true, he]
    have hd : (38 :: (b ++ [59])).drop (b.length + 2) = [] := List.drop_eq_nil_of_le (by simp)
    rw [hd]
    show ([] ++ w, true) = (w, true)
    rw [List.nil_append]
  rw [decG F hF _ (by simp; omega), hG]
  rfl
theorem sign_hash (F : Nat) (d : UInt8) (r : Bs) (v : Int) (hv : ref07_number F (d :: r) 10 = some v) : ref07_sign F (35 :: d :: r) = bif decide (d = 120) then (bnd (ref07_number F r 16) fun x26 => ref07_sign_j1 F x26) else ref07_sign_j1 F v := by
  have n1 : ¬ (35 :: d :: r : Bs) = [97, 109, 112] := by simp
  have n2 : ¬ (35 :: d :: r : Bs) = [108, 116] := by simp
  have n3 : ¬ (35 :: d :: r : Bs) = [103, 116] := by simp
  have n4 : ¬ (35 :: d :: r : Bs) = [113, 117, 111, 116] := by simp
  have n5 : ¬ (35 :: d :: r : Bs) = [97, 112, 111, 115] := by simp
  have ha : at_ (35 :: d :: r) 0 = 35 := rfl
  have hb1 : at_ (35 :: d :: r) 1 = d := rfl
  have hl : decide (((35 :: d :: r).length : Int) < 2) = false := decide_eq_false (by simp only [List.length_cons]; omega)
  have f1 : from_ (35 :: d :: r) 1 = d :: r := rfl
  have f2 : from_ (35 :: d :: r) 2 = r := rfl
  have hg : ∀ (q : Bool) (k : Option (Bs × Bool)), grdc q (okAt 0 (35 :: d :: r).length) k = k := fun q k => grdc_At (fun _ => by simp only [List.length_cons]; omega)
  unfold ref07_sign
  simp only [lt_eq, bF n1, bF n2, bF n3, bF n4, bF n5, hg, hl, ha, hb1, f1, f2, Bool.false_or]
  simp only [decide_true, Bool.not_true, cond_false]
  simp (disch := (first | omega | (simp; done) | (simp; omega))) only [grd_To, grd_At, hv, bnd_some]
theorem num_of (F : Nat) (hF : 3900 < F) (b : Nat) (hb : b = 10 ∨ b = 16) (s : Bs) (hs : s.length ≤ 10) (h0 : s ≠ []) (n : Nat) (h : num b 0 s = some n) : ref07_number F s (b : Int) = some (cap n : Int) := by
  rw [refnum_eq F s b hb (by omega) (by omega), h]
  have : ¬ s.length = 0 := by
    intro e; exact h0 (List.length_eq_zero_iff.mp e)
  simp only [this, if_false]
theorem j1_rune (F n : Nat) (w : Bs) (h : ent_Rune F (n : Int) = some (w, true)) : ref07_sign_j1 F (cap n : Int) = some (w, true) := by
  unfold ref07_sign_j1
  rw [rune_cap, ← rune_eq, h, bnd2_some]
theorem signD (F : Nat) (hF : 3900 < F) (n : Nat) (h0 : n ≠ 0) (hn : n < 10000000) (w : Bs) (h : ent_Rune F (n : Int) = some (w, true)) : ref07_sign F (35 :: D 10 7 n) = some (w, true) := by
  have h1 := D_num 10 (.inl rfl) 7 n (by omega)
  have h2 := D_len 10 7 n
  have h3 := D_ok 10 (.inl rfl) 7 n
  have h4 := D_ne 10 6 n h0
  have hv := num_of F hF 10 (.inl rfl) (D 10 7 n) (by omega) h4 n h1
  have hj := j1_rune F n w h
  revert h2 h3 h4 hv
  generalize D 10 7 n = ds
  intro h2 h3 h4 hv
  cases ds with
  | nil => exact absurd rfl h4
  | cons d r =>
    rw [sign_hash F d r _ hv, bF (h3 d (by simp)).2.2]
    exact hj
theorem signH (F : Nat) (hF : 3900 < F) (n : Nat) (h0 : n ≠ 0) (hn : n < 16777216) (w : Bs) (h : ent_Rune F (n : Int) = some (w, true)) : ref07_sign F (35 :: 120 :: D 16 6 n) = some (w, true) := by
  have h1 := D_num 16 (.inr rfl) 6 n (by omega)
  have h2 := D_len 16 6 n
  have h4 := D_ne 16 5 n h0
  have hv := num_of F hF 16 (.inr rfl) (D 16 6 n) (by omega) h4 n h1
  have hj := j1_rune F n w h
  revert h2 h4 hv
  generalize D 16 6 n = ds
  intro h2 h4 hv
  have h10 : ref07_number F (120 :: ds) 10 = some (-1) := by
    have := refnum_eq F (120 :: ds) 10 (.inl rfl) (by simp; omega) (by simp; omega)
    rw [num_no (.inl rfl) (c := 120) (by decide) (by simp)] at this
    exact this
  rw [sign_hash F 120 ds _ h10, bT rfl]
  have hv' : ref07_number F ds 16 = some (cap n : Int) := hv
  rw [hv', bnd_some]
  exact hj

/-! ### The loops -/
theorem hex_loop (F : Nat) (x5 : Bs) (y : Int) (ds : Bs) : ∀ (k m : Nat) (N : Nat) (acc : Bs), k < N → m < 16 ^ k → m ≤ 100000000 → acc.length + k ≤ 100 → law07_EntRune_L1 F x5 y ds N (acc, (m : Int)) = law07_EntRune_j1 F x5 y ds (D 16 k m ++ acc) := by
  intro k
  induction k with
  | zero =>
    intro m N acc hN hm hm2 ha
    obtain ⟨N, rfl⟩ : ∃ q, N = q + 1 := ⟨N - 1, by omega⟩
    have : m = 0 := by simpa using hm
    subst this
    show law07_EntRune_B1 F x5 y ds (law07_EntRune_L1 F x5 y ds N) acc ((0 : Nat) : Int) = _
    unfold law07_EntRune_B1
    rw [bF (by omega)]; rfl
  | succ k ih =>
    intro m N acc hN hm hm2 ha
    obtain ⟨N, rfl⟩ : ∃ q, N = q + 1 := ⟨N - 1, by omega⟩
    show law07_EntRune_B1 F x5 y ds (law07_EntRune_L1 F x5 y ds N) acc (m : Int) = _
    unfold law07_EntRune_B1
    simp only [D]
    by_cases h0 : m = 0
    · rw [if_pos h0, bF (by omega)]; rfl
    · have hq : m / 16 < 16 ^ k := Nat.div_lt_of_lt_mul (by rw [Nat.pow_succ, Nat.mul_comm] at hm; exact hm)
      have e1 : (m : Int) % 16 = ((m % 16 : Nat) : Int) := by omega
      have e2 : (m : Int) / 16 = ((m / 16 : Nat) : Int) := by omega
      have hl : ([48, 49, 50, 51, 52, 53, 54, 55, 56, 57, 97, 98, 99, 100, 101, 102] : Bs).length = 16 := rfl
      rw [if_neg h0, bT (by omega), e1, e2, hl, grd_Div (by omega), grd_Div (by omega), grd_I (by omega), grd_Sub (by omega), lt_eq, sub16 _ (by omega), grd_Cat (by simp; omega), lt_eq, grd_Div (by omega), ih (m / 16) N _ (by omega) hq (by omega) (by simp; omega)]
      rw [List.append_assoc]
theorem dec_loop (F : Nat) (a : Int) (x5 : Bs) (y : Int) : ∀ (k m : Nat) (N : Nat) (acc : Bs), k < N → m < 10 ^ k → m ≤ 100000000 → acc.length + k ≤ 100 → law07_EntRune_L2 F a x5 y N (acc, (m : Int)) = law07_EntRune_j2 F a x5 y (D 10 k m ++ acc) := by
  intro k
  induction k with
  | zero =>
    intro m N acc hN hm hm2 ha
    obtain ⟨N, rfl⟩ : ∃ q, N = q + 1 := ⟨N - 1, by omega⟩
    have : m = 0 := by simpa using hm
    subst this
    show law07_EntRune_B2 F a x5 y (law07_EntRune_L2 F a x5 y N) acc ((0 : Nat) : Int) = _
    unfold law07_EntRune_B2
    rw [bF (by omega)]; rfl
  | succ k ih =>
    intro m N acc hN hm hm2 ha
    obtain ⟨N, rfl⟩ : ∃ q, N = q + 1 := ⟨N - 1, by omega⟩
    show law07_EntRune_B2 F a x5 y (law07_EntRune_L2 F a x5 y N) acc (m : Int) = _
    unfold law07_EntRune_B2
    simp only [D]
    by_cases h0 : m = 0
    · rw [if_pos h0, bF (by omega)]; rfl
    · have hq : m / 10 < 10 ^ k := Nat.div_lt_of_lt_mul (by rw [Nat.pow_succ, Nat.mul_comm] at hm; exact hm)
      have e1 : (m : Int) % 10 = ((m % 10 : Nat) : Int) := by omega
      have e2 : (m : Int) / 10 = ((m / 10 : Nat) : Int) := by omega
      have hl : ([48, 49, 50, 51, 52, 53, 54, 55, 56, 57] : Bs).length = 10 := rfl
      rw [if_neg h0, bT (by omega), e1, e2, hl, grd_Div (by omega), grd_Div (by omega), grd_I (by omega), grd_Sub (by omega), lt_eq, sub10 _ (by omega), grd_Cat (by simp; omega), lt_eq, grd_Div (by omega), ih (m / 10) N _ (by omega) hq (by omega) (by simp; omega)]
      rw [List.append_assoc]
theorem j3_rune (F : Nat) (hF : 3900 < F) (n : Nat) (h0 : n ≠ 0) (hn : n ≤ 1114111) (w : Bs) (h : ent_Rune F (n : Int) = some (w, true)) (y : Int) (hy : (w.length : Int) = y) : law07_EntRune_j3 F (n : Int) w y = some true := by
  unfold law07_EntRune_j3
  have l1 := dec_loop F (n : Int) w y 7 n F [] (by omega) (by omega) (by omega) (by simp)
  refine l1.trans ?_
  unfold law07_EntRune_j2
  have l2 := hex_loop F w y (D 10 7 n ++ []) 6 n F [] (by omega) (by omega) (by omega) (by simp)
  refine l2.trans ?_
  rw [List.append_nil, List.append_nil]
  have d1 := D_len 10 7 n
  have d2 := D_len 16 6 n
  have o1 := D_ok 10 (.inl rfl) 7 n
  have o2 := D_ok 16 (.inr rfl) 6 n
  have s1 := decB F hF (35 :: D 10 7 n) w (by simp; omega) (by
    intro c hc
    rcases List.mem_cons.1 hc with rfl | hc
    · decide
    · exact ⟨(o1 c hc).1, (o1 c hc).2.1⟩) (signD F hF n h0 (by omega) w h)
  have s2 := decB F hF (35 :: 120 :: D 16 6 n) w (by simp; omega) (by
    intro c hc
    rcases List.mem_cons.1 hc with rfl | hc
    · decide
    rcases List.mem_cons.1 hc with rfl | hc
    · decide
    · exact ⟨(o2 c hc).1, (o2 c hc).2.1⟩) (signH F hF n h0 (by omega) w h)
  have s1' : ent_Decode F (([38, 35] ++ D 10 7 n) ++ [59]) = some (w, 0) := s1
  have s2' : ent_Decode F (([38, 35, 120] ++ D 16 6 n) ++ [59]) = some (w, 0) := s2
  unfold law07_EntRune_j1
  rw [grd_Cat (by simp; omega), lt_eq, grd_Cat (by simp; omega), lt_eq, s1', bnd2_some, grd_Cat (by simp; omega), lt_eq, grd_Cat (by simp; omega), lt_eq, s2', bnd2_some, decide_eq_true hy]
  simp
theorem rune7 (F : Nat) (hA : law07_awake F = some true) (hF : 3900 < F) (r : Int) : law07_EntRune F r = some true := by
  unfold law07_EntRune
  rw [hA, bnd_some, ent_rune]
  by_cases hv : (r = 9 ∨ r = 10 ∨ r = 13) ∨ (32 ≤ r ∧ r ≤ 55295) ∨ (57344 ≤ r ∧ r ≤ 65533) ∨ (65536 ≤ r ∧ r ≤ 1114111)
  · rw [if_pos hv, bnd2_some]
    obtain ⟨n, rfl⟩ : ∃ n : Nat, r = (n : Int) := ⟨r.toNat, by omega⟩
    have hu := rune_valid n hv
    have hb := rune_bytes n hu
    have hr : ent_Rune F (n : Int) = some (runeStr (n : Int), true) := by rw [ent_rune, if_pos hv]
    have go := j3_rune F hF n (by omega) (by omega) _ hr
    rw [show ((!true) || !true) = false from rfl, cond_false]
    by_cases h1 : (n : Int) < 128
    · rw [bT h1]
      exact go 1 (by rw [hb, if_pos (by omega)]; rfl)
    rw [bF h1]
    by_cases h2 : (n : Int) < 2048
    · rw [bT h2]
      exact go 2 (by rw [hb, if_neg (by omega), if_pos (by omega)]; rfl)
    rw [bF h2]
    by_cases h3 : (n : Int) < 65536
    · rw [bT h3]
      exact go 3 (by rw [hb, if_neg (by omega), if_neg (by omega), if_pos (by omega)]; rfl)
    · rw [bF h3]
      exact go 4 (by rw [hb, if_neg (by omega), if_neg (by omega), if_neg (by omega)]; rfl)
  · rw [if_neg hv, bnd2_some]
    rfl
theorem EntRune_t (r : Int) : law07_EntRune 4000 r = some true := rune7 4000 awake07 (by omega) r
end Go.Pn
