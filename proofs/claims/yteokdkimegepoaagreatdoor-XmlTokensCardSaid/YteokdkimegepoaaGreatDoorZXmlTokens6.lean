/-
  Texts in one (only what XmlTokens needs): XmA, PnTrim, PnPlainE, PnLoose, PnNum, PnSign, PnGone, PnLooseEq, PnLooseB, PnApp, XmP, XmQ, XmS, XmT, XmL, XmU, XmV, XmX, XmTo.
-/
import Derived.Test.YteokdkimegepoaaGreatDoorZXmlTokens5
import Derived.Lib.IndexMore
import Derived.Laws.RangeAny
set_option linter.unusedVariables false
set_option linter.unusedSimpArgs false
set_option linter.unusedSectionVars false
namespace Go.Xm
abbrev Bs := List UInt8
abbrev At := Bs × Bs
abbrev Tok := Int × Bs × Bs × List At
def pA (c : UInt8) : Bool := ((decide (65 ≤ c.toNat) && decide (c.toNat ≤ 90)) || (decide (97 ≤ c.toNat) && decide (c.toNat ≤ 122))) || decide (c = 95)
def gl (c : UInt8) : Bool := pA c || ((((decide (48 ≤ c.toNat) && decide (c.toNat ≤ 57)) || decide (c = 45)) || decide (c = 46)) || decide (c = 58))
def dD (c : UInt8) : Bool := decide (c = 9) || decide (c = 10) || decide (c = 13) || decide (c = 32)
def lN (s : Bs) : Bool := (match s with | [] => false | c :: _ => pA c) && (s.all gl && decide (s.length ≤ 60))
def fD (s : Bs) : Option (Bs × Bs) := if lN (s.takeWhile gl) = true then some (s.takeWhile gl, s.dropWhile gl) else none
def iV (p : Bs) : Bs → Option (Bs × Bs)
  | [] => if p = [] then some ([], []) else none
  | c :: r => if p.isPrefixOf (c :: r) = true then some ([], (c :: r).drop p.length) else match iV p r with | none => none | some (a, b) => some (c :: a, b)
section
variable (dec : Bs → Option Bs)
def od (n : Bs) (q : UInt8) (s : Bs) : Option (At × Bs) := match iV [q] s with
  | none => none
  | some (raw, r) => if 60 ∈ raw then none else match dec raw with | none => none | some t => some ((n, t), r)
def lE (s : Bs) : Option (At × Bs) := match fD s with
  | none => none
  | some (n, r) => if ([61, 34] : Bs).isPrefixOf r = true then od dec n 34 (r.drop 2) else if ([61, 39] : Bs).isPrefixOf r = true then od dec n 39 (r.drop 2) else none
def io : Nat → List At → Bs → Option (List At × Bool × Bs)
  | 0, _, _ => none
  | k + 1, as_, s =>
    if ([62] : Bs).isPrefixOf (s.dropWhile dD) = true then some (as_, false, (s.dropWhile dD).drop 1)
    else if ([47, 62] : Bs).isPrefixOf (s.dropWhile dD) = true then some (as_, true, (s.dropWhile dD).drop 2)
    else if (s.dropWhile dD).length = s.length then none
    else match lE dec (s.dropWhile dD) with
      | none => none
      | some (a, r) => if as_.any (fun x => decide (x.1 = a.1)) = true then none else io k (as_ ++ [a]) r
abbrev Sx := Bs × List Bs × Nat × List Tok
inductive Rx
  | ok (x : Sx)
  | no (e : Int)
def mD (t : Bs) (l : List Tok) : List Tok := if t = [] then l else l ++ [(2, [], t, [])]
def lM (n s : Bs) (open_ : List Bs) (k : Nat) (l : List Tok) : Rx := if open_.getLast? = some n then .ok (s, open_.dropLast, k, l ++ [(1, n, [], [])]) else .no 2
def jY (s : Bs) (o : List Bs) (k : Nat) (l : List Tok) : Rx :=
  match dec (s.takeWhile fun c => decide (c ≠ 60)) with
  | none => .no 2
  | some t => if o = [] then (if (s.takeWhile fun c => decide (c ≠ 60)).all dD = true then .ok (s.dropWhile (fun c => decide (c ≠ 60)), o, k, l) else .no 2)
      else .ok (s.dropWhile (fun c => decide (c ≠ 60)), o, k, mD t l)
def iW (p s : Bs) (o : List Bs) (k : Nat) (l : List Tok) : Rx := match iV p s with | none => .no 2 | some (_, r) => .ok (r, o, k, l)
def oc (s : Bs) (o : List Bs) (k : Nat) (l : List Tok) : Rx := match iV [93, 93, 62] s with | none => .no 2 | some (t, r) => if o = [] then .no 2 else .ok (r, o, k, mD t l)
def re (s : Bs) (o : List Bs) (k : Nat) (l : List Tok) : Rx := match fD s with
  | none => .no 2
  | some (n, r) => if ([62] : Bs).isPrefixOf (r.dropWhile dD) = true then lM n ((r.dropWhile dD).drop 1) o k l else .no 2
def mF (n : Bs) (as_ : List At) (empty : Bool) (r : Bs) (o : List Bs) (k : Nat) (l : List Tok) : Rx :=
  if o = [] ∧ k ≠ 0 then .no 2 else if 20 ≤ o.length then .no 5
  else if empty = true then .ok (r, o, (if o = [] then k + 1 else k), (l ++ [(0, n, [], as_)]) ++ [(1, n, [], [])]) else .ok (r, o ++ [n], (if o = [] then k + 1 else k), l ++ [(0, n, [], as_)])
def mJ (s : Bs) (o : List Bs) (k : Nat) (l : List Tok) : Rx := match fD s with
  | none => .no 2
  | some (n, r) => match io dec (r.length + 1) [] r with
    | none => .no 2
    | some (as_, empty, r') => mF n as_ empty r' o k l
def jT (s : Bs) (o : List Bs) (k : Nat) (l : List Tok) : Rx :=
  if ([60] : Bs).isPrefixOf s = false then jY dec s o k l
  else if ([60, 33, 45, 45] : Bs).isPrefixOf s = true then iW [45, 45, 62] (s.drop 4) o k l
  else if ([60, 63] : Bs).isPrefixOf s = true then iW [63, 62] (s.drop 2) o k l
  else if ([60, 33, 91, 67, 68, 65, 84, 65, 91] : Bs).isPrefixOf s = true then oc (s.drop 9) o k l
  else if ([60, 33] : Bs).isPrefixOf s = true then iW [62] (s.drop 2) o k l
  else if ([60, 47] : Bs).isPrefixOf s = true then re (s.drop 2) o k l
  else mJ dec (s.drop 1) o k l
def pf : Nat → Sx → Rx
  | 0, x => .no 2
  | n + 1, (s, o, k, l) => if s = [] then .ok (s, o, k, l) else match jT dec s o k l with
    | .ok y => pf n y
    | .no e => .no e
def tokP (s : Bs) : List Tok × Int := match pf dec (s.length + 1) (s, [], 0, []) with
  | .ok (_, o, k, l) => if o = [] ∧ 0 < k then (l, 0) else ([], 2)
  | .no e => ([], e)
end
theorem kr {p : Bs} (hp : p ≠ []) : ∀ {s a b : Bs}, iV p s = some (a, b) → s = a ++ p ++ b
  | [], a, b, h => by
    unfold iV at h
    rw [if_neg hp] at h; cases h
  | c :: r, a, b, h => by
    unfold iV at h
    by_cases g : p.isPrefixOf (c :: r) = true
    · rw [if_pos g] at h
      cases h
      obtain ⟨t, ht⟩ := List.isPrefixOf_iff_prefix.1 g
      rw [← ht, List.drop_left' rfl]; rfl
    · rw [if_neg g] at h
      cases e : iV p r with
      | none => rw [e] at h; cases h
      | some x =>
        obtain ⟨a', b'⟩ := x
        rw [e] at h
        cases h
        rw [kr hp e]
        simp
theorem mg {p s : Bs} (h : p.isPrefixOf s = true) : s = p ++ s.drop p.length := by
  obtain ⟨t, ht⟩ := List.isPrefixOf_iff_prefix.1 h
  rw [← ht, List.drop_left' rfl]
theorem sK (f : UInt8 → Bool) (s : Bs) : (s.dropWhile f).length ≤ s.length := by
  induction s with
  | nil => simp
  | cons c r ih => rw [List.dropWhile_cons]; split <;> simp at * <;> omega
theorem mC {s n r : Bs} (h : fD s = some (n, r)) : s = n ++ r ∧ lN n = true := by
  unfold fD at h
  split at h
  · rename_i g
    cases h
    exact ⟨(List.takeWhile_append_dropWhile).symm, g⟩
  · cases h
theorem name_pos {n : Bs} (h : lN n = true) : 0 < n.length := by
  cases n with
  | nil => cases h
  | cons c r => simp
section
variable {dec : Bs → Option Bs}
theorem sg {n s : Bs} {q : UInt8} {a : At} {r : Bs} (h : od dec n q s = some (a, r)) : r.length < s.length := by
  unfold od at h
  cases e : iV [q] s with
  | none => rw [e] at h; cases h
  | some x =>
    obtain ⟨raw, r'⟩ := x
    rw [e] at h
    simp only at h
    split at h
    · cases h
    · split at h
      · cases h
      · cases h
        have := kr (by simp) e
        rw [this]; simp; omega
theorem ld {s : Bs} {a : At} {r : Bs} (h : lE dec s = some (a, r)) : r.length < s.length := by
  unfold lE at h
  cases e : fD s with
  | none => rw [e] at h; cases h
  | some x =>
    obtain ⟨n, r'⟩ := x
    rw [e] at h
    obtain ⟨rfl, hn⟩ := mC e
    have hp := name_pos hn
    simp only at h
    split at h
    · have := sg h
      rw [List.length_drop] at this; rw [List.length_append]; omega
    · split at h
      · have := sg h
        rw [List.length_drop] at this; rw [List.length_append]; omega
      · cases h
theorem qp : ∀ {k : Nat} {as_ : List At} {s : Bs} {bs : List At} {e : Bool} {r : Bs}, io dec k as_ s = some (bs, e, r) → r.length < s.length
  | 0, _, _, _, _, _, h => by cases h
  | k + 1, as_, s, bs, e, r, h => by
    have hd := sK dD s
    unfold io at h
    split at h
    · rename_i g
      cases h
      have := congrArg List.length (mg g)
      rw [List.length_append] at this
      simp at this ⊢
      omega
    · split at h
      · rename_i g
        cases h
        have := congrArg List.length (mg g)
        rw [List.length_append] at this
        simp at this ⊢
        omega
      · split at h
        · cases h
        · cases ea : lE dec (s.dropWhile dD) with
          | none => rw [ea] at h; cases h
          | some x =>
            obtain ⟨a, r'⟩ := x
            rw [ea] at h
            simp only at h
            have h1 := ld ea
            split at h
            · cases h
            · have := qp h
              omega
theorem mb : ∀ {k m : Nat} {as_ : List At} {s : Bs}, s.length < k → s.length < m → io dec k as_ s = io dec m as_ s
  | 0, _, _, _, h, _ => by omega
  | _, 0, _, _, _, h => by omega
  | k + 1, m + 1, as_, s, hk, hm => by
    have hd := sK dD s
    unfold io
    split
    · rfl
    · split
      · rfl
      · split
        · rfl
        · rename_i g
          cases ea : lE dec (s.dropWhile dD) with
          | none => rfl
          | some x =>
            obtain ⟨a, r'⟩ := x
            have h1 := ld ea
            simp only
            split
            · rfl
            · exact mb (by omega) (by omega)
theorem qt {p s : Bs} (hp : p ≠ []) {o : List Bs} {k : Nat} {l : List Tok} {x : Sx} (h : iW p s o k l = .ok x) : x.1.length ≤ s.length ∧ x.2 = (o, k, l) := by
  unfold iW at h
  cases e : iV p s with
  | none => rw [e] at h; cases h
  | some y =>
    obtain ⟨a, b⟩ := y
    rw [e] at h
    cases h
    have := congrArg List.length (kr hp e)
    simp at this ⊢
    omega
theorem nE {s : Bs} {o : List Bs} {k : Nat} {l : List Tok} {x : Sx} (hs : s ≠ []) (h : jT dec s o k l = .ok x) : x.1.length < s.length := by
  have hpos := List.length_pos_iff.2 hs
  have pl : ∀ p : Bs, p.isPrefixOf s = true → p.length ≤ s.length := fun p g => by
    have := congrArg List.length (mg g)
    rw [List.length_append] at this
    omega
  unfold jT at h
  split at h
  · rename_i g
    have hc : ∃ c r, s = c :: r ∧ c ≠ 60 := by
      cases s with
      | nil => exact absurd rfl hs
      | cons c r =>
        refine ⟨c, r, rfl, fun e => ?_⟩
        rw [e] at g
        simp at g
    obtain ⟨c, r, rfl, hc⟩ := hc
    have hd : ((c :: r).dropWhile fun c => decide (c ≠ 60)).length < (c :: r).length := by
      rw [List.dropWhile_cons, if_pos (by simpa using hc)]
      have := sK (fun c => decide (c ≠ 60)) r
      rw [List.length_cons]; omega
    unfold jY at h
    split at h
    · cases h
    · split at h
      · split at h
        · cases h; exact hd
        · cases h
      · cases h; exact hd
  split at h
  · rename_i g
    have := (qt (by simp) h).1
    have := pl _ g
    rw [List.length_drop] at *
    simp at *; omega
  split at h
  · rename_i g
    have := (qt (by simp) h).1
    have := pl _ g
    rw [List.length_drop] at *
    simp at *; omega
  split at h
  · rename_i g
    have h9 := pl _ g
    unfold oc at h
    cases e : iV [93, 93, 62] (s.drop 9) with
    | none => rw [e] at h; cases h
    | some y =>
      obtain ⟨a, b⟩ := y
      rw [e] at h
      simp only at h
      have := congrArg List.length (kr (by simp) e)
      simp at this h9
      split at h
      · cases h
      · cases h
        simp only
        omega
  split at h
  · rename_i g
    have := (qt (by simp) h).1
    have := pl _ g
    rw [List.length_drop] at *
    simp at *; omega
  split at h
  · rename_i g
    have h2 := pl _ g
    unfold re at h
    cases e : fD (s.drop 2) with
    | none => rw [e] at h; cases h
    | some y =>
      obtain ⟨n, r⟩ := y
      rw [e] at h
      simp only at h
      have := congrArg List.length (mC e).1
      have hd := sK dD r
      simp at this h2
      split at h
      · unfold lM at h
        split at h
        · cases h
          simp only [List.length_drop]
          omega
        · cases h
      · cases h
  · unfold mJ at h
    cases e : fD (s.drop 1) with
    | none => rw [e] at h; cases h
    | some y =>
      obtain ⟨n, r⟩ := y
      rw [e] at h
      simp only at h
      have := congrArg List.length (mC e).1
      simp at this
      cases ea : io dec (r.length + 1) [] r with
      | none => rw [ea] at h; cases h
      | some z =>
        obtain ⟨as_, em, r'⟩ := z
        rw [ea] at h
        simp only at h
        have hl := qp ea
        unfold mF at h
        split at h
        · cases h
        · split at h
          · cases h
          · split at h <;> (cases h; simp only; omega)
end
end Go.Xm
namespace Go.Pn
open Go.Pv Go.Av
abbrev Bs := List UInt8
def bl (c : UInt8) : Bool := (((decide (c = 9)) || (decide (c = 10))) || (decide (c = 13))) || (decide (c = 32))
mutual
/-- Behind a sign. -/
def T1 : Bs → Bs
  | [] => []
  | c :: r => bif bl c then T2 r else c :: T1 r
/-- In a gap behind a sign. -/
def T2 : Bs → Bs
  | [] => []
  | c :: r => bif bl c then T2 r else 32 :: c :: T1 r
end
def trim : Bs → Bs
  | [] => []
  | c :: r => bif bl c then trim r else c :: T1 r
def tl (out : Bs) (gap : Bool) (r : Bs) : Bs := if out = [] then trim r else bif gap then T2 r else T1 r
def wgo (cur : Bs) : Bs → List Bs
  | [] => if cur = [] then [] else [cur]
  | c :: r => bif bl c then (if cur = [] then wgo [] r else cur :: wgo [] r) else wgo (cur ++ [c]) r
theorem rest_wgo (s : Bs) : (∀ cur : Bs, cur ≠ [] → Str.join [32] (wgo cur s) = cur ++ T1 s) ∧ Str.join [32] (wgo [] s) = trim s ∧ Str.rest [32] (wgo [] s) = T2 s := by
  induction s with
  | nil => exact ⟨fun cur h => by simp [wgo, h, Str.join, Str.rest, T1], by simp [wgo, Str.join, trim], by simp [wgo, Str.rest, T2]⟩
  | cons c r ih =>
    obtain ⟨h1, h2, h3⟩ := ih
    cases hb : bl c with
    | true =>
      refine ⟨fun cur h => ?_, ?_, ?_⟩
      · simp [wgo, hb, h, Str.join, T1, h3]
      · simp [wgo, hb, trim, h2]
      · simp [wgo, hb, T2, h3]
    | false =>
      have h4 := h1 [c] (by simp)
      refine ⟨fun cur h => ?_, ?_, ?_⟩
      · simp only [wgo, hb, cond_false, T1]
        rw [h1 _ (by simp)]; simp
      · simp only [wgo, hb, cond_false, trim, List.nil_append]
        rw [h4]; rfl
      · simp only [wgo, hb, cond_false, T2, List.nil_append]
        have : Str.rest [32] (wgo [c] r) = 32 :: Str.join [32] (wgo [c] r) := by
          cases hw : wgo [c] r with
          | nil => rw [hw] at h4; simp [Str.join] at h4
          | cons w ws => simp [Str.rest, Str.join]
        rw [this, h4]; rfl
theorem join_wgo (s : Bs) : Str.join [32] (wgo [] s) = trim s := (rest_wgo s).2.1
theorem vJ (s : Bs) : ∀ cur : Bs, Str.total (wgo cur s) + (wgo cur s).length ≤ cur.length + s.length + 1 := by
  induction s with
  | nil => intro cur; by_cases h : cur = [] <;> simp [wgo, h, Str.total]
  | cons c r ih =>
    intro cur
    cases hb : bl c with
    | true =>
      have := ih []
      by_cases h : cur = []
      · simp [wgo, hb, h] at this ⊢; omega
      · simp [wgo, hb, h, Str.total] at this ⊢; omega
    | false =>
      have := ih (cur ++ [c])
      simp [wgo, hb] at this ⊢; omega
theorem nz (F : Nat) (c : UInt8) : lb F c = some (bl c) := by
  have : ∀ n : Nat, n < 256 → decide (0 ≤ Go.Lib.indexByte ([9, 10, 13, 32] : List UInt8) (UInt8.ofNat n)) = bl (UInt8.ofNat n) := by decide +kernel
  have h := this c.toNat c.toNat_lt
  rw [UInt8.ofNat_toNat] at h
  unfold lb
  simp only [bA]
  rw [h]
theorem ent_end (F : Nat) (s : Bs) (hs : s.length ≤ 1000000) (n : Nat) (l : List Bs) (hl : l.length + Str.total l ≤ 100000000) (hn1 : n ≥ 1) : ec F s n (l, (-1), ((s.length + 1 : Nat) : Int)) = some (Str.join [32] l) := by
  obtain ⟨m, rfl⟩ : ∃ m, n = m + 1 := ⟨n - 1, by omega⟩;show gE F s (ec F s m) l (-1) ((s.length + 1 : Nat) : Int) = _
  unfold gE jK
  have h1 : ¬ (((s.length + 1 : Nat) : Int) ≤ (s.length : Int)) := by omega
  rw [bF h1, grd_Join (by simp; omega), bA]
theorem ent_loop (F : Nat) (s : Bs) (hs : s.length ≤ 1000000) : ∀ (n : Nat) (l : List Bs) (fr : Int) (cur : Bs) (i : Nat), s.length + 1 - i < n → i ≤ s.length → l.length ≤ i →
    ((fr = -1 ∧ cur = []) ∨ ∃ f : Nat, fr = (f : Int) ∧ f < i ∧ cur = (s.take i).drop f) → (l ++ wgo cur (s.drop i)).length + Str.total (l ++ wgo cur (s.drop i)) ≤ 100000000 →
    ec F s n (l, fr, (i : Int)) = some (Str.join [32] (l ++ wgo cur (s.drop i))) := by
  intro n
  induction n with
  | zero => intro l fr cur i h; omega
  | succ n ih =>
    intro l fr cur i hn hi hl hf hJ;show gE F s (ec F s n) l fr (i : Int) = _
    unfold gE gD
    have hend : ∀ l : List Bs, l.length + Str.total l ≤ 100000000 → n ≥ 1 → ec F s n (l, (-1), ((s.length + 1 : Nat) : Int)) = some (Str.join [32] l) := ent_end F s hs n
    by_cases h : i < s.length
    · have hd : s.drop i = s[i] :: s.drop (i + 1) := aG h
      have hne : decide ((i : Int) = (s.length : Int)) = false := decide_eq_false (by omega)
      simp (disch := omega) only [bT, hne, Bool.not_false, jh, cz, bA, dH h, nz, bndc_t, be, Bool.false_or]
      rw [hd] at hJ ⊢
      cases hb : bl s[i] with
      | true =>
        simp only [wgo, hb, cond_true] at hJ ⊢
        rcases hf with ⟨rfl, rfl⟩ | ⟨f, rfl, hfi, rfl⟩
        · simp only [if_true] at hJ ⊢
          simp (disch := omega) only [Bool.not_true, Bool.false_and, cond_false, Bool.true_and, bF, bP, bR]
          exact ih l (-1) [] (i + 1) (by omega) (by omega) (by omega) (.inl ⟨rfl, rfl⟩) hJ
        · have hc : (s.take i).drop f ≠ [] := by
            intro h2; have := congrArg List.length h2; simp at this; omega
          simp only [hc, if_false] at hJ ⊢
          simp (disch := (first | omega | (simp; omega))) only [Bool.not_true, Bool.false_and, cond_false, Bool.true_and, bT, iI, dI, nP, bP, bR]
          rw [ih (l ++ [(s.take i).drop f]) (-1) [] (i + 1) (by omega) (by omega) (by simp; omega) (.inl ⟨rfl, rfl⟩) (by simpa using hJ)]
          simp
      | false =>
        simp only [wgo, hb, cond_false] at hJ ⊢
        rcases hf with ⟨rfl, rfl⟩ | ⟨f, rfl, hfi, rfl⟩
        · simp (disch := omega) only [Bool.not_false, Bool.true_and, bT, bP, bR]
          have hc : ([] : Bs) ++ [s[i]] = (s.take (i + 1)).drop i := by
            rw [List.take_succ_eq_append_getElem h, List.drop_append_of_le_length (by simp; omega), aR (by simp; omega)]
          rw [hc] at hJ ⊢
          exact ih l (i : Int) _ (i + 1) (by omega) (by omega) (by omega) (.inr ⟨i, rfl, by omega, rfl⟩) hJ
        · simp (disch := omega) only [Bool.not_false, Bool.true_and, bF, Bool.false_and, cond_false, bP, bR]
          have hc : (s.take i).drop f ++ [s[i]] = (s.take (i + 1)).drop f := by
            rw [List.take_succ_eq_append_getElem h, List.drop_append_of_le_length (by simp; omega)]
          rw [hc] at hJ ⊢
          exact ih l (f : Int) _ (i + 1) (by omega) (by omega) (by omega) (.inr ⟨f, rfl, by omega, rfl⟩) hJ
    · have hi2 : i = s.length := by omega
      subst hi2
      have hyes : decide ((s.length : Int) = (s.length : Int)) = true := decide_eq_true rfl
      simp (disch := omega) only [bT, hyes, Bool.not_true, fv, bA, nz, kX, Bool.true_or, List.drop_length] at hJ ⊢
      rcases hf with ⟨rfl, rfl⟩ | ⟨f, rfl, hfi, rfl⟩
      · simp (disch := omega) only [Bool.false_and, cond_false, Bool.true_and, bF, bP, bR]
        rw [hend l (by simpa [wgo] using hJ) (by omega)]
        simp [wgo, fv, kX]
      · have hc : (s.take s.length).drop f ≠ [] := by
          intro h2; have := congrArg List.length h2; simp at this; omega
        simp only [wgo, hc, if_false] at hJ ⊢
        simp (disch := (first | omega | (simp; omega))) only [Bool.false_and, cond_false, Bool.true_and, bT, iI, dI, nP, bP, bR]
        exact hend _ hJ (by omega)
theorem ent_Trim_eq (F : Nat) (s : Bs) (hs : s.length ≤ 1000000) (hF : s.length + 1 < F) : mh F s = some (trim s) := by
  have h1 := vJ s []
  have := ent_loop F s hs F [] (-1) [] 0 (by omega) (by omega) (by simp) (.inl ⟨rfl, rfl⟩) (by simp at h1 ⊢; omega)
  rw [← join_wgo]
  simpa [mh] using this
end Go.Pn
namespace Go.Pn
open Go.Pv Go.Av
theorem nx {c : UInt8} {s : Bs} (h : ∀ b ∈ s, b ≠ c) : Go.Lib.indexByte s c = -1 := by
  induction s with
  | nil => rfl
  | cons b r ih => simp [Go.Lib.indexByte, h b (by simp), ih (fun x hx => h x (by simp [hx]))]
end Go.Pn
namespace Go.Pn
open Go.Pv Go.Av
theorem ui (s : Bs) (p : Nat) : 1 ≤ (lK s p).2 := by
  unfold lK Utf8.decode
  simp only
  repeat' split
  all_goals simp
theorem kA (n : Int) : (cI n).length ≤ 4 := by
  unfold cI Utf8.encode
  simp only
  repeat' split
  all_goals simp
theorem oL (n : Int) (h : 128 ≤ n) : 2 ≤ (cI n).length ∧ ((cI n).length = 2 → ¬ (59 : UInt8) = at_ (cI n) 1) := by
  have hc : ¬ (if Utf8.valid n = true then n.toNat else Utf8.runeError) < 128 := by
    split
    · omega
    · decide
  unfold cI Utf8.encode
  simp only
  generalize (if Utf8.valid n = true then n.toNat else Utf8.runeError) = c at hc ⊢
  rw [if_neg hc]
  by_cases h2 : c < 2048
  · rw [if_pos h2]
    refine ⟨by simp, fun _ => ?_⟩;show ¬ (59 : UInt8) = UInt8.ofNat (128 + c % 64);intro e
    have := congrArg UInt8.toNat e
    rw [UInt8.toNat_ofNat'] at this
    have e59 : (59 : UInt8).toNat = 59 := rfl
    omega
  · rw [if_neg h2]
    split <;> simp
theorem tD (F : Nat) (hF : 5 ≤ F) (r : Int) : ∃ j, iH F [38, 59] r = some j := by
  unfold iH
  by_cases h1 : 0 ≤ r ∧ r < 128
  · simp only [h1, decide_true, Bool.and_self, cond_true]; exact ⟨_, rfl⟩
  · have hf : ((decide (0 ≤ r)) && (decide (r < 128))) = false := by
      cases h : (decide (0 ≤ r)) && (decide (r < 128)) with
      | false => rfl
      | true => exact absurd (by simpa using h) h1
    rw [hf, cond_false]
    by_cases h2 : r = 65533
    · rw [bT h2]
      obtain ⟨m, rfl⟩ : ∃ m, F = m + 3 := ⟨F - 3, by omega⟩
      have e0 : lK [38, 59] 0 = (38, 1) := by decide +kernel
      have e1 : lK [38, 59] 1 = (59, 1) := by decide +kernel
      refine ⟨-1, ?_⟩;show eD [38, 59] (iy [38, 59] (m + 2)) 0 = _
      unfold eD
      simp only [e0]
      show eD [38, 59] (iy [38, 59] (m + 1)) 1 = _
      unfold eD
      simp only [e1]
      rfl
    · rw [bF h2]
      have hv : ∃ b, jv F r = some b ∧ (b = true → 0 ≤ r) := by
        unfold jv
        by_cases ha : 0 ≤ r ∧ r < 55296
        · refine ⟨true, ?_, fun _ => ha.1⟩; simp [ha]
        · by_cases hb : 57343 < r ∧ r ≤ 1114111
          · refine ⟨true, ?_, fun _ => by omega⟩; simp [hb]
          · refine ⟨false, ?_, fun h => by cases h⟩
            have e1 : ((decide (0 ≤ r)) && (decide (r < 55296))) = false := by
              cases h : (decide (0 ≤ r)) && (decide (r < 55296)) with
              | false => rfl
              | true => exact absurd (by simpa using h) ha
            have e2 : ((decide (57343 < r)) && (decide (r ≤ 1114111))) = false := by
              cases h : (decide (57343 < r)) && (decide (r ≤ 1114111)) with
              | false => rfl
              | true => exact absurd (by simpa using h) hb
            rw [e1, e2]; rfl
      obtain ⟨b, hb, hp⟩ := hv
      rw [hb, be]
      cases b with
      | false => exact ⟨-1, rfl⟩
      | true =>
        have hr : 128 ≤ r := by have := hp rfl; omega
        obtain ⟨k1, k2⟩ := oL r hr
        have k3 := kA r
        obtain ⟨m, rfl⟩ : ∃ m, F = m + 1 := ⟨F - 1, by omega⟩;refine ⟨-1, ?_⟩
        simp (disch := omega) only [Bool.not_true, cond_false, bA, bP]
        show iz [38, 59] (cI r) (ko [38, 59] (cI r) m) = _
        unfold iz jo
        by_cases h3 : (cI r).length = 2
        · have e1 : ((cI r).length : Int) - 1 = 1 := by omega
          have e2 : at_ ([38, 59] : Bs) 1 = 59 := rfl
          have e3 : gk ([38, 59] : Bs) (1 + 1) = [] := rfl
          rw [e1]
          simp (disch := (first | omega | (simp; done) | (simp; omega))) only [bT, cz, bA, e2, decide_eq_false (k2 h3), Bool.not_false, mH, bP, iX, e3]
          rfl
        · have : ¬ ((cI r).length : Int) - 1 < (([38, 59] : Bs).length : Int) := by simp; omega
          rw [bF this]
theorem ma (s : Bs) (c : UInt8) : -1 ≤ Go.Lib.indexByte s c ∧ Go.Lib.indexByte s c < s.length := by
  induction s with
  | nil => simp [Go.Lib.indexByte]
  | cons b r ih =>
    unfold Go.Lib.indexByte
    split
    · first | (simp; done) | (simp; omega)
    · split
      · first | (simp; done) | (simp; omega)
      · rename_i h
        have h' : ¬ Go.Lib.indexByte r c = -1 := by simpa using h
        simp; omega
theorem jn (s cs : Bs) : -1 ≤ Go.Lib.indexAny s cs ∧ Go.Lib.indexAny s cs < s.length := by
  induction s with
  | nil => simp [Go.Lib.indexAny]
  | cons b r ih =>
    unfold Go.Lib.indexAny
    split
    · first | (simp; done) | (simp; omega)
    · split
      · first | (simp; done) | (simp; omega)
      · rename_i h
        have h' : ¬ Go.Lib.indexAny r cs = -1 := by simpa using h
        simp; omega
theorem sD (F : Nat) (hF : 5 ≤ F) (s : Bs) : ∀ (n y : Nat), s.length - y < n → ∃ j, iB F s [38, 59] n y = some j ∧ -1 ≤ j ∧ j < s.length := by
  intro n
  induction n with
  | zero => intro y h; omega
  | succ n ih =>
    intro y hy;show ∃ j, iC F s [38, 59] (iB F s [38, 59] n) y = some j ∧ _
    unfold iC jq
    by_cases h : y < s.length
    · rw [bT h]
      obtain ⟨j, hj⟩ := tD F hF ((lK s y).1 : Int)
      rw [hj, be]
      by_cases h0 : 0 ≤ j
      · rw [bT h0]; exact ⟨_, rfl, by omega, by omega⟩
      · rw [bF h0]
        have := ui s y
        exact ih _ (by omega)
    · rw [bF h]; exact ⟨-1, rfl, by omega, by omega⟩
theorem uG (F : Nat) (s : Bs) (hF : 20 ≤ F) : ∃ j, kV F s [38, 59] = some j ∧ -1 ≤ j ∧ j < s.length := by
  unfold kV
  by_cases h : 8 < s.length
  · obtain ⟨h1, h2⟩ := jn s [38, 59]
    refine ⟨Go.Lib.indexAny s [38, 59], ?_, h1, h2⟩
    simp [h]
  · have e : ((decide (8 < s.length)) && (decide (2 ≤ ([38, 59] : Bs).length))) = false := by simp [h]
    rw [e, cond_false]
    unfold lJ qC jp
    have e3 : decide ((8 : Int) < (s.length : Int)) = false := decide_eq_false (by omega)
    simp (disch := (first | omega | (simp; done) | (simp; omega))) only [bF, be, e3, Bool.not_false, mH]
    exact sD F (by omega) s F 0 (by omega)
theorem sG (F : Nat) (s : Bs) (hs : s.length ≤ 100000) : ∃ b, gG F s [95] = some b := by
  unfold gG kV lJ iA iH
  have e : ((decide (8 < s.length)) && (decide (2 ≤ ([95] : Bs).length))) = false := by simp
  have e2 : at_ ([95] : Bs) 0 = 95 := rfl
  have e3 : iY [95] = true := by decide
  have e4 : ((95 : UInt8).toNat : Int) = 95 := rfl
  rw [e, cond_false]
  simp (disch := (first | omega | (simp; done) | (simp; omega))) only [e3, mH, mI, bF, bT, cz, bA, e2, e4, grd_J]
  exact ⟨_, rfl⟩
theorem nM (x : Int) : 0 ≤ IntKind.u64.wrap x := by
  have : IntKind.u64.wrap x = x % 18446744073709551616 := rfl
  rw [this]; omega
def Ok3 (r : Option (Int × Int)) : Prop := ∃ v e, r = some (v, e) ∧ 0 ≤ v ∧ (e = 0 ∨ e = 1 ∨ e = 2)
theorem vM (F : Nat) (s : Bs) (b c : Int) (hb : b = 10 ∨ b = 16) (hs : s.length ≤ 100000) : ∀ (n i : Nat) (v : Int), s.length - i < n → 0 ≤ v → Ok3 (cd F s b c n (false, v, (i : Int))) := by
  intro n
  induction n with
  | zero => intro i v h; omega
  | succ n ih =>
    intro i v hn hv;show Ok3 (dN F s b c (cd F s b c n) false v (i : Int))
    unfold dN eK fy
    by_cases h : i < s.length
    · have key : ∀ d : UInt8, Ok3 (cW b c false v (i : Int) (cd F s b c n) d) := by
        intro d
        unfold cW dM
        cases decide (((Go.Av.toB b).toNat : Int) ≤ (d.toNat : Int)) with
        | true => exact ⟨0, 2, rfl, by omega, by omega⟩
        | false =>
          rw [cond_false]
          cases decide (c ≤ v) with
          | true => exact ⟨_, 1, rfl, nM _, by omega⟩
          | false =>
            rw [cond_false]
            generalize ((decide (IntKind.u64.wrap ((IntKind.u64.wrap (v * (IntKind.u64.wrap b))) + (IntKind.u64.wrap (d.toNat : Int))) < IntKind.u64.wrap (v * (IntKind.u64.wrap b)))) || (decide (IntKind.u64.wrap ((IntKind.u64.wrap (1 * 2 ^ min (Int.toNat (IntKind.u64.wrap 64)) IntKind.u64.bits)) - 1) < IntKind.u64.wrap ((IntKind.u64.wrap (v * (IntKind.u64.wrap b))) + (IntKind.u64.wrap (d.toNat : Int)))))) = q
            cases q with
            | true => exact ⟨_, 1, rfl, nM _, by omega⟩
            | false =>
              rw [cond_false, bP (by omega), bR]
              exact ih _ _ (by omega) (nM _)
      have hb0 : decide (b = 0) = false := decide_eq_false (by omega)
      simp (disch := omega) only [bT, cz, bA, dH h, hb0, Bool.and_false, cond_false, be, ju]
      generalize ((decide (48 ≤ ((s[i]).toNat : Int))) && (decide (((s[i]).toNat : Int) ≤ 57))) = q1
      cases q1 with
      | true => exact key _
      | false =>
        rw [cond_false]
        generalize ((decide (97 ≤ ((s[i] ||| 32).toNat : Int))) && (decide ((((bif decide (97 ≤ ((s[i] ||| 32).toNat : Int)) then (s[i] ||| 32) else default) : UInt8).toNat : Int) ≤ 122))) = q2
        cases q2 with
        | true => exact key _
        | false => exact ⟨0, 2, rfl, by omega, by omega⟩
    · rw [bF (by omega), kX]
      exact ⟨v, 0, rfl, hv, by omega⟩
theorem uint_tot (F : Nat) (s : Bs) (b : Int) (hb : b = 10 ∨ b = 16) (hs : s.length ≤ 100000) (hF : s.length < F) : Ok3 (fH F s b 0) := by
  unfold fH eI eJ dt
  by_cases h0 : s = []
  · rw [bT h0]; exact ⟨0, 2, rfl, by omega, by omega⟩
  · rw [bF h0]
    have h2 : ((decide (2 ≤ b)) && (decide (b ≤ 36))) = true := by rcases hb with rfl | rfl <;> rfl
    have hw := nM 64
    rw [h2, mH, lO rfl]
    have go := fun c => vM F s b c hb hs F 0 0 (by omega) (by omega)
    rcases hb with rfl | rfl
    · rw [bT rfl, lO hw, dI (by omega)]; exact go _
    · rw [bF (by omega), bT rfl, lO hw, dI (by omega)]; exact go _
theorem int_tot (F : Nat) (s : Bs) (b : Int) (hb : b = 10 ∨ b = 16) (hs : s.length ≤ 100000) (hF : s.length < F) (h43 : at_ s 0 ≠ 43) (h45 : at_ s 0 ≠ 45) : ∃ v e, dA F s b 0 = some (v, e) := by
  have hi : ∃ v e, gA F s b 0 = some (v, e) ∧ (e = 0 ∨ e = 1 ∨ e = 2) := by
    unfold gA dF fp eu
    by_cases h0 : s = []
    · rw [bT h0]; exact ⟨0, 2, rfl, by omega⟩
    · have hp : 0 < s.length := List.length_pos_iff.2 h0
      obtain ⟨v, e, hv, hv0, he⟩ := uint_tot F s b hb hs hF
      have e1 : IntKind.u64.wrap (1 * 2 ^ min (Int.toNat (IntKind.u64.wrap 63)) IntKind.u64.bits) = 9223372036854775808 := by decide +kernel
      have e2 : (0 : Int) ≤ IntKind.u64.wrap 63 := by decide +kernel
      have e3 : IntKind.u64.wrap (9223372036854775808 - 1) = 9223372036854775807 := by decide +kernel
      simp (disch := omega) only [bF, cz, bA, hv, bi, e1, e3, lO e2, bP, lO, Bool.not_false, Bool.true_and, Bool.false_and, cond_false]
      rcases he with rfl | rfl | rfl
      · rw [show ((!decide ((0 : Int) = 0)) && (!decide ((0 : Int) = 1))) = false by rfl, cond_false]
        by_cases hb : (9223372036854775808 : Int) ≤ v
        · rw [bT hb]; exact ⟨_, 1, rfl, by omega⟩
        · rw [bF hb, bP (by omega)]; exact ⟨_, 0, rfl, by omega⟩
      · rw [show ((!decide ((1 : Int) = 0)) && (!decide ((1 : Int) = 1))) = false by rfl, cond_false]
        by_cases hb : (9223372036854775808 : Int) ≤ v
        · rw [bT hb]; exact ⟨_, 1, rfl, by omega⟩
        · rw [bF hb, bP (by omega)]; exact ⟨_, 0, rfl, by omega⟩
      · rw [show ((!decide ((2 : Int) = 0)) && (!decide ((2 : Int) = 1))) = true by rfl, cond_true]
        exact ⟨_, 2, rfl, by omega⟩
  obtain ⟨v, e, hv, he⟩ := hi
  unfold dA
  rw [hv, bi]
  rcases he with rfl | rfl | rfl
  · exact ⟨_, _, rfl⟩
  · rw [show (!decide ((1 : Int) = 0)) = true by rfl, cond_true, mI (by omega), lO (by omega)]; exact ⟨_, _, rfl⟩
  · rw [show (!decide ((2 : Int) = 0)) = true by rfl, cond_true, mI (by omega), lO (by omega)]; exact ⟨_, _, rfl⟩
theorem rune_tot (F : Nat) (r : Int) : ∃ o b, jg F r = some (o, b) ∧ o.length ≤ 4 := by
  have fin : -2147483648 ≤ r ∧ r ≤ 2147483647 → ∃ o b, grd (okJ r) (lt (cI r) fun x17 => some (x17, true)) = some (o, b) ∧ o.length ≤ 4 := by
    intro h; rw [grd_J h]; exact ⟨_, _, rfl, kA r⟩
  unfold jg kW
  simp only [ju]
  cases hA : ((decide (r = 9)) || (decide (r = 10))) || (decide (r = 13)) with
  | true =>
    have : r = 9 ∨ r = 10 ∨ r = 13 := by simpa [or_assoc] using hA
    simp only [Bool.not_true, Bool.false_and, cond_false]
    exact fin (by omega)
  | false =>
    simp only [Bool.not_false, Bool.true_and, cond_true]
    cases h7 : (decide (32 ≤ r)) && (decide (r ≤ 55295)) with
    | true =>
      have : 32 ≤ r ∧ r ≤ 55295 := by simpa using h7
      simp only [Bool.not_true, Bool.false_and, cond_false]
      exact fin (by omega)
    | false =>
      simp only [Bool.not_false, Bool.true_and, cond_true]
      cases h10 : (decide (57344 ≤ r)) && (decide (r ≤ 65533)) with
      | true =>
        have : 57344 ≤ r ∧ r ≤ 65533 := by simpa using h10
        simp only [Bool.not_true, Bool.false_and, cond_false]
        exact fin (by omega)
      | false =>
        simp only [Bool.not_false, Bool.true_and, cond_true]
        cases h13 : (decide (65536 ≤ r)) && (decide (r ≤ 1114111)) with
        | true =>
          have : 65536 ≤ r ∧ r ≤ 1114111 := by simpa using h13
          simp only [Bool.not_true, Bool.false_and, cond_false]
          exact fin (by omega)
        | false => exact ⟨[], false, rfl, by simp⟩
theorem qj (F : Nat) (s : Bs) (b : Int) (hb : b = 10 ∨ b = 16) (hs : s.length ≤ 100000) (hF : s.length < F) : ∃ o k, dV F s b = some (o, k) ∧ o.length ≤ 4 := by
  obtain ⟨cb, hcb⟩ := sG F s hs
  have no : ∃ o k, (some (([] : Bs), false) : Option (Bs × Bool)) = some (o, k) ∧ o.length ≤ 4 := ⟨[], false, rfl, by simp⟩
  unfold dV
  cases s with
  | nil => simp [fv, bA, kX]
  | cons c r =>
    have h0 : decide ((c :: r) = []) = false := decide_eq_false (by simp)
    have ha : at_ (c :: r) 0 = c := rfl
    have hg : ∀ (q : Bool) (k : Option (Bs × Bool)), ff q (cR 0 (c :: r).length) k = k := fun q k => pG (fun _ => by simp)
    simp only [hg, h0, bA, ha, hcb, ju, Bool.false_or]
    by_cases h1 : c = 43
    · simp [h1]
    · by_cases h2 : c = 45
      · simp [h2]
      · by_cases h3 : c = 95
        · simp [h3]
        · simp only [h1, h2, h3, decide_false, Bool.or_self, Bool.false_or, Bool.not_false, cond_true]
          cases cb with
          | true => exact no
          | false =>
            obtain ⟨v, e, hv⟩ := int_tot F (c :: r) b hb hs hF (by rw [ha]; exact h1) (by rw [ha]; exact h2)
            rw [cond_false, hv, bi]
            cases hz : (!decide (e = 0)) with
            | true => exact no
            | false =>
              obtain ⟨o, k, ho, hl⟩ := rune_tot F v
              rw [cond_false, ho, bi]
              exact ⟨o, k, rfl, hl⟩
theorem tN (F : Nat) (s : Bs) (hs : s.length ≤ 100000) (hF : s.length < F) : ∃ o k, iu F s = some (o, k) ∧ o.length ≤ 4 := by
  have htp : ∀ p, (Go.Lib.trimPrefix s p).length ≤ s.length := by
    intro p; unfold Go.Lib.trimPrefix; split <;> simp
  unfold iu kd
  simp only [be, bA]
  generalize ([(([97, 109, 112] : List UInt8), (38 : Int)), (([108, 116] : List UInt8), 60), (([103, 116] : List UInt8), 62), (([113, 117, 111, 116] : List UInt8), 34), (([97, 112, 111, 115] : List UInt8), 39)] : List (List UInt8 × Int)) = m
  cases Go.Av.mhas m s with
  | true => exact ⟨_, _, rfl, kA _⟩
  | false =>
    rw [cond_false]
    cases Go.Lib.hasPrefix s [35, 120] with
    | true =>
      have := htp [35, 120]
      obtain ⟨o, k, ho, hl⟩ := qj F (Go.Lib.trimPrefix s [35, 120]) 16 (.inr rfl) (by omega) (by omega)
      rw [cond_true, ho, bi]; exact ⟨o, k, rfl, hl⟩
    | false =>
      rw [cond_false]
      cases Go.Lib.hasPrefix s [35] with
      | true =>
        have := htp [35]
        obtain ⟨o, k, ho, hl⟩ := qj F (Go.Lib.trimPrefix s [35]) 10 (.inl rfl) (by omega) (by omega)
        rw [cond_true, ho, bi]; exact ⟨o, k, rfl, hl⟩
      | false => exact ⟨[], false, rfl, by simp⟩
theorem rE (F : Nat) (s : Bs) (h1 : 1 ≤ s.length) (hs : s.length ≤ 100000) (hF : s.length + 20 < F) : ∃ o k, js F s = some (o, k) ∧ (k = 0 ∨ (3 ≤ k ∧ k ≤ s.length ∧ o.length ≤ 4)) := by
  have no : ∃ o k, (some (([] : Bs), (0 : Int)) : Option (Bs × Int)) = some (o, k) ∧ (k = 0 ∨ (3 ≤ k ∧ k ≤ s.length ∧ o.length ≤ 4)) := ⟨[], 0, rfl, .inl rfl⟩
  have hl : (gk s 1).length = s.length - 1 := by simp [gk]
  obtain ⟨j, hj, hj1, hj2⟩ := uG F (gk s 1) (by omega)
  have ha : iY [38, 59] = true := by decide
  unfold js kW
  simp (disch := (first | omega | (simp; done) | (simp; omega))) only [iX, bA, ha, mH, mI, hj, be]
  by_cases h : 1 ≤ j ∧ j ≤ 10
  · have hx : ((decide (1 ≤ j)) && (decide (j ≤ 10))) = true := by simp [h]
    simp (disch := (first | omega | (simp; done) | (simp; omega))) only [hx, Bool.not_true, Bool.not_false, jh, bP, cz, Bool.false_or]
    cases decide (at_ s (j + 1) = 38) with
    | true => exact no
    | false =>
      have hsub : (sub s 1 (j + 1)).length ≤ s.length := by simp [sub]; omega
      obtain ⟨o, k, ho, hol⟩ := tN F (sub s 1 (j + 1)) (by omega) (by omega)
      simp (disch := (first | omega | (simp; done) | (simp; omega))) only [cond_false, iI, bA, ho, bi]
      cases k with
      | false => exact no
      | true =>
        simp (disch := (first | omega | (simp; done) | (simp; omega))) only [Bool.not_true, cond_false, bP]
        exact ⟨o, j + 2, rfl, .inr ⟨by omega, by omega, hol⟩⟩
  · have hx : ((decide (1 ≤ j)) && (decide (j ≤ 10))) = false := by
      cases hq : (decide (1 ≤ j)) && (decide (j ≤ 10)) with
      | false => rfl
      | true => exact absurd (by simpa using hq) h
    simp only [hx, Bool.not_false, Bool.not_true, fv, Bool.true_or, cond_true]
    exact no
end Go.Pn
namespace Go.Pn
open Go.Pv Go.Av
def dg (c : UInt8) : Nat := if 48 ≤ c.toNat ∧ c.toNat ≤ 57 then c.toNat - 48 else if 97 ≤ c.toNat ∧ c.toNat ≤ 102 then c.toNat - 87 else if 65 ≤ c.toNat ∧ c.toNat ≤ 70 then c.toNat - 55 else 99
theorem tj {p : UInt8 → Prop} (h : ∀ n : Nat, n < 256 → p (UInt8.ofNat n)) (c : UInt8) : p c := by
  have := h c.toNat (UInt8.toNat_lt c)
  rwa [UInt8.ofNat_toNat] at this
theorem digit_eq (F : Nat) (c : UInt8) : iK F c = some (dg c : Int) := by
  show iK 0 c = _;exact tj (p := fun c => iK 0 c = some (dg c : Int)) (by decide +kernel) c
def isD (x : UInt8) : Bool := (decide (48 ≤ (x.toNat : Int))) && (decide ((x.toNat : Int) ≤ 57))
def isL (x : UInt8) : Bool := (decide (97 ≤ ((x ||| 32).toNat : Int))) && (decide (((x ||| 32).toNat : Int) ≤ 122))
theorem dig_D (b : Nat) (hb : b = 10 ∨ b = 16) (x : UInt8) (h : isD x = true) : (b ≤ (x - 48).toNat ↔ b ≤ dg x) ∧ ((x - 48).toNat < b → (x - 48).toNat = dg x) := by
  revert h
  refine tj (p := fun x => isD x = true → (b ≤ (x - 48).toNat ↔ b ≤ dg x) ∧ ((x - 48).toNat < b → (x - 48).toNat = dg x)) ?_ x
  rcases hb with rfl | rfl <;> decide +kernel
theorem dig_L (b : Nat) (hb : b = 10 ∨ b = 16) (x : UInt8) (h0 : isD x = false) (h : isL x = true) : (b ≤ ((x ||| 32) - 97 + 10).toNat ↔ b ≤ dg x) ∧ (((x ||| 32) - 97 + 10).toNat < b → ((x ||| 32) - 97 + 10).toNat = dg x) := by
  revert h0 h
  refine tj (p := fun x => isD x = false → isL x = true → (b ≤ ((x ||| 32) - 97 + 10).toNat ↔ b ≤ dg x) ∧ (((x ||| 32) - 97 + 10).toNat < b → ((x ||| 32) - 97 + 10).toNat = dg x)) ?_ x
  rcases hb with rfl | rfl <;> decide +kernel
theorem dig_no (x : UInt8) (h0 : isD x = false) (h : isL x = false) : dg x = 99 := by
  revert h0 h
  exact tj (p := fun x => isD x = false → isL x = false → dg x = 99) (by decide +kernel) x
def num (b : Nat) : Nat → Bs → Option Nat
  | v, [] => some v
  | v, c :: r => if b ≤ dg c then none else num b (b * v + dg c) r
theorem ta (x : Int) (h0 : 0 ≤ x) (h1 : x < 18446744073709551616) : IntKind.u64.wrap x = x := by
  have : IntKind.u64.wrap x = x % 18446744073709551616 := rfl
  rw [this]; omega
theorem sx (F : Nat) (s : Bs) (b : Nat) (hb : b = 10 ∨ b = 16) (c : Int) (hc : 1152921504606846976 ≤ c) (hs : s.length ≤ 10) : ∀ (n i v : Nat), s.length - i < n → v < 16 ^ i → i ≤ s.length →
    cd F s (b : Int) c n (false, (v : Int), (i : Int)) = match num b v (s.drop i) with | none => some (0, 2) | some w => some ((w : Int), 0) := by
  intro n
  induction n with
  | zero => intro i v h; omega
  | succ n ih =>
    intro i v hn hv hi;show dN F s (b : Int) c (cd F s (b : Int) c n) false (v : Int) (i : Int) = _
    unfold dN eK fy
    by_cases h : i < s.length
    · have hd : s.drop i = s[i] :: s.drop (i + 1) := aG h
      have hp : (16 : Nat) ^ i ≤ 16 ^ 9 := Nat.pow_le_pow_right (by omega) (by omega)
      have hp2 : (16 : Nat) ^ 9 = 68719476736 := rfl
      have hp3 : (16 : Nat) ^ (i + 1) = 16 ^ i * 16 := Nat.pow_succ _ _
      have key : ∀ d : UInt8, ((b ≤ d.toNat ↔ b ≤ dg s[i]) ∧ (d.toNat < b → d.toNat = dg s[i])) → cW (b : Int) c false (v : Int) (i : Int) (cd F s (b : Int) c n) d = match num b v (s.drop i) with | none => some (0, 2) | some w => some ((w : Int), 0) := by
        intro d ⟨h1, h2⟩
        rw [hd]
        unfold cW dM
        have hB : ((Go.Av.toB (b : Int)).toNat : Int) = (b : Int) := by rcases hb with rfl | rfl <;> rfl
        rw [hB]
        by_cases hbd : b ≤ d.toNat
        · rw [bT (by omega)]
          simp [num, h1.1 hbd]
        · have hd2 := h2 (by omega)
          have hbd' : ¬ b ≤ dg s[i] := fun e => hbd (h1.2 e)
          have hlt : d.toNat < 16 := by rcases hb with rfl | rfl <;> omega
          have hbv : b * v ≤ 16 * v := Nat.mul_le_mul_right v (by rcases hb with rfl | rfl <;> omega)
          have hmul : (v : Int) * (b : Int) = ((b * v : Nat) : Int) := by rw [Nat.mul_comm]; simp
          have wb : IntKind.u64.wrap (b : Int) = (b : Int) := ta _ (by omega) (by rcases hb with rfl | rfl <;> omega)
          have wd : IntKind.u64.wrap (d.toNat : Int) = (d.toNat : Int) := ta _ (by omega) (by omega)
          have wm : IntKind.u64.wrap ((b * v : Nat) : Int) = ((b * v : Nat) : Int) := ta _ (by omega) (by omega)
          have ws : IntKind.u64.wrap (((b * v : Nat) : Int) + (d.toNat : Int)) = ((b * v + d.toNat : Nat) : Int) := by rw [ta _ (by omega) (by omega)]; simp
          have wc : IntKind.u64.wrap ((IntKind.u64.wrap (1 * 2 ^ min (Int.toNat (IntKind.u64.wrap 64)) IntKind.u64.bits)) - 1) = 18446744073709551615 := by decide +kernel
          rw [wb, wd, hmul, wm, ws, wc, bF (by omega), bF (by omega), decide_eq_false (by omega : ¬ ((b * v + d.toNat : Nat) : Int) < ((b * v : Nat) : Int)), decide_eq_false (by omega : ¬ (18446744073709551615 : Int) < ((b * v + d.toNat : Nat) : Int))]
          rw [Bool.or_self, cond_false, bP (by omega), bR, ih (i + 1) (b * v + d.toNat) (by omega) (by rw [hp3]; rcases hb with rfl | rfl <;> omega) (by omega)]
          simp only [num, hbd', if_false, hd2]
      have hb0 : decide ((b : Int) = 0) = false := decide_eq_false (by rcases hb with rfl | rfl <;> omega)
      simp (disch := omega) only [bT, cz, bA, dH h, hb0, Bool.and_false, cond_false, be, ju]
      cases hD : isD s[i] with
      | true =>
        have e : ((decide (48 ≤ ((s[i]).toNat : Int))) && (decide (((s[i]).toNat : Int) ≤ 57))) = true := hD
        rw [e, cond_true]
        exact key _ (dig_D b hb _ hD)
      | false =>
        have e : ((decide (48 ≤ ((s[i]).toNat : Int))) && (decide (((s[i]).toNat : Int) ≤ 57))) = false := hD
        rw [e, cond_false]
        have el : ((decide (97 ≤ ((s[i] ||| 32).toNat : Int))) && (decide ((((bif decide (97 ≤ ((s[i] ||| 32).toNat : Int)) then (s[i] ||| 32) else default) : UInt8).toNat : Int) ≤ 122))) = isL s[i] := by
          unfold isL
          cases decide (97 ≤ ((s[i] ||| 32).toNat : Int)) <;> rfl
        rw [el]
        cases hL : isL s[i] with
        | true =>
          rw [cond_true]
          exact key _ (dig_L b hb _ hD hL)
        | false =>
          rw [cond_false, hd]
          have := dig_no _ hD hL
          have : b ≤ dg s[i] := by rw [this]; rcases hb with rfl | rfl <;> omega
          simp [num, this]
    · rw [bF (by omega), kX]
      have hi2 : s.length ≤ i := by omega
      rw [aR hi2]
      rfl
theorem int_eq (F : Nat) (s : Bs) (b : Nat) (hb : b = 10 ∨ b = 16) (h0 : s ≠ []) (hs : s.length ≤ 10) (hF : 20 < F) (h43 : at_ s 0 ≠ 43) (h45 : at_ s 0 ≠ 45) :
    dA F s (b : Int) 0 = match num b 0 s with | none => some (0, 1) | some w => some ((w : Int), 0) := by
  have hp : 0 < s.length := List.length_pos_iff.2 h0
  have hw : ∀ (t : Bs) (v w : Nat), num b v t = some w → t.length ≤ 10 → v < 16 ^ (10 - t.length) → w < 16 ^ 10 := by
    intro t
    induction t with
    | nil => intro v w h _ hv; have : v = w := by simpa [num] using h
             subst this; exact hv
    | cons c r ih =>
      intro v w h hl hv
      simp only [num] at h
      split at h
      · cases h
      · rename_i hd
        simp only [List.length_cons] at hl hv
        refine ih _ _ h (by omega) ?_
        have e : 10 - r.length = (10 - (r.length + 1)) + 1 := by omega
        rw [e, Nat.pow_succ]
        rcases hb with rfl | rfl <;> omega
  have hu : fH F s (b : Int) 0 = match num b 0 s with | none => some (0, 2) | some w => some ((w : Int), 0) := by
    unfold fH eI eJ dt
    have h2 : ((decide (2 ≤ (b : Int))) && (decide ((b : Int) ≤ 36))) = true := by rcases hb with rfl | rfl <;> rfl
    rw [bF h0, h2, mH, lO rfl]
    have hwr := nM 64
    have go := fun c hc => sx F s b hb c hc hs F 0 0 (by omega) (by omega) (by omega)
    rcases hb with rfl | rfl
    · rw [bT (show ((10 : Nat) : Int) = 10 from rfl), lO hwr, dI (by omega)]; exact go _ (by omega)
    · rw [bF (show ¬ ((16 : Nat) : Int) = 10 by decide), bT (show ((16 : Nat) : Int) = 16 from rfl), lO hwr, dI (by omega)]; exact go _ (by omega)
  have hi : gA F s (b : Int) 0 = match num b 0 s with | none => some (0, 2) | some w => some ((w : Int), 0) := by
    unfold gA dF fp eu
    have e1 : IntKind.u64.wrap (1 * 2 ^ min (Int.toNat (IntKind.u64.wrap 63)) IntKind.u64.bits) = 9223372036854775808 := by decide +kernel
    have e2 : (0 : Int) ≤ IntKind.u64.wrap 63 := by decide +kernel
    rw [hu]
    cases hn : num b 0 s with
    | none => simp (disch := omega) only [bF h0, bF, cz, bA, bi]; rfl
    | some w =>
      have hwb : w < 16 ^ 10 := hw s 0 w hn hs (Nat.pow_pos (by omega))
      have hp2 : (16 : Nat) ^ 10 = 1099511627776 := rfl
      simp (disch := omega) only [bF h0, bF, cz, bA, bi, e1, lO e2, bP, lO, Bool.not_false, Bool.true_and, Bool.false_and, cond_false]
      rfl
  unfold dA
  rw [hi]
  cases hn : num b 0 s with
  | none =>
    simp only [bi]
    rw [show (!decide ((2 : Int) = 0)) = true by rfl, cond_true, mI (by omega)]; rfl
  | some w => rfl
theorem nN (n : Int) (c : Nat) (h : n = c) : toB n = UInt8.ofNat c := by
  subst h
  unfold toB
  apply UInt8.toNat.inj
  rw [UInt8.toNat_ofNat', UInt8.toNat_ofNat']
  omega
theorem nL (F : Nat) (r : Int) : jg F r = if (r = 9 ∨ r = 10 ∨ r = 13) ∨ (32 ≤ r ∧ r ≤ 55295) ∨ (57344 ≤ r ∧ r ≤ 65533) ∨ (65536 ≤ r ∧ r ≤ 1114111) then some (cI r, true) else some ([], false) := by
  have fin : -2147483648 ≤ r ∧ r ≤ 2147483647 → (grd (okJ r) (lt (cI r) fun x17 => some (x17, true))) = some (cI r, true) := fun h => by rw [grd_J h]; rfl
  unfold jg kW
  simp only [ju]
  cases hA : ((decide (r = 9)) || (decide (r = 10))) || (decide (r = 13)) with
  | true =>
    have : r = 9 ∨ r = 10 ∨ r = 13 := by simpa [or_assoc] using hA
    simp only [Bool.not_true, Bool.false_and, cond_false]
    rw [if_pos (.inl this)]; exact fin (by omega)
  | false =>
    have hA' : ¬ (r = 9 ∨ r = 10 ∨ r = 13) := by simp at hA; omega
    simp only [Bool.not_false, Bool.true_and, cond_true]
    cases h7 : (decide (32 ≤ r)) && (decide (r ≤ 55295)) with
    | true =>
      have : 32 ≤ r ∧ r ≤ 55295 := by simpa using h7
      simp only [Bool.not_true, Bool.false_and, cond_false]
      rw [if_pos (by omega)]; exact fin (by omega)
    | false =>
      have h7' : ¬ (32 ≤ r ∧ r ≤ 55295) := fun e => by simp [e] at h7
      simp only [Bool.not_false, Bool.true_and, cond_true]
      cases h10 : (decide (57344 ≤ r)) && (decide (r ≤ 65533)) with
      | true =>
        have : 57344 ≤ r ∧ r ≤ 65533 := by simpa using h10
        simp only [Bool.not_true, Bool.false_and, cond_false]
        rw [if_pos (by omega)]; exact fin (by omega)
      | false =>
        have h10' : ¬ (57344 ≤ r ∧ r ≤ 65533) := fun e => by simp [e] at h10
        simp only [Bool.not_false, Bool.true_and, cond_true]
        cases h13 : (decide (65536 ≤ r)) && (decide (r ≤ 1114111)) with
        | true =>
          have : 65536 ≤ r ∧ r ≤ 1114111 := by simpa using h13
          simp only [Bool.not_true, Bool.false_and, cond_false]
          rw [if_pos (by omega)]; exact fin (by omega)
        | false =>
          have h13' : ¬ (65536 ≤ r ∧ r ≤ 1114111) := fun e => by simp [e] at h13
          rw [if_neg (by omega)]; rfl
theorem cond9 (p q s a b c d e f : Prop) [Decidable p] [Decidable q] [Decidable s] [Decidable a] [Decidable b] [Decidable c] [Decidable d] [Decidable e] [Decidable f] :
    (((!((((decide p) || (decide q)) || (decide s)) || ((decide a) && (decide b)))) && (!((decide c) && (decide d)))) && (!((decide e) && (decide f)))) = !decide ((p ∨ q ∨ s) ∨ (a ∧ b) ∨ (c ∧ d) ∨ (e ∧ f)) := by
  simp only [Bool.decide_or, Bool.decide_and, Bool.not_or, Bool.and_assoc, Bool.or_assoc]
theorem vO (r : Int) : (((!((((decide (r = 9)) || (decide (r = 10))) || (decide (r = 13))) || ((decide (32 ≤ r)) && (decide (r ≤ 55295))))) && (!((decide (57344 ≤ r)) && (decide (r ≤ 65533))))) && (!((decide (65536 ≤ r)) && (decide (r ≤ 1114111))))) = !decide ((r = 9 ∨ r = 10 ∨ r = 13) ∨ (32 ≤ r ∧ r ≤ 55295) ∨ (57344 ≤ r ∧ r ≤ 65533) ∨ (65536 ≤ r ∧ r ≤ 1114111)) := cond9 _ _ _ _ _ _ _ _ _
theorem vd (k m c : Nat) : toB ((k : Int) + (c : Int) / (m : Int)) = UInt8.ofNat (k + c / m) := nN _ _ (by rw [Int.natCast_add, Int.natCast_ediv])
theorem tb_mod (k m c : Nat) : toB ((k : Int) + (c : Int) % (m : Int)) = UInt8.ofNat (k + c % m) := nN _ _ (by rw [Int.natCast_add, Int.natCast_emod])
theorem vi (k m n c : Nat) : toB ((k : Int) + (c : Int) / (m : Int) % (n : Int)) = UInt8.ofNat (k + c / m % n) := nN _ _ (by rw [Int.natCast_add, Int.natCast_emod, Int.natCast_ediv])
theorem enc1 (c : Nat) (hc : Utf8.valid (c : Int) = true) : Utf8.encode (c : Int) = if c < 128 then ⟨#[UInt8.ofNat c]⟩ else if c < 2048 then ⟨#[UInt8.ofNat (192 + c / 64), UInt8.ofNat (128 + c % 64)]⟩
    else if c < 65536 then ⟨#[UInt8.ofNat (224 + c / 4096), UInt8.ofNat (128 + c / 64 % 64), UInt8.ofNat (128 + c % 64)]⟩ else ⟨#[UInt8.ofNat (240 + c / 262144), UInt8.ofNat (128 + c / 4096 % 64), UInt8.ofNat (128 + c / 64 % 64), UInt8.ofNat (128 + c % 64)]⟩ := by
  have hcc : (if Utf8.valid (c : Int) = true then ((c : Int)).toNat else Utf8.runeError) = c := by rw [if_pos hc, Int.toNat_natCast]
  unfold Utf8.encode
  rw [hcc]
theorem tt (n : Int) : cI n = (Utf8.encode n).data.toList := rfl
theorem uA (c : Nat) (hc : Utf8.valid (c : Int) = true) : cI (c : Int) = if c < 128 then [toB c] else if c < 2048 then [toB (192 + (c : Int) / 64), toB (128 + (c : Int) % 64)]
    else if c < 65536 then [toB (224 + (c : Int) / 4096), toB (128 + (c : Int) / 64 % 64), toB (128 + (c : Int) % 64)] else [toB (240 + (c : Int) / 262144), toB (128 + (c : Int) / 4096 % 64), toB (128 + (c : Int) / 64 % 64), toB (128 + (c : Int) % 64)] := by
  have t1 : toB (c : Int) = UInt8.ofNat c := nN (c : Int) c rfl
  have t2 : toB (192 + (c : Int) / 64) = UInt8.ofNat (192 + c / 64) := vd 192 64 c
  have t3 : toB (128 + (c : Int) % 64) = UInt8.ofNat (128 + c % 64) := tb_mod 128 64 c
  have t4 : toB (224 + (c : Int) / 4096) = UInt8.ofNat (224 + c / 4096) := vd 224 4096 c
  have t5 : toB (128 + (c : Int) / 64 % 64) = UInt8.ofNat (128 + c / 64 % 64) := vi 128 64 64 c
  have t6 : toB (240 + (c : Int) / 262144) = UInt8.ofNat (240 + c / 262144) := vd 240 262144 c
  have t7 : toB (128 + (c : Int) / 4096 % 64) = UInt8.ofNat (128 + c / 4096 % 64) := vi 128 4096 64 c
  rw [t1, t2, t3, t4, t5, t6, t7, tt, enc1 c hc]
  by_cases h1 : c < 128
  · rw [if_pos h1, if_pos h1]
  · rw [if_neg h1, if_neg h1]
    by_cases h2 : c < 2048
    · rw [if_pos h2, if_pos h2]
    · rw [if_neg h2, if_neg h2]
      by_cases h3 : c < 65536
      · rw [if_pos h3, if_pos h3]
      · rw [if_neg h3, if_neg h3]
theorem uz (c : Nat) (h : ((c : Int) = 9 ∨ (c : Int) = 10 ∨ (c : Int) = 13) ∨ (32 ≤ (c : Int) ∧ (c : Int) ≤ 55295) ∨ (57344 ≤ (c : Int) ∧ (c : Int) ≤ 65533) ∨ (65536 ≤ (c : Int) ∧ (c : Int) ≤ 1114111)) : Utf8.valid (c : Int) = true := by
  unfold Utf8.valid
  by_cases h1 : (c : Int) < 55296
  · have : (0 : Int) ≤ (c : Int) := by omega
    rw [decide_eq_true this, decide_eq_true h1]; rfl
  · have h2 : (57344 : Int) ≤ (c : Int) := by omega
    have h3 : (c : Int) ≤ 1114111 := by omega
    rw [decide_eq_true h2, decide_eq_true h3, Bool.and_self, Bool.or_true]
theorem pE (F : Nat) (r : Int) : jg F r = eC F r := by
  rw [nL]
  unfold eC
  rw [vO]
  by_cases h : (r = 9 ∨ r = 10 ∨ r = 13) ∨ (32 ≤ r ∧ r ≤ 55295) ∨ (57344 ≤ r ∧ r ≤ 65533) ∨ (65536 ≤ r ∧ r ≤ 1114111)
  · rw [if_pos h, decide_eq_true h, Bool.not_true, cond_false]
    obtain ⟨c, rfl⟩ : ∃ c : Nat, r = c := ⟨r.toNat, by omega⟩
    rw [uA c (uz c h)]
    by_cases h1 : c < 128
    · rw [if_pos h1, bT (by omega)]
    · rw [if_neg h1, bF (by omega)]
      by_cases h2 : c < 2048
      · rw [if_pos h2, bT (by omega)]
        simp (disch := omega) only [sY, bP]
      · rw [if_neg h2, bF (by omega)]
        by_cases h3 : c < 65536
        · rw [if_pos h3, bT (by omega)]
          simp (disch := omega) only [sY, bP]
        · rw [if_neg h3, bF (by omega)]
          simp (disch := omega) only [sY, bP]
  · rw [if_neg h, decide_eq_false h]; rfl
def cap (w : Nat) : Nat := if 1114111 < w then 1114112 else w
theorem tw (F : Nat) (s : Bs) (b : Nat) (hb : b = 10 ∨ b = 16) (hs : s.length ≤ 100000) : ∀ (n i v : Nat), s.length - i < n → i ≤ s.length →
    dQ F s (b : Int) n ((cap v : Int), (i : Int)) = match num b v (s.drop i) with | none => some (-1) | some w => some (if s.length = 0 then -1 else (cap w : Int)) := by
  intro n
  induction n with
  | zero => intro i v h; omega
  | succ n ih =>
    intro i v hn hi;show fR F s (b : Int) (dQ F s (b : Int) n) (cap v : Int) (i : Int) = _
    unfold fR eQ fQ
    have hcv : cap v ≤ 1114112 := by unfold cap; split <;> omega
    by_cases h : i < s.length
    · have hd : s.drop i = s[i] :: s.drop (i + 1) := aG h
      simp (disch := omega) only [bT, cz, bA, dH h, digit_eq, be]
      rw [hd]
      by_cases hbd : b ≤ dg s[i]
      · rw [bT (by omega)]; simp [num, hbd]
      · have hdb : dg s[i] < 16 := by rcases hb with rfl | rfl <;> omega
        have hbc : b * cap v ≤ 16 * cap v := Nat.mul_le_mul_right _ (by rcases hb with rfl | rfl <;> omega)
        have e1 : (b : Int) * (cap v : Int) = ((b * cap v : Nat) : Int) := by simp
        have e2 : ((b * cap v : Nat) : Int) + (dg s[i] : Int) = ((b * cap v + dg s[i] : Nat) : Int) := by simp
        have e3 : cap (b * v + dg s[i]) = if 1114111 < b * cap v + dg s[i] then 1114112 else b * cap v + dg s[i] := by
          unfold cap
          rcases hb with rfl | rfl <;> (split <;> split <;> (try split) <;> omega)
        rw [bF (by omega), e1, e2, bP (by omega), bP (by omega)]
        simp only [num, hbd, if_false]
        have := ih (i + 1) (b * v + dg s[i]) (by omega) (by omega)
        rw [e3] at this
        by_cases hc : 1114111 < b * cap v + dg s[i]
        · rw [bT (by omega), bP (by omega), bR]
          rw [if_pos hc] at this
          exact this
        · rw [bF (by omega), bP (by omega), bR]
          rw [if_neg hc] at this
          exact this
    · have hi2 : s.length ≤ i := by omega
      rw [bF (by omega), aR hi2]
      simp only [num]
      by_cases h0 : s.length = 0
      · rw [bT (by omega), if_pos h0]
      · rw [bF (by omega), if_neg h0]
theorem vR (F : Nat) (s : Bs) (b : Nat) (hb : b = 10 ∨ b = 16) (hs : s.length ≤ 100000) (hF : s.length < F) :
    eV F s (b : Int) = match num b 0 s with | none => some (-1) | some w => some (if s.length = 0 then -1 else (cap w : Int)) := by
  have := tw F s b hb hs F 0 0 (by omega) (by omega)
  have hc : cap 0 = 0 := rfl
  rw [hc, List.drop_zero] at this
  exact this
theorem th {s : Bs} {b v : Nat} (hb : b = 10 ∨ b = 16) {c : UInt8} (hc : dg c = 99) (h : c ∈ s) : num b v s = none := by
  induction s generalizing v with
  | nil => cases h
  | cons d r ih =>
    simp only [num]
    rcases List.mem_cons.1 h with rfl | h
    · rw [if_pos (by rcases hb with rfl | rfl <;> omega)]
    · split
      · rfl
      · exact ih h
end Go.Pn
namespace Go.Pn
open Go.Pv Go.Av
theorem lf (F : Nat) : eC F (-1) = some ([], false) := by rw [← pE, nL, if_neg (by omega)]
theorem rune_cap (F w : Nat) : eC F (cap w : Int) = eC F (w : Int) := by
  unfold cap
  split
  · rw [← pE, ← pE, nL, nL, if_neg (by omega), if_neg (by omega)]
  · rfl
theorem rc (F : Nat) (s : Bs) (hs : s.length ≤ 100000) : gG F s [95] = some (decide (0 ≤ Go.Lib.indexByte s 95)) := by
  unfold gG kV lJ iA iH
  have e : ((decide (8 < s.length)) && (decide (2 ≤ ([95] : Bs).length))) = false := by simp
  have e2 : at_ ([95] : Bs) 0 = 95 := rfl
  have e3 : iY [95] = true := by decide
  have e4 : ((95 : UInt8).toNat : Int) = 95 := rfl
  have e5 : toB 95 = 95 := rfl
  rw [e, cond_false]
  simp (disch := (first | omega | (simp; done) | (simp; omega))) only [e3, mH, mI, bF, bT, cz, bA, e2, e4, grd_J]
  rfl
theorem lZ (F : Nat) (s : Bs) (b : Nat) (hb : b = 10 ∨ b = 16) (hs : s.length ≤ 10) (hF : 20 < F) : ∃ v, eV F s (b : Int) = some v ∧ dV F s (b : Int) = eC F v := by
  rw [vR F s b hb (by omega) (by omega)]
  unfold dV
  cases s with
  | nil =>
    refine ⟨-1, rfl, ?_⟩
    rw [lf]
    simp [fv, bA, kX]
  | cons c r =>
    have h0 : decide ((c :: r) = []) = false := decide_eq_false (by simp)
    have ha : at_ (c :: r) 0 = c := rfl
    have hg : ∀ (q : Bool) (k : Option (Bs × Bool)), ff q (cR 0 (c :: r).length) k = k := fun q k => pG (fun _ => by simp)
    have hlen : ¬ (c :: r).length = 0 := by simp
    rw [rc F (c :: r) (by omega)]
    simp only [hg, h0, bA, ha, ju, Bool.false_or]
    by_cases h1 : c = 43
    · rw [th hb (c := 43) (by decide) (by simp [h1])]
      refine ⟨-1, rfl, ?_⟩
      rw [lf]; simp [h1]
    · by_cases h2 : c = 45
      · rw [th hb (c := 45) (by decide) (by simp [h2])]
        refine ⟨-1, rfl, ?_⟩
        rw [lf]; simp [h2]
      · by_cases h3 : c = 95
        · rw [th hb (c := 95) (by decide) (by simp [h3])]
          refine ⟨-1, rfl, ?_⟩
          rw [lf]; simp [h3]
        · simp only [h1, h2, h3, decide_false, Bool.or_self, Bool.false_or, Bool.not_false, cond_true]
          by_cases h4 : 0 ≤ Go.Lib.indexByte (c :: r) 95
          · rw [bT h4]
            have hmem : (95 : UInt8) ∈ c :: r := by
              by_cases hm : (95 : UInt8) ∈ c :: r
              · exact hm
              · have := nx (c := 95) (s := c :: r) (fun x hx e => hm (e ▸ hx))
                omega
            rw [th hb (c := 95) (by decide) hmem]
            exact ⟨-1, rfl, (lf F).symm⟩
          · rw [bF h4, int_eq F (c :: r) b hb (by simp) hs hF (by rw [ha]; exact h1) (by rw [ha]; exact h2)]
            cases hn : num b 0 (c :: r) with
            | none => exact ⟨-1, rfl, by rw [lf]; rfl⟩
            | some w =>
              refine ⟨(cap w : Int), by simp only [hlen, if_false], ?_⟩
              rw [rune_cap, ← pE]
              simp only [bi]
              simp only [decide_true, Bool.not_true, cond_false]
              cases he : jg F (w : Int) with
              | none => rfl
              | some p => rfl
theorem vN (F : Nat) (b : Bs) (hb : b.length ≤ 10) (hF : 20 < F) : iu F b = gH F b := by
  have fallback : mhas [(([97, 109, 112] : List UInt8), (38 : Int)), (([108, 116] : List UInt8), 60), (([103, 116] : List UInt8), 62), (([113, 117, 111, 116] : List UInt8), 34), (([97, 112, 111, 115] : List UInt8), 39)] b = false →
      ¬ b = [97, 109, 112] → ¬ b = [108, 116] → ¬ b = [103, 116] → ¬ b = [113, 117, 111, 116] → ¬ b = [97, 112, 111, 115] → iu F b = gH F b := by
    intro hm n1 n2 n3 n4 n5
    unfold iu kd gH ga
    simp only [be, bA, hm, cond_false, bF n1, bF n2, bF n3, bF n4, bF n5]
    cases b with
    | nil => simp [Go.Lib.hasPrefix, fv]
    | cons c r =>
      cases r with
      | nil =>
        obtain ⟨v, _, hv⟩ := lZ F [] 10 (.inl rfl) (by simp) hF
        have e0 : dV F [] 10 = some ([], false) := by unfold dV; simp [fv, bA, kX]
        by_cases h : c = 35
        · subst h
          have e1 : Go.Lib.hasPrefix [35] [35, 120] = false := by decide
          have e2 : Go.Lib.hasPrefix [35] [35] = true := by decide
          have e3 : Go.Lib.trimPrefix [35] [35] = [] := by decide
          rw [e1, e2, e3, cond_false, cond_true, e0]
          simp [bi, fv]
        · have e1 : Go.Lib.hasPrefix [c] [35, 120] = false := by simp [Go.Lib.hasPrefix, List.isPrefixOf]
          have e2 : Go.Lib.hasPrefix [c] [35] = false := by simp [Go.Lib.hasPrefix, List.isPrefixOf, Ne.symm h]
          rw [e1, e2, cond_false, cond_false]
          simp [fv]
      | cons d r =>
        have ha : at_ (c :: d :: r) 0 = c := rfl
        have hb1 : at_ (c :: d :: r) 1 = d := rfl
        have hl : decide (((c :: d :: r).length : Int) < 2) = false := decide_eq_false (by simp only [List.length_cons]; omega)
        have f1 : gk (c :: d :: r) 1 = d :: r := rfl
        have f2 : gk (c :: d :: r) 2 = r := rfl
        have hg : ∀ (q : Bool) (k : Option (Bs × Bool)), ff q (cR 0 (c :: d :: r).length) k = k := fun q k => pG (fun _ => by simp only [List.length_cons]; omega)
        simp only [hg, hl, ha, hb1, f1, f2, Bool.false_or]
        by_cases h : c = 35
        · subst h
          rw [show (!decide ((35 : UInt8) = 35)) = false by rfl, cond_false]
          obtain ⟨v, hv1, hv2⟩ := lZ F (d :: r) 10 (.inl rfl) (by simp at hb ⊢; omega) hF
          have hv1' : eV F (d :: r) 10 = some v := hv1
          have hv2' : dV F (d :: r) 10 = eC F v := hv2
          simp (disch := (first | omega | (simp; done) | (simp; omega))) only [iX, cz, hv1', be]
          by_cases hx : d = 120
          · subst hx
            obtain ⟨u, hu1, hu2⟩ := lZ F r 16 (.inr rfl) (by simp at hb ⊢; omega) hF
            have hu1' : eV F r 16 = some u := hu1
            have hu2' : dV F r 16 = eC F u := hu2
            have e1 : Go.Lib.hasPrefix (35 :: 120 :: r) [35, 120] = true := by simp [Go.Lib.hasPrefix, List.isPrefixOf]
            have e3 : Go.Lib.trimPrefix (35 :: 120 :: r) [35, 120] = r := by simp [Go.Lib.trimPrefix, Go.Lib.hasPrefix, List.isPrefixOf]
            rw [e1, e3, cond_true, bT rfl, hu1', be, hu2']
          · have e1 : Go.Lib.hasPrefix (35 :: d :: r) [35, 120] = false := by simp [Go.Lib.hasPrefix, List.isPrefixOf, Ne.symm hx]
            have e2 : Go.Lib.hasPrefix (35 :: d :: r) [35] = true := by simp [Go.Lib.hasPrefix, List.isPrefixOf]
            have e3 : Go.Lib.trimPrefix (35 :: d :: r) [35] = d :: r := by simp [Go.Lib.trimPrefix, Go.Lib.hasPrefix, List.isPrefixOf]
            rw [e1, e2, e3, cond_false, cond_true, bF hx, hv2']
        · have e1 : Go.Lib.hasPrefix (c :: d :: r) [35, 120] = false := by simp [Go.Lib.hasPrefix, List.isPrefixOf, Ne.symm h]
          have e2 : Go.Lib.hasPrefix (c :: d :: r) [35] = false := by simp [Go.Lib.hasPrefix, List.isPrefixOf, Ne.symm h]
          rw [e1, e2, cond_false, cond_false, decide_eq_false h]; rfl
  have named : ∀ (n : Bs) (k : Int) (x : Bs), (mhas [(([97, 109, 112] : List UInt8), (38 : Int)), (([108, 116] : List UInt8), 60), (([103, 116] : List UInt8), 62), (([113, 117, 111, 116] : List UInt8), 34), (([97, 112, 111, 115] : List UInt8), 39)] n = true) →
      cI (mget [(([97, 109, 112] : List UInt8), (38 : Int)), (([108, 116] : List UInt8), 60), (([103, 116] : List UInt8), 62), (([113, 117, 111, 116] : List UInt8), 34), (([97, 112, 111, 115] : List UInt8), 39)] n) = x → iu F n = some (x, true) := by
    intro n k x h1 h2
    unfold iu kd
    simp only [be, bA, h1, h2, cond_true]
  by_cases n1 : b = [97, 109, 112]
  · subst n1; rw [named _ 38 [38] (by decide +kernel) (by decide +kernel)]; rfl
  by_cases n2 : b = [108, 116]
  · subst n2; rw [named _ 60 [60] (by decide +kernel) (by decide +kernel)]; rfl
  by_cases n3 : b = [103, 116]
  · subst n3; rw [named _ 62 [62] (by decide +kernel) (by decide +kernel)]; rfl
  by_cases n4 : b = [113, 117, 111, 116]
  · subst n4; rw [named _ 34 [34] (by decide +kernel) (by decide +kernel)]; rfl
  by_cases n5 : b = [97, 112, 111, 115]
  · subst n5; rw [named _ 39 [39] (by decide +kernel) (by decide +kernel)]; rfl
  refine fallback ?_ n1 n2 n3 n4 n5
  simp [mhas, List.lookup, beq_false_of_ne n1, beq_false_of_ne n2, beq_false_of_ne n3, beq_false_of_ne n4, beq_false_of_ne n5]
end Go.Pn
namespace Go.Pn
open Go.Pv Go.Av
theorem getD_at (s : Bs) (k : Nat) (h : k < s.length) : (⟨s.toArray⟩ : ByteArray).get! k = s[k] := by
  show (s.toArray)[k]! = _
  simp [h]
theorem wR (s : Bs) (p m : Nat) (hm : 0 < m) (hk : m < (lK s p).2) : ∃ h : p + m < s.length, 128 ≤ (s[p + m]).toNat := by
  have key : ∀ k, (decide (p + k < (⟨s.toArray⟩ : ByteArray).size) && ((⟨s.toArray⟩ : ByteArray).get! (p + k)).toNat / 64 == 2) = true → ∃ h : p + k < s.length, 128 ≤ (s[p + k]).toNat := by
    intro k hk
    simp only [Bool.and_eq_true, decide_eq_true_eq, beq_iff_eq] at hk
    obtain ⟨h1, h2⟩ := hk
    have h1' : p + k < s.length := h1
    rw [getD_at s (p + k) h1'] at h2
    exact ⟨h1', by omega⟩
  unfold lK Utf8.decode at hk
  simp only at hk
  split at hk
  · simp at hk; omega
  · split at hk
    · rename_i h2
      simp only [Bool.and_eq_true] at h2
      split at hk
      · have : m = 1 := by simp at hk; omega
        subst this;exact key 1 (by simpa using h2.2)
      · simp at hk; omega
    · split at hk
      · rename_i h2
        simp only [Bool.and_eq_true] at h2
        split at hk
        · have : m = 1 ∨ m = 2 := by simp at hk; omega
          rcases this with rfl | rfl
          · exact key 1 (by simpa using h2.1.2)
          · exact key 2 (by simpa using h2.2)
        · simp at hk; omega
      · split at hk
        · rename_i h2
          simp only [Bool.and_eq_true] at h2
          split at hk
          · have : m = 1 ∨ m = 2 ∨ m = 3 := by simp at hk; omega
            rcases this with rfl | rfl | rfl
            · exact key 1 (by simpa using h2.1.1.2)
            · exact key 2 (by simpa using h2.1.2)
            · exact key 3 (by simpa using h2.2)
          · simp at hk; omega
        · simp at hk; omega
theorem decR_low (s : Bs) (p : Nat) (h : p < s.length) (hb : (s[p]).toNat < 128) : lK s p = ((s[p]).toNat, 1) := decode_ascii (⟨s.toArray⟩ : ByteArray) p h hb
theorem wS (s : Bs) (p : Nat) (h : p < s.length) (hb : 128 ≤ (s[p]).toNat) : 128 ≤ (lK s p).1 := (decode_high (⟨s.toArray⟩ : ByteArray) p h hb).1
theorem uF (F : Nat) (hF : 5 ≤ F) (r : Int) (hr : 128 ≤ r) : iH F [38, 59] r = some (-1) := by
  obtain ⟨k1, k2⟩ := oL r hr
  have k3 := kA r
  unfold iH
  have hf : ((decide (0 ≤ r)) && (decide (r < 128))) = false := by rw [decide_eq_false (by omega : ¬ r < 128), Bool.and_false]
  rw [hf, cond_false]
  by_cases h2 : r = 65533
  · rw [bT h2]
    obtain ⟨m, rfl⟩ : ∃ m, F = m + 3 := ⟨F - 3, by omega⟩
    have e0 : lK [38, 59] 0 = (38, 1) := by decide +kernel
    have e1 : lK [38, 59] 1 = (59, 1) := by decide +kernel
    show eD [38, 59] (iy [38, 59] (m + 2)) 0 = _
    unfold eD
    simp only [e0]
    show eD [38, 59] (iy [38, 59] (m + 1)) 1 = _
    unfold eD
    simp only [e1]
    rfl
  · rw [bF h2]
    have hv : ∃ b, jv F r = some b := by
      unfold jv
      cases (decide (0 ≤ r)) && (decide (r < 55296)) with
      | true => exact ⟨true, rfl⟩
      | false =>
        rw [cond_false]
        cases (decide (57343 < r)) && (decide (r ≤ 1114111)) with
        | true => exact ⟨true, rfl⟩
        | false => exact ⟨false, rfl⟩
    obtain ⟨b, hb⟩ := hv
    rw [hb, be]
    cases b with
    | false => rfl
    | true =>
      obtain ⟨m, rfl⟩ : ∃ m, F = m + 1 := ⟨F - 1, by omega⟩
      simp (disch := omega) only [Bool.not_true, cond_false, bA, bP]
      show iz [38, 59] (cI r) (ko [38, 59] (cI r) m) = _
      unfold iz jo
      by_cases h3 : (cI r).length = 2
      · have e1 : ((cI r).length : Int) - 1 = 1 := by omega
        have e2 : at_ ([38, 59] : Bs) 1 = 59 := rfl
        have e3 : gk ([38, 59] : Bs) (1 + 1) = [] := rfl
        rw [e1]
        simp (disch := (first | omega | (simp; done) | (simp; omega))) only [bT, cz, bA, e2, decide_eq_false (k2 h3), Bool.not_false, mH, bP, iX, e3]
        rfl
      · have : ¬ ((cI r).length : Int) - 1 < (([38, 59] : Bs).length : Int) := by simp; omega
        rw [bF this]
def nxt (s : Bs) (y : Nat) : Int := if Go.Lib.indexAny (s.drop y) [38, 59] = -1 then -1 else (y : Int) + Go.Lib.indexAny (s.drop y) [38, 59]
theorem tZ (s : Bs) (y : Nat) (h : y < s.length) (hc : ([38, 59] : Bs).contains s[y] = false) : nxt s (y + 1) = nxt s y := by
  unfold nxt
  rw [aG h]
  simp only [Go.Lib.indexAny, hc]
  have := (jn (s.drop (y + 1)) [38, 59]).1
  by_cases e : Go.Lib.indexAny (s.drop (y + 1)) [38, 59] = -1
  · simp [e]
  · have e2 : (Go.Lib.indexAny (s.drop (y + 1)) [38, 59] == -1) = false := by simpa using e
    have e3 : ¬ Go.Lib.indexAny (s.drop (y + 1)) [38, 59] + 1 = -1 := by omega
    simp [e, e2, e3]; omega
theorem nxt_hi (s : Bs) (y : Nat) (h : y < s.length) (hb : 128 ≤ (s[y]).toNat) : nxt s (y + 1) = nxt s y := by
  refine tZ s y h ?_
  have h1 : s[y] ≠ 38 := by intro e; rw [e] at hb; revert hb; decide
  have h2 : s[y] ≠ 59 := by intro e; rw [e] at hb; revert hb; decide
  simp [h1, h2]
theorem nxt_skip (s : Bs) (y : Nat) : ∀ k, (∀ m, m < k → ∃ h : y + m < s.length, 128 ≤ (s[y + m]).toNat) → nxt s (y + k) = nxt s y := by
  intro k
  induction k with
  | zero => intro _; rfl
  | succ k ih =>
    intro h;obtain ⟨h1, h2⟩ := h k (by omega)
    rw [show y + (k + 1) = y + k + 1 by omega, nxt_hi s (y + k) h1 h2]
    exact ih (fun m hm => h m (by omega))
theorem uH (F : Nat) (hF : 5 ≤ F) (s : Bs) : ∀ (n y : Nat), s.length - y < n → iB F s [38, 59] n y = some (nxt s y) := by
  intro n
  induction n with
  | zero => intro y h; omega
  | succ n ih =>
    intro y hy;show iC F s [38, 59] (iB F s [38, 59] n) y = _
    unfold iC jq
    by_cases h : y < s.length
    · rw [bT h]
      by_cases hb : (s[y]).toNat < 128
      · rw [decR_low s y h hb]
        have hi : iH F [38, 59] ((s[y]).toNat : Int) = some (Go.Lib.indexByte [38, 59] s[y]) := by
          unfold iH
          have e : ((decide ((0 : Int) ≤ ((s[y]).toNat : Int))) && (decide (((s[y]).toNat : Int) < 128))) = true := by
            rw [decide_eq_true (by omega : (0 : Int) ≤ ((s[y]).toNat : Int)), decide_eq_true (by omega : ((s[y]).toNat : Int) < 128)]; rfl
          rw [e, cond_true, bA, nN _ (s[y]).toNat rfl, UInt8.ofNat_toNat]
        simp only [hi, be]
        by_cases hc : ([38, 59] : Bs).contains s[y] = true
        · have h0 : 0 ≤ Go.Lib.indexByte [38, 59] s[y] := by
            have : s[y] = 38 ∨ s[y] = 59 := by simpa using hc
            rcases this with e | e <;> rw [e] <;> decide
          rw [bT h0]
          unfold nxt
          rw [aG h]
          simp only [Go.Lib.indexAny, hc, if_true]
          simp
        · have hc' : ([38, 59] : Bs).contains s[y] = false := by simpa using hc
          have h0 : ¬ 0 ≤ Go.Lib.indexByte [38, 59] s[y] := by
            have hne : ¬ s[y] = 38 ∧ ¬ s[y] = 59 := by simpa using hc'
            have := nx (c := s[y]) (s := [38, 59]) (fun b hb e => by
              simp at hb
              rcases hb with rfl | rfl
              · exact hne.1 e.symm
              · exact hne.2 e.symm)
            omega
          rw [bF h0, ih (y + 1) (by omega), tZ s y h hc']
      · have hh := wS s y h (by omega)
        have hp := ui s y
        rw [uF F hF _ (by omega), be, bF (by omega), ih _ (by omega)]
        rw [nxt_skip s y (lK s y).2 (fun m hm => by
          cases m with
          | zero => exact ⟨h, by simpa using hb⟩
          | succ m => exact wR s y (m + 1) (by omega) hm)]
    · rw [bF h]
      unfold nxt
      rw [aR (by omega)]
      rfl
theorem vU (F : Nat) (s : Bs) (hF : 20 ≤ F) : kV F s [38, 59] = some (Go.Lib.indexAny s [38, 59]) := by
  unfold kV
  by_cases h : 8 < s.length
  · simp [h]
  · have e : ((decide (8 < s.length)) && (decide (2 ≤ ([38, 59] : Bs).length))) = false := by simp [h]
    rw [e, cond_false]
    unfold lJ qC jp
    have e3 : decide ((8 : Int) < (s.length : Int)) = false := decide_eq_false (by omega)
    simp (disch := (first | omega | (simp; done) | (simp; omega))) only [bF, be, e3, Bool.not_false, mH]
    rw [uH F (by omega) s F 0 (by omega)]
    unfold nxt
    rw [List.drop_zero]
    split
    · rename_i e; rw [e]
    · simp
end Go.Pn
namespace Go.Pn
open Go.Pv Go.Av
abbrev amp : Bs := [38, 59]
theorem any_cons (c : UInt8) (r : Bs) : Go.Lib.indexAny (c :: r) amp = if c = 38 ∨ c = 59 then 0 else if Go.Lib.indexAny r amp = -1 then -1 else Go.Lib.indexAny r amp + 1 := by
  simp [Go.Lib.indexAny]
theorem any_at (r : Bs) : ∀ (k : Nat) (h : k < r.length), (∀ b ∈ r.take k, ¬ (b = 38 ∨ b = 59)) → (r[k] = 38 ∨ r[k] = 59) → Go.Lib.indexAny r amp = (k : Int) := by
  induction r with
  | nil => intro k h; simp at h
  | cons c r ih =>
    intro k h hb hk
    rw [any_cons]
    cases k with
    | zero => rw [if_pos (by simpa using hk)]; rfl
    | succ k =>
      rw [if_neg (hb c (by simp)), ih k (by simpa using h) (fun b hb' => hb b (by simp [hb'])) (by simpa using hk), if_neg (by omega)]
      rfl
theorem any_ge (r : Bs) : ∀ (k : Nat), (∀ b ∈ r.take k, ¬ (b = 38 ∨ b = 59)) → Go.Lib.indexAny r amp = -1 ∨ (k : Int) ≤ Go.Lib.indexAny r amp := by
  induction r with
  | nil => intro k _; exact .inl rfl
  | cons c r ih =>
    intro k hb
    rw [any_cons]
    cases k with
    | zero =>
      have := (jn (c :: r) amp).1
      rw [any_cons] at this
      omega
    | succ k =>
      rw [if_neg (hb c (by simp))]
      rcases ih k (fun b hb' => hb b (by simp [hb'])) with h | h
      · rw [if_pos h]; exact .inl rfl
      · split
        · exact .inl rfl
        · right; omega
theorem any_is (r : Bs) : ∀ (k : Nat) (h : k < r.length), Go.Lib.indexAny r amp = (k : Int) → r[k] = 38 ∨ r[k] = 59 := by
  induction r with
  | nil => intro k h; simp at h
  | cons c r ih =>
    intro k h hk
    rw [any_cons] at hk
    by_cases hc : c = 38 ∨ c = 59
    · rw [if_pos hc] at hk
      have : k = 0 := by omega
      subst this; simpa using hc
    · rw [if_neg hc] at hk
      split at hk
      · omega
      · cases k with
        | zero => have := (jn r amp).1; omega
        | succ k => simpa using ih k (by simpa using h) (by omega)
def ct (r : Bs) : Bs × Bool :=
  if 0 ≤ Go.Lib.indexAny r amp ∧ Go.Lib.indexAny r amp ≤ 10 ∧ r.getD (Go.Lib.indexAny r amp).toNat 0 = 59 then (r.take (Go.Lib.indexAny r amp).toNat, decide (0 < Go.Lib.indexAny r amp)) else ([], false)
theorem wU (s r : Bs) (i : Nat) (hr : s.drop (i + 1) = r) (hi : i < s.length) (hs : s.length ≤ 100000) : ∀ (n k : Nat), s.length - (i + 1 + k) < n → k ≤ 11 → k ≤ r.length → (∀ b ∈ r.take k, ¬ (b = 38 ∨ b = 59)) →
    ii s (i : Int) n ((i + 1 + k : Nat) : Int) = some (ct r) := by
  have hlr : r.length = s.length - (i + 1) := by rw [← hr]; simp
  intro n
  induction n with
  | zero => intro k h; omega
  | succ n ih =>
    intro k hn hk hkr hb;show ij s (i : Int) (ii s (i : Int) n) ((i + 1 + k : Nat) : Int) = _
    unfold ij ig
    have hg : ∀ (q : Bool) (k : Option (Bs × Bool)), ff q (okI ((i : Int) + 11)) k = k := fun q k => by
      cases q
      · rw [fv]
      · rw [jh, bP (by omega)]
    rw [hg]
    have hge := any_ge r k hb
    by_cases h : i + 1 + k < s.length ∧ k ≤ 10
    · have e : ((decide (((i + 1 + k : Nat) : Int) < (s.length : Int))) && (decide (((i + 1 + k : Nat) : Int) ≤ (i : Int) + 11))) = true := by
        rw [decide_eq_true (by omega : ((i + 1 + k : Nat) : Int) < (s.length : Int)), decide_eq_true (by omega : ((i + 1 + k : Nat) : Int) ≤ (i : Int) + 11)]; rfl
      have hkl : k < r.length := by omega
      have hsr : s[i + 1 + k] = r[k] := by subst hr; simp
      rw [e, cond_true]
      simp (disch := omega) only [cz, bA, dH h.1, hsr]
      by_cases h38 : r[k] = 38
      · rw [bT h38]
        have hj := any_at r k hkl hb (.inl h38)
        have hget : ¬ r.getD (k : Int).toNat 0 = 59 := by simp [hkl, h38]
        unfold ct
        rw [hj, if_neg (fun hh => hget hh.2.2)]
      · rw [bF h38]
        by_cases h59 : r[k] = 59
        · rw [bT h59]
          have hj := any_at r k hkl hb (.inr h59)
          have hget : r.getD (k : Int).toNat 0 = 59 := by simp [hkl, h59]
          have hsub : sub s ((i : Int) + 1) ((i + 1 + k : Nat) : Int) = r.take k := by
            rw [show (i : Int) + 1 = ((i + 1 : Nat) : Int) from rfl, nP, ← hr, List.drop_take]
            congr 1; omega
          have hdec : decide ((i : Int) + 1 < ((i + 1 + k : Nat) : Int)) = decide ((0 : Int) < (k : Int)) := by
            by_cases hk0 : 0 < k
            · rw [decide_eq_true (by omega), decide_eq_true (by omega)]
            · rw [decide_eq_false (by omega), decide_eq_false (by omega)]
          unfold ct
          simp (disch := omega) only [bP, iI, hsub, hdec]
          rw [hj, if_pos ⟨by omega, by omega, hget⟩]
          simp
        · rw [bF h59, bP (by omega)]
          have := ih (k + 1) (by omega) (by omega) (by omega) (by
            rw [List.take_succ_eq_append_getElem hkl]
            intro b hb'
            rcases List.mem_append.1 hb' with hb' | hb'
            · exact hb b hb'
            · have : b = r[k] := by simpa using hb'
              rw [this]; rintro (e | e)
              · exact h38 e
              · exact h59 e)
          rw [show ((i + 1 + k : Nat) : Int) + 1 = ((i + 1 + (k + 1) : Nat) : Int) by omega]
          exact this
    · have e : ((decide (((i + 1 + k : Nat) : Int) < (s.length : Int))) && (decide (((i + 1 + k : Nat) : Int) ≤ (i : Int) + 11))) = false := by
        by_cases h1 : i + 1 + k < s.length
        · rw [decide_eq_false (by omega : ¬ ((i + 1 + k : Nat) : Int) ≤ (i : Int) + 11), Bool.and_false]
        · rw [decide_eq_false (by omega : ¬ ((i + 1 + k : Nat) : Int) < (s.length : Int)), Bool.false_and]
      rw [e, cond_false]
      have hlt := (jn r amp).2
      unfold ct
      rw [if_neg (by omega)]
theorem body_eq (F : Nat) (s r : Bs) (i : Nat) (hr : s.drop (i + 1) = r) (hi : i < s.length) (hs : s.length ≤ 100000) (hF : s.length < F) : kn F s (i : Int) = some (ct r) := by
  unfold kn
  rw [bP (by omega)]
  have := wU s r i hr hi hs F 0 (by omega) (by omega) (by omega) (by simp)
  exact this
theorem body_len (r : Bs) : (ct r).1.length ≤ 10 := by
  unfold ct
  split
  · rename_i h; simp; omega
  · simp
theorem uf (F : Nat) (r : Bs) (hs : r.length ≤ 100000) (hF : 150000 < F) : ∃ x k, gH F (ct r).1 = some (x, k) ∧ js F (38 :: r) = some (if (ct r).2 = true ∧ k = true then (x, ((ct r).1.length : Int) + 2) else ([], 0)) := by
  have hbl := body_len r
  obtain ⟨x, k, hx, _⟩ := tN F (ct r).1 (by omega) (by omega);refine ⟨x, k, by rw [← vN F _ hbl (by omega)]; exact hx, ?_⟩;obtain ⟨hj1, hj2⟩ := jn r amp
  have h1 : gk (38 :: r) 1 = r := rfl
  have ha : iY [38, 59] = true := by decide
  have hl : ((38 :: r : Bs).length : Int) = (r.length : Int) + 1 := by simp
  unfold js kW
  simp (disch := (first | omega | (simp; done) | (simp; omega))) only [iX, bA, ha, mH, mI, h1, vU F r (by omega), be]
  by_cases h : 1 ≤ Go.Lib.indexAny r amp ∧ Go.Lib.indexAny r amp ≤ 10
  · obtain ⟨j, hj⟩ : ∃ j : Nat, Go.Lib.indexAny r amp = j := ⟨(Go.Lib.indexAny r amp).toNat, by omega⟩
    have hjl : j < r.length := by omega
    have hc := any_is r j hjl hj
    have hx' : ((decide (1 ≤ Go.Lib.indexAny r amp)) && (decide (Go.Lib.indexAny r amp ≤ 10))) = true := by simp [h]
    have hat : at_ (38 :: r) ((j : Int) + 1) = r[j] := by
      rw [show (j : Int) + 1 = ((j + 1 : Nat) : Int) from rfl, dH (by simp; omega)]; simp
    have hsub : sub (38 :: r) 1 ((j : Int) + 1) = r.take j := by
      rw [show (j : Int) + 1 = ((j + 1 : Nat) : Int) from rfl, show (1 : Int) = ((1 : Nat) : Int) from rfl, nP]; simp
    rw [hj] at hx' h ⊢
    simp (disch := (first | omega | (simp; done) | (simp; omega))) only [hx', Bool.not_true, Bool.not_false, jh, bP, cz, Bool.false_or, hat]
    have hget : r.getD (j : Int).toNat 0 = r[j] := by simp [hjl]
    rcases hc with hc | hc
    · have hb : ct r = ([], false) := by
        unfold ct
        rw [hj, hget, hc, if_neg (by simp)]
      rw [bT hc, hb]; simp
    · have hb : ct r = (r.take j, true) := by
        unfold ct
        rw [hj, hget, hc, if_pos ⟨by omega, by omega, rfl⟩, decide_eq_true (by omega)]
        simp
      rw [hb] at hx ⊢
      have hlt : ((r.take j).length : Int) = (j : Int) := by simp; omega
      rw [bF (by rw [hc]; decide)]
      simp (disch := (first | omega | (simp; done) | (simp; omega))) only [iI, bA, hsub, hx, bi]
      cases k with
      | false => simp
      | true =>
        simp (disch := (first | omega | (simp; done) | (simp; omega))) only [Bool.not_true, cond_false, bP]
        simp [hlt]; omega
  · have hx' : ((decide (1 ≤ Go.Lib.indexAny r amp)) && (decide (Go.Lib.indexAny r amp ≤ 10))) = false := by
      cases hq : (decide (1 ≤ Go.Lib.indexAny r amp)) && (decide (Go.Lib.indexAny r amp ≤ 10)) with
      | false => rfl
      | true => exact absurd (by simpa using hq) h
    simp only [hx', Bool.not_false, Bool.not_true, fv, Bool.true_or, cond_true]
    have hb : (ct r).2 = false := by
      unfold ct
      split
      · rename_i hh; simp; omega
      · rfl
    rw [hb]; simp
end Go.Pn
namespace Go.Pn
open Go.Pv Go.Av
def ent1 (F : Nat) (r : Bs) : Option (Bs × Nat) :=
  match gH F (ct r).1 with
  | some (x, true) => bif (ct r).2 then some (x, (ct r).1.length + 2) else none
  | _ => none
def G1 (F : Nat) : Nat → Bs → Bool → Bs → Bs × Bool
  | 0, _, ok, acc => (acc, ok)
  | _ + 1, [], ok, acc => (acc, ok)
  | m + 1, c :: r, ok, acc =>
    if c = 38 then
      match ent1 F r with
      | some (x, k) => G1 F m ((c :: r).drop k) ok (acc ++ x)
      | none => G1 F m r false (acc ++ [38])
    else G1 F m r ok (acc ++ [c])
theorem ent1_two {F : Nat} {r : Bs} {x : Bs} {k : Nat} (h : ent1 F r = some (x, k)) : 2 ≤ k := by
  unfold ent1 at h
  split at h
  · cases hb : (ct r).2 with
    | true => rw [hb] at h; simp at h; omega
    | false => rw [hb] at h; simp at h
  · cases h
theorem G1_fuel (F : Nat) : ∀ (m m' : Nat) (s : Bs) (ok : Bool) (acc : Bs), s.length < m → s.length < m' → G1 F m s ok acc = G1 F m' s ok acc := by
  intro m
  induction m with
  | zero => intro m' s ok acc h; omega
  | succ m ih =>
    intro m' s ok acc h h';obtain ⟨m'', rfl⟩ : ∃ m'', m' = m'' + 1 := ⟨m' - 1, by omega⟩
    cases s with
    | nil => rfl
    | cons c r =>
      simp only [List.length_cons] at h h'
      simp only [G1]
      by_cases hc : c = 38
      · rw [if_pos hc, if_pos hc]
        cases he : ent1 F r with
        | none => exact ih _ _ _ _ (by omega) (by omega)
        | some p =>
          have := ent1_two (x := p.1) (k := p.2) he
          exact ih _ _ _ _ (by simp; omega) (by simp; omega)
      · rw [if_neg hc, if_neg hc]
        exact ih _ _ _ _ (by omega) (by omega)
theorem vG (F : Nat) : ∀ (p t : Bs) (m : Nat) (ok : Bool) (acc : Bs), (∀ b ∈ p, b ≠ 38) → p.length + t.length < m → G1 F m (p ++ t) ok acc = G1 F m t ok (acc ++ p) := by
  intro p
  induction p with
  | nil => intro t m ok acc _ _; simp
  | cons c r ih =>
    intro t m ok acc hp hm;obtain ⟨m', rfl⟩ : ∃ m', m = m' + 1 := ⟨m - 1, by omega⟩
    simp only [List.length_cons] at hm
    simp only [List.cons_append, G1]
    rw [if_neg (hp c (by simp)), ih t m' ok _ (fun b hb => hp b (by simp [hb])) (by omega), G1_fuel F m' (m' + 1) t ok _ (by omega) (by omega)]
    simp
theorem pn (s : Bs) (i : Nat) (h : Go.Lib.indexByte s 38 = (i : Int)) : (∀ b ∈ s.take i, b ≠ 38) ∧ ∃ r, s.drop i = 38 :: r := by
  induction s generalizing i with
  | nil => simp [Go.Lib.indexByte] at h
  | cons c r ih =>
    unfold Go.Lib.indexByte at h
    by_cases hc : c = 38
    · subst hc
      have : i = 0 := by simp at h; omega
      subst this;exact ⟨by simp, r, rfl⟩
    · have hcb : (c == 38) = false := by simpa using hc
      rw [hcb] at h
      by_cases hn : Go.Lib.indexByte r 38 = -1
      · simp [hn] at h
      · have hnb : (Go.Lib.indexByte r 38 == -1) = false := by simpa using hn
        rw [hnb] at h
        have hr := ma r 38
        simp at h
        obtain ⟨j, rfl⟩ : ∃ j, i = j + 1 := ⟨i - 1, by omega⟩;obtain ⟨h1, t, h2⟩ := ih j (by omega);refine ⟨fun b hb => ?_, t, by simpa using h2⟩
        simp only [List.take_succ_cons, List.mem_cons] at hb
        rcases hb with rfl | hb
        · exact hc
        · exact h1 b hb
theorem qZ (s : Bs) (h : Go.Lib.indexByte s 38 < 0) : ∀ b ∈ s, b ≠ 38 := by
  induction s with
  | nil => simp
  | cons c r ih =>
    have hr := ma r 38
    unfold Go.Lib.indexByte at h
    split at h
    · omega
    · rename_i hc
      have hc' : c ≠ 38 := by simpa using hc
      split at h
      · rename_i hn
        have hn' : Go.Lib.indexByte r 38 = -1 := by simpa using hn
        intro b hb
        rcases List.mem_cons.1 hb with rfl | hb
        · exact hc'
        · exact ih (by omega) b hb
      · rename_i hn
        have hn' : ¬ Go.Lib.indexByte r 38 = -1 := by simpa using hn
        omega
theorem oX (F : Nat) (hF : 200000 < F) : ∀ (n : Nat) (s : Bs) (ok : Bool) (acc : Bs) (m : Nat), s.length < n → s.length < m → s.length ≤ 100000 → acc.length + 4 * s.length ≤ 1000000 → gC F n (s, ok, acc) = some (G1 F m s ok acc) := by
  intro n
  induction n with
  | zero => intro s ok acc m h; omega
  | succ n ih =>
    intro s ok acc m hn hm hs ha;show jJ F (gC F n) s ok acc = _
    unfold jJ iO
    obtain ⟨hi1, hi2⟩ := ma s 38
    by_cases h : Go.Lib.indexByte s 38 < 0
    · simp (disch := (first | omega | (simp; done) | (simp; omega))) only [bA, bT, grd_W]
      have := vG F s [] m ok acc (qZ s h) (by simpa using hm)
      rw [List.append_nil] at this
      rw [this]
      obtain ⟨m', rfl⟩ : ∃ m', m = m' + 1 := ⟨m - 1, by omega⟩
      rfl
    · obtain ⟨i, hi⟩ : ∃ i : Nat, Go.Lib.indexByte s 38 = i := ⟨(Go.Lib.indexByte s 38).toNat, by omega⟩
      obtain ⟨hp, r, hr⟩ := pn s i hi
      have il : i < s.length := by omega
      have l1 : (to_ s (i : Int)).length = i := by simp [pd]; omega
      have e2 : gk s (i : Int) = 38 :: r := by rw [nJ, hr]
      have hsp : s = s.take i ++ 38 :: r := by rw [← hr, List.take_append_drop]
      have lr : r.length = s.length - i - 1 := by
        have := congrArg List.length hr
        simp at this; omega
      have e1 : to_ s (i : Int) = s.take i := pd
      obtain ⟨x, k, hx, hf⟩ := uf F r (by omega) (by omega);obtain ⟨o, kk, ho, hk⟩ := rE F (38 :: r) (by simp) (by simp; omega) (by simp; omega)
      rw [hf] at ho
      have hG : G1 F m s ok acc = G1 F m (38 :: r) ok (acc ++ s.take i) := by
        have := vG F (s.take i) (38 :: r) m ok acc hp (by simp; omega)
        rw [← hsp] at this; exact this
      obtain ⟨m', rfl⟩ : ∃ m', m = m' + 1 := ⟨m - 1, by omega⟩
      have ltk : (s.take i).length = i := by simp; omega
      rw [hG]
      simp (disch := (first | omega | (simp; done) | (simp; omega))) only [bA, hi, bF, iX, grd_W, e2, hf]
      simp only [G1, if_true, ent1, hx]
      by_cases hb : (ct r).2 = true ∧ k = true
      · rw [if_pos hb] at ho ⊢
        obtain ⟨hb1, rfl⟩ := hb
        have ho' := ap ho
        have hk1 : ((ct r).1.length : Int) + 2 = kk := (Prod.mk.inj ho').2
        have ho1 : x = o := (Prod.mk.inj ho').1
        subst ho1
        rcases hk with rfl | ⟨k3, kl, ol⟩
        · omega
        · simp only [List.length_cons] at kl
          have ef : gk (38 :: r) (((ct r).1.length : Int) + 2) = (38 :: r).drop ((ct r).1.length + 2) := by
            rw [show ((ct r).1.length : Int) + 2 = (((ct r).1.length + 2 : Nat) : Int) from rfl, nJ]
          simp only [hb1, cond_true, bi, ef]
          simp (disch := (first | omega | (simp; done) | (simp; omega))) only [bF, grd_W, bA, iX, e1]
          rw [ih _ ok _ m' (by simp; omega) (by simp; omega) (by simp; omega) (by simp; omega)]
      · rw [if_neg hb]
        have e0 : gk (38 :: r) 1 = r := rfl
        have hm1 : (match (some (x, k) : Option (Bs × Bool)) with | some (x, true) => bif (ct r).2 then some (x, (ct r).1.length + 2) else none | _ => none) = none := by
          cases k with
          | false => rfl
          | true =>
            have : (ct r).2 = false := by
              cases hq : (ct r).2 with
              | false => rfl
              | true => exact absurd ⟨hq, rfl⟩ hb
            rw [this]; rfl
        simp only [bi]
        simp (disch := (first | omega | (simp; done) | (simp; omega))) only [decide_true, cond_true, grd_W, bA, iX, e0, e1]
        rw [ih r false _ m' (by omega) (by omega) (by omega) (by simp; omega)]
        have hm2 : ent1 F r = none := by unfold ent1; rw [hx]; exact hm1
        unfold ent1 at hm2; rw [hx] at hm2
        cases k with
        | false => rfl
        | true => 
          cases hq : (ct r).2 with
          | false => rfl
          | true => exact absurd ⟨hq, rfl⟩ hb
theorem tx (F : Nat) (hF : 200000 < F) (s : Bs) (hs : s.length ≤ 100000) : ∀ (n i m : Nat) (ok : Bool) (acc : Bs), s.length - i < n → s.length - i < m → i ≤ s.length → acc.length ≤ 4 * i → fc F s n (acc, ok, (i : Int)) = some (G1 F m (s.drop i) ok acc) := by
  intro n
  induction n with
  | zero => intro i m ok acc h; omega
  | succ n ih =>
    intro i m ok acc hn hm hi ha;obtain ⟨m', rfl⟩ : ∃ m', m = m' + 1 := ⟨m - 1, by omega⟩;show ie F s (fc F s n) acc ok (i : Int) = _
    unfold ie gb ic
    by_cases h : i < s.length
    · have hd : s.drop i = s[i] :: s.drop (i + 1) := aG h
      have lr : (s.drop (i + 1)).length = s.length - (i + 1) := by simp
      simp (disch := (first | omega | (simp; done) | (simp; omega))) only [bT, cz, bA, dH h, dI, bP, bR]
      rw [hd]
      simp only [G1]
      by_cases hc : s[i] = 38
      · rw [bT hc, if_pos hc, body_eq F s _ i rfl h hs (by omega), bnd2_some' (ct (s.drop (i + 1)))]
        obtain ⟨x, k, hx, hf⟩ := uf F (s.drop (i + 1)) (by omega) (by omega);obtain ⟨o, kk, ho, hk⟩ := rE F (38 :: s.drop (i + 1)) (by simp) (by simp; omega) (by simp; omega)
        rw [hf] at ho
        rw [hx, bi]
        simp only [ent1, hx]
        by_cases hb : (ct (s.drop (i + 1))).2 = true ∧ k = true
        · rw [if_pos hb] at ho
          obtain ⟨hb1, rfl⟩ := hb
          have ho' := ap ho
          have hk1 : ((ct (s.drop (i + 1))).1.length : Int) + 2 = kk := (Prod.mk.inj ho').2
          have ho1 : x = o := (Prod.mk.inj ho').1
          subst ho1
          rcases hk with rfl | ⟨k3, kl, ol⟩
          · omega
          · simp only [List.length_cons] at kl
            simp only [hb1, Bool.and_self, cond_true]
            rw [dI (by omega), bP (by omega), bP (by omega)]
            have e1 : (i : Int) + ((ct (s.drop (i + 1))).1.length : Int) + 2 = ((i + ((ct (s.drop (i + 1))).1.length + 2) : Nat) : Int) := by omega
            rw [e1, ih _ m' ok _ (by omega) (by omega) (by omega) (by simp; omega)]
            rw [← hd, List.drop_drop]
        · have hbf : ((ct (s.drop (i + 1))).2 && k) = false := by
            cases hq : (ct (s.drop (i + 1))).2 <;> cases k <;> first | rfl | exact absurd ⟨hq, rfl⟩ hb
          rw [hbf, cond_false, ih (i + 1) m' false _ (by omega) (by omega) (by omega) (by simp; omega), hc]
          cases k with
          | false => rfl
          | true =>
            cases hq : (ct (s.drop (i + 1))).2 with
            | false => rfl
            | true => exact absurd ⟨hq, rfl⟩ hb
      · rw [bF hc, if_neg hc]
        exact ih (i + 1) m' ok _ (by omega) (by omega) (by omega) (by simp; omega)
    · rw [bF (by omega), aR (by omega)]
      rfl
where
  bnd2_some' {ρ : Type} (p : Bs × Bool) {f : Bs → Bool → Option ρ} : gW (some p) f = f p.1 p.2 := rfl
theorem gone_same (F : Nat) (hF : 200000 < F) (s : Bs) (hs : s.length ≤ 100000) : km F s = lh F s := by
  have h1 := oX F hF F s true [] (s.length + 1) (by omega) (by omega) hs (by simp; omega)
  have h2 := tx F hF s hs F 0 (s.length + 1) true [] (by omega) (by omega) (by omega) (by simp)
  unfold km lh
  rw [h1]
  exact h2
end Go.Pn
namespace Go.Pn
open Go.Pv Go.Av
theorem goneG (F : Nat) (hF : 200000 < F) (s : Bs) (hs : s.length ≤ 100000) : lh F s = some (G1 F (s.length + 1) s true []) := oX F hF F s true [] (s.length + 1) (by omega) (by omega) hs (by simp; omega)
theorem decG (F : Nat) (hF : 200000 < F) (s : Bs) (hs : s.length ≤ 100000) : kq F s = some (bif (G1 F (s.length + 1) s true []).2 then ((G1 F (s.length + 1) s true []).1, 0) else ([], 2)) := by
  unfold kq; rw [goneG F hF s hs]
  obtain ⟨o, k⟩ := G1 F (s.length + 1) s true []
  rw [bi]
  cases k <;> rfl
end Go.Pn
namespace Go.Xm
open Go.Pv Go.Av
theorem fE {α : Type} {a b : α} : (bif true then a else b) = a := Eq.symm (Eq.symm rfl)
theorem cK {α : Type} {a b : α} : (bif false then a else b) = b := Eq.symm (Eq.symm rfl)
theorem bnT {α : Type} {a b : α} : (bif !true then a else b) = b := Eq.symm (Eq.symm rfl)
theorem bnF {α : Type} {a b : α} : (bif !false then a else b) = a := Eq.symm (Eq.symm rfl)
theorem qF : (!true) = false := Eq.symm (Eq.symm rfl)
theorem qG : (!false) = true := Eq.symm (Eq.symm rfl)
theorem ands {a b : Bool} (h : (a && b) = true) : a = true ∧ b = true := by cases a <;> cases b <;> first | exact ⟨rfl, rfl⟩ | cases h
theorem gcS {α : Type} {k : Option α} {c : Bool} {n : Nat} (h : n < 4294967281) : ff c (okS n) k = k := by
  cases c
  · exact fv
  · rw [jh, mI h]
theorem gcA {α : Type} {k : Option α} {c : Bool} : ff c (iY xmla_k1) k = k := by
  have : iY xmla_k1 = true := by decide +kernel
  rw [this]; cases c <;> rfl
theorem all8 (p : UInt8 → Bool) (h : ∀ k : Fin 256, p (UInt8.ofNat k.val) = true) (b : UInt8) : p b = true := by
  have := h ⟨b.toNat, b.toNat_lt⟩
  simpa using this
theorem uc (x : UInt8) (r u : Bs) : Go.Lib.index (x :: r) u = if u.isPrefixOf (x :: r) = true then 0 else if Go.Lib.index r u = -1 then -1 else Go.Lib.index r u + 1 := by
  by_cases h : u.isPrefixOf (x :: r) = true
  · simp [Go.Lib.index, h]
  · simp [Go.Lib.index, h]
def cutO : Option (Bs × Bs) → Bs → Bs × Bs × Bool
  | none, s => (s, [], false)
  | some (a, b), _ => (a, b, true)
theorem cut_eq {p : Bs} (hp : p ≠ []) : ∀ s : Bs, Go.Lib.cut s p = cutO (iV p s) s
  | [] => by
    have : p.isEmpty = false := by cases p with | nil => exact absurd rfl hp | cons a b => rfl
    unfold Go.Lib.cut iV
    rw [if_neg hp]
    simp [Go.Lib.index, this, cutO]
  | c :: r => by
    have ih := cut_eq hp r
    have hg := Go.Lib.index_ge r p
    unfold Go.Lib.cut at ih ⊢
    unfold iV
    rw [uc]
    by_cases h : p.isPrefixOf (c :: r) = true
    · rw [if_pos h, if_pos h, if_pos (Int.le_refl 0)]
      simp [cutO]
    · rw [if_neg h, if_neg h]
      by_cases h1 : Go.Lib.index r p = -1
      · rw [if_neg (by omega)] at ih
        rw [if_pos h1, if_neg (by omega)]
        cases e : iV p r with
        | none => rfl
        | some x => rw [e] at ih; obtain ⟨a, b⟩ := x; have := congrArg (fun x => x.2.2) ih; simp [cutO] at this
      · rw [if_pos (by omega)] at ih
        rw [if_neg h1, if_pos (by omega)]
        obtain ⟨n, hn⟩ : ∃ n : Nat, Go.Lib.index r p = (n : Int) := ⟨(Go.Lib.index r p).toNat, by omega⟩
        rw [hn] at ih ⊢
        cases e : iV p r with
        | none => rw [e] at ih; have := congrArg (fun x => x.2.2) ih; simp [cutO] at this
        | some x =>
          obtain ⟨a, b⟩ := x
          rw [e] at ih
          simp only [cutO, Prod.mk.injEq, Int.toNat_natCast, and_true] at ih ⊢
          have e1 : ((n : Int) + 1).toNat = n + 1 := by omega
          rw [e1]
          refine ⟨by rw [List.take_succ_cons, ih.1], ?_⟩
          rw [show n + 1 + p.length = (n + p.length) + 1 by omega, List.drop_succ_cons, ih.2]
theorem vy (s p : Bs) : Go.Lib.hasPrefix s p = p.isPrefixOf s := rfl
theorem kU {F : Nat} {s p : Bs} {o : List Bs} {k : Int} {l : List Tok} (h : p.isPrefixOf s = false) : fg F s o k l p = some (false, s) := by
  unfold fg Go.Lib.trimPrefix
  rw [bA, vy, h]; rfl
theorem ku {F : Nat} {s p : Bs} {o : List Bs} {k : Int} {l : List Tok} (h : p.isPrefixOf s = true) : fg F s o k l p = some (true, s.drop p.length) := by
  unfold fg Go.Lib.trimPrefix
  rw [bA, vy, h]; rfl
theorem py {F : Nat} : cJ F true = some (.ok ()) := Eq.symm (Eq.symm rfl)
theorem nY {F : Nat} : cJ F false = some (.pan 2) := Eq.symm (Eq.symm rfl)
def cutR : Option (Bs × Bs) → Res (Bs × Bs)
  | none => .pan 2
  | some x => .ok x
theorem sM {F : Nat} {s p : Bs} {o : List Bs} {k : Int} {l : List Tok} (hp : p ≠ []) (hs : s.length ≤ 1000000) : iE F s o k l p = some (cutR (iV p s)) := by
  unfold iE
  rw [mI (by omega), bA, cut_eq hp]
  cases iV p s with
  | none => simp only [cutO]; rw [nY, cH]; rfl
  | some x => obtain ⟨a, b⟩ := x; simp only [cutO]; rw [py, co]; rfl
theorem blk_c (c : UInt8) : ([9, 10, 13, 32] : Bs).contains c = dD c := by
  have := all8 (fun c => ([9, 10, 13, 32] : Bs).contains c == dD c) (by decide +kernel) c
  simpa using this
theorem rr {F : Nat} {s : Bs} {o : List Bs} {k : Int} {l : List Tok} : kb F s o k l = some (decide (((s.dropWhile dD).length : Int) < (s.length : Int)), s.dropWhile dD) := by
  have h : iY ([9, 10, 13, 32] : List UInt8) = true := by decide +kernel
  have e : (fun x => ([9, 10, 13, 32] : Bs).contains x) = dD := funext blk_c
  unfold kb Go.Lib.trimLeftS
  rw [mI (by simp), h, mH, bA, e]
theorem sgn_i (c : UInt8) : decide (0 ≤ Go.Lib.indexByte xmla_k1 c) = gl c := by
  have := all8 (fun c => decide (0 ≤ Go.Lib.indexByte xmla_k1 c) == gl c) (by decide +kernel) c
  simpa using this
theorem sgn_n (c : UInt8) : decide (Go.Lib.indexByte xmla_k1 c < 0) = !gl c := by
  rw [← sgn_i]
  by_cases h : 0 ≤ Go.Lib.indexByte xmla_k1 c
  · rw [decide_eq_true h, decide_eq_false (by omega)]; rfl
  · rw [decide_eq_false h, decide_eq_true (by omega)]; rfl
theorem sgn_c (c : UInt8) : xmla_k1.contains c = gl c := by
  have := all8 (fun c => xmla_k1.contains c == gl c) (by decide +kernel) c
  simpa using this
theorem let_c (c : UInt8) : Go.Lib.contains xmla_k2 [c] = pA c := by
  have := all8 (fun c => Go.Lib.contains xmla_k2 [c] == pA c) (by decide +kernel) c
  simpa using this
theorem tw_at {f : UInt8 → Bool} : ∀ {s : Bs} {i : Nat}, i ≤ s.length → (s.take i).all f = true → (∀ h : i < s.length, f s[i] = false) → s.takeWhile f = s.take i ∧ s.dropWhile f = s.drop i
  | [], i, h, _, _ => by simp
  | c :: s, 0, h, _, g => by
    have := g (by simp)
    rw [List.getElem_cons_zero] at this
    rw [List.takeWhile_cons, List.dropWhile_cons, this]; simp
  | c :: s, i + 1, h, ha, g => by
    rw [List.take_succ_cons, List.all_cons] at ha
    obtain ⟨h1, h2⟩ := ands ha
    have := tw_at (s := s) (i := i) (by simpa using h) h2 fun q => by
      have := g (by simpa using q)
      rw [List.getElem_cons_succ] at this; exact this
    rw [List.takeWhile_cons, List.dropWhile_cons, h1]
    simp [this.1, this.2]
theorem qk (s : Bs) (hs : s.length ≤ 1000000) : ∀ (n i : Nat), s.length - i < n → i ≤ s.length → jC s n (i : Int) = some ((s.drop i).all gl)
  | 0, i, h, _ => by omega
  | n + 1, i, h, hi => by
    show jD s (jC s n) (i : Int) = _
    unfold jD
    by_cases g : i < s.length
    · rw [bT (by omega), cz (by omega), bA, dH g, bA, sgn_n, aG g, List.all_cons]
      cases gl s[i] with
      | false => rw [qG, fE, Bool.false_and]
      | true =>
        rw [qF, cK, bP (by omega), bR, qk s hs n (i + 1) (by omega) (by omega), Bool.true_and]
    · rw [bF (by omega), aR (by omega)]; rfl
theorem inner_eq (F : Nat) (s : Bs) (hs : s.length ≤ 1000000) (hF : s.length < F) : nB F s = some (s.all gl) := qk s hs F 0 (by omega) (by omega)
theorem ti (f : UInt8 → Bool) : ∀ l : Bs, l.dropWhile f = [] ↔ ∀ x ∈ l, f x = true
  | [] => by simp
  | c :: l => by
    have ih := ti f l
    cases h : f c with
    | true => simp [List.dropWhile_cons, h, ih]
    | false => simp [List.dropWhile_cons, h]
theorem trim_sgn (t : Bs) : decide (Go.Lib.trimS t xmla_k1 = []) = t.all gl := by
  unfold Go.Lib.trimS Go.Lib.trimLeftS Go.Lib.trimRightS
  have e : (fun x => xmla_k1.contains x) = gl := funext sgn_c
  rw [e]
  cases h : t.all gl with
  | true =>
    rw [List.all_eq_true] at h
    refine decide_eq_true ?_
    have : t.reverse.dropWhile gl = [] := by
      rw [ti]; intro x hx; exact h x (List.mem_reverse.1 hx)
    rw [this]; rfl
  | false =>
    rw [List.all_eq_false] at h
    obtain ⟨x, hx, hn⟩ := h
    refine decide_eq_false fun q => ?_
    rw [ti] at q
    have hne : t.reverse.dropWhile gl ≠ [] := by
      intro e
      rw [ti] at e
      exact hn (e x (List.mem_reverse.2 hx))
    have := List.head_dropWhile_not gl (l := t.reverse) hne
    have hm := q _ (List.mem_reverse.2 (List.head_mem hne))
    rw [hm] at this
    simp at this
theorem to1 (c : UInt8) (r : Bs) : to_ (c :: r) 1 = [c] := rfl
theorem nd (c : UInt8) (r : Bs) : lN (c :: r) = (pA c && ((c :: r).all gl && decide ((c :: r).length ≤ 60))) := Eq.symm (Eq.symm rfl)
theorem Name_eq (F : Nat) (s : Bs) (hs : s.length ≤ 1000000) (hF : 100 < F) : mz F s = some (lN s) := by
  unfold mz
  have l1 : xmla_k1.length < 4294967281 := by decide +kernel
  have l2 : xmla_k2.length < 4294967281 := by decide +kernel
  simp only [bA, gcS l1, gcS l2, gcS (n := s.length) (by omega), gcA]
  cases s with
  | nil => simp [ff, lj, lN]
  | cons c r =>
    rw [decide_eq_false (p := c :: r = ([] : List UInt8)) (by simp), qG, Bool.true_and, to1, let_c, trim_sgn]
    rw [nd]
    have hp : 0 < (c :: r).length := by simp
    by_cases h : (c :: r).length ≤ 60
    · rw [decide_eq_true h, decide_eq_true (p := (((c :: r).length : Nat) : Int) ≤ 60) (by omega), jh, iX (by omega), Bool.true_and]
      cases hc : pA c with
      | false => rw [Bool.false_and, kX, Bool.false_and, Bool.false_and]
      | true =>
        cases ha : (c :: r).all gl with
        | false => rw [Bool.and_false, kX, Bool.false_and, Bool.false_and, Bool.and_false]
        | true => rw [inner_eq F (c :: r) hs (by omega), ha, ju]; rfl
    · rw [decide_eq_false h, decide_eq_false (p := (((c :: r).length : Nat) : Int) ≤ 60) (by omega), fv, Bool.false_and, Bool.false_and, kX, Bool.false_and, Bool.and_false, Bool.and_false]
def mG : Option (Bs × Bs) → Res (Bs × Bs)
  | none => .pan 2
  | some x => .ok x
theorem rz (F : Nat) (hF : 100 < F) (s : Bs) (hs : s.length ≤ 1000000) : ∀ (n i : Nat), s.length - i < n → i ≤ s.length → (s.take i).all gl = true → kh F s n (i : Int) = some (mG (fD s))
  | 0, i, h, _, _ => by omega
  | n + 1, i, h, hi, ha => by
    have fin : (∀ h : i < s.length, gl s[i] = false) → jj F s (i : Int) = some (mG (fD s)) := fun q => by
      obtain ⟨e1, e2⟩ := tw_at hi ha q
      unfold jj fD
      rw [iX (by omega), bA, pd, nJ, Name_eq F _ (by rw [List.length_take]; omega) hF, be, e1, e2]
      cases lN (s.take i) with
      | false => rw [nY, cH]; rfl
      | true => rw [py, co, iX (by omega), bA]; rfl
    show ki F s (kh F s n) (i : Int) = _
    unfold ki
    by_cases g : i < s.length
    · rw [decide_eq_true (p := (i : Int) < (s.length : Int)) (by omega), jh, cz (by omega), bA, dH g, bA, sgn_i, Bool.true_and]
      cases hc : gl s[i] with
      | false => rw [cK]; exact fin fun _ => hc
      | true =>
        rw [fE, bP (by omega), bR]
        refine rz F hF s hs n (i + 1) (by omega) (by omega) ?_
        rw [List.take_succ_eq_append_getElem g, List.all_append, ha, List.all_cons, hc]; rfl
    · rw [decide_eq_false (p := (i : Int) < (s.length : Int)) (by omega), fv, bA, bA, Bool.false_and, cK]
      exact fin fun q => absurd q g
theorem sW {F : Nat} {s : Bs} {o : List Bs} {k : Int} {l : List Tok} (hF : 100 < F) (hs : s.length ≤ 1000000) (hl : s.length < F) : kO F s o k l = some (mG (fD s)) :=
  rz F hF s hs F 0 (by omega) (by omega) (by simp)
end Go.Xm
namespace Go.Xm
open Go.Pv Go.Av
def dec (F : Nat) (s : Bs) : Option Bs := bif (Go.Pn.G1 F (s.length + 1) s true []).2 then some (Go.Pn.G1 F (s.length + 1) s true []).1 else none
def oR {α : Type} : Option α → Res α
  | none => .pan 2
  | some x => .ok x
section
variable {F : Nat} (hF : 1500000 < F)
include hF
theorem se {s : Bs} (hs : s.length ≤ 100000) : iQ F s = some (oR (dec F s)) := by
  unfold iQ dec
  rw [Go.Pn.decG F (by omega) s hs]
  cases (Go.Pn.G1 F (s.length + 1) s true []).2 with
  | true => rw [fE, fE, bi, decide_eq_true rfl, py, co]; rfl
  | false => rw [cK, cK, bi, decide_eq_false (by decide), nY, cH]; rfl
omit hF in
theorem vh {s t : Bs} {o : List Bs} {k : Int} {l : List Tok} (hl : l.length ≤ 1000000) : my F s o k l t = some (mD t l) := by
  unfold my mD
  by_cases h : t = []
  · rw [decide_eq_true h, bnT, if_pos h]
  · rw [decide_eq_false h, bnF, if_neg h, dI (by simp; omega), bA]
omit hF in
theorem vE {o : List Bs} (h : o ≠ []) : at_ o ((o.length : Int) - 1) = o.getLast h := by
  have hp := List.length_pos_iff.2 h
  rw [show (o.length : Int) - 1 = ((o.length - 1 : Nat) : Int) by omega, dH (by omega), List.getLast_eq_getElem]
def ul : Rx → Res (List Tok × List Bs)
  | .ok x => .ok (x.2.2.2, x.2.1)
  | .no e => .pan e
omit hF in
theorem vl {s n : Bs} {o : List Bs} {k : Nat} {l : List Tok} (ho : o.length ≤ 100) (hl : l.length ≤ 1000000) : kN F s o (k : Int) l n = some (ul (lM n s o k l)) := by
  unfold kN lM
  rw [bP (by omega)]
  by_cases h : o = []
  · subst h
    rw [decide_eq_false (p := 0 ≤ ((([] : List Bs).length : Nat) : Int) - 1) (by simp), fv, fv, bA, Bool.false_and, nY, cH, if_neg (by simp)]; rfl
  · have hp := List.length_pos_iff.2 h
    rw [decide_eq_true (p := 0 ≤ (o.length : Int) - 1) (by omega), jh, jh, cz (by omega), cz (by omega), bA, vE h, Bool.true_and, List.getLast?_eq_some_getLast h]
    by_cases g : o.getLast h = n
    · rw [decide_eq_true g, py, co, iX (by omega), bA, dI (by simp; omega), bA, if_pos (by rw [g])]
      rw [show (o.length : Int) - 1 = ((o.length - 1 : Nat) : Int) by omega, pd, ← List.dropLast_eq_take]; rfl
    · rw [decide_eq_false g, nY, cH, if_neg (by simpa using g)]; rfl
omit hF in
theorem ib_eq : ∀ s : Bs, (Go.Lib.indexByte s 60 = -1 ∧ (s.takeWhile fun c => decide (c ≠ 60)) = s ∧ (s.dropWhile fun c => decide (c ≠ 60)) = []) ∨
    ∃ i : Nat, Go.Lib.indexByte s 60 = (i : Int) ∧ i < s.length ∧ (s.takeWhile fun c => decide (c ≠ 60)) = s.take i ∧ (s.dropWhile fun c => decide (c ≠ 60)) = s.drop i
  | [] => .inl ⟨rfl, rfl, rfl⟩
  | c :: r => by
    by_cases h : c = 60
    · right; subst h; exact ⟨0, by simp [Go.Lib.indexByte], by simp, by simp, by simp⟩
    · have hb : (c == 60) = false := by simpa using h
      rcases ib_eq r with ⟨h1, h2, h3⟩ | ⟨i, h1, h2, h3, h4⟩
      · left
        refine ⟨by simp [Go.Lib.indexByte, hb, h1], ?_, ?_⟩
        · rw [List.takeWhile_cons, if_pos (by simpa using h), h2]
        · rw [List.dropWhile_cons, if_pos (by simpa using h), h3]
      · right
        refine ⟨i + 1, ?_, by simpa using h2, ?_, ?_⟩
        · have : ¬ ((i : Int) = -1) := by omega
          simp [Go.Lib.indexByte, hb, h1, this]
        · rw [List.takeWhile_cons, if_pos (by simpa using h), h3]; rfl
        · rw [List.dropWhile_cons, if_pos (by simpa using h), h4]; rfl
omit hF in
theorem bl_blk (c : UInt8) : Go.Pn.bl c = dD c := Eq.symm (Eq.symm rfl)
omit hF in
theorem tL : ∀ s : Bs, decide (Go.Pn.trim s = []) = s.all dD
  | [] => rfl
  | c :: r => by
    rw [Go.Pn.trim, List.all_cons, bl_blk]
    cases dD c with
    | true => rw [fE, Bool.true_and, tL r]
    | false => rw [cK, Bool.false_and]; simp
def ve : Rx → Res (Bool × Bs × List Tok)
  | .ok x => .ok (true, x.1, x.2.2.2)
  | .no e => .pan e
theorem vn {s : Bs} {o : List Bs} {k : Nat} {l : List Tok} (i : Nat) (hs : s.length ≤ 100000) (hl : l.length ≤ 1000000) (hi : i ≤ s.length) (h0 : i ≠ 0)
    (e1 : (s.takeWhile fun c => decide (c ≠ 60)) = s.take i) (e2 : (s.dropWhile fun c => decide (c ≠ 60)) = s.drop i) : fF F s o (k : Int) l (i : Int) = some (ve (jY (dec F) s o k l)) := by
  have h1 : (s.take i).length ≤ 100000 := by rw [List.length_take]; omega
  unfold fF jY
  rw [bF (by omega), iX (by omega), bA, iX (by omega), bA, pd, nJ, se hF h1, e1, e2]
  cases dec F (s.take i) with
  | none => simp only [oR]; rw [cH]; rfl
  | some t =>
    simp only [oR]
    rw [co]
    by_cases ho : o = []
    · subst ho
      rw [bT (by simp), Go.Pn.ent_Trim_eq F _ (by omega) (by omega), be, tL, if_pos rfl]
      cases (s.take i).all dD with
      | true => rw [py, co]; rfl
      | false => rw [nY, cH]; rfl
    · have := List.length_pos_iff.2 ho
      rw [bF (by omega), vh hl, be, if_neg ho]; rfl
theorem plain_eq {s : Bs} {o : List Bs} {k : Nat} {l : List Tok} (hs : s.length ≤ 100000) (hl : l.length ≤ 1000000) (h0 : s ≠ []) (h : ([60] : Bs).isPrefixOf s = false) :
    jf F s o (k : Int) l = some (ve (jY (dec F) s o k l)) := by
  have hp := List.length_pos_iff.2 h0
  unfold jf
  rw [bA]
  rcases ib_eq s with ⟨h1, h2, h3⟩ | ⟨i, h1, h2, h3, h4⟩
  · rw [h1, bT (by omega)]
    exact vn hF s.length hs hl (Nat.le_refl _) (by omega) (by rw [List.take_length]; exact h2) (by rw [List.drop_length]; exact h3)
  · rw [h1, bF (by omega)]
    refine vn hF i hs hl (by omega) (fun e => ?_) h3 h4;subst e
    cases s with
    | nil => exact h0 rfl
    | cons c r =>
      by_cases g : c = 60
      · subst g; simp at h
      · have hb : (c == 60) = false := by simpa using g
        have hg := Go.Lib.indexByte_ge r 60
        rw [Go.Lib.indexByte, hb] at h1
        simp only [Bool.false_eq_true, if_false] at h1
        by_cases q : Go.Lib.indexByte r 60 = -1
        · rw [q] at h1; simp at h1
        · simp only [beq_iff_eq, q, if_false] at h1; omega
omit hF in
theorem plain_no {s : Bs} {o : List Bs} {k : Int} {l : List Tok} (h : ([60] : Bs).isPrefixOf s = true) : jf F s o k l = some (.ok (false, s, l)) := by
  cases s with
  | nil => cases h
  | cons c r =>
    have hc : c = 60 := by
      by_cases g : c = 60
      · exact g
      · have : (60 == c) = false := by simpa using fun q => g q.symm
        simp [List.isPrefixOf, this] at h
    subst hc
    have : Go.Lib.indexByte (60 :: r) 60 = 0 := by simp [Go.Lib.indexByte]
    unfold jf
    rw [bA, this, bF (by omega)]
    unfold fF
    rw [bT rfl]
end
end Go.Xm
namespace Go.Xm
open Go.Pv Go.Av
theorem ib_ge (s : Bs) : -1 ≤ Go.Lib.index s [60] := Go.Lib.index_ge s [60]
theorem vA : ∀ s : Bs, Go.Lib.contains s [60] = decide (60 ∈ s)
  | [] => by simp [Go.Lib.contains, Go.Lib.index]
  | c :: r => by
    have ih := vA r
    have hg := ib_ge r
    unfold Go.Lib.contains at ih ⊢
    rw [uc]
    by_cases h : c = 60
    · subst h; simp
    · have hb : (60 == c) = false := by simpa using fun q => h q.symm
      have hm : (60 ∈ c :: r) ↔ 60 ∈ r := by rw [List.mem_cons]; exact ⟨fun q => q.elim (fun e => absurd e.symm h) id, .inr⟩
      rw [if_neg (by simp [List.isPrefixOf, hb]), decide_eq_decide.2 hm, ← ih]
      by_cases g : Go.Lib.index r [60] = -1
      · rw [if_pos g, g]
      · rw [if_neg g]; exact decide_eq_decide.2 (by omega)
def attrR : Option (At × Bs) → Res (Bs × Bs × Bs)
  | none => .pan 2
  | some (a, r) => .ok (a.1, a.2, r)
theorem rA (F : Nat) (as_ : List At) (n v : Bs) (hl : as_.length ≤ 1000000) : ∀ (m i : Nat), as_.length - i < m → i ≤ as_.length → ∃ j : Int, eH F as_ n v m (i : Int) = some j ∧ decide (0 ≤ j) = (as_.drop i).any fun x => decide (x.1 = n)
  | 0, i, h, _ => by omega
  | m + 1, i, h, hi => by
    show ∃ j : Int, fL F as_ n v (eH F as_ n v m) (i : Int) = some j ∧ _
    unfold fL
    by_cases g : i < as_.length
    · rw [bT (by omega), cz (by omega), bA, dH g, aG g, List.any_cons]
      unfold nC
      rw [be]
      by_cases e : n = as_[i].1
      · rw [decide_eq_true e, fE, decide_eq_true e.symm, Bool.true_or]
        exact ⟨_, rfl, decide_eq_true (by omega)⟩
      · rw [decide_eq_false e, cK, bP (by omega), bR, decide_eq_false (fun q => e q.symm), Bool.false_or]
        exact rA F as_ n v hl m (i + 1) (by omega) (by omega)
    · rw [bF (by omega), aR (by omega)]
      exact ⟨-1, rfl, rfl⟩
theorem cont_eq (F : Nat) (as_ : List At) (n v : Bs) (hl : as_.length ≤ 1000000) (hF : as_.length < F) : fM F as_ n v = some (as_.any fun x => decide (x.1 = n)) := by
  obtain ⟨j, h1, h2⟩ := rA F as_ n v hl F 0 (by omega) (by omega)
  unfold fM jX
  show bnd (eH F as_ n v F ((0 : Nat) : Int)) _ = _
  rw [h1, be, h2, List.drop_zero]
section
variable {F : Nat} (hF : 1500000 < F)
include hF
theorem attr_j {s : Bs} {o : List Bs} {k : Int} {l : List Tok} {x : Bs × Bs} (q : UInt8) (hs : s.length ≤ 100000) : ix F o k l x [q] s = some (attrR (od (dec F) x.1 q s)) := by
  unfold ix od
  rw [sM (by simp) (by omega)]
  cases e : iV [q] s with
  | none => simp only [cutR]; rw [cH]; rfl
  | some y =>
    obtain ⟨raw, r⟩ := y
    have hl := congrArg List.length (kr (by simp) e)
    simp only [List.length_append] at hl
    simp only [cutR]
    rw [co, mI (by simp; omega), bA]
    simp only []
    rw [vA]
    by_cases g : 60 ∈ raw
    · rw [decide_eq_true g, qF, nY, cH, if_pos g]; rfl
    · rw [decide_eq_false g, qG, py, co, if_neg g, se hF (by omega)]
      cases dec F raw with
      | none => simp only [oR]; rw [cH]; rfl
      | some t => simp only [oR]; rw [co]; rfl
theorem attr_eq {s : Bs} {o : List Bs} {k : Int} {l : List Tok} (hs : s.length ≤ 100000) : lG F s o k l = some (attrR (lE (dec F) s)) := by
  unfold lG lE
  rw [sW (by omega) (by omega) (by omega)]
  cases e : fD s with
  | none => simp only [mG]; rw [cH]; rfl
  | some y =>
    obtain ⟨n, r⟩ := y
    have hl := congrArg List.length (mC e).1
    rw [List.length_append] at hl
    simp only [mG]
    rw [co]
    simp only []
    by_cases h1 : ([61, 34] : Bs).isPrefixOf r = true
    · rw [ku h1, bi, bnT, if_pos h1]
      exact attr_j hF 34 (by simp; omega)
    · rw [kU (eq_false_of_ne_true h1), bi, bnF, if_neg h1]
      by_cases h2 : ([61, 39] : Bs).isPrefixOf r = true
      · rw [ku h2, bi, py, co, if_pos h2]
        exact attr_j hF 39 (by simp; omega)
      · rw [kU (eq_false_of_ne_true h2), bi, nY, cH, if_neg h2]; rfl
abbrev ER := Bool × Bs × Int × List Tok × List Bs
def un : Rx → Res ER
  | .ok x => .ok (true, x.1, (x.2.2.1 : Int), x.2.2.2, x.2.1)
  | .no e => .pan e
omit hF in
theorem vo {s n v : Bs} {as_ : List At} {em : Bool} {o : List Bs} {k : Nat} {l : List Tok} (ho : o.length ≤ 20) (hl : l.length ≤ 999000) :
    eZ F o l (n, v) em s as_ (k : Int) = some (un (if 20 ≤ o.length then .no 5 else if em = true then .ok (s, o, k, (l ++ [(0, n, [], as_)]) ++ [(1, n, [], [])]) else .ok (s, o ++ [n], k, l ++ [(0, n, [], as_)]))) := by
  have hn : (o ++ [n]).length = o.length + 1 := by simp
  unfold eZ hC
  dsimp only
  rw [dI (by simp; omega), bA]
  by_cases h : 20 ≤ o.length
  · rw [bT (by omega), if_pos h]; rfl
  · rw [bF (by omega), if_neg h]
    unfold hH hM
    dsimp only
    rw [dI (by simp; omega), bA]
    cases em with
    | false => rw [cK, if_neg (by decide)]; rfl
    | true =>
      rw [fE, if_pos rfl, vl (by omega) (by simp; omega)]
      unfold lM
      rw [if_pos (by simp)]
      simp only [ul]
      rw [co]
      simp [fW, un]
omit hF in
theorem vp {s n v : Bs} {as_ : List At} {em : Bool} {o : List Bs} {k : Nat} {l : List Tok} (ho : o.length ≤ 20) (hl : l.length ≤ 999000) (hk : k ≤ 1) :
    eY F o (k : Int) l (n, v) em s as_ = some (un (mF n as_ em s o k l)) := by
  unfold eY mF
  by_cases h : o = []
  · subst h
    rw [bT (by simp), bP (by omega)]
    by_cases g : k = 0
    · subst g
      rw [decide_eq_true (p := ((0 : Nat) : Int) + 1 = 1) (by omega), py, co, if_neg (by simp), if_pos rfl]
      exact vo (k := 1) (by simp) hl
    · rw [decide_eq_false (p := (k : Int) + 1 = 1) (by omega), nY, cH, if_pos ⟨rfl, g⟩]; rfl
  · have := List.length_pos_iff.2 h
    rw [bF (by omega), if_neg (fun q => h q.1), if_neg h]
    exact vo ho hl
def elemP' (F : Nat) (n : Bs) (o : List Bs) (k : Nat) (l : List Tok) : Option (List At × Bool × Bs) → Rx
  | none => .no 2
  | some (as_, em, r) => mF n as_ em r o k l
theorem sd {n v : Bs} {o : List Bs} {k : Nat} {l : List Tok} (ho : o.length ≤ 20) (hl : l.length ≤ 999000) (hk : k ≤ 1) : ∀ (m : Nat) (as_ : List At) (s : Bs), s.length < m → as_.length + s.length ≤ 100000 →
    hN F o (k : Int) l (n, v) m (as_, s) = some (un (elemP' F n o k l (io (dec F) (s.length + 1) as_ s)))
  | 0, as_, s, h, _ => by omega
  | m + 1, as_, s, h, hs => by
    show hO F o (k : Int) l (n, v) (hN F o (k : Int) l (n, v) m) as_ s = _
    have hd := sK dD s
    unfold hO io
    rw [rr, bi]
    by_cases h1 : ([62] : Bs).isPrefixOf (s.dropWhile dD) = true
    · rw [ku h1, bi, fE, if_pos h1]
      exact vp ho hl hk
    · rw [kU (eq_false_of_ne_true h1), bi, cK, if_neg h1]
      by_cases h2 : ([47, 62] : Bs).isPrefixOf (s.dropWhile dD) = true
      · rw [ku h2, bi, fE, if_pos h2]
        exact vp ho hl hk
      · rw [kU (eq_false_of_ne_true h2), bi, cK, if_neg h2]
        by_cases h3 : (s.dropWhile dD).length = s.length
        · rw [if_pos h3, decide_eq_false (by omega), nY, cH]; rfl
        · rw [if_neg h3, decide_eq_true (by omega), py, co, attr_eq hF (by omega)]
          cases e : lE (dec F) (s.dropWhile dD) with
          | none => simp only [attrR]; rw [cH]; rfl
          | some y =>
            obtain ⟨a, r⟩ := y
            have hr := ld e
            simp only [attrR]
            rw [co, cont_eq F as_ _ _ (by omega) (by omega), be]
            cases hc : as_.any fun x => decide (x.1 = a.1) with
            | true => rw [qF, nY, cH, if_pos rfl]; rfl
            | false =>
              rw [qG, py, co, if_neg (by decide), dI (by simp; omega), bA]
              have := sd (n := n) (v := v) ho hl hk m (as_ ++ [a]) r (by omega) (by simp; omega)
              rw [mb (k := s.length) (m := r.length + 1) (by omega) (by omega)]
              exact this
theorem wQ {s : Bs} {o : List Bs} {k : Nat} {l : List Tok} (hs : s.length ≤ 100000) (ho : o.length ≤ 20) (hl : l.length ≤ 999000) (hk : k ≤ 1) (h : ([60] : Bs).isPrefixOf s = true) :
    iw F s o (k : Int) l = some (un (mJ (dec F) (s.drop 1) o k l)) := by
  unfold iw mJ
  rw [ku h, bi, bnT, sW (by omega) (by simp; omega) (by simp; omega)]
  show ge (some (mG (fD (s.drop 1)))) _ = _
  cases e : fD (s.drop 1) with
  | none => simp only [mG]; rw [cH]; rfl
  | some y =>
    obtain ⟨n, r⟩ := y
    have hr := congrArg List.length (mC e).1
    rw [List.length_append, List.length_drop] at hr
    simp only [mG]
    rw [co]
    refine Eq.trans (sd hF ho hl hk F [] r (by omega) (by simp; omega)) ?_
    cases io (dec F) (r.length + 1) [] r with
    | none => rfl
    | some z => rfl
def qH : Rx → Res (Bool × Bs)
  | .ok x => .ok (true, x.1)
  | .no e => .pan e
def endR : Rx → Res (Bool × Bs × List Tok × List Bs)
  | .ok x => .ok (true, x.1, x.2.2.2, x.2.1)
  | .no e => .pan e
omit hF in
theorem sT {s p q : Bs} {o : List Bs} {k : Nat} {l : List Tok} (hs : s.length ≤ 1000000) (hp : p ≠ []) : (ge (iE F s o (k : Int) l p) fun x14 => some (Res.ok (true, x14.2))) = some (qH (iW p s o k l)) := by
  rw [sM hp hs]
  unfold iW
  cases iV p s with
  | none => simp only [cutR]; rw [cH]; rfl
  | some y => simp only [cutR]; rw [co]; rfl
omit hF in
theorem data_eq {s : Bs} {o : List Bs} {k : Nat} {l : List Tok} (hs : s.length ≤ 1000000) (hl : l.length ≤ 1000000) (h : ([60, 33, 91, 67, 68, 65, 84, 65, 91] : Bs).isPrefixOf s = true) :
    kP F s o (k : Int) l = some (ve (oc (s.drop 9) o k l)) := by
  unfold kP oc
  rw [ku h, bi, bnT, sM (by simp) (by simp; omega)]
  show ge (some (cutR (iV [93, 93, 62] (s.drop 9)))) _ = _
  cases iV [93, 93, 62] (s.drop 9) with
  | none => simp only [cutR]; rw [cH]; rfl
  | some y =>
    obtain ⟨t, r⟩ := y
    simp only [cutR]
    rw [co]
    by_cases ho : o = []
    · subst ho
      rw [decide_eq_false (by simp), nY, cH, if_pos rfl]; rfl
    · have := List.length_pos_iff.2 ho
      rw [decide_eq_true (by omega), py, co, vh hl, be, if_neg ho]; rfl
theorem end_eq {s : Bs} {o : List Bs} {k : Nat} {l : List Tok} (hs : s.length ≤ 100000) (ho : o.length ≤ 20) (hl : l.length ≤ 999000) (h : ([60, 47] : Bs).isPrefixOf s = true) :
    iP F s o (k : Int) l = some (endR (re (s.drop 2) o k l)) := by
  unfold iP re
  rw [ku h, bi, bnT, sW (by omega) (by simp; omega) (by simp; omega)]
  show ge (some (mG (fD (s.drop 2)))) _ = _
  cases fD (s.drop 2) with
  | none => simp only [mG]; rw [cH]; rfl
  | some y =>
    obtain ⟨n, r⟩ := y
    simp only [mG]
    rw [co, rr, bi]
    simp only []
    by_cases h1 : ([62] : Bs).isPrefixOf (r.dropWhile dD) = true
    · rw [ku h1, bi, py, co, if_pos h1, vl (by omega) (by omega)]
      show ge (some (ul (lM n ((r.dropWhile dD).drop 1) o k l))) _ = _
      unfold lM
      by_cases g : o.getLast? = some n
      · rw [if_pos g]; simp only [ul]; rw [co]; rfl
      · rw [if_neg g]; simp only [ul]; rw [cH]; rfl
    · rw [kU (eq_false_of_ne_true h1), bi, nY, cH, if_neg h1]; rfl
def stepR : Rx → Res (Bs × Int × List Tok × List Bs)
  | .ok x => .ok (x.1, (x.2.2.1 : Int), x.2.2.2, x.2.1)
  | .no e => .pan e
omit hF in
theorem me {p s : Bs} {o : List Bs} {k : Nat} {l : List Tok} {x : Sx} (h : iW p s o k l = .ok x) : x.2 = (o, k, l) := by
  unfold iW at h
  split at h
  · cases h
  · cases h; rfl
theorem step_eq {s : Bs} {o : List Bs} {k : Nat} {l : List Tok} (h0 : s ≠ []) (hs : s.length ≤ 100000) (ho : o.length ≤ 20) (hl : l.length ≤ 999000) (hk : k ≤ 1) :
    lF F s o (k : Int) l = some (stepR (jT (dec F) s o k l)) := by
  unfold lF jT
  by_cases h1 : ([60] : Bs).isPrefixOf s = true
  · rw [plain_no h1, co, cK, if_neg (by rw [h1]; decide)]
    simp only []
    unfold jk
    by_cases h2 : ([60, 33, 45, 45] : Bs).isPrefixOf s = true
    · rw [ku h2, bi, bnT, sT (q := []) (by simp; omega) (by simp), if_pos h2]
      show ge (some (qH (iW [45, 45, 62] (s.drop 4) o k l))) _ = _
      cases e : iW [45, 45, 62] (s.drop 4) o k l with
      | no e => rfl
      | ok x =>
        have := me e
        obtain ⟨a, b⟩ := x
        simp only at this; subst this
        simp only [qH]; rw [co]; rfl
    · rw [kU (eq_false_of_ne_true h2), bi, bnF, co, cK, if_neg h2]
      simp only []
      unfold pb
      by_cases h3 : ([60, 63] : Bs).isPrefixOf s = true
      · rw [ku h3, bi, bnT, sT (q := []) (by simp; omega) (by simp), if_pos h3]
        show ge (some (qH (iW [63, 62] (s.drop 2) o k l))) _ = _
        cases e : iW [63, 62] (s.drop 2) o k l with
        | no e => rfl
        | ok x =>
          have := me e
          obtain ⟨a, b⟩ := x
          simp only at this; subst this
          simp only [qH]; rw [co]; rfl
      · rw [kU (eq_false_of_ne_true h3), bi, bnF, co, cK, if_neg h3]
        simp only []
        by_cases h4 : ([60, 33, 91, 67, 68, 65, 84, 65, 91] : Bs).isPrefixOf s = true
        · rw [data_eq (by omega) (by omega) h4, if_pos h4]
          unfold oc
          cases iV [93, 93, 62] (s.drop 9) with
          | none => rfl
          | some y =>
            obtain ⟨t, r⟩ := y
            simp only []
            by_cases g : o = []
            · rw [if_pos g]; rfl
            · rw [if_neg g]; rfl
        · rw [if_neg h4]
          unfold kP
          rw [kU (eq_false_of_ne_true h4), bi, bnF, co, cK]
          simp only []
          unfold pa
          by_cases h5 : ([60, 33] : Bs).isPrefixOf s = true
          · rw [ku h5, bi, bnT, sT (q := []) (by simp; omega) (by simp), if_pos h5]
            show ge (some (qH (iW [62] (s.drop 2) o k l))) _ = _
            cases e : iW [62] (s.drop 2) o k l with
            | no e => rfl
            | ok x =>
              have := me e
              obtain ⟨a, b⟩ := x
              simp only at this; subst this
              simp only [qH]; rw [co]; rfl
          · rw [kU (eq_false_of_ne_true h5), bi, bnF, co, cK, if_neg h5]
            simp only []
            by_cases h6 : ([60, 47] : Bs).isPrefixOf s = true
            · rw [end_eq hF hs ho hl h6, if_pos h6]
              unfold re
              cases fD (s.drop 2) with
              | none => rfl
              | some y =>
                obtain ⟨n, r⟩ := y
                simp only []
                by_cases g : ([62] : Bs).isPrefixOf (r.dropWhile dD) = true
                · rw [if_pos g]
                  unfold lM
                  by_cases g2 : o.getLast? = some n
                  · rw [if_pos g2]; rfl
                  · rw [if_neg g2]; rfl
                · rw [if_neg g]; rfl
            · rw [if_neg h6]
              unfold iP
              rw [kU (eq_false_of_ne_true h6), bi, bnF, co, cK]
              simp only []
              rw [wQ hF hs ho hl hk h1]
              cases mJ (dec F) (s.drop 1) o k l with
              | no e => rfl
              | ok x => rfl
  · rw [plain_eq hF hs (by omega) h0 (eq_false_of_ne_true h1), if_pos (eq_false_of_ne_true h1)]
    unfold jY
    cases dec F (s.takeWhile fun c => decide (c ≠ 60)) with
    | none => rfl
    | some t =>
      simp only []
      by_cases g : o = []
      · rw [if_pos g]
        cases (s.takeWhile fun c => decide (c ≠ 60)).all dD with
        | true => rw [if_pos rfl]; rfl
        | false => rw [if_neg (by decide)]; rfl
      · rw [if_neg g]; rfl
end
end Go.Xm
namespace Go.Xm
open Go.Pv Go.Av
theorem rq (t : Bs) (l : List Tok) : (mD t l).length ≤ l.length + 1 := by
  unfold mD; split <;> simp
def Kp (o : List Bs) (k : Nat) (l : List Tok) (m : Nat) : Prop := o.length ≤ 20 ∧ k ≤ 1 ∧ l.length ≤ m
theorem sQ {p s : Bs} {o : List Bs} {k : Nat} {l : List Tok} {m : Nat} {x : Sx} (h : Kp o k l m) (e : iW p s o k l = .ok x) : Kp x.2.1 x.2.2.1 x.2.2.2 (m + 2) := by
  have := me e
  obtain ⟨a, b⟩ := x
  simp only at this; subst this
  obtain ⟨h1, h2, h3⟩ := h;exact ⟨h1, h2, by simp only; omega⟩
theorem sO {d : Bs → Option Bs} {s : Bs} {o : List Bs} {k : Nat} {l : List Tok} {m : Nat} {x : Sx} (h : Kp o k l m) (e : jT d s o k l = .ok x) : Kp x.2.1 x.2.2.1 x.2.2.2 (m + 2) := by
  obtain ⟨h1, h2, h3⟩ := id h
  unfold jT at e
  split at e
  · unfold jY at e
    split at e
    · cases e
    · split at e
      · split at e
        · cases e; exact ⟨h1, h2, by simp only; omega⟩
        · cases e
      · rename_i t _ _
        cases e
        have := rq t l
        exact ⟨h1, h2, by simp only; omega⟩
  split at e
  · exact sQ h e
  split at e
  · exact sQ h e
  split at e
  · unfold oc at e
    split at e
    · cases e
    · split at e
      · cases e
      · rename_i t r _ _
        cases e
        have := rq t l
        exact ⟨h1, h2, by simp only; omega⟩
  split at e
  · exact sQ h e
  split at e
  · unfold re at e
    split at e
    · cases e
    · split at e
      · unfold lM at e
        split at e
        · cases e; exact ⟨by simp only [List.length_dropLast]; omega, h2, by simp only [List.length_append, List.length_singleton]; omega⟩
        · cases e
      · cases e
  · unfold mJ at e
    split at e
    · cases e
    · split at e
      · cases e
      · unfold mF at e
        split at e
        · cases e
        · rename_i g
          split at e
          · cases e
          · have hk : (if o = [] then k + 1 else k) ≤ 1 := by
              by_cases q : o = []
              · rw [if_pos q]
                have : k = 0 := Classical.byContradiction fun z => g ⟨q, z⟩
                omega
              · rw [if_neg q]; exact h2
            split at e
            · cases e; exact ⟨h1, hk, by simp; omega⟩
            · cases e; exact ⟨by simp; omega, hk, by simp; omega⟩
def tokE : Rx → List Tok × Int
  | .ok (_, o, k, l) => if o = [] ∧ 0 < k then (l, 0) else ([], 2)
  | .no e => ([], e)
theorem pC (d : Bs → Option Bs) (s : Bs) : tokP d s = tokE (pf d (s.length + 1) (s, [], 0, [])) := by
  unfold tokP
  cases pf d (s.length + 1) (s, [], 0, []) with
  | ok x => rfl
  | no e => rfl
theorem tM {F : Nat} (hF : 1500000 < F) : ∀ (n m : Nat) (s : Bs) (o : List Bs) (k : Nat) (l : List Tok), s.length < n → s.length < m → s.length ≤ 100000 → Kp o k l (900000 - 2 * s.length) →
    jb F n (s, o, (k : Int), l) = some (tokE (pf (dec F) m (s, o, k, l)))
  | 0, _, s, o, k, l, h, _, _, _ => by omega
  | _, 0, s, o, k, l, _, h, _, _ => by omega
  | n + 1, m + 1, s, o, k, l, hn, hm, hs, hk => by
    show jc F (jb F n) s o (k : Int) l = _
    unfold jc pf
    by_cases h0 : s = []
    · rw [decide_eq_true h0, bnT, if_pos h0]
      unfold ja tokE
      simp only []
      by_cases ho : o = []
      · subst ho
        by_cases g : 0 < k
        · rw [decide_eq_true (by simp), decide_eq_true (by omega), Bool.and_self, py, vC, if_pos ⟨rfl, g⟩]
        · rw [decide_eq_true (by simp), decide_eq_false (p := (0 : Int) < (k : Int)) (by omega), Bool.and_false, nY, qA, if_neg fun q => g q.2]
      · have := List.length_pos_iff.2 ho
        rw [decide_eq_false (p := (o.length : Int) = 0) (by omega), Bool.false_and, nY, qA, if_neg fun q => ho q.1]
    · rw [decide_eq_false h0, bnF, if_neg h0, step_eq hF h0 hs hk.1 (by have := hk.2.2; omega) hk.2.1]
      cases e : jT (dec F) s o k l with
      | no e => simp only [stepR]; rw [qA]; rfl
      | ok x =>
        obtain ⟨s', o', k', l'⟩ := x
        have h1 := nE h0 e
        have h2 := sO hk e
        simp only at h1 h2
        simp only [stepR]
        rw [vC]
        simp only []
        exact tM hF n m s' o' k' l' (by omega) (by omega) (by omega) ⟨h2.1, h2.2.1, by have := h2.2.2; omega⟩
theorem tok_eq {F : Nat} (hF : 1500000 < F) {s : Bs} (hs : s.length ≤ 100000) : kc F s = some (tokP (dec F) s) := by
  unfold kc
  rw [bF (by omega), pC]
  exact tM hF F (s.length + 1) s [] 0 [] (by omega) (by omega) hs ⟨by simp, by omega, by simp⟩
theorem run_kp {d : Bs → Option Bs} : ∀ {n : Nat} {s : Bs} {o : List Bs} {k : Nat} {l : List Tok} {m : Nat} {x : Sx}, s.length ≤ m → Kp o k l (900000 - 2 * m) → m ≤ 100000 → pf d n (s, o, k, l) = .ok x → x.2.2.2.length ≤ 900000
  | 0, s, o, k, l, m, x, _, _, _, h => by cases h
  | n + 1, s, o, k, l, m, x, hs, hk, hm, h => by
    unfold pf at h
    by_cases h0 : s = []
    · rw [if_pos h0] at h; cases h; have := hk.2.2; simp only; omega
    · rw [if_neg h0] at h
      cases e : jT d s o k l with
      | no e' => rw [e] at h; cases h
      | ok y =>
        rw [e] at h
        obtain ⟨s', o', k', l'⟩ := y
        have h1 := nE h0 e
        have h2 := sO hk e
        have hp := List.length_pos_iff.2 h0
        simp only at h1 h2 h
        exact run_kp (m := m - 1) (by omega) ⟨h2.1, h2.2.1, by have := h2.2.2; omega⟩ (by omega) h
theorem tok_len {d : Bs → Option Bs} {s : Bs} (hs : s.length ≤ 100000) : (tokP d s).1.length ≤ 900000 := by
  rw [pC]
  cases e : pf d (s.length + 1) (s, [], 0, []) with
  | no e => simp [tokE]
  | ok x =>
    have := run_kp (m := s.length) (Nat.le_refl _) ⟨by simp, by omega, by simp⟩ hs e
    obtain ⟨s', o', k', l'⟩ := x;show (if o' = [] ∧ 0 < k' then (l', (0 : Int)) else ([], 2)).1.length ≤ _
    split
    · exact this
    · simp
end Go.Xm
namespace Go.Xm
open Go.Pv Go.Av
instance decBL : DecidableEq (Bs × List At) := instDecidableEqProd
instance decBBL : DecidableEq (Bs × Bs × List At) := instDecidableEqProd
instance decTok : DecidableEq Tok := instDecidableEqProd
theorem awake : jH 2000000 = some true := by decide +kernel
theorem sP {p s : Bs} {o : List Bs} {k : Nat} {l : List Tok} {e : Int} (h : iW p s o k l = .no e) : e ≠ 0 := by
  unfold iW at h
  split at h <;> (cases h; try decide)
theorem step_no {d : Bs → Option Bs} {s : Bs} {o : List Bs} {k : Nat} {l : List Tok} {e : Int} (h : jT d s o k l = .no e) : e ≠ 0 := by
  unfold jT at h
  split at h
  · unfold jY at h
    split at h
    · cases h; decide
    · split at h
      · split at h <;> (cases h; try decide)
      · cases h
  split at h
  · exact sP h
  split at h
  · exact sP h
  split at h
  · unfold oc at h
    split at h
    · cases h; decide
    · split at h <;> (cases h; try decide)
  split at h
  · exact sP h
  split at h
  · unfold re at h
    split at h
    · cases h; decide
    · split at h
      · unfold lM at h
        split at h <;> (cases h; try decide)
      · cases h; decide
  · unfold mJ at h
    split at h
    · cases h; decide
    · split at h
      · cases h; decide
      · unfold mF at h
        split at h
        · cases h; decide
        · split at h
          · cases h; decide
          · split at h <;> cases h
theorem vz {α : Type} [DecidableEq α] (a b : α) (l m : List α) : decide (a :: l = b :: m) = (decide (a = b) && decide (l = m)) := by
  by_cases h : a = b
  · by_cases g : l = m
    · rw [decide_eq_true h, decide_eq_true g, decide_eq_true (by rw [h, g])]; rfl
    · rw [decide_eq_true h, decide_eq_false g, decide_eq_false fun q => g (List.cons.inj q).2]; rfl
  · rw [decide_eq_false h, decide_eq_false fun q => h (List.cons.inj q).1]; rfl
theorem pI {α β : Type} [DecidableEq α] [DecidableEq β] (a b : α × β) : decide (a = b) = (decide (a.1 = b.1) && decide (a.2 = b.2)) := by
  obtain ⟨a1, a2⟩ := a;obtain ⟨b1, b2⟩ := b
  by_cases h : a1 = b1
  · by_cases g : a2 = b2
    · rw [decide_eq_true (by rw [h, g] : (a1, a2) = (b1, b2)), decide_eq_true (p := (a1, a2).1 = (b1, b2).1) h, decide_eq_true (p := (a1, a2).2 = (b1, b2).2) g]; rfl
    · rw [decide_eq_false (p := (a1, a2) = (b1, b2)) fun q => g (congrArg Prod.snd q), decide_eq_false (p := (a1, a2).2 = (b1, b2).2) g, Bool.and_false]
  · rw [decide_eq_false (p := (a1, a2) = (b1, b2)) fun q => h (congrArg Prod.fst q), decide_eq_false (p := (a1, a2).1 = (b1, b2).1) h, Bool.false_and]
theorem len_ne {α : Type} [DecidableEq α] {a b : List α} (h : a.length ≠ b.length) : decide (a = b) = false := decide_eq_false fun q => h (by rw [q])
def AtS (l : List Tok) (m : Nat) : Prop := ∀ t ∈ l, t.2.2.2.length ≤ m
theorem eq_tok (a b : Tok) : decide (a = b) = (((decide (a.1 = b.1) && decide (a.2.1 = b.2.1)) && decide (a.2.2.1 = b.2.2.1)) && decide (a.2.2.2 = b.2.2.2)) := by
  rw [pI, pI a.2 b.2, pI a.2.2 b.2.2, Bool.and_assoc, Bool.and_assoc]
theorem tP (F : Nat) (a b : List Tok) (i : Nat) (hi : i < a.length) (hj : i < b.length) (hl : a[i].2.2.2.length = b[i].2.2.2.length) (hm : a[i].2.2.2.length ≤ 1000000) (rec8 : Int → Option Bool) : ∀ (n j : Nat), a[i].2.2.2.length - j < n → j ≤ a[i].2.2.2.length →
    hY a b (i : Int) rec8 n (j : Int) = bif decide (a[i].2.2.2.drop j = b[i].2.2.2.drop j) then fX (i : Int) rec8 else some false
  | 0, j, h, _ => by omega
  | n + 1, j, h, hjl => by
    show ia a b (i : Int) rec8 (hY a b (i : Int) rec8 n) (j : Int) = _
    unfold ia
    rw [cz (by omega), bA, dH hi]
    by_cases g : j < a[i].2.2.2.length
    · have g' : j < b[i].2.2.2.length := by omega
      rw [bT (by omega), cz (by omega), bA, cz (by omega), bA, cz (by omega), bA, dH hj, cz (by omega), bA, dH g, dH g', aG g, aG g', vz, pI]
      cases decide (a[i].2.2.2[j].1 = b[i].2.2.2[j].1) && decide (a[i].2.2.2[j].2 = b[i].2.2.2[j].2) with
      | false => rw [bnF, Bool.false_and, cK]
      | true => rw [bnT, bP (by omega), bR, tP F a b i hi hj hl hm rec8 n (j + 1) (by omega) (by omega), Bool.true_and]
    · rw [bF (by omega), aR (by omega), aR (by omega)]; rw [decide_eq_true rfl, fE]
theorem gcAt {α : Type} {k : Option α} {c : Bool} {i : Int} {n : Nat} (h : 0 ≤ i ∧ i < n) : ff c (cR i n) k = k := pG fun _ => h
theorem qd (F : Nat) (a b : List Tok) (hl : a.length = b.length) (ha : a.length ≤ 1000000) (hm : AtS a 1000000) (hF : 1000000 < F) : ∀ (n i : Nat), a.length - i < n → i ≤ a.length → cV F a b n (i : Int) = some (decide (a.drop i = b.drop i))
  | 0, i, h, _ => by omega
  | n + 1, i, h, hi => by
    show hZ F a b (cV F a b n) (i : Int) = _
    unfold hZ
    by_cases g : i < a.length
    · have g' : i < b.length := by omega
      have h1 := hm _ (List.getElem_mem g)
      have oa : (0 : Int) ≤ (i : Int) ∧ (i : Int) < (a.length : Nat) := by omega
      have ob : (0 : Int) ≤ (i : Int) ∧ (i : Int) < (b.length : Nat) := by omega
      rw [bT (by omega)]
      simp only [cz oa, cz ob, gcAt oa, gcAt ob, bA, dH g, dH g']
      rw [aG g, aG g', vz, eq_tok]
      have go := qd F a b hl ha hm hF n (i + 1) (by omega) (by omega)
      by_cases e1 : a[i].1 = b[i].1
      · by_cases e2 : a[i].2.1 = b[i].2.1
        · by_cases e3 : a[i].2.2.1 = b[i].2.2.1
          · by_cases e4 : a[i].2.2.2.length = b[i].2.2.2.length
            · rw [decide_eq_true e1, decide_eq_true e2, decide_eq_true e3, decide_eq_true (p := (a[i].2.2.2.length : Int) = (b[i].2.2.2.length : Int)) (by omega)]
              have := tP F a b i g g' e4 h1 (cV F a b n) F 0 (by omega) (by omega)
              refine Eq.trans this ?_
              rw [List.drop_zero, List.drop_zero]
              cases decide (a[i].2.2.2 = b[i].2.2.2) with
              | false => rfl
              | true =>
                rw [fE]
                unfold fX
                rw [bP (by omega), bR, go]; rfl
            · rw [decide_eq_true e1, decide_eq_true e2, decide_eq_true e3, decide_eq_false (p := (a[i].2.2.2.length : Int) = (b[i].2.2.2.length : Int)) (by omega), len_ne e4]; rfl
          · rw [decide_eq_true e1, decide_eq_true e2, decide_eq_false e3]; rfl
        · rw [decide_eq_true e1, decide_eq_false e2]; rfl
      · rw [decide_eq_false e1]; rfl
    · rw [bF (by omega), aR (by omega), aR (by omega)]; rfl
theorem rSame_eq (F : Nat) (a b : List Tok) (ha : a.length ≤ 1000000) (hm : AtS a 1000000) (hF : 1000000 < F) : jm F a b = some (decide (a = b)) := by
  unfold jm
  by_cases h : a.length = b.length
  · rw [decide_eq_true (by omega), bnT]
    exact qd F a b h ha hm hF F 0 (by omega) (by omega)
  · rw [decide_eq_false (by omega), bnF, len_ne h]
theorem oZ {d : Bs → Option Bs} : ∀ {k : Nat} {as_ : List At} {s : Bs} {bs : List At} {e : Bool} {r : Bs}, io d k as_ s = some (bs, e, r) → bs.length ≤ as_.length + s.length
  | 0, _, _, _, _, _, h => by cases h
  | k + 1, as_, s, bs, e, r, h => by
    have hd := sK dD s
    unfold io at h
    split at h
    · cases h; omega
    · split at h
      · cases h; omega
      · split at h
        · cases h
        · cases ea : lE d (s.dropWhile dD) with
          | none => rw [ea] at h; cases h
          | some x =>
            obtain ⟨a, r'⟩ := x
            rw [ea] at h
            simp only at h
            have h1 := ld ea
            split at h
            · cases h
            · have := oZ h
              rw [List.length_append, List.length_singleton] at this
              omega
theorem nR {l : List Tok} {m : Nat} (h : AtS l m) {t : Tok} (ht : t.2.2.2.length ≤ m) : AtS (l ++ [t]) m := fun x hx => by
  rcases List.mem_append.1 hx with hx | hx
  · exact h x hx
  · rw [List.mem_singleton.1 hx]; exact ht
theorem uj {l : List Tok} {m : Nat} (h : AtS l m) (t : Bs) : AtS (mD t l) m := by
  unfold mD
  split
  · exact h
  · exact nR h (by simp)
theorem ats_step {d : Bs → Option Bs} {s : Bs} {o : List Bs} {k : Nat} {l : List Tok} {m : Nat} {x : Sx} (h : AtS l m) (hs : s.length ≤ m) (e : jT d s o k l = .ok x) : AtS x.2.2.2 m := by
  have sk : ∀ {p s' : Bs} {y : Sx}, iW p s' o k l = .ok y → AtS y.2.2.2 m := fun q => by
    rw [me q]; exact h
  unfold jT at e
  split at e
  · unfold jY at e
    split at e
    · cases e
    · split at e
      · split at e
        · cases e; exact h
        · cases e
      · cases e; exact uj h _
  split at e
  · exact sk e
  split at e
  · exact sk e
  split at e
  · unfold oc at e
    split at e
    · cases e
    · split at e
      · cases e
      · cases e; exact uj h _
  split at e
  · exact sk e
  split at e
  · unfold re at e
    split at e
    · cases e
    · split at e
      · unfold lM at e
        split at e
        · cases e; exact nR h (by simp)
        · cases e
      · cases e
  · unfold mJ at e
    split at e
    · cases e
    · rename_i n r en
      have hr := congrArg List.length (mC en).1
      rw [List.length_append, List.length_drop] at hr
      split at e
      · cases e
      · rename_i as_ em r' ea
        have ha := oZ ea
        rw [List.length_nil] at ha
        have ha' : as_.length ≤ m := by omega
        unfold mF at e
        split at e
        · cases e
        · split at e
          · cases e
          · split at e
            · cases e; exact nR (nR h ha') (by simp)
            · cases e; exact nR h ha'
theorem vD {d : Bs → Option Bs} {m : Nat} : ∀ {n : Nat} {x y : Sx}, AtS x.2.2.2 m → x.1.length ≤ m → pf d n x = .ok y → AtS y.2.2.2 m
  | 0, _, _, _, _, h => by cases h
  | n + 1, (s, o, k, l), y, ha, hs, h => by
    unfold pf at h
    by_cases h0 : s = []
    · rw [if_pos h0] at h; cases h; exact ha
    · rw [if_neg h0] at h
      cases e : jT d s o k l with
      | no e' => rw [e] at h; cases h
      | ok z =>
        rw [e] at h
        have h1 := nE h0 e
        exact vD (ats_step ha hs e) (by simp only at hs; omega) h
theorem tok_ats {d : Bs → Option Bs} {s : Bs} {m : Nat} (hs : s.length ≤ m) : AtS (tokP d s).1 m := by
  rw [pC]
  cases e : pf d (s.length + 1) (s, [], 0, []) with
  | no e => exact fun t ht => by cases ht
  | ok x =>
    have := vD (m := m) (x := (s, [], 0, [])) (fun t ht => by cases ht) hs e
    obtain ⟨s', o', k', l'⟩ := x;show AtS (if o' = [] ∧ 0 < k' then (l', (0 : Int)) else ([], 2)).1 m
    split
    · exact this
    · exact fun t ht => by cases ht
end Go.Xm
namespace Go.Xm
open Go.Pv Go.Av
def fl (e c : Int) : Int := if e = 0 then c else e
theorem pB (c : Int) : fl 0 c = c := by unfold fl; rw [if_pos rfl]
theorem fl_n {e : Int} (h : e ≠ 0) (c : Int) : fl e c = e := by unfold fl; rw [if_neg h]
theorem ei {F : Nat} {S : Bs} {i : Int} {o : List Bs} {k : Int} {l : List Tok} {e c : Int} : cn F S i o k l e c = some (fl e c) := by
  unfold cn fl
  by_cases h : e = 0
  · rw [bT h, if_pos h]
  · rw [bF h, if_neg h]
theorem tU (p t : Bs) : p.isPrefixOf t = (decide (p.length ≤ t.length) && decide (t.take p.length = p)) := by
  rw [Bool.eq_iff_iff, List.isPrefixOf_iff_prefix, List.prefix_iff_eq_take, Bool.and_eq_true, decide_eq_true_eq, decide_eq_true_eq]
  constructor
  · intro h
    refine ⟨?_, h.symm⟩
    have := congrArg List.length h
    rw [List.length_take] at this
    omega
  · intro h; exact h.2.symm
theorem pe (S : Bs) (i m : Nat) : sub S (i : Int) ((i : Int) + (m : Int)) = (S.drop i).take m := by
  rw [← Int.natCast_add, nP, List.drop_take]
  congr 1; omega
theorem gcI {α : Type} {k : Option α} {c : Bool} {n : Int} (h : -9223372036854775808 ≤ n ∧ n ≤ 9223372036854775807) : ff c (okI n) k = k := by
  cases c
  · exact fv
  · rw [jh, bP h]
section
variable {F : Nat} {S : Bs} (hS : S.length ≤ 100000) {o : List Bs} {k : Int} {l : List Tok}
include hS
theorem dS {i : Nat} {e : Int} {p : Bs} (hi : i ≤ S.length) (hp : p.length ≤ 100) : cg F S (i : Int) o k l e p = some (p.isPrefixOf (S.drop i)) := by
  unfold cg
  rw [bP (by omega), gcI (by omega), tU, List.length_drop, pe]
  by_cases h : p.length ≤ S.length - i
  · rw [decide_eq_true (p := (p.length : Int) ≤ (S.length : Int) - (i : Int)) (by omega), decide_eq_true h, jh, iI (by omega), bA]
  · rw [decide_eq_false (p := (p.length : Int) ≤ (S.length : Int) - (i : Int)) (by omega), decide_eq_false h, fv, bA]
theorem og {e : Int} {p : Bs} (hp : p.length ≤ 100) (hp0 : p ≠ []) (i : Nat) : ∀ (n j : Nat), S.length - j < n → i ≤ j → j ≤ S.length →
    gp F S (i : Int) o k l e p n (j : Int) = some (match iV p (S.drop j) with | none => ([], (S.length : Int), fl e 2) | some (a, b) => ((S.drop i).take (j + a.length - i), ((j + a.length + p.length : Nat) : Int), e))
  | 0, j, h, _, _ => by omega
  | n + 1, j, h, hij, hj => by
    have hpl := List.length_pos_iff.2 hp0
    show gq F S (i : Int) o k l e p (gp F S (i : Int) o k l e p n) (j : Int) = _
    unfold gq
    rw [bP (by omega)]
    by_cases g : j + p.length ≤ S.length
    · rw [bT (by omega), bP (by omega), iI (by omega), bA, pe, aG (by omega : j < S.length)]
      have hpt := tU p (S[j]'(by omega) :: S.drop (j + 1))
      rw [← aG (by omega : j < S.length), decide_eq_true (by rw [List.length_drop]; omega), Bool.true_and] at hpt
      rw [← aG (by omega : j < S.length), ← hpt, aG (by omega : j < S.length)]
      unfold iV
      by_cases q : p.isPrefixOf (S[j]'(by omega) :: S.drop (j + 1)) = true
      · rw [q, fE, if_pos rfl]
        unfold gm
        rw [iI (by omega), bA, bP (by omega)]
        rw [show (j : Int) = (i : Int) + ((j - i : Nat) : Int) by omega, pe]
        simp only [List.length_nil, Nat.add_zero]
        rw [show (i : Int) + ((j - i : Nat) : Int) + (p.length : Int) = ((j + p.length : Nat) : Int) by omega]
      · rw [eq_false_of_ne_true q, cK, if_neg (by decide), bP (by omega), bR, og hp hp0 i n (j + 1) (by omega) (by omega) (by omega)]
        cases iV p (S.drop (j + 1)) with
        | none => rfl
        | some x =>
          obtain ⟨a, b⟩ := x
          simp only [List.length_cons]
          rw [show j + 1 + a.length = j + (a.length + 1) by omega]
    · have : iV p (S.drop j) = none := by
        cases e : iV p (S.drop j) with
        | none => rfl
        | some x =>
          obtain ⟨a, b⟩ := x
          have := congrArg List.length (kr hp0 e)
          simp only [List.length_append, List.length_drop] at this
          omega
      rw [bF (by omega), this]
      unfold gn
      rw [ei, be]
theorem ml {e : Int} {p : Bs} (hp : p.length ≤ 100) (hp0 : p ≠ []) (hF : 200000 < F) {i : Nat} (hi : i ≤ S.length) (h : iV p (S.drop i) = none) : dG F S (i : Int) o k l e p = some ([], (S.length : Int), fl e 2) := by
  have := og (F := F) hS (o := o) (k := k) (l := l) (e := e) hp hp0 i F i (by omega) (Nat.le_refl _) hi
  rw [h] at this
  exact this
theorem mj {e : Int} {p : Bs} (hp : p.length ≤ 100) (hp0 : p ≠ []) (hF : 200000 < F) {i : Nat} (hi : i ≤ S.length) {a b : Bs} (h : iV p (S.drop i) = some (a, b)) :
    dG F S (i : Int) o k l e p = some (a, ((i + a.length + p.length : Nat) : Int), e) ∧ i + a.length + p.length ≤ S.length ∧ S.drop (i + a.length + p.length) = b := by
  have := og (F := F) hS (o := o) (k := k) (l := l) (e := e) hp hp0 i F i (by omega) (Nat.le_refl _) hi
  rw [h] at this
  have hc := kr hp0 h
  have hl := congrArg List.length hc
  simp only [List.length_append, List.length_drop] at hl
  refine ⟨Eq.trans this ?_, by omega, ?_⟩
  · simp only []
    rw [show i + a.length - i = a.length by omega, hc, List.append_assoc, List.take_left' rfl]
  · rw [show i + a.length + p.length = i + (a ++ p).length by rw [List.length_append]; omega, ← List.drop_drop, hc, List.drop_left' rfl]
theorem upto_any {e : Int} {p : Bs} (hp : p.length ≤ 100) (hp0 : p ≠ []) (hF : 200000 < F) {i : Nat} (hi : i ≤ S.length) : ∃ (a : Bs) (j : Nat) (e' : Int), dG F S (i : Int) o k l e p = some (a, (j : Int), e') ∧ j ≤ S.length ∧ a.length ≤ S.length ∧ (e ≠ 0 → e' = e) := by
  cases h : iV p (S.drop i) with
  | none => exact ⟨[], S.length, fl e 2, ml hS hp hp0 hF hi h, Nat.le_refl _, by simp, fun q => fl_n q 2⟩
  | some x =>
    obtain ⟨a, b⟩ := x;obtain ⟨h1, h2, h3⟩ := mj (F := F) (o := o) (k := k) (l := l) (e := e) hS hp hp0 hF hi h;exact ⟨a, i + a.length + p.length, e, h1, h2, by omega, fun _ => rfl⟩
omit hS in
theorem rspace (F : Nat) (c : UInt8) : jG F c = some (dD c) := Eq.symm (Eq.symm rfl)
theorem oJ : ∀ (n j c : Nat), S.length - j < n → j ≤ S.length → c ≤ j → cF F S n ((c : Int), (j : Int)) = some (((c + ((S.drop j).takeWhile dD).length : Nat) : Int), ((j + ((S.drop j).takeWhile dD).length : Nat) : Int))
  | 0, j, c, h, _, _ => by omega
  | n + 1, j, c, h, hj, hc => by
    show fo F S (cF F S n) (c : Int) (j : Int) = _
    unfold fo fj
    by_cases g : j < S.length
    · rw [bT (by omega), cz (by omega), bA, dH g, rspace, be, aG g, List.takeWhile_cons]
      unfold fk
      cases dD S[j] with
      | false => rw [bnF, if_neg (by decide)]; rfl
      | true =>
        rw [bnT, if_pos rfl, bP (by omega), bP (by omega), bR, bR, oJ n (j + 1) (c + 1) (by omega) (by omega) (by omega), List.length_cons]
        rw [show c + 1 + ((S.drop (j + 1)).takeWhile dD).length = c + (((S.drop (j + 1)).takeWhile dD).length + 1) by omega, show j + 1 + ((S.drop (j + 1)).takeWhile dD).length = j + (((S.drop (j + 1)).takeWhile dD).length + 1) by omega]
    · rw [bF (by omega), aR (by omega)]; rfl
omit hS in
theorem sN (f : UInt8 → Bool) (s : Bs) : s.drop (s.takeWhile f).length = s.dropWhile f := by
  have := List.takeWhile_append_dropWhile (p := f) (l := s)
  have h2 : (s.takeWhile f ++ s.dropWhile f).drop (s.takeWhile f).length = s.dropWhile f := List.drop_left' rfl
  rwa [this] at h2
omit hS in
theorem tw_le (f : UInt8 → Bool) (s : Bs) : (s.takeWhile f).length + (s.dropWhile f).length = s.length := by
  have := congrArg List.length (List.takeWhile_append_dropWhile (p := f) (l := s))
  rwa [List.length_append] at this
theorem qc {e : Int} (hF : 200000 < F) {i : Nat} (hi : i ≤ S.length) : fY F S (i : Int) o k l e = some ((((S.drop i).takeWhile dD).length : Int), ((i + ((S.drop i).takeWhile dD).length : Nat) : Int)) ∧
    i + ((S.drop i).takeWhile dD).length ≤ S.length ∧ S.drop (i + ((S.drop i).takeWhile dD).length) = (S.drop i).dropWhile dD := by
  have := oJ (F := F) hS F i 0 (by omega) hi (by omega)
  refine ⟨?_, ?_, ?_⟩
  · refine Eq.trans this ?_
    rw [Nat.zero_add]
  · have := tw_le dD (S.drop i); rw [List.length_drop] at this; omega
  · rw [← List.drop_drop, sN]
omit hS in
theorem pD (F : Nat) (c : UInt8) (f : Bool) : jl F c f = some (if f then pA c else gl c) := by
  have h : ((((decide (65 ≤ (c.toNat : Int))) && (decide ((c.toNat : Int) ≤ 90))) || ((decide (97 ≤ (c.toNat : Int))) && (decide ((c.toNat : Int) ≤ 122)))) || (decide (c = 95))) = pA c := by
    have := all8 (fun c => ((((decide (65 ≤ (c.toNat : Int))) && (decide ((c.toNat : Int) ≤ 90))) || ((decide (97 ≤ (c.toNat : Int))) && (decide ((c.toNat : Int) ≤ 122)))) || (decide (c = 95))) == pA c) (by decide +kernel) c
    exact eq_of_beq this
  have h2 : (((((decide (48 ≤ (c.toNat : Int))) && (decide ((c.toNat : Int) ≤ 57))) || (decide (c = 45))) || (decide (c = 46))) || (decide (c = 58))) = ((((decide (48 ≤ c.toNat) && decide (c.toNat ≤ 57)) || decide (c = 45)) || decide (c = 46)) || decide (c = 58)) := by
    have := all8 (fun c => (((((decide (48 ≤ (c.toNat : Int))) && (decide ((c.toNat : Int) ≤ 57))) || (decide (c = 45))) || (decide (c = 46))) || (decide (c = 58))) == ((((decide (48 ≤ c.toNat) && decide (c.toNat ≤ 57)) || decide (c = 45)) || decide (c = 46)) || decide (c = 58))) (by decide +kernel) c
    exact eq_of_beq this
  unfold jl gl
  rw [h, h2]
  cases pA c <;> cases f <;> rfl
theorem qg (n' : Bs) (hn : n'.length ≤ 100000) : ∀ (m j : Nat), n'.length - j < m → 0 < j → j ≤ n'.length → fa F n' m (j : Int) = some ((n'.drop j).all gl && (decide (1 ≤ n'.length) && decide (n'.length ≤ 60)))
  | 0, j, h, _, _ => by omega
  | m + 1, j, h, h0, hj => by
    show fb F n' (fa F n' m) (j : Int) = _
    unfold fb
    by_cases g : j < n'.length
    · rw [bT (by omega), cz (by omega), bA, dH g, pD, decide_eq_false (p := (j : Int) = 0) (by omega), be, aG g, List.all_cons, if_neg (by decide)]
      cases gl n'[j] with
      | false => rw [bnF, Bool.false_and, Bool.false_and]
      | true => rw [bnT, bP (by omega), bR, qg n' hn m (j + 1) (by omega) (by omega) (by omega), Bool.true_and]
    · rw [bF (by omega), aR (by omega)]
      unfold ib
      rw [List.all_nil, Bool.true_and]
      congr 2
      · exact decide_eq_decide.2 (by omega)
      · exact decide_eq_decide.2 (by omega)
omit hS in
theorem vv {c : UInt8} (h : pA c = true) : gl c = true := by unfold gl; rw [h]; rfl
theorem rName_eq (hF : 200000 < F) (n' : Bs) (hn : n'.length ≤ 100000) : kj F n' = some (lN n') := by
  obtain ⟨m, hm⟩ : ∃ m, F = m + 1 := ⟨F - 1, by omega⟩
  unfold kj
  have e : fa F n' F 0 = fb F n' (fa F n' m) 0 := by
    conv => lhs; arg 3; rw [hm]
    rfl
  rw [e]
  unfold fb
  cases n' with
  | nil => rw [bF (by simp)]; rfl
  | cons c r =>
    rw [bT (by simp), cz (by simp), bA, at_zero (by simp), List.getElem_cons_zero, pD, decide_eq_true rfl, if_pos rfl, be, nd]
    cases h : pA c with
    | false => rw [bnF, Bool.false_and]
    | true =>
      have := qg (F := F) hS (c :: r) hn m 1 (by simp at hn ⊢; omega) (by omega) (by simp)
      rw [bnT, bP (by omega)]
      refine Eq.trans this ?_
      rw [show (c :: r).drop 1 = r from rfl, List.all_cons, vv h, decide_eq_true (p := 1 ≤ (c :: r).length) (by simp), Bool.true_and, Bool.true_and, Bool.true_and]
end
end Go.Xm
namespace Go.Xm
open Go.Pv Go.Av
def px : Option Bs → Bs × Int
  | some t => (t, 0)
  | none => ([], 2)
theorem vm {F : Nat} (hF : 1500000 < F) {s : Bs} (hs : s.length ≤ 100000) : gN F s = some (px (dec F s)) := by
  unfold gN dec
  rw [Go.Pn.gone_same F (by omega) s hs, Go.Pn.goneG F (by omega) s hs]
  obtain ⟨a, b⟩ := Go.Pn.G1 F (s.length + 1) s true []
  rw [bi]
  cases b <;> rfl
section
variable {F : Nat} (hF : 1500000 < F) {S : Bs} (hS : S.length ≤ 100000) {o : List Bs} {k : Int} {l : List Tok}
include hF hS
theorem tS {e : Int} {i j : Nat} (hij : i ≤ j) (hj : j ≤ S.length) : dn F S (i : Int) o k l e (j : Int) = some ((S.drop i).take (j - i), (j : Int), if lN ((S.drop i).take (j - i)) = true then e else fl e 2) := by
  unfold dn gu
  rw [iI (by omega), bA, show (j : Int) = (i : Int) + ((j - i : Nat) : Int) by omega, pe, rName_eq hS (by omega) _ (by simp; omega), be]
  cases lN ((S.drop i).take (j - i)) with
  | true => rw [bnT, if_pos rfl]; rfl
  | false => rw [bnF, ei, be, if_neg (by decide)]; rfl
theorem qf {e : Int} (i : Nat) : ∀ (n j : Nat), S.length - j < n → i < j → j ≤ S.length → cS F S (i : Int) o k l e n (j : Int) = dn F S (i : Int) o k l e ((j + ((S.drop j).takeWhile gl).length : Nat) : Int)
  | 0, j, h, _, _ => by omega
  | n + 1, j, h, hij, hj => by
    show ex F S (i : Int) o k l e (cS F S (i : Int) o k l e n) (j : Int) = _
    unfold ex fq
    by_cases g : j < S.length
    · rw [bT (by omega), cz (by omega), bA, dH g, pD, decide_eq_false (p := (j : Int) = (i : Int)) (by omega), be, if_neg (by decide), aG g, List.takeWhile_cons]
      unfold ft
      cases gl S[j] with
      | false => rw [bnF, if_neg (by decide)]; rfl
      | true =>
        rw [bnT, if_pos rfl, bP (by omega), bR, qf i n (j + 1) (by omega) (by omega) (by omega), List.length_cons]
        rw [show j + 1 + ((S.drop (j + 1)).takeWhile gl).length = j + (((S.drop (j + 1)).takeWhile gl).length + 1) by omega]
    · rw [bF (by omega), aR (by omega)]; rfl
omit hF hS in
theorem nameP_tw {s n r : Bs} (h : fD s = some (n, r)) : n = s.takeWhile gl ∧ r = s.dropWhile gl ∧ lN n = true := by
  unfold fD at h
  split at h
  · rename_i g; cases h; exact ⟨rfl, rfl, g⟩
  · cases h
omit hF hS in
theorem vg (f : UInt8 → Bool) (s : Bs) : s.take (s.takeWhile f).length = s.takeWhile f := by
  have := List.takeWhile_append_dropWhile (p := f) (l := s)
  have h2 : (s.takeWhile f ++ s.dropWhile f).take (s.takeWhile f).length = s.takeWhile f := List.take_left' rfl
  rwa [this] at h2
theorem tT {e : Int} {i : Nat} (hi : i ≤ S.length) : ∃ j : Nat, eb F S (i : Int) o k l e = dn F S (i : Int) o k l e (j : Int) ∧ i ≤ j ∧ j ≤ S.length ∧ ((S.drop i).take (j - i) = (S.drop i).takeWhile gl ∨ (fD (S.drop i) = none ∧ j = i)) := by
  obtain ⟨m, hm⟩ : ∃ m, F = m + 1 := ⟨F - 1, by omega⟩
  have e0 : eb F S (i : Int) o k l e = ex F S (i : Int) o k l e (cS F S (i : Int) o k l e m) (i : Int) := by
    unfold eb
    conv => lhs; arg 8; rw [hm]
    rfl
  rw [e0]
  unfold ex fq
  by_cases g : i < S.length
  · rw [bT (by omega), cz (by omega), bA, dH g, pD, decide_eq_true (p := (i : Int) = (i : Int)) rfl, be, if_pos rfl]
    unfold ft
    cases h : pA S[i] with
    | false =>
      rw [bnF]
      refine ⟨i, rfl, Nat.le_refl _, hi, .inr ⟨?_, rfl⟩⟩
      unfold fD
      rw [aG g, List.takeWhile_cons]
      cases gl S[i] with
      | false => simp [lN]
      | true => rw [if_pos rfl, nd, h, Bool.false_and, if_neg (by decide)]
    | true =>
      rw [bnT, bP (by omega), bR, qf hF hS i m (i + 1) (by omega) (by omega) (by omega)]
      have hl := tw_le gl (S.drop (i + 1))
      rw [List.length_drop] at hl
      refine ⟨i + 1 + ((S.drop (i + 1)).takeWhile gl).length, rfl, by omega, by omega, .inl ?_⟩
      rw [show i + 1 + ((S.drop (i + 1)).takeWhile gl).length - i = ((S.drop (i + 1)).takeWhile gl).length + 1 by omega, aG g, List.takeWhile_cons, vv h, if_pos rfl, List.take_succ_cons, vg]
  · rw [bF (by omega)]
    refine ⟨i, rfl, Nat.le_refl _, hi, .inl ?_⟩
    rw [aR (by omega)]; simp
theorem qv {e : Int} {i : Nat} (hi : i ≤ S.length) {n r : Bs} (h : fD (S.drop i) = some (n, r)) : eb F S (i : Int) o k l e = some (n, ((i + n.length : Nat) : Int), e) ∧ i + n.length ≤ S.length ∧ S.drop (i + n.length) = r := by
  obtain ⟨j, h1, h2, h3, h4⟩ := tT (F := F) hF hS (o := o) (k := k) (l := l) (e := e) hi;obtain ⟨q1, q2, q3⟩ := nameP_tw h
  rcases h4 with h4 | ⟨h4, _⟩
  · rw [← q1] at h4
    have hl := congrArg List.length h4
    rw [List.length_take, List.length_drop] at hl
    have ej : j = i + n.length := by omega
    refine ⟨?_, by omega, ?_⟩
    · rw [h1, tS hF hS h2 h3, h4, if_pos q3, ej]
    · rw [← List.drop_drop, q1, sN, q2]
  · rw [h4] at h; cases h
theorem qw {e : Int} {i : Nat} (hi : i ≤ S.length) (h : fD (S.drop i) = none) : ∃ (n : Bs) (j : Nat), eb F S (i : Int) o k l e = some (n, (j : Int), fl e 2) ∧ j ≤ S.length := by
  obtain ⟨j, h1, h2, h3, h4⟩ := tT (F := F) hF hS (o := o) (k := k) (l := l) (e := e) hi;refine ⟨(S.drop i).take (j - i), j, Eq.trans h1 (Eq.trans (tS hF hS h2 h3) ?_), h3⟩
  rw [if_neg]
  rcases h4 with h4 | ⟨h4, h5⟩
  · rw [h4]
    intro q
    unfold fD at h
    rw [if_pos q] at h; cases h
  · rw [h5, Nat.sub_self, List.take_zero]; decide
omit hF hS in
theorem lg {F : Nat} {S : Bs} {i k e : Int} {t : Bs} (hl : l.length ≤ 1000000) : iJ F S i o k l e t = some (if o = [] then l else mD t l) := by
  unfold iJ mD
  by_cases h : t = []
  · rw [bT h, if_pos h]; split <;> rfl
  · rw [bF h, if_neg h]
    by_cases ho : o = []
    · rw [bF (by rw [ho]; simp), if_pos ho]
    · have := List.length_pos_iff.2 ho
      rw [bT (by omega), if_neg ho, dI (by simp; omega), bA]
def ltB (c : UInt8) : Bool := decide (c ≠ 60)
theorem qh {e : Int} (i : Nat) : ∀ (n j : Nat) (f : Bool), S.length - j < n → j ≤ S.length → cY F S (i : Int) o k l e n (f, (j : Int)) = eO F S (i : Int) o k l e (f && ((S.drop j).takeWhile ltB).all dD) ((j + ((S.drop j).takeWhile ltB).length : Nat) : Int)
  | 0, j, f, h, _ => by omega
  | n + 1, j, f, h, hj => by
    show fP F S (i : Int) o k l e (cY F S (i : Int) o k l e n) f (j : Int) = _
    unfold fP fN
    by_cases g : j < S.length
    · rw [decide_eq_true (p := (j : Int) < (S.length : Int)) (by omega), jh, cz (by omega), bA, dH g, Bool.true_and, aG g, List.takeWhile_cons]
      by_cases c : S[j] = 60
      · have hc : ltB S[j] = false := by unfold ltB; rw [c]; rfl
        rw [decide_eq_true c, qF, cK, hc, if_neg (by decide), List.all_nil, Bool.and_true]; rfl
      · have hc : ltB S[j] = true := decide_eq_true c
        rw [decide_eq_false c, qG, fE, hc, if_pos rfl, cz (by omega), bA, rspace, be]
        unfold fO
        rw [bP (by omega), bR, qh i n (j + 1) _ (by omega) (by omega), List.all_cons, List.length_cons, Bool.and_assoc]
        rw [show j + 1 + ((S.drop (j + 1)).takeWhile ltB).length = j + (((S.drop (j + 1)).takeWhile ltB).length + 1) by omega]
    · rw [decide_eq_false (p := (j : Int) < (S.length : Int)) (by omega), fv, bA, Bool.false_and, cK, aR (by omega)]
      simp
theorem vQ {i kk : Nat} (hi : i ≤ S.length) (hl : l.length ≤ 1000000) :
    match jY (dec F) (S.drop i) o kk l with
    | .ok x => ∃ j : Nat, j ≤ S.length ∧ S.drop j = x.1 ∧ x.2.1 = o ∧ x.2.2.1 = kk ∧ gL F S (i : Int) o k l 0 = some ((j : Int), x.2.2.2, 0)
    | .no e => ∃ j : Int, gL F S (i : Int) o k l 0 = some (j, l, e) := by
  have e0 : gL F S (i : Int) o k l 0 = _ := qh hF hS (o := o) (k := k) (l := l) (e := 0) i F i true (by omega) hi
  have hl1 := tw_le ltB (S.drop i)
  rw [List.length_drop] at hl1
  have ed : S.drop (i + ((S.drop i).takeWhile ltB).length) = (S.drop i).dropWhile ltB := by rw [← List.drop_drop, sN]
  unfold eO at e0
  rw [Bool.true_and, iI (by omega), bA, Int.natCast_add, pe, vg, vm hF (by omega)] at e0
  unfold jY
  show match (match dec F ((S.drop i).takeWhile ltB) with
    | none => Rx.no 2
    | some t => if o = [] then (if ((S.drop i).takeWhile ltB).all dD = true then Rx.ok ((S.drop i).dropWhile ltB, o, kk, l) else Rx.no 2) else Rx.ok ((S.drop i).dropWhile ltB, o, kk, mD t l)) with
    | .ok x => _
    | .no e => _
  cases hd : dec F ((S.drop i).takeWhile ltB) with
  | none =>
    rw [hd] at e0
    simp only [px] at e0
    rw [bi] at e0
    unfold eP at e0
    rw [decide_eq_false (by decide), qG, Bool.true_or, fE, ei, be] at e0
    exact ⟨_, e0⟩
  | some t =>
    rw [hd] at e0
    simp only [px] at e0
    rw [bi] at e0
    unfold eP at e0
    rw [decide_eq_true rfl, qF, Bool.false_or] at e0
    simp only []
    by_cases ho : o = []
    · rw [if_pos ho]
      rw [decide_eq_true (p := (o.length : Int) = 0) (by rw [ho]; rfl), Bool.true_and] at e0
      by_cases hb : ((S.drop i).takeWhile ltB).all dD = true
      · rw [if_pos hb]
        rw [hb, bnT, lg hl, be, if_pos ho, ← Int.natCast_add] at e0
        exact ⟨_, by omega, ed, rfl, rfl, e0⟩
      · rw [if_neg hb]
        rw [eq_false_of_ne_true hb, bnF, ei, be] at e0
        exact ⟨_, e0⟩
    · have := List.length_pos_iff.2 ho
      rw [if_neg ho]
      rw [decide_eq_false (p := (o.length : Int) = 0) (by omega), Bool.false_and, cK, lg hl, be, if_neg ho, ← Int.natCast_add] at e0
      exact ⟨_, by omega, ed, rfl, rfl, e0⟩
omit hF hS in
theorem om {F : Nat} {S : Bs} {i k e : Int} {n : Bs} (ho : o.length ≤ 100) (hl : l.length ≤ 1000000) : gM F S i o k l e n = some (if o.getLast? = some n then (o.dropLast, l ++ [(1, n, [], [])], e) else (o, l, fl e 2)) := by
  unfold gM
  by_cases h : o = []
  · subst h
    rw [decide_eq_true (p := ((([] : List Bs).length : Nat) : Int) = 0) (by simp), qF, fv, fv, bA, Bool.true_or, fE, ei, be, if_neg (by simp)]
  · have hp := List.length_pos_iff.2 h
    rw [decide_eq_false (p := (o.length : Int) = 0) (by omega), qG, jh, jh, bP (by omega), cz (by omega), bA, vE h, Bool.false_or, List.getLast?_eq_some_getLast h]
    by_cases g : o.getLast h = n
    · rw [decide_eq_true g, bnT, if_pos (by rw [g]), bP (by omega), iX (by omega), bA, show (o.length : Int) - 1 = ((o.length - 1 : Nat) : Int) by omega, pd, ← List.dropLast_eq_take, dI (by simp; omega), dI (by simp; omega), bA]
    · rw [decide_eq_false g, bnF, ei, be, if_neg (by simpa using g)]
theorem uB {i kk : Nat} (hi : i + 2 ≤ S.length) (ho : o.length ≤ 20) (hl : l.length ≤ 1000000) :
    match re (S.drop (i + 2)) o kk l with
    | .ok x => ∃ j : Nat, j ≤ S.length ∧ S.drop j = x.1 ∧ x.2.2.1 = kk ∧ fZ F S (i : Int) o k l 0 = some ((j : Int), x.2.1, x.2.2.2, 0)
    | .no e => ∃ (j : Int) (o' : List Bs) (l' : List Tok), fZ F S (i : Int) o k l 0 = some (j, o', l', e) := by
  unfold re fZ
  rw [bP (by omega), show (i : Int) + 2 = ((i + 2 : Nat) : Int) by omega]
  have fin : ∀ (n : Bs) (j : Nat) (e : Int), j ≤ S.length → ∃ (j1 : Nat) , j1 ≤ S.length ∧ S.drop j1 = (S.drop j).dropWhile dD ∧ ∀ g : Int → Option (Int × List Bs × List Tok × Int), (gW (fY F S (j : Int) o k l e) fun x21 x22 => g x22) = g (j1 : Int) := fun n j e hj => by
    obtain ⟨h1, h2, h3⟩ := qc (F := F) hS (o := o) (k := k) (l := l) (e := e) (by omega) hj;refine ⟨_, h2, h3, fun g => ?_⟩
    rw [h1, bi]
  cases hn : fD (S.drop (i + 2)) with
  | none =>
    obtain ⟨n, j, h1, h2⟩ := qw hF hS (o := o) (k := k) (l := l) (e := 0) hi hn
    rw [h1, dv, pB]
    obtain ⟨j1, h3, h4, h5⟩ := fin n j 2 h2
    rw [h5, dS hS h3 (by simp), be]
    simp only []
    cases hb : ([62] : Bs).isPrefixOf (S.drop j1) with
    | false => rw [bnF, ei, be, fl_n (by decide)]; exact ⟨_, _, _, rfl⟩
    | true =>
      rw [bnT, bP (by omega), om (by omega) hl]
      split
      · exact ⟨_, _, _, rfl⟩
      · exact ⟨_, _, _, rfl⟩
  | some y =>
    obtain ⟨n, r⟩ := y;obtain ⟨h1, h2, h2'⟩ := qv hF hS (o := o) (k := k) (l := l) (e := 0) hi hn
    rw [h1, dv]
    obtain ⟨j1, h3, h4, h5⟩ := fin n _ 0 h2
    rw [h2'] at h4
    rw [h5, dS hS h3 (by simp), be, h4]
    simp only []
    by_cases hb : ([62] : Bs).isPrefixOf (r.dropWhile dD) = true
    · rw [hb, bnT, bP (by omega), om (by omega) hl, if_pos rfl]
      have hpos : j1 + 1 ≤ S.length := by
        have := congrArg List.length (mg hb)
        rw [← h4] at this
        simp at this
        omega
      unfold lM
      by_cases g : o.getLast? = some n
      · rw [if_pos g, if_pos g]
        exact ⟨j1 + 1, hpos, by rw [← List.drop_drop, h4], rfl, rfl⟩
      · rw [if_neg g, if_neg g]
        exact ⟨_, _, _, rfl⟩
    · rw [eq_false_of_ne_true hb, bnF, ei, be, if_neg (by decide)]
      exact ⟨_, _, _, rfl⟩
end
end Go.Xm
namespace Go.Xm
open Go.Pv Go.Av
theorem f22 : fl 2 2 = 2 := Eq.symm (Eq.symm rfl)
section
variable {F : Nat} (hF : 1500000 < F) {S : Bs} (hS : S.length ≤ 100000) {o : List Bs} {k : Int} {l : List Tok}
include hF hS
theorem mf (n' raw : Bs) (x : Int) (hx : raw.length ≤ 100000) : ∀ (n j : Nat) (e : Int), raw.length - j < n → j ≤ raw.length → eA F S o k l n' raw x n ((j : Int), e) = ez F S o k l n' raw x (if 60 ∈ raw.drop j then fl e 2 else e)
  | 0, j, e, h, _ => by omega
  | n + 1, j, e, h, hj => by
    show gy F S o k l n' raw x (eA F S o k l n' raw x n) (j : Int) e = _
    unfold gy
    by_cases g : j < raw.length
    · rw [bT (by omega), cz (by omega), bA, dH g, aG g]
      have hm : (60 ∈ raw[j] :: raw.drop (j + 1)) ↔ (raw[j] = 60 ∨ 60 ∈ raw.drop (j + 1)) := by
        rw [List.mem_cons]; exact ⟨fun q => q.imp Eq.symm id, fun q => q.imp Eq.symm id⟩
      by_cases c : raw[j] = 60
      · rw [bT c, ei, be, if_pos (hm.2 (.inl c))]
        unfold ey
        rw [bP (by omega), bR, mf n' raw x hx n (j + 1) _ (by omega) (by omega)]
        have : fl (fl e 2) 2 = fl e 2 := by
          unfold fl
          by_cases q : e = 0
          · rw [if_pos q, if_neg (by decide)]
          · rw [if_neg q, if_neg q]
        rw [this, ite_self]
      · rw [bF c]
        unfold ey
        rw [bP (by omega), bR, mf n' raw x hx n (j + 1) _ (by omega) (by omega)]
        congr 1
        by_cases q : 60 ∈ raw.drop (j + 1)
        · rw [if_pos q, if_pos (hm.2 (.inr q))]
        · rw [if_neg q, if_neg fun z => (hm.1 z).elim c q]
    · rw [bF (by omega), aR (by omega), if_neg (by simp)]
theorem qx (n' raw : Bs) (x e : Int) (hx : raw.length ≤ 100000) : ez F S o k l n' raw x e = some (n', (px (dec F raw)).1, x, if (dec F raw).isNone = true then fl e 2 else e) := by
  unfold ez
  rw [vm hF hx]
  cases dec F raw with
  | none => simp only [px]; rw [bi, decide_eq_false (by decide), bnF, ei, be]; rfl
  | some t => simp only [px]; rw [bi, decide_eq_true rfl, bnT]; rfl
def AtOK (S : Bs) : Option (At × Bs) → Option (Bs × Bs × Int × Int) → Prop
  | some (a, r), x => ∃ j : Nat, j ≤ S.length ∧ S.drop j = r ∧ x = some (a.1, a.2, (j : Int), 0)
  | none, x => ∃ (n v : Bs) (j : Int), x = some (n, v, j, 2)
theorem rattr_j4 (n' : Bs) (q : UInt8) {j : Nat} (hj : j + 2 ≤ S.length) : AtOK S (od (dec F) n' q (S.drop (j + 2))) (cT F S o k l n' (j : Int) 0 [q]) := by
  unfold cT od
  rw [bP (by omega), show (j : Int) + 2 = ((j + 2 : Nat) : Int) by omega]
  cases h : iV [q] (S.drop (j + 2)) with
  | none =>
    rw [ml hS (by simp) (by simp) (by omega) hj h, dv]
    have := mf hF hS (o := o) (k := k) (l := l) n' [] (S.length : Int) (by simp) F 0 (fl 0 2) (by simp; omega) (by simp)
    refine ⟨n', (px (dec F [])).1, (S.length : Int), Eq.trans this ?_⟩
    rw [qx hF hS n' [] _ _ (by simp), if_neg (show ¬ 60 ∈ List.drop 0 ([] : Bs) by simp), pB, f22, ite_self]
  | some y =>
    obtain ⟨raw, r⟩ := y;obtain ⟨h1, h2, h3⟩ := mj (F := F) (o := o) (k := k) (l := l) (e := 0) hS (by simp) (by simp) (by omega) hj h
    have hr : raw.length ≤ 100000 := by omega
    rw [h1, dv]
    have := mf hF hS (o := o) (k := k) (l := l) n' raw ((j + 2 + raw.length + [q].length : Nat) : Int) hr F 0 0 (by omega) (by omega)
    have e1 := Eq.trans this (qx hF hS n' raw _ _ hr)
    rw [List.drop_zero, pB] at e1
    simp only []
    by_cases g : 60 ∈ raw
    · rw [if_pos g]
      rw [if_pos g, fl_n (by decide), ite_self] at e1
      exact ⟨_, _, _, e1⟩
    · rw [if_neg g]
      rw [if_neg g] at e1
      cases hd : dec F raw with
      | none =>
        rw [hd] at e1
        exact ⟨_, _, _, e1⟩
      | some t =>
        rw [hd] at e1
        exact ⟨_, h2, h3, e1⟩
theorem vS (n' q' : Bs) (hq : q'.length ≤ 100) (hq0 : q' ≠ []) {j : Nat} (hj : j + 2 ≤ S.length) : AtOK S none (cT F S o k l n' (j : Int) 2 q') := by
  unfold cT
  rw [bP (by omega), show (j : Int) + 2 = ((j + 2 : Nat) : Int) by omega]
  obtain ⟨a, j', e', h1, h2, h3, h4⟩ := upto_any (F := F) (o := o) (k := k) (l := l) (e := 2) hS hq hq0 (by omega) hj
  rw [h1, dv, h4 (by decide)]
  have := mf hF hS (o := o) (k := k) (l := l) n' a (j' : Int) (by omega) F 0 2 (by omega) (by omega)
  refine ⟨n', (px (dec F a)).1, (j' : Int), Eq.trans this ?_⟩
  rw [qx hF hS n' a _ _ (by omega), f22, ite_self, f22, ite_self]
omit hF hS in
theorem iv {S p : Bs} {i : Nat} (h : p.isPrefixOf (S.drop i) = true) (hi : i ≤ S.length) : i + p.length ≤ S.length ∧ S.drop i = p ++ S.drop (i + p.length) := by
  have h1 := mg h
  rw [List.drop_drop] at h1
  refine ⟨?_, h1⟩
  have := congrArg List.length h1
  simp only [List.length_append, List.length_drop] at this
  omega
omit hF hS in
theorem vu {S : Bs} {i : Nat} {a b : UInt8} {r : Bs} (h : S.drop i = [a, b] ++ r) (hi : i + 2 ≤ S.length) : sub S ((i : Int) + 1) ((i : Int) + 2) = [b] := by
  rw [show (i : Int) + 1 = ((i + 1 : Nat) : Int) by omega, show (i : Int) + 2 = ((i + 1 : Nat) : Int) + ((1 : Nat) : Int) by omega, pe, ← List.drop_drop, h]; rfl
theorem rattr_eq {i : Nat} (hi : i ≤ S.length) : AtOK S (lE (dec F) (S.drop i)) (jF F S (i : Int) o k l 0) := by
  unfold jF lE
  cases hn : fD (S.drop i) with
  | none =>
    obtain ⟨n, j, h1, h2⟩ := qw hF hS (o := o) (k := k) (l := l) (e := 0) hi hn
    rw [h1, dv, pB, dS hS h2 (by simp), be, dS hS h2 (by simp), be]
    have go : ∀ a b : UInt8, ([a, b] : Bs).isPrefixOf (S.drop j) = true → AtOK S none (grd (okI ((j : Int) + 1)) <| grd (okI ((j : Int) + 2)) <| grd (kE ((j : Int) + 1) ((j : Int) + 2) S.length) <| lt (sub S ((j : Int) + 1) ((j : Int) + 2)) fun x31 => cT F S o k l n (j : Int) 2 x31) := fun a b h => by
      obtain ⟨q1, q2⟩ := iv h h2
      have q1' : j + 2 ≤ S.length := q1
      rw [bP (by omega), bP (by omega), iI (by omega), bA, vu q2 q1']
      exact vS hF hS n [b] (by simp) (by simp) q1'
    cases h3 : ([61, 34] : Bs).isPrefixOf (S.drop j) with
    | true => rw [qF, Bool.false_and, cK]; exact go _ _ h3
    | false =>
      cases h4 : ([61, 39] : Bs).isPrefixOf (S.drop j) with
      | true => rw [qG, qF, Bool.true_and, cK]; exact go _ _ h4
      | false => rw [qG, Bool.true_and, fE, ei, be, fl_n (by decide)]; exact ⟨_, _, _, rfl⟩
  | some y =>
    obtain ⟨n, r⟩ := y;obtain ⟨h1, h2, h2'⟩ := qv hF hS (o := o) (k := k) (l := l) (e := 0) hi hn
    rw [h1, dv, dS hS h2 (by simp), be, dS hS h2 (by simp), be, ← h2']
    generalize i + n.length = j at h2 h2' ⊢
    simp only []
    have go : ∀ a b : UInt8, ([a, b] : Bs).isPrefixOf (S.drop j) = true → AtOK S (od (dec F) n b ((S.drop j).drop 2)) (grd (okI ((j : Int) + 1)) <| grd (okI ((j : Int) + 2)) <| grd (kE ((j : Int) + 1) ((j : Int) + 2) S.length) <| lt (sub S ((j : Int) + 1) ((j : Int) + 2)) fun x31 => cT F S o k l n (j : Int) 0 x31) := fun a b h => by
      obtain ⟨q1, q2⟩ := iv h h2
      have q1' : j + 2 ≤ S.length := q1
      rw [bP (by omega), bP (by omega), iI (by omega), bA, vu q2 q1', List.drop_drop]
      exact rattr_j4 hF hS n b q1'
    cases h3 : ([61, 34] : Bs).isPrefixOf (S.drop j) with
    | true => rw [qF, Bool.false_and, cK, if_pos rfl]; exact go _ _ h3
    | false =>
      rw [if_neg (by decide)]
      cases h4 : ([61, 39] : Bs).isPrefixOf (S.drop j) with
      | true => rw [qG, qF, Bool.true_and, cK, if_pos rfl]; exact go _ _ h4
      | false => rw [qG, Bool.true_and, fE, ei, be, if_neg (by decide)]; exact ⟨_, _, _, rfl⟩
abbrev OT := Option (Int × List Bs × Int × List Tok × Int)
def StOK (S : Bs) : Rx → OT → Prop
  | .ok x, r => ∃ j : Nat, j ≤ S.length ∧ S.drop j = x.1 ∧ r = some ((j : Int), x.2.1, (x.2.2.1 : Int), x.2.2.2, 0)
  | .no e, r => ∃ (j : Int) (o : List Bs) (k : Int) (l : List Tok), r = some (j, o, k, l, e)
theorem mo (as_ : List At) (ha : as_.length ≤ 100000) (nm v : Bs) (x : Int) (rec28 : (List At × Int × Int) → OT) : ∀ (n j : Nat) (e : Int), as_.length - j < n → j ≤ as_.length →
    cB F S o k l as_ nm v x rec28 n ((j : Int), e) = dj as_ nm v x rec28 (if (as_.drop j).any (fun y => decide (y.1 = nm)) = true then fl e 2 else e)
  | 0, j, e, h, _ => by omega
  | n + 1, j, e, h, hj => by
    show eT F S o k l as_ nm v x rec28 (cB F S o k l as_ nm v x rec28 n) (j : Int) e = _
    unfold eT
    by_cases g : j < as_.length
    · rw [bT (by omega), cz (by omega), bA, dH g, aG g, List.any_cons]
      by_cases c : as_[j].1 = nm
      · rw [bT c, ei, be, decide_eq_true c, Bool.true_or, if_pos rfl]
        unfold di
        rw [bP (by omega), bR, mo as_ ha nm v x rec28 n (j + 1) _ (by omega) (by omega)]
        have : fl (fl e 2) 2 = fl e 2 := by
          unfold fl
          by_cases q : e = 0
          · rw [if_pos q, if_neg (by decide)]
          · rw [if_neg q, if_neg q]
        rw [this, ite_self]
      · rw [bF c, decide_eq_false c, Bool.false_or]
        unfold di
        rw [bP (by omega), bR, mo as_ ha nm v x rec28 n (j + 1) _ (by omega) (by omega)]
    · rw [bF (by omega), aR (by omega), List.any_nil, if_neg (by decide)]
theorem oh {nm : Bs} {as_ : List At} {j e : Int} (he : e ≠ 0) (m : Nat) : bz F S o k l nm (m + 1) (as_, j, e) = some (j, o, k, l, e) := by
  show dl F S o k l nm (bz F S o k l nm m) as_ j e = _
  unfold dl
  rw [bF he]
  unfold cM
  rw [decide_eq_false he, bnF]
theorem tR {nm : Bs} {as_ : List At} {em : Bool} {j kk : Nat} (hj : j ≤ S.length) (ho : o.length ≤ 20) (hl : l.length ≤ 999000) (h1 : em = ([47, 62] : Bs).isPrefixOf (S.drop j)) (h2 : em = false → ([62] : Bs).isPrefixOf (S.drop j) = true) :
    StOK S (if 20 ≤ o.length then .no 5 else if em = true then .ok ((S.drop j).drop 2, o, kk, (l ++ [(0, nm, [], as_)]) ++ [(1, nm, [], [])]) else .ok ((S.drop j).drop 1, o ++ [nm], kk, l ++ [(0, nm, [], as_)]))
      (dk F S o l nm (j : Int) 0 as_ (kk : Int)) := by
  have hn : (o ++ [nm]).length = o.length + 1 := by simp
  unfold dk eR
  rw [dS hS hj (by simp), ← h1, be, dI (by omega), dI (by simp; omega), bA]
  by_cases h : 20 ≤ o.length
  · rw [bT (by omega), ei, be, if_pos h, pB]
    exact ⟨_, _, _, _, rfl⟩
  · rw [bF (by omega), if_neg h]
    unfold eS
    rw [dI (by simp; omega), bA, bP (by omega)]
    cases em with
    | true =>
      obtain ⟨q1, q2⟩ := iv h1.symm hj
      have q1' : j + 2 ≤ S.length := q1
      rw [fE, if_pos rfl, bP (by omega), om (by omega) (by simp; omega), if_pos (by simp), dv]
      refine ⟨j + 2, q1', by rw [List.drop_drop], ?_⟩
      rw [show (j : Int) + 1 + 1 = ((j + 2 : Nat) : Int) by omega]
      simp
    | false =>
      obtain ⟨q1, q2⟩ := iv (h2 rfl) hj
      have q1' : j + 1 ≤ S.length := q1
      rw [cK, if_neg (by decide)]
      exact ⟨j + 1, q1', by rw [List.drop_drop], rfl⟩
theorem tQ {nm : Bs} {as_ : List At} {em : Bool} {j kk : Nat} (hk : kk ≤ 1) (hj : j ≤ S.length) (ho : o.length ≤ 20) (hl : l.length ≤ 999000) (h1 : em = ([47, 62] : Bs).isPrefixOf (S.drop j)) (h2 : em = false → ([62] : Bs).isPrefixOf (S.drop j) = true) :
    StOK S (mF nm as_ em (if em = true then (S.drop j).drop 2 else (S.drop j).drop 1) o kk l) (cM F S o (kk : Int) l nm (j : Int) 0 as_) := by
  have key : mF nm as_ em (if em = true then (S.drop j).drop 2 else (S.drop j).drop 1) o kk l = (if o = [] ∧ kk ≠ 0 then Rx.no 2 else if 20 ≤ o.length then .no 5 else if em = true then .ok ((S.drop j).drop 2, o, (if o = [] then kk + 1 else kk), (l ++ [(0, nm, [], as_)]) ++ [(1, nm, [], [])]) else .ok ((S.drop j).drop 1, o ++ [nm], (if o = [] then kk + 1 else kk), l ++ [(0, nm, [], as_)])) := by
    unfold mF
    cases em <;> rfl
  rw [key]
  unfold cM
  rw [decide_eq_true (p := (0 : Int) = 0) rfl, bnT]
  by_cases h : o = []
  · rw [bT (by rw [h]; rfl), bP (by omega), if_pos h]
    by_cases g : kk = 0
    · rw [bF (by omega), if_neg fun q => q.2 g, show (kk : Int) + 1 = ((kk + 1 : Nat) : Int) by omega]
      exact tR hF hS hj ho hl h1 h2
    · rw [bT (by omega), ei, be, if_pos ⟨h, g⟩, pB]
      exact ⟨_, _, _, _, rfl⟩
  · have := List.length_pos_iff.2 h
    rw [bF (by omega), if_neg (fun q => h q.1), if_neg h]
    exact tR hF hS hj ho hl h1 h2
theorem qe {nm : Bs} {kk : Nat} (hk : kk ≤ 1) (ho : o.length ≤ 20) (hl : l.length ≤ 999000) : ∀ (m : Nat) (as_ : List At) (j : Nat), S.length - j + 1 < m → j ≤ S.length → as_.length + (S.length - j) ≤ 100000 →
    StOK S (elemP' F nm o kk l (io (dec F) ((S.drop j).length + 1) as_ (S.drop j))) (bz F S o (kk : Int) l nm m (as_, (j : Int), 0))
  | 0, as_, j, h, _, _ => by omega
  | m + 1, as_, j, h, hj, hs => by
    show StOK S _ (dl F S o (kk : Int) l nm (bz F S o (kk : Int) l nm m) as_ (j : Int) 0);obtain ⟨h1, h2, h3⟩ := qc (F := F) hS (o := o) (k := (kk : Int)) (l := l) (e := 0) (by omega) hj
    have htw := tw_le dD (S.drop j)
    unfold dl io
    rw [bT rfl, h1, bi, dS hS h2 (by simp), be, dS hS h2 (by simp), be, h3]
    rw [← h3]
    by_cases q1 : ([62] : Bs).isPrefixOf (S.drop (j + ((S.drop j).takeWhile dD).length)) = true
    · rw [q1, Bool.true_or, fE, if_pos rfl]
      have q2 : ([47, 62] : Bs).isPrefixOf (S.drop (j + ((S.drop j).takeWhile dD).length)) = false := by
        rw [(iv q1 h2).2]; rfl
      have := tQ hF hS (o := o) (l := l) (nm := nm) (as_ := as_) (em := false) hk h2 ho hl q2.symm fun _ => q1
      exact this
    · rw [eq_false_of_ne_true q1, Bool.false_or, if_neg (by decide)]
      by_cases q2 : ([47, 62] : Bs).isPrefixOf (S.drop (j + ((S.drop j).takeWhile dD).length)) = true
      · rw [q2, fE, if_pos rfl]
        have := tQ hF hS (o := o) (l := l) (nm := nm) (as_ := as_) (em := true) hk h2 ho hl q2.symm fun z => by cases z
        exact this
      · rw [eq_false_of_ne_true q2, cK, if_neg (by decide)]
        have e2 : (S.drop (j + ((S.drop j).takeWhile dD).length)).length = (S.drop j).length ↔ ((S.drop j).takeWhile dD).length = 0 := by
          rw [h3]; omega
        by_cases q3 : ((S.drop j).takeWhile dD).length = 0
        · rw [if_pos (e2.2 q3), decide_eq_true (by omega), Bool.true_or, fE, ei, be, pB]
          exact ⟨_, _, _, _, rfl⟩
        · rw [if_neg (fun z => q3 (e2.1 z)), decide_eq_false (p := (((S.drop j).takeWhile dD).length : Int) = 0) (by omega), Bool.false_or]
          generalize ((S.drop j).takeWhile dD).length = c at *
          have hat := rattr_eq hF hS (o := o) (k := (kk : Int)) (l := l) h2
          by_cases q4 : S.length ≤ j + c
          · rw [bT (by omega), ei, be, pB]
            have : lE (dec F) (S.drop (j + c)) = none := by
              rw [aR (by omega)]; rfl
            rw [this]
            exact ⟨_, _, _, _, rfl⟩
          · rw [bF (by omega)]
            cases ea : lE (dec F) (S.drop (j + c)) with
            | none =>
              rw [ea] at hat
              obtain ⟨n, v, x, hx⟩ := hat
              rw [hx]
              show StOK S (.no 2) (cB F S o (kk : Int) l as_ n v x (bz F S o (kk : Int) l nm m) F (((0 : Nat) : Int), 2))
              rw [mo hF hS as_ (by omega) n v x _ F 0 2 (by omega) (by omega), fl_n (by decide), ite_self]
              unfold dj
              obtain ⟨m', hm'⟩ : ∃ m', m = m' + 1 := ⟨m - 1, by omega⟩
              rw [dI (by simp; omega), bA, hm', oh hF hS (by decide)]
              exact ⟨_, _, _, _, rfl⟩
            | some y =>
              obtain ⟨a, r⟩ := y
              have hr := ld ea
              rw [ea] at hat
              obtain ⟨x, hx1, hx2, hx3⟩ := hat
              rw [hx3]
              show StOK S _ (cB F S o (kk : Int) l as_ a.1 a.2 (x : Int) (bz F S o (kk : Int) l nm m) F (((0 : Nat) : Int), 0))
              rw [mo hF hS as_ (by omega) a.1 a.2 (x : Int) _ F 0 0 (by omega) (by omega), List.drop_zero, pB]
              unfold dj
              rw [dI (by simp; omega), bA]
              simp only []
              rw [← hx2] at hr ⊢
              simp only [List.length_drop] at hr
              cases hc : as_.any fun y => decide (y.1 = a.1) with
              | true =>
                obtain ⟨m', hm'⟩ : ∃ m', m = m' + 1 := ⟨m - 1, by omega⟩
                rw [if_pos rfl, if_pos rfl, hm', oh hF hS (by decide)]
                exact ⟨_, _, _, _, rfl⟩
              | false =>
                rw [if_neg (by decide), if_neg (by decide)]
                rw [mb (k := (S.drop j).length) (m := (S.drop x).length + 1) (by simp only [List.length_drop]; omega) (by omega)]
                exact qe hk ho hl m (as_ ++ [a]) x (by omega) hx1 (by simp; omega)
theorem tv {i kk : Nat} (hi : i + 1 ≤ S.length) (hk : kk ≤ 1) (ho : o.length ≤ 20) (hl : l.length ≤ 999000) : StOK S (mJ (dec F) (S.drop (i + 1)) o kk l) (gt F S (i : Int) o (kk : Int) l 0) := by
  unfold gt mJ
  rw [bP (by omega), bR]
  cases hn : fD (S.drop (i + 1)) with
  | none =>
    obtain ⟨n, j, h1, h2⟩ := qw hF hS (o := o) (k := (kk : Int)) (l := l) (e := 0) hi hn;obtain ⟨m', hm'⟩ : ∃ m', F = m' + 1 := ⟨F - 1, by omega⟩
    rw [h1, dv, pB]
    have : bz F S o (kk : Int) l n F ([], (j : Int), 2) = some ((j : Int), o, (kk : Int), l, 2) := by
      conv => lhs; arg 7; rw [hm']
      exact oh hF hS (by decide) m'
    exact ⟨_, _, _, _, this⟩
  | some y =>
    obtain ⟨n, r⟩ := y;obtain ⟨h1, h2, h2'⟩ := qv hF hS (o := o) (k := (kk : Int)) (l := l) (e := 0) hi hn
    rw [h1, dv]
    have := qe hF hS (o := o) (l := l) (nm := n) hk ho hl F [] (i + 1 + n.length) (by omega) h2 (by simp; omega)
    rw [h2'] at this
    simp only []
    revert this
    cases io (dec F) (r.length + 1) [] r with
    | none => exact id
    | some z => exact id
end
end Go.Xm
namespace Go.Xm
open Go.Pv Go.Av
section
variable {F : Nat} (hF : 1500000 < F) {S : Bs} (hS : S.length ≤ 100000) {o : List Bs} {l : List Tok}
include hF hS
theorem qu {p q : Bs} {i kk : Nat} (hp : p.length ≤ 100) (hp0 : p ≠ []) (hq : i + q.length ≤ S.length) (e : Int) (he : e = ((i + q.length : Nat) : Int)) :
    StOK S (iW p ((S.drop i).drop q.length) o kk l) (grd (okI e) <| pg (dG F S e o (kk : Int) l 0 p) fun x40 x41 x42 => some (x41, o, (kk : Int), l, x42)) := by
  subst he
  rw [bP (by omega), List.drop_drop]
  unfold iW
  cases h : iV p (S.drop (i + q.length)) with
  | none =>
    rw [ml hS hp hp0 (by omega) hq h, dv, pB]
    exact ⟨_, _, _, _, rfl⟩
  | some y =>
    obtain ⟨a, b⟩ := y;obtain ⟨h1, h2, h3⟩ := mj (F := F) (o := o) (k := (kk : Int)) (l := l) (e := 0) hS hp hp0 (by omega) hq h
    rw [h1, dv]
    exact ⟨_, h2, h3, rfl⟩
theorem rstep_eq {i kk : Nat} (hi : i < S.length) (hk : kk ≤ 1) (ho : o.length ≤ 20) (hl : l.length ≤ 999000) : StOK S (jT (dec F) (S.drop i) o kk l) (jE F S (i : Int) o (kk : Int) l 0) := by
  have hi' : i ≤ S.length := by omega
  unfold jE jT
  rw [dS hS hi' (by simp), be, dS hS hi' (by simp), be, dS hS hi' (by simp), be, dS hS hi' (by simp), be, dS hS hi' (by simp), be, cz (by omega), bA, dH hi]
  unfold gr
  have h60 : ([60] : Bs).isPrefixOf (S.drop i) = decide (S[i] = 60) := by
    rw [aG hi]
    by_cases c : S[i] = 60
    · rw [c]; rfl
    · have : (60 == S[i]) = false := by simpa using fun q => c q.symm
      rw [decide_eq_false c]
      simp [List.isPrefixOf, this]
  rw [h60]
  by_cases c : S[i] = 60
  · rw [decide_eq_true c, qF, cK, if_neg (by decide)]
    have hd1 : (S.drop i).drop 1 = S.drop (i + 1) := List.drop_drop
    have hd2 : (S.drop i).drop 2 = S.drop (i + 2) := List.drop_drop
    by_cases h2 : ([60, 33, 45, 45] : Bs).isPrefixOf (S.drop i) = true
    · rw [h2, fE, if_pos rfl]
      exact qu hF hS (q := [60, 33, 45, 45]) (by simp) (by simp) (iv h2 hi').1 _ (by simp)
    · rw [eq_false_of_ne_true h2, cK, if_neg (by decide)]
      by_cases h3 : ([60, 63] : Bs).isPrefixOf (S.drop i) = true
      · rw [h3, fE, if_pos rfl]
        exact qu hF hS (q := [60, 63]) (by simp) (by simp) (iv h3 hi').1 _ (by simp)
      · rw [eq_false_of_ne_true h3, cK, if_neg (by decide)]
        by_cases h4 : ([60, 33, 91, 67, 68, 65, 84, 65, 91] : Bs).isPrefixOf (S.drop i) = true
        · rw [h4, fE, if_pos rfl]
          have hq : i + 9 ≤ S.length := (iv h4 hi').1
          rw [bP (by omega), show (i : Int) + 9 = ((i + 9 : Nat) : Int) by omega, List.drop_drop]
          unfold oc
          cases h : iV [93, 93, 62] (S.drop (i + 9)) with
          | none =>
            rw [ml hS (by simp) (by simp) (by omega) hq h, dv, pB]
            unfold ew
            by_cases g : o = []
            · rw [bT (by rw [g]; rfl), ei, be, lg (by omega), be, fl_n (by decide)]
              exact ⟨_, _, _, _, rfl⟩
            · have := List.length_pos_iff.2 g
              rw [bF (by omega), lg (by omega), be]
              exact ⟨_, _, _, _, rfl⟩
          | some y =>
            obtain ⟨a, b⟩ := y;obtain ⟨q1, q2, q3⟩ := mj (F := F) (o := o) (k := (kk : Int)) (l := l) (e := 0) hS (by simp) (by simp) (by omega) hq h
            rw [q1, dv]
            unfold ew
            simp only []
            by_cases g : o = []
            · rw [bT (by rw [g]; rfl), ei, be, lg (by omega), be, if_pos g, pB]
              exact ⟨_, _, _, _, rfl⟩
            · have := List.length_pos_iff.2 g
              rw [bF (by omega), lg (by omega), be, if_neg g, if_neg g]
              exact ⟨_, q2, q3, rfl⟩
        · rw [eq_false_of_ne_true h4, cK, if_neg (by decide)]
          by_cases h5 : ([60, 33] : Bs).isPrefixOf (S.drop i) = true
          · rw [h5, fE, if_pos rfl]
            exact qu hF hS (q := [60, 33]) (by simp) (by simp) (iv h5 hi').1 _ (by simp)
          · rw [eq_false_of_ne_true h5, cK, if_neg (by decide)]
            by_cases h6 : ([60, 47] : Bs).isPrefixOf (S.drop i) = true
            · rw [h6, fE, if_pos rfl, hd2]
              have := uB hF hS (o := o) (k := (kk : Int)) (l := l) (kk := kk) (iv h6 hi').1 ho (by omega)
              revert this
              cases re (S.drop (i + 2)) o kk l with
              | ok x =>
                rintro ⟨j, a1, a2, a3, a4⟩
                rw [a4, bnd4]
                exact ⟨j, a1, a2, by rw [a3]⟩
              | no e =>
                rintro ⟨j, o', l', a4⟩
                rw [a4, bnd4]
                exact ⟨_, _, _, _, rfl⟩
            · rw [eq_false_of_ne_true h6, cK, if_neg (by decide), hd1]
              have := tv hF hS (o := o) (l := l) (i := i) (by omega) hk ho hl
              revert this
              cases mJ (dec F) (S.drop (i + 1)) o kk l with
              | ok x =>
                rintro ⟨j, a1, a2, a4⟩
                rw [a4, bnd5]
                exact ⟨j, a1, a2, rfl⟩
              | no e =>
                rintro ⟨j, o', k', l', a4⟩
                rw [a4, bnd5]
                exact ⟨_, _, _, _, rfl⟩
  · rw [decide_eq_false c, qG, fE, if_pos rfl]
    have := vQ hF hS (o := o) (k := (kk : Int)) (l := l) (kk := kk) hi' (by omega)
    revert this
    cases jY (dec F) (S.drop i) o kk l with
    | ok x =>
      rintro ⟨j, a1, a2, a3, a4, a5⟩
      rw [a5, dv]
      exact ⟨j, a1, a2, by rw [a3, a4]⟩
    | no e =>
      rintro ⟨j, a5⟩
      rw [a5, dv]
      exact ⟨_, _, _, _, rfl⟩
theorem rtok_err {j k e : Int} (he : e ≠ 0) (m : Nat) : cX F S (m + 1) (j, o, k, l, e) = some ([], e) := by
  show dP F S (cX F S m) j o k l e = _
  unfold dP eL
  rw [decide_eq_false he, Bool.and_false, cK]
  unfold eM
  rw [decide_eq_false he, Bool.false_and, cK]
  unfold eN
  rw [decide_eq_false he, bnF]
end
theorem rt {F : Nat} (hF : 1500000 < F) {S : Bs} (hS : S.length ≤ 100000) : ∀ (n m i : Nat) (o : List Bs) (k : Nat) (l : List Tok), S.length - i + 1 < n → (S.drop i).length < m → i ≤ S.length → Kp o k l (900000 - 2 * (S.drop i).length) →
    cX F S n ((i : Int), o, (k : Int), l, 0) = some (tokE (pf (dec F) m (S.drop i, o, k, l)))
  | 0, _, i, o, k, l, h, _, _, _ => by omega
  | _, 0, i, o, k, l, _, h, _, _ => by omega
  | n + 1, m + 1, i, o, k, l, hn, hm, hi, hk => by
    show dP F S (cX F S n) (i : Int) o (k : Int) l 0 = _
    unfold dP eL pf
    rw [decide_eq_true (p := (0 : Int) = 0) rfl, Bool.and_true]
    by_cases h0 : i < S.length
    · have hne : S.drop i ≠ [] := by rw [aG h0]; exact List.cons_ne_nil _ _
      rw [bT (by omega), if_neg hne]
      have hs := rstep_eq hF hS (o := o) (l := l) h0 hk.2.1 hk.1 (by have := hk.2.2; omega)
      revert hs
      cases e : jT (dec F) (S.drop i) o k l with
      | no e =>
        rintro ⟨j, o', k', l', a⟩
        rw [a, bnd5]
        obtain ⟨n', hn'⟩ : ∃ n', n = n' + 1 := ⟨n - 1, by omega⟩
        simp only []
        rw [hn', rtok_err hF hS (step_no e)]
        rfl
      | ok x =>
        rintro ⟨j, a1, a2, a⟩
        rw [a, bnd5]
        have h1 := nE hne e
        have h2 := sO hk e
        obtain ⟨s', o', k', l'⟩ := x
        simp only at a2 h1 h2 ⊢
        subst a2
        simp only [List.length_drop] at h1 h2 hm
        exact rt hF hS n m j o' k' l' (by omega) (by simp only [List.length_drop]; omega) a1 ⟨h2.1, h2.2.1, by have := h2.2.2; simp only [List.length_drop]; omega⟩
    · rw [bF (by omega), if_pos (aR (by omega))]
      unfold eM tokE
      rw [decide_eq_true (p := (0 : Int) = 0) rfl, Bool.true_and]
      simp only []
      by_cases g : o = [] ∧ 0 < k
      · rw [if_pos g, g.1, decide_eq_false (p := (0 : Int) < ((([] : List Bs).length : Nat) : Int)) (by simp), decide_eq_false (p := (k : Int) = 0) (by have := g.2; omega)]; rfl
      · rw [if_neg g]
        have : (decide ((0 : Int) < (o.length : Int)) || decide ((k : Int) = 0)) = true := by
          by_cases q : o = []
          · have : k = 0 := Classical.byContradiction fun z => g ⟨q, by omega⟩
            rw [decide_eq_true (p := (k : Int) = 0) (by omega), Bool.or_true]
          · have := List.length_pos_iff.2 q
            rw [decide_eq_true (p := (0 : Int) < (o.length : Int)) (by omega), Bool.true_or]
        rw [this, fE]; rfl
theorem rtok_eq {F : Nat} (hF : 1500000 < F) {S : Bs} (hS : S.length ≤ 100000) : je F S = some (tokP (dec F) S) := by
  unfold je
  rw [bF (by omega), pC]
  have := rt hF hS F (S.length + 1) 0 [] 0 [] (by omega) (by simp) (by omega) ⟨by simp, by omega, by simp⟩
  rw [List.drop_zero] at this
  exact this
theorem tokens_t (F : Nat) (hF : 1500000 < F) (hw : jH F = some true) (s : Bs) : fS F s = some true := by
  unfold fS
  rw [hw, be, qF, Bool.false_or]
  by_cases h : 2000 < s.length
  · rw [bT (by omega)]
  · rw [bF (by omega), tok_eq hF (by omega), rtok_eq hF (by omega)]
    rw [show tokP (dec F) s = ((tokP (dec F) s).1, (tokP (dec F) s).2) from rfl, bi, bi]
    rw [rSame_eq F _ _ (by have := tok_len (d := dec F) (s := s) (by omega); omega) (tok_ats (by omega)) (by omega), be, decide_eq_true rfl, decide_eq_true rfl]; rfl
theorem XmlTokens_t (s : Bs) : fS 2000000 s = some true := tokens_t 2000000 (by omega) awake s
end Go.Xm
