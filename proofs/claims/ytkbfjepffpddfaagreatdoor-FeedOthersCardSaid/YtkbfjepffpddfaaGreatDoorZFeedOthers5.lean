/-
  Texts in one (only what FeedOthers needs): RefEP, PnTrim, FdA, XmN, FdB, PnPlainE, PnLoose, PnNum, PnSign, PnGone, PnLooseEq, PnLooseB, PnApp, XmP, XmQ, XmS, XmT, FdK, FdN, FdC, FdO, FdF, FdQ, FdU, FdR, FdS, XmW, XmR, FdD, FdV, XmO, FdE, FdG, FdH, FdI, FdY, FdOt.
-/
import Derived.Test.YtkbfjepffpddfaaGreatDoorZFeedOthers4
import Derived.Laws.RangeAny
import Derived.Lib.IndexMore
set_option linter.unusedVariables false
set_option linter.unusedSimpArgs false
set_option linter.unusedSectionVars false
namespace Go.Pv
def fS (F : Nat) (a1 : Int) : Option ((List UInt8) × Bool) :=
bif ((!((((decide (a1 = 9)) || (decide (a1 = 10))) || (decide (a1 = 13))) || ((decide (32 ≤ a1)) && (decide (a1 ≤ 55295))))) && (!((decide (57344 ≤ a1)) && (decide (a1 ≤ 65533))))) && (!((decide (65536 ≤ a1)) && (decide (a1 ≤ 1114111)))) then
  some (([] : List UInt8), false)
else
  bif decide (a1 < 128) then
    some (([Go.Av.toB a1] : List UInt8), true)
  else
    bif decide (a1 < 2048) then
      grd (fJ a1 64) <|
      grd (okI (192 + (a1 / 64))) <|
      grd (fJ a1 64) <|
      grd (okI (128 + (a1 % 64))) <|
      some (([Go.Av.toB (192 + (a1 / 64)), Go.Av.toB (128 + (a1 % 64))] : List UInt8), true)
    else
      bif decide (a1 < 65536) then
        grd (fJ a1 4096) <|
        grd (okI (224 + (a1 / 4096))) <|
        grd (fJ a1 64) <|
        grd (fJ (a1 / 64) 64) <|
        grd (okI (128 + ((a1 / 64) % 64))) <|
        grd (fJ a1 64) <|
        grd (okI (128 + (a1 % 64))) <|
        some (([Go.Av.toB (224 + (a1 / 4096)), Go.Av.toB (128 + ((a1 / 64) % 64)), Go.Av.toB (128 + (a1 % 64))] : List UInt8), true)
      else
        grd (fJ a1 262144) <|
        grd (okI (240 + (a1 / 262144))) <|
        grd (fJ a1 4096) <|
        grd (fJ (a1 / 4096) 64) <|
        grd (okI (128 + ((a1 / 4096) % 64))) <|
        grd (fJ a1 64) <|
        grd (fJ (a1 / 64) 64) <|
        grd (okI (128 + ((a1 / 64) % 64))) <|
        grd (fJ a1 64) <|
        grd (okI (128 + (a1 % 64))) <|
        some (([Go.Av.toB (240 + (a1 / 262144)), Go.Av.toB (128 + ((a1 / 4096) % 64)), Go.Av.toB (128 + ((a1 / 64) % 64)), Go.Av.toB (128 + (a1 % 64))] : List UInt8), true)
def lJ (F : Nat) (a1 : UInt8) : Option Int :=
bif (decide (48 ≤ (a1.toNat : Int))) && (decide ((a1.toNat : Int) ≤ 57)) then
  some ((a1 - 48).toNat : Int)
else
  bif (decide (97 ≤ (a1.toNat : Int))) && (decide ((a1.toNat : Int) ≤ 102)) then
    grd (okI (((a1 - 97).toNat : Int) + 10)) <|
    some (((a1 - 97).toNat : Int) + 10)
  else
    bif (decide (65 ≤ (a1.toNat : Int))) && (decide ((a1.toNat : Int) ≤ 70)) then
      grd (okI (((a1 - 65).toNat : Int) + 10)) <|
      some (((a1 - 65).toNat : Int) + 10)
    else
      some 99
def mV (a1 : List UInt8) (y21 : Int) : Option Int :=
bif decide ((a1.length : Int) = 0) then
  some (-1)
else
  some y21
def kx (y5 : Int) (rec6 : (Int × Int) → Option Int) (y18 : Int) : Option Int :=
grd (okI (y5 + 1)) <|
rec6 (y18, y5 + 1)
def kz (F : Nat) (a1 : List UInt8) (a2 : Int) (rec6 : (Int × Int) → Option Int) (y4 : Int) (y5 : Int) : Option Int :=
bif decide (y5 < (a1.length : Int)) then
  grd (dq y5 a1.length) <|
  lt (at_ a1 y5) fun x10 =>
  bnd (lJ F x10) fun x12 =>
  bif decide (a2 ≤ x12) then
    some (-1)
  else
    grd (okI (a2 * y4)) <|
    grd (okI ((a2 * y4) + x12)) <|
    bif decide (1114111 < (a2 * y4) + x12) then
      kx y5 rec6 1114112
    else
      kx y5 rec6 ((a2 * y4) + x12)
else
  mV a1 y4
def ky (F : Nat) (a1 : List UInt8) (a2 : Int) (n : Nat) : (Int × Int) → Option Int :=
  loop (fun rec x => kz F a1 a2 rec x.1 x.2) n
def gQ (F : Nat) (a1 : List UInt8) (a2 : Int) : Option Int :=
ky F a1 a2 F (0, 0)
def lS (F : Nat) (y28 : Int) : Option ((List UInt8) × Bool) :=
fy (fS F y28) fun x30 x31 =>
some (x30, x31)
def lh (F : Nat) (a1 : List UInt8) : Option ((List UInt8) × Bool) :=
bif decide (a1 = ([97, 109, 112] : List UInt8)) then
  some (([38] : List UInt8), true)
else
  bif decide (a1 = ([108, 116] : List UInt8)) then
    some (([60] : List UInt8), true)
  else
    bif decide (a1 = ([103, 116] : List UInt8)) then
      some (([62] : List UInt8), true)
    else
      bif decide (a1 = ([113, 117, 111, 116] : List UInt8)) then
        some (([34] : List UInt8), true)
      else
        bif decide (a1 = ([97, 112, 111, 115] : List UInt8)) then
          some (([39] : List UInt8), true)
        else
          fv (!(decide ((a1.length : Int) < 2))) (dq 0 a1.length) <|
          lt (at_ a1 0) fun x11 =>
          bif (decide ((a1.length : Int) < 2)) || (!decide (x11 = 35)) then
            some (([] : List UInt8), false)
          else
            grd (kF 1 a1.length) <|
            lt (cV a1 1) fun x15 =>
            bnd (gQ F x15 10) fun x17 =>
            grd (dq 1 a1.length) <|
            lt (at_ a1 1) fun x20 =>
            bif decide (x20 = 120) then
              grd (kF 2 a1.length) <|
              lt (cV a1 2) fun x24 =>
              bnd (gQ F x24 16) fun x26 =>
              lS F x26
            else
              lS F x17
end Go.Pv
namespace Go.Pn
open Go.Pv Go.Av
abbrev Bs := List UInt8
def bl (c : UInt8) : Bool := (((decide (c = 9)) || (decide (c = 10))) || (decide (c = 13))) || (decide (c = 32))
mutual
/-- Behind a sign. -/
def T1 : Bs → Bs
  | [] => []
  | c :: r => bif bl c then T2 r else c :: T1 r
/-- In a gap behind a sign. -/
def T2 : Bs → Bs
  | [] => []
  | c :: r => bif bl c then T2 r else 32 :: c :: T1 r
end
def trim : Bs → Bs
  | [] => []
  | c :: r => bif bl c then trim r else c :: T1 r
def tl (out : Bs) (gap : Bool) (r : Bs) : Bs := if out = [] then trim r else bif gap then T2 r else T1 r
def wgo (cur : Bs) : Bs → List Bs
  | [] => if cur = [] then [] else [cur]
  | c :: r => bif bl c then (if cur = [] then wgo [] r else cur :: wgo [] r) else wgo (cur ++ [c]) r
theorem rest_wgo (s : Bs) : (∀ cur : Bs, cur ≠ [] → Str.join [32] (wgo cur s) = cur ++ T1 s) ∧ Str.join [32] (wgo [] s) = trim s ∧ Str.rest [32] (wgo [] s) = T2 s := by
  induction s with
  | nil => exact ⟨fun cur h => by simp [wgo, h, Str.join, Str.rest, T1], by simp [wgo, Str.join, trim], by simp [wgo, Str.rest, T2]⟩
  | cons c r ih =>
    obtain ⟨h1, h2, h3⟩ := ih
    cases hb : bl c with
    | true =>
      refine ⟨fun cur h => ?_, ?_, ?_⟩
      · simp [wgo, hb, h, Str.join, T1, h3]
      · simp [wgo, hb, trim, h2]
      · simp [wgo, hb, T2, h3]
    | false =>
      have h4 := h1 [c] (by simp)
      refine ⟨fun cur h => ?_, ?_, ?_⟩
      · simp only [wgo, hb, cond_false, T1]
        rw [h1 _ (by simp)]; simp
      · simp only [wgo, hb, cond_false, trim, List.nil_append]
        rw [h4]; rfl
      · simp only [wgo, hb, cond_false, T2, List.nil_append]
        have : Str.rest [32] (wgo [c] r) = 32 :: Str.join [32] (wgo [c] r) := by
          cases hw : wgo [c] r with
          | nil => rw [hw] at h4; simp [Str.join] at h4
          | cons w ws => simp [Str.rest, Str.join]
        rw [this, h4]; rfl
theorem join_wgo (s : Bs) : Str.join [32] (wgo [] s) = trim s := (rest_wgo s).2.1
theorem yz (s : Bs) : ∀ cur : Bs, Str.total (wgo cur s) + (wgo cur s).length ≤ cur.length + s.length + 1 := by
  induction s with
  | nil => intro cur; by_cases h : cur = [] <;> simp [wgo, h, Str.total]
  | cons c r ih =>
    intro cur
    cases hb : bl c with
    | true =>
      have := ih []
      by_cases h : cur = []
      · simp [wgo, hb, h] at this ⊢; omega
      · simp [wgo, hb, h, Str.total] at this ⊢; omega
    | false =>
      have := ih (cur ++ [c])
      simp [wgo, hb] at this ⊢; omega
theorem py (F : Nat) (c : UInt8) : mB F c = some (bl c) := by
  have : ∀ n : Nat, n < 256 → decide (0 ≤ Go.Lib.indexByte ([9, 10, 13, 32] : List UInt8) (UInt8.ofNat n)) = bl (UInt8.ofNat n) := by decide +kernel
  have h := this c.toNat c.toNat_lt
  rw [UInt8.ofNat_toNat] at h
  unfold mB
  simp only [bi]
  rw [h]
theorem ent_end (F : Nat) (s : Bs) (hs : s.length ≤ 1000000) (n : Nat) (l : List Bs) (hl : l.length + Str.total l ≤ 100000000) (hn1 : n ≥ 1) : eh F s n (l, (-1), ((s.length + 1 : Nat) : Int)) = some (Str.join [32] l) := by
  obtain ⟨m, rfl⟩ : ∃ m, n = m + 1 := ⟨n - 1, by omega⟩;show gH F s (eh F s m) l (-1) ((s.length + 1 : Nat) : Int) = _
  unfold gH kh
  have h1 : ¬ (((s.length + 1 : Nat) : Int) ≤ (s.length : Int)) := by omega
  rw [bF h1, grd_Join (by simp; omega), bi]
theorem ent_loop (F : Nat) (s : Bs) (hs : s.length ≤ 1000000) : ∀ (n : Nat) (l : List Bs) (fr : Int) (cur : Bs) (i : Nat), s.length + 1 - i < n → i ≤ s.length → l.length ≤ i →
    ((fr = -1 ∧ cur = []) ∨ ∃ f : Nat, fr = (f : Int) ∧ f < i ∧ cur = (s.take i).drop f) → (l ++ wgo cur (s.drop i)).length + Str.total (l ++ wgo cur (s.drop i)) ≤ 100000000 →
    eh F s n (l, fr, (i : Int)) = some (Str.join [32] (l ++ wgo cur (s.drop i))) := by
  intro n
  induction n with
  | zero => intro l fr cur i h; omega
  | succ n ih =>
    intro l fr cur i hn hi hl hf hJ;show gH F s (eh F s n) l fr (i : Int) = _
    unfold gH gG
    have hend : ∀ l : List Bs, l.length + Str.total l ≤ 100000000 → n ≥ 1 → eh F s n (l, (-1), ((s.length + 1 : Nat) : Int)) = some (Str.join [32] l) := ent_end F s hs n
    by_cases h : i < s.length
    · have hd : s.drop i = s[i] :: s.drop (i + 1) := aZ h
      have hne : decide ((i : Int) = (s.length : Int)) = false := decide_eq_false (by omega)
      simp (disch := omega) only [bT, hne, Bool.not_false, kP, cQ, bi, fN h, py, xT, aR, Bool.false_or]
      rw [hd] at hJ ⊢
      cases hb : bl s[i] with
      | true =>
        simp only [wgo, hb, cond_true] at hJ ⊢
        rcases hf with ⟨rfl, rfl⟩ | ⟨f, rfl, hfi, rfl⟩
        · simp only [if_true] at hJ ⊢
          simp (disch := omega) only [Bool.not_true, Bool.false_and, cond_false, Bool.true_and, bF, bR, cq]
          exact ih l (-1) [] (i + 1) (by omega) (by omega) (by omega) (.inl ⟨rfl, rfl⟩) hJ
        · have hc : (s.take i).drop f ≠ [] := by
            intro h2; have := congrArg List.length h2; simp at this; omega
          simp only [hc, if_false] at hJ ⊢
          simp (disch := (first | omega | (simp; omega))) only [Bool.not_true, Bool.false_and, cond_false, Bool.true_and, bT, pS, dI, rk, bR, cq]
          rw [ih (l ++ [(s.take i).drop f]) (-1) [] (i + 1) (by omega) (by omega) (by simp; omega) (.inl ⟨rfl, rfl⟩) (by simpa using hJ)]
          simp
      | false =>
        simp only [wgo, hb, cond_false] at hJ ⊢
        rcases hf with ⟨rfl, rfl⟩ | ⟨f, rfl, hfi, rfl⟩
        · simp (disch := omega) only [Bool.not_false, Bool.true_and, bT, bR, cq]
          have hc : ([] : Bs) ++ [s[i]] = (s.take (i + 1)).drop i := by
            rw [List.take_succ_eq_append_getElem h, List.drop_append_of_le_length (by simp; omega), bc (by simp; omega)]
          rw [hc] at hJ ⊢
          exact ih l (i : Int) _ (i + 1) (by omega) (by omega) (by omega) (.inr ⟨i, rfl, by omega, rfl⟩) hJ
        · simp (disch := omega) only [Bool.not_false, Bool.true_and, bF, Bool.false_and, cond_false, bR, cq]
          have hc : (s.take i).drop f ++ [s[i]] = (s.take (i + 1)).drop f := by
            rw [List.take_succ_eq_append_getElem h, List.drop_append_of_le_length (by simp; omega)]
          rw [hc] at hJ ⊢
          exact ih l (f : Int) _ (i + 1) (by omega) (by omega) (by omega) (.inr ⟨f, rfl, by omega, rfl⟩) hJ
    · have hi2 : i = s.length := by omega
      subst hi2
      have hyes : decide ((s.length : Int) = (s.length : Int)) = true := decide_eq_true rfl
      simp (disch := omega) only [bT, hyes, Bool.not_true, eE, bi, py, lC, Bool.true_or, List.drop_length] at hJ ⊢
      rcases hf with ⟨rfl, rfl⟩ | ⟨f, rfl, hfi, rfl⟩
      · simp (disch := omega) only [Bool.false_and, cond_false, Bool.true_and, bF, bR, cq]
        rw [hend l (by simpa [wgo] using hJ) (by omega)]
        simp [wgo, eE, lC]
      · have hc : (s.take s.length).drop f ≠ [] := by
          intro h2; have := congrArg List.length h2; simp at this; omega
        simp only [wgo, hc, if_false] at hJ ⊢
        simp (disch := (first | omega | (simp; omega))) only [Bool.false_and, cond_false, Bool.true_and, bT, pS, dI, rk, bR, cq]
        exact hend _ hJ (by omega)
theorem ent_Trim_eq (F : Nat) (s : Bs) (hs : s.length ≤ 1000000) (hF : s.length + 1 < F) : mG F s = some (trim s) := by
  have h1 := yz s []
  have := ent_loop F s hs F [] (-1) [] 0 (by omega) (by omega) (by simp) (.inl ⟨rfl, rfl⟩) (by simp at h1 ⊢; omega)
  rw [← join_wgo]
  simpa [mG] using this
end Go.Pn
namespace Go.Fd
open Go.Xm (Bs At Tok)
abbrev El := List Tok
def oA (s : Bs) : Bs := (s.reverse.takeWhile fun c => decide (c ≠ 58)).reverse
def pz (x : El) : Bs := match x with | [] => [] | t :: _ => oA t.2.1
def bS : Int → El → El → List El
  | _, _, [] => []
  | d, cur, t :: r =>
    if t.1 = 0 then (if d + 1 = 2 then bS (d + 1) [t] r else bS (d + 1) (cur ++ [t]) r)
    else if t.1 = 1 then (if d - 1 = 1 then (cur ++ [t]) :: bS (d - 1) (cur ++ [t]) r else bS (d - 1) (cur ++ [t]) r)
    else bS d (cur ++ [t]) r
def fc (x : El) : List El := bS 0 [] x
def da (x : El) : Bs := (x.map fun t => if t.1 = 2 then t.2.2.1 else []).flatten
def valP (x : El) : Bs := Go.Pn.trim (da x)
def valO : Option El → Bs
  | none => []
  | some x => valP x
theorem jG : ∀ (r : El) (d : Int) (cur : El), ∀ y ∈ bS d cur r, y ≠ []
  | [], _, _, y, h => by cases h
  | t :: r, d, cur, y, h => by
    unfold bS at h
    split at h
    · split at h
      · exact jG r _ _ y h
      · exact jG r _ _ y h
    · split at h
      · split at h
        · rcases List.mem_cons.1 h with h | h
          · subst h; simp
          · exact jG r _ _ y h
        · exact jG r _ _ y h
      · exact jG r _ _ y h
theorem lg (a b : El) : da (a ++ b) = da a ++ da b := by
  unfold da; rw [List.map_append, List.flatten_append]
theorem iV (t : Tok) (b : El) : da (t :: b) = (if t.1 = 2 then t.2.2.1 else []) ++ da b := by
  unfold da; rw [List.map_cons, List.flatten_cons]
theorem nE : ∀ (r : El) (d : Int) (cur : El), ∀ y ∈ bS d cur r, (da y).length ≤ (da (cur ++ r)).length ∧ y.length ≤ (cur ++ r).length ∧ ∀ t ∈ y, t ∈ cur ++ r
  | [], _, _, y, h => by cases h
  | t :: r, d, cur, y, h => by
    have e : cur ++ t :: r = (cur ++ [t]) ++ r := by simp
    have keep : ∀ d', y ∈ bS d' (cur ++ [t]) r → (da y).length ≤ (da (cur ++ t :: r)).length ∧ y.length ≤ (cur ++ t :: r).length ∧ ∀ u ∈ y, u ∈ cur ++ t :: r := fun d' h => by
      rw [e]; exact nE r d' (cur ++ [t]) y h
    unfold bS at h
    split at h
    · split at h
      · obtain ⟨h1, h2, h3⟩ := nE r _ [t] y h
        refine ⟨?_, ?_, fun u hu => ?_⟩
        · rw [lg, List.length_append]
          rw [List.singleton_append] at h1
          omega
        · rw [List.length_append] at h2 ⊢; simp at h2 ⊢; omega
        · have := h3 u hu
          rw [List.singleton_append] at this
          exact List.mem_append_right _ this
      · exact keep _ h
    · split at h
      · split at h
        · rcases List.mem_cons.1 h with h | h
          · subst h
            refine ⟨?_, ?_, fun u hu => ?_⟩
            · rw [e, lg (cur ++ [t]) r, List.length_append]; omega
            · rw [e]; simp only [List.length_append]; omega
            · rw [e]; exact List.mem_append_left _ hu
          · exact keep _ h
        · exact keep _ h
      · exact keep _ h
theorem tv {x y : El} (h : y ∈ fc x) : (da y).length ≤ (da x).length ∧ y.length ≤ x.length ∧ ∀ t ∈ y, t ∈ x := by
  have := nE x 0 [] y h
  rwa [List.nil_append] at this
end Go.Fd
namespace Go.Xm
def rpS (f : Bool) (o : List Bs) (t : Tok) : Option (List Bs) :=
  if f = false ∧ o = [] then none
  else if t.1 = 0 then (if o.length < 20 then some (o ++ [t.2.1]) else none)
  else if t.1 = 1 then (if o.getLast? = some t.2.1 then some o.dropLast else none)
  else if (t.1 = 2 ∧ t.2.2.1 ≠ []) ∧ o ≠ [] then some o else none
def rp : Bool → List Bs → List Tok → Option (List Bs)
  | _, o, [] => some o
  | f, o, t :: r => match rpS f o t with | none => none | some o' => rp false o' r
theorem yc (t : Tok) : ∀ (l : List Tok) (f : Bool) (o : List Bs), rp f o (l ++ [t]) = match rp f o l with | none => none | some o' => rpS (f && l.isEmpty) o' t
  | [], f, o => by
    show (match rpS f o t with | none => none | some o' => some o') = rpS (f && true) o t
    rw [Bool.and_true]
    cases rpS f o t <;> rfl
  | x :: l, f, o => by
    show (match rpS f o x with | none => none | some o' => rp false o' (l ++ [t])) = match (match rpS f o x with | none => none | some o' => rp false o' l) with | none => none | some o' => rpS (f && false) o' t
    cases rpS f o x with
    | none => rfl
    | some o' =>
      simp only
      rw [yc t l false o', Bool.and_false, Bool.false_and]
structure Nest (o : List Bs) (k : Nat) (l : List Tok) : Prop where
  rp : rp true [] l = some o
  few : o.length ≤ 20
  one : k ≤ 1
  none : k = 0 → l = [] ∧ o = []
  some : k ≠ 0 → ∃ t r, l = t :: r ∧ t.1 = 0
theorem Nest.ne {o : List Bs} {k : Nat} {l : List Tok} (h : Nest o k l) (ho : o ≠ []) : k ≠ 0 ∧ l ≠ [] := by
  have : k ≠ 0 := fun e => ho (h.none e).2
  obtain ⟨t, r, e, _⟩ := h.some this;exact ⟨this, by rw [e]; simp⟩
theorem Nest.snoc {o o' : List Bs} {k : Nat} {l : List Tok} {t : Tok} (h : Nest o k l) (ho : o ≠ []) (hr : rpS false o t = Option.some o') (hf : o'.length ≤ 20) : Nest o' k (l ++ [t]) := by
  obtain ⟨hk, hl⟩ := h.ne ho;obtain ⟨x, r, e, hx⟩ := h.some hk;refine ⟨?_, hf, h.one, fun e => absurd e hk, fun _ => ⟨x, r ++ [t], by rw [e]; rfl, hx⟩⟩
  rw [yc, h.rp]
  have : l.isEmpty = false := by cases l with | nil => exact absurd rfl hl | cons a b => rfl
  rw [this, Bool.and_false]
  exact hr
theorem Nest.text {o : List Bs} {k : Nat} {l : List Tok} (h : Nest o k l) (ho : o ≠ []) (t : Bs) : Nest o k (lN t l) := by
  unfold lN
  by_cases e : t = []
  · rw [if_pos e]; exact h
  · rw [if_neg e]
    refine h.snoc ho ?_ h.few
    unfold rpS
    rw [if_neg (fun z => ho z.2), if_neg (show ¬ ((2 : Int) = 0) by decide), if_neg (show ¬ ((2 : Int) = 1) by decide), if_pos ⟨⟨rfl, e⟩, ho⟩]
theorem last_ne {o : List Bs} {n : Bs} (h : o.getLast? = some n) : o ≠ [] := fun e => by rw [e] at h; cases h
theorem Nest.shut {o : List Bs} {k : Nat} {l : List Tok} (h : Nest o k l) (n : Bs) (hl : o.getLast? = Option.some n) : Nest o.dropLast k (l ++ [(1, n, [], [])]) := by
  have ho := last_ne hl
  refine h.snoc ho ?_ (by have := h.few; rw [List.length_dropLast]; omega)
  unfold rpS
  rw [if_neg (fun z => ho z.2), if_neg (show ¬ ((1 : Int) = 0) by decide), if_pos rfl, if_pos hl]
theorem Nest.open_ {o : List Bs} {k : Nat} {l : List Tok} (h : Nest o k l) (n : Bs) (as_ : List At) (h1 : ¬ (o = [] ∧ k ≠ 0)) (h2 : ¬ 20 ≤ o.length) :
    Nest (o ++ [n]) (if o = [] then k + 1 else k) (l ++ [(0, n, [], as_)]) := by
  by_cases ho : o = []
  · have hk : k = 0 := by
      by_cases e : k = 0
      · exact e
      · exact absurd ⟨ho, e⟩ h1
    obtain ⟨e1, _⟩ := h.none hk
    subst ho; subst e1; subst hk
    rw [if_pos rfl]
    exact ⟨rfl, by simp, by omega, fun e => by omega, fun _ => ⟨_, [], rfl, rfl⟩⟩
  · rw [if_neg ho]
    refine h.snoc ho ?_ (by simp; omega)
    unfold rpS
    rw [if_neg (fun z => ho z.2), if_pos rfl, if_pos (by omega)]
section
variable {dec : Bs → Option Bs}
theorem Nest.step {s : Bs} {o : List Bs} {k : Nat} {l : List Tok} {x : Sx} (h : Nest o k l) (e : dA dec s o k l = .ok x) : Nest x.2.1 x.2.2.1 x.2.2.2 := by
  unfold dA at e
  split at e
  · unfold je at e
    split at e
    · cases e
    · split at e
      · split at e
        · cases e; exact h
        · cases e
      · rename_i g
        cases e; exact h.text g _
  split at e
  · have := (iz (by simp) e).2
    rw [this]; exact h
  split at e
  · have := (iz (by simp) e).2
    rw [this]; exact h
  split at e
  · unfold mw at e
    split at e
    · cases e
    · split at e
      · cases e
      · rename_i g
        cases e; exact h.text g _
  split at e
  · have := (iz (by simp) e).2
    rw [this]; exact h
  split at e
  · unfold pA at e
    split at e
    · cases e
    · split at e
      · unfold ls at e
        split at e
        · rename_i g
          cases e; exact h.shut _ g
        · cases e
      · cases e
  · unfold kI at e
    split at e
    · cases e
    · rename_i n r hn
      split at e
      · cases e
      · rename_i as_ em r' ha
        unfold na at e
        split at e
        · cases e
        · rename_i g1
          split at e
          · cases e
          · rename_i g2
            have ho := h.open_ n as_ g1 g2
            split at e
            · cases e
              have := ho.shut n (by simp)
              simpa using this
            · cases e; exact ho
theorem Nest.run : ∀ {n : Nat} {x y : Sx}, Nest x.2.1 x.2.2.1 x.2.2.2 → jZ dec n x = .ok y → Nest y.2.1 y.2.2.1 y.2.2.2
  | 0, x, y, h, e => by cases e
  | n + 1, (s, o, k, l), y, h, e => by
    unfold jZ at e
    split at e
    · cases e; exact h
    · cases es : dA dec s o k l with
      | no e' => rw [es] at e; cases e
      | ok z =>
        rw [es] at e
        exact Nest.run (h.step es) e
theorem wu : Nest [] 0 [] := ⟨rfl, by simp, by omega, fun _ => ⟨rfl, rfl⟩, fun e => absurd rfl e⟩
end
end Go.Xm
namespace Go.Fd
open Go.Pv Go.Av
open Go.Xm (Bs At Tok)
open Go.Pn (bl T1 T2 trim)
inductive P1 : Bs → Prop
  | nil : P1 []
  | sign {c : UInt8} {t : Bs} (h : bl c = false) (g : P1 t) : P1 (c :: t)
  | gap {c : UInt8} {t : Bs} (h : bl c = false) (g : P1 t) : P1 (32 :: c :: t)
theorem P1_T (r : Bs) : P1 (T1 r) ∧ P1 (T2 r) := by
  induction r with
  | nil => exact ⟨.nil, .nil⟩
  | cons c r ih =>
    cases hb : bl c with
    | true => simp only [T1, T2, hb, cond_true]; exact ⟨ih.2, ih.2⟩
    | false => simp only [T1, T2, hb, cond_false]; exact ⟨.sign hb ih.1, .gap hb ih.1⟩
theorem bl32 : bl 32 = true := by decide
theorem T1_P1 {t : Bs} (h : P1 t) : T1 t = t := by
  induction h with
  | nil => rfl
  | sign h g ih => simp only [T1, h, cond_false, ih]
  | gap h g ih => simp only [T1, T2, bl32, h, cond_false, cond_true, ih]
theorem yI (s : Bs) : trim s = [] ∨ ∃ c t, trim s = c :: t ∧ bl c = false ∧ P1 t := by
  induction s with
  | nil => exact .inl rfl
  | cons c r ih =>
    cases hb : bl c with
    | true => simp only [trim, hb, cond_true]; exact ih
    | false => simp only [trim, hb, cond_false]; exact .inr ⟨c, _, rfl, hb, (P1_T r).1⟩
theorem yH (s : Bs) : trim (trim s) = trim s := by
  rcases yI s with h | ⟨c, t, h, hc, ht⟩
  · rw [h]; rfl
  · rw [h]; simp only [trim, hc, cond_false, T1_P1 ht]
theorem T_len (s : Bs) : (T1 s).length ≤ s.length ∧ (T2 s).length ≤ s.length + 1 := by
  induction s with
  | nil => simp [T1, T2]
  | cons c r ih => cases hb : bl c <;> simp [T1, T2, hb] <;> omega
theorem trim_len : ∀ s : Bs, (trim s).length ≤ s.length := by
  intro s
  induction s with
  | nil => simp [trim]
  | cons c r ih =>
    have := (T_len r).1
    cases hb : bl c <;> simp [trim, hb] <;> omega
def mo : Bool → List Bs → El → Bool
  | f, o, [] => !f && o.isEmpty
  | f, o, t :: r =>
    if f = false ∧ o = [] then false
    else if t.1 = 0 then mo false (o ++ [t.2.1]) r
    else if t.1 = 1 ∧ o.getLast? = some t.2.1 then mo false o.dropLast r
    else if t.1 ≠ 2 ∨ o = [] then false
    else mo false o r
theorem yo : ∀ (l : El) (f : Bool) (o : List Bs), Go.Xm.rp f o l = some [] → (f = true → l ≠ []) → mo f o l = true
  | [], f, o, h, g => by
    have e : o = [] := ak h
    subst e
    cases f with
    | true => exact absurd rfl (g rfl)
    | false => rfl
  | t :: r, f, o, h, g => by
    unfold Go.Xm.rp at h
    cases e : Go.Xm.rpS f o t with
    | none => rw [e] at h; cases h
    | some o' =>
      rw [e] at h
      have k := yo r false o' h (fun z => by cases z)
      unfold Go.Xm.rpS at e
      unfold mo
      split at e
      · cases e
      rename_i n1
      rw [if_neg n1]
      split at e
      · rename_i n2
        rw [if_pos n2]
        split at e
        · cases e; exact k
        · cases e
      rename_i n2
      rw [if_neg n2]
      split at e
      · rename_i n3
        split at e
        · rename_i n4
          cases e
          rw [if_pos ⟨n3, n4⟩]; exact k
        · cases e
      rename_i n3
      rw [if_neg (fun z => n3 z.1)]
      split at e
      · rename_i n4
        cases e
        rw [if_neg (fun z => z.elim (fun q => q n4.1.1) n4.2)]; exact k
      · cases e
abbrev Ent := Bs × Bs × Bs × Bs × Int
def sZ (ns : List Bs) (y : El) : Bool := Go.Lib.contains ([124] ++ Str.join [124] ns ++ [124]) ([124] ++ pz y ++ [124]) && !Go.Lib.contains (pz y) [124]
def isN (n : Bs) (y : El) : Bool := decide (pz y = n)
def kH (p : El → Bool) (x : El) : Option El := (fc x).find? p
def mg (ns : List Bs) (x : El) : Bs := valO (kH (sZ ns) x)
def attL (n : Bs) (as_ : List At) : Option Bs := (as_.find? fun a => decide (a.1 = n)).map (·.2)
def attO (n : Bs) (y : El) : Option Bs := match y with | [] => none | t :: _ => attL n t.2.2.2
def optS : Option Bs → Bs
  | none => []
  | some s => s
theorem yE (o : Option El) : trim (valO o) = valO o ∧ ∃ y : El, (o = some y ∧ (valO o).length ≤ (da y).length) ∨ (o = none ∧ valO o = []) := by
  cases o with
  | none => exact ⟨rfl, [], .inr ⟨rfl, rfl⟩⟩
  | some y => exact ⟨yH _, y, .inl ⟨rfl, trim_len _⟩⟩
theorem valN_len (ns : List Bs) (x : El) : (mg ns x).length ≤ (da x).length := by
  obtain ⟨_, y, ⟨h, k⟩ | ⟨h, k⟩⟩ := yE (kH (sZ ns) x)
  · have := tv (List.mem_of_find?_eq_some h)
    exact Nat.le_trans k this.1
  · unfold mg; rw [k]; exact Nat.zero_le _
end Go.Fd
namespace Go.Pn
open Go.Pv Go.Av
theorem pw {c : UInt8} {s : Bs} (h : ∀ b ∈ s, b ≠ c) : Go.Lib.indexByte s c = -1 := by
  induction s with
  | nil => rfl
  | cons b r ih => simp [Go.Lib.indexByte, h b (by simp), ih (fun x hx => h x (by simp [hx]))]
end Go.Pn
namespace Go.Pn
open Go.Pv Go.Av
theorem wM (s : Bs) (p : Nat) : 1 ≤ (nq s p).2 := by
  unfold nq Utf8.decode
  simp only
  repeat' split
  all_goals simp
theorem lI (n : Int) : (cG n).length ≤ 4 := by
  unfold cG Utf8.encode
  simp only
  repeat' split
  all_goals simp
theorem qA (n : Int) (h : 128 ≤ n) : 2 ≤ (cG n).length ∧ ((cG n).length = 2 → ¬ (59 : UInt8) = at_ (cG n) 1) := by
  have hc : ¬ (if Utf8.valid n = true then n.toNat else Utf8.runeError) < 128 := by
    split
    · omega
    · decide
  unfold cG Utf8.encode
  simp only
  generalize (if Utf8.valid n = true then n.toNat else Utf8.runeError) = c at hc ⊢
  rw [if_neg hc]
  by_cases h2 : c < 2048
  · rw [if_pos h2]
    refine ⟨by simp, fun _ => ?_⟩;show ¬ (59 : UInt8) = UInt8.ofNat (128 + c % 64);intro e
    have := congrArg UInt8.toNat e
    rw [UInt8.toNat_ofNat'] at this
    have e59 : (59 : UInt8).toNat = 59 := rfl
    omega
  · rw [if_neg h2]
    split <;> simp
theorem vR (F : Nat) (hF : 5 ≤ F) (r : Int) : ∃ j, iU F [38, 59] r = some j := by
  unfold iU
  by_cases h1 : 0 ≤ r ∧ r < 128
  · simp only [h1, decide_true, Bool.and_self, cond_true]; exact ⟨_, rfl⟩
  · have hf : ((decide (0 ≤ r)) && (decide (r < 128))) = false := by
      cases h : (decide (0 ≤ r)) && (decide (r < 128)) with
      | false => rfl
      | true => exact absurd (by simpa using h) h1
    rw [hf, cond_false]
    by_cases h2 : r = 65533
    · rw [bT h2]
      obtain ⟨m, rfl⟩ : ∃ m, F = m + 3 := ⟨F - 3, by omega⟩
      have e0 : nq [38, 59] 0 = (38, 1) := by decide +kernel
      have e1 : nq [38, 59] 1 = (59, 1) := by decide +kernel
      refine ⟨-1, ?_⟩;show eF [38, 59] (iH [38, 59] (m + 2)) 0 = _
      unfold eF
      simp only [e0]
      show eF [38, 59] (iH [38, 59] (m + 1)) 1 = _
      unfold eF
      simp only [e1]
      rfl
    · rw [bF h2]
      have hv : ∃ b, jP F r = some b ∧ (b = true → 0 ≤ r) := by
        unfold jP
        by_cases ha : 0 ≤ r ∧ r < 55296
        · refine ⟨true, ?_, fun _ => ha.1⟩; simp [ha]
        · by_cases hb : 57343 < r ∧ r ≤ 1114111
          · refine ⟨true, ?_, fun _ => by omega⟩; simp [hb]
          · refine ⟨false, ?_, fun h => by cases h⟩
            have e1 : ((decide (0 ≤ r)) && (decide (r < 55296))) = false := by
              cases h : (decide (0 ≤ r)) && (decide (r < 55296)) with
              | false => rfl
              | true => exact absurd (by simpa using h) ha
            have e2 : ((decide (57343 < r)) && (decide (r ≤ 1114111))) = false := by
              cases h : (decide (57343 < r)) && (decide (r ≤ 1114111)) with
              | false => rfl
              | true => exact absurd (by simpa using h) hb
            rw [e1, e2]; rfl
      obtain ⟨b, hb, hp⟩ := hv
      rw [hb, aR]
      cases b with
      | false => exact ⟨-1, rfl⟩
      | true =>
        have hr : 128 ≤ r := by have := hp rfl; omega
        obtain ⟨k1, k2⟩ := qA r hr
        have k3 := lI r
        obtain ⟨m, rfl⟩ : ∃ m, F = m + 1 := ⟨F - 1, by omega⟩;refine ⟨-1, ?_⟩
        simp (disch := omega) only [Bool.not_true, cond_false, bi, bR]
        show iI [38, 59] (cG r) (li [38, 59] (cG r) m) = _
        unfold iI jI
        by_cases h3 : (cG r).length = 2
        · have e1 : ((cG r).length : Int) - 1 = 1 := by omega
          have e2 : at_ ([38, 59] : Bs) 1 = 59 := rfl
          have e3 : cV ([38, 59] : Bs) (1 + 1) = [] := rfl
          rw [e1]
          simp (disch := (first | omega | (simp; done) | (simp; omega))) only [bT, cQ, bi, e2, decide_eq_false (k2 h3), Bool.not_false, nw, bR, ec, e3]
          rfl
        · have : ¬ ((cG r).length : Int) - 1 < (([38, 59] : Bs).length : Int) := by simp; omega
          rw [bF this]
theorem lK (s : Bs) (c : UInt8) : -1 ≤ Go.Lib.indexByte s c ∧ Go.Lib.indexByte s c < s.length := by
  induction s with
  | nil => simp [Go.Lib.indexByte]
  | cons b r ih =>
    unfold Go.Lib.indexByte
    split
    · first | (simp; done) | (simp; omega)
    · split
      · first | (simp; done) | (simp; omega)
      · rename_i h
        have h' : ¬ Go.Lib.indexByte r c = -1 := by simpa using h
        simp; omega
theorem mN (s cs : Bs) : -1 ≤ Go.Lib.indexAny s cs ∧ Go.Lib.indexAny s cs < s.length := by
  induction s with
  | nil => simp [Go.Lib.indexAny]
  | cons b r ih =>
    unfold Go.Lib.indexAny
    split
    · first | (simp; done) | (simp; omega)
    · split
      · first | (simp; done) | (simp; omega)
      · rename_i h
        have h' : ¬ Go.Lib.indexAny r cs = -1 := by simpa using h
        simp; omega
theorem uO (F : Nat) (hF : 5 ≤ F) (s : Bs) : ∀ (n y : Nat), s.length - y < n → ∃ j, iK F s [38, 59] n y = some j ∧ -1 ≤ j ∧ j < s.length := by
  intro n
  induction n with
  | zero => intro y h; omega
  | succ n ih =>
    intro y hy;show ∃ j, iM F s [38, 59] (iK F s [38, 59] n) y = some j ∧ _
    unfold iM jK
    by_cases h : y < s.length
    · rw [bT h]
      obtain ⟨j, hj⟩ := vR F hF ((nq s y).1 : Int)
      rw [hj, aR]
      by_cases h0 : 0 ≤ j
      · rw [bT h0]; exact ⟨_, rfl, by omega, by omega⟩
      · rw [bF h0]
        have := wM s y
        exact ih _ (by omega)
    · rw [bF h]; exact ⟨-1, rfl, by omega, by omega⟩
theorem xp (F : Nat) (s : Bs) (hF : 20 ≤ F) : ∃ j, mi F s [38, 59] = some j ∧ -1 ≤ j ∧ j < s.length := by
  unfold mi
  by_cases h : 8 < s.length
  · obtain ⟨h1, h2⟩ := mN s [38, 59]
    refine ⟨Go.Lib.indexAny s [38, 59], ?_, h1, h2⟩
    simp [h]
  · have e : ((decide (8 < s.length)) && (decide (2 ≤ ([38, 59] : Bs).length))) = false := by simp [h]
    rw [e, cond_false]
    unfold nk si jJ
    have e3 : decide ((8 : Int) < (s.length : Int)) = false := decide_eq_false (by omega)
    simp (disch := (first | omega | (simp; done) | (simp; omega))) only [bF, aR, e3, Bool.not_false, nw]
    exact uO F (by omega) s F 0 (by omega)
theorem uQ (F : Nat) (s : Bs) (hs : s.length ≤ 100000) : ∃ b, gI F s [95] = some b := by
  unfold gI mi nk iJ iU
  have e : ((decide (8 < s.length)) && (decide (2 ≤ ([95] : Bs).length))) = false := by simp
  have e2 : at_ ([95] : Bs) 0 = 95 := rfl
  have e3 : jf [95] = true := by decide
  have e4 : ((95 : UInt8).toNat : Int) = 95 := rfl
  rw [e, cond_false]
  simp (disch := (first | omega | (simp; done) | (simp; omega))) only [e3, nw, mr, bF, bT, cQ, bi, e2, e4, grd_J]
  exact ⟨_, rfl⟩
theorem pO (x : Int) : 0 ≤ IntKind.u64.wrap x := by
  have : IntKind.u64.wrap x = x % 18446744073709551616 := rfl
  rw [this]; omega
def Ok3 (r : Option (Int × Int)) : Prop := ∃ v e, r = some (v, e) ∧ 0 ≤ v ∧ (e = 0 ∨ e = 1 ∨ e = 2)
theorem yF (F : Nat) (s : Bs) (b c : Int) (hb : b = 10 ∨ b = 16) (hs : s.length ≤ 100000) : ∀ (n i : Nat) (v : Int), s.length - i < n → 0 ≤ v → Ok3 (bZ F s b c n (false, v, (i : Int))) := by
  intro n
  induction n with
  | zero => intro i v h; omega
  | succ n ih =>
    intro i v hn hv;show Ok3 (dN F s b c (bZ F s b c n) false v (i : Int))
    unfold dN eN fG
    by_cases h : i < s.length
    · have key : ∀ d : UInt8, Ok3 (cL b c false v (i : Int) (bZ F s b c n) d) := by
        intro d
        unfold cL dM
        cases decide (((Go.Av.toB b).toNat : Int) ≤ (d.toNat : Int)) with
        | true => exact ⟨0, 2, rfl, by omega, by omega⟩
        | false =>
          rw [cond_false]
          cases decide (c ≤ v) with
          | true => exact ⟨_, 1, rfl, pO _, by omega⟩
          | false =>
            rw [cond_false]
            generalize ((decide (IntKind.u64.wrap ((IntKind.u64.wrap (v * (IntKind.u64.wrap b))) + (IntKind.u64.wrap (d.toNat : Int))) < IntKind.u64.wrap (v * (IntKind.u64.wrap b)))) || (decide (IntKind.u64.wrap ((IntKind.u64.wrap (1 * 2 ^ min (Int.toNat (IntKind.u64.wrap 64)) IntKind.u64.bits)) - 1) < IntKind.u64.wrap ((IntKind.u64.wrap (v * (IntKind.u64.wrap b))) + (IntKind.u64.wrap (d.toNat : Int)))))) = q
            cases q with
            | true => exact ⟨_, 1, rfl, pO _, by omega⟩
            | false =>
              rw [cond_false, bR (by omega), cq]
              exact ih _ _ (by omega) (pO _)
      have hb0 : decide (b = 0) = false := decide_eq_false (by omega)
      simp (disch := omega) only [bT, cQ, bi, fN h, hb0, Bool.and_false, cond_false, aR, dv]
      generalize ((decide (48 ≤ ((s[i]).toNat : Int))) && (decide (((s[i]).toNat : Int) ≤ 57))) = q1
      cases q1 with
      | true => exact key _
      | false =>
        rw [cond_false]
        generalize ((decide (97 ≤ ((s[i] ||| 32).toNat : Int))) && (decide ((((bif decide (97 ≤ ((s[i] ||| 32).toNat : Int)) then (s[i] ||| 32) else default) : UInt8).toNat : Int) ≤ 122))) = q2
        cases q2 with
        | true => exact key _
        | false => exact ⟨0, 2, rfl, by omega, by omega⟩
    · rw [bF (by omega), lC]
      exact ⟨v, 0, rfl, hv, by omega⟩
theorem uint_tot (F : Nat) (s : Bs) (b : Int) (hb : b = 10 ∨ b = 16) (hs : s.length ≤ 100000) (hF : s.length < F) : Ok3 (fO F s b 0) := by
  unfold fO eL eM dc
  by_cases h0 : s = []
  · rw [bT h0]; exact ⟨0, 2, rfl, by omega, by omega⟩
  · rw [bF h0]
    have h2 : ((decide (2 ≤ b)) && (decide (b ≤ 36))) = true := by rcases hb with rfl | rfl <;> rfl
    have hw := pO 64
    rw [h2, nw, ko rfl]
    have go := fun c => yF F s b c hb hs F 0 0 (by omega) (by omega)
    rcases hb with rfl | rfl
    · rw [bT rfl, ko hw, dI (by omega)]; exact go _
    · rw [bF (by omega), bT rfl, ko hw, dI (by omega)]; exact go _
theorem int_tot (F : Nat) (s : Bs) (b : Int) (hb : b = 10 ∨ b = 16) (hs : s.length ≤ 100000) (hF : s.length < F) (h43 : at_ s 0 ≠ 43) (h45 : at_ s 0 ≠ 45) : ∃ v e, dp F s b 0 = some (v, e) := by
  have hi : ∃ v e, gB F s b 0 = some (v, e) ∧ (e = 0 ∨ e = 1 ∨ e = 2) := by
    unfold gB dB fw eB
    by_cases h0 : s = []
    · rw [bT h0]; exact ⟨0, 2, rfl, by omega⟩
    · have hp : 0 < s.length := List.length_pos_iff.2 h0
      obtain ⟨v, e, hv, hv0, he⟩ := uint_tot F s b hb hs hF
      have e1 : IntKind.u64.wrap (1 * 2 ^ min (Int.toNat (IntKind.u64.wrap 63)) IntKind.u64.bits) = 9223372036854775808 := by decide +kernel
      have e2 : (0 : Int) ≤ IntKind.u64.wrap 63 := by decide +kernel
      have e3 : IntKind.u64.wrap (9223372036854775808 - 1) = 9223372036854775807 := by decide +kernel
      simp (disch := omega) only [bF, cQ, bi, hv, aN, e1, e3, ko e2, bR, ko, Bool.not_false, Bool.true_and, Bool.false_and, cond_false]
      rcases he with rfl | rfl | rfl
      · rw [show ((!decide ((0 : Int) = 0)) && (!decide ((0 : Int) = 1))) = false by rfl, cond_false]
        by_cases hb : (9223372036854775808 : Int) ≤ v
        · rw [bT hb]; exact ⟨_, 1, rfl, by omega⟩
        · rw [bF hb, bR (by omega)]; exact ⟨_, 0, rfl, by omega⟩
      · rw [show ((!decide ((1 : Int) = 0)) && (!decide ((1 : Int) = 1))) = false by rfl, cond_false]
        by_cases hb : (9223372036854775808 : Int) ≤ v
        · rw [bT hb]; exact ⟨_, 1, rfl, by omega⟩
        · rw [bF hb, bR (by omega)]; exact ⟨_, 0, rfl, by omega⟩
      · rw [show ((!decide ((2 : Int) = 0)) && (!decide ((2 : Int) = 1))) = true by rfl, cond_true]
        exact ⟨_, 2, rfl, by omega⟩
  obtain ⟨v, e, hv, he⟩ := hi
  unfold dp
  rw [hv, aN]
  rcases he with rfl | rfl | rfl
  · exact ⟨_, _, rfl⟩
  · rw [show (!decide ((1 : Int) = 0)) = true by rfl, cond_true, mr (by omega), ko (by omega)]; exact ⟨_, _, rfl⟩
  · rw [show (!decide ((2 : Int) = 0)) = true by rfl, cond_true, mr (by omega), ko (by omega)]; exact ⟨_, _, rfl⟩
theorem rune_tot (F : Nat) (r : Int) : ∃ o b, jv F r = some (o, b) ∧ o.length ≤ 4 := by
  have fin : -2147483648 ≤ r ∧ r ≤ 2147483647 → ∃ o b, grd (okJ r) (lt (cG r) fun x17 => some (x17, true)) = some (o, b) ∧ o.length ≤ 4 := by
    intro h; rw [grd_J h]; exact ⟨_, _, rfl, lI r⟩
  unfold jv ml
  simp only [dv]
  cases hA : ((decide (r = 9)) || (decide (r = 10))) || (decide (r = 13)) with
  | true =>
    have : r = 9 ∨ r = 10 ∨ r = 13 := by simpa [or_assoc] using hA
    simp only [Bool.not_true, Bool.false_and, cond_false]
    exact fin (by omega)
  | false =>
    simp only [Bool.not_false, Bool.true_and, cond_true]
    cases h7 : (decide (32 ≤ r)) && (decide (r ≤ 55295)) with
    | true =>
      have : 32 ≤ r ∧ r ≤ 55295 := by simpa using h7
      simp only [Bool.not_true, Bool.false_and, cond_false]
      exact fin (by omega)
    | false =>
      simp only [Bool.not_false, Bool.true_and, cond_true]
      cases h10 : (decide (57344 ≤ r)) && (decide (r ≤ 65533)) with
      | true =>
        have : 57344 ≤ r ∧ r ≤ 65533 := by simpa using h10
        simp only [Bool.not_true, Bool.false_and, cond_false]
        exact fin (by omega)
      | false =>
        simp only [Bool.not_false, Bool.true_and, cond_true]
        cases h13 : (decide (65536 ≤ r)) && (decide (r ≤ 1114111)) with
        | true =>
          have : 65536 ≤ r ∧ r ≤ 1114111 := by simpa using h13
          simp only [Bool.not_true, Bool.false_and, cond_false]
          exact fin (by omega)
        | false => exact ⟨[], false, rfl, by simp⟩
theorem rP (F : Nat) (s : Bs) (b : Int) (hb : b = 10 ∨ b = 16) (hs : s.length ≤ 100000) (hF : s.length < F) : ∃ o k, dT F s b = some (o, k) ∧ o.length ≤ 4 := by
  obtain ⟨cb, hcb⟩ := uQ F s hs
  have no : ∃ o k, (some (([] : Bs), false) : Option (Bs × Bool)) = some (o, k) ∧ o.length ≤ 4 := ⟨[], false, rfl, by simp⟩
  unfold dT
  cases s with
  | nil => simp [eE, bi, lC]
  | cons c r =>
    have h0 : decide ((c :: r) = []) = false := decide_eq_false (by simp)
    have ha : at_ (c :: r) 0 = c := rfl
    have hg : ∀ (q : Bool) (k : Option (Bs × Bool)), fv q (dq 0 (c :: r).length) k = k := fun q k => nn (fun _ => by simp)
    simp only [hg, h0, bi, ha, hcb, dv, Bool.false_or]
    by_cases h1 : c = 43
    · simp [h1]
    · by_cases h2 : c = 45
      · simp [h2]
      · by_cases h3 : c = 95
        · simp [h3]
        · simp only [h1, h2, h3, decide_false, Bool.or_self, Bool.false_or, Bool.not_false, cond_true]
          cases cb with
          | true => exact no
          | false =>
            obtain ⟨v, e, hv⟩ := int_tot F (c :: r) b hb hs hF (by rw [ha]; exact h1) (by rw [ha]; exact h2)
            rw [cond_false, hv, aN]
            cases hz : (!decide (e = 0)) with
            | true => exact no
            | false =>
              obtain ⟨o, k, ho, hl⟩ := rune_tot F v
              rw [cond_false, ho, aN]
              exact ⟨o, k, rfl, hl⟩
theorem wh (F : Nat) (s : Bs) (hs : s.length ≤ 100000) (hF : s.length < F) : ∃ o k, iA F s = some (o, k) ∧ o.length ≤ 4 := by
  have htp : ∀ p, (Go.Lib.trimPrefix s p).length ≤ s.length := by
    intro p; unfold Go.Lib.trimPrefix; split <;> simp
  unfold iA kW
  simp only [aR, bi]
  generalize ([(([97, 109, 112] : List UInt8), (38 : Int)), (([108, 116] : List UInt8), 60), (([103, 116] : List UInt8), 62), (([113, 117, 111, 116] : List UInt8), 34), (([97, 112, 111, 115] : List UInt8), 39)] : List (List UInt8 × Int)) = m
  cases Go.Av.mhas m s with
  | true => exact ⟨_, _, rfl, lI _⟩
  | false =>
    rw [cond_false]
    cases Go.Lib.hasPrefix s [35, 120] with
    | true =>
      have := htp [35, 120]
      obtain ⟨o, k, ho, hl⟩ := rP F (Go.Lib.trimPrefix s [35, 120]) 16 (.inr rfl) (by omega) (by omega)
      rw [cond_true, ho, aN]; exact ⟨o, k, rfl, hl⟩
    | false =>
      rw [cond_false]
      cases Go.Lib.hasPrefix s [35] with
      | true =>
        have := htp [35]
        obtain ⟨o, k, ho, hl⟩ := rP F (Go.Lib.trimPrefix s [35]) 10 (.inl rfl) (by omega) (by omega)
        rw [cond_true, ho, aN]; exact ⟨o, k, rfl, hl⟩
      | false => exact ⟨[], false, rfl, by simp⟩
theorem tK (F : Nat) (s : Bs) (h1 : 1 ≤ s.length) (hs : s.length ≤ 100000) (hF : s.length + 20 < F) : ∃ o k, jO F s = some (o, k) ∧ (k = 0 ∨ (3 ≤ k ∧ k ≤ s.length ∧ o.length ≤ 4)) := by
  have no : ∃ o k, (some (([] : Bs), (0 : Int)) : Option (Bs × Int)) = some (o, k) ∧ (k = 0 ∨ (3 ≤ k ∧ k ≤ s.length ∧ o.length ≤ 4)) := ⟨[], 0, rfl, .inl rfl⟩
  have hl : (cV s 1).length = s.length - 1 := by simp [cV]
  obtain ⟨j, hj, hj1, hj2⟩ := xp F (cV s 1) (by omega)
  have ha : jf [38, 59] = true := by decide
  unfold jO ml
  simp (disch := (first | omega | (simp; done) | (simp; omega))) only [ec, bi, ha, nw, mr, hj, aR]
  by_cases h : 1 ≤ j ∧ j ≤ 10
  · have hx : ((decide (1 ≤ j)) && (decide (j ≤ 10))) = true := by simp [h]
    simp (disch := (first | omega | (simp; done) | (simp; omega))) only [hx, Bool.not_true, Bool.not_false, kP, bR, cQ, Bool.false_or]
    cases decide (at_ s (j + 1) = 38) with
    | true => exact no
    | false =>
      have hsub : (sub s 1 (j + 1)).length ≤ s.length := by simp [sub]; omega
      obtain ⟨o, k, ho, hol⟩ := wh F (sub s 1 (j + 1)) (by omega) (by omega)
      simp (disch := (first | omega | (simp; done) | (simp; omega))) only [cond_false, pS, bi, ho, aN]
      cases k with
      | false => exact no
      | true =>
        simp (disch := (first | omega | (simp; done) | (simp; omega))) only [Bool.not_true, cond_false, bR]
        exact ⟨o, j + 2, rfl, .inr ⟨by omega, by omega, hol⟩⟩
  · have hx : ((decide (1 ≤ j)) && (decide (j ≤ 10))) = false := by
      cases hq : (decide (1 ≤ j)) && (decide (j ≤ 10)) with
      | false => rfl
      | true => exact absurd (by simpa using hq) h
    simp only [hx, Bool.not_false, Bool.not_true, eE, Bool.true_or, cond_true]
    exact no
end Go.Pn
namespace Go.Pn
open Go.Pv Go.Av
def dg (c : UInt8) : Nat := if 48 ≤ c.toNat ∧ c.toNat ≤ 57 then c.toNat - 48 else if 97 ≤ c.toNat ∧ c.toNat ≤ 102 then c.toNat - 87 else if 65 ≤ c.toNat ∧ c.toNat ≤ 70 then c.toNat - 55 else 99
theorem vu {p : UInt8 → Prop} (h : ∀ n : Nat, n < 256 → p (UInt8.ofNat n)) (c : UInt8) : p c := by
  have := h c.toNat (UInt8.toNat_lt c)
  rwa [UInt8.ofNat_toNat] at this
theorem digit_eq (F : Nat) (c : UInt8) : lJ F c = some (dg c : Int) := by
  show lJ 0 c = _;exact vu (p := fun c => lJ 0 c = some (dg c : Int)) (by decide +kernel) c
def isD (x : UInt8) : Bool := (decide (48 ≤ (x.toNat : Int))) && (decide ((x.toNat : Int) ≤ 57))
def isL (x : UInt8) : Bool := (decide (97 ≤ ((x ||| 32).toNat : Int))) && (decide (((x ||| 32).toNat : Int) ≤ 122))
theorem dig_D (b : Nat) (hb : b = 10 ∨ b = 16) (x : UInt8) (h : isD x = true) : (b ≤ (x - 48).toNat ↔ b ≤ dg x) ∧ ((x - 48).toNat < b → (x - 48).toNat = dg x) := by
  revert h
  refine vu (p := fun x => isD x = true → (b ≤ (x - 48).toNat ↔ b ≤ dg x) ∧ ((x - 48).toNat < b → (x - 48).toNat = dg x)) ?_ x
  rcases hb with rfl | rfl <;> decide +kernel
theorem dig_L (b : Nat) (hb : b = 10 ∨ b = 16) (x : UInt8) (h0 : isD x = false) (h : isL x = true) : (b ≤ ((x ||| 32) - 97 + 10).toNat ↔ b ≤ dg x) ∧ (((x ||| 32) - 97 + 10).toNat < b → ((x ||| 32) - 97 + 10).toNat = dg x) := by
  revert h0 h
  refine vu (p := fun x => isD x = false → isL x = true → (b ≤ ((x ||| 32) - 97 + 10).toNat ↔ b ≤ dg x) ∧ (((x ||| 32) - 97 + 10).toNat < b → ((x ||| 32) - 97 + 10).toNat = dg x)) ?_ x
  rcases hb with rfl | rfl <;> decide +kernel
theorem dig_no (x : UInt8) (h0 : isD x = false) (h : isL x = false) : dg x = 99 := by
  revert h0 h
  exact vu (p := fun x => isD x = false → isL x = false → dg x = 99) (by decide +kernel) x
def num (b : Nat) : Nat → Bs → Option Nat
  | v, [] => some v
  | v, c :: r => if b ≤ dg c then none else num b (b * v + dg c) r
theorem vk (x : Int) (h0 : 0 ≤ x) (h1 : x < 18446744073709551616) : IntKind.u64.wrap x = x := by
  have : IntKind.u64.wrap x = x % 18446744073709551616 := rfl
  rw [this]; omega
theorem uI (F : Nat) (s : Bs) (b : Nat) (hb : b = 10 ∨ b = 16) (c : Int) (hc : 1152921504606846976 ≤ c) (hs : s.length ≤ 10) : ∀ (n i v : Nat), s.length - i < n → v < 16 ^ i → i ≤ s.length →
    bZ F s (b : Int) c n (false, (v : Int), (i : Int)) = match num b v (s.drop i) with | none => some (0, 2) | some w => some ((w : Int), 0) := by
  intro n
  induction n with
  | zero => intro i v h; omega
  | succ n ih =>
    intro i v hn hv hi;show dN F s (b : Int) c (bZ F s (b : Int) c n) false (v : Int) (i : Int) = _
    unfold dN eN fG
    by_cases h : i < s.length
    · have hd : s.drop i = s[i] :: s.drop (i + 1) := aZ h
      have hp : (16 : Nat) ^ i ≤ 16 ^ 9 := Nat.pow_le_pow_right (by omega) (by omega)
      have hp2 : (16 : Nat) ^ 9 = 68719476736 := rfl
      have hp3 : (16 : Nat) ^ (i + 1) = 16 ^ i * 16 := Nat.pow_succ _ _
      have key : ∀ d : UInt8, ((b ≤ d.toNat ↔ b ≤ dg s[i]) ∧ (d.toNat < b → d.toNat = dg s[i])) → cL (b : Int) c false (v : Int) (i : Int) (bZ F s (b : Int) c n) d = match num b v (s.drop i) with | none => some (0, 2) | some w => some ((w : Int), 0) := by
        intro d ⟨h1, h2⟩
        rw [hd]
        unfold cL dM
        have hB : ((Go.Av.toB (b : Int)).toNat : Int) = (b : Int) := by rcases hb with rfl | rfl <;> rfl
        rw [hB]
        by_cases hbd : b ≤ d.toNat
        · rw [bT (by omega)]
          simp [num, h1.1 hbd]
        · have hd2 := h2 (by omega)
          have hbd' : ¬ b ≤ dg s[i] := fun e => hbd (h1.2 e)
          have hlt : d.toNat < 16 := by rcases hb with rfl | rfl <;> omega
          have hbv : b * v ≤ 16 * v := Nat.mul_le_mul_right v (by rcases hb with rfl | rfl <;> omega)
          have hmul : (v : Int) * (b : Int) = ((b * v : Nat) : Int) := by rw [Nat.mul_comm]; simp
          have wb : IntKind.u64.wrap (b : Int) = (b : Int) := vk _ (by omega) (by rcases hb with rfl | rfl <;> omega)
          have wd : IntKind.u64.wrap (d.toNat : Int) = (d.toNat : Int) := vk _ (by omega) (by omega)
          have wm : IntKind.u64.wrap ((b * v : Nat) : Int) = ((b * v : Nat) : Int) := vk _ (by omega) (by omega)
          have ws : IntKind.u64.wrap (((b * v : Nat) : Int) + (d.toNat : Int)) = ((b * v + d.toNat : Nat) : Int) := by rw [vk _ (by omega) (by omega)]; simp
          have wc : IntKind.u64.wrap ((IntKind.u64.wrap (1 * 2 ^ min (Int.toNat (IntKind.u64.wrap 64)) IntKind.u64.bits)) - 1) = 18446744073709551615 := by decide +kernel
          rw [wb, wd, hmul, wm, ws, wc, bF (by omega), bF (by omega), decide_eq_false (by omega : ¬ ((b * v + d.toNat : Nat) : Int) < ((b * v : Nat) : Int)), decide_eq_false (by omega : ¬ (18446744073709551615 : Int) < ((b * v + d.toNat : Nat) : Int))]
          rw [Bool.or_self, cond_false, bR (by omega), cq, ih (i + 1) (b * v + d.toNat) (by omega) (by rw [hp3]; rcases hb with rfl | rfl <;> omega) (by omega)]
          simp only [num, hbd', if_false, hd2]
      have hb0 : decide ((b : Int) = 0) = false := decide_eq_false (by rcases hb with rfl | rfl <;> omega)
      simp (disch := omega) only [bT, cQ, bi, fN h, hb0, Bool.and_false, cond_false, aR, dv]
      cases hD : isD s[i] with
      | true =>
        have e : ((decide (48 ≤ ((s[i]).toNat : Int))) && (decide (((s[i]).toNat : Int) ≤ 57))) = true := hD
        rw [e, cond_true]
        exact key _ (dig_D b hb _ hD)
      | false =>
        have e : ((decide (48 ≤ ((s[i]).toNat : Int))) && (decide (((s[i]).toNat : Int) ≤ 57))) = false := hD
        rw [e, cond_false]
        have el : ((decide (97 ≤ ((s[i] ||| 32).toNat : Int))) && (decide ((((bif decide (97 ≤ ((s[i] ||| 32).toNat : Int)) then (s[i] ||| 32) else default) : UInt8).toNat : Int) ≤ 122))) = isL s[i] := by
          unfold isL
          cases decide (97 ≤ ((s[i] ||| 32).toNat : Int)) <;> rfl
        rw [el]
        cases hL : isL s[i] with
        | true =>
          rw [cond_true]
          exact key _ (dig_L b hb _ hD hL)
        | false =>
          rw [cond_false, hd]
          have := dig_no _ hD hL
          have : b ≤ dg s[i] := by rw [this]; rcases hb with rfl | rfl <;> omega
          simp [num, this]
    · rw [bF (by omega), lC]
      have hi2 : s.length ≤ i := by omega
      rw [bc hi2]
      rfl
theorem int_eq (F : Nat) (s : Bs) (b : Nat) (hb : b = 10 ∨ b = 16) (h0 : s ≠ []) (hs : s.length ≤ 10) (hF : 20 < F) (h43 : at_ s 0 ≠ 43) (h45 : at_ s 0 ≠ 45) :
    dp F s (b : Int) 0 = match num b 0 s with | none => some (0, 1) | some w => some ((w : Int), 0) := by
  have hp : 0 < s.length := List.length_pos_iff.2 h0
  have hw : ∀ (t : Bs) (v w : Nat), num b v t = some w → t.length ≤ 10 → v < 16 ^ (10 - t.length) → w < 16 ^ 10 := by
    intro t
    induction t with
    | nil => intro v w h _ hv; have : v = w := by simpa [num] using h
             subst this; exact hv
    | cons c r ih =>
      intro v w h hl hv
      simp only [num] at h
      split at h
      · cases h
      · rename_i hd
        simp only [List.length_cons] at hl hv
        refine ih _ _ h (by omega) ?_
        have e : 10 - r.length = (10 - (r.length + 1)) + 1 := by omega
        rw [e, Nat.pow_succ]
        rcases hb with rfl | rfl <;> omega
  have hu : fO F s (b : Int) 0 = match num b 0 s with | none => some (0, 2) | some w => some ((w : Int), 0) := by
    unfold fO eL eM dc
    have h2 : ((decide (2 ≤ (b : Int))) && (decide ((b : Int) ≤ 36))) = true := by rcases hb with rfl | rfl <;> rfl
    rw [bF h0, h2, nw, ko rfl]
    have hwr := pO 64
    have go := fun c hc => uI F s b hb c hc hs F 0 0 (by omega) (by omega) (by omega)
    rcases hb with rfl | rfl
    · rw [bT (show ((10 : Nat) : Int) = 10 from rfl), ko hwr, dI (by omega)]; exact go _ (by omega)
    · rw [bF (show ¬ ((16 : Nat) : Int) = 10 by decide), bT (show ((16 : Nat) : Int) = 16 from rfl), ko hwr, dI (by omega)]; exact go _ (by omega)
  have hi : gB F s (b : Int) 0 = match num b 0 s with | none => some (0, 2) | some w => some ((w : Int), 0) := by
    unfold gB dB fw eB
    have e1 : IntKind.u64.wrap (1 * 2 ^ min (Int.toNat (IntKind.u64.wrap 63)) IntKind.u64.bits) = 9223372036854775808 := by decide +kernel
    have e2 : (0 : Int) ≤ IntKind.u64.wrap 63 := by decide +kernel
    rw [hu]
    cases hn : num b 0 s with
    | none => simp (disch := omega) only [bF h0, bF, cQ, bi, aN]; rfl
    | some w =>
      have hwb : w < 16 ^ 10 := hw s 0 w hn hs (Nat.pow_pos (by omega))
      have hp2 : (16 : Nat) ^ 10 = 1099511627776 := rfl
      simp (disch := omega) only [bF h0, bF, cQ, bi, aN, e1, ko e2, bR, ko, Bool.not_false, Bool.true_and, Bool.false_and, cond_false]
      rfl
  unfold dp
  rw [hi]
  cases hn : num b 0 s with
  | none =>
    simp only [aN]
    rw [show (!decide ((2 : Int) = 0)) = true by rfl, cond_true, mr (by omega)]; rfl
  | some w => rfl
theorem pQ (n : Int) (c : Nat) (h : n = c) : toB n = UInt8.ofNat c := by
  subst h
  unfold toB
  apply UInt8.toNat.inj
  rw [UInt8.toNat_ofNat', UInt8.toNat_ofNat']
  omega
theorem pL (F : Nat) (r : Int) : jv F r = if (r = 9 ∨ r = 10 ∨ r = 13) ∨ (32 ≤ r ∧ r ≤ 55295) ∨ (57344 ≤ r ∧ r ≤ 65533) ∨ (65536 ≤ r ∧ r ≤ 1114111) then some (cG r, true) else some ([], false) := by
  have fin : -2147483648 ≤ r ∧ r ≤ 2147483647 → (grd (okJ r) (lt (cG r) fun x17 => some (x17, true))) = some (cG r, true) := fun h => by rw [grd_J h]; rfl
  unfold jv ml
  simp only [dv]
  cases hA : ((decide (r = 9)) || (decide (r = 10))) || (decide (r = 13)) with
  | true =>
    have : r = 9 ∨ r = 10 ∨ r = 13 := by simpa [or_assoc] using hA
    simp only [Bool.not_true, Bool.false_and, cond_false]
    rw [if_pos (.inl this)]; exact fin (by omega)
  | false =>
    have hA' : ¬ (r = 9 ∨ r = 10 ∨ r = 13) := by simp at hA; omega
    simp only [Bool.not_false, Bool.true_and, cond_true]
    cases h7 : (decide (32 ≤ r)) && (decide (r ≤ 55295)) with
    | true =>
      have : 32 ≤ r ∧ r ≤ 55295 := by simpa using h7
      simp only [Bool.not_true, Bool.false_and, cond_false]
      rw [if_pos (by omega)]; exact fin (by omega)
    | false =>
      have h7' : ¬ (32 ≤ r ∧ r ≤ 55295) := fun e => by simp [e] at h7
      simp only [Bool.not_false, Bool.true_and, cond_true]
      cases h10 : (decide (57344 ≤ r)) && (decide (r ≤ 65533)) with
      | true =>
        have : 57344 ≤ r ∧ r ≤ 65533 := by simpa using h10
        simp only [Bool.not_true, Bool.false_and, cond_false]
        rw [if_pos (by omega)]; exact fin (by omega)
      | false =>
        have h10' : ¬ (57344 ≤ r ∧ r ≤ 65533) := fun e => by simp [e] at h10
        simp only [Bool.not_false, Bool.true_and, cond_true]
        cases h13 : (decide (65536 ≤ r)) && (decide (r ≤ 1114111)) with
        | true =>
          have : 65536 ≤ r ∧ r ≤ 1114111 := by simpa using h13
          simp only [Bool.not_true, Bool.false_and, cond_false]
          rw [if_pos (by omega)]; exact fin (by omega)
        | false =>
          have h13' : ¬ (65536 ≤ r ∧ r ≤ 1114111) := fun e => by simp [e] at h13
          rw [if_neg (by omega)]; rfl
theorem cond9 (p q s a b c d e f : Prop) [Decidable p] [Decidable q] [Decidable s] [Decidable a] [Decidable b] [Decidable c] [Decidable d] [Decidable e] [Decidable f] :
    (((!((((decide p) || (decide q)) || (decide s)) || ((decide a) && (decide b)))) && (!((decide c) && (decide d)))) && (!((decide e) && (decide f)))) = !decide ((p ∨ q ∨ s) ∨ (a ∧ b) ∨ (c ∧ d) ∨ (e ∧ f)) := by
  simp only [Bool.decide_or, Bool.decide_and, Bool.not_or, Bool.and_assoc, Bool.or_assoc]
theorem yL (r : Int) : (((!((((decide (r = 9)) || (decide (r = 10))) || (decide (r = 13))) || ((decide (32 ≤ r)) && (decide (r ≤ 55295))))) && (!((decide (57344 ≤ r)) && (decide (r ≤ 65533))))) && (!((decide (65536 ≤ r)) && (decide (r ≤ 1114111))))) = !decide ((r = 9 ∨ r = 10 ∨ r = 13) ∨ (32 ≤ r ∧ r ≤ 55295) ∨ (57344 ≤ r ∧ r ≤ 65533) ∨ (65536 ≤ r ∧ r ≤ 1114111)) := cond9 _ _ _ _ _ _ _ _ _
theorem xG (k m c : Nat) : toB ((k : Int) + (c : Int) / (m : Int)) = UInt8.ofNat (k + c / m) := pQ _ _ (by rw [Int.natCast_add, Int.natCast_ediv])
theorem tb_mod (k m c : Nat) : toB ((k : Int) + (c : Int) % (m : Int)) = UInt8.ofNat (k + c % m) := pQ _ _ (by rw [Int.natCast_add, Int.natCast_emod])
theorem xW (k m n c : Nat) : toB ((k : Int) + (c : Int) / (m : Int) % (n : Int)) = UInt8.ofNat (k + c / m % n) := pQ _ _ (by rw [Int.natCast_add, Int.natCast_emod, Int.natCast_ediv])
theorem enc1 (c : Nat) (hc : Utf8.valid (c : Int) = true) : Utf8.encode (c : Int) = if c < 128 then ⟨#[UInt8.ofNat c]⟩ else if c < 2048 then ⟨#[UInt8.ofNat (192 + c / 64), UInt8.ofNat (128 + c % 64)]⟩
    else if c < 65536 then ⟨#[UInt8.ofNat (224 + c / 4096), UInt8.ofNat (128 + c / 64 % 64), UInt8.ofNat (128 + c % 64)]⟩ else ⟨#[UInt8.ofNat (240 + c / 262144), UInt8.ofNat (128 + c / 4096 % 64), UInt8.ofNat (128 + c / 64 % 64), UInt8.ofNat (128 + c % 64)]⟩ := by
  have hcc : (if Utf8.valid (c : Int) = true then ((c : Int)).toNat else Utf8.runeError) = c := by rw [if_pos hc, Int.toNat_natCast]
  unfold Utf8.encode
  rw [hcc]
theorem vI (n : Int) : cG n = (Utf8.encode n).data.toList := rfl
theorem xh (c : Nat) (hc : Utf8.valid (c : Int) = true) : cG (c : Int) = if c < 128 then [toB c] else if c < 2048 then [toB (192 + (c : Int) / 64), toB (128 + (c : Int) % 64)]
    else if c < 65536 then [toB (224 + (c : Int) / 4096), toB (128 + (c : Int) / 64 % 64), toB (128 + (c : Int) % 64)] else [toB (240 + (c : Int) / 262144), toB (128 + (c : Int) / 4096 % 64), toB (128 + (c : Int) / 64 % 64), toB (128 + (c : Int) % 64)] := by
  have t1 : toB (c : Int) = UInt8.ofNat c := pQ (c : Int) c rfl
  have t2 : toB (192 + (c : Int) / 64) = UInt8.ofNat (192 + c / 64) := xG 192 64 c
  have t3 : toB (128 + (c : Int) % 64) = UInt8.ofNat (128 + c % 64) := tb_mod 128 64 c
  have t4 : toB (224 + (c : Int) / 4096) = UInt8.ofNat (224 + c / 4096) := xG 224 4096 c
  have t5 : toB (128 + (c : Int) / 64 % 64) = UInt8.ofNat (128 + c / 64 % 64) := xW 128 64 64 c
  have t6 : toB (240 + (c : Int) / 262144) = UInt8.ofNat (240 + c / 262144) := xG 240 262144 c
  have t7 : toB (128 + (c : Int) / 4096 % 64) = UInt8.ofNat (128 + c / 4096 % 64) := xW 128 4096 64 c
  rw [t1, t2, t3, t4, t5, t6, t7, vI, enc1 c hc]
  by_cases h1 : c < 128
  · rw [if_pos h1, if_pos h1]
  · rw [if_neg h1, if_neg h1]
    by_cases h2 : c < 2048
    · rw [if_pos h2, if_pos h2]
    · rw [if_neg h2, if_neg h2]
      by_cases h3 : c < 65536
      · rw [if_pos h3, if_pos h3]
      · rw [if_neg h3, if_neg h3]
theorem xg (c : Nat) (h : ((c : Int) = 9 ∨ (c : Int) = 10 ∨ (c : Int) = 13) ∨ (32 ≤ (c : Int) ∧ (c : Int) ≤ 55295) ∨ (57344 ≤ (c : Int) ∧ (c : Int) ≤ 65533) ∨ (65536 ≤ (c : Int) ∧ (c : Int) ≤ 1114111)) : Utf8.valid (c : Int) = true := by
  unfold Utf8.valid
  by_cases h1 : (c : Int) < 55296
  · have : (0 : Int) ≤ (c : Int) := by omega
    rw [decide_eq_true this, decide_eq_true h1]; rfl
  · have h2 : (57344 : Int) ≤ (c : Int) := by omega
    have h3 : (c : Int) ≤ 1114111 := by omega
    rw [decide_eq_true h2, decide_eq_true h3, Bool.and_self, Bool.or_true]
theorem rl (F : Nat) (r : Int) : jv F r = fS F r := by
  rw [pL]
  unfold fS
  rw [yL]
  by_cases h : (r = 9 ∨ r = 10 ∨ r = 13) ∨ (32 ≤ r ∧ r ≤ 55295) ∨ (57344 ≤ r ∧ r ≤ 65533) ∨ (65536 ≤ r ∧ r ≤ 1114111)
  · rw [if_pos h, decide_eq_true h, Bool.not_true, cond_false]
    obtain ⟨c, rfl⟩ : ∃ c : Nat, r = c := ⟨r.toNat, by omega⟩
    rw [xh c (xg c h)]
    by_cases h1 : c < 128
    · rw [if_pos h1, bT (by omega)]
    · rw [if_neg h1, bF (by omega)]
      by_cases h2 : c < 2048
      · rw [if_pos h2, bT (by omega)]
        simp (disch := omega) only [ou, bR]
      · rw [if_neg h2, bF (by omega)]
        by_cases h3 : c < 65536
        · rw [if_pos h3, bT (by omega)]
          simp (disch := omega) only [ou, bR]
        · rw [if_neg h3, bF (by omega)]
          simp (disch := omega) only [ou, bR]
  · rw [if_neg h, decide_eq_false h]; rfl
def cap (w : Nat) : Nat := if 1114111 < w then 1114112 else w
theorem vL (F : Nat) (s : Bs) (b : Nat) (hb : b = 10 ∨ b = 16) (hs : s.length ≤ 100000) : ∀ (n i v : Nat), s.length - i < n → i ≤ s.length →
    ky F s (b : Int) n ((cap v : Int), (i : Int)) = match num b v (s.drop i) with | none => some (-1) | some w => some (if s.length = 0 then -1 else (cap w : Int)) := by
  intro n
  induction n with
  | zero => intro i v h; omega
  | succ n ih =>
    intro i v hn hi;show kz F s (b : Int) (ky F s (b : Int) n) (cap v : Int) (i : Int) = _
    unfold kz kx mV
    have hcv : cap v ≤ 1114112 := by unfold cap; split <;> omega
    by_cases h : i < s.length
    · have hd : s.drop i = s[i] :: s.drop (i + 1) := aZ h
      simp (disch := omega) only [bT, cQ, bi, fN h, digit_eq, aR]
      rw [hd]
      by_cases hbd : b ≤ dg s[i]
      · rw [bT (by omega)]; simp [num, hbd]
      · have hdb : dg s[i] < 16 := by rcases hb with rfl | rfl <;> omega
        have hbc : b * cap v ≤ 16 * cap v := Nat.mul_le_mul_right _ (by rcases hb with rfl | rfl <;> omega)
        have e1 : (b : Int) * (cap v : Int) = ((b * cap v : Nat) : Int) := by simp
        have e2 : ((b * cap v : Nat) : Int) + (dg s[i] : Int) = ((b * cap v + dg s[i] : Nat) : Int) := by simp
        have e3 : cap (b * v + dg s[i]) = if 1114111 < b * cap v + dg s[i] then 1114112 else b * cap v + dg s[i] := by
          unfold cap
          rcases hb with rfl | rfl <;> (split <;> split <;> (try split) <;> omega)
        rw [bF (by omega), e1, e2, bR (by omega), bR (by omega)]
        simp only [num, hbd, if_false]
        have := ih (i + 1) (b * v + dg s[i]) (by omega) (by omega)
        rw [e3] at this
        by_cases hc : 1114111 < b * cap v + dg s[i]
        · rw [bT (by omega), bR (by omega), cq]
          rw [if_pos hc] at this
          exact this
        · rw [bF (by omega), bR (by omega), cq]
          rw [if_neg hc] at this
          exact this
    · have hi2 : s.length ≤ i := by omega
      rw [bF (by omega), bc hi2]
      simp only [num]
      by_cases h0 : s.length = 0
      · rw [bT (by omega), if_pos h0]
      · rw [bF (by omega), if_neg h0]
theorem yP (F : Nat) (s : Bs) (b : Nat) (hb : b = 10 ∨ b = 16) (hs : s.length ≤ 100000) (hF : s.length < F) :
    gQ F s (b : Int) = match num b 0 s with | none => some (-1) | some w => some (if s.length = 0 then -1 else (cap w : Int)) := by
  have := vL F s b hb hs F 0 0 (by omega) (by omega)
  have hc : cap 0 = 0 := rfl
  rw [hc, List.drop_zero] at this
  exact this
theorem vn {s : Bs} {b v : Nat} (hb : b = 10 ∨ b = 16) {c : UInt8} (hc : dg c = 99) (h : c ∈ s) : num b v s = none := by
  induction s generalizing v with
  | nil => cases h
  | cons d r ih =>
    simp only [num]
    rcases List.mem_cons.1 h with rfl | h
    · rw [if_pos (by rcases hb with rfl | rfl <;> omega)]
    · split
      · rfl
      · exact ih h
end Go.Pn
namespace Go.Pn
open Go.Pv Go.Av
theorem mF (F : Nat) : fS F (-1) = some ([], false) := by rw [← rl, pL, if_neg (by omega)]
theorem rune_cap (F w : Nat) : fS F (cap w : Int) = fS F (w : Int) := by
  unfold cap
  split
  · rw [← rl, ← rl, pL, pL, if_neg (by omega), if_neg (by omega)]
  · rfl
theorem sV (F : Nat) (s : Bs) (hs : s.length ≤ 100000) : gI F s [95] = some (decide (0 ≤ Go.Lib.indexByte s 95)) := by
  unfold gI mi nk iJ iU
  have e : ((decide (8 < s.length)) && (decide (2 ≤ ([95] : Bs).length))) = false := by simp
  have e2 : at_ ([95] : Bs) 0 = 95 := rfl
  have e3 : jf [95] = true := by decide
  have e4 : ((95 : UInt8).toNat : Int) = 95 := rfl
  have e5 : toB 95 = 95 := rfl
  rw [e, cond_false]
  simp (disch := (first | omega | (simp; done) | (simp; omega))) only [e3, nw, mr, bF, bT, cQ, bi, e2, e4, grd_J]
  rfl
theorem nG (F : Nat) (s : Bs) (b : Nat) (hb : b = 10 ∨ b = 16) (hs : s.length ≤ 10) (hF : 20 < F) : ∃ v, gQ F s (b : Int) = some v ∧ dT F s (b : Int) = fS F v := by
  rw [yP F s b hb (by omega) (by omega)]
  unfold dT
  cases s with
  | nil =>
    refine ⟨-1, rfl, ?_⟩
    rw [mF]
    simp [eE, bi, lC]
  | cons c r =>
    have h0 : decide ((c :: r) = []) = false := decide_eq_false (by simp)
    have ha : at_ (c :: r) 0 = c := rfl
    have hg : ∀ (q : Bool) (k : Option (Bs × Bool)), fv q (dq 0 (c :: r).length) k = k := fun q k => nn (fun _ => by simp)
    have hlen : ¬ (c :: r).length = 0 := by simp
    rw [sV F (c :: r) (by omega)]
    simp only [hg, h0, bi, ha, dv, Bool.false_or]
    by_cases h1 : c = 43
    · rw [vn hb (c := 43) (by decide) (by simp [h1])]
      refine ⟨-1, rfl, ?_⟩
      rw [mF]; simp [h1]
    · by_cases h2 : c = 45
      · rw [vn hb (c := 45) (by decide) (by simp [h2])]
        refine ⟨-1, rfl, ?_⟩
        rw [mF]; simp [h2]
      · by_cases h3 : c = 95
        · rw [vn hb (c := 95) (by decide) (by simp [h3])]
          refine ⟨-1, rfl, ?_⟩
          rw [mF]; simp [h3]
        · simp only [h1, h2, h3, decide_false, Bool.or_self, Bool.false_or, Bool.not_false, cond_true]
          by_cases h4 : 0 ≤ Go.Lib.indexByte (c :: r) 95
          · rw [bT h4]
            have hmem : (95 : UInt8) ∈ c :: r := by
              by_cases hm : (95 : UInt8) ∈ c :: r
              · exact hm
              · have := pw (c := 95) (s := c :: r) (fun x hx e => hm (e ▸ hx))
                omega
            rw [vn hb (c := 95) (by decide) hmem]
            exact ⟨-1, rfl, (mF F).symm⟩
          · rw [bF h4, int_eq F (c :: r) b hb (by simp) hs hF (by rw [ha]; exact h1) (by rw [ha]; exact h2)]
            cases hn : num b 0 (c :: r) with
            | none => exact ⟨-1, rfl, by rw [mF]; rfl⟩
            | some w =>
              refine ⟨(cap w : Int), by simp only [hlen, if_false], ?_⟩
              rw [rune_cap, ← rl]
              simp only [aN]
              simp only [decide_true, Bool.not_true, cond_false]
              cases he : jv F (w : Int) with
              | none => rfl
              | some p => rfl
theorem yK (F : Nat) (b : Bs) (hb : b.length ≤ 10) (hF : 20 < F) : iA F b = lh F b := by
  have fallback : mhas [(([97, 109, 112] : List UInt8), (38 : Int)), (([108, 116] : List UInt8), 60), (([103, 116] : List UInt8), 62), (([113, 117, 111, 116] : List UInt8), 34), (([97, 112, 111, 115] : List UInt8), 39)] b = false →
      ¬ b = [97, 109, 112] → ¬ b = [108, 116] → ¬ b = [103, 116] → ¬ b = [113, 117, 111, 116] → ¬ b = [97, 112, 111, 115] → iA F b = lh F b := by
    intro hm n1 n2 n3 n4 n5
    unfold iA kW lh lS
    simp only [aR, bi, hm, cond_false, bF n1, bF n2, bF n3, bF n4, bF n5]
    cases b with
    | nil => simp [Go.Lib.hasPrefix, eE]
    | cons c r =>
      cases r with
      | nil =>
        obtain ⟨v, _, hv⟩ := nG F [] 10 (.inl rfl) (by simp) hF
        have e0 : dT F [] 10 = some ([], false) := by unfold dT; simp [eE, bi, lC]
        by_cases h : c = 35
        · subst h
          have e1 : Go.Lib.hasPrefix [35] [35, 120] = false := by decide
          have e2 : Go.Lib.hasPrefix [35] [35] = true := by decide
          have e3 : Go.Lib.trimPrefix [35] [35] = [] := by decide
          rw [e1, e2, e3, cond_false, cond_true, e0]
          simp [aN, eE]
        · have e1 : Go.Lib.hasPrefix [c] [35, 120] = false := by simp [Go.Lib.hasPrefix, List.isPrefixOf]
          have e2 : Go.Lib.hasPrefix [c] [35] = false := by simp [Go.Lib.hasPrefix, List.isPrefixOf, Ne.symm h]
          rw [e1, e2, cond_false, cond_false]
          simp [eE]
      | cons d r =>
        have ha : at_ (c :: d :: r) 0 = c := rfl
        have hb1 : at_ (c :: d :: r) 1 = d := rfl
        have hl : decide (((c :: d :: r).length : Int) < 2) = false := decide_eq_false (by simp only [List.length_cons]; omega)
        have f1 : cV (c :: d :: r) 1 = d :: r := rfl
        have f2 : cV (c :: d :: r) 2 = r := rfl
        have hg : ∀ (q : Bool) (k : Option (Bs × Bool)), fv q (dq 0 (c :: d :: r).length) k = k := fun q k => nn (fun _ => by simp only [List.length_cons]; omega)
        simp only [hg, hl, ha, hb1, f1, f2, Bool.false_or]
        by_cases h : c = 35
        · subst h
          rw [show (!decide ((35 : UInt8) = 35)) = false by rfl, cond_false]
          obtain ⟨v, hv1, hv2⟩ := nG F (d :: r) 10 (.inl rfl) (by simp at hb ⊢; omega) hF
          have hv1' : gQ F (d :: r) 10 = some v := hv1
          have hv2' : dT F (d :: r) 10 = fS F v := hv2
          simp (disch := (first | omega | (simp; done) | (simp; omega))) only [ec, cQ, hv1', aR]
          by_cases hx : d = 120
          · subst hx
            obtain ⟨u, hu1, hu2⟩ := nG F r 16 (.inr rfl) (by simp at hb ⊢; omega) hF
            have hu1' : gQ F r 16 = some u := hu1
            have hu2' : dT F r 16 = fS F u := hu2
            have e1 : Go.Lib.hasPrefix (35 :: 120 :: r) [35, 120] = true := by simp [Go.Lib.hasPrefix, List.isPrefixOf]
            have e3 : Go.Lib.trimPrefix (35 :: 120 :: r) [35, 120] = r := by simp [Go.Lib.trimPrefix, Go.Lib.hasPrefix, List.isPrefixOf]
            rw [e1, e3, cond_true, bT rfl, hu1', aR, hu2']
          · have e1 : Go.Lib.hasPrefix (35 :: d :: r) [35, 120] = false := by simp [Go.Lib.hasPrefix, List.isPrefixOf, Ne.symm hx]
            have e2 : Go.Lib.hasPrefix (35 :: d :: r) [35] = true := by simp [Go.Lib.hasPrefix, List.isPrefixOf]
            have e3 : Go.Lib.trimPrefix (35 :: d :: r) [35] = d :: r := by simp [Go.Lib.trimPrefix, Go.Lib.hasPrefix, List.isPrefixOf]
            rw [e1, e2, e3, cond_false, cond_true, bF hx, hv2']
        · have e1 : Go.Lib.hasPrefix (c :: d :: r) [35, 120] = false := by simp [Go.Lib.hasPrefix, List.isPrefixOf, Ne.symm h]
          have e2 : Go.Lib.hasPrefix (c :: d :: r) [35] = false := by simp [Go.Lib.hasPrefix, List.isPrefixOf, Ne.symm h]
          rw [e1, e2, cond_false, cond_false, decide_eq_false h]; rfl
  have named : ∀ (n : Bs) (k : Int) (x : Bs), (mhas [(([97, 109, 112] : List UInt8), (38 : Int)), (([108, 116] : List UInt8), 60), (([103, 116] : List UInt8), 62), (([113, 117, 111, 116] : List UInt8), 34), (([97, 112, 111, 115] : List UInt8), 39)] n = true) →
      cG (mget [(([97, 109, 112] : List UInt8), (38 : Int)), (([108, 116] : List UInt8), 60), (([103, 116] : List UInt8), 62), (([113, 117, 111, 116] : List UInt8), 34), (([97, 112, 111, 115] : List UInt8), 39)] n) = x → iA F n = some (x, true) := by
    intro n k x h1 h2
    unfold iA kW
    simp only [aR, bi, h1, h2, cond_true]
  by_cases n1 : b = [97, 109, 112]
  · subst n1; rw [named _ 38 [38] (by decide +kernel) (by decide +kernel)]; rfl
  by_cases n2 : b = [108, 116]
  · subst n2; rw [named _ 60 [60] (by decide +kernel) (by decide +kernel)]; rfl
  by_cases n3 : b = [103, 116]
  · subst n3; rw [named _ 62 [62] (by decide +kernel) (by decide +kernel)]; rfl
  by_cases n4 : b = [113, 117, 111, 116]
  · subst n4; rw [named _ 34 [34] (by decide +kernel) (by decide +kernel)]; rfl
  by_cases n5 : b = [97, 112, 111, 115]
  · subst n5; rw [named _ 39 [39] (by decide +kernel) (by decide +kernel)]; rfl
  refine fallback ?_ n1 n2 n3 n4 n5
  simp [mhas, List.lookup, beq_false_of_ne n1, beq_false_of_ne n2, beq_false_of_ne n3, beq_false_of_ne n4, beq_false_of_ne n5]
end Go.Pn
namespace Go.Pn
open Go.Pv Go.Av
theorem getD_at (s : Bs) (k : Nat) (h : k < s.length) : (⟨s.toArray⟩ : ByteArray).get! k = s[k] := by
  show (s.toArray)[k]! = _
  simp [h]
theorem Am (s : Bs) (p m : Nat) (hm : 0 < m) (hk : m < (nq s p).2) : ∃ h : p + m < s.length, 128 ≤ (s[p + m]).toNat := by
  have key : ∀ k, (decide (p + k < (⟨s.toArray⟩ : ByteArray).size) && ((⟨s.toArray⟩ : ByteArray).get! (p + k)).toNat / 64 == 2) = true → ∃ h : p + k < s.length, 128 ≤ (s[p + k]).toNat := by
    intro k hk
    simp only [Bool.and_eq_true, decide_eq_true_eq, beq_iff_eq] at hk
    obtain ⟨h1, h2⟩ := hk
    have h1' : p + k < s.length := h1
    rw [getD_at s (p + k) h1'] at h2
    exact ⟨h1', by omega⟩
  unfold nq Utf8.decode at hk
  simp only at hk
  split at hk
  · simp at hk; omega
  · split at hk
    · rename_i h2
      simp only [Bool.and_eq_true] at h2
      split at hk
      · have : m = 1 := by simp at hk; omega
        subst this;exact key 1 (by simpa using h2.2)
      · simp at hk; omega
    · split at hk
      · rename_i h2
        simp only [Bool.and_eq_true] at h2
        split at hk
        · have : m = 1 ∨ m = 2 := by simp at hk; omega
          rcases this with rfl | rfl
          · exact key 1 (by simpa using h2.1.2)
          · exact key 2 (by simpa using h2.2)
        · simp at hk; omega
      · split at hk
        · rename_i h2
          simp only [Bool.and_eq_true] at h2
          split at hk
          · have : m = 1 ∨ m = 2 ∨ m = 3 := by simp at hk; omega
            rcases this with rfl | rfl | rfl
            · exact key 1 (by simpa using h2.1.1.2)
            · exact key 2 (by simpa using h2.1.2)
            · exact key 3 (by simpa using h2.2)
          · simp at hk; omega
        · simp at hk; omega
theorem decR_low (s : Bs) (p : Nat) (h : p < s.length) (hb : (s[p]).toNat < 128) : nq s p = ((s[p]).toNat, 1) := decode_ascii (⟨s.toArray⟩ : ByteArray) p h hb
theorem An (s : Bs) (p : Nat) (h : p < s.length) (hb : 128 ≤ (s[p]).toNat) : 128 ≤ (nq s p).1 := (decode_high (⟨s.toArray⟩ : ByteArray) p h hb).1
theorem xo (F : Nat) (hF : 5 ≤ F) (r : Int) (hr : 128 ≤ r) : iU F [38, 59] r = some (-1) := by
  obtain ⟨k1, k2⟩ := qA r hr
  have k3 := lI r
  unfold iU
  have hf : ((decide (0 ≤ r)) && (decide (r < 128))) = false := by rw [decide_eq_false (by omega : ¬ r < 128), Bool.and_false]
  rw [hf, cond_false]
  by_cases h2 : r = 65533
  · rw [bT h2]
    obtain ⟨m, rfl⟩ : ∃ m, F = m + 3 := ⟨F - 3, by omega⟩
    have e0 : nq [38, 59] 0 = (38, 1) := by decide +kernel
    have e1 : nq [38, 59] 1 = (59, 1) := by decide +kernel
    show eF [38, 59] (iH [38, 59] (m + 2)) 0 = _
    unfold eF
    simp only [e0]
    show eF [38, 59] (iH [38, 59] (m + 1)) 1 = _
    unfold eF
    simp only [e1]
    rfl
  · rw [bF h2]
    have hv : ∃ b, jP F r = some b := by
      unfold jP
      cases (decide (0 ≤ r)) && (decide (r < 55296)) with
      | true => exact ⟨true, rfl⟩
      | false =>
        rw [cond_false]
        cases (decide (57343 < r)) && (decide (r ≤ 1114111)) with
        | true => exact ⟨true, rfl⟩
        | false => exact ⟨false, rfl⟩
    obtain ⟨b, hb⟩ := hv
    rw [hb, aR]
    cases b with
    | false => rfl
    | true =>
      obtain ⟨m, rfl⟩ : ∃ m, F = m + 1 := ⟨F - 1, by omega⟩
      simp (disch := omega) only [Bool.not_true, cond_false, bi, bR]
      show iI [38, 59] (cG r) (li [38, 59] (cG r) m) = _
      unfold iI jI
      by_cases h3 : (cG r).length = 2
      · have e1 : ((cG r).length : Int) - 1 = 1 := by omega
        have e2 : at_ ([38, 59] : Bs) 1 = 59 := rfl
        have e3 : cV ([38, 59] : Bs) (1 + 1) = [] := rfl
        rw [e1]
        simp (disch := (first | omega | (simp; done) | (simp; omega))) only [bT, cQ, bi, e2, decide_eq_false (k2 h3), Bool.not_false, nw, bR, ec, e3]
        rfl
      · have : ¬ ((cG r).length : Int) - 1 < (([38, 59] : Bs).length : Int) := by simp; omega
        rw [bF this]
def nxt (s : Bs) (y : Nat) : Int := if Go.Lib.indexAny (s.drop y) [38, 59] = -1 then -1 else (y : Int) + Go.Lib.indexAny (s.drop y) [38, 59]
theorem wq (s : Bs) (y : Nat) (h : y < s.length) (hc : ([38, 59] : Bs).contains s[y] = false) : nxt s (y + 1) = nxt s y := by
  unfold nxt
  rw [aZ h]
  simp only [Go.Lib.indexAny, hc]
  have := (mN (s.drop (y + 1)) [38, 59]).1
  by_cases e : Go.Lib.indexAny (s.drop (y + 1)) [38, 59] = -1
  · simp [e]
  · have e2 : (Go.Lib.indexAny (s.drop (y + 1)) [38, 59] == -1) = false := by simpa using e
    have e3 : ¬ Go.Lib.indexAny (s.drop (y + 1)) [38, 59] + 1 = -1 := by omega
    simp [e, e2, e3]; omega
theorem nxt_hi (s : Bs) (y : Nat) (h : y < s.length) (hb : 128 ≤ (s[y]).toNat) : nxt s (y + 1) = nxt s y := by
  refine wq s y h ?_
  have h1 : s[y] ≠ 38 := by intro e; rw [e] at hb; revert hb; decide
  have h2 : s[y] ≠ 59 := by intro e; rw [e] at hb; revert hb; decide
  simp [h1, h2]
theorem nxt_skip (s : Bs) (y : Nat) : ∀ k, (∀ m, m < k → ∃ h : y + m < s.length, 128 ≤ (s[y + m]).toNat) → nxt s (y + k) = nxt s y := by
  intro k
  induction k with
  | zero => intro _; rfl
  | succ k ih =>
    intro h;obtain ⟨h1, h2⟩ := h k (by omega)
    rw [show y + (k + 1) = y + k + 1 by omega, nxt_hi s (y + k) h1 h2]
    exact ih (fun m hm => h m (by omega))
theorem xq (F : Nat) (hF : 5 ≤ F) (s : Bs) : ∀ (n y : Nat), s.length - y < n → iK F s [38, 59] n y = some (nxt s y) := by
  intro n
  induction n with
  | zero => intro y h; omega
  | succ n ih =>
    intro y hy;show iM F s [38, 59] (iK F s [38, 59] n) y = _
    unfold iM jK
    by_cases h : y < s.length
    · rw [bT h]
      by_cases hb : (s[y]).toNat < 128
      · rw [decR_low s y h hb]
        have hi : iU F [38, 59] ((s[y]).toNat : Int) = some (Go.Lib.indexByte [38, 59] s[y]) := by
          unfold iU
          have e : ((decide ((0 : Int) ≤ ((s[y]).toNat : Int))) && (decide (((s[y]).toNat : Int) < 128))) = true := by
            rw [decide_eq_true (by omega : (0 : Int) ≤ ((s[y]).toNat : Int)), decide_eq_true (by omega : ((s[y]).toNat : Int) < 128)]; rfl
          rw [e, cond_true, bi, pQ _ (s[y]).toNat rfl, UInt8.ofNat_toNat]
        simp only [hi, aR]
        by_cases hc : ([38, 59] : Bs).contains s[y] = true
        · have h0 : 0 ≤ Go.Lib.indexByte [38, 59] s[y] := by
            have : s[y] = 38 ∨ s[y] = 59 := by simpa using hc
            rcases this with e | e <;> rw [e] <;> decide
          rw [bT h0]
          unfold nxt
          rw [aZ h]
          simp only [Go.Lib.indexAny, hc, if_true]
          simp
        · have hc' : ([38, 59] : Bs).contains s[y] = false := by simpa using hc
          have h0 : ¬ 0 ≤ Go.Lib.indexByte [38, 59] s[y] := by
            have hne : ¬ s[y] = 38 ∧ ¬ s[y] = 59 := by simpa using hc'
            have := pw (c := s[y]) (s := [38, 59]) (fun b hb e => by
              simp at hb
              rcases hb with rfl | rfl
              · exact hne.1 e.symm
              · exact hne.2 e.symm)
            omega
          rw [bF h0, ih (y + 1) (by omega), wq s y h hc']
      · have hh := An s y h (by omega)
        have hp := wM s y
        rw [xo F hF _ (by omega), aR, bF (by omega), ih _ (by omega)]
        rw [nxt_skip s y (nq s y).2 (fun m hm => by
          cases m with
          | zero => exact ⟨h, by simpa using hb⟩
          | succ m => exact Am s y (m + 1) (by omega) hm)]
    · rw [bF h]
      unfold nxt
      rw [bc (by omega)]
      rfl
theorem yX (F : Nat) (s : Bs) (hF : 20 ≤ F) : mi F s [38, 59] = some (Go.Lib.indexAny s [38, 59]) := by
  unfold mi
  by_cases h : 8 < s.length
  · simp [h]
  · have e : ((decide (8 < s.length)) && (decide (2 ≤ ([38, 59] : Bs).length))) = false := by simp [h]
    rw [e, cond_false]
    unfold nk si jJ
    have e3 : decide ((8 : Int) < (s.length : Int)) = false := decide_eq_false (by omega)
    simp (disch := (first | omega | (simp; done) | (simp; omega))) only [bF, aR, e3, Bool.not_false, nw]
    rw [xq F (by omega) s F 0 (by omega)]
    unfold nxt
    rw [List.drop_zero]
    split
    · rename_i e; rw [e]
    · simp
end Go.Pn
namespace Go.Pn
open Go.Pv Go.Av
abbrev amp : Bs := [38, 59]
theorem any_cons (c : UInt8) (r : Bs) : Go.Lib.indexAny (c :: r) amp = if c = 38 ∨ c = 59 then 0 else if Go.Lib.indexAny r amp = -1 then -1 else Go.Lib.indexAny r amp + 1 := by
  simp [Go.Lib.indexAny]
theorem any_is (r : Bs) : ∀ (k : Nat) (h : k < r.length), Go.Lib.indexAny r amp = (k : Int) → r[k] = 38 ∨ r[k] = 59 := by
  induction r with
  | nil => intro k h; simp at h
  | cons c r ih =>
    intro k h hk
    rw [any_cons] at hk
    by_cases hc : c = 38 ∨ c = 59
    · rw [if_pos hc] at hk
      have : k = 0 := by omega
      subst this; simpa using hc
    · rw [if_neg hc] at hk
      split at hk
      · omega
      · cases k with
        | zero => have := (mN r amp).1; omega
        | succ k => simpa using ih k (by simpa using h) (by omega)
def dH (r : Bs) : Bs × Bool :=
  if 0 ≤ Go.Lib.indexAny r amp ∧ Go.Lib.indexAny r amp ≤ 10 ∧ r.getD (Go.Lib.indexAny r amp).toNat 0 = 59 then (r.take (Go.Lib.indexAny r amp).toNat, decide (0 < Go.Lib.indexAny r amp)) else ([], false)
theorem body_len (r : Bs) : (dH r).1.length ≤ 10 := by
  unfold dH
  split
  · rename_i h; simp; omega
  · simp
theorem first_eq (F : Nat) (r : Bs) (hs : r.length ≤ 100000) (hF : 150000 < F) : ∃ x k, lh F (dH r).1 = some (x, k) ∧ jO F (38 :: r) = some (if (dH r).2 = true ∧ k = true then (x, ((dH r).1.length : Int) + 2) else ([], 0)) := by
  have hbl := body_len r
  obtain ⟨x, k, hx, _⟩ := wh F (dH r).1 (by omega) (by omega);refine ⟨x, k, by rw [← yK F _ hbl (by omega)]; exact hx, ?_⟩;obtain ⟨hj1, hj2⟩ := mN r amp
  have h1 : cV (38 :: r) 1 = r := rfl
  have ha : jf [38, 59] = true := by decide
  have hl : ((38 :: r : Bs).length : Int) = (r.length : Int) + 1 := by simp
  unfold jO ml
  simp (disch := (first | omega | (simp; done) | (simp; omega))) only [ec, bi, ha, nw, mr, h1, yX F r (by omega), aR]
  by_cases h : 1 ≤ Go.Lib.indexAny r amp ∧ Go.Lib.indexAny r amp ≤ 10
  · obtain ⟨j, hj⟩ : ∃ j : Nat, Go.Lib.indexAny r amp = j := ⟨(Go.Lib.indexAny r amp).toNat, by omega⟩
    have hjl : j < r.length := by omega
    have hc := any_is r j hjl hj
    have hx' : ((decide (1 ≤ Go.Lib.indexAny r amp)) && (decide (Go.Lib.indexAny r amp ≤ 10))) = true := by simp [h]
    have hat : at_ (38 :: r) ((j : Int) + 1) = r[j] := by
      rw [show (j : Int) + 1 = ((j + 1 : Nat) : Int) from rfl, fN (by simp; omega)]; simp
    have hsub : sub (38 :: r) 1 ((j : Int) + 1) = r.take j := by
      rw [show (j : Int) + 1 = ((j + 1 : Nat) : Int) from rfl, show (1 : Int) = ((1 : Nat) : Int) from rfl, rk]; simp
    rw [hj] at hx' h ⊢
    simp (disch := (first | omega | (simp; done) | (simp; omega))) only [hx', Bool.not_true, Bool.not_false, kP, bR, cQ, Bool.false_or, hat]
    have hget : r.getD (j : Int).toNat 0 = r[j] := by simp [hjl]
    rcases hc with hc | hc
    · have hb : dH r = ([], false) := by
        unfold dH
        rw [hj, hget, hc, if_neg (by simp)]
      rw [bT hc, hb]; simp
    · have hb : dH r = (r.take j, true) := by
        unfold dH
        rw [hj, hget, hc, if_pos ⟨by omega, by omega, rfl⟩, decide_eq_true (by omega)]
        simp
      rw [hb] at hx ⊢
      have hlt : ((r.take j).length : Int) = (j : Int) := by simp; omega
      rw [bF (by rw [hc]; decide)]
      simp (disch := (first | omega | (simp; done) | (simp; omega))) only [pS, bi, hsub, hx, aN]
      cases k with
      | false => simp
      | true =>
        simp (disch := (first | omega | (simp; done) | (simp; omega))) only [Bool.not_true, cond_false, bR]
        simp [hlt]; omega
  · have hx' : ((decide (1 ≤ Go.Lib.indexAny r amp)) && (decide (Go.Lib.indexAny r amp ≤ 10))) = false := by
      cases hq : (decide (1 ≤ Go.Lib.indexAny r amp)) && (decide (Go.Lib.indexAny r amp ≤ 10)) with
      | false => rfl
      | true => exact absurd (by simpa using hq) h
    simp only [hx', Bool.not_false, Bool.not_true, eE, Bool.true_or, cond_true]
    have hb : (dH r).2 = false := by
      unfold dH
      split
      · rename_i hh; simp; omega
      · rfl
    rw [hb]; simp
end Go.Pn
namespace Go.Pn
open Go.Pv Go.Av
def ent1 (F : Nat) (r : Bs) : Option (Bs × Nat) :=
  match lh F (dH r).1 with
  | some (x, true) => bif (dH r).2 then some (x, (dH r).1.length + 2) else none
  | _ => none
def G1 (F : Nat) : Nat → Bs → Bool → Bs → Bs × Bool
  | 0, _, ok, acc => (acc, ok)
  | _ + 1, [], ok, acc => (acc, ok)
  | m + 1, c :: r, ok, acc =>
    if c = 38 then
      match ent1 F r with
      | some (x, k) => G1 F m ((c :: r).drop k) ok (acc ++ x)
      | none => G1 F m r false (acc ++ [38])
    else G1 F m r ok (acc ++ [c])
theorem ent1_two {F : Nat} {r : Bs} {x : Bs} {k : Nat} (h : ent1 F r = some (x, k)) : 2 ≤ k := by
  unfold ent1 at h
  split at h
  · cases hb : (dH r).2 with
    | true => rw [hb] at h; simp at h; omega
    | false => rw [hb] at h; simp at h
  · cases h
theorem G1_fuel (F : Nat) : ∀ (m m' : Nat) (s : Bs) (ok : Bool) (acc : Bs), s.length < m → s.length < m' → G1 F m s ok acc = G1 F m' s ok acc := by
  intro m
  induction m with
  | zero => intro m' s ok acc h; omega
  | succ m ih =>
    intro m' s ok acc h h';obtain ⟨m'', rfl⟩ : ∃ m'', m' = m'' + 1 := ⟨m' - 1, by omega⟩
    cases s with
    | nil => rfl
    | cons c r =>
      simp only [List.length_cons] at h h'
      simp only [G1]
      by_cases hc : c = 38
      · rw [if_pos hc, if_pos hc]
        cases he : ent1 F r with
        | none => exact ih _ _ _ _ (by omega) (by omega)
        | some p =>
          have := ent1_two (x := p.1) (k := p.2) he
          exact ih _ _ _ _ (by simp; omega) (by simp; omega)
      · rw [if_neg hc, if_neg hc]
        exact ih _ _ _ _ (by omega) (by omega)
theorem vj (F : Nat) : ∀ (p t : Bs) (m : Nat) (ok : Bool) (acc : Bs), (∀ b ∈ p, b ≠ 38) → p.length + t.length < m → G1 F m (p ++ t) ok acc = G1 F m t ok (acc ++ p) := by
  intro p
  induction p with
  | nil => intro t m ok acc _ _; simp
  | cons c r ih =>
    intro t m ok acc hp hm;obtain ⟨m', rfl⟩ : ∃ m', m = m' + 1 := ⟨m - 1, by omega⟩
    simp only [List.length_cons] at hm
    simp only [List.cons_append, G1]
    rw [if_neg (hp c (by simp)), ih t m' ok _ (fun b hb => hp b (by simp [hb])) (by omega), G1_fuel F m' (m' + 1) t ok _ (by omega) (by omega)]
    simp
theorem qZ (s : Bs) (i : Nat) (h : Go.Lib.indexByte s 38 = (i : Int)) : (∀ b ∈ s.take i, b ≠ 38) ∧ ∃ r, s.drop i = 38 :: r := by
  induction s generalizing i with
  | nil => simp [Go.Lib.indexByte] at h
  | cons c r ih =>
    unfold Go.Lib.indexByte at h
    by_cases hc : c = 38
    · subst hc
      have : i = 0 := by simp at h; omega
      subst this;exact ⟨by simp, r, rfl⟩
    · have hcb : (c == 38) = false := by simpa using hc
      rw [hcb] at h
      by_cases hn : Go.Lib.indexByte r 38 = -1
      · simp [hn] at h
      · have hnb : (Go.Lib.indexByte r 38 == -1) = false := by simpa using hn
        rw [hnb] at h
        have hr := lK r 38
        simp at h
        obtain ⟨j, rfl⟩ : ∃ j, i = j + 1 := ⟨i - 1, by omega⟩;obtain ⟨h1, t, h2⟩ := ih j (by omega);refine ⟨fun b hb => ?_, t, by simpa using h2⟩
        simp only [List.take_succ_cons, List.mem_cons] at hb
        rcases hb with rfl | hb
        · exact hc
        · exact h1 b hb
theorem sQ (s : Bs) (h : Go.Lib.indexByte s 38 < 0) : ∀ b ∈ s, b ≠ 38 := by
  induction s with
  | nil => simp
  | cons c r ih =>
    have hr := lK r 38
    unfold Go.Lib.indexByte at h
    split at h
    · omega
    · rename_i hc
      have hc' : c ≠ 38 := by simpa using hc
      split at h
      · rename_i hn
        have hn' : Go.Lib.indexByte r 38 = -1 := by simpa using hn
        intro b hb
        rcases List.mem_cons.1 hb with rfl | hb
        · exact hc'
        · exact ih (by omega) b hb
      · rename_i hn
        have hn' : ¬ Go.Lib.indexByte r 38 = -1 := by simpa using hn
        omega
theorem vX (F : Nat) (hF : 200000 < F) : ∀ (n : Nat) (s : Bs) (ok : Bool) (acc : Bs) (m : Nat), s.length < n → s.length < m → s.length ≤ 100000 → acc.length + 4 * s.length ≤ 1000000 → eT F n (s, ok, acc) = some (G1 F m s ok acc) := by
  intro n
  induction n with
  | zero => intro s ok acc m h; omega
  | succ n ih =>
    intro s ok acc m hn hm hs ha;show gE F (eT F n) s ok acc = _
    unfold gE gD
    obtain ⟨hi1, hi2⟩ := lK s 38
    by_cases h : Go.Lib.indexByte s 38 < 0
    · simp (disch := (first | omega | (simp; done) | (simp; omega))) only [bi, bT, rf]
      have := vj F s [] m ok acc (sQ s h) (by simpa using hm)
      rw [List.append_nil] at this
      rw [this]
      obtain ⟨m', rfl⟩ : ∃ m', m = m' + 1 := ⟨m - 1, by omega⟩
      rfl
    · obtain ⟨i, hi⟩ : ∃ i : Nat, Go.Lib.indexByte s 38 = i := ⟨(Go.Lib.indexByte s 38).toNat, by omega⟩
      obtain ⟨hp, r, hr⟩ := qZ s i hi
      have il : i < s.length := by omega
      have l1 : (to_ s (i : Int)).length = i := by simp [nr]; omega
      have e2 : cV s (i : Int) = 38 :: r := by rw [ly, hr]
      have hsp : s = s.take i ++ 38 :: r := by rw [← hr, List.take_append_drop]
      have lr : r.length = s.length - i - 1 := by
        have := congrArg List.length hr
        simp at this; omega
      have e1 : to_ s (i : Int) = s.take i := nr
      obtain ⟨x, k, hx, hf⟩ := first_eq F r (by omega) (by omega);obtain ⟨o, kk, ho, hk⟩ := tK F (38 :: r) (by simp) (by simp; omega) (by simp; omega)
      rw [hf] at ho
      have hG : G1 F m s ok acc = G1 F m (38 :: r) ok (acc ++ s.take i) := by
        have := vj F (s.take i) (38 :: r) m ok acc hp (by simp; omega)
        rw [← hsp] at this; exact this
      obtain ⟨m', rfl⟩ : ∃ m', m = m' + 1 := ⟨m - 1, by omega⟩
      have ltk : (s.take i).length = i := by simp; omega
      rw [hG]
      simp (disch := (first | omega | (simp; done) | (simp; omega))) only [bi, hi, bF, ec, rf, e2, hf]
      simp only [G1, if_true, ent1, hx]
      by_cases hb : (dH r).2 = true ∧ k = true
      · rw [if_pos hb] at ho ⊢
        obtain ⟨hb1, rfl⟩ := hb
        have ho' := ak ho
        have hk1 : ((dH r).1.length : Int) + 2 = kk := (Prod.mk.inj ho').2
        have ho1 : x = o := (Prod.mk.inj ho').1
        subst ho1
        rcases hk with rfl | ⟨k3, kl, ol⟩
        · omega
        · simp only [List.length_cons] at kl
          have ef : cV (38 :: r) (((dH r).1.length : Int) + 2) = (38 :: r).drop ((dH r).1.length + 2) := by
            rw [show ((dH r).1.length : Int) + 2 = (((dH r).1.length + 2 : Nat) : Int) from rfl, ly]
          simp only [hb1, cond_true, aN, ef]
          simp (disch := (first | omega | (simp; done) | (simp; omega))) only [bF, rf, bi, ec, e1]
          rw [ih _ ok _ m' (by simp; omega) (by simp; omega) (by simp; omega) (by simp; omega)]
      · rw [if_neg hb]
        have e0 : cV (38 :: r) 1 = r := rfl
        have hm1 : (match (some (x, k) : Option (Bs × Bool)) with | some (x, true) => bif (dH r).2 then some (x, (dH r).1.length + 2) else none | _ => none) = none := by
          cases k with
          | false => rfl
          | true =>
            have : (dH r).2 = false := by
              cases hq : (dH r).2 with
              | false => rfl
              | true => exact absurd ⟨hq, rfl⟩ hb
            rw [this]; rfl
        simp only [aN]
        simp (disch := (first | omega | (simp; done) | (simp; omega))) only [decide_true, cond_true, rf, bi, ec, e0, e1]
        rw [ih r false _ m' (by omega) (by omega) (by omega) (by simp; omega)]
        have hm2 : ent1 F r = none := by unfold ent1; rw [hx]; exact hm1
        unfold ent1 at hm2; rw [hx] at hm2
        cases k with
        | false => rfl
        | true => 
          cases hq : (dH r).2 with
          | false => rfl
          | true => exact absurd ⟨hq, rfl⟩ hb
end Go.Pn
namespace Go.Pn
open Go.Pv Go.Av
theorem goneG (F : Nat) (hF : 200000 < F) (s : Bs) (hs : s.length ≤ 100000) : nT F s = some (G1 F (s.length + 1) s true []) := vX F hF F s true [] (s.length + 1) (by omega) (by omega) hs (by simp; omega)
theorem decG (F : Nat) (hF : 200000 < F) (s : Bs) (hs : s.length ≤ 100000) : lm F s = some (bif (G1 F (s.length + 1) s true []).2 then ((G1 F (s.length + 1) s true []).1, 0) else ([], 2)) := by
  unfold lm; rw [goneG F hF s hs]
  obtain ⟨o, k⟩ := G1 F (s.length + 1) s true []
  rw [aN]
  cases k <;> rfl
theorem no_amp (F : Nat) (a : Bs) (h : (a.any fun c => decide (c = 38)) = false) : G1 F (a.length + 1) a true [] = (a, true) := by
  have hn : ∀ b ∈ a, b ≠ 38 := by
    intro b hb e
    have := List.any_eq_false.mp h b hb
    exact this (decide_eq_true e)
  have := vj F a [] (a.length + 1) true [] hn (by simp)
  rw [List.append_nil, List.nil_append] at this
  rw [this]; rfl
end Go.Pn
namespace Go.Xm
open Go.Pv Go.Av
theorem qf {α : Type} {a b : α} : (bif true then a else b) = a := Eq.symm (Eq.symm rfl)
theorem iv {α : Type} {a b : α} : (bif false then a else b) = b := Eq.symm (Eq.symm rfl)
theorem bnT {α : Type} {a b : α} : (bif !true then a else b) = b := Eq.symm (Eq.symm rfl)
theorem bnF {α : Type} {a b : α} : (bif !false then a else b) = a := Eq.symm (Eq.symm rfl)
theorem notT : (!true) = false := Eq.symm (Eq.symm rfl)
theorem notF : (!false) = true := Eq.symm (Eq.symm rfl)
theorem ands {a b : Bool} (h : (a && b) = true) : a = true ∧ b = true := by cases a <;> cases b <;> first | exact ⟨rfl, rfl⟩ | cases h
theorem gcS {α : Type} {k : Option α} {c : Bool} {n : Nat} (h : n < 4294967281) : fv c (okS n) k = k := by
  cases c
  · exact eE
  · rw [kP, mr h]
theorem gcA {α : Type} {k : Option α} {c : Bool} : fv c (jf xmla_k1) k = k := by
  have : jf xmla_k1 = true := by decide +kernel
  rw [this]; cases c <;> rfl
theorem all8 (p : UInt8 → Bool) (h : ∀ k : Fin 256, p (UInt8.ofNat k.val) = true) (b : UInt8) : p b = true := by
  have := h ⟨b.toNat, b.toNat_lt⟩
  simpa using this
theorem wz (x : UInt8) (r u : Bs) : Go.Lib.index (x :: r) u = if u.isPrefixOf (x :: r) = true then 0 else if Go.Lib.index r u = -1 then -1 else Go.Lib.index r u + 1 := by
  by_cases h : u.isPrefixOf (x :: r) = true
  · simp [Go.Lib.index, h]
  · simp [Go.Lib.index, h]
def cutO : Option (Bs × Bs) → Bs → Bs × Bs × Bool
  | none, s => (s, [], false)
  | some (a, b), _ => (a, b, true)
theorem cut_eq {p : Bs} (hp : p ≠ []) : ∀ s : Bs, Go.Lib.cut s p = cutO (iu p s) s
  | [] => by
    have : p.isEmpty = false := by cases p with | nil => exact absurd rfl hp | cons a b => rfl
    unfold Go.Lib.cut iu
    rw [if_neg hp]
    simp [Go.Lib.index, this, cutO]
  | c :: r => by
    have ih := cut_eq hp r
    have hg := Go.Lib.index_ge r p
    unfold Go.Lib.cut at ih ⊢
    unfold iu
    rw [wz]
    by_cases h : p.isPrefixOf (c :: r) = true
    · rw [if_pos h, if_pos h, if_pos (Int.le_refl 0)]
      simp [cutO]
    · rw [if_neg h, if_neg h]
      by_cases h1 : Go.Lib.index r p = -1
      · rw [if_neg (by omega)] at ih
        rw [if_pos h1, if_neg (by omega)]
        cases e : iu p r with
        | none => rfl
        | some x => rw [e] at ih; obtain ⟨a, b⟩ := x; have := congrArg (fun x => x.2.2) ih; simp [cutO] at this
      · rw [if_pos (by omega)] at ih
        rw [if_neg h1, if_pos (by omega)]
        obtain ⟨n, hn⟩ : ∃ n : Nat, Go.Lib.index r p = (n : Int) := ⟨(Go.Lib.index r p).toNat, by omega⟩
        rw [hn] at ih ⊢
        cases e : iu p r with
        | none => rw [e] at ih; have := congrArg (fun x => x.2.2) ih; simp [cutO] at this
        | some x =>
          obtain ⟨a, b⟩ := x
          rw [e] at ih
          simp only [cutO, Prod.mk.injEq, Int.toNat_natCast, and_true] at ih ⊢
          have e1 : ((n : Int) + 1).toNat = n + 1 := by omega
          rw [e1]
          refine ⟨by rw [List.take_succ_cons, ih.1], ?_⟩
          rw [show n + 1 + p.length = (n + p.length) + 1 by omega, List.drop_succ_cons, ih.2]
theorem yt (s p : Bs) : Go.Lib.hasPrefix s p = p.isPrefixOf s := rfl
theorem mh {F : Nat} {s p : Bs} {o : List Bs} {k : Int} {l : List Tok} (h : p.isPrefixOf s = false) : fk F s o k l p = some (false, s) := by
  unfold fk Go.Lib.trimPrefix
  rw [bi, yt, h]; rfl
theorem lA {F : Nat} {s p : Bs} {o : List Bs} {k : Int} {l : List Tok} (h : p.isPrefixOf s = true) : fk F s o k l p = some (true, s.drop p.length) := by
  unfold fk Go.Lib.trimPrefix
  rw [bi, yt, h]; rfl
theorem rh {F : Nat} : cI F true = some (.ok ()) := Eq.symm (Eq.symm rfl)
theorem qb {F : Nat} : cI F false = some (.pan 2) := Eq.symm (Eq.symm rfl)
def cutR : Option (Bs × Bs) → Res (Bs × Bs)
  | none => .pan 2
  | some x => .ok x
theorem uW {F : Nat} {s p : Bs} {o : List Bs} {k : Int} {l : List Tok} (hp : p ≠ []) (hs : s.length ≤ 1000000) : iP F s o k l p = some (cutR (iu p s)) := by
  unfold iP
  rw [mr (by omega), bi, cut_eq hp]
  cases iu p s with
  | none => simp only [cutO]; rw [qb, bU]; rfl
  | some x => obtain ⟨a, b⟩ := x; simp only [cutO]; rw [rh, bN]; rfl
theorem blk_c (c : UInt8) : ([9, 10, 13, 32] : Bs).contains c = eJ c := by
  have := all8 (fun c => ([9, 10, 13, 32] : Bs).contains c == eJ c) (by decide +kernel) c
  simpa using this
theorem tp {F : Nat} {s : Bs} {o : List Bs} {k : Int} {l : List Tok} : kS F s o k l = some (decide (((s.dropWhile eJ).length : Int) < (s.length : Int)), s.dropWhile eJ) := by
  have h : jf ([9, 10, 13, 32] : List UInt8) = true := by decide +kernel
  have e : (fun x => ([9, 10, 13, 32] : Bs).contains x) = eJ := funext blk_c
  unfold kS Go.Lib.trimLeftS
  rw [mr (by simp), h, nw, bi, e]
theorem sgn_i (c : UInt8) : decide (0 ≤ Go.Lib.indexByte xmla_k1 c) = ku c := by
  have := all8 (fun c => decide (0 ≤ Go.Lib.indexByte xmla_k1 c) == ku c) (by decide +kernel) c
  simpa using this
theorem sgn_n (c : UInt8) : decide (Go.Lib.indexByte xmla_k1 c < 0) = !ku c := by
  rw [← sgn_i]
  by_cases h : 0 ≤ Go.Lib.indexByte xmla_k1 c
  · rw [decide_eq_true h, decide_eq_false (by omega)]; rfl
  · rw [decide_eq_false h, decide_eq_true (by omega)]; rfl
theorem sgn_c (c : UInt8) : xmla_k1.contains c = ku c := by
  have := all8 (fun c => xmla_k1.contains c == ku c) (by decide +kernel) c
  simpa using this
theorem let_c (c : UInt8) : Go.Lib.contains xmla_k2 [c] = sY c := by
  have := all8 (fun c => Go.Lib.contains xmla_k2 [c] == sY c) (by decide +kernel) c
  simpa using this
theorem tw_at {f : UInt8 → Bool} : ∀ {s : Bs} {i : Nat}, i ≤ s.length → (s.take i).all f = true → (∀ h : i < s.length, f s[i] = false) → s.takeWhile f = s.take i ∧ s.dropWhile f = s.drop i
  | [], i, h, _, _ => by simp
  | c :: s, 0, h, _, g => by
    have := g (by simp)
    rw [List.getElem_cons_zero] at this
    rw [List.takeWhile_cons, List.dropWhile_cons, this]; simp
  | c :: s, i + 1, h, ha, g => by
    rw [List.take_succ_cons, List.all_cons] at ha
    obtain ⟨h1, h2⟩ := ands ha
    have := tw_at (s := s) (i := i) (by simpa using h) h2 fun q => by
      have := g (by simpa using q)
      rw [List.getElem_cons_succ] at this; exact this
    rw [List.takeWhile_cons, List.dropWhile_cons, h1]
    simp [this.1, this.2]
theorem rQ (s : Bs) (hs : s.length ≤ 1000000) : ∀ (n i : Nat), s.length - i < n → i ≤ s.length → ka s n (i : Int) = some ((s.drop i).all ku)
  | 0, i, h, _ => by omega
  | n + 1, i, h, hi => by
    show kb s (ka s n) (i : Int) = _
    unfold kb
    by_cases g : i < s.length
    · rw [bT (by omega), cQ (by omega), bi, fN g, bi, sgn_n, aZ g, List.all_cons]
      cases ku s[i] with
      | false => rw [notF, qf, Bool.false_and]
      | true =>
        rw [notT, iv, bR (by omega), cq, rQ s hs n (i + 1) (by omega) (by omega), Bool.true_and]
    · rw [bF (by omega), bc (by omega)]; rfl
theorem inner_eq (F : Nat) (s : Bs) (hs : s.length ≤ 1000000) (hF : s.length < F) : pB F s = some (s.all ku) := rQ s hs F 0 (by omega) (by omega)
theorem vr (f : UInt8 → Bool) : ∀ l : Bs, l.dropWhile f = [] ↔ ∀ x ∈ l, f x = true
  | [] => by simp
  | c :: l => by
    have ih := vr f l
    cases h : f c with
    | true => simp [List.dropWhile_cons, h, ih]
    | false => simp [List.dropWhile_cons, h]
theorem trim_sgn (t : Bs) : decide (Go.Lib.trimS t xmla_k1 = []) = t.all ku := by
  unfold Go.Lib.trimS Go.Lib.trimLeftS Go.Lib.trimRightS
  have e : (fun x => xmla_k1.contains x) = ku := funext sgn_c
  rw [e]
  cases h : t.all ku with
  | true =>
    rw [List.all_eq_true] at h
    refine decide_eq_true ?_
    have : t.reverse.dropWhile ku = [] := by
      rw [vr]; intro x hx; exact h x (List.mem_reverse.1 hx)
    rw [this]; rfl
  | false =>
    rw [List.all_eq_false] at h
    obtain ⟨x, hx, hn⟩ := h
    refine decide_eq_false fun q => ?_
    rw [vr] at q
    have hne : t.reverse.dropWhile ku ≠ [] := by
      intro e
      rw [vr] at e
      exact hn (e x (List.mem_reverse.2 hx))
    have := List.head_dropWhile_not ku (l := t.reverse) hne
    have hm := q _ (List.mem_reverse.2 (List.head_mem hne))
    rw [hm] at this
    simp at this
theorem to1 (c : UInt8) (r : Bs) : to_ (c :: r) 1 = [c] := rfl
theorem xn (c : UInt8) (r : Bs) : gu (c :: r) = (sY c && ((c :: r).all ku && decide ((c :: r).length ≤ 60))) := Eq.symm (Eq.symm rfl)
theorem Name_eq (F : Nat) (s : Bs) (hs : s.length ≤ 1000000) (hF : 100 < F) : pN F s = some (gu s) := by
  unfold pN
  have l1 : xmla_k1.length < 4294967281 := by decide +kernel
  have l2 : xmla_k2.length < 4294967281 := by decide +kernel
  simp only [bi, gcS l1, gcS l2, gcS (n := s.length) (by omega), gcA]
  cases s with
  | nil => simp [fv, lE, gu]
  | cons c r =>
    rw [decide_eq_false (p := c :: r = ([] : List UInt8)) (by simp), notF, Bool.true_and, to1, let_c, trim_sgn]
    rw [xn]
    have hp : 0 < (c :: r).length := by simp
    by_cases h : (c :: r).length ≤ 60
    · rw [decide_eq_true h, decide_eq_true (p := (((c :: r).length : Nat) : Int) ≤ 60) (by omega), kP, ec (by omega), Bool.true_and]
      cases hc : sY c with
      | false => rw [Bool.false_and, lC, Bool.false_and, Bool.false_and]
      | true =>
        cases ha : (c :: r).all ku with
        | false => rw [Bool.and_false, lC, Bool.false_and, Bool.false_and, Bool.and_false]
        | true => rw [inner_eq F (c :: r) hs (by omega), ha, dv]; rfl
    · rw [decide_eq_false h, decide_eq_false (p := (((c :: r).length : Nat) : Int) ≤ 60) (by omega), eE, Bool.false_and, Bool.false_and, lC, Bool.false_and, Bool.and_false, Bool.and_false]
def ow : Option (Bs × Bs) → Res (Bs × Bs)
  | none => .pan 2
  | some x => .ok x
theorem tw (F : Nat) (hF : 100 < F) (s : Bs) (hs : s.length ≤ 1000000) : ∀ (n i : Nat), s.length - i < n → i ≤ s.length → (s.take i).all ku = true → lc F s n (i : Int) = some (ow (ej s))
  | 0, i, h, _, _ => by omega
  | n + 1, i, h, hi, ha => by
    have fin : (∀ h : i < s.length, ku s[i] = false) → jE F s (i : Int) = some (ow (ej s)) := fun q => by
      obtain ⟨e1, e2⟩ := tw_at hi ha q
      unfold jE ej
      rw [ec (by omega), bi, nr, ly, Name_eq F _ (by rw [List.length_take]; omega) hF, aR, e1, e2]
      cases gu (s.take i) with
      | false => rw [qb, bU]; rfl
      | true => rw [rh, bN, ec (by omega), bi]; rfl
    show ld F s (lc F s n) (i : Int) = _
    unfold ld
    by_cases g : i < s.length
    · rw [decide_eq_true (p := (i : Int) < (s.length : Int)) (by omega), kP, cQ (by omega), bi, fN g, bi, sgn_i, Bool.true_and]
      cases hc : ku s[i] with
      | false => rw [iv]; exact fin fun _ => hc
      | true =>
        rw [qf, bR (by omega), cq]
        refine tw F hF s hs n (i + 1) (by omega) (by omega) ?_
        rw [List.take_succ_eq_append_getElem g, List.all_append, ha, List.all_cons, hc]; rfl
    · rw [decide_eq_false (p := (i : Int) < (s.length : Int)) (by omega), eE, bi, bi, Bool.false_and, iv]
      exact fin fun q => absurd q g
theorem vf {F : Nat} {s : Bs} {o : List Bs} {k : Int} {l : List Tok} (hF : 100 < F) (hs : s.length ≤ 1000000) (hl : s.length < F) : lX F s o k l = some (ow (ej s)) :=
  tw F hF s hs F 0 (by omega) (by omega) (by simp)
end Go.Xm
namespace Go.Xm
open Go.Pv Go.Av
def dec (F : Nat) (s : Bs) : Option Bs := bif (Go.Pn.G1 F (s.length + 1) s true []).2 then some (Go.Pn.G1 F (s.length + 1) s true []).1 else none
def oR {α : Type} : Option α → Res α
  | none => .pan 2
  | some x => .ok x
section
variable {F : Nat} (hF : 1500000 < F)
include hF
theorem ul {s : Bs} (hs : s.length ≤ 100000) : jb F s = some (oR (dec F s)) := by
  unfold jb dec
  rw [Go.Pn.decG F (by omega) s hs]
  cases (Go.Pn.G1 F (s.length + 1) s true []).2 with
  | true => rw [qf, qf, aN, decide_eq_true rfl, rh, bN]; rfl
  | false => rw [iv, iv, aN, decide_eq_false (by decide), qb, bU]; rfl
omit hF in
theorem xV {s t : Bs} {o : List Bs} {k : Int} {l : List Tok} (hl : l.length ≤ 1000000) : oq F s o k l t = some (lN t l) := by
  unfold oq lN
  by_cases h : t = []
  · rw [decide_eq_true h, bnT, if_pos h]
  · rw [decide_eq_false h, bnF, if_neg h, dI (by simp; omega), bi]
omit hF in
theorem at_last {o : List Bs} (h : o ≠ []) : at_ o ((o.length : Int) - 1) = o.getLast h := by
  have hp := List.length_pos_iff.2 h
  rw [show (o.length : Int) - 1 = ((o.length - 1 : Nat) : Int) by omega, fN (by omega), List.getLast_eq_getElem]
def wP : Rx → Res (List Tok × List Bs)
  | .ok x => .ok (x.2.2.2, x.2.1)
  | .no e => .pan e
omit hF in
theorem ya {s n : Bs} {o : List Bs} {k : Nat} {l : List Tok} (ho : o.length ≤ 100) (hl : l.length ≤ 1000000) : lW F s o (k : Int) l n = some (wP (ls n s o k l)) := by
  unfold lW ls
  rw [bR (by omega)]
  by_cases h : o = []
  · subst h
    rw [decide_eq_false (p := 0 ≤ ((([] : List Bs).length : Nat) : Int) - 1) (by simp), eE, eE, bi, Bool.false_and, qb, bU, if_neg (by simp)]; rfl
  · have hp := List.length_pos_iff.2 h
    rw [decide_eq_true (p := 0 ≤ (o.length : Int) - 1) (by omega), kP, kP, cQ (by omega), cQ (by omega), bi, at_last h, Bool.true_and, List.getLast?_eq_some_getLast h]
    by_cases g : o.getLast h = n
    · rw [decide_eq_true g, rh, bN, ec (by omega), bi, dI (by simp; omega), bi, if_pos (by rw [g])]
      rw [show (o.length : Int) - 1 = ((o.length - 1 : Nat) : Int) by omega, nr, ← List.dropLast_eq_take]; rfl
    · rw [decide_eq_false g, qb, bU, if_neg (by simpa using g)]; rfl
omit hF in
theorem ib_eq : ∀ s : Bs, (Go.Lib.indexByte s 60 = -1 ∧ (s.takeWhile fun c => decide (c ≠ 60)) = s ∧ (s.dropWhile fun c => decide (c ≠ 60)) = []) ∨
    ∃ i : Nat, Go.Lib.indexByte s 60 = (i : Int) ∧ i < s.length ∧ (s.takeWhile fun c => decide (c ≠ 60)) = s.take i ∧ (s.dropWhile fun c => decide (c ≠ 60)) = s.drop i
  | [] => .inl ⟨rfl, rfl, rfl⟩
  | c :: r => by
    by_cases h : c = 60
    · right; subst h; exact ⟨0, by simp [Go.Lib.indexByte], by simp, by simp, by simp⟩
    · have hb : (c == 60) = false := by simpa using h
      rcases ib_eq r with ⟨h1, h2, h3⟩ | ⟨i, h1, h2, h3, h4⟩
      · left
        refine ⟨by simp [Go.Lib.indexByte, hb, h1], ?_, ?_⟩
        · rw [List.takeWhile_cons, if_pos (by simpa using h), h2]
        · rw [List.dropWhile_cons, if_pos (by simpa using h), h3]
      · right
        refine ⟨i + 1, ?_, by simpa using h2, ?_, ?_⟩
        · have : ¬ ((i : Int) = -1) := by omega
          simp [Go.Lib.indexByte, hb, h1, this]
        · rw [List.takeWhile_cons, if_pos (by simpa using h), h3]; rfl
        · rw [List.dropWhile_cons, if_pos (by simpa using h), h4]; rfl
omit hF in
theorem bl_blk (c : UInt8) : Go.Pn.bl c = eJ c := Eq.symm (Eq.symm rfl)
omit hF in
theorem we : ∀ s : Bs, decide (Go.Pn.trim s = []) = s.all eJ
  | [] => rfl
  | c :: r => by
    rw [Go.Pn.trim, List.all_cons, bl_blk]
    cases eJ c with
    | true => rw [qf, Bool.true_and, we r]
    | false => rw [iv, Bool.false_and]; simp
def xL : Rx → Res (Bool × Bs × List Tok)
  | .ok x => .ok (true, x.1, x.2.2.2)
  | .no e => .pan e
theorem yf {s : Bs} {o : List Bs} {k : Nat} {l : List Tok} (i : Nat) (hs : s.length ≤ 100000) (hl : l.length ≤ 1000000) (hi : i ≤ s.length) (h0 : i ≠ 0)
    (e1 : (s.takeWhile fun c => decide (c ≠ 60)) = s.take i) (e2 : (s.dropWhile fun c => decide (c ≠ 60)) = s.drop i) : fK F s o (k : Int) l (i : Int) = some (xL (je (dec F) s o k l)) := by
  have h1 : (s.take i).length ≤ 100000 := by rw [List.length_take]; omega
  unfold fK je
  rw [bF (by omega), ec (by omega), bi, ec (by omega), bi, nr, ly, ul hF h1, e1, e2]
  cases dec F (s.take i) with
  | none => simp only [oR]; rw [bU]; rfl
  | some t =>
    simp only [oR]
    rw [bN]
    by_cases ho : o = []
    · subst ho
      rw [bT (by simp), Go.Pn.ent_Trim_eq F _ (by omega) (by omega), aR, we, if_pos rfl]
      cases (s.take i).all eJ with
      | true => rw [rh, bN]; rfl
      | false => rw [qb, bU]; rfl
    · have := List.length_pos_iff.2 ho
      rw [bF (by omega), xV hl, aR, if_neg ho]; rfl
theorem plain_eq {s : Bs} {o : List Bs} {k : Nat} {l : List Tok} (hs : s.length ≤ 100000) (hl : l.length ≤ 1000000) (h0 : s ≠ []) (h : ([60] : Bs).isPrefixOf s = false) :
    jt F s o (k : Int) l = some (xL (je (dec F) s o k l)) := by
  have hp := List.length_pos_iff.2 h0
  unfold jt
  rw [bi]
  rcases ib_eq s with ⟨h1, h2, h3⟩ | ⟨i, h1, h2, h3, h4⟩
  · rw [h1, bT (by omega)]
    exact yf hF s.length hs hl (Nat.le_refl _) (by omega) (by rw [List.take_length]; exact h2) (by rw [List.drop_length]; exact h3)
  · rw [h1, bF (by omega)]
    refine yf hF i hs hl (by omega) (fun e => ?_) h3 h4;subst e
    cases s with
    | nil => exact h0 rfl
    | cons c r =>
      by_cases g : c = 60
      · subst g; simp at h
      · have hb : (c == 60) = false := by simpa using g
        have hg := Go.Lib.indexByte_ge r 60
        rw [Go.Lib.indexByte, hb] at h1
        simp only [Bool.false_eq_true, if_false] at h1
        by_cases q : Go.Lib.indexByte r 60 = -1
        · rw [q] at h1; simp at h1
        · simp only [beq_iff_eq, q, if_false] at h1; omega
omit hF in
theorem plain_no {s : Bs} {o : List Bs} {k : Int} {l : List Tok} (h : ([60] : Bs).isPrefixOf s = true) : jt F s o k l = some (.ok (false, s, l)) := by
  cases s with
  | nil => cases h
  | cons c r =>
    have hc : c = 60 := by
      by_cases g : c = 60
      · exact g
      · have : (60 == c) = false := by simpa using fun q => g q.symm
        simp [List.isPrefixOf, this] at h
    subst hc
    have : Go.Lib.indexByte (60 :: r) 60 = 0 := by simp [Go.Lib.indexByte]
    unfold jt
    rw [bi, this, bF (by omega)]
    unfold fK
    rw [bT rfl]
end
end Go.Xm
namespace Go.Xm
open Go.Pv Go.Av
theorem ib_ge (s : Bs) : -1 ≤ Go.Lib.index s [60] := Go.Lib.index_ge s [60]
theorem yv : ∀ s : Bs, Go.Lib.contains s [60] = decide (60 ∈ s)
  | [] => by simp [Go.Lib.contains, Go.Lib.index]
  | c :: r => by
    have ih := yv r
    have hg := ib_ge r
    unfold Go.Lib.contains at ih ⊢
    rw [wz]
    by_cases h : c = 60
    · subst h; simp
    · have hb : (60 == c) = false := by simpa using fun q => h q.symm
      have hm : (60 ∈ c :: r) ↔ 60 ∈ r := by rw [List.mem_cons]; exact ⟨fun q => q.elim (fun e => absurd e.symm h) id, .inr⟩
      rw [if_neg (by simp [List.isPrefixOf, hb]), decide_eq_decide.2 hm, ← ih]
      by_cases g : Go.Lib.index r [60] = -1
      · rw [if_pos g, g]
      · rw [if_neg g]; exact decide_eq_decide.2 (by omega)
def attrR : Option (At × Bs) → Res (Bs × Bs × Bs)
  | none => .pan 2
  | some (a, r) => .ok (a.1, a.2, r)
theorem tB (F : Nat) (as_ : List At) (n v : Bs) (hl : as_.length ≤ 1000000) : ∀ (m i : Nat), as_.length - i < m → i ≤ as_.length → ∃ j : Int, eK F as_ n v m (i : Int) = some j ∧ decide (0 ≤ j) = (as_.drop i).any fun x => decide (x.1 = n)
  | 0, i, h, _ => by omega
  | m + 1, i, h, hi => by
    show ∃ j : Int, fV F as_ n v (eK F as_ n v m) (i : Int) = some j ∧ _
    unfold fV
    by_cases g : i < as_.length
    · rw [bT (by omega), cQ (by omega), bi, fN g, aZ g, List.any_cons]
      unfold pC
      rw [aR]
      by_cases e : n = as_[i].1
      · rw [decide_eq_true e, qf, decide_eq_true e.symm, Bool.true_or]
        exact ⟨_, rfl, decide_eq_true (by omega)⟩
      · rw [decide_eq_false e, iv, bR (by omega), cq, decide_eq_false (fun q => e q.symm), Bool.false_or]
        exact tB F as_ n v hl m (i + 1) (by omega) (by omega)
    · rw [bF (by omega), bc (by omega)]
      exact ⟨-1, rfl, rfl⟩
theorem cont_eq (F : Nat) (as_ : List At) (n v : Bs) (hl : as_.length ≤ 1000000) (hF : as_.length < F) : fW F as_ n v = some (as_.any fun x => decide (x.1 = n)) := by
  obtain ⟨j, h1, h2⟩ := tB F as_ n v hl F 0 (by omega) (by omega)
  unfold fW kK
  show bnd (eK F as_ n v F ((0 : Nat) : Int)) _ = _
  rw [h1, aR, h2, List.drop_zero]
section
variable {F : Nat} (hF : 1500000 < F)
include hF
theorem attr_j {s : Bs} {o : List Bs} {k : Int} {l : List Tok} {x : Bs × Bs} (q : UInt8) (hs : s.length ≤ 100000) : iE F o k l x [q] s = some (attrR (oz (dec F) x.1 q s)) := by
  unfold iE oz
  rw [uW (by simp) (by omega)]
  cases e : iu [q] s with
  | none => simp only [cutR]; rw [bU]; rfl
  | some y =>
    obtain ⟨raw, r⟩ := y
    have hl := congrArg List.length (lz (by simp) e)
    simp only [List.length_append] at hl
    simp only [cutR]
    rw [bN, mr (by simp; omega), bi]
    simp only []
    rw [yv]
    by_cases g : 60 ∈ raw
    · rw [decide_eq_true g, notT, qb, bU, if_pos g]; rfl
    · rw [decide_eq_false g, notF, rh, bN, if_neg g, ul hF (by omega)]
      cases dec F raw with
      | none => simp only [oR]; rw [bU]; rfl
      | some t => simp only [oR]; rw [bN]; rfl
theorem attr_eq {s : Bs} {o : List Bs} {k : Int} {l : List Tok} (hs : s.length ≤ 100000) : nd F s o k l = some (attrR (jy (dec F) s)) := by
  unfold nd jy
  rw [vf (by omega) (by omega) (by omega)]
  cases e : ej s with
  | none => simp only [ow]; rw [bU]; rfl
  | some y =>
    obtain ⟨n, r⟩ := y
    have hl := congrArg List.length (iR e).1
    rw [List.length_append] at hl
    simp only [ow]
    rw [bN]
    simp only []
    by_cases h1 : ([61, 34] : Bs).isPrefixOf r = true
    · rw [lA h1, aN, bnT, if_pos h1]
      exact attr_j hF 34 (by simp; omega)
    · rw [mh (eq_false_of_ne_true h1), aN, bnF, if_neg h1]
      by_cases h2 : ([61, 39] : Bs).isPrefixOf r = true
      · rw [lA h2, aN, rh, bN, if_pos h2]
        exact attr_j hF 39 (by simp; omega)
      · rw [mh (eq_false_of_ne_true h2), aN, qb, bU, if_neg h2]; rfl
abbrev ER := Bool × Bs × Int × List Tok × List Bs
def wT : Rx → Res ER
  | .ok x => .ok (true, x.1, (x.2.2.1 : Int), x.2.2.2, x.2.1)
  | .no e => .pan e
omit hF in
theorem yg {s n v : Bs} {as_ : List At} {em : Bool} {o : List Bs} {k : Nat} {l : List Tok} (ho : o.length ≤ 20) (hl : l.length ≤ 999000) :
    eW F o l (n, v) em s as_ (k : Int) = some (wT (if 20 ≤ o.length then .no 5 else if em = true then .ok (s, o, k, (l ++ [(0, n, [], as_)]) ++ [(1, n, [], [])]) else .ok (s, o ++ [n], k, l ++ [(0, n, [], as_)]))) := by
  have hn : (o ++ [n]).length = o.length + 1 := by simp
  unfold eW gX
  dsimp only
  rw [dI (by simp; omega), bi]
  by_cases h : 20 ≤ o.length
  · rw [bT (by omega), if_pos h]; rfl
  · rw [bF (by omega), if_neg h]
    unfold gY gZ
    dsimp only
    rw [dI (by simp; omega), bi]
    cases em with
    | false => rw [iv, if_neg (by decide)]; rfl
    | true =>
      rw [qf, if_pos rfl, ya (by omega) (by simp; omega)]
      unfold ls
      rw [if_pos (by simp)]
      simp only [wP]
      rw [bN]
      simp [ge, wT]
omit hF in
theorem yh {s n v : Bs} {as_ : List At} {em : Bool} {o : List Bs} {k : Nat} {l : List Tok} (ho : o.length ≤ 20) (hl : l.length ≤ 999000) (hk : k ≤ 1) :
    eV F o (k : Int) l (n, v) em s as_ = some (wT (na n as_ em s o k l)) := by
  unfold eV na
  by_cases h : o = []
  · subst h
    rw [bT (by simp), bR (by omega)]
    by_cases g : k = 0
    · subst g
      rw [decide_eq_true (p := ((0 : Nat) : Int) + 1 = 1) (by omega), rh, bN, if_neg (by simp), if_pos rfl]
      exact yg (k := 1) (by simp) hl
    · rw [decide_eq_false (p := (k : Int) + 1 = 1) (by omega), qb, bU, if_pos ⟨rfl, g⟩]; rfl
  · have := List.length_pos_iff.2 h
    rw [bF (by omega), if_neg (fun q => h q.1), if_neg h]
    exact yg ho hl
def elemP' (F : Nat) (n : Bs) (o : List Bs) (k : Nat) (l : List Tok) : Option (List At × Bool × Bs) → Rx
  | none => .no 2
  | some (as_, em, r) => na n as_ em r o k l
theorem uj {n v : Bs} {o : List Bs} {k : Nat} {l : List Tok} (ho : o.length ≤ 20) (hl : l.length ≤ 999000) (hk : k ≤ 1) : ∀ (m : Nat) (as_ : List At) (s : Bs), s.length < m → as_.length + s.length ≤ 100000 →
    hC F o (k : Int) l (n, v) m (as_, s) = some (wT (elemP' F n o k l (eO (dec F) (s.length + 1) as_ s)))
  | 0, as_, s, h, _ => by omega
  | m + 1, as_, s, h, hs => by
    show hH F o (k : Int) l (n, v) (hC F o (k : Int) l (n, v) m) as_ s = _
    have hd := ss eJ s
    unfold hH eO
    rw [tp, aN]
    by_cases h1 : ([62] : Bs).isPrefixOf (s.dropWhile eJ) = true
    · rw [lA h1, aN, qf, if_pos h1]
      exact yh ho hl hk
    · rw [mh (eq_false_of_ne_true h1), aN, iv, if_neg h1]
      by_cases h2 : ([47, 62] : Bs).isPrefixOf (s.dropWhile eJ) = true
      · rw [lA h2, aN, qf, if_pos h2]
        exact yh ho hl hk
      · rw [mh (eq_false_of_ne_true h2), aN, iv, if_neg h2]
        by_cases h3 : (s.dropWhile eJ).length = s.length
        · rw [if_pos h3, decide_eq_false (by omega), qb, bU]; rfl
        · rw [if_neg h3, decide_eq_true (by omega), rh, bN, attr_eq hF (by omega)]
          cases e : jy (dec F) (s.dropWhile eJ) with
          | none => simp only [attrR]; rw [bU]; rfl
          | some y =>
            obtain ⟨a, r⟩ := y
            have hr := mC e
            simp only [attrR]
            rw [bN, cont_eq F as_ _ _ (by omega) (by omega), aR]
            cases hc : as_.any fun x => decide (x.1 = a.1) with
            | true => rw [notT, qb, bU, if_pos rfl]; rfl
            | false =>
              rw [notF, rh, bN, if_neg (by decide), dI (by simp; omega), bi]
              have := uj (n := n) (v := v) ho hl hk m (as_ ++ [a]) r (by omega) (by simp; omega)
              rw [nJ (k := s.length) (m := r.length + 1) (by omega) (by omega)]
              exact this
theorem Al {s : Bs} {o : List Bs} {k : Nat} {l : List Tok} (hs : s.length ≤ 100000) (ho : o.length ≤ 20) (hl : l.length ≤ 999000) (hk : k ≤ 1) (h : ([60] : Bs).isPrefixOf s = true) :
    iC F s o (k : Int) l = some (wT (kI (dec F) (s.drop 1) o k l)) := by
  unfold iC kI
  rw [lA h, aN, bnT, vf (by omega) (by simp; omega) (by simp; omega)]
  show eI (some (ow (ej (s.drop 1)))) _ = _
  cases e : ej (s.drop 1) with
  | none => simp only [ow]; rw [bU]; rfl
  | some y =>
    obtain ⟨n, r⟩ := y
    have hr := congrArg List.length (iR e).1
    rw [List.length_append, List.length_drop] at hr
    simp only [ow]
    rw [bN]
    refine Eq.trans (uj hF ho hl hk F [] r (by omega) (by simp; omega)) ?_
    cases eO (dec F) (r.length + 1) [] r with
    | none => rfl
    | some z => rfl
def sq : Rx → Res (Bool × Bs)
  | .ok x => .ok (true, x.1)
  | .no e => .pan e
def endR : Rx → Res (Bool × Bs × List Tok × List Bs)
  | .ok x => .ok (true, x.1, x.2.2.2, x.2.1)
  | .no e => .pan e
omit hF in
theorem uZ {s p q : Bs} {o : List Bs} {k : Nat} {l : List Tok} (hs : s.length ≤ 1000000) (hp : p ≠ []) : (eI (iP F s o (k : Int) l p) fun x14 => some (Res.ok (true, x14.2))) = some (sq (gV p s o k l)) := by
  rw [uW hp hs]
  unfold gV
  cases iu p s with
  | none => simp only [cutR]; rw [bU]; rfl
  | some y => simp only [cutR]; rw [bN]; rfl
omit hF in
theorem data_eq {s : Bs} {o : List Bs} {k : Nat} {l : List Tok} (hs : s.length ≤ 1000000) (hl : l.length ≤ 1000000) (h : ([60, 33, 91, 67, 68, 65, 84, 65, 91] : Bs).isPrefixOf s = true) :
    lY F s o (k : Int) l = some (xL (mw (s.drop 9) o k l)) := by
  unfold lY mw
  rw [lA h, aN, bnT, uW (by simp) (by simp; omega)]
  show eI (some (cutR (iu [93, 93, 62] (s.drop 9)))) _ = _
  cases iu [93, 93, 62] (s.drop 9) with
  | none => simp only [cutR]; rw [bU]; rfl
  | some y =>
    obtain ⟨t, r⟩ := y
    simp only [cutR]
    rw [bN]
    by_cases ho : o = []
    · subst ho
      rw [decide_eq_false (by simp), qb, bU, if_pos rfl]; rfl
    · have := List.length_pos_iff.2 ho
      rw [decide_eq_true (by omega), rh, bN, xV hl, aR, if_neg ho]; rfl
theorem end_eq {s : Bs} {o : List Bs} {k : Nat} {l : List Tok} (hs : s.length ≤ 100000) (ho : o.length ≤ 20) (hl : l.length ≤ 999000) (h : ([60, 47] : Bs).isPrefixOf s = true) :
    ja F s o (k : Int) l = some (endR (pA (s.drop 2) o k l)) := by
  unfold ja pA
  rw [lA h, aN, bnT, vf (by omega) (by simp; omega) (by simp; omega)]
  show eI (some (ow (ej (s.drop 2)))) _ = _
  cases ej (s.drop 2) with
  | none => simp only [ow]; rw [bU]; rfl
  | some y =>
    obtain ⟨n, r⟩ := y
    simp only [ow]
    rw [bN, tp, aN]
    simp only []
    by_cases h1 : ([62] : Bs).isPrefixOf (r.dropWhile eJ) = true
    · rw [lA h1, aN, rh, bN, if_pos h1, ya (by omega) (by omega)]
      show eI (some (wP (ls n ((r.dropWhile eJ).drop 1) o k l))) _ = _
      unfold ls
      by_cases g : o.getLast? = some n
      · rw [if_pos g]; simp only [wP]; rw [bN]; rfl
      · rw [if_neg g]; simp only [wP]; rw [bU]; rfl
    · rw [mh (eq_false_of_ne_true h1), aN, qb, bU, if_neg h1]; rfl
def stepR : Rx → Res (Bs × Int × List Tok × List Bs)
  | .ok x => .ok (x.1, (x.2.2.1 : Int), x.2.2.2, x.2.1)
  | .no e => .pan e
omit hF in
theorem nP {p s : Bs} {o : List Bs} {k : Nat} {l : List Tok} {x : Sx} (h : gV p s o k l = .ok x) : x.2 = (o, k, l) := by
  unfold gV at h
  split at h
  · cases h
  · cases h; rfl
theorem step_eq {s : Bs} {o : List Bs} {k : Nat} {l : List Tok} (h0 : s ≠ []) (hs : s.length ≤ 100000) (ho : o.length ≤ 20) (hl : l.length ≤ 999000) (hk : k ≤ 1) :
    nc F s o (k : Int) l = some (stepR (dA (dec F) s o k l)) := by
  unfold nc dA
  by_cases h1 : ([60] : Bs).isPrefixOf s = true
  · rw [plain_no h1, bN, iv, if_neg (by rw [h1]; decide)]
    simp only []
    unfold jF
    by_cases h2 : ([60, 33, 45, 45] : Bs).isPrefixOf s = true
    · rw [lA h2, aN, bnT, uZ (q := []) (by simp; omega) (by simp), if_pos h2]
      show eI (some (sq (gV [45, 45, 62] (s.drop 4) o k l))) _ = _
      cases e : gV [45, 45, 62] (s.drop 4) o k l with
      | no e => rfl
      | ok x =>
        have := nP e
        obtain ⟨a, b⟩ := x
        simp only at this; subst this
        simp only [sq]; rw [bN]; rfl
    · rw [mh (eq_false_of_ne_true h2), aN, bnF, bN, iv, if_neg h2]
      simp only []
      unfold qO
      by_cases h3 : ([60, 63] : Bs).isPrefixOf s = true
      · rw [lA h3, aN, bnT, uZ (q := []) (by simp; omega) (by simp), if_pos h3]
        show eI (some (sq (gV [63, 62] (s.drop 2) o k l))) _ = _
        cases e : gV [63, 62] (s.drop 2) o k l with
        | no e => rfl
        | ok x =>
          have := nP e
          obtain ⟨a, b⟩ := x
          simp only at this; subst this
          simp only [sq]; rw [bN]; rfl
      · rw [mh (eq_false_of_ne_true h3), aN, bnF, bN, iv, if_neg h3]
        simp only []
        by_cases h4 : ([60, 33, 91, 67, 68, 65, 84, 65, 91] : Bs).isPrefixOf s = true
        · rw [data_eq (by omega) (by omega) h4, if_pos h4]
          unfold mw
          cases iu [93, 93, 62] (s.drop 9) with
          | none => rfl
          | some y =>
            obtain ⟨t, r⟩ := y
            simp only []
            by_cases g : o = []
            · rw [if_pos g]; rfl
            · rw [if_neg g]; rfl
        · rw [if_neg h4]
          unfold lY
          rw [mh (eq_false_of_ne_true h4), aN, bnF, bN, iv]
          simp only []
          unfold qN
          by_cases h5 : ([60, 33] : Bs).isPrefixOf s = true
          · rw [lA h5, aN, bnT, uZ (q := []) (by simp; omega) (by simp), if_pos h5]
            show eI (some (sq (gV [62] (s.drop 2) o k l))) _ = _
            cases e : gV [62] (s.drop 2) o k l with
            | no e => rfl
            | ok x =>
              have := nP e
              obtain ⟨a, b⟩ := x
              simp only at this; subst this
              simp only [sq]; rw [bN]; rfl
          · rw [mh (eq_false_of_ne_true h5), aN, bnF, bN, iv, if_neg h5]
            simp only []
            by_cases h6 : ([60, 47] : Bs).isPrefixOf s = true
            · rw [end_eq hF hs ho hl h6, if_pos h6]
              unfold pA
              cases ej (s.drop 2) with
              | none => rfl
              | some y =>
                obtain ⟨n, r⟩ := y
                simp only []
                by_cases g : ([62] : Bs).isPrefixOf (r.dropWhile eJ) = true
                · rw [if_pos g]
                  unfold ls
                  by_cases g2 : o.getLast? = some n
                  · rw [if_pos g2]; rfl
                  · rw [if_neg g2]; rfl
                · rw [if_neg g]; rfl
            · rw [if_neg h6]
              unfold ja
              rw [mh (eq_false_of_ne_true h6), aN, bnF, bN, iv]
              simp only []
              rw [Al hF hs ho hl hk h1]
              cases kI (dec F) (s.drop 1) o k l with
              | no e => rfl
              | ok x => rfl
  · rw [plain_eq hF hs (by omega) h0 (eq_false_of_ne_true h1), if_pos (eq_false_of_ne_true h1)]
    unfold je
    cases dec F (s.takeWhile fun c => decide (c ≠ 60)) with
    | none => rfl
    | some t =>
      simp only []
      by_cases g : o = []
      · rw [if_pos g]
        cases (s.takeWhile fun c => decide (c ≠ 60)).all eJ with
        | true => rw [if_pos rfl]; rfl
        | false => rw [if_neg (by decide)]; rfl
      · rw [if_neg g]; rfl
end
end Go.Xm
namespace Go.Xm
open Go.Pv Go.Av
theorem tn (t : Bs) (l : List Tok) : (lN t l).length ≤ l.length + 1 := by
  unfold lN; split <;> simp
def Kp (o : List Bs) (k : Nat) (l : List Tok) (m : Nat) : Prop := o.length ≤ 20 ∧ k ≤ 1 ∧ l.length ≤ m
theorem uY {p s : Bs} {o : List Bs} {k : Nat} {l : List Tok} {m : Nat} {x : Sx} (h : Kp o k l m) (e : gV p s o k l = .ok x) : Kp x.2.1 x.2.2.1 x.2.2.2 (m + 2) := by
  have := nP e
  obtain ⟨a, b⟩ := x
  simp only at this; subst this
  obtain ⟨h1, h2, h3⟩ := h;exact ⟨h1, h2, by simp only; omega⟩
theorem xY {d : Bs → Option Bs} {s : Bs} {o : List Bs} {k : Nat} {l : List Tok} {m : Nat} {x : Sx} (h : Kp o k l m) (e : dA d s o k l = .ok x) : Kp x.2.1 x.2.2.1 x.2.2.2 (m + 2) := by
  obtain ⟨h1, h2, h3⟩ := id h
  unfold dA at e
  split at e
  · unfold je at e
    split at e
    · cases e
    · split at e
      · split at e
        · cases e; exact ⟨h1, h2, by simp only; omega⟩
        · cases e
      · rename_i t _ _
        cases e
        have := tn t l
        exact ⟨h1, h2, by simp only; omega⟩
  split at e
  · exact uY h e
  split at e
  · exact uY h e
  split at e
  · unfold mw at e
    split at e
    · cases e
    · split at e
      · cases e
      · rename_i t r _ _
        cases e
        have := tn t l
        exact ⟨h1, h2, by simp only; omega⟩
  split at e
  · exact uY h e
  split at e
  · unfold pA at e
    split at e
    · cases e
    · split at e
      · unfold ls at e
        split at e
        · cases e; exact ⟨by simp only [List.length_dropLast]; omega, h2, by simp only [List.length_append, List.length_singleton]; omega⟩
        · cases e
      · cases e
  · unfold kI at e
    split at e
    · cases e
    · split at e
      · cases e
      · unfold na at e
        split at e
        · cases e
        · rename_i g
          split at e
          · cases e
          · have hk : (if o = [] then k + 1 else k) ≤ 1 := by
              by_cases q : o = []
              · rw [if_pos q]
                have : k = 0 := Classical.byContradiction fun z => g ⟨q, z⟩
                omega
              · rw [if_neg q]; exact h2
            split at e
            · cases e; exact ⟨h1, hk, by simp; omega⟩
            · cases e; exact ⟨by simp; omega, hk, by simp; omega⟩
def tokE : Rx → List Tok × Int
  | .ok (_, o, k, l) => if o = [] ∧ 0 < k then (l, 0) else ([], 2)
  | .no e => ([], e)
theorem pP (d : Bs → Option Bs) (s : Bs) : nu d s = tokE (jZ d (s.length + 1) (s, [], 0, [])) := by
  unfold nu
  cases jZ d (s.length + 1) (s, [], 0, []) with
  | ok x => rfl
  | no e => rfl
theorem wg {F : Nat} (hF : 1500000 < F) : ∀ (n m : Nat) (s : Bs) (o : List Bs) (k : Nat) (l : List Tok), s.length < n → s.length < m → s.length ≤ 100000 → Kp o k l (900000 - 2 * s.length) →
    jk F n (s, o, (k : Int), l) = some (tokE (jZ (dec F) m (s, o, k, l)))
  | 0, _, s, o, k, l, h, _, _, _ => by omega
  | _, 0, s, o, k, l, _, h, _, _ => by omega
  | n + 1, m + 1, s, o, k, l, hn, hm, hs, hk => by
    show jl F (jk F n) s o (k : Int) l = _
    unfold jl jZ
    by_cases h0 : s = []
    · rw [decide_eq_true h0, bnT, if_pos h0]
      unfold jj tokE
      simp only []
      by_cases ho : o = []
      · subst ho
        by_cases g : 0 < k
        · rw [decide_eq_true (by simp), decide_eq_true (by omega), Bool.and_self, rh, kn, if_pos ⟨rfl, g⟩]
        · rw [decide_eq_true (by simp), decide_eq_false (p := (0 : Int) < (k : Int)) (by omega), Bool.and_false, qb, gO, if_neg fun q => g q.2]
      · have := List.length_pos_iff.2 ho
        rw [decide_eq_false (p := (o.length : Int) = 0) (by omega), Bool.false_and, qb, gO, if_neg fun q => ho q.1]
    · rw [decide_eq_false h0, bnF, if_neg h0, step_eq hF h0 hs hk.1 (by have := hk.2.2; omega) hk.2.1]
      cases e : dA (dec F) s o k l with
      | no e => simp only [stepR]; rw [gO]; rfl
      | ok x =>
        obtain ⟨s', o', k', l'⟩ := x
        have h1 := lu h0 e
        have h2 := xY hk e
        simp only at h1 h2
        simp only [stepR]
        rw [kn]
        simp only []
        exact wg hF n m s' o' k' l' (by omega) (by omega) (by omega) ⟨h2.1, h2.2.1, by have := h2.2.2; omega⟩
theorem tok_eq {F : Nat} (hF : 1500000 < F) {s : Bs} (hs : s.length ≤ 100000) : my F s = some (nu (dec F) s) := by
  unfold my
  rw [bF (by omega), pP]
  exact wg hF F (s.length + 1) s [] 0 [] (by omega) (by omega) hs ⟨by simp, by omega, by simp⟩
theorem run_kp {d : Bs → Option Bs} : ∀ {n : Nat} {s : Bs} {o : List Bs} {k : Nat} {l : List Tok} {m : Nat} {x : Sx}, s.length ≤ m → Kp o k l (900000 - 2 * m) → m ≤ 100000 → jZ d n (s, o, k, l) = .ok x → x.2.2.2.length ≤ 900000
  | 0, s, o, k, l, m, x, _, _, _, h => by cases h
  | n + 1, s, o, k, l, m, x, hs, hk, hm, h => by
    unfold jZ at h
    by_cases h0 : s = []
    · rw [if_pos h0] at h; cases h; have := hk.2.2; simp only; omega
    · rw [if_neg h0] at h
      cases e : dA d s o k l with
      | no e' => rw [e] at h; cases h
      | ok y =>
        rw [e] at h
        obtain ⟨s', o', k', l'⟩ := y
        have h1 := lu h0 e
        have h2 := xY hk e
        have hp := List.length_pos_iff.2 h0
        simp only at h1 h2 h
        exact run_kp (m := m - 1) (by omega) ⟨h2.1, h2.2.1, by have := h2.2.2; omega⟩ (by omega) h
theorem tok_len {d : Bs → Option Bs} {s : Bs} (hs : s.length ≤ 100000) : (nu d s).1.length ≤ 900000 := by
  rw [pP]
  cases e : jZ d (s.length + 1) (s, [], 0, []) with
  | no e => simp [tokE]
  | ok x =>
    have := run_kp (m := s.length) (Nat.le_refl _) ⟨by simp, by omega, by simp⟩ hs e
    obtain ⟨s', o', k', l'⟩ := x;show (if o' = [] ∧ 0 < k' then (l', (0 : Int)) else ([], 2)).1.length ≤ _
    split
    · exact this
    · simp
end Go.Xm
namespace Go.Xm
open Go.Pv Go.Av
theorem uX {p s : Bs} {o : List Bs} {k : Nat} {l : List Tok} {e : Int} (h : gV p s o k l = .no e) : e ≠ 0 := by
  unfold gV at h
  split at h <;> (cases h; try decide)
theorem step_no {d : Bs → Option Bs} {s : Bs} {o : List Bs} {k : Nat} {l : List Tok} {e : Int} (h : dA d s o k l = .no e) : e ≠ 0 := by
  unfold dA at h
  split at h
  · unfold je at h
    split at h
    · cases h; decide
    · split at h
      · split at h <;> (cases h; try decide)
      · cases h
  split at h
  · exact uX h
  split at h
  · exact uX h
  split at h
  · unfold mw at h
    split at h
    · cases h; decide
    · split at h <;> (cases h; try decide)
  split at h
  · exact uX h
  split at h
  · unfold pA at h
    split at h
    · cases h; decide
    · split at h
      · unfold ls at h
        split at h <;> (cases h; try decide)
      · cases h; decide
  · unfold kI at h
    split at h
    · cases h; decide
    · split at h
      · cases h; decide
      · unfold na at h
        split at h
        · cases h; decide
        · split at h
          · cases h; decide
          · split at h <;> cases h
theorem run_no {d : Bs → Option Bs} : ∀ {n : Nat} {x : Sx} {e : Int}, jZ d n x = .no e → e ≠ 0
  | 0, x, e, h => by cases h; decide
  | n + 1, (s, o, k, l), e, h => by
    unfold jZ at h
    split at h
    · cases h
    · cases g : dA d s o k l with
      | no e' => rw [g] at h; cases h; exact step_no g
      | ok y => rw [g] at h; exact run_no h
def AtS (l : List Tok) (m : Nat) : Prop := ∀ t ∈ l, t.2.2.2.length ≤ m
theorem qL {d : Bs → Option Bs} : ∀ {k : Nat} {as_ : List At} {s : Bs} {bs : List At} {e : Bool} {r : Bs}, eO d k as_ s = some (bs, e, r) → bs.length ≤ as_.length + s.length
  | 0, _, _, _, _, _, h => by cases h
  | k + 1, as_, s, bs, e, r, h => by
    have hd := ss eJ s
    unfold eO at h
    split at h
    · cases h; omega
    · split at h
      · cases h; omega
      · split at h
        · cases h
        · cases ea : jy d (s.dropWhile eJ) with
          | none => rw [ea] at h; cases h
          | some x =>
            obtain ⟨a, r'⟩ := x
            rw [ea] at h
            simp only at h
            have h1 := mC ea
            split at h
            · cases h
            · have := qL h
              rw [List.length_append, List.length_singleton] at this
              omega
theorem pT {l : List Tok} {m : Nat} (h : AtS l m) {t : Tok} (ht : t.2.2.2.length ≤ m) : AtS (l ++ [t]) m := fun x hx => by
  rcases List.mem_append.1 hx with hx | hx
  · exact h x hx
  · rw [List.mem_singleton.1 hx]; exact ht
theorem wO {l : List Tok} {m : Nat} (h : AtS l m) (t : Bs) : AtS (lN t l) m := by
  unfold lN
  split
  · exact h
  · exact pT h (by simp)
theorem ats_step {d : Bs → Option Bs} {s : Bs} {o : List Bs} {k : Nat} {l : List Tok} {m : Nat} {x : Sx} (h : AtS l m) (hs : s.length ≤ m) (e : dA d s o k l = .ok x) : AtS x.2.2.2 m := by
  have sk : ∀ {p s' : Bs} {y : Sx}, gV p s' o k l = .ok y → AtS y.2.2.2 m := fun q => by
    rw [nP q]; exact h
  unfold dA at e
  split at e
  · unfold je at e
    split at e
    · cases e
    · split at e
      · split at e
        · cases e; exact h
        · cases e
      · cases e; exact wO h _
  split at e
  · exact sk e
  split at e
  · exact sk e
  split at e
  · unfold mw at e
    split at e
    · cases e
    · split at e
      · cases e
      · cases e; exact wO h _
  split at e
  · exact sk e
  split at e
  · unfold pA at e
    split at e
    · cases e
    · split at e
      · unfold ls at e
        split at e
        · cases e; exact pT h (by simp)
        · cases e
      · cases e
  · unfold kI at e
    split at e
    · cases e
    · rename_i n r en
      have hr := congrArg List.length (iR en).1
      rw [List.length_append, List.length_drop] at hr
      split at e
      · cases e
      · rename_i as_ em r' ea
        have ha := qL ea
        rw [List.length_nil] at ha
        have ha' : as_.length ≤ m := by omega
        unfold na at e
        split at e
        · cases e
        · split at e
          · cases e
          · split at e
            · cases e; exact pT (pT h ha') (by simp)
            · cases e; exact pT h ha'
theorem yw {d : Bs → Option Bs} {m : Nat} : ∀ {n : Nat} {x y : Sx}, AtS x.2.2.2 m → x.1.length ≤ m → jZ d n x = .ok y → AtS y.2.2.2 m
  | 0, _, _, _, _, h => by cases h
  | n + 1, (s, o, k, l), y, ha, hs, h => by
    unfold jZ at h
    by_cases h0 : s = []
    · rw [if_pos h0] at h; cases h; exact ha
    · rw [if_neg h0] at h
      cases e : dA d s o k l with
      | no e' => rw [e] at h; cases h
      | ok z =>
        rw [e] at h
        have h1 := lu h0 e
        exact yw (ats_step ha hs e) (by simp only at hs; omega) h
theorem tok_ats {d : Bs → Option Bs} {s : Bs} {m : Nat} (hs : s.length ≤ m) : AtS (nu d s).1 m := by
  rw [pP]
  cases e : jZ d (s.length + 1) (s, [], 0, []) with
  | no e => exact fun t ht => by cases ht
  | ok x =>
    have := yw (m := m) (x := (s, [], 0, [])) (fun t ht => by cases ht) hs e
    obtain ⟨s', o', k', l'⟩ := x;show AtS (if o' = [] ∧ 0 < k' then (l', (0 : Int)) else ([], 2)).1 m
    split
    · exact this
    · exact fun t ht => by cases ht
end Go.Xm
namespace Go.Fd
open Go.Pv Go.Av
open Go.Xm
theorem gcI {α : Type} {c : Bool} {n : Int} {k : Option α} (h : -9223372036854775808 ≤ n ∧ n ≤ 9223372036854775807) : fv c (okI n) k = k := by
  cases c with
  | false => exact eE
  | true => rw [kP, bR h]
theorem un {α β ρ : Type} {f : α → β → Option ρ} : fy (none : Option (α × β)) f = none := Eq.symm (Eq.symm rfl)
theorem last_at {o : List Bs} (h : o ≠ []) : at_ o ((o.length : Int) - 1) = o.getLast h := by
  have h1 := List.length_pos_iff.2 h
  have e : (o.length : Int) - 1 = ((o.length - 1 : Nat) : Int) := by omega
  rw [e, fN (by omega), List.getLast_eq_getElem]
theorem to_last {o : List Bs} (h : o ≠ []) : to_ o ((o.length : Int) - 1) = o.dropLast := by
  have h1 := List.length_pos_iff.2 h
  have e : (o.length : Int) - 1 = ((o.length - 1 : Nat) : Int) := by omega
  rw [e, nr, List.dropLast_eq_take]
theorem qE (a : El) (ha : a.length ≤ 1000000) : ∀ (n i : Nat) (o : List Bs), a.length - i < n → i ≤ a.length → o.length ≤ i →
    dD a n (o, (i : Int)) = some (if i = 0 ∧ a = [] then false else mo (decide (i = 0)) o (a.drop i))
  | 0, i, o, h, _, _ => by omega
  | n + 1, i, o, hn, hi, ho => by
    show gA a (dD a n) o (i : Int) = _
    unfold gA
    by_cases h : i < a.length
    · have hd : a.drop i = a[i] :: a.drop (i + 1) := aZ h
      have h0 : ¬ (i = 0 ∧ a = []) := fun z => by rw [z.2] at h; simp at h
      have hs : ∀ o' : List Bs, o'.length ≤ i + 1 → dC (i : Int) (dD a n) o' = some (mo false o' (a.drop (i + 1))) := fun o' ho' => by
        unfold dC
        rw [bR (by omega), cq, qE a ha n (i + 1) o' (by omega) (by omega) ho', if_neg (by omega), decide_eq_false (by omega)]
      rw [bT (by omega), cQ (by omega), bi, fN h, if_neg h0, hd]
      have e1 : ((decide (0 < (i : Int))) && (decide ((o.length : Int) = 0))) = decide (decide (i = 0) = false ∧ o = []) := by
        cases o with
        | nil => by_cases z : i = 0 <;> simp [z] <;> omega
        | cons x r => simp; omega
      rw [e1, mo]
      by_cases c0 : decide (i = 0) = false ∧ o = []
      · rw [decide_eq_true c0, if_pos c0]; rfl
      rw [decide_eq_false c0, if_neg c0, cond_false]
      by_cases c1 : a[i].1 = 0
      · rw [decide_eq_true c1, if_pos c1, cond_true, dI (by simp; omega), bi, hs _ (by simp; omega)]
      rw [decide_eq_false c1, if_neg c1, cond_false]
      by_cases hoe : o = []
      · subst hoe
        have e2 : (decide (a[i].1 = 1) && decide (0 < ((([] : List Bs).length : Nat) : Int))) = false := by simp
        rw [e2, eE, eE, eE, bi, Bool.false_and, cond_false, if_neg (by simp)]
        have e3 : ((!decide (a[i].1 = 2)) || (decide (((([] : List Bs).length : Nat) : Int) = 0))) = true := by simp
        rw [e3, cond_true]; simp
      · have h1 := List.length_pos_iff.2 hoe
        have g1 : ∀ {α : Type} (c : Bool) (k : Option α), fv c (okI ((o.length : Int) - 1)) k = k := fun c k => gcI (by omega)
        have g2 : ∀ {α : Type} (c : Bool) (k : Option α), fv c (dq ((o.length : Int) - 1) o.length) k = k := fun c k => nn fun _ => ⟨by omega, by omega⟩
        rw [g1, g2, g2, bi, last_at hoe]
        have e2 : decide (0 < (o.length : Int)) = true := decide_eq_true (by omega)
        rw [e2, Bool.and_true, List.getLast?_eq_some_getLast hoe]
        by_cases c2 : a[i].1 = 1 ∧ some (o.getLast hoe) = some a[i].2.1
        · rw [if_pos c2, decide_eq_true c2.1, decide_eq_true (ak c2.2), Bool.and_true, cond_true, bR (by omega), ec (by omega), bi, to_last hoe, hs _ (by rw [List.length_dropLast]; omega)]
        · have e3 : (decide (a[i].1 = 1) && decide (o.getLast hoe = a[i].2.1)) = false := by
            cases q : decide (a[i].1 = 1) && decide (o.getLast hoe = a[i].2.1) with
            | false => rfl
            | true =>
              rw [Bool.and_eq_true] at q
              exact absurd ⟨of_decide_eq_true q.1, congrArg some (of_decide_eq_true q.2)⟩ c2
          rw [if_neg c2, e3, cond_false]
          by_cases c3 : a[i].1 = 2
          · have e4 : ((!decide (a[i].1 = 2)) || (decide ((o.length : Int) = 0))) = false := by rw [decide_eq_true c3, decide_eq_false (by omega)]; rfl
            rw [e4, cond_false, if_neg (fun z => z.elim (fun q => q c3) hoe), hs _ (by omega)]
          · rw [decide_eq_false c3, if_pos (.inl c3)]; rfl
    · have hi2 : i = a.length := by omega
      rw [bF (by omega)]
      unfold gz
      subst hi2
      rw [List.drop_length]
      cases a with
      | nil => simp
      | cons x r =>
        rw [if_neg (by simp)]
        cases o with
        | nil => simp [mo] <;> omega
        | cons y q => simp [mo] <;> omega
theorem yU {F : Nat} (a : El) (ha : a.length ≤ 1000000) (hF : a.length < F) : ke F a = some (mo true [] a) := by
  unfold ke
  rw [show ((([] : List Bs), (0 : Int)) : List Bs × Int) = ([], ((0 : Nat) : Int)) from rfl, qE a ha F 0 [] (by omega) (by omega) (by simp)]
  by_cases h : a = []
  · subst h; rfl
  · rw [if_neg (fun z => h z.2), decide_eq_true rfl, List.drop_zero]
def oy {σ α : Type} (k : σ → α → Option (σ × Bool)) : σ → List α → Option σ
  | s, [] => some s
  | s, p :: ps => fy (k s p) fun s' b => bif !b then some s' else oy k s' ps
theorem nM (a : El) {f i : Nat} (hf : f ≤ i) (hi : i < a.length) : (a.drop f).take (i - f) ++ [a[i]] = (a.drop f).take (i + 1 - f) := by
  have e : i + 1 - f = (i - f) + 1 := by omega
  rw [e, List.take_succ_eq_append_getElem (by simp; omega)]
  congr 2
  simp
  congr 1
  omega
theorem rO {σ : Type} (a : El) (ha : a.length ≤ 1000000) (k : σ → El → Option (σ × Bool)) : ∀ (n f i : Nat) (d : Int) (s : σ), a.length - i < n → f ≤ i → i ≤ a.length → - (i : Int) ≤ d → d ≤ i →
    eb a k n (d, (f : Int), (i : Int), s) = oy k s (bS d ((a.drop f).take (i - f)) (a.drop i))
  | 0, f, i, d, s, h, _, _, _, _ => by omega
  | n + 1, f, i, d, s, hn, hf, hi, hd1, hd2 => by
    show ie a k (eb a k n) d (f : Int) (i : Int) s = _
    unfold ie
    by_cases h : i < a.length
    · have hd : a.drop i = a[i] :: a.drop (i + 1) := aZ h
      have hj : ∀ (f' : Nat) (d' : Int) (s' : σ), f' ≤ i + 1 → - ((i + 1 : Nat) : Int) ≤ d' → d' ≤ ((i + 1 : Nat) : Int) → cU (i : Int) (eb a k n) d' (f' : Int) s' = oy k s' (bS d' ((a.drop f').take (i + 1 - f')) (a.drop (i + 1))) := fun f' d' s' h1 h2 h3 => by
        unfold cU
        rw [bR (by omega), cq, rO a ha k n f' (i + 1) d' s' (by omega) h1 (by omega) h2 h3]
      rw [bT (by omega), cQ (by omega), bi, fN h, hd, bS]
      by_cases c1 : a[i].1 = 0
      · rw [decide_eq_true c1, if_pos c1, cond_true, bR (by omega)]
        by_cases c2 : d + 1 = 2
        · rw [decide_eq_true c2, if_pos c2, cond_true, hj i (d + 1) s (by omega) (by omega) (by omega)]
          have : (a.drop i).take (i + 1 - i) = [a[i]] := by
            rw [hd, show i + 1 - i = 1 by omega]; rfl
          rw [this]
        · rw [decide_eq_false c2, if_neg c2, cond_false, hj f (d + 1) s (by omega) (by omega) (by omega), nM a hf h]
      rw [decide_eq_false c1, if_neg c1, cond_false]
      by_cases c3 : a[i].1 = 1
      · rw [decide_eq_true c3, if_pos c3, cond_true, bR (by omega)]
        by_cases c4 : d - 1 = 1
        · rw [decide_eq_true c4, if_pos c4, cond_true, bR (by omega), bR (by omega), pS (by omega), bi]
          have e : sub a (f : Int) ((i : Int) + 1) = (a.drop f).take (i - f) ++ [a[i]] := by
            rw [nM a hf h, cq, rk, List.drop_take]
          rw [e, oy]
          cases k s ((a.drop f).take (i - f) ++ [a[i]]) with
          | none => rw [un, un]
          | some r =>
            obtain ⟨s', b⟩ := r
            rw [aN, aN]
            cases b with
            | false => rw [Bool.not_false, cond_true, cond_true]
            | true =>
              rw [Bool.not_true, cond_false, cond_false, hj f (d - 1) s' (by omega) (by omega) (by omega), nM a hf h]
        · rw [decide_eq_false c4, if_neg c4, cond_false, hj f (d - 1) s (by omega) (by omega) (by omega), nM a hf h]
      · rw [decide_eq_false c3, if_neg c3, cond_false, hj f d s (by omega) (by omega) (by omega), nM a hf h]
    · rw [bF (by omega), bc (show a.length ≤ i by omega), bS, oy]
theorem wl {σ : Type} {F : Nat} (a : El) (ha : a.length ≤ 1000000) (hF : a.length < F) (k : σ → El → Option (σ × Bool)) (s : σ) : fi F k s a = oy k s (fc a) := by
  unfold fi
  have := rO a ha k F 0 0 0 s (by omega) (by omega) (by omega) (by omega) (by omega)
  simpa [fc] using this
theorem ze (p : El → Bool) (k : Bool × El × Nat → El → Option ((Bool × El × Nat) × Bool)) (ps : List El)
    (hk : ∀ y ∈ ps, ∀ (f : Bool) (x : El), k (f, x, 0) y = if p y = true then some ((true, y, 1), false) else some ((f, x, 0), true)) :
    ∀ (f : Bool) (x : El), oy k (f, x, 0) ps = some (match ps.find? p with | none => (f, x, 0) | some y => (true, y, 1)) := by
  induction ps with
  | nil => intro f x; rfl
  | cons y ps ih =>
    intro f x
    rw [oy, hk y List.mem_cons_self, List.find?_cons]
    cases h : p y with
    | true => rfl
    | false =>
      rw [if_neg (by simp), aN, Bool.not_true, cond_false, ih fun z hz => hk z (List.mem_cons_of_mem _ hz)]
def uU (o : Option El) : El × Bool := match o with | none => ([], false) | some y => (y, true)
end Go.Fd
namespace Go.Pn
open Go.Pv Go.Av
theorem gone_43 (F : Nat) : ∀ (n : Nat) (s : Bs) (ok : Bool) (acc : Bs), s.length < n → s.length ≤ 100000 → s.length + 20 < F → acc.length + 2 * s.length ≤ 1000000 → ∃ o k, eT F n (s, ok, acc) = some (o, k) ∧ 3 * o.length ≤ 3 * acc.length + 4 * s.length := by
  intro n
  induction n with
  | zero => intro s ok acc h; omega
  | succ n ih =>
    intro s ok acc hn hs hF ha;show ∃ o k, gE F (eT F n) s ok acc = some (o, k) ∧ _
    unfold gE gD
    obtain ⟨hi1, hi2⟩ := lK s 38
    by_cases h : Go.Lib.indexByte s 38 < 0
    · simp (disch := (first | omega | (simp; done) | (simp; omega))) only [bi, bT, rf]
      exact ⟨_, _, rfl, by simp; omega⟩
    · obtain ⟨i, hi⟩ : ∃ i : Nat, Go.Lib.indexByte s 38 = i := ⟨(Go.Lib.indexByte s 38).toNat, by omega⟩
      have il : i < s.length := by omega
      have l1 : (to_ s (i : Int)).length = i := by simp [nr]; omega
      have l2 : (cV s (i : Int)).length = s.length - i := by simp [ly]
      obtain ⟨o, k, ho, hk⟩ := tK F (cV s (i : Int)) (by omega) (by omega) (by omega)
      simp (disch := (first | omega | (simp; done) | (simp; omega))) only [bi, hi, bF, ec, rf, ho, aN]
      rcases hk with rfl | ⟨k3, kl, ol⟩
      · have l3 : (cV (cV s (i : Int)) 1).length = s.length - i - 1 := by simp [cV, l2]; omega
        simp (disch := (first | omega | (simp; done) | (simp; omega))) only [decide_true, cond_true, rf, bi, ec]
        obtain ⟨o', k', e1, e2⟩ := ih (cV (cV s (i : Int)) 1) false (acc ++ to_ s (i : Int) ++ [38]) (by omega) (by omega) (by omega) (by simp; omega);exact ⟨o', k', e1, by simp at e2; omega⟩
      · have l3 : (cV (cV s (i : Int)) k).length = s.length - i - k.toNat := by simp [cV]; omega
        simp (disch := (first | omega | (simp; done) | (simp; omega))) only [bF, rf, bi, ec]
        obtain ⟨o', k', e1, e2⟩ := ih (cV (cV s (i : Int)) k) ok (acc ++ to_ s (i : Int) ++ o) (by omega) (by omega) (by omega) (by simp; omega);exact ⟨o', k', e1, by simp at e2; omega⟩
end Go.Pn
namespace Go.Fd
open Go.Pv Go.Av
open Go.Xm
def DecT (d : Bs → Option Bs) : Prop := ∀ s t : Bs, s.length ≤ 100000 → d s = some t → 3 * t.length ≤ 4 * s.length
theorem dec_43 {F : Nat} (hF : 1500000 < F) : DecT (dec F) := fun s t hs h => by
  obtain ⟨o, k, h1, h2⟩ := Go.Pn.gone_43 F F s true [] (by omega) hs (by omega) (by simp; omega)
  have h3 : nT F s = some (o, k) := h1
  rw [Go.Pn.goneG F (by omega) s hs] at h3
  have e := ak h3
  unfold dec at h
  rw [e] at h
  rw [List.length_nil] at h2
  cases k with
  | false => cases h
  | true => have : o = t := ak h; rw [← this]; omega
theorem tw_le (f : UInt8 → Bool) (s : Bs) : (s.takeWhile f).length + (s.dropWhile f).length = s.length := by
  have := congrArg List.length (List.takeWhile_append_dropWhile (p := f) (l := s))
  rwa [List.length_append] at this
def tx (l : El) : Nat := (da l).length
theorem xU (t : Bs) (l : El) : tx (lN t l) = tx l + t.length := by
  unfold lN
  by_cases h : t = []
  · rw [if_pos h, h]; rfl
  · rw [if_neg h]
    unfold tx
    rw [lg, List.length_append, iV, if_pos rfl]
    simp [da]
theorem vl (l : El) {x : Tok} (h : x.1 ≠ 2) : tx (l ++ [x]) = tx l := by
  unfold tx
  rw [lg, List.length_append, iV, if_neg h]
  simp [da]
section
variable {d : Bs → Option Bs} (hd : DecT d)
include hd
theorem step_tx {s : Bs} {o : List Bs} {k : Nat} {l : El} {x : Sx} (hs : s.length ≤ 100000) (h : dA d s o k l = .ok x) : 3 * tx x.2.2.2 + 4 * x.1.length ≤ 3 * tx l + 4 * s.length := by
  have sk : ∀ {p s' : Bs} {y : Sx}, p ≠ [] → s'.length ≤ s.length → gV p s' o k l = .ok y → 3 * tx y.2.2.2 + 4 * y.1.length ≤ 3 * tx l + 4 * s.length := fun hp hl q => by
    obtain ⟨h1, h2⟩ := iz hp q
    rw [h2]
    simp only
    omega
  unfold dA at h
  split at h
  · unfold je at h
    have hl := tw_le (fun c => decide (c ≠ 60)) s
    split at h
    · cases h
    · rename_i t ht
      have := hd _ t (by omega) ht
      split at h
      · split at h
        · cases h; simp only; omega
        · cases h
      · cases h
        simp only [xU]; omega
  split at h
  · exact sk (by simp) (by simp) h
  split at h
  · exact sk (by simp) (by simp) h
  split at h
  · unfold mw at h
    cases e : iu [93, 93, 62] (s.drop 9) with
    | none => rw [e] at h; cases h
    | some y =>
      obtain ⟨t, r⟩ := y
      have hl := congrArg List.length (lz (by simp) e)
      simp only [List.length_append, List.length_drop] at hl
      rw [e] at h
      simp only at h
      split at h
      · cases h
      · cases h
        simp only [xU]; omega
  split at h
  · exact sk (by simp) (by simp) h
  split at h
  · unfold pA at h
    cases e : ej (s.drop 2) with
    | none => rw [e] at h; cases h
    | some y =>
      obtain ⟨n, r⟩ := y
      have hl := congrArg List.length (iR e).1
      simp only [List.length_append, List.length_drop] at hl
      have hw := ss eJ r
      rw [e] at h
      simp only at h
      split at h
      · unfold ls at h
        split at h
        · cases h
          simp only [List.length_drop]
          rw [vl _ (by simp)]
          omega
        · cases h
      · cases h
  · have hz := lu (dec := d) (s := s) (o := o) (k := k) (l := l) (x := x)
    unfold kI at h
    cases e : ej (s.drop 1) with
    | none => rw [e] at h; cases h
    | some y =>
      obtain ⟨n, r⟩ := y
      have hl := congrArg List.length (iR e).1
      simp only [List.length_append, List.length_drop] at hl
      have hp := wv (iR e).2
      rw [e] at h
      simp only at h
      cases ea : eO d (r.length + 1) [] r with
      | none => rw [ea] at h; cases h
      | some z =>
        obtain ⟨as_, em, r'⟩ := z
        have hw := oZ ea
        rw [ea] at h
        simp only at h
        unfold na at h
        split at h
        · cases h
        · split at h
          · cases h
          · split at h
            · cases h
              simp only
              rw [vl _ (by simp), vl _ (by simp)]
              omega
            · cases h
              simp only
              rw [vl _ (by simp)]
              omega
theorem run_tx : ∀ {n : Nat} {x y : Sx}, x.1.length ≤ 100000 → jZ d n x = .ok y → 3 * tx y.2.2.2 + 4 * y.1.length ≤ 3 * tx x.2.2.2 + 4 * x.1.length
  | 0, _, _, _, h => by cases h
  | n + 1, (s, o, k, l), y, hs, h => by
    unfold jZ at h
    by_cases h0 : s = []
    · rw [if_pos h0] at h; cases h; exact Nat.le_refl _
    · rw [if_neg h0] at h
      cases e : dA d s o k l with
      | no e' => rw [e] at h; cases h
      | ok z =>
        rw [e] at h
        have h1 := lu h0 e
        have h2 := step_tx hd hs e
        simp only at hs h2 ⊢
        have := run_tx (x := z) (by omega) h
        omega
theorem tok_tx {s : Bs} (hs : s.length ≤ 100000) : 3 * tx (nu d s).1 ≤ 4 * s.length := by
  rw [pP]
  cases e : jZ d (s.length + 1) (s, [], 0, []) with
  | no e => simp [tokE, tx, da]
  | ok x =>
    have := run_tx hd (x := (s, [], 0, [])) hs e
    obtain ⟨s', o', k', l'⟩ := x
    have e0 : tx [] = 0 := rfl
    simp only [e0] at this
    show 3 * tx (if o' = [] ∧ 0 < k' then (l', (0 : Int)) else ([], 2)).1 ≤ _
    split
    · simp only; omega
    · simp [tx, da]
end
end Go.Fd
namespace Go.Fd
open Go.Pv Go.Av
open Go.Xm
structure LocK (s : Bs) (k i : Nat) : Prop where
  le : k ≤ i
  at' : k = 0 ∨ ∃ h : k - 1 < s.length, s[k - 1] = 58
  no : ∀ (m : Nat) (h : m < s.length), k ≤ m → m < i → s[m] ≠ 58
theorem tA (s : Bs) (hs : s.length ≤ 1000000) : ∀ (n j : Nat), j < n → j ≤ s.length → (∀ (m : Nat) (h : m < s.length), j ≤ m → s[m] ≠ 58) → ∃ k : Nat, LocK s k s.length ∧ hM s 58 n ((j : Int) - 1) = some ((k : Int) - 1)
  | 0, j, h, _, _ => by omega
  | n + 1, j, h, hj, hn => by
    show ∃ k : Nat, _ ∧ hO s 58 (hM s 58 n) ((j : Int) - 1) = _
    unfold hO
    by_cases g : j = 0
    · subst g
      refine ⟨0, ⟨by omega, .inl rfl, fun m h h1 _ => hn m h h1⟩, ?_⟩
      rw [bF (by omega)]; rfl
    · have g1 : j - 1 < s.length := by omega
      rw [bT (by omega), show (j : Int) - 1 = ((j - 1 : Nat) : Int) by omega, cQ (by omega), bi, fN g1]
      by_cases c : s[j - 1] = 58
      · rw [bT c]
        exact ⟨j, ⟨hj, .inr ⟨g1, c⟩, fun m h h1 _ => hn m h h1⟩, by congr 1; omega⟩
      · rw [bF c, bR (by omega)]
        refine tA s hs n (j - 1) (by omega) (by omega) fun m h h1 => ?_
        by_cases w : j ≤ m
        · exact hn m h w
        · have : m = j - 1 := by omega
          subst this; exact c
theorem loc_drop {s : Bs} {k : Nat} (h : LocK s k s.length) : s.drop k = oA s := by
  have ha : ∀ c ∈ (s.drop k).reverse, decide (c ≠ (58 : UInt8)) = true := fun c hc => by
    obtain ⟨m, hm, rfl⟩ := List.getElem_of_mem (List.mem_reverse.1 hc)
    rw [List.getElem_drop]
    rw [List.length_drop] at hm
    exact decide_eq_true (h.no (k + m) (by omega) (by omega) (by omega))
  have e : s.reverse = (s.drop k).reverse ++ (s.take k).reverse := by rw [← List.reverse_append, List.take_append_drop]
  unfold oA
  rw [e, List.takeWhile_append_of_pos ha]
  have : (s.take k).reverse.takeWhile (fun c => decide (c ≠ (58 : UInt8))) = [] := by
    rcases h.at' with q | ⟨h1, h2⟩
    · subst q; rfl
    · have hk : 0 < k ∨ k = 0 := by omega
      rcases hk with hk | rfl
      · have e2 : s.take k = s.take (k - 1) ++ [s[k - 1]] := by
          have := List.take_succ_eq_append_getElem h1
          rwa [show k - 1 + 1 = k by omega] at this
        rw [e2, List.reverse_append, h2]; rfl
      · rfl
  rw [this, List.append_nil, List.reverse_reverse]
theorem local_eq {F : Nat} {s : Bs} (hs : s.length ≤ 1000000) (hF : 1500000 < F) : nL F s = some (oA s) := by
  obtain ⟨k, h1, h2⟩ := tA s hs F s.length (by omega) (Nat.le_refl _) fun m h h1 => by omega
  have := h1.le
  unfold nL gK mM
  rw [bR (by omega), h2, aR, aR, bR (by omega), ec (by omega), bi, show (k : Int) - 1 + 1 = (k : Int) by omega, ly, loc_drop h1]
theorem loc_len (s : Bs) : (oA s).length ≤ s.length := by
  unfold oA
  rw [List.length_reverse]
  have := (List.takeWhile_sublist (fun c => decide (c ≠ (58 : UInt8))) (l := s.reverse)).length_le
  rwa [List.length_reverse] at this
structure Sm (x : El) : Prop where
  len : x.length ≤ 1000000
  tx : tx x ≤ 1000000
  nm : ∀ t ∈ x, t.2.1.length ≤ 1000
  at' : ∀ t ∈ x, t.2.2.2.length ≤ 1000000
theorem Sm.part {x y : El} (h : Sm x) (hy : y ∈ fc x) : Sm y := by
  obtain ⟨h1, h2, h3⟩ := tv hy;exact ⟨Nat.le_trans h2 h.len, Nat.le_trans h1 h.tx, fun t ht => h.nm t (h3 t ht), fun t ht => h.at' t (h3 t ht)⟩
theorem vc {x y : El} (hy : y ∈ fc x) : y ≠ [] := jG x 0 [] y hy
section
variable {F : Nat} (hF : 1500000 < F)
include hF
theorem kU {x : El} (h : Sm x) (hx : x ≠ []) : fj F x = some (pz x) ∧ (pz x).length ≤ 1000 := by
  obtain ⟨t, r, rfl⟩ := List.exists_cons_of_ne_nil hx
  have hn := h.nm t List.mem_cons_self
  have hl := loc_len t.2.1
  refine ⟨?_, Nat.le_trans hl hn⟩
  unfold fj
  rw [cQ (by simp <;> omega), bi, show at_ (t :: r) 0 = t from rfl, local_eq (by omega) hF, aR]
  rfl
omit hF in
theorem up (n : Bs) (t : Tok) (ha : t.2.2.2.length ≤ 1000000) : ∀ (m i : Nat), t.2.2.2.length - i < m → i ≤ t.2.2.2.length → jo n t m (i : Int) = some (match attL n (t.2.2.2.drop i) with | none => ([], false) | some s => (s, true))
  | 0, i, h, _ => by omega
  | m + 1, i, hm, hi => by
    show jp n t (jo n t m) (i : Int) = _
    unfold jp
    by_cases h : i < t.2.2.2.length
    · have hd : t.2.2.2.drop i = t.2.2.2[i] :: t.2.2.2.drop (i + 1) := aZ h
      rw [bT (by omega), cQ (by omega), bi, fN h, hd]
      unfold attL
      rw [List.find?_cons]
      by_cases c : t.2.2.2[i].1 = n
      · rw [decide_eq_true c]; rfl
      · rw [decide_eq_false c, cond_false, bR (by omega), cq, up n t ha m (i + 1) (by omega) (by omega)]
        rfl
    · rw [bF (by omega), bc (by omega)]
      rfl
theorem wG {x : El} (h : Sm x) (hx : x ≠ []) (n : Bs) : kV F x n = some (match attO n x with | none => ([], false) | some s => (s, true)) := by
  obtain ⟨t, r, rfl⟩ := List.exists_cons_of_ne_nil hx
  have ht := h.at' t List.mem_cons_self
  unfold kV
  rw [cQ (by simp <;> omega), bi, show at_ (t :: r) 0 = t from rfl]
  have := up n t ht F 0 (by omega) (by omega)
  simpa [attO] using this
theorem oU (a : El) (ha : Sm a) : ∀ (n i : Nat) (acc : Bs), a.length - i < n → i ≤ a.length → acc.length + tx (a.drop i) ≤ 1000000 →
    eY F a n ((i : Int), acc) = some (Go.Pn.trim (acc ++ da (a.drop i)))
  | 0, i, acc, h, _, _ => by omega
  | n + 1, i, acc, hn, hi, hx => by
    show im F a (eY F a n) (i : Int) acc = _
    unfold im
    by_cases h : i < a.length
    · have hd : a.drop i = a[i] :: a.drop (i + 1) := aZ h
      rw [bT (by omega), cQ (by omega), bi, fN h, hd, iV]
      have hl := ha.len
      have hx2 : acc.length + ((if a[i].1 = 2 then a[i].2.2.1 else []).length + tx (a.drop (i + 1))) ≤ 1000000 := by
        have := hx
        unfold tx at this ⊢
        rw [hd, iV, List.length_append] at this
        exact this
      unfold gl
      by_cases c : a[i].1 = 2
      · rw [if_pos c] at hx2 ⊢
        rw [decide_eq_true c, cond_true]
        unfold okW
        rw [ko (by omega), bi, bR (by omega), cq, oU a ha n (i + 1) _ (by omega) (by omega) (by rw [List.length_append]; omega), List.append_assoc]
      · rw [if_neg c] at hx2 ⊢
        rw [decide_eq_false c, cond_false, bR (by omega), cq, oU a ha n (i + 1) _ (by omega) (by omega) (by simp at hx2; omega), List.nil_append]
    · rw [bc (by omega)] at hx ⊢
      have hx3 : acc.length ≤ 1000000 := by omega
      rw [bF (by omega)]
      unfold ik okW
      rw [ko (by simp; omega), Go.Pn.ent_Trim_eq F acc hx3 (by omega), aR]
      simp [da]
theorem rY {a : El} (ha : Sm a) : fT F a = some (valP a) := by
  have hl := ha.len
  have := oU hF a ha F 0 [] (by omega) (by omega) (by simpa using ha.tx)
  unfold fT
  rw [show ((0 : Int), ([] : Bs)) = (((0 : Nat) : Int), []) from rfl, this, List.nil_append, List.drop_zero]
  rfl
omit hF in
theorem sm_nil : Sm [] := ⟨by simp, by simp [tx, da], fun t h => (by cases h), fun t h => (by cases h)⟩
structure NsOK (ns : List Bs) : Prop where
  join : pb ns [124] = true
  len : (Str.join [124] ns).length ≤ 1000
theorem yD {ns : List Bs} (hn : NsOK ns) {x : El} (h : Sm x) (hx : x ≠ []) : kd F x ns = some (sZ ns x) := by
  obtain ⟨h1, h2⟩ := kU hF h hx
  have hj := hn.len
  unfold kd
  rw [hn.join, nw, bi, dI (by simp; omega), bi, dI (by simp; omega), bi, h1, aR, dI (by simp; omega), bi, dI (by simp; omega), bi, mr (by simp; omega), bi]
  unfold sZ
  cases Go.Lib.contains ([124] ++ Str.join [124] ns ++ [124]) ([124] ++ pz x ++ [124]) with
  | false => simp only [lC, eE, bi, Bool.false_and]
  | true => rw [xT, aR, kP, mr (by omega), bi]
theorem topC_eq {x : El} (h : Sm x) (hx : x ≠ []) : mA F x = some (isN [99, 104, 97, 110, 110, 101, 108] x) := by
  unfold mA
  rw [(kU hF h hx).1, aR]
  rfl
end
end Go.Fd
namespace Go.Fd
open Go.Pv Go.Av
open Go.Xm (Bs At Tok)
open Go.Pn (bl T1 T2 trim)
abbrev qS : Bs := [103, 117, 105, 100]
abbrev dt : Bs := [116, 105, 116, 108, 101]
abbrev n_link : Bs := [108, 105, 110, 107]
abbrev n_desc : Bs := [100, 101, 115, 99, 114, 105, 112, 116, 105, 111, 110]
abbrev n_id : Bs := [105, 100]
abbrev n_summ : Bs := [115, 117, 109, 109, 97, 114, 121]
abbrev n_cont : Bs := [99, 111, 110, 116, 101, 110, 116]
abbrev n_upd : Bs := [117, 112, 100, 97, 116, 101, 100]
abbrev n_rel : Bs := [114, 101, 108]
abbrev n_alt : Bs := [97, 108, 116, 101, 114, 110, 97, 116, 101]
abbrev vp : Bs := [104, 114, 101, 102]
abbrev gw : Bs := [99, 104, 97, 110, 110, 101, 108]
abbrev lB : Bs := [105, 116, 101, 109]
abbrev yq : Bs := [101, 110, 116, 114, 121]
abbrev mq : Bs := [114, 115, 115]
abbrev n_feed : Bs := [102, 101, 101, 100]
def ri (x : El) : Ent := (mg [qS] x, mg [dt] x, mg [n_link] x, mg [n_desc] x, 0)
def sr (y : El) : Bool := isN n_link y && (match attO n_rel y with | none => true | some r => decide (r = n_alt))
def linkV (x : El) : Bs := match kH sr x with | none => [] | some y => optS (attO vp y)
def atV (r : Int × Int) : Int := if r.2 = 0 ∧ 0 ≤ r.1 ∧ r.1 ≤ 253402300799 then r.1 else 0
def atomE (stp : Bs → Int × Int) (x : El) : Ent := (mg [n_id] x, mg [dt] x, linkV x, mg [n_summ, n_cont] x, atV (stp (mg [n_upd] x)))
def cutE (e : Ent) : Ent := (e.1, e.2.1, e.2.2.1, e.2.2.2.1.take 4000, e.2.2.2.2)
abbrev Fe := Bs × List Ent
def entL (item : Bs) (mk : El → Ent) (ps : List El) : List Ent := ((ps.filter (isN item)).take 200).map fun x => cutE (mk x)
def topP (top : El) (item : Bs) (mk : El → Ent) : Fe := (mg [dt] top, entL item mk (fc top))
def ta (stp : Bs → Int × Int) (x : El) : Fe × Int :=
  if mo true [] x = false then (([], []), 2)
  else if pz x = mq then match kH (isN gw) x with
    | none => (([], []), 2)
    | some c => (topP c lB ri, 0)
  else if pz x = n_feed then (topP x yq (atomE stp), 0)
  else (([], []), 2)
theorem xS {e : Ent} (h : e.2.2.2.1.length ≤ 4000) : cutE e = e := by
  obtain ⟨a, b, c, t, n⟩ := e;show (a, b, c, t.take 4000, n) = _
  rw [List.take_of_length_le h]
end Go.Fd
namespace Go.Fd
open Go.Pv Go.Av
open Go.Xm
section
variable {F : Nat} (hF : 1500000 < F)
include hF
theorem se {a : El} (ha : Sm a) (p : El → Bool) (kk : Bool → El → Nat → El → Option ((Bool × El × Nat) × Bool))
    (hk : ∀ y : El, Sm y → y ≠ [] → ∀ (f : Bool) (x : El), kk f x 0 y = if p y = true then some ((true, y, 1), false) else some ((f, x, 0), true)) :
    (bnd (fi F (fun s x => kk s.1 s.2.1 s.2.2 x) (false, ([] : El), 0) a) fun x20 => bif decide (x20.2.2 = 0) then some (([] : El), false) else bif decide (x20.2.2 = 1) then some (x20.2.1, x20.1) else none) = some (uU (kH p a)) := by
  have hl := ha.len
  rw [wl a ha.len (by omega), ze p _ (fc a) (fun y hy f x => hk y (ha.part hy) (vc hy) f x), aR]
  unfold kH uU
  cases (fc a).find? p with
  | none => rfl
  | some y => rfl
theorem findV_eq {a : El} (ha : Sm a) {ns : List Bs} (hn : NsOK ns) : lj F a ns = some (uU (kH (sZ ns) a)) := by
  refine Eq.trans ?_ (se hF ha (sZ ns) (gi F ns) fun y hy h0 f x => ?_)
  · unfold lj dG ig
    rw [aR]
  · unfold gi
    rw [ko rfl, yD hF hn hy h0, aR]
    cases sZ ns y with
    | false => rw [if_neg (by simp)]; rfl
    | true => rw [if_pos rfl]; rfl
theorem findT_eq {a : El} (ha : Sm a) : lk F a = some (uU (kH (isN gw) a)) := by
  refine Eq.trans ?_ (se hF ha (isN gw) (gj F) fun y hy h0 f x => ?_)
  · unfold lk dG ii
    rw [aR]
  · unfold gj
    rw [ko rfl, topC_eq hF hy h0, aR]
    cases isN gw y with
    | false => rw [if_neg (by simp)]; rfl
    | true => rw [if_pos rfl]; rfl
theorem zg {x : El} (h : Sm x) (hx : x ≠ []) : kf F x = some (sr x) := by
  unfold kf sr isN
  rw [wG hF h hx]
  cases attO n_rel x with
  | none => rw [aN, (kU hF h hx).1, aR, Bool.not_false, Bool.true_or]
  | some r => rw [aN, (kU hF h hx).1, aR, Bool.not_true, Bool.false_or]
theorem findE_eq {a : El} (ha : Sm a) : ll F a = some (uU (kH sr a)) := by
  refine Eq.trans ?_ (se hF ha sr (gk F) fun y hy h0 f x => ?_)
  · unfold ll dG ij
    rw [aR]
  · unfold gk
    rw [ko rfl, zg hF hy h0, aR]
    cases sr y with
    | false => rw [if_neg (by simp)]; rfl
    | true => rw [if_pos rfl]; rfl
theorem kR {a : El} (ha : Sm a) {ns : List Bs} (hn : NsOK ns) : cX F a ns = some (mg ns a) := by
  unfold cX mg
  rw [findV_eq hF ha hn]
  cases e : kH (sZ ns) a with
  | none =>
    show (fy (some (([] : El), false)) fun x6 x7 => bnd (fT F x6) fun x9 => some x9) = _
    rw [aN, rY hF sm_nil, aR]
    rfl
  | some y =>
    have hy := ha.part (List.mem_of_find?_eq_some e)
    show (fy (some (y, true)) fun x6 x7 => bnd (fT F x6) fun x9 => some x9) = _
    rw [aN, rY hF hy, aR]
    rfl
omit hF in
theorem ok1 {n : Bs} (h : n.length ≤ 900) : NsOK [n] := ⟨by
    unfold pb
    refine decide_eq_true ⟨?_, ?_⟩
    · simp [Str.total]; omega
    · simp, by simp [Str.join, Str.rest]; omega⟩
theorem rss_eq {a : El} (ha : Sm a) : jM F a = some (ri a) := by
  unfold jM ri
  rw [kR hF ha (ok1 (by decide)), aR, kR hF ha (ok1 (by decide)), aR, kR hF ha (ok1 (by decide)), aR, kR hF ha (ok1 (by decide)), aR]
end
end Go.Fd
namespace Go.Fd
open Go.Pv Go.Av
def leap (y : Int) : Bool := (decide (y % 4 = 0)) && ((!decide (y % 100 = 0)) || (decide (y % 400 = 0)))
theorem Leap_eq (F : Nat) (y : Int) (h : 1 ≤ y ∧ y ≤ 9999) : ln F y = some (leap y) := by
  have hg : ∀ (q : Bool) (c : Int) (x : Option Bool), 1 ≤ c → fv q (fJ y c) x = x := fun q c x hc => by
    cases q with
    | false => exact eE
    | true => rw [kP, ou (by omega)]
  unfold ln
  rw [ou (by omega), hg _ _ _ (by omega), hg _ _ _ (by omega)]; rfl
def dm (y m : Int) : Int := at_ ([0, 31, bif leap y then 29 else 28, 31, 30, 31, 30, 31, 31, 30, 31, 30, 31] : List Int) m
theorem Days_eq (F : Nat) (y m : Int) (h : 1 ≤ y ∧ y ≤ 9999) : lq F y m = some (bif (decide (m < 1)) || (decide (12 < m)) then 0 else dm y m) := by
  unfold lq jW od
  rw [Leap_eq F y h, aR]
  cases hm : (decide (m < 1)) || (decide (12 < m)) with
  | true => rfl
  | false =>
    simp only [Bool.or_eq_false_iff, decide_eq_false_iff_not] at hm
    rw [cond_false]
    have hg : grd (okI (28 + 1)) (some ((28 : Int) + 1)) = some 29 := by rw [bR (by omega)]; rfl
    rw [hg]
    unfold dm
    cases leap y <;> simp only [cond_true, cond_false, aR] <;> rw [cQ (by omega), bi]
def num (y m d : Int) : Int :=
  let y' := if m ≤ 2 then y - 1 else y
  let m' := if m ≤ 2 then m + 12 else m
  ((((((((146097 * (y' / 400)) + (365 * (y' % 400))) + ((y' % 400) / 4)) - ((y' % 400) / 100)) + (((153 * (m' - 3)) + 2) / 5)) + d) - 1) - 719468)
theorem wr (d y m : Int) (hy : 0 ≤ y ∧ y ≤ 9999) (hm : 3 ≤ m ∧ m ≤ 14) (hd : 1 ≤ d ∧ d ≤ 31) : dP d y m = some ((((((((146097 * (y / 400)) + (365 * (y % 400))) + ((y % 400) / 4)) - ((y % 400) / 100)) + (((153 * (m - 3)) + 2) / 5)) + d) - 1) - 719468) := by
  unfold dP
  simp (disch := omega) only [ou, bR]
theorem yS (F : Nat) (y m d : Int) (hy : 1 ≤ y ∧ y ≤ 9999) (hm : 1 ≤ m ∧ m ≤ 12) (hd : 1 ≤ d ∧ d ≤ 31) : jr F y m d = some (num y m d) := by
  unfold jr num
  by_cases h : m ≤ 2
  · rw [bT h, bR (by omega), bR (by omega), wr d (y - 1) (m + 12) (by omega) (by omega) hd]
    simp only [if_pos h]
  · rw [bF h, wr d y m (by omega) (by omega) hd]
    simp only [if_neg h]
theorem dm_le (y m : Int) (hm : 1 ≤ m ∧ m ≤ 12) : dm y m ≤ 31 := by
  unfold dm
  obtain ⟨k, rfl⟩ : ∃ k : Nat, m = k := ⟨m.toNat, by omega⟩
  have hk : k < 13 := by omega
  rw [fN (by simpa using hk)]
  have h2 : ∀ k : Fin 13, ([0, 31, bif leap y then 29 else 28, 31, 30, 31, 30, 31, 31, 30, 31, 30, 31] : List Int)[k] ≤ 31 := by
    intro k
    cases leap y <;> revert k <;> decide
  exact h2 ⟨k, hk⟩
def qe (y m d : Int) : Bool := !((((decide (y < 1)) || (decide (9999 < y))) || (decide (d < 1))) || (decide ((bif (decide (m < 1)) || (decide (12 < m)) then 0 else dm y m) < d)))
theorem ym {y m d : Int} (h : qe y m d = true) : (1 ≤ y ∧ y ≤ 9999) ∧ (1 ≤ m ∧ m ≤ 12) ∧ (1 ≤ d ∧ d ≤ 31) := by
  unfold qe at h
  simp only [Bool.not_eq_true', Bool.or_eq_false_iff, decide_eq_false_iff_not] at h
  obtain ⟨⟨⟨h1, h2⟩, h3⟩, h4⟩ := h
  cases hm : (decide (m < 1)) || (decide (12 < m)) with
  | true => rw [hm, cond_true] at h4; omega
  | false =>
    rw [hm, cond_false] at h4
    simp only [Bool.or_eq_false_iff, decide_eq_false_iff_not] at hm
    have := dm_le y m (by omega)
    omega
theorem Ord_eq (F : Nat) (y m d : Int) : kZ F y m d = some (bif qe y m d then (num y m d, 0) else (0, 1)) := by
  unfold kZ
  cases hc : ((decide (y < 1)) || (decide (9999 < y))) || (decide (d < 1)) with
  | true =>
    have : qe y m d = false := by unfold qe; rw [hc]; rfl
    rw [this]; rfl
  | false =>
    have hc' := hc
    simp only [Bool.or_eq_false_iff, decide_eq_false_iff_not] at hc'
    rw [Days_eq F y m (by omega)]
    simp only [Bool.not_false, xT, aR, Bool.false_or]
    have e : qe y m d = !decide ((bif (decide (m < 1)) || (decide (12 < m)) then 0 else dm y m) < d) := by unfold qe; rw [hc, Bool.false_or]
    cases hd : decide ((bif (decide (m < 1)) || (decide (12 < m)) then 0 else dm y m) < d) with
    | true => rw [e, hd]; rfl
    | false =>
      rw [hd] at e
      obtain ⟨h1, h2, h3⟩ := ym (e.trans rfl)
      rw [e, yS F y m d h1 h2 h3]; rfl
theorem yT (y m d : Int) (h : qe y m d = true) : -1000000 ≤ num y m d ∧ num y m d ≤ 10000000 := by
  obtain ⟨h1, h2, h3⟩ := ym h
  unfold num
  by_cases h : m ≤ 2
  · simp only [if_pos h]; omega
  · simp only [if_neg h]; omega
end Go.Fd
namespace Go.Fd
open Go.Pv Go.Av
abbrev Bs := List UInt8
def Tl {α : Type} (s : Bs) (q : α → Prop) (o : Option (Res (α × Bs))) : Prop := ∃ r, o = some r ∧ match r with
  | .pan _ => True
  | .ok x => q x.1 ∧ x.2.length ≤ s.length
theorem yn (F : Nat) (s : Bs) (n : Nat) (h1 : 1 ≤ n) : Tl s (fun t => t.length = n) (fg F s (n : Int)) := by
  unfold fg
  by_cases h : s.length < n
  · rw [bT (by omega)]
    exact ⟨_, rfl, trivial⟩
  · rw [bF (by omega)]
    unfold gg
    rw [ec (by omega), bi, ec (by omega), bi]
    refine ⟨_, rfl, ?_, ?_⟩
    · simp [nr]; omega
    · simp [ly]
def mx : Nat → Int
  | 0 => 0
  | 1 => 9
  | 2 => 99
  | 3 => 999
  | _ => 9999
theorem mx_le (i : Nat) : mx i ≤ 9999 := by
  have : i = 0 ∨ i = 1 ∨ i = 2 ∨ i = 3 ∨ ∃ j, i = j + 4 := by
    by_cases h : i < 4
    · omega
    · exact .inr (.inr (.inr (.inr ⟨i - 4, by omega⟩)))
  rcases this with rfl | rfl | rfl | rfl | ⟨j, rfl⟩
  · decide
  · decide
  · decide
  · decide
  · exact Int.le_refl _
theorem mx_step {i : Nat} (h : i < 4) : mx i * 10 + 9 ≤ mx (i + 1) := by
  have : i = 0 ∨ i = 1 ∨ i = 2 ∨ i = 3 := by omega
  rcases this with rfl | rfl | rfl | rfl <;> decide
theorem qD (x : Bs × Bs) (hx : x.1.length ≤ 4) : ∀ (n i : Nat) (a : Int), x.1.length - i < n → i ≤ x.1.length → 0 ≤ a → a ≤ mx i → ∃ r, dL x n (a, (i : Int)) = some r ∧ match r with
    | .pan _ => True
    | .ok y => (0 ≤ y.1 ∧ y.1 ≤ 9999) ∧ y.2 = x.2
  | 0, i, a, h, _, _, _ => by omega
  | n + 1, i, a, hn, hi, h0, ha => by
    have h99 := mx_le i
    show ∃ r, fY x (dL x n) a (i : Int) = some r ∧ _
    unfold fY
    by_cases h : i < x.1.length
    · rw [bT (by omega), cQ (by omega), bi, fN h]
      cases hc : (decide ((x.1[i].toNat : Int) < 48)) || (decide (57 < (x.1[i].toNat : Int))) with
      | true => exact ⟨_, rfl, trivial⟩
      | false =>
        rw [Bool.or_eq_false_iff] at hc
        have c1 := of_decide_eq_false hc.1
        have c2 := of_decide_eq_false hc.2
        have e : ((x.1[i] - 48).toNat : Int) = (x.1[i].toNat : Int) - 48 := by
          rw [UInt8.toNat_sub_of_le _ _ (by rw [UInt8.le_iff_toNat_le]; show 48 ≤ _; omega)]
          show ((x.1[i].toNat - 48 : Nat) : Int) = _
          omega
        have hs := mx_step (i := i) (by omega)
        rw [cond_false]
        unfold fX
        rw [e, bR (by omega), bR (by omega), bR (by omega), cq]
        exact qD x hx n (i + 1) _ (by omega) (by omega) (by omega) (by omega)
    · rw [bF (by omega)]
      exact ⟨_, rfl, ⟨h0, by omega⟩, rfl⟩
theorem bif_any {α : Type} {p : α → Prop} {c : Bool} {x y : α} (h1 : p x) (h2 : p y) : p (bif c then x else y) := by
  cases c
  · exact h2
  · exact h1
def In9 (n : Int) : Prop := 0 ≤ n ∧ n ≤ 9999
section
variable {F : Nat} (hF : 1500000 < F)
include hF
theorem qh (s : Bs) (n : Nat) (h1 : 1 ≤ n) (h4 : n ≤ 4) : Tl s In9 (dW F s (n : Int)) := by
  obtain ⟨r, e, hr⟩ := yn F s n h1
  unfold dW
  rw [e]
  cases r with
  | pan p => rw [bU]; exact ⟨_, rfl, trivial⟩
  | ok x =>
    obtain ⟨k1, k2⟩ := hr
    rw [bN, dI (by omega)]
    obtain ⟨q, e2, hq⟩ := qD x (by omega) F 0 0 (by omega) (by omega) (by omega) (by decide);refine ⟨q, e2, ?_⟩
    cases q with
    | pan p => trivial
    | ok y => exact ⟨hq.1, by rw [hq.2]; exact k2⟩
theorem one_tl (s w : Bs) (hw : w.length ≤ 100) : Tl s (fun _ => True) (jc F s w) := by
  obtain ⟨r, e, hr⟩ := yn F s 1 (by omega)
  unfold jc
  rw [show (1 : Int) = ((1 : Nat) : Int) from rfl, e]
  cases r with
  | pan p => rw [bU]; exact ⟨_, rfl, trivial⟩
  | ok x =>
    obtain ⟨k1, k2⟩ := hr
    rw [bN, mr (by omega), bi]
    cases Go.Lib.contains w x.1 with
    | false => exact ⟨_, rfl, trivial⟩
    | true =>
      rw [Bool.not_true, cond_false]
      unfold jn
      rw [cQ (by omega), bi]
      exact ⟨_, rfl, trivial, k2⟩
theorem nh (s w : Bs) (hw : w.length ≤ 100) (n : Nat) (h1 : 1 ≤ n) (h4 : n ≤ 4) : Tl s In9 (du F s w (n : Int)) := by
  obtain ⟨r, e, hr⟩ := one_tl hF s w hw
  unfold du
  rw [e]
  cases r with
  | pan p => rw [bU]; exact ⟨_, rfl, trivial⟩
  | ok x =>
    obtain ⟨q, e2, hq⟩ := qh hF x.2 n h1 h4
    rw [bN, e2]
    cases q with
    | pan p => rw [bU]; exact ⟨_, rfl, trivial⟩
    | ok y => rw [bN]; exact ⟨_, rfl, hq.1, Nat.le_trans hq.2 hr.2⟩
def Tf (s : Bs) (o : Option (Res Bs)) : Prop := ∃ r, o = some r ∧ match r with
  | .pan _ => True
  | .ok x => x.length ≤ s.length
theorem tI : ∀ (n : Nat) (s : Bs), s.length < n → Tf s (eQ F n s)
  | 0, s, h => by omega
  | n + 1, s, h => by
    show Tf s (eR F (eQ F n) s)
    unfold eR
    by_cases hs : s = []
    · subst hs
      have e : (!decide (([] : List UInt8) = [])) = false := by decide
      rw [e, eE, bi, Bool.false_and, eE, bi, Bool.false_and, cond_false]
      exact ⟨_, rfl, Nat.le_refl _⟩
    · have hp := List.length_pos_iff.2 hs
      rw [nn (fun _ => by omega), bi, nn (fun _ => by omega), bi]
      cases ((!decide (s = ([] : List UInt8))) && (decide (48 ≤ ((at_ s 0).toNat : Int)))) && (decide (((at_ s 0).toNat : Int) ≤ 57)) with
      | false => exact ⟨_, rfl, Nat.le_refl _⟩
      | true =>
        rw [cond_true]
        unfold fg
        rw [bF (by omega)]
        unfold gg
        rw [ec (by omega), bi, ec (by omega), bi, bN]
        have hl : (cV s 1).length = s.length - 1 := by simp [cV]
        obtain ⟨r, e, hr⟩ := tI n (cV s 1) (by omega);refine ⟨r, e, ?_⟩
        cases r with
        | pan p => trivial
        | ok x => exact Nat.le_trans hr (by omega)
theorem frac_tl (s : Bs) (hs : s.length ≤ 1000000) : Tf s (eA F s) := by
  unfold eA jS jh
  have hg : ∀ {k : Option (Option Bool)} , True := fun {_} => trivial
  by_cases h : ((([46] : List UInt8).length : Nat) : Int) ≤ (s.length : Int)
  · rw [decide_eq_true h, kP, ec (by simp at h ⊢; omega), bi, aR, aR, Bool.true_and]
    cases decide (to_ s ((([46] : List UInt8).length : Nat) : Int) = [46]) with
    | false => exact ⟨_, rfl, Nat.le_refl _⟩
    | true =>
      rw [Bool.not_true, cond_false]
      obtain ⟨r, e, hr⟩ := nh hF s [46] (by simp) 1 (by omega) (by omega)
      rw [show ((1 : Nat) : Int) = 1 from rfl] at e
      rw [e]
      cases r with
      | pan p => rw [bU]; exact ⟨_, rfl, trivial⟩
      | ok x =>
        rw [bN]
        have := hr.2
        obtain ⟨q, e2, hq⟩ := tI hF F x.2 (by omega);refine ⟨q, e2, ?_⟩
        cases q with
        | pan p => trivial
        | ok y => exact Nat.le_trans hq this
  · rw [decide_eq_false h, eE, bi, aR, aR, Bool.false_and]
    exact ⟨_, rfl, Nat.le_refl _⟩
theorem zone_tl (s : Bs) : Tl s (fun n => -100000000 ≤ n ∧ n ≤ 100000000) (iG F s) := by
  obtain ⟨r, e, hr⟩ := one_tl hF s [90, 122, 43, 45] (by simp)
  unfold iG
  rw [e]
  cases r with
  | pan p => rw [bU]; exact ⟨_, rfl, trivial⟩
  | ok x =>
    rw [bN]
    cases (decide (x.1 = 90)) || (decide (x.1 = 122)) with
    | true => exact ⟨_, rfl, ⟨by simp, by simp⟩, hr.2⟩
    | false =>
      rw [cond_false]
      obtain ⟨q, e2, hq⟩ := qh hF x.2 2 (by omega) (by omega)
      rw [show ((2 : Nat) : Int) = 2 from rfl] at e2
      rw [e2]
      cases q with
      | pan p => rw [bU]; exact ⟨_, rfl, trivial⟩
      | ok y =>
        rw [bN]
        obtain ⟨u, e3, hu⟩ := nh hF y.2 [58] (by simp) 2 (by omega) (by omega)
        rw [show ((2 : Nat) : Int) = 2 from rfl] at e3
        rw [e3]
        cases u with
        | pan p => rw [bU]; exact ⟨_, rfl, trivial⟩
        | ok z =>
          rw [bN]
          unfold ju
          rw [aR, dv]
          have hy := hq.1
          have hz := hu.1
          unfold In9 at hy hz
          have hl := hq.2
          have hm := hu.2
          have hr2 := hr.2
          generalize ((!((decide (0 ≤ y.1)) && (decide (y.1 < 24)))) || (!bif !(!((decide (0 ≤ y.1)) && (decide (y.1 < 24)))) then (decide (0 ≤ z.1)) && (decide (z.1 < 60)) else default)) = b
          cases b with
          | true => exact ⟨_, rfl, trivial⟩
          | false =>
            rw [cond_false]
            unfold hU
            cases decide (x.1 = 45) with
            | true =>
              rw [cond_true, bR (by omega), bR (by omega), bR (by omega), bR (by omega)]
              exact ⟨_, rfl, ⟨by simp only; omega, by simp only; omega⟩, by simp only; omega⟩
            | false =>
              rw [cond_false, bR (by omega), bR (by omega), bR (by omega)]
              exact ⟨_, rfl, ⟨by simp only; omega, by simp only; omega⟩, by simp only; omega⟩
theorem of_tot (a b c d e f : Int) (h4 : In9 d) (h5 : In9 e) (h6 : In9 f) : ∃ n k, nN F a b c d e f = some (n, k) ∧ -1000000000000000 ≤ n ∧ n ≤ 1000000000000000 := by
  unfold In9 at h4 h5 h6
  unfold nN nV ju
  rw [Ord_eq F a b c]
  cases ho : qe a b c with
  | false =>
    rw [cond_false, aN, dv, dv, dv, aR]
    exact ⟨_, _, rfl, by decide, by decide⟩
  | true =>
    rw [cond_true, aN, dv, dv, dv, aR]
    obtain ⟨r1, r2⟩ := yT a b c ho
    generalize num a b c = n at r1 r2
    refine bif_any (p := fun o => ∃ n k, o = some (n, k) ∧ -1000000000000000 ≤ n ∧ n ≤ 1000000000000000) ⟨_, _, rfl, by decide, by decide⟩ ?_
    rw [aN, bR (by omega), bR (by omega), bR (by omega), bR (by omega), bR (by omega), bR (by omega)]
    exact ⟨_, _, rfl, by omega, by omega⟩
theorem yQ (s : Bs) (hs : s.length ≤ 1000000) : ∃ r, iW F s = some r := by
  unfold iW
  have c2 : ((2 : Nat) : Int) = 2 := rfl
  obtain ⟨r, e, h⟩ := qh hF s 4 (by omega) (by omega)
  rw [show ((4 : Nat) : Int) = 4 from rfl] at e
  rw [e]
  cases r with
  | pan p => rw [gO]; exact ⟨_, rfl⟩
  | ok x1 =>
  rw [kn]
  obtain ⟨r, e, h2⟩ := nh hF x1.2 [45] (by simp) 2 (by omega) (by omega)
  rw [c2] at e; rw [e]
  cases r with
  | pan p => rw [gO]; exact ⟨_, rfl⟩
  | ok x2 =>
  rw [kn]
  obtain ⟨r, e, h3⟩ := nh hF x2.2 [45] (by simp) 2 (by omega) (by omega)
  rw [c2] at e; rw [e]
  cases r with
  | pan p => rw [gO]; exact ⟨_, rfl⟩
  | ok x3 =>
  rw [kn]
  obtain ⟨r, e, h4⟩ := nh hF x3.2 [84, 116] (by simp) 2 (by omega) (by omega)
  rw [c2] at e; rw [e]
  cases r with
  | pan p => rw [gO]; exact ⟨_, rfl⟩
  | ok x4 =>
  rw [kn]
  obtain ⟨r, e, h5⟩ := nh hF x4.2 [58] (by simp) 2 (by omega) (by omega)
  rw [c2] at e; rw [e]
  cases r with
  | pan p => rw [gO]; exact ⟨_, rfl⟩
  | ok x5 =>
  rw [kn]
  obtain ⟨r, e, h6⟩ := nh hF x5.2 [58] (by simp) 2 (by omega) (by omega)
  rw [c2] at e; rw [e]
  cases r with
  | pan p => rw [gO]; exact ⟨_, rfl⟩
  | ok x6 =>
  rw [kn]
  have l1 := h.2
  have l2 := h2.2
  have l3 := h3.2
  have l4 := h4.2
  have l5 := h5.2
  have l6 := h6.2
  obtain ⟨r, e, h7⟩ := frac_tl hF x6.2 (by omega)
  rw [e]
  cases r with
  | pan p => rw [gO]; exact ⟨_, rfl⟩
  | ok x7 =>
  rw [kn]
  obtain ⟨r, e, h8⟩ := zone_tl hF x7
  rw [e]
  cases r with
  | pan p => rw [gO]; exact ⟨_, rfl⟩
  | ok x8 =>
  rw [kn]
  obtain ⟨n, k, e, b1, b2⟩ := of_tot hF x1.1 x2.1 x3.1 x4.1 x5.1 x6.1 h4.1 h5.1 h6.1
  rw [e, aN]
  cases (!decide (k = 0)) || (!decide (x8.2 = ([] : List UInt8))) with
  | true => exact ⟨_, rfl⟩
  | false =>
    rw [cond_false]
    unfold gy
    have := h8.1
    rw [bR (by omega)]
    exact ⟨_, rfl⟩
end
end Go.Fd
namespace Go.Fd
open Go.Pv Go.Av
open Go.Xm
def stP (F : Nat) (s : Bs) : Int × Int := match iW F s with | none => (0, 0) | some r => r
theorem to_4000 (s : Bs) : to_ s (min (s.length : Int) 4000) = s.take 4000 := by
  have e : (min (s.length : Int) 4000) = ((min s.length 4000 : Nat) : Int) := by omega
  rw [e, nr]
  by_cases h : s.length ≤ 4000
  · rw [Nat.min_eq_left h, List.take_length, List.take_of_length_le h]
  · rw [Nat.min_eq_right (by omega)]
theorem sd (item : Bs) (mk : El → Ent) (k : List Ent × Nat → El → Option ((List Ent × Nat) × Bool)) : ∀ (ps : List El) (l : List Ent), l.length ≤ 200 →
    (∀ y ∈ ps, ∀ l : List Ent, l.length ≤ 200 → k (l, 0) y = if isN item y = true then (if l.length = 200 then some ((l, 1), false) else some ((l ++ [cutE (mk y)], 0), true)) else some ((l, 0), true)) →
    ∃ z : Nat, oy k (l, 0) ps = some (l ++ ((ps.filter (isN item)).take (200 - l.length)).map (fun x => cutE (mk x)), z) ∧ (z = 0 ∨ z = 1)
  | [], l, hl, hk => ⟨0, by rw [oy, List.filter_nil, List.take_nil, List.map_nil, List.append_nil], .inl rfl⟩
  | y :: ps, l, hl, hk => by
    have hk' := fun z hz => hk z (List.mem_cons_of_mem _ hz)
    rw [oy, hk y List.mem_cons_self l hl]
    by_cases h : isN item y = true
    · rw [if_pos h, List.filter_cons_of_pos h]
      by_cases h2 : l.length = 200
      · rw [if_pos h2, aN, Bool.not_false, cond_true]
        refine ⟨1, ?_, .inr rfl⟩
        rw [h2, Nat.sub_self, List.take_zero, List.map_nil, List.append_nil]
      · rw [if_neg h2, aN, Bool.not_true, cond_false]
        obtain ⟨z, e, hz⟩ := sd item mk k ps (l ++ [cutE (mk y)]) (by rw [List.length_append, List.length_singleton]; omega) hk';refine ⟨z, ?_, hz⟩
        have e2 : 200 - l.length = (200 - (l ++ [cutE (mk y)]).length) + 1 := by rw [List.length_append, List.length_singleton]; omega
        rw [e, e2, List.take_succ_cons, List.map_cons, List.append_assoc]
        rfl
    · rw [if_neg h, List.filter_cons_of_neg h, aN, Bool.not_true, cond_false]
      exact sd item mk k ps l hl hk'
section
variable {F : Nat} (hF : 1500000 < F)
include hF
theorem uV {a : El} (ha : Sm a) (ns : List Bs) : (mg ns a).length ≤ 1000000 := Nat.le_trans (valN_len ns a) ha.tx
theorem ok2 : NsOK [n_summ, n_cont] := ⟨by decide, by decide⟩
theorem atom_eq {a : El} (ha : Sm a) : iO F a = some (atomE (stP F) a) := by
  have hj : ∀ x9 x11 x13 y : Bs, eZ F a x9 x11 x13 y = some (x9, x11, y, x13, atV (stP F (mg [n_upd] a))) := fun x9 x11 x13 y => by
    unfold eZ gm
    obtain ⟨r, hr⟩ := yQ hF (mg [n_upd] a) (uV hF ha _)
    have hs : stP F (mg [n_upd] a) = r := by unfold stP; rw [hr]
    obtain ⟨t, f⟩ := r
    rw [kR hF ha (ok1 (by decide)), aR, hr, aN, hs]
    unfold atV
    by_cases h : f = 0 ∧ 0 ≤ t ∧ t ≤ 253402300799
    · rw [if_pos h, decide_eq_true h.1, decide_eq_true h.2.1, decide_eq_true h.2.2]
      rfl
    · rw [if_neg h]
      have e : (((decide (f = 0)) && (decide (0 ≤ t))) && (decide (t ≤ 253402300799))) = false := by
        cases q : ((decide (f = 0)) && (decide (0 ≤ t))) && (decide (t ≤ 253402300799)) with
        | false => rfl
        | true =>
          rw [Bool.and_eq_true, Bool.and_eq_true] at q
          exact absurd ⟨of_decide_eq_true q.1.1, of_decide_eq_true q.1.2, of_decide_eq_true q.2⟩ h
      rw [e, cond_false]
  unfold iO atomE
  rw [kR hF ha (ok1 (by decide)), aR, kR hF ha (ok1 (by decide)), aR, kR hF ha (ok2 hF), aR, findE_eq hF ha]
  unfold linkV
  cases e : kH sr a with
  | none =>
    show (fy (some (([] : El), false)) fun x16 x17 => _) = _
    rw [aN, cond_false, hj]
  | some y =>
    have hm := List.mem_of_find?_eq_some e
    show (fy (some (y, true)) fun x16 x17 => _) = _
    rw [aN, cond_true, wG hF (ha.part hm) (vc hm)]
    cases hq : attO vp y with
    | none =>
      rw [aN, hj]
      show _ = some (mg [n_id] a, mg [dt] a, optS (attO vp y), _, _)
      rw [hq]; rfl
    | some s =>
      rw [aN, hj]
      show _ = some (mg [n_id] a, mg [dt] a, optS (attO vp y), _, _)
      rw [hq]; rfl
theorem round_eq {b : Bool} {item : Bs} {mk : El → Ent} (hi : ikm (some b) (nQ F) (mD F) = some item) {y : El} (hy : Sm y) (h0 : y ≠ []) (hm : ikm (some b) (jM F y) (iO F y) = some (mk y)) (hl : (mk y).2.2.2.1.length ≤ 1000000)
    (l : List Ent) (hn : l.length ≤ 200) : dd F (some b) l 0 y = if isN item y = true then (if l.length = 200 then some ((l, 1), false) else some ((l ++ [cutE (mk y)], 0), true)) else some ((l, 0), true) := by
  unfold dd
  rw [ko rfl, (kU hF hy h0).1, aR, hi, aR]
  by_cases h : isN item y = true
  · have h' : decide (pz y = item) = true := h
    rw [if_pos h, h', Bool.not_true, cond_false]
    by_cases h2 : l.length = 200
    · rw [if_pos h2, decide_eq_true (show (l.length : Int) = 200 by omega), cond_true]
    · rw [if_neg h2, decide_eq_false (show ¬ (l.length : Int) = 200 by omega), cond_false, hm]
      have hl2 := hl
      generalize mk y = e at hl2 ⊢
      obtain ⟨e1, e2, e3, e4, e5⟩ := e
      have hl' : e4.length ≤ 1000000 := hl2
      show (grd _ _) = _
      rw [ec (by omega), bi, dI (by simp; omega), bi, to_4000]
      rfl
  · have h' : decide (pz y = item) = false := by
      cases q : decide (pz y = item) with
      | false => rfl
      | true => exact absurd q h
    rw [if_neg h, h', Bool.not_false, cond_true]
def outF (r : Fe × Int) : Bs × List Ent × Int := (r.1.1, r.1.2, r.2)
theorem xX {b : Bool} {item : Bs} {mk : El → Ent} (hi : ikm (some b) (nQ F) (mD F) = some item) (hm : ∀ y : El, Sm y → ikm (some b) (jM F y) (iO F y) = some (mk y) ∧ (mk y).2.2.2.1.length ≤ 1000000) {top : El} (ht : Sm top) :
    (bnd (cX F top ([dt] : List Bs)) fun x19 => bnd (dG F top) fun _ => bnd (fi F (fun s x => dd F (some b) s.1 s.2 x) ([], 0) top) fun x51 =>
      bif decide (x51.2 = 0) then de x19 x51.1 else bif decide (x51.2 = 1) then de x19 x51.1 else none) = some (outF (topP top item mk, 0)) := by
  have hl := ht.len
  unfold dG de
  rw [kR hF ht (ok1 (by decide)), aR, aR, wl top ht.len (by omega)]
  obtain ⟨z, e, hz⟩ := sd item mk (fun s x => dd F (some b) s.1 s.2 x) (fc top) [] (by simp) fun y hy l hn =>
    round_eq hF hi (ht.part hy) (vc hy) (hm y (ht.part hy)).1 (hm y (ht.part hy)).2 l hn
  rw [e, aR]
  rcases hz with rfl | rfl
  · rfl
  · rfl
theorem ext_eq {l : El} (h : Sm l) (h0 : l ≠ []) : jq F l = some (outF (ta (stP F) l)) := by
  have hl := h.len
  unfold jq ta
  rw [yU l h.len (by omega), aR]
  cases hn : mo true [] l with
  | false => rfl
  | true =>
    rw [Bool.not_true, cond_false, if_neg (by simp)]
    unfold rt
    rw [(kU hF h h0).1, aR]
    by_cases h1 : pz l = mq
    · rw [decide_eq_true h1, if_pos h1, cond_true, aN, Bool.not_true, cond_false]
      have e : ikm (some true) (ot F l) (pM F l) = some (uU (kH (isN gw) l)) := by
        show ot F l = _
        unfold ot
        rw [findT_eq hF h]; rfl
      rw [e]
      cases hc : kH (isN gw) l with
      | none => rfl
      | some c =>
        have hm := List.mem_of_find?_eq_some hc
        show (fy (some (c, true)) fun x15 x16 => _) = _
        rw [aN, Bool.not_true, cond_false]
        exact xX hF (b := true) (item := lB) (mk := ri) rfl (fun y hy => ⟨rss_eq hF hy, uV hF hy _⟩) (h.part hm)
    · rw [decide_eq_false h1, if_neg h1, cond_false]
      by_cases h2 : pz l = n_feed
      · rw [decide_eq_true h2, if_pos h2, cond_true, aN, Bool.not_true, cond_false]
        show (fy (some (l, true)) fun x15 x16 => _) = _
        rw [aN, Bool.not_true, cond_false]
        exact xX hF (b := false) (item := yq) (mk := atomE (stP F)) rfl (fun y hy => ⟨atom_eq hF hy, uV hF hy _⟩) h
      · rw [decide_eq_false h2, if_neg h2]
        rfl
end
end Go.Fd
namespace Go.Xm
section
variable (enc : Bs → Bs)
end
def Dist : List At → Prop
  | [] => True
  | a :: r => (∀ b ∈ r, b.1 ≠ a.1) ∧ Dist r
def pa (t : Tok) : Prop :=
  (t.1 = 0 ∧ gu t.2.1 = true ∧ t.2.2.1 = [] ∧ (∀ a ∈ t.2.2.2, gu a.1 = true) ∧ Dist t.2.2.2) ∨
  (t.1 = 1 ∧ gu t.2.1 = true ∧ t.2.2.1 = [] ∧ t.2.2.2 = []) ∨ (t.1 = 2 ∧ t.2.1 = [] ∧ t.2.2.1 ≠ [] ∧ t.2.2.2 = [])
theorem uk : ∀ {l : List At} {a : At}, Dist l → (∀ b ∈ l, b.1 ≠ a.1) → Dist (l ++ [a])
  | [], a, _, _ => ⟨by simp, trivial⟩
  | x :: l, a, ⟨h1, h2⟩, h => by
    refine ⟨fun b hb => ?_, uk h2 fun b hb => h b (List.mem_cons_of_mem _ hb)⟩
    rcases List.mem_append.1 hb with hb | hb
    · exact h1 b hb
    · rw [List.mem_singleton.1 hb]; exact fun e => h x List.mem_cons_self e.symm
section
variable {dec : Bs → Option Bs}
theorem xC {s : Bs} {a : At} {r : Bs} (h : jy dec s = some (a, r)) : gu a.1 = true := by
  unfold jy at h
  cases e : ej s with
  | none => rw [e] at h; cases h
  | some x =>
    obtain ⟨n, r'⟩ := x
    have hn := (iR e).2
    rw [e] at h
    simp only at h
    have hv : ∀ q s' , oz dec n q s' = some (a, r) → a.1 = n := fun q s' hh => by
      unfold oz at hh
      split at hh
      · cases hh
      · split at hh
        · cases hh
        · split at hh
          · cases hh
          · cases hh; rfl
    split at h
    · rw [hv _ _ h]; exact hn
    · split at h
      · rw [hv _ _ h]; exact hn
      · cases h
theorem qM : ∀ {k : Nat} {as_ : List At} {s : Bs} {bs : List At} {e : Bool} {r : Bs}, eO dec k as_ s = some (bs, e, r) → (∀ a ∈ as_, gu a.1 = true) → Dist as_ → (∀ a ∈ bs, gu a.1 = true) ∧ Dist bs
  | 0, _, _, _, _, _, h, _, _ => by cases h
  | k + 1, as_, s, bs, e, r, h, h1, h2 => by
    unfold eO at h
    split at h
    · cases h; exact ⟨h1, h2⟩
    · split at h
      · cases h; exact ⟨h1, h2⟩
      · split at h
        · cases h
        · cases ea : jy dec (s.dropWhile eJ) with
          | none => rw [ea] at h; cases h
          | some x =>
            obtain ⟨a, r'⟩ := x
            rw [ea] at h
            simp only at h
            split at h
            · cases h
            · rename_i g
              refine qM h (fun b hb => ?_) (uk h2 fun b hb e => g ?_)
              · rcases List.mem_append.1 hb with hb | hb
                · exact h1 b hb
                · rw [List.mem_singleton.1 hb]; exact xC ea
              · rw [List.any_eq_true]; exact ⟨b, hb, decide_eq_true e⟩
theorem tD {l : List Tok} (h : ∀ t ∈ l, pa t) (x : Bs) : ∀ t ∈ lN x l, pa t := by
  unfold lN
  split
  · exact h
  · rename_i g
    intro t ht
    rcases List.mem_append.1 ht with ht | ht
    · exact h t ht
    · rw [List.mem_singleton.1 ht]; exact .inr (.inr ⟨rfl, rfl, g, rfl⟩)
theorem sc {l : List Tok} (h : ∀ t ∈ l, pa t) {x : Tok} (hx : pa x) : ∀ t ∈ l ++ [x], pa t := fun t ht => by
  rcases List.mem_append.1 ht with ht | ht
  · exact h t ht
  · rw [List.mem_singleton.1 ht]; exact hx
theorem yY {s : Bs} {o : List Bs} {k : Nat} {l : List Tok} {x : Sx} (h : ∀ t ∈ l, pa t) (e : dA dec s o k l = .ok x) : ∀ t ∈ x.2.2.2, pa t := by
  unfold dA at e
  split at e
  · unfold je at e
    split at e
    · cases e
    · split at e
      · split at e
        · cases e; exact h
        · cases e
      · cases e; exact tD h _
  split at e
  · have := (iz (by simp) e).2
    rw [this]; exact h
  split at e
  · have := (iz (by simp) e).2
    rw [this]; exact h
  split at e
  · unfold mw at e
    split at e
    · cases e
    · split at e
      · cases e
      · cases e; exact tD h _
  split at e
  · have := (iz (by simp) e).2
    rw [this]; exact h
  split at e
  · unfold pA at e
    split at e
    · cases e
    · rename_i n r hn
      split at e
      · unfold ls at e
        split at e
        · cases e; exact sc h (.inr (.inl ⟨rfl, (iR hn).2, rfl, rfl⟩))
        · cases e
      · cases e
  · unfold kI at e
    split at e
    · cases e
    · rename_i n r hn
      split at e
      · cases e
      · rename_i as_ em r' ha
        obtain ⟨g1, g2⟩ := qM ha (by simp) trivial
        have hn' := (iR hn).2
        have ho := sc h (x := (0, n, [], as_)) (.inl ⟨rfl, hn', rfl, g1, g2⟩)
        unfold na at e
        split at e
        · cases e
        · split at e
          · cases e
          · split at e
            · cases e; exact sc ho (.inr (.inl ⟨rfl, hn', rfl, rfl⟩))
            · cases e; exact ho
theorem wA : ∀ {n : Nat} {x y : Sx}, (∀ t ∈ x.2.2.2, pa t) → jZ dec n x = .ok y → ∀ t ∈ y.2.2.2, pa t
  | 0, x, y, h, e => by cases e
  | n + 1, (s, o, k, l), y, h, e => by
    unfold jZ at e
    split at e
    · cases e; exact h
    · cases es : dA dec s o k l with
      | no e' => rw [es] at e; cases e
      | ok z =>
        rw [es] at e
        exact wA (yY h es) e
variable {enc : Bs → Bs}
structure Enc (dec : Bs → Option Bs) (enc : Bs → Bs) : Prop where
  back : ∀ t, dec (enc t) = some t
  no : ∀ t, ∀ c ∈ enc t, c ≠ 60 ∧ c ≠ 34
  ne : ∀ t, t ≠ [] → enc t ≠ []
theorem rZ {f : UInt8 → Bool} {c : UInt8} (hc : f c = false) (r : Bs) : ∀ {a : Bs}, a.all f = true → (a ++ c :: r).takeWhile f = a ∧ (a ++ c :: r).dropWhile f = c :: r
  | [], _ => by
    rw [List.nil_append, List.takeWhile_cons, List.dropWhile_cons, hc]
    exact ⟨rfl, rfl⟩
  | x :: a, h => by
    rw [List.all_cons, Bool.and_eq_true] at h
    obtain ⟨i1, i2⟩ := rZ hc r h.2
    rw [List.cons_append, List.takeWhile_cons, List.dropWhile_cons, h.1, if_pos rfl, if_pos rfl, i1, i2]
    exact ⟨rfl, rfl⟩
theorem ww {n : Bs} {c : UInt8} (r : Bs) (h : gu n = true) (hc : ku c = false) : ej (n ++ c :: r) = some (n, c :: r) := by
  have ha : n.all ku = true := by
    cases n with
    | nil => cases h
    | cons a b =>
      unfold gu at h
      simp only [Bool.and_eq_true] at h
      exact h.2.1
  obtain ⟨h1, h2⟩ := rZ hc r ha
  unfold ej
  rw [h1, h2, if_pos h]
theorem yW {n : Bs} (h : gu n = true) : ∃ c r, n = c :: r ∧ sY c = true := by
  cases n with
  | nil => cases h
  | cons c r =>
    unfold gu at h
    simp only [Bool.and_eq_true] at h
    exact ⟨c, r, rfl, h.1⟩
theorem let_not {c : UInt8} (h : sY c = true) : eJ c = false ∧ c ≠ 62 ∧ c ≠ 47 ∧ c ≠ 33 ∧ c ≠ 63 := by
  have : ∀ k : Fin 256, sY (UInt8.ofNat k.val) = true → eJ (UInt8.ofNat k.val) = false ∧ UInt8.ofNat k.val ≠ 62 ∧ UInt8.ofNat k.val ≠ 47 ∧ UInt8.ofNat k.val ≠ 33 ∧ UInt8.ofNat k.val ≠ 63 := by decide +kernel
  have h1 := this ⟨c.toNat, c.toNat_lt⟩
  simp only [UInt8.ofNat_toNat] at h1
  exact h1 h
theorem pre_not {c x : UInt8} {p r : Bs} (h : x ≠ c) : (c :: p).isPrefixOf (x :: r) = false := by
  have : (c == x) = false := by simpa using fun e => h e.symm
  simp [List.isPrefixOf, this]
end
end Go.Xm
namespace Go.Xm
theorem vb {p s : Bs} (h : p.isPrefixOf s = true) : p.length ≤ s.length := by
  have := congrArg List.length (fb h)
  rw [List.length_append] at this
  omega
theorem iQ {p s : Bs} (C : Bs) (h : p.isPrefixOf s = true) : p.isPrefixOf (s ++ C) = true := by
  rw [List.isPrefixOf_iff_prefix] at h ⊢
  obtain ⟨t, rfl⟩ := h;exact ⟨t ++ C, by simp⟩
theorem fE {p s : Bs} (C : Bs) {k : Nat} (hk : p.length = k) (h : p.isPrefixOf s = true) : (s ++ C).drop k = s.drop k ++ C := by
  have := vb h
  exact List.drop_append_of_le_length (by omega)
theorem nR {p s : Bs} (C : Bs) (hl : p.length ≤ s.length) : p.isPrefixOf (s ++ C) = p.isPrefixOf s := by
  cases h : p.isPrefixOf s with
  | true => exact iQ C h
  | false =>
    cases g : p.isPrefixOf (s ++ C) with
    | false => rfl
    | true =>
      rw [List.isPrefixOf_iff_prefix] at g
      have : p <+: s := List.prefix_of_prefix_length_le g (List.prefix_append s C) hl
      rw [← List.isPrefixOf_iff_prefix, h] at this
      cases this
theorem tt {p s : Bs} (C : Bs) (h : p.isPrefixOf s = false) (g : p.isPrefixOf (s ++ C) = true) : ∃ t, p = s ++ t ∧ t ≠ [] := by
  by_cases hl : p.length ≤ s.length
  · rw [nR C hl, h] at g; cases g
  · rw [List.isPrefixOf_iff_prefix] at g
    have : s <+: p := List.prefix_of_prefix_length_le (List.prefix_append s C) g (by omega)
    obtain ⟨t, ht⟩ := this;refine ⟨t, ht.symm, fun e => ?_⟩
    rw [e, List.append_nil] at ht
    rw [ht] at hl
    omega
theorem ru {p : Bs} (hp : p ≠ []) (C : Bs) : ∀ {s a b : Bs}, iu p s = some (a, b) → iu p (s ++ C) = some (a, b ++ C)
  | [], a, b, h => by unfold iu at h; rw [if_neg hp] at h; cases h
  | c :: r, a, b, h => by
    have hl := congrArg List.length (lz hp h)
    rw [List.length_append, List.length_append] at hl
    have e := nR (p := p) (s := c :: r) C (by omega)
    show iu p (c :: (r ++ C)) = _
    unfold iu at h ⊢
    rw [← List.cons_append, e]
    by_cases g : p.isPrefixOf (c :: r) = true
    · rw [if_pos g] at h ⊢
      cases h
      rw [List.drop_append_of_le_length (vb g)]
    · rw [if_neg g] at h ⊢
      cases er : iu p r with
      | none => rw [er] at h; cases h
      | some x =>
        obtain ⟨a', b'⟩ := x
        rw [er] at h
        rw [ru hp C er]
        cases h; rfl
theorem wN {p : Bs} {c : UInt8} (hc : c ∈ p) : ∀ {s : Bs}, c ∉ s → iu p s = none
  | [], h => by unfold iu; rw [if_neg (fun e => by rw [e] at hc; cases hc)]
  | x :: r, h => by
    unfold iu
    rw [if_neg (fun g => by
      have := fb g
      exact h (this ▸ List.mem_append_left _ hc)), wN hc (fun z => h (List.mem_cons_of_mem _ z))]
theorem sj (f : UInt8 → Bool) (C : Bs) : ∀ {s : Bs}, s.dropWhile f ≠ [] → (s ++ C).takeWhile f = s.takeWhile f ∧ (s ++ C).dropWhile f = s.dropWhile f ++ C
  | [], h => absurd rfl h
  | c :: r, h => by
    by_cases g : f c = true
    · have h' : r.dropWhile f ≠ [] := by rwa [List.dropWhile_cons, if_pos g] at h
      obtain ⟨h1, h2⟩ := sj f C h'
      rw [List.cons_append, List.takeWhile_cons, if_pos g, List.dropWhile_cons, if_pos g, List.takeWhile_cons, if_pos g, List.dropWhile_cons, if_pos g, h1, h2]
      exact ⟨rfl, rfl⟩
    · rw [List.cons_append, List.takeWhile_cons, if_neg g, List.dropWhile_cons, if_neg g, List.takeWhile_cons, if_neg g, List.dropWhile_cons, if_neg g]
      exact ⟨rfl, rfl⟩
theorem qi {s n r : Bs} (C : Bs) (h : ej s = some (n, r)) (hr : r ≠ []) : ej (s ++ C) = some (n, r ++ C) := by
  unfold ej at h ⊢
  split at h
  · rename_i g
    cases h
    obtain ⟨h1, h2⟩ := sj ku C hr
    rw [h1, h2, if_pos g]
  · cases h
section
variable {dec : Bs → Option Bs}
theorem ur {n s : Bs} {q : UInt8} {a : At} {r : Bs} (C : Bs) (h : oz dec n q s = some (a, r)) : oz dec n q (s ++ C) = some (a, r ++ C) := by
  unfold oz at h ⊢
  cases e : iu [q] s with
  | none => rw [e] at h; cases h
  | some x =>
    obtain ⟨raw, r'⟩ := x
    rw [e] at h
    rw [ru (by simp) C e]
    simp only at h ⊢
    split at h
    · cases h
    · rename_i g
      rw [if_neg g]
      cases ed : dec raw with
      | none => rw [ed] at h; cases h
      | some t => rw [ed] at h; cases h; rfl
theorem Aq {s : Bs} {a : At} {r : Bs} (C : Bs) (h : jy dec s = some (a, r)) : jy dec (s ++ C) = some (a, r ++ C) := by
  unfold jy at h ⊢
  cases e : ej s with
  | none => rw [e] at h; cases h
  | some x =>
    obtain ⟨n, r'⟩ := x
    rw [e] at h
    simp only at h
    have hr : r' ≠ [] := by
      intro z
      rw [z, if_neg (by decide), if_neg (by decide)] at h
      cases h
    rw [qi C e hr]
    simp only
    split at h
    · rename_i g
      rw [if_pos (iQ C g), fE (k := 2) C rfl g]
      exact ur C h
    · rename_i g
      split at h
      · rename_i g2
        have hl := vb g2
        rw [nR C (p := [61, 34]) hl, if_neg g, if_pos (iQ C g2), fE (k := 2) C rfl g2]
        exact ur C h
      · cases h
theorem uo (C : Bs) : ∀ {k : Nat} {as_ : List At} {s : Bs} {bs : List At} {e : Bool} {r : Bs}, eO dec k as_ s = some (bs, e, r) → eO dec k as_ (s ++ C) = some (bs, e, r ++ C)
  | 0, _, _, _, _, _, h => by cases h
  | k + 1, as_, s, bs, e, r, h => by
    have hne : s.dropWhile eJ ≠ [] := by
      intro z
      unfold eO at h
      rw [z, if_neg (by decide), if_neg (by decide)] at h
      split at h
      · cases h
      · have : jy dec [] = none := by unfold jy ej; rfl
        rw [this] at h
        cases h
    obtain ⟨_, hd⟩ := sj eJ C hne
    unfold eO at h ⊢
    rw [hd]
    split at h
    · rename_i g
      cases h
      rw [if_pos (iQ C g), fE (k := 1) C rfl g]
    · rename_i g
      have g' : ¬ ([62] : Bs).isPrefixOf (s.dropWhile eJ ++ C) = true := by
        rw [nR C (p := [62]) (s := s.dropWhile eJ) (List.length_pos_iff.2 hne)]
        exact g
      rw [if_neg g']
      split at h
      · rename_i g2
        cases h
        rw [if_pos (iQ C g2), fE (k := 2) C rfl g2]
      · rename_i g2
        split at h
        · cases h
        · rename_i g3
          cases ea : jy dec (s.dropWhile eJ) with
          | none => rw [ea] at h; cases h
          | some x =>
            obtain ⟨a, r'⟩ := x
            have hal := mC ea
            have g2' : ¬ ([47, 62] : Bs).isPrefixOf (s.dropWhile eJ ++ C) = true := by
              intro z
              have hf : ([47, 62] : Bs).isPrefixOf (s.dropWhile eJ) = false := by
                cases q : ([47, 62] : Bs).isPrefixOf (s.dropWhile eJ) with
                | false => rfl
                | true => exact absurd q g2
              obtain ⟨t, ht, htn⟩ := tt C hf z
              have hone : s.dropWhile eJ = [47] := by
                cases hs : s.dropWhile eJ with
                | nil => exact absurd hs hne
                | cons c w =>
                  rw [hs] at ht
                  simp only [List.cons_append, List.cons.injEq] at ht
                  cases w with
                  | nil => rw [ht.1]
                  | cons d v =>
                    have := congrArg List.length ht.2
                    have hp := List.length_pos_iff.2 htn
                    simp only [List.length_append, List.length_cons, List.length_nil] at this
                    omega
              rw [hone] at ea
              have : jy dec [47] = none := by unfold jy ej; rfl
              rw [this] at ea; cases ea
            rw [ea] at h
            rw [if_neg g2', if_neg (by rw [List.length_append, List.length_append]; omega), Aq C ea]
            simp only at h ⊢
            split at h
            · cases h
            · rename_i g4
              rw [if_neg g4]
              exact uo C h
theorem sa {p s : Bs} (hp : p ≠ []) (C : Bs) {o : List Bs} {k : Nat} {l : List Tok} {x : Sx} (h : gV p s o k l = .ok x) : gV p (s ++ C) o k l = .ok (x.1 ++ C, x.2) := by
  unfold gV at h ⊢
  cases e : iu p s with
  | none => rw [e] at h; cases h
  | some y =>
    obtain ⟨a, b⟩ := y
    rw [e] at h
    rw [ru hp C e]
    cases h; rfl
theorem name_not {c : UInt8} (w : Bs) (h : ku c = false) : ej (c :: w) = none := by
  unfold ej
  rw [List.takeWhile_cons, h]; rfl
theorem elem_app {s : Bs} (C : Bs) {o : List Bs} {k : Nat} {l : List Tok} {x : Sx} (h : kI dec s o k l = .ok x) : kI dec (s ++ C) o k l = .ok (x.1 ++ C, x.2) := by
  unfold kI at h ⊢
  cases e : ej s with
  | none => rw [e] at h; cases h
  | some y =>
    obtain ⟨n, r⟩ := y
    rw [e] at h
    simp only at h
    have hr : r ≠ [] := by
      intro z
      rw [z] at h
      have : eO dec (([] : Bs).length + 1) [] [] = none := rfl
      rw [this] at h; cases h
    rw [qi C e hr]
    simp only
    cases ea : eO dec (r.length + 1) [] r with
    | none => rw [ea] at h; cases h
    | some z =>
      obtain ⟨as_, em, r'⟩ := z
      rw [ea] at h
      have := nJ (dec := dec) (k := r.length + 1) (m := (r ++ C).length + 1) (as_ := []) (s := r) (by omega) (by rw [List.length_append]; omega)
      rw [this] at ea
      rw [uo C ea]
      simp only at h ⊢
      unfold na at h ⊢
      split at h
      · cases h
      · rename_i g1
        rw [if_neg g1]
        split at h
        · cases h
        · rename_i g2
          rw [if_neg g2]
          split at h
          · rename_i g3
            rw [if_pos g3]; cases h; rfl
          · rename_i g3
            rw [if_neg g3]; cases h; rfl
theorem end_app {s : Bs} (C : Bs) {o : List Bs} {k : Nat} {l : List Tok} {x : Sx} (h : pA s o k l = .ok x) : pA (s ++ C) o k l = .ok (x.1 ++ C, x.2) := by
  unfold pA at h ⊢
  cases e : ej s with
  | none => rw [e] at h; cases h
  | some y =>
    obtain ⟨n, r⟩ := y
    rw [e] at h
    simp only at h
    have hd : r.dropWhile eJ ≠ [] := by
      intro z
      rw [z, if_neg (by decide)] at h; cases h
    have hr : r ≠ [] := by intro z; rw [z] at hd; exact hd rfl
    rw [qi C e hr]
    simp only
    rw [(sj eJ C hd).2]
    split at h
    · rename_i g
      rw [if_pos (iQ C g), fE (k := 1) C rfl g]
      unfold ls at h ⊢
      split at h
      · rename_i g2
        rw [if_pos g2]; cases h; rfl
      · cases h
    · cases h
theorem data_app {s : Bs} (C : Bs) {o : List Bs} {k : Nat} {l : List Tok} {x : Sx} (h : mw s o k l = .ok x) : mw (s ++ C) o k l = .ok (x.1 ++ C, x.2) := by
  unfold mw at h ⊢
  cases e : iu [93, 93, 62] s with
  | none => rw [e] at h; cases h
  | some y =>
    obtain ⟨a, b⟩ := y
    rw [e] at h
    rw [ru (by simp) C e]
    simp only at h ⊢
    split at h
    · cases h
    · rename_i g
      rw [if_neg g]; cases h; rfl
theorem lw {p s : Bs} (C : Bs) (h : ¬ p.isPrefixOf s = true) (hno : ∀ t, p = s ++ t → t ≠ [] → False) : ¬ p.isPrefixOf (s ++ C) = true := fun z => by
  have hf : p.isPrefixOf s = false := by
    cases q : p.isPrefixOf s with
    | false => rfl
    | true => exact absurd q h
  obtain ⟨t, h1, h2⟩ := tt C hf z;exact hno t h1 h2
theorem step_app {s : Bs} (C : Bs) {o : List Bs} {k : Nat} {l : List Tok} {x : Sx} (h : dA dec s o k l = .ok x) (hs : x.1 ≠ [] ∨ ([60] : Bs).isPrefixOf s = true) : dA dec (s ++ C) o k l = .ok (x.1 ++ C, x.2) := by
  cases h60 : ([60] : Bs).isPrefixOf s with
  | false =>
    have hx : x.1 ≠ [] := by
      rcases hs with g | g
      · exact g
      · rw [h60] at g; cases g
    unfold dA at h ⊢
    rw [if_pos h60] at h
    have hxd : x.1 = s.dropWhile fun c => decide (c ≠ 60) := by
      unfold je at h
      split at h
      · cases h
      · split at h
        · split at h
          · cases h; rfl
          · cases h
        · cases h; rfl
    rw [hxd] at hx ⊢
    obtain ⟨t1, t2⟩ := sj (fun c => decide (c ≠ 60)) C hx
    have hsn : s ≠ [] := fun e => by rw [e] at hx; exact hx rfl
    rw [nR C (p := [60]) (List.length_pos_iff.2 hsn), if_pos h60]
    unfold je at h ⊢
    rw [t1, t2]
    cases ed : dec (s.takeWhile fun c => decide (c ≠ 60)) with
    | none => rw [ed] at h; cases h
    | some t =>
      rw [ed] at h
      simp only at h ⊢
      split at h
      · rename_i g
        rw [if_pos g]
        split at h
        · rename_i g2
          rw [if_pos g2]; cases h; rfl
        · cases h
      · rename_i g
        rw [if_neg g]; cases h; rfl
  | true =>
    unfold dA at h ⊢
    have ne1 : ¬ ([60] : Bs).isPrefixOf s = false := by rw [h60]; decide
    have ne2 : ¬ ([60] : Bs).isPrefixOf (s ++ C) = false := by rw [iQ C h60]; decide
    rw [if_neg ne1] at h
    rw [if_neg ne2]
    split at h
    · rename_i g
      rw [if_pos (iQ C g), fE (k := 4) C rfl g]
      exact sa (by simp) C h
    rename_i n1
    split at h
    · rename_i g
      have hn : ¬ ([60, 33, 45, 45] : Bs).isPrefixOf (s ++ C) = true := by
        rw [fb g]; simp
      rw [if_neg hn, if_pos (iQ C g), fE (k := 2) C rfl g]
      exact sa (by simp) C h
    rename_i n2
    split at h
    · rename_i g
      have hn : ¬ ([60, 33, 45, 45] : Bs).isPrefixOf (s ++ C) = true := by
        rw [fb g]; simp
      have hn2 : ¬ ([60, 63] : Bs).isPrefixOf (s ++ C) = true := by
        rw [fb g]; simp
      rw [if_neg hn, if_neg hn2, if_pos (iQ C g), fE (k := 9) C rfl g]
      exact data_app C h
    rename_i n3
    split at h
    · rename_i g
      have no : ∀ p : Bs, (62 : UInt8) ∉ p → ∀ t, p = s ++ t → t ≠ [] → False := fun p hp t e _ => by
        have : (62 : UInt8) ∉ s.drop 2 := fun z => hp (by rw [e]; exact List.mem_append_left _ (List.mem_of_mem_drop z))
        unfold gV at h
        rw [wN (by simp) this] at h
        cases h
      have hn2 : ¬ ([60, 63] : Bs).isPrefixOf (s ++ C) = true := by
        rw [fb g]; simp
      rw [if_neg (lw C n1 (no _ (by decide))), if_neg hn2, if_neg (lw C n3 (no _ (by decide))), if_pos (iQ C g), fE (k := 2) C rfl g]
      exact sa (by simp) C h
    rename_i n4
    split at h
    · rename_i g
      have hn : ¬ ([60, 33, 45, 45] : Bs).isPrefixOf (s ++ C) = true := by
        rw [fb g]; simp
      have hn2 : ¬ ([60, 63] : Bs).isPrefixOf (s ++ C) = true := by
        rw [fb g]; simp
      have hn3 : ¬ ([60, 33, 91, 67, 68, 65, 84, 65, 91] : Bs).isPrefixOf (s ++ C) = true := by
        rw [fb g]; simp
      have hn4 : ¬ ([60, 33] : Bs).isPrefixOf (s ++ C) = true := by
        rw [fb g]; simp
      rw [if_neg hn, if_neg hn2, if_neg hn3, if_neg hn4, if_pos (iQ C g), fE (k := 2) C rfl g]
      exact end_app C h
    · rename_i n5
      have no : ∀ (c : UInt8) (w : Bs), ku c = false → ∀ t, 60 :: c :: w = s ++ t → t ≠ [] → False := fun c w hc t e ht => by
        have hs1 := fb h60
        have hd : ej (s.drop 1) = none := by
          rw [hs1] at e
          simp only [List.cons_append, List.nil_append, List.length_cons, List.length_nil, Nat.zero_add, List.cons.injEq, true_and] at e
          cases hsd : s.drop 1 with
          | nil => rfl
          | cons a b =>
            rw [hsd] at e
            simp only [List.cons_append, List.cons.injEq] at e
            rw [← e.1]
            exact name_not b hc
        unfold kI at h
        rw [hd] at h
        cases h
      rw [if_neg (lw C n1 (no 33 _ (by decide))), if_neg (lw C n2 (no 63 _ (by decide))), if_neg (lw C n3 (no 33 _ (by decide))), if_neg (lw C n4 (no 33 _ (by decide))), if_neg (lw C n5 (no 47 _ (by decide))), fE (k := 1) C rfl h60]
      exact elem_app C h
end
end Go.Xm
namespace Go.Xm
section
variable {dec : Bs → Option Bs} {enc : Bs → Bs}
def rd (dec : Bs → Option Bs) (s : Bs) (o : List Bs) (k : Nat) (l : List Tok) : Rx := jZ dec (s.length + 1) (s, o, k, l)
theorem rd_nil (o : List Bs) (k : Nat) (l : List Tok) : rd dec [] o k l = .ok ([], o, k, l) := by
  unfold rd jZ; rw [if_pos rfl]
theorem rm {s : Bs} {o : List Bs} {k : Nat} {l : List Tok} {s' : Bs} {o' : List Bs} {k' : Nat} {l' : List Tok} (hs : s ≠ []) (h : dA dec s o k l = .ok (s', o', k', l')) : rd dec s o k l = rd dec s' o' k' l' := by
  have hl := lu hs h
  unfold rd
  rw [jZ, if_neg hs, h]
  exact wi (by simpa using hl) (by simp)
def kN (o : List Bs) (k : Nat) : Nat := if o = [] then k + 1 else k
theorem tok_rd {s : Bs} {l : List Tok} (h : rd dec s [] 0 [] = .ok ([], [], 1, l)) : nu dec s = (l, 0) := by
  have : jZ dec (s.length + 1) (s, [], 0, []) = .ok ([], [], 1, l) := h
  unfold nu
  rw [this]
  simp
end
end Go.Xm
namespace Go.Fd
open Go.Pv Go.Av
open Go.Xm
theorem tok_ok {d : Bs → Option Bs} {s : Bs} (h : (nu d s).2 = 0) : ∃ (s' : Bs) (k : Nat), jZ d (s.length + 1) (s, [], 0, []) = .ok (s', [], k, (nu d s).1) ∧ 0 < k := by
  rw [pP] at h ⊢
  cases e : jZ d (s.length + 1) (s, [], 0, []) with
  | no e' => rw [e] at h; exact absurd h (run_no e)
  | ok y =>
    obtain ⟨s', o, k, l⟩ := y
    rw [e] at h
    have h1 : (if o = [] ∧ 0 < k then (l, (0 : Int)) else ([], 2)).2 = 0 := h
    by_cases g : o = [] ∧ 0 < k
    · obtain ⟨g1, g2⟩ := g
      subst g1;refine ⟨s', k, ?_, g2⟩;show Rx.ok (s', [], k, l) = Rx.ok (s', [], k, (if ([] : List Bs) = [] ∧ 0 < k then (l, (0 : Int)) else ([], 2)).1)
      rw [if_pos ⟨rfl, g2⟩]
    · rw [if_neg g] at h1
      exact absurd h1 (by decide)
theorem good_len {t : Tok} (h : pa t) : t.2.1.length ≤ 60 := by
  have nl : ∀ n : Bs, gu n = true → n.length ≤ 60 := fun n hn => by
    unfold gu at hn
    simp only [Bool.and_eq_true, decide_eq_true_eq] at hn
    exact hn.2.2
  rcases h with ⟨_, h, _⟩ | ⟨_, h, _⟩ | ⟨_, h, _⟩
  · exact nl _ h
  · exact nl _ h
  · rw [h]; simp
section
variable {F : Nat} (hF : 1500000 < F)
include hF
theorem tok_sm {s : Bs} (hs : s.length ≤ 100000) (h : (nu (dec F) s).2 = 0) : Sm (nu (dec F) s).1 ∧ (nu (dec F) s).1 ≠ [] := by
  obtain ⟨s', k, e, hk⟩ := tok_ok h
  have hl := tok_len (d := dec F) hs
  have ht := tok_tx (dec_43 hF) hs
  have hg := wA (x := (s, [], 0, [])) (fun t ht => by cases ht) e
  have ha := tok_ats (d := dec F) (m := 100000) hs
  have hn : Nest [] k (nu (dec F) s).1 := Nest.run (x := (s, [], 0, [])) wu e
  refine ⟨⟨by omega, by omega, fun t ht => ?_, fun t ht => ?_⟩, fun z => ?_⟩
  · have := good_len (hg t ht)
    omega
  · have := ha t ht
    omega
  · obtain ⟨t, r, q, _⟩ := hn.some (by omega)
    rw [q] at z; cases z
def rdP (F : Nat) (s : Bs) : Fe × Int := if (nu (dec F) s).2 = 0 then ta (stP F) (nu (dec F) s).1 else (([], []), (nu (dec F) s).2)
theorem va {s : Bs} (hs : s.length ≤ 100000) : dR F s = some (outF (rdP F s)) := by
  unfold dR rdP
  rw [tok_eq hF hs]
  by_cases h : (nu (dec F) s).2 = 0
  · obtain ⟨h1, h2⟩ := tok_sm hF hs h
    rw [if_pos h]
    generalize nu (dec F) s = q at h h1 h2 ⊢
    obtain ⟨l, e⟩ := q
    simp only at h h1 h2 ⊢
    rw [aN, decide_eq_true h, Bool.not_true, cond_false, ext_eq hF h1 h2]
    generalize ta (stP F) l = r
    obtain ⟨⟨a, b⟩, c⟩ := r;show (bnd3 (some (a, b, c)) fun x11 x12 x13 => some (x11, x12, x13)) = some (a, b, c)
    rw [oe]
  · rw [if_neg h]
    generalize nu (dec F) s = q at h ⊢
    obtain ⟨l, e⟩ := q
    simp only at h ⊢
    rw [aN, decide_eq_false h, Bool.not_false, cond_true]
    rfl
theorem rd_of {s : Bs} {l : El} (h : rd (dec F) s [] 0 [] = .ok ([], [], 1, l)) : rdP F s = ta (stP F) l := by
  have e := tok_rd h
  unfold rdP
  rw [e, if_pos rfl]
omit hF in
theorem tq (l : List Ent) (hl : l.length ≤ 1000000) : ∀ (n i : Nat), l.length - i < n → i ≤ l.length → hZ l l n (i : Int) = some true
  | 0, i, h, _ => by omega
  | n + 1, i, hn, hi => by
    show ia l l (hZ l l n) (i : Int) = _
    unfold ia
    by_cases h : i < l.length
    · have e : ∀ x : Ent, ((decide (x.1 = x.1)) && ((decide (x.2.1 = x.2.1)) && ((decide (x.2.2.1 = x.2.2.1)) && ((decide (x.2.2.2.1 = x.2.2.2.1)) && (x.2.2.2.2 == x.2.2.2.2))))) = true := fun x => by simp
      rw [bT (by omega), cQ (by omega), bi, cQ (by omega), bi, e, Bool.not_true, cond_false, bR (by omega), cq]
      exact tq l hl n (i + 1) (by omega) (by omega)
    · rw [bF (by omega)]
      rfl
theorem yb (t : Bs) (l : List Ent) (hl : l.length ≤ 1000000) : gJ F t l t l = some true := by
  unfold gJ
  rw [decide_eq_true rfl, decide_eq_true rfl]
  exact tq l hl F 0 (by omega) (by omega)
end
end Go.Fd
namespace Go.Xm
section
variable {dec : Bs → Option Bs}
theorem blk_lt {s : Bs} (h : s.all eJ = true) : s.takeWhile (fun c => decide (c ≠ 60)) = s ∧ s.dropWhile (fun c => decide (c ≠ 60)) = [] := by
  induction s with
  | nil => exact ⟨rfl, rfl⟩
  | cons c r ih =>
    rw [List.all_cons, Bool.and_eq_true] at h
    obtain ⟨i1, i2⟩ := ih h.2
    have hc : c ≠ 60 := fun e => by rw [e] at h; exact absurd h.1 (by decide)
    have hd : decide (c ≠ 60) = true := decide_eq_true hc
    constructor
    · rw [List.takeWhile_cons, hd, if_pos rfl, i1]
    · rw [List.dropWhile_cons, hd, if_pos rfl, i2]
end
end Go.Xm
namespace Go.Fd
open Go.Pv Go.Av
open Go.Xm
open Go.Pn (bl T1 T2 trim)
def qc (s : Bs) : Prop := ∀ c ∈ s, c ≠ 60 ∧ c ≠ 38 ∧ c ≠ 34
theorem dec_easy (F : Nat) {s : Bs} (h : qc s) : dec F s = some s := by
  unfold dec
  rw [Go.Pn.no_amp F s (List.any_eq_false.2 fun c hc => by simpa using (h c hc).2.1)]
  rfl
def op (n : Bs) : Bs := 60 :: (n ++ [62])
def cl (n : Bs) : Bs := 60 :: 47 :: (n ++ [62])
def tO (n : Bs) : Tok := (0, n, [], [])
def tC (n : Bs) : Tok := (1, n, [], [])
def tT (s : Bs) : El := if s = [] then [] else [(2, [], s, [])]
theorem Ap (d : Bs → Option Bs) (n : Nat) (r : Bs) : eO d (n + 1) [] (62 :: r) = some ([], false, r) := rfl
theorem qd {a b x : UInt8} {p r : Bs} (h : x ≠ b) : (a :: b :: p).isPrefixOf (a :: x :: r) = false := by
  have : (b == x) = false := by simpa using fun e => h e.symm
  simp [List.isPrefixOf, this]
section
variable {F : Nat}
theorem yd {n : Bs} (hn : gu n = true) {o : List Bs} {k : Nat} (l : El) (r : Bs) (h1 : ¬ (o = [] ∧ k ≠ 0)) (h2 : o.length < 20) : rd (dec F) (op n ++ r) o k l = rd (dec F) r (o ++ [n]) (kN o k) (l ++ [tO n]) := by
  obtain ⟨c, w, hc, hl⟩ := yW hn;obtain ⟨n1, n2, n3, n4, n5⟩ := let_not hl
  have e1 : op n ++ r = 60 :: (n ++ 62 :: r) := by unfold op; simp
  rw [e1]
  refine rm (by simp) ?_
  have e2 : dA (dec F) (60 :: (n ++ 62 :: r)) o k l = kI (dec F) (n ++ 62 :: r) o k l := by
    rw [hc, List.cons_append]
    unfold dA
    rw [if_neg (by simp), if_neg (by rw [qd n4]; simp), if_neg (by rw [qd n5]; simp), if_neg (by rw [qd n4]; simp), if_neg (by rw [qd n4]; simp), if_neg (by rw [qd n3]; simp)]
    rfl
  rw [e2]
  unfold kI
  rw [ww r hn (by decide)]
  simp only
  rw [Ap]
  simp only
  unfold na
  rw [if_neg h1, if_neg (by omega), if_neg (by simp)]
  rfl
theorem wj {n : Bs} (hn : gu n = true) (o : List Bs) (k : Nat) (l : El) (r : Bs) : rd (dec F) (cl n ++ r) (o ++ [n]) k l = rd (dec F) r o k (l ++ [tC n]) := by
  have e1 : cl n ++ r = 60 :: 47 :: (n ++ 62 :: r) := by unfold cl; simp
  rw [e1]
  refine rm (by simp) ?_
  have e2 : dA (dec F) (60 :: 47 :: (n ++ 62 :: r)) (o ++ [n]) k l = pA (n ++ 62 :: r) (o ++ [n]) k l := by
    unfold dA
    rw [if_neg (by simp), if_neg (by rw [qd (by decide)]; simp), if_neg (by rw [qd (by decide)]; simp), if_neg (by rw [qd (by decide)]; simp), if_neg (by rw [qd (by decide)]; simp), if_pos (by simp [List.isPrefixOf])]
    rfl
  rw [e2]
  unfold pA
  rw [ww r hn (by decide)]
  simp only
  have e3 : (62 :: r : Bs).dropWhile eJ = 62 :: r := rfl
  rw [e3, if_pos (by simp [List.isPrefixOf])]
  unfold ls
  rw [if_pos (by simp)]
  simp [tC]
theorem easy_tw {s : Bs} (h : qc s) (w : Bs) : (s ++ 60 :: w).takeWhile (fun c => decide (c ≠ 60)) = s ∧ (s ++ 60 :: w).dropWhile (fun c => decide (c ≠ 60)) = 60 :: w :=
  rZ (f := fun c => decide (c ≠ 60)) (c := 60) (by decide) w (List.all_eq_true.2 fun c hc => by simpa using (h c hc).1)
theorem rd_text {s : Bs} (h : qc s) {o : List Bs} (ho : o ≠ []) (k : Nat) (l : El) (w : Bs) : rd (dec F) (s ++ 60 :: w) o k l = rd (dec F) (60 :: w) o k (l ++ tT s) := by
  by_cases hs : s = []
  · subst hs
    unfold tT
    rw [if_pos rfl, List.append_nil]; rfl
  · refine rm (fun e => hs (List.append_eq_nil_iff.1 e).1) ?_
    obtain ⟨c, t, rfl⟩ := List.exists_cons_of_ne_nil hs
    have hc := (h c List.mem_cons_self).1
    obtain ⟨e1, e2⟩ := easy_tw h w
    unfold dA
    rw [if_pos (by rw [List.cons_append]; exact pre_not hc)]
    unfold je
    rw [e1, e2, dec_easy F h]
    simp only
    rw [if_neg ho]
    unfold lN tT
    rw [if_neg hs, if_neg hs]
theorem rd_com {A : Bs} (hA : ∀ (r : Bs) (o : List Bs) (k : Nat) (l : El), dA (dec F) (A ++ r) o k l = .ok (r, o, k, l)) (hn : A ≠ []) (r : Bs) (o : List Bs) (k : Nat) (l : El) : rd (dec F) (A ++ r) o k l = rd (dec F) r o k l :=
  rm (fun e => hn (List.append_eq_nil_iff.1 e).1) (hA r o k l)
def gx (n s : Bs) : El := tO n :: (tT s ++ [tC n])
end
def Flat (m : El) : Prop := ∀ (d : Int) (cur r : El), 2 ≤ d → bS d cur (m ++ r) = bS d (cur ++ m) r
theorem flat_nil : Flat [] := fun d cur r _ => by rw [List.append_nil]; rfl
theorem wE {a b : El} (ha : Flat a) (hb : Flat b) : Flat (a ++ b) := fun d cur r h => by
  rw [List.append_assoc, ha d cur _ h, hb d _ _ h, List.append_assoc]
theorem tJ (s : Bs) : Flat (tT s) := fun d cur r h => by
  unfold tT
  split
  · rw [List.append_nil]; rfl
  · show bS d cur ((2, [], s, []) :: r) = _
    rw [bS, if_neg (show ¬ ((2 : Int) = 0) by decide), if_neg (show ¬ ((2 : Int) = 1) by decide)]
theorem yu (d : Int) (cur r : El) (n : Bs) (as_ : List At) (h : d + 1 ≠ 2) : bS d cur ((0, n, [], as_) :: r) = bS (d + 1) (cur ++ [(0, n, [], as_)]) r := by
  rw [bS, if_pos rfl, if_neg h]
theorem go_open1 (cur r : El) (n : Bs) (as_ : List At) : bS 1 cur ((0, n, [], as_) :: r) = bS 2 [(0, n, [], as_)] r := by
  rw [bS, if_pos rfl, if_pos (by decide)]; rfl
theorem wB (d : Int) (cur r : El) (n : Bs) (h : d - 1 ≠ 1) : bS d cur (tC n :: r) = bS (d - 1) (cur ++ [tC n]) r := by
  unfold tC
  rw [bS, if_neg (show ¬ ((1 : Int) = 0) by decide), if_pos rfl, if_neg h]
theorem yZ (cur r : El) (n : Bs) : bS 2 cur (tC n :: r) = (cur ++ [tC n]) :: bS 1 (cur ++ [tC n]) r := by
  unfold tC
  rw [bS, if_neg (show ¬ ((1 : Int) = 0) by decide), if_pos rfl, if_pos (by decide)]; rfl
theorem go_text (d : Int) (cur r : El) (s : Bs) : ∃ cur', bS d cur (tT s ++ r) = bS d cur' r := by
  unfold tT
  split
  · exact ⟨cur, rfl⟩
  · refine ⟨cur ++ [(2, [], s, [])], ?_⟩
    show bS d cur ((2, [], s, []) :: r) = _
    rw [bS, if_neg (show ¬ ((2 : Int) = 0) by decide), if_neg (show ¬ ((2 : Int) = 1) by decide)]
def elE (n : Bs) (as_ : List At) (m : El) : El := (0, n, [], as_) :: (m ++ [tC n])
theorem flat_el {m : El} (n : Bs) (as_ : List At) (h : Flat m) : Flat (elE n as_ m) := fun d cur r hd => by
  unfold elE
  rw [List.cons_append, yu d cur _ n as_ (by omega), List.append_assoc, h (d + 1) _ _ (by omega), List.singleton_append, wB (d + 1) _ r n (by omega)]
  have : d + 1 - 1 = d := by omega
  rw [this]
  simp
theorem leaf_el (n s : Bs) : gx n s = elE n [] (tT s) := rfl
theorem go_el {m : El} (n : Bs) (as_ : List At) (h : Flat m) (cur r : El) : ∃ cur', bS 1 cur (elE n as_ m ++ r) = elE n as_ m :: bS 1 cur' r := by
  refine ⟨[(0, n, [], as_)] ++ m ++ [tC n], ?_⟩
  have e : elE n as_ m ++ r = (0, n, [], as_) :: (m ++ (tC n :: r)) := by unfold elE; simp
  rw [e, go_open1, h 2 _ _ (by omega), yZ]
  unfold elE
  simp
inductive Row : El → List El → Prop
  | nil : Row [] []
  | text {m : El} {ps : List El} (s : Bs) (h : Row m ps) : Row (tT s ++ m) ps
  | el {m q : El} {ps : List El} (n : Bs) (as_ : List At) (hq : Flat q) (h : Row m ps) : Row (elE n as_ q ++ m) (elE n as_ q :: ps)
theorem Row.flat {m : El} {ps : List El} (h : Row m ps) : Flat m := by
  induction h with
  | nil => exact flat_nil
  | text s h ih => exact wE (tJ s) ih
  | el n as_ hq h ih => exact wE (flat_el n as_ hq) ih
theorem Row.go {m : El} {ps : List El} (h : Row m ps) (n : Bs) : ∀ cur : El, bS 1 cur (m ++ [tC n]) = ps := by
  induction h with
  | nil => intro cur; rw [List.nil_append, wB 1 cur [] n (by decide)]; rfl
  | text s h ih =>
    intro cur
    rw [List.append_assoc]
    obtain ⟨c', e⟩ := go_text 1 cur (_ ++ [tC n]) s
    rw [e, ih]
  | el k as_ hq h ih =>
    intro cur
    rw [List.append_assoc]
    obtain ⟨c', e⟩ := go_el k as_ hq cur (_ ++ [tC n])
    rw [e, ih]
theorem Row.parts {m : El} {ps : List El} (h : Row m ps) (n : Bs) (as_ : List At) : fc (elE n as_ m) = ps := by
  unfold fc elE
  rw [yu 0 [] _ n as_ (by decide)]
  exact h.go n _
theorem Row.app {m m' : El} {ps ps' : List El} (h : Row m ps) (h' : Row m' ps') : Row (m ++ m') (ps ++ ps') := by
  induction h with
  | nil => exact h'
  | text s h ih => rw [List.append_assoc]; exact .text s ih
  | el n as_ hq h ih => rw [List.append_assoc, List.cons_append]; exact .el n as_ hq ih
theorem gn (n s : Bs) : Row (gx n s) [gx n s] := by
  have := Row.el n [] (tJ s) .nil
  rwa [List.append_nil] at this
theorem pE (s : Bs) : Row (tT s) [] := by
  have := Row.text s .nil
  rwa [List.append_nil] at this
theorem qR {m : El} {ps : List El} (n : Bs) (as_ : List At) (h : Row m ps) : Row (elE n as_ m) [elE n as_ m] := by
  have := Row.el n as_ h.flat .nil
  rwa [List.append_nil] at this
theorem text_tT (s : Bs) : da (tT s) = s := by
  unfold tT
  split
  · rename_i h; rw [h]; rfl
  · simp [da]
theorem text_el (n : Bs) (as_ : List At) (m : El) : da (elE n as_ m) = da m := by
  unfold elE tC
  rw [iV, lg, iV]
  simp [da]
theorem mE (n s : Bs) : valP (gx n s) = trim s := by
  unfold valP
  rw [leaf_el, text_el, text_tT]
theorem yG {s : Bs} (h : ∀ c ∈ s, bl c = false) : trim s = s := by
  cases s with
  | nil => rfl
  | cons c r =>
    have hc := h c List.mem_cons_self
    have : ∀ r : Bs, (∀ c ∈ r, bl c = false) → T1 r = r := by
      intro r
      induction r with
      | nil => intro _; rfl
      | cons a r ih =>
        intro h
        simp only [T1, h a List.mem_cons_self, cond_false]
        rw [ih fun c hc => h c (List.mem_cons_of_mem _ hc)]
    simp only [trim, hc, cond_false]
    rw [this r fun c hc => h c (List.mem_cons_of_mem _ hc)]
end Go.Fd
namespace Go.Fd
open Go.Pv Go.Av
open Go.Xm
open Go.Pn (bl T1 T2 trim)
def Rds (F h : Nat) (B : Bs) (m : El) : Prop := ∀ (o : List Bs) (k : Nat) (l : El) (w : Bs), o ≠ [] → o.length + h ≤ 20 → rd (dec F) (B ++ 60 :: w) o k l = rd (dec F) (60 :: w) o k (l ++ m)
def Tag (B : Bs) : Prop := B = [] ∨ ∃ w, B = 60 :: w
theorem tag_app {A B : Bs} (ha : Tag A) (hb : Tag B) : Tag (A ++ B) := by
  rcases ha with rfl | ⟨w, rfl⟩
  · exact hb
  · exact .inr ⟨_, rfl⟩
def Rda (F h : Nat) (B : Bs) (m : El) : Prop := ∀ (o : List Bs) (k : Nat) (l : El) (r : Bs), o ≠ [] → o.length + h ≤ 20 → rd (dec F) (B ++ r) o k l = rd (dec F) r o k (l ++ m)
section
variable {F : Nat}
theorem Rda.rds {h : Nat} {A : Bs} {a : El} (ha : Rda F h A a) : Rds F h A a := fun o k l w ho hl => ha o k l _ ho hl
theorem pF {s : Bs} (h : qc s) : Rds F 0 s (tT s) := fun o k l w ho _ => rd_text h ho k l w
theorem Rds.app {h h' : Nat} {A B : Bs} {a b : El} (ha : Rds F h A a) (hb : Rds F h' B b) (ht : Tag B) : Rds F (max h h') (A ++ B) (a ++ b) := fun o k l w ho hl => by
  rw [List.append_assoc]
  have : ∃ w', B ++ 60 :: w = 60 :: w' := by
    rcases ht with rfl | ⟨v, rfl⟩
    · exact ⟨w, rfl⟩
    · exact ⟨_, rfl⟩
  obtain ⟨w', e⟩ := this
  rw [e, ha o k l w' ho (by omega), ← e, hb o k _ w ho (by omega), List.append_assoc]
theorem Rda.app {h h' : Nat} {A B : Bs} {a b : El} (ha : Rda F h A a) (hb : Rds F h' B b) : Rds F (max h h') (A ++ B) (a ++ b) := fun o k l w ho hl => by
  rw [List.append_assoc, ha o k l _ ho (by omega), hb o k _ w ho (by omega), List.append_assoc]
def elB (n B : Bs) : Bs := op n ++ (B ++ cl n)
theorem xH (n B : Bs) : Tag (elB n B) := .inr ⟨_, rfl⟩
theorem Rds.el {h : Nat} {B : Bs} {m : El} {n : Bs} (hn : gu n = true) (hb : Rds F h B m) : Rda F (h + 1) (elB n B) (elE n [] m) := fun o k l r ho hl => by
  have e : elB n B ++ r = op n ++ (B ++ 60 :: (47 :: (n ++ [62]) ++ r)) := by unfold elB cl; simp
  have e2 : 60 :: (47 :: (n ++ [62]) ++ r) = cl n ++ r := rfl
  have hk : kN o k = k := by unfold kN; rw [if_neg ho]
  rw [e, yd hn l _ (fun z => ho z.1) (by omega), hk, hb _ k _ _ (by simp) (by rw [List.length_append, List.length_singleton]; omega), e2, wj hn]
  unfold elE tO; simp
theorem lv {n s : Bs} (hn : gu n = true) (hs : qc s) : Rda F 1 (elB n s) (gx n s) := Rds.el hn (pF hs)
theorem rds_com {A : Bs} (hA : ∀ (r : Bs) (o : List Bs) (k : Nat) (l : El), dA (dec F) (A ++ r) o k l = .ok (r, o, k, l)) (hn : A ≠ []) : Rda F 0 A [] := fun o k l w _ _ => by
  rw [rd_com hA hn, List.append_nil]
theorem xK {h : Nat} {B : Bs} {m : El} {n : Bs} (hn : gu n = true) (hb : Rds F h B m) (hh : h < 20) : rd (dec F) (elB n B) [] 0 [] = .ok ([], [], 1, elE n [] m) := by
  have e : elB n B = op n ++ (B ++ 60 :: (47 :: (n ++ [62]))) := by unfold elB cl; simp
  have e2 : 60 :: (47 :: (n ++ [62])) = cl n ++ [] := by unfold cl; simp
  rw [e, yd hn [] _ (fun z => z.2 rfl) (by simp), hb _ _ _ _ (by simp) (by simp; omega), e2]
  have := wj (F := F) hn [] (kN [] 0) ([] ++ [tO n] ++ m) []
  rw [List.nil_append] at this ⊢
  rw [this, rd_nil]
  unfold elE tO kN; simp
end
def wS (ns : List Bs) (n : Bs) : Bool := Go.Lib.contains ([124] ++ Str.join [124] ns ++ [124]) ([124] ++ n ++ [124]) && !Go.Lib.contains n [124]
theorem hN {ns : List Bs} {n : Bs} (as_ : List At) (m : El) {b : Bool} (h : wS ns (oA n) = b) : sZ ns (elE n as_ m) = b := h
theorem hL {ns : List Bs} {n : Bs} (s : Bs) {b : Bool} (h : wS ns (oA n) = b) : sZ ns (gx n s) = b := h
theorem iN {k : Bs} {n : Bs} (as_ : List At) (m : El) {b : Bool} (h : decide (oA n = k) = b) : isN k (elE n as_ m) = b := h
theorem iL {k : Bs} {n : Bs} (s : Bs) {b : Bool} (h : decide (oA n = k) = b) : isN k (gx n s) = b := h
theorem qQ {x : El} {ps : List El} (h : fc x = ps) (ns : List Bs) : mg ns x = valO (ps.find? (sZ ns)) := by
  unfold mg kH; rw [h]
theorem nt {p : El → Bool} {x : El} {l : List El} (h : p x = true) : (x :: l).find? p = some x := by rw [List.find?_cons, h]
theorem mj {p : El → Bool} {x : El} {l : List El} (h : p x = false) : (x :: l).find? p = l.find? p := by rw [List.find?_cons, h]
theorem xP {p : El → Bool} {x : El} {l : List El} (h : p x = true) : (x :: l).filter p = x :: l.filter p := List.filter_cons_of_pos h
theorem vq {p : El → Bool} {x : El} {l : List El} (h : p x = false) : (x :: l).filter p = l.filter p := List.filter_cons_of_neg (by rw [h]; simp)
theorem ve {d : Bs → Option Bs} {s : Bs} {l : El} (h : rd d s [] 0 [] = .ok ([], [], 1, l)) : mo true [] l = true := by
  have hn : Nest [] 1 l := Nest.run (x := (s, [], 0, [])) wu h
  obtain ⟨t, r, e, _⟩ := hn.some (by decide)
  exact yo l true [] hn.rp fun _ q => by rw [e] at q; cases q
end Go.Fd
namespace Go.Fd
open Go.Pv Go.Av
open Go.Xm
open Go.Pn (bl T1 T2 trim)
def Word (s : Bs) : Prop := ∀ c ∈ s, 97 ≤ c.toNat ∧ c.toNat ≤ 122
theorem Word.easy {s : Bs} (h : Word s) : qc s := fun c hc => by
  obtain ⟨h1, h2⟩ := h c hc
  refine ⟨?_, ?_, ?_⟩ <;> (intro e; subst e; revert h1; decide)
theorem Word.bl {s : Bs} (h : Word s) : ∀ c ∈ s, bl c = false := fun c hc => by
  obtain ⟨h1, h2⟩ := h c hc
  unfold Go.Pn.bl
  have : c ≠ 9 ∧ c ≠ 10 ∧ c ≠ 13 ∧ c ≠ 32 := by refine ⟨?_, ?_, ?_, ?_⟩ <;> (intro e; subst e; revert h1; decide)
  simp [this.1, this.2.1, this.2.2.1, this.2.2.2]
theorem Word.trim {s : Bs} (h : Word s) : trim s = s := yG h.bl
theorem easy_F : qc [70] := fun c hc => by
  have : c = 70 := by simpa using hc
  subst this; decide
theorem tF : trim [70] = [70] := by decide
section
variable {F : Nat} {id t l x : Bs} (hi : Word id) (ht : Word t) (hl : Word l) (hx : Word x)
include hi ht hl hx
end
end Go.Fd
namespace Go.Fd
open Go.Pv Go.Av
open Go.Xm
open Go.Pn (bl T1 T2 trim)
theorem tw_no {c : UInt8} (r : Bs) {a : Bs} (h : c ∉ a) : (a ++ c :: r).takeWhile (fun x => decide (x ≠ c)) = a := by
  induction a with
  | nil => simp
  | cons x a ih =>
    have hx : x ≠ c := fun e => h (by rw [e]; exact List.mem_cons_self)
    rw [List.cons_append, List.takeWhile_cons, if_pos (by simpa using hx), ih fun z => h (List.mem_cons_of_mem _ z)]
theorem has_one {w n : Bs} (hw : 124 ∉ w) (hn : 124 ∉ n) (h : Go.Lib.contains ([124] ++ w ++ [124]) ([124] ++ n ++ [124]) = true) : n = w := by
  unfold Go.Lib.contains at h
  have h := of_decide_eq_true h
  rcases Go.Lib.index_spec ([124] ++ w ++ [124]) ([124] ++ n ++ [124]) with ⟨e, _⟩ | ⟨i, _, _, ho, _⟩
  · rw [e] at h; exact absurd h (by decide)
  · unfold Go.Lib.occAt at ho
    obtain ⟨r, hr⟩ := List.isPrefixOf_iff_prefix.1 ho
    cases i with
    | zero =>
      have e1 : n ++ 124 :: r = w ++ 124 :: [] := by simpa using hr
      have e2 := congrArg (List.takeWhile fun x => decide (x ≠ (124 : UInt8))) e1
      rwa [tw_no r hn, tw_no [] hw] at e2
    | succ i =>
      have e0 : ([124] ++ w ++ [124] : Bs).drop (i + 1) = (w ++ [124]).drop i := rfl
      have e1 : (w ++ [124]).drop i = 124 :: (n ++ 124 :: r) := by
        rw [e0] at hr
        rw [← hr]; simp
      have e2 : ((w ++ [124]).drop i).count 124 ≤ (w ++ [124]).count 124 := (List.drop_sublist i _).count_le 124
      rw [e1, List.count_append, List.count_eq_zero_of_not_mem hw, List.count_cons, List.count_append, List.count_cons, List.count_cons, List.count_nil] at e2
      simp at e2
theorem Word.no {s : Bs} (h : Word s) {c : UInt8} (hc : ¬ (97 ≤ c.toNat ∧ c.toNat ≤ 122)) : c ∉ s := fun z => hc (h c z)
theorem wx {s : Bs} (h : Word s) : oA s = s := by
  unfold oA
  have : s.reverse.takeWhile (fun c => decide (c ≠ (58 : UInt8))) = s.reverse := by
    have hq : ∀ c ∈ s.reverse, decide (c ≠ (58 : UInt8)) = true := fun c hc => by
      have := h.no (c := 58) (by decide)
      have hm : c ∈ s := List.mem_reverse.1 hc
      exact decide_eq_true fun e => this (e ▸ hm)
    have := List.takeWhile_append_of_pos (l₂ := []) hq
    simpa using this
  rw [this, List.reverse_reverse]
theorem hasNm_no {w n : Bs} (hw : 124 ∉ w) (hj : Str.join [124] [w] = w) (hn : Word n) (h : n ≠ w) : wS [w] (oA n) = false := by
  rw [wx hn]
  unfold wS
  rw [hj]
  cases e : Go.Lib.contains ([124] ++ w ++ [124]) ([124] ++ n ++ [124]) with
  | false => rfl
  | true => exact absurd (has_one hw (hn.no (by decide)) e) h
theorem yV {n : Bs} (h : Word n) (h0 : n ≠ []) (hl : n.length ≤ 40) : gu n = true := by
  obtain ⟨c, r, rfl⟩ := List.exists_cons_of_ne_nil h0
  have hc : ∀ x ∈ c :: r, sY x = true := fun x hx => by
    obtain ⟨h1, h2⟩ := h x hx
    unfold sY
    simp [h1, h2]
  unfold gu
  simp only [hc c List.mem_cons_self, Bool.true_and, Bool.and_eq_true, decide_eq_true_eq]
  refine ⟨List.all_eq_true.2 fun x hx => ?_, by omega⟩
  unfold ku
  rw [hc x hx, Bool.true_or]
abbrev xN : Bs := [120, 58, 114, 115, 115]
abbrev yp : Bs := [121, 58, 105, 116, 101, 109]
abbrev vg : Bs := [113, 58, 103, 117, 105, 100]
abbrev comI : Bs := [60, 33, 45, 45, 32, 105, 116, 101, 109, 32, 45, 45, 62]
def plnB (id : Bs) : Bs := elB mq (elB gw (elB dt [70] ++ elB lB (elB qS id)))
def plI (id : Bs) : El := elE lB [] (gx qS id)
def plC (id : Bs) : El := gx dt [70] ++ plI id
def plnM (id : Bs) : El := elE mq [] (elE gw [] (plC id))
def morB (n t id : Bs) : Bs := elB xN ([10] ++ elB gw (elB n t ++ ([32] ++ (elB dt [70] ++ (comI ++ elB yp ([32] ++ elB vg ([10] ++ id ++ [32])))))))
def moI (id : Bs) : El := elE yp [] (tT [32] ++ gx vg ([10] ++ id ++ [32]))
def moC (n t id : Bs) : El := gx n t ++ (tT [32] ++ (gx dt [70] ++ ([] ++ moI id)))
def morM (n t id : Bs) : El := elE xN [] (tT [10] ++ elE gw [] (moC n t id))
theorem yJ (d : Bs → Option Bs) (r : Bs) (o : List Bs) (k : Nat) (l : El) : dA d (comI ++ r) o k l = .ok (r, o, k, l) := step_app (s := comI) r (x := ([], o, k, l)) rfl (.inr rfl)
theorem xR : qc [32] := fun c hc => by
  have : c = 32 := by simpa using hc
  subst this; decide
theorem easy10 : qc [10] := fun c hc => by
  have : c = 10 := by simpa using hc
  subst this; decide
theorem wL {a b : Bs} (ha : qc a) (hb : qc b) : qc (a ++ b) := fun c hc => by
  rcases List.mem_append.1 hc with h | h
  · exact ha c h
  · exact hb c h
theorem T1_sp {s : Bs} (h : Word s) : T1 (s ++ [32]) = s := by
  induction s with
  | nil => rfl
  | cons c r ih =>
    have hc := h.bl c List.mem_cons_self
    rw [List.cons_append]
    simp only [T1, hc, cond_false]
    rw [ih fun x hx => h x (List.mem_cons_of_mem _ hx)]
theorem trim_sp {s : Bs} (h : Word s) : trim ([10] ++ s ++ [32]) = s := by
  have e : trim ([10] ++ s ++ [32]) = trim (s ++ [32]) := rfl
  rw [e]
  cases s with
  | nil => rfl
  | cons c r =>
    have hc := h.bl c List.mem_cons_self
    rw [List.cons_append]
    simp only [trim, hc, cond_false]
    rw [T1_sp fun x hx => h x (List.mem_cons_of_mem _ hx)]
section
variable {F : Nat} {n t id : Bs} (hi : Word id)
include hi
theorem rd_pln : rd (dec F) (plnB id) [] 0 [] = .ok ([], [], 1, plnM id) :=
  xK (by decide) (Rds.el (by decide) ((lv (by decide) easy_F).app (Rds.el (by decide) (lv (by decide) hi.easy).rds).rds)).rds (by decide)
theorem rd_mor (hn : Word n) (h0 : n ≠ []) (hl : n.length ≤ 40) (ht : Word t) : rd (dec F) (morB n t id) [] 0 [] = .ok ([], [], 1, morM n t id) :=
  xK (by decide) ((pF easy10).app (Rds.el (by decide) ((lv (yV hn h0 hl) ht.easy).app ((pF xR).app ((lv (by decide) easy_F).app ((rds_com (yJ _) (by simp)).app (Rds.el (by decide) ((pF xR).app (lv (by decide) (wL (wL easy10 hi.easy) xR)).rds (xH _ _))).rds)) (tag_app (xH _ _) (.inr ⟨_, rfl⟩))))).rds (xH _ _)) (by decide)
theorem pl_it : ri (plI id) = (id, [], [], [], 0) := by
  have hp : fc (plI id) = [gx qS id] := (gn _ _).parts _ _
  unfold ri
  simp only [qQ hp]
  rw [nt (hL id (by decide)), mj (hL id (by decide)), mj (hL id (by decide)), mj (hL id (by decide))]
  simp only [valO, mE, hi.trim, List.find?_nil]
theorem mo_it : ri (moI id) = (id, [], [], [], 0) := by
  have hp : fc (moI id) = [gx vg ([10] ++ id ++ [32])] := ((pE _).app (gn _ _)).parts _ _
  unfold ri
  simp only [qQ hp]
  rw [nt (hL _ (by decide)), mj (hL _ (by decide)), mj (hL _ (by decide)), mj (hL _ (by decide))]
  simp only [valO, mE, trim_sp hi, List.find?_nil]
theorem ext_pln (stp : Bs → Int × Int) : ta stp (plnM id) = (([70], [(id, [], [], [], 0)]), 0) := by
  have hn := ve (rd_pln (F := 0) hi)
  have hit : Row (plI id) [plI id] := qR _ _ (gn _ _)
  have hc : fc (elE gw [] (plC id)) = [gx dt [70], plI id] := ((gn _ _).app hit).parts _ _
  have hp : fc (plnM id) = [elE gw [] (plC id)] := (qR _ _ ((gn _ _).app hit)).parts _ _
  unfold ta
  rw [hn, if_neg (by simp), if_pos (show pz (plnM id) = mq from (by decide : oA mq = mq))]
  unfold kH
  rw [hp, nt (iN _ _ (by decide))]
  simp only
  unfold topP entL
  rw [qQ hc, hc, nt (hL _ (by decide)), vq (iL _ (by decide)), xP (show isN lB (plI id) = true from iN [] _ (by decide)), List.filter_nil]
  show (((valP (gx dt [70])), [cutE (ri (plI id))]), (0 : Int)) = _
  rw [pl_it hi, xS (by simp), mE, tF]
theorem ext_mor (stp : Bs → Int × Int) (hn : Word n) (h0 : n ≠ []) (hl : n.length ≤ 40) (h1 : n ≠ lB) (h2 : n ≠ dt) (ht : Word t) : ta stp (morM n t id) = (([70], [(id, [], [], [], 0)]), 0) := by
  have hns := ve (rd_mor (F := 0) hi hn h0 hl ht)
  have hit : Row (moI id) [moI id] := qR _ _ ((pE _).app (gn _ _))
  have hcr : Row (moC n t id) [gx n t, gx dt [70], moI id] := (gn _ _).app ((pE _).app ((gn _ _).app (Row.nil.app hit)))
  have hc : fc (elE gw [] (moC n t id)) = [gx n t, gx dt [70], moI id] := hcr.parts _ _
  have hp : fc (morM n t id) = [elE gw [] (moC n t id)] := ((pE _).app (qR _ _ hcr)).parts _ _
  have e1 : wS [dt] (oA n) = false := hasNm_no (by decide) (by decide) hn h2
  have e2 : decide (oA n = lB) = false := by rw [wx hn]; exact decide_eq_false h1
  unfold ta
  rw [hns, if_neg (by simp), if_pos (show pz (morM n t id) = mq from (by decide : oA xN = mq))]
  unfold kH
  rw [hp, nt (iN _ _ (by decide))]
  simp only
  unfold topP entL
  rw [qQ hc, hc, mj (hL _ e1), nt (hL _ (by decide)), vq (iL _ e2), vq (iL _ (by decide)), xP (show isN lB (moI id) = true from iN [] _ (by decide)), List.filter_nil]
  show (((valP (gx dt [70])), [cutE (ri (moI id))]), (0 : Int)) = _
  rw [mo_it hi, xS (by simp), mE, tF]
end
end Go.Fd
namespace Go.Fd
open Go.Pv Go.Av
open Go.Xm
open Go.Pn (bl T1 T2 trim)
structure Self (s : Bs) : Prop where
  easy : qc s
  trim : trim s = s
def plT (t id : Bs) : Bs := elB mq (elB gw (elB dt t ++ elB lB (elB qS id)))
def mtC (t id : Bs) : El := gx dt t ++ plI id
def mtM (t id : Bs) : El := elE mq [] (elE gw [] (mtC t id))
theorem rd_plT {F : Nat} {t id : Bs} (ht : qc t) (hi : qc id) : rd (dec F) (plT t id) [] 0 [] = .ok ([], [], 1, mtM t id) :=
  xK (by decide) (Rds.el (by decide) ((lv (by decide) ht).app (Rds.el (by decide) (lv (by decide) hi).rds).rds)).rds (by decide)
theorem plI_rss {id : Bs} (hi : Self id) : ri (plI id) = (id, [], [], [], 0) := by
  have hp : fc (plI id) = [gx qS id] := (gn _ _).parts _ _
  unfold ri
  simp only [qQ hp]
  rw [nt (hL id (by decide)), mj (hL id (by decide)), mj (hL id (by decide)), mj (hL id (by decide))]
  simp only [valO, mE, hi.trim, List.find?_nil]
theorem ext_plT (stp : Bs → Int × Int) {t id : Bs} (ht : Self t) (hi : Self id) : ta stp (mtM t id) = ((t, [(id, [], [], [], 0)]), 0) := by
  have hn := ve (rd_plT (F := 0) ht.easy hi.easy)
  have hit : Row (plI id) [plI id] := qR _ _ (gn _ _)
  have hc : fc (elE gw [] (mtC t id)) = [gx dt t, plI id] := ((gn _ _).app hit).parts _ _
  have hp : fc (mtM t id) = [elE gw [] (mtC t id)] := (qR _ _ ((gn _ _).app hit)).parts _ _
  unfold ta
  rw [hn, if_neg (by simp), if_pos (show pz (mtM t id) = mq from (by decide : oA mq = mq))]
  unfold kH
  rw [hp, nt (iN _ _ (by decide))]
  simp only
  unfold topP entL
  rw [qQ hc, hc, nt (hL _ (by decide)), vq (iL _ (by decide)), xP (show isN lB (plI id) = true from iN [] _ (by decide)), List.filter_nil]
  show (((valP (gx dt t)), [cutE (ri (plI id))]), (0 : Int)) = _
  rw [plI_rss hi, xS (by simp), mE, ht.trim]
theorem mlen {a : ByteArray} (h : a.size ≤ maxLen) : a.data.toList.length ≤ 9223372036854775807 := by
  have e : maxLen = 9223372036854775807 := by decide
  have e2 : a.data.toList.length = a.size := by rw [Array.length_toList]; rfl
  omega
theorem wordB (s : Bs) (hs : s.length ≤ 9223372036854775807) : ∀ (n i : Nat), s.length - i < n → i ≤ s.length → ∃ b, ib s n (i : Int) = some b ∧ (b = true → s.length ≤ 40 ∧ ∀ c ∈ s.drop i, 97 ≤ c.toNat ∧ c.toNat ≤ 122)
  | 0, i, h, _ => by omega
  | n + 1, i, hn, hi => by
    show ∃ b, ic s (ib s n) (i : Int) = some b ∧ _
    unfold ic
    by_cases h : i < s.length
    · have hd : s.drop i = s[i] :: s.drop (i + 1) := aZ h
      rw [bT (by omega), cQ (by omega), bi, nn (fun _ => by omega), bi, fN h, hd]
      cases hc : (decide ((s[i].toNat : Int) < 97)) || (decide (122 < (s[i].toNat : Int))) with
      | true => exact ⟨false, rfl, fun z => by cases z⟩
      | false =>
        rw [Bool.or_eq_false_iff] at hc
        have c1 := of_decide_eq_false hc.1
        have c2 := of_decide_eq_false hc.2
        rw [cond_false, bR (by omega), cq]
        obtain ⟨b, e, hb⟩ := wordB s hs n (i + 1) (by omega) (by omega);refine ⟨b, e, fun z => ⟨(hb z).1, fun c hc => ?_⟩⟩
        rcases List.mem_cons.1 hc with rfl | hc
        · omega
        · exact (hb z).2 c hc
    · rw [bF (by omega)]
      exact ⟨_, rfl, fun z => ⟨by have := of_decide_eq_true z; omega, fun c hc => by rw [bc (show s.length ≤ i by omega)] at hc; cases hc⟩⟩
section
variable {F : Nat} (hF : 1500000 < F)
include hF
theorem awakeF : kc F = some true := by
  have hd : ([60, 114, 115, 115, 62, 60, 99, 104, 97, 110, 110, 101, 108, 62, 60, 116] ++ [105, 116, 108, 101, 62, 84, 60, 47, 116, 105, 116, 108, 101, 62, 60, 105] ++ [116, 101, 109, 62, 60, 103, 117, 105, 100, 62, 49, 60, 47, 103, 117, 105] ++ [100, 62, 60, 47, 105, 116, 101, 109, 62, 60, 47, 99, 104, 97, 110, 110] ++ [101, 108, 62, 60, 47, 114, 115, 115, 62] : List UInt8) = plT [84] [49] := by decide
  have s1 : Self [84] := ⟨fun c hc => by have : c = 84 := by simpa using hc
                                         subst this; decide, by decide⟩
  have s2 : Self [49] := ⟨fun c hc => by have : c = 49 := by simpa using hc
                                         subst this; decide, by decide⟩
  have sm : Sm [(2, ([] : Bs), ([32, 97, 32] : Bs), ([] : List At))] := ⟨by simp, by simp [tx, da], by simp, by simp⟩
  have e1 : dR F (plT [84] [49]) = some ([84], [([49], [], [], [], 0)], 0) := by
    rw [va hF (by decide), rd_of hF (rd_plT s1.easy s2.easy), ext_plT _ s1 s2]
    rfl
  have e2 : fT F [(2, ([] : Bs), ([32, 97, 32] : Bs), ([] : List At))] = some [97] := by
    rw [rY hF sm]
    rfl
  unfold kc
  rw [hd, e1, oe, yb hF _ _ (by simp), aR, e2, dv]
  rfl
theorem rX {s : Bs} (hs : s.length ≤ 9223372036854775807) (hsF : s.length < F) : ∃ b, jH F s = some b ∧ (b = true → s.length ≤ 40 ∧ Word s) := by
  obtain ⟨b, e, h⟩ := wordB s hs F 0 (by omega) (by omega);exact ⟨b, e, h⟩
end
end Go.Fd
namespace Go.Fd
open Go.Pv Go.Av
open Go.Xm
theorem ye (a3 : Bs) : lfeedothers_k1 ++ a3 ++ lfeedothers_k2 = plnB a3 := by
  unfold plnB elB op cl lfeedothers_k1 lfeedothers_k2
  simp
theorem yr (a1 a2 a3 : Bs) : lfeedothers_k3 ++ a1 ++ [62] ++ a2 ++ [60, 47] ++ a1 ++ lfeedothers_k4 ++ a3 ++ lfeedothers_k5 = morB a1 a2 a3 := by
  unfold morB elB op cl lfeedothers_k3 lfeedothers_k4 lfeedothers_k5
  simp
theorem xk (F : Nat) (a3 one two : Bs) (h1 : dR F one = some ([70], [(a3, [], [], [], 0)], 0)) (h2 : dR F two = some ([70], [(a3, [], [], [], 0)], 0))
    (hs : gJ F [70] [(a3, [], [], [], 0)] [70] [(a3, [], [], [], 0)] = some true) (c1 : one.length ≤ 1000) (c2 : two.length ≤ 1000) :
    (grd (dU one.length) <| bnd3 (dR F one) fun x52 x53 x54 => grd (dU two.length) <| bnd3 (dR F two) fun x59 x60 x61 =>
      bnd (gJ F x52 x53 x59 x60) fun x64 => some (((decide (x54 = 0)) && (decide (x61 = 0))) && x64)) = some true := by
  rw [dI (by omega), h1, oe, dI (by omega), h2, oe, hs, aR, decide_eq_true rfl]
  rfl
theorem FeedOthers_t (F : Nat) (hF : 1500000 < F) (a1 a2 a3 : Bs) (m1 : a1.length ≤ 9223372036854775807) (m2 : a2.length ≤ 9223372036854775807) (m3 : a3.length ≤ 9223372036854775807)
    (f1 : a1.length < F) (f2 : a2.length < F) (f3 : a3.length < F) : gM F a1 a2 a3 = some true := by
  obtain ⟨b1, e1, h1⟩ := rX hF m1 f1;obtain ⟨b2, e2, h2⟩ := rX hF m2 f2;obtain ⟨b3, e3, h3⟩ := rX hF m3 f3
  unfold gM
  rw [awakeF hF, aR, e1, aR, e2, aR, e3, aR]
  cases b1 with
  | false => rfl
  | true =>
  cases b2 with
  | false => rfl
  | true =>
  cases b3 with
  | false => rfl
  | true =>
  by_cases z0 : a1 = []
  · subst z0; rfl
  by_cases z1 : a1 = lB
  · subst z1; rfl
  by_cases z2 : a1 = dt
  · subst z2; rfl
  obtain ⟨l1, w1⟩ := h1 rfl;obtain ⟨l2, w2⟩ := h2 rfl;obtain ⟨l3, w3⟩ := h3 rfl
  have n1 : lfeedothers_k1.length = 42 := rfl
  have n2 : lfeedothers_k2.length = 30 := rfl
  have n3 : lfeedothers_k3.length = 18 := rfl
  have n4 : lfeedothers_k4.length = 49 := rfl
  have n5 : lfeedothers_k5.length = 37 := rfl
  have c1 : (plnB a3).length ≤ 1000 := by
    rw [← ye]; simp only [List.length_append, n1, n2]; omega
  have c2 : (morB a1 a2 a3).length ≤ 1000 := by
    rw [← yr]; simp only [List.length_append, n3, n4, n5, List.length_cons, List.length_nil]; omega
  have r1 : dR F (plnB a3) = some ([70], [(a3, [], [], [], 0)], 0) := by
    rw [va hF (by omega), rd_of hF (rd_pln w3), ext_pln w3]
    rfl
  have r2 : dR F (morB a1 a2 a3) = some ([70], [(a3, [], [], [], 0)], 0) := by
    rw [va hF (by omega), rd_of hF (rd_mor w3 w1 z0 l1 w2), ext_mor w3 _ w1 z0 l1 z1 z2 w2]
    rfl
  have hs := yb hF [70] [(a3, [], [], [], 0)] (by simp)
  have g := xk F a3 _ _ r1 r2 hs c1 c2
  rw [← ye, ← yr] at g
  have gc : ∀ (x y : Bs) (k : Option Bool), x.length + y.length ≤ 1000 → grd (dU (x.length + y.length)) k = k := fun x y k h => dI (by omega)
  rw [decide_eq_false z0, decide_eq_false z1, decide_eq_false z2, Bool.not_true, Bool.or_self, Bool.or_self, Bool.or_self, Bool.or_self, Bool.or_self, Bool.or_self, cond_false]
  iterate 10 rw [gc _ _ _ (by simp only [List.length_append, n1, n2, n3, n4, n5, List.length_cons, List.length_nil]; omega), bi]
  exact g
end Go.Fd
