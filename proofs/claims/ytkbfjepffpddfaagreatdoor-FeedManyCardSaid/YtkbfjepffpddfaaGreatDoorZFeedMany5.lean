/-
  Texts in one (only what FeedMany needs): XmA, RefEP, PnTrim, FdA, XmN, FdB, PnPlainE, PnLoose, PnNum, PnSign, PnGone, PnLooseEq, PnLooseB, PnApp, XmP, XmQ, XmS, XmT, FdK, FdN, FdC, FdO, FdF, FdQ, FdU, FdR, FdS, XmW, XmR, FdD, FdV, XmO, FdE, FdG, FdH, FdI, FdY, FdJ, FdMa.
-/
import Derived.Test.YtkbfjepffpddfaaGreatDoorZFeedMany4
import Derived.Lib.IndexMore
import Derived.Laws.RangeAny
set_option linter.unusedVariables false
set_option linter.unusedSimpArgs false
set_option linter.unusedSectionVars false
namespace Go.Xm
abbrev Bs := List UInt8
abbrev At := Bs × Bs
abbrev Tok := Int × Bs × Bs × List At
def letB (c : UInt8) : Bool := ((decide (65 ≤ c.toNat) && decide (c.toNat ≤ 90)) || (decide (97 ≤ c.toNat) && decide (c.toNat ≤ 122))) || decide (c = 95)
def lq (c : UInt8) : Bool := letB c || ((((decide (48 ≤ c.toNat) && decide (c.toNat ≤ 57)) || decide (c = 45)) || decide (c = 46)) || decide (c = 58))
def gt (c : UInt8) : Bool := decide (c = 9) || decide (c = 10) || decide (c = 13) || decide (c = 32)
def gL (s : Bs) : Bool := (match s with | [] => false | c :: _ => letB c) && (s.all lq && decide (s.length ≤ 60))
def gP (s : Bs) : Option (Bs × Bs) := if gL (s.takeWhile lq) = true then some (s.takeWhile lq, s.dropWhile lq) else none
def lM (p : Bs) : Bs → Option (Bs × Bs)
  | [] => if p = [] then some ([], []) else none
  | c :: r => if p.isPrefixOf (c :: r) = true then some ([], (c :: r).drop p.length) else match lM p r with | none => none | some (a, b) => some (c :: a, b)
section
variable (dec : Bs → Option Bs)
def qN (n : Bs) (q : UInt8) (s : Bs) : Option (At × Bs) := match lM [q] s with
  | none => none
  | some (raw, r) => if 60 ∈ raw then none else match dec raw with | none => none | some t => some ((n, t), r)
def nd (s : Bs) : Option (At × Bs) := match gP s with
  | none => none
  | some (n, r) => if ([61, 34] : Bs).isPrefixOf r = true then qN dec n 34 (r.drop 2) else if ([61, 39] : Bs).isPrefixOf r = true then qN dec n 39 (r.drop 2) else none
def gN : Nat → List At → Bs → Option (List At × Bool × Bs)
  | 0, _, _ => none
  | k + 1, as_, s =>
    if ([62] : Bs).isPrefixOf (s.dropWhile gt) = true then some (as_, false, (s.dropWhile gt).drop 1)
    else if ([47, 62] : Bs).isPrefixOf (s.dropWhile gt) = true then some (as_, true, (s.dropWhile gt).drop 2)
    else if (s.dropWhile gt).length = s.length then none
    else match nd dec (s.dropWhile gt) with
      | none => none
      | some (a, r) => if as_.any (fun x => decide (x.1 = a.1)) = true then none else gN k (as_ ++ [a]) r
abbrev Sx := Bs × List Bs × Nat × List Tok
inductive Rx
  | ok (x : Sx)
  | no (e : Int)
def lC (t : Bs) (l : List Tok) : List Tok := if t = [] then l else l ++ [(2, [], t, [])]
def lD (n s : Bs) (open_ : List Bs) (k : Nat) (l : List Tok) : Rx := if open_.getLast? = some n then .ok (s, open_.dropLast, k, l ++ [(1, n, [], [])]) else .no 2
def ka (s : Bs) (o : List Bs) (k : Nat) (l : List Tok) : Rx :=
  match dec (s.takeWhile fun c => decide (c ≠ 60)) with
  | none => .no 2
  | some t => if o = [] then (if (s.takeWhile fun c => decide (c ≠ 60)).all gt = true then .ok (s.dropWhile (fun c => decide (c ≠ 60)), o, k, l) else .no 2)
      else .ok (s.dropWhile (fun c => decide (c ≠ 60)), o, k, lC t l)
def jr (p s : Bs) (o : List Bs) (k : Nat) (l : List Tok) : Rx := match lM p s with | none => .no 2 | some (_, r) => .ok (r, o, k, l)
def oe (s : Bs) (o : List Bs) (k : Nat) (l : List Tok) : Rx := match lM [93, 93, 62] s with | none => .no 2 | some (t, r) => if o = [] then .no 2 else .ok (r, o, k, lC t l)
def qR (s : Bs) (o : List Bs) (k : Nat) (l : List Tok) : Rx := match gP s with
  | none => .no 2
  | some (n, r) => if ([62] : Bs).isPrefixOf (r.dropWhile gt) = true then lD n ((r.dropWhile gt).drop 1) o k l else .no 2
def na (n : Bs) (as_ : List At) (empty : Bool) (r : Bs) (o : List Bs) (k : Nat) (l : List Tok) : Rx :=
  if o = [] ∧ k ≠ 0 then .no 2 else if 20 ≤ o.length then .no 5
  else if empty = true then .ok (r, o, (if o = [] then k + 1 else k), (l ++ [(0, n, [], as_)]) ++ [(1, n, [], [])]) else .ok (r, o ++ [n], (if o = [] then k + 1 else k), l ++ [(0, n, [], as_)])
def mN (s : Bs) (o : List Bs) (k : Nat) (l : List Tok) : Rx := match gP s with
  | none => .no 2
  | some (n, r) => match gN dec (r.length + 1) [] r with
    | none => .no 2
    | some (as_, empty, r') => na n as_ empty r' o k l
def eS (s : Bs) (o : List Bs) (k : Nat) (l : List Tok) : Rx :=
  if ([60] : Bs).isPrefixOf s = false then ka dec s o k l
  else if ([60, 33, 45, 45] : Bs).isPrefixOf s = true then jr [45, 45, 62] (s.drop 4) o k l
  else if ([60, 63] : Bs).isPrefixOf s = true then jr [63, 62] (s.drop 2) o k l
  else if ([60, 33, 91, 67, 68, 65, 84, 65, 91] : Bs).isPrefixOf s = true then oe (s.drop 9) o k l
  else if ([60, 33] : Bs).isPrefixOf s = true then jr [62] (s.drop 2) o k l
  else if ([60, 47] : Bs).isPrefixOf s = true then qR (s.drop 2) o k l
  else mN dec (s.drop 1) o k l
def jP : Nat → Sx → Rx
  | 0, x => .no 2
  | n + 1, (s, o, k, l) => if s = [] then .ok (s, o, k, l) else match eS dec s o k l with
    | .ok y => jP n y
    | .no e => .no e
def mY (s : Bs) : List Tok × Int := match jP dec (s.length + 1) (s, [], 0, []) with
  | .ok (_, o, k, l) => if o = [] ∧ 0 < k then (l, 0) else ([], 2)
  | .no e => ([], e)
end
theorem mr {p : Bs} (hp : p ≠ []) : ∀ {s a b : Bs}, lM p s = some (a, b) → s = a ++ p ++ b
  | [], a, b, h => by
    unfold lM at h
    rw [if_neg hp] at h; cases h
  | c :: r, a, b, h => by
    unfold lM at h
    by_cases g : p.isPrefixOf (c :: r) = true
    · rw [if_pos g] at h
      cases h
      obtain ⟨t, ht⟩ := List.isPrefixOf_iff_prefix.1 g
      rw [← ht, List.drop_left' rfl]; rfl
    · rw [if_neg g] at h
      cases e : lM p r with
      | none => rw [e] at h; cases h
      | some x =>
        obtain ⟨a', b'⟩ := x
        rw [e] at h
        cases h
        rw [mr hp e]
        simp
theorem rI {p s : Bs} (h : p.isPrefixOf s = true) : s = p ++ s.drop p.length := by
  obtain ⟨t, ht⟩ := List.isPrefixOf_iff_prefix.1 h
  rw [← ht, List.drop_left' rfl]
theorem sb (f : UInt8 → Bool) (s : Bs) : (s.dropWhile f).length ≤ s.length := by
  induction s with
  | nil => simp
  | cons c r ih => rw [List.dropWhile_cons]; split <;> simp at * <;> omega
theorem iG {s n r : Bs} (h : gP s = some (n, r)) : s = n ++ r ∧ gL n = true := by
  unfold gP at h
  split at h
  · rename_i g
    cases h
    exact ⟨(List.takeWhile_append_dropWhile).symm, g⟩
  · cases h
theorem vZ {n : Bs} (h : gL n = true) : 0 < n.length := by
  cases n with
  | nil => cases h
  | cons c r => simp
section
variable {dec : Bs → Option Bs}
theorem ub {n s : Bs} {q : UInt8} {a : At} {r : Bs} (h : qN dec n q s = some (a, r)) : r.length < s.length := by
  unfold qN at h
  cases e : lM [q] s with
  | none => rw [e] at h; cases h
  | some x =>
    obtain ⟨raw, r'⟩ := x
    rw [e] at h
    simp only at h
    split at h
    · cases h
    · split at h
      · cases h
      · cases h
        have := mr (by simp) e
        rw [this]; simp; omega
theorem nP {s : Bs} {a : At} {r : Bs} (h : nd dec s = some (a, r)) : r.length < s.length := by
  unfold nd at h
  cases e : gP s with
  | none => rw [e] at h; cases h
  | some x =>
    obtain ⟨n, r'⟩ := x
    rw [e] at h
    obtain ⟨rfl, hn⟩ := iG e
    have hp := vZ hn
    simp only at h
    split at h
    · have := ub h
      rw [List.length_drop] at this; rw [List.length_append]; omega
    · split at h
      · have := ub h
        rw [List.length_drop] at this; rw [List.length_append]; omega
      · cases h
theorem oJ : ∀ {k : Nat} {as_ : List At} {s : Bs} {bs : List At} {e : Bool} {r : Bs}, gN dec k as_ s = some (bs, e, r) → r.length < s.length
  | 0, _, _, _, _, _, h => by cases h
  | k + 1, as_, s, bs, e, r, h => by
    have hd := sb gt s
    unfold gN at h
    split at h
    · rename_i g
      cases h
      have := congrArg List.length (rI g)
      rw [List.length_append] at this
      simp at this ⊢
      omega
    · split at h
      · rename_i g
        cases h
        have := congrArg List.length (rI g)
        rw [List.length_append] at this
        simp at this ⊢
        omega
      · split at h
        · cases h
        · cases ea : nd dec (s.dropWhile gt) with
          | none => rw [ea] at h; cases h
          | some x =>
            obtain ⟨a, r'⟩ := x
            rw [ea] at h
            simp only at h
            have h1 := nP ea
            split at h
            · cases h
            · have := oJ h
              omega
theorem qw : ∀ {k m : Nat} {as_ : List At} {s : Bs}, s.length < k → s.length < m → gN dec k as_ s = gN dec m as_ s
  | 0, _, _, _, h, _ => by omega
  | _, 0, _, _, _, h => by omega
  | k + 1, m + 1, as_, s, hk, hm => by
    have hd := sb gt s
    unfold gN
    split
    · rfl
    · split
      · rfl
      · split
        · rfl
        · rename_i g
          cases ea : nd dec (s.dropWhile gt) with
          | none => rfl
          | some x =>
            obtain ⟨a, r'⟩ := x
            have h1 := nP ea
            simp only
            split
            · rfl
            · exact qw (by omega) (by omega)
theorem ip {p s : Bs} (hp : p ≠ []) {o : List Bs} {k : Nat} {l : List Tok} {x : Sx} (h : jr p s o k l = .ok x) : x.1.length ≤ s.length ∧ x.2 = (o, k, l) := by
  unfold jr at h
  cases e : lM p s with
  | none => rw [e] at h; cases h
  | some y =>
    obtain ⟨a, b⟩ := y
    rw [e] at h
    cases h
    have := congrArg List.length (mr hp e)
    simp at this ⊢
    omega
theorem li {s : Bs} {o : List Bs} {k : Nat} {l : List Tok} {x : Sx} (hs : s ≠ []) (h : eS dec s o k l = .ok x) : x.1.length < s.length := by
  have hpos := List.length_pos_iff.2 hs
  have pl : ∀ p : Bs, p.isPrefixOf s = true → p.length ≤ s.length := fun p g => by
    have := congrArg List.length (rI g)
    rw [List.length_append] at this
    omega
  unfold eS at h
  split at h
  · rename_i g
    have hc : ∃ c r, s = c :: r ∧ c ≠ 60 := by
      cases s with
      | nil => exact absurd rfl hs
      | cons c r =>
        refine ⟨c, r, rfl, fun e => ?_⟩
        rw [e] at g
        simp at g
    obtain ⟨c, r, rfl, hc⟩ := hc
    have hd : ((c :: r).dropWhile fun c => decide (c ≠ 60)).length < (c :: r).length := by
      rw [List.dropWhile_cons, if_pos (by simpa using hc)]
      have := sb (fun c => decide (c ≠ 60)) r
      rw [List.length_cons]; omega
    unfold ka at h
    split at h
    · cases h
    · split at h
      · split at h
        · cases h; exact hd
        · cases h
      · cases h; exact hd
  split at h
  · rename_i g
    have := (ip (by simp) h).1
    have := pl _ g
    rw [List.length_drop] at *
    simp at *; omega
  split at h
  · rename_i g
    have := (ip (by simp) h).1
    have := pl _ g
    rw [List.length_drop] at *
    simp at *; omega
  split at h
  · rename_i g
    have h9 := pl _ g
    unfold oe at h
    cases e : lM [93, 93, 62] (s.drop 9) with
    | none => rw [e] at h; cases h
    | some y =>
      obtain ⟨a, b⟩ := y
      rw [e] at h
      simp only at h
      have := congrArg List.length (mr (by simp) e)
      simp at this h9
      split at h
      · cases h
      · cases h
        simp only
        omega
  split at h
  · rename_i g
    have := (ip (by simp) h).1
    have := pl _ g
    rw [List.length_drop] at *
    simp at *; omega
  split at h
  · rename_i g
    have h2 := pl _ g
    unfold qR at h
    cases e : gP (s.drop 2) with
    | none => rw [e] at h; cases h
    | some y =>
      obtain ⟨n, r⟩ := y
      rw [e] at h
      simp only at h
      have := congrArg List.length (iG e).1
      have hd := sb gt r
      simp at this h2
      split at h
      · unfold lD at h
        split at h
        · cases h
          simp only [List.length_drop]
          omega
        · cases h
      · cases h
  · unfold mN at h
    cases e : gP (s.drop 1) with
    | none => rw [e] at h; cases h
    | some y =>
      obtain ⟨n, r⟩ := y
      rw [e] at h
      simp only at h
      have := congrArg List.length (iG e).1
      simp at this
      cases ea : gN dec (r.length + 1) [] r with
      | none => rw [ea] at h; cases h
      | some z =>
        obtain ⟨as_, em, r'⟩ := z
        rw [ea] at h
        simp only at h
        have hl := oJ ea
        unfold na at h
        split at h
        · cases h
        · split at h
          · cases h
          · split at h <;> (cases h; simp only; omega)
theorem vO : ∀ {n m : Nat} {x : Sx}, x.1.length < n → x.1.length < m → jP dec n x = jP dec m x
  | 0, _, _, h, _ => by omega
  | _, 0, _, _, h => by omega
  | n + 1, m + 1, (s, o, k, l), hn, hm => by
    unfold jP
    split
    · rfl
    · rename_i g
      cases e : eS dec s o k l with
      | no e => rfl
      | ok y =>
        have := li g e
        simp only at hn hm ⊢
        exact vO (by omega) (by omega)
end
end Go.Xm
namespace Go.Pv
def fN (F : Nat) (a1 : Int) : Option ((List UInt8) × Bool) :=
bif ((!((((decide (a1 = 9)) || (decide (a1 = 10))) || (decide (a1 = 13))) || ((decide (32 ≤ a1)) && (decide (a1 ≤ 55295))))) && (!((decide (57344 ≤ a1)) && (decide (a1 ≤ 65533))))) && (!((decide (65536 ≤ a1)) && (decide (a1 ≤ 1114111)))) then
  some (([] : List UInt8), false)
else
  bif decide (a1 < 128) then
    some (([Go.Av.toB a1] : List UInt8), true)
  else
    bif decide (a1 < 2048) then
      grd (dS a1 64) <|
      grd (okI (192 + (a1 / 64))) <|
      grd (dS a1 64) <|
      grd (okI (128 + (a1 % 64))) <|
      some (([Go.Av.toB (192 + (a1 / 64)), Go.Av.toB (128 + (a1 % 64))] : List UInt8), true)
    else
      bif decide (a1 < 65536) then
        grd (dS a1 4096) <|
        grd (okI (224 + (a1 / 4096))) <|
        grd (dS a1 64) <|
        grd (dS (a1 / 64) 64) <|
        grd (okI (128 + ((a1 / 64) % 64))) <|
        grd (dS a1 64) <|
        grd (okI (128 + (a1 % 64))) <|
        some (([Go.Av.toB (224 + (a1 / 4096)), Go.Av.toB (128 + ((a1 / 64) % 64)), Go.Av.toB (128 + (a1 % 64))] : List UInt8), true)
      else
        grd (dS a1 262144) <|
        grd (okI (240 + (a1 / 262144))) <|
        grd (dS a1 4096) <|
        grd (dS (a1 / 4096) 64) <|
        grd (okI (128 + ((a1 / 4096) % 64))) <|
        grd (dS a1 64) <|
        grd (dS (a1 / 64) 64) <|
        grd (okI (128 + ((a1 / 64) % 64))) <|
        grd (dS a1 64) <|
        grd (okI (128 + (a1 % 64))) <|
        some (([Go.Av.toB (240 + (a1 / 262144)), Go.Av.toB (128 + ((a1 / 4096) % 64)), Go.Av.toB (128 + ((a1 / 64) % 64)), Go.Av.toB (128 + (a1 % 64))] : List UInt8), true)
def ly (F : Nat) (a1 : UInt8) : Option Int :=
bif (decide (48 ≤ (a1.toNat : Int))) && (decide ((a1.toNat : Int) ≤ 57)) then
  some ((a1 - 48).toNat : Int)
else
  bif (decide (97 ≤ (a1.toNat : Int))) && (decide ((a1.toNat : Int) ≤ 102)) then
    grd (okI (((a1 - 97).toNat : Int) + 10)) <|
    some (((a1 - 97).toNat : Int) + 10)
  else
    bif (decide (65 ≤ (a1.toNat : Int))) && (decide ((a1.toNat : Int) ≤ 70)) then
      grd (okI (((a1 - 65).toNat : Int) + 10)) <|
      some (((a1 - 65).toNat : Int) + 10)
    else
      some 99
def mI (a1 : List UInt8) (y21 : Int) : Option Int :=
bif decide ((a1.length : Int) = 0) then
  some (-1)
else
  some y21
def kj (y5 : Int) (rec6 : (Int × Int) → Option Int) (y18 : Int) : Option Int :=
grd (okI (y5 + 1)) <|
rec6 (y18, y5 + 1)
def kn (F : Nat) (a1 : List UInt8) (a2 : Int) (rec6 : (Int × Int) → Option Int) (y4 : Int) (y5 : Int) : Option Int :=
bif decide (y5 < (a1.length : Int)) then
  grd (dx y5 a1.length) <|
  lt (at_ a1 y5) fun x10 =>
  bnd (ly F x10) fun x12 =>
  bif decide (a2 ≤ x12) then
    some (-1)
  else
    grd (okI (a2 * y4)) <|
    grd (okI ((a2 * y4) + x12)) <|
    bif decide (1114111 < (a2 * y4) + x12) then
      kj y5 rec6 1114112
    else
      kj y5 rec6 ((a2 * y4) + x12)
else
  mI a1 y4
def km (F : Nat) (a1 : List UInt8) (a2 : Int) (n : Nat) : (Int × Int) → Option Int :=
  loop (fun rec x => kn F a1 a2 rec x.1 x.2) n
def gH (F : Nat) (a1 : List UInt8) (a2 : Int) : Option Int :=
km F a1 a2 F (0, 0)
def lI (F : Nat) (y28 : Int) : Option ((List UInt8) × Bool) :=
fw (fN F y28) fun x30 x31 =>
some (x30, x31)
def kY (F : Nat) (a1 : List UInt8) : Option ((List UInt8) × Bool) :=
bif decide (a1 = ([97, 109, 112] : List UInt8)) then
  some (([38] : List UInt8), true)
else
  bif decide (a1 = ([108, 116] : List UInt8)) then
    some (([60] : List UInt8), true)
  else
    bif decide (a1 = ([103, 116] : List UInt8)) then
      some (([62] : List UInt8), true)
    else
      bif decide (a1 = ([113, 117, 111, 116] : List UInt8)) then
        some (([34] : List UInt8), true)
      else
        bif decide (a1 = ([97, 112, 111, 115] : List UInt8)) then
          some (([39] : List UInt8), true)
        else
          fv (!(decide ((a1.length : Int) < 2))) (dx 0 a1.length) <|
          lt (at_ a1 0) fun x11 =>
          bif (decide ((a1.length : Int) < 2)) || (!decide (x11 = 35)) then
            some (([] : List UInt8), false)
          else
            grd (ky 1 a1.length) <|
            lt (cY a1 1) fun x15 =>
            bnd (gH F x15 10) fun x17 =>
            grd (dx 1 a1.length) <|
            lt (at_ a1 1) fun x20 =>
            bif decide (x20 = 120) then
              grd (ky 2 a1.length) <|
              lt (cY a1 2) fun x24 =>
              bnd (gH F x24 16) fun x26 =>
              lI F x26
            else
              lI F x17
end Go.Pv
namespace Go.Pn
open Go.Pv Go.Av
abbrev Bs := List UInt8
def bl (c : UInt8) : Bool := (((decide (c = 9)) || (decide (c = 10))) || (decide (c = 13))) || (decide (c = 32))
mutual
/-- Behind a sign. -/
def T1 : Bs → Bs
  | [] => []
  | c :: r => bif bl c then T2 r else c :: T1 r
/-- In a gap behind a sign. -/
def T2 : Bs → Bs
  | [] => []
  | c :: r => bif bl c then T2 r else 32 :: c :: T1 r
end
def trim : Bs → Bs
  | [] => []
  | c :: r => bif bl c then trim r else c :: T1 r
def tl (out : Bs) (gap : Bool) (r : Bs) : Bs := if out = [] then trim r else bif gap then T2 r else T1 r
def wgo (cur : Bs) : Bs → List Bs
  | [] => if cur = [] then [] else [cur]
  | c :: r => bif bl c then (if cur = [] then wgo [] r else cur :: wgo [] r) else wgo (cur ++ [c]) r
theorem rest_wgo (s : Bs) : (∀ cur : Bs, cur ≠ [] → Str.join [32] (wgo cur s) = cur ++ T1 s) ∧ Str.join [32] (wgo [] s) = trim s ∧ Str.rest [32] (wgo [] s) = T2 s := by
  induction s with
  | nil => exact ⟨fun cur h => by simp [wgo, h, Str.join, Str.rest, T1], by simp [wgo, Str.join, trim], by simp [wgo, Str.rest, T2]⟩
  | cons c r ih =>
    obtain ⟨h1, h2, h3⟩ := ih
    cases hb : bl c with
    | true =>
      refine ⟨fun cur h => ?_, ?_, ?_⟩
      · simp [wgo, hb, h, Str.join, T1, h3]
      · simp [wgo, hb, trim, h2]
      · simp [wgo, hb, T2, h3]
    | false =>
      have h4 := h1 [c] (by simp)
      refine ⟨fun cur h => ?_, ?_, ?_⟩
      · simp only [wgo, hb, cond_false, T1]
        rw [h1 _ (by simp)]; simp
      · simp only [wgo, hb, cond_false, trim, List.nil_append]
        rw [h4]; rfl
      · simp only [wgo, hb, cond_false, T2, List.nil_append]
        have : Str.rest [32] (wgo [c] r) = 32 :: Str.join [32] (wgo [c] r) := by
          cases hw : wgo [c] r with
          | nil => rw [hw] at h4; simp [Str.join] at h4
          | cons w ws => simp [Str.rest, Str.join]
        rw [this, h4]; rfl
theorem join_wgo (s : Bs) : Str.join [32] (wgo [] s) = trim s := (rest_wgo s).2.1
theorem ya (s : Bs) : ∀ cur : Bs, Str.total (wgo cur s) + (wgo cur s).length ≤ cur.length + s.length + 1 := by
  induction s with
  | nil => intro cur; by_cases h : cur = [] <;> simp [wgo, h, Str.total]
  | cons c r ih =>
    intro cur
    cases hb : bl c with
    | true =>
      have := ih []
      by_cases h : cur = []
      · simp [wgo, hb, h] at this ⊢; omega
      · simp [wgo, hb, h, Str.total] at this ⊢; omega
    | false =>
      have := ih (cur ++ [c])
      simp [wgo, hb] at this ⊢; omega
theorem pj (F : Nat) (c : UInt8) : ml F c = some (bl c) := by
  have : ∀ n : Nat, n < 256 → decide (0 ≤ Go.Lib.indexByte ([9, 10, 13, 32] : List UInt8) (UInt8.ofNat n)) = bl (UInt8.ofNat n) := by decide +kernel
  have h := this c.toNat c.toNat_lt
  rw [UInt8.ofNat_toNat] at h
  unfold ml
  simp only [bg]
  rw [h]
theorem ent_end (F : Nat) (s : Bs) (hs : s.length ≤ 1000000) (n : Nat) (l : List Bs) (hl : l.length + Str.total l ≤ 100000000) (hn1 : n ≥ 1) : ed F s n (l, (-1), ((s.length + 1 : Nat) : Int)) = some (Str.join [32] l) := by
  obtain ⟨m, rfl⟩ : ∃ m, n = m + 1 := ⟨n - 1, by omega⟩;show gA F s (ed F s m) l (-1) ((s.length + 1 : Nat) : Int) = _
  unfold gA jY
  have h1 : ¬ (((s.length + 1 : Nat) : Int) ≤ (s.length : Int)) := by omega
  rw [bF h1, grd_Join (by simp; omega), bg]
theorem ent_loop (F : Nat) (s : Bs) (hs : s.length ≤ 1000000) : ∀ (n : Nat) (l : List Bs) (fr : Int) (cur : Bs) (i : Nat), s.length + 1 - i < n → i ≤ s.length → l.length ≤ i →
    ((fr = -1 ∧ cur = []) ∨ ∃ f : Nat, fr = (f : Int) ∧ f < i ∧ cur = (s.take i).drop f) → (l ++ wgo cur (s.drop i)).length + Str.total (l ++ wgo cur (s.drop i)) ≤ 100000000 →
    ed F s n (l, fr, (i : Int)) = some (Str.join [32] (l ++ wgo cur (s.drop i))) := by
  intro n
  induction n with
  | zero => intro l fr cur i h; omega
  | succ n ih =>
    intro l fr cur i hn hi hl hf hJ;show gA F s (ed F s n) l fr (i : Int) = _
    unfold gA gz
    have hend : ∀ l : List Bs, l.length + Str.total l ≤ 100000000 → n ≥ 1 → ed F s n (l, (-1), ((s.length + 1 : Nat) : Int)) = some (Str.join [32] l) := ent_end F s hs n
    by_cases h : i < s.length
    · have hd : s.drop i = s[i] :: s.drop (i + 1) := bb h
      have hne : decide ((i : Int) = (s.length : Int)) = false := decide_eq_false (by omega)
      simp (disch := omega) only [bT, hne, Bool.not_false, kF, cS, bg, fJ h, pj, xt, aU, Bool.false_or]
      rw [hd] at hJ ⊢
      cases hb : bl s[i] with
      | true =>
        simp only [wgo, hb, cond_true] at hJ ⊢
        rcases hf with ⟨rfl, rfl⟩ | ⟨f, rfl, hfi, rfl⟩
        · simp only [if_true] at hJ ⊢
          simp (disch := omega) only [Bool.not_true, Bool.false_and, cond_false, Bool.true_and, bF, bM, co]
          exact ih l (-1) [] (i + 1) (by omega) (by omega) (by omega) (.inl ⟨rfl, rfl⟩) hJ
        · have hc : (s.take i).drop f ≠ [] := by
            intro h2; have := congrArg List.length h2; simp at this; omega
          simp only [hc, if_false] at hJ ⊢
          simp (disch := (first | omega | (simp; omega))) only [Bool.not_true, Bool.false_and, cond_false, Bool.true_and, bT, lU, cP, qT, bM, co]
          rw [ih (l ++ [(s.take i).drop f]) (-1) [] (i + 1) (by omega) (by omega) (by simp; omega) (.inl ⟨rfl, rfl⟩) (by simpa using hJ)]
          simp
      | false =>
        simp only [wgo, hb, cond_false] at hJ ⊢
        rcases hf with ⟨rfl, rfl⟩ | ⟨f, rfl, hfi, rfl⟩
        · simp (disch := omega) only [Bool.not_false, Bool.true_and, bT, bM, co]
          have hc : ([] : Bs) ++ [s[i]] = (s.take (i + 1)).drop i := by
            rw [List.take_succ_eq_append_getElem h, List.drop_append_of_le_length (by simp; omega), bf (by simp; omega)]
          rw [hc] at hJ ⊢
          exact ih l (i : Int) _ (i + 1) (by omega) (by omega) (by omega) (.inr ⟨i, rfl, by omega, rfl⟩) hJ
        · simp (disch := omega) only [Bool.not_false, Bool.true_and, bF, Bool.false_and, cond_false, bM, co]
          have hc : (s.take i).drop f ++ [s[i]] = (s.take (i + 1)).drop f := by
            rw [List.take_succ_eq_append_getElem h, List.drop_append_of_le_length (by simp; omega)]
          rw [hc] at hJ ⊢
          exact ih l (f : Int) _ (i + 1) (by omega) (by omega) (by omega) (.inr ⟨f, rfl, by omega, rfl⟩) hJ
    · have hi2 : i = s.length := by omega
      subst hi2
      have hyes : decide ((s.length : Int) = (s.length : Int)) = true := decide_eq_true rfl
      simp (disch := omega) only [bT, hyes, Bool.not_true, eA, bg, pj, lm, Bool.true_or, List.drop_length] at hJ ⊢
      rcases hf with ⟨rfl, rfl⟩ | ⟨f, rfl, hfi, rfl⟩
      · simp (disch := omega) only [Bool.false_and, cond_false, Bool.true_and, bF, bM, co]
        rw [hend l (by simpa [wgo] using hJ) (by omega)]
        simp [wgo, eA, lm]
      · have hc : (s.take s.length).drop f ≠ [] := by
          intro h2; have := congrArg List.length h2; simp at this; omega
        simp only [wgo, hc, if_false] at hJ ⊢
        simp (disch := (first | omega | (simp; omega))) only [Bool.false_and, cond_false, Bool.true_and, bT, lU, cP, qT, bM, co]
        exact hend _ hJ (by omega)
theorem ent_Trim_eq (F : Nat) (s : Bs) (hs : s.length ≤ 1000000) (hF : s.length + 1 < F) : mq F s = some (trim s) := by
  have h1 := ya s []
  have := ent_loop F s hs F [] (-1) [] 0 (by omega) (by omega) (by simp) (.inl ⟨rfl, rfl⟩) (by simp at h1 ⊢; omega)
  rw [← join_wgo]
  simpa [mq] using this
end Go.Pn
namespace Go.Fd
open Go.Xm (Bs At Tok)
abbrev El := List Tok
def rY (s : Bs) : Bs := (s.reverse.takeWhile fun c => decide (c ≠ 58)).reverse
def pL (x : El) : Bs := match x with | [] => [] | t :: _ => rY t.2.1
def bS : Int → El → El → List El
  | _, _, [] => []
  | d, cur, t :: r =>
    if t.1 = 0 then (if d + 1 = 2 then bS (d + 1) [t] r else bS (d + 1) (cur ++ [t]) r)
    else if t.1 = 1 then (if d - 1 = 1 then (cur ++ [t]) :: bS (d - 1) (cur ++ [t]) r else bS (d - 1) (cur ++ [t]) r)
    else bS d (cur ++ [t]) r
def gh (x : El) : List El := bS 0 [] x
def df (x : El) : Bs := (x.map fun t => if t.1 = 2 then t.2.2.1 else []).flatten
def valP (x : El) : Bs := Go.Pn.trim (df x)
def valO : Option El → Bs
  | none => []
  | some x => valP x
theorem jy : ∀ (r : El) (d : Int) (cur : El), ∀ y ∈ bS d cur r, y ≠ []
  | [], _, _, y, h => by cases h
  | t :: r, d, cur, y, h => by
    unfold bS at h
    split at h
    · split at h
      · exact jy r _ _ y h
      · exact jy r _ _ y h
    · split at h
      · split at h
        · rcases List.mem_cons.1 h with h | h
          · subst h; simp
          · exact jy r _ _ y h
        · exact jy r _ _ y h
      · exact jy r _ _ y h
theorem kW (a b : El) : df (a ++ b) = df a ++ df b := by
  unfold df; rw [List.map_append, List.flatten_append]
theorem iI (t : Tok) (b : El) : df (t :: b) = (if t.1 = 2 then t.2.2.1 else []) ++ df b := by
  unfold df; rw [List.map_cons, List.flatten_cons]
theorem nr : ∀ (r : El) (d : Int) (cur : El), ∀ y ∈ bS d cur r, (df y).length ≤ (df (cur ++ r)).length ∧ y.length ≤ (cur ++ r).length ∧ ∀ t ∈ y, t ∈ cur ++ r
  | [], _, _, y, h => by cases h
  | t :: r, d, cur, y, h => by
    have e : cur ++ t :: r = (cur ++ [t]) ++ r := by simp
    have keep : ∀ d', y ∈ bS d' (cur ++ [t]) r → (df y).length ≤ (df (cur ++ t :: r)).length ∧ y.length ≤ (cur ++ t :: r).length ∧ ∀ u ∈ y, u ∈ cur ++ t :: r := fun d' h => by
      rw [e]; exact nr r d' (cur ++ [t]) y h
    unfold bS at h
    split at h
    · split at h
      · obtain ⟨h1, h2, h3⟩ := nr r _ [t] y h
        refine ⟨?_, ?_, fun u hu => ?_⟩
        · rw [kW, List.length_append]
          rw [List.singleton_append] at h1
          omega
        · rw [List.length_append] at h2 ⊢; simp at h2 ⊢; omega
        · have := h3 u hu
          rw [List.singleton_append] at this
          exact List.mem_append_right _ this
      · exact keep _ h
    · split at h
      · split at h
        · rcases List.mem_cons.1 h with h | h
          · subst h
            refine ⟨?_, ?_, fun u hu => ?_⟩
            · rw [e, kW (cur ++ [t]) r, List.length_append]; omega
            · rw [e]; simp only [List.length_append]; omega
            · rw [e]; exact List.mem_append_left _ hu
          · exact keep _ h
        · exact keep _ h
      · exact keep _ h
theorem te {x y : El} (h : y ∈ gh x) : (df y).length ≤ (df x).length ∧ y.length ≤ x.length ∧ ∀ t ∈ y, t ∈ x := by
  have := nr x 0 [] y h
  rwa [List.nil_append] at this
end Go.Fd
namespace Go.Xm
def rpS (f : Bool) (o : List Bs) (t : Tok) : Option (List Bs) :=
  if f = false ∧ o = [] then none
  else if t.1 = 0 then (if o.length < 20 then some (o ++ [t.2.1]) else none)
  else if t.1 = 1 then (if o.getLast? = some t.2.1 then some o.dropLast else none)
  else if (t.1 = 2 ∧ t.2.2.1 ≠ []) ∧ o ≠ [] then some o else none
def rp : Bool → List Bs → List Tok → Option (List Bs)
  | _, o, [] => some o
  | f, o, t :: r => match rpS f o t with | none => none | some o' => rp false o' r
theorem xC (t : Tok) : ∀ (l : List Tok) (f : Bool) (o : List Bs), rp f o (l ++ [t]) = match rp f o l with | none => none | some o' => rpS (f && l.isEmpty) o' t
  | [], f, o => by
    show (match rpS f o t with | none => none | some o' => some o') = rpS (f && true) o t
    rw [Bool.and_true]
    cases rpS f o t <;> rfl
  | x :: l, f, o => by
    show (match rpS f o x with | none => none | some o' => rp false o' (l ++ [t])) = match (match rpS f o x with | none => none | some o' => rp false o' l) with | none => none | some o' => rpS (f && false) o' t
    cases rpS f o x with
    | none => rfl
    | some o' =>
      simp only
      rw [xC t l false o', Bool.and_false, Bool.false_and]
structure Nest (o : List Bs) (k : Nat) (l : List Tok) : Prop where
  rp : rp true [] l = some o
  few : o.length ≤ 20
  one : k ≤ 1
  none : k = 0 → l = [] ∧ o = []
  some : k ≠ 0 → ∃ t r, l = t :: r ∧ t.1 = 0
theorem Nest.ne {o : List Bs} {k : Nat} {l : List Tok} (h : Nest o k l) (ho : o ≠ []) : k ≠ 0 ∧ l ≠ [] := by
  have : k ≠ 0 := fun e => ho (h.none e).2
  obtain ⟨t, r, e, _⟩ := h.some this;exact ⟨this, by rw [e]; simp⟩
theorem Nest.snoc {o o' : List Bs} {k : Nat} {l : List Tok} {t : Tok} (h : Nest o k l) (ho : o ≠ []) (hr : rpS false o t = Option.some o') (hf : o'.length ≤ 20) : Nest o' k (l ++ [t]) := by
  obtain ⟨hk, hl⟩ := h.ne ho;obtain ⟨x, r, e, hx⟩ := h.some hk;refine ⟨?_, hf, h.one, fun e => absurd e hk, fun _ => ⟨x, r ++ [t], by rw [e]; rfl, hx⟩⟩
  rw [xC, h.rp]
  have : l.isEmpty = false := by cases l with | nil => exact absurd rfl hl | cons a b => rfl
  rw [this, Bool.and_false]
  exact hr
theorem Nest.text {o : List Bs} {k : Nat} {l : List Tok} (h : Nest o k l) (ho : o ≠ []) (t : Bs) : Nest o k (lC t l) := by
  unfold lC
  by_cases e : t = []
  · rw [if_pos e]; exact h
  · rw [if_neg e]
    refine h.snoc ho ?_ h.few
    unfold rpS
    rw [if_neg (fun z => ho z.2), if_neg (show ¬ ((2 : Int) = 0) by decide), if_neg (show ¬ ((2 : Int) = 1) by decide), if_pos ⟨⟨rfl, e⟩, ho⟩]
theorem last_ne {o : List Bs} {n : Bs} (h : o.getLast? = some n) : o ≠ [] := fun e => by rw [e] at h; cases h
theorem Nest.shut {o : List Bs} {k : Nat} {l : List Tok} (h : Nest o k l) (n : Bs) (hl : o.getLast? = Option.some n) : Nest o.dropLast k (l ++ [(1, n, [], [])]) := by
  have ho := last_ne hl
  refine h.snoc ho ?_ (by have := h.few; rw [List.length_dropLast]; omega)
  unfold rpS
  rw [if_neg (fun z => ho z.2), if_neg (show ¬ ((1 : Int) = 0) by decide), if_pos rfl, if_pos hl]
theorem Nest.open_ {o : List Bs} {k : Nat} {l : List Tok} (h : Nest o k l) (n : Bs) (as_ : List At) (h1 : ¬ (o = [] ∧ k ≠ 0)) (h2 : ¬ 20 ≤ o.length) :
    Nest (o ++ [n]) (if o = [] then k + 1 else k) (l ++ [(0, n, [], as_)]) := by
  by_cases ho : o = []
  · have hk : k = 0 := by
      by_cases e : k = 0
      · exact e
      · exact absurd ⟨ho, e⟩ h1
    obtain ⟨e1, _⟩ := h.none hk
    subst ho; subst e1; subst hk
    rw [if_pos rfl]
    exact ⟨rfl, by simp, by omega, fun e => by omega, fun _ => ⟨_, [], rfl, rfl⟩⟩
  · rw [if_neg ho]
    refine h.snoc ho ?_ (by simp; omega)
    unfold rpS
    rw [if_neg (fun z => ho z.2), if_pos rfl, if_pos (by omega)]
section
variable {dec : Bs → Option Bs}
theorem Nest.step {s : Bs} {o : List Bs} {k : Nat} {l : List Tok} {x : Sx} (h : Nest o k l) (e : eS dec s o k l = .ok x) : Nest x.2.1 x.2.2.1 x.2.2.2 := by
  unfold eS at e
  split at e
  · unfold ka at e
    split at e
    · cases e
    · split at e
      · split at e
        · cases e; exact h
        · cases e
      · rename_i g
        cases e; exact h.text g _
  split at e
  · have := (ip (by simp) e).2
    rw [this]; exact h
  split at e
  · have := (ip (by simp) e).2
    rw [this]; exact h
  split at e
  · unfold oe at e
    split at e
    · cases e
    · split at e
      · cases e
      · rename_i g
        cases e; exact h.text g _
  split at e
  · have := (ip (by simp) e).2
    rw [this]; exact h
  split at e
  · unfold qR at e
    split at e
    · cases e
    · split at e
      · unfold lD at e
        split at e
        · rename_i g
          cases e; exact h.shut _ g
        · cases e
      · cases e
  · unfold mN at e
    split at e
    · cases e
    · rename_i n r hn
      split at e
      · cases e
      · rename_i as_ em r' ha
        unfold na at e
        split at e
        · cases e
        · rename_i g1
          split at e
          · cases e
          · rename_i g2
            have ho := h.open_ n as_ g1 g2
            split at e
            · cases e
              have := ho.shut n (by simp)
              simpa using this
            · cases e; exact ho
theorem Nest.run : ∀ {n : Nat} {x y : Sx}, Nest x.2.1 x.2.2.1 x.2.2.2 → jP dec n x = .ok y → Nest y.2.1 y.2.2.1 y.2.2.2
  | 0, x, y, h, e => by cases e
  | n + 1, (s, o, k, l), y, h, e => by
    unfold jP at e
    split at e
    · cases e; exact h
    · cases es : eS dec s o k l with
      | no e' => rw [es] at e; cases e
      | ok z =>
        rw [es] at e
        exact Nest.run (h.step es) e
theorem vY : Nest [] 0 [] := ⟨rfl, by simp, by omega, fun _ => ⟨rfl, rfl⟩, fun e => absurd rfl e⟩
end
end Go.Xm
namespace Go.Fd
open Go.Pv Go.Av
open Go.Xm (Bs At Tok)
open Go.Pn (bl T1 T2 trim)
inductive P1 : Bs → Prop
  | nil : P1 []
  | sign {c : UInt8} {t : Bs} (h : bl c = false) (g : P1 t) : P1 (c :: t)
  | gap {c : UInt8} {t : Bs} (h : bl c = false) (g : P1 t) : P1 (32 :: c :: t)
theorem P1_T (r : Bs) : P1 (T1 r) ∧ P1 (T2 r) := by
  induction r with
  | nil => exact ⟨.nil, .nil⟩
  | cons c r ih =>
    cases hb : bl c with
    | true => simp only [T1, T2, hb, cond_true]; exact ⟨ih.2, ih.2⟩
    | false => simp only [T1, T2, hb, cond_false]; exact ⟨.sign hb ih.1, .gap hb ih.1⟩
theorem bl32 : bl 32 = true := by decide
theorem T1_P1 {t : Bs} (h : P1 t) : T1 t = t := by
  induction h with
  | nil => rfl
  | sign h g ih => simp only [T1, h, cond_false, ih]
  | gap h g ih => simp only [T1, T2, bl32, h, cond_false, cond_true, ih]
theorem yi (s : Bs) : trim s = [] ∨ ∃ c t, trim s = c :: t ∧ bl c = false ∧ P1 t := by
  induction s with
  | nil => exact .inl rfl
  | cons c r ih =>
    cases hb : bl c with
    | true => simp only [trim, hb, cond_true]; exact ih
    | false => simp only [trim, hb, cond_false]; exact .inr ⟨c, _, rfl, hb, (P1_T r).1⟩
theorem yh (s : Bs) : trim (trim s) = trim s := by
  rcases yi s with h | ⟨c, t, h, hc, ht⟩
  · rw [h]; rfl
  · rw [h]; simp only [trim, hc, cond_false, T1_P1 ht]
theorem T_len (s : Bs) : (T1 s).length ≤ s.length ∧ (T2 s).length ≤ s.length + 1 := by
  induction s with
  | nil => simp [T1, T2]
  | cons c r ih => cases hb : bl c <;> simp [T1, T2, hb] <;> omega
theorem trim_len : ∀ s : Bs, (trim s).length ≤ s.length := by
  intro s
  induction s with
  | nil => simp [trim]
  | cons c r ih =>
    have := (T_len r).1
    cases hb : bl c <;> simp [trim, hb] <;> omega
def me : Bool → List Bs → El → Bool
  | f, o, [] => !f && o.isEmpty
  | f, o, t :: r =>
    if f = false ∧ o = [] then false
    else if t.1 = 0 then me false (o ++ [t.2.1]) r
    else if t.1 = 1 ∧ o.getLast? = some t.2.1 then me false o.dropLast r
    else if t.1 ≠ 2 ∨ o = [] then false
    else me false o r
theorem xS : ∀ (l : El) (f : Bool) (o : List Bs), Go.Xm.rp f o l = some [] → (f = true → l ≠ []) → me f o l = true
  | [], f, o, h, g => by
    have e : o = [] := aj h
    subst e
    cases f with
    | true => exact absurd rfl (g rfl)
    | false => rfl
  | t :: r, f, o, h, g => by
    unfold Go.Xm.rp at h
    cases e : Go.Xm.rpS f o t with
    | none => rw [e] at h; cases h
    | some o' =>
      rw [e] at h
      have k := xS r false o' h (fun z => by cases z)
      unfold Go.Xm.rpS at e
      unfold me
      split at e
      · cases e
      rename_i n1
      rw [if_neg n1]
      split at e
      · rename_i n2
        rw [if_pos n2]
        split at e
        · cases e; exact k
        · cases e
      rename_i n2
      rw [if_neg n2]
      split at e
      · rename_i n3
        split at e
        · rename_i n4
          cases e
          rw [if_pos ⟨n3, n4⟩]; exact k
        · cases e
      rename_i n3
      rw [if_neg (fun z => n3 z.1)]
      split at e
      · rename_i n4
        cases e
        rw [if_neg (fun z => z.elim (fun q => q n4.1.1) n4.2)]; exact k
      · cases e
abbrev Ent := Bs × Bs × Bs × Bs × Int
def qQ (ns : List Bs) (y : El) : Bool := Go.Lib.contains ([124] ++ Str.join [124] ns ++ [124]) ([124] ++ pL y ++ [124]) && !Go.Lib.contains (pL y) [124]
def isN (n : Bs) (y : El) : Bool := decide (pL y = n)
def lh (p : El → Bool) (x : El) : Option El := (gh x).find? p
def lL (ns : List Bs) (x : El) : Bs := valO (lh (qQ ns) x)
def attL (n : Bs) (as_ : List At) : Option Bs := (as_.find? fun a => decide (a.1 = n)).map (·.2)
def attO (n : Bs) (y : El) : Option Bs := match y with | [] => none | t :: _ => attL n t.2.2.2
def optS : Option Bs → Bs
  | none => []
  | some s => s
theorem yf (o : Option El) : trim (valO o) = valO o ∧ ∃ y : El, (o = some y ∧ (valO o).length ≤ (df y).length) ∨ (o = none ∧ valO o = []) := by
  cases o with
  | none => exact ⟨rfl, [], .inr ⟨rfl, rfl⟩⟩
  | some y => exact ⟨yh _, y, .inl ⟨rfl, trim_len _⟩⟩
theorem valN_len (ns : List Bs) (x : El) : (lL ns x).length ≤ (df x).length := by
  obtain ⟨_, y, ⟨h, k⟩ | ⟨h, k⟩⟩ := yf (lh (qQ ns) x)
  · have := te (List.mem_of_find?_eq_some h)
    exact Nat.le_trans k this.1
  · unfold lL; rw [k]; exact Nat.zero_le _
end Go.Fd
namespace Go.Pn
open Go.Pv Go.Av
theorem ph {c : UInt8} {s : Bs} (h : ∀ b ∈ s, b ≠ c) : Go.Lib.indexByte s c = -1 := by
  induction s with
  | nil => rfl
  | cons b r ih => simp [Go.Lib.indexByte, h b (by simp), ih (fun x hx => h x (by simp [hx]))]
end Go.Pn
namespace Go.Pn
open Go.Pv Go.Av
theorem wv (s : Bs) (p : Nat) : 1 ≤ (mW s p).2 := by
  unfold mW Utf8.decode
  simp only
  repeat' split
  all_goals simp
theorem lx (n : Int) : (cE n).length ≤ 4 := by
  unfold cE Utf8.encode
  simp only
  repeat' split
  all_goals simp
theorem qk (n : Int) (h : 128 ≤ n) : 2 ≤ (cE n).length ∧ ((cE n).length = 2 → ¬ (59 : UInt8) = at_ (cE n) 1) := by
  have hc : ¬ (if Utf8.valid n = true then n.toNat else Utf8.runeError) < 128 := by
    split
    · omega
    · decide
  unfold cE Utf8.encode
  simp only
  generalize (if Utf8.valid n = true then n.toNat else Utf8.runeError) = c at hc ⊢
  rw [if_neg hc]
  by_cases h2 : c < 2048
  · rw [if_pos h2]
    refine ⟨by simp, fun _ => ?_⟩;show ¬ (59 : UInt8) = UInt8.ofNat (128 + c % 64);intro e
    have := congrArg UInt8.toNat e
    rw [UInt8.toNat_ofNat'] at this
    have e59 : (59 : UInt8).toNat = 59 := rfl
    omega
  · rw [if_neg h2]
    split <;> simp
theorem vB (F : Nat) (hF : 5 ≤ F) (r : Int) : ∃ j, iH F [38, 59] r = some j := by
  unfold iH
  by_cases h1 : 0 ≤ r ∧ r < 128
  · simp only [h1, decide_true, Bool.and_self, cond_true]; exact ⟨_, rfl⟩
  · have hf : ((decide (0 ≤ r)) && (decide (r < 128))) = false := by
      cases h : (decide (0 ≤ r)) && (decide (r < 128)) with
      | false => rfl
      | true => exact absurd (by simpa using h) h1
    rw [hf, cond_false]
    by_cases h2 : r = 65533
    · rw [bT h2]
      obtain ⟨m, rfl⟩ : ∃ m, F = m + 3 := ⟨F - 3, by omega⟩
      have e0 : mW [38, 59] 0 = (38, 1) := by decide +kernel
      have e1 : mW [38, 59] 1 = (59, 1) := by decide +kernel
      refine ⟨-1, ?_⟩;show eB [38, 59] (ix [38, 59] (m + 2)) 0 = _
      unfold eB
      simp only [e0]
      show eB [38, 59] (ix [38, 59] (m + 1)) 1 = _
      unfold eB
      simp only [e1]
      rfl
    · rw [bF h2]
      have hv : ∃ b, jG F r = some b ∧ (b = true → 0 ≤ r) := by
        unfold jG
        by_cases ha : 0 ≤ r ∧ r < 55296
        · refine ⟨true, ?_, fun _ => ha.1⟩; simp [ha]
        · by_cases hb : 57343 < r ∧ r ≤ 1114111
          · refine ⟨true, ?_, fun _ => by omega⟩; simp [hb]
          · refine ⟨false, ?_, fun h => by cases h⟩
            have e1 : ((decide (0 ≤ r)) && (decide (r < 55296))) = false := by
              cases h : (decide (0 ≤ r)) && (decide (r < 55296)) with
              | false => rfl
              | true => exact absurd (by simpa using h) ha
            have e2 : ((decide (57343 < r)) && (decide (r ≤ 1114111))) = false := by
              cases h : (decide (57343 < r)) && (decide (r ≤ 1114111)) with
              | false => rfl
              | true => exact absurd (by simpa using h) hb
            rw [e1, e2]; rfl
      obtain ⟨b, hb, hp⟩ := hv
      rw [hb, aU]
      cases b with
      | false => exact ⟨-1, rfl⟩
      | true =>
        have hr : 128 ≤ r := by have := hp rfl; omega
        obtain ⟨k1, k2⟩ := qk r hr
        have k3 := lx r
        obtain ⟨m, rfl⟩ : ∃ m, F = m + 1 := ⟨F - 1, by omega⟩;refine ⟨-1, ?_⟩
        simp (disch := omega) only [Bool.not_true, cond_false, bg, bM]
        show iy [38, 59] (cE r) (kZ [38, 59] (cE r) m) = _
        unfold iy jz
        by_cases h3 : (cE r).length = 2
        · have e1 : ((cE r).length : Int) - 1 = 1 := by omega
          have e2 : at_ ([38, 59] : Bs) 1 = 59 := rfl
          have e3 : cY ([38, 59] : Bs) (1 + 1) = [] := rfl
          rw [e1]
          simp (disch := (first | omega | (simp; done) | (simp; omega))) only [bT, cS, bg, e2, decide_eq_false (k2 h3), Bool.not_false, nc, bM, dZ, e3]
          rfl
        · have : ¬ ((cE r).length : Int) - 1 < (([38, 59] : Bs).length : Int) := by simp; omega
          rw [bF this]
theorem lz (s : Bs) (c : UInt8) : -1 ≤ Go.Lib.indexByte s c ∧ Go.Lib.indexByte s c < s.length := by
  induction s with
  | nil => simp [Go.Lib.indexByte]
  | cons b r ih =>
    unfold Go.Lib.indexByte
    split
    · first | (simp; done) | (simp; omega)
    · split
      · first | (simp; done) | (simp; omega)
      · rename_i h
        have h' : ¬ Go.Lib.indexByte r c = -1 := by simpa using h
        simp; omega
theorem mB (s cs : Bs) : -1 ≤ Go.Lib.indexAny s cs ∧ Go.Lib.indexAny s cs < s.length := by
  induction s with
  | nil => simp [Go.Lib.indexAny]
  | cons b r ih =>
    unfold Go.Lib.indexAny
    split
    · first | (simp; done) | (simp; omega)
    · split
      · first | (simp; done) | (simp; omega)
      · rename_i h
        have h' : ¬ Go.Lib.indexAny r cs = -1 := by simpa using h
        simp; omega
theorem uz (F : Nat) (hF : 5 ≤ F) (s : Bs) : ∀ (n y : Nat), s.length - y < n → ∃ j, iA F s [38, 59] n y = some j ∧ -1 ≤ j ∧ j < s.length := by
  intro n
  induction n with
  | zero => intro y h; omega
  | succ n ih =>
    intro y hy;show ∃ j, iB F s [38, 59] (iA F s [38, 59] n) y = some j ∧ _
    unfold iB jB
    by_cases h : y < s.length
    · rw [bT h]
      obtain ⟨j, hj⟩ := vB F hF ((mW s y).1 : Int)
      rw [hj, aU]
      by_cases h0 : 0 ≤ j
      · rw [bT h0]; exact ⟨_, rfl, by omega, by omega⟩
      · rw [bF h0]
        have := wv s y
        exact ih _ (by omega)
    · rw [bF h]; exact ⟨-1, rfl, by omega, by omega⟩
theorem wV (F : Nat) (s : Bs) (hF : 20 ≤ F) : ∃ j, ma F s [38, 59] = some j ∧ -1 ≤ j ∧ j < s.length := by
  unfold ma
  by_cases h : 8 < s.length
  · obtain ⟨h1, h2⟩ := mB s [38, 59]
    refine ⟨Go.Lib.indexAny s [38, 59], ?_, h1, h2⟩
    simp [h]
  · have e : ((decide (8 < s.length)) && (decide (2 ≤ ([38, 59] : Bs).length))) = false := by simp [h]
    rw [e, cond_false]
    unfold mU rS jA
    have e3 : decide ((8 : Int) < (s.length : Int)) = false := decide_eq_false (by omega)
    simp (disch := (first | omega | (simp; done) | (simp; omega))) only [bF, aU, e3, Bool.not_false, nc]
    exact uz F (by omega) s F 0 (by omega)
theorem uB (F : Nat) (s : Bs) (hs : s.length ≤ 100000) : ∃ b, gB F s [95] = some b := by
  unfold gB ma mU iz iH
  have e : ((decide (8 < s.length)) && (decide (2 ≤ ([95] : Bs).length))) = false := by simp
  have e2 : at_ ([95] : Bs) 0 = 95 := rfl
  have e3 : iX [95] = true := by decide
  have e4 : ((95 : UInt8).toNat : Int) = 95 := rfl
  rw [e, cond_false]
  simp (disch := (first | omega | (simp; done) | (simp; omega))) only [e3, nc, mg, bF, bT, cS, bg, e2, e4, grd_J]
  exact ⟨_, rfl⟩
theorem py (x : Int) : 0 ≤ IntKind.u64.wrap x := by
  have : IntKind.u64.wrap x = x % 18446744073709551616 := rfl
  rw [this]; omega
def Ok3 (r : Option (Int × Int)) : Prop := ∃ v e, r = some (v, e) ∧ 0 ≤ v ∧ (e = 0 ∨ e = 1 ∨ e = 2)
theorem yg (F : Nat) (s : Bs) (b c : Int) (hb : b = 10 ∨ b = 16) (hs : s.length ≤ 100000) : ∀ (n i : Nat) (v : Int), s.length - i < n → 0 ≤ v → Ok3 (bX F s b c n (false, v, (i : Int))) := by
  intro n
  induction n with
  | zero => intro i v h; omega
  | succ n ih =>
    intro i v hn hv;show Ok3 (dM F s b c (bX F s b c n) false v (i : Int))
    unfold dM eI fC
    by_cases h : i < s.length
    · have key : ∀ d : UInt8, Ok3 (cJ b c false v (i : Int) (bX F s b c n) d) := by
        intro d
        unfold cJ dL
        cases decide (((Go.Av.toB b).toNat : Int) ≤ (d.toNat : Int)) with
        | true => exact ⟨0, 2, rfl, by omega, by omega⟩
        | false =>
          rw [cond_false]
          cases decide (c ≤ v) with
          | true => exact ⟨_, 1, rfl, py _, by omega⟩
          | false =>
            rw [cond_false]
            generalize ((decide (IntKind.u64.wrap ((IntKind.u64.wrap (v * (IntKind.u64.wrap b))) + (IntKind.u64.wrap (d.toNat : Int))) < IntKind.u64.wrap (v * (IntKind.u64.wrap b)))) || (decide (IntKind.u64.wrap ((IntKind.u64.wrap (1 * 2 ^ min (Int.toNat (IntKind.u64.wrap 64)) IntKind.u64.bits)) - 1) < IntKind.u64.wrap ((IntKind.u64.wrap (v * (IntKind.u64.wrap b))) + (IntKind.u64.wrap (d.toNat : Int)))))) = q
            cases q with
            | true => exact ⟨_, 1, rfl, py _, by omega⟩
            | false =>
              rw [cond_false, bM (by omega), co]
              exact ih _ _ (by omega) (py _)
      have hb0 : decide (b = 0) = false := decide_eq_false (by omega)
      simp (disch := omega) only [bT, cS, bg, fJ h, hb0, Bool.and_false, cond_false, aU, dv]
      generalize ((decide (48 ≤ ((s[i]).toNat : Int))) && (decide (((s[i]).toNat : Int) ≤ 57))) = q1
      cases q1 with
      | true => exact key _
      | false =>
        rw [cond_false]
        generalize ((decide (97 ≤ ((s[i] ||| 32).toNat : Int))) && (decide ((((bif decide (97 ≤ ((s[i] ||| 32).toNat : Int)) then (s[i] ||| 32) else default) : UInt8).toNat : Int) ≤ 122))) = q2
        cases q2 with
        | true => exact key _
        | false => exact ⟨0, 2, rfl, by omega, by omega⟩
    · rw [bF (by omega), lm]
      exact ⟨v, 0, rfl, hv, by omega⟩
theorem uint_tot (F : Nat) (s : Bs) (b : Int) (hb : b = 10 ∨ b = 16) (hs : s.length ≤ 100000) (hF : s.length < F) : Ok3 (fK F s b 0) := by
  unfold fK eG eH dh
  by_cases h0 : s = []
  · rw [bT h0]; exact ⟨0, 2, rfl, by omega, by omega⟩
  · rw [bF h0]
    have h2 : ((decide (2 ≤ b)) && (decide (b ≤ 36))) = true := by rcases hb with rfl | rfl <;> rfl
    have hw := py 64
    rw [h2, nc, kf rfl]
    have go := fun c => yg F s b c hb hs F 0 0 (by omega) (by omega)
    rcases hb with rfl | rfl
    · rw [bT rfl, kf hw, cP (by omega)]; exact go _
    · rw [bF (by omega), bT rfl, kf hw, cP (by omega)]; exact go _
theorem int_tot (F : Nat) (s : Bs) (b : Int) (hb : b = 10 ∨ b = 16) (hs : s.length ≤ 100000) (hF : s.length < F) (h43 : at_ s 0 ≠ 43) (h45 : at_ s 0 ≠ 45) : ∃ v e, dt F s b 0 = some (v, e) := by
  have hi : ∃ v e, gu F s b 0 = some (v, e) ∧ (e = 0 ∨ e = 1 ∨ e = 2) := by
    unfold gu dB ft eu
    by_cases h0 : s = []
    · rw [bT h0]; exact ⟨0, 2, rfl, by omega⟩
    · have hp : 0 < s.length := List.length_pos_iff.2 h0
      obtain ⟨v, e, hv, hv0, he⟩ := uint_tot F s b hb hs hF
      have e1 : IntKind.u64.wrap (1 * 2 ^ min (Int.toNat (IntKind.u64.wrap 63)) IntKind.u64.bits) = 9223372036854775808 := by decide +kernel
      have e2 : (0 : Int) ≤ IntKind.u64.wrap 63 := by decide +kernel
      have e3 : IntKind.u64.wrap (9223372036854775808 - 1) = 9223372036854775807 := by decide +kernel
      simp (disch := omega) only [bF, cS, bg, hv, aO, e1, e3, kf e2, bM, kf, Bool.not_false, Bool.true_and, Bool.false_and, cond_false]
      rcases he with rfl | rfl | rfl
      · rw [show ((!decide ((0 : Int) = 0)) && (!decide ((0 : Int) = 1))) = false by rfl, cond_false]
        by_cases hb : (9223372036854775808 : Int) ≤ v
        · rw [bT hb]; exact ⟨_, 1, rfl, by omega⟩
        · rw [bF hb, bM (by omega)]; exact ⟨_, 0, rfl, by omega⟩
      · rw [show ((!decide ((1 : Int) = 0)) && (!decide ((1 : Int) = 1))) = false by rfl, cond_false]
        by_cases hb : (9223372036854775808 : Int) ≤ v
        · rw [bT hb]; exact ⟨_, 1, rfl, by omega⟩
        · rw [bF hb, bM (by omega)]; exact ⟨_, 0, rfl, by omega⟩
      · rw [show ((!decide ((2 : Int) = 0)) && (!decide ((2 : Int) = 1))) = true by rfl, cond_true]
        exact ⟨_, 2, rfl, by omega⟩
  obtain ⟨v, e, hv, he⟩ := hi
  unfold dt
  rw [hv, aO]
  rcases he with rfl | rfl | rfl
  · exact ⟨_, _, rfl⟩
  · rw [show (!decide ((1 : Int) = 0)) = true by rfl, cond_true, mg (by omega), kf (by omega)]; exact ⟨_, _, rfl⟩
  · rw [show (!decide ((2 : Int) = 0)) = true by rfl, cond_true, mg (by omega), kf (by omega)]; exact ⟨_, _, rfl⟩
theorem rune_tot (F : Nat) (r : Int) : ∃ o b, jo F r = some (o, b) ∧ o.length ≤ 4 := by
  have fin : -2147483648 ≤ r ∧ r ≤ 2147483647 → ∃ o b, grd (okJ r) (lt (cE r) fun x17 => some (x17, true)) = some (o, b) ∧ o.length ≤ 4 := by
    intro h; rw [grd_J h]; exact ⟨_, _, rfl, lx r⟩
  unfold jo mb
  simp only [dv]
  cases hA : ((decide (r = 9)) || (decide (r = 10))) || (decide (r = 13)) with
  | true =>
    have : r = 9 ∨ r = 10 ∨ r = 13 := by simpa [or_assoc] using hA
    simp only [Bool.not_true, Bool.false_and, cond_false]
    exact fin (by omega)
  | false =>
    simp only [Bool.not_false, Bool.true_and, cond_true]
    cases h7 : (decide (32 ≤ r)) && (decide (r ≤ 55295)) with
    | true =>
      have : 32 ≤ r ∧ r ≤ 55295 := by simpa using h7
      simp only [Bool.not_true, Bool.false_and, cond_false]
      exact fin (by omega)
    | false =>
      simp only [Bool.not_false, Bool.true_and, cond_true]
      cases h10 : (decide (57344 ≤ r)) && (decide (r ≤ 65533)) with
      | true =>
        have : 57344 ≤ r ∧ r ≤ 65533 := by simpa using h10
        simp only [Bool.not_true, Bool.false_and, cond_false]
        exact fin (by omega)
      | false =>
        simp only [Bool.not_false, Bool.true_and, cond_true]
        cases h13 : (decide (65536 ≤ r)) && (decide (r ≤ 1114111)) with
        | true =>
          have : 65536 ≤ r ∧ r ≤ 1114111 := by simpa using h13
          simp only [Bool.not_true, Bool.false_and, cond_false]
          exact fin (by omega)
        | false => exact ⟨[], false, rfl, by simp⟩
theorem rx (F : Nat) (s : Bs) (b : Int) (hb : b = 10 ∨ b = 16) (hs : s.length ≤ 100000) (hF : s.length < F) : ∃ o k, dR F s b = some (o, k) ∧ o.length ≤ 4 := by
  obtain ⟨cb, hcb⟩ := uB F s hs
  have no : ∃ o k, (some (([] : Bs), false) : Option (Bs × Bool)) = some (o, k) ∧ o.length ≤ 4 := ⟨[], false, rfl, by simp⟩
  unfold dR
  cases s with
  | nil => simp [eA, bg, lm]
  | cons c r =>
    have h0 : decide ((c :: r) = []) = false := decide_eq_false (by simp)
    have ha : at_ (c :: r) 0 = c := rfl
    have hg : ∀ (q : Bool) (k : Option (Bs × Bool)), fv q (dx 0 (c :: r).length) k = k := fun q k => nX (fun _ => by simp)
    simp only [hg, h0, bg, ha, hcb, dv, Bool.false_or]
    by_cases h1 : c = 43
    · simp [h1]
    · by_cases h2 : c = 45
      · simp [h2]
      · by_cases h3 : c = 95
        · simp [h3]
        · simp only [h1, h2, h3, decide_false, Bool.or_self, Bool.false_or, Bool.not_false, cond_true]
          cases cb with
          | true => exact no
          | false =>
            obtain ⟨v, e, hv⟩ := int_tot F (c :: r) b hb hs hF (by rw [ha]; exact h1) (by rw [ha]; exact h2)
            rw [cond_false, hv, aO]
            cases hz : (!decide (e = 0)) with
            | true => exact no
            | false =>
              obtain ⟨o, k, ho, hl⟩ := rune_tot F v
              rw [cond_false, ho, aO]
              exact ⟨o, k, rfl, hl⟩
theorem vN (F : Nat) (s : Bs) (hs : s.length ≤ 100000) (hF : s.length < F) : ∃ o k, iq F s = some (o, k) ∧ o.length ≤ 4 := by
  have htp : ∀ p, (Go.Lib.trimPrefix s p).length ≤ s.length := by
    intro p; unfold Go.Lib.trimPrefix; split <;> simp
  unfold iq kM
  simp only [aU, bg]
  generalize ([(([97, 109, 112] : List UInt8), (38 : Int)), (([108, 116] : List UInt8), 60), (([103, 116] : List UInt8), 62), (([113, 117, 111, 116] : List UInt8), 34), (([97, 112, 111, 115] : List UInt8), 39)] : List (List UInt8 × Int)) = m
  cases Go.Av.mhas m s with
  | true => exact ⟨_, _, rfl, lx _⟩
  | false =>
    rw [cond_false]
    cases Go.Lib.hasPrefix s [35, 120] with
    | true =>
      have := htp [35, 120]
      obtain ⟨o, k, ho, hl⟩ := rx F (Go.Lib.trimPrefix s [35, 120]) 16 (.inr rfl) (by omega) (by omega)
      rw [cond_true, ho, aO]; exact ⟨o, k, rfl, hl⟩
    | false =>
      rw [cond_false]
      cases Go.Lib.hasPrefix s [35] with
      | true =>
        have := htp [35]
        obtain ⟨o, k, ho, hl⟩ := rx F (Go.Lib.trimPrefix s [35]) 10 (.inl rfl) (by omega) (by omega)
        rw [cond_true, ho, aO]; exact ⟨o, k, rfl, hl⟩
      | false => exact ⟨[], false, rfl, by simp⟩
theorem tr (F : Nat) (s : Bs) (h1 : 1 ≤ s.length) (hs : s.length ≤ 100000) (hF : s.length + 20 < F) : ∃ o k, jF F s = some (o, k) ∧ (k = 0 ∨ (3 ≤ k ∧ k ≤ s.length ∧ o.length ≤ 4)) := by
  have no : ∃ o k, (some (([] : Bs), (0 : Int)) : Option (Bs × Int)) = some (o, k) ∧ (k = 0 ∨ (3 ≤ k ∧ k ≤ s.length ∧ o.length ≤ 4)) := ⟨[], 0, rfl, .inl rfl⟩
  have hl : (cY s 1).length = s.length - 1 := by simp [cY]
  obtain ⟨j, hj, hj1, hj2⟩ := wV F (cY s 1) (by omega)
  have ha : iX [38, 59] = true := by decide
  unfold jF mb
  simp (disch := (first | omega | (simp; done) | (simp; omega))) only [dZ, bg, ha, nc, mg, hj, aU]
  by_cases h : 1 ≤ j ∧ j ≤ 10
  · have hx : ((decide (1 ≤ j)) && (decide (j ≤ 10))) = true := by simp [h]
    simp (disch := (first | omega | (simp; done) | (simp; omega))) only [hx, Bool.not_true, Bool.not_false, kF, bM, cS, Bool.false_or]
    cases decide (at_ s (j + 1) = 38) with
    | true => exact no
    | false =>
      have hsub : (sub s 1 (j + 1)).length ≤ s.length := by simp [sub]; omega
      obtain ⟨o, k, ho, hol⟩ := vN F (sub s 1 (j + 1)) (by omega) (by omega)
      simp (disch := (first | omega | (simp; done) | (simp; omega))) only [cond_false, lU, bg, ho, aO]
      cases k with
      | false => exact no
      | true =>
        simp (disch := (first | omega | (simp; done) | (simp; omega))) only [Bool.not_true, cond_false, bM]
        exact ⟨o, j + 2, rfl, .inr ⟨by omega, by omega, hol⟩⟩
  · have hx : ((decide (1 ≤ j)) && (decide (j ≤ 10))) = false := by
      cases hq : (decide (1 ≤ j)) && (decide (j ≤ 10)) with
      | false => rfl
      | true => exact absurd (by simpa using hq) h
    simp only [hx, Bool.not_false, Bool.not_true, eA, Bool.true_or, cond_true]
    exact no
end Go.Pn
namespace Go.Pn
open Go.Pv Go.Av
def dg (c : UInt8) : Nat := if 48 ≤ c.toNat ∧ c.toNat ≤ 57 then c.toNat - 48 else if 97 ≤ c.toNat ∧ c.toNat ≤ 102 then c.toNat - 87 else if 65 ≤ c.toNat ∧ c.toNat ≤ 70 then c.toNat - 55 else 99
theorem vd {p : UInt8 → Prop} (h : ∀ n : Nat, n < 256 → p (UInt8.ofNat n)) (c : UInt8) : p c := by
  have := h c.toNat (UInt8.toNat_lt c)
  rwa [UInt8.ofNat_toNat] at this
theorem digit_eq (F : Nat) (c : UInt8) : ly F c = some (dg c : Int) := by
  show ly 0 c = _;exact vd (p := fun c => ly 0 c = some (dg c : Int)) (by decide +kernel) c
def isD (x : UInt8) : Bool := (decide (48 ≤ (x.toNat : Int))) && (decide ((x.toNat : Int) ≤ 57))
def isL (x : UInt8) : Bool := (decide (97 ≤ ((x ||| 32).toNat : Int))) && (decide (((x ||| 32).toNat : Int) ≤ 122))
theorem dig_D (b : Nat) (hb : b = 10 ∨ b = 16) (x : UInt8) (h : isD x = true) : (b ≤ (x - 48).toNat ↔ b ≤ dg x) ∧ ((x - 48).toNat < b → (x - 48).toNat = dg x) := by
  revert h
  refine vd (p := fun x => isD x = true → (b ≤ (x - 48).toNat ↔ b ≤ dg x) ∧ ((x - 48).toNat < b → (x - 48).toNat = dg x)) ?_ x
  rcases hb with rfl | rfl <;> decide +kernel
theorem dig_L (b : Nat) (hb : b = 10 ∨ b = 16) (x : UInt8) (h0 : isD x = false) (h : isL x = true) : (b ≤ ((x ||| 32) - 97 + 10).toNat ↔ b ≤ dg x) ∧ (((x ||| 32) - 97 + 10).toNat < b → ((x ||| 32) - 97 + 10).toNat = dg x) := by
  revert h0 h
  refine vd (p := fun x => isD x = false → isL x = true → (b ≤ ((x ||| 32) - 97 + 10).toNat ↔ b ≤ dg x) ∧ (((x ||| 32) - 97 + 10).toNat < b → ((x ||| 32) - 97 + 10).toNat = dg x)) ?_ x
  rcases hb with rfl | rfl <;> decide +kernel
theorem dig_no (x : UInt8) (h0 : isD x = false) (h : isL x = false) : dg x = 99 := by
  revert h0 h
  exact vd (p := fun x => isD x = false → isL x = false → dg x = 99) (by decide +kernel) x
def num (b : Nat) : Nat → Bs → Option Nat
  | v, [] => some v
  | v, c :: r => if b ≤ dg c then none else num b (b * v + dg c) r
theorem uV (x : Int) (h0 : 0 ≤ x) (h1 : x < 18446744073709551616) : IntKind.u64.wrap x = x := by
  have : IntKind.u64.wrap x = x % 18446744073709551616 := rfl
  rw [this]; omega
theorem ut (F : Nat) (s : Bs) (b : Nat) (hb : b = 10 ∨ b = 16) (c : Int) (hc : 1152921504606846976 ≤ c) (hs : s.length ≤ 10) : ∀ (n i v : Nat), s.length - i < n → v < 16 ^ i → i ≤ s.length →
    bX F s (b : Int) c n (false, (v : Int), (i : Int)) = match num b v (s.drop i) with | none => some (0, 2) | some w => some ((w : Int), 0) := by
  intro n
  induction n with
  | zero => intro i v h; omega
  | succ n ih =>
    intro i v hn hv hi;show dM F s (b : Int) c (bX F s (b : Int) c n) false (v : Int) (i : Int) = _
    unfold dM eI fC
    by_cases h : i < s.length
    · have hd : s.drop i = s[i] :: s.drop (i + 1) := bb h
      have hp : (16 : Nat) ^ i ≤ 16 ^ 9 := Nat.pow_le_pow_right (by omega) (by omega)
      have hp2 : (16 : Nat) ^ 9 = 68719476736 := rfl
      have hp3 : (16 : Nat) ^ (i + 1) = 16 ^ i * 16 := Nat.pow_succ _ _
      have key : ∀ d : UInt8, ((b ≤ d.toNat ↔ b ≤ dg s[i]) ∧ (d.toNat < b → d.toNat = dg s[i])) → cJ (b : Int) c false (v : Int) (i : Int) (bX F s (b : Int) c n) d = match num b v (s.drop i) with | none => some (0, 2) | some w => some ((w : Int), 0) := by
        intro d ⟨h1, h2⟩
        rw [hd]
        unfold cJ dL
        have hB : ((Go.Av.toB (b : Int)).toNat : Int) = (b : Int) := by rcases hb with rfl | rfl <;> rfl
        rw [hB]
        by_cases hbd : b ≤ d.toNat
        · rw [bT (by omega)]
          simp [num, h1.1 hbd]
        · have hd2 := h2 (by omega)
          have hbd' : ¬ b ≤ dg s[i] := fun e => hbd (h1.2 e)
          have hlt : d.toNat < 16 := by rcases hb with rfl | rfl <;> omega
          have hbv : b * v ≤ 16 * v := Nat.mul_le_mul_right v (by rcases hb with rfl | rfl <;> omega)
          have hmul : (v : Int) * (b : Int) = ((b * v : Nat) : Int) := by rw [Nat.mul_comm]; simp
          have wb : IntKind.u64.wrap (b : Int) = (b : Int) := uV _ (by omega) (by rcases hb with rfl | rfl <;> omega)
          have wd : IntKind.u64.wrap (d.toNat : Int) = (d.toNat : Int) := uV _ (by omega) (by omega)
          have wm : IntKind.u64.wrap ((b * v : Nat) : Int) = ((b * v : Nat) : Int) := uV _ (by omega) (by omega)
          have ws : IntKind.u64.wrap (((b * v : Nat) : Int) + (d.toNat : Int)) = ((b * v + d.toNat : Nat) : Int) := by rw [uV _ (by omega) (by omega)]; simp
          have wc : IntKind.u64.wrap ((IntKind.u64.wrap (1 * 2 ^ min (Int.toNat (IntKind.u64.wrap 64)) IntKind.u64.bits)) - 1) = 18446744073709551615 := by decide +kernel
          rw [wb, wd, hmul, wm, ws, wc, bF (by omega), bF (by omega), decide_eq_false (by omega : ¬ ((b * v + d.toNat : Nat) : Int) < ((b * v : Nat) : Int)), decide_eq_false (by omega : ¬ (18446744073709551615 : Int) < ((b * v + d.toNat : Nat) : Int))]
          rw [Bool.or_self, cond_false, bM (by omega), co, ih (i + 1) (b * v + d.toNat) (by omega) (by rw [hp3]; rcases hb with rfl | rfl <;> omega) (by omega)]
          simp only [num, hbd', if_false, hd2]
      have hb0 : decide ((b : Int) = 0) = false := decide_eq_false (by rcases hb with rfl | rfl <;> omega)
      simp (disch := omega) only [bT, cS, bg, fJ h, hb0, Bool.and_false, cond_false, aU, dv]
      cases hD : isD s[i] with
      | true =>
        have e : ((decide (48 ≤ ((s[i]).toNat : Int))) && (decide (((s[i]).toNat : Int) ≤ 57))) = true := hD
        rw [e, cond_true]
        exact key _ (dig_D b hb _ hD)
      | false =>
        have e : ((decide (48 ≤ ((s[i]).toNat : Int))) && (decide (((s[i]).toNat : Int) ≤ 57))) = false := hD
        rw [e, cond_false]
        have el : ((decide (97 ≤ ((s[i] ||| 32).toNat : Int))) && (decide ((((bif decide (97 ≤ ((s[i] ||| 32).toNat : Int)) then (s[i] ||| 32) else default) : UInt8).toNat : Int) ≤ 122))) = isL s[i] := by
          unfold isL
          cases decide (97 ≤ ((s[i] ||| 32).toNat : Int)) <;> rfl
        rw [el]
        cases hL : isL s[i] with
        | true =>
          rw [cond_true]
          exact key _ (dig_L b hb _ hD hL)
        | false =>
          rw [cond_false, hd]
          have := dig_no _ hD hL
          have : b ≤ dg s[i] := by rw [this]; rcases hb with rfl | rfl <;> omega
          simp [num, this]
    · rw [bF (by omega), lm]
      have hi2 : s.length ≤ i := by omega
      rw [bf hi2]
      rfl
theorem int_eq (F : Nat) (s : Bs) (b : Nat) (hb : b = 10 ∨ b = 16) (h0 : s ≠ []) (hs : s.length ≤ 10) (hF : 20 < F) (h43 : at_ s 0 ≠ 43) (h45 : at_ s 0 ≠ 45) :
    dt F s (b : Int) 0 = match num b 0 s with | none => some (0, 1) | some w => some ((w : Int), 0) := by
  have hp : 0 < s.length := List.length_pos_iff.2 h0
  have hw : ∀ (t : Bs) (v w : Nat), num b v t = some w → t.length ≤ 10 → v < 16 ^ (10 - t.length) → w < 16 ^ 10 := by
    intro t
    induction t with
    | nil => intro v w h _ hv; have : v = w := by simpa [num] using h
             subst this; exact hv
    | cons c r ih =>
      intro v w h hl hv
      simp only [num] at h
      split at h
      · cases h
      · rename_i hd
        simp only [List.length_cons] at hl hv
        refine ih _ _ h (by omega) ?_
        have e : 10 - r.length = (10 - (r.length + 1)) + 1 := by omega
        rw [e, Nat.pow_succ]
        rcases hb with rfl | rfl <;> omega
  have hu : fK F s (b : Int) 0 = match num b 0 s with | none => some (0, 2) | some w => some ((w : Int), 0) := by
    unfold fK eG eH dh
    have h2 : ((decide (2 ≤ (b : Int))) && (decide ((b : Int) ≤ 36))) = true := by rcases hb with rfl | rfl <;> rfl
    rw [bF h0, h2, nc, kf rfl]
    have hwr := py 64
    have go := fun c hc => ut F s b hb c hc hs F 0 0 (by omega) (by omega) (by omega)
    rcases hb with rfl | rfl
    · rw [bT (show ((10 : Nat) : Int) = 10 from rfl), kf hwr, cP (by omega)]; exact go _ (by omega)
    · rw [bF (show ¬ ((16 : Nat) : Int) = 10 by decide), bT (show ((16 : Nat) : Int) = 16 from rfl), kf hwr, cP (by omega)]; exact go _ (by omega)
  have hi : gu F s (b : Int) 0 = match num b 0 s with | none => some (0, 2) | some w => some ((w : Int), 0) := by
    unfold gu dB ft eu
    have e1 : IntKind.u64.wrap (1 * 2 ^ min (Int.toNat (IntKind.u64.wrap 63)) IntKind.u64.bits) = 9223372036854775808 := by decide +kernel
    have e2 : (0 : Int) ≤ IntKind.u64.wrap 63 := by decide +kernel
    rw [hu]
    cases hn : num b 0 s with
    | none => simp (disch := omega) only [bF h0, bF, cS, bg, aO]; rfl
    | some w =>
      have hwb : w < 16 ^ 10 := hw s 0 w hn hs (Nat.pow_pos (by omega))
      have hp2 : (16 : Nat) ^ 10 = 1099511627776 := rfl
      simp (disch := omega) only [bF h0, bF, cS, bg, aO, e1, kf e2, bM, kf, Bool.not_false, Bool.true_and, Bool.false_and, cond_false]
      rfl
  unfold dt
  rw [hi]
  cases hn : num b 0 s with
  | none =>
    simp only [aO]
    rw [show (!decide ((2 : Int) = 0)) = true by rfl, cond_true, mg (by omega)]; rfl
  | some w => rfl
theorem pA (n : Int) (c : Nat) (h : n = c) : toB n = UInt8.ofNat c := by
  subst h
  unfold toB
  apply UInt8.toNat.inj
  rw [UInt8.toNat_ofNat', UInt8.toNat_ofNat']
  omega
theorem pv (F : Nat) (r : Int) : jo F r = if (r = 9 ∨ r = 10 ∨ r = 13) ∨ (32 ≤ r ∧ r ≤ 55295) ∨ (57344 ≤ r ∧ r ≤ 65533) ∨ (65536 ≤ r ∧ r ≤ 1114111) then some (cE r, true) else some ([], false) := by
  have fin : -2147483648 ≤ r ∧ r ≤ 2147483647 → (grd (okJ r) (lt (cE r) fun x17 => some (x17, true))) = some (cE r, true) := fun h => by rw [grd_J h]; rfl
  unfold jo mb
  simp only [dv]
  cases hA : ((decide (r = 9)) || (decide (r = 10))) || (decide (r = 13)) with
  | true =>
    have : r = 9 ∨ r = 10 ∨ r = 13 := by simpa [or_assoc] using hA
    simp only [Bool.not_true, Bool.false_and, cond_false]
    rw [if_pos (.inl this)]; exact fin (by omega)
  | false =>
    have hA' : ¬ (r = 9 ∨ r = 10 ∨ r = 13) := by simp at hA; omega
    simp only [Bool.not_false, Bool.true_and, cond_true]
    cases h7 : (decide (32 ≤ r)) && (decide (r ≤ 55295)) with
    | true =>
      have : 32 ≤ r ∧ r ≤ 55295 := by simpa using h7
      simp only [Bool.not_true, Bool.false_and, cond_false]
      rw [if_pos (by omega)]; exact fin (by omega)
    | false =>
      have h7' : ¬ (32 ≤ r ∧ r ≤ 55295) := fun e => by simp [e] at h7
      simp only [Bool.not_false, Bool.true_and, cond_true]
      cases h10 : (decide (57344 ≤ r)) && (decide (r ≤ 65533)) with
      | true =>
        have : 57344 ≤ r ∧ r ≤ 65533 := by simpa using h10
        simp only [Bool.not_true, Bool.false_and, cond_false]
        rw [if_pos (by omega)]; exact fin (by omega)
      | false =>
        have h10' : ¬ (57344 ≤ r ∧ r ≤ 65533) := fun e => by simp [e] at h10
        simp only [Bool.not_false, Bool.true_and, cond_true]
        cases h13 : (decide (65536 ≤ r)) && (decide (r ≤ 1114111)) with
        | true =>
          have : 65536 ≤ r ∧ r ≤ 1114111 := by simpa using h13
          simp only [Bool.not_true, Bool.false_and, cond_false]
          rw [if_pos (by omega)]; exact fin (by omega)
        | false =>
          have h13' : ¬ (65536 ≤ r ∧ r ≤ 1114111) := fun e => by simp [e] at h13
          rw [if_neg (by omega)]; rfl
theorem cond9 (p q s a b c d e f : Prop) [Decidable p] [Decidable q] [Decidable s] [Decidable a] [Decidable b] [Decidable c] [Decidable d] [Decidable e] [Decidable f] :
    (((!((((decide p) || (decide q)) || (decide s)) || ((decide a) && (decide b)))) && (!((decide c) && (decide d)))) && (!((decide e) && (decide f)))) = !decide ((p ∨ q ∨ s) ∨ (a ∧ b) ∨ (c ∧ d) ∨ (e ∧ f)) := by
  simp only [Bool.decide_or, Bool.decide_and, Bool.not_or, Bool.and_assoc, Bool.or_assoc]
theorem yk (r : Int) : (((!((((decide (r = 9)) || (decide (r = 10))) || (decide (r = 13))) || ((decide (32 ≤ r)) && (decide (r ≤ 55295))))) && (!((decide (57344 ≤ r)) && (decide (r ≤ 65533))))) && (!((decide (65536 ≤ r)) && (decide (r ≤ 1114111))))) = !decide ((r = 9 ∨ r = 10 ∨ r = 13) ∨ (32 ≤ r ∧ r ≤ 55295) ∨ (57344 ≤ r ∧ r ≤ 65533) ∨ (65536 ≤ r ∧ r ≤ 1114111)) := cond9 _ _ _ _ _ _ _ _ _
theorem xl (k m c : Nat) : toB ((k : Int) + (c : Int) / (m : Int)) = UInt8.ofNat (k + c / m) := pA _ _ (by rw [Int.natCast_add, Int.natCast_ediv])
theorem tb_mod (k m c : Nat) : toB ((k : Int) + (c : Int) % (m : Int)) = UInt8.ofNat (k + c % m) := pA _ _ (by rw [Int.natCast_add, Int.natCast_emod])
theorem xx (k m n c : Nat) : toB ((k : Int) + (c : Int) / (m : Int) % (n : Int)) = UInt8.ofNat (k + c / m % n) := pA _ _ (by rw [Int.natCast_add, Int.natCast_emod, Int.natCast_ediv])
theorem enc1 (c : Nat) (hc : Utf8.valid (c : Int) = true) : Utf8.encode (c : Int) = if c < 128 then ⟨#[UInt8.ofNat c]⟩ else if c < 2048 then ⟨#[UInt8.ofNat (192 + c / 64), UInt8.ofNat (128 + c % 64)]⟩
    else if c < 65536 then ⟨#[UInt8.ofNat (224 + c / 4096), UInt8.ofNat (128 + c / 64 % 64), UInt8.ofNat (128 + c % 64)]⟩ else ⟨#[UInt8.ofNat (240 + c / 262144), UInt8.ofNat (128 + c / 4096 % 64), UInt8.ofNat (128 + c / 64 % 64), UInt8.ofNat (128 + c % 64)]⟩ := by
  have hcc : (if Utf8.valid (c : Int) = true then ((c : Int)).toNat else Utf8.runeError) = c := by rw [if_pos hc, Int.toNat_natCast]
  unfold Utf8.encode
  rw [hcc]
theorem vq (n : Int) : cE n = (Utf8.encode n).data.toList := rfl
theorem wO (c : Nat) (hc : Utf8.valid (c : Int) = true) : cE (c : Int) = if c < 128 then [toB c] else if c < 2048 then [toB (192 + (c : Int) / 64), toB (128 + (c : Int) % 64)]
    else if c < 65536 then [toB (224 + (c : Int) / 4096), toB (128 + (c : Int) / 64 % 64), toB (128 + (c : Int) % 64)] else [toB (240 + (c : Int) / 262144), toB (128 + (c : Int) / 4096 % 64), toB (128 + (c : Int) / 64 % 64), toB (128 + (c : Int) % 64)] := by
  have t1 : toB (c : Int) = UInt8.ofNat c := pA (c : Int) c rfl
  have t2 : toB (192 + (c : Int) / 64) = UInt8.ofNat (192 + c / 64) := xl 192 64 c
  have t3 : toB (128 + (c : Int) % 64) = UInt8.ofNat (128 + c % 64) := tb_mod 128 64 c
  have t4 : toB (224 + (c : Int) / 4096) = UInt8.ofNat (224 + c / 4096) := xl 224 4096 c
  have t5 : toB (128 + (c : Int) / 64 % 64) = UInt8.ofNat (128 + c / 64 % 64) := xx 128 64 64 c
  have t6 : toB (240 + (c : Int) / 262144) = UInt8.ofNat (240 + c / 262144) := xl 240 262144 c
  have t7 : toB (128 + (c : Int) / 4096 % 64) = UInt8.ofNat (128 + c / 4096 % 64) := xx 128 4096 64 c
  rw [t1, t2, t3, t4, t5, t6, t7, vq, enc1 c hc]
  by_cases h1 : c < 128
  · rw [if_pos h1, if_pos h1]
  · rw [if_neg h1, if_neg h1]
    by_cases h2 : c < 2048
    · rw [if_pos h2, if_pos h2]
    · rw [if_neg h2, if_neg h2]
      by_cases h3 : c < 65536
      · rw [if_pos h3, if_pos h3]
      · rw [if_neg h3, if_neg h3]
theorem wN (c : Nat) (h : ((c : Int) = 9 ∨ (c : Int) = 10 ∨ (c : Int) = 13) ∨ (32 ≤ (c : Int) ∧ (c : Int) ≤ 55295) ∨ (57344 ≤ (c : Int) ∧ (c : Int) ≤ 65533) ∨ (65536 ≤ (c : Int) ∧ (c : Int) ≤ 1114111)) : Utf8.valid (c : Int) = true := by
  unfold Utf8.valid
  by_cases h1 : (c : Int) < 55296
  · have : (0 : Int) ≤ (c : Int) := by omega
    rw [decide_eq_true this, decide_eq_true h1]; rfl
  · have h2 : (57344 : Int) ≤ (c : Int) := by omega
    have h3 : (c : Int) ≤ 1114111 := by omega
    rw [decide_eq_true h2, decide_eq_true h3, Bool.and_self, Bool.or_true]
theorem qU (F : Nat) (r : Int) : jo F r = fN F r := by
  rw [pv]
  unfold fN
  rw [yk]
  by_cases h : (r = 9 ∨ r = 10 ∨ r = 13) ∨ (32 ≤ r ∧ r ≤ 55295) ∨ (57344 ≤ r ∧ r ≤ 65533) ∨ (65536 ≤ r ∧ r ≤ 1114111)
  · rw [if_pos h, decide_eq_true h, Bool.not_true, cond_false]
    obtain ⟨c, rfl⟩ : ∃ c : Nat, r = c := ⟨r.toNat, by omega⟩
    rw [wO c (wN c h)]
    by_cases h1 : c < 128
    · rw [if_pos h1, bT (by omega)]
    · rw [if_neg h1, bF (by omega)]
      by_cases h2 : c < 2048
      · rw [if_pos h2, bT (by omega)]
        simp (disch := omega) only [gn, bM]
      · rw [if_neg h2, bF (by omega)]
        by_cases h3 : c < 65536
        · rw [if_pos h3, bT (by omega)]
          simp (disch := omega) only [gn, bM]
        · rw [if_neg h3, bF (by omega)]
          simp (disch := omega) only [gn, bM]
  · rw [if_neg h, decide_eq_false h]; rfl
def cap (w : Nat) : Nat := if 1114111 < w then 1114112 else w
theorem vu (F : Nat) (s : Bs) (b : Nat) (hb : b = 10 ∨ b = 16) (hs : s.length ≤ 100000) : ∀ (n i v : Nat), s.length - i < n → i ≤ s.length →
    km F s (b : Int) n ((cap v : Int), (i : Int)) = match num b v (s.drop i) with | none => some (-1) | some w => some (if s.length = 0 then -1 else (cap w : Int)) := by
  intro n
  induction n with
  | zero => intro i v h; omega
  | succ n ih =>
    intro i v hn hi;show kn F s (b : Int) (km F s (b : Int) n) (cap v : Int) (i : Int) = _
    unfold kn kj mI
    have hcv : cap v ≤ 1114112 := by unfold cap; split <;> omega
    by_cases h : i < s.length
    · have hd : s.drop i = s[i] :: s.drop (i + 1) := bb h
      simp (disch := omega) only [bT, cS, bg, fJ h, digit_eq, aU]
      rw [hd]
      by_cases hbd : b ≤ dg s[i]
      · rw [bT (by omega)]; simp [num, hbd]
      · have hdb : dg s[i] < 16 := by rcases hb with rfl | rfl <;> omega
        have hbc : b * cap v ≤ 16 * cap v := Nat.mul_le_mul_right _ (by rcases hb with rfl | rfl <;> omega)
        have e1 : (b : Int) * (cap v : Int) = ((b * cap v : Nat) : Int) := by simp
        have e2 : ((b * cap v : Nat) : Int) + (dg s[i] : Int) = ((b * cap v + dg s[i] : Nat) : Int) := by simp
        have e3 : cap (b * v + dg s[i]) = if 1114111 < b * cap v + dg s[i] then 1114112 else b * cap v + dg s[i] := by
          unfold cap
          rcases hb with rfl | rfl <;> (split <;> split <;> (try split) <;> omega)
        rw [bF (by omega), e1, e2, bM (by omega), bM (by omega)]
        simp only [num, hbd, if_false]
        have := ih (i + 1) (b * v + dg s[i]) (by omega) (by omega)
        rw [e3] at this
        by_cases hc : 1114111 < b * cap v + dg s[i]
        · rw [bT (by omega), bM (by omega), co]
          rw [if_pos hc] at this
          exact this
        · rw [bF (by omega), bM (by omega), co]
          rw [if_neg hc] at this
          exact this
    · have hi2 : s.length ≤ i := by omega
      rw [bF (by omega), bf hi2]
      simp only [num]
      by_cases h0 : s.length = 0
      · rw [bT (by omega), if_pos h0]
      · rw [bF (by omega), if_neg h0]
theorem yp (F : Nat) (s : Bs) (b : Nat) (hb : b = 10 ∨ b = 16) (hs : s.length ≤ 100000) (hF : s.length < F) :
    gH F s (b : Int) = match num b 0 s with | none => some (-1) | some w => some (if s.length = 0 then -1 else (cap w : Int)) := by
  have := vu F s b hb hs F 0 0 (by omega) (by omega)
  have hc : cap 0 = 0 := rfl
  rw [hc, List.drop_zero] at this
  exact this
theorem uZ {s : Bs} {b v : Nat} (hb : b = 10 ∨ b = 16) {c : UInt8} (hc : dg c = 99) (h : c ∈ s) : num b v s = none := by
  induction s generalizing v with
  | nil => cases h
  | cons d r ih =>
    simp only [num]
    rcases List.mem_cons.1 h with rfl | h
    · rw [if_pos (by rcases hb with rfl | rfl <;> omega)]
    · split
      · rfl
      · exact ih h
end Go.Pn
namespace Go.Pn
open Go.Pv Go.Av
theorem mn (F : Nat) : fN F (-1) = some ([], false) := by rw [← qU, pv, if_neg (by omega)]
theorem rune_cap (F w : Nat) : fN F (cap w : Int) = fN F (w : Int) := by
  unfold cap
  split
  · rw [← qU, ← qU, pv, pv, if_neg (by omega), if_neg (by omega)]
  · rfl
theorem sH (F : Nat) (s : Bs) (hs : s.length ≤ 100000) : gB F s [95] = some (decide (0 ≤ Go.Lib.indexByte s 95)) := by
  unfold gB ma mU iz iH
  have e : ((decide (8 < s.length)) && (decide (2 ≤ ([95] : Bs).length))) = false := by simp
  have e2 : at_ ([95] : Bs) 0 = 95 := rfl
  have e3 : iX [95] = true := by decide
  have e4 : ((95 : UInt8).toNat : Int) = 95 := rfl
  have e5 : toB 95 = 95 := rfl
  rw [e, cond_false]
  simp (disch := (first | omega | (simp; done) | (simp; omega))) only [e3, nc, mg, bF, bT, cS, bg, e2, e4, grd_J]
  rfl
theorem nu (F : Nat) (s : Bs) (b : Nat) (hb : b = 10 ∨ b = 16) (hs : s.length ≤ 10) (hF : 20 < F) : ∃ v, gH F s (b : Int) = some v ∧ dR F s (b : Int) = fN F v := by
  rw [yp F s b hb (by omega) (by omega)]
  unfold dR
  cases s with
  | nil =>
    refine ⟨-1, rfl, ?_⟩
    rw [mn]
    simp [eA, bg, lm]
  | cons c r =>
    have h0 : decide ((c :: r) = []) = false := decide_eq_false (by simp)
    have ha : at_ (c :: r) 0 = c := rfl
    have hg : ∀ (q : Bool) (k : Option (Bs × Bool)), fv q (dx 0 (c :: r).length) k = k := fun q k => nX (fun _ => by simp)
    have hlen : ¬ (c :: r).length = 0 := by simp
    rw [sH F (c :: r) (by omega)]
    simp only [hg, h0, bg, ha, dv, Bool.false_or]
    by_cases h1 : c = 43
    · rw [uZ hb (c := 43) (by decide) (by simp [h1])]
      refine ⟨-1, rfl, ?_⟩
      rw [mn]; simp [h1]
    · by_cases h2 : c = 45
      · rw [uZ hb (c := 45) (by decide) (by simp [h2])]
        refine ⟨-1, rfl, ?_⟩
        rw [mn]; simp [h2]
      · by_cases h3 : c = 95
        · rw [uZ hb (c := 95) (by decide) (by simp [h3])]
          refine ⟨-1, rfl, ?_⟩
          rw [mn]; simp [h3]
        · simp only [h1, h2, h3, decide_false, Bool.or_self, Bool.false_or, Bool.not_false, cond_true]
          by_cases h4 : 0 ≤ Go.Lib.indexByte (c :: r) 95
          · rw [bT h4]
            have hmem : (95 : UInt8) ∈ c :: r := by
              by_cases hm : (95 : UInt8) ∈ c :: r
              · exact hm
              · have := ph (c := 95) (s := c :: r) (fun x hx e => hm (e ▸ hx))
                omega
            rw [uZ hb (c := 95) (by decide) hmem]
            exact ⟨-1, rfl, (mn F).symm⟩
          · rw [bF h4, int_eq F (c :: r) b hb (by simp) hs hF (by rw [ha]; exact h1) (by rw [ha]; exact h2)]
            cases hn : num b 0 (c :: r) with
            | none => exact ⟨-1, rfl, by rw [mn]; rfl⟩
            | some w =>
              refine ⟨(cap w : Int), by simp only [hlen, if_false], ?_⟩
              rw [rune_cap, ← qU]
              simp only [aO]
              simp only [decide_true, Bool.not_true, cond_false]
              cases he : jo F (w : Int) with
              | none => rfl
              | some p => rfl
theorem yj (F : Nat) (b : Bs) (hb : b.length ≤ 10) (hF : 20 < F) : iq F b = kY F b := by
  have fallback : mhas [(([97, 109, 112] : List UInt8), (38 : Int)), (([108, 116] : List UInt8), 60), (([103, 116] : List UInt8), 62), (([113, 117, 111, 116] : List UInt8), 34), (([97, 112, 111, 115] : List UInt8), 39)] b = false →
      ¬ b = [97, 109, 112] → ¬ b = [108, 116] → ¬ b = [103, 116] → ¬ b = [113, 117, 111, 116] → ¬ b = [97, 112, 111, 115] → iq F b = kY F b := by
    intro hm n1 n2 n3 n4 n5
    unfold iq kM kY lI
    simp only [aU, bg, hm, cond_false, bF n1, bF n2, bF n3, bF n4, bF n5]
    cases b with
    | nil => simp [Go.Lib.hasPrefix, eA]
    | cons c r =>
      cases r with
      | nil =>
        obtain ⟨v, _, hv⟩ := nu F [] 10 (.inl rfl) (by simp) hF
        have e0 : dR F [] 10 = some ([], false) := by unfold dR; simp [eA, bg, lm]
        by_cases h : c = 35
        · subst h
          have e1 : Go.Lib.hasPrefix [35] [35, 120] = false := by decide
          have e2 : Go.Lib.hasPrefix [35] [35] = true := by decide
          have e3 : Go.Lib.trimPrefix [35] [35] = [] := by decide
          rw [e1, e2, e3, cond_false, cond_true, e0]
          simp [aO, eA]
        · have e1 : Go.Lib.hasPrefix [c] [35, 120] = false := by simp [Go.Lib.hasPrefix, List.isPrefixOf]
          have e2 : Go.Lib.hasPrefix [c] [35] = false := by simp [Go.Lib.hasPrefix, List.isPrefixOf, Ne.symm h]
          rw [e1, e2, cond_false, cond_false]
          simp [eA]
      | cons d r =>
        have ha : at_ (c :: d :: r) 0 = c := rfl
        have hb1 : at_ (c :: d :: r) 1 = d := rfl
        have hl : decide (((c :: d :: r).length : Int) < 2) = false := decide_eq_false (by simp only [List.length_cons]; omega)
        have f1 : cY (c :: d :: r) 1 = d :: r := rfl
        have f2 : cY (c :: d :: r) 2 = r := rfl
        have hg : ∀ (q : Bool) (k : Option (Bs × Bool)), fv q (dx 0 (c :: d :: r).length) k = k := fun q k => nX (fun _ => by simp only [List.length_cons]; omega)
        simp only [hg, hl, ha, hb1, f1, f2, Bool.false_or]
        by_cases h : c = 35
        · subst h
          rw [show (!decide ((35 : UInt8) = 35)) = false by rfl, cond_false]
          obtain ⟨v, hv1, hv2⟩ := nu F (d :: r) 10 (.inl rfl) (by simp at hb ⊢; omega) hF
          have hv1' : gH F (d :: r) 10 = some v := hv1
          have hv2' : dR F (d :: r) 10 = fN F v := hv2
          simp (disch := (first | omega | (simp; done) | (simp; omega))) only [dZ, cS, hv1', aU]
          by_cases hx : d = 120
          · subst hx
            obtain ⟨u, hu1, hu2⟩ := nu F r 16 (.inr rfl) (by simp at hb ⊢; omega) hF
            have hu1' : gH F r 16 = some u := hu1
            have hu2' : dR F r 16 = fN F u := hu2
            have e1 : Go.Lib.hasPrefix (35 :: 120 :: r) [35, 120] = true := by simp [Go.Lib.hasPrefix, List.isPrefixOf]
            have e3 : Go.Lib.trimPrefix (35 :: 120 :: r) [35, 120] = r := by simp [Go.Lib.trimPrefix, Go.Lib.hasPrefix, List.isPrefixOf]
            rw [e1, e3, cond_true, bT rfl, hu1', aU, hu2']
          · have e1 : Go.Lib.hasPrefix (35 :: d :: r) [35, 120] = false := by simp [Go.Lib.hasPrefix, List.isPrefixOf, Ne.symm hx]
            have e2 : Go.Lib.hasPrefix (35 :: d :: r) [35] = true := by simp [Go.Lib.hasPrefix, List.isPrefixOf]
            have e3 : Go.Lib.trimPrefix (35 :: d :: r) [35] = d :: r := by simp [Go.Lib.trimPrefix, Go.Lib.hasPrefix, List.isPrefixOf]
            rw [e1, e2, e3, cond_false, cond_true, bF hx, hv2']
        · have e1 : Go.Lib.hasPrefix (c :: d :: r) [35, 120] = false := by simp [Go.Lib.hasPrefix, List.isPrefixOf, Ne.symm h]
          have e2 : Go.Lib.hasPrefix (c :: d :: r) [35] = false := by simp [Go.Lib.hasPrefix, List.isPrefixOf, Ne.symm h]
          rw [e1, e2, cond_false, cond_false, decide_eq_false h]; rfl
  have named : ∀ (n : Bs) (k : Int) (x : Bs), (mhas [(([97, 109, 112] : List UInt8), (38 : Int)), (([108, 116] : List UInt8), 60), (([103, 116] : List UInt8), 62), (([113, 117, 111, 116] : List UInt8), 34), (([97, 112, 111, 115] : List UInt8), 39)] n = true) →
      cE (mget [(([97, 109, 112] : List UInt8), (38 : Int)), (([108, 116] : List UInt8), 60), (([103, 116] : List UInt8), 62), (([113, 117, 111, 116] : List UInt8), 34), (([97, 112, 111, 115] : List UInt8), 39)] n) = x → iq F n = some (x, true) := by
    intro n k x h1 h2
    unfold iq kM
    simp only [aU, bg, h1, h2, cond_true]
  by_cases n1 : b = [97, 109, 112]
  · subst n1; rw [named _ 38 [38] (by decide +kernel) (by decide +kernel)]; rfl
  by_cases n2 : b = [108, 116]
  · subst n2; rw [named _ 60 [60] (by decide +kernel) (by decide +kernel)]; rfl
  by_cases n3 : b = [103, 116]
  · subst n3; rw [named _ 62 [62] (by decide +kernel) (by decide +kernel)]; rfl
  by_cases n4 : b = [113, 117, 111, 116]
  · subst n4; rw [named _ 34 [34] (by decide +kernel) (by decide +kernel)]; rfl
  by_cases n5 : b = [97, 112, 111, 115]
  · subst n5; rw [named _ 39 [39] (by decide +kernel) (by decide +kernel)]; rfl
  refine fallback ?_ n1 n2 n3 n4 n5
  simp [mhas, List.lookup, beq_false_of_ne n1, beq_false_of_ne n2, beq_false_of_ne n3, beq_false_of_ne n4, beq_false_of_ne n5]
end Go.Pn
namespace Go.Pn
open Go.Pv Go.Av
theorem getD_at (s : Bs) (k : Nat) (h : k < s.length) : (⟨s.toArray⟩ : ByteArray).get! k = s[k] := by
  show (s.toArray)[k]! = _
  simp [h]
theorem zG (s : Bs) (p m : Nat) (hm : 0 < m) (hk : m < (mW s p).2) : ∃ h : p + m < s.length, 128 ≤ (s[p + m]).toNat := by
  have key : ∀ k, (decide (p + k < (⟨s.toArray⟩ : ByteArray).size) && ((⟨s.toArray⟩ : ByteArray).get! (p + k)).toNat / 64 == 2) = true → ∃ h : p + k < s.length, 128 ≤ (s[p + k]).toNat := by
    intro k hk
    simp only [Bool.and_eq_true, decide_eq_true_eq, beq_iff_eq] at hk
    obtain ⟨h1, h2⟩ := hk
    have h1' : p + k < s.length := h1
    rw [getD_at s (p + k) h1'] at h2
    exact ⟨h1', by omega⟩
  unfold mW Utf8.decode at hk
  simp only at hk
  split at hk
  · simp at hk; omega
  · split at hk
    · rename_i h2
      simp only [Bool.and_eq_true] at h2
      split at hk
      · have : m = 1 := by simp at hk; omega
        subst this;exact key 1 (by simpa using h2.2)
      · simp at hk; omega
    · split at hk
      · rename_i h2
        simp only [Bool.and_eq_true] at h2
        split at hk
        · have : m = 1 ∨ m = 2 := by simp at hk; omega
          rcases this with rfl | rfl
          · exact key 1 (by simpa using h2.1.2)
          · exact key 2 (by simpa using h2.2)
        · simp at hk; omega
      · split at hk
        · rename_i h2
          simp only [Bool.and_eq_true] at h2
          split at hk
          · have : m = 1 ∨ m = 2 ∨ m = 3 := by simp at hk; omega
            rcases this with rfl | rfl | rfl
            · exact key 1 (by simpa using h2.1.1.2)
            · exact key 2 (by simpa using h2.1.2)
            · exact key 3 (by simpa using h2.2)
          · simp at hk; omega
        · simp at hk; omega
theorem decR_low (s : Bs) (p : Nat) (h : p < s.length) (hb : (s[p]).toNat < 128) : mW s p = ((s[p]).toNat, 1) := decode_ascii (⟨s.toArray⟩ : ByteArray) p h hb
theorem zH (s : Bs) (p : Nat) (h : p < s.length) (hb : 128 ≤ (s[p]).toNat) : 128 ≤ (mW s p).1 := (decode_high (⟨s.toArray⟩ : ByteArray) p h hb).1
theorem wU (F : Nat) (hF : 5 ≤ F) (r : Int) (hr : 128 ≤ r) : iH F [38, 59] r = some (-1) := by
  obtain ⟨k1, k2⟩ := qk r hr
  have k3 := lx r
  unfold iH
  have hf : ((decide (0 ≤ r)) && (decide (r < 128))) = false := by rw [decide_eq_false (by omega : ¬ r < 128), Bool.and_false]
  rw [hf, cond_false]
  by_cases h2 : r = 65533
  · rw [bT h2]
    obtain ⟨m, rfl⟩ : ∃ m, F = m + 3 := ⟨F - 3, by omega⟩
    have e0 : mW [38, 59] 0 = (38, 1) := by decide +kernel
    have e1 : mW [38, 59] 1 = (59, 1) := by decide +kernel
    show eB [38, 59] (ix [38, 59] (m + 2)) 0 = _
    unfold eB
    simp only [e0]
    show eB [38, 59] (ix [38, 59] (m + 1)) 1 = _
    unfold eB
    simp only [e1]
    rfl
  · rw [bF h2]
    have hv : ∃ b, jG F r = some b := by
      unfold jG
      cases (decide (0 ≤ r)) && (decide (r < 55296)) with
      | true => exact ⟨true, rfl⟩
      | false =>
        rw [cond_false]
        cases (decide (57343 < r)) && (decide (r ≤ 1114111)) with
        | true => exact ⟨true, rfl⟩
        | false => exact ⟨false, rfl⟩
    obtain ⟨b, hb⟩ := hv
    rw [hb, aU]
    cases b with
    | false => rfl
    | true =>
      obtain ⟨m, rfl⟩ : ∃ m, F = m + 1 := ⟨F - 1, by omega⟩
      simp (disch := omega) only [Bool.not_true, cond_false, bg, bM]
      show iy [38, 59] (cE r) (kZ [38, 59] (cE r) m) = _
      unfold iy jz
      by_cases h3 : (cE r).length = 2
      · have e1 : ((cE r).length : Int) - 1 = 1 := by omega
        have e2 : at_ ([38, 59] : Bs) 1 = 59 := rfl
        have e3 : cY ([38, 59] : Bs) (1 + 1) = [] := rfl
        rw [e1]
        simp (disch := (first | omega | (simp; done) | (simp; omega))) only [bT, cS, bg, e2, decide_eq_false (k2 h3), Bool.not_false, nc, bM, dZ, e3]
        rfl
      · have : ¬ ((cE r).length : Int) - 1 < (([38, 59] : Bs).length : Int) := by simp; omega
        rw [bF this]
def nxt (s : Bs) (y : Nat) : Int := if Go.Lib.indexAny (s.drop y) [38, 59] = -1 then -1 else (y : Int) + Go.Lib.indexAny (s.drop y) [38, 59]
theorem vV (s : Bs) (y : Nat) (h : y < s.length) (hc : ([38, 59] : Bs).contains s[y] = false) : nxt s (y + 1) = nxt s y := by
  unfold nxt
  rw [bb h]
  simp only [Go.Lib.indexAny, hc]
  have := (mB (s.drop (y + 1)) [38, 59]).1
  by_cases e : Go.Lib.indexAny (s.drop (y + 1)) [38, 59] = -1
  · simp [e]
  · have e2 : (Go.Lib.indexAny (s.drop (y + 1)) [38, 59] == -1) = false := by simpa using e
    have e3 : ¬ Go.Lib.indexAny (s.drop (y + 1)) [38, 59] + 1 = -1 := by omega
    simp [e, e2, e3]; omega
theorem nxt_hi (s : Bs) (y : Nat) (h : y < s.length) (hb : 128 ≤ (s[y]).toNat) : nxt s (y + 1) = nxt s y := by
  refine vV s y h ?_
  have h1 : s[y] ≠ 38 := by intro e; rw [e] at hb; revert hb; decide
  have h2 : s[y] ≠ 59 := by intro e; rw [e] at hb; revert hb; decide
  simp [h1, h2]
theorem nxt_skip (s : Bs) (y : Nat) : ∀ k, (∀ m, m < k → ∃ h : y + m < s.length, 128 ≤ (s[y + m]).toNat) → nxt s (y + k) = nxt s y := by
  intro k
  induction k with
  | zero => intro _; rfl
  | succ k ih =>
    intro h;obtain ⟨h1, h2⟩ := h k (by omega)
    rw [show y + (k + 1) = y + k + 1 by omega, nxt_hi s (y + k) h1 h2]
    exact ih (fun m hm => h m (by omega))
theorem wW (F : Nat) (hF : 5 ≤ F) (s : Bs) : ∀ (n y : Nat), s.length - y < n → iA F s [38, 59] n y = some (nxt s y) := by
  intro n
  induction n with
  | zero => intro y h; omega
  | succ n ih =>
    intro y hy;show iB F s [38, 59] (iA F s [38, 59] n) y = _
    unfold iB jB
    by_cases h : y < s.length
    · rw [bT h]
      by_cases hb : (s[y]).toNat < 128
      · rw [decR_low s y h hb]
        have hi : iH F [38, 59] ((s[y]).toNat : Int) = some (Go.Lib.indexByte [38, 59] s[y]) := by
          unfold iH
          have e : ((decide ((0 : Int) ≤ ((s[y]).toNat : Int))) && (decide (((s[y]).toNat : Int) < 128))) = true := by
            rw [decide_eq_true (by omega : (0 : Int) ≤ ((s[y]).toNat : Int)), decide_eq_true (by omega : ((s[y]).toNat : Int) < 128)]; rfl
          rw [e, cond_true, bg, pA _ (s[y]).toNat rfl, UInt8.ofNat_toNat]
        simp only [hi, aU]
        by_cases hc : ([38, 59] : Bs).contains s[y] = true
        · have h0 : 0 ≤ Go.Lib.indexByte [38, 59] s[y] := by
            have : s[y] = 38 ∨ s[y] = 59 := by simpa using hc
            rcases this with e | e <;> rw [e] <;> decide
          rw [bT h0]
          unfold nxt
          rw [bb h]
          simp only [Go.Lib.indexAny, hc, if_true]
          simp
        · have hc' : ([38, 59] : Bs).contains s[y] = false := by simpa using hc
          have h0 : ¬ 0 ≤ Go.Lib.indexByte [38, 59] s[y] := by
            have hne : ¬ s[y] = 38 ∧ ¬ s[y] = 59 := by simpa using hc'
            have := ph (c := s[y]) (s := [38, 59]) (fun b hb e => by
              simp at hb
              rcases hb with rfl | rfl
              · exact hne.1 e.symm
              · exact hne.2 e.symm)
            omega
          rw [bF h0, ih (y + 1) (by omega), vV s y h hc']
      · have hh := zH s y h (by omega)
        have hp := wv s y
        rw [wU F hF _ (by omega), aU, bF (by omega), ih _ (by omega)]
        rw [nxt_skip s y (mW s y).2 (fun m hm => by
          cases m with
          | zero => exact ⟨h, by simpa using hb⟩
          | succ m => exact zG s y (m + 1) (by omega) hm)]
    · rw [bF h]
      unfold nxt
      rw [bf (by omega)]
      rfl
theorem yx (F : Nat) (s : Bs) (hF : 20 ≤ F) : ma F s [38, 59] = some (Go.Lib.indexAny s [38, 59]) := by
  unfold ma
  by_cases h : 8 < s.length
  · simp [h]
  · have e : ((decide (8 < s.length)) && (decide (2 ≤ ([38, 59] : Bs).length))) = false := by simp [h]
    rw [e, cond_false]
    unfold mU rS jA
    have e3 : decide ((8 : Int) < (s.length : Int)) = false := decide_eq_false (by omega)
    simp (disch := (first | omega | (simp; done) | (simp; omega))) only [bF, aU, e3, Bool.not_false, nc]
    rw [wW F (by omega) s F 0 (by omega)]
    unfold nxt
    rw [List.drop_zero]
    split
    · rename_i e; rw [e]
    · simp
end Go.Pn
namespace Go.Pn
open Go.Pv Go.Av
abbrev amp : Bs := [38, 59]
theorem any_cons (c : UInt8) (r : Bs) : Go.Lib.indexAny (c :: r) amp = if c = 38 ∨ c = 59 then 0 else if Go.Lib.indexAny r amp = -1 then -1 else Go.Lib.indexAny r amp + 1 := by
  simp [Go.Lib.indexAny]
theorem any_is (r : Bs) : ∀ (k : Nat) (h : k < r.length), Go.Lib.indexAny r amp = (k : Int) → r[k] = 38 ∨ r[k] = 59 := by
  induction r with
  | nil => intro k h; simp at h
  | cons c r ih =>
    intro k h hk
    rw [any_cons] at hk
    by_cases hc : c = 38 ∨ c = 59
    · rw [if_pos hc] at hk
      have : k = 0 := by omega
      subst this; simpa using hc
    · rw [if_neg hc] at hk
      split at hk
      · omega
      · cases k with
        | zero => have := (mB r amp).1; omega
        | succ k => simpa using ih k (by simpa using h) (by omega)
def dG (r : Bs) : Bs × Bool :=
  if 0 ≤ Go.Lib.indexAny r amp ∧ Go.Lib.indexAny r amp ≤ 10 ∧ r.getD (Go.Lib.indexAny r amp).toNat 0 = 59 then (r.take (Go.Lib.indexAny r amp).toNat, decide (0 < Go.Lib.indexAny r amp)) else ([], false)
theorem body_len (r : Bs) : (dG r).1.length ≤ 10 := by
  unfold dG
  split
  · rename_i h; simp; omega
  · simp
theorem first_eq (F : Nat) (r : Bs) (hs : r.length ≤ 100000) (hF : 150000 < F) : ∃ x k, kY F (dG r).1 = some (x, k) ∧ jF F (38 :: r) = some (if (dG r).2 = true ∧ k = true then (x, ((dG r).1.length : Int) + 2) else ([], 0)) := by
  have hbl := body_len r
  obtain ⟨x, k, hx, _⟩ := vN F (dG r).1 (by omega) (by omega);refine ⟨x, k, by rw [← yj F _ hbl (by omega)]; exact hx, ?_⟩;obtain ⟨hj1, hj2⟩ := mB r amp
  have h1 : cY (38 :: r) 1 = r := rfl
  have ha : iX [38, 59] = true := by decide
  have hl : ((38 :: r : Bs).length : Int) = (r.length : Int) + 1 := by simp
  unfold jF mb
  simp (disch := (first | omega | (simp; done) | (simp; omega))) only [dZ, bg, ha, nc, mg, h1, yx F r (by omega), aU]
  by_cases h : 1 ≤ Go.Lib.indexAny r amp ∧ Go.Lib.indexAny r amp ≤ 10
  · obtain ⟨j, hj⟩ : ∃ j : Nat, Go.Lib.indexAny r amp = j := ⟨(Go.Lib.indexAny r amp).toNat, by omega⟩
    have hjl : j < r.length := by omega
    have hc := any_is r j hjl hj
    have hx' : ((decide (1 ≤ Go.Lib.indexAny r amp)) && (decide (Go.Lib.indexAny r amp ≤ 10))) = true := by simp [h]
    have hat : at_ (38 :: r) ((j : Int) + 1) = r[j] := by
      rw [show (j : Int) + 1 = ((j + 1 : Nat) : Int) from rfl, fJ (by simp; omega)]; simp
    have hsub : sub (38 :: r) 1 ((j : Int) + 1) = r.take j := by
      rw [show (j : Int) + 1 = ((j + 1 : Nat) : Int) from rfl, show (1 : Int) = ((1 : Nat) : Int) from rfl, qT]; simp
    rw [hj] at hx' h ⊢
    simp (disch := (first | omega | (simp; done) | (simp; omega))) only [hx', Bool.not_true, Bool.not_false, kF, bM, cS, Bool.false_or, hat]
    have hget : r.getD (j : Int).toNat 0 = r[j] := by simp [hjl]
    rcases hc with hc | hc
    · have hb : dG r = ([], false) := by
        unfold dG
        rw [hj, hget, hc, if_neg (by simp)]
      rw [bT hc, hb]; simp
    · have hb : dG r = (r.take j, true) := by
        unfold dG
        rw [hj, hget, hc, if_pos ⟨by omega, by omega, rfl⟩, decide_eq_true (by omega)]
        simp
      rw [hb] at hx ⊢
      have hlt : ((r.take j).length : Int) = (j : Int) := by simp; omega
      rw [bF (by rw [hc]; decide)]
      simp (disch := (first | omega | (simp; done) | (simp; omega))) only [lU, bg, hsub, hx, aO]
      cases k with
      | false => simp
      | true =>
        simp (disch := (first | omega | (simp; done) | (simp; omega))) only [Bool.not_true, cond_false, bM]
        simp [hlt]; omega
  · have hx' : ((decide (1 ≤ Go.Lib.indexAny r amp)) && (decide (Go.Lib.indexAny r amp ≤ 10))) = false := by
      cases hq : (decide (1 ≤ Go.Lib.indexAny r amp)) && (decide (Go.Lib.indexAny r amp ≤ 10)) with
      | false => rfl
      | true => exact absurd (by simpa using hq) h
    simp only [hx', Bool.not_false, Bool.not_true, eA, Bool.true_or, cond_true]
    have hb : (dG r).2 = false := by
      unfold dG
      split
      · rename_i hh; simp; omega
      · rfl
    rw [hb]; simp
end Go.Pn
namespace Go.Pn
open Go.Pv Go.Av
def ent1 (F : Nat) (r : Bs) : Option (Bs × Nat) :=
  match kY F (dG r).1 with
  | some (x, true) => bif (dG r).2 then some (x, (dG r).1.length + 2) else none
  | _ => none
def G1 (F : Nat) : Nat → Bs → Bool → Bs → Bs × Bool
  | 0, _, ok, acc => (acc, ok)
  | _ + 1, [], ok, acc => (acc, ok)
  | m + 1, c :: r, ok, acc =>
    if c = 38 then
      match ent1 F r with
      | some (x, k) => G1 F m ((c :: r).drop k) ok (acc ++ x)
      | none => G1 F m r false (acc ++ [38])
    else G1 F m r ok (acc ++ [c])
theorem ent1_two {F : Nat} {r : Bs} {x : Bs} {k : Nat} (h : ent1 F r = some (x, k)) : 2 ≤ k := by
  unfold ent1 at h
  split at h
  · cases hb : (dG r).2 with
    | true => rw [hb] at h; simp at h; omega
    | false => rw [hb] at h; simp at h
  · cases h
theorem G1_fuel (F : Nat) : ∀ (m m' : Nat) (s : Bs) (ok : Bool) (acc : Bs), s.length < m → s.length < m' → G1 F m s ok acc = G1 F m' s ok acc := by
  intro m
  induction m with
  | zero => intro m' s ok acc h; omega
  | succ m ih =>
    intro m' s ok acc h h';obtain ⟨m'', rfl⟩ : ∃ m'', m' = m'' + 1 := ⟨m' - 1, by omega⟩
    cases s with
    | nil => rfl
    | cons c r =>
      simp only [List.length_cons] at h h'
      simp only [G1]
      by_cases hc : c = 38
      · rw [if_pos hc, if_pos hc]
        cases he : ent1 F r with
        | none => exact ih _ _ _ _ (by omega) (by omega)
        | some p =>
          have := ent1_two (x := p.1) (k := p.2) he
          exact ih _ _ _ _ (by simp; omega) (by simp; omega)
      · rw [if_neg hc, if_neg hc]
        exact ih _ _ _ _ (by omega) (by omega)
theorem uT (F : Nat) : ∀ (p t : Bs) (m : Nat) (ok : Bool) (acc : Bs), (∀ b ∈ p, b ≠ 38) → p.length + t.length < m → G1 F m (p ++ t) ok acc = G1 F m t ok (acc ++ p) := by
  intro p
  induction p with
  | nil => intro t m ok acc _ _; simp
  | cons c r ih =>
    intro t m ok acc hp hm;obtain ⟨m', rfl⟩ : ∃ m', m = m' + 1 := ⟨m - 1, by omega⟩
    simp only [List.length_cons] at hm
    simp only [List.cons_append, G1]
    rw [if_neg (hp c (by simp)), ih t m' ok _ (fun b hb => hp b (by simp [hb])) (by omega), G1_fuel F m' (m' + 1) t ok _ (by omega) (by omega)]
    simp
theorem qH (s : Bs) (i : Nat) (h : Go.Lib.indexByte s 38 = (i : Int)) : (∀ b ∈ s.take i, b ≠ 38) ∧ ∃ r, s.drop i = 38 :: r := by
  induction s generalizing i with
  | nil => simp [Go.Lib.indexByte] at h
  | cons c r ih =>
    unfold Go.Lib.indexByte at h
    by_cases hc : c = 38
    · subst hc
      have : i = 0 := by simp at h; omega
      subst this;exact ⟨by simp, r, rfl⟩
    · have hcb : (c == 38) = false := by simpa using hc
      rw [hcb] at h
      by_cases hn : Go.Lib.indexByte r 38 = -1
      · simp [hn] at h
      · have hnb : (Go.Lib.indexByte r 38 == -1) = false := by simpa using hn
        rw [hnb] at h
        have hr := lz r 38
        simp at h
        obtain ⟨j, rfl⟩ : ∃ j, i = j + 1 := ⟨i - 1, by omega⟩;obtain ⟨h1, t, h2⟩ := ih j (by omega);refine ⟨fun b hb => ?_, t, by simpa using h2⟩
        simp only [List.take_succ_cons, List.mem_cons] at hb
        rcases hb with rfl | hb
        · exact hc
        · exact h1 b hb
theorem sC (s : Bs) (h : Go.Lib.indexByte s 38 < 0) : ∀ b ∈ s, b ≠ 38 := by
  induction s with
  | nil => simp
  | cons c r ih =>
    have hr := lz r 38
    unfold Go.Lib.indexByte at h
    split at h
    · omega
    · rename_i hc
      have hc' : c ≠ 38 := by simpa using hc
      split at h
      · rename_i hn
        have hn' : Go.Lib.indexByte r 38 = -1 := by simpa using hn
        intro b hb
        rcases List.mem_cons.1 hb with rfl | hb
        · exact hc'
        · exact ih (by omega) b hb
      · rename_i hn
        have hn' : ¬ Go.Lib.indexByte r 38 = -1 := by simpa using hn
        omega
theorem vH (F : Nat) (hF : 200000 < F) : ∀ (n : Nat) (s : Bs) (ok : Bool) (acc : Bs) (m : Nat), s.length < n → s.length < m → s.length ≤ 100000 → acc.length + 4 * s.length ≤ 1000000 → eR F n (s, ok, acc) = some (G1 F m s ok acc) := by
  intro n
  induction n with
  | zero => intro s ok acc m h; omega
  | succ n ih =>
    intro s ok acc m hn hm hs ha;show gy F (eR F n) s ok acc = _
    unfold gy gx
    obtain ⟨hi1, hi2⟩ := lz s 38
    by_cases h : Go.Lib.indexByte s 38 < 0
    · simp (disch := (first | omega | (simp; done) | (simp; omega))) only [bg, bT, qK]
      have := uT F s [] m ok acc (sC s h) (by simpa using hm)
      rw [List.append_nil] at this
      rw [this]
      obtain ⟨m', rfl⟩ : ∃ m', m = m' + 1 := ⟨m - 1, by omega⟩
      rfl
    · obtain ⟨i, hi⟩ : ∃ i : Nat, Go.Lib.indexByte s 38 = i := ⟨(Go.Lib.indexByte s 38).toNat, by omega⟩
      obtain ⟨hp, r, hr⟩ := qH s i hi
      have il : i < s.length := by omega
      have l1 : (to_ s (i : Int)).length = i := by simp [mX]; omega
      have e2 : cY s (i : Int) = 38 :: r := by rw [lk, hr]
      have hsp : s = s.take i ++ 38 :: r := by rw [← hr, List.take_append_drop]
      have lr : r.length = s.length - i - 1 := by
        have := congrArg List.length hr
        simp at this; omega
      have e1 : to_ s (i : Int) = s.take i := mX
      obtain ⟨x, k, hx, hf⟩ := first_eq F r (by omega) (by omega);obtain ⟨o, kk, ho, hk⟩ := tr F (38 :: r) (by simp) (by simp; omega) (by simp; omega)
      rw [hf] at ho
      have hG : G1 F m s ok acc = G1 F m (38 :: r) ok (acc ++ s.take i) := by
        have := uT F (s.take i) (38 :: r) m ok acc hp (by simp; omega)
        rw [← hsp] at this; exact this
      obtain ⟨m', rfl⟩ : ∃ m', m = m' + 1 := ⟨m - 1, by omega⟩
      have ltk : (s.take i).length = i := by simp; omega
      rw [hG]
      simp (disch := (first | omega | (simp; done) | (simp; omega))) only [bg, hi, bF, dZ, qK, e2, hf]
      simp only [G1, if_true, ent1, hx]
      by_cases hb : (dG r).2 = true ∧ k = true
      · rw [if_pos hb] at ho ⊢
        obtain ⟨hb1, rfl⟩ := hb
        have ho' := aj ho
        have hk1 : ((dG r).1.length : Int) + 2 = kk := (Prod.mk.inj ho').2
        have ho1 : x = o := (Prod.mk.inj ho').1
        subst ho1
        rcases hk with rfl | ⟨k3, kl, ol⟩
        · omega
        · simp only [List.length_cons] at kl
          have ef : cY (38 :: r) (((dG r).1.length : Int) + 2) = (38 :: r).drop ((dG r).1.length + 2) := by
            rw [show ((dG r).1.length : Int) + 2 = (((dG r).1.length + 2 : Nat) : Int) from rfl, lk]
          simp only [hb1, cond_true, aO, ef]
          simp (disch := (first | omega | (simp; done) | (simp; omega))) only [bF, qK, bg, dZ, e1]
          rw [ih _ ok _ m' (by simp; omega) (by simp; omega) (by simp; omega) (by simp; omega)]
      · rw [if_neg hb]
        have e0 : cY (38 :: r) 1 = r := rfl
        have hm1 : (match (some (x, k) : Option (Bs × Bool)) with | some (x, true) => bif (dG r).2 then some (x, (dG r).1.length + 2) else none | _ => none) = none := by
          cases k with
          | false => rfl
          | true =>
            have : (dG r).2 = false := by
              cases hq : (dG r).2 with
              | false => rfl
              | true => exact absurd ⟨hq, rfl⟩ hb
            rw [this]; rfl
        simp only [aO]
        simp (disch := (first | omega | (simp; done) | (simp; omega))) only [decide_true, cond_true, qK, bg, dZ, e0, e1]
        rw [ih r false _ m' (by omega) (by omega) (by omega) (by simp; omega)]
        have hm2 : ent1 F r = none := by unfold ent1; rw [hx]; exact hm1
        unfold ent1 at hm2; rw [hx] at hm2
        cases k with
        | false => rfl
        | true => 
          cases hq : (dG r).2 with
          | false => rfl
          | true => exact absurd ⟨hq, rfl⟩ hb
end Go.Pn
namespace Go.Pn
open Go.Pv Go.Av
theorem goneG (F : Nat) (hF : 200000 < F) (s : Bs) (hs : s.length ≤ 100000) : nE F s = some (G1 F (s.length + 1) s true []) := vH F hF F s true [] (s.length + 1) (by omega) (by omega) hs (by simp; omega)
theorem decG (F : Nat) (hF : 200000 < F) (s : Bs) (hs : s.length ≤ 100000) : ld F s = some (bif (G1 F (s.length + 1) s true []).2 then ((G1 F (s.length + 1) s true []).1, 0) else ([], 2)) := by
  unfold ld; rw [goneG F hF s hs]
  obtain ⟨o, k⟩ := G1 F (s.length + 1) s true []
  rw [aO]
  cases k <;> rfl
theorem no_amp (F : Nat) (a : Bs) (h : (a.any fun c => decide (c = 38)) = false) : G1 F (a.length + 1) a true [] = (a, true) := by
  have hn : ∀ b ∈ a, b ≠ 38 := by
    intro b hb e
    have := List.any_eq_false.mp h b hb
    exact this (decide_eq_true e)
  have := uT F a [] (a.length + 1) true [] hn (by simp)
  rw [List.append_nil, List.nil_append] at this
  rw [this]; rfl
end Go.Pn
namespace Go.Xm
open Go.Pv Go.Av
theorem pO {α : Type} {a b : α} : (bif true then a else b) = a := Eq.symm (Eq.symm rfl)
theorem ii {α : Type} {a b : α} : (bif false then a else b) = b := Eq.symm (Eq.symm rfl)
theorem bnT {α : Type} {a b : α} : (bif !true then a else b) = b := Eq.symm (Eq.symm rfl)
theorem bnF {α : Type} {a b : α} : (bif !false then a else b) = a := Eq.symm (Eq.symm rfl)
theorem notT : (!true) = false := Eq.symm (Eq.symm rfl)
theorem notF : (!false) = true := Eq.symm (Eq.symm rfl)
theorem ands {a b : Bool} (h : (a && b) = true) : a = true ∧ b = true := by cases a <;> cases b <;> first | exact ⟨rfl, rfl⟩ | cases h
theorem gcS {α : Type} {k : Option α} {c : Bool} {n : Nat} (h : n < 4294967281) : fv c (okS n) k = k := by
  cases c
  · exact eA
  · rw [kF, mg h]
theorem gcA {α : Type} {k : Option α} {c : Bool} : fv c (iX xmla_k1) k = k := by
  have : iX xmla_k1 = true := by decide +kernel
  rw [this]; cases c <;> rfl
theorem all8 (p : UInt8 → Bool) (h : ∀ k : Fin 256, p (UInt8.ofNat k.val) = true) (b : UInt8) : p b = true := by
  have := h ⟨b.toNat, b.toNat_lt⟩
  simpa using this
theorem wg (x : UInt8) (r u : Bs) : Go.Lib.index (x :: r) u = if u.isPrefixOf (x :: r) = true then 0 else if Go.Lib.index r u = -1 then -1 else Go.Lib.index r u + 1 := by
  by_cases h : u.isPrefixOf (x :: r) = true
  · simp [Go.Lib.index, h]
  · simp [Go.Lib.index, h]
def cutO : Option (Bs × Bs) → Bs → Bs × Bs × Bool
  | none, s => (s, [], false)
  | some (a, b), _ => (a, b, true)
theorem cut_eq {p : Bs} (hp : p ≠ []) : ∀ s : Bs, Go.Lib.cut s p = cutO (lM p s) s
  | [] => by
    have : p.isEmpty = false := by cases p with | nil => exact absurd rfl hp | cons a b => rfl
    unfold Go.Lib.cut lM
    rw [if_neg hp]
    simp [Go.Lib.index, this, cutO]
  | c :: r => by
    have ih := cut_eq hp r
    have hg := Go.Lib.index_ge r p
    unfold Go.Lib.cut at ih ⊢
    unfold lM
    rw [wg]
    by_cases h : p.isPrefixOf (c :: r) = true
    · rw [if_pos h, if_pos h, if_pos (Int.le_refl 0)]
      simp [cutO]
    · rw [if_neg h, if_neg h]
      by_cases h1 : Go.Lib.index r p = -1
      · rw [if_neg (by omega)] at ih
        rw [if_pos h1, if_neg (by omega)]
        cases e : lM p r with
        | none => rfl
        | some x => rw [e] at ih; obtain ⟨a, b⟩ := x; have := congrArg (fun x => x.2.2) ih; simp [cutO] at this
      · rw [if_pos (by omega)] at ih
        rw [if_neg h1, if_pos (by omega)]
        obtain ⟨n, hn⟩ : ∃ n : Nat, Go.Lib.index r p = (n : Int) := ⟨(Go.Lib.index r p).toNat, by omega⟩
        rw [hn] at ih ⊢
        cases e : lM p r with
        | none => rw [e] at ih; have := congrArg (fun x => x.2.2) ih; simp [cutO] at this
        | some x =>
          obtain ⟨a, b⟩ := x
          rw [e] at ih
          simp only [cutO, Prod.mk.injEq, Int.toNat_natCast, and_true] at ih ⊢
          have e1 : ((n : Int) + 1).toNat = n + 1 := by omega
          rw [e1]
          refine ⟨by rw [List.take_succ_cons, ih.1], ?_⟩
          rw [show n + 1 + p.length = (n + p.length) + 1 by omega, List.drop_succ_cons, ih.2]
theorem xU (s p : Bs) : Go.Lib.hasPrefix s p = p.isPrefixOf s := rfl
theorem lZ {F : Nat} {s p : Bs} {o : List Bs} {k : Int} {l : List Tok} (h : p.isPrefixOf s = false) : fi F s o k l p = some (false, s) := by
  unfold fi Go.Lib.trimPrefix
  rw [bg, xU, h]; rfl
theorem ll {F : Nat} {s p : Bs} {o : List Bs} {k : Int} {l : List Tok} (h : p.isPrefixOf s = true) : fi F s o k l p = some (true, s.drop p.length) := by
  unfold fi Go.Lib.trimPrefix
  rw [bg, xU, h]; rfl
theorem qO {F : Nat} : cF F true = some (.ok ()) := Eq.symm (Eq.symm rfl)
theorem pK {F : Nat} : cF F false = some (.pan 2) := Eq.symm (Eq.symm rfl)
def cutR : Option (Bs × Bs) → Res (Bs × Bs)
  | none => .pan 2
  | some x => .ok x
theorem uG {F : Nat} {s p : Bs} {o : List Bs} {k : Int} {l : List Tok} (hp : p ≠ []) (hs : s.length ≤ 1000000) : iE F s o k l p = some (cutR (lM p s)) := by
  unfold iE
  rw [mg (by omega), bg, cut_eq hp]
  cases lM p s with
  | none => simp only [cutO]; rw [pK, bU]; rfl
  | some x => obtain ⟨a, b⟩ := x; simp only [cutO]; rw [qO, bN]; rfl
theorem blk_c (c : UInt8) : ([9, 10, 13, 32] : Bs).contains c = gt c := by
  have := all8 (fun c => ([9, 10, 13, 32] : Bs).contains c == gt c) (by decide +kernel) c
  simpa using this
theorem sZ {F : Nat} {s : Bs} {o : List Bs} {k : Int} {l : List Tok} : kI F s o k l = some (decide (((s.dropWhile gt).length : Int) < (s.length : Int)), s.dropWhile gt) := by
  have h : iX ([9, 10, 13, 32] : List UInt8) = true := by decide +kernel
  have e : (fun x => ([9, 10, 13, 32] : Bs).contains x) = gt := funext blk_c
  unfold kI Go.Lib.trimLeftS
  rw [mg (by simp), h, nc, bg, e]
theorem sgn_i (c : UInt8) : decide (0 ≤ Go.Lib.indexByte xmla_k1 c) = lq c := by
  have := all8 (fun c => decide (0 ≤ Go.Lib.indexByte xmla_k1 c) == lq c) (by decide +kernel) c
  simpa using this
theorem sgn_n (c : UInt8) : decide (Go.Lib.indexByte xmla_k1 c < 0) = !lq c := by
  rw [← sgn_i]
  by_cases h : 0 ≤ Go.Lib.indexByte xmla_k1 c
  · rw [decide_eq_true h, decide_eq_false (by omega)]; rfl
  · rw [decide_eq_false h, decide_eq_true (by omega)]; rfl
theorem sgn_c (c : UInt8) : xmla_k1.contains c = lq c := by
  have := all8 (fun c => xmla_k1.contains c == lq c) (by decide +kernel) c
  simpa using this
theorem let_c (c : UInt8) : Go.Lib.contains xmla_k2 [c] = letB c := by
  have := all8 (fun c => Go.Lib.contains xmla_k2 [c] == letB c) (by decide +kernel) c
  simpa using this
theorem tw_at {f : UInt8 → Bool} : ∀ {s : Bs} {i : Nat}, i ≤ s.length → (s.take i).all f = true → (∀ h : i < s.length, f s[i] = false) → s.takeWhile f = s.take i ∧ s.dropWhile f = s.drop i
  | [], i, h, _, _ => by simp
  | c :: s, 0, h, _, g => by
    have := g (by simp)
    rw [List.getElem_cons_zero] at this
    rw [List.takeWhile_cons, List.dropWhile_cons, this]; simp
  | c :: s, i + 1, h, ha, g => by
    rw [List.take_succ_cons, List.all_cons] at ha
    obtain ⟨h1, h2⟩ := ands ha
    have := tw_at (s := s) (i := i) (by simpa using h) h2 fun q => by
      have := g (by simpa using q)
      rw [List.getElem_cons_succ] at this; exact this
    rw [List.takeWhile_cons, List.dropWhile_cons, h1]
    simp [this.1, this.2]
theorem ry (s : Bs) (hs : s.length ≤ 1000000) : ∀ (n i : Nat), s.length - i < n → i ≤ s.length → jQ s n (i : Int) = some ((s.drop i).all lq)
  | 0, i, h, _ => by omega
  | n + 1, i, h, hi => by
    show jR s (jQ s n) (i : Int) = _
    unfold jR
    by_cases g : i < s.length
    · rw [bT (by omega), cS (by omega), bg, fJ g, bg, sgn_n, bb g, List.all_cons]
      cases lq s[i] with
      | false => rw [notF, pO, Bool.false_and]
      | true =>
        rw [notT, ii, bM (by omega), co, ry s hs n (i + 1) (by omega) (by omega), Bool.true_and]
    · rw [bF (by omega), bf (by omega)]; rfl
theorem inner_eq (F : Nat) (s : Bs) (hs : s.length ≤ 1000000) (hF : s.length < F) : pk F s = some (s.all lq) := ry s hs F 0 (by omega) (by omega)
theorem vc (f : UInt8 → Bool) : ∀ l : Bs, l.dropWhile f = [] ↔ ∀ x ∈ l, f x = true
  | [] => by simp
  | c :: l => by
    have ih := vc f l
    cases h : f c with
    | true => simp [List.dropWhile_cons, h, ih]
    | false => simp [List.dropWhile_cons, h]
theorem trim_sgn (t : Bs) : decide (Go.Lib.trimS t xmla_k1 = []) = t.all lq := by
  unfold Go.Lib.trimS Go.Lib.trimLeftS Go.Lib.trimRightS
  have e : (fun x => xmla_k1.contains x) = lq := funext sgn_c
  rw [e]
  cases h : t.all lq with
  | true =>
    rw [List.all_eq_true] at h
    refine decide_eq_true ?_
    have : t.reverse.dropWhile lq = [] := by
      rw [vc]; intro x hx; exact h x (List.mem_reverse.1 hx)
    rw [this]; rfl
  | false =>
    rw [List.all_eq_false] at h
    obtain ⟨x, hx, hn⟩ := h
    refine decide_eq_false fun q => ?_
    rw [vc] at q
    have hne : t.reverse.dropWhile lq ≠ [] := by
      intro e
      rw [vc] at e
      exact hn (e x (List.mem_reverse.2 hx))
    have := List.head_dropWhile_not lq (l := t.reverse) hne
    have hm := q _ (List.mem_reverse.2 (List.head_mem hne))
    rw [hm] at this
    simp at this
theorem to1 (c : UInt8) (r : Bs) : to_ (c :: r) 1 = [c] := rfl
theorem wT (c : UInt8) (r : Bs) : gL (c :: r) = (letB c && ((c :: r).all lq && decide ((c :: r).length ≤ 60))) := Eq.symm (Eq.symm rfl)
theorem Name_eq (F : Nat) (s : Bs) (hs : s.length ≤ 1000000) (hF : 100 < F) : px F s = some (gL s) := by
  unfold px
  have l1 : xmla_k1.length < 4294967281 := by decide +kernel
  have l2 : xmla_k2.length < 4294967281 := by decide +kernel
  simp only [bg, gcS l1, gcS l2, gcS (n := s.length) (by omega), gcA]
  cases s with
  | nil => simp [fv, ls, gL]
  | cons c r =>
    rw [decide_eq_false (p := c :: r = ([] : List UInt8)) (by simp), notF, Bool.true_and, to1, let_c, trim_sgn]
    rw [wT]
    have hp : 0 < (c :: r).length := by simp
    by_cases h : (c :: r).length ≤ 60
    · rw [decide_eq_true h, decide_eq_true (p := (((c :: r).length : Nat) : Int) ≤ 60) (by omega), kF, dZ (by omega), Bool.true_and]
      cases hc : letB c with
      | false => rw [Bool.false_and, lm, Bool.false_and, Bool.false_and]
      | true =>
        cases ha : (c :: r).all lq with
        | false => rw [Bool.and_false, lm, Bool.false_and, Bool.false_and, Bool.and_false]
        | true => rw [inner_eq F (c :: r) hs (by omega), ha, dv]; rfl
    · rw [decide_eq_false h, decide_eq_false (p := (((c :: r).length : Nat) : Int) ≤ 60) (by omega), eA, Bool.false_and, Bool.false_and, lm, Bool.false_and, Bool.and_false, Bool.and_false]
def oa : Option (Bs × Bs) → Res (Bs × Bs)
  | none => .pan 2
  | some x => .ok x
theorem tf (F : Nat) (hF : 100 < F) (s : Bs) (hs : s.length ≤ 1000000) : ∀ (n i : Nat), s.length - i < n → i ≤ s.length → (s.take i).all lq = true → kT F s n (i : Int) = some (oa (gP s))
  | 0, i, h, _, _ => by omega
  | n + 1, i, h, hi, ha => by
    have fin : (∀ h : i < s.length, lq s[i] = false) → jw F s (i : Int) = some (oa (gP s)) := fun q => by
      obtain ⟨e1, e2⟩ := tw_at hi ha q
      unfold jw gP
      rw [dZ (by omega), bg, mX, lk, Name_eq F _ (by rw [List.length_take]; omega) hF, aU, e1, e2]
      cases gL (s.take i) with
      | false => rw [pK, bU]; rfl
      | true => rw [qO, bN, dZ (by omega), bg]; rfl
    show kU F s (kT F s n) (i : Int) = _
    unfold kU
    by_cases g : i < s.length
    · rw [decide_eq_true (p := (i : Int) < (s.length : Int)) (by omega), kF, cS (by omega), bg, fJ g, bg, sgn_i, Bool.true_and]
      cases hc : lq s[i] with
      | false => rw [ii]; exact fin fun _ => hc
      | true =>
        rw [pO, bM (by omega), co]
        refine tf F hF s hs n (i + 1) (by omega) (by omega) ?_
        rw [List.take_succ_eq_append_getElem g, List.all_append, ha, List.all_cons, hc]; rfl
    · rw [decide_eq_false (p := (i : Int) < (s.length : Int)) (by omega), eA, bg, bg, Bool.false_and, ii]
      exact fin fun q => absurd q g
theorem uO {F : Nat} {s : Bs} {o : List Bs} {k : Int} {l : List Tok} (hF : 100 < F) (hs : s.length ≤ 1000000) (hl : s.length < F) : lP F s o k l = some (oa (gP s)) :=
  tf F hF s hs F 0 (by omega) (by omega) (by simp)
end Go.Xm
namespace Go.Xm
open Go.Pv Go.Av
def dec (F : Nat) (s : Bs) : Option Bs := bif (Go.Pn.G1 F (s.length + 1) s true []).2 then some (Go.Pn.G1 F (s.length + 1) s true []).1 else none
def oR {α : Type} : Option α → Res α
  | none => .pan 2
  | some x => .ok x
section
variable {F : Nat} (hF : 1500000 < F)
include hF
theorem tX {s : Bs} (hs : s.length ≤ 100000) : iQ F s = some (oR (dec F s)) := by
  unfold iQ dec
  rw [Go.Pn.decG F (by omega) s hs]
  cases (Go.Pn.G1 F (s.length + 1) s true []).2 with
  | true => rw [pO, pO, aO, decide_eq_true rfl, qO, bN]; rfl
  | false => rw [ii, ii, aO, decide_eq_false (by decide), pK, bU]; rfl
omit hF in
theorem xw {s t : Bs} {o : List Bs} {k : Int} {l : List Tok} (hl : l.length ≤ 1000000) : nV F s o k l t = some (lC t l) := by
  unfold nV lC
  by_cases h : t = []
  · rw [decide_eq_true h, bnT, if_pos h]
  · rw [decide_eq_false h, bnF, if_neg h, cP (by simp; omega), bg]
omit hF in
theorem at_last {o : List Bs} (h : o ≠ []) : at_ o ((o.length : Int) - 1) = o.getLast h := by
  have hp := List.length_pos_iff.2 h
  rw [show (o.length : Int) - 1 = ((o.length - 1 : Nat) : Int) by omega, fJ (by omega), List.getLast_eq_getElem]
def wx : Rx → Res (List Tok × List Bs)
  | .ok x => .ok (x.2.2.2, x.2.1)
  | .no e => .pan e
omit hF in
theorem xB {s n : Bs} {o : List Bs} {k : Nat} {l : List Tok} (ho : o.length ≤ 100) (hl : l.length ≤ 1000000) : lO F s o (k : Int) l n = some (wx (lD n s o k l)) := by
  unfold lO lD
  rw [bM (by omega)]
  by_cases h : o = []
  · subst h
    rw [decide_eq_false (p := 0 ≤ ((([] : List Bs).length : Nat) : Int) - 1) (by simp), eA, eA, bg, Bool.false_and, pK, bU, if_neg (by simp)]; rfl
  · have hp := List.length_pos_iff.2 h
    rw [decide_eq_true (p := 0 ≤ (o.length : Int) - 1) (by omega), kF, kF, cS (by omega), cS (by omega), bg, at_last h, Bool.true_and, List.getLast?_eq_some_getLast h]
    by_cases g : o.getLast h = n
    · rw [decide_eq_true g, qO, bN, dZ (by omega), bg, cP (by simp; omega), bg, if_pos (by rw [g])]
      rw [show (o.length : Int) - 1 = ((o.length - 1 : Nat) : Int) by omega, mX, ← List.dropLast_eq_take]; rfl
    · rw [decide_eq_false g, pK, bU, if_neg (by simpa using g)]; rfl
omit hF in
theorem ib_eq : ∀ s : Bs, (Go.Lib.indexByte s 60 = -1 ∧ (s.takeWhile fun c => decide (c ≠ 60)) = s ∧ (s.dropWhile fun c => decide (c ≠ 60)) = []) ∨
    ∃ i : Nat, Go.Lib.indexByte s 60 = (i : Int) ∧ i < s.length ∧ (s.takeWhile fun c => decide (c ≠ 60)) = s.take i ∧ (s.dropWhile fun c => decide (c ≠ 60)) = s.drop i
  | [] => .inl ⟨rfl, rfl, rfl⟩
  | c :: r => by
    by_cases h : c = 60
    · right; subst h; exact ⟨0, by simp [Go.Lib.indexByte], by simp, by simp, by simp⟩
    · have hb : (c == 60) = false := by simpa using h
      rcases ib_eq r with ⟨h1, h2, h3⟩ | ⟨i, h1, h2, h3, h4⟩
      · left
        refine ⟨by simp [Go.Lib.indexByte, hb, h1], ?_, ?_⟩
        · rw [List.takeWhile_cons, if_pos (by simpa using h), h2]
        · rw [List.dropWhile_cons, if_pos (by simpa using h), h3]
      · right
        refine ⟨i + 1, ?_, by simpa using h2, ?_, ?_⟩
        · have : ¬ ((i : Int) = -1) := by omega
          simp [Go.Lib.indexByte, hb, h1, this]
        · rw [List.takeWhile_cons, if_pos (by simpa using h), h3]; rfl
        · rw [List.dropWhile_cons, if_pos (by simpa using h), h4]; rfl
omit hF in
theorem bl_blk (c : UInt8) : Go.Pn.bl c = gt c := Eq.symm (Eq.symm rfl)
omit hF in
theorem vL : ∀ s : Bs, decide (Go.Pn.trim s = []) = s.all gt
  | [] => rfl
  | c :: r => by
    rw [Go.Pn.trim, List.all_cons, bl_blk]
    cases gt c with
    | true => rw [pO, Bool.true_and, vL r]
    | false => rw [ii, Bool.false_and]; simp
def xo : Rx → Res (Bool × Bs × List Tok)
  | .ok x => .ok (true, x.1, x.2.2.2)
  | .no e => .pan e
theorem xH {s : Bs} {o : List Bs} {k : Nat} {l : List Tok} (i : Nat) (hs : s.length ≤ 100000) (hl : l.length ≤ 1000000) (hi : i ≤ s.length) (h0 : i ≠ 0)
    (e1 : (s.takeWhile fun c => decide (c ≠ 60)) = s.take i) (e2 : (s.dropWhile fun c => decide (c ≠ 60)) = s.drop i) : fG F s o (k : Int) l (i : Int) = some (xo (ka (dec F) s o k l)) := by
  have h1 : (s.take i).length ≤ 100000 := by rw [List.length_take]; omega
  unfold fG ka
  rw [bF (by omega), dZ (by omega), bg, dZ (by omega), bg, mX, lk, tX hF h1, e1, e2]
  cases dec F (s.take i) with
  | none => simp only [oR]; rw [bU]; rfl
  | some t =>
    simp only [oR]
    rw [bN]
    by_cases ho : o = []
    · subst ho
      rw [bT (by simp), Go.Pn.ent_Trim_eq F _ (by omega) (by omega), aU, vL, if_pos rfl]
      cases (s.take i).all gt with
      | true => rw [qO, bN]; rfl
      | false => rw [pK, bU]; rfl
    · have := List.length_pos_iff.2 ho
      rw [bF (by omega), xw hl, aU, if_neg ho]; rfl
theorem plain_eq {s : Bs} {o : List Bs} {k : Nat} {l : List Tok} (hs : s.length ≤ 100000) (hl : l.length ≤ 1000000) (h0 : s ≠ []) (h : ([60] : Bs).isPrefixOf s = false) :
    jm F s o (k : Int) l = some (xo (ka (dec F) s o k l)) := by
  have hp := List.length_pos_iff.2 h0
  unfold jm
  rw [bg]
  rcases ib_eq s with ⟨h1, h2, h3⟩ | ⟨i, h1, h2, h3, h4⟩
  · rw [h1, bT (by omega)]
    exact xH hF s.length hs hl (Nat.le_refl _) (by omega) (by rw [List.take_length]; exact h2) (by rw [List.drop_length]; exact h3)
  · rw [h1, bF (by omega)]
    refine xH hF i hs hl (by omega) (fun e => ?_) h3 h4;subst e
    cases s with
    | nil => exact h0 rfl
    | cons c r =>
      by_cases g : c = 60
      · subst g; simp at h
      · have hb : (c == 60) = false := by simpa using g
        have hg := Go.Lib.indexByte_ge r 60
        rw [Go.Lib.indexByte, hb] at h1
        simp only [Bool.false_eq_true, if_false] at h1
        by_cases q : Go.Lib.indexByte r 60 = -1
        · rw [q] at h1; simp at h1
        · simp only [beq_iff_eq, q, if_false] at h1; omega
omit hF in
theorem plain_no {s : Bs} {o : List Bs} {k : Int} {l : List Tok} (h : ([60] : Bs).isPrefixOf s = true) : jm F s o k l = some (.ok (false, s, l)) := by
  cases s with
  | nil => cases h
  | cons c r =>
    have hc : c = 60 := by
      by_cases g : c = 60
      · exact g
      · have : (60 == c) = false := by simpa using fun q => g q.symm
        simp [List.isPrefixOf, this] at h
    subst hc
    have : Go.Lib.indexByte (60 :: r) 60 = 0 := by simp [Go.Lib.indexByte]
    unfold jm
    rw [bg, this, bF (by omega)]
    unfold fG
    rw [bT rfl]
end
end Go.Xm
namespace Go.Xm
open Go.Pv Go.Av
theorem ib_ge (s : Bs) : -1 ≤ Go.Lib.index s [60] := Go.Lib.index_ge s [60]
theorem xW : ∀ s : Bs, Go.Lib.contains s [60] = decide (60 ∈ s)
  | [] => by simp [Go.Lib.contains, Go.Lib.index]
  | c :: r => by
    have ih := xW r
    have hg := ib_ge r
    unfold Go.Lib.contains at ih ⊢
    rw [wg]
    by_cases h : c = 60
    · subst h; simp
    · have hb : (60 == c) = false := by simpa using fun q => h q.symm
      have hm : (60 ∈ c :: r) ↔ 60 ∈ r := by rw [List.mem_cons]; exact ⟨fun q => q.elim (fun e => absurd e.symm h) id, .inr⟩
      rw [if_neg (by simp [List.isPrefixOf, hb]), decide_eq_decide.2 hm, ← ih]
      by_cases g : Go.Lib.index r [60] = -1
      · rw [if_pos g, g]
      · rw [if_neg g]; exact decide_eq_decide.2 (by omega)
def attrR : Option (At × Bs) → Res (Bs × Bs × Bs)
  | none => .pan 2
  | some (a, r) => .ok (a.1, a.2, r)
theorem ti (F : Nat) (as_ : List At) (n v : Bs) (hl : as_.length ≤ 1000000) : ∀ (m i : Nat), as_.length - i < m → i ≤ as_.length → ∃ j : Int, eF F as_ n v m (i : Int) = some j ∧ decide (0 ≤ j) = (as_.drop i).any fun x => decide (x.1 = n)
  | 0, i, h, _ => by omega
  | m + 1, i, h, hi => by
    show ∃ j : Int, fQ F as_ n v (eF F as_ n v m) (i : Int) = some j ∧ _
    unfold fQ
    by_cases g : i < as_.length
    · rw [bT (by omega), cS (by omega), bg, fJ g, bb g, List.any_cons]
      unfold pm
      rw [aU]
      by_cases e : n = as_[i].1
      · rw [decide_eq_true e, pO, decide_eq_true e.symm, Bool.true_or]
        exact ⟨_, rfl, decide_eq_true (by omega)⟩
      · rw [decide_eq_false e, ii, bM (by omega), co, decide_eq_false (fun q => e q.symm), Bool.false_or]
        exact ti F as_ n v hl m (i + 1) (by omega) (by omega)
    · rw [bF (by omega), bf (by omega)]
      exact ⟨-1, rfl, rfl⟩
theorem cont_eq (F : Nat) (as_ : List At) (n v : Bs) (hl : as_.length ≤ 1000000) (hF : as_.length < F) : fR F as_ n v = some (as_.any fun x => decide (x.1 = n)) := by
  obtain ⟨j, h1, h2⟩ := ti F as_ n v hl F 0 (by omega) (by omega)
  unfold fR kB
  show bnd (eF F as_ n v F ((0 : Nat) : Int)) _ = _
  rw [h1, aU, h2, List.drop_zero]
section
variable {F : Nat} (hF : 1500000 < F)
include hF
theorem attr_j {s : Bs} {o : List Bs} {k : Int} {l : List Tok} {x : Bs × Bs} (q : UInt8) (hs : s.length ≤ 100000) : iv F o k l x [q] s = some (attrR (qN (dec F) x.1 q s)) := by
  unfold iv qN
  rw [uG (by simp) (by omega)]
  cases e : lM [q] s with
  | none => simp only [cutR]; rw [bU]; rfl
  | some y =>
    obtain ⟨raw, r⟩ := y
    have hl := congrArg List.length (mr (by simp) e)
    simp only [List.length_append] at hl
    simp only [cutR]
    rw [bN, mg (by simp; omega), bg]
    simp only []
    rw [xW]
    by_cases g : 60 ∈ raw
    · rw [decide_eq_true g, notT, pK, bU, if_pos g]; rfl
    · rw [decide_eq_false g, notF, qO, bN, if_neg g, tX hF (by omega)]
      cases dec F raw with
      | none => simp only [oR]; rw [bU]; rfl
      | some t => simp only [oR]; rw [bN]; rfl
theorem attr_eq {s : Bs} {o : List Bs} {k : Int} {l : List Tok} (hs : s.length ≤ 100000) : mP F s o k l = some (attrR (nd (dec F) s)) := by
  unfold mP nd
  rw [uO (by omega) (by omega) (by omega)]
  cases e : gP s with
  | none => simp only [oa]; rw [bU]; rfl
  | some y =>
    obtain ⟨n, r⟩ := y
    have hl := congrArg List.length (iG e).1
    rw [List.length_append] at hl
    simp only [oa]
    rw [bN]
    simp only []
    by_cases h1 : ([61, 34] : Bs).isPrefixOf r = true
    · rw [ll h1, aO, bnT, if_pos h1]
      exact attr_j hF 34 (by simp; omega)
    · rw [lZ (eq_false_of_ne_true h1), aO, bnF, if_neg h1]
      by_cases h2 : ([61, 39] : Bs).isPrefixOf r = true
      · rw [ll h2, aO, qO, bN, if_pos h2]
        exact attr_j hF 39 (by simp; omega)
      · rw [lZ (eq_false_of_ne_true h2), aO, pK, bU, if_neg h2]; rfl
abbrev ER := Bool × Bs × Int × List Tok × List Bs
def wA : Rx → Res ER
  | .ok x => .ok (true, x.1, (x.2.2.1 : Int), x.2.2.2, x.2.1)
  | .no e => .pan e
omit hF in
theorem xI {s n v : Bs} {as_ : List At} {em : Bool} {o : List Bs} {k : Nat} {l : List Tok} (ho : o.length ≤ 20) (hl : l.length ≤ 999000) :
    eV F o l (n, v) em s as_ (k : Int) = some (wA (if 20 ≤ o.length then .no 5 else if em = true then .ok (s, o, k, (l ++ [(0, n, [], as_)]) ++ [(1, n, [], [])]) else .ok (s, o ++ [n], k, l ++ [(0, n, [], as_)]))) := by
  have hn : (o ++ [n]).length = o.length + 1 := by simp
  unfold eV gQ
  dsimp only
  rw [cP (by simp; omega), bg]
  by_cases h : 20 ≤ o.length
  · rw [bT (by omega), if_pos h]; rfl
  · rw [bF (by omega), if_neg h]
    unfold gR gS
    dsimp only
    rw [cP (by simp; omega), bg]
    cases em with
    | false => rw [ii, if_neg (by decide)]; rfl
    | true =>
      rw [pO, if_pos rfl, xB (by omega) (by simp; omega)]
      unfold lD
      rw [if_pos (by simp)]
      simp only [wx]
      rw [bN]
      simp [fY, wA]
omit hF in
theorem xJ {s n v : Bs} {as_ : List At} {em : Bool} {o : List Bs} {k : Nat} {l : List Tok} (ho : o.length ≤ 20) (hl : l.length ≤ 999000) (hk : k ≤ 1) :
    eU F o (k : Int) l (n, v) em s as_ = some (wA (na n as_ em s o k l)) := by
  unfold eU na
  by_cases h : o = []
  · subst h
    rw [bT (by simp), bM (by omega)]
    by_cases g : k = 0
    · subst g
      rw [decide_eq_true (p := ((0 : Nat) : Int) + 1 = 1) (by omega), qO, bN, if_neg (by simp), if_pos rfl]
      exact xI (k := 1) (by simp) hl
    · rw [decide_eq_false (p := (k : Int) + 1 = 1) (by omega), pK, bU, if_pos ⟨rfl, g⟩]; rfl
  · have := List.length_pos_iff.2 h
    rw [bF (by omega), if_neg (fun q => h q.1), if_neg h]
    exact xI ho hl
def elemP' (F : Nat) (n : Bs) (o : List Bs) (k : Nat) (l : List Tok) : Option (List At × Bool × Bs) → Rx
  | none => .no 2
  | some (as_, em, r) => na n as_ em r o k l
theorem tV {n v : Bs} {o : List Bs} {k : Nat} {l : List Tok} (ho : o.length ≤ 20) (hl : l.length ≤ 999000) (hk : k ≤ 1) : ∀ (m : Nat) (as_ : List At) (s : Bs), s.length < m → as_.length + s.length ≤ 100000 →
    gV F o (k : Int) l (n, v) m (as_, s) = some (wA (elemP' F n o k l (gN (dec F) (s.length + 1) as_ s)))
  | 0, as_, s, h, _ => by omega
  | m + 1, as_, s, h, hs => by
    show gW F o (k : Int) l (n, v) (gV F o (k : Int) l (n, v) m) as_ s = _
    have hd := sb gt s
    unfold gW gN
    rw [sZ, aO]
    by_cases h1 : ([62] : Bs).isPrefixOf (s.dropWhile gt) = true
    · rw [ll h1, aO, pO, if_pos h1]
      exact xJ ho hl hk
    · rw [lZ (eq_false_of_ne_true h1), aO, ii, if_neg h1]
      by_cases h2 : ([47, 62] : Bs).isPrefixOf (s.dropWhile gt) = true
      · rw [ll h2, aO, pO, if_pos h2]
        exact xJ ho hl hk
      · rw [lZ (eq_false_of_ne_true h2), aO, ii, if_neg h2]
        by_cases h3 : (s.dropWhile gt).length = s.length
        · rw [if_pos h3, decide_eq_false (by omega), pK, bU]; rfl
        · rw [if_neg h3, decide_eq_true (by omega), qO, bN, attr_eq hF (by omega)]
          cases e : nd (dec F) (s.dropWhile gt) with
          | none => simp only [attrR]; rw [bU]; rfl
          | some y =>
            obtain ⟨a, r⟩ := y
            have hr := nP e
            simp only [attrR]
            rw [bN, cont_eq F as_ _ _ (by omega) (by omega), aU]
            cases hc : as_.any fun x => decide (x.1 = a.1) with
            | true => rw [notT, pK, bU, if_pos rfl]; rfl
            | false =>
              rw [notF, qO, bN, if_neg (by decide), cP (by simp; omega), bg]
              have := tV (n := n) (v := v) ho hl hk m (as_ ++ [a]) r (by omega) (by simp; omega)
              rw [qw (k := s.length) (m := r.length + 1) (by omega) (by omega)]
              exact this
theorem zE {s : Bs} {o : List Bs} {k : Nat} {l : List Tok} (hs : s.length ≤ 100000) (ho : o.length ≤ 20) (hl : l.length ≤ 999000) (hk : k ≤ 1) (h : ([60] : Bs).isPrefixOf s = true) :
    iu F s o (k : Int) l = some (wA (mN (dec F) (s.drop 1) o k l)) := by
  unfold iu mN
  rw [ll h, aO, bnT, uO (by omega) (by simp; omega) (by simp; omega)]
  show eE (some (oa (gP (s.drop 1)))) _ = _
  cases e : gP (s.drop 1) with
  | none => simp only [oa]; rw [bU]; rfl
  | some y =>
    obtain ⟨n, r⟩ := y
    have hr := congrArg List.length (iG e).1
    rw [List.length_append, List.length_drop] at hr
    simp only [oa]
    rw [bN]
    refine Eq.trans (tV hF ho hl hk F [] r (by omega) (by simp; omega)) ?_
    cases gN (dec F) (r.length + 1) [] r with
    | none => rfl
    | some z => rfl
def rZ : Rx → Res (Bool × Bs)
  | .ok x => .ok (true, x.1)
  | .no e => .pan e
def endR : Rx → Res (Bool × Bs × List Tok × List Bs)
  | .ok x => .ok (true, x.1, x.2.2.2, x.2.1)
  | .no e => .pan e
omit hF in
theorem uJ {s p q : Bs} {o : List Bs} {k : Nat} {l : List Tok} (hs : s.length ≤ 1000000) (hp : p ≠ []) : (eE (iE F s o (k : Int) l p) fun x14 => some (Res.ok (true, x14.2))) = some (rZ (jr p s o k l)) := by
  rw [uG hp hs]
  unfold jr
  cases lM p s with
  | none => simp only [cutR]; rw [bU]; rfl
  | some y => simp only [cutR]; rw [bN]; rfl
omit hF in
theorem data_eq {s : Bs} {o : List Bs} {k : Nat} {l : List Tok} (hs : s.length ≤ 1000000) (hl : l.length ≤ 1000000) (h : ([60, 33, 91, 67, 68, 65, 84, 65, 91] : Bs).isPrefixOf s = true) :
    lQ F s o (k : Int) l = some (xo (oe (s.drop 9) o k l)) := by
  unfold lQ oe
  rw [ll h, aO, bnT, uG (by simp) (by simp; omega)]
  show eE (some (cutR (lM [93, 93, 62] (s.drop 9)))) _ = _
  cases lM [93, 93, 62] (s.drop 9) with
  | none => simp only [cutR]; rw [bU]; rfl
  | some y =>
    obtain ⟨t, r⟩ := y
    simp only [cutR]
    rw [bN]
    by_cases ho : o = []
    · subst ho
      rw [decide_eq_false (by simp), pK, bU, if_pos rfl]; rfl
    · have := List.length_pos_iff.2 ho
      rw [decide_eq_true (by omega), qO, bN, xw hl, aU, if_neg ho]; rfl
theorem end_eq {s : Bs} {o : List Bs} {k : Nat} {l : List Tok} (hs : s.length ≤ 100000) (ho : o.length ≤ 20) (hl : l.length ≤ 999000) (h : ([60, 47] : Bs).isPrefixOf s = true) :
    iP F s o (k : Int) l = some (endR (qR (s.drop 2) o k l)) := by
  unfold iP qR
  rw [ll h, aO, bnT, uO (by omega) (by simp; omega) (by simp; omega)]
  show eE (some (oa (gP (s.drop 2)))) _ = _
  cases gP (s.drop 2) with
  | none => simp only [oa]; rw [bU]; rfl
  | some y =>
    obtain ⟨n, r⟩ := y
    simp only [oa]
    rw [bN, sZ, aO]
    simp only []
    by_cases h1 : ([62] : Bs).isPrefixOf (r.dropWhile gt) = true
    · rw [ll h1, aO, qO, bN, if_pos h1, xB (by omega) (by omega)]
      show eE (some (wx (lD n ((r.dropWhile gt).drop 1) o k l))) _ = _
      unfold lD
      by_cases g : o.getLast? = some n
      · rw [if_pos g]; simp only [wx]; rw [bN]; rfl
      · rw [if_neg g]; simp only [wx]; rw [bU]; rfl
    · rw [lZ (eq_false_of_ne_true h1), aO, pK, bU, if_neg h1]; rfl
def stepR : Rx → Res (Bs × Int × List Tok × List Bs)
  | .ok x => .ok (x.1, (x.2.2.1 : Int), x.2.2.2, x.2.1)
  | .no e => .pan e
omit hF in
theorem nB {p s : Bs} {o : List Bs} {k : Nat} {l : List Tok} {x : Sx} (h : jr p s o k l = .ok x) : x.2 = (o, k, l) := by
  unfold jr at h
  split at h
  · cases h
  · cases h; rfl
theorem step_eq {s : Bs} {o : List Bs} {k : Nat} {l : List Tok} (h0 : s ≠ []) (hs : s.length ≤ 100000) (ho : o.length ≤ 20) (hl : l.length ≤ 999000) (hk : k ≤ 1) :
    mO F s o (k : Int) l = some (stepR (eS (dec F) s o k l)) := by
  unfold mO eS
  by_cases h1 : ([60] : Bs).isPrefixOf s = true
  · rw [plain_no h1, bN, ii, if_neg (by rw [h1]; decide)]
    simp only []
    unfold jx
    by_cases h2 : ([60, 33, 45, 45] : Bs).isPrefixOf s = true
    · rw [ll h2, aO, bnT, uJ (q := []) (by simp; omega) (by simp), if_pos h2]
      show eE (some (rZ (jr [45, 45, 62] (s.drop 4) o k l))) _ = _
      cases e : jr [45, 45, 62] (s.drop 4) o k l with
      | no e => rfl
      | ok x =>
        have := nB e
        obtain ⟨a, b⟩ := x
        simp only at this; subst this
        simp only [rZ]; rw [bN]; rfl
    · rw [lZ (eq_false_of_ne_true h2), aO, bnF, bN, ii, if_neg h2]
      simp only []
      unfold qy
      by_cases h3 : ([60, 63] : Bs).isPrefixOf s = true
      · rw [ll h3, aO, bnT, uJ (q := []) (by simp; omega) (by simp), if_pos h3]
        show eE (some (rZ (jr [63, 62] (s.drop 2) o k l))) _ = _
        cases e : jr [63, 62] (s.drop 2) o k l with
        | no e => rfl
        | ok x =>
          have := nB e
          obtain ⟨a, b⟩ := x
          simp only at this; subst this
          simp only [rZ]; rw [bN]; rfl
      · rw [lZ (eq_false_of_ne_true h3), aO, bnF, bN, ii, if_neg h3]
        simp only []
        by_cases h4 : ([60, 33, 91, 67, 68, 65, 84, 65, 91] : Bs).isPrefixOf s = true
        · rw [data_eq (by omega) (by omega) h4, if_pos h4]
          unfold oe
          cases lM [93, 93, 62] (s.drop 9) with
          | none => rfl
          | some y =>
            obtain ⟨t, r⟩ := y
            simp only []
            by_cases g : o = []
            · rw [if_pos g]; rfl
            · rw [if_neg g]; rfl
        · rw [if_neg h4]
          unfold lQ
          rw [lZ (eq_false_of_ne_true h4), aO, bnF, bN, ii]
          simp only []
          unfold qx
          by_cases h5 : ([60, 33] : Bs).isPrefixOf s = true
          · rw [ll h5, aO, bnT, uJ (q := []) (by simp; omega) (by simp), if_pos h5]
            show eE (some (rZ (jr [62] (s.drop 2) o k l))) _ = _
            cases e : jr [62] (s.drop 2) o k l with
            | no e => rfl
            | ok x =>
              have := nB e
              obtain ⟨a, b⟩ := x
              simp only at this; subst this
              simp only [rZ]; rw [bN]; rfl
          · rw [lZ (eq_false_of_ne_true h5), aO, bnF, bN, ii, if_neg h5]
            simp only []
            by_cases h6 : ([60, 47] : Bs).isPrefixOf s = true
            · rw [end_eq hF hs ho hl h6, if_pos h6]
              unfold qR
              cases gP (s.drop 2) with
              | none => rfl
              | some y =>
                obtain ⟨n, r⟩ := y
                simp only []
                by_cases g : ([62] : Bs).isPrefixOf (r.dropWhile gt) = true
                · rw [if_pos g]
                  unfold lD
                  by_cases g2 : o.getLast? = some n
                  · rw [if_pos g2]; rfl
                  · rw [if_neg g2]; rfl
                · rw [if_neg g]; rfl
            · rw [if_neg h6]
              unfold iP
              rw [lZ (eq_false_of_ne_true h6), aO, bnF, bN, ii]
              simp only []
              rw [zE hF hs ho hl hk h1]
              cases mN (dec F) (s.drop 1) o k l with
              | no e => rfl
              | ok x => rfl
  · rw [plain_eq hF hs (by omega) h0 (eq_false_of_ne_true h1), if_pos (eq_false_of_ne_true h1)]
    unfold ka
    cases dec F (s.takeWhile fun c => decide (c ≠ 60)) with
    | none => rfl
    | some t =>
      simp only []
      by_cases g : o = []
      · rw [if_pos g]
        cases (s.takeWhile fun c => decide (c ≠ 60)).all gt with
        | true => rw [if_pos rfl]; rfl
        | false => rw [if_neg (by decide)]; rfl
      · rw [if_neg g]; rfl
end
end Go.Xm
namespace Go.Xm
open Go.Pv Go.Av
theorem sY (t : Bs) (l : List Tok) : (lC t l).length ≤ l.length + 1 := by
  unfold lC; split <;> simp
def Kp (o : List Bs) (k : Nat) (l : List Tok) (m : Nat) : Prop := o.length ≤ 20 ∧ k ≤ 1 ∧ l.length ≤ m
theorem uI {p s : Bs} {o : List Bs} {k : Nat} {l : List Tok} {m : Nat} {x : Sx} (h : Kp o k l m) (e : jr p s o k l = .ok x) : Kp x.2.1 x.2.2.1 x.2.2.2 (m + 2) := by
  have := nB e
  obtain ⟨a, b⟩ := x
  simp only at this; subst this
  obtain ⟨h1, h2, h3⟩ := h;exact ⟨h1, h2, by simp only; omega⟩
theorem xz {d : Bs → Option Bs} {s : Bs} {o : List Bs} {k : Nat} {l : List Tok} {m : Nat} {x : Sx} (h : Kp o k l m) (e : eS d s o k l = .ok x) : Kp x.2.1 x.2.2.1 x.2.2.2 (m + 2) := by
  obtain ⟨h1, h2, h3⟩ := id h
  unfold eS at e
  split at e
  · unfold ka at e
    split at e
    · cases e
    · split at e
      · split at e
        · cases e; exact ⟨h1, h2, by simp only; omega⟩
        · cases e
      · rename_i t _ _
        cases e
        have := sY t l
        exact ⟨h1, h2, by simp only; omega⟩
  split at e
  · exact uI h e
  split at e
  · exact uI h e
  split at e
  · unfold oe at e
    split at e
    · cases e
    · split at e
      · cases e
      · rename_i t r _ _
        cases e
        have := sY t l
        exact ⟨h1, h2, by simp only; omega⟩
  split at e
  · exact uI h e
  split at e
  · unfold qR at e
    split at e
    · cases e
    · split at e
      · unfold lD at e
        split at e
        · cases e; exact ⟨by simp only [List.length_dropLast]; omega, h2, by simp only [List.length_append, List.length_singleton]; omega⟩
        · cases e
      · cases e
  · unfold mN at e
    split at e
    · cases e
    · split at e
      · cases e
      · unfold na at e
        split at e
        · cases e
        · rename_i g
          split at e
          · cases e
          · have hk : (if o = [] then k + 1 else k) ≤ 1 := by
              by_cases q : o = []
              · rw [if_pos q]
                have : k = 0 := Classical.byContradiction fun z => g ⟨q, z⟩
                omega
              · rw [if_neg q]; exact h2
            split at e
            · cases e; exact ⟨h1, hk, by simp; omega⟩
            · cases e; exact ⟨by simp; omega, hk, by simp; omega⟩
def tokE : Rx → List Tok × Int
  | .ok (_, o, k, l) => if o = [] ∧ 0 < k then (l, 0) else ([], 2)
  | .no e => ([], e)
theorem pz (d : Bs → Option Bs) (s : Bs) : mY d s = tokE (jP d (s.length + 1) (s, [], 0, [])) := by
  unfold mY
  cases jP d (s.length + 1) (s, [], 0, []) with
  | ok x => rfl
  | no e => rfl
theorem vM {F : Nat} (hF : 1500000 < F) : ∀ (n m : Nat) (s : Bs) (o : List Bs) (k : Nat) (l : List Tok), s.length < n → s.length < m → s.length ≤ 100000 → Kp o k l (900000 - 2 * s.length) →
    jd F n (s, o, (k : Int), l) = some (tokE (jP (dec F) m (s, o, k, l)))
  | 0, _, s, o, k, l, h, _, _, _ => by omega
  | _, 0, s, o, k, l, _, h, _, _ => by omega
  | n + 1, m + 1, s, o, k, l, hn, hm, hs, hk => by
    show je F (jd F n) s o (k : Int) l = _
    unfold je jP
    by_cases h0 : s = []
    · rw [decide_eq_true h0, bnT, if_pos h0]
      unfold jc tokE
      simp only []
      by_cases ho : o = []
      · subst ho
        by_cases g : 0 < k
        · rw [decide_eq_true (by simp), decide_eq_true (by omega), Bool.and_self, qO, ke, if_pos ⟨rfl, g⟩]
        · rw [decide_eq_true (by simp), decide_eq_false (p := (0 : Int) < (k : Int)) (by omega), Bool.and_false, pK, gE, if_neg fun q => g q.2]
      · have := List.length_pos_iff.2 ho
        rw [decide_eq_false (p := (o.length : Int) = 0) (by omega), Bool.false_and, pK, gE, if_neg fun q => ho q.1]
    · rw [decide_eq_false h0, bnF, if_neg h0, step_eq hF h0 hs hk.1 (by have := hk.2.2; omega) hk.2.1]
      cases e : eS (dec F) s o k l with
      | no e => simp only [stepR]; rw [gE]; rfl
      | ok x =>
        obtain ⟨s', o', k', l'⟩ := x
        have h1 := li h0 e
        have h2 := xz hk e
        simp only at h1 h2
        simp only [stepR]
        rw [ke]
        simp only []
        exact vM hF n m s' o' k' l' (by omega) (by omega) (by omega) ⟨h2.1, h2.2.1, by have := h2.2.2; omega⟩
theorem tok_eq {F : Nat} (hF : 1500000 < F) {s : Bs} (hs : s.length ≤ 100000) : mh F s = some (mY (dec F) s) := by
  unfold mh
  rw [bF (by omega), pz]
  exact vM hF F (s.length + 1) s [] 0 [] (by omega) (by omega) hs ⟨by simp, by omega, by simp⟩
theorem run_kp {d : Bs → Option Bs} : ∀ {n : Nat} {s : Bs} {o : List Bs} {k : Nat} {l : List Tok} {m : Nat} {x : Sx}, s.length ≤ m → Kp o k l (900000 - 2 * m) → m ≤ 100000 → jP d n (s, o, k, l) = .ok x → x.2.2.2.length ≤ 900000
  | 0, s, o, k, l, m, x, _, _, _, h => by cases h
  | n + 1, s, o, k, l, m, x, hs, hk, hm, h => by
    unfold jP at h
    by_cases h0 : s = []
    · rw [if_pos h0] at h; cases h; have := hk.2.2; simp only; omega
    · rw [if_neg h0] at h
      cases e : eS d s o k l with
      | no e' => rw [e] at h; cases h
      | ok y =>
        rw [e] at h
        obtain ⟨s', o', k', l'⟩ := y
        have h1 := li h0 e
        have h2 := xz hk e
        have hp := List.length_pos_iff.2 h0
        simp only at h1 h2 h
        exact run_kp (m := m - 1) (by omega) ⟨h2.1, h2.2.1, by have := h2.2.2; omega⟩ (by omega) h
theorem tok_len {d : Bs → Option Bs} {s : Bs} (hs : s.length ≤ 100000) : (mY d s).1.length ≤ 900000 := by
  rw [pz]
  cases e : jP d (s.length + 1) (s, [], 0, []) with
  | no e => simp [tokE]
  | ok x =>
    have := run_kp (m := s.length) (Nat.le_refl _) ⟨by simp, by omega, by simp⟩ hs e
    obtain ⟨s', o', k', l'⟩ := x;show (if o' = [] ∧ 0 < k' then (l', (0 : Int)) else ([], 2)).1.length ≤ _
    split
    · exact this
    · simp
end Go.Xm
namespace Go.Xm
open Go.Pv Go.Av
theorem uH {p s : Bs} {o : List Bs} {k : Nat} {l : List Tok} {e : Int} (h : jr p s o k l = .no e) : e ≠ 0 := by
  unfold jr at h
  split at h <;> (cases h; try decide)
theorem step_no {d : Bs → Option Bs} {s : Bs} {o : List Bs} {k : Nat} {l : List Tok} {e : Int} (h : eS d s o k l = .no e) : e ≠ 0 := by
  unfold eS at h
  split at h
  · unfold ka at h
    split at h
    · cases h; decide
    · split at h
      · split at h <;> (cases h; try decide)
      · cases h
  split at h
  · exact uH h
  split at h
  · exact uH h
  split at h
  · unfold oe at h
    split at h
    · cases h; decide
    · split at h <;> (cases h; try decide)
  split at h
  · exact uH h
  split at h
  · unfold qR at h
    split at h
    · cases h; decide
    · split at h
      · unfold lD at h
        split at h <;> (cases h; try decide)
      · cases h; decide
  · unfold mN at h
    split at h
    · cases h; decide
    · split at h
      · cases h; decide
      · unfold na at h
        split at h
        · cases h; decide
        · split at h
          · cases h; decide
          · split at h <;> cases h
theorem run_no {d : Bs → Option Bs} : ∀ {n : Nat} {x : Sx} {e : Int}, jP d n x = .no e → e ≠ 0
  | 0, x, e, h => by cases h; decide
  | n + 1, (s, o, k, l), e, h => by
    unfold jP at h
    split at h
    · cases h
    · cases g : eS d s o k l with
      | no e' => rw [g] at h; cases h; exact step_no g
      | ok y => rw [g] at h; exact run_no h
def AtS (l : List Tok) (m : Nat) : Prop := ∀ t ∈ l, t.2.2.2.length ≤ m
theorem qu {d : Bs → Option Bs} : ∀ {k : Nat} {as_ : List At} {s : Bs} {bs : List At} {e : Bool} {r : Bs}, gN d k as_ s = some (bs, e, r) → bs.length ≤ as_.length + s.length
  | 0, _, _, _, _, _, h => by cases h
  | k + 1, as_, s, bs, e, r, h => by
    have hd := sb gt s
    unfold gN at h
    split at h
    · cases h; omega
    · split at h
      · cases h; omega
      · split at h
        · cases h
        · cases ea : nd d (s.dropWhile gt) with
          | none => rw [ea] at h; cases h
          | some x =>
            obtain ⟨a, r'⟩ := x
            rw [ea] at h
            simp only at h
            have h1 := nP ea
            split at h
            · cases h
            · have := qu h
              rw [List.length_append, List.length_singleton] at this
              omega
theorem pC {l : List Tok} {m : Nat} (h : AtS l m) {t : Tok} (ht : t.2.2.2.length ≤ m) : AtS (l ++ [t]) m := fun x hx => by
  rcases List.mem_append.1 hx with hx | hx
  · exact h x hx
  · rw [List.mem_singleton.1 hx]; exact ht
theorem ww {l : List Tok} {m : Nat} (h : AtS l m) (t : Bs) : AtS (lC t l) m := by
  unfold lC
  split
  · exact h
  · exact pC h (by simp)
theorem ats_step {d : Bs → Option Bs} {s : Bs} {o : List Bs} {k : Nat} {l : List Tok} {m : Nat} {x : Sx} (h : AtS l m) (hs : s.length ≤ m) (e : eS d s o k l = .ok x) : AtS x.2.2.2 m := by
  have sk : ∀ {p s' : Bs} {y : Sx}, jr p s' o k l = .ok y → AtS y.2.2.2 m := fun q => by
    rw [nB q]; exact h
  unfold eS at e
  split at e
  · unfold ka at e
    split at e
    · cases e
    · split at e
      · split at e
        · cases e; exact h
        · cases e
      · cases e; exact ww h _
  split at e
  · exact sk e
  split at e
  · exact sk e
  split at e
  · unfold oe at e
    split at e
    · cases e
    · split at e
      · cases e
      · cases e; exact ww h _
  split at e
  · exact sk e
  split at e
  · unfold qR at e
    split at e
    · cases e
    · split at e
      · unfold lD at e
        split at e
        · cases e; exact pC h (by simp)
        · cases e
      · cases e
  · unfold mN at e
    split at e
    · cases e
    · rename_i n r en
      have hr := congrArg List.length (iG en).1
      rw [List.length_append, List.length_drop] at hr
      split at e
      · cases e
      · rename_i as_ em r' ea
        have ha := qu ea
        rw [List.length_nil] at ha
        have ha' : as_.length ≤ m := by omega
        unfold na at e
        split at e
        · cases e
        · split at e
          · cases e
          · split at e
            · cases e; exact pC (pC h ha') (by simp)
            · cases e; exact pC h ha'
theorem xX {d : Bs → Option Bs} {m : Nat} : ∀ {n : Nat} {x y : Sx}, AtS x.2.2.2 m → x.1.length ≤ m → jP d n x = .ok y → AtS y.2.2.2 m
  | 0, _, _, _, _, h => by cases h
  | n + 1, (s, o, k, l), y, ha, hs, h => by
    unfold jP at h
    by_cases h0 : s = []
    · rw [if_pos h0] at h; cases h; exact ha
    · rw [if_neg h0] at h
      cases e : eS d s o k l with
      | no e' => rw [e] at h; cases h
      | ok z =>
        rw [e] at h
        have h1 := li h0 e
        exact xX (ats_step ha hs e) (by simp only at hs; omega) h
theorem tok_ats {d : Bs → Option Bs} {s : Bs} {m : Nat} (hs : s.length ≤ m) : AtS (mY d s).1 m := by
  rw [pz]
  cases e : jP d (s.length + 1) (s, [], 0, []) with
  | no e => exact fun t ht => by cases ht
  | ok x =>
    have := xX (m := m) (x := (s, [], 0, [])) (fun t ht => by cases ht) hs e
    obtain ⟨s', o', k', l'⟩ := x;show AtS (if o' = [] ∧ 0 < k' then (l', (0 : Int)) else ([], 2)).1 m
    split
    · exact this
    · exact fun t ht => by cases ht
end Go.Xm
namespace Go.Fd
open Go.Pv Go.Av
open Go.Xm
theorem gcI {α : Type} {c : Bool} {n : Int} {k : Option α} (h : -9223372036854775808 ≤ n ∧ n ≤ 9223372036854775807) : fv c (okI n) k = k := by
  cases c with
  | false => exact eA
  | true => rw [kF, bM h]
theorem tZ {α β ρ : Type} {f : α → β → Option ρ} : fw (none : Option (α × β)) f = none := Eq.symm (Eq.symm rfl)
theorem last_at {o : List Bs} (h : o ≠ []) : at_ o ((o.length : Int) - 1) = o.getLast h := by
  have h1 := List.length_pos_iff.2 h
  have e : (o.length : Int) - 1 = ((o.length - 1 : Nat) : Int) := by omega
  rw [e, fJ (by omega), List.getLast_eq_getElem]
theorem to_last {o : List Bs} (h : o ≠ []) : to_ o ((o.length : Int) - 1) = o.dropLast := by
  have h1 := List.length_pos_iff.2 h
  have e : (o.length : Int) - 1 = ((o.length - 1 : Nat) : Int) := by omega
  rw [e, mX, List.dropLast_eq_take]
theorem qo (a : El) (ha : a.length ≤ 1000000) : ∀ (n i : Nat) (o : List Bs), a.length - i < n → i ≤ a.length → o.length ≤ i →
    dD a n (o, (i : Int)) = some (if i = 0 ∧ a = [] then false else me (decide (i = 0)) o (a.drop i))
  | 0, i, o, h, _, _ => by omega
  | n + 1, i, o, hn, hi, ho => by
    show gr a (dD a n) o (i : Int) = _
    unfold gr
    by_cases h : i < a.length
    · have hd : a.drop i = a[i] :: a.drop (i + 1) := bb h
      have h0 : ¬ (i = 0 ∧ a = []) := fun z => by rw [z.2] at h; simp at h
      have hs : ∀ o' : List Bs, o'.length ≤ i + 1 → dC (i : Int) (dD a n) o' = some (me false o' (a.drop (i + 1))) := fun o' ho' => by
        unfold dC
        rw [bM (by omega), co, qo a ha n (i + 1) o' (by omega) (by omega) ho', if_neg (by omega), decide_eq_false (by omega)]
      rw [bT (by omega), cS (by omega), bg, fJ h, if_neg h0, hd]
      have e1 : ((decide (0 < (i : Int))) && (decide ((o.length : Int) = 0))) = decide (decide (i = 0) = false ∧ o = []) := by
        cases o with
        | nil => by_cases z : i = 0 <;> simp [z] <;> omega
        | cons x r => simp; omega
      rw [e1, me]
      by_cases c0 : decide (i = 0) = false ∧ o = []
      · rw [decide_eq_true c0, if_pos c0]; rfl
      rw [decide_eq_false c0, if_neg c0, cond_false]
      by_cases c1 : a[i].1 = 0
      · rw [decide_eq_true c1, if_pos c1, cond_true, cP (by simp; omega), bg, hs _ (by simp; omega)]
      rw [decide_eq_false c1, if_neg c1, cond_false]
      by_cases hoe : o = []
      · subst hoe
        have e2 : (decide (a[i].1 = 1) && decide (0 < ((([] : List Bs).length : Nat) : Int))) = false := by simp
        rw [e2, eA, eA, eA, bg, Bool.false_and, cond_false, if_neg (by simp)]
        have e3 : ((!decide (a[i].1 = 2)) || (decide (((([] : List Bs).length : Nat) : Int) = 0))) = true := by simp
        rw [e3, cond_true]; simp
      · have h1 := List.length_pos_iff.2 hoe
        have g1 : ∀ {α : Type} (c : Bool) (k : Option α), fv c (okI ((o.length : Int) - 1)) k = k := fun c k => gcI (by omega)
        have g2 : ∀ {α : Type} (c : Bool) (k : Option α), fv c (dx ((o.length : Int) - 1) o.length) k = k := fun c k => nX fun _ => ⟨by omega, by omega⟩
        rw [g1, g2, g2, bg, last_at hoe]
        have e2 : decide (0 < (o.length : Int)) = true := decide_eq_true (by omega)
        rw [e2, Bool.and_true, List.getLast?_eq_some_getLast hoe]
        by_cases c2 : a[i].1 = 1 ∧ some (o.getLast hoe) = some a[i].2.1
        · rw [if_pos c2, decide_eq_true c2.1, decide_eq_true (aj c2.2), Bool.and_true, cond_true, bM (by omega), dZ (by omega), bg, to_last hoe, hs _ (by rw [List.length_dropLast]; omega)]
        · have e3 : (decide (a[i].1 = 1) && decide (o.getLast hoe = a[i].2.1)) = false := by
            cases q : decide (a[i].1 = 1) && decide (o.getLast hoe = a[i].2.1) with
            | false => rfl
            | true =>
              rw [Bool.and_eq_true] at q
              exact absurd ⟨of_decide_eq_true q.1, congrArg some (of_decide_eq_true q.2)⟩ c2
          rw [if_neg c2, e3, cond_false]
          by_cases c3 : a[i].1 = 2
          · have e4 : ((!decide (a[i].1 = 2)) || (decide ((o.length : Int) = 0))) = false := by rw [decide_eq_true c3, decide_eq_false (by omega)]; rfl
            rw [e4, cond_false, if_neg (fun z => z.elim (fun q => q c3) hoe), hs _ (by omega)]
          · rw [decide_eq_false c3, if_pos (.inl c3)]; rfl
    · have hi2 : i = a.length := by omega
      rw [bF (by omega)]
      unfold gq
      subst hi2
      rw [List.drop_length]
      cases a with
      | nil => simp
      | cons x r =>
        rw [if_neg (by simp)]
        cases o with
        | nil => simp [me] <;> omega
        | cons y q => simp [me] <;> omega
theorem yv {F : Nat} (a : El) (ha : a.length ≤ 1000000) (hF : a.length < F) : jV F a = some (me true [] a) := by
  unfold jV
  rw [show ((([] : List Bs), (0 : Int)) : List Bs × Int) = ([], ((0 : Nat) : Int)) from rfl, qo a ha F 0 [] (by omega) (by omega) (by simp)]
  by_cases h : a = []
  · subst h; rfl
  · rw [if_neg (fun z => h z.2), decide_eq_true rfl, List.drop_zero]
def od {σ α : Type} (k : σ → α → Option (σ × Bool)) : σ → List α → Option σ
  | s, [] => some s
  | s, p :: ps => fw (k s p) fun s' b => bif !b then some s' else od k s' ps
theorem nz (a : El) {f i : Nat} (hf : f ≤ i) (hi : i < a.length) : (a.drop f).take (i - f) ++ [a[i]] = (a.drop f).take (i + 1 - f) := by
  have e : i + 1 - f = (i - f) + 1 := by omega
  rw [e, List.take_succ_eq_append_getElem (by simp; omega)]
  congr 2
  simp
  congr 1
  omega
theorem ru {σ : Type} (a : El) (ha : a.length ≤ 1000000) (k : σ → El → Option (σ × Bool)) : ∀ (n f i : Nat) (d : Int) (s : σ), a.length - i < n → f ≤ i → i ≤ a.length → - (i : Int) ≤ d → d ≤ i →
    dY a k n (d, (f : Int), (i : Int), s) = od k s (bS d ((a.drop f).take (i - f)) (a.drop i))
  | 0, f, i, d, s, h, _, _, _, _ => by omega
  | n + 1, f, i, d, s, hn, hf, hi, hd1, hd2 => by
    show hO a k (dY a k n) d (f : Int) (i : Int) s = _
    unfold hO
    by_cases h : i < a.length
    · have hd : a.drop i = a[i] :: a.drop (i + 1) := bb h
      have hj : ∀ (f' : Nat) (d' : Int) (s' : σ), f' ≤ i + 1 → - ((i + 1 : Nat) : Int) ≤ d' → d' ≤ ((i + 1 : Nat) : Int) → cV (i : Int) (dY a k n) d' (f' : Int) s' = od k s' (bS d' ((a.drop f').take (i + 1 - f')) (a.drop (i + 1))) := fun f' d' s' h1 h2 h3 => by
        unfold cV
        rw [bM (by omega), co, ru a ha k n f' (i + 1) d' s' (by omega) h1 (by omega) h2 h3]
      rw [bT (by omega), cS (by omega), bg, fJ h, hd, bS]
      by_cases c1 : a[i].1 = 0
      · rw [decide_eq_true c1, if_pos c1, cond_true, bM (by omega)]
        by_cases c2 : d + 1 = 2
        · rw [decide_eq_true c2, if_pos c2, cond_true, hj i (d + 1) s (by omega) (by omega) (by omega)]
          have : (a.drop i).take (i + 1 - i) = [a[i]] := by
            rw [hd, show i + 1 - i = 1 by omega]; rfl
          rw [this]
        · rw [decide_eq_false c2, if_neg c2, cond_false, hj f (d + 1) s (by omega) (by omega) (by omega), nz a hf h]
      rw [decide_eq_false c1, if_neg c1, cond_false]
      by_cases c3 : a[i].1 = 1
      · rw [decide_eq_true c3, if_pos c3, cond_true, bM (by omega)]
        by_cases c4 : d - 1 = 1
        · rw [decide_eq_true c4, if_pos c4, cond_true, bM (by omega), bM (by omega), lU (by omega), bg]
          have e : sub a (f : Int) ((i : Int) + 1) = (a.drop f).take (i - f) ++ [a[i]] := by
            rw [nz a hf h, co, qT, List.drop_take]
          rw [e, od]
          cases k s ((a.drop f).take (i - f) ++ [a[i]]) with
          | none => rw [tZ, tZ]
          | some r =>
            obtain ⟨s', b⟩ := r
            rw [aO, aO]
            cases b with
            | false => rw [Bool.not_false, cond_true, cond_true]
            | true =>
              rw [Bool.not_true, cond_false, cond_false, hj f (d - 1) s' (by omega) (by omega) (by omega), nz a hf h]
        · rw [decide_eq_false c4, if_neg c4, cond_false, hj f (d - 1) s (by omega) (by omega) (by omega), nz a hf h]
      · rw [decide_eq_false c3, if_neg c3, cond_false, hj f d s (by omega) (by omega) (by omega), nz a hf h]
    · rw [bF (by omega), bf (show a.length ≤ i by omega), bS, od]
theorem vR {σ : Type} {F : Nat} (a : El) (ha : a.length ≤ 1000000) (hF : a.length < F) (k : σ → El → Option (σ × Bool)) (s : σ) : fg F k s a = od k s (gh a) := by
  unfold fg
  have := ru a ha k F 0 0 0 s (by omega) (by omega) (by omega) (by omega) (by omega)
  simpa [gh] using this
theorem yD (p : El → Bool) (k : Bool × El × Nat → El → Option ((Bool × El × Nat) × Bool)) (ps : List El)
    (hk : ∀ y ∈ ps, ∀ (f : Bool) (x : El), k (f, x, 0) y = if p y = true then some ((true, y, 1), false) else some ((f, x, 0), true)) :
    ∀ (f : Bool) (x : El), od k (f, x, 0) ps = some (match ps.find? p with | none => (f, x, 0) | some y => (true, y, 1)) := by
  induction ps with
  | nil => intro f x; rfl
  | cons y ps ih =>
    intro f x
    rw [od, hk y List.mem_cons_self, List.find?_cons]
    cases h : p y with
    | true => rfl
    | false =>
      rw [if_neg (by simp), aO, Bool.not_true, cond_false, ih fun z hz => hk z (List.mem_cons_of_mem _ hz)]
def uE (o : Option El) : El × Bool := match o with | none => ([], false) | some y => (y, true)
end Go.Fd
namespace Go.Pn
open Go.Pv Go.Av
theorem gone_43 (F : Nat) : ∀ (n : Nat) (s : Bs) (ok : Bool) (acc : Bs), s.length < n → s.length ≤ 100000 → s.length + 20 < F → acc.length + 2 * s.length ≤ 1000000 → ∃ o k, eR F n (s, ok, acc) = some (o, k) ∧ 3 * o.length ≤ 3 * acc.length + 4 * s.length := by
  intro n
  induction n with
  | zero => intro s ok acc h; omega
  | succ n ih =>
    intro s ok acc hn hs hF ha;show ∃ o k, gy F (eR F n) s ok acc = some (o, k) ∧ _
    unfold gy gx
    obtain ⟨hi1, hi2⟩ := lz s 38
    by_cases h : Go.Lib.indexByte s 38 < 0
    · simp (disch := (first | omega | (simp; done) | (simp; omega))) only [bg, bT, qK]
      exact ⟨_, _, rfl, by simp; omega⟩
    · obtain ⟨i, hi⟩ : ∃ i : Nat, Go.Lib.indexByte s 38 = i := ⟨(Go.Lib.indexByte s 38).toNat, by omega⟩
      have il : i < s.length := by omega
      have l1 : (to_ s (i : Int)).length = i := by simp [mX]; omega
      have l2 : (cY s (i : Int)).length = s.length - i := by simp [lk]
      obtain ⟨o, k, ho, hk⟩ := tr F (cY s (i : Int)) (by omega) (by omega) (by omega)
      simp (disch := (first | omega | (simp; done) | (simp; omega))) only [bg, hi, bF, dZ, qK, ho, aO]
      rcases hk with rfl | ⟨k3, kl, ol⟩
      · have l3 : (cY (cY s (i : Int)) 1).length = s.length - i - 1 := by simp [cY, l2]; omega
        simp (disch := (first | omega | (simp; done) | (simp; omega))) only [decide_true, cond_true, qK, bg, dZ]
        obtain ⟨o', k', e1, e2⟩ := ih (cY (cY s (i : Int)) 1) false (acc ++ to_ s (i : Int) ++ [38]) (by omega) (by omega) (by omega) (by simp; omega);exact ⟨o', k', e1, by simp at e2; omega⟩
      · have l3 : (cY (cY s (i : Int)) k).length = s.length - i - k.toNat := by simp [cY]; omega
        simp (disch := (first | omega | (simp; done) | (simp; omega))) only [bF, qK, bg, dZ]
        obtain ⟨o', k', e1, e2⟩ := ih (cY (cY s (i : Int)) k) ok (acc ++ to_ s (i : Int) ++ o) (by omega) (by omega) (by omega) (by simp; omega);exact ⟨o', k', e1, by simp at e2; omega⟩
end Go.Pn
namespace Go.Fd
open Go.Pv Go.Av
open Go.Xm
def DecT (d : Bs → Option Bs) : Prop := ∀ s t : Bs, s.length ≤ 100000 → d s = some t → 3 * t.length ≤ 4 * s.length
theorem dec_43 {F : Nat} (hF : 1500000 < F) : DecT (dec F) := fun s t hs h => by
  obtain ⟨o, k, h1, h2⟩ := Go.Pn.gone_43 F F s true [] (by omega) hs (by omega) (by simp; omega)
  have h3 : nE F s = some (o, k) := h1
  rw [Go.Pn.goneG F (by omega) s hs] at h3
  have e := aj h3
  unfold dec at h
  rw [e] at h
  rw [List.length_nil] at h2
  cases k with
  | false => cases h
  | true => have : o = t := aj h; rw [← this]; omega
theorem tw_le (f : UInt8 → Bool) (s : Bs) : (s.takeWhile f).length + (s.dropWhile f).length = s.length := by
  have := congrArg List.length (List.takeWhile_append_dropWhile (p := f) (l := s))
  rwa [List.length_append] at this
def tx (l : El) : Nat := (df l).length
theorem xv (t : Bs) (l : El) : tx (lC t l) = tx l + t.length := by
  unfold lC
  by_cases h : t = []
  · rw [if_pos h, h]; rfl
  · rw [if_neg h]
    unfold tx
    rw [kW, List.length_append, iI, if_pos rfl]
    simp [df]
theorem uW (l : El) {x : Tok} (h : x.1 ≠ 2) : tx (l ++ [x]) = tx l := by
  unfold tx
  rw [kW, List.length_append, iI, if_neg h]
  simp [df]
section
variable {d : Bs → Option Bs} (hd : DecT d)
include hd
theorem step_tx {s : Bs} {o : List Bs} {k : Nat} {l : El} {x : Sx} (hs : s.length ≤ 100000) (h : eS d s o k l = .ok x) : 3 * tx x.2.2.2 + 4 * x.1.length ≤ 3 * tx l + 4 * s.length := by
  have sk : ∀ {p s' : Bs} {y : Sx}, p ≠ [] → s'.length ≤ s.length → jr p s' o k l = .ok y → 3 * tx y.2.2.2 + 4 * y.1.length ≤ 3 * tx l + 4 * s.length := fun hp hl q => by
    obtain ⟨h1, h2⟩ := ip hp q
    rw [h2]
    simp only
    omega
  unfold eS at h
  split at h
  · unfold ka at h
    have hl := tw_le (fun c => decide (c ≠ 60)) s
    split at h
    · cases h
    · rename_i t ht
      have := hd _ t (by omega) ht
      split at h
      · split at h
        · cases h; simp only; omega
        · cases h
      · cases h
        simp only [xv]; omega
  split at h
  · exact sk (by simp) (by simp) h
  split at h
  · exact sk (by simp) (by simp) h
  split at h
  · unfold oe at h
    cases e : lM [93, 93, 62] (s.drop 9) with
    | none => rw [e] at h; cases h
    | some y =>
      obtain ⟨t, r⟩ := y
      have hl := congrArg List.length (mr (by simp) e)
      simp only [List.length_append, List.length_drop] at hl
      rw [e] at h
      simp only at h
      split at h
      · cases h
      · cases h
        simp only [xv]; omega
  split at h
  · exact sk (by simp) (by simp) h
  split at h
  · unfold qR at h
    cases e : gP (s.drop 2) with
    | none => rw [e] at h; cases h
    | some y =>
      obtain ⟨n, r⟩ := y
      have hl := congrArg List.length (iG e).1
      simp only [List.length_append, List.length_drop] at hl
      have hw := sb gt r
      rw [e] at h
      simp only at h
      split at h
      · unfold lD at h
        split at h
        · cases h
          simp only [List.length_drop]
          rw [uW _ (by simp)]
          omega
        · cases h
      · cases h
  · have hz := li (dec := d) (s := s) (o := o) (k := k) (l := l) (x := x)
    unfold mN at h
    cases e : gP (s.drop 1) with
    | none => rw [e] at h; cases h
    | some y =>
      obtain ⟨n, r⟩ := y
      have hl := congrArg List.length (iG e).1
      simp only [List.length_append, List.length_drop] at hl
      have hp := vZ (iG e).2
      rw [e] at h
      simp only at h
      cases ea : gN d (r.length + 1) [] r with
      | none => rw [ea] at h; cases h
      | some z =>
        obtain ⟨as_, em, r'⟩ := z
        have hw := oJ ea
        rw [ea] at h
        simp only at h
        unfold na at h
        split at h
        · cases h
        · split at h
          · cases h
          · split at h
            · cases h
              simp only
              rw [uW _ (by simp), uW _ (by simp)]
              omega
            · cases h
              simp only
              rw [uW _ (by simp)]
              omega
theorem run_tx : ∀ {n : Nat} {x y : Sx}, x.1.length ≤ 100000 → jP d n x = .ok y → 3 * tx y.2.2.2 + 4 * y.1.length ≤ 3 * tx x.2.2.2 + 4 * x.1.length
  | 0, _, _, _, h => by cases h
  | n + 1, (s, o, k, l), y, hs, h => by
    unfold jP at h
    by_cases h0 : s = []
    · rw [if_pos h0] at h; cases h; exact Nat.le_refl _
    · rw [if_neg h0] at h
      cases e : eS d s o k l with
      | no e' => rw [e] at h; cases h
      | ok z =>
        rw [e] at h
        have h1 := li h0 e
        have h2 := step_tx hd hs e
        simp only at hs h2 ⊢
        have := run_tx (x := z) (by omega) h
        omega
theorem tok_tx {s : Bs} (hs : s.length ≤ 100000) : 3 * tx (mY d s).1 ≤ 4 * s.length := by
  rw [pz]
  cases e : jP d (s.length + 1) (s, [], 0, []) with
  | no e => simp [tokE, tx, df]
  | ok x =>
    have := run_tx hd (x := (s, [], 0, [])) hs e
    obtain ⟨s', o', k', l'⟩ := x
    have e0 : tx [] = 0 := rfl
    simp only [e0] at this
    show 3 * tx (if o' = [] ∧ 0 < k' then (l', (0 : Int)) else ([], 2)).1 ≤ _
    split
    · simp only; omega
    · simp [tx, df]
end
end Go.Fd
namespace Go.Fd
open Go.Pv Go.Av
open Go.Xm
structure LocK (s : Bs) (k i : Nat) : Prop where
  le : k ≤ i
  at' : k = 0 ∨ ∃ h : k - 1 < s.length, s[k - 1] = 58
  no : ∀ (m : Nat) (h : m < s.length), k ≤ m → m < i → s[m] ≠ 58
theorem th (s : Bs) (hs : s.length ≤ 1000000) : ∀ (n j : Nat), j < n → j ≤ s.length → (∀ (m : Nat) (h : m < s.length), j ≤ m → s[m] ≠ 58) → ∃ k : Nat, LocK s k s.length ∧ gX s 58 n ((j : Int) - 1) = some ((k : Int) - 1)
  | 0, j, h, _, _ => by omega
  | n + 1, j, h, hj, hn => by
    show ∃ k : Nat, _ ∧ gY s 58 (gX s 58 n) ((j : Int) - 1) = _
    unfold gY
    by_cases g : j = 0
    · subst g
      refine ⟨0, ⟨by omega, .inl rfl, fun m h h1 _ => hn m h h1⟩, ?_⟩
      rw [bF (by omega)]; rfl
    · have g1 : j - 1 < s.length := by omega
      rw [bT (by omega), show (j : Int) - 1 = ((j - 1 : Nat) : Int) by omega, cS (by omega), bg, fJ g1]
      by_cases c : s[j - 1] = 58
      · rw [bT c]
        exact ⟨j, ⟨hj, .inr ⟨g1, c⟩, fun m h h1 _ => hn m h h1⟩, by congr 1; omega⟩
      · rw [bF c, bM (by omega)]
        refine th s hs n (j - 1) (by omega) (by omega) fun m h h1 => ?_
        by_cases w : j ≤ m
        · exact hn m h w
        · have : m = j - 1 := by omega
          subst this; exact c
theorem loc_drop {s : Bs} {k : Nat} (h : LocK s k s.length) : s.drop k = rY s := by
  have ha : ∀ c ∈ (s.drop k).reverse, decide (c ≠ (58 : UInt8)) = true := fun c hc => by
    obtain ⟨m, hm, rfl⟩ := List.getElem_of_mem (List.mem_reverse.1 hc)
    rw [List.getElem_drop]
    rw [List.length_drop] at hm
    exact decide_eq_true (h.no (k + m) (by omega) (by omega) (by omega))
  have e : s.reverse = (s.drop k).reverse ++ (s.take k).reverse := by rw [← List.reverse_append, List.take_append_drop]
  unfold rY
  rw [e, List.takeWhile_append_of_pos ha]
  have : (s.take k).reverse.takeWhile (fun c => decide (c ≠ (58 : UInt8))) = [] := by
    rcases h.at' with q | ⟨h1, h2⟩
    · subst q; rfl
    · have hk : 0 < k ∨ k = 0 := by omega
      rcases hk with hk | rfl
      · have e2 : s.take k = s.take (k - 1) ++ [s[k - 1]] := by
          have := List.take_succ_eq_append_getElem h1
          rwa [show k - 1 + 1 = k by omega] at this
        rw [e2, List.reverse_append, h2]; rfl
      · rfl
  rw [this, List.append_nil, List.reverse_reverse]
theorem local_eq {F : Nat} {s : Bs} (hs : s.length ≤ 1000000) (hF : 1500000 < F) : ny F s = some (rY s) := by
  obtain ⟨k, h1, h2⟩ := th s hs F s.length (by omega) (Nat.le_refl _) fun m h h1 => by omega
  have := h1.le
  unfold ny gC mA
  rw [bM (by omega), h2, aU, aU, bM (by omega), dZ (by omega), bg, show (k : Int) - 1 + 1 = (k : Int) by omega, lk, loc_drop h1]
theorem loc_len (s : Bs) : (rY s).length ≤ s.length := by
  unfold rY
  rw [List.length_reverse]
  have := (List.takeWhile_sublist (fun c => decide (c ≠ (58 : UInt8))) (l := s.reverse)).length_le
  rwa [List.length_reverse] at this
structure Sm (x : El) : Prop where
  len : x.length ≤ 1000000
  tx : tx x ≤ 1000000
  nm : ∀ t ∈ x, t.2.1.length ≤ 1000
  at' : ∀ t ∈ x, t.2.2.2.length ≤ 1000000
theorem Sm.part {x y : El} (h : Sm x) (hy : y ∈ gh x) : Sm y := by
  obtain ⟨h1, h2, h3⟩ := te hy;exact ⟨Nat.le_trans h2 h.len, Nat.le_trans h1 h.tx, fun t ht => h.nm t (h3 t ht), fun t ht => h.at' t (h3 t ht)⟩
theorem uM {x y : El} (hy : y ∈ gh x) : y ≠ [] := jy x 0 [] y hy
section
variable {F : Nat} (hF : 1500000 < F)
include hF
theorem kK {x : El} (h : Sm x) (hx : x ≠ []) : fh F x = some (pL x) ∧ (pL x).length ≤ 1000 := by
  obtain ⟨t, r, rfl⟩ := List.exists_cons_of_ne_nil hx
  have hn := h.nm t List.mem_cons_self
  have hl := loc_len t.2.1
  refine ⟨?_, Nat.le_trans hl hn⟩
  unfold fh
  rw [cS (by simp <;> omega), bg, show at_ (t :: r) 0 = t from rfl, local_eq (by omega) hF, aU]
  rfl
omit hF in
theorem ua (n : Bs) (t : Tok) (ha : t.2.2.2.length ≤ 1000000) : ∀ (m i : Nat), t.2.2.2.length - i < m → i ≤ t.2.2.2.length → jh n t m (i : Int) = some (match attL n (t.2.2.2.drop i) with | none => ([], false) | some s => (s, true))
  | 0, i, h, _ => by omega
  | m + 1, i, hm, hi => by
    show ji n t (jh n t m) (i : Int) = _
    unfold ji
    by_cases h : i < t.2.2.2.length
    · have hd : t.2.2.2.drop i = t.2.2.2[i] :: t.2.2.2.drop (i + 1) := bb h
      rw [bT (by omega), cS (by omega), bg, fJ h, hd]
      unfold attL
      rw [List.find?_cons]
      by_cases c : t.2.2.2[i].1 = n
      · rw [decide_eq_true c]; rfl
      · rw [decide_eq_false c, cond_false, bM (by omega), co, ua n t ha m (i + 1) (by omega) (by omega)]
        rfl
    · rw [bF (by omega), bf (by omega)]
      rfl
theorem wp {x : El} (h : Sm x) (hx : x ≠ []) (n : Bs) : kL F x n = some (match attO n x with | none => ([], false) | some s => (s, true)) := by
  obtain ⟨t, r, rfl⟩ := List.exists_cons_of_ne_nil hx
  have ht := h.at' t List.mem_cons_self
  unfold kL
  rw [cS (by simp <;> omega), bg, show at_ (t :: r) 0 = t from rfl]
  have := ua n t ht F 0 (by omega) (by omega)
  simpa [attO] using this
theorem oD (a : El) (ha : Sm a) : ∀ (n i : Nat) (acc : Bs), a.length - i < n → i ≤ a.length → acc.length + tx (a.drop i) ≤ 1000000 →
    eX F a n ((i : Int), acc) = some (Go.Pn.trim (acc ++ df (a.drop i)))
  | 0, i, acc, h, _, _ => by omega
  | n + 1, i, acc, hn, hi, hx => by
    show ib F a (eX F a n) (i : Int) acc = _
    unfold ib
    by_cases h : i < a.length
    · have hd : a.drop i = a[i] :: a.drop (i + 1) := bb h
      rw [bT (by omega), cS (by omega), bg, fJ h, hd, iI]
      have hl := ha.len
      have hx2 : acc.length + ((if a[i].1 = 2 then a[i].2.2.1 else []).length + tx (a.drop (i + 1))) ≤ 1000000 := by
        have := hx
        unfold tx at this ⊢
        rw [hd, iI, List.length_append] at this
        exact this
      unfold ge
      by_cases c : a[i].1 = 2
      · rw [if_pos c] at hx2 ⊢
        rw [decide_eq_true c, cond_true]
        unfold okW
        rw [kf (by omega), bg, bM (by omega), co, oD a ha n (i + 1) _ (by omega) (by omega) (by rw [List.length_append]; omega), List.append_assoc]
      · rw [if_neg c] at hx2 ⊢
        rw [decide_eq_false c, cond_false, bM (by omega), co, oD a ha n (i + 1) _ (by omega) (by omega) (by simp at hx2; omega), List.nil_append]
    · rw [bf (by omega)] at hx ⊢
      have hx3 : acc.length ≤ 1000000 := by omega
      rw [bF (by omega)]
      unfold ia okW
      rw [kf (by simp; omega), Go.Pn.ent_Trim_eq F acc hx3 (by omega), aU]
      simp [df]
theorem rE {a : El} (ha : Sm a) : fO F a = some (valP a) := by
  have hl := ha.len
  have := oD hF a ha F 0 [] (by omega) (by omega) (by simpa using ha.tx)
  unfold fO
  rw [show ((0 : Int), ([] : Bs)) = (((0 : Nat) : Int), []) from rfl, this, List.nil_append, List.drop_zero]
  rfl
omit hF in
theorem sm_nil : Sm [] := ⟨by simp, by simp [tx, df], fun t h => (by cases h), fun t h => (by cases h)⟩
structure NsOK (ns : List Bs) : Prop where
  join : oO ns [124] = true
  len : (Str.join [124] ns).length ≤ 1000
theorem ye {ns : List Bs} (hn : NsOK ns) {x : El} (h : Sm x) (hx : x ≠ []) : jU F x ns = some (qQ ns x) := by
  obtain ⟨h1, h2⟩ := kK hF h hx
  have hj := hn.len
  unfold jU
  rw [hn.join, nc, bg, cP (by simp; omega), bg, cP (by simp; omega), bg, h1, aU, cP (by simp; omega), bg, cP (by simp; omega), bg, mg (by simp; omega), bg]
  unfold qQ
  cases Go.Lib.contains ([124] ++ Str.join [124] ns ++ [124]) ([124] ++ pL x ++ [124]) with
  | false => simp only [lm, eA, bg, Bool.false_and]
  | true => rw [xt, aU, kF, mg (by omega), bg]
theorem topC_eq {x : El} (h : Sm x) (hx : x ≠ []) : mj F x = some (isN [99, 104, 97, 110, 110, 101, 108] x) := by
  unfold mj
  rw [(kK hF h hx).1, aU]
  rfl
end
end Go.Fd
namespace Go.Fd
open Go.Pv Go.Av
open Go.Xm (Bs At Tok)
open Go.Pn (bl T1 T2 trim)
abbrev oP : Bs := [103, 117, 105, 100]
abbrev gO : Bs := [116, 105, 116, 108, 101]
abbrev n_link : Bs := [108, 105, 110, 107]
abbrev n_desc : Bs := [100, 101, 115, 99, 114, 105, 112, 116, 105, 111, 110]
abbrev n_id : Bs := [105, 100]
abbrev n_summ : Bs := [115, 117, 109, 109, 97, 114, 121]
abbrev n_cont : Bs := [99, 111, 110, 116, 101, 110, 116]
abbrev n_upd : Bs := [117, 112, 100, 97, 116, 101, 100]
abbrev n_rel : Bs := [114, 101, 108]
abbrev n_alt : Bs := [97, 108, 116, 101, 114, 110, 97, 116, 101]
abbrev vb : Bs := [104, 114, 101, 102]
abbrev iW : Bs := [99, 104, 97, 110, 110, 101, 108]
abbrev nT : Bs := [105, 116, 101, 109]
abbrev xT : Bs := [101, 110, 116, 114, 121]
abbrev nb : Bs := [114, 115, 115]
abbrev n_feed : Bs := [102, 101, 101, 100]
def sJ (x : El) : Ent := (lL [oP] x, lL [gO] x, lL [n_link] x, lL [n_desc] x, 0)
def sa (y : El) : Bool := isN n_link y && (match attO n_rel y with | none => true | some r => decide (r = n_alt))
def linkV (x : El) : Bs := match lh sa x with | none => [] | some y => optS (attO vb y)
def atV (r : Int × Int) : Int := if r.2 = 0 ∧ 0 ≤ r.1 ∧ r.1 ≤ 253402300799 then r.1 else 0
def atomE (stp : Bs → Int × Int) (x : El) : Ent := (lL [n_id] x, lL [gO] x, linkV x, lL [n_summ, n_cont] x, atV (stp (lL [n_upd] x)))
def cutE (e : Ent) : Ent := (e.1, e.2.1, e.2.2.1, e.2.2.2.1.take 4000, e.2.2.2.2)
abbrev Fe := Bs × List Ent
def entL (item : Bs) (mk : El → Ent) (ps : List El) : List Ent := ((ps.filter (isN item)).take 200).map fun x => cutE (mk x)
def topP (top : El) (item : Bs) (mk : El → Ent) : Fe := (lL [gO] top, entL item mk (gh top))
def extP (stp : Bs → Int × Int) (x : El) : Fe × Int :=
  if me true [] x = false then (([], []), 2)
  else if pL x = nb then match lh (isN iW) x with
    | none => (([], []), 2)
    | some c => (topP c nT sJ, 0)
  else if pL x = n_feed then (topP x xT (atomE stp), 0)
  else (([], []), 2)
theorem cut_id {e : Ent} (h : e.2.2.2.1.length ≤ 4000) : cutE e = e := by
  obtain ⟨a, b, c, t, n⟩ := e;show (a, b, c, t.take 4000, n) = _
  rw [List.take_of_length_le h]
end Go.Fd
namespace Go.Fd
open Go.Pv Go.Av
open Go.Xm
section
variable {F : Nat} (hF : 1500000 < F)
include hF
theorem rN {a : El} (ha : Sm a) (p : El → Bool) (kk : Bool → El → Nat → El → Option ((Bool × El × Nat) × Bool))
    (hk : ∀ y : El, Sm y → y ≠ [] → ∀ (f : Bool) (x : El), kk f x 0 y = if p y = true then some ((true, y, 1), false) else some ((f, x, 0), true)) :
    (bnd (fg F (fun s x => kk s.1 s.2.1 s.2.2 x) (false, ([] : El), 0) a) fun x20 => bif decide (x20.2.2 = 0) then some (([] : El), false) else bif decide (x20.2.2 = 1) then some (x20.2.1, x20.1) else none) = some (uE (lh p a)) := by
  have hl := ha.len
  rw [vR a ha.len (by omega), yD p _ (gh a) (fun y hy f x => hk y (ha.part hy) (uM hy) f x), aU]
  unfold lh uE
  cases (gh a).find? p with
  | none => rfl
  | some y => rfl
theorem findV_eq {a : El} (ha : Sm a) {ns : List Bs} (hn : NsOK ns) : la F a ns = some (uE (lh (qQ ns) a)) := by
  refine Eq.trans ?_ (rN hF ha (qQ ns) (gb F ns) fun y hy h0 f x => ?_)
  · unfold la dF hP
    rw [aU]
  · unfold gb
    rw [kf rfl, ye hF hn hy h0, aU]
    cases qQ ns y with
    | false => rw [if_neg (by simp)]; rfl
    | true => rw [if_pos rfl]; rfl
theorem findT_eq {a : El} (ha : Sm a) : lb F a = some (uE (lh (isN iW) a)) := by
  refine Eq.trans ?_ (rN hF ha (isN iW) (gc F) fun y hy h0 f x => ?_)
  · unfold lb dF hU
    rw [aU]
  · unfold gc
    rw [kf rfl, topC_eq hF hy h0, aU]
    cases isN iW y with
    | false => rw [if_neg (by simp)]; rfl
    | true => rw [if_pos rfl]; rfl
theorem yF {x : El} (h : Sm x) (hx : x ≠ []) : jW F x = some (sa x) := by
  unfold jW sa isN
  rw [wp hF h hx]
  cases attO n_rel x with
  | none => rw [aO, (kK hF h hx).1, aU, Bool.not_false, Bool.true_or]
  | some r => rw [aO, (kK hF h hx).1, aU, Bool.not_true, Bool.false_or]
theorem findE_eq {a : El} (ha : Sm a) : lc F a = some (uE (lh sa a)) := by
  refine Eq.trans ?_ (rN hF ha sa (gd F) fun y hy h0 f x => ?_)
  · unfold lc dF hZ
    rw [aU]
  · unfold gd
    rw [kf rfl, yF hF hy h0, aU]
    cases sa y with
    | false => rw [if_neg (by simp)]; rfl
    | true => rw [if_pos rfl]; rfl
theorem kH {a : El} (ha : Sm a) {ns : List Bs} (hn : NsOK ns) : da F a ns = some (lL ns a) := by
  unfold da lL
  rw [findV_eq hF ha hn]
  cases e : lh (qQ ns) a with
  | none =>
    show (fw (some (([] : El), false)) fun x6 x7 => bnd (fO F x6) fun x9 => some x9) = _
    rw [aO, rE hF sm_nil, aU]
    rfl
  | some y =>
    have hy := ha.part (List.mem_of_find?_eq_some e)
    show (fw (some (y, true)) fun x6 x7 => bnd (fO F x6) fun x9 => some x9) = _
    rw [aO, rE hF hy, aU]
    rfl
omit hF in
theorem ok1 {n : Bs} (h : n.length ≤ 900) : NsOK [n] := ⟨by
    unfold oO
    refine decide_eq_true ⟨?_, ?_⟩
    · simp [Str.total]; omega
    · simp, by simp [Str.join, Str.rest]; omega⟩
theorem rss_eq {a : El} (ha : Sm a) : jD F a = some (sJ a) := by
  unfold jD sJ
  rw [kH hF ha (ok1 (by decide)), aU, kH hF ha (ok1 (by decide)), aU, kH hF ha (ok1 (by decide)), aU, kH hF ha (ok1 (by decide)), aU]
end
end Go.Fd
namespace Go.Fd
open Go.Pv Go.Av
def leap (y : Int) : Bool := (decide (y % 4 = 0)) && ((!decide (y % 100 = 0)) || (decide (y % 400 = 0)))
theorem Leap_eq (F : Nat) (y : Int) (h : 1 ≤ y ∧ y ≤ 9999) : lf F y = some (leap y) := by
  have hg : ∀ (q : Bool) (c : Int) (x : Option Bool), 1 ≤ c → fv q (dS y c) x = x := fun q c x hc => by
    cases q with
    | false => exact eA
    | true => rw [kF, gn (by omega)]
  unfold lf
  rw [gn (by omega), hg _ _ _ (by omega), hg _ _ _ (by omega)]; rfl
def dm (y m : Int) : Int := at_ ([0, 31, bif leap y then 29 else 28, 31, 30, 31, 30, 31, 31, 30, 31, 30, 31] : List Int) m
theorem Days_eq (F : Nat) (y m : Int) (h : 1 ≤ y ∧ y ≤ 9999) : lg F y m = some (bif (decide (m < 1)) || (decide (12 < m)) then 0 else dm y m) := by
  unfold lg jM nN
  rw [Leap_eq F y h, aU]
  cases hm : (decide (m < 1)) || (decide (12 < m)) with
  | true => rfl
  | false =>
    simp only [Bool.or_eq_false_iff, decide_eq_false_iff_not] at hm
    rw [cond_false]
    have hg : grd (okI (28 + 1)) (some ((28 : Int) + 1)) = some 29 := by rw [bM (by omega)]; rfl
    rw [hg]
    unfold dm
    cases leap y <;> simp only [cond_true, cond_false, aU] <;> rw [cS (by omega), bg]
def num (y m d : Int) : Int :=
  let y' := if m ≤ 2 then y - 1 else y
  let m' := if m ≤ 2 then m + 12 else m
  ((((((((146097 * (y' / 400)) + (365 * (y' % 400))) + ((y' % 400) / 4)) - ((y' % 400) / 100)) + (((153 * (m' - 3)) + 2) / 5)) + d) - 1) - 719468)
theorem vW (d y m : Int) (hy : 0 ≤ y ∧ y ≤ 9999) (hm : 3 ≤ m ∧ m ≤ 14) (hd : 1 ≤ d ∧ d ≤ 31) : dN d y m = some ((((((((146097 * (y / 400)) + (365 * (y % 400))) + ((y % 400) / 4)) - ((y % 400) / 100)) + (((153 * (m - 3)) + 2) / 5)) + d) - 1) - 719468) := by
  unfold dN
  simp (disch := omega) only [gn, bM]
theorem yt (F : Nat) (y m d : Int) (hy : 1 ≤ y ∧ y ≤ 9999) (hm : 1 ≤ m ∧ m ≤ 12) (hd : 1 ≤ d ∧ d ≤ 31) : jk F y m d = some (num y m d) := by
  unfold jk num
  by_cases h : m ≤ 2
  · rw [bT h, bM (by omega), bM (by omega), vW d (y - 1) (m + 12) (by omega) (by omega) hd]
    simp only [if_pos h]
  · rw [bF h, vW d y m (by omega) (by omega) hd]
    simp only [if_neg h]
theorem dm_le (y m : Int) (hm : 1 ≤ m ∧ m ≤ 12) : dm y m ≤ 31 := by
  unfold dm
  obtain ⟨k, rfl⟩ : ∃ k : Nat, m = k := ⟨m.toNat, by omega⟩
  have hk : k < 13 := by omega
  rw [fJ (by simpa using hk)]
  have h2 : ∀ k : Fin 13, ([0, 31, bif leap y then 29 else 28, 31, 30, 31, 30, 31, 31, 30, 31, 30, 31] : List Int)[k] ≤ 31 := by
    intro k
    cases leap y <;> revert k <;> decide
  exact h2 ⟨k, hk⟩
def pN (y m d : Int) : Bool := !((((decide (y < 1)) || (decide (9999 < y))) || (decide (d < 1))) || (decide ((bif (decide (m < 1)) || (decide (12 < m)) then 0 else dm y m) < d)))
theorem xN {y m d : Int} (h : pN y m d = true) : (1 ≤ y ∧ y ≤ 9999) ∧ (1 ≤ m ∧ m ≤ 12) ∧ (1 ≤ d ∧ d ≤ 31) := by
  unfold pN at h
  simp only [Bool.not_eq_true', Bool.or_eq_false_iff, decide_eq_false_iff_not] at h
  obtain ⟨⟨⟨h1, h2⟩, h3⟩, h4⟩ := h
  cases hm : (decide (m < 1)) || (decide (12 < m)) with
  | true => rw [hm, cond_true] at h4; omega
  | false =>
    rw [hm, cond_false] at h4
    simp only [Bool.or_eq_false_iff, decide_eq_false_iff_not] at hm
    have := dm_le y m (by omega)
    omega
theorem Ord_eq (F : Nat) (y m d : Int) : kQ F y m d = some (bif pN y m d then (num y m d, 0) else (0, 1)) := by
  unfold kQ
  cases hc : ((decide (y < 1)) || (decide (9999 < y))) || (decide (d < 1)) with
  | true =>
    have : pN y m d = false := by unfold pN; rw [hc]; rfl
    rw [this]; rfl
  | false =>
    have hc' := hc
    simp only [Bool.or_eq_false_iff, decide_eq_false_iff_not] at hc'
    rw [Days_eq F y m (by omega)]
    simp only [Bool.not_false, xt, aU, Bool.false_or]
    have e : pN y m d = !decide ((bif (decide (m < 1)) || (decide (12 < m)) then 0 else dm y m) < d) := by unfold pN; rw [hc, Bool.false_or]
    cases hd : decide ((bif (decide (m < 1)) || (decide (12 < m)) then 0 else dm y m) < d) with
    | true => rw [e, hd]; rfl
    | false =>
      rw [hd] at e
      obtain ⟨h1, h2, h3⟩ := xN (e.trans rfl)
      rw [e, yt F y m d h1 h2 h3]; rfl
theorem yu (y m d : Int) (h : pN y m d = true) : -1000000 ≤ num y m d ∧ num y m d ≤ 10000000 := by
  obtain ⟨h1, h2, h3⟩ := xN h
  unfold num
  by_cases h : m ≤ 2
  · simp only [if_pos h]; omega
  · simp only [if_neg h]; omega
end Go.Fd
namespace Go.Fd
open Go.Pv Go.Av
abbrev Bs := List UInt8
def Tl {α : Type} (s : Bs) (q : α → Prop) (o : Option (Res (α × Bs))) : Prop := ∃ r, o = some r ∧ match r with
  | .pan _ => True
  | .ok x => q x.1 ∧ x.2.length ≤ s.length
theorem xQ (F : Nat) (s : Bs) (n : Nat) (h1 : 1 ≤ n) : Tl s (fun t => t.length = n) (fe F s (n : Int)) := by
  unfold fe
  by_cases h : s.length < n
  · rw [bT (by omega)]
    exact ⟨_, rfl, trivial⟩
  · rw [bF (by omega)]
    unfold fZ
    rw [dZ (by omega), bg, dZ (by omega), bg]
    refine ⟨_, rfl, ?_, ?_⟩
    · simp [mX]; omega
    · simp [lk]
def mx : Nat → Int
  | 0 => 0
  | 1 => 9
  | 2 => 99
  | 3 => 999
  | _ => 9999
theorem mx_le (i : Nat) : mx i ≤ 9999 := by
  have : i = 0 ∨ i = 1 ∨ i = 2 ∨ i = 3 ∨ ∃ j, i = j + 4 := by
    by_cases h : i < 4
    · omega
    · exact .inr (.inr (.inr (.inr ⟨i - 4, by omega⟩)))
  rcases this with rfl | rfl | rfl | rfl | ⟨j, rfl⟩
  · decide
  · decide
  · decide
  · decide
  · exact Int.le_refl _
theorem mx_step {i : Nat} (h : i < 4) : mx i * 10 + 9 ≤ mx (i + 1) := by
  have : i = 0 ∨ i = 1 ∨ i = 2 ∨ i = 3 := by omega
  rcases this with rfl | rfl | rfl | rfl <;> decide
theorem qn (x : Bs × Bs) (hx : x.1.length ≤ 4) : ∀ (n i : Nat) (a : Int), x.1.length - i < n → i ≤ x.1.length → 0 ≤ a → a ≤ mx i → ∃ r, dK x n (a, (i : Int)) = some r ∧ match r with
    | .pan _ => True
    | .ok y => (0 ≤ y.1 ∧ y.1 ≤ 9999) ∧ y.2 = x.2
  | 0, i, a, h, _, _, _ => by omega
  | n + 1, i, a, hn, hi, h0, ha => by
    have h99 := mx_le i
    show ∃ r, fT x (dK x n) a (i : Int) = some r ∧ _
    unfold fT
    by_cases h : i < x.1.length
    · rw [bT (by omega), cS (by omega), bg, fJ h]
      cases hc : (decide ((x.1[i].toNat : Int) < 48)) || (decide (57 < (x.1[i].toNat : Int))) with
      | true => exact ⟨_, rfl, trivial⟩
      | false =>
        rw [Bool.or_eq_false_iff] at hc
        have c1 := of_decide_eq_false hc.1
        have c2 := of_decide_eq_false hc.2
        have e : ((x.1[i] - 48).toNat : Int) = (x.1[i].toNat : Int) - 48 := by
          rw [UInt8.toNat_sub_of_le _ _ (by rw [UInt8.le_iff_toNat_le]; show 48 ≤ _; omega)]
          show ((x.1[i].toNat - 48 : Nat) : Int) = _
          omega
        have hs := mx_step (i := i) (by omega)
        rw [cond_false]
        unfold fS
        rw [e, bM (by omega), bM (by omega), bM (by omega), co]
        exact qn x hx n (i + 1) _ (by omega) (by omega) (by omega) (by omega)
    · rw [bF (by omega)]
      exact ⟨_, rfl, ⟨h0, by omega⟩, rfl⟩
theorem bif_any {α : Type} {p : α → Prop} {c : Bool} {x y : α} (h1 : p x) (h2 : p y) : p (bif c then x else y) := by
  cases c
  · exact h2
  · exact h1
def In9 (n : Int) : Prop := 0 ≤ n ∧ n ≤ 9999
section
variable {F : Nat} (hF : 1500000 < F)
include hF
theorem pQ (s : Bs) (n : Nat) (h1 : 1 ≤ n) (h4 : n ≤ 4) : Tl s In9 (dU F s (n : Int)) := by
  obtain ⟨r, e, hr⟩ := xQ F s n h1
  unfold dU
  rw [e]
  cases r with
  | pan p => rw [bU]; exact ⟨_, rfl, trivial⟩
  | ok x =>
    obtain ⟨k1, k2⟩ := hr
    rw [bN, cP (by omega)]
    obtain ⟨q, e2, hq⟩ := qn x (by omega) F 0 0 (by omega) (by omega) (by omega) (by decide);refine ⟨q, e2, ?_⟩
    cases q with
    | pan p => trivial
    | ok y => exact ⟨hq.1, by rw [hq.2]; exact k2⟩
theorem one_tl (s w : Bs) (hw : w.length ≤ 100) : Tl s (fun _ => True) (iR F s w) := by
  obtain ⟨r, e, hr⟩ := xQ F s 1 (by omega)
  unfold iR
  rw [show (1 : Int) = ((1 : Nat) : Int) from rfl, e]
  cases r with
  | pan p => rw [bU]; exact ⟨_, rfl, trivial⟩
  | ok x =>
    obtain ⟨k1, k2⟩ := hr
    rw [bN, mg (by omega), bg]
    cases Go.Lib.contains w x.1 with
    | false => exact ⟨_, rfl, trivial⟩
    | true =>
      rw [Bool.not_true, cond_false]
      unfold jg
      rw [cS (by omega), bg]
      exact ⟨_, rfl, trivial, k2⟩
theorem mR (s w : Bs) (hw : w.length ≤ 100) (n : Nat) (h1 : 1 ≤ n) (h4 : n ≤ 4) : Tl s In9 (du F s w (n : Int)) := by
  obtain ⟨r, e, hr⟩ := one_tl hF s w hw
  unfold du
  rw [e]
  cases r with
  | pan p => rw [bU]; exact ⟨_, rfl, trivial⟩
  | ok x =>
    obtain ⟨q, e2, hq⟩ := pQ hF x.2 n h1 h4
    rw [bN, e2]
    cases q with
    | pan p => rw [bU]; exact ⟨_, rfl, trivial⟩
    | ok y => rw [bN]; exact ⟨_, rfl, hq.1, Nat.le_trans hq.2 hr.2⟩
def Tf (s : Bs) (o : Option (Res Bs)) : Prop := ∃ r, o = some r ∧ match r with
  | .pan _ => True
  | .ok x => x.length ≤ s.length
theorem tp : ∀ (n : Nat) (s : Bs), s.length < n → Tf s (eK F n s)
  | 0, s, h => by omega
  | n + 1, s, h => by
    show Tf s (eL F (eK F n) s)
    unfold eL
    by_cases hs : s = []
    · subst hs
      have e : (!decide (([] : List UInt8) = [])) = false := by decide
      rw [e, eA, bg, Bool.false_and, eA, bg, Bool.false_and, cond_false]
      exact ⟨_, rfl, Nat.le_refl _⟩
    · have hp := List.length_pos_iff.2 hs
      rw [nX (fun _ => by omega), bg, nX (fun _ => by omega), bg]
      cases ((!decide (s = ([] : List UInt8))) && (decide (48 ≤ ((at_ s 0).toNat : Int)))) && (decide (((at_ s 0).toNat : Int) ≤ 57)) with
      | false => exact ⟨_, rfl, Nat.le_refl _⟩
      | true =>
        rw [cond_true]
        unfold fe
        rw [bF (by omega)]
        unfold fZ
        rw [dZ (by omega), bg, dZ (by omega), bg, bN]
        have hl : (cY s 1).length = s.length - 1 := by simp [cY]
        obtain ⟨r, e, hr⟩ := tp n (cY s 1) (by omega);refine ⟨r, e, ?_⟩
        cases r with
        | pan p => trivial
        | ok x => exact Nat.le_trans hr (by omega)
theorem frac_tl (s : Bs) (hs : s.length ≤ 1000000) : Tf s (er F s) := by
  unfold er jJ iZ
  have hg : ∀ {k : Option (Option Bool)} , True := fun {_} => trivial
  by_cases h : ((([46] : List UInt8).length : Nat) : Int) ≤ (s.length : Int)
  · rw [decide_eq_true h, kF, dZ (by simp at h ⊢; omega), bg, aU, aU, Bool.true_and]
    cases decide (to_ s ((([46] : List UInt8).length : Nat) : Int) = [46]) with
    | false => exact ⟨_, rfl, Nat.le_refl _⟩
    | true =>
      rw [Bool.not_true, cond_false]
      obtain ⟨r, e, hr⟩ := mR hF s [46] (by simp) 1 (by omega) (by omega)
      rw [show ((1 : Nat) : Int) = 1 from rfl] at e
      rw [e]
      cases r with
      | pan p => rw [bU]; exact ⟨_, rfl, trivial⟩
      | ok x =>
        rw [bN]
        have := hr.2
        obtain ⟨q, e2, hq⟩ := tp hF F x.2 (by omega);refine ⟨q, e2, ?_⟩
        cases q with
        | pan p => trivial
        | ok y => exact Nat.le_trans hq this
  · rw [decide_eq_false h, eA, bg, aU, aU, Bool.false_and]
    exact ⟨_, rfl, Nat.le_refl _⟩
theorem zone_tl (s : Bs) : Tl s (fun n => -100000000 ≤ n ∧ n ≤ 100000000) (iw F s) := by
  obtain ⟨r, e, hr⟩ := one_tl hF s [90, 122, 43, 45] (by simp)
  unfold iw
  rw [e]
  cases r with
  | pan p => rw [bU]; exact ⟨_, rfl, trivial⟩
  | ok x =>
    rw [bN]
    cases (decide (x.1 = 90)) || (decide (x.1 = 122)) with
    | true => exact ⟨_, rfl, ⟨by simp, by simp⟩, hr.2⟩
    | false =>
      rw [cond_false]
      obtain ⟨q, e2, hq⟩ := pQ hF x.2 2 (by omega) (by omega)
      rw [show ((2 : Nat) : Int) = 2 from rfl] at e2
      rw [e2]
      cases q with
      | pan p => rw [bU]; exact ⟨_, rfl, trivial⟩
      | ok y =>
        rw [bN]
        obtain ⟨u, e3, hu⟩ := mR hF y.2 [58] (by simp) 2 (by omega) (by omega)
        rw [show ((2 : Nat) : Int) = 2 from rfl] at e3
        rw [e3]
        cases u with
        | pan p => rw [bU]; exact ⟨_, rfl, trivial⟩
        | ok z =>
          rw [bN]
          unfold jn
          rw [aU, dv]
          have hy := hq.1
          have hz := hu.1
          unfold In9 at hy hz
          have hl := hq.2
          have hm := hu.2
          have hr2 := hr.2
          generalize ((!((decide (0 ≤ y.1)) && (decide (y.1 < 24)))) || (!bif !(!((decide (0 ≤ y.1)) && (decide (y.1 < 24)))) then (decide (0 ≤ z.1)) && (decide (z.1 < 60)) else default)) = b
          cases b with
          | true => exact ⟨_, rfl, trivial⟩
          | false =>
            rw [cond_false]
            unfold hC
            cases decide (x.1 = 45) with
            | true =>
              rw [cond_true, bM (by omega), bM (by omega), bM (by omega), bM (by omega)]
              exact ⟨_, rfl, ⟨by simp only; omega, by simp only; omega⟩, by simp only; omega⟩
            | false =>
              rw [cond_false, bM (by omega), bM (by omega), bM (by omega)]
              exact ⟨_, rfl, ⟨by simp only; omega, by simp only; omega⟩, by simp only; omega⟩
theorem of_tot (a b c d e f : Int) (h4 : In9 d) (h5 : In9 e) (h6 : In9 f) : ∃ n k, nA F a b c d e f = some (n, k) ∧ -1000000000000000 ≤ n ∧ n ≤ 1000000000000000 := by
  unfold In9 at h4 h5 h6
  unfold nA nG jn
  rw [Ord_eq F a b c]
  cases ho : pN a b c with
  | false =>
    rw [cond_false, aO, dv, dv, dv, aU]
    exact ⟨_, _, rfl, by decide, by decide⟩
  | true =>
    rw [cond_true, aO, dv, dv, dv, aU]
    obtain ⟨r1, r2⟩ := yu a b c ho
    generalize num a b c = n at r1 r2
    refine bif_any (p := fun o => ∃ n k, o = some (n, k) ∧ -1000000000000000 ≤ n ∧ n ≤ 1000000000000000) ⟨_, _, rfl, by decide, by decide⟩ ?_
    rw [aO, bM (by omega), bM (by omega), bM (by omega), bM (by omega), bM (by omega), bM (by omega)]
    exact ⟨_, _, rfl, by omega, by omega⟩
theorem yq (s : Bs) (hs : s.length ≤ 1000000) : ∃ r, iJ F s = some r := by
  unfold iJ
  have c2 : ((2 : Nat) : Int) = 2 := rfl
  obtain ⟨r, e, h⟩ := pQ hF s 4 (by omega) (by omega)
  rw [show ((4 : Nat) : Int) = 4 from rfl] at e
  rw [e]
  cases r with
  | pan p => rw [gE]; exact ⟨_, rfl⟩
  | ok x1 =>
  rw [ke]
  obtain ⟨r, e, h2⟩ := mR hF x1.2 [45] (by simp) 2 (by omega) (by omega)
  rw [c2] at e; rw [e]
  cases r with
  | pan p => rw [gE]; exact ⟨_, rfl⟩
  | ok x2 =>
  rw [ke]
  obtain ⟨r, e, h3⟩ := mR hF x2.2 [45] (by simp) 2 (by omega) (by omega)
  rw [c2] at e; rw [e]
  cases r with
  | pan p => rw [gE]; exact ⟨_, rfl⟩
  | ok x3 =>
  rw [ke]
  obtain ⟨r, e, h4⟩ := mR hF x3.2 [84, 116] (by simp) 2 (by omega) (by omega)
  rw [c2] at e; rw [e]
  cases r with
  | pan p => rw [gE]; exact ⟨_, rfl⟩
  | ok x4 =>
  rw [ke]
  obtain ⟨r, e, h5⟩ := mR hF x4.2 [58] (by simp) 2 (by omega) (by omega)
  rw [c2] at e; rw [e]
  cases r with
  | pan p => rw [gE]; exact ⟨_, rfl⟩
  | ok x5 =>
  rw [ke]
  obtain ⟨r, e, h6⟩ := mR hF x5.2 [58] (by simp) 2 (by omega) (by omega)
  rw [c2] at e; rw [e]
  cases r with
  | pan p => rw [gE]; exact ⟨_, rfl⟩
  | ok x6 =>
  rw [ke]
  have l1 := h.2
  have l2 := h2.2
  have l3 := h3.2
  have l4 := h4.2
  have l5 := h5.2
  have l6 := h6.2
  obtain ⟨r, e, h7⟩ := frac_tl hF x6.2 (by omega)
  rw [e]
  cases r with
  | pan p => rw [gE]; exact ⟨_, rfl⟩
  | ok x7 =>
  rw [ke]
  obtain ⟨r, e, h8⟩ := zone_tl hF x7
  rw [e]
  cases r with
  | pan p => rw [gE]; exact ⟨_, rfl⟩
  | ok x8 =>
  rw [ke]
  obtain ⟨n, k, e, b1, b2⟩ := of_tot hF x1.1 x2.1 x3.1 x4.1 x5.1 x6.1 h4.1 h5.1 h6.1
  rw [e, aO]
  cases (!decide (k = 0)) || (!decide (x8.2 = ([] : List UInt8))) with
  | true => exact ⟨_, rfl⟩
  | false =>
    rw [cond_false]
    unfold gp
    have := h8.1
    rw [bM (by omega)]
    exact ⟨_, rfl⟩
end
end Go.Fd
namespace Go.Fd
open Go.Pv Go.Av
open Go.Xm
def stP (F : Nat) (s : Bs) : Int × Int := match iJ F s with | none => (0, 0) | some r => r
theorem to_4000 (s : Bs) : to_ s (min (s.length : Int) 4000) = s.take 4000 := by
  have e : (min (s.length : Int) 4000) = ((min s.length 4000 : Nat) : Int) := by omega
  rw [e, mX]
  by_cases h : s.length ≤ 4000
  · rw [Nat.min_eq_left h, List.take_length, List.take_of_length_le h]
  · rw [Nat.min_eq_right (by omega)]
theorem rM (item : Bs) (mk : El → Ent) (k : List Ent × Nat → El → Option ((List Ent × Nat) × Bool)) : ∀ (ps : List El) (l : List Ent), l.length ≤ 200 →
    (∀ y ∈ ps, ∀ l : List Ent, l.length ≤ 200 → k (l, 0) y = if isN item y = true then (if l.length = 200 then some ((l, 1), false) else some ((l ++ [cutE (mk y)], 0), true)) else some ((l, 0), true)) →
    ∃ z : Nat, od k (l, 0) ps = some (l ++ ((ps.filter (isN item)).take (200 - l.length)).map (fun x => cutE (mk x)), z) ∧ (z = 0 ∨ z = 1)
  | [], l, hl, hk => ⟨0, by rw [od, List.filter_nil, List.take_nil, List.map_nil, List.append_nil], .inl rfl⟩
  | y :: ps, l, hl, hk => by
    have hk' := fun z hz => hk z (List.mem_cons_of_mem _ hz)
    rw [od, hk y List.mem_cons_self l hl]
    by_cases h : isN item y = true
    · rw [if_pos h, List.filter_cons_of_pos h]
      by_cases h2 : l.length = 200
      · rw [if_pos h2, aO, Bool.not_false, cond_true]
        refine ⟨1, ?_, .inr rfl⟩
        rw [h2, Nat.sub_self, List.take_zero, List.map_nil, List.append_nil]
      · rw [if_neg h2, aO, Bool.not_true, cond_false]
        obtain ⟨z, e, hz⟩ := rM item mk k ps (l ++ [cutE (mk y)]) (by rw [List.length_append, List.length_singleton]; omega) hk';refine ⟨z, ?_, hz⟩
        have e2 : 200 - l.length = (200 - (l ++ [cutE (mk y)]).length) + 1 := by rw [List.length_append, List.length_singleton]; omega
        rw [e, e2, List.take_succ_cons, List.map_cons, List.append_assoc]
        rfl
    · rw [if_neg h, List.filter_cons_of_neg h, aO, Bool.not_true, cond_false]
      exact rM item mk k ps l hl hk'
section
variable {F : Nat} (hF : 1500000 < F)
include hF
theorem uF {a : El} (ha : Sm a) (ns : List Bs) : (lL ns a).length ≤ 1000000 := Nat.le_trans (valN_len ns a) ha.tx
theorem ok2 : NsOK [n_summ, n_cont] := ⟨by decide, by decide⟩
theorem atom_eq {a : El} (ha : Sm a) : iC F a = some (atomE (stP F) a) := by
  have hj : ∀ x9 x11 x13 y : Bs, eY F a x9 x11 x13 y = some (x9, x11, y, x13, atV (stP F (lL [n_upd] a))) := fun x9 x11 x13 y => by
    unfold eY gg
    obtain ⟨r, hr⟩ := yq hF (lL [n_upd] a) (uF hF ha _)
    have hs : stP F (lL [n_upd] a) = r := by unfold stP; rw [hr]
    obtain ⟨t, f⟩ := r
    rw [kH hF ha (ok1 (by decide)), aU, hr, aO, hs]
    unfold atV
    by_cases h : f = 0 ∧ 0 ≤ t ∧ t ≤ 253402300799
    · rw [if_pos h, decide_eq_true h.1, decide_eq_true h.2.1, decide_eq_true h.2.2]
      rfl
    · rw [if_neg h]
      have e : (((decide (f = 0)) && (decide (0 ≤ t))) && (decide (t ≤ 253402300799))) = false := by
        cases q : ((decide (f = 0)) && (decide (0 ≤ t))) && (decide (t ≤ 253402300799)) with
        | false => rfl
        | true =>
          rw [Bool.and_eq_true, Bool.and_eq_true] at q
          exact absurd ⟨of_decide_eq_true q.1.1, of_decide_eq_true q.1.2, of_decide_eq_true q.2⟩ h
      rw [e, cond_false]
  unfold iC atomE
  rw [kH hF ha (ok1 (by decide)), aU, kH hF ha (ok1 (by decide)), aU, kH hF ha (ok2 hF), aU, findE_eq hF ha]
  unfold linkV
  cases e : lh sa a with
  | none =>
    show (fw (some (([] : El), false)) fun x16 x17 => _) = _
    rw [aO, cond_false, hj]
  | some y =>
    have hm := List.mem_of_find?_eq_some e
    show (fw (some (y, true)) fun x16 x17 => _) = _
    rw [aO, cond_true, wp hF (ha.part hm) (uM hm)]
    cases hq : attO vb y with
    | none =>
      rw [aO, hj]
      show _ = some (lL [n_id] a, lL [gO] a, optS (attO vb y), _, _)
      rw [hq]; rfl
    | some s =>
      rw [aO, hj]
      show _ = some (lL [n_id] a, lL [gO] a, optS (attO vb y), _, _)
      rw [hq]; rfl
theorem round_eq {b : Bool} {item : Bs} {mk : El → Ent} (hi : ikm (some b) (nC F) (mm F) = some item) {y : El} (hy : Sm y) (h0 : y ≠ []) (hm : ikm (some b) (jD F y) (iC F y) = some (mk y)) (hl : (mk y).2.2.2.1.length ≤ 1000000)
    (l : List Ent) (hn : l.length ≤ 200) : di F (some b) l 0 y = if isN item y = true then (if l.length = 200 then some ((l, 1), false) else some ((l ++ [cutE (mk y)], 0), true)) else some ((l, 0), true) := by
  unfold di
  rw [kf rfl, (kK hF hy h0).1, aU, hi, aU]
  by_cases h : isN item y = true
  · have h' : decide (pL y = item) = true := h
    rw [if_pos h, h', Bool.not_true, cond_false]
    by_cases h2 : l.length = 200
    · rw [if_pos h2, decide_eq_true (show (l.length : Int) = 200 by omega), cond_true]
    · rw [if_neg h2, decide_eq_false (show ¬ (l.length : Int) = 200 by omega), cond_false, hm]
      have hl2 := hl
      generalize mk y = e at hl2 ⊢
      obtain ⟨e1, e2, e3, e4, e5⟩ := e
      have hl' : e4.length ≤ 1000000 := hl2
      show (grd _ _) = _
      rw [dZ (by omega), bg, cP (by simp; omega), bg, to_4000]
      rfl
  · have h' : decide (pL y = item) = false := by
      cases q : decide (pL y = item) with
      | false => rfl
      | true => exact absurd q h
    rw [if_neg h, h', Bool.not_false, cond_true]
def outF (r : Fe × Int) : Bs × List Ent × Int := (r.1.1, r.1.2, r.2)
theorem xy {b : Bool} {item : Bs} {mk : El → Ent} (hi : ikm (some b) (nC F) (mm F) = some item) (hm : ∀ y : El, Sm y → ikm (some b) (jD F y) (iC F y) = some (mk y) ∧ (mk y).2.2.2.1.length ≤ 1000000) {top : El} (ht : Sm top) :
    (bnd (da F top ([gO] : List Bs)) fun x19 => bnd (dF F top) fun _ => bnd (fg F (fun s x => di F (some b) s.1 s.2 x) ([], 0) top) fun x51 =>
      bif decide (x51.2 = 0) then dj x19 x51.1 else bif decide (x51.2 = 1) then dj x19 x51.1 else none) = some (outF (topP top item mk, 0)) := by
  have hl := ht.len
  unfold dF dj
  rw [kH hF ht (ok1 (by decide)), aU, aU, vR top ht.len (by omega)]
  obtain ⟨z, e, hz⟩ := rM item mk (fun s x => di F (some b) s.1 s.2 x) (gh top) [] (by simp) fun y hy l hn =>
    round_eq hF hi (ht.part hy) (uM hy) (hm y (ht.part hy)).1 (hm y (ht.part hy)).2 l hn
  rw [e, aU]
  rcases hz with rfl | rfl
  · rfl
  · rfl
theorem ext_eq {l : El} (h : Sm l) (h0 : l ≠ []) : jj F l = some (outF (extP (stP F) l)) := by
  have hl := h.len
  unfold jj extP
  rw [yv l h.len (by omega), aU]
  cases hn : me true [] l with
  | false => rfl
  | true =>
    rw [Bool.not_true, cond_false, if_neg (by simp)]
    unfold qY
    rw [(kK hF h h0).1, aU]
    by_cases h1 : pL l = nb
    · rw [decide_eq_true h1, if_pos h1, cond_true, aO, Bool.not_true, cond_false]
      have e : ikm (some true) (nW F l) (pw F l) = some (uE (lh (isN iW) l)) := by
        show nW F l = _
        unfold nW
        rw [findT_eq hF h]; rfl
      rw [e]
      cases hc : lh (isN iW) l with
      | none => rfl
      | some c =>
        have hm := List.mem_of_find?_eq_some hc
        show (fw (some (c, true)) fun x15 x16 => _) = _
        rw [aO, Bool.not_true, cond_false]
        exact xy hF (b := true) (item := nT) (mk := sJ) rfl (fun y hy => ⟨rss_eq hF hy, uF hF hy _⟩) (h.part hm)
    · rw [decide_eq_false h1, if_neg h1, cond_false]
      by_cases h2 : pL l = n_feed
      · rw [decide_eq_true h2, if_pos h2, cond_true, aO, Bool.not_true, cond_false]
        show (fw (some (l, true)) fun x15 x16 => _) = _
        rw [aO, Bool.not_true, cond_false]
        exact xy hF (b := false) (item := xT) (mk := atomE (stP F)) rfl (fun y hy => ⟨atom_eq hF hy, uF hF hy _⟩) h
      · rw [decide_eq_false h2, if_neg h2]
        rfl
end
end Go.Fd
namespace Go.Xm
section
variable (enc : Bs → Bs)
end
def Dist : List At → Prop
  | [] => True
  | a :: r => (∀ b ∈ r, b.1 ≠ a.1) ∧ Dist r
def oM (t : Tok) : Prop :=
  (t.1 = 0 ∧ gL t.2.1 = true ∧ t.2.2.1 = [] ∧ (∀ a ∈ t.2.2.2, gL a.1 = true) ∧ Dist t.2.2.2) ∨
  (t.1 = 1 ∧ gL t.2.1 = true ∧ t.2.2.1 = [] ∧ t.2.2.2 = []) ∨ (t.1 = 2 ∧ t.2.1 = [] ∧ t.2.2.1 ≠ [] ∧ t.2.2.2 = [])
theorem tW : ∀ {l : List At} {a : At}, Dist l → (∀ b ∈ l, b.1 ≠ a.1) → Dist (l ++ [a])
  | [], a, _, _ => ⟨by simp, trivial⟩
  | x :: l, a, ⟨h1, h2⟩, h => by
    refine ⟨fun b hb => ?_, tW h2 fun b hb => h b (List.mem_cons_of_mem _ hb)⟩
    rcases List.mem_append.1 hb with hb | hb
    · exact h1 b hb
    · rw [List.mem_singleton.1 hb]; exact fun e => h x List.mem_cons_self e.symm
section
variable {dec : Bs → Option Bs}
theorem xh {s : Bs} {a : At} {r : Bs} (h : nd dec s = some (a, r)) : gL a.1 = true := by
  unfold nd at h
  cases e : gP s with
  | none => rw [e] at h; cases h
  | some x =>
    obtain ⟨n, r'⟩ := x
    have hn := (iG e).2
    rw [e] at h
    simp only at h
    have hv : ∀ q s' , qN dec n q s' = some (a, r) → a.1 = n := fun q s' hh => by
      unfold qN at hh
      split at hh
      · cases hh
      · split at hh
        · cases hh
        · split at hh
          · cases hh
          · cases hh; rfl
    split at h
    · rw [hv _ _ h]; exact hn
    · split at h
      · rw [hv _ _ h]; exact hn
      · cases h
theorem qv : ∀ {k : Nat} {as_ : List At} {s : Bs} {bs : List At} {e : Bool} {r : Bs}, gN dec k as_ s = some (bs, e, r) → (∀ a ∈ as_, gL a.1 = true) → Dist as_ → (∀ a ∈ bs, gL a.1 = true) ∧ Dist bs
  | 0, _, _, _, _, _, h, _, _ => by cases h
  | k + 1, as_, s, bs, e, r, h, h1, h2 => by
    unfold gN at h
    split at h
    · cases h; exact ⟨h1, h2⟩
    · split at h
      · cases h; exact ⟨h1, h2⟩
      · split at h
        · cases h
        · cases ea : nd dec (s.dropWhile gt) with
          | none => rw [ea] at h; cases h
          | some x =>
            obtain ⟨a, r'⟩ := x
            rw [ea] at h
            simp only at h
            split at h
            · cases h
            · rename_i g
              refine qv h (fun b hb => ?_) (tW h2 fun b hb e => g ?_)
              · rcases List.mem_append.1 hb with hb | hb
                · exact h1 b hb
                · rw [List.mem_singleton.1 hb]; exact xh ea
              · rw [List.any_eq_true]; exact ⟨b, hb, decide_eq_true e⟩
theorem tj {l : List Tok} (h : ∀ t ∈ l, oM t) (x : Bs) : ∀ t ∈ lC x l, oM t := by
  unfold lC
  split
  · exact h
  · rename_i g
    intro t ht
    rcases List.mem_append.1 ht with ht | ht
    · exact h t ht
    · rw [List.mem_singleton.1 ht]; exact .inr (.inr ⟨rfl, rfl, g, rfl⟩)
theorem rL {l : List Tok} (h : ∀ t ∈ l, oM t) {x : Tok} (hx : oM x) : ∀ t ∈ l ++ [x], oM t := fun t ht => by
  rcases List.mem_append.1 ht with ht | ht
  · exact h t ht
  · rw [List.mem_singleton.1 ht]; exact hx
theorem yy {s : Bs} {o : List Bs} {k : Nat} {l : List Tok} {x : Sx} (h : ∀ t ∈ l, oM t) (e : eS dec s o k l = .ok x) : ∀ t ∈ x.2.2.2, oM t := by
  unfold eS at e
  split at e
  · unfold ka at e
    split at e
    · cases e
    · split at e
      · split at e
        · cases e; exact h
        · cases e
      · cases e; exact tj h _
  split at e
  · have := (ip (by simp) e).2
    rw [this]; exact h
  split at e
  · have := (ip (by simp) e).2
    rw [this]; exact h
  split at e
  · unfold oe at e
    split at e
    · cases e
    · split at e
      · cases e
      · cases e; exact tj h _
  split at e
  · have := (ip (by simp) e).2
    rw [this]; exact h
  split at e
  · unfold qR at e
    split at e
    · cases e
    · rename_i n r hn
      split at e
      · unfold lD at e
        split at e
        · cases e; exact rL h (.inr (.inl ⟨rfl, (iG hn).2, rfl, rfl⟩))
        · cases e
      · cases e
  · unfold mN at e
    split at e
    · cases e
    · rename_i n r hn
      split at e
      · cases e
      · rename_i as_ em r' ha
        obtain ⟨g1, g2⟩ := qv ha (by simp) trivial
        have hn' := (iG hn).2
        have ho := rL h (x := (0, n, [], as_)) (.inl ⟨rfl, hn', rfl, g1, g2⟩)
        unfold na at e
        split at e
        · cases e
        · split at e
          · cases e
          · split at e
            · cases e; exact rL ho (.inr (.inl ⟨rfl, hn', rfl, rfl⟩))
            · cases e; exact ho
theorem wi : ∀ {n : Nat} {x y : Sx}, (∀ t ∈ x.2.2.2, oM t) → jP dec n x = .ok y → ∀ t ∈ y.2.2.2, oM t
  | 0, x, y, h, e => by cases e
  | n + 1, (s, o, k, l), y, h, e => by
    unfold jP at e
    split at e
    · cases e; exact h
    · cases es : eS dec s o k l with
      | no e' => rw [es] at e; cases e
      | ok z =>
        rw [es] at e
        exact wi (yy h es) e
variable {enc : Bs → Bs}
structure Enc (dec : Bs → Option Bs) (enc : Bs → Bs) : Prop where
  back : ∀ t, dec (enc t) = some t
  no : ∀ t, ∀ c ∈ enc t, c ≠ 60 ∧ c ≠ 34
  ne : ∀ t, t ≠ [] → enc t ≠ []
theorem rG {f : UInt8 → Bool} {c : UInt8} (hc : f c = false) (r : Bs) : ∀ {a : Bs}, a.all f = true → (a ++ c :: r).takeWhile f = a ∧ (a ++ c :: r).dropWhile f = c :: r
  | [], _ => by
    rw [List.nil_append, List.takeWhile_cons, List.dropWhile_cons, hc]
    exact ⟨rfl, rfl⟩
  | x :: a, h => by
    rw [List.all_cons, Bool.and_eq_true] at h
    obtain ⟨i1, i2⟩ := rG hc r h.2
    rw [List.cons_append, List.takeWhile_cons, List.dropWhile_cons, h.1, if_pos rfl, if_pos rfl, i1, i2]
    exact ⟨rfl, rfl⟩
theorem wa {n : Bs} {c : UInt8} (r : Bs) (h : gL n = true) (hc : lq c = false) : gP (n ++ c :: r) = some (n, c :: r) := by
  have ha : n.all lq = true := by
    cases n with
    | nil => cases h
    | cons a b =>
      unfold gL at h
      simp only [Bool.and_eq_true] at h
      exact h.2.1
  obtain ⟨h1, h2⟩ := rG hc r ha
  unfold gP
  rw [h1, h2, if_pos h]
theorem yw {n : Bs} (h : gL n = true) : ∃ c r, n = c :: r ∧ letB c = true := by
  cases n with
  | nil => cases h
  | cons c r =>
    unfold gL at h
    simp only [Bool.and_eq_true] at h
    exact ⟨c, r, rfl, h.1⟩
theorem let_not {c : UInt8} (h : letB c = true) : gt c = false ∧ c ≠ 62 ∧ c ≠ 47 ∧ c ≠ 33 ∧ c ≠ 63 := by
  have : ∀ k : Fin 256, letB (UInt8.ofNat k.val) = true → gt (UInt8.ofNat k.val) = false ∧ UInt8.ofNat k.val ≠ 62 ∧ UInt8.ofNat k.val ≠ 47 ∧ UInt8.ofNat k.val ≠ 33 ∧ UInt8.ofNat k.val ≠ 63 := by decide +kernel
  have h1 := this ⟨c.toNat, c.toNat_lt⟩
  simp only [UInt8.ofNat_toNat] at h1
  exact h1 h
theorem pre_not {c x : UInt8} {p r : Bs} (h : x ≠ c) : (c :: p).isPrefixOf (x :: r) = false := by
  have : (c == x) = false := by simpa using fun e => h e.symm
  simp [List.isPrefixOf, this]
end
end Go.Xm
namespace Go.Xm
section
variable {dec : Bs → Option Bs} {enc : Bs → Bs}
def rd (dec : Bs → Option Bs) (s : Bs) (o : List Bs) (k : Nat) (l : List Tok) : Rx := jP dec (s.length + 1) (s, o, k, l)
theorem rd_nil (o : List Bs) (k : Nat) (l : List Tok) : rd dec [] o k l = .ok ([], o, k, l) := by
  unfold rd jP; rw [if_pos rfl]
theorem uL {s : Bs} {o : List Bs} {k : Nat} {l : List Tok} {s' : Bs} {o' : List Bs} {k' : Nat} {l' : List Tok} (hs : s ≠ []) (h : eS dec s o k l = .ok (s', o', k', l')) : rd dec s o k l = rd dec s' o' k' l' := by
  have hl := li hs h
  unfold rd
  rw [jP, if_neg hs, h]
  exact vO (by simpa using hl) (by simp)
def kN (o : List Bs) (k : Nat) : Nat := if o = [] then k + 1 else k
theorem tok_rd {s : Bs} {l : List Tok} (h : rd dec s [] 0 [] = .ok ([], [], 1, l)) : mY dec s = (l, 0) := by
  have : jP dec (s.length + 1) (s, [], 0, []) = .ok ([], [], 1, l) := h
  unfold mY
  rw [this]
  simp
end
end Go.Xm
namespace Go.Fd
open Go.Pv Go.Av
open Go.Xm
theorem tok_ok {d : Bs → Option Bs} {s : Bs} (h : (mY d s).2 = 0) : ∃ (s' : Bs) (k : Nat), jP d (s.length + 1) (s, [], 0, []) = .ok (s', [], k, (mY d s).1) ∧ 0 < k := by
  rw [pz] at h ⊢
  cases e : jP d (s.length + 1) (s, [], 0, []) with
  | no e' => rw [e] at h; exact absurd h (run_no e)
  | ok y =>
    obtain ⟨s', o, k, l⟩ := y
    rw [e] at h
    have h1 : (if o = [] ∧ 0 < k then (l, (0 : Int)) else ([], 2)).2 = 0 := h
    by_cases g : o = [] ∧ 0 < k
    · obtain ⟨g1, g2⟩ := g
      subst g1;refine ⟨s', k, ?_, g2⟩;show Rx.ok (s', [], k, l) = Rx.ok (s', [], k, (if ([] : List Bs) = [] ∧ 0 < k then (l, (0 : Int)) else ([], 2)).1)
      rw [if_pos ⟨rfl, g2⟩]
    · rw [if_neg g] at h1
      exact absurd h1 (by decide)
theorem good_len {t : Tok} (h : oM t) : t.2.1.length ≤ 60 := by
  have nl : ∀ n : Bs, gL n = true → n.length ≤ 60 := fun n hn => by
    unfold gL at hn
    simp only [Bool.and_eq_true, decide_eq_true_eq] at hn
    exact hn.2.2
  rcases h with ⟨_, h, _⟩ | ⟨_, h, _⟩ | ⟨_, h, _⟩
  · exact nl _ h
  · exact nl _ h
  · rw [h]; simp
section
variable {F : Nat} (hF : 1500000 < F)
include hF
theorem tok_sm {s : Bs} (hs : s.length ≤ 100000) (h : (mY (dec F) s).2 = 0) : Sm (mY (dec F) s).1 ∧ (mY (dec F) s).1 ≠ [] := by
  obtain ⟨s', k, e, hk⟩ := tok_ok h
  have hl := tok_len (d := dec F) hs
  have ht := tok_tx (dec_43 hF) hs
  have hg := wi (x := (s, [], 0, [])) (fun t ht => by cases ht) e
  have ha := tok_ats (d := dec F) (m := 100000) hs
  have hn : Nest [] k (mY (dec F) s).1 := Nest.run (x := (s, [], 0, [])) vY e
  refine ⟨⟨by omega, by omega, fun t ht => ?_, fun t ht => ?_⟩, fun z => ?_⟩
  · have := good_len (hg t ht)
    omega
  · have := ha t ht
    omega
  · obtain ⟨t, r, q, _⟩ := hn.some (by omega)
    rw [q] at z; cases z
def rdP (F : Nat) (s : Bs) : Fe × Int := if (mY (dec F) s).2 = 0 then extP (stP F) (mY (dec F) s).1 else (([], []), (mY (dec F) s).2)
theorem xD {s : Bs} (hs : s.length ≤ 100000) : iU F s = some (outF (rdP F s)) := by
  unfold iU rdP
  rw [tok_eq hF hs]
  by_cases h : (mY (dec F) s).2 = 0
  · obtain ⟨h1, h2⟩ := tok_sm hF hs h
    rw [if_pos h]
    generalize mY (dec F) s = q at h h1 h2 ⊢
    obtain ⟨l, e⟩ := q
    simp only at h h1 h2 ⊢
    rw [aO, decide_eq_true h, Bool.not_true, cond_false, ext_eq hF h1 h2]
    generalize extP (stP F) l = r
    obtain ⟨⟨a, b⟩, c⟩ := r;show (bnd3 (some (a, b, c)) fun x11 x12 x13 => some (x11, x12, x13)) = some (a, b, c)
    rw [pY]
  · rw [if_neg h]
    generalize mY (dec F) s = q at h ⊢
    obtain ⟨l, e⟩ := q
    simp only at h ⊢
    rw [aO, decide_eq_false h, Bool.not_false, cond_true]
    rfl
theorem rd_of {s : Bs} {l : El} (h : rd (dec F) s [] 0 [] = .ok ([], [], 1, l)) : rdP F s = extP (stP F) l := by
  have e := tok_rd h
  unfold rdP
  rw [e, if_pos rfl]
omit hF in
theorem ta (l : List Ent) (hl : l.length ≤ 1000000) : ∀ (n i : Nat), l.length - i < n → i ≤ l.length → hH l l n (i : Int) = some true
  | 0, i, h, _ => by omega
  | n + 1, i, hn, hi => by
    show hM l l (hH l l n) (i : Int) = _
    unfold hM
    by_cases h : i < l.length
    · have e : ∀ x : Ent, ((decide (x.1 = x.1)) && ((decide (x.2.1 = x.2.1)) && ((decide (x.2.2.1 = x.2.2.1)) && ((decide (x.2.2.2.1 = x.2.2.2.1)) && (x.2.2.2.2 == x.2.2.2.2))))) = true := fun x => by simp
      rw [bT (by omega), cS (by omega), bg, cS (by omega), bg, e, Bool.not_true, cond_false, bM (by omega), co]
      exact ta l hl n (i + 1) (by omega) (by omega)
    · rw [bF (by omega)]
      rfl
theorem same_eq (t : Bs) (l : List Ent) (hl : l.length ≤ 1000000) : kX F t l t l = some true := by
  unfold kX
  rw [decide_eq_true rfl, decide_eq_true rfl]
  exact ta l hl F 0 (by omega) (by omega)
end
end Go.Fd
namespace Go.Xm
section
variable {dec : Bs → Option Bs}
theorem blk_lt {s : Bs} (h : s.all gt = true) : s.takeWhile (fun c => decide (c ≠ 60)) = s ∧ s.dropWhile (fun c => decide (c ≠ 60)) = [] := by
  induction s with
  | nil => exact ⟨rfl, rfl⟩
  | cons c r ih =>
    rw [List.all_cons, Bool.and_eq_true] at h
    obtain ⟨i1, i2⟩ := ih h.2
    have hc : c ≠ 60 := fun e => by rw [e] at h; exact absurd h.1 (by decide)
    have hd : decide (c ≠ 60) = true := decide_eq_true hc
    constructor
    · rw [List.takeWhile_cons, hd, if_pos rfl, i1]
    · rw [List.dropWhile_cons, hd, if_pos rfl, i2]
end
end Go.Xm
namespace Go.Fd
open Go.Pv Go.Av
open Go.Xm
open Go.Pn (bl T1 T2 trim)
def Easy (s : Bs) : Prop := ∀ c ∈ s, c ≠ 60 ∧ c ≠ 38 ∧ c ≠ 34
theorem dec_easy (F : Nat) {s : Bs} (h : Easy s) : dec F s = some s := by
  unfold dec
  rw [Go.Pn.no_amp F s (List.any_eq_false.2 fun c hc => by simpa using (h c hc).2.1)]
  rfl
def op (n : Bs) : Bs := 60 :: (n ++ [62])
def cl (n : Bs) : Bs := 60 :: 47 :: (n ++ [62])
def tO (n : Bs) : Tok := (0, n, [], [])
def tC (n : Bs) : Tok := (1, n, [], [])
def tT (s : Bs) : El := if s = [] then [] else [(2, [], s, [])]
theorem zJ (d : Bs → Option Bs) (n : Nat) (r : Bs) : gN d (n + 1) [] (62 :: r) = some ([], false, r) := rfl
theorem pM {a b x : UInt8} {p r : Bs} (h : x ≠ b) : (a :: b :: p).isPrefixOf (a :: x :: r) = false := by
  have : (b == x) = false := by simpa using fun e => h e.symm
  simp [List.isPrefixOf, this]
section
variable {F : Nat}
theorem xF {n : Bs} (hn : gL n = true) {o : List Bs} {k : Nat} (l : El) (r : Bs) (h1 : ¬ (o = [] ∧ k ≠ 0)) (h2 : o.length < 20) : rd (dec F) (op n ++ r) o k l = rd (dec F) r (o ++ [n]) (kN o k) (l ++ [tO n]) := by
  obtain ⟨c, w, hc, hl⟩ := yw hn;obtain ⟨n1, n2, n3, n4, n5⟩ := let_not hl
  have e1 : op n ++ r = 60 :: (n ++ 62 :: r) := by unfold op; simp
  rw [e1]
  refine uL (by simp) ?_
  have e2 : eS (dec F) (60 :: (n ++ 62 :: r)) o k l = mN (dec F) (n ++ 62 :: r) o k l := by
    rw [hc, List.cons_append]
    unfold eS
    rw [if_neg (by simp), if_neg (by rw [pM n4]; simp), if_neg (by rw [pM n5]; simp), if_neg (by rw [pM n4]; simp), if_neg (by rw [pM n4]; simp), if_neg (by rw [pM n3]; simp)]
    rfl
  rw [e2]
  unfold mN
  rw [wa r hn (by decide)]
  simp only
  rw [zJ]
  simp only
  unfold na
  rw [if_neg h1, if_neg (by omega), if_neg (by simp)]
  rfl
theorem vP {n : Bs} (hn : gL n = true) (o : List Bs) (k : Nat) (l : El) (r : Bs) : rd (dec F) (cl n ++ r) (o ++ [n]) k l = rd (dec F) r o k (l ++ [tC n]) := by
  have e1 : cl n ++ r = 60 :: 47 :: (n ++ 62 :: r) := by unfold cl; simp
  rw [e1]
  refine uL (by simp) ?_
  have e2 : eS (dec F) (60 :: 47 :: (n ++ 62 :: r)) (o ++ [n]) k l = qR (n ++ 62 :: r) (o ++ [n]) k l := by
    unfold eS
    rw [if_neg (by simp), if_neg (by rw [pM (by decide)]; simp), if_neg (by rw [pM (by decide)]; simp), if_neg (by rw [pM (by decide)]; simp), if_neg (by rw [pM (by decide)]; simp), if_pos (by simp [List.isPrefixOf])]
    rfl
  rw [e2]
  unfold qR
  rw [wa r hn (by decide)]
  simp only
  have e3 : (62 :: r : Bs).dropWhile gt = 62 :: r := rfl
  rw [e3, if_pos (by simp [List.isPrefixOf])]
  unfold lD
  rw [if_pos (by simp)]
  simp [tC]
theorem easy_tw {s : Bs} (h : Easy s) (w : Bs) : (s ++ 60 :: w).takeWhile (fun c => decide (c ≠ 60)) = s ∧ (s ++ 60 :: w).dropWhile (fun c => decide (c ≠ 60)) = 60 :: w :=
  rG (f := fun c => decide (c ≠ 60)) (c := 60) (by decide) w (List.all_eq_true.2 fun c hc => by simpa using (h c hc).1)
theorem rd_text {s : Bs} (h : Easy s) {o : List Bs} (ho : o ≠ []) (k : Nat) (l : El) (w : Bs) : rd (dec F) (s ++ 60 :: w) o k l = rd (dec F) (60 :: w) o k (l ++ tT s) := by
  by_cases hs : s = []
  · subst hs
    unfold tT
    rw [if_pos rfl, List.append_nil]; rfl
  · refine uL (fun e => hs (List.append_eq_nil_iff.1 e).1) ?_
    obtain ⟨c, t, rfl⟩ := List.exists_cons_of_ne_nil hs
    have hc := (h c List.mem_cons_self).1
    obtain ⟨e1, e2⟩ := easy_tw h w
    unfold eS
    rw [if_pos (by rw [List.cons_append]; exact pre_not hc)]
    unfold ka
    rw [e1, e2, dec_easy F h]
    simp only
    rw [if_neg ho]
    unfold lC tT
    rw [if_neg hs, if_neg hs]
def mf (n s : Bs) : El := tO n :: (tT s ++ [tC n])
end
def Flat (m : El) : Prop := ∀ (d : Int) (cur r : El), 2 ≤ d → bS d cur (m ++ r) = bS d (cur ++ m) r
theorem flat_nil : Flat [] := fun d cur r _ => by rw [List.append_nil]; rfl
theorem wn {a b : El} (ha : Flat a) (hb : Flat b) : Flat (a ++ b) := fun d cur r h => by
  rw [List.append_assoc, ha d cur _ h, hb d _ _ h, List.append_assoc]
theorem tq (s : Bs) : Flat (tT s) := fun d cur r h => by
  unfold tT
  split
  · rw [List.append_nil]; rfl
  · show bS d cur ((2, [], s, []) :: r) = _
    rw [bS, if_neg (show ¬ ((2 : Int) = 0) by decide), if_neg (show ¬ ((2 : Int) = 1) by decide)]
theorem xV (d : Int) (cur r : El) (n : Bs) (as_ : List At) (h : d + 1 ≠ 2) : bS d cur ((0, n, [], as_) :: r) = bS (d + 1) (cur ++ [(0, n, [], as_)]) r := by
  rw [bS, if_pos rfl, if_neg h]
theorem go_open1 (cur r : El) (n : Bs) (as_ : List At) : bS 1 cur ((0, n, [], as_) :: r) = bS 2 [(0, n, [], as_)] r := by
  rw [bS, if_pos rfl, if_pos (by decide)]; rfl
theorem wj (d : Int) (cur r : El) (n : Bs) (h : d - 1 ≠ 1) : bS d cur (tC n :: r) = bS (d - 1) (cur ++ [tC n]) r := by
  unfold tC
  rw [bS, if_neg (show ¬ ((1 : Int) = 0) by decide), if_pos rfl, if_neg h]
theorem yz (cur r : El) (n : Bs) : bS 2 cur (tC n :: r) = (cur ++ [tC n]) :: bS 1 (cur ++ [tC n]) r := by
  unfold tC
  rw [bS, if_neg (show ¬ ((1 : Int) = 0) by decide), if_pos rfl, if_pos (by decide)]; rfl
theorem go_text (d : Int) (cur r : El) (s : Bs) : ∃ cur', bS d cur (tT s ++ r) = bS d cur' r := by
  unfold tT
  split
  · exact ⟨cur, rfl⟩
  · refine ⟨cur ++ [(2, [], s, [])], ?_⟩
    show bS d cur ((2, [], s, []) :: r) = _
    rw [bS, if_neg (show ¬ ((2 : Int) = 0) by decide), if_neg (show ¬ ((2 : Int) = 1) by decide)]
def elE (n : Bs) (as_ : List At) (m : El) : El := (0, n, [], as_) :: (m ++ [tC n])
theorem flat_el {m : El} (n : Bs) (as_ : List At) (h : Flat m) : Flat (elE n as_ m) := fun d cur r hd => by
  unfold elE
  rw [List.cons_append, xV d cur _ n as_ (by omega), List.append_assoc, h (d + 1) _ _ (by omega), List.singleton_append, wj (d + 1) _ r n (by omega)]
  have : d + 1 - 1 = d := by omega
  rw [this]
  simp
theorem leaf_el (n s : Bs) : mf n s = elE n [] (tT s) := rfl
theorem go_el {m : El} (n : Bs) (as_ : List At) (h : Flat m) (cur r : El) : ∃ cur', bS 1 cur (elE n as_ m ++ r) = elE n as_ m :: bS 1 cur' r := by
  refine ⟨[(0, n, [], as_)] ++ m ++ [tC n], ?_⟩
  have e : elE n as_ m ++ r = (0, n, [], as_) :: (m ++ (tC n :: r)) := by unfold elE; simp
  rw [e, go_open1, h 2 _ _ (by omega), yz]
  unfold elE
  simp
inductive Row : El → List El → Prop
  | nil : Row [] []
  | text {m : El} {ps : List El} (s : Bs) (h : Row m ps) : Row (tT s ++ m) ps
  | el {m q : El} {ps : List El} (n : Bs) (as_ : List At) (hq : Flat q) (h : Row m ps) : Row (elE n as_ q ++ m) (elE n as_ q :: ps)
theorem Row.flat {m : El} {ps : List El} (h : Row m ps) : Flat m := by
  induction h with
  | nil => exact flat_nil
  | text s h ih => exact wn (tq s) ih
  | el n as_ hq h ih => exact wn (flat_el n as_ hq) ih
theorem Row.go {m : El} {ps : List El} (h : Row m ps) (n : Bs) : ∀ cur : El, bS 1 cur (m ++ [tC n]) = ps := by
  induction h with
  | nil => intro cur; rw [List.nil_append, wj 1 cur [] n (by decide)]; rfl
  | text s h ih =>
    intro cur
    rw [List.append_assoc]
    obtain ⟨c', e⟩ := go_text 1 cur (_ ++ [tC n]) s
    rw [e, ih]
  | el k as_ hq h ih =>
    intro cur
    rw [List.append_assoc]
    obtain ⟨c', e⟩ := go_el k as_ hq cur (_ ++ [tC n])
    rw [e, ih]
theorem Row.parts {m : El} {ps : List El} (h : Row m ps) (n : Bs) (as_ : List At) : gh (elE n as_ m) = ps := by
  unfold gh elE
  rw [xV 0 [] _ n as_ (by decide)]
  exact h.go n _
theorem Row.app {m m' : El} {ps ps' : List El} (h : Row m ps) (h' : Row m' ps') : Row (m ++ m') (ps ++ ps') := by
  induction h with
  | nil => exact h'
  | text s h ih => rw [List.append_assoc]; exact .text s ih
  | el n as_ hq h ih => rw [List.append_assoc, List.cons_append]; exact .el n as_ hq ih
theorem mo (n s : Bs) : Row (mf n s) [mf n s] := by
  have := Row.el n [] (tq s) .nil
  rwa [List.append_nil] at this
theorem uY {m : El} {ps : List El} (n : Bs) (as_ : List At) (h : Row m ps) : Row (elE n as_ m) [elE n as_ m] := by
  have := Row.el n as_ h.flat .nil
  rwa [List.append_nil] at this
theorem text_tT (s : Bs) : df (tT s) = s := by
  unfold tT
  split
  · rename_i h; rw [h]; rfl
  · simp [df]
theorem text_el (n : Bs) (as_ : List At) (m : El) : df (elE n as_ m) = df m := by
  unfold elE tC
  rw [iI, kW, iI]
  simp [df]
theorem rF (n s : Bs) : valP (mf n s) = trim s := by
  unfold valP
  rw [leaf_el, text_el, text_tT]
theorem sV {s : Bs} (h : ∀ c ∈ s, bl c = false) : trim s = s := by
  cases s with
  | nil => rfl
  | cons c r =>
    have hc := h c List.mem_cons_self
    have : ∀ r : Bs, (∀ c ∈ r, bl c = false) → T1 r = r := by
      intro r
      induction r with
      | nil => intro _; rfl
      | cons a r ih =>
        intro h
        simp only [T1, h a List.mem_cons_self, cond_false]
        rw [ih fun c hc => h c (List.mem_cons_of_mem _ hc)]
    simp only [trim, hc, cond_false]
    rw [this r fun c hc => h c (List.mem_cons_of_mem _ hc)]
end Go.Fd
namespace Go.Fd
open Go.Pv Go.Av
open Go.Xm
open Go.Pn (bl T1 T2 trim)
def Rds (F h : Nat) (B : Bs) (m : El) : Prop := ∀ (o : List Bs) (k : Nat) (l : El) (w : Bs), o ≠ [] → o.length + h ≤ 20 → rd (dec F) (B ++ 60 :: w) o k l = rd (dec F) (60 :: w) o k (l ++ m)
def Tag (B : Bs) : Prop := B = [] ∨ ∃ w, B = 60 :: w
def Rda (F h : Nat) (B : Bs) (m : El) : Prop := ∀ (o : List Bs) (k : Nat) (l : El) (r : Bs), o ≠ [] → o.length + h ≤ 20 → rd (dec F) (B ++ r) o k l = rd (dec F) r o k (l ++ m)
section
variable {F : Nat}
theorem Rda.rds {h : Nat} {A : Bs} {a : El} (ha : Rda F h A a) : Rds F h A a := fun o k l w ho hl => ha o k l _ ho hl
theorem rds_text {s : Bs} (h : Easy s) : Rds F 0 s (tT s) := fun o k l w ho _ => rd_text h ho k l w
theorem Rds.app {h h' : Nat} {A B : Bs} {a b : El} (ha : Rds F h A a) (hb : Rds F h' B b) (ht : Tag B) : Rds F (max h h') (A ++ B) (a ++ b) := fun o k l w ho hl => by
  rw [List.append_assoc]
  have : ∃ w', B ++ 60 :: w = 60 :: w' := by
    rcases ht with rfl | ⟨v, rfl⟩
    · exact ⟨w, rfl⟩
    · exact ⟨_, rfl⟩
  obtain ⟨w', e⟩ := this
  rw [e, ha o k l w' ho (by omega), ← e, hb o k _ w ho (by omega), List.append_assoc]
theorem Rda.app {h h' : Nat} {A B : Bs} {a b : El} (ha : Rda F h A a) (hb : Rds F h' B b) : Rds F (max h h') (A ++ B) (a ++ b) := fun o k l w ho hl => by
  rw [List.append_assoc, ha o k l _ ho (by omega), hb o k _ w ho (by omega), List.append_assoc]
def elB (n B : Bs) : Bs := op n ++ (B ++ cl n)
theorem Rds.el {h : Nat} {B : Bs} {m : El} {n : Bs} (hn : gL n = true) (hb : Rds F h B m) : Rda F (h + 1) (elB n B) (elE n [] m) := fun o k l r ho hl => by
  have e : elB n B ++ r = op n ++ (B ++ 60 :: (47 :: (n ++ [62]) ++ r)) := by unfold elB cl; simp
  have e2 : 60 :: (47 :: (n ++ [62]) ++ r) = cl n ++ r := rfl
  have hk : kN o k = k := by unfold kN; rw [if_neg ho]
  rw [e, xF hn l _ (fun z => ho z.1) (by omega), hk, hb _ k _ _ (by simp) (by rw [List.length_append, List.length_singleton]; omega), e2, vP hn]
  unfold elE tO; simp
theorem rH {n s : Bs} (hn : gL n = true) (hs : Easy s) : Rda F 1 (elB n s) (mf n s) := Rds.el hn (rds_text hs)
theorem rd_doc {h : Nat} {B : Bs} {m : El} {n : Bs} (hn : gL n = true) (hb : Rds F h B m) (hh : h < 20) : rd (dec F) (elB n B) [] 0 [] = .ok ([], [], 1, elE n [] m) := by
  have e : elB n B = op n ++ (B ++ 60 :: (47 :: (n ++ [62]))) := by unfold elB cl; simp
  have e2 : 60 :: (47 :: (n ++ [62])) = cl n ++ [] := by unfold cl; simp
  rw [e, xF hn [] _ (fun z => z.2 rfl) (by simp), hb _ _ _ _ (by simp) (by simp; omega), e2]
  have := vP (F := F) hn [] (kN [] 0) ([] ++ [tO n] ++ m) []
  rw [List.nil_append] at this ⊢
  rw [this, rd_nil]
  unfold elE tO kN; simp
end
def hasNm (ns : List Bs) (n : Bs) : Bool := Go.Lib.contains ([124] ++ Str.join [124] ns ++ [124]) ([124] ++ n ++ [124]) && !Go.Lib.contains n [124]
theorem hN {ns : List Bs} {n : Bs} (as_ : List At) (m : El) {b : Bool} (h : hasNm ns (rY n) = b) : qQ ns (elE n as_ m) = b := h
theorem hL {ns : List Bs} {n : Bs} (s : Bs) {b : Bool} (h : hasNm ns (rY n) = b) : qQ ns (mf n s) = b := h
theorem iN {k : Bs} {n : Bs} (as_ : List At) (m : El) {b : Bool} (h : decide (rY n = k) = b) : isN k (elE n as_ m) = b := h
theorem iL {k : Bs} {n : Bs} (s : Bs) {b : Bool} (h : decide (rY n = k) = b) : isN k (mf n s) = b := h
theorem uU {x : El} {ps : List El} (h : gh x = ps) (ns : List Bs) : lL ns x = valO (ps.find? (qQ ns)) := by
  unfold lL lh; rw [h]
theorem rV {p : El → Bool} {x : El} {l : List El} (h : p x = true) : (x :: l).find? p = some x := by rw [List.find?_cons, h]
theorem qA {p : El → Bool} {x : El} {l : List El} (h : p x = false) : (x :: l).find? p = l.find? p := by rw [List.find?_cons, h]
theorem filt_t {p : El → Bool} {x : El} {l : List El} (h : p x = true) : (x :: l).filter p = x :: l.filter p := List.filter_cons_of_pos h
theorem filt_f {p : El → Bool} {x : El} {l : List El} (h : p x = false) : (x :: l).filter p = l.filter p := List.filter_cons_of_neg (by rw [h]; simp)
theorem xR {d : Bs → Option Bs} {s : Bs} {l : El} (h : rd d s [] 0 [] = .ok ([], [], 1, l)) : me true [] l = true := by
  have hn : Nest [] 1 l := Nest.run (x := (s, [], 0, [])) vY h
  obtain ⟨t, r, e, _⟩ := hn.some (by decide)
  exact xS l true [] hn.rp fun _ q => by rw [e] at q; cases q
end Go.Fd
namespace Go.Fd
open Go.Pv Go.Av
open Go.Xm
open Go.Pn (bl T1 T2 trim)
def Word (s : Bs) : Prop := ∀ c ∈ s, 97 ≤ c.toNat ∧ c.toNat ≤ 122
theorem Word.easy {s : Bs} (h : Word s) : Easy s := fun c hc => by
  obtain ⟨h1, h2⟩ := h c hc
  refine ⟨?_, ?_, ?_⟩ <;> (intro e; subst e; revert h1; decide)
theorem Word.bl {s : Bs} (h : Word s) : ∀ c ∈ s, bl c = false := fun c hc => by
  obtain ⟨h1, h2⟩ := h c hc
  unfold Go.Pn.bl
  have : c ≠ 9 ∧ c ≠ 10 ∧ c ≠ 13 ∧ c ≠ 32 := by refine ⟨?_, ?_, ?_, ?_⟩ <;> (intro e; subst e; revert h1; decide)
  simp [this.1, this.2.1, this.2.2.1, this.2.2.2]
theorem Word.trim {s : Bs} (h : Word s) : trim s = s := sV h.bl
section
variable {F : Nat} {id t l x : Bs} (hi : Word id) (ht : Word t) (hl : Word l) (hx : Word x)
include hi ht hl hx
end
end Go.Fd
namespace Go.Fd
open Go.Pv Go.Av
open Go.Xm
open Go.Pn (bl T1 T2 trim)
theorem Word.no {s : Bs} (h : Word s) {c : UInt8} (hc : ¬ (97 ≤ c.toNat ∧ c.toNat ≤ 122)) : c ∉ s := fun z => hc (h c z)
def plI (id : Bs) : El := elE nT [] (mf oP id)
section
variable {F : Nat} {n t id : Bs} (hi : Word id)
include hi
end
end Go.Fd
namespace Go.Fd
open Go.Pv Go.Av
open Go.Xm
open Go.Pn (bl T1 T2 trim)
structure Self (s : Bs) : Prop where
  easy : Easy s
  trim : trim s = s
def plT (t id : Bs) : Bs := elB nb (elB iW (elB gO t ++ elB nT (elB oP id)))
def mtC (t id : Bs) : El := mf gO t ++ plI id
def mtM (t id : Bs) : El := elE nb [] (elE iW [] (mtC t id))
theorem rd_plT {F : Nat} {t id : Bs} (ht : Easy t) (hi : Easy id) : rd (dec F) (plT t id) [] 0 [] = .ok ([], [], 1, mtM t id) :=
  rd_doc (by decide) (Rds.el (by decide) ((rH (by decide) ht).app (Rds.el (by decide) (rH (by decide) hi).rds).rds)).rds (by decide)
theorem plI_rss {id : Bs} (hi : Self id) : sJ (plI id) = (id, [], [], [], 0) := by
  have hp : gh (plI id) = [mf oP id] := (mo _ _).parts _ _
  unfold sJ
  simp only [uU hp]
  rw [rV (hL id (by decide)), qA (hL id (by decide)), qA (hL id (by decide)), qA (hL id (by decide))]
  simp only [valO, rF, hi.trim, List.find?_nil]
theorem ext_plT (stp : Bs → Int × Int) {t id : Bs} (ht : Self t) (hi : Self id) : extP stp (mtM t id) = ((t, [(id, [], [], [], 0)]), 0) := by
  have hn := xR (rd_plT (F := 0) ht.easy hi.easy)
  have hit : Row (plI id) [plI id] := uY _ _ (mo _ _)
  have hc : gh (elE iW [] (mtC t id)) = [mf gO t, plI id] := ((mo _ _).app hit).parts _ _
  have hp : gh (mtM t id) = [elE iW [] (mtC t id)] := (uY _ _ ((mo _ _).app hit)).parts _ _
  unfold extP
  rw [hn, if_neg (by simp), if_pos (show pL (mtM t id) = nb from (by decide : rY nb = nb))]
  unfold lh
  rw [hp, rV (iN _ _ (by decide))]
  simp only
  unfold topP entL
  rw [uU hc, hc, rV (hL _ (by decide)), filt_f (iL _ (by decide)), filt_t (show isN nT (plI id) = true from iN [] _ (by decide)), List.filter_nil]
  show (((valP (mf gO t)), [cutE (sJ (plI id))]), (0 : Int)) = _
  rw [plI_rss hi, cut_id (by simp), rF, ht.trim]
section
variable {F : Nat} (hF : 1500000 < F)
include hF
theorem awakeF : jS F = some true := by
  have hd : ([60, 114, 115, 115, 62, 60, 99, 104, 97, 110, 110, 101, 108, 62, 60, 116] ++ [105, 116, 108, 101, 62, 84, 60, 47, 116, 105, 116, 108, 101, 62, 60, 105] ++ [116, 101, 109, 62, 60, 103, 117, 105, 100, 62, 49, 60, 47, 103, 117, 105] ++ [100, 62, 60, 47, 105, 116, 101, 109, 62, 60, 47, 99, 104, 97, 110, 110] ++ [101, 108, 62, 60, 47, 114, 115, 115, 62] : List UInt8) = plT [84] [49] := by decide
  have s1 : Self [84] := ⟨fun c hc => by have : c = 84 := by simpa using hc
                                         subst this; decide, by decide⟩
  have s2 : Self [49] := ⟨fun c hc => by have : c = 49 := by simpa using hc
                                         subst this; decide, by decide⟩
  have sm : Sm [(2, ([] : Bs), ([32, 97, 32] : Bs), ([] : List At))] := ⟨by simp, by simp [tx, df], by simp, by simp⟩
  have e1 : iU F (plT [84] [49]) = some ([84], [([49], [], [], [], 0)], 0) := by
    rw [xD hF (by decide), rd_of hF (rd_plT s1.easy s2.easy), ext_plT _ s1 s2]
    rfl
  have e2 : fO F [(2, ([] : Bs), ([32, 97, 32] : Bs), ([] : List At))] = some [97] := by
    rw [rE hF sm]
    rfl
  unfold jS
  rw [hd, e1, pY, same_eq hF _ _ (by simp), aU, e2, dv]
  rfl
end
end Go.Fd
namespace Go.Fd
open Go.Pv Go.Av
open Go.Xm
open Go.Pn (bl T1 T2 trim)
theorem Rda.appA {F h h' : Nat} {A B : Bs} {a b : El} (ha : Rda F h A a) (hb : Rda F h' B b) : Rda F (max h h') (A ++ B) (a ++ b) := fun o k l r ho hl => by
  rw [List.append_assoc, ha o k l _ ho (by omega), hb o k _ r ho (by omega), List.append_assoc]
def dgN (n : Nat) : UInt8 := UInt8.ofNat (48 + n)
def qP (i : Nat) : Bs := [dgN (i / 100), dgN (i / 10 % 10), dgN (i % 10)]
def Dig (s : Bs) : Prop := ∀ c ∈ s, 48 ≤ c.toNat ∧ c.toNat ≤ 57
theorem dgN_d {n : Nat} (h : n < 10) : 48 ≤ (dgN n).toNat ∧ (dgN n).toNat ≤ 57 := by
  have : (dgN n).toNat = 48 + n := by
    unfold dgN
    simp only [UInt8.toNat_ofNat']
    omega
  omega
theorem xP {i : Nat} (h : i < 1000) : Dig (qP i) := fun c hc => by
  unfold qP at hc
  simp only [List.mem_cons, List.not_mem_nil, or_false] at hc
  rcases hc with rfl | rfl | rfl
  · exact dgN_d (by omega)
  · exact dgN_d (by omega)
  · exact dgN_d (by omega)
theorem Dig.easy {s : Bs} (h : Dig s) : Easy s := fun c hc => by
  obtain ⟨h1, h2⟩ := h c hc
  refine ⟨?_, ?_, ?_⟩ <;> (intro e; subst e; revert h1 h2; decide)
theorem Dig.trim {s : Bs} (h : Dig s) : trim s = s := sV fun c hc => by
  obtain ⟨h1, h2⟩ := h c hc
  unfold Go.Pn.bl
  have : c ≠ 9 ∧ c ≠ 10 ∧ c ≠ 13 ∧ c ≠ 32 := by refine ⟨?_, ?_, ?_, ?_⟩ <;> (intro e; subst e; revert h1 h2; decide)
  simp [this.1, this.2.1, this.2.2.1, this.2.2.2]
def itB (i : Nat) : Bs := elB nT (elB oP (qP i))
def itE (i : Nat) : El := elE nT [] (mf oP (qP i))
def itsB : Nat → Bs
  | 0 => []
  | n + 1 => itsB n ++ itB n
def itsM : Nat → El
  | 0 => []
  | n + 1 => itsM n ++ itE n
def manyB (n : Nat) : Bs := elB nb (elB iW (itsB n))
def manyM (n : Nat) : El := elE nb [] (elE iW [] (itsM n))
theorem uK : ∀ n : Nat, Row (itsM n) ((List.range n).map itE)
  | 0 => .nil
  | n + 1 => by
    rw [List.range_succ, List.map_append]
    exact (uK n).app (uY _ _ (mo _ _))
theorem xE {F : Nat} : ∀ n : Nat, n ≤ 1000 → Rda F 2 (itsB n) (itsM n)
  | 0, _ => fun o k l r _ _ => by
    rw [show itsB 0 = [] from rfl, show itsM 0 = [] from rfl, List.nil_append, List.append_nil]
  | n + 1, h => (xE n (by omega)).appA (Rds.el (by decide) (rH (by decide) (xP (by omega)).easy).rds)
theorem xG {F n : Nat} (h : n ≤ 1000) : rd (dec F) (manyB n) [] 0 [] = .ok ([], [], 1, manyM n) :=
  rd_doc (by decide) (Rds.el (by decide) (xE n h).rds).rds (by decide)
theorem it_rss {i : Nat} (h : i < 1000) : sJ (itE i) = (qP i, [], [], [], 0) := by
  have hp : gh (itE i) = [mf oP (qP i)] := (mo _ _).parts _ _
  unfold sJ
  simp only [uU hp]
  rw [rV (hL _ (by decide)), qA (hL _ (by decide)), qA (hL _ (by decide)), qA (hL _ (by decide))]
  simp only [valO, rF, (xP h).trim, List.find?_nil]
theorem ext_many (stp : Bs → Int × Int) {n : Nat} (h : n ≤ 1000) : extP stp (manyM n) = (([], (List.range (min 200 n)).map fun i => (qP i, [], [], [], 0)), 0) := by
  have hn := xR (xG (F := 0) h)
  have hc : gh (elE iW [] (itsM n)) = (List.range n).map itE := (uK n).parts _ _
  have hp : gh (manyM n) = [elE iW [] (itsM n)] := (uY _ _ (uK n)).parts _ _
  have e1 : lL [gO] (elE iW [] (itsM n)) = [] := by
    rw [uU hc]
    have : ((List.range n).map itE).find? (qQ [gO]) = none := List.find?_eq_none.2 fun x hx => by
      obtain ⟨i, _, rfl⟩ := List.mem_map.1 hx
      rw [show qQ [gO] (itE i) = false from hN _ _ (by decide)]
      simp
    rw [this]; rfl
  have e2 : ((List.range n).map itE).filter (isN nT) = (List.range n).map itE := List.filter_eq_self.2 fun x hx => by
    obtain ⟨i, _, rfl⟩ := List.mem_map.1 hx;exact iN _ _ (by decide)
  unfold extP
  rw [hn, if_neg (by simp), if_pos (show pL (manyM n) = nb from (by decide : rY nb = nb))]
  unfold lh
  rw [hp, rV (iN _ _ (by decide))]
  simp only
  unfold topP entL
  rw [e1, hc, e2, ← List.map_take, List.map_map, List.take_range]
  have e3 : ∀ i ∈ List.range (min 200 n), ((fun x => cutE (sJ x)) ∘ itE) i = (fun i => (qP i, [], [], [], 0)) i := fun i hi => by
    have : i < 1000 := by have := List.mem_range.1 hi; omega
    show cutE (sJ (itE i)) = _
    rw [it_rss this, cut_id (by simp)]
  rw [List.map_congr_left e3]
end Go.Fd
namespace Go.Fd
open Go.Pv Go.Av
open Go.Xm
theorem dig_at : ∀ n : Fin 10, sub ([48, 49, 50, 51, 52, 53, 54, 55, 56, 57] : List UInt8) ((n.val : Nat) : Int) (((n.val : Nat) : Int) + 1) = [dgN n.val] := by decide
theorem uR {n : Nat} (h : n < 10) : sub ([48, 49, 50, 51, 52, 53, 54, 55, 56, 57] : List UInt8) (n : Int) ((n : Int) + 1) = [dgN n] := dig_at ⟨n, h⟩
theorem num_eq (F : Nat) {i : Nat} (h : i < 1000) : gK F (i : Int) = some (qP i) := by
  have e1 : (i : Int) / 100 = ((i / 100 : Nat) : Int) := by omega
  have e2 : (i : Int) / 10 % 10 = ((i / 10 % 10 : Nat) : Int) := by omega
  have e3 : (i : Int) % 10 = ((i % 10 : Nat) : Int) := by omega
  have l : ([48, 49, 50, 51, 52, 53, 54, 55, 56, 57] : List UInt8).length = 10 := rfl
  unfold gK
  rw [gn (by omega), gn (by omega), bM (by omega), lU (by rw [l]; omega), bg, gn (by omega), gn (by omega), gn (by omega), gn (by omega), bM (by omega), lU (by rw [l]; omega), bg, e1, e2, uR (by omega), uR (by omega), cP (by simp), bg, gn (by omega), gn (by omega), bM (by omega), lU (by rw [l]; omega), bg, e3, uR (by omega), cP (by simp), bg]
  rfl
theorem xO (i : Nat) : (qP i).length = 3 := rfl
theorem it_doc (s : Bs) (i : Nat) : s ++ [60, 105, 116, 101, 109, 62, 60, 103, 117, 105, 100, 62] ++ qP i ++ [60, 47, 103, 117, 105, 100, 62, 60, 47, 105, 116, 101, 109, 62] = s ++ itB i := by
  unfold itB elB op cl
  simp
abbrev preB : Bs := [60, 114, 115, 115, 62, 60, 99, 104, 97, 110, 110, 101, 108, 62]
theorem rK (n : Nat) : preB ++ itsB n ++ [60, 47, 99, 104, 97, 110, 110, 101, 108, 62, 60, 47, 114, 115, 115, 62] = manyB n := by
  unfold manyB elB op cl preB
  simp
theorem uP : ∀ n : Nat, (itsB n).length = 29 * n
  | 0 => rfl
  | n + 1 => by
    have : (itB n).length = 29 := rfl
    rw [itsB, List.length_append, uP n, this]; omega
def entM (n : Nat) : List Ent := (List.range (min 200 n)).map fun i => (qP i, [], [], [], 0)
theorem rO (n : Nat) : (entM n).length = min 200 n := by
  unfold entM; rw [List.length_map, List.length_range]
theorem entM_at {n i : Nat} (h : i < min 200 n) : at_ (entM n) (i : Int) = (qP i, [], [], [], 0) := by
  rw [fJ (by rw [rO]; exact h)]
  simp [entM]
section
variable {F : Nat} (hF : 1500000 < F)
include hF
theorem wh (n : Nat) : ∀ (m i : Nat), min 200 n - i < m → i ≤ min 200 n → eN F (entM n) ((min 200 n : Nat) : Int) m (i : Int) = some true
  | 0, i, h, _ => by omega
  | m + 1, i, hm, hi => by
    show eP F (entM n) ((min 200 n : Nat) : Int) (eN F (entM n) ((min 200 n : Nat) : Int) m) (i : Int) = _
    unfold eP
    by_cases h : i < min 200 n
    · rw [bT (by omega), cS (by rw [rO]; omega), bg, entM_at h, num_eq F (by omega), aU, decide_eq_true rfl, Bool.not_true, cond_false, bM (by omega), co]
      exact wh n m (i + 1) (by omega) (by omega)
    · rw [bF (by omega)]
      rfl
theorem many_end (n : Nat) (hn : n ≤ 260) : dH F (n : Int) (preB ++ itsB n) = some true := by
  have hl := uP n
  have hp : preB.length = 14 := rfl
  have r : iU F (manyB n) = some ([], entM n, 0) := by
    rw [xD hF (by rw [← rK]; simp only [List.length_append, List.length_cons, List.length_nil, hl, hp]; omega), rd_of hF (xG (by omega)), ext_many _ (by omega)]
    rfl
  have hj : cW F (entM n) 0 ((min 200 n : Nat) : Int) = some true := by
    unfold cW
    rw [rO, decide_eq_true rfl, decide_eq_true rfl]
    exact wh hF n F 0 (by omega) (by omega)
  unfold dH
  rw [cP (by simp only [List.length_append, List.length_cons, List.length_nil, hl, hp]; omega), bg, rK, cP (by rw [← rK]; simp only [List.length_append, List.length_cons, List.length_nil, hl, hp]; omega), r, pY]
  by_cases h : 200 < n
  · rw [bT (by omega)]
    rw [show min 200 n = 200 by omega] at hj
    exact hj
  · rw [bF (by omega)]
    rw [show min 200 n = n by omega] at hj
    exact hj
theorem tg (n : Nat) (hn : n ≤ 260) : ∀ (m i : Nat), n - i < m → i ≤ n → eM F (n : Int) m (preB ++ itsB i, (i : Int)) = some true
  | 0, i, h, _ => by omega
  | m + 1, i, hm, hi => by
    have hl := uP i
    have hp : preB.length = 14 := rfl
    show eO F (n : Int) (eM F (n : Int) m) (preB ++ itsB i) (i : Int) = _
    unfold eO
    by_cases h : i < n
    · rw [bT (by omega), cP (by simp only [List.length_append, List.length_cons, List.length_nil, hl, hp]; omega), bg, num_eq F (by omega), aU, cP (by simp only [List.length_append, List.length_cons, List.length_nil, hl, hp, xO]; omega), bg, cP (by simp only [List.length_append, List.length_cons, List.length_nil, hl, hp, xO]; omega), bg, it_doc, bM (by omega), co, List.append_assoc]
      exact tg n hn m (i + 1) (by omega) (by omega)
    · have : i = n := by omega
      subst this
      rw [bF (by omega)]
      exact many_end hF i hn
end
theorem FeedMany_t (a : Int) : ja 2000000 a = some true := by
  have hF : 1500000 < 2000000 := by omega
  generalize 2000000 = F at hF
  unfold ja
  rw [awakeF hF, aU, Bool.not_true, Bool.false_or]
  by_cases h : a < 0
  · rw [decide_eq_true h]; rfl
  by_cases h2 : 260 < a
  · rw [decide_eq_true h2, Bool.or_true]; rfl
  rw [decide_eq_false h, decide_eq_false h2]
  obtain ⟨n, rfl⟩ := Int.eq_ofNat_of_zero_le (show 0 ≤ a by omega)
  have := tg hF n (by omega) F 0 (by omega) (by omega)
  exact this
end Go.Fd
