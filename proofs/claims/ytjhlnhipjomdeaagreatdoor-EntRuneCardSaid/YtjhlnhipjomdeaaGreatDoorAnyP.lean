/-
  Where one of several bytes stands, written again as plain functions: printed by a program of ours from Lean's own print of the loaded program.
-/
import Derived.Test.YtjhlnhipjomdeaaGreatDoorPvLib
import Derived.Test.YtjhlnhipjomdeaaGreatDoorAvE
import Derived.Lib.IndexAny
set_option linter.unusedVariables false
namespace Go.Pv

/-- unicode/utf8.ValidRune -/
def ValidRune (F : Nat) (a1 : Int) : Option Bool :=
bif (decide (0 ≤ a1)) && (decide (a1 < 55296)) then
  some true
else
  bif (decide (57343 < a1)) && (decide (a1 ≤ 1114111)) then
    some true
  else
    some false
/-- strings.IndexRune -/
def idxRune_j1 : Option Int :=
some (-1)
def idxRune_B1 (a1 : List UInt8) (rec11 : Nat → Option Int) (y10 : Nat) : Option Int :=
bif decide (y10 < a1.length) then
  grd (!(decide (((decR a1 y10).1 : Int) = 65533))) <|
  rec11 (y10 + (decR a1 y10).2)
else
  idxRune_j1
def idxRune_L1 (a1 : List UInt8) (n : Nat) : Nat → Option Int :=
  loop (fun rec x => idxRune_B1 a1 rec x) n
def idxRune_j2 : Option Int :=
some (-1)
def idxRune_B2 (a1 : List UInt8) (x20 : List UInt8) (rec23 : Unit → Option Int) : Option Int :=
bif decide ((x20.length : Int) - 1 < (a1.length : Int)) then
  grd (okAt ((x20.length : Int) - 1) a1.length) <|
  lt (at_ a1 ((x20.length : Int) - 1)) fun x27 =>
  grd (okAt ((x20.length : Int) - 1) x20.length) <|
  lt (at_ x20 ((x20.length : Int) - 1)) fun x30 =>
  grd (!decide (x27 = x30)) <|
  grd (okI (((x20.length : Int) - 1) + 1)) <|
  grd (okTo (((x20.length : Int) - 1) + 1) a1.length) <|
  lt (from_ a1 (((x20.length : Int) - 1) + 1)) fun x35 =>
  grd (okAt ((x20.length : Int) - 1) x20.length) <|
  lt (at_ x20 ((x20.length : Int) - 1)) fun x38 =>
  lt (Go.Lib.indexByte x35 x38) fun x40 =>
  grd (decide (x40 < 0)) <|
  some (-1)
else
  idxRune_j2
def idxRune_L2 (a1 : List UInt8) (x20 : List UInt8) (n : Nat) : Unit → Option Int :=
  loop (fun rec x => idxRune_B2 a1 x20 rec) n
def idxRune (F : Nat) (a1 : List UInt8) (a2 : Int) : Option Int :=
bif (decide (0 ≤ a2)) && (decide (a2 < 128)) then
  lt (Go.Lib.indexByte a1 (Go.Av.toB a2)) fun x6 =>
  some x6
else
  bif decide (a2 = 65533) then
    idxRune_L1 a1 F 0
  else
    bnd (ValidRune F a2) fun x17 =>
    bif !x17 then
      some (-1)
    else
      lt (runeStr a2) fun x20 =>
      grd (okI ((x20.length : Int) - 1)) <|
      idxRune_L2 a1 x20 F ()
/-- strings.shouldUseASCIISet -/
def useSet (F : Nat) (a1 : Int) : Option Bool :=
some (decide (8 < a1))
/-- strings.IndexAny -/
def idxAnyG_j1 (F : Nat) (a1 : List UInt8) (y11 : Int) : Option Int :=
bnd (idxRune F a1 y11) fun x13 =>
some x13
def idxAnyG_j2 : Option Int :=
some (-1)
def idxAnyG_B1 (F : Nat) (a1 : List UInt8) (a2 : List UInt8) (rec22 : Nat → Option Int) (y21 : Nat) : Option Int :=
bif decide (y21 < a1.length) then
  bnd (idxRune F a2 ((decR a1 y21).1 : Int)) fun x25 =>
  bif decide (0 ≤ x25) then
    some (y21 : Int)
  else
    rec22 (y21 + (decR a1 y21).2)
else
  idxAnyG_j2
def idxAnyG_L1 (F : Nat) (a1 : List UInt8) (a2 : List UInt8) (n : Nat) : Nat → Option Int :=
  loop (fun rec x => idxAnyG_B1 F a1 a2 rec x) n
def idxAnyG_j3 (F : Nat) (a1 : List UInt8) (a2 : List UInt8) : Option Int :=
idxAnyG_L1 F a1 a2 F 0
def idxAnyG (F : Nat) (a1 : List UInt8) (a2 : List UInt8) : Option Int :=
bif decide (a2 = ([] : List UInt8)) then
  some (-1)
else
  bif decide ((a2.length : Int) = 1) then
    grd (okAt 0 a2.length) <|
    lt (at_ a2 0) fun x7 =>
    grd (okJ (x7.toNat : Int)) <|
    bif decide (128 ≤ (x7.toNat : Int)) then
      idxAnyG_j1 F a1 65533
    else
      idxAnyG_j1 F a1 (x7.toNat : Int)
  else
    bnd (useSet F (a1.length : Int)) fun x15 =>
    grd (!x15) <|
    idxAnyG_j3 F a1 a2
def idxAny (F : Nat) (s chars : List UInt8) : Option Int := bif decide (8 < s.length) && decide (2 ≤ chars.length) then some (Go.Lib.indexAny s chars) else idxAnyG F s chars
/-- strings.ContainsAny -/
def containsAny (F : Nat) (a1 : List UInt8) (a2 : List UInt8) : Option Bool :=
grd (asciiB a2) <|
grd (okS a1.length) <|
grd (okS a2.length) <|
bnd (idxAny F a1 a2) fun x7 =>
some (decide (0 ≤ x7))
end Go.Pv
