/-
  Numbers of digits, written again as plain functions: printed by a program of ours from Lean's own print of the loaded program.
-/
import Derived.Test.YtjhlnhipjomdeaaGreatDoorPvLib
import Derived.Test.YtjhlnhipjomdeaaGreatDoorAvE
set_option linter.unusedVariables false
namespace Go.Pv

/-- internal/strconv.lower -/
def sc_lower (F : Nat) (a1 : UInt8) : Option UInt8 :=
some (a1 ||| 32)
/-- internal/strconv.underscoreOK -/
def sc_underscoreOK_j1 (y84 : Int) : Option Bool :=
some (!decide (y84 = 95))
def sc_underscoreOK_j2 (y50 : Int) (rec51 : (Int × Int) → Option Bool) (y81 : Int) : Option Bool :=
grd (okI (y50 + 1)) <|
rec51 (y81, y50 + 1)
def sc_underscoreOK_B1 (F : Nat) (y15 : List UInt8) (y47 : Bool) (rec51 : (Int × Int) → Option Bool) (y49 : Int) (y50 : Int) : Option Bool :=
bif decide (y50 < (y15.length : Int)) then
  grd (okAt y50 y15.length) <|
  lt (at_ y15 y50) fun x55 =>
  grdc (decide (48 ≤ (x55.toNat : Int))) (okAt y50 y15.length) <|
  lt (at_ y15 y50) fun x59 =>
  grdc ((!((decide (48 ≤ (x55.toNat : Int))) && (decide ((x59.toNat : Int) ≤ 57)))) && y47) (okAt y50 y15.length) <|
  lt (at_ y15 y50) fun x64 =>
  bndc ((!((decide (48 ≤ (x55.toNat : Int))) && (decide ((x59.toNat : Int) ≤ 57)))) && y47) (sc_lower F x64) fun x66 =>
  grdc ((!((decide (48 ≤ (x55.toNat : Int))) && (decide ((x59.toNat : Int) ≤ 57)))) && (y47 && (decide (97 ≤ (x66.toNat : Int))))) (okAt y50 y15.length) <|
  lt (at_ y15 y50) fun x70 =>
  bndc ((!((decide (48 ≤ (x55.toNat : Int))) && (decide ((x59.toNat : Int) ≤ 57)))) && (y47 && (decide (97 ≤ (x66.toNat : Int))))) (sc_lower F x70) fun x72 =>
  bif ((decide (48 ≤ (x55.toNat : Int))) && (decide ((x59.toNat : Int) ≤ 57))) || ((y47 && (decide (97 ≤ (x66.toNat : Int)))) && (decide ((x72.toNat : Int) ≤ 102))) then
    sc_underscoreOK_j2 y50 rec51 48
  else
    grd (okAt y50 y15.length) <|
    lt (at_ y15 y50) fun x76 =>
    bif decide (x76 = 95) then
      bif !decide (y49 = 48) then
        some false
      else
        sc_underscoreOK_j2 y50 rec51 95
    else
      bif decide (y49 = 95) then
        some false
      else
        sc_underscoreOK_j2 y50 rec51 33
else
  sc_underscoreOK_j1 y49
def sc_underscoreOK_L1 (F : Nat) (y15 : List UInt8) (y47 : Bool) (n : Nat) : (Int × Int) → Option Bool :=
  loop (fun rec x => sc_underscoreOK_B1 F y15 y47 rec x.1 x.2) n
def sc_underscoreOK_j3 (F : Nat) (y15 : List UInt8) (y45 : Int) (y46 : Int) (y47 : Bool) : Option Bool :=
sc_underscoreOK_L1 F y15 y47 F (y45, y46)
def sc_underscoreOK_j4 (F : Nat) (y15 : List UInt8) : Option Bool :=
grdc (decide (2 ≤ (y15.length : Int))) (okAt 0 y15.length) <|
lt (at_ y15 0) fun x19 =>
grdc ((decide (2 ≤ (y15.length : Int))) && (decide (x19 = 48))) (okAt 1 y15.length) <|
lt (at_ y15 1) fun x23 =>
bndc ((decide (2 ≤ (y15.length : Int))) && (decide (x19 = 48))) (sc_lower F x23) fun x25 =>
grdc (((decide (2 ≤ (y15.length : Int))) && (decide (x19 = 48))) && (!(decide (x25 = 98)))) (okAt 1 y15.length) <|
lt (at_ y15 1) fun x29 =>
bndc (((decide (2 ≤ (y15.length : Int))) && (decide (x19 = 48))) && (!(decide (x25 = 98)))) (sc_lower F x29) fun x31 =>
grdc (((decide (2 ≤ (y15.length : Int))) && (decide (x19 = 48))) && (!((decide (x25 = 98)) || (decide (x31 = 111))))) (okAt 1 y15.length) <|
lt (at_ y15 1) fun x35 =>
bndc (((decide (2 ≤ (y15.length : Int))) && (decide (x19 = 48))) && (!((decide (x25 = 98)) || (decide (x31 = 111))))) (sc_lower F x35) fun x37 =>
bif ((decide (2 ≤ (y15.length : Int))) && (decide (x19 = 48))) && (((decide (x25 = 98)) || (decide (x31 = 111))) || (decide (x37 = 120))) then
  grd (okAt 1 y15.length) <|
  lt (at_ y15 1) fun x41 =>
  bnd (sc_lower F x41) fun x43 =>
  sc_underscoreOK_j3 F y15 48 2 (decide (x43 = 120))
else
  sc_underscoreOK_j3 F y15 94 0 false
def sc_underscoreOK (F : Nat) (a1 : List UInt8) : Option Bool :=
grdc (decide (1 ≤ (a1.length : Int))) (okAt 0 a1.length) <|
lt (at_ a1 0) fun x5 =>
grdc ((decide (1 ≤ (a1.length : Int))) && (!(decide (x5 = 45)))) (okAt 0 a1.length) <|
lt (at_ a1 0) fun x9 =>
bif (decide (1 ≤ (a1.length : Int))) && ((decide (x5 = 45)) || (decide (x9 = 43))) then
  grd (okTo 1 a1.length) <|
  lt (from_ a1 1) fun x13 =>
  sc_underscoreOK_j4 F x13
else
  sc_underscoreOK_j4 F a1
/-- internal/strconv.ParseUint -/
def sc_ParseUint_j1 (F : Nat) (a1 : List UInt8) (y53 : Bool) (y54 : Int) : Option (Int × Int) :=
bndc y53 (sc_underscoreOK F a1) fun x57 =>
bif y53 && (!x57) then
  some (0, 2)
else
  some (y54, 0)
def sc_ParseUint_j2 (y24 : Int) (rec25 : (Bool × Int × Int) → Option (Int × Int)) (y49 : Bool) (y50 : Int) : Option (Int × Int) :=
grd (okI (y24 + 1)) <|
rec25 (y49, y50, y24 + 1)
def sc_ParseUint_j3 (a2 : Int) (y17 : Int) (y22 : Bool) (y23 : Int) (y24 : Int) (rec25 : (Bool × Int × Int) → Option (Int × Int)) (y43 : UInt8) : Option (Int × Int) :=
bif decide (((Go.Av.toB a2).toNat : Int) ≤ (y43.toNat : Int)) then
  some (0, 2)
else
  bif decide (y17 ≤ y23) then
    some (IntKind.u64.wrap ((IntKind.u64.wrap (1 * 2 ^ min (Int.toNat (IntKind.u64.wrap 64)) IntKind.u64.bits)) - 1), 1)
  else
    bif (decide (IntKind.u64.wrap ((IntKind.u64.wrap (y23 * (IntKind.u64.wrap a2))) + (IntKind.u64.wrap (y43.toNat : Int))) < IntKind.u64.wrap (y23 * (IntKind.u64.wrap a2)))) || (decide (IntKind.u64.wrap ((IntKind.u64.wrap (1 * 2 ^ min (Int.toNat (IntKind.u64.wrap 64)) IntKind.u64.bits)) - 1) < IntKind.u64.wrap ((IntKind.u64.wrap (y23 * (IntKind.u64.wrap a2))) + (IntKind.u64.wrap (y43.toNat : Int))))) then
      some (IntKind.u64.wrap ((IntKind.u64.wrap (1 * 2 ^ min (Int.toNat (IntKind.u64.wrap 64)) IntKind.u64.bits)) - 1), 1)
    else
      sc_ParseUint_j2 y24 rec25 y22 (IntKind.u64.wrap ((IntKind.u64.wrap (y23 * (IntKind.u64.wrap a2))) + (IntKind.u64.wrap (y43.toNat : Int))))
def sc_ParseUint_B1 (F : Nat) (a1 : List UInt8) (a2 : Int) (y17 : Int) (rec25 : (Bool × Int × Int) → Option (Int × Int)) (y22 : Bool) (y23 : Int) (y24 : Int) : Option (Int × Int) :=
bif decide (y24 < (a1.length : Int)) then
  grd (okAt y24 a1.length) <|
  lt (at_ a1 y24) fun x29 =>
  bif (decide (x29 = 95)) && (decide (a2 = 0)) then
    sc_ParseUint_j2 y24 rec25 true y23
  else
    bif (decide (48 ≤ (x29.toNat : Int))) && (decide ((x29.toNat : Int) ≤ 57)) then
      sc_ParseUint_j3 a2 y17 y22 y23 y24 rec25 (x29 - 48)
    else
      bnd (sc_lower F x29) fun x35 =>
      bndc (decide (97 ≤ (x35.toNat : Int))) (sc_lower F x29) fun x38 =>
      bif (decide (97 ≤ (x35.toNat : Int))) && (decide ((x38.toNat : Int) ≤ 122)) then
        bnd (sc_lower F x29) fun x41 =>
        sc_ParseUint_j3 a2 y17 y22 y23 y24 rec25 ((x41 - 97) + 10)
      else
        some (0, 2)
else
  sc_ParseUint_j1 F a1 y22 y23
def sc_ParseUint_L1 (F : Nat) (a1 : List UInt8) (a2 : Int) (y17 : Int) (n : Nat) : (Bool × Int × Int) → Option (Int × Int) :=
  loop (fun rec x => sc_ParseUint_B1 F a1 a2 y17 rec x.1 x.2.1 x.2.2) n
def sc_ParseUint_j4 (F : Nat) (a1 : List UInt8) (a2 : Int) (y17 : Int) : Option (Int × Int) :=
grd (decide (0 ≤ IntKind.u64.wrap 64)) <|
grd (okCat a1.length) <|
sc_ParseUint_L1 F a1 a2 y17 F (false, 0, 0)
def sc_ParseUint_j5 (F : Nat) (a1 : List UInt8) (a2 : Int) : Option (Int × Int) :=
bif decide (a2 = 10) then
  sc_ParseUint_j4 F a1 a2 1844674407370955162
else
  bif decide (a2 = 16) then
    sc_ParseUint_j4 F a1 a2 1152921504606846976
  else
    grd (decide (IntKind.u64.wrap a2 ≠ 0)) <|
    sc_ParseUint_j4 F a1 a2 (IntKind.u64.wrap ((IntKind.u64.wrap (Int.tdiv 18446744073709551615 (IntKind.u64.wrap a2))) + 1))
def sc_ParseUint_j6 (F : Nat) (a1 : List UInt8) (a2 : Int) (a3 : Int) : Option (Int × Int) :=
grd (decide (a3 = 0)) <|
sc_ParseUint_j5 F a1 a2
def sc_ParseUint (F : Nat) (a1 : List UInt8) (a2 : Int) (a3 : Int) : Option (Int × Int) :=
bif decide (a1 = ([] : List UInt8)) then
  some (0, 2)
else
  grd ((decide (2 ≤ a2)) && (decide (a2 ≤ 36))) <|
  sc_ParseUint_j6 F a1 a2 a3
/-- internal/strconv.ParseInt -/
def sc_ParseInt_j1 (y40 : Int) : Option (Int × Int) :=
some (y40, 0)
def sc_ParseInt_j2 (y19 : Bool) (x21 : Int) : Option (Int × Int) :=
grd (decide (0 ≤ IntKind.u64.wrap 63)) <|
bif (!y19) && (decide (IntKind.u64.wrap (1 * 2 ^ min (Int.toNat (IntKind.u64.wrap 63)) IntKind.u64.bits) ≤ x21)) then
  grd (okI (IntKind.u64.wrap ((IntKind.u64.wrap (1 * 2 ^ min (Int.toNat (IntKind.u64.wrap 63)) IntKind.u64.bits)) - 1))) <|
  some (IntKind.u64.wrap ((IntKind.u64.wrap (1 * 2 ^ min (Int.toNat (IntKind.u64.wrap 63)) IntKind.u64.bits)) - 1), 1)
else
  bif y19 && (decide (IntKind.u64.wrap (1 * 2 ^ min (Int.toNat (IntKind.u64.wrap 63)) IntKind.u64.bits) < x21)) then
    grd (okI (IntKind.u64.wrap (1 * 2 ^ min (Int.toNat (IntKind.u64.wrap 63)) IntKind.u64.bits))) <|
    grd (okI (0 - (IntKind.u64.wrap (1 * 2 ^ min (Int.toNat (IntKind.u64.wrap 63)) IntKind.u64.bits)))) <|
    some (0 - (IntKind.u64.wrap (1 * 2 ^ min (Int.toNat (IntKind.u64.wrap 63)) IntKind.u64.bits)), 1)
  else
    grd (okI x21) <|
    bif y19 then
      grd (okI (0 - x21)) <|
      sc_ParseInt_j1 (0 - x21)
    else
      sc_ParseInt_j1 x21
def sc_ParseInt_j3 (F : Nat) (a2 : Int) (a3 : Int) (y18 : List UInt8) (y19 : Bool) : Option (Int × Int) :=
bnd2 (sc_ParseUint F y18 a2 a3) fun x21 x22 =>
bif (!decide (x22 = 0)) && (!decide (x22 = 1)) then
  some (0, x22)
else
  grd (decide (a3 = 0)) <|
  sc_ParseInt_j2 y19 x21
def sc_ParseInt (F : Nat) (a1 : List UInt8) (a2 : Int) (a3 : Int) : Option (Int × Int) :=
bif decide (a1 = ([] : List UInt8)) then
  some (0, 2)
else
  grd (okAt 0 a1.length) <|
  lt (at_ a1 0) fun x8 =>
  bif decide (x8 = 43) then
    grd (okTo 1 a1.length) <|
    lt (from_ a1 1) fun x12 =>
    sc_ParseInt_j3 F a2 a3 x12 false
  else
    bif decide (x8 = 45) then
      grd (okTo 1 a1.length) <|
      lt (from_ a1 1) fun x16 =>
      sc_ParseInt_j3 F a2 a3 x16 true
    else
      sc_ParseInt_j3 F a2 a3 a1 false
/-- strconv.ParseInt -/
def strconv_ParseInt (F : Nat) (a1 : List UInt8) (a2 : Int) (a3 : Int) : Option (Int × Int) :=
bnd2 (sc_ParseInt F a1 a2 a3) fun x6 x7 =>
bif !decide (x7 = 0) then
  grd (okS a1.length) <|
  grd (decide (x7 = 1 ∨ x7 = 2)) <|
  some (x6, 1)
else
  some (x6, 0)
end Go.Pv
