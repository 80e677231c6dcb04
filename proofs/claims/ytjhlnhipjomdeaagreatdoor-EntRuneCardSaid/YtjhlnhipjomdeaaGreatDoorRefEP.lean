/-
  The document's answers about entities, written again as plain functions: printed by a program of ours from Lean's own print of the loaded program.
-/
import Derived.Test.YtjhlnhipjomdeaaGreatDoorPvLib
import Derived.Test.YtjhlnhipjomdeaaGreatDoorAvE
set_option linter.unusedVariables false
namespace Go.Pv

/-- mailcoach/mailcoachref07.Space -/
def ref07_Space (F : Nat) (a1 : UInt8) : Option Bool :=
some ((((decide (a1 = 9)) || (decide (a1 = 10))) || (decide (a1 = 13))) || (decide (a1 = 32)))
/-- mailcoach/mailcoachref07.Rune -/
def ref07_Rune (F : Nat) (a1 : Int) : Option ((List UInt8) × Bool) :=
bif ((!((((decide (a1 = 9)) || (decide (a1 = 10))) || (decide (a1 = 13))) || ((decide (32 ≤ a1)) && (decide (a1 ≤ 55295))))) && (!((decide (57344 ≤ a1)) && (decide (a1 ≤ 65533))))) && (!((decide (65536 ≤ a1)) && (decide (a1 ≤ 1114111)))) then
  some (([] : List UInt8), false)
else
  bif decide (a1 < 128) then
    some (([Go.Av.toB a1] : List UInt8), true)
  else
    bif decide (a1 < 2048) then
      grd (okDiv a1 64) <|
      grd (okI (192 + (a1 / 64))) <|
      grd (okDiv a1 64) <|
      grd (okI (128 + (a1 % 64))) <|
      some (([Go.Av.toB (192 + (a1 / 64)), Go.Av.toB (128 + (a1 % 64))] : List UInt8), true)
    else
      bif decide (a1 < 65536) then
        grd (okDiv a1 4096) <|
        grd (okI (224 + (a1 / 4096))) <|
        grd (okDiv a1 64) <|
        grd (okDiv (a1 / 64) 64) <|
        grd (okI (128 + ((a1 / 64) % 64))) <|
        grd (okDiv a1 64) <|
        grd (okI (128 + (a1 % 64))) <|
        some (([Go.Av.toB (224 + (a1 / 4096)), Go.Av.toB (128 + ((a1 / 64) % 64)), Go.Av.toB (128 + (a1 % 64))] : List UInt8), true)
      else
        grd (okDiv a1 262144) <|
        grd (okI (240 + (a1 / 262144))) <|
        grd (okDiv a1 4096) <|
        grd (okDiv (a1 / 4096) 64) <|
        grd (okI (128 + ((a1 / 4096) % 64))) <|
        grd (okDiv a1 64) <|
        grd (okDiv (a1 / 64) 64) <|
        grd (okI (128 + ((a1 / 64) % 64))) <|
        grd (okDiv a1 64) <|
        grd (okI (128 + (a1 % 64))) <|
        some (([Go.Av.toB (240 + (a1 / 262144)), Go.Av.toB (128 + ((a1 / 4096) % 64)), Go.Av.toB (128 + ((a1 / 64) % 64)), Go.Av.toB (128 + (a1 % 64))] : List UInt8), true)
/-- mailcoach/mailcoachref07.digit -/
def ref07_digit (F : Nat) (a1 : UInt8) : Option Int :=
bif (decide (48 ≤ (a1.toNat : Int))) && (decide ((a1.toNat : Int) ≤ 57)) then
  some ((a1 - 48).toNat : Int)
else
  bif (decide (97 ≤ (a1.toNat : Int))) && (decide ((a1.toNat : Int) ≤ 102)) then
    grd (okI (((a1 - 97).toNat : Int) + 10)) <|
    some (((a1 - 97).toNat : Int) + 10)
  else
    bif (decide (65 ≤ (a1.toNat : Int))) && (decide ((a1.toNat : Int) ≤ 70)) then
      grd (okI (((a1 - 65).toNat : Int) + 10)) <|
      some (((a1 - 65).toNat : Int) + 10)
    else
      some 99
/-- mailcoach/mailcoachref07.number -/
def ref07_number_j1 (a1 : List UInt8) (y21 : Int) : Option Int :=
bif decide ((a1.length : Int) = 0) then
  some (-1)
else
  some y21
def ref07_number_j2 (y5 : Int) (rec6 : (Int × Int) → Option Int) (y18 : Int) : Option Int :=
grd (okI (y5 + 1)) <|
rec6 (y18, y5 + 1)
def ref07_number_B1 (F : Nat) (a1 : List UInt8) (a2 : Int) (rec6 : (Int × Int) → Option Int) (y4 : Int) (y5 : Int) : Option Int :=
bif decide (y5 < (a1.length : Int)) then
  grd (okAt y5 a1.length) <|
  lt (at_ a1 y5) fun x10 =>
  bnd (ref07_digit F x10) fun x12 =>
  bif decide (a2 ≤ x12) then
    some (-1)
  else
    grd (okI (a2 * y4)) <|
    grd (okI ((a2 * y4) + x12)) <|
    bif decide (1114111 < (a2 * y4) + x12) then
      ref07_number_j2 y5 rec6 1114112
    else
      ref07_number_j2 y5 rec6 ((a2 * y4) + x12)
else
  ref07_number_j1 a1 y4
def ref07_number_L1 (F : Nat) (a1 : List UInt8) (a2 : Int) (n : Nat) : (Int × Int) → Option Int :=
  loop (fun rec x => ref07_number_B1 F a1 a2 rec x.1 x.2) n
def ref07_number (F : Nat) (a1 : List UInt8) (a2 : Int) : Option Int :=
ref07_number_L1 F a1 a2 F (0, 0)
/-- mailcoach/mailcoachref07.sign -/
def ref07_sign_j1 (F : Nat) (y28 : Int) : Option ((List UInt8) × Bool) :=
bnd2 (ref07_Rune F y28) fun x30 x31 =>
some (x30, x31)
def ref07_sign (F : Nat) (a1 : List UInt8) : Option ((List UInt8) × Bool) :=
bif decide (a1 = ([97, 109, 112] : List UInt8)) then
  some (([38] : List UInt8), true)
else
  bif decide (a1 = ([108, 116] : List UInt8)) then
    some (([60] : List UInt8), true)
  else
    bif decide (a1 = ([103, 116] : List UInt8)) then
      some (([62] : List UInt8), true)
    else
      bif decide (a1 = ([113, 117, 111, 116] : List UInt8)) then
        some (([34] : List UInt8), true)
      else
        bif decide (a1 = ([97, 112, 111, 115] : List UInt8)) then
          some (([39] : List UInt8), true)
        else
          grdc (!(decide ((a1.length : Int) < 2))) (okAt 0 a1.length) <|
          lt (at_ a1 0) fun x11 =>
          bif (decide ((a1.length : Int) < 2)) || (!decide (x11 = 35)) then
            some (([] : List UInt8), false)
          else
            grd (okTo 1 a1.length) <|
            lt (from_ a1 1) fun x15 =>
            bnd (ref07_number F x15 10) fun x17 =>
            grd (okAt 1 a1.length) <|
            lt (at_ a1 1) fun x20 =>
            bif decide (x20 = 120) then
              grd (okTo 2 a1.length) <|
              lt (from_ a1 2) fun x24 =>
              bnd (ref07_number F x24 16) fun x26 =>
              ref07_sign_j1 F x26
            else
              ref07_sign_j1 F x17
/-- mailcoach/mailcoachref07.body -/
def ref07_body_j1 : Option ((List UInt8) × Bool) :=
some (([] : List UInt8), false)
def ref07_body_B1 (a1 : List UInt8) (a2 : Int) (rec7 : Int → Option ((List UInt8) × Bool)) (y6 : Int) : Option ((List UInt8) × Bool) :=
grdc (decide (y6 < (a1.length : Int))) (okI (a2 + 11)) <|
bif (decide (y6 < (a1.length : Int))) && (decide (y6 ≤ a2 + 11)) then
  grd (okAt y6 a1.length) <|
  lt (at_ a1 y6) fun x13 =>
  bif decide (x13 = 38) then
    some (([] : List UInt8), false)
  else
    grd (okAt y6 a1.length) <|
    lt (at_ a1 y6) fun x17 =>
    bif decide (x17 = 59) then
      grd (okI (a2 + 1)) <|
      grd (okSub (a2 + 1) y6 a1.length) <|
      lt (sub a1 (a2 + 1) y6) fun x22 =>
      grd (okI (a2 + 1)) <|
      some (x22, decide (a2 + 1 < y6))
    else
      grd (okI (y6 + 1)) <|
      rec7 (y6 + 1)
else
  ref07_body_j1
def ref07_body_L1 (a1 : List UInt8) (a2 : Int) (n : Nat) : Int → Option ((List UInt8) × Bool) :=
  loop (fun rec x => ref07_body_B1 a1 a2 rec x) n
def ref07_body (F : Nat) (a1 : List UInt8) (a2 : Int) : Option ((List UInt8) × Bool) :=
grd (okI (a2 + 1)) <|
ref07_body_L1 a1 a2 F (a2 + 1)
/-- mailcoach/mailcoachref07.gone -/
def ref07_gone_j1 (y40 : List UInt8) (y42 : Bool) : Option ((List UInt8) × Bool) :=
some (y40, y42)
def ref07_gone_j2 (a1 : List UInt8) (y5 : List UInt8) (y8 : Int) (rec9 : ((List UInt8) × Bool × Int) → Option ((List UInt8) × Bool)) (y30 : Bool) : Option ((List UInt8) × Bool) :=
grd (okAt y8 a1.length) <|
lt (at_ a1 y8) fun x33 =>
grd (okCat (y5.length + ([x33] : List UInt8).length)) <|
lt (y5 ++ ([x33] : List UInt8)) fun x37 =>
grd (okI (y8 + 1)) <|
rec9 (x37, y30, y8 + 1)
def ref07_gone_B1 (F : Nat) (a1 : List UInt8) (rec9 : ((List UInt8) × Bool × Int) → Option ((List UInt8) × Bool)) (y5 : List UInt8) (y7 : Bool) (y8 : Int) : Option ((List UInt8) × Bool) :=
bif decide (y8 < (a1.length : Int)) then
  grd (okAt y8 a1.length) <|
  lt (at_ a1 y8) fun x13 =>
  bif decide (x13 = 38) then
    bnd2 (ref07_body F a1 y8) fun x16 x17 =>
    bnd2 (ref07_sign F x16) fun x19 x20 =>
    bif x17 && x20 then
      grd (okCat (y5.length + x19.length)) <|
      lt (y5 ++ x19) fun x26 =>
      grd (okI (y8 + (x16.length : Int))) <|
      grd (okI ((y8 + (x16.length : Int)) + 2)) <|
      rec9 (x26, y7, (y8 + (x16.length : Int)) + 2)
    else
      ref07_gone_j2 a1 y5 y8 rec9 false
  else
    ref07_gone_j2 a1 y5 y8 rec9 y7
else
  ref07_gone_j1 y5 y7
def ref07_gone_L1 (F : Nat) (a1 : List UInt8) (n : Nat) : ((List UInt8) × Bool × Int) → Option ((List UInt8) × Bool) :=
  loop (fun rec x => ref07_gone_B1 F a1 rec x.1 x.2.1 x.2.2) n
def ref07_gone (F : Nat) (a1 : List UInt8) : Option ((List UInt8) × Bool) :=
ref07_gone_L1 F a1 F ([], true, 0)
/-- mailcoach/mailcoachref07.Decode -/
def ref07_Decode (F : Nat) (a1 : List UInt8) : Option ((List UInt8) × Int) :=
bnd2 (ref07_gone F a1) fun x4 x5 =>
bif !x5 then
  some (([] : List UInt8), 2)
else
  some (x4, 0)
/-- mailcoach/mailcoachref07.Loose -/
def ref07_Loose (F : Nat) (a1 : List UInt8) : Option ((List UInt8)) :=
bnd2 (ref07_gone F a1) fun x3 x4 =>
some x3
/-- mailcoach/mailcoachref07.Encode -/
def ref07_Encode_j1 (y44 : List UInt8) : Option ((List UInt8)) :=
some y44
def ref07_Encode_j2 (y6 : Int) (rec7 : ((List UInt8) × Int) → Option ((List UInt8))) (y40 : List UInt8) : Option ((List UInt8)) :=
grd (okI (y6 + 1)) <|
rec7 (y40, y6 + 1)
def ref07_Encode_B1 (a1 : List UInt8) (rec7 : ((List UInt8) × Int) → Option ((List UInt8))) (y4 : List UInt8) (y6 : Int) : Option ((List UInt8)) :=
bif decide (y6 < (a1.length : Int)) then
  grd (okAt y6 a1.length) <|
  lt (at_ a1 y6) fun x11 =>
  bif decide (x11 = 38) then
    grd (okCat (y4.length + ([38, 97, 109, 112, 59] : List UInt8).length)) <|
    lt (y4 ++ ([38, 97, 109, 112, 59] : List UInt8)) fun x16 =>
    ref07_Encode_j2 y6 rec7 x16
  else
    bif decide (x11 = 60) then
      grd (okCat (y4.length + ([38, 108, 116, 59] : List UInt8).length)) <|
      lt (y4 ++ ([38, 108, 116, 59] : List UInt8)) fun x21 =>
      ref07_Encode_j2 y6 rec7 x21
    else
      bif decide (x11 = 62) then
        grd (okCat (y4.length + ([38, 103, 116, 59] : List UInt8).length)) <|
        lt (y4 ++ ([38, 103, 116, 59] : List UInt8)) fun x26 =>
        ref07_Encode_j2 y6 rec7 x26
      else
        bif decide (x11 = 34) then
          grd (okCat (y4.length + ([38, 113, 117, 111, 116, 59] : List UInt8).length)) <|
          lt (y4 ++ ([38, 113, 117, 111, 116, 59] : List UInt8)) fun x31 =>
          ref07_Encode_j2 y6 rec7 x31
        else
          grd (okAt y6 a1.length) <|
          lt (at_ a1 y6) fun x34 =>
          grd (okCat (y4.length + ([x34] : List UInt8).length)) <|
          lt (y4 ++ ([x34] : List UInt8)) fun x38 =>
          ref07_Encode_j2 y6 rec7 x38
else
  ref07_Encode_j1 y4
def ref07_Encode_L1 (a1 : List UInt8) (n : Nat) : ((List UInt8) × Int) → Option ((List UInt8)) :=
  loop (fun rec x => ref07_Encode_B1 a1 rec x.1 x.2) n
def ref07_Encode (F : Nat) (a1 : List UInt8) : Option ((List UInt8)) :=
ref07_Encode_L1 a1 F ([], 0)
/-- mailcoach/mailcoachref07.Trim -/
def ref07_Trim_j1 (y37 : List UInt8) : Option ((List UInt8)) :=
some y37
def ref07_Trim_j2 (y7 : Int) (rec8 : ((List UInt8) × Bool × Int) → Option ((List UInt8))) (y32 : List UInt8) (y34 : Bool) : Option ((List UInt8)) :=
grd (okI (y7 + 1)) <|
rec8 (y32, y34, y7 + 1)
def ref07_Trim_j3 (a1 : List UInt8) (y7 : Int) (rec8 : ((List UInt8) × Bool × Int) → Option ((List UInt8))) (y22 : List UInt8) : Option ((List UInt8)) :=
grd (okAt y7 a1.length) <|
lt (at_ a1 y7) fun x26 =>
grd (okCat (y22.length + ([x26] : List UInt8).length)) <|
lt (y22 ++ ([x26] : List UInt8)) fun x30 =>
ref07_Trim_j2 y7 rec8 x30 false
def ref07_Trim_B1 (F : Nat) (a1 : List UInt8) (rec8 : ((List UInt8) × Bool × Int) → Option ((List UInt8))) (y4 : List UInt8) (y6 : Bool) (y7 : Int) : Option ((List UInt8)) :=
bif decide (y7 < (a1.length : Int)) then
  grd (okAt y7 a1.length) <|
  lt (at_ a1 y7) fun x12 =>
  bnd (ref07_Space F x12) fun x14 =>
  bif x14 then
    ref07_Trim_j2 y7 rec8 y4 (decide (0 < (y4.length : Int)))
  else
    bif y6 then
      grd (okCat (y4.length + ([32] : List UInt8).length)) <|
      lt (y4 ++ ([32] : List UInt8)) fun x20 =>
      ref07_Trim_j3 a1 y7 rec8 x20
    else
      ref07_Trim_j3 a1 y7 rec8 y4
else
  ref07_Trim_j1 y4
def ref07_Trim_L1 (F : Nat) (a1 : List UInt8) (n : Nat) : ((List UInt8) × Bool × Int) → Option ((List UInt8)) :=
  loop (fun rec x => ref07_Trim_B1 F a1 rec x.1 x.2.1 x.2.2) n
def ref07_Trim (F : Nat) (a1 : List UInt8) : Option ((List UInt8)) :=
ref07_Trim_L1 F a1 F ([], false, 0)
end Go.Pv
