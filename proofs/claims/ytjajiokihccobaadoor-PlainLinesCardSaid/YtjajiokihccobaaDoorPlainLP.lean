/-
  The statements about plain texts, written again as plain functions: printed by a program of ours from Lean's own print of the loaded program.
-/
import Derived.Test.YtjajiokihccobaaDoorPvLib
import Derived.Test.YtjajiokihccobaaDoorPlainAP
set_option linter.unusedVariables false
namespace Go.Pv
def plainl_k1 : List UInt8 := [97, 60, 98, 114, 62, 98, 38, 97, 109, 112, 59, 60, 115, 99, 114, 105, 112, 116, 62, 120, 60, 47, 115, 99, 114, 105, 112, 116, 62, 32, 99]
/-- mailcoach/mailcoachlaw11.awake -/
def law11_awake (F : Nat) : Option Bool :=
bnd (plain_Wrap F ([97, 32, 98, 99, 32, 100] : List UInt8) 4) fun x2 =>
bnd (plain_Of F plainl_k1) fun x4 =>
grdc ((decide (x4 = ([97, 10, 98, 38, 32, 99] : List UInt8))) && (decide ((x2.length : Int) = 2))) (okAt 0 x2.length) <|
lt (at_ x2 0) fun x9 =>
grdc (((decide (x4 = ([97, 10, 98, 38, 32, 99] : List UInt8))) && (decide ((x2.length : Int) = 2))) && (decide (x9 = ([97, 32, 98, 99] : List UInt8)))) (okAt 1 x2.length) <|
lt (at_ x2 1) fun x13 =>
some ((((decide (x4 = ([97, 10, 98, 38, 32, 99] : List UInt8))) && (decide ((x2.length : Int) = 2))) && (decide (x9 = ([97, 32, 98, 99] : List UInt8)))) && (decide (x13 = ([100] : List UInt8))))
/-- mailcoach/mailcoachlaw11.PlainSame -/
def law11_PlainSame_j1 (F : Nat) (a1 : List UInt8) : Option Bool :=
bnd (plain_Of F a1) fun x21 =>
bnd (ref07_Trim F a1) fun x23 =>
some (decide (x21 = x23))
def law11_PlainSame_B1 (F : Nat) (a1 : List UInt8) (rec8 : Int → Option Bool) (y7 : Int) : Option Bool :=
bif decide (y7 < (a1.length : Int)) then
  grd (okAt y7 a1.length) <|
  lt (at_ a1 y7) fun x12 =>
  grdc (!(decide (x12 = 60))) (okAt y7 a1.length) <|
  lt (at_ a1 y7) fun x16 =>
  bif (decide (x12 = 60)) || (decide (x16 = 38)) then
    some true
  else
    grd (okI (y7 + 1)) <|
    rec8 (y7 + 1)
else
  law11_PlainSame_j1 F a1
def law11_PlainSame_L1 (F : Nat) (a1 : List UInt8) (n : Nat) : Int → Option Bool :=
  loop (fun rec x => law11_PlainSame_B1 F a1 rec x) n
def law11_PlainSame (F : Nat) (a1 : List UInt8) : Option Bool :=
bnd (law11_awake F) fun x3 =>
bif (!x3) || (decide (1000 < (a1.length : Int))) then
  some x3
else
  law11_PlainSame_L1 F a1 F 0
/-- mailcoach/mailcoachlaw11.PlainLines -/
def law11_PlainLines_j1 (x7 : List UInt8) (y42 : UInt8) : Option Bool :=
some ((decide (x7 = ([] : List UInt8))) || ((!decide (y42 = 10)) && (!decide (y42 = 32))))
def law11_PlainLines_B1 (x7 : List UInt8) (rec11 : (UInt8 × Int) → Option Bool) (y9 : UInt8) (y10 : Int) : Option Bool :=
bif decide (y10 < (x7.length : Int)) then
  grd (okAt y10 x7.length) <|
  lt (at_ x7 y10) fun x15 =>
  grdc (!((decide (x15 = 10)) && (decide (y9 = 10)))) (okAt y10 x7.length) <|
  lt (at_ x7 y10) fun x20 =>
  grdc (!(((decide (x15 = 10)) && (decide (y9 = 10))) || ((decide (x20 = 32)) && ((decide (y9 = 32)) || (decide (y9 = 10)))))) (okAt y10 x7.length) <|
  lt (at_ x7 y10) fun x26 =>
  grdc (!((((decide (x15 = 10)) && (decide (y9 = 10))) || ((decide (x20 = 32)) && ((decide (y9 = 32)) || (decide (y9 = 10))))) || ((decide (x26 = 10)) && (decide (y9 = 32))))) (okAt y10 x7.length) <|
  lt (at_ x7 y10) fun x31 =>
  grdc (!(((((decide (x15 = 10)) && (decide (y9 = 10))) || ((decide (x20 = 32)) && ((decide (y9 = 32)) || (decide (y9 = 10))))) || ((decide (x26 = 10)) && (decide (y9 = 32)))) || (decide (x31 = 9)))) (okAt y10 x7.length) <|
  lt (at_ x7 y10) fun x35 =>
  bif (((((decide (x15 = 10)) && (decide (y9 = 10))) || ((decide (x20 = 32)) && ((decide (y9 = 32)) || (decide (y9 = 10))))) || ((decide (x26 = 10)) && (decide (y9 = 32)))) || (decide (x31 = 9))) || (decide (x35 = 13)) then
    some false
  else
    grd (okAt y10 x7.length) <|
    lt (at_ x7 y10) fun x39 =>
    grd (okI (y10 + 1)) <|
    rec11 (x39, y10 + 1)
else
  law11_PlainLines_j1 x7 y9
def law11_PlainLines_L1 (x7 : List UInt8) (n : Nat) : (UInt8 × Int) → Option Bool :=
  loop (fun rec x => law11_PlainLines_B1 x7 rec x.1 x.2) n
def law11_PlainLines (F : Nat) (a1 : List UInt8) : Option Bool :=
bnd (law11_awake F) fun x3 =>
bif (!x3) || (decide (1000 < (a1.length : Int))) then
  some x3
else
  bnd (plain_Of F a1) fun x7 =>
  law11_PlainLines_L1 x7 F (10, 0)
/-- mailcoach/mailcoachlaw11.PlainMarks -/
def law11_PlainMarks_j1 (F : Nat) (a1 : List UInt8) (a2 : List UInt8) (a3 : Int) : Option Bool :=
grd (okAt a3 ([([60, 98, 62] : List UInt8), ([60, 47, 105, 62] : List UInt8), ([60, 97, 32, 104, 114, 101, 102, 61, 34, 120, 34, 62] : List UInt8), ([60, 33, 45, 45, 32, 121, 32, 45, 45, 62] : List UInt8), ([60, 115, 116, 121, 108, 101, 62, 113, 60, 47, 115, 116, 121, 108, 101, 62] : List UInt8), ([60, 98, 114, 62] : List UInt8), ([60, 80, 62] : List UInt8), ([60, 47, 100, 105, 118, 62] : List UInt8), ([60, 104, 51, 32, 99, 108, 97, 115, 115, 61, 39, 122, 39, 62] : List UInt8), ([60, 108, 105, 47, 62] : List UInt8)] : List (List UInt8)).length) <|
lt (at_ ([([60, 98, 62] : List UInt8), ([60, 47, 105, 62] : List UInt8), ([60, 97, 32, 104, 114, 101, 102, 61, 34, 120, 34, 62] : List UInt8), ([60, 33, 45, 45, 32, 121, 32, 45, 45, 62] : List UInt8), ([60, 115, 116, 121, 108, 101, 62, 113, 60, 47, 115, 116, 121, 108, 101, 62] : List UInt8), ([60, 98, 114, 62] : List UInt8), ([60, 80, 62] : List UInt8), ([60, 47, 100, 105, 118, 62] : List UInt8), ([60, 104, 51, 32, 99, 108, 97, 115, 115, 61, 39, 122, 39, 62] : List UInt8), ([60, 108, 105, 47, 62] : List UInt8)] : List (List UInt8)) a3) fun x32 =>
grd (okCat (a1.length + x32.length)) <|
lt (a1 ++ x32) fun x35 =>
grd (okCat (x35.length + a2.length)) <|
lt (x35 ++ a2) fun x38 =>
bnd (plain_Of F x38) fun x40 =>
bif decide (a3 < 5) then
  grd (okCat (a1.length + a2.length)) <|
  lt (a1 ++ a2) fun x44 =>
  some (decide (x40 = x44))
else
  grd (okCat (a1.length + ([10] : List UInt8).length)) <|
  lt (a1 ++ ([10] : List UInt8)) fun x47 =>
  grd (okCat (x47.length + a2.length)) <|
  lt (x47 ++ a2) fun x50 =>
  some (decide (x40 = x50))
def law11_PlainMarks_B1 (F : Nat) (a1 : List UInt8) (a2 : List UInt8) (a3 : Int) (x15 : List UInt8) (rec18 : Int → Option Bool) (y17 : Int) : Option Bool :=
bif decide (y17 < (x15.length : Int)) then
  grd (okAt y17 x15.length) <|
  lt (at_ x15 y17) fun x22 =>
  grdc (!(decide ((x22.toNat : Int) < 97))) (okAt y17 x15.length) <|
  lt (at_ x15 y17) fun x26 =>
  bif (decide ((x22.toNat : Int) < 97)) || (decide (122 < (x26.toNat : Int))) then
    some true
  else
    grd (okI (y17 + 1)) <|
    rec18 (y17 + 1)
else
  law11_PlainMarks_j1 F a1 a2 a3
def law11_PlainMarks_L1 (F : Nat) (a1 : List UInt8) (a2 : List UInt8) (a3 : Int) (x15 : List UInt8) (n : Nat) : Int → Option Bool :=
  loop (fun rec x => law11_PlainMarks_B1 F a1 a2 a3 x15 rec x) n
def law11_PlainMarks (F : Nat) (a1 : List UInt8) (a2 : List UInt8) (a3 : Int) : Option Bool :=
bnd (law11_awake F) fun x5 =>
bif ((((((!x5) || (decide (100 < (a1.length : Int)))) || (decide (100 < (a2.length : Int)))) || (decide (a3 < 0))) || (decide (9 < a3))) || (decide (a1 = ([] : List UInt8)))) || (decide (a2 = ([] : List UInt8))) then
  some x5
else
  grd (okCat (a1.length + a2.length)) <|
  lt (a1 ++ a2) fun x15 =>
  law11_PlainMarks_L1 F a1 a2 a3 x15 F 0
/-- mailcoach/mailcoachlaw11.PlainWraps -/
def law11_PlainWraps_j1 (F : Nat) (a1 : List UInt8) (y72 : List UInt8) : Option Bool :=
bnd (ref07_Trim F a1) fun x74 =>
some (decide (y72 = x74))
def law11_PlainWraps_j2 (x20 : List (List UInt8)) (y24 : Int) (rec25 : ((List UInt8) × Int) → Option Bool) (y63 : List UInt8) : Option Bool :=
grd (okAt y24 x20.length) <|
lt (at_ x20 y24) fun x66 =>
grd (okCat (y63.length + x66.length)) <|
lt (y63 ++ x66) fun x69 =>
grd (okI (y24 + 1)) <|
rec25 (x69, y24 + 1)
def law11_PlainWraps_B1 (F : Nat) (a1 : List UInt8) (a2 : Int) (x20 : List (List UInt8)) (rec25 : ((List UInt8) × Int) → Option Bool) (y23 : List UInt8) (y24 : Int) : Option Bool :=
bif decide (y24 < (x20.length : Int)) then
  grd (okAt y24 x20.length) <|
  lt (at_ x20 y24) fun x29 =>
  bnd (ref11_Words F x29) fun x31 =>
  grd (okAt y24 x20.length) <|
  lt (at_ x20 y24) fun x34 =>
  grdc (((!((decide (a2 < (x34.length : Int))) && (!decide ((x31.length : Int) = 1)))) && (decide (0 < y24))) && (!(decide ((x31.length : Int) = 0)))) (okI (y24 - 1)) <|
  grdc (((!((decide (a2 < (x34.length : Int))) && (!decide ((x31.length : Int) = 1)))) && (decide (0 < y24))) && (!(decide ((x31.length : Int) = 0)))) (okAt (y24 - 1) x20.length) <|
  lt (at_ x20 (y24 - 1)) fun x42 =>
  grdc (((!((decide (a2 < (x34.length : Int))) && (!decide ((x31.length : Int) = 1)))) && (decide (0 < y24))) && (!(decide ((x31.length : Int) = 0)))) (okI ((x42.length : Int) + 1)) <|
  grdc (((!((decide (a2 < (x34.length : Int))) && (!decide ((x31.length : Int) = 1)))) && (decide (0 < y24))) && (!(decide ((x31.length : Int) = 0)))) (okAt 0 x31.length) <|
  lt (at_ x31 0) fun x46 =>
  grdc (((!((decide (a2 < (x34.length : Int))) && (!decide ((x31.length : Int) = 1)))) && (decide (0 < y24))) && (!(decide ((x31.length : Int) = 0)))) (okI (((x42.length : Int) + 1) + (x46.length : Int))) <|
  grdc (!(((decide (a2 < (x34.length : Int))) && (!decide ((x31.length : Int) = 1))) || ((decide (0 < y24)) && ((decide ((x31.length : Int) = 0)) || (decide (((x42.length : Int) + 1) + (x46.length : Int) ≤ a2)))))) (okAt y24 x20.length) <|
  lt (at_ x20 y24) fun x51 =>
  grdc (!(((decide (a2 < (x34.length : Int))) && (!decide ((x31.length : Int) = 1))) || ((decide (0 < y24)) && ((decide ((x31.length : Int) = 0)) || (decide (((x42.length : Int) + 1) + (x46.length : Int) ≤ a2)))))) (okAt y24 x20.length) <|
  lt (at_ x20 y24) fun x54 =>
  bndc (!(((decide (a2 < (x34.length : Int))) && (!decide ((x31.length : Int) = 1))) || ((decide (0 < y24)) && ((decide ((x31.length : Int) = 0)) || (decide (((x42.length : Int) + 1) + (x46.length : Int) ≤ a2)))))) (ref07_Trim F x51) fun x56 =>
  bif (((decide (a2 < (x34.length : Int))) && (!decide ((x31.length : Int) = 1))) || ((decide (0 < y24)) && ((decide ((x31.length : Int) = 0)) || (decide (((x42.length : Int) + 1) + (x46.length : Int) ≤ a2))))) || (!decide (x56 = x54)) then
    some false
  else
    bif decide (0 < y24) then
      grd (okCat (y23.length + ([32] : List UInt8).length)) <|
      lt (y23 ++ ([32] : List UInt8)) fun x61 =>
      law11_PlainWraps_j2 x20 y24 rec25 x61
    else
      law11_PlainWraps_j2 x20 y24 rec25 y23
else
  law11_PlainWraps_j1 F a1 y23
def law11_PlainWraps_L1 (F : Nat) (a1 : List UInt8) (a2 : Int) (x20 : List (List UInt8)) (n : Nat) : ((List UInt8) × Int) → Option Bool :=
  loop (fun rec x => law11_PlainWraps_B1 F a1 a2 x20 rec x.1 x.2) n
def law11_PlainWraps_j3 (F : Nat) (a1 : List UInt8) (a2 : Int) : Option Bool :=
bnd (plain_Wrap F a1 a2) fun x20 =>
bif decide ((x20.length : Int) = 0) then
  some false
else
  law11_PlainWraps_L1 F a1 a2 x20 F (([] : List UInt8), 0)
def law11_PlainWraps_B2 (F : Nat) (a1 : List UInt8) (a2 : Int) (rec11 : Int → Option Bool) (y10 : Int) : Option Bool :=
bif decide (y10 < (a1.length : Int)) then
  grd (okAt y10 a1.length) <|
  lt (at_ a1 y10) fun x15 =>
  bif decide (x15 = 10) then
    some true
  else
    grd (okI (y10 + 1)) <|
    rec11 (y10 + 1)
else
  law11_PlainWraps_j3 F a1 a2
def law11_PlainWraps_L2 (F : Nat) (a1 : List UInt8) (a2 : Int) (n : Nat) : Int → Option Bool :=
  loop (fun rec x => law11_PlainWraps_B2 F a1 a2 rec x) n
def law11_PlainWraps (F : Nat) (a1 : List UInt8) (a2 : Int) : Option Bool :=
bnd (law11_awake F) fun x4 =>
bif (((!x4) || (decide (600 < (a1.length : Int)))) || (decide (a2 < 1))) || (decide (1000 < a2)) then
  some x4
else
  law11_PlainWraps_L2 F a1 a2 F 0
end Go.Pv
