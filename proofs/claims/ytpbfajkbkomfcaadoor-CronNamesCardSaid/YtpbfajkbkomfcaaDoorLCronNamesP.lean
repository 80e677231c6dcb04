/-
  The statement CronNames, written again as plain functions: printed by a program of ours from Lean's own print of the loaded program.
-/
import Derived.Test.YtpbfajkbkomfcaaDoorPvLib
import Derived.Test.YtpbfajkbkomfcaaDoorCronLP
set_option linter.unusedVariables false
namespace Go.Pv
def lcronnames_k1 : List UInt8 := [106, 97, 110, 102, 101, 98, 109, 97, 114, 97, 112, 114, 109, 97, 121, 106, 117, 110, 106, 117, 108, 97, 117, 103, 115, 101, 112, 111, 99, 116, 110, 111, 118, 100, 101, 99]
def lcronnames_k2 : List UInt8 := [115, 117, 110, 109, 111, 110, 116, 117, 101, 119, 101, 100, 116, 104, 117, 102, 114, 105, 115, 97, 116]
/-- mailcoach/mailcoachlaw05.CronNames -/
def law05_CronNames_j1 (F : Nat) (a1 : Int) (a2 : Int) (x30 : List UInt8) (y67 : List UInt8) : Option Bool :=
grd (decide (y67.length = x30.length)) <|
grd (okCat (([48, 32, 48, 32, 42, 32] : List UInt8).length + y67.length)) <|
lt (([48, 32, 48, 32, 42, 32] : List UInt8) ++ y67) fun x71 =>
bnd (cron_Parse F x71) fun x73 =>
bnd (cron_Parse F ([48, 32, 48, 32, 42, 32, 42, 32, 55] : List UInt8)) fun x76 =>
grdc (((decide (x73.2.2.2.2.2.2.2.2.2.2 = 0)) && (decide (x76.2.2.2.2.2.2.2.2.2.2 = 0))) && (decide ((x73.2.2.2.1.length : Int) = 1))) (okAt 0 x73.2.2.2.1.length) <|
lt (at_ x73.2.2.2.1 0) fun x83 =>
grdc (((((decide (x73.2.2.2.2.2.2.2.2.2.2 = 0)) && (decide (x76.2.2.2.2.2.2.2.2.2.2 = 0))) && (decide ((x73.2.2.2.1.length : Int) = 1))) && (decide (x83 = a1))) && (decide ((x73.2.2.2.2.1.length : Int) = 1))) (okAt 0 x73.2.2.2.2.1.length) <|
lt (at_ x73.2.2.2.2.1 0) fun x88 =>
grdc (((((((decide (x73.2.2.2.2.2.2.2.2.2.2 = 0)) && (decide (x76.2.2.2.2.2.2.2.2.2.2 = 0))) && (decide ((x73.2.2.2.1.length : Int) = 1))) && (decide (x83 = a1))) && (decide ((x73.2.2.2.2.1.length : Int) = 1))) && (decide (x88 = a2))) && (decide ((x76.2.2.2.2.1.length : Int) = 1))) (okAt 0 x76.2.2.2.2.1.length) <|
lt (at_ x76.2.2.2.2.1 0) fun x93 =>
some ((((((((decide (x73.2.2.2.2.2.2.2.2.2.2 = 0)) && (decide (x76.2.2.2.2.2.2.2.2.2.2 = 0))) && (decide ((x73.2.2.2.1.length : Int) = 1))) && (decide (x83 = a1))) && (decide ((x73.2.2.2.2.1.length : Int) = 1))) && (decide (x88 = a2))) && (decide ((x76.2.2.2.2.1.length : Int) = 1))) && (decide (x93 = 0)))
def law05_CronNames_j2 (y35 : Int) (rec37 : (Int × (List UInt8)) → Option Bool) (y64 : List UInt8) : Option Bool :=
grd (okI (y35 + 1)) <|
rec37 (y35 + 1, y64)
def law05_CronNames_j3 (x30 : List UInt8) (y35 : Int) (y36 : List UInt8) (rec37 : (Int × (List UInt8)) → Option Bool) (y51 : Int) : Option Bool :=
grdc (!decide (y35 = 3)) (okDiv y51 2) <|
bif (!decide (y35 = 3)) && (decide (y51 % 2 = 1)) then
  grd (okAt y35 x30.length) <|
  grd (okAt y35 y36.length) <|
  lt (at_ y36 y35) fun x58 =>
  grd (okAt y35 x30.length) <|
  grd (okAt y35 y36.length) <|
  lt (y36.set (Int.toNat y35) (x58 - 32)) fun x62 =>
  law05_CronNames_j2 y35 rec37 x62
else
  law05_CronNames_j2 y35 rec37 y36
def law05_CronNames_B1 (x30 : List UInt8) (y35 : Int) (y36 : List UInt8) (y42 : Int) (rec37 : (Int × (List UInt8)) → Option Bool) (rec46 : (Int × Int) → Option Bool) (y44 : Int) (y45 : Int) : Option Bool :=
bif decide (y45 < y42) then
  grd (okDiv y44 2) <|
  grd (okI (y45 + 1)) <|
  rec46 (y44 / 2, y45 + 1)
else
  law05_CronNames_j3 x30 y35 y36 rec37 y44
def law05_CronNames_L1 (x30 : List UInt8) (y35 : Int) (y36 : List UInt8) (y42 : Int) (rec37 : (Int × (List UInt8)) → Option Bool) (n : Nat) : (Int × Int) → Option Bool :=
  loop (fun rec x => law05_CronNames_B1 x30 y35 y36 y42 rec37 rec x.1 x.2) n
def law05_CronNames_j4 (F : Nat) (a3 : Int) (x30 : List UInt8) (y35 : Int) (y36 : List UInt8) (rec37 : (Int × (List UInt8)) → Option Bool) (y42 : Int) : Option Bool :=
law05_CronNames_L1 x30 y35 y36 y42 rec37 F (a3, 0)
def law05_CronNames_B2 (F : Nat) (a1 : Int) (a2 : Int) (a3 : Int) (x30 : List UInt8) (rec37 : (Int × (List UInt8)) → Option Bool) (y35 : Int) (y36 : List UInt8) : Option Bool :=
bif decide (y35 < 7) then
  bif decide (3 < y35) then
    grd (okI (y35 - 1)) <|
    law05_CronNames_j4 F a3 x30 y35 y36 rec37 (y35 - 1)
  else
    law05_CronNames_j4 F a3 x30 y35 y36 rec37 y35
else
  law05_CronNames_j1 F a1 a2 x30 y36
def law05_CronNames_L2 (F : Nat) (a1 : Int) (a2 : Int) (a3 : Int) (x30 : List UInt8) (n : Nat) : (Int × (List UInt8)) → Option Bool :=
  loop (fun rec x => law05_CronNames_B2 F a1 a2 a3 x30 rec x.1 x.2) n
def law05_CronNames (F : Nat) (a1 : Int) (a2 : Int) (a3 : Int) : Option Bool :=
bnd (law05_awake F) fun x5 =>
bif ((((((!x5) || (decide (a1 < 1))) || (decide (12 < a1))) || (decide (a2 < 0))) || (decide (6 < a2))) || (decide (a3 < 0))) || (decide (63 < a3)) then
  some x5
else
  grd (okI (3 * a1)) <|
  grd (okI ((3 * a1) - 3)) <|
  grd (okI (3 * a1)) <|
  grd (okSub ((3 * a1) - 3) (3 * a1) lcronnames_k1.length) <|
  lt (sub lcronnames_k1 ((3 * a1) - 3) (3 * a1)) fun x18 =>
  grd (okCat (x18.length + ([32] : List UInt8).length)) <|
  lt (x18 ++ ([32] : List UInt8)) fun x21 =>
  grd (okI (3 * a2)) <|
  grd (okI (3 * a2)) <|
  grd (okI ((3 * a2) + 3)) <|
  grd (okSub (3 * a2) ((3 * a2) + 3) lcronnames_k2.length) <|
  lt (sub lcronnames_k2 (3 * a2) ((3 * a2) + 3)) fun x27 =>
  grd (okCat (x21.length + x27.length)) <|
  lt (x21 ++ x27) fun x30 =>
  grd (okCat x30.length) <|
  law05_CronNames_L2 F a1 a2 a3 x30 F (0, x30)
end Go.Pv
