/-
  What the statements about schedules share, written again as plain functions: printed by a program of ours from Lean's own print of the loaded program.
-/
import Derived.Test.YtpbfajkbkomfcaaGreatDoorPvLib
import Derived.Test.YtpbfajkbkomfcaaGreatDoorCronBP
set_option linter.unusedVariables false
namespace Go.Pv
def cronl_k1 : List UInt8 := [51, 48, 32, 54, 32, 42, 32, 42, 32, 49, 44, 50, 44, 51, 44, 52, 44, 53]
/-- mailcoach/mailcoachlaw05.awake -/
def law05_awake (F : Nat) : Option Bool :=
bnd (cron_Parse F ([51, 48, 32, 54, 32, 42, 32, 42, 32, 109, 111, 110, 45, 102, 114, 105] : List UInt8)) fun x2 =>
bnd (cron_Parse F ([48, 32, 48, 32, 49, 51, 32, 42, 32, 53] : List UInt8)) fun x5 =>
bnd2 (cron_Write F x2.1 x2.2.1 x2.2.2.1 x2.2.2.2.1 x2.2.2.2.2.1 x2.2.2.2.2.2.1 x2.2.2.2.2.2.2.1 x2.2.2.2.2.2.2.2.1 x2.2.2.2.2.2.2.2.2.1 x2.2.2.2.2.2.2.2.2.2.1) fun x8 x9 =>
bndc ((((decide (x2.2.2.2.2.2.2.2.2.2.2 = 0)) && (decide (x5.2.2.2.2.2.2.2.2.2.2 = 0))) && (decide (x9 = 0))) && (decide (x8 = cronl_k1))) (cron_Match F x2.1 x2.2.1 x2.2.2.1 x2.2.2.2.1 x2.2.2.2.2.1 x2.2.2.2.2.2.1 x2.2.2.2.2.2.2.1 x2.2.2.2.2.2.2.2.1 x2.2.2.2.2.2.2.2.2.1 x2.2.2.2.2.2.2.2.2.2.1 2024 5 6 6 30 0) fun x15 =>
bndc (((((decide (x2.2.2.2.2.2.2.2.2.2.2 = 0)) && (decide (x5.2.2.2.2.2.2.2.2.2.2 = 0))) && (decide (x9 = 0))) && (decide (x8 = cronl_k1))) && x15) (cron_Day F x5.1 x5.2.1 x5.2.2.1 x5.2.2.2.1 x5.2.2.2.2.1 x5.2.2.2.2.2.1 x5.2.2.2.2.2.2.1 x5.2.2.2.2.2.2.2.1 x5.2.2.2.2.2.2.2.2.1 x5.2.2.2.2.2.2.2.2.2.1 2024 5 10) fun x18 =>
bndc ((((((decide (x2.2.2.2.2.2.2.2.2.2.2 = 0)) && (decide (x5.2.2.2.2.2.2.2.2.2.2 = 0))) && (decide (x9 = 0))) && (decide (x8 = cronl_k1))) && x15) && x18) (cron_Day F x5.1 x5.2.1 x5.2.2.1 x5.2.2.2.1 x5.2.2.2.2.1 x5.2.2.2.2.2.1 x5.2.2.2.2.2.2.1 x5.2.2.2.2.2.2.2.1 x5.2.2.2.2.2.2.2.2.1 x5.2.2.2.2.2.2.2.2.2.1 2024 5 13) fun x21 =>
bndc (((((((decide (x2.2.2.2.2.2.2.2.2.2.2 = 0)) && (decide (x5.2.2.2.2.2.2.2.2.2.2 = 0))) && (decide (x9 = 0))) && (decide (x8 = cronl_k1))) && x15) && x18) && x21) (cron_Day F x5.1 x5.2.1 x5.2.2.1 x5.2.2.2.1 x5.2.2.2.2.1 x5.2.2.2.2.2.1 x5.2.2.2.2.2.2.1 x5.2.2.2.2.2.2.2.1 x5.2.2.2.2.2.2.2.2.1 x5.2.2.2.2.2.2.2.2.2.1 2024 5 14) fun x24 =>
some ((((((((decide (x2.2.2.2.2.2.2.2.2.2.2 = 0)) && (decide (x5.2.2.2.2.2.2.2.2.2.2 = 0))) && (decide (x9 = 0))) && (decide (x8 = cronl_k1))) && x15) && x18) && x21) && (!x24))
/-- mailcoach/mailcoachlaw05.Few -/
def law05_Few_j1 : Option Bool :=
some true
def law05_Few_B1 (a1 : List Int) (a2 : List Int) (a3 : List Int) (a4 : List Int) (a5 : List Int) (rec13 : Int → Option Bool) (y12 : Int) : Option Bool :=
bif decide (y12 < 5) then
  grd (okAt y12 5) <|
  lt (at_ ([a1, a2, a3, a4, a5] : List (List Int)) y12) fun x17 =>
  bif decide (100 < (x17.length : Int)) then
    some false
  else
    grd (okI (y12 + 1)) <|
    rec13 (y12 + 1)
else
  law05_Few_j1
def law05_Few_L1 (a1 : List Int) (a2 : List Int) (a3 : List Int) (a4 : List Int) (a5 : List Int) (n : Nat) : Int → Option Bool :=
  loop (fun rec x => law05_Few_B1 a1 a2 a3 a4 a5 rec x) n
def law05_Few (F : Nat) (a1 : List Int) (a2 : List Int) (a3 : List Int) (a4 : List Int) (a5 : List Int) (a6 : Bool) (a7 : Bool) (a8 : Bool) (a9 : Bool) (a10 : Bool) : Option Bool :=
law05_Few_L1 a1 a2 a3 a4 a5 F 0
/-- mailcoach/mailcoachlaw05.digits -/
def law05_digits (F : Nat) (a1 : Int) : Option ((List UInt8)) :=
bif decide (a1 < 10) then
  grd (okI (a1 + 1)) <|
  grd (okSub a1 (a1 + 1) ([48, 49, 50, 51, 52, 53, 54, 55, 56, 57] : List UInt8).length) <|
  lt (sub ([48, 49, 50, 51, 52, 53, 54, 55, 56, 57] : List UInt8) a1 (a1 + 1)) fun x6 =>
  some x6
else
  grd (okDiv a1 10) <|
  grd (okDiv a1 10) <|
  grd (okI ((a1 / 10) + 1)) <|
  grd (okSub (a1 / 10) ((a1 / 10) + 1) ([48, 49, 50, 51, 52, 53, 54, 55, 56, 57] : List UInt8).length) <|
  lt (sub ([48, 49, 50, 51, 52, 53, 54, 55, 56, 57] : List UInt8) (a1 / 10) ((a1 / 10) + 1)) fun x12 =>
  grd (okDiv a1 10) <|
  grd (okDiv a1 10) <|
  grd (okI ((a1 % 10) + 1)) <|
  grd (okSub (a1 % 10) ((a1 % 10) + 1) ([48, 49, 50, 51, 52, 53, 54, 55, 56, 57] : List UInt8).length) <|
  lt (sub ([48, 49, 50, 51, 52, 53, 54, 55, 56, 57] : List UInt8) (a1 % 10) ((a1 % 10) + 1)) fun x18 =>
  grd (okCat (x12.length + x18.length)) <|
  lt (x12 ++ x18) fun x21 =>
  some x21
end Go.Pv
