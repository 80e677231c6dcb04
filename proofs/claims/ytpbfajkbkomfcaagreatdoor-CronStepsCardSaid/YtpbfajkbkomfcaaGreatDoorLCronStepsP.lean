/-
  The statement CronSteps, written again as plain functions: printed by a program of ours from Lean's own print of the loaded program.
-/
import Derived.Test.YtpbfajkbkomfcaaGreatDoorPvLib
import Derived.Test.YtpbfajkbkomfcaaGreatDoorCronLP
import Derived.Test.YtpbfajkbkomfcaaGreatDoorCronQP
set_option linter.unusedVariables false
namespace Go.Pv

/-- mailcoach/mailcoachlaw05.CronSteps -/
def law05_CronSteps_j1 : Option Bool :=
some true
def law05_CronSteps_B1 (F : Nat) (a1 : Int) (a2 : Int) (a3 : Int) (x34 : (List Int) × (List Int) × (List Int) × (List Int) × (List Int) × Bool × Bool × Bool × Bool × Bool × Int) (x45 : (List Int) × (List Int) × (List Int) × (List Int) × (List Int) × Bool × Bool × Bool × Bool × Bool × Int) (rec54 : Int → Option Bool) (y53 : Int) : Option Bool :=
bif decide (y53 < 60) then
  bnd (ref05_Has F x34.1 y53) fun x57 =>
  bnd (ref05_Has F x45.1 y53) fun x59 =>
  grdc ((decide (a1 ≤ y53)) && (decide (y53 ≤ a2))) (okI (y53 - a1)) <|
  grdc ((decide (a1 ≤ y53)) && (decide (y53 ≤ a2))) (okDiv (y53 - a1) a3) <|
  grdc (!(!(x57 == (((decide (a1 ≤ y53)) && (decide (y53 ≤ a2))) && (decide ((y53 - a1) % a3 = 0)))))) (okDiv y53 a3) <|
  bif (!(x57 == (((decide (a1 ≤ y53)) && (decide (y53 ≤ a2))) && (decide ((y53 - a1) % a3 = 0))))) || (!(x59 == (decide (y53 % a3 = 0)))) then
    some false
  else
    grd (okI (y53 + 1)) <|
    rec54 (y53 + 1)
else
  law05_CronSteps_j1
def law05_CronSteps_L1 (F : Nat) (a1 : Int) (a2 : Int) (a3 : Int) (x34 : (List Int) × (List Int) × (List Int) × (List Int) × (List Int) × Bool × Bool × Bool × Bool × Bool × Int) (x45 : (List Int) × (List Int) × (List Int) × (List Int) × (List Int) × Bool × Bool × Bool × Bool × Bool × Int) (n : Nat) : Int → Option Bool :=
  loop (fun rec x => law05_CronSteps_B1 F a1 a2 a3 x34 x45 rec x) n
def law05_CronSteps (F : Nat) (a1 : Int) (a2 : Int) (a3 : Int) : Option Bool :=
bnd (law05_awake F) fun x5 =>
bif (((((!x5) || (decide (a1 < 0))) || (decide (a2 < a1))) || (decide (59 < a2))) || (decide (a3 < 1))) || (decide (99 < a3)) then
  some x5
else
  bnd (law05_digits F a1) fun x13 =>
  grd (okCat (x13.length + ([45] : List UInt8).length)) <|
  lt (x13 ++ ([45] : List UInt8)) fun x16 =>
  bnd (law05_digits F a2) fun x18 =>
  grd (okCat (x16.length + x18.length)) <|
  lt (x16 ++ x18) fun x21 =>
  grd (okCat (x21.length + ([47] : List UInt8).length)) <|
  lt (x21 ++ ([47] : List UInt8)) fun x24 =>
  bnd (law05_digits F a3) fun x26 =>
  grd (okCat (x24.length + x26.length)) <|
  lt (x24 ++ x26) fun x29 =>
  grd (okCat (x29.length + ([32, 42, 32, 42, 32, 42, 32, 42] : List UInt8).length)) <|
  lt (x29 ++ ([32, 42, 32, 42, 32, 42, 32, 42] : List UInt8)) fun x32 =>
  bnd (cron_Parse F x32) fun x34 =>
  bnd (law05_digits F a3) fun x37 =>
  grd (okCat (([42, 47] : List UInt8).length + x37.length)) <|
  lt (([42, 47] : List UInt8) ++ x37) fun x40 =>
  grd (okCat (x40.length + ([32, 42, 32, 42, 32, 42, 32, 42] : List UInt8).length)) <|
  lt (x40 ++ ([32, 42, 32, 42, 32, 42, 32, 42] : List UInt8)) fun x43 =>
  bnd (cron_Parse F x43) fun x45 =>
  bif ((((!decide (x34.2.2.2.2.2.2.2.2.2.2 = 0)) || (!decide (x45.2.2.2.2.2.2.2.2.2.2 = 0))) || x34.2.2.2.2.2.1) || x45.2.2.2.2.2.1) || (!x34.2.2.2.2.2.2.1) then
    some false
  else
    law05_CronSteps_L1 F a1 a2 a3 x34 x45 F 0
end Go.Pv
