/-
  The statement CronStars, written again as plain functions: printed by a program of ours from Lean's own print of the loaded program.
-/
import Derived.Test.YtpbfajkbkomfcaaGreatDoorPvLib
import Derived.Test.YtpbfajkbkomfcaaGreatDoorCronLP
set_option linter.unusedVariables false
namespace Go.Pv

/-- mailcoach/mailcoachlaw05.CronStars -/
def law05_CronStars (F : Nat) (a1 : Int) (a2 : Int) (a3 : Int) (a4 : Int) (a5 : Int) (a6 : Int) (a7 : Int) : Option Bool :=
bnd (law05_awake F) fun x9 =>
bif ((!x9) || (decide (a7 < 0))) || (decide (59 < a7)) then
  some x9
else
  bnd (cron_Parse F ([42, 32, 42, 32, 42, 32, 42, 32, 42] : List UInt8)) fun x14 =>
  bnd (law05_digits F a7) fun x17 =>
  grd (okCat (x17.length + ([32, 42, 32, 42, 32, 42, 32, 42] : List UInt8).length)) <|
  lt (x17 ++ ([32, 42, 32, 42, 32, 42, 32, 42] : List UInt8)) fun x20 =>
  bnd (cron_Parse F x20) fun x22 =>
  bif (!decide (x14.2.2.2.2.2.2.2.2.2.2 = 0)) || (!decide (x22.2.2.2.2.2.2.2.2.2.2 = 0)) then
    some false
  else
    bnd (stamp_May F a1 a2 a3 a4 a5 a6) fun x27 =>
    bnd (cron_Match F x14.1 x14.2.1 x14.2.2.1 x14.2.2.2.1 x14.2.2.2.2.1 x14.2.2.2.2.2.1 x14.2.2.2.2.2.2.1 x14.2.2.2.2.2.2.2.1 x14.2.2.2.2.2.2.2.2.1 x14.2.2.2.2.2.2.2.2.2.1 a1 a2 a3 a4 a5 a6) fun x29 =>
    bndc (x29 == (x27 && (decide (a6 = 0)))) (cron_Match F x22.1 x22.2.1 x22.2.2.1 x22.2.2.2.1 x22.2.2.2.2.1 x22.2.2.2.2.2.1 x22.2.2.2.2.2.2.1 x22.2.2.2.2.2.2.2.1 x22.2.2.2.2.2.2.2.2.1 x22.2.2.2.2.2.2.2.2.2.1 a1 a2 a3 a4 a5 a6) fun x33 =>
    some ((x29 == (x27 && (decide (a6 = 0)))) && (x33 == ((x27 && (decide (a6 = 0))) && (decide (a5 = a7)))))
end Go.Pv
