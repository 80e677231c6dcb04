/-
  The statement CronParses, written again as plain functions: printed by a program of ours from Lean's own print of the loaded program.
-/
import Derived.Test.YtpbfajkbkomfcaaGreatDoorPvLib
import Derived.Test.YtpbfajkbkomfcaaGreatDoorCronLP
import Derived.Test.YtpbfajkbkomfcaaGreatDoorCronRP
import Derived.Test.YtpbfajkbkomfcaaGreatDoorCronEP
set_option linter.unusedVariables false
namespace Go.Pv

/-- mailcoach/mailcoachlaw05.CronParses -/
def law05_CronParses (F : Nat) (a1 : List UInt8) : Option Bool :=
bnd (law05_awake F) fun x3 =>
bif (!x3) || (decide (300 < (a1.length : Int))) then
  some x3
else
  bnd (cron_Parse F a1) fun x7 =>
  bnd (ref05_Parse F a1) fun x10 =>
  bnd (ref05_Same F x7.1 x7.2.1 x7.2.2.1 x7.2.2.2.1 x7.2.2.2.2.1 x7.2.2.2.2.2.1 x7.2.2.2.2.2.2.1 x7.2.2.2.2.2.2.2.1 x7.2.2.2.2.2.2.2.2.1 x7.2.2.2.2.2.2.2.2.2.1 x10.1 x10.2.1 x10.2.2.1 x10.2.2.2.1 x10.2.2.2.2.1 x10.2.2.2.2.2.1 x10.2.2.2.2.2.2.1 x10.2.2.2.2.2.2.2.1 x10.2.2.2.2.2.2.2.2.1 x10.2.2.2.2.2.2.2.2.2.1) fun x13 =>
  some (x13 && (decide (x7.2.2.2.2.2.2.2.2.2.2 = x10.2.2.2.2.2.2.2.2.2.2)))
end Go.Pv
