/-
  The statement CronBack, written again as plain functions: printed by a program of ours from Lean's own print of the loaded program.
-/
import Derived.Test.YtpbfajkbkomfcaaGreatDoorPvLib
import Derived.Test.YtpbfajkbkomfcaaGreatDoorCronLP
import Derived.Test.YtpbfajkbkomfcaaGreatDoorCronGP
set_option linter.unusedVariables false
namespace Go.Pv

/-- mailcoach/mailcoachlaw05.CronBack -/
def law05_CronBack_j1 (F : Nat) (a11 : List UInt8) : Option Bool :=
bnd (cron_Parse F a11) fun x34 =>
bndc (!(!decide (x34.2.2.2.2.2.2.2.2.2.2 = 0))) (cron_May F x34.1 x34.2.1 x34.2.2.1 x34.2.2.2.1 x34.2.2.2.2.1 x34.2.2.2.2.2.1 x34.2.2.2.2.2.2.1 x34.2.2.2.2.2.2.2.1 x34.2.2.2.2.2.2.2.2.1 x34.2.2.2.2.2.2.2.2.2.1) fun x38 =>
some ((!decide (x34.2.2.2.2.2.2.2.2.2.2 = 0)) || x38)
def law05_CronBack (F : Nat) (a1 : List Int) (a2 : List Int) (a3 : List Int) (a4 : List Int) (a5 : List Int) (a6 : Bool) (a7 : Bool) (a8 : Bool) (a9 : Bool) (a10 : Bool) (a11 : List UInt8) : Option Bool :=
bnd (law05_awake F) fun x13 =>
bnd (law05_Few F a1 a2 a3 a4 a5 a6 a7 a8 a9 a10) fun x15 =>
bif ((!x13) || (!x15)) || (decide (300 < (a11.length : Int))) then
  some x13
else
  bnd2 (cron_Write F a1 a2 a3 a4 a5 a6 a7 a8 a9 a10) fun x20 x21 =>
  bif decide (x21 = 0) then
    bnd (cron_Parse F x20) fun x24 =>
    bndc (((!(!((decide (x24.2.2.2.2.2.2.2.2.2.2 = 4)) == (decide (200 < (x20.length : Int)))))) && (!decide (x24.2.2.2.2.2.2.2.2.2.2 = 4))) && (!(!decide (x24.2.2.2.2.2.2.2.2.2.2 = 0)))) (cron_Same F a1 a2 a3 a4 a5 a6 a7 a8 a9 a10 x24.1 x24.2.1 x24.2.2.1 x24.2.2.2.1 x24.2.2.2.2.1 x24.2.2.2.2.2.1 x24.2.2.2.2.2.2.1 x24.2.2.2.2.2.2.2.1 x24.2.2.2.2.2.2.2.2.1 x24.2.2.2.2.2.2.2.2.2.1) fun x30 =>
    bif (!((decide (x24.2.2.2.2.2.2.2.2.2.2 = 4)) == (decide (200 < (x20.length : Int))))) || ((!decide (x24.2.2.2.2.2.2.2.2.2.2 = 4)) && ((!decide (x24.2.2.2.2.2.2.2.2.2.2 = 0)) || (!x30))) then
      some false
    else
      law05_CronBack_j1 F a11
  else
    law05_CronBack_j1 F a11
end Go.Pv
