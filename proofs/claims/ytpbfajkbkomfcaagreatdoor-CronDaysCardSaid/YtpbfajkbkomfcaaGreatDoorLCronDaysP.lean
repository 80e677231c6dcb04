/-
  The statement CronDays, written again as plain functions: printed by a program of ours from Lean's own print of the loaded program.
-/
import Derived.Test.YtpbfajkbkomfcaaGreatDoorPvLib
import Derived.Test.YtpbfajkbkomfcaaGreatDoorCronLP
import Derived.Test.YtpbfajkbkomfcaaGreatDoorCronQP
set_option linter.unusedVariables false
namespace Go.Pv

/-- mailcoach/mailcoachlaw05.CronDays -/
def law05_CronDays (F : Nat) (a1 : List Int) (a2 : List Int) (a3 : List Int) (a4 : List Int) (a5 : List Int) (a6 : Bool) (a7 : Bool) (a8 : Bool) (a9 : Bool) (a10 : Bool) (a11 : Int) (a12 : Int) (a13 : Int) : Option Bool :=
bnd (law05_awake F) fun x15 =>
bnd (law05_Few F a1 a2 a3 a4 a5 a6 a7 a8 a9 a10) fun x17 =>
bnd2 (civil_Ord F a11 a12 a13) fun x19 x20 =>
bndc (!((!x15) || (!x17))) (cron_May F a1 a2 a3 a4 a5 a6 a7 a8 a9 a10) fun x24 =>
bif ((!x15) || (!x17)) || (!x24) then
  some x15
else
  bnd (cron_Day F a1 a2 a3 a4 a5 a6 a7 a8 a9 a10 a11 a12 a13) fun x27 =>
  bif !decide (x20 = 0) then
    some (!x27)
  else
    bnd (ref05_Has F a3 a13) fun x30 =>
    bnd (civil_Wday F x19) fun x32 =>
    bnd (ref05_Has F a5 x32) fun x34 =>
    bnd (ref05_Has F a4 a12) fun x36 =>
    bif !x36 then
      some (!x27)
    else
      bif a8 then
        some (x27 == x34)
      else
        bif a10 then
          some (x27 == x30)
        else
          some (x27 == (x30 || x34))
end Go.Pv
