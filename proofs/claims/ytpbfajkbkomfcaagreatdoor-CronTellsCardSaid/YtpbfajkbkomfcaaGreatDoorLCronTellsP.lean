/-
  The statement CronTells, written again as plain functions: printed by a program of ours from Lean's own print of the loaded program.
-/
import Derived.Test.YtpbfajkbkomfcaaGreatDoorPvLib
import Derived.Test.YtpbfajkbkomfcaaGreatDoorCronLP
import Derived.Test.YtpbfajkbkomfcaaGreatDoorCronSP
import Derived.Test.YtpbfajkbkomfcaaGreatDoorCronEP
set_option linter.unusedVariables false
namespace Go.Pv

/-- mailcoach/mailcoachlaw05.CronTells -/
def law05_CronTells (F : Nat) (a1 : List Int) (a2 : List Int) (a3 : List Int) (a4 : List Int) (a5 : List Int) (a6 : Bool) (a7 : Bool) (a8 : Bool) (a9 : Bool) (a10 : Bool) (a11 : List Int) (a12 : List Int) (a13 : List Int) (a14 : List Int) (a15 : List Int) (a16 : Bool) (a17 : Bool) (a18 : Bool) (a19 : Bool) (a20 : Bool) (a21 : Int) (a22 : Int) (a23 : Int) (a24 : Int) (a25 : Int) (a26 : Int) : Option Bool :=
bnd (law05_awake F) fun x28 =>
bnd (law05_Few F a1 a2 a3 a4 a5 a6 a7 a8 a9 a10) fun x30 =>
bnd (law05_Few F a11 a12 a13 a14 a15 a16 a17 a18 a19 a20) fun x32 =>
bif ((!x28) || (!x30)) || (!x32) then
  some x28
else
  bnd2 (cron_Write F a1 a2 a3 a4 a5 a6 a7 a8 a9 a10) fun x37 x38 =>
  bnd2 (ref05_Write F a1 a2 a3 a4 a5 a6 a7 a8 a9 a10) fun x40 x41 =>
  bnd (ref05_May F a1 a2 a3 a4 a5 a6 a7 a8 a9 a10) fun x43 =>
  bnd (ref05_Same F a1 a2 a3 a4 a5 a6 a7 a8 a9 a10 a11 a12 a13 a14 a15 a16 a17 a18 a19 a20) fun x45 =>
  bnd (ref05_Match F a1 a2 a3 a4 a5 a6 a7 a8 a9 a10 a21 a22 a23 a24 a25 a26) fun x47 =>
  bnd (ref05_Day F a1 a2 a3 a4 a5 a6 a7 a8 a9 a10 a21 a22 a23) fun x49 =>
  bndc ((decide (x37 = x40)) && (decide (x38 = x41))) (cron_May F a1 a2 a3 a4 a5 a6 a7 a8 a9 a10) fun x53 =>
  bndc (((decide (x37 = x40)) && (decide (x38 = x41))) && (x53 == x43)) (cron_Same F a1 a2 a3 a4 a5 a6 a7 a8 a9 a10 a11 a12 a13 a14 a15 a16 a17 a18 a19 a20) fun x56 =>
  bndc ((((decide (x37 = x40)) && (decide (x38 = x41))) && (x53 == x43)) && (x56 == x45)) (cron_Match F a1 a2 a3 a4 a5 a6 a7 a8 a9 a10 a21 a22 a23 a24 a25 a26) fun x59 =>
  bndc (((((decide (x37 = x40)) && (decide (x38 = x41))) && (x53 == x43)) && (x56 == x45)) && (x59 == x47)) (cron_Day F a1 a2 a3 a4 a5 a6 a7 a8 a9 a10 a21 a22 a23) fun x62 =>
  some ((((((decide (x37 = x40)) && (decide (x38 = x41))) && (x53 == x43)) && (x56 == x45)) && (x59 == x47)) && (x62 == x49))
end Go.Pv
