/-
  Schedules that are the same, written again as plain functions: printed by a program of ours from Lean's own print of the loaded program.
-/
import Derived.Test.YtpbfajkbkomfcaaGreatDoorPvLib
import Derived.Test.YtpbfajkbkomfcaaGreatDoorCronBP
set_option linter.unusedVariables false
namespace Go.Pv

/-- mailcoach/cron.Same -/
def cron_Same_j1 (a6 : Bool) (a7 : Bool) (a8 : Bool) (a9 : Bool) (a10 : Bool) (a16 : Bool) (a17 : Bool) (a18 : Bool) (a19 : Bool) (a20 : Bool) : Option Bool :=
some ((a6 == a16) && ((a7 == a17) && ((a8 == a18) && ((a9 == a19) && ((a10 == a20) && true)))))
def cron_Same_B1 (F : Nat) (a1 : List Int) (a2 : List Int) (a3 : List Int) (a4 : List Int) (a5 : List Int) (a6 : Bool) (a7 : Bool) (a8 : Bool) (a9 : Bool) (a10 : Bool) (a11 : List Int) (a12 : List Int) (a13 : List Int) (a14 : List Int) (a15 : List Int) (a16 : Bool) (a17 : Bool) (a18 : Bool) (a19 : Bool) (a20 : Bool) (rec23 : Int → Option Bool) (y22 : Int) : Option Bool :=
bif decide (y22 < 5) then
  grd (okAt y22 5) <|
  lt (at_ ([a1, a2, a3, a4, a5] : List (List Int)) y22) fun x27 =>
  grd (okAt y22 5) <|
  lt (at_ ([a11, a12, a13, a14, a15] : List (List Int)) y22) fun x30 =>
  bnd (sl_Equal F x27 x30) fun x32 =>
  bif !x32 then
    some false
  else
    grd (okI (y22 + 1)) <|
    rec23 (y22 + 1)
else
  cron_Same_j1 a6 a7 a8 a9 a10 a16 a17 a18 a19 a20
def cron_Same_L1 (F : Nat) (a1 : List Int) (a2 : List Int) (a3 : List Int) (a4 : List Int) (a5 : List Int) (a6 : Bool) (a7 : Bool) (a8 : Bool) (a9 : Bool) (a10 : Bool) (a11 : List Int) (a12 : List Int) (a13 : List Int) (a14 : List Int) (a15 : List Int) (a16 : Bool) (a17 : Bool) (a18 : Bool) (a19 : Bool) (a20 : Bool) (n : Nat) : Int → Option Bool :=
  loop (fun rec x => cron_Same_B1 F a1 a2 a3 a4 a5 a6 a7 a8 a9 a10 a11 a12 a13 a14 a15 a16 a17 a18 a19 a20 rec x) n
def cron_Same (F : Nat) (a1 : List Int) (a2 : List Int) (a3 : List Int) (a4 : List Int) (a5 : List Int) (a6 : Bool) (a7 : Bool) (a8 : Bool) (a9 : Bool) (a10 : Bool) (a11 : List Int) (a12 : List Int) (a13 : List Int) (a14 : List Int) (a15 : List Int) (a16 : Bool) (a17 : Bool) (a18 : Bool) (a19 : Bool) (a20 : Bool) : Option Bool :=
cron_Same_L1 F a1 a2 a3 a4 a5 a6 a7 a8 a9 a10 a11 a12 a13 a14 a15 a16 a17 a18 a19 a20 F 0
end Go.Pv
