/-
  What the statements about schedules share, written again as plain functions: printed by a program of ours from Lean's own print of the loaded program.
-/
import Derived.Test.YtpbfajkbkomfcaaDoorPvLib
import Derived.Test.YtpbfajkbkomfcaaDoorCronBP
set_option linter.unusedVariables false
namespace Go.Pv
def cronl_k1 : List UInt8 := [51, 48, 32, 54, 32, 42, 32, 42, 32, 49, 44, 50, 44, 51, 44, 52, 44, 53]
/-- mailcoach/mailcoachlaw05.awake -/
def law05_awake (F : Nat) : Option Bool :=
bnd (cron_Parse F ([51, 48, 32, 54, 32, 42, 32, 42, 32, 109, 111, 110, 45, 102, 114, 105] : List UInt8)) fun x2 =>
bnd (cron_Parse F ([48, 32, 48, 32, 49, 51, 32, 42, 32, 53] : List UInt8)) fun x5 =>
bnd2 (cron_Write F x2.1 x2.2.1 x2.2.2.1 x2.2.2.2.1 x2.2.2.2.2.1 x2.2.2.2.2.2.1 x2.2.2.2.2.2.2.1 x2.2.2.2.2.2.2.2.1 x2.2.2.2.2.2.2.2.2.1 x2.2.2.2.2.2.2.2.2.2.1) fun x8 x9 =>
bndc ((((decide (x2.2.2.2.2.2.2.2.2.2.2 = 0)) && (decide (x5.2.2.2.2.2.2.2.2.2.2 = 0))) && (decide (x9 = 0))) && (decide (x8 = cronl_k1))) (cron_Match F x2.1 x2.2.1 x2.2.2.1 x2.2.2.2.1 x2.2.2.2.2.1 x2.2.2.2.2.2.1 x2.2.2.2.2.2.2.1 x2.2.2.2.2.2.2.2.1 x2.2.2.2.2.2.2.2.2.1 x2.2.2.2.2.2.2.2.2.2.1 2024 5 6 6 30 0) fun x15 =>
bndc (((((decide (x2.2.2.2.2.2.2.2.2.2.2 = 0)) && (decide (x5.2.2.2.2.2.2.2.2.2.2 = 0))) && (decide (x9 = 0))) && (decide (x8 = cronl_k1))) && x15) (cron_Day F x5.1 x5.2.1 x5.2.2.1 x5.2.2.2.1 x5.2.2.2.2.1 x5.2.2.2.2.2.1 x5.2.2.2.2.2.2.1 x5.2.2.2.2.2.2.2.1 x5.2.2.2.2.2.2.2.2.1 x5.2.2.2.2.2.2.2.2.2.1 2024 5 10) fun x18 =>
bndc ((((((decide (x2.2.2.2.2.2.2.2.2.2.2 = 0)) && (decide (x5.2.2.2.2.2.2.2.2.2.2 = 0))) && (decide (x9 = 0))) && (decide (x8 = cronl_k1))) && x15) && x18) (cron_Day F x5.1 x5.2.1 x5.2.2.1 x5.2.2.2.1 x5.2.2.2.2.1 x5.2.2.2.2.2.1 x5.2.2.2.2.2.2.1 x5.2.2.2.2.2.2.2.1 x5.2.2.2.2.2.2.2.2.1 x5.2.2.2.2.2.2.2.2.2.1 2024 5 13) fun x21 =>
bndc (((((((decide (x2.2.2.2.2.2.2.2.2.2.2 = 0)) && (decide (x5.2.2.2.2.2.2.2.2.2.2 = 0))) && (decide (x9 = 0))) && (decide (x8 = cronl_k1))) && x15) && x18) && x21) (cron_Day F x5.1 x5.2.1 x5.2.2.1 x5.2.2.2.1 x5.2.2.2.2.1 x5.2.2.2.2.2.1 x5.2.2.2.2.2.2.1 x5.2.2.2.2.2.2.2.1 x5.2.2.2.2.2.2.2.2.1 x5.2.2.2.2.2.2.2.2.2.1 2024 5 14) fun x24 =>
some ((((((((decide (x2.2.2.2.2.2.2.2.2.2.2 = 0)) && (decide (x5.2.2.2.2.2.2.2.2.2.2 = 0))) && (decide (x9 = 0))) && (decide (x8 = cronl_k1))) && x15) && x18) && x21) && (!x24))
end Go.Pv
