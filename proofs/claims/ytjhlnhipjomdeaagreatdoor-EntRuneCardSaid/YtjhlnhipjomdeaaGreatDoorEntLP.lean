/-
  What the statements about entities share, written again as plain functions: printed by a program of ours from Lean's own print of the loaded program.
-/
import Derived.Test.YtjhlnhipjomdeaaGreatDoorPvLib
import Derived.Test.YtjhlnhipjomdeaaGreatDoorEntAP
import Derived.Test.YtjhlnhipjomdeaaGreatDoorEntBP
import Derived.Test.YtjhlnhipjomdeaaGreatDoorRepP
set_option linter.unusedVariables false
namespace Go.Pv

/-- mailcoach/mailcoachlaw07.awake -/
def law07_awake (F : Nat) : Option Bool :=
bnd2 (ent_Decode F ([97, 38, 35, 120, 52, 49, 59, 38, 108, 116, 59] : List UInt8)) fun x2 x3 =>
bnd2 (ent_Decode F ([38, 120, 59] : List UInt8)) fun x5 x6 =>
bndc (((decide (x3 = 0)) && (decide (x2 = ([97, 65, 60] : List UInt8)))) && (decide (x6 = 2))) (ent_Loose F ([38, 120, 59] : List UInt8)) fun x11 =>
bndc ((((decide (x3 = 0)) && (decide (x2 = ([97, 65, 60] : List UInt8)))) && (decide (x6 = 2))) && (decide (x11 = ([38, 120, 59] : List UInt8)))) (rp_Replace F ([60] : List UInt8)) fun x14 =>
bndc (((((decide (x3 = 0)) && (decide (x2 = ([97, 65, 60] : List UInt8)))) && (decide (x6 = 2))) && (decide (x11 = ([38, 120, 59] : List UInt8)))) && (decide (x14 = ([38, 108, 116, 59] : List UInt8)))) (ent_Trim F ([32, 97, 32, 32, 98, 32] : List UInt8)) fun x17 =>
bndc ((((((decide (x3 = 0)) && (decide (x2 = ([97, 65, 60] : List UInt8)))) && (decide (x6 = 2))) && (decide (x11 = ([38, 120, 59] : List UInt8)))) && (decide (x14 = ([38, 108, 116, 59] : List UInt8)))) && (decide (x17 = ([97, 32, 98] : List UInt8)))) (ent_Space F 9) fun x20 =>
some (((((((decide (x3 = 0)) && (decide (x2 = ([97, 65, 60] : List UInt8)))) && (decide (x6 = 2))) && (decide (x11 = ([38, 120, 59] : List UInt8)))) && (decide (x14 = ([38, 108, 116, 59] : List UInt8)))) && (decide (x17 = ([97, 32, 98] : List UInt8)))) && x20)
end Go.Pv
