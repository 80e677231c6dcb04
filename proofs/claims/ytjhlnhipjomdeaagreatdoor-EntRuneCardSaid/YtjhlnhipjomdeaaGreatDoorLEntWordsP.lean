/-
  The statement EntWords, written again as plain functions: printed by a program of ours from Lean's own print of the loaded program.
-/
import Derived.Test.YtjhlnhipjomdeaaGreatDoorPvLib
import Derived.Test.YtjhlnhipjomdeaaGreatDoorEntLP
set_option linter.unusedVariables false
namespace Go.Pv

/-- mailcoach/mailcoachlaw07.EntWords -/
def law07_EntWords (F : Nat) (a1 : List UInt8) (a2 : List UInt8) : Option Bool :=
bnd (law07_awake F) fun x4 =>
bif ((!x4) || (decide (300 < (a1.length : Int)))) || (decide (300 < (a2.length : Int))) then
  some x4
else
  bnd (ent_Trim F a1) fun x9 =>
  bnd (ent_Trim F a2) fun x11 =>
  grd (okCat (a1.length + ([10] : List UInt8).length)) <|
  lt (a1 ++ ([10] : List UInt8)) fun x14 =>
  grd (okCat (x14.length + a2.length)) <|
  lt (x14 ++ a2) fun x17 =>
  bnd (ent_Trim F x17) fun x19 =>
  bif (decide (x9 = ([] : List UInt8))) || (decide (x11 = ([] : List UInt8))) then
    grd (okCat (x9.length + x11.length)) <|
    lt (x9 ++ x11) fun x24 =>
    some (decide (x19 = x24))
  else
    grd (okCat (x9.length + ([32] : List UInt8).length)) <|
    lt (x9 ++ ([32] : List UInt8)) fun x27 =>
    grd (okCat (x27.length + x11.length)) <|
    lt (x27 ++ x11) fun x30 =>
    some (decide (x19 = x30))
end Go.Pv
