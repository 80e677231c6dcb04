/-
  The statement about what the document says of plain texts, written again as plain functions: printed by a program of ours from Lean's own print of the loaded program.
-/
import Derived.Test.YtjajiokihccobaaGreatDoorPvLib
import Derived.Test.YtjajiokihccobaaGreatDoorPlainLP
import Derived.Test.YtjajiokihccobaaGreatDoorRefAP
set_option linter.unusedVariables false
namespace Go.Pv

/-- mailcoach/mailcoachlaw11.PlainTells -/
def law11_PlainTells (F : Nat) (a1 : List UInt8) (a2 : Int) : Option Bool :=
bnd (law11_awake F) fun x4 =>
bif (!x4) || (decide (1000 < (a1.length : Int))) then
  some x4
else
  bnd (plain_Wrap F a1 a2) fun x8 =>
  bnd (ref11_Wrap F a1 a2) fun x10 =>
  bnd (ref11_Same F x8 x10) fun x12 =>
  bndc x12 (plain_Of F a1) fun x15 =>
  bndc x12 (ref11_Of F a1) fun x17 =>
  some (x12 && (decide (x15 = x17)))
end Go.Pv
