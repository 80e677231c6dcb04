/-
  The statement EntTells, written again as plain functions: printed by a program of ours from Lean's own print of the loaded program.
-/
import Derived.Test.YtjhlnhipjomdeaaGreatDoorPvLib
import Derived.Test.YtjhlnhipjomdeaaGreatDoorEntLP
import Derived.Test.YtjhlnhipjomdeaaGreatDoorRefEP
set_option linter.unusedVariables false
namespace Go.Pv

/-- mailcoach/mailcoachlaw07.EntTells -/
def law07_EntTells (F : Nat) (a1 : List UInt8) (a2 : Int) (a3 : UInt8) : Option Bool :=
bnd (law07_awake F) fun x5 =>
bif (!x5) || (decide (600 < (a1.length : Int))) then
  some x5
else
  bnd2 (ent_Decode F a1) fun x9 x10 =>
  bnd2 (ref07_Decode F a1) fun x12 x13 =>
  bnd2 (ent_Rune F a2) fun x15 x16 =>
  bnd2 (ref07_Rune F a2) fun x18 x19 =>
  bnd (ref07_Space F a3) fun x21 =>
  bndc ((((decide (x9 = x12)) && (decide (x10 = x13))) && (decide (x15 = x18))) && (x16 == x19)) (ent_Loose F a1) fun x27 =>
  bndc ((((decide (x9 = x12)) && (decide (x10 = x13))) && (decide (x15 = x18))) && (x16 == x19)) (ref07_Loose F a1) fun x29 =>
  bndc (((((decide (x9 = x12)) && (decide (x10 = x13))) && (decide (x15 = x18))) && (x16 == x19)) && (decide (x27 = x29))) (rp_Replace F a1) fun x32 =>
  bndc (((((decide (x9 = x12)) && (decide (x10 = x13))) && (decide (x15 = x18))) && (x16 == x19)) && (decide (x27 = x29))) (ref07_Encode F a1) fun x34 =>
  bndc ((((((decide (x9 = x12)) && (decide (x10 = x13))) && (decide (x15 = x18))) && (x16 == x19)) && (decide (x27 = x29))) && (decide (x32 = x34))) (ent_Trim F a1) fun x37 =>
  bndc ((((((decide (x9 = x12)) && (decide (x10 = x13))) && (decide (x15 = x18))) && (x16 == x19)) && (decide (x27 = x29))) && (decide (x32 = x34))) (ref07_Trim F a1) fun x39 =>
  bndc (((((((decide (x9 = x12)) && (decide (x10 = x13))) && (decide (x15 = x18))) && (x16 == x19)) && (decide (x27 = x29))) && (decide (x32 = x34))) && (decide (x37 = x39))) (ent_Space F a3) fun x42 =>
  some ((((((((decide (x9 = x12)) && (decide (x10 = x13))) && (decide (x15 = x18))) && (x16 == x19)) && (decide (x27 = x29))) && (decide (x32 = x34))) && (decide (x37 = x39))) && (x42 == x21))
end Go.Pv
