/-
  The statements about plain texts, written again as plain functions: printed by a program of ours from Lean's own print of the loaded program.
-/
import Derived.Test.YtjajiokihccobaaGreatDoorPvLib
import Derived.Test.YtjajiokihccobaaGreatDoorPlainAP
set_option linter.unusedVariables false
namespace Go.Pv
def plainl_k1 : List UInt8 := [97, 60, 98, 114, 62, 98, 38, 97, 109, 112, 59, 60, 115, 99, 114, 105, 112, 116, 62, 120, 60, 47, 115, 99, 114, 105, 112, 116, 62, 32, 99]
/-- mailcoach/mailcoachlaw11.awake -/
def law11_awake (F : Nat) : Option Bool :=
bnd (plain_Wrap F ([97, 32, 98, 99, 32, 100] : List UInt8) 4) fun x2 =>
bnd (plain_Of F plainl_k1) fun x4 =>
grdc ((decide (x4 = ([97, 10, 98, 38, 32, 99] : List UInt8))) && (decide ((x2.length : Int) = 2))) (okAt 0 x2.length) <|
lt (at_ x2 0) fun x9 =>
grdc (((decide (x4 = ([97, 10, 98, 38, 32, 99] : List UInt8))) && (decide ((x2.length : Int) = 2))) && (decide (x9 = ([97, 32, 98, 99] : List UInt8)))) (okAt 1 x2.length) <|
lt (at_ x2 1) fun x13 =>
some ((((decide (x4 = ([97, 10, 98, 38, 32, 99] : List UInt8))) && (decide ((x2.length : Int) = 2))) && (decide (x9 = ([97, 32, 98, 99] : List UInt8)))) && (decide (x13 = ([100] : List UInt8))))
end Go.Pv
