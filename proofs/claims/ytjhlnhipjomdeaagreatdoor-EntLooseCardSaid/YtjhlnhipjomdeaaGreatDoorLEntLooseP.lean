/-
  The statement EntLoose, written again as plain functions: printed by a program of ours from Lean's own print of the loaded program.
-/
import Derived.Test.YtjhlnhipjomdeaaGreatDoorPvLib
import Derived.Test.YtjhlnhipjomdeaaGreatDoorEntLP
set_option linter.unusedVariables false
namespace Go.Pv

/-- mailcoach/mailcoachlaw07.EntLoose -/
def law07_EntLoose_j1 (F : Nat) (a1 : List UInt8) (a2 : List UInt8) (x9 : List UInt8) (x10 : Int) (y26 : Bool) : Option Bool :=
bif (!y26) && ((!decide (x10 = 0)) || (!decide (x9 = a1))) then
  some false
else
  grdc (!(!decide (x10 = 0))) (okCat (a1.length + a2.length)) <|
  lt (a1 ++ a2) fun x33 =>
  bndc (!(!decide (x10 = 0))) (ent_Loose F x33) fun x35 =>
  bndc (!(!decide (x10 = 0))) (ent_Loose F a2) fun x37 =>
  grdc (!(!decide (x10 = 0))) (okCat (x9.length + x37.length)) <|
  lt (x9 ++ x37) fun x40 =>
  some ((!decide (x10 = 0)) || (decide (x35 = x40)))
def law07_EntLoose_B1 (F : Nat) (a1 : List UInt8) (a2 : List UInt8) (x9 : List UInt8) (x10 : Int) (rec18 : (Bool × Int) → Option Bool) (y16 : Bool) (y17 : Int) : Option Bool :=
bif decide (y17 < (a1.length : Int)) then
  grdc (!y16) (okAt y17 a1.length) <|
  lt (at_ a1 y17) fun x23 =>
  grd (okI (y17 + 1)) <|
  rec18 (y16 || (decide (x23 = 38)), y17 + 1)
else
  law07_EntLoose_j1 F a1 a2 x9 x10 y16
def law07_EntLoose_L1 (F : Nat) (a1 : List UInt8) (a2 : List UInt8) (x9 : List UInt8) (x10 : Int) (n : Nat) : (Bool × Int) → Option Bool :=
  loop (fun rec x => law07_EntLoose_B1 F a1 a2 x9 x10 rec x.1 x.2) n
def law07_EntLoose (F : Nat) (a1 : List UInt8) (a2 : List UInt8) : Option Bool :=
bnd (law07_awake F) fun x4 =>
bif ((!x4) || (decide (300 < (a1.length : Int)))) || (decide (300 < (a2.length : Int))) then
  some x4
else
  bnd2 (ent_Decode F a1) fun x9 x10 =>
  bndc (decide (x10 = 0)) (ent_Loose F a1) fun x13 =>
  bif (decide (x10 = 0)) && (!decide (x9 = x13)) then
    some false
  else
    law07_EntLoose_L1 F a1 a2 x9 x10 F (false, 0)
end Go.Pv
