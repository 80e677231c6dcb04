/-
  The statement EntBack, written again as plain functions: printed by a program of ours from Lean's own print of the loaded program.
-/
import Derived.Test.YtjhlnhipjomdeaaGreatDoorPvLib
import Derived.Test.YtjhlnhipjomdeaaGreatDoorEntLP
set_option linter.unusedVariables false
namespace Go.Pv

/-- mailcoach/mailcoachlaw07.EntBack -/
def law07_EntBack_j1 (F : Nat) (a1 : List UInt8) (x7 : List UInt8) : Option Bool :=
bnd2 (ent_Decode F x7) fun x27 x28 =>
bndc ((decide (x28 = 0)) && (decide (x27 = a1))) (ent_Loose F x7) fun x32 =>
some (((decide (x28 = 0)) && (decide (x27 = a1))) && (decide (x32 = a1)))
def law07_EntBack_B1 (F : Nat) (a1 : List UInt8) (x7 : List UInt8) (rec10 : Int → Option Bool) (y9 : Int) : Option Bool :=
bif decide (y9 < (x7.length : Int)) then
  grd (okAt y9 x7.length) <|
  lt (at_ x7 y9) fun x14 =>
  grdc (!(decide (x14 = 60))) (okAt y9 x7.length) <|
  lt (at_ x7 y9) fun x18 =>
  grdc (!((decide (x14 = 60)) || (decide (x18 = 62)))) (okAt y9 x7.length) <|
  lt (at_ x7 y9) fun x22 =>
  bif ((decide (x14 = 60)) || (decide (x18 = 62))) || (decide (x22 = 34)) then
    some false
  else
    grd (okI (y9 + 1)) <|
    rec10 (y9 + 1)
else
  law07_EntBack_j1 F a1 x7
def law07_EntBack_L1 (F : Nat) (a1 : List UInt8) (x7 : List UInt8) (n : Nat) : Int → Option Bool :=
  loop (fun rec x => law07_EntBack_B1 F a1 x7 rec x) n
def law07_EntBack (F : Nat) (a1 : List UInt8) : Option Bool :=
bnd (law07_awake F) fun x3 =>
bif (!x3) || (decide (600 < (a1.length : Int))) then
  some x3
else
  bnd (rp_Replace F a1) fun x7 =>
  law07_EntBack_L1 F a1 x7 F 0
end Go.Pv
