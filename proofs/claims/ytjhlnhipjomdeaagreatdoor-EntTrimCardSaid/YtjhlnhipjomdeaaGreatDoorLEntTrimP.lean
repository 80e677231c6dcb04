/-
  The statement EntTrim, written again as plain functions: printed by a program of ours from Lean's own print of the loaded program.
-/
import Derived.Test.YtjhlnhipjomdeaaGreatDoorPvLib
import Derived.Test.YtjhlnhipjomdeaaGreatDoorEntLP
set_option linter.unusedVariables false
namespace Go.Pv

/-- mailcoach/mailcoachlaw07.EntTrim -/
def law07_EntTrim_j1 (x7 : List UInt8) (y46 : Int) : Option Bool :=
some (decide (y46 = (x7.length : Int)))
def law07_EntTrim_B1 (F : Nat) (x7 : List UInt8) (y46 : Int) (rec49 : Int → Option Bool) (y48 : Int) : Option Bool :=
bif decide (y48 < (x7.length : Int)) then
  grd (okAt y48 x7.length) <|
  lt (at_ x7 y48) fun x53 =>
  bnd (ent_Space F x53) fun x55 =>
  grdc x55 (okAt y48 x7.length) <|
  lt (at_ x7 y48) fun x59 =>
  grdc (x55 && (!((!decide (x59 = 32)) || (decide (y48 = 0))))) (okI ((x7.length : Int) - 1)) <|
  grdc (x55 && (!(((!decide (x59 = 32)) || (decide (y48 = 0))) || (decide (y48 = (x7.length : Int) - 1))))) (okI (y48 - 1)) <|
  grdc (x55 && (!(((!decide (x59 = 32)) || (decide (y48 = 0))) || (decide (y48 = (x7.length : Int) - 1))))) (okAt (y48 - 1) x7.length) <|
  lt (at_ x7 (y48 - 1)) fun x67 =>
  bif x55 && ((((!decide (x59 = 32)) || (decide (y48 = 0))) || (decide (y48 = (x7.length : Int) - 1))) || (decide (x67 = 32))) then
    some false
  else
    grd (okI (y48 + 1)) <|
    rec49 (y48 + 1)
else
  law07_EntTrim_j1 x7 y46
def law07_EntTrim_L1 (F : Nat) (x7 : List UInt8) (y46 : Int) (n : Nat) : Int → Option Bool :=
  loop (fun rec x => law07_EntTrim_B1 F x7 y46 rec x) n
def law07_EntTrim_j2 (F : Nat) (x7 : List UInt8) (y46 : Int) : Option Bool :=
law07_EntTrim_L1 F x7 y46 F 0
def law07_EntTrim_j3 (y13 : Int) (rec14 : (Int × Int) → Option Bool) (y43 : Int) : Option Bool :=
grd (okI (y13 + 1)) <|
rec14 (y43, y13 + 1)
def law07_EntTrim_j4 (a1 : List UInt8) (x7 : List UInt8) (y13 : Int) (rec14 : (Int × Int) → Option Bool) (y32 : Int) : Option Bool :=
grdc (!(decide ((x7.length : Int) ≤ y32))) (okAt y32 x7.length) <|
lt (at_ x7 y32) fun x36 =>
grdc (!(decide ((x7.length : Int) ≤ y32))) (okAt y13 a1.length) <|
lt (at_ a1 y13) fun x39 =>
bif (decide ((x7.length : Int) ≤ y32)) || (!decide (x36 = x39)) then
  some false
else
  grd (okI (y32 + 1)) <|
  law07_EntTrim_j3 y13 rec14 (y32 + 1)
def law07_EntTrim_B2 (a1 : List UInt8) (x7 : List UInt8) (y13 : Int) (rec14 : (Int × Int) → Option Bool) (rec24 : Int → Option Bool) (y23 : Int) : Option Bool :=
grdc (decide (y23 < (x7.length : Int))) (okAt y23 x7.length) <|
lt (at_ x7 y23) fun x28 =>
bif (decide (y23 < (x7.length : Int))) && (decide (x28 = 32)) then
  grd (okI (y23 + 1)) <|
  rec24 (y23 + 1)
else
  law07_EntTrim_j4 a1 x7 y13 rec14 y23
def law07_EntTrim_L2 (a1 : List UInt8) (x7 : List UInt8) (y13 : Int) (rec14 : (Int × Int) → Option Bool) (n : Nat) : Int → Option Bool :=
  loop (fun rec x => law07_EntTrim_B2 a1 x7 y13 rec14 rec x) n
def law07_EntTrim_B3 (F : Nat) (a1 : List UInt8) (x7 : List UInt8) (rec14 : (Int × Int) → Option Bool) (y12 : Int) (y13 : Int) : Option Bool :=
bif decide (y13 < (a1.length : Int)) then
  grd (okAt y13 a1.length) <|
  lt (at_ a1 y13) fun x18 =>
  bnd (ent_Space F x18) fun x20 =>
  bif x20 then
    law07_EntTrim_j3 y13 rec14 y12
  else
    law07_EntTrim_L2 a1 x7 y13 rec14 F y12
else
  law07_EntTrim_j2 F x7 y12
def law07_EntTrim_L3 (F : Nat) (a1 : List UInt8) (x7 : List UInt8) (n : Nat) : (Int × Int) → Option Bool :=
  loop (fun rec x => law07_EntTrim_B3 F a1 x7 rec x.1 x.2) n
def law07_EntTrim (F : Nat) (a1 : List UInt8) : Option Bool :=
bnd (law07_awake F) fun x3 =>
bif (!x3) || (decide (600 < (a1.length : Int))) then
  some x3
else
  bnd (ent_Trim F a1) fun x7 =>
  bnd (ent_Trim F x7) fun x9 =>
  bif !decide (x9 = x7) then
    some false
  else
    law07_EntTrim_L3 F a1 x7 F (0, 0)
end Go.Pv
