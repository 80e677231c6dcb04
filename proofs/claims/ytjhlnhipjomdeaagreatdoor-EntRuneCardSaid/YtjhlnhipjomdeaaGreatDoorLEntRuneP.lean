/-
  The statement EntRune, written again as plain functions: printed by a program of ours from Lean's own print of the loaded program.
-/
import Derived.Test.YtjhlnhipjomdeaaGreatDoorPvLib
import Derived.Test.YtjhlnhipjomdeaaGreatDoorEntLP
set_option linter.unusedVariables false
namespace Go.Pv

/-- mailcoach/mailcoachlaw07.EntRune -/
def law07_EntRune_j1 (F : Nat) (x5 : List UInt8) (y14 : Int) (y31 : List UInt8) (y48 : List UInt8) : Option Bool :=
grd (okCat (([38, 35] : List UInt8).length + y31.length)) <|
lt (([38, 35] : List UInt8) ++ y31) fun x51 =>
grd (okCat (x51.length + ([59] : List UInt8).length)) <|
lt (x51 ++ ([59] : List UInt8)) fun x54 =>
bnd2 (ent_Decode F x54) fun x56 x57 =>
grd (okCat (([38, 35, 120] : List UInt8).length + y48.length)) <|
lt (([38, 35, 120] : List UInt8) ++ y48) fun x60 =>
grd (okCat (x60.length + ([59] : List UInt8).length)) <|
lt (x60 ++ ([59] : List UInt8)) fun x63 =>
bnd2 (ent_Decode F x63) fun x65 x66 =>
some (((((decide ((x5.length : Int) = y14)) && (decide (x57 = 0))) && (decide (x66 = 0))) && (decide (x56 = x5))) && (decide (x65 = x5)))
def law07_EntRune_B1 (F : Nat) (x5 : List UInt8) (y14 : Int) (y31 : List UInt8) (rec35 : ((List UInt8) × Int) → Option Bool) (y33 : List UInt8) (y34 : Int) : Option Bool :=
bif decide (0 < y34) then
  grd (okDiv y34 16) <|
  grd (okDiv y34 16) <|
  grd (okI ((y34 % 16) + 1)) <|
  grd (okSub (y34 % 16) ((y34 % 16) + 1) ([48, 49, 50, 51, 52, 53, 54, 55, 56, 57, 97, 98, 99, 100, 101, 102] : List UInt8).length) <|
  lt (sub ([48, 49, 50, 51, 52, 53, 54, 55, 56, 57, 97, 98, 99, 100, 101, 102] : List UInt8) (y34 % 16) ((y34 % 16) + 1)) fun x42 =>
  grd (okCat (x42.length + y33.length)) <|
  lt (x42 ++ y33) fun x45 =>
  grd (okDiv y34 16) <|
  rec35 (x45, y34 / 16)
else
  law07_EntRune_j1 F x5 y14 y31 y33
def law07_EntRune_L1 (F : Nat) (x5 : List UInt8) (y14 : Int) (y31 : List UInt8) (n : Nat) : ((List UInt8) × Int) → Option Bool :=
  loop (fun rec x => law07_EntRune_B1 F x5 y14 y31 rec x.1 x.2) n
def law07_EntRune_j2 (F : Nat) (a1 : Int) (x5 : List UInt8) (y14 : Int) (y31 : List UInt8) : Option Bool :=
law07_EntRune_L1 F x5 y14 y31 F (([] : List UInt8), a1)
def law07_EntRune_B2 (F : Nat) (a1 : Int) (x5 : List UInt8) (y14 : Int) (rec18 : ((List UInt8) × Int) → Option Bool) (y16 : List UInt8) (y17 : Int) : Option Bool :=
bif decide (0 < y17) then
  grd (okDiv y17 10) <|
  grd (okDiv y17 10) <|
  grd (okI ((y17 % 10) + 1)) <|
  grd (okSub (y17 % 10) ((y17 % 10) + 1) ([48, 49, 50, 51, 52, 53, 54, 55, 56, 57] : List UInt8).length) <|
  lt (sub ([48, 49, 50, 51, 52, 53, 54, 55, 56, 57] : List UInt8) (y17 % 10) ((y17 % 10) + 1)) fun x25 =>
  grd (okCat (x25.length + y16.length)) <|
  lt (x25 ++ y16) fun x28 =>
  grd (okDiv y17 10) <|
  rec18 (x28, y17 / 10)
else
  law07_EntRune_j2 F a1 x5 y14 y16
def law07_EntRune_L2 (F : Nat) (a1 : Int) (x5 : List UInt8) (y14 : Int) (n : Nat) : ((List UInt8) × Int) → Option Bool :=
  loop (fun rec x => law07_EntRune_B2 F a1 x5 y14 rec x.1 x.2) n
def law07_EntRune_j3 (F : Nat) (a1 : Int) (x5 : List UInt8) (y14 : Int) : Option Bool :=
law07_EntRune_L2 F a1 x5 y14 F (([] : List UInt8), a1)
def law07_EntRune (F : Nat) (a1 : Int) : Option Bool :=
bnd (law07_awake F) fun x3 =>
bnd2 (ent_Rune F a1) fun x5 x6 =>
bif (!x3) || (!x6) then
  some (x3 && (decide (x5 = ([] : List UInt8))))
else
  bif decide (a1 < 128) then
    law07_EntRune_j3 F a1 x5 1
  else
    bif decide (a1 < 2048) then
      law07_EntRune_j3 F a1 x5 2
    else
      bif decide (a1 < 65536) then
        law07_EntRune_j3 F a1 x5 3
      else
        law07_EntRune_j3 F a1 x5 4
end Go.Pv
