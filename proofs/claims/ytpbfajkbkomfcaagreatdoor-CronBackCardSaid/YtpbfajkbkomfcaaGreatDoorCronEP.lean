/-
  The document's answer about schedules that are the same, written again as plain functions: printed by a program of ours from Lean's own print of the loaded program.
-/
import Derived.Test.YtpbfajkbkomfcaaGreatDoorPvLib
set_option linter.unusedVariables false
namespace Go.Pv

/-- mailcoach/mailcoachref05.Same -/
def ref05_Same_j1 : Option Bool :=
some true
def ref05_Same_j2 (y22 : Int) (rec23 : Int → Option Bool) : Option Bool :=
grd (okI (y22 + 1)) <|
rec23 (y22 + 1)
def ref05_Same_B1 (a1 : List Int) (a2 : List Int) (a3 : List Int) (a4 : List Int) (a5 : List Int) (a11 : List Int) (a12 : List Int) (a13 : List Int) (a14 : List Int) (a15 : List Int) (y22 : Int) (rec23 : Int → Option Bool) (rec41 : Int → Option Bool) (y40 : Int) : Option Bool :=
grd (okAt y22 5) <|
lt (at_ ([a1, a2, a3, a4, a5] : List (List Int)) y22) fun x44 =>
bif decide (y40 < (x44.length : Int)) then
  grd (okAt y22 5) <|
  lt (at_ ([a1, a2, a3, a4, a5] : List (List Int)) y22) fun x48 =>
  grd (okAt y40 x48.length) <|
  lt (at_ x48 y40) fun x51 =>
  grd (okAt y22 5) <|
  lt (at_ ([a11, a12, a13, a14, a15] : List (List Int)) y22) fun x54 =>
  grd (okAt y40 x54.length) <|
  lt (at_ x54 y40) fun x57 =>
  bif !decide (x51 = x57) then
    some false
  else
    grd (okI (y40 + 1)) <|
    rec41 (y40 + 1)
else
  ref05_Same_j2 y22 rec23
def ref05_Same_L1 (a1 : List Int) (a2 : List Int) (a3 : List Int) (a4 : List Int) (a5 : List Int) (a11 : List Int) (a12 : List Int) (a13 : List Int) (a14 : List Int) (a15 : List Int) (y22 : Int) (rec23 : Int → Option Bool) (n : Nat) : Int → Option Bool :=
  loop (fun rec x => ref05_Same_B1 a1 a2 a3 a4 a5 a11 a12 a13 a14 a15 y22 rec23 rec x) n
def ref05_Same_B2 (F : Nat) (a1 : List Int) (a2 : List Int) (a3 : List Int) (a4 : List Int) (a5 : List Int) (a6 : Bool) (a7 : Bool) (a8 : Bool) (a9 : Bool) (a10 : Bool) (a11 : List Int) (a12 : List Int) (a13 : List Int) (a14 : List Int) (a15 : List Int) (a16 : Bool) (a17 : Bool) (a18 : Bool) (a19 : Bool) (a20 : Bool) (rec23 : Int → Option Bool) (y22 : Int) : Option Bool :=
bif decide (y22 < 5) then
  grd (okAt y22 5) <|
  lt (at_ ([a1, a2, a3, a4, a5] : List (List Int)) y22) fun x27 =>
  grd (okAt y22 5) <|
  lt (at_ ([a11, a12, a13, a14, a15] : List (List Int)) y22) fun x30 =>
  grdc (!(!decide ((x27.length : Int) = (x30.length : Int)))) (okAt y22 5) <|
  lt (at_ ([a6, a7, a8, a9, a10] : List Bool) y22) fun x34 =>
  grdc (!(!decide ((x27.length : Int) = (x30.length : Int)))) (okAt y22 5) <|
  lt (at_ ([a16, a17, a18, a19, a20] : List Bool) y22) fun x37 =>
  bif (!decide ((x27.length : Int) = (x30.length : Int))) || (!(x34 == x37)) then
    some false
  else
    ref05_Same_L1 a1 a2 a3 a4 a5 a11 a12 a13 a14 a15 y22 rec23 F 0
else
  ref05_Same_j1
def ref05_Same_L2 (F : Nat) (a1 : List Int) (a2 : List Int) (a3 : List Int) (a4 : List Int) (a5 : List Int) (a6 : Bool) (a7 : Bool) (a8 : Bool) (a9 : Bool) (a10 : Bool) (a11 : List Int) (a12 : List Int) (a13 : List Int) (a14 : List Int) (a15 : List Int) (a16 : Bool) (a17 : Bool) (a18 : Bool) (a19 : Bool) (a20 : Bool) (n : Nat) : Int → Option Bool :=
  loop (fun rec x => ref05_Same_B2 F a1 a2 a3 a4 a5 a6 a7 a8 a9 a10 a11 a12 a13 a14 a15 a16 a17 a18 a19 a20 rec x) n
def ref05_Same (F : Nat) (a1 : List Int) (a2 : List Int) (a3 : List Int) (a4 : List Int) (a5 : List Int) (a6 : Bool) (a7 : Bool) (a8 : Bool) (a9 : Bool) (a10 : Bool) (a11 : List Int) (a12 : List Int) (a13 : List Int) (a14 : List Int) (a15 : List Int) (a16 : Bool) (a17 : Bool) (a18 : Bool) (a19 : Bool) (a20 : Bool) : Option Bool :=
ref05_Same_L2 F a1 a2 a3 a4 a5 a6 a7 a8 a9 a10 a11 a12 a13 a14 a15 a16 a17 a18 a19 a20 F 0
end Go.Pv
