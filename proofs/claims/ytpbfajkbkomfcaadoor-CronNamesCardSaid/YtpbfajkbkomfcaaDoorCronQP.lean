/-
  What a list has, and between which numbers, by the document, written again as plain functions: printed by a program of ours from Lean's own print of the loaded program.
-/
import Derived.Test.YtpbfajkbkomfcaaDoorPvLib
set_option linter.unusedVariables false
namespace Go.Pv

/-- mailcoach/mailcoachref05.Low -/
def ref05_Low (F : Nat) (a1 : Int) : Option Int :=
bif (decide (a1 = 2)) || (decide (a1 = 3)) then
  some 1
else
  some 0
/-- mailcoach/mailcoachref05.High -/
def ref05_High (F : Nat) (a1 : Int) : Option Int :=
bif decide (a1 = 0) then
  some 59
else
  bif decide (a1 = 1) then
    some 23
  else
    bif decide (a1 = 2) then
      some 31
    else
      bif decide (a1 = 3) then
        some 12
      else
        some 6
/-- mailcoach/mailcoachref05.Has -/
def ref05_Has_j1 : Option Bool :=
some false
def ref05_Has_B1 (a1 : List Int) (a3 : Int) (rec6 : Int → Option Bool) (y5 : Int) : Option Bool :=
bif decide (y5 < (a1.length : Int)) then
  grd (okAt y5 a1.length) <|
  lt (at_ a1 y5) fun x10 =>
  bif decide (x10 = a3) then
    some true
  else
    grd (okI (y5 + 1)) <|
    rec6 (y5 + 1)
else
  ref05_Has_j1
def ref05_Has_L1 (a1 : List Int) (a3 : Int) (n : Nat) : Int → Option Bool :=
  loop (fun rec x => ref05_Has_B1 a1 a3 rec x) n
def ref05_Has (F : Nat) (a1 : List Int) (a3 : Int) : Option Bool :=
ref05_Has_L1 a1 a3 F 0
end Go.Pv
