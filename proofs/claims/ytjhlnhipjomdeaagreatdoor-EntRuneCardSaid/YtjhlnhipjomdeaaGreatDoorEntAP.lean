/-
  Blanks, written again as plain functions: printed by a program of ours from Lean's own print of the loaded program.
-/
import Derived.Test.YtjhlnhipjomdeaaGreatDoorPvLib
set_option linter.unusedVariables false
namespace Go.Pv

/-- mailcoach/ent.Space -/
def ent_Space (F : Nat) (a1 : UInt8) : Option Bool :=
lt (Go.Lib.indexByte ([9, 10, 13, 32] : List UInt8) a1) fun x3 =>
some (decide (0 ≤ x3))
/-- mailcoach/ent.Trim -/
def ent_Trim_j1 (y33 : List (List UInt8)) : Option ((List UInt8)) :=
grd (okJoin y33 ([32] : List UInt8)) <|
lt (Go.Av.Str.join ([32] : List UInt8) y33) fun x37 =>
some x37
def ent_Trim_j2 (y7 : Int) (rec8 : ((List (List UInt8)) × Int × Int) → Option ((List UInt8))) (y28 : List (List UInt8)) (y30 : Int) : Option ((List UInt8)) :=
grd (okI (y7 + 1)) <|
rec8 (y28, y30, y7 + 1)
def ent_Trim_B1 (F : Nat) (a1 : List UInt8) (rec8 : ((List (List UInt8)) × Int × Int) → Option ((List UInt8))) (y4 : List (List UInt8)) (y6 : Int) (y7 : Int) : Option ((List UInt8)) :=
bif decide (y7 ≤ (a1.length : Int)) then
  grdc (!(decide (y7 = (a1.length : Int)))) (okAt y7 a1.length) <|
  lt (at_ a1 y7) fun x13 =>
  bndc (!(decide (y7 = (a1.length : Int)))) (ent_Space F x13) fun x15 =>
  bif (!((decide (y7 = (a1.length : Int))) || x15)) && (decide (y6 < 0)) then
    ent_Trim_j2 y7 rec8 y4 y7
  else
    bif ((decide (y7 = (a1.length : Int))) || x15) && (decide (0 ≤ y6)) then
      grd (okSub y6 y7 a1.length) <|
      lt (sub a1 y6 y7) fun x22 =>
      grd (okCat (y4.length + ([x22] : List (List UInt8)).length)) <|
      lt (y4 ++ ([x22] : List (List UInt8))) fun x26 =>
      ent_Trim_j2 y7 rec8 x26 (-1)
    else
      ent_Trim_j2 y7 rec8 y4 y6
else
  ent_Trim_j1 y4
def ent_Trim_L1 (F : Nat) (a1 : List UInt8) (n : Nat) : ((List (List UInt8)) × Int × Int) → Option ((List UInt8)) :=
  loop (fun rec x => ent_Trim_B1 F a1 rec x.1 x.2.1 x.2.2) n
def ent_Trim (F : Nat) (a1 : List UInt8) : Option ((List UInt8)) :=
ent_Trim_L1 F a1 F ([], (-1), 0)
/-- mailcoach/ent.in -/
def ent_in (F : Nat) (a1 : Int) (a2 : Int) (a3 : Int) : Option Bool :=
some ((decide (a2 ≤ a1)) && (decide (a1 ≤ a3)))
end Go.Pv
