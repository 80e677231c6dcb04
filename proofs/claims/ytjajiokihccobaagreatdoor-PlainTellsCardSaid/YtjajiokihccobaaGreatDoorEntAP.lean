/-
  What trims blanks, written again as plain functions: printed by a program of ours from Lean's own print of the loaded program.
-/
import Derived.Test.YtjajiokihccobaaGreatDoorPvLib
set_option linter.unusedVariables false
namespace Go.Pv

/-- mailcoach/mailcoachref07.Space -/
def ref07_Space (F : Nat) (a1 : UInt8) : Option Bool :=
some ((((decide (a1 = 9)) || (decide (a1 = 10))) || (decide (a1 = 13))) || (decide (a1 = 32)))
/-- mailcoach/mailcoachref07.Trim -/
def ref07_Trim_j1 (y37 : List UInt8) : Option ((List UInt8)) :=
some y37
def ref07_Trim_j2 (y7 : Int) (rec8 : ((List UInt8) × Bool × Int) → Option ((List UInt8))) (y32 : List UInt8) (y34 : Bool) : Option ((List UInt8)) :=
grd (okI (y7 + 1)) <|
rec8 (y32, y34, y7 + 1)
def ref07_Trim_j3 (a1 : List UInt8) (y7 : Int) (rec8 : ((List UInt8) × Bool × Int) → Option ((List UInt8))) (y22 : List UInt8) : Option ((List UInt8)) :=
grd (okAt y7 a1.length) <|
lt (at_ a1 y7) fun x26 =>
grd (okCat (y22.length + ([x26] : List UInt8).length)) <|
lt (y22 ++ ([x26] : List UInt8)) fun x30 =>
ref07_Trim_j2 y7 rec8 x30 false
def ref07_Trim_B1 (F : Nat) (a1 : List UInt8) (rec8 : ((List UInt8) × Bool × Int) → Option ((List UInt8))) (y4 : List UInt8) (y6 : Bool) (y7 : Int) : Option ((List UInt8)) :=
bif decide (y7 < (a1.length : Int)) then
  grd (okAt y7 a1.length) <|
  lt (at_ a1 y7) fun x12 =>
  bnd (ref07_Space F x12) fun x14 =>
  bif x14 then
    ref07_Trim_j2 y7 rec8 y4 (decide (0 < (y4.length : Int)))
  else
    bif y6 then
      grd (okCat (y4.length + ([32] : List UInt8).length)) <|
      lt (y4 ++ ([32] : List UInt8)) fun x20 =>
      ref07_Trim_j3 a1 y7 rec8 x20
    else
      ref07_Trim_j3 a1 y7 rec8 y4
else
  ref07_Trim_j1 y4
def ref07_Trim_L1 (F : Nat) (a1 : List UInt8) (n : Nat) : ((List UInt8) × Bool × Int) → Option ((List UInt8)) :=
  loop (fun rec x => ref07_Trim_B1 F a1 rec x.1 x.2.1 x.2.2) n
def ref07_Trim (F : Nat) (a1 : List UInt8) : Option ((List UInt8)) :=
ref07_Trim_L1 F a1 F ([], false, 0)
/-- mailcoach/ent.in -/
def ent_in (F : Nat) (a1 : Int) (a2 : Int) (a3 : Int) : Option Bool :=
some ((decide (a2 ≤ a1)) && (decide (a1 ≤ a3)))
/-- mailcoach/ent.Space -/
def ent_Space (F : Nat) (a1 : UInt8) : Option Bool :=
lt (Go.Lib.indexByte ([9, 10, 13, 32] : List UInt8) a1) fun x3 =>
some (decide (0 ≤ x3))
/-- mailcoach/ent.Trim -/
def ent_Trim_j1 (y33 : List (List UInt8)) : Option ((List UInt8)) :=
grd (okJoin y33 ([32] : List UInt8)) <|
lt (Go.Av.Str.join ([32] : List UInt8) y33) fun x37 =>
some x37
def ent_Trim_j2 (y7 : Int) (rec8 : ((List (List UInt8)) × Int × Int) → Option ((List UInt8))) (y28 : List (List UInt8)) (y30 : Int) : Option ((List UInt8)) :=
grd (okI (y7 + 1)) <|
rec8 (y28, y30, y7 + 1)
def ent_Trim_B1 (F : Nat) (a1 : List UInt8) (rec8 : ((List (List UInt8)) × Int × Int) → Option ((List UInt8))) (y4 : List (List UInt8)) (y6 : Int) (y7 : Int) : Option ((List UInt8)) :=
bif decide (y7 ≤ (a1.length : Int)) then
  grdc (!(decide (y7 = (a1.length : Int)))) (okAt y7 a1.length) <|
  lt (at_ a1 y7) fun x13 =>
  bndc (!(decide (y7 = (a1.length : Int)))) (ent_Space F x13) fun x15 =>
  bif (!((decide (y7 = (a1.length : Int))) || x15)) && (decide (y6 < 0)) then
    ent_Trim_j2 y7 rec8 y4 y7
  else
    bif ((decide (y7 = (a1.length : Int))) || x15) && (decide (0 ≤ y6)) then
      grd (okSub y6 y7 a1.length) <|
      lt (sub a1 y6 y7) fun x22 =>
      grd (okCat (y4.length + ([x22] : List (List UInt8)).length)) <|
      lt (y4 ++ ([x22] : List (List UInt8))) fun x26 =>
      ent_Trim_j2 y7 rec8 x26 (-1)
    else
      ent_Trim_j2 y7 rec8 y4 y6
else
  ent_Trim_j1 y4
def ent_Trim_L1 (F : Nat) (a1 : List UInt8) (n : Nat) : ((List (List UInt8)) × Int × Int) → Option ((List UInt8)) :=
  loop (fun rec x => ent_Trim_B1 F a1 rec x.1 x.2.1 x.2.2) n
def ent_Trim (F : Nat) (a1 : List UInt8) : Option ((List UInt8)) :=
ent_Trim_L1 F a1 F ([], (-1), 0)
/-- mailcoach/mailcoachref05.Split -/
def ref05_Split_j1 (y30 : List (List UInt8)) : Option ((List (List UInt8))) :=
some y30
def ref05_Split_j2 (y8 : Int) (rec9 : ((List (List UInt8)) × Int × Int) → Option ((List (List UInt8)))) (y25 : List (List UInt8)) (y27 : Int) : Option ((List (List UInt8))) :=
grd (okI (y8 + 1)) <|
rec9 (y25, y27, y8 + 1)
def ref05_Split_B1 (a1 : List UInt8) (a2 : UInt8) (rec9 : ((List (List UInt8)) × Int × Int) → Option ((List (List UInt8)))) (y5 : List (List UInt8)) (y7 : Int) (y8 : Int) : Option ((List (List UInt8))) :=
bif decide (y8 ≤ (a1.length : Int)) then
  grdc (!(decide (y8 = (a1.length : Int)))) (okAt y8 a1.length) <|
  lt (at_ a1 y8) fun x14 =>
  bif (decide (y8 = (a1.length : Int))) || (decide (x14 = a2)) then
    grd (okSub y7 y8 a1.length) <|
    lt (sub a1 y7 y8) fun x18 =>
    grd (okCat (y5.length + ([x18] : List (List UInt8)).length)) <|
    lt (y5 ++ ([x18] : List (List UInt8))) fun x22 =>
    grd (okI (y8 + 1)) <|
    ref05_Split_j2 y8 rec9 x22 (y8 + 1)
  else
    ref05_Split_j2 y8 rec9 y5 y7
else
  ref05_Split_j1 y5
def ref05_Split_L1 (a1 : List UInt8) (a2 : UInt8) (n : Nat) : ((List (List UInt8)) × Int × Int) → Option ((List (List UInt8))) :=
  loop (fun rec x => ref05_Split_B1 a1 a2 rec x.1 x.2.1 x.2.2) n
def ref05_Split (F : Nat) (a1 : List UInt8) (a2 : UInt8) : Option ((List (List UInt8))) :=
ref05_Split_L1 a1 a2 F ([], 0, 0)
/-- mailcoach/mailcoachref11.Words -/
def ref11_Words (F : Nat) (a1 : List UInt8) : Option ((List (List UInt8))) :=
bnd (ref07_Trim F a1) fun x3 =>
bif decide (x3 = ([] : List UInt8)) then
  some []
else
  bnd (ref05_Split F x3 32) fun x6 =>
  some x6
/-- mailcoach/plain.one -/
def plain_one (F : Nat) (a1 : List UInt8) (a2 : Int) (a3 : List UInt8) : Option Bool :=
grdc (decide (a2 < (a1.length : Int))) (okAt a2 a1.length) <|
lt (at_ a1 a2) fun x7 =>
lt (Go.Lib.indexByte a3 x7) fun x9 =>
some ((decide (a2 < (a1.length : Int))) && (decide (0 ≤ x9)))
/-- mailcoach/plain.small -/
def plain_small_j1 (a1 : List UInt8) (y24 : List UInt8) : Option ((List UInt8)) :=
grd (decide (y24.length = a1.length)) <|
some y24
def plain_small_j2 (y6 : Int) (rec8 : (Int × (List UInt8)) → Option ((List UInt8))) (y21 : List UInt8) : Option ((List UInt8)) :=
grd (okI (y6 + 1)) <|
rec8 (y6 + 1, y21)
def plain_small_B1 (a1 : List UInt8) (rec8 : (Int × (List UInt8)) → Option ((List UInt8))) (y6 : Int) (y7 : List UInt8) : Option ((List UInt8)) :=
bif decide (y6 < (a1.length : Int)) then
  grd (okAt y6 a1.length) <|
  grd (okAt y6 y7.length) <|
  lt (at_ y7 y6) fun x13 =>
  bif (decide (65 ≤ (x13.toNat : Int))) && (decide ((x13.toNat : Int) ≤ 90)) then
    grd (okAt y6 a1.length) <|
    grd (okAt y6 y7.length) <|
    lt (y7.set (Int.toNat y6) ((x13 + 97) - 65)) fun x19 =>
    plain_small_j2 y6 rec8 x19
  else
    plain_small_j2 y6 rec8 y7
else
  plain_small_j1 a1 y7
def plain_small_L1 (a1 : List UInt8) (n : Nat) : (Int × (List UInt8)) → Option ((List UInt8)) :=
  loop (fun rec x => plain_small_B1 a1 rec x.1 x.2) n
def plain_small (F : Nat) (a1 : List UInt8) : Option ((List UInt8)) :=
grd (okCat a1.length) <|
plain_small_L1 a1 F (0, a1)
/-- mailcoach/plain.Wrap -/
def plain_Wrap_j1 (y71 : List (List UInt8)) : Option ((List (List UInt8))) :=
some y71
def plain_Wrap_j2 (y12 : Int) (rec13 : ((List (List UInt8)) × Int) → Option ((List (List UInt8)))) (y67 : List (List UInt8)) : Option ((List (List UInt8))) :=
grd (okI (y12 + 1)) <|
rec13 (y67, y12 + 1)
def plain_Wrap_j3 (y12 : Int) (rec13 : ((List (List UInt8)) × Int) → Option ((List (List UInt8)))) (y59 : List (List UInt8)) (y61 : List UInt8) : Option ((List (List UInt8))) :=
grd (okCat (y59.length + ([y61] : List (List UInt8)).length)) <|
lt (y59 ++ ([y61] : List (List UInt8))) fun x65 =>
plain_Wrap_j2 y12 rec13 x65
def plain_Wrap_j4 (y32 : Int) (rec33 : ((List (List UInt8)) × (List UInt8) × Bool × Int) → Option ((List (List UInt8)))) (y53 : List (List UInt8)) (y55 : List UInt8) (y56 : Bool) : Option ((List (List UInt8))) :=
grd (okI (y32 + 1)) <|
rec33 (y53, y55, y56, y32 + 1)
def plain_Wrap_B1 (a2 : Int) (y12 : Int) (x23 : List (List UInt8)) (rec13 : ((List (List UInt8)) × Int) → Option ((List (List UInt8)))) (rec33 : ((List (List UInt8)) × (List UInt8) × Bool × Int) → Option ((List (List UInt8)))) (y28 : List (List UInt8)) (y30 : List UInt8) (y31 : Bool) (y32 : Int) : Option ((List (List UInt8))) :=
bif decide (y32 < (x23.length : Int)) then
  grd (okAt y32 x23.length) <|
  lt (at_ x23 y32) fun x37 =>
  bif y31 then
    plain_Wrap_j4 y32 rec33 y28 x37 false
  else
    grd (okI ((y30.length : Int) + 1)) <|
    grd (okI (((y30.length : Int) + 1) + (x37.length : Int))) <|
    bif decide (((y30.length : Int) + 1) + (x37.length : Int) ≤ a2) then
      grd (okCat (([32] : List UInt8).length + x37.length)) <|
      lt (([32] : List UInt8) ++ x37) fun x44 =>
      grd (okCat (y30.length + x44.length)) <|
      lt (y30 ++ x44) fun x47 =>
      plain_Wrap_j4 y32 rec33 y28 x47 y31
    else
      grd (okCat (y28.length + ([y30] : List (List UInt8)).length)) <|
      lt (y28 ++ ([y30] : List (List UInt8))) fun x51 =>
      plain_Wrap_j4 y32 rec33 x51 x37 y31
else
  plain_Wrap_j3 y12 rec13 y28 y30
def plain_Wrap_L1 (a2 : Int) (y12 : Int) (x23 : List (List UInt8)) (rec13 : ((List (List UInt8)) × Int) → Option ((List (List UInt8)))) (n : Nat) : ((List (List UInt8)) × (List UInt8) × Bool × Int) → Option ((List (List UInt8))) :=
  loop (fun rec x => plain_Wrap_B1 a2 y12 x23 rec13 rec x.1 x.2.1 x.2.2.1 x.2.2.2) n
def plain_Wrap_B2 (F : Nat) (a2 : Int) (x8 : List (List UInt8)) (rec13 : ((List (List UInt8)) × Int) → Option ((List (List UInt8)))) (y10 : List (List UInt8)) (y12 : Int) : Option ((List (List UInt8))) :=
bif decide (y12 < (x8.length : Int)) then
  grd (okAt y12 x8.length) <|
  lt (at_ x8 y12) fun x17 =>
  bnd (ent_Trim F x17) fun x19 =>
  grd (okS x19.length) <|
  grd (decide (1 ≤ ([32] : List UInt8).length)) <|
  lt (Go.Lib.split x19 ([32] : List UInt8)) fun x23 =>
  plain_Wrap_L1 a2 y12 x23 rec13 F (y10, ([] : List UInt8), true, 0)
else
  plain_Wrap_j1 y10
def plain_Wrap_L2 (F : Nat) (a2 : Int) (x8 : List (List UInt8)) (n : Nat) : ((List (List UInt8)) × Int) → Option ((List (List UInt8))) :=
  loop (fun rec x => plain_Wrap_B2 F a2 x8 rec x.1 x.2) n
def plain_Wrap (F : Nat) (a1 : List UInt8) (a2 : Int) : Option ((List (List UInt8))) :=
bif decide (a2 < 1) then
  some []
else
  grd (okS a1.length) <|
  grd (decide (1 ≤ ([10] : List UInt8).length)) <|
  lt (Go.Lib.split a1 ([10] : List UInt8)) fun x8 =>
  plain_Wrap_L2 F a2 x8 F ([], 0)
end Go.Pv
