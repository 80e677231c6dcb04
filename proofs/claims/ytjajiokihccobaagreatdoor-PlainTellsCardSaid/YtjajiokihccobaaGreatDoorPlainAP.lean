/-
  What leaves marks out, written again as plain functions: printed by a program of ours from Lean's own print of the loaded program.
-/
import Derived.Test.YtjajiokihccobaaGreatDoorPvLib
import Derived.Test.YtjajiokihccobaaGreatDoorEntBP
set_option linter.unusedVariables false
namespace Go.Pv
def plaina_k1 : List UInt8 := [97, 98, 99, 100, 101, 102, 103, 104, 105, 106, 107, 108, 109, 110, 111, 112, 113, 114, 115, 116, 117, 118, 119, 120, 121, 122, 65, 66, 67, 68, 69, 70, 71, 72, 73, 74, 75, 76, 77, 78, 79, 80, 81, 82, 83, 84, 85, 86, 87, 88, 89, 90, 48, 49, 50, 51, 52, 53, 54, 55, 56, 57]
def plaina_k2 : List UInt8 := [97, 98, 99, 100, 101, 102, 103, 104, 105, 106, 107, 108, 109, 110, 111, 112, 113, 114, 115, 116, 117, 118, 119, 120, 121, 122, 65, 66, 67, 68, 69, 70, 71, 72, 73, 74, 75, 76, 77, 78, 79, 80, 81, 82, 83, 84, 85, 86, 87, 88, 89, 90, 47, 33]
/-- mailcoach/plain.breaking -/
def plain_breaking (F : Nat) : Option ((List (List UInt8 × Int))) :=
some ([(([112] : List UInt8), 1), (([98, 114] : List UInt8), 1), (([100, 105, 118] : List UInt8), 1), (([108, 105] : List UInt8), 1), (([116, 114] : List UInt8), 1), (([117, 108] : List UInt8), 1), (([111, 108] : List UInt8), 1), (([116, 97, 98, 108, 101] : List UInt8), 1), (([104, 49] : List UInt8), 1), (([104, 50] : List UInt8), 1), (([104, 51] : List UInt8), 1), (([104, 52] : List UInt8), 1), (([104, 53] : List UInt8), 1), (([104, 54] : List UInt8), 1)] : List (List UInt8 × Int))
/-- (*mailcoach/plain.cut).end -/
def cut_end_j1 (y17 : List (List UInt8)) : Option ((List (List UInt8))) :=
some y17
def cut_end (F : Nat) (a2 : List UInt8) (a3 : List (List UInt8)) (a6 : List UInt8) : Option ((List (List UInt8))) :=
grd (okW a6 []) <|
grd (okCat (a3.length + ([a6] : List (List UInt8)).length)) <|
lt (a3 ++ ([a6] : List (List UInt8))) fun x13 =>
cut_end_j1 x13
/-- (*mailcoach/plain.cut).mark -/
def cut_mark_j1 (x28 : List UInt8) (y50 : List UInt8) : Option ((List UInt8) × (List UInt8)) :=
some (x28, y50)
def cut_mark_j2 (x28 : List UInt8) (x31 : List UInt8 × List UInt8 × Bool) (y45 : Int) : Option ((List UInt8) × (List UInt8)) :=
grd (okTo y45 x31.2.1.length) <|
lt (from_ x31.2.1 y45) fun x48 =>
cut_mark_j1 x28 x48
def cut_mark_j3 (F : Nat) (a2 : List UInt8) (x13 : List UInt8) (y23 : Int) : Option ((List UInt8) × (List UInt8)) :=
grd (okTo y23 x13.length) <|
lt (to_ x13 y23) fun x26 =>
bnd (plain_small F x26) fun x28 =>
grd (okS a2.length) <|
lt (Go.Lib.cut a2 ([62] : List UInt8)) fun x31 =>
bif (!(decide ((x13.length : Int) < (a2.length : Int) - 1))) && ((decide (x28 = ([115, 99, 114, 105, 112, 116] : List UInt8))) || (decide (x28 = ([115, 116, 121, 108, 101] : List UInt8)))) then
  bnd (plain_small F x31.2.1) fun x36 =>
  grd (okCat (([60, 47] : List UInt8).length + x28.length)) <|
  lt (([60, 47] : List UInt8) ++ x28) fun x39 =>
  grd (okS x36.length) <|
  lt (Go.Lib.index x36 x39) fun x42 =>
  bif decide (x42 < 0) then
    cut_mark_j2 x28 x31 (x31.2.1.length : Int)
  else
    cut_mark_j2 x28 x31 x42
else
  cut_mark_j1 x28 x31.2.1
def cut_mark_B1 (F : Nat) (a2 : List UInt8) (x13 : List UInt8) (rec17 : Int → Option ((List UInt8) × (List UInt8))) (y16 : Int) : Option ((List UInt8) × (List UInt8)) :=
bnd (plain_one F x13 y16 plaina_k1) fun x19 =>
bif x19 then
  grd (okI (y16 + 1)) <|
  rec17 (y16 + 1)
else
  cut_mark_j3 F a2 x13 y16
def cut_mark_L1 (F : Nat) (a2 : List UInt8) (x13 : List UInt8) (n : Nat) : Int → Option ((List UInt8) × (List UInt8)) :=
  loop (fun rec x => cut_mark_B1 F a2 x13 rec x) n
def cut_mark (F : Nat) (a2 : List UInt8) (a3 : List (List UInt8)) (a6 : List UInt8) : Option ((List UInt8) × (List UInt8)) :=
grd (okTo 1 a2.length) <|
lt (from_ a2 1) fun x11 =>
lt (Go.Lib.trimPrefix x11 ([47] : List UInt8)) fun x13 =>
grd (okI ((a2.length : Int) - 1)) <|
cut_mark_L1 F a2 x13 F 0
/-- (*mailcoach/plain.cut).all -/
def cut_all_B1 (F : Nat) (rec19 : ((List (List UInt8 × Int)) × (List UInt8) × (List (List UInt8)) × (List UInt8)) → Option ((List (List UInt8)))) (y12 : List (List UInt8 × Int)) (y13 : List UInt8) (y14 : List (List UInt8)) (y17 : List UInt8) : Option ((List (List UInt8))) :=
lt (Go.Lib.indexByte y13 60) fun x21 =>
bif decide (x21 < 0) then
  grd (okW y17 y13) <|
  lt (y17 ++ y13) fun x25 =>
  bnd (cut_end F y13 y14 x25) fun x28 =>
  some x28
else
  grd (okTo x21 y13.length) <|
  lt (to_ y13 x21) fun x33 =>
  grd (okW y17 x33) <|
  lt (y17 ++ x33) fun x36 =>
  grd (okTo x21 y13.length) <|
  lt (from_ y13 x21) fun x40 =>
  bnd (plain_one F x40 1 plaina_k2) fun x42 =>
  bif !x42 then
    grd (okW x36 ([60] : List UInt8)) <|
    lt (x36 ++ ([60] : List UInt8)) fun x46 =>
    grd (okTo 1 x40.length) <|
    lt (from_ x40 1) fun x50 =>
    rec19 (y12, x50, y14, x46)
  else
    bnd2 (cut_mark F x40 y14 x36) fun x52 x53 =>
    bif decide (0 < Go.Av.mget y12 x52) then
      bnd (cut_end F x53 y14 x36) fun x56 =>
      rec19 (y12, x53, x56, [])
    else
      rec19 (y12, x53, y14, x36)
def cut_all_L1 (F : Nat) (n : Nat) : ((List (List UInt8 × Int)) × (List UInt8) × (List (List UInt8)) × (List UInt8)) → Option ((List (List UInt8))) :=
  loop (fun rec x => cut_all_B1 F rec x.1 x.2.1 x.2.2.1 x.2.2.2) n
def cut_all (F : Nat) (a2 : List UInt8) (a3 : List (List UInt8)) (a6 : List UInt8) : Option ((List (List UInt8))) :=
bnd (plain_breaking F) fun x60 =>
cut_all_B1 F (cut_all_L1 F F) x60 a2 a3 a6
/-- mailcoach/plain.Of -/
def plain_Of_j1 (y31 : List (List UInt8)) : Option ((List UInt8)) :=
grd (okJoin y31 ([10] : List UInt8)) <|
lt (Go.Av.Str.join ([10] : List UInt8) y31) fun x35 =>
some x35
def plain_Of_j2 (y11 : Int) (rec12 : ((List (List UInt8)) × Int) → Option ((List UInt8))) (y27 : List (List UInt8)) : Option ((List UInt8)) :=
grd (okI (y11 + 1)) <|
rec12 (y27, y11 + 1)
def plain_Of_B1 (F : Nat) (x7 : List (List UInt8)) (rec12 : ((List (List UInt8)) × Int) → Option ((List UInt8))) (y9 : List (List UInt8)) (y11 : Int) : Option ((List UInt8)) :=
bif decide (y11 < (x7.length : Int)) then
  grd (okAt y11 x7.length) <|
  lt (at_ x7 y11) fun x16 =>
  bnd (ent_Loose F x16) fun x18 =>
  bnd (ent_Trim F x18) fun x20 =>
  bif !decide (x20 = ([] : List UInt8)) then
    grd (okCat (y9.length + ([x20] : List (List UInt8)).length)) <|
    lt (y9 ++ ([x20] : List (List UInt8))) fun x25 =>
    plain_Of_j2 y11 rec12 x25
  else
    plain_Of_j2 y11 rec12 y9
else
  plain_Of_j1 y9
def plain_Of_L1 (F : Nat) (x7 : List (List UInt8)) (n : Nat) : ((List (List UInt8)) × Int) → Option ((List UInt8)) :=
  loop (fun rec x => plain_Of_B1 F x7 rec x.1 x.2) n
def plain_Of (F : Nat) (a1 : List UInt8) : Option ((List UInt8)) :=
bnd (cut_all F a1 [] []) fun x7 =>
plain_Of_L1 F x7 F ([], 0)
end Go.Pv
