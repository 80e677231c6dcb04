/-
  A schedule's text, written again as plain functions: printed by a program of ours from Lean's own print of the loaded program.
-/
import Derived.Test.YtpbfajkbkomfcaaDoorPvLib
set_option linter.unusedVariables false
namespace Go.Pv
def crona_k1 : List UInt8 := [106, 97, 110, 102, 101, 98, 109, 97, 114, 97, 112, 114, 109, 97, 121, 106, 117, 110, 106, 117, 108, 97, 117, 103, 115, 101, 112, 111, 99, 116, 110, 111, 118, 100, 101, 99]
def crona_k2 : List UInt8 := [115, 117, 110, 109, 111, 110, 116, 117, 101, 119, 101, 100, 116, 104, 117, 102, 114, 105, 115, 97, 116]
/-- mailcoach/cron.unless -/
def cron_unless (F : Nat) (a1 : Bool) : Option (Res Unit) :=
bif !a1 then
  some (Res.pan 0)
else
  some (Res.ok ())
/-- mailcoach/cron.fields -/
def cron_fields (F : Nat) : Option (Int × Int × (List UInt8) × Int × Int × Int × (List UInt8) × Int × Int × Int × (List UInt8) × Int × Int × Int × (List UInt8) × Int × Int × Int × (List UInt8) × Int) :=
some (0, 59, ([] : List UInt8), 0, 0, 23, ([] : List UInt8), 0, 1, 31, ([] : List UInt8), 0, 1, 12, crona_k1, 0, 0, 6, crona_k2, 7)
/-- mailcoach/cron.digits -/
def cron_digits (F : Nat) (a1 : List UInt8) : Option (Int × Bool) :=
grdc (!((decide ((a1.length : Int) < 1)) || (decide (2 < (a1.length : Int))))) (okS a1.length) <|
grdc (!((decide ((a1.length : Int) < 1)) || (decide (2 < (a1.length : Int))))) (okS ([48, 49, 50, 51, 52, 53, 54, 55, 56, 57] : List UInt8).length) <|
grdc (!((decide ((a1.length : Int) < 1)) || (decide (2 < (a1.length : Int))))) (asciiB ([48, 49, 50, 51, 52, 53, 54, 55, 56, 57] : List UInt8)) <|
lt (Go.Lib.trimS a1 ([48, 49, 50, 51, 52, 53, 54, 55, 56, 57] : List UInt8)) fun x9 =>
bif ((decide ((a1.length : Int) < 1)) || (decide (2 < (a1.length : Int)))) || (!decide (x9 = ([] : List UInt8))) then
  some (0, false)
else
  grd (decide (a1.length ≤ 18)) <|
  lt (atoi18 a1) fun x13 =>
  some (x13.1, decide (x13.2 = 0))
/-- mailcoach/cron.small -/
def cron_small_j1 (a1 : List UInt8) (y24 : List UInt8) : Option ((List UInt8)) :=
grd (decide (y24.length = a1.length)) <|
some y24
def cron_small_j2 (y6 : Int) (rec8 : (Int × (List UInt8)) → Option ((List UInt8))) (y21 : List UInt8) : Option ((List UInt8)) :=
grd (okI (y6 + 1)) <|
rec8 (y6 + 1, y21)
def cron_small_B1 (a1 : List UInt8) (rec8 : (Int × (List UInt8)) → Option ((List UInt8))) (y6 : Int) (y7 : List UInt8) : Option ((List UInt8)) :=
bif decide (y6 < (a1.length : Int)) then
  grd (okAt y6 a1.length) <|
  grd (okAt y6 y7.length) <|
  lt (at_ y7 y6) fun x13 =>
  bif (decide (65 ≤ (x13.toNat : Int))) && (decide ((x13.toNat : Int) ≤ 90)) then
    grd (okAt y6 a1.length) <|
    grd (okAt y6 y7.length) <|
    lt (y7.set (Int.toNat y6) ((x13 + 97) - 65)) fun x19 =>
    cron_small_j2 y6 rec8 x19
  else
    cron_small_j2 y6 rec8 y7
else
  cron_small_j1 a1 y7
def cron_small_L1 (a1 : List UInt8) (n : Nat) : (Int × (List UInt8)) → Option ((List UInt8)) :=
  loop (fun rec x => cron_small_B1 a1 rec x.1 x.2) n
def cron_small (F : Nat) (a1 : List UInt8) : Option ((List UInt8)) :=
grd (okCat a1.length) <|
cron_small_L1 a1 F (0, a1)
/-- (mailcoach/cron.field).number -/
def cron_number_j1 (F : Nat) (a1 : Int) (a2 : Int) (a4 : Int) (y34 : Int) : Option (Res Int) :=
bndr (cron_unless F ((decide (a1 ≤ y34)) && (decide (y34 ≤ max a2 a4)))) fun x37 =>
some (Res.ok y34)
def cron_number_j2 (F : Nat) (a1 : Int) (a2 : Int) (a4 : Int) (y28 : Int) : Option (Res Int) :=
bndr (cron_unless F (decide (0 ≤ y28))) fun x30 =>
grd (okI (a1 + y28)) <|
cron_number_j1 F a1 a2 a4 (a1 + y28)
def cron_number_j3 (y12 : Int) (rec13 : (Int × Int) → Option (Res Int)) (y25 : Int) : Option (Res Int) :=
grd (okI (y12 + 3)) <|
rec13 (y25, y12 + 3)
def cron_number_B1 (F : Nat) (a1 : Int) (a2 : Int) (a3 : List UInt8) (a4 : Int) (a5 : List UInt8) (rec13 : (Int × Int) → Option (Res Int)) (y11 : Int) (y12 : Int) : Option (Res Int) :=
grd (okI (y12 + 3)) <|
bif decide (y12 + 3 ≤ (a3.length : Int)) then
  grd (okI (y12 + 3)) <|
  grd (okSub y12 (y12 + 3) a3.length) <|
  lt (sub a3 y12 (y12 + 3)) fun x19 =>
  bnd (cron_small F a5) fun x21 =>
  bif decide (x19 = x21) then
    grd (okDiv y12 3) <|
    cron_number_j3 y12 rec13 (y12 / 3)
  else
    cron_number_j3 y12 rec13 y11
else
  cron_number_j2 F a1 a2 a4 y11
def cron_number_L1 (F : Nat) (a1 : Int) (a2 : Int) (a3 : List UInt8) (a4 : Int) (a5 : List UInt8) (n : Nat) : (Int × Int) → Option (Res Int) :=
  loop (fun rec x => cron_number_B1 F a1 a2 a3 a4 a5 rec x.1 x.2) n
def cron_number (F : Nat) (a1 : Int) (a2 : Int) (a3 : List UInt8) (a4 : Int) (a5 : List UInt8) : Option (Res Int) :=
bnd2 (cron_digits F a5) fun x7 x8 =>
bif !x8 then
  cron_number_L1 F a1 a2 a3 a4 a5 F ((-1), 0)
else
  cron_number_j1 F a1 a2 a4 x7
/-- (mailcoach/cron.field).piece -/
def cron_piece_j1 (y23 : Int) (y48 : Int) (rec50 : (Int × (List Bool)) → Option (Res ((List Bool)))) (y63 : List Bool) : Option (Res ((List Bool))) :=
grd (okI (y48 + y23)) <|
rec50 (y48 + y23, y63)
def cron_piece_B1 (a1 : Int) (a4 : Int) (m7 : Nat) (y23 : Int) (y46 : Int) (rec50 : (Int × (List Bool)) → Option (Res ((List Bool)))) (y48 : Int) (y49 : List Bool) : Option (Res ((List Bool))) :=
bif decide (y48 ≤ y46) then
  bif (decide (y48 = a4)) && (decide (0 < a4)) then
    grd (okAt a1 m7) <|
    grd (okAt a1 y49.length) <|
    lt (y49.set (Int.toNat a1) true) fun x57 =>
    cron_piece_j1 y23 y48 rec50 x57
  else
    grd (okAt y48 m7) <|
    grd (okAt y48 y49.length) <|
    lt (y49.set (Int.toNat y48) true) fun x61 =>
    cron_piece_j1 y23 y48 rec50 x61
else
  some (Res.ok y49)
def cron_piece_L1 (a1 : Int) (a4 : Int) (m7 : Nat) (y23 : Int) (y46 : Int) (n : Nat) : (Int × (List Bool)) → Option (Res ((List Bool))) :=
  loop (fun rec x => cron_piece_B1 a1 a4 m7 y23 y46 rec x.1 x.2) n
def cron_piece_j2 (F : Nat) (a1 : Int) (a4 : Int) (m7 : Nat) (a9 : List Bool) (y23 : Int) (y45 : Int) (y46 : Int) : Option (Res ((List Bool))) :=
cron_piece_L1 a1 a4 m7 y23 y46 F (y45, a9)
def cron_piece_j3 (F : Nat) (a1 : Int) (a4 : Int) (m7 : Nat) (a9 : List Bool) (y23 : Int) (x33 : Int) (y40 : Int) : Option (Res ((List Bool))) :=
bndr (cron_unless F (decide (x33 ≤ y40))) fun x42 =>
cron_piece_j2 F a1 a4 m7 a9 y23 x33 y40
def cron_piece_j4 (F : Nat) (a1 : Int) (a2 : Int) (a3 : List UInt8) (a4 : Int) (m7 : Nat) (a9 : List Bool) (x13 : List UInt8 × List UInt8 × Bool) (y23 : Int) : Option (Res ((List Bool))) :=
bif !decide (x13.1 = ([42] : List UInt8)) then
  grd (okS x13.1.length) <|
  lt (Go.Lib.cut x13.1 ([45] : List UInt8)) fun x27 =>
  bndr (cron_unless F (x27.2.2 || (!x13.2.2))) fun x30 =>
  bndr (cron_number F a1 a2 a3 a4 x27.1) fun x33 =>
  bif x27.2.2 then
    bndr (cron_number F a1 a2 a3 a4 x27.2.1) fun x37 =>
    cron_piece_j3 F a1 a4 m7 a9 y23 x33 x37
  else
    cron_piece_j3 F a1 a4 m7 a9 y23 x33 x33
else
  cron_piece_j2 F a1 a4 m7 a9 y23 a1 a2
def cron_piece (F : Nat) (a1 : Int) (a2 : Int) (a3 : List UInt8) (a4 : Int) (a5 : List UInt8) (m7 : Nat) (a9 : List Bool) : Option (Res ((List Bool))) :=
grd (okS a5.length) <|
lt (Go.Lib.cut a5 ([47] : List UInt8)) fun x13 =>
bif x13.2.2 then
  bnd2 (cron_digits F x13.2.1) fun x16 x17 =>
  bndr (cron_unless F (x17 && (decide (0 < x16)))) fun x20 =>
  cron_piece_j4 F a1 a2 a3 a4 m7 a9 x13 x16
else
  cron_piece_j4 F a1 a2 a3 a4 m7 a9 x13 1
/-- (mailcoach/cron.field).part -/
def cron_part_j1 (y48 : List Int) : Option (Res ((List Int))) :=
some (Res.ok y48)
def cron_part_j2 (y31 : Int) (rec32 : ((List Int) × Int) → Option (Res ((List Int)))) (y44 : List Int) : Option (Res ((List Int))) :=
grd (okI (y31 + 1)) <|
rec32 (y44, y31 + 1)
def cron_part_B1 (a2 : Int) (y26 : List Bool) (rec32 : ((List Int) × Int) → Option (Res ((List Int)))) (y29 : List Int) (y31 : Int) : Option (Res ((List Int))) :=
bif decide (y31 < (Int.toNat (a2 + 1) : Int)) then
  grd (okAt y31 (Int.toNat (a2 + 1))) <|
  grd (okAt y31 y26.length) <|
  lt (at_ y26 y31) fun x37 =>
  bif x37 then
    grd (okCat (y29.length + ([y31] : List Int).length)) <|
    lt (y29 ++ ([y31] : List Int)) fun x42 =>
    cron_part_j2 y31 rec32 x42
  else
    cron_part_j2 y31 rec32 y29
else
  cron_part_j1 y29
def cron_part_L1 (a2 : Int) (y26 : List Bool) (n : Nat) : ((List Int) × Int) → Option (Res ((List Int))) :=
  loop (fun rec x => cron_part_B1 a2 y26 rec x.1 x.2) n
def cron_part_j3 (F : Nat) (a2 : Int) (y26 : List Bool) : Option (Res ((List Int))) :=
cron_part_L1 a2 y26 F ([], 0)
def cron_part_B2 (F : Nat) (a1 : Int) (a2 : Int) (a3 : List UInt8) (a4 : Int) (x12 : List (List UInt8)) (rec16 : (Int × (List Bool)) → Option (Res ((List Int)))) (y14 : Int) (y15 : List Bool) : Option (Res ((List Int))) :=
bif decide (y14 < (x12.length : Int)) then
  grd (okAt y14 x12.length) <|
  lt (at_ x12 y14) fun x20 =>
  bndr (cron_piece F a1 a2 a3 a4 x20 (Int.toNat (a2 + 1)) y15) fun x22 =>
  grd (okI (y14 + 1)) <|
  rec16 (y14 + 1, x22)
else
  cron_part_j3 F a2 y15
def cron_part_L2 (F : Nat) (a1 : Int) (a2 : Int) (a3 : List UInt8) (a4 : Int) (x12 : List (List UInt8)) (n : Nat) : (Int × (List Bool)) → Option (Res ((List Int))) :=
  loop (fun rec x => cron_part_B2 F a1 a2 a3 a4 x12 rec x.1 x.2) n
def cron_part (F : Nat) (a1 : Int) (a2 : Int) (a3 : List UInt8) (a4 : Int) (a5 : List UInt8) : Option (Res ((List Int))) :=
grd (okI (a2 + 1)) <|
grd (okAt (a2 + 1) 1000000000) <|
grd (okS a5.length) <|
grd (decide (1 ≤ ([44] : List UInt8).length)) <|
lt (Go.Lib.split a5 ([44] : List UInt8)) fun x12 =>
cron_part_L2 F a1 a2 a3 a4 x12 F (0, List.replicate (Int.toNat (a2 + 1)) false)
/-- mailcoach/cron.Parse -/
def cron_Parse_j1 (y86 : List Int) (y87 : List Int) (y88 : List Int) (y89 : List Int) (y90 : List Int) (y91 : Bool) (y92 : Bool) (y93 : Bool) (y94 : Bool) (y95 : Bool) : Option ((List Int) × (List Int) × (List Int) × (List Int) × (List Int) × Bool × Bool × Bool × Bool × Bool × Int) :=
some (y86, y87, y88, y89, y90, y91, y92, y93, y94, y95, 0)
def cron_Parse (F : Nat) (a1 : List UInt8) : Option ((List Int) × (List Int) × (List Int) × (List Int) × (List Int) × Bool × Bool × Bool × Bool × Bool × Int) :=
bif decide (200 < (a1.length : Int)) then
  some ([], [], [], [], [], false, false, false, false, false, 4)
else
  grd (okS a1.length) <|
  grd (decide (1 ≤ ([32] : List UInt8).length)) <|
  lt (Go.Lib.split a1 ([32] : List UInt8)) fun x18 =>
  bndk (cron_unless F (decide ((x18.length : Int) = 5))) (fun p22 =>
    some ([], [], [], [], [], false, false, false, false, false, 2)) fun x20 =>
  bnd (cron_fields F) fun x24 =>
  grd (okAt 0 x18.length) <|
  lt (at_ x18 0) fun x28 =>
  grd (okAt 0 x18.length) <|
  lt (at_ x18 0) fun x31 =>
  bndk (cron_part F x24.1 x24.2.1 x24.2.2.1 x24.2.2.2.1 x28) (fun p35 =>
    some ([], [], [], [], [], false, false, false, false, false, 2)) fun x33 =>
  grd (okAt 1 x18.length) <|
  lt (at_ x18 1) fun x39 =>
  grd (okAt 1 x18.length) <|
  lt (at_ x18 1) fun x42 =>
  bndk (cron_part F x24.2.2.2.2.1 x24.2.2.2.2.2.1 x24.2.2.2.2.2.2.1 x24.2.2.2.2.2.2.2.1 x39) (fun p46 =>
    some ([], [], [], [], [], false, false, false, false, false, 2)) fun x44 =>
  grd (okAt 2 x18.length) <|
  lt (at_ x18 2) fun x50 =>
  grd (okAt 2 x18.length) <|
  lt (at_ x18 2) fun x53 =>
  bndk (cron_part F x24.2.2.2.2.2.2.2.2.1 x24.2.2.2.2.2.2.2.2.2.1 x24.2.2.2.2.2.2.2.2.2.2.1 x24.2.2.2.2.2.2.2.2.2.2.2.1 x50) (fun p57 =>
    some ([], [], [], [], [], false, false, false, false, false, 2)) fun x55 =>
  grd (okAt 3 x18.length) <|
  lt (at_ x18 3) fun x61 =>
  grd (okAt 3 x18.length) <|
  lt (at_ x18 3) fun x64 =>
  bndk (cron_part F x24.2.2.2.2.2.2.2.2.2.2.2.2.1 x24.2.2.2.2.2.2.2.2.2.2.2.2.2.1 x24.2.2.2.2.2.2.2.2.2.2.2.2.2.2.1 x24.2.2.2.2.2.2.2.2.2.2.2.2.2.2.2.1 x61) (fun p68 =>
    some ([], [], [], [], [], false, false, false, false, false, 2)) fun x66 =>
  grd (okAt 4 x18.length) <|
  lt (at_ x18 4) fun x72 =>
  grd (okAt 4 x18.length) <|
  lt (at_ x18 4) fun x75 =>
  bndk (cron_part F x24.2.2.2.2.2.2.2.2.2.2.2.2.2.2.2.2.1 x24.2.2.2.2.2.2.2.2.2.2.2.2.2.2.2.2.2.1 x24.2.2.2.2.2.2.2.2.2.2.2.2.2.2.2.2.2.2.1 x24.2.2.2.2.2.2.2.2.2.2.2.2.2.2.2.2.2.2.2 x72) (fun p79 =>
    some ([], [], [], [], [], false, false, false, false, false, 2)) fun x77 =>
  cron_Parse_j1 x33 x44 x55 x66 x77 (decide (x31 = ([42] : List UInt8))) (decide (x42 = ([42] : List UInt8))) (decide (x53 = ([42] : List UInt8))) (decide (x64 = ([42] : List UInt8))) (decide (x75 = ([42] : List UInt8)))
end Go.Pv
