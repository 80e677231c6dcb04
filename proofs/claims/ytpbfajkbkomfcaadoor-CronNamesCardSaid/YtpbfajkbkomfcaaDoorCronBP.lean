/-
  What a schedule has, written again as plain functions: printed by a program of ours from Lean's own print of the loaded program.
-/
import Derived.Test.YtpbfajkbkomfcaaDoorPvLib
import Derived.Lib.ItoaNum
import Derived.Test.YtpbfajkbkomfcaaDoorCronAP
import Derived.Test.YtpbfajkbkomfcaaDoorCivP
set_option linter.unusedVariables false
namespace Go.Pv

/-- (mailcoach/cron.field).rises -/
def cron_rises_j1 (a5 : List Int) : Option Bool :=
some (decide (0 < (a5.length : Int)))
def cron_rises_B1 (a1 : Int) (a2 : Int) (a5 : List Int) (rec9 : Int → Option Bool) (y8 : Int) : Option Bool :=
bif decide (y8 < (a5.length : Int)) then
  grd (okAt y8 a5.length) <|
  lt (at_ a5 y8) fun x13 =>
  grdc ((!((decide (x13 < a1)) || (decide (a2 < x13)))) && (decide (0 < y8))) (okI (y8 - 1)) <|
  grdc ((!((decide (x13 < a1)) || (decide (a2 < x13)))) && (decide (0 < y8))) (okAt (y8 - 1) a5.length) <|
  lt (at_ a5 (y8 - 1)) fun x20 =>
  bif ((decide (x13 < a1)) || (decide (a2 < x13))) || ((decide (0 < y8)) && (decide (x13 ≤ x20))) then
    some false
  else
    grd (okI (y8 + 1)) <|
    rec9 (y8 + 1)
else
  cron_rises_j1 a5
def cron_rises_L1 (a1 : Int) (a2 : Int) (a5 : List Int) (n : Nat) : Int → Option Bool :=
  loop (fun rec x => cron_rises_B1 a1 a2 a5 rec x) n
def cron_rises (F : Nat) (a1 : Int) (a2 : Int) (a3 : List UInt8) (a4 : Int) (a5 : List Int) : Option Bool :=
cron_rises_L1 a1 a2 a5 F 0
/-- mailcoach/cron.May -/
def cron_May_j1 : Option Bool :=
some true
def cron_May (F : Nat) (a1 : List Int) (a2 : List Int) (a3 : List Int) (a4 : List Int) (a5 : List Int) (a6 : Bool) (a7 : Bool) (a8 : Bool) (a9 : Bool) (a10 : Bool) : Option Bool :=
bnd (cron_fields F) fun x12 =>
bnd (cron_rises F x12.1 x12.2.1 x12.2.2.1 x12.2.2.2.1 a1) fun x15 =>
grdc ((!(!x15)) && a6) (okI (x12.2.1 - x12.1)) <|
bif (!x15) || (a6 && (decide ((a1.length : Int) ≤ x12.2.1 - x12.1))) then
  some false
else
  bnd (cron_rises F x12.2.2.2.2.1 x12.2.2.2.2.2.1 x12.2.2.2.2.2.2.1 x12.2.2.2.2.2.2.2.1 a2) fun x22 =>
  grdc ((!(!x22)) && a7) (okI (x12.2.2.2.2.2.1 - x12.2.2.2.2.1)) <|
  bif (!x22) || (a7 && (decide ((a2.length : Int) ≤ x12.2.2.2.2.2.1 - x12.2.2.2.2.1))) then
    some false
  else
    bnd (cron_rises F x12.2.2.2.2.2.2.2.2.1 x12.2.2.2.2.2.2.2.2.2.1 x12.2.2.2.2.2.2.2.2.2.2.1 x12.2.2.2.2.2.2.2.2.2.2.2.1 a3) fun x29 =>
    grdc ((!(!x29)) && a8) (okI (x12.2.2.2.2.2.2.2.2.2.1 - x12.2.2.2.2.2.2.2.2.1)) <|
    bif (!x29) || (a8 && (decide ((a3.length : Int) ≤ x12.2.2.2.2.2.2.2.2.2.1 - x12.2.2.2.2.2.2.2.2.1))) then
      some false
    else
      bnd (cron_rises F x12.2.2.2.2.2.2.2.2.2.2.2.2.1 x12.2.2.2.2.2.2.2.2.2.2.2.2.2.1 x12.2.2.2.2.2.2.2.2.2.2.2.2.2.2.1 x12.2.2.2.2.2.2.2.2.2.2.2.2.2.2.2.1 a4) fun x36 =>
      grdc ((!(!x36)) && a9) (okI (x12.2.2.2.2.2.2.2.2.2.2.2.2.2.1 - x12.2.2.2.2.2.2.2.2.2.2.2.2.1)) <|
      bif (!x36) || (a9 && (decide ((a4.length : Int) ≤ x12.2.2.2.2.2.2.2.2.2.2.2.2.2.1 - x12.2.2.2.2.2.2.2.2.2.2.2.2.1))) then
        some false
      else
        bnd (cron_rises F x12.2.2.2.2.2.2.2.2.2.2.2.2.2.2.2.2.1 x12.2.2.2.2.2.2.2.2.2.2.2.2.2.2.2.2.2.1 x12.2.2.2.2.2.2.2.2.2.2.2.2.2.2.2.2.2.2.1 x12.2.2.2.2.2.2.2.2.2.2.2.2.2.2.2.2.2.2.2 a5) fun x43 =>
        grdc ((!(!x43)) && a10) (okI (x12.2.2.2.2.2.2.2.2.2.2.2.2.2.2.2.2.2.1 - x12.2.2.2.2.2.2.2.2.2.2.2.2.2.2.2.2.1)) <|
        bif (!x43) || (a10 && (decide ((a5.length : Int) ≤ x12.2.2.2.2.2.2.2.2.2.2.2.2.2.2.2.2.2.1 - x12.2.2.2.2.2.2.2.2.2.2.2.2.2.2.2.2.1))) then
          some false
        else
          cron_May_j1
/-- slices.Index[[]int,int] -/
def sl_Index_j1 : Option Int :=
some (-1)
def sl_Index_B1 (a1 : List Int) (a3 : Int) (rec6 : Int → Option Int) (y5 : Int) : Option Int :=
bif decide (y5 < (a1.length : Int)) then
  grd (okAt y5 a1.length) <|
  lt (at_ a1 y5) fun x10 =>
  bif decide (a3 = x10) then
    some y5
  else
    grd (okI (y5 + 1)) <|
    rec6 (y5 + 1)
else
  sl_Index_j1
def sl_Index_L1 (a1 : List Int) (a3 : Int) (n : Nat) : Int → Option Int :=
  loop (fun rec x => sl_Index_B1 a1 a3 rec x) n
def sl_Index (F : Nat) (a1 : List Int) (a3 : Int) : Option Int :=
sl_Index_L1 a1 a3 F 0
/-- slices.Contains[[]int,int] -/
def sl_Contains (F : Nat) (a1 : List Int) (a3 : Int) : Option Bool :=
bnd (sl_Index F a1 a3) fun x5 =>
some (decide (0 ≤ x5))
/-- mailcoach/cron.has -/
def cron_has (F : Nat) (a1 : List Int) (a2 : List Int) (a3 : List Int) (a4 : List Int) (a5 : List Int) (a6 : Bool) (a7 : Bool) (a8 : Bool) (a9 : Bool) (a10 : Bool) (a11 : Int) (a12 : Int) : Option Bool :=
grd (okAt a11 5) <|
lt (at_ ([a1, a2, a3, a4, a5] : List (List Int)) a11) fun x15 =>
bnd (sl_Contains F x15 a12) fun x17 =>
some x17
/-- mailcoach/cron.Day -/
def cron_Day (F : Nat) (a1 : List Int) (a2 : List Int) (a3 : List Int) (a4 : List Int) (a5 : List Int) (a6 : Bool) (a7 : Bool) (a8 : Bool) (a9 : Bool) (a10 : Bool) (a11 : Int) (a12 : Int) (a13 : Int) : Option Bool :=
bnd2 (civil_Ord F a11 a12 a13) fun x15 x16 =>
bndc (!(!decide (x16 = 0))) (cron_May F a1 a2 a3 a4 a5 a6 a7 a8 a9 a10) fun x19 =>
bndc (!((!decide (x16 = 0)) || (!x19))) (cron_has F a1 a2 a3 a4 a5 a6 a7 a8 a9 a10 3 a12) fun x22 =>
bif ((!decide (x16 = 0)) || (!x19)) || (!x22) then
  some false
else
  bnd (cron_has F a1 a2 a3 a4 a5 a6 a7 a8 a9 a10 2 a13) fun x25 =>
  bnd (civil_Wday F x15) fun x27 =>
  bnd (cron_has F a1 a2 a3 a4 a5 a6 a7 a8 a9 a10 4 x27) fun x29 =>
  bif a8 || a10 then
    some (x25 && x29)
  else
    some (x25 || x29)
/-- mailcoach/cron.Match -/
def cron_Match (F : Nat) (a1 : List Int) (a2 : List Int) (a3 : List Int) (a4 : List Int) (a5 : List Int) (a6 : Bool) (a7 : Bool) (a8 : Bool) (a9 : Bool) (a10 : Bool) (a11 : Int) (a12 : Int) (a13 : Int) (a14 : Int) (a15 : Int) (a16 : Int) : Option Bool :=
bnd (stamp_May F a11 a12 a13 a14 a15 a16) fun x18 =>
bndc (x18 && (decide (a16 = 0))) (cron_has F a1 a2 a3 a4 a5 a6 a7 a8 a9 a10 0 a15) fun x22 =>
bndc ((x18 && (decide (a16 = 0))) && x22) (cron_has F a1 a2 a3 a4 a5 a6 a7 a8 a9 a10 1 a14) fun x25 =>
bndc (((x18 && (decide (a16 = 0))) && x22) && x25) (cron_Day F a1 a2 a3 a4 a5 a6 a7 a8 a9 a10 a11 a12 a13) fun x28 =>
some ((((x18 && (decide (a16 = 0))) && x22) && x25) && x28)
/-- mailcoach/cron.Write -/
def cron_Write_j1 (y64 : List (List UInt8)) : Option ((List UInt8) × Int) :=
grd (okJoin y64 ([32] : List UInt8)) <|
lt (Go.Av.Str.join ([32] : List UInt8) y64) fun x68 =>
some (x68, 0)
def cron_Write_j2 (y19 : Int) (rec20 : ((List (List UInt8)) × Int) → Option ((List UInt8) × Int)) (y60 : List (List UInt8)) : Option ((List UInt8) × Int) :=
grd (okI (y19 + 1)) <|
rec20 (y60, y19 + 1)
def cron_Write_j3 (y17 : List (List UInt8)) (y19 : Int) (rec20 : ((List (List UInt8)) × Int) → Option ((List UInt8) × Int)) (y51 : List (List UInt8)) : Option ((List UInt8) × Int) :=
grd (okJoin y51 ([44] : List UInt8)) <|
lt (Go.Av.Str.join ([44] : List UInt8) y51) fun x54 =>
grd (okCat (y17.length + ([x54] : List (List UInt8)).length)) <|
lt (y17 ++ ([x54] : List (List UInt8))) fun x58 =>
cron_Write_j2 y19 rec20 x58
def cron_Write_j4 (a6 : Bool) (a7 : Bool) (a8 : Bool) (a9 : Bool) (a10 : Bool) (y17 : List (List UInt8)) (y19 : Int) (rec20 : ((List (List UInt8)) × Int) → Option ((List UInt8) × Int)) (y44 : List (List UInt8)) : Option ((List UInt8) × Int) :=
grd (okAt y19 5) <|
lt (at_ ([a6, a7, a8, a9, a10] : List Bool) y19) fun x48 =>
bif x48 then
  cron_Write_j3 y17 y19 rec20 ([([42] : List UInt8)] : List (List UInt8))
else
  cron_Write_j3 y17 y19 rec20 y44
def cron_Write_B1 (a6 : Bool) (a7 : Bool) (a8 : Bool) (a9 : Bool) (a10 : Bool) (y17 : List (List UInt8)) (y19 : Int) (x25 : List Int) (rec20 : ((List (List UInt8)) × Int) → Option ((List UInt8) × Int)) (rec30 : ((List (List UInt8)) × Int) → Option ((List UInt8) × Int)) (y27 : List (List UInt8)) (y29 : Int) : Option ((List UInt8) × Int) :=
bif decide (y29 < (x25.length : Int)) then
  grd (okAt y29 x25.length) <|
  lt (at_ x25 y29) fun x34 =>
  grd (okAt x34 100) <|
  lt (Go.Lib.decDigits (Int.toNat x34)) fun x37 =>
  grd (okCat (y27.length + ([x37] : List (List UInt8)).length)) <|
  lt (y27 ++ ([x37] : List (List UInt8))) fun x41 =>
  grd (okI (y29 + 1)) <|
  rec30 (x41, y29 + 1)
else
  cron_Write_j4 a6 a7 a8 a9 a10 y17 y19 rec20 y27
def cron_Write_L1 (a6 : Bool) (a7 : Bool) (a8 : Bool) (a9 : Bool) (a10 : Bool) (y17 : List (List UInt8)) (y19 : Int) (x25 : List Int) (rec20 : ((List (List UInt8)) × Int) → Option ((List UInt8) × Int)) (n : Nat) : ((List (List UInt8)) × Int) → Option ((List UInt8) × Int) :=
  loop (fun rec x => cron_Write_B1 a6 a7 a8 a9 a10 y17 y19 x25 rec20 rec x.1 x.2) n
def cron_Write_B2 (F : Nat) (a1 : List Int) (a2 : List Int) (a3 : List Int) (a4 : List Int) (a5 : List Int) (a6 : Bool) (a7 : Bool) (a8 : Bool) (a9 : Bool) (a10 : Bool) (rec20 : ((List (List UInt8)) × Int) → Option ((List UInt8) × Int)) (y17 : List (List UInt8)) (y19 : Int) : Option ((List UInt8) × Int) :=
bif decide (y19 < 5) then
  grd (okAt y19 5) <|
  lt (at_ ([a1, a2, a3, a4, a5] : List (List Int)) y19) fun x25 =>
  cron_Write_L1 a6 a7 a8 a9 a10 y17 y19 x25 rec20 F ([], 0)
else
  cron_Write_j1 y17
def cron_Write_L2 (F : Nat) (a1 : List Int) (a2 : List Int) (a3 : List Int) (a4 : List Int) (a5 : List Int) (a6 : Bool) (a7 : Bool) (a8 : Bool) (a9 : Bool) (a10 : Bool) (n : Nat) : ((List (List UInt8)) × Int) → Option ((List UInt8) × Int) :=
  loop (fun rec x => cron_Write_B2 F a1 a2 a3 a4 a5 a6 a7 a8 a9 a10 rec x.1 x.2) n
def cron_Write (F : Nat) (a1 : List Int) (a2 : List Int) (a3 : List Int) (a4 : List Int) (a5 : List Int) (a6 : Bool) (a7 : Bool) (a8 : Bool) (a9 : Bool) (a10 : Bool) : Option ((List UInt8) × Int) :=
bnd (cron_May F a1 a2 a3 a4 a5 a6 a7 a8 a9 a10) fun x13 =>
bif !x13 then
  some (([] : List UInt8), 1)
else
  cron_Write_L2 F a1 a2 a3 a4 a5 a6 a7 a8 a9 a10 F ([], 0)
end Go.Pv
