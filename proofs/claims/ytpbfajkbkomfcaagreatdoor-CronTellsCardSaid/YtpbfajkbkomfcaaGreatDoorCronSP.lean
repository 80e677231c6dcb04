/-
  The document's answers about days, written again as plain functions: printed by a program of ours from Lean's own print of the loaded program.
-/
import Derived.Test.YtpbfajkbkomfcaaGreatDoorPvLib
import Derived.Test.YtpbfajkbkomfcaaGreatDoorCronQP
set_option linter.unusedVariables false
namespace Go.Pv

/-- mailcoach/mailcoachref05.May -/
def ref05_May_j1 : Option Bool :=
some true
def ref05_May_j2 (y12 : Int) (rec13 : Int → Option Bool) : Option Bool :=
grd (okI (y12 + 1)) <|
rec13 (y12 + 1)
def ref05_May_j3 (F : Nat) (a6 : Bool) (a7 : Bool) (a8 : Bool) (a9 : Bool) (a10 : Bool) (y12 : Int) (x17 : List Int) (rec13 : Int → Option Bool) : Option Bool :=
grdc (!(decide ((x17.length : Int) = 0))) (okAt y12 5) <|
lt (at_ ([a6, a7, a8, a9, a10] : List Bool) y12) fun x48 =>
bndc ((!(decide ((x17.length : Int) = 0))) && x48) (ref05_High F y12) fun x51 =>
bndc ((!(decide ((x17.length : Int) = 0))) && x48) (ref05_Low F y12) fun x53 =>
grdc ((!(decide ((x17.length : Int) = 0))) && x48) (okI (x51 - x53)) <|
grdc ((!(decide ((x17.length : Int) = 0))) && x48) (okI ((x51 - x53) + 1)) <|
bif (decide ((x17.length : Int) = 0)) || (x48 && (!decide ((x17.length : Int) = (x51 - x53) + 1))) then
  some false
else
  ref05_May_j2 y12 rec13
def ref05_May_B1 (F : Nat) (a6 : Bool) (a7 : Bool) (a8 : Bool) (a9 : Bool) (a10 : Bool) (y12 : Int) (x17 : List Int) (rec13 : Int → Option Bool) (rec20 : Int → Option Bool) (y19 : Int) : Option Bool :=
bif decide (y19 < (x17.length : Int)) then
  grd (okAt y19 x17.length) <|
  lt (at_ x17 y19) fun x24 =>
  bnd (ref05_Low F y12) fun x26 =>
  grdc (!(decide (x24 < x26))) (okAt y19 x17.length) <|
  lt (at_ x17 y19) fun x30 =>
  bndc (!(decide (x24 < x26))) (ref05_High F y12) fun x32 =>
  grdc ((!((decide (x24 < x26)) || (decide (x32 < x30)))) && (decide (0 < y19))) (okAt y19 x17.length) <|
  lt (at_ x17 y19) fun x37 =>
  grdc ((!((decide (x24 < x26)) || (decide (x32 < x30)))) && (decide (0 < y19))) (okI (y19 - 1)) <|
  grdc ((!((decide (x24 < x26)) || (decide (x32 < x30)))) && (decide (0 < y19))) (okAt (y19 - 1) x17.length) <|
  lt (at_ x17 (y19 - 1)) fun x41 =>
  bif ((decide (x24 < x26)) || (decide (x32 < x30))) || ((decide (0 < y19)) && (decide (x37 ≤ x41))) then
    some false
  else
    grd (okI (y19 + 1)) <|
    rec20 (y19 + 1)
else
  ref05_May_j3 F a6 a7 a8 a9 a10 y12 x17 rec13
def ref05_May_L1 (F : Nat) (a6 : Bool) (a7 : Bool) (a8 : Bool) (a9 : Bool) (a10 : Bool) (y12 : Int) (x17 : List Int) (rec13 : Int → Option Bool) (n : Nat) : Int → Option Bool :=
  loop (fun rec x => ref05_May_B1 F a6 a7 a8 a9 a10 y12 x17 rec13 rec x) n
def ref05_May_B2 (F : Nat) (a1 : List Int) (a2 : List Int) (a3 : List Int) (a4 : List Int) (a5 : List Int) (a6 : Bool) (a7 : Bool) (a8 : Bool) (a9 : Bool) (a10 : Bool) (rec13 : Int → Option Bool) (y12 : Int) : Option Bool :=
bif decide (y12 < 5) then
  grd (okAt y12 5) <|
  lt (at_ ([a1, a2, a3, a4, a5] : List (List Int)) y12) fun x17 =>
  ref05_May_L1 F a6 a7 a8 a9 a10 y12 x17 rec13 F 0
else
  ref05_May_j1
def ref05_May_L2 (F : Nat) (a1 : List Int) (a2 : List Int) (a3 : List Int) (a4 : List Int) (a5 : List Int) (a6 : Bool) (a7 : Bool) (a8 : Bool) (a9 : Bool) (a10 : Bool) (n : Nat) : Int → Option Bool :=
  loop (fun rec x => ref05_May_B2 F a1 a2 a3 a4 a5 a6 a7 a8 a9 a10 rec x) n
def ref05_May (F : Nat) (a1 : List Int) (a2 : List Int) (a3 : List Int) (a4 : List Int) (a5 : List Int) (a6 : Bool) (a7 : Bool) (a8 : Bool) (a9 : Bool) (a10 : Bool) : Option Bool :=
ref05_May_L2 F a1 a2 a3 a4 a5 a6 a7 a8 a9 a10 F 0
/-- mailcoach/mailcoachref01.Leap -/
def ref01_Leap (F : Nat) (a1 : Int) : Option Bool :=
grd (okDiv a1 4) <|
grdc (decide (a1 % 4 = 0)) (okDiv a1 100) <|
grdc (!((decide (a1 % 4 = 0)) && (!decide (a1 % 100 = 0)))) (okDiv a1 400) <|
some (((decide (a1 % 4 = 0)) && (!decide (a1 % 100 = 0))) || (decide (a1 % 400 = 0)))
/-- mailcoach/mailcoachref01.Days -/
def ref01_Days_j1 (F : Nat) (a1 : Int) (a2 : Int) (y16 : Bool) : Option Int :=
bif y16 then
  some 30
else
  bif decide (a2 = 2) then
    bnd (ref01_Leap F a1) fun x20 =>
    bif x20 then
      some 29
    else
      some 28
  else
    some 0
def ref01_Days_j2 (F : Nat) (a1 : Int) (a2 : Int) (y10 : Bool) : Option Int :=
bif y10 then
  some 31
else
  bif decide (a2 = 4) then
    ref01_Days_j1 F a1 a2 (decide (a2 = 4))
  else
    bif decide (a2 = 6) then
      ref01_Days_j1 F a1 a2 (decide (a2 = 6))
    else
      bif decide (a2 = 9) then
        ref01_Days_j1 F a1 a2 (decide (a2 = 9))
      else
        ref01_Days_j1 F a1 a2 (decide (a2 = 11))
def ref01_Days (F : Nat) (a1 : Int) (a2 : Int) : Option Int :=
bif decide (a2 = 1) then
  ref01_Days_j2 F a1 a2 (decide (a2 = 1))
else
  bif decide (a2 = 3) then
    ref01_Days_j2 F a1 a2 (decide (a2 = 3))
  else
    bif decide (a2 = 5) then
      ref01_Days_j2 F a1 a2 (decide (a2 = 5))
    else
      bif decide (a2 = 7) then
        ref01_Days_j2 F a1 a2 (decide (a2 = 7))
      else
        bif decide (a2 = 8) then
          ref01_Days_j2 F a1 a2 (decide (a2 = 8))
        else
          bif decide (a2 = 10) then
            ref01_Days_j2 F a1 a2 (decide (a2 = 10))
          else
            ref01_Days_j2 F a1 a2 (decide (a2 = 12))
/-- mailcoach/mailcoachref01.Start -/
def ref01_Start (F : Nat) (a1 : Int) : Option Int :=
grd (okI (a1 - 1)) <|
grd (okI (365 * (a1 - 1))) <|
grd (okDiv (a1 - 1) 4) <|
grd (okI ((365 * (a1 - 1)) + ((a1 - 1) / 4))) <|
grd (okDiv (a1 - 1) 100) <|
grd (okI (((365 * (a1 - 1)) + ((a1 - 1) / 4)) - ((a1 - 1) / 100))) <|
grd (okDiv (a1 - 1) 400) <|
grd (okI ((((365 * (a1 - 1)) + ((a1 - 1) / 4)) - ((a1 - 1) / 100)) + ((a1 - 1) / 400))) <|
grd (okI (((((365 * (a1 - 1)) + ((a1 - 1) / 4)) - ((a1 - 1) / 100)) + ((a1 - 1) / 400)) - 719162)) <|
some (((((365 * (a1 - 1)) + ((a1 - 1) / 4)) - ((a1 - 1) / 100)) + ((a1 - 1) / 400)) - 719162)
/-- mailcoach/mailcoachref01.Ord -/
def ref01_Ord_j1 (a3 : Int) (y23 : Int) : Option (Int × Int) :=
grd (okI (y23 + a3)) <|
grd (okI ((y23 + a3) - 1)) <|
some ((y23 + a3) - 1, 0)
def ref01_Ord_B1 (F : Nat) (a1 : Int) (a2 : Int) (a3 : Int) (rec16 : (Int × Int) → Option (Int × Int)) (y14 : Int) (y15 : Int) : Option (Int × Int) :=
bif decide (y15 < a2) then
  bnd (ref01_Days F a1 y15) fun x19 =>
  grd (okI (y14 + x19)) <|
  grd (okI (y15 + 1)) <|
  rec16 (y14 + x19, y15 + 1)
else
  ref01_Ord_j1 a3 y14
def ref01_Ord_L1 (F : Nat) (a1 : Int) (a2 : Int) (a3 : Int) (n : Nat) : (Int × Int) → Option (Int × Int) :=
  loop (fun rec x => ref01_Ord_B1 F a1 a2 a3 rec x.1 x.2) n
def ref01_Ord (F : Nat) (a1 : Int) (a2 : Int) (a3 : Int) : Option (Int × Int) :=
bndc (!(((decide (a1 < 1)) || (decide (9999 < a1))) || (decide (a3 < 1)))) (ref01_Days F a1 a2) fun x9 =>
bif (((decide (a1 < 1)) || (decide (9999 < a1))) || (decide (a3 < 1))) || (decide (x9 < a3)) then
  some (0, 1)
else
  bnd (ref01_Start F a1) fun x12 =>
  ref01_Ord_L1 F a1 a2 a3 F (x12, 1)
/-- mailcoach/mailcoachref01.Wday -/
def ref01_Wday_j1 (y8 : Int) : Option Int :=
some y8
def ref01_Wday (F : Nat) (a1 : Int) : Option Int :=
bif (decide (a1 < (-1099511627776))) || (decide (1099511627776 < a1)) then
  some 0
else
  grd (okI (a1 + 4)) <|
  bif decide (Int.tmod (a1 + 4) 7 < 0) then
    grd (okI ((Int.tmod (a1 + 4) 7) + 7)) <|
    ref01_Wday_j1 ((Int.tmod (a1 + 4) 7) + 7)
  else
    ref01_Wday_j1 (Int.tmod (a1 + 4) 7)
/-- mailcoach/mailcoachref02.May -/
def ref02_May (F : Nat) (a1 : Int) (a2 : Int) (a3 : Int) (a4 : Int) (a5 : Int) (a6 : Int) : Option Bool :=
bnd2 (ref01_Ord F a1 a2 a3) fun x8 x9 =>
some (((((((decide (x9 = 0)) && (decide (0 ≤ a4))) && (decide (a4 ≤ 23))) && (decide (0 ≤ a5))) && (decide (a5 ≤ 59))) && (decide (0 ≤ a6))) && (decide (a6 ≤ 59)))
/-- mailcoach/mailcoachref03.Number -/
def ref03_Number_j1 (y25 : List UInt8) : Option ((List UInt8)) :=
some y25
def ref03_Number_B1 (rec12 : (Int × (List UInt8)) → Option ((List UInt8))) (y10 : Int) (y11 : List UInt8) : Option ((List UInt8)) :=
bif decide (0 < y10) then
  grd (okDiv y10 10) <|
  grd (okDiv y10 10) <|
  grd (okI ((y10 % 10) + 1)) <|
  grd (okSub (y10 % 10) ((y10 % 10) + 1) ([48, 49, 50, 51, 52, 53, 54, 55, 56, 57] : List UInt8).length) <|
  lt (sub ([48, 49, 50, 51, 52, 53, 54, 55, 56, 57] : List UInt8) (y10 % 10) ((y10 % 10) + 1)) fun x19 =>
  grd (okCat (x19.length + y11.length)) <|
  lt (x19 ++ y11) fun x22 =>
  grd (okDiv y10 10) <|
  rec12 (y10 / 10, x22)
else
  ref03_Number_j1 y11
def ref03_Number_L1 (n : Nat) : (Int × (List UInt8)) → Option ((List UInt8)) :=
  loop (fun rec x => ref03_Number_B1 rec x.1 x.2) n
def ref03_Number (F : Nat) (a1 : Int) : Option ((List UInt8)) :=
grd (okDiv a1 10) <|
grd (okDiv a1 10) <|
grd (okI ((a1 % 10) + 1)) <|
grd (okSub (a1 % 10) ((a1 % 10) + 1) ([48, 49, 50, 51, 52, 53, 54, 55, 56, 57] : List UInt8).length) <|
lt (sub ([48, 49, 50, 51, 52, 53, 54, 55, 56, 57] : List UInt8) (a1 % 10) ((a1 % 10) + 1)) fun x7 =>
grd (okDiv a1 10) <|
ref03_Number_L1 F (a1 / 10, x7)
/-- mailcoach/mailcoachref05.Day -/
def ref05_Day (F : Nat) (a1 : List Int) (a2 : List Int) (a3 : List Int) (a4 : List Int) (a5 : List Int) (a6 : Bool) (a7 : Bool) (a8 : Bool) (a9 : Bool) (a10 : Bool) (a11 : Int) (a12 : Int) (a13 : Int) : Option Bool :=
bnd (ref05_May F a1 a2 a3 a4 a5 a6 a7 a8 a9 a10) fun x15 =>
bnd2 (ref01_Ord F a11 a12 a13) fun x17 x18 =>
bif (!x15) || (!decide (x18 = 0)) then
  some false
else
  bnd (ref05_Has F a4 a12) fun x22 =>
  bnd (ref05_Has F a3 a13) fun x24 =>
  bnd (ref01_Wday F x17) fun x26 =>
  bnd (ref05_Has F a5 x26) fun x28 =>
  bif (!a8) && (!a10) then
    some (x22 && (x24 || x28))
  else
    some ((x22 && x24) && x28)
/-- mailcoach/mailcoachref05.Match -/
def ref05_Match (F : Nat) (a1 : List Int) (a2 : List Int) (a3 : List Int) (a4 : List Int) (a5 : List Int) (a6 : Bool) (a7 : Bool) (a8 : Bool) (a9 : Bool) (a10 : Bool) (a11 : Int) (a12 : Int) (a13 : Int) (a14 : Int) (a15 : Int) (a16 : Int) : Option Bool :=
bnd (ref02_May F a11 a12 a13 a14 a15 a16) fun x18 =>
bif !x18 then
  some false
else
  bnd (ref05_Has F a1 a15) fun x21 =>
  bnd (ref05_Has F a2 a14) fun x23 =>
  bnd (ref05_Day F a1 a2 a3 a4 a5 a6 a7 a8 a9 a10 a11 a12 a13) fun x25 =>
  some (((x21 && x23) && (decide (a16 = 0))) && x25)
/-- mailcoach/mailcoachref05.Write -/
def ref05_Write_j1 (y63 : List UInt8) : Option ((List UInt8) × Int) :=
some (y63, 0)
def ref05_Write_j2 (y17 : Int) (rec18 : ((List UInt8) × Int) → Option ((List UInt8) × Int)) (y60 : List UInt8) : Option ((List UInt8) × Int) :=
grd (okI (y17 + 1)) <|
rec18 (y60, y17 + 1)
def ref05_Write_j3 (F : Nat) (a1 : List Int) (a2 : List Int) (a3 : List Int) (a4 : List Int) (a5 : List Int) (y17 : Int) (y35 : Int) (rec36 : ((List UInt8) × Int) → Option ((List UInt8) × Int)) (y46 : List UInt8) : Option ((List UInt8) × Int) :=
grd (okAt y17 5) <|
lt (at_ ([a1, a2, a3, a4, a5] : List (List Int)) y17) fun x49 =>
grd (okAt y35 x49.length) <|
lt (at_ x49 y35) fun x52 =>
bnd (ref03_Number F x52) fun x54 =>
grd (okCat (y46.length + x54.length)) <|
lt (y46 ++ x54) fun x57 =>
grd (okI (y35 + 1)) <|
rec36 (x57, y35 + 1)
def ref05_Write_B1 (F : Nat) (a1 : List Int) (a2 : List Int) (a3 : List Int) (a4 : List Int) (a5 : List Int) (y17 : Int) (rec18 : ((List UInt8) × Int) → Option ((List UInt8) × Int)) (rec36 : ((List UInt8) × Int) → Option ((List UInt8) × Int)) (y34 : List UInt8) (y35 : Int) : Option ((List UInt8) × Int) :=
grd (okAt y17 5) <|
lt (at_ ([a1, a2, a3, a4, a5] : List (List Int)) y17) fun x39 =>
bif decide (y35 < (x39.length : Int)) then
  bif decide (0 < y35) then
    grd (okCat (y34.length + ([44] : List UInt8).length)) <|
    lt (y34 ++ ([44] : List UInt8)) fun x44 =>
    ref05_Write_j3 F a1 a2 a3 a4 a5 y17 y35 rec36 x44
  else
    ref05_Write_j3 F a1 a2 a3 a4 a5 y17 y35 rec36 y34
else
  ref05_Write_j2 y17 rec18 y34
def ref05_Write_L1 (F : Nat) (a1 : List Int) (a2 : List Int) (a3 : List Int) (a4 : List Int) (a5 : List Int) (y17 : Int) (rec18 : ((List UInt8) × Int) → Option ((List UInt8) × Int)) (n : Nat) : ((List UInt8) × Int) → Option ((List UInt8) × Int) :=
  loop (fun rec x => ref05_Write_B1 F a1 a2 a3 a4 a5 y17 rec18 rec x.1 x.2) n
def ref05_Write_j4 (F : Nat) (a1 : List Int) (a2 : List Int) (a3 : List Int) (a4 : List Int) (a5 : List Int) (a6 : Bool) (a7 : Bool) (a8 : Bool) (a9 : Bool) (a10 : Bool) (y17 : Int) (rec18 : ((List UInt8) × Int) → Option ((List UInt8) × Int)) (y25 : List UInt8) : Option ((List UInt8) × Int) :=
grd (okAt y17 5) <|
lt (at_ ([a6, a7, a8, a9, a10] : List Bool) y17) fun x28 =>
bif x28 then
  grd (okCat (y25.length + ([42] : List UInt8).length)) <|
  lt (y25 ++ ([42] : List UInt8)) fun x32 =>
  ref05_Write_j2 y17 rec18 x32
else
  ref05_Write_L1 F a1 a2 a3 a4 a5 y17 rec18 F (y25, 0)
def ref05_Write_B2 (F : Nat) (a1 : List Int) (a2 : List Int) (a3 : List Int) (a4 : List Int) (a5 : List Int) (a6 : Bool) (a7 : Bool) (a8 : Bool) (a9 : Bool) (a10 : Bool) (rec18 : ((List UInt8) × Int) → Option ((List UInt8) × Int)) (y16 : List UInt8) (y17 : Int) : Option ((List UInt8) × Int) :=
bif decide (y17 < 5) then
  bif decide (0 < y17) then
    grd (okCat (y16.length + ([32] : List UInt8).length)) <|
    lt (y16 ++ ([32] : List UInt8)) fun x23 =>
    ref05_Write_j4 F a1 a2 a3 a4 a5 a6 a7 a8 a9 a10 y17 rec18 x23
  else
    ref05_Write_j4 F a1 a2 a3 a4 a5 a6 a7 a8 a9 a10 y17 rec18 y16
else
  ref05_Write_j1 y16
def ref05_Write_L2 (F : Nat) (a1 : List Int) (a2 : List Int) (a3 : List Int) (a4 : List Int) (a5 : List Int) (a6 : Bool) (a7 : Bool) (a8 : Bool) (a9 : Bool) (a10 : Bool) (n : Nat) : ((List UInt8) × Int) → Option ((List UInt8) × Int) :=
  loop (fun rec x => ref05_Write_B2 F a1 a2 a3 a4 a5 a6 a7 a8 a9 a10 rec x.1 x.2) n
def ref05_Write (F : Nat) (a1 : List Int) (a2 : List Int) (a3 : List Int) (a4 : List Int) (a5 : List Int) (a6 : Bool) (a7 : Bool) (a8 : Bool) (a9 : Bool) (a10 : Bool) : Option ((List UInt8) × Int) :=
bnd (ref05_May F a1 a2 a3 a4 a5 a6 a7 a8 a9 a10) fun x13 =>
bif !x13 then
  some (([] : List UInt8), 1)
else
  ref05_Write_L2 F a1 a2 a3 a4 a5 a6 a7 a8 a9 a10 F (([] : List UInt8), 0)
end Go.Pv
