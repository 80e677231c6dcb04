/-
  Days, written again as plain functions: printed by a program of ours from Lean's own print of the loaded program.
-/
import Derived.Test.YtpbfajkbkomfcaaDoorPvLib
set_option linter.unusedVariables false
namespace Go.Pv

/-- mailcoach/civil.Leap -/
def civil_Leap (F : Nat) (a1 : Int) : Option Bool :=
grd (okDiv a1 4) <|
grdc (decide (a1 % 4 = 0)) (okDiv a1 100) <|
grdc ((decide (a1 % 4 = 0)) && (!(!decide (a1 % 100 = 0)))) (okDiv a1 400) <|
some ((decide (a1 % 4 = 0)) && ((!decide (a1 % 100 = 0)) || (decide (a1 % 400 = 0))))
/-- mailcoach/civil.lengths$1 -/
def civil_feb (F : Nat) (a2 : Int) (a4 : Int) (a5 : Int) (a6 : Int) (a7 : Int) (a8 : Int) (a9 : Int) (a10 : Int) (a11 : Int) (a12 : Int) (a13 : Int) (a14 : Int) (a15 : Int) (a16 : Int) : Option Int :=
bnd (civil_Leap F a2) fun x18 =>
bif x18 then
  grd (okI (a6 + 1)) <|
  some (a6 + 1)
else
  some a6
/-- mailcoach/civil.lengths -/
def civil_lengths (F : Nat) (a1 : Int) : Option (Int × Int × Int × Int × Int × Int × Int × Int × Int × Int × Int × Int × Int) :=
bnd (civil_feb F a1 0 31 28 31 30 31 30 31 31 30 31 30 31) fun x18 =>
some (0, 31, x18, 31, 30, 31, 30, 31, 31, 30, 31, 30, 31)
/-- mailcoach/civil.Days -/
def civil_Days (F : Nat) (a1 : Int) (a2 : Int) : Option Int :=
bif (decide (a2 < 1)) || (decide (12 < a2)) then
  some 0
else
  bnd (civil_lengths F a1) fun x6 =>
  grd (okAt a2 13) <|
  lt (at_ ([x6.1, x6.2.1, x6.2.2.1, x6.2.2.2.1, x6.2.2.2.2.1, x6.2.2.2.2.2.1, x6.2.2.2.2.2.2.1, x6.2.2.2.2.2.2.2.1, x6.2.2.2.2.2.2.2.2.1, x6.2.2.2.2.2.2.2.2.2.1, x6.2.2.2.2.2.2.2.2.2.2.1, x6.2.2.2.2.2.2.2.2.2.2.2.1, x6.2.2.2.2.2.2.2.2.2.2.2.2] : List Int) a2) fun x9 =>
  some x9
/-- mailcoach/civil.number -/
def civil_number_j1 (a3 : Int) (y8 : Int) (y9 : Int) : Option Int :=
grd (okDiv y8 400) <|
grd (okI (146097 * (y8 / 400))) <|
grd (okDiv y8 400) <|
grd (okI (365 * (y8 % 400))) <|
grd (okI ((146097 * (y8 / 400)) + (365 * (y8 % 400)))) <|
grd (okDiv y8 400) <|
grd (okDiv (y8 % 400) 4) <|
grd (okI (((146097 * (y8 / 400)) + (365 * (y8 % 400))) + ((y8 % 400) / 4))) <|
grd (okDiv y8 400) <|
grd (okDiv (y8 % 400) 100) <|
grd (okI ((((146097 * (y8 / 400)) + (365 * (y8 % 400))) + ((y8 % 400) / 4)) - ((y8 % 400) / 100))) <|
grd (okI (y9 - 3)) <|
grd (okI (153 * (y9 - 3))) <|
grd (okI ((153 * (y9 - 3)) + 2)) <|
grd (okDiv ((153 * (y9 - 3)) + 2) 5) <|
grd (okI (((((146097 * (y8 / 400)) + (365 * (y8 % 400))) + ((y8 % 400) / 4)) - ((y8 % 400) / 100)) + (((153 * (y9 - 3)) + 2) / 5))) <|
grd (okI ((((((146097 * (y8 / 400)) + (365 * (y8 % 400))) + ((y8 % 400) / 4)) - ((y8 % 400) / 100)) + (((153 * (y9 - 3)) + 2) / 5)) + a3)) <|
grd (okI (((((((146097 * (y8 / 400)) + (365 * (y8 % 400))) + ((y8 % 400) / 4)) - ((y8 % 400) / 100)) + (((153 * (y9 - 3)) + 2) / 5)) + a3) - 1)) <|
grd (okI ((((((((146097 * (y8 / 400)) + (365 * (y8 % 400))) + ((y8 % 400) / 4)) - ((y8 % 400) / 100)) + (((153 * (y9 - 3)) + 2) / 5)) + a3) - 1) - 719468)) <|
some ((((((((146097 * (y8 / 400)) + (365 * (y8 % 400))) + ((y8 % 400) / 4)) - ((y8 % 400) / 100)) + (((153 * (y9 - 3)) + 2) / 5)) + a3) - 1) - 719468)
def civil_number (F : Nat) (a1 : Int) (a2 : Int) (a3 : Int) : Option Int :=
bif decide (a2 ≤ 2) then
  grd (okI (a1 - 1)) <|
  grd (okI (a2 + 12)) <|
  civil_number_j1 a3 (a1 - 1) (a2 + 12)
else
  civil_number_j1 a3 a1 a2
/-- mailcoach/civil.Ord -/
def civil_Ord (F : Nat) (a1 : Int) (a2 : Int) (a3 : Int) : Option (Int × Int) :=
bndc (!(((decide (a1 < 1)) || (decide (9999 < a1))) || (decide (a3 < 1)))) (civil_Days F a1 a2) fun x9 =>
bif (((decide (a1 < 1)) || (decide (9999 < a1))) || (decide (a3 < 1))) || (decide (x9 < a3)) then
  some (0, 1)
else
  bnd (civil_number F a1 a2 a3) fun x12 =>
  some (x12, 0)
/-- mailcoach/civil.Wday -/
def civil_Wday (F : Nat) (a1 : Int) : Option Int :=
bif (decide (a1 < (-1099511627776))) || (decide (1099511627776 < a1)) then
  some 0
else
  grd (okI (a1 + 4)) <|
  grd (okI ((Int.tmod (a1 + 4) 7) + 7)) <|
  some (Int.tmod ((Int.tmod (a1 + 4) 7) + 7) 7)
/-- mailcoach/stamp.in -/
def stamp_in (F : Nat) (a1 : Int) (a2 : Int) : Option Bool :=
some ((decide (0 ≤ a1)) && (decide (a1 < a2)))
/-- mailcoach/stamp.May -/
def stamp_May (F : Nat) (a1 : Int) (a2 : Int) (a3 : Int) (a4 : Int) (a5 : Int) (a6 : Int) : Option Bool :=
bnd2 (civil_Ord F a1 a2 a3) fun x8 x9 =>
bndc (decide (x9 = 0)) (stamp_in F a4 24) fun x12 =>
bndc ((decide (x9 = 0)) && x12) (stamp_in F a5 60) fun x15 =>
bndc (((decide (x9 = 0)) && x12) && x15) (stamp_in F a6 60) fun x18 =>
some ((((decide (x9 = 0)) && x12) && x15) && x18)
end Go.Pv
