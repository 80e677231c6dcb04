/-
  The document's answers about entities and marks, written again as plain functions: printed by a program of ours from Lean's own print of the loaded program.
-/
import Derived.Test.YtjajiokihccobaaGreatDoorPvLib
import Derived.Test.YtjajiokihccobaaGreatDoorAvE
import Derived.Test.YtjajiokihccobaaGreatDoorEntAP
set_option linter.unusedVariables false
namespace Go.Pv

/-- mailcoach/mailcoachref07.Rune -/
def ref07_Rune (F : Nat) (a1 : Int) : Option ((List UInt8) × Bool) :=
bif ((!((((decide (a1 = 9)) || (decide (a1 = 10))) || (decide (a1 = 13))) || ((decide (32 ≤ a1)) && (decide (a1 ≤ 55295))))) && (!((decide (57344 ≤ a1)) && (decide (a1 ≤ 65533))))) && (!((decide (65536 ≤ a1)) && (decide (a1 ≤ 1114111)))) then
  some (([] : List UInt8), false)
else
  bif decide (a1 < 128) then
    some (([Go.Av.toB a1] : List UInt8), true)
  else
    bif decide (a1 < 2048) then
      grd (okDiv a1 64) <|
      grd (okI (192 + (a1 / 64))) <|
      grd (okDiv a1 64) <|
      grd (okI (128 + (a1 % 64))) <|
      some (([Go.Av.toB (192 + (a1 / 64)), Go.Av.toB (128 + (a1 % 64))] : List UInt8), true)
    else
      bif decide (a1 < 65536) then
        grd (okDiv a1 4096) <|
        grd (okI (224 + (a1 / 4096))) <|
        grd (okDiv a1 64) <|
        grd (okDiv (a1 / 64) 64) <|
        grd (okI (128 + ((a1 / 64) % 64))) <|
        grd (okDiv a1 64) <|
        grd (okI (128 + (a1 % 64))) <|
        some (([Go.Av.toB (224 + (a1 / 4096)), Go.Av.toB (128 + ((a1 / 64) % 64)), Go.Av.toB (128 + (a1 % 64))] : List UInt8), true)
      else
        grd (okDiv a1 262144) <|
        grd (okI (240 + (a1 / 262144))) <|
        grd (okDiv a1 4096) <|
        grd (okDiv (a1 / 4096) 64) <|
        grd (okI (128 + ((a1 / 4096) % 64))) <|
        grd (okDiv a1 64) <|
        grd (okDiv (a1 / 64) 64) <|
        grd (okI (128 + ((a1 / 64) % 64))) <|
        grd (okDiv a1 64) <|
        grd (okI (128 + (a1 % 64))) <|
        some (([Go.Av.toB (240 + (a1 / 262144)), Go.Av.toB (128 + ((a1 / 4096) % 64)), Go.Av.toB (128 + ((a1 / 64) % 64)), Go.Av.toB (128 + (a1 % 64))] : List UInt8), true)
/-- mailcoach/mailcoachref07.digit -/
def ref07_digit (F : Nat) (a1 : UInt8) : Option Int :=
bif (decide (48 ≤ (a1.toNat : Int))) && (decide ((a1.toNat : Int) ≤ 57)) then
  some ((a1 - 48).toNat : Int)
else
  bif (decide (97 ≤ (a1.toNat : Int))) && (decide ((a1.toNat : Int) ≤ 102)) then
    grd (okI (((a1 - 97).toNat : Int) + 10)) <|
    some (((a1 - 97).toNat : Int) + 10)
  else
    bif (decide (65 ≤ (a1.toNat : Int))) && (decide ((a1.toNat : Int) ≤ 70)) then
      grd (okI (((a1 - 65).toNat : Int) + 10)) <|
      some (((a1 - 65).toNat : Int) + 10)
    else
      some 99
/-- mailcoach/mailcoachref07.number -/
def ref07_number_j1 (a1 : List UInt8) (y21 : Int) : Option Int :=
bif decide ((a1.length : Int) = 0) then
  some (-1)
else
  some y21
def ref07_number_j2 (y5 : Int) (rec6 : (Int × Int) → Option Int) (y18 : Int) : Option Int :=
grd (okI (y5 + 1)) <|
rec6 (y18, y5 + 1)
def ref07_number_B1 (F : Nat) (a1 : List UInt8) (a2 : Int) (rec6 : (Int × Int) → Option Int) (y4 : Int) (y5 : Int) : Option Int :=
bif decide (y5 < (a1.length : Int)) then
  grd (okAt y5 a1.length) <|
  lt (at_ a1 y5) fun x10 =>
  bnd (ref07_digit F x10) fun x12 =>
  bif decide (a2 ≤ x12) then
    some (-1)
  else
    grd (okI (a2 * y4)) <|
    grd (okI ((a2 * y4) + x12)) <|
    bif decide (1114111 < (a2 * y4) + x12) then
      ref07_number_j2 y5 rec6 1114112
    else
      ref07_number_j2 y5 rec6 ((a2 * y4) + x12)
else
  ref07_number_j1 a1 y4
def ref07_number_L1 (F : Nat) (a1 : List UInt8) (a2 : Int) (n : Nat) : (Int × Int) → Option Int :=
  loop (fun rec x => ref07_number_B1 F a1 a2 rec x.1 x.2) n
def ref07_number (F : Nat) (a1 : List UInt8) (a2 : Int) : Option Int :=
ref07_number_L1 F a1 a2 F (0, 0)
/-- mailcoach/mailcoachref07.sign -/
def ref07_sign_j1 (F : Nat) (y28 : Int) : Option ((List UInt8) × Bool) :=
bnd2 (ref07_Rune F y28) fun x30 x31 =>
some (x30, x31)
def ref07_sign (F : Nat) (a1 : List UInt8) : Option ((List UInt8) × Bool) :=
bif decide (a1 = ([97, 109, 112] : List UInt8)) then
  some (([38] : List UInt8), true)
else
  bif decide (a1 = ([108, 116] : List UInt8)) then
    some (([60] : List UInt8), true)
  else
    bif decide (a1 = ([103, 116] : List UInt8)) then
      some (([62] : List UInt8), true)
    else
      bif decide (a1 = ([113, 117, 111, 116] : List UInt8)) then
        some (([34] : List UInt8), true)
      else
        bif decide (a1 = ([97, 112, 111, 115] : List UInt8)) then
          some (([39] : List UInt8), true)
        else
          grdc (!(decide ((a1.length : Int) < 2))) (okAt 0 a1.length) <|
          lt (at_ a1 0) fun x11 =>
          bif (decide ((a1.length : Int) < 2)) || (!decide (x11 = 35)) then
            some (([] : List UInt8), false)
          else
            grd (okTo 1 a1.length) <|
            lt (from_ a1 1) fun x15 =>
            bnd (ref07_number F x15 10) fun x17 =>
            grd (okAt 1 a1.length) <|
            lt (at_ a1 1) fun x20 =>
            bif decide (x20 = 120) then
              grd (okTo 2 a1.length) <|
              lt (from_ a1 2) fun x24 =>
              bnd (ref07_number F x24 16) fun x26 =>
              ref07_sign_j1 F x26
            else
              ref07_sign_j1 F x17
/-- mailcoach/mailcoachref07.body -/
def ref07_body_j1 : Option ((List UInt8) × Bool) :=
some (([] : List UInt8), false)
def ref07_body_B1 (a1 : List UInt8) (a2 : Int) (rec7 : Int → Option ((List UInt8) × Bool)) (y6 : Int) : Option ((List UInt8) × Bool) :=
grdc (decide (y6 < (a1.length : Int))) (okI (a2 + 11)) <|
bif (decide (y6 < (a1.length : Int))) && (decide (y6 ≤ a2 + 11)) then
  grd (okAt y6 a1.length) <|
  lt (at_ a1 y6) fun x13 =>
  bif decide (x13 = 38) then
    some (([] : List UInt8), false)
  else
    grd (okAt y6 a1.length) <|
    lt (at_ a1 y6) fun x17 =>
    bif decide (x17 = 59) then
      grd (okI (a2 + 1)) <|
      grd (okSub (a2 + 1) y6 a1.length) <|
      lt (sub a1 (a2 + 1) y6) fun x22 =>
      grd (okI (a2 + 1)) <|
      some (x22, decide (a2 + 1 < y6))
    else
      grd (okI (y6 + 1)) <|
      rec7 (y6 + 1)
else
  ref07_body_j1
def ref07_body_L1 (a1 : List UInt8) (a2 : Int) (n : Nat) : Int → Option ((List UInt8) × Bool) :=
  loop (fun rec x => ref07_body_B1 a1 a2 rec x) n
def ref07_body (F : Nat) (a1 : List UInt8) (a2 : Int) : Option ((List UInt8) × Bool) :=
grd (okI (a2 + 1)) <|
ref07_body_L1 a1 a2 F (a2 + 1)
/-- mailcoach/mailcoachref07.gone -/
def ref07_gone_j1 (y40 : List UInt8) (y42 : Bool) : Option ((List UInt8) × Bool) :=
some (y40, y42)
def ref07_gone_j2 (a1 : List UInt8) (y5 : List UInt8) (y8 : Int) (rec9 : ((List UInt8) × Bool × Int) → Option ((List UInt8) × Bool)) (y30 : Bool) : Option ((List UInt8) × Bool) :=
grd (okAt y8 a1.length) <|
lt (at_ a1 y8) fun x33 =>
grd (okCat (y5.length + ([x33] : List UInt8).length)) <|
lt (y5 ++ ([x33] : List UInt8)) fun x37 =>
grd (okI (y8 + 1)) <|
rec9 (x37, y30, y8 + 1)
def ref07_gone_B1 (F : Nat) (a1 : List UInt8) (rec9 : ((List UInt8) × Bool × Int) → Option ((List UInt8) × Bool)) (y5 : List UInt8) (y7 : Bool) (y8 : Int) : Option ((List UInt8) × Bool) :=
bif decide (y8 < (a1.length : Int)) then
  grd (okAt y8 a1.length) <|
  lt (at_ a1 y8) fun x13 =>
  bif decide (x13 = 38) then
    bnd2 (ref07_body F a1 y8) fun x16 x17 =>
    bnd2 (ref07_sign F x16) fun x19 x20 =>
    bif x17 && x20 then
      grd (okCat (y5.length + x19.length)) <|
      lt (y5 ++ x19) fun x26 =>
      grd (okI (y8 + (x16.length : Int))) <|
      grd (okI ((y8 + (x16.length : Int)) + 2)) <|
      rec9 (x26, y7, (y8 + (x16.length : Int)) + 2)
    else
      ref07_gone_j2 a1 y5 y8 rec9 false
  else
    ref07_gone_j2 a1 y5 y8 rec9 y7
else
  ref07_gone_j1 y5 y7
def ref07_gone_L1 (F : Nat) (a1 : List UInt8) (n : Nat) : ((List UInt8) × Bool × Int) → Option ((List UInt8) × Bool) :=
  loop (fun rec x => ref07_gone_B1 F a1 rec x.1 x.2.1 x.2.2) n
def ref07_gone (F : Nat) (a1 : List UInt8) : Option ((List UInt8) × Bool) :=
ref07_gone_L1 F a1 F ([], true, 0)
/-- mailcoach/mailcoachref07.Loose -/
def ref07_Loose (F : Nat) (a1 : List UInt8) : Option ((List UInt8)) :=
bnd2 (ref07_gone F a1) fun x3 x4 =>
some x3
/-- mailcoach/mailcoachref05.Small -/
def ref05_Small_j1 (y19 : List UInt8) : Option ((List UInt8)) :=
some y19
def ref05_Small_j2 (y3 : List UInt8) (y4 : Int) (rec5 : ((List UInt8) × Int) → Option ((List UInt8))) (y13 : UInt8) : Option ((List UInt8)) :=
grd (okCat (y3.length + ([y13] : List UInt8).length)) <|
lt (y3 ++ ([y13] : List UInt8)) fun x16 =>
grd (okI (y4 + 1)) <|
rec5 (x16, y4 + 1)
def ref05_Small_B1 (a1 : List UInt8) (rec5 : ((List UInt8) × Int) → Option ((List UInt8))) (y3 : List UInt8) (y4 : Int) : Option ((List UInt8)) :=
bif decide (y4 < (a1.length : Int)) then
  grd (okAt y4 a1.length) <|
  lt (at_ a1 y4) fun x9 =>
  bif (decide (65 ≤ (x9.toNat : Int))) && (decide ((x9.toNat : Int) ≤ 90)) then
    ref05_Small_j2 y3 y4 rec5 (x9 + 32)
  else
    ref05_Small_j2 y3 y4 rec5 x9
else
  ref05_Small_j1 y3
def ref05_Small_L1 (a1 : List UInt8) (n : Nat) : ((List UInt8) × Int) → Option ((List UInt8)) :=
  loop (fun rec x => ref05_Small_B1 a1 rec x.1 x.2) n
def ref05_Small (F : Nat) (a1 : List UInt8) : Option ((List UInt8)) :=
ref05_Small_L1 a1 F (([] : List UInt8), 0)
/-- mailcoach/mailcoachref11.letter -/
def ref11_letter (F : Nat) (a1 : UInt8) : Option Bool :=
some (((decide (97 ≤ (a1.toNat : Int))) && (decide ((a1.toNat : Int) ≤ 122))) || ((decide (65 ≤ (a1.toNat : Int))) && (decide ((a1.toNat : Int) ≤ 90))))
/-- mailcoach/mailcoachref11.word -/
def ref11_word (F : Nat) (a1 : UInt8) : Option Bool :=
bnd (ref11_letter F a1) fun x3 =>
some (x3 || ((decide (48 ≤ (a1.toNat : Int))) && (decide ((a1.toNat : Int) ≤ 57))))
/-- mailcoach/mailcoachref11.Mark -/
def ref11_Mark (F : Nat) (a1 : List UInt8) (a2 : Int) : Option Bool :=
grd (okAt a2 a1.length) <|
lt (at_ a1 a2) fun x5 =>
grdc (!(!decide (x5 = 60))) (okI (a2 + 1)) <|
bif (!decide (x5 = 60)) || (decide ((a1.length : Int) ≤ a2 + 1)) then
  some false
else
  grd (okI (a2 + 1)) <|
  grd (okAt (a2 + 1) a1.length) <|
  lt (at_ a1 (a2 + 1)) fun x12 =>
  bnd (ref11_letter F x12) fun x14 =>
  grdc (!x14) (okI (a2 + 1)) <|
  grdc (!x14) (okAt (a2 + 1) a1.length) <|
  lt (at_ a1 (a2 + 1)) fun x19 =>
  grdc (!(x14 || (decide (x19 = 47)))) (okI (a2 + 1)) <|
  grdc (!(x14 || (decide (x19 = 47)))) (okAt (a2 + 1) a1.length) <|
  lt (at_ a1 (a2 + 1)) fun x24 =>
  some ((x14 || (decide (x19 = 47))) || (decide (x24 = 33)))
/-- mailcoach/mailcoachref11.name -/
def ref11_name_j1 (F : Nat) (a1 : List UInt8) (y10 : Int) (y23 : Int) : Option ((List UInt8)) :=
grd (okSub y10 y23 a1.length) <|
lt (sub a1 y10 y23) fun x26 =>
bnd (ref05_Small F x26) fun x28 =>
some x28
def ref11_name_B1 (F : Nat) (a1 : List UInt8) (y10 : Int) (rec13 : Int → Option ((List UInt8))) (y12 : Int) : Option ((List UInt8)) :=
bif decide (y12 < (a1.length : Int)) then
  grd (okAt y12 a1.length) <|
  lt (at_ a1 y12) fun x17 =>
  bnd (ref11_word F x17) fun x19 =>
  bif !x19 then
    ref11_name_j1 F a1 y10 y12
  else
    grd (okI (y12 + 1)) <|
    rec13 (y12 + 1)
else
  ref11_name_j1 F a1 y10 y12
def ref11_name_L1 (F : Nat) (a1 : List UInt8) (y10 : Int) (n : Nat) : Int → Option ((List UInt8)) :=
  loop (fun rec x => ref11_name_B1 F a1 y10 rec x) n
def ref11_name_j2 (F : Nat) (a1 : List UInt8) (y10 : Int) : Option ((List UInt8)) :=
ref11_name_L1 F a1 y10 F y10
def ref11_name (F : Nat) (a1 : List UInt8) (a2 : Int) : Option ((List UInt8)) :=
grd (okI (a2 + 1)) <|
grd (okAt (a2 + 1) a1.length) <|
lt (at_ a1 (a2 + 1)) fun x6 =>
bif decide (x6 = 47) then
  grd (okI ((a2 + 1) + 1)) <|
  ref11_name_j2 F a1 ((a2 + 1) + 1)
else
  ref11_name_j2 F a1 (a2 + 1)
/-- mailcoach/mailcoachref11.breaks -/
def ref11_breaks_j1 (y16 : Bool) : Option Bool :=
bif y16 then
  some true
else
  some false
def ref11_breaks (F : Nat) (a1 : List UInt8) : Option Bool :=
bif decide (a1 = ([112] : List UInt8)) then
  ref11_breaks_j1 (decide (a1 = ([112] : List UInt8)))
else
  bif decide (a1 = ([98, 114] : List UInt8)) then
    ref11_breaks_j1 (decide (a1 = ([98, 114] : List UInt8)))
  else
    bif decide (a1 = ([100, 105, 118] : List UInt8)) then
      ref11_breaks_j1 (decide (a1 = ([100, 105, 118] : List UInt8)))
    else
      bif decide (a1 = ([108, 105] : List UInt8)) then
        ref11_breaks_j1 (decide (a1 = ([108, 105] : List UInt8)))
      else
        bif decide (a1 = ([116, 114] : List UInt8)) then
          ref11_breaks_j1 (decide (a1 = ([116, 114] : List UInt8)))
        else
          bif decide (a1 = ([117, 108] : List UInt8)) then
            ref11_breaks_j1 (decide (a1 = ([117, 108] : List UInt8)))
          else
            bif decide (a1 = ([111, 108] : List UInt8)) then
              ref11_breaks_j1 (decide (a1 = ([111, 108] : List UInt8)))
            else
              bif decide (a1 = ([116, 97, 98, 108, 101] : List UInt8)) then
                ref11_breaks_j1 (decide (a1 = ([116, 97, 98, 108, 101] : List UInt8)))
              else
                bif decide (a1 = ([104, 49] : List UInt8)) then
                  ref11_breaks_j1 (decide (a1 = ([104, 49] : List UInt8)))
                else
                  bif decide (a1 = ([104, 50] : List UInt8)) then
                    ref11_breaks_j1 (decide (a1 = ([104, 50] : List UInt8)))
                  else
                    bif decide (a1 = ([104, 51] : List UInt8)) then
                      ref11_breaks_j1 (decide (a1 = ([104, 51] : List UInt8)))
                    else
                      bif decide (a1 = ([104, 52] : List UInt8)) then
                        ref11_breaks_j1 (decide (a1 = ([104, 52] : List UInt8)))
                      else
                        bif decide (a1 = ([104, 53] : List UInt8)) then
                          ref11_breaks_j1 (decide (a1 = ([104, 53] : List UInt8)))
                        else
                          ref11_breaks_j1 (decide (a1 = ([104, 54] : List UInt8)))
/-- mailcoach/mailcoachref11.hidden -/
def ref11_hidden_j1 (a1 : List UInt8) : Option Int :=
some (a1.length : Int)
def ref11_hidden_B1 (F : Nat) (a1 : List UInt8) (x6 : List UInt8) (rec9 : Int → Option Int) (y8 : Int) : Option Int :=
grd (okI (y8 + (x6.length : Int))) <|
bif decide (y8 + (x6.length : Int) ≤ (a1.length : Int)) then
  grd (okI (y8 + (x6.length : Int))) <|
  grd (okSub y8 (y8 + (x6.length : Int)) a1.length) <|
  lt (sub a1 y8 (y8 + (x6.length : Int))) fun x15 =>
  bnd (ref05_Small F x15) fun x17 =>
  bif decide (x17 = x6) then
    some y8
  else
    grd (okI (y8 + 1)) <|
    rec9 (y8 + 1)
else
  ref11_hidden_j1 a1
def ref11_hidden_L1 (F : Nat) (a1 : List UInt8) (x6 : List UInt8) (n : Nat) : Int → Option Int :=
  loop (fun rec x => ref11_hidden_B1 F a1 x6 rec x) n
def ref11_hidden (F : Nat) (a1 : List UInt8) (a2 : Int) (a3 : List UInt8) : Option Int :=
grd (okCat (([60, 47] : List UInt8).length + a3.length)) <|
lt (([60, 47] : List UInt8) ++ a3) fun x6 =>
ref11_hidden_L1 F a1 x6 F a2
/-- mailcoach/mailcoachref11.pieces -/
def ref11_pieces_j1 (y72 : Nat) (y74 : List (List UInt8)) : Option ((List (List UInt8))) :=
grd (decide (y74.length = y72)) <|
some y74
def ref11_pieces_j2 (F : Nat) (y5 : Nat) (y8 : List (List UInt8)) (x33 : List UInt8) (rec9 : (Nat × Int × (List (List UInt8))) → Option ((List (List UInt8)))) (y59 : Int) : Option ((List (List UInt8))) :=
bnd (ref11_breaks F x33) fun x61 =>
bif x61 then
  grd (decide (y8.length = y5)) <|
  grd (okCat (y8.length + ([([] : List UInt8)] : List (List UInt8)).length)) <|
  lt (y8 ++ ([([] : List UInt8)] : List (List UInt8))) fun x69 =>
  rec9 (x69.length, y59, x69)
else
  rec9 (y5, y59, y8)
def ref11_pieces_j3 (F : Nat) (a1 : List UInt8) (y5 : Nat) (y8 : List (List UInt8)) (x33 : List UInt8) (x37 : UInt8) (rec9 : (Nat × Int × (List (List UInt8))) → Option ((List (List UInt8)))) (y54 : Int) : Option ((List (List UInt8))) :=
bif (!decide (x37 = 47)) && ((decide (x33 = ([115, 99, 114, 105, 112, 116] : List UInt8))) || (decide (x33 = ([115, 116, 121, 108, 101] : List UInt8)))) then
  bnd (ref11_hidden F a1 y54 x33) fun x57 =>
  ref11_pieces_j2 F y5 y8 x33 rec9 x57
else
  ref11_pieces_j2 F y5 y8 x33 rec9 y54
def ref11_pieces_j4 (F : Nat) (a1 : List UInt8) (y5 : Nat) (y8 : List (List UInt8)) (x33 : List UInt8) (x37 : UInt8) (rec9 : (Nat × Int × (List (List UInt8))) → Option ((List (List UInt8)))) (y50 : Int) : Option ((List (List UInt8))) :=
bif decide (y50 < (a1.length : Int)) then
  grd (okI (y50 + 1)) <|
  ref11_pieces_j3 F a1 y5 y8 x33 x37 rec9 (y50 + 1)
else
  ref11_pieces_j3 F a1 y5 y8 x33 x37 rec9 y50
def ref11_pieces_B1 (F : Nat) (a1 : List UInt8) (y5 : Nat) (y8 : List (List UInt8)) (x33 : List UInt8) (x37 : UInt8) (rec9 : (Nat × Int × (List (List UInt8))) → Option ((List (List UInt8)))) (rec42 : Int → Option ((List (List UInt8)))) (y41 : Int) : Option ((List (List UInt8))) :=
grdc (decide (y41 < (a1.length : Int))) (okAt y41 a1.length) <|
lt (at_ a1 y41) fun x46 =>
bif (decide (y41 < (a1.length : Int))) && (!decide (x46 = 62)) then
  grd (okI (y41 + 1)) <|
  rec42 (y41 + 1)
else
  ref11_pieces_j4 F a1 y5 y8 x33 x37 rec9 y41
def ref11_pieces_L1 (F : Nat) (a1 : List UInt8) (y5 : Nat) (y8 : List (List UInt8)) (x33 : List UInt8) (x37 : UInt8) (rec9 : (Nat × Int × (List (List UInt8))) → Option ((List (List UInt8)))) (n : Nat) : Int → Option ((List (List UInt8))) :=
  loop (fun rec x => ref11_pieces_B1 F a1 y5 y8 x33 x37 rec9 rec x) n
def ref11_pieces_B2 (F : Nat) (a1 : List UInt8) (rec9 : (Nat × Int × (List (List UInt8))) → Option ((List (List UInt8)))) (y5 : Nat) (y7 : Int) (y8 : List (List UInt8)) : Option ((List (List UInt8))) :=
bif decide (y7 < (a1.length : Int)) then
  bnd (ref11_Mark F a1 y7) fun x12 =>
  bif !x12 then
    grd (okI ((y5 : Int) - 1)) <|
    grd (okI ((y5 : Int) - 1)) <|
    grd (okAt ((y5 : Int) - 1) y5) <|
    grd (okI (y7 + 1)) <|
    grd (okSub y7 (y7 + 1) a1.length) <|
    lt (sub a1 y7 (y7 + 1)) fun x20 =>
    grd (okAt ((y5 : Int) - 1) y8.length) <|
    lt (at_ y8 ((y5 : Int) - 1)) fun x23 =>
    grd (okCat (x23.length + x20.length)) <|
    lt (x23 ++ x20) fun x26 =>
    grd (okAt ((y5 : Int) - 1) y5) <|
    grd (okAt ((y5 : Int) - 1) y8.length) <|
    lt (y8.set (Int.toNat ((y5 : Int) - 1)) x26) fun x30 =>
    grd (okI (y7 + 1)) <|
    rec9 (y5, y7 + 1, x30)
  else
    bnd (ref11_name F a1 y7) fun x33 =>
    grd (okI (y7 + 1)) <|
    grd (okAt (y7 + 1) a1.length) <|
    lt (at_ a1 (y7 + 1)) fun x37 =>
    ref11_pieces_L1 F a1 y5 y8 x33 x37 rec9 F y7
else
  ref11_pieces_j1 y5 y8
def ref11_pieces_L2 (F : Nat) (a1 : List UInt8) (n : Nat) : (Nat × Int × (List (List UInt8))) → Option ((List (List UInt8))) :=
  loop (fun rec x => ref11_pieces_B2 F a1 rec x.1 x.2.1 x.2.2) n
def ref11_pieces (F : Nat) (a1 : List UInt8) : Option ((List (List UInt8))) :=
ref11_pieces_L2 F a1 F (([([] : List UInt8)] : List (List UInt8)).length, 0, ([([] : List UInt8)] : List (List UInt8)))
/-- mailcoach/mailcoachref11.Of -/
def ref11_Of_j1 (y30 : List UInt8) : Option ((List UInt8)) :=
some y30
def ref11_Of_j2 (y6 : Int) (rec7 : ((List UInt8) × Int) → Option ((List UInt8))) (y27 : List UInt8) : Option ((List UInt8)) :=
grd (okI (y6 + 1)) <|
rec7 (y27, y6 + 1)
def ref11_Of_j3 (y6 : Int) (x15 : List UInt8) (rec7 : ((List UInt8) × Int) → Option ((List UInt8))) (y22 : List UInt8) : Option ((List UInt8)) :=
grd (okCat (y22.length + x15.length)) <|
lt (y22 ++ x15) fun x25 =>
ref11_Of_j2 y6 rec7 x25
def ref11_Of_B1 (F : Nat) (x3 : List (List UInt8)) (rec7 : ((List UInt8) × Int) → Option ((List UInt8))) (y5 : List UInt8) (y6 : Int) : Option ((List UInt8)) :=
bif decide (y6 < (x3.length : Int)) then
  grd (okAt y6 x3.length) <|
  lt (at_ x3 y6) fun x11 =>
  bnd (ref07_Loose F x11) fun x13 =>
  bnd (ref07_Trim F x13) fun x15 =>
  bif decide (x15 = ([] : List UInt8)) then
    ref11_Of_j2 y6 rec7 y5
  else
    bif !decide (y5 = ([] : List UInt8)) then
      grd (okCat (y5.length + ([10] : List UInt8).length)) <|
      lt (y5 ++ ([10] : List UInt8)) fun x20 =>
      ref11_Of_j3 y6 x15 rec7 x20
    else
      ref11_Of_j3 y6 x15 rec7 y5
else
  ref11_Of_j1 y5
def ref11_Of_L1 (F : Nat) (x3 : List (List UInt8)) (n : Nat) : ((List UInt8) × Int) → Option ((List UInt8)) :=
  loop (fun rec x => ref11_Of_B1 F x3 rec x.1 x.2) n
def ref11_Of (F : Nat) (a1 : List UInt8) : Option ((List UInt8)) :=
bnd (ref11_pieces F a1) fun x3 =>
ref11_Of_L1 F x3 F (([] : List UInt8), 0)
/-- mailcoach/mailcoachref11.Wrap -/
def ref11_Wrap_j1 (y70 : List (List UInt8)) : Option ((List (List UInt8))) :=
some y70
def ref11_Wrap_j2 (y10 : Int) (rec11 : ((List (List UInt8)) × Int) → Option ((List (List UInt8)))) (y66 : List (List UInt8)) : Option ((List (List UInt8))) :=
grd (okI (y10 + 1)) <|
rec11 (y66, y10 + 1)
def ref11_Wrap_j3 (y10 : Int) (rec11 : ((List (List UInt8)) × Int) → Option ((List (List UInt8)))) (y58 : List (List UInt8)) (y60 : List UInt8) : Option ((List (List UInt8))) :=
grd (okCat (y58.length + ([y60] : List (List UInt8)).length)) <|
lt (y58 ++ ([y60] : List (List UInt8))) fun x64 =>
ref11_Wrap_j2 y10 rec11 x64
def ref11_Wrap_j4 (y22 : Int) (rec23 : ((List (List UInt8)) × (List UInt8) × Int) → Option ((List (List UInt8)))) (y53 : List (List UInt8)) (y55 : List UInt8) : Option ((List (List UInt8))) :=
grd (okI (y22 + 1)) <|
rec23 (y53, y55, y22 + 1)
def ref11_Wrap_j5 (x17 : List (List UInt8)) (y22 : Int) (rec23 : ((List (List UInt8)) × (List UInt8) × Int) → Option ((List (List UInt8)))) (y47 : List (List UInt8)) : Option ((List (List UInt8))) :=
grd (okAt y22 x17.length) <|
lt (at_ x17 y22) fun x51 =>
ref11_Wrap_j4 y22 rec23 y47 x51
def ref11_Wrap_B1 (a2 : Int) (y10 : Int) (x17 : List (List UInt8)) (rec11 : ((List (List UInt8)) × Int) → Option ((List (List UInt8)))) (rec23 : ((List (List UInt8)) × (List UInt8) × Int) → Option ((List (List UInt8)))) (y19 : List (List UInt8)) (y21 : List UInt8) (y22 : Int) : Option ((List (List UInt8))) :=
bif decide (y22 < (x17.length : Int)) then
  grdc (decide (0 < y22)) (okI ((y21.length : Int) + 1)) <|
  grdc (decide (0 < y22)) (okAt y22 x17.length) <|
  lt (at_ x17 y22) fun x29 =>
  grdc (decide (0 < y22)) (okI (((y21.length : Int) + 1) + (x29.length : Int))) <|
  bif (decide (0 < y22)) && (decide (((y21.length : Int) + 1) + (x29.length : Int) ≤ a2)) then
    grd (okCat (y21.length + ([32] : List UInt8).length)) <|
    lt (y21 ++ ([32] : List UInt8)) fun x34 =>
    grd (okAt y22 x17.length) <|
    lt (at_ x17 y22) fun x37 =>
    grd (okCat (x34.length + x37.length)) <|
    lt (x34 ++ x37) fun x40 =>
    ref11_Wrap_j4 y22 rec23 y19 x40
  else
    bif decide (0 < y22) then
      grd (okCat (y19.length + ([y21] : List (List UInt8)).length)) <|
      lt (y19 ++ ([y21] : List (List UInt8))) fun x45 =>
      ref11_Wrap_j5 x17 y22 rec23 x45
    else
      ref11_Wrap_j5 x17 y22 rec23 y19
else
  ref11_Wrap_j3 y10 rec11 y19 y21
def ref11_Wrap_L1 (a2 : Int) (y10 : Int) (x17 : List (List UInt8)) (rec11 : ((List (List UInt8)) × Int) → Option ((List (List UInt8)))) (n : Nat) : ((List (List UInt8)) × (List UInt8) × Int) → Option ((List (List UInt8))) :=
  loop (fun rec x => ref11_Wrap_B1 a2 y10 x17 rec11 rec x.1 x.2.1 x.2.2) n
def ref11_Wrap_B2 (F : Nat) (a2 : Int) (x5 : List (List UInt8)) (rec11 : ((List (List UInt8)) × Int) → Option ((List (List UInt8)))) (y8 : List (List UInt8)) (y10 : Int) : Option ((List (List UInt8))) :=
bif decide (y10 < (x5.length : Int)) then
  grd (okAt y10 x5.length) <|
  lt (at_ x5 y10) fun x15 =>
  bnd (ref11_Words F x15) fun x17 =>
  ref11_Wrap_L1 a2 y10 x17 rec11 F (y8, ([] : List UInt8), 0)
else
  ref11_Wrap_j1 y8
def ref11_Wrap_L2 (F : Nat) (a2 : Int) (x5 : List (List UInt8)) (n : Nat) : ((List (List UInt8)) × Int) → Option ((List (List UInt8))) :=
  loop (fun rec x => ref11_Wrap_B2 F a2 x5 rec x.1 x.2) n
def ref11_Wrap (F : Nat) (a1 : List UInt8) (a2 : Int) : Option ((List (List UInt8))) :=
bif decide (a2 < 1) then
  some []
else
  bnd (ref05_Split F a1 10) fun x5 =>
  ref11_Wrap_L2 F a2 x5 F ([], 0)
/-- mailcoach/mailcoachref11.Same -/
def ref11_Same_j1 : Option Bool :=
some true
def ref11_Same_B1 (a1 : List (List UInt8)) (a3 : List (List UInt8)) (rec8 : Int → Option Bool) (y7 : Int) : Option Bool :=
bif decide (y7 < (a1.length : Int)) then
  grd (okAt y7 a1.length) <|
  lt (at_ a1 y7) fun x12 =>
  grd (okAt y7 a3.length) <|
  lt (at_ a3 y7) fun x15 =>
  bif !decide (x12 = x15) then
    some false
  else
    grd (okI (y7 + 1)) <|
    rec8 (y7 + 1)
else
  ref11_Same_j1
def ref11_Same_L1 (a1 : List (List UInt8)) (a3 : List (List UInt8)) (n : Nat) : Int → Option Bool :=
  loop (fun rec x => ref11_Same_B1 a1 a3 rec x) n
def ref11_Same (F : Nat) (a1 : List (List UInt8)) (a3 : List (List UInt8)) : Option Bool :=
bif !decide ((a1.length : Int) = (a3.length : Int)) then
  some false
else
  ref11_Same_L1 a1 a3 F 0
end Go.Pv
