/-
  The document's answer about a text, written again as plain functions: printed by a program of ours from Lean's own print of the loaded program.
-/
import Derived.Test.YtpbfajkbkomfcaaDoorPvLib
import Derived.Test.YtpbfajkbkomfcaaDoorCronQP
set_option linter.unusedVariables false
namespace Go.Pv
def cronr_k1 : List UInt8 := [106, 97, 110, 102, 101, 98, 109, 97, 114, 97, 112, 114, 109, 97, 121, 106, 117, 110, 106, 117, 108, 97, 117, 103, 115, 101, 112, 111, 99, 116, 110, 111, 118, 100, 101, 99]
def cronr_k2 : List UInt8 := [115, 117, 110, 109, 111, 110, 116, 117, 101, 119, 101, 100, 116, 104, 117, 102, 114, 105, 115, 97, 116]
/-- mailcoach/mailcoachref05.Split -/
def ref05_Split_j1 (y30 : List (List UInt8)) : Option ((List (List UInt8))) :=
some y30
def ref05_Split_j2 (y8 : Int) (rec9 : ((List (List UInt8)) × Int × Int) → Option ((List (List UInt8)))) (y25 : List (List UInt8)) (y27 : Int) : Option ((List (List UInt8))) :=
grd (okI (y8 + 1)) <|
rec9 (y25, y27, y8 + 1)
def ref05_Split_B1 (a1 : List UInt8) (a2 : UInt8) (rec9 : ((List (List UInt8)) × Int × Int) → Option ((List (List UInt8)))) (y5 : List (List UInt8)) (y7 : Int) (y8 : Int) : Option ((List (List UInt8))) :=
bif decide (y8 ≤ (a1.length : Int)) then
  grdc (!(decide (y8 = (a1.length : Int)))) (okAt y8 a1.length) <|
  lt (at_ a1 y8) fun x14 =>
  bif (decide (y8 = (a1.length : Int))) || (decide (x14 = a2)) then
    grd (okSub y7 y8 a1.length) <|
    lt (sub a1 y7 y8) fun x18 =>
    grd (okCat (y5.length + ([x18] : List (List UInt8)).length)) <|
    lt (y5 ++ ([x18] : List (List UInt8))) fun x22 =>
    grd (okI (y8 + 1)) <|
    ref05_Split_j2 y8 rec9 x22 (y8 + 1)
  else
    ref05_Split_j2 y8 rec9 y5 y7
else
  ref05_Split_j1 y5
def ref05_Split_L1 (a1 : List UInt8) (a2 : UInt8) (n : Nat) : ((List (List UInt8)) × Int × Int) → Option ((List (List UInt8))) :=
  loop (fun rec x => ref05_Split_B1 a1 a2 rec x.1 x.2.1 x.2.2) n
def ref05_Split (F : Nat) (a1 : List UInt8) (a2 : UInt8) : Option ((List (List UInt8))) :=
ref05_Split_L1 a1 a2 F ([], 0, 0)
/-- mailcoach/mailcoachref05.Small -/
def ref05_Small_j1 (y19 : List UInt8) : Option ((List UInt8)) :=
some y19
def ref05_Small_j2 (y3 : List UInt8) (y4 : Int) (rec5 : ((List UInt8) × Int) → Option ((List UInt8))) (y13 : UInt8) : Option ((List UInt8)) :=
grd (okCat (y3.length + ([y13] : List UInt8).length)) <|
lt (y3 ++ ([y13] : List UInt8)) fun x16 =>
grd (okI (y4 + 1)) <|
rec5 (x16, y4 + 1)
def ref05_Small_B1 (a1 : List UInt8) (rec5 : ((List UInt8) × Int) → Option ((List UInt8))) (y3 : List UInt8) (y4 : Int) : Option ((List UInt8)) :=
bif decide (y4 < (a1.length : Int)) then
  grd (okAt y4 a1.length) <|
  lt (at_ a1 y4) fun x9 =>
  bif (decide (65 ≤ (x9.toNat : Int))) && (decide ((x9.toNat : Int) ≤ 90)) then
    ref05_Small_j2 y3 y4 rec5 (x9 + 32)
  else
    ref05_Small_j2 y3 y4 rec5 x9
else
  ref05_Small_j1 y3
def ref05_Small_L1 (a1 : List UInt8) (n : Nat) : ((List UInt8) × Int) → Option ((List UInt8)) :=
  loop (fun rec x => ref05_Small_B1 a1 rec x.1 x.2) n
def ref05_Small (F : Nat) (a1 : List UInt8) : Option ((List UInt8)) :=
ref05_Small_L1 a1 F (([] : List UInt8), 0)
/-- mailcoach/mailcoachref05.digits -/
def ref05_digits_j1 (y24 : Int) : Option Int :=
some y24
def ref05_digits_B1 (a1 : List UInt8) (rec7 : (Int × Int) → Option Int) (y5 : Int) (y6 : Int) : Option Int :=
bif decide (y6 < (a1.length : Int)) then
  grd (okAt y6 a1.length) <|
  lt (at_ a1 y6) fun x11 =>
  grdc (!(decide ((x11.toNat : Int) < 48))) (okAt y6 a1.length) <|
  lt (at_ a1 y6) fun x15 =>
  bif (decide ((x11.toNat : Int) < 48)) || (decide (57 < (x15.toNat : Int))) then
    some (-1)
  else
    grd (okI (10 * y5)) <|
    grd (okAt y6 a1.length) <|
    lt (at_ a1 y6) fun x20 =>
    grd (okI ((10 * y5) + ((x20 - 48).toNat : Int))) <|
    grd (okI (y6 + 1)) <|
    rec7 ((10 * y5) + ((x20 - 48).toNat : Int), y6 + 1)
else
  ref05_digits_j1 y5
def ref05_digits_L1 (a1 : List UInt8) (n : Nat) : (Int × Int) → Option Int :=
  loop (fun rec x => ref05_digits_B1 a1 rec x.1 x.2) n
def ref05_digits (F : Nat) (a1 : List UInt8) : Option Int :=
bif (decide ((a1.length : Int) < 1)) || (decide (2 < (a1.length : Int))) then
  some (-1)
else
  ref05_digits_L1 a1 F (0, 0)
/-- mailcoach/mailcoachref05.named -/
def ref05_named_j1 : Option Int :=
some (-1)
def ref05_named_B1 (a2 : List UInt8) (a3 : Int) (x6 : List UInt8) (rec9 : Int → Option Int) (y8 : Int) : Option Int :=
grd (okI (3 * y8)) <|
bif decide (3 * y8 < (a2.length : Int)) then
  grd (okI (3 * y8)) <|
  grd (okI (3 * y8)) <|
  grd (okI ((3 * y8) + 3)) <|
  grd (okSub (3 * y8) ((3 * y8) + 3) a2.length) <|
  lt (sub a2 (3 * y8) ((3 * y8) + 3)) fun x17 =>
  bif decide (x17 = x6) then
    grd (okI (a3 + y8)) <|
    some (a3 + y8)
  else
    grd (okI (y8 + 1)) <|
    rec9 (y8 + 1)
else
  ref05_named_j1
def ref05_named_L1 (a2 : List UInt8) (a3 : Int) (x6 : List UInt8) (n : Nat) : Int → Option Int :=
  loop (fun rec x => ref05_named_B1 a2 a3 x6 rec x) n
def ref05_named (F : Nat) (a1 : List UInt8) (a2 : List UInt8) (a3 : Int) : Option Int :=
bif !decide ((a1.length : Int) = 3) then
  some (-1)
else
  bnd (ref05_Small F a1) fun x6 =>
  ref05_named_L1 a2 a3 x6 F 0
/-- mailcoach/mailcoachref05.number -/
def ref05_number_j1 (F : Nat) (a1 : Int) (y16 : Int) (y21 : Int) : Option Int :=
bnd (ref05_Low F a1) fun x23 =>
bif (decide (y16 < x23)) || (decide (y21 < y16)) then
  some (-1)
else
  some y16
def ref05_number_j2 (F : Nat) (a1 : Int) (y16 : Int) : Option Int :=
bnd (ref05_High F a1) fun x18 =>
bif decide (a1 = 4) then
  ref05_number_j1 F a1 y16 7
else
  ref05_number_j1 F a1 y16 x18
def ref05_number_j3 (F : Nat) (a1 : Int) (a2 : List UInt8) (y10 : Int) : Option Int :=
bif (decide (a1 = 4)) && (decide (y10 < 0)) then
  bnd (ref05_named F a2 cronr_k2 0) fun x14 =>
  ref05_number_j2 F a1 x14
else
  ref05_number_j2 F a1 y10
def ref05_number (F : Nat) (a1 : Int) (a2 : List UInt8) : Option Int :=
bnd (ref05_digits F a2) fun x4 =>
bif (decide (a1 = 3)) && (decide (x4 < 0)) then
  bnd (ref05_named F a2 cronr_k1 1) fun x8 =>
  ref05_number_j3 F a1 a2 x8
else
  ref05_number_j3 F a1 a2 x4
/-- mailcoach/mailcoachref05.piece -/
def ref05_piece_j1 (y61 : List Int) : Option ((List Int)) :=
some y61
def ref05_piece_B1 (y13 : Int) (y43 : Int) (rec53 : ((List Int) × Int) → Option ((List Int))) (y50 : List Int) (y52 : Int) : Option ((List Int)) :=
bif decide (y52 ≤ y43) then
  grd (okCat (y50.length + ([y52] : List Int).length)) <|
  lt (y50 ++ ([y52] : List Int)) fun x58 =>
  grd (okI (y52 + y13)) <|
  rec53 (x58, y52 + y13)
else
  ref05_piece_j1 y50
def ref05_piece_L1 (y13 : Int) (y43 : Int) (n : Nat) : ((List Int) × Int) → Option ((List Int)) :=
  loop (fun rec x => ref05_piece_B1 y13 y43 rec x.1 x.2) n
def ref05_piece_j2 (F : Nat) (y13 : Int) (y42 : Int) (y43 : Int) : Option ((List Int)) :=
bif (((decide (y13 < 1)) || (decide (y42 < 0))) || (decide (y43 < 0))) || (decide (y43 < y42)) then
  some []
else
  ref05_piece_L1 y13 y43 F ([], y42)
def ref05_piece_j3 (F : Nat) (a1 : Int) (x4 : List (List UInt8)) (y13 : Int) : Option ((List Int)) :=
bnd (ref05_Low F a1) fun x15 =>
bnd (ref05_High F a1) fun x17 =>
grd (okAt 0 x4.length) <|
lt (at_ x4 0) fun x20 =>
bif !decide (x20 = ([42] : List UInt8)) then
  grd (okAt 0 x4.length) <|
  lt (at_ x4 0) fun x24 =>
  bnd (ref05_Split F x24 45) fun x26 =>
  bif (decide (2 < (x26.length : Int))) || ((decide ((x26.length : Int) = 1)) && (decide ((x4.length : Int) = 2))) then
    some []
  else
    grd (okAt 0 x26.length) <|
    lt (at_ x26 0) fun x32 =>
    bnd (ref05_number F a1 x32) fun x34 =>
    grd (okI ((x26.length : Int) - 1)) <|
    grd (okAt ((x26.length : Int) - 1) x26.length) <|
    lt (at_ x26 ((x26.length : Int) - 1)) fun x38 =>
    bnd (ref05_number F a1 x38) fun x40 =>
    ref05_piece_j2 F y13 x34 x40
else
  ref05_piece_j2 F y13 x15 x17
def ref05_piece (F : Nat) (a1 : Int) (a2 : List UInt8) : Option ((List Int)) :=
bnd (ref05_Split F a2 47) fun x4 =>
bif decide (2 < (x4.length : Int)) then
  some []
else
  bif decide ((x4.length : Int) = 2) then
    grd (okAt 1 x4.length) <|
    lt (at_ x4 1) fun x9 =>
    bnd (ref05_digits F x9) fun x11 =>
    ref05_piece_j3 F a1 x4 x11
  else
    ref05_piece_j3 F a1 x4 1
/-- mailcoach/mailcoachref05.Parse -/
def ref05_Parse_j1 (y382 : List Int) (y384 : List Int) (y386 : List Int) (y388 : List Int) (y390 : List Int) (y392 : Bool) (y393 : Bool) (y394 : Bool) (y395 : Bool) (y396 : Bool) : Option ((List Int) × (List Int) × (List Int) × (List Int) × (List Int) × Bool × Bool × Bool × Bool × Bool × Int) :=
some (y382, y384, y386, y388, y390, y392, y393, y394, y395, y396, 0)
def ref05_Parse_j2 (y92 : List Int) (y94 : Bool) (y163 : List Int) (y165 : Bool) (y234 : List Int) (y236 : Bool) (y305 : List Int) (y307 : Bool) (y378 : List Int) (y380 : Bool) : Option ((List Int) × (List Int) × (List Int) × (List Int) × (List Int) × Bool × Bool × Bool × Bool × Bool × Int) :=
ref05_Parse_j1 y92 y163 y234 y305 y378 y94 y165 y236 y307 y380
def ref05_Parse_j3 (x16 : List (List UInt8)) (y92 : List Int) (y94 : Bool) (y163 : List Int) (y165 : Bool) (y234 : List Int) (y236 : Bool) (y305 : List Int) (y307 : Bool) (y372 : List Int) : Option ((List Int) × (List Int) × (List Int) × (List Int) × (List Int) × Bool × Bool × Bool × Bool × Bool × Int) :=
grd (okAt 4 x16.length) <|
lt (at_ x16 4) fun x376 =>
ref05_Parse_j2 y92 y94 y163 y165 y234 y236 y305 y307 y372 (decide (x376 = ([42] : List UInt8)))
def ref05_Parse_j4 (y353 : Int) (rec356 : (Int × (List Int)) → Option ((List Int) × (List Int) × (List Int) × (List Int) × (List Int) × Bool × Bool × Bool × Bool × Bool × Int)) (y368 : List Int) : Option ((List Int) × (List Int) × (List Int) × (List Int) × (List Int) × Bool × Bool × Bool × Bool × Bool × Int) :=
grd (okI (y353 + 1)) <|
rec356 (y353 + 1, y368)
def ref05_Parse_B1 (F : Nat) (x16 : List (List UInt8)) (y92 : List Int) (y94 : Bool) (y163 : List Int) (y165 : Bool) (y234 : List Int) (y236 : Bool) (y305 : List Int) (y307 : Bool) (y348 : List Int) (rec356 : (Int × (List Int)) → Option ((List Int) × (List Int) × (List Int) × (List Int) × (List Int) × Bool × Bool × Bool × Bool × Bool × Int)) (y353 : Int) (y354 : List Int) : Option ((List Int) × (List Int) × (List Int) × (List Int) × (List Int) × Bool × Bool × Bool × Bool × Bool × Int) :=
bnd (ref05_High F 4) fun x358 =>
bif decide (y353 ≤ x358) then
  bnd (ref05_Has F y348 y353) fun x361 =>
  bif x361 then
    grd (okCat (y354.length + ([y353] : List Int).length)) <|
    lt (y354 ++ ([y353] : List Int)) fun x366 =>
    ref05_Parse_j4 y353 rec356 x366
  else
    ref05_Parse_j4 y353 rec356 y354
else
  ref05_Parse_j3 x16 y92 y94 y163 y165 y234 y236 y305 y307 y354
def ref05_Parse_L1 (F : Nat) (x16 : List (List UInt8)) (y92 : List Int) (y94 : Bool) (y163 : List Int) (y165 : Bool) (y234 : List Int) (y236 : Bool) (y305 : List Int) (y307 : Bool) (y348 : List Int) (n : Nat) : (Int × (List Int)) → Option ((List Int) × (List Int) × (List Int) × (List Int) × (List Int) × Bool × Bool × Bool × Bool × Bool × Int) :=
  loop (fun rec x => ref05_Parse_B1 F x16 y92 y94 y163 y165 y234 y236 y305 y307 y348 rec x.1 x.2) n
def ref05_Parse_j5 (F : Nat) (x16 : List (List UInt8)) (y92 : List Int) (y94 : Bool) (y163 : List Int) (y165 : Bool) (y234 : List Int) (y236 : Bool) (y305 : List Int) (y307 : Bool) (y348 : List Int) : Option ((List Int) × (List Int) × (List Int) × (List Int) × (List Int) × Bool × Bool × Bool × Bool × Bool × Int) :=
bnd (ref05_Low F 4) fun x351 =>
ref05_Parse_L1 F x16 y92 y94 y163 y165 y234 y236 y305 y307 y348 F (x351, [])
def ref05_Parse_j6 (y317 : Int) (rec318 : ((List Int) × Int) → Option ((List Int) × (List Int) × (List Int) × (List Int) × (List Int) × Bool × Bool × Bool × Bool × Bool × Int)) (y344 : List Int) : Option ((List Int) × (List Int) × (List Int) × (List Int) × (List Int) × Bool × Bool × Bool × Bool × Bool × Int) :=
grd (okI (y317 + 1)) <|
rec318 (y344, y317 + 1)
def ref05_Parse_j7 (y327 : List Int) (y329 : Int) (rec330 : ((List Int) × Int) → Option ((List Int) × (List Int) × (List Int) × (List Int) × (List Int) × Bool × Bool × Bool × Bool × Bool × Int)) (y337 : Int) : Option ((List Int) × (List Int) × (List Int) × (List Int) × (List Int) × Bool × Bool × Bool × Bool × Bool × Int) :=
grd (okCat (y327.length + ([y337] : List Int).length)) <|
lt (y327 ++ ([y337] : List Int)) fun x341 =>
grd (okI (y329 + 1)) <|
rec330 (x341, y329 + 1)
def ref05_Parse_B2 (y317 : Int) (x324 : List Int) (rec318 : ((List Int) × Int) → Option ((List Int) × (List Int) × (List Int) × (List Int) × (List Int) × Bool × Bool × Bool × Bool × Bool × Int)) (rec330 : ((List Int) × Int) → Option ((List Int) × (List Int) × (List Int) × (List Int) × (List Int) × Bool × Bool × Bool × Bool × Bool × Int)) (y327 : List Int) (y329 : Int) : Option ((List Int) × (List Int) × (List Int) × (List Int) × (List Int) × Bool × Bool × Bool × Bool × Bool × Int) :=
bif decide (y329 < (x324.length : Int)) then
  grd (okAt y329 x324.length) <|
  lt (at_ x324 y329) fun x334 =>
  bif decide (x334 = 7) then
    ref05_Parse_j7 y327 y329 rec330 0
  else
    ref05_Parse_j7 y327 y329 rec330 x334
else
  ref05_Parse_j6 y317 rec318 y327
def ref05_Parse_L2 (y317 : Int) (x324 : List Int) (rec318 : ((List Int) × Int) → Option ((List Int) × (List Int) × (List Int) × (List Int) × (List Int) × Bool × Bool × Bool × Bool × Bool × Int)) (n : Nat) : ((List Int) × Int) → Option ((List Int) × (List Int) × (List Int) × (List Int) × (List Int) × Bool × Bool × Bool × Bool × Bool × Int) :=
  loop (fun rec x => ref05_Parse_B2 y317 x324 rec318 rec x.1 x.2) n
def ref05_Parse_B3 (F : Nat) (x16 : List (List UInt8)) (y92 : List Int) (y94 : Bool) (y163 : List Int) (y165 : Bool) (y234 : List Int) (y236 : Bool) (y305 : List Int) (y307 : Bool) (x313 : List (List UInt8)) (rec318 : ((List Int) × Int) → Option ((List Int) × (List Int) × (List Int) × (List Int) × (List Int) × Bool × Bool × Bool × Bool × Bool × Int)) (y315 : List Int) (y317 : Int) : Option ((List Int) × (List Int) × (List Int) × (List Int) × (List Int) × Bool × Bool × Bool × Bool × Bool × Int) :=
bif decide (y317 < (x313.length : Int)) then
  grd (okAt y317 x313.length) <|
  lt (at_ x313 y317) fun x322 =>
  bnd (ref05_piece F 4 x322) fun x324 =>
  bif decide ((x324.length : Int) = 0) then
    some ([], [], [], [], [], false, false, false, false, false, 2)
  else
    ref05_Parse_L2 y317 x324 rec318 F (y315, 0)
else
  ref05_Parse_j5 F x16 y92 y94 y163 y165 y234 y236 y305 y307 y315
def ref05_Parse_L3 (F : Nat) (x16 : List (List UInt8)) (y92 : List Int) (y94 : Bool) (y163 : List Int) (y165 : Bool) (y234 : List Int) (y236 : Bool) (y305 : List Int) (y307 : Bool) (x313 : List (List UInt8)) (n : Nat) : ((List Int) × Int) → Option ((List Int) × (List Int) × (List Int) × (List Int) × (List Int) × Bool × Bool × Bool × Bool × Bool × Int) :=
  loop (fun rec x => ref05_Parse_B3 F x16 y92 y94 y163 y165 y234 y236 y305 y307 x313 rec x.1 x.2) n
def ref05_Parse_j8 (F : Nat) (x16 : List (List UInt8)) (y92 : List Int) (y94 : Bool) (y163 : List Int) (y165 : Bool) (y234 : List Int) (y236 : Bool) (y305 : List Int) (y307 : Bool) : Option ((List Int) × (List Int) × (List Int) × (List Int) × (List Int) × Bool × Bool × Bool × Bool × Bool × Int) :=
grd (okAt 4 x16.length) <|
lt (at_ x16 4) fun x311 =>
bnd (ref05_Split F x311 44) fun x313 =>
ref05_Parse_L3 F x16 y92 y94 y163 y165 y234 y236 y305 y307 x313 F ([], 0)
def ref05_Parse_j9 (F : Nat) (x16 : List (List UInt8)) (y92 : List Int) (y94 : Bool) (y163 : List Int) (y165 : Bool) (y234 : List Int) (y236 : Bool) (y299 : List Int) : Option ((List Int) × (List Int) × (List Int) × (List Int) × (List Int) × Bool × Bool × Bool × Bool × Bool × Int) :=
grd (okAt 3 x16.length) <|
lt (at_ x16 3) fun x303 =>
ref05_Parse_j8 F x16 y92 y94 y163 y165 y234 y236 y299 (decide (x303 = ([42] : List UInt8)))
def ref05_Parse_j10 (y280 : Int) (rec283 : (Int × (List Int)) → Option ((List Int) × (List Int) × (List Int) × (List Int) × (List Int) × Bool × Bool × Bool × Bool × Bool × Int)) (y295 : List Int) : Option ((List Int) × (List Int) × (List Int) × (List Int) × (List Int) × Bool × Bool × Bool × Bool × Bool × Int) :=
grd (okI (y280 + 1)) <|
rec283 (y280 + 1, y295)
def ref05_Parse_B4 (F : Nat) (x16 : List (List UInt8)) (y92 : List Int) (y94 : Bool) (y163 : List Int) (y165 : Bool) (y234 : List Int) (y236 : Bool) (y275 : List Int) (rec283 : (Int × (List Int)) → Option ((List Int) × (List Int) × (List Int) × (List Int) × (List Int) × Bool × Bool × Bool × Bool × Bool × Int)) (y280 : Int) (y281 : List Int) : Option ((List Int) × (List Int) × (List Int) × (List Int) × (List Int) × Bool × Bool × Bool × Bool × Bool × Int) :=
bnd (ref05_High F 3) fun x285 =>
bif decide (y280 ≤ x285) then
  bnd (ref05_Has F y275 y280) fun x288 =>
  bif x288 then
    grd (okCat (y281.length + ([y280] : List Int).length)) <|
    lt (y281 ++ ([y280] : List Int)) fun x293 =>
    ref05_Parse_j10 y280 rec283 x293
  else
    ref05_Parse_j10 y280 rec283 y281
else
  ref05_Parse_j9 F x16 y92 y94 y163 y165 y234 y236 y281
def ref05_Parse_L4 (F : Nat) (x16 : List (List UInt8)) (y92 : List Int) (y94 : Bool) (y163 : List Int) (y165 : Bool) (y234 : List Int) (y236 : Bool) (y275 : List Int) (n : Nat) : (Int × (List Int)) → Option ((List Int) × (List Int) × (List Int) × (List Int) × (List Int) × Bool × Bool × Bool × Bool × Bool × Int) :=
  loop (fun rec x => ref05_Parse_B4 F x16 y92 y94 y163 y165 y234 y236 y275 rec x.1 x.2) n
def ref05_Parse_j11 (F : Nat) (x16 : List (List UInt8)) (y92 : List Int) (y94 : Bool) (y163 : List Int) (y165 : Bool) (y234 : List Int) (y236 : Bool) (y275 : List Int) : Option ((List Int) × (List Int) × (List Int) × (List Int) × (List Int) × Bool × Bool × Bool × Bool × Bool × Int) :=
bnd (ref05_Low F 3) fun x278 =>
ref05_Parse_L4 F x16 y92 y94 y163 y165 y234 y236 y275 F (x278, [])
def ref05_Parse_j12 (y246 : Int) (rec247 : ((List Int) × Int) → Option ((List Int) × (List Int) × (List Int) × (List Int) × (List Int) × Bool × Bool × Bool × Bool × Bool × Int)) (y271 : List Int) : Option ((List Int) × (List Int) × (List Int) × (List Int) × (List Int) × Bool × Bool × Bool × Bool × Bool × Int) :=
grd (okI (y246 + 1)) <|
rec247 (y271, y246 + 1)
def ref05_Parse_j13 (y256 : List Int) (y258 : Int) (x263 : Int) (rec259 : ((List Int) × Int) → Option ((List Int) × (List Int) × (List Int) × (List Int) × (List Int) × Bool × Bool × Bool × Bool × Bool × Int)) : Option ((List Int) × (List Int) × (List Int) × (List Int) × (List Int) × Bool × Bool × Bool × Bool × Bool × Int) :=
grd (okCat (y256.length + ([x263] : List Int).length)) <|
lt (y256 ++ ([x263] : List Int)) fun x268 =>
grd (okI (y258 + 1)) <|
rec259 (x268, y258 + 1)
def ref05_Parse_B5 (y246 : Int) (x253 : List Int) (rec247 : ((List Int) × Int) → Option ((List Int) × (List Int) × (List Int) × (List Int) × (List Int) × Bool × Bool × Bool × Bool × Bool × Int)) (rec259 : ((List Int) × Int) → Option ((List Int) × (List Int) × (List Int) × (List Int) × (List Int) × Bool × Bool × Bool × Bool × Bool × Int)) (y256 : List Int) (y258 : Int) : Option ((List Int) × (List Int) × (List Int) × (List Int) × (List Int) × Bool × Bool × Bool × Bool × Bool × Int) :=
bif decide (y258 < (x253.length : Int)) then
  grd (okAt y258 x253.length) <|
  lt (at_ x253 y258) fun x263 =>
  ref05_Parse_j13 y256 y258 x263 rec259
else
  ref05_Parse_j12 y246 rec247 y256
def ref05_Parse_L5 (y246 : Int) (x253 : List Int) (rec247 : ((List Int) × Int) → Option ((List Int) × (List Int) × (List Int) × (List Int) × (List Int) × Bool × Bool × Bool × Bool × Bool × Int)) (n : Nat) : ((List Int) × Int) → Option ((List Int) × (List Int) × (List Int) × (List Int) × (List Int) × Bool × Bool × Bool × Bool × Bool × Int) :=
  loop (fun rec x => ref05_Parse_B5 y246 x253 rec247 rec x.1 x.2) n
def ref05_Parse_B6 (F : Nat) (x16 : List (List UInt8)) (y92 : List Int) (y94 : Bool) (y163 : List Int) (y165 : Bool) (y234 : List Int) (y236 : Bool) (x242 : List (List UInt8)) (rec247 : ((List Int) × Int) → Option ((List Int) × (List Int) × (List Int) × (List Int) × (List Int) × Bool × Bool × Bool × Bool × Bool × Int)) (y244 : List Int) (y246 : Int) : Option ((List Int) × (List Int) × (List Int) × (List Int) × (List Int) × Bool × Bool × Bool × Bool × Bool × Int) :=
bif decide (y246 < (x242.length : Int)) then
  grd (okAt y246 x242.length) <|
  lt (at_ x242 y246) fun x251 =>
  bnd (ref05_piece F 3 x251) fun x253 =>
  bif decide ((x253.length : Int) = 0) then
    some ([], [], [], [], [], false, false, false, false, false, 2)
  else
    ref05_Parse_L5 y246 x253 rec247 F (y244, 0)
else
  ref05_Parse_j11 F x16 y92 y94 y163 y165 y234 y236 y244
def ref05_Parse_L6 (F : Nat) (x16 : List (List UInt8)) (y92 : List Int) (y94 : Bool) (y163 : List Int) (y165 : Bool) (y234 : List Int) (y236 : Bool) (x242 : List (List UInt8)) (n : Nat) : ((List Int) × Int) → Option ((List Int) × (List Int) × (List Int) × (List Int) × (List Int) × Bool × Bool × Bool × Bool × Bool × Int) :=
  loop (fun rec x => ref05_Parse_B6 F x16 y92 y94 y163 y165 y234 y236 x242 rec x.1 x.2) n
def ref05_Parse_j14 (F : Nat) (x16 : List (List UInt8)) (y92 : List Int) (y94 : Bool) (y163 : List Int) (y165 : Bool) (y234 : List Int) (y236 : Bool) : Option ((List Int) × (List Int) × (List Int) × (List Int) × (List Int) × Bool × Bool × Bool × Bool × Bool × Int) :=
grd (okAt 3 x16.length) <|
lt (at_ x16 3) fun x240 =>
bnd (ref05_Split F x240 44) fun x242 =>
ref05_Parse_L6 F x16 y92 y94 y163 y165 y234 y236 x242 F ([], 0)
def ref05_Parse_j15 (F : Nat) (x16 : List (List UInt8)) (y92 : List Int) (y94 : Bool) (y163 : List Int) (y165 : Bool) (y228 : List Int) : Option ((List Int) × (List Int) × (List Int) × (List Int) × (List Int) × Bool × Bool × Bool × Bool × Bool × Int) :=
grd (okAt 2 x16.length) <|
lt (at_ x16 2) fun x232 =>
ref05_Parse_j14 F x16 y92 y94 y163 y165 y228 (decide (x232 = ([42] : List UInt8)))
def ref05_Parse_j16 (y209 : Int) (rec212 : (Int × (List Int)) → Option ((List Int) × (List Int) × (List Int) × (List Int) × (List Int) × Bool × Bool × Bool × Bool × Bool × Int)) (y224 : List Int) : Option ((List Int) × (List Int) × (List Int) × (List Int) × (List Int) × Bool × Bool × Bool × Bool × Bool × Int) :=
grd (okI (y209 + 1)) <|
rec212 (y209 + 1, y224)
def ref05_Parse_B7 (F : Nat) (x16 : List (List UInt8)) (y92 : List Int) (y94 : Bool) (y163 : List Int) (y165 : Bool) (y204 : List Int) (rec212 : (Int × (List Int)) → Option ((List Int) × (List Int) × (List Int) × (List Int) × (List Int) × Bool × Bool × Bool × Bool × Bool × Int)) (y209 : Int) (y210 : List Int) : Option ((List Int) × (List Int) × (List Int) × (List Int) × (List Int) × Bool × Bool × Bool × Bool × Bool × Int) :=
bnd (ref05_High F 2) fun x214 =>
bif decide (y209 ≤ x214) then
  bnd (ref05_Has F y204 y209) fun x217 =>
  bif x217 then
    grd (okCat (y210.length + ([y209] : List Int).length)) <|
    lt (y210 ++ ([y209] : List Int)) fun x222 =>
    ref05_Parse_j16 y209 rec212 x222
  else
    ref05_Parse_j16 y209 rec212 y210
else
  ref05_Parse_j15 F x16 y92 y94 y163 y165 y210
def ref05_Parse_L7 (F : Nat) (x16 : List (List UInt8)) (y92 : List Int) (y94 : Bool) (y163 : List Int) (y165 : Bool) (y204 : List Int) (n : Nat) : (Int × (List Int)) → Option ((List Int) × (List Int) × (List Int) × (List Int) × (List Int) × Bool × Bool × Bool × Bool × Bool × Int) :=
  loop (fun rec x => ref05_Parse_B7 F x16 y92 y94 y163 y165 y204 rec x.1 x.2) n
def ref05_Parse_j17 (F : Nat) (x16 : List (List UInt8)) (y92 : List Int) (y94 : Bool) (y163 : List Int) (y165 : Bool) (y204 : List Int) : Option ((List Int) × (List Int) × (List Int) × (List Int) × (List Int) × Bool × Bool × Bool × Bool × Bool × Int) :=
bnd (ref05_Low F 2) fun x207 =>
ref05_Parse_L7 F x16 y92 y94 y163 y165 y204 F (x207, [])
def ref05_Parse_j18 (y175 : Int) (rec176 : ((List Int) × Int) → Option ((List Int) × (List Int) × (List Int) × (List Int) × (List Int) × Bool × Bool × Bool × Bool × Bool × Int)) (y200 : List Int) : Option ((List Int) × (List Int) × (List Int) × (List Int) × (List Int) × Bool × Bool × Bool × Bool × Bool × Int) :=
grd (okI (y175 + 1)) <|
rec176 (y200, y175 + 1)
def ref05_Parse_j19 (y185 : List Int) (y187 : Int) (x192 : Int) (rec188 : ((List Int) × Int) → Option ((List Int) × (List Int) × (List Int) × (List Int) × (List Int) × Bool × Bool × Bool × Bool × Bool × Int)) : Option ((List Int) × (List Int) × (List Int) × (List Int) × (List Int) × Bool × Bool × Bool × Bool × Bool × Int) :=
grd (okCat (y185.length + ([x192] : List Int).length)) <|
lt (y185 ++ ([x192] : List Int)) fun x197 =>
grd (okI (y187 + 1)) <|
rec188 (x197, y187 + 1)
def ref05_Parse_B8 (y175 : Int) (x182 : List Int) (rec176 : ((List Int) × Int) → Option ((List Int) × (List Int) × (List Int) × (List Int) × (List Int) × Bool × Bool × Bool × Bool × Bool × Int)) (rec188 : ((List Int) × Int) → Option ((List Int) × (List Int) × (List Int) × (List Int) × (List Int) × Bool × Bool × Bool × Bool × Bool × Int)) (y185 : List Int) (y187 : Int) : Option ((List Int) × (List Int) × (List Int) × (List Int) × (List Int) × Bool × Bool × Bool × Bool × Bool × Int) :=
bif decide (y187 < (x182.length : Int)) then
  grd (okAt y187 x182.length) <|
  lt (at_ x182 y187) fun x192 =>
  ref05_Parse_j19 y185 y187 x192 rec188
else
  ref05_Parse_j18 y175 rec176 y185
def ref05_Parse_L8 (y175 : Int) (x182 : List Int) (rec176 : ((List Int) × Int) → Option ((List Int) × (List Int) × (List Int) × (List Int) × (List Int) × Bool × Bool × Bool × Bool × Bool × Int)) (n : Nat) : ((List Int) × Int) → Option ((List Int) × (List Int) × (List Int) × (List Int) × (List Int) × Bool × Bool × Bool × Bool × Bool × Int) :=
  loop (fun rec x => ref05_Parse_B8 y175 x182 rec176 rec x.1 x.2) n
def ref05_Parse_B9 (F : Nat) (x16 : List (List UInt8)) (y92 : List Int) (y94 : Bool) (y163 : List Int) (y165 : Bool) (x171 : List (List UInt8)) (rec176 : ((List Int) × Int) → Option ((List Int) × (List Int) × (List Int) × (List Int) × (List Int) × Bool × Bool × Bool × Bool × Bool × Int)) (y173 : List Int) (y175 : Int) : Option ((List Int) × (List Int) × (List Int) × (List Int) × (List Int) × Bool × Bool × Bool × Bool × Bool × Int) :=
bif decide (y175 < (x171.length : Int)) then
  grd (okAt y175 x171.length) <|
  lt (at_ x171 y175) fun x180 =>
  bnd (ref05_piece F 2 x180) fun x182 =>
  bif decide ((x182.length : Int) = 0) then
    some ([], [], [], [], [], false, false, false, false, false, 2)
  else
    ref05_Parse_L8 y175 x182 rec176 F (y173, 0)
else
  ref05_Parse_j17 F x16 y92 y94 y163 y165 y173
def ref05_Parse_L9 (F : Nat) (x16 : List (List UInt8)) (y92 : List Int) (y94 : Bool) (y163 : List Int) (y165 : Bool) (x171 : List (List UInt8)) (n : Nat) : ((List Int) × Int) → Option ((List Int) × (List Int) × (List Int) × (List Int) × (List Int) × Bool × Bool × Bool × Bool × Bool × Int) :=
  loop (fun rec x => ref05_Parse_B9 F x16 y92 y94 y163 y165 x171 rec x.1 x.2) n
def ref05_Parse_j20 (F : Nat) (x16 : List (List UInt8)) (y92 : List Int) (y94 : Bool) (y163 : List Int) (y165 : Bool) : Option ((List Int) × (List Int) × (List Int) × (List Int) × (List Int) × Bool × Bool × Bool × Bool × Bool × Int) :=
grd (okAt 2 x16.length) <|
lt (at_ x16 2) fun x169 =>
bnd (ref05_Split F x169 44) fun x171 =>
ref05_Parse_L9 F x16 y92 y94 y163 y165 x171 F ([], 0)
def ref05_Parse_j21 (F : Nat) (x16 : List (List UInt8)) (y92 : List Int) (y94 : Bool) (y157 : List Int) : Option ((List Int) × (List Int) × (List Int) × (List Int) × (List Int) × Bool × Bool × Bool × Bool × Bool × Int) :=
grd (okAt 1 x16.length) <|
lt (at_ x16 1) fun x161 =>
ref05_Parse_j20 F x16 y92 y94 y157 (decide (x161 = ([42] : List UInt8)))
def ref05_Parse_j22 (y138 : Int) (rec141 : (Int × (List Int)) → Option ((List Int) × (List Int) × (List Int) × (List Int) × (List Int) × Bool × Bool × Bool × Bool × Bool × Int)) (y153 : List Int) : Option ((List Int) × (List Int) × (List Int) × (List Int) × (List Int) × Bool × Bool × Bool × Bool × Bool × Int) :=
grd (okI (y138 + 1)) <|
rec141 (y138 + 1, y153)
def ref05_Parse_B10 (F : Nat) (x16 : List (List UInt8)) (y92 : List Int) (y94 : Bool) (y133 : List Int) (rec141 : (Int × (List Int)) → Option ((List Int) × (List Int) × (List Int) × (List Int) × (List Int) × Bool × Bool × Bool × Bool × Bool × Int)) (y138 : Int) (y139 : List Int) : Option ((List Int) × (List Int) × (List Int) × (List Int) × (List Int) × Bool × Bool × Bool × Bool × Bool × Int) :=
bnd (ref05_High F 1) fun x143 =>
bif decide (y138 ≤ x143) then
  bnd (ref05_Has F y133 y138) fun x146 =>
  bif x146 then
    grd (okCat (y139.length + ([y138] : List Int).length)) <|
    lt (y139 ++ ([y138] : List Int)) fun x151 =>
    ref05_Parse_j22 y138 rec141 x151
  else
    ref05_Parse_j22 y138 rec141 y139
else
  ref05_Parse_j21 F x16 y92 y94 y139
def ref05_Parse_L10 (F : Nat) (x16 : List (List UInt8)) (y92 : List Int) (y94 : Bool) (y133 : List Int) (n : Nat) : (Int × (List Int)) → Option ((List Int) × (List Int) × (List Int) × (List Int) × (List Int) × Bool × Bool × Bool × Bool × Bool × Int) :=
  loop (fun rec x => ref05_Parse_B10 F x16 y92 y94 y133 rec x.1 x.2) n
def ref05_Parse_j23 (F : Nat) (x16 : List (List UInt8)) (y92 : List Int) (y94 : Bool) (y133 : List Int) : Option ((List Int) × (List Int) × (List Int) × (List Int) × (List Int) × Bool × Bool × Bool × Bool × Bool × Int) :=
bnd (ref05_Low F 1) fun x136 =>
ref05_Parse_L10 F x16 y92 y94 y133 F (x136, [])
def ref05_Parse_j24 (y104 : Int) (rec105 : ((List Int) × Int) → Option ((List Int) × (List Int) × (List Int) × (List Int) × (List Int) × Bool × Bool × Bool × Bool × Bool × Int)) (y129 : List Int) : Option ((List Int) × (List Int) × (List Int) × (List Int) × (List Int) × Bool × Bool × Bool × Bool × Bool × Int) :=
grd (okI (y104 + 1)) <|
rec105 (y129, y104 + 1)
def ref05_Parse_j25 (y114 : List Int) (y116 : Int) (x121 : Int) (rec117 : ((List Int) × Int) → Option ((List Int) × (List Int) × (List Int) × (List Int) × (List Int) × Bool × Bool × Bool × Bool × Bool × Int)) : Option ((List Int) × (List Int) × (List Int) × (List Int) × (List Int) × Bool × Bool × Bool × Bool × Bool × Int) :=
grd (okCat (y114.length + ([x121] : List Int).length)) <|
lt (y114 ++ ([x121] : List Int)) fun x126 =>
grd (okI (y116 + 1)) <|
rec117 (x126, y116 + 1)
def ref05_Parse_B11 (y104 : Int) (x111 : List Int) (rec105 : ((List Int) × Int) → Option ((List Int) × (List Int) × (List Int) × (List Int) × (List Int) × Bool × Bool × Bool × Bool × Bool × Int)) (rec117 : ((List Int) × Int) → Option ((List Int) × (List Int) × (List Int) × (List Int) × (List Int) × Bool × Bool × Bool × Bool × Bool × Int)) (y114 : List Int) (y116 : Int) : Option ((List Int) × (List Int) × (List Int) × (List Int) × (List Int) × Bool × Bool × Bool × Bool × Bool × Int) :=
bif decide (y116 < (x111.length : Int)) then
  grd (okAt y116 x111.length) <|
  lt (at_ x111 y116) fun x121 =>
  ref05_Parse_j25 y114 y116 x121 rec117
else
  ref05_Parse_j24 y104 rec105 y114
def ref05_Parse_L11 (y104 : Int) (x111 : List Int) (rec105 : ((List Int) × Int) → Option ((List Int) × (List Int) × (List Int) × (List Int) × (List Int) × Bool × Bool × Bool × Bool × Bool × Int)) (n : Nat) : ((List Int) × Int) → Option ((List Int) × (List Int) × (List Int) × (List Int) × (List Int) × Bool × Bool × Bool × Bool × Bool × Int) :=
  loop (fun rec x => ref05_Parse_B11 y104 x111 rec105 rec x.1 x.2) n
def ref05_Parse_B12 (F : Nat) (x16 : List (List UInt8)) (y92 : List Int) (y94 : Bool) (x100 : List (List UInt8)) (rec105 : ((List Int) × Int) → Option ((List Int) × (List Int) × (List Int) × (List Int) × (List Int) × Bool × Bool × Bool × Bool × Bool × Int)) (y102 : List Int) (y104 : Int) : Option ((List Int) × (List Int) × (List Int) × (List Int) × (List Int) × Bool × Bool × Bool × Bool × Bool × Int) :=
bif decide (y104 < (x100.length : Int)) then
  grd (okAt y104 x100.length) <|
  lt (at_ x100 y104) fun x109 =>
  bnd (ref05_piece F 1 x109) fun x111 =>
  bif decide ((x111.length : Int) = 0) then
    some ([], [], [], [], [], false, false, false, false, false, 2)
  else
    ref05_Parse_L11 y104 x111 rec105 F (y102, 0)
else
  ref05_Parse_j23 F x16 y92 y94 y102
def ref05_Parse_L12 (F : Nat) (x16 : List (List UInt8)) (y92 : List Int) (y94 : Bool) (x100 : List (List UInt8)) (n : Nat) : ((List Int) × Int) → Option ((List Int) × (List Int) × (List Int) × (List Int) × (List Int) × Bool × Bool × Bool × Bool × Bool × Int) :=
  loop (fun rec x => ref05_Parse_B12 F x16 y92 y94 x100 rec x.1 x.2) n
def ref05_Parse_j26 (F : Nat) (x16 : List (List UInt8)) (y92 : List Int) (y94 : Bool) : Option ((List Int) × (List Int) × (List Int) × (List Int) × (List Int) × Bool × Bool × Bool × Bool × Bool × Int) :=
grd (okAt 1 x16.length) <|
lt (at_ x16 1) fun x98 =>
bnd (ref05_Split F x98 44) fun x100 =>
ref05_Parse_L12 F x16 y92 y94 x100 F ([], 0)
def ref05_Parse_j27 (F : Nat) (x16 : List (List UInt8)) (y86 : List Int) : Option ((List Int) × (List Int) × (List Int) × (List Int) × (List Int) × Bool × Bool × Bool × Bool × Bool × Int) :=
grd (okAt 0 x16.length) <|
lt (at_ x16 0) fun x90 =>
ref05_Parse_j26 F x16 y86 (decide (x90 = ([42] : List UInt8)))
def ref05_Parse_j28 (y67 : Int) (rec70 : (Int × (List Int)) → Option ((List Int) × (List Int) × (List Int) × (List Int) × (List Int) × Bool × Bool × Bool × Bool × Bool × Int)) (y82 : List Int) : Option ((List Int) × (List Int) × (List Int) × (List Int) × (List Int) × Bool × Bool × Bool × Bool × Bool × Int) :=
grd (okI (y67 + 1)) <|
rec70 (y67 + 1, y82)
def ref05_Parse_B13 (F : Nat) (x16 : List (List UInt8)) (y62 : List Int) (rec70 : (Int × (List Int)) → Option ((List Int) × (List Int) × (List Int) × (List Int) × (List Int) × Bool × Bool × Bool × Bool × Bool × Int)) (y67 : Int) (y68 : List Int) : Option ((List Int) × (List Int) × (List Int) × (List Int) × (List Int) × Bool × Bool × Bool × Bool × Bool × Int) :=
bnd (ref05_High F 0) fun x72 =>
bif decide (y67 ≤ x72) then
  bnd (ref05_Has F y62 y67) fun x75 =>
  bif x75 then
    grd (okCat (y68.length + ([y67] : List Int).length)) <|
    lt (y68 ++ ([y67] : List Int)) fun x80 =>
    ref05_Parse_j28 y67 rec70 x80
  else
    ref05_Parse_j28 y67 rec70 y68
else
  ref05_Parse_j27 F x16 y68
def ref05_Parse_L13 (F : Nat) (x16 : List (List UInt8)) (y62 : List Int) (n : Nat) : (Int × (List Int)) → Option ((List Int) × (List Int) × (List Int) × (List Int) × (List Int) × Bool × Bool × Bool × Bool × Bool × Int) :=
  loop (fun rec x => ref05_Parse_B13 F x16 y62 rec x.1 x.2) n
def ref05_Parse_j29 (F : Nat) (x16 : List (List UInt8)) (y62 : List Int) : Option ((List Int) × (List Int) × (List Int) × (List Int) × (List Int) × Bool × Bool × Bool × Bool × Bool × Int) :=
bnd (ref05_Low F 0) fun x65 =>
ref05_Parse_L13 F x16 y62 F (x65, [])
def ref05_Parse_j30 (y33 : Int) (rec34 : ((List Int) × Int) → Option ((List Int) × (List Int) × (List Int) × (List Int) × (List Int) × Bool × Bool × Bool × Bool × Bool × Int)) (y58 : List Int) : Option ((List Int) × (List Int) × (List Int) × (List Int) × (List Int) × Bool × Bool × Bool × Bool × Bool × Int) :=
grd (okI (y33 + 1)) <|
rec34 (y58, y33 + 1)
def ref05_Parse_j31 (y43 : List Int) (y45 : Int) (x50 : Int) (rec46 : ((List Int) × Int) → Option ((List Int) × (List Int) × (List Int) × (List Int) × (List Int) × Bool × Bool × Bool × Bool × Bool × Int)) : Option ((List Int) × (List Int) × (List Int) × (List Int) × (List Int) × Bool × Bool × Bool × Bool × Bool × Int) :=
grd (okCat (y43.length + ([x50] : List Int).length)) <|
lt (y43 ++ ([x50] : List Int)) fun x55 =>
grd (okI (y45 + 1)) <|
rec46 (x55, y45 + 1)
def ref05_Parse_B14 (y33 : Int) (x40 : List Int) (rec34 : ((List Int) × Int) → Option ((List Int) × (List Int) × (List Int) × (List Int) × (List Int) × Bool × Bool × Bool × Bool × Bool × Int)) (rec46 : ((List Int) × Int) → Option ((List Int) × (List Int) × (List Int) × (List Int) × (List Int) × Bool × Bool × Bool × Bool × Bool × Int)) (y43 : List Int) (y45 : Int) : Option ((List Int) × (List Int) × (List Int) × (List Int) × (List Int) × Bool × Bool × Bool × Bool × Bool × Int) :=
bif decide (y45 < (x40.length : Int)) then
  grd (okAt y45 x40.length) <|
  lt (at_ x40 y45) fun x50 =>
  ref05_Parse_j31 y43 y45 x50 rec46
else
  ref05_Parse_j30 y33 rec34 y43
def ref05_Parse_L14 (y33 : Int) (x40 : List Int) (rec34 : ((List Int) × Int) → Option ((List Int) × (List Int) × (List Int) × (List Int) × (List Int) × Bool × Bool × Bool × Bool × Bool × Int)) (n : Nat) : ((List Int) × Int) → Option ((List Int) × (List Int) × (List Int) × (List Int) × (List Int) × Bool × Bool × Bool × Bool × Bool × Int) :=
  loop (fun rec x => ref05_Parse_B14 y33 x40 rec34 rec x.1 x.2) n
def ref05_Parse_B15 (F : Nat) (x16 : List (List UInt8)) (x29 : List (List UInt8)) (rec34 : ((List Int) × Int) → Option ((List Int) × (List Int) × (List Int) × (List Int) × (List Int) × Bool × Bool × Bool × Bool × Bool × Int)) (y31 : List Int) (y33 : Int) : Option ((List Int) × (List Int) × (List Int) × (List Int) × (List Int) × Bool × Bool × Bool × Bool × Bool × Int) :=
bif decide (y33 < (x29.length : Int)) then
  grd (okAt y33 x29.length) <|
  lt (at_ x29 y33) fun x38 =>
  bnd (ref05_piece F 0 x38) fun x40 =>
  bif decide ((x40.length : Int) = 0) then
    some ([], [], [], [], [], false, false, false, false, false, 2)
  else
    ref05_Parse_L14 y33 x40 rec34 F (y31, 0)
else
  ref05_Parse_j29 F x16 y31
def ref05_Parse_L15 (F : Nat) (x16 : List (List UInt8)) (x29 : List (List UInt8)) (n : Nat) : ((List Int) × Int) → Option ((List Int) × (List Int) × (List Int) × (List Int) × (List Int) × Bool × Bool × Bool × Bool × Bool × Int) :=
  loop (fun rec x => ref05_Parse_B15 F x16 x29 rec x.1 x.2) n
def ref05_Parse (F : Nat) (a1 : List UInt8) : Option ((List Int) × (List Int) × (List Int) × (List Int) × (List Int) × Bool × Bool × Bool × Bool × Bool × Int) :=
bif decide (200 < (a1.length : Int)) then
  some ([], [], [], [], [], false, false, false, false, false, 4)
else
  bnd (ref05_Split F a1 32) fun x16 =>
  bif !decide ((x16.length : Int) = 5) then
    some ([], [], [], [], [], false, false, false, false, false, 2)
  else
    grd (okAt 0 x16.length) <|
    lt (at_ x16 0) fun x27 =>
    bnd (ref05_Split F x27 44) fun x29 =>
    ref05_Parse_L15 F x16 x29 F ([], 0)
end Go.Pv
