/-
  What goes through entities, written again as plain functions: printed by a program of ours from Lean's own print of the loaded program.
-/
import Derived.Test.YtjhlnhipjomdeaaGreatDoorPvLib
import Derived.Test.YtjhlnhipjomdeaaGreatDoorNumP
import Derived.Test.YtjhlnhipjomdeaaGreatDoorAnyP
import Derived.Test.YtjhlnhipjomdeaaGreatDoorEntAP
set_option linter.unusedVariables false
namespace Go.Pv

/-- mailcoach/ent.Rune -/
def ent_Rune (F : Nat) (a1 : Int) : Option ((List UInt8) × Bool) :=
bndc (!(((decide (a1 = 9)) || (decide (a1 = 10))) || (decide (a1 = 13)))) (ent_in F a1 32 55295) fun x7 =>
bndc ((!(((decide (a1 = 9)) || (decide (a1 = 10))) || (decide (a1 = 13)))) && (!x7)) (ent_in F a1 57344 65533) fun x10 =>
bndc (((!(((decide (a1 = 9)) || (decide (a1 = 10))) || (decide (a1 = 13)))) && (!x7)) && (!x10)) (ent_in F a1 65536 1114111) fun x13 =>
bif (((!(((decide (a1 = 9)) || (decide (a1 = 10))) || (decide (a1 = 13)))) && (!x7)) && (!x10)) && (!x13) then
  some (([] : List UInt8), false)
else
  grd (okJ a1) <|
  lt (runeStr a1) fun x17 =>
  some (x17, true)
/-- mailcoach/ent.signs -/
def ent_signs (F : Nat) : Option ((List (List UInt8 × Int))) :=
some ([(([97, 109, 112] : List UInt8), 38), (([108, 116] : List UInt8), 60), (([103, 116] : List UInt8), 62), (([113, 117, 111, 116] : List UInt8), 34), (([97, 112, 111, 115] : List UInt8), 39)] : List (List UInt8 × Int))
/-- mailcoach/ent.number -/
def ent_number (F : Nat) (a1 : List UInt8) (a2 : Int) : Option ((List UInt8) × Bool) :=
grdc (!(decide (a1 = ([] : List UInt8)))) (okAt 0 a1.length) <|
lt (at_ a1 0) fun x7 =>
grdc (!((decide (a1 = ([] : List UInt8))) || (decide (x7 = 43)))) (okAt 0 a1.length) <|
lt (at_ a1 0) fun x11 =>
grdc (!(((decide (a1 = ([] : List UInt8))) || (decide (x7 = 43))) || (decide (x11 = 45)))) (okAt 0 a1.length) <|
lt (at_ a1 0) fun x15 =>
bndc (!((((decide (a1 = ([] : List UInt8))) || (decide (x7 = 43))) || (decide (x11 = 45))) || (decide (x15 = 95)))) (containsAny F a1 ([95] : List UInt8)) fun x18 =>
bif ((((decide (a1 = ([] : List UInt8))) || (decide (x7 = 43))) || (decide (x11 = 45))) || (decide (x15 = 95))) || x18 then
  some (([] : List UInt8), false)
else
  bnd2 (strconv_ParseInt F a1 a2 0) fun x21 x22 =>
  bif !decide (x22 = 0) then
    some (([] : List UInt8), false)
  else
    bnd2 (ent_Rune F x21) fun x25 x26 =>
    some (x25, x26)
/-- mailcoach/ent.sign -/
def ent_sign (F : Nat) (a1 : List UInt8) : Option ((List UInt8) × Bool) :=
bnd (ent_signs F) fun x4 =>
bif Go.Av.mhas x4 a1 then
  lt (runeStr (Go.Av.mget x4 a1)) fun x7 =>
  some (x7, true)
else
  lt (Go.Lib.trimPrefix a1 ([35, 120] : List UInt8), Go.Lib.hasPrefix a1 ([35, 120] : List UInt8)) fun x9 =>
  bif x9.2 then
    bnd2 (ent_number F x9.1 16) fun x12 x13 =>
    some (x12, x13)
  else
    lt (Go.Lib.trimPrefix a1 ([35] : List UInt8), Go.Lib.hasPrefix a1 ([35] : List UInt8)) fun x15 =>
    bif x15.2 then
      bnd2 (ent_number F x15.1 10) fun x18 x19 =>
      some (x18, x19)
    else
      some (([] : List UInt8), false)
/-- mailcoach/ent.first -/
def ent_first (F : Nat) (a1 : List UInt8) : Option ((List UInt8) × Int) :=
grd (okTo 1 a1.length) <|
lt (from_ a1 1) fun x5 =>
grd (asciiB ([38, 59] : List UInt8)) <|
grd (okS x5.length) <|
grd (okS ([38, 59] : List UInt8).length) <|
bnd (idxAny F x5 ([38, 59] : List UInt8)) fun x10 =>
bnd (ent_in F x10 1 10) fun x12 =>
grdc (!(!x12)) (okI (x10 + 1)) <|
grdc (!(!x12)) (okAt (x10 + 1) a1.length) <|
lt (at_ a1 (x10 + 1)) fun x17 =>
bif (!x12) || (decide (x17 = 38)) then
  some (([] : List UInt8), 0)
else
  grd (okI (x10 + 1)) <|
  grd (okSub 1 (x10 + 1) a1.length) <|
  lt (sub a1 1 (x10 + 1)) fun x22 =>
  bnd2 (ent_sign F x22) fun x24 x25 =>
  bif !x25 then
    some (([] : List UInt8), 0)
  else
    grd (okI (x10 + 2)) <|
    some (x24, x10 + 2)
/-- mailcoach/ent.gone -/
def ent_gone_j1 (rec11 : ((List UInt8) × Bool × (List UInt8)) → Option ((List UInt8) × Bool)) (x25 : List UInt8) (x29 : List UInt8) (y35 : Bool) (y36 : List UInt8) (y37 : Int) : Option ((List UInt8) × Bool) :=
grd (okW x25 y36) <|
lt (x25 ++ y36) fun x40 =>
grd (okTo y37 x29.length) <|
lt (from_ x29 y37) fun x44 =>
rec11 (x44, y35, x40)
def ent_gone_B1 (F : Nat) (rec11 : ((List UInt8) × Bool × (List UInt8)) → Option ((List UInt8) × Bool)) (y6 : List UInt8) (y7 : Bool) (y9 : List UInt8) : Option ((List UInt8) × Bool) :=
lt (Go.Lib.indexByte y6 38) fun x13 =>
bif decide (x13 < 0) then
  grd (okW y9 y6) <|
  lt (y9 ++ y6) fun x17 =>
  grd (okW x17 []) <|
  some (x17, y7)
else
  grd (okTo x13 y6.length) <|
  lt (to_ y6 x13) fun x22 =>
  grd (okW y9 x22) <|
  lt (y9 ++ x22) fun x25 =>
  grd (okTo x13 y6.length) <|
  lt (from_ y6 x13) fun x29 =>
  bnd2 (ent_first F x29) fun x31 x32 =>
  bif decide (x32 = 0) then
    ent_gone_j1 rec11 x25 x29 false ([38] : List UInt8) 1
  else
    ent_gone_j1 rec11 x25 x29 y7 x31 x32
def ent_gone_L1 (F : Nat) (n : Nat) : ((List UInt8) × Bool × (List UInt8)) → Option ((List UInt8) × Bool) :=
  loop (fun rec x => ent_gone_B1 F rec x.1 x.2.1 x.2.2) n
def ent_gone (F : Nat) (a1 : List UInt8) : Option ((List UInt8) × Bool) :=
ent_gone_L1 F F (a1, true, [])
/-- mailcoach/ent.Loose -/
def ent_Loose (F : Nat) (a1 : List UInt8) : Option ((List UInt8)) :=
bnd2 (ent_gone F a1) fun x3 x4 =>
some x3
/-- mailcoach/ent.Decode -/
def ent_Decode (F : Nat) (a1 : List UInt8) : Option ((List UInt8) × Int) :=
bnd2 (ent_gone F a1) fun x4 x5 =>
bif !x5 then
  some (([] : List UInt8), 2)
else
  some (x4, 0)
end Go.Pv
