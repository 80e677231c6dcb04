/-
  A replacer is built, and replaces, written again as plain functions: printed by a program of ours from Lean's own print of the loaded program.
-/
import Derived.Test.YtjhlnhipjomdeaaGreatDoorPvLib
import Derived.Lib.IndexMore
set_option linter.unusedVariables false
namespace Go.Pv

/-- sync/atomic.b32 -/
def sy_b32 (F : Nat) (a1 : Bool) : Option Int :=
bif a1 then
  some 1
else
  some 0
/-- (*sync/atomic.Bool).Load -/
def sy_Load (F : Nat) (a2 : Int) (a3 : Int) : Option Bool :=
some (!decide (a2 = 0))
/-- (*sync/atomic.Bool).Store -/
def sy_Store (F : Nat) (a4 : Bool) : Option Int :=
bnd (sy_b32 F a4) fun x6 =>
some x6
/-- (*internal/sync.Mutex).Lock -/
def sy_iLock (F : Nat) : Option Unit :=
some ()
/-- (*internal/sync.Mutex).Unlock -/
def sy_iUnlock_j1 : Option Unit :=
some ()
def sy_iUnlock_j2 : Option Unit :=
sy_iUnlock_j1
def sy_iUnlock (F : Nat) (a2 : Int) : Option Unit :=
sy_iUnlock_j2
/-- (*sync.Mutex).Lock -/
def sy_Lock (F : Nat) : Option Unit :=
bnd (sy_iLock F) fun _ =>
some ()
/-- (*sync.Mutex).Unlock -/
def sy_Unlock (F : Nat) (a2 : Int) : Option Unit :=
bnd (sy_iUnlock F a2) fun _ =>
some ()
def entOld : List (List UInt8) := [([38] : List UInt8), ([38, 97, 109, 112, 59] : List UInt8), ([60] : List UInt8), ([38, 108, 116, 59] : List UInt8), ([62] : List UInt8), ([38, 103, 116, 59] : List UInt8), ([34] : List UInt8), ([38, 113, 117, 111, 116, 59] : List UInt8)]
def entTab : List (Option (List UInt8)) := (List.range 256).map fun k => if k = 38 then some ([38, 97, 109, 112, 59] : List UInt8) else if k = 60 then some ([38, 108, 116, 59] : List UInt8) else if k = 62 then some ([38, 103, 116, 59] : List UInt8) else if k = 34 then some ([38, 113, 117, 111, 116, 59] : List UInt8) else none
def entRep : List (List UInt8) := [[34], [62], [60], [38]]
/-- (*strings.Replacer).build -/
def rp_build_j1 (y44 : List (List UInt8)) : Option ((List (List UInt8))) :=
some y44
def rp_build_j2 (y40 : List (List UInt8)) : Option ((List (List UInt8))) :=
grd (okCat ([38, 97, 109, 112, 59] : List UInt8).length) <|
rp_build_j1 y40
def rp_build_j3 (y32 : List (List UInt8)) : Option ((List (List UInt8))) :=
grd (okCat ([38, 108, 116, 59] : List UInt8).length) <|
grd (okCat (y32.length + ([([38] : List UInt8)] : List (List UInt8)).length)) <|
lt (y32 ++ ([([38] : List UInt8)] : List (List UInt8))) fun x38 =>
rp_build_j2 x38
def rp_build_j4 (y24 : List (List UInt8)) : Option ((List (List UInt8))) :=
grd (okCat ([38, 103, 116, 59] : List UInt8).length) <|
grd (okCat (y24.length + ([([60] : List UInt8)] : List (List UInt8)).length)) <|
lt (y24 ++ ([([60] : List UInt8)] : List (List UInt8))) fun x30 =>
rp_build_j3 x30
def rp_build_j5 (y16 : List (List UInt8)) : Option ((List (List UInt8))) :=
grd (okCat ([38, 113, 117, 111, 116, 59] : List UInt8).length) <|
grd (okCat (y16.length + ([([62] : List UInt8)] : List (List UInt8)).length)) <|
lt (y16 ++ ([([62] : List UInt8)] : List (List UInt8))) fun x22 =>
rp_build_j4 x22
def rp_build_j6 : Option ((List (List UInt8))) :=
grd (okDiv 8 2) <|
grd (okCat (([] : List (List UInt8)).length + ([([34] : List UInt8)] : List (List UInt8)).length)) <|
lt (([] : List (List UInt8)) ++ ([([34] : List UInt8)] : List (List UInt8))) fun x14 =>
rp_build_j5 x14
def rp_build_j7 : Option ((List (List UInt8))) :=
rp_build_j6
def rp_build_j8 : Option ((List (List UInt8))) :=
rp_build_j7
def rp_build_j9 : Option ((List (List UInt8))) :=
rp_build_j8
def rp_build_j10 : Option ((List (List UInt8))) :=
rp_build_j9
def rp_build_j11 : Option ((List (List UInt8))) :=
rp_build_j10
def rp_build (F : Nat) : Option ((List (List UInt8))) :=
rp_build_j11
/-- strings.NewReplacer -/
def rp_New_j1 : Option Unit :=
grd (okCat entOld.length) <|
some ()
def rp_New (F : Nat) : Option Unit :=
grd (okDiv 8 2) <|
rp_New_j1
/-- (*strings.byteStringReplacer).Replace -/
def rp_Replace_j1 (y55 : Int) (y93 : List UInt8) : Option ((List UInt8)) :=
grd (decide (y93.length = Int.toNat y55)) <|
some y93
def rp_Replace_j2 (y62 : Int) (rec64 : (Int × Int × (List UInt8)) → Option ((List UInt8))) (y89 : Int) (y90 : List UInt8) : Option ((List UInt8)) :=
grd (okI (y62 + 1)) <|
rec64 (y89, y62 + 1, y90)
def rp_Replace_B1 (a2 : List UInt8) (y55 : Int) (rec64 : (Int × Int × (List UInt8)) → Option ((List UInt8))) (y61 : Int) (y62 : Int) (y63 : List UInt8) : Option ((List UInt8)) :=
bif decide (y62 < (a2.length : Int)) then
  grd (okAt y62 a2.length) <|
  lt (at_ a2 y62) fun x68 =>
  grd (okAt (x68.toNat : Int) 256) <|
  lt (at_ entTab (x68.toNat : Int)) fun x71 =>
  grd (decide (x71 ≠ some [])) <|
  bif !x71.isNone then
    grd (decide (0 ≤ y61 ∧ y61 < Int.toNat y55)) <|
    grd (okAt (x68.toNat : Int) 256) <|
    lt (at_ entTab (x68.toNat : Int)) fun x77 =>
    grd (decide ((x77.getD []).length ≤ Int.toNat y55 - Int.toNat y61)) <|
    grd (decide (Int.toNat y61 + (x77.getD []).length ≤ y63.length)) <|
    lt (List.take (Int.toNat y61) y63 ++ (x77.getD []) ++ List.drop (Int.toNat y61 + (x77.getD []).length) y63) fun x81 =>
    grd (okI (y61 + ((x77.getD []).length : Int))) <|
    rp_Replace_j2 y62 rec64 (y61 + ((x77.getD []).length : Int)) x81
  else
    grd (okAt y61 (Int.toNat y55)) <|
    grd (okAt y61 y63.length) <|
    lt (y63.set (Int.toNat y61) x68) fun x86 =>
    grd (okI (y61 + 1)) <|
    rp_Replace_j2 y62 rec64 (y61 + 1) x86
else
  rp_Replace_j1 y55 y63
def rp_Replace_L1 (a2 : List UInt8) (y55 : Int) (n : Nat) : (Int × Int × (List UInt8)) → Option ((List UInt8)) :=
  loop (fun rec x => rp_Replace_B1 a2 y55 rec x.1 x.2.1 x.2.2) n
def rp_Replace_j3 (F : Nat) (a2 : List UInt8) (y55 : Int) (y56 : Bool) : Option ((List UInt8)) :=
bif !y56 then
  some a2
else
  grd (okAt y55 1000000000) <|
  rp_Replace_L1 a2 y55 F (0, 0, List.replicate (Int.toNat y55) 0)
def rp_Replace_j4 (y8 : Int) (rec9 : (Int × Bool × Int) → Option ((List UInt8))) (y28 : Int) (y29 : Bool) : Option ((List UInt8)) :=
grd (okI (y8 + 1)) <|
rec9 (y28, y29, y8 + 1)
def rp_Replace_B2 (F : Nat) (a2 : List UInt8) (rec9 : (Int × Bool × Int) → Option ((List UInt8))) (y6 : Int) (y7 : Bool) (y8 : Int) : Option ((List UInt8)) :=
bif decide (y8 < (entRep.length : Int)) then
  grd (okAt y8 entRep.length) <|
  lt (at_ entRep y8) fun x13 =>
  grd (decide (x13.length = 1)) <|
  lt (Go.Lib.countByte a2 (at_ x13 0) : Int) fun x16 =>
  bif !decide (x16 = 0) then
    grd (okAt 0 x13.length) <|
    lt (at_ x13 0) fun x20 =>
    grd (okAt (x20.toNat : Int) 256) <|
    lt (at_ entTab (x20.toNat : Int)) fun x23 =>
    grd (okI (((x23.getD []).length : Int) - 1)) <|
    grd (okI (x16 * (((x23.getD []).length : Int) - 1))) <|
    grd (okI (y6 + (x16 * (((x23.getD []).length : Int) - 1)))) <|
    rp_Replace_j4 y8 rec9 (y6 + (x16 * (((x23.getD []).length : Int) - 1))) true
  else
    rp_Replace_j4 y8 rec9 y6 y7
else
  rp_Replace_j3 F a2 y6 y7
def rp_Replace_L2 (F : Nat) (a2 : List UInt8) (n : Nat) : (Int × Bool × Int) → Option ((List UInt8)) :=
  loop (fun rec x => rp_Replace_B2 F a2 rec x.1 x.2.1 x.2.2) n
def rp_Replace_j5 (y34 : Int) (rec35 : (Int × Bool × Int) → Option ((List UInt8))) (y51 : Int) (y52 : Bool) : Option ((List UInt8)) :=
grd (okI (y34 + 1)) <|
rec35 (y51, y52, y34 + 1)
def rp_Replace_B3 (F : Nat) (a2 : List UInt8) (rec35 : (Int × Bool × Int) → Option ((List UInt8))) (y32 : Int) (y33 : Bool) (y34 : Int) : Option ((List UInt8)) :=
bif decide (y34 < (a2.length : Int)) then
  grd (okAt y34 a2.length) <|
  lt (at_ a2 y34) fun x39 =>
  grd (okAt (x39.toNat : Int) 256) <|
  lt (at_ entTab (x39.toNat : Int)) fun x42 =>
  grd (decide (x42 ≠ some [])) <|
  bif !x42.isNone then
    grd (okAt (x39.toNat : Int) 256) <|
    lt (at_ entTab (x39.toNat : Int)) fun x47 =>
    grd (okI (((x47.getD []).length : Int) - 1)) <|
    grd (okI (y32 + (((x47.getD []).length : Int) - 1))) <|
    rp_Replace_j5 y34 rec35 (y32 + (((x47.getD []).length : Int) - 1)) true
  else
    rp_Replace_j5 y34 rec35 y32 y33
else
  rp_Replace_j3 F a2 y32 y33
def rp_Replace_L3 (F : Nat) (a2 : List UInt8) (n : Nat) : (Int × Bool × Int) → Option ((List UInt8)) :=
  loop (fun rec x => rp_Replace_B3 F a2 rec x.1 x.2.1 x.2.2) n
def rp_Replace (F : Nat) (a2 : List UInt8) : Option ((List UInt8)) :=
grd (okI ((entRep.length : Int) * 8)) <|
bif decide ((entRep.length : Int) * 8 ≤ (a2.length : Int)) then
  rp_Replace_L2 F a2 F ((a2.length : Int), false, 0)
else
  rp_Replace_L3 F a2 F ((a2.length : Int), false, 0)

end Go.Pv
