/-
  Texts in one (only what ClientRuns needs): NumP, NumW, RepAP, RepAW, DotP, AvCn, DotW, CliAP.
-/
import Derived.Test.YtgjkjkmmgdbcoaaGreatDoorZClientRuns2
import Derived.Lib.ItoaNum
import Derived.Test.YtgjkjkmmgdbcoaaGreatDoorShelf
import Derived.Lib.IndexLaws
import Derived.Test.YtgjkjkmmgdbcoaaGreatDoorChecked
import Derived.Shelf.Bytes.SlCountOne
set_option linter.unusedVariables false
set_option linter.unusedSimpArgs false
namespace Go.Pv
def fC (F : Nat) (a1 : UInt8) : Option UInt8 :=
some (a1 ||| 32)
def eM (y84 : Int) : Option Bool :=
some (!decide (y84 = 95))
def dl (y50 : Int) (rec51 : (Int × Int) → Option Bool) (y81 : Int) : Option Bool :=
grd (okI (y50 + 1)) <|
rec51 (y81, y50 + 1)
def gz (F : Nat) (y15 : List UInt8) (y47 : Bool) (rec51 : (Int × Int) → Option Bool) (y49 : Int) (y50 : Int) : Option Bool :=
bif decide (y50 < (y15.length : Int)) then
  grd (ct y50 y15.length) <|
  lt (at_ y15 y50) fun x55 =>
  dk (decide (48 ≤ (x55.toNat : Int))) (ct y50 y15.length) <|
  lt (at_ y15 y50) fun x59 =>
  dk ((!((decide (48 ≤ (x55.toNat : Int))) && (decide ((x59.toNat : Int) ≤ 57)))) && y47) (ct y50 y15.length) <|
  lt (at_ y15 y50) fun x64 =>
  kM ((!((decide (48 ≤ (x55.toNat : Int))) && (decide ((x59.toNat : Int) ≤ 57)))) && y47) (fC F x64) fun x66 =>
  dk ((!((decide (48 ≤ (x55.toNat : Int))) && (decide ((x59.toNat : Int) ≤ 57)))) && (y47 && (decide (97 ≤ (x66.toNat : Int))))) (ct y50 y15.length) <|
  lt (at_ y15 y50) fun x70 =>
  kM ((!((decide (48 ≤ (x55.toNat : Int))) && (decide ((x59.toNat : Int) ≤ 57)))) && (y47 && (decide (97 ≤ (x66.toNat : Int))))) (fC F x70) fun x72 =>
  bif ((decide (48 ≤ (x55.toNat : Int))) && (decide ((x59.toNat : Int) ≤ 57))) || ((y47 && (decide (97 ≤ (x66.toNat : Int)))) && (decide ((x72.toNat : Int) ≤ 102))) then
    dl y50 rec51 48
  else
    grd (ct y50 y15.length) <|
    lt (at_ y15 y50) fun x76 =>
    bif decide (x76 = 95) then
      bif !decide (y49 = 48) then
        some false
      else
        dl y50 rec51 95
    else
      bif decide (y49 = 95) then
        some false
      else
        dl y50 rec51 33
else
  eM y49
def dR (F : Nat) (y15 : List UInt8) (y47 : Bool) (n : Nat) : (Int × Int) → Option Bool :=
  loop (fun rec x => gz F y15 y47 rec x.1 x.2) n
def dQ (F : Nat) (y15 : List UInt8) (y45 : Int) (y46 : Int) (y47 : Bool) : Option Bool :=
dR F y15 y47 F (y45, y46)
def dP (F : Nat) (y15 : List UInt8) : Option Bool :=
dk (decide (2 ≤ (y15.length : Int))) (ct 0 y15.length) <|
lt (at_ y15 0) fun x19 =>
dk ((decide (2 ≤ (y15.length : Int))) && (decide (x19 = 48))) (ct 1 y15.length) <|
lt (at_ y15 1) fun x23 =>
kM ((decide (2 ≤ (y15.length : Int))) && (decide (x19 = 48))) (fC F x23) fun x25 =>
dk (((decide (2 ≤ (y15.length : Int))) && (decide (x19 = 48))) && (!(decide (x25 = 98)))) (ct 1 y15.length) <|
lt (at_ y15 1) fun x29 =>
kM (((decide (2 ≤ (y15.length : Int))) && (decide (x19 = 48))) && (!(decide (x25 = 98)))) (fC F x29) fun x31 =>
dk (((decide (2 ≤ (y15.length : Int))) && (decide (x19 = 48))) && (!((decide (x25 = 98)) || (decide (x31 = 111))))) (ct 1 y15.length) <|
lt (at_ y15 1) fun x35 =>
kM (((decide (2 ≤ (y15.length : Int))) && (decide (x19 = 48))) && (!((decide (x25 = 98)) || (decide (x31 = 111))))) (fC F x35) fun x37 =>
bif ((decide (2 ≤ (y15.length : Int))) && (decide (x19 = 48))) && (((decide (x25 = 98)) || (decide (x31 = 111))) || (decide (x37 = 120))) then
  grd (ct 1 y15.length) <|
  lt (at_ y15 1) fun x41 =>
  bnd (fC F x41) fun x43 =>
  dQ F y15 48 2 (decide (x43 = 120))
else
  dQ F y15 94 0 false
def iV (F : Nat) (a1 : List UInt8) : Option Bool :=
dk (decide (1 ≤ (a1.length : Int))) (ct 0 a1.length) <|
lt (at_ a1 0) fun x5 =>
dk ((decide (1 ≤ (a1.length : Int))) && (!(decide (x5 = 45)))) (ct 0 a1.length) <|
lt (at_ a1 0) fun x9 =>
bif (decide (1 ≤ (a1.length : Int))) && ((decide (x5 = 45)) || (decide (x9 = 43))) then
  grd (iU 1 a1.length) <|
  lt (eJ a1 1) fun x13 =>
  dP F x13
else
  dP F a1
def ff (F : Nat) (a1 : List UInt8) (y53 : Bool) (y54 : Int) : Option (Int × Int) :=
kM y53 (iV F a1) fun x57 =>
bif y53 && (!x57) then
  some (0, 2)
else
  some (y54, 0)
def dX (y24 : Int) (rec25 : (Bool × Int × Int) → Option (Int × Int)) (y49 : Bool) (y50 : Int) : Option (Int × Int) :=
grd (okI (y24 + 1)) <|
rec25 (y49, y50, y24 + 1)
def dC (a2 : Int) (y17 : Int) (y22 : Bool) (y23 : Int) (y24 : Int) (rec25 : (Bool × Int × Int) → Option (Int × Int)) (y43 : UInt8) : Option (Int × Int) :=
bif decide (((Go.Av.toB a2).toNat : Int) ≤ (y43.toNat : Int)) then
  some (0, 2)
else
  bif decide (y17 ≤ y23) then
    some (IntKind.u64.wrap ((IntKind.u64.wrap (1 * 2 ^ min (Int.toNat (IntKind.u64.wrap 64)) IntKind.u64.bits)) - 1), 1)
  else
    bif (decide (IntKind.u64.wrap ((IntKind.u64.wrap (y23 * (IntKind.u64.wrap a2))) + (IntKind.u64.wrap (y43.toNat : Int))) < IntKind.u64.wrap (y23 * (IntKind.u64.wrap a2)))) || (decide (IntKind.u64.wrap ((IntKind.u64.wrap (1 * 2 ^ min (Int.toNat (IntKind.u64.wrap 64)) IntKind.u64.bits)) - 1) < IntKind.u64.wrap ((IntKind.u64.wrap (y23 * (IntKind.u64.wrap a2))) + (IntKind.u64.wrap (y43.toNat : Int))))) then
      some (IntKind.u64.wrap ((IntKind.u64.wrap (1 * 2 ^ min (Int.toNat (IntKind.u64.wrap 64)) IntKind.u64.bits)) - 1), 1)
    else
      dX y24 rec25 y22 (IntKind.u64.wrap ((IntKind.u64.wrap (y23 * (IntKind.u64.wrap a2))) + (IntKind.u64.wrap (y43.toNat : Int))))
def fg (F : Nat) (a1 : List UInt8) (a2 : Int) (y17 : Int) (rec25 : (Bool × Int × Int) → Option (Int × Int)) (y22 : Bool) (y23 : Int) (y24 : Int) : Option (Int × Int) :=
bif decide (y24 < (a1.length : Int)) then
  grd (ct y24 a1.length) <|
  lt (at_ a1 y24) fun x29 =>
  bif (decide (x29 = 95)) && (decide (a2 = 0)) then
    dX y24 rec25 true y23
  else
    bif (decide (48 ≤ (x29.toNat : Int))) && (decide ((x29.toNat : Int) ≤ 57)) then
      dC a2 y17 y22 y23 y24 rec25 (x29 - 48)
    else
      bnd (fC F x29) fun x35 =>
      kM (decide (97 ≤ (x35.toNat : Int))) (fC F x29) fun x38 =>
      bif (decide (97 ≤ (x35.toNat : Int))) && (decide ((x38.toNat : Int) ≤ 122)) then
        bnd (fC F x29) fun x41 =>
        dC a2 y17 y22 y23 y24 rec25 ((x41 - 97) + 10)
      else
        some (0, 2)
else
  ff F a1 y22 y23
def cB (F : Nat) (a1 : List UInt8) (a2 : Int) (y17 : Int) (n : Nat) : (Bool × Int × Int) → Option (Int × Int) :=
  loop (fun rec x => fg F a1 a2 y17 rec x.1 x.2.1 x.2.2) n
def dB (F : Nat) (a1 : List UInt8) (a2 : Int) (y17 : Int) : Option (Int × Int) :=
grd (decide (0 ≤ IntKind.u64.wrap 64)) <|
grd (dn a1.length) <|
cB F a1 a2 y17 F (false, 0, 0)
def fe (F : Nat) (a1 : List UInt8) (a2 : Int) : Option (Int × Int) :=
bif decide (a2 = 10) then
  dB F a1 a2 1844674407370955162
else
  bif decide (a2 = 16) then
    dB F a1 a2 1152921504606846976
  else
    grd (decide (IntKind.u64.wrap a2 ≠ 0)) <|
    dB F a1 a2 (IntKind.u64.wrap ((IntKind.u64.wrap (Int.tdiv 18446744073709551615 (IntKind.u64.wrap a2))) + 1))
def fc (F : Nat) (a1 : List UInt8) (a2 : Int) (a3 : Int) : Option (Int × Int) :=
grd (decide (a3 = 0)) <|
fe F a1 a2
def gX (F : Nat) (a1 : List UInt8) (a2 : Int) (a3 : Int) : Option (Int × Int) :=
bif decide (a1 = ([] : List UInt8)) then
  some (0, 2)
else
  grd ((decide (2 ≤ a2)) && (decide (a2 ≤ 36))) <|
  fc F a1 a2 a3
def dZ (y35 : Int) : Option (Int × Int) :=
some (y35, 0)
def dY (y19 : Bool) (x21 : Int) : Option (Int × Int) :=
grd (decide (0 ≤ IntKind.u64.wrap 63)) <|
bif (!y19) && (decide (IntKind.u64.wrap (1 * 2 ^ min (Int.toNat (IntKind.u64.wrap 63)) IntKind.u64.bits) ≤ x21)) then
  some (IntKind.i64.wrap (IntKind.u64.wrap ((IntKind.u64.wrap (1 * 2 ^ min (Int.toNat (IntKind.u64.wrap 63)) IntKind.u64.bits)) - 1)), 1)
else
  bif y19 && (decide (IntKind.u64.wrap (1 * 2 ^ min (Int.toNat (IntKind.u64.wrap 63)) IntKind.u64.bits) < x21)) then
    some (IntKind.i64.wrap (0 - (IntKind.i64.wrap (IntKind.u64.wrap (1 * 2 ^ min (Int.toNat (IntKind.u64.wrap 63)) IntKind.u64.bits)))), 1)
  else
    bif y19 then
      dZ (IntKind.i64.wrap (0 - (IntKind.i64.wrap x21)))
    else
      dZ (IntKind.i64.wrap x21)
def de (F : Nat) (a2 : Int) (a3 : Int) (y18 : List UInt8) (y19 : Bool) : Option (Int × Int) :=
jJ (gX F y18 a2 a3) fun x21 x22 =>
bif (!decide (x22 = 0)) && (!decide (x22 = 1)) then
  some (0, x22)
else
  grd (decide (a3 = 0)) <|
  dY y19 x21
def gY (F : Nat) (a1 : List UInt8) (a2 : Int) (a3 : Int) : Option (Int × Int) :=
bif decide (a1 = ([] : List UInt8)) then
  some (0, 2)
else
  grd (ct 0 a1.length) <|
  lt (at_ a1 0) fun x8 =>
  bif decide (x8 = 43) then
    grd (iU 1 a1.length) <|
    lt (eJ a1 1) fun x12 =>
    de F a2 a3 x12 false
  else
    bif decide (x8 = 45) then
      grd (iU 1 a1.length) <|
      lt (eJ a1 1) fun x16 =>
      de F a2 a3 x16 true
    else
      de F a2 a3 a1 false
def il (F : Nat) (a1 : List UInt8) : Option (Int × Int) :=
jJ (gY F a1 10 0) fun x44 x45 =>
some (x44, x45)
def eX (y41 : Int) : Option (Int × Int) :=
some (y41, 0)
def eW (a1 : List UInt8) (y34 : Int) : Option (Int × Int) :=
grd (ct 0 a1.length) <|
lt (at_ a1 0) fun x37 =>
bif decide (x37 = 45) then
  grd (okI (0 - y34)) <|
  eX (0 - y34)
else
  eX y34
def eZ (a1 : List UInt8) (y18 : List UInt8) (rec24 : (Int × Int) → Option (Int × Int)) (y22 : Int) (y23 : Int) : Option (Int × Int) :=
bif decide (y23 < (y18.length : Int)) then
  grd (ct y23 y18.length) <|
  lt (at_ y18 y23) fun x28 =>
  bif decide (9 < ((x28 - 48).toNat : Int)) then
    some (0, 2)
  else
    grd (okI (y22 * 10)) <|
    grd (okI ((y22 * 10) + ((x28 - 48).toNat : Int))) <|
    grd (okI (y23 + 1)) <|
    rec24 ((y22 * 10) + ((x28 - 48).toNat : Int), y23 + 1)
else
  eW a1 y22
def eY (a1 : List UInt8) (y18 : List UInt8) (n : Nat) : (Int × Int) → Option (Int × Int) :=
  loop (fun rec x => eZ a1 y18 rec x.1 x.2) n
def eV (F : Nat) (a1 : List UInt8) (y18 : List UInt8) : Option (Int × Int) :=
grd (dn y18.length) <|
eY a1 y18 F (0, 0)
def ic (F : Nat) (a1 : List UInt8) : Option (Int × Int) :=
bif (decide (0 < (a1.length : Int))) && (decide ((a1.length : Int) < 19)) then
  grd (ct 0 a1.length) <|
  lt (at_ a1 0) fun x7 =>
  dk (!(decide (x7 = 45))) (ct 0 a1.length) <|
  lt (at_ a1 0) fun x11 =>
  bif (decide (x7 = 45)) || (decide (x11 = 43)) then
    grd (iU 1 a1.length) <|
    lt (eJ a1 1) fun x15 =>
    bif decide ((x15.length : Int) < 1) then
      some (0, 2)
    else
      eV F a1 x15
  else
    eV F a1 a1
else
  il F a1
def cR (F : Nat) (a1 : List UInt8) : Option (Int × Int) :=
jJ (ic F a1) fun x4 x5 =>
bif !decide (x5 = 0) then
  grd (okS a1.length) <|
  grd (decide (x5 = 1 ∨ x5 = 2)) <|
  some (x4, 1)
else
  some (x4, 0)
end Go.Pv
namespace Go.Proofs.YtgjkjkmmgdbcoaaGreatDoor
open Go.RowKit Go.Av Go.Pv
theorem en70_num : ∀ (args : Array Value) (w : World), (callFunc 70 args).run Tryz.prog w = .ok (.enter 70 args) w := fun _ _ => by kernel_rfl
theorem en71_num : ∀ (args : Array Value) (w : World), (callFunc 71 args).run Tryz.prog w = .ok (.enter 71 args) w := fun _ _ => by kernel_rfl
theorem uX : ∀ (args : Array Value) (w : World), (callFunc 100 args).run Tryz.prog w = .ok (.enter 100 args) w := fun _ _ => by kernel_rfl
theorem uW : ∀ (args : Array Value) (w : World), (callFunc 120 args).run Tryz.prog w = .ok (.enter 120 args) w := fun _ _ => by kernel_rfl
theorem fZ : ∀ (args : Array Value) (w : World), (callFunc 130 args).run Tryz.prog w = .ok (.enter 130 args) w := fun _ _ => by kernel_rfl
theorem uU : ∀ (args : Array Value) (w : World), (callFunc 131 args).run Tryz.prog w = .ok (.enter 131 args) w := fun _ _ => by kernel_rfl
set_option maxRecDepth 100000 in
set_option maxHeartbeats 1000000 in
theorem eU (F : Nat) (a1 : UInt8) (r2 : UInt8) (H : fC F a1 = some r2) : ACalls Tryz.prog 130 [u8 a1] [] (Ret (u8 r2) []) := by
 unfold fC at H
 refine az Tryz.func130 rfl rfl ?_;show AW _ _ 5 _ _ _;refine ah <| ac ?_;show AR _ _ _ _ _ [0] _;refine za rfl <| ai <| ah <| ac ?_;show AR _ _ _ _ _ [0, 1, 2] _;refine zm rfl <| zS rfl (g_or8 (a := a1) (b := 32) rfl rfl) <| za rfl <| ai <| aQ ?_;obtain rfl := ay H;exact And.intro rfl (Exists.intro _ (Exists.intro _ ⟨aV rfl (.refl _), aL [] rfl, rfl, rfl⟩))
abbrev _root_.Go.Av.af := @Bool.eq_false_or_eq_true
set_option maxRecDepth 100000 in
set_option maxHeartbeats 1000000 in
theorem mm (F : Nat) (a1 : List UInt8) (r2 : Bool) (H : iV F a1 = some r2) : ACalls Tryz.prog 131 [S a1] [] (Ret (B r2) []) := by
 unfold iV at H
 refine az Tryz.func131 rfl rfl ?_;show AW _ _ 94 _ _ _;refine ah <| ac ?_;show AR _ _ _ _ _ [0] _;refine za rfl <| ai <| ah <| ac ?_;show AR _ _ _ _ _ [0] _;refine za rfl <| ai <| ah <| ac ?_;show AR _ _ _ _ _ [0] _;refine za rfl <| ai <| bK (X := (List UInt8)) (fun y15 => ⟨[(0, S y15), (3, .v (.int .i32 94)), (4, i64 0)], [], []⟩) (fun y15 => dP F y15 = some r2) ?_ ?_
 ·refine ah ?_;obtain ⟨g4, H⟩ := cq H;obtain ⟨x5, e6, H⟩ := bP H;obtain ⟨g8, H⟩ := cq H;obtain ⟨x9, e10, H⟩ := bP H;refine ac ?_;show AR _ _ _ _ _ [0, 1, 2, 3, 4, 5, 6, 7, 8, 9, 10, 11, 12] _;refine zm rfl <| zS rfl (bb ag rfl) <| zS rfl (di rfl rfl) <| zm rfl <| aG (l := []) 18 (B ((decide (1 ≤ (a1.length : Int))) && ((decide (x5 = 45)) || (decide (x9 = 43))))) (fun K => ?_) ?_
  ·rcases af (decide (1 ≤ (a1.length : Int))) with h3 | h3
   ·refine zM h3 rfl <| zU h3 rfl (bi ag rfl rfl (g4 h3) e6) <| zU h3 rfl (dr (a := x5) (b := 45) rfl rfl) <| zM h3 rfl <| aG (l := [12]) 17 (B ((decide (x5 = 45)) || (decide (x9 = 43)))) (fun K => ?_) ?_
    ·rcases af (decide (x5 = 45)) with h7 | h7
     ·refine zF h7 rfl <| zF h7 rfl <| zF h7 rfl <| zU h3 rfl (ap (av := .v _) rfl h7 rfl) ?_;exact K _ 3 _ (am (dz h7)) rfl rfl
     ·refine zM h7 rfl <| zU h7 rfl (bi ag rfl rfl (g8 (eH h3 (nf h7))) e10) <| zU h7 rfl (dr (a := x9) (b := 43) rfl rfl) <| zU h3 rfl (ao (av := .v _) rfl h7 rfl) ?_;exact K _ 3 _ (am (dA h7)) rfl rfl
    refine zS rfl (ap (av := .v _) rfl h3 rfl) ?_;exact K _ 5 _ (am (bI h3)) rfl rfl
   ·refine zF h3 rfl <| zF h3 rfl <| zF h3 rfl <| zF h3 rfl <| gU rfl rfl rfl rfl rfl <| gU rfl rfl rfl rfl rfl <| gU rfl rfl rfl rfl rfl <| zF h3 rfl <| zS rfl (ao (av := .v _) rfl h3 rfl) ?_;exact K _ 8 _ (am (bJ h3)) rfl rfl
  refine ai <| aE rfl (fun c11 => ?_) (fun c11 => ?_)
  ·replace H := bg c11 H;obtain ⟨g12, H⟩ := aY H;obtain ⟨x13, e14, H⟩ := bP H;refine ac ?_;show AR _ _ _ _ _ [0, 1, 2] _;refine zm rfl <| zS rfl (fR ag rfl rfl g12 e14) <| za rfl <| ai ?_;exact Exists.intro x13 ⟨H, aZ [] (.cons (.refl _) (.cons (.refl _) (.cons (.refl _) (.nil _)))) rfl⟩
  ·replace H := ba c11 H;refine aJ ?_;exact Exists.intro a1 ⟨H, aZ [] (.cons (.refl _) (.cons (.refl _) (.cons (.refl _) (.nil _)))) rfl⟩
 rintro y15 H;replace H : dP F y15 = some r2 := H
 unfold dP at H
 refine ah <| ac ?_;show AR _ _ _ _ _ [0] _;refine za rfl <| ai <| bK (X := Int × Int × Bool) (fun (y45, y46, y47) => ⟨[(0, S y15), (3, .v (.int .i32 y45)), (4, i64 y46), (5, B y47)], [], []⟩) (fun (y45, y46, y47) => dQ F y15 y45 y46 y47 = some r2) ?_ ?_
 ·refine ah ?_;obtain ⟨g18, H⟩ := cq H;obtain ⟨x19, e20, H⟩ := bP H;obtain ⟨g22, H⟩ := cq H;obtain ⟨x23, e24, H⟩ := bP H;obtain ⟨x25, e26, H⟩ := gy H;obtain ⟨g28, H⟩ := cq H;obtain ⟨x29, e30, H⟩ := bP H;obtain ⟨x31, e32, H⟩ := gy H;obtain ⟨g34, H⟩ := cq H;obtain ⟨x35, e36, H⟩ := bP H;obtain ⟨x37, e38, H⟩ := gy H;refine ac ?_;show AR _ _ _ _ _ [0, 1, 2, 3, 4, 5, 6, 7, 8, 9, 10, 11, 12, 13, 14, 15, 16, 17, 18, 19, 20, 21, 22, 23, 24, 25] _;refine zm rfl <| zS rfl (bb ag rfl) <| zS rfl (di rfl rfl) <| zm rfl <| aG (l := [8, 9, 10, 11, 12, 13, 14, 15, 16, 17, 18, 19, 20, 21, 22, 23, 24, 25]) 28 (B ((decide (2 ≤ (y15.length : Int))) && (decide (x19 = 48)))) (fun K => ?_) ?_
  ·rcases af (decide (2 ≤ (y15.length : Int))) with h17 | h17
   ·refine zM h17 rfl <| zU h17 rfl (bi ag rfl rfl (g18 h17) e20) <| zU h17 rfl (dr (a := x19) (b := 48) rfl rfl) <| zS rfl (ap (av := .v _) rfl h17 rfl) ?_;exact K _ 3 _ (am (bI h17)) rfl rfl
   ·refine zF h17 rfl <| zF h17 rfl <| zF h17 rfl <| zS rfl (ao (av := .v _) rfl h17 rfl) ?_;exact K _ 3 _ (am (bJ h17)) rfl rfl
  refine zm rfl <| aG (l := []) 46 (B (((decide (2 ≤ (y15.length : Int))) && (decide (x19 = 48))) && (((decide (x25 = 98)) || (decide (x31 = 111))) || (decide (x37 = 120))))) (fun K => ?_) ?_
  ·rcases af ((decide (2 ≤ (y15.length : Int))) && (decide (x19 = 48))) with h21 | h21
   ·refine zM h21 rfl <| zU h21 rfl (bi ag rfl rfl (g22 h21) e24) <| zT h21 rfl (aU rfl fZ rfl (eU F x23 x25 (e26 h21)) ?_);refine zU h21 rfl (dr (a := x25) (b := 98) rfl rfl) <| zM h21 rfl <| aG (l := [19, 20, 21, 22, 23, 24, 25]) 39 (B ((decide (x25 = 98)) || (decide (x31 = 111)))) (fun K => ?_) ?_
    ·rcases af (decide (x25 = 98)) with h27 | h27
     ·refine zF h27 rfl <| zF h27 rfl <| zF h27 rfl <| zF h27 rfl <| zU h21 rfl (ap (av := .v _) rfl h27 rfl) ?_;exact K _ 4 _ (am (dz h27)) rfl rfl
     ·refine zM h27 rfl <| zU h27 rfl (bi ag rfl rfl (g28 (eH h21 (nf h27))) e30) <| zT h27 rfl (aU rfl fZ rfl (eU F x29 x31 (e32 (eH h21 (nf h27)))) ?_);refine zU h27 rfl (dr (a := x31) (b := 111) rfl rfl) <| zU h21 rfl (ao (av := .v _) rfl h27 rfl) ?_;exact K _ 4 _ (am (dA h27)) rfl rfl
    refine zM h21 rfl <| aG (l := [25]) 45 (B (((decide (x25 = 98)) || (decide (x31 = 111))) || (decide (x37 = 120)))) (fun K => ?_) ?_
    ·rcases af ((decide (x25 = 98)) || (decide (x31 = 111))) with h33 | h33
     ·refine zF h33 rfl <| zF h33 rfl <| zF h33 rfl <| zF h33 rfl <| zU h21 rfl (ap (av := .v _) rfl h33 rfl) ?_;exact K _ 4 _ (am (dz h33)) rfl rfl
     ·refine zM h33 rfl <| zU h33 rfl (bi ag rfl rfl (g34 (eH h21 (nf h33))) e36) <| zT h33 rfl (aU rfl fZ rfl (eU F x35 x37 (e38 (eH h21 (nf h33)))) ?_);refine zU h33 rfl (dr (a := x37) (b := 120) rfl rfl) <| zU h21 rfl (ao (av := .v _) rfl h33 rfl) ?_;exact K _ 4 _ (am (dA h33)) rfl rfl
    refine zS rfl (ap (av := .v _) rfl h21 rfl) ?_;exact K _ 8 _ (am (bI h21)) rfl rfl
   ·refine zF h21 rfl <| zF h21 rfl <| zF h21 rfl <| zF h21 rfl <| zF h21 rfl <| gU rfl rfl rfl rfl rfl <| gU rfl rfl rfl rfl rfl <| gU rfl rfl rfl rfl rfl <| gU rfl rfl rfl rfl rfl <| zF h21 rfl <| zF h21 rfl <| gU rfl rfl rfl rfl rfl <| gU rfl rfl rfl rfl rfl <| gU rfl rfl rfl rfl rfl <| gU rfl rfl rfl rfl rfl <| zF h21 rfl <| zS rfl (ao (av := .v _) rfl h21 rfl) ?_;exact K _ 16 _ (am (bJ h21)) rfl rfl
  refine ai <| aE rfl (fun c39 => ?_) (fun c39 => ?_)
  ·replace H := bg c39 H;refine ah <| ac ?_;show AR _ _ _ _ _ [0] _;refine za rfl <| ai <| ah <| ac ?_;show AR _ _ _ _ _ [0] _;refine za rfl <| ai ?_;obtain ⟨g40, H⟩ := aY H;obtain ⟨x41, e42, H⟩ := bP H;obtain ⟨x43, e44, H⟩ := cu H;refine ac ?_;show AR _ _ _ _ _ [0, 1, 2, 3, 4] _;refine zm rfl <| zS rfl (bi ag rfl rfl g40 e42) <| aq rfl rfl (aU rfl fZ rfl (eU F x41 x43 e44) ?_);refine zS rfl (dr (a := x43) (b := 120) rfl rfl) <| za rfl <| ai ?_;exact Exists.intro (48, 2, decide (x43 = 120)) ⟨H, aZ [] (.cons (.refl _) (.cons (.refl _) (.cons (.refl _) (.cons (.refl _) (.nil _))))) rfl⟩
  ·replace H := ba c39 H;refine aJ ?_;exact Exists.intro (94, 0, false) ⟨H, aZ [] (.cons (.refl _) (.cons (.refl _) (.cons (.refl _) (.cons (.refl _) (.nil _))))) rfl⟩
 rintro ⟨y45, y46, y47⟩ H;replace H : dQ F y15 y45 y46 y47 = some r2 := H
 unfold dQ at H
 refine bK (X := Int) (fun y84 => ⟨[(3, .v (.int .i32 y84))], [], []⟩) (fun y84 => eM y84 = some r2) ?_ ?_
 ·refine be <| cN (X := Nat × Int × Int) (fun (n52, y49, y50) => ⟨[(0, S y15), (3, .v (.int .i32 y49)), (4, i64 y50), (5, B y47)], [], []⟩) (fun (n52, y49, y50) => dR F y15 y47 n52 (y49, y50) = some r2) (fun (n52, y49, y50) => n52) (F, y45, y46) H (aZ [] (.cons (.refl _) (.cons (.refl _) (.cons (.refl _) (.cons (.refl _) (.nil _))))) rfl) ?_;rintro ⟨n52, y49, y50⟩ H;obtain ⟨n52, rfl, H⟩ := dK H;replace H : gz F y15 y47 (dR F y15 y47 n52) y49 y50 = some r2 := H
  unfold gz at H
  refine ah <| ah <| ac ?_;show AR _ _ _ _ _ [0, 1, 2, 3] _;refine zm rfl <| zm rfl <| zS rfl (bb ag rfl) <| zS rfl (bN rfl rfl) <| ai <| aE rfl (fun c53 => ?_) (fun c53 => ?_)
  ·replace H := bg c53 H;refine aJ <| bK (X := Int) (fun y81 => ⟨[(0, S y15), (3, .v (.int .i32 y81)), (4, i64 y50), (5, B y47)], [], []⟩) (fun y81 => dl y50 (dR F y15 y47 n52) y81 = some r2) ?_ ?_
   ·refine be <| ah <| ah ?_;obtain ⟨g54, H⟩ := aY H;obtain ⟨x55, e56, H⟩ := bP H;obtain ⟨g58, H⟩ := cq H;obtain ⟨x59, e60, H⟩ := bP H;obtain ⟨g63, H⟩ := cq H;obtain ⟨x64, e65, H⟩ := bP H;obtain ⟨x66, e67, H⟩ := gy H;obtain ⟨g69, H⟩ := cq H;obtain ⟨x70, e71, H⟩ := bP H;obtain ⟨x72, e73, H⟩ := gy H;refine ac ?_;show AR _ _ _ _ _ [0, 1, 2, 3, 4, 5, 6, 7, 8, 9, 10, 11, 12, 13, 14, 15, 16, 17, 18, 19, 20, 21, 22, 23, 24, 25, 26] _;refine zm rfl <| zm rfl <| zS rfl (bi ag rfl rfl g54 e56) <| zS rfl (cL rfl rfl) <| zm rfl <| aG (l := [10, 11, 12, 13, 14, 15, 16, 17, 18, 19, 20, 21, 22, 23, 24, 25, 26]) 66 (B ((decide (48 ≤ (x55.toNat : Int))) && (decide ((x59.toNat : Int) ≤ 57)))) (fun K => ?_) ?_
    ·rcases af (decide (48 ≤ (x55.toNat : Int))) with h57 | h57
     ·refine zM h57 rfl <| zM h57 rfl <| zU h57 rfl (bi ag rfl rfl (g58 h57) e60) <| zU h57 rfl (cL rfl rfl) <| zS rfl (ap (av := .v _) rfl h57 rfl) ?_;exact K _ 4 _ (am (bI h57)) rfl rfl
     ·refine zF h57 rfl <| zF h57 rfl <| zF h57 rfl <| zF h57 rfl <| zS rfl (ao (av := .v _) rfl h57 rfl) ?_;exact K _ 4 _ (am (bJ h57)) rfl rfl
    refine zm rfl <| aG (l := []) 83 (B (((decide (48 ≤ (x55.toNat : Int))) && (decide ((x59.toNat : Int) ≤ 57))) || ((y47 && (decide (97 ≤ (x66.toNat : Int)))) && (decide ((x72.toNat : Int) ≤ 102))))) (fun K => ?_) ?_
    ·rcases af ((decide (48 ≤ (x55.toNat : Int))) && (decide ((x59.toNat : Int) ≤ 57))) with h61 | h61
     ·refine zF h61 rfl <| zF h61 rfl <| gU rfl rfl rfl rfl rfl <| gU rfl rfl rfl rfl rfl <| gU rfl rfl rfl rfl rfl <| gU rfl rfl rfl rfl rfl <| gU rfl rfl rfl rfl rfl <| zF h61 rfl <| zF h61 rfl <| gU rfl rfl rfl rfl rfl <| gU rfl rfl rfl rfl rfl <| gU rfl rfl rfl rfl rfl <| gU rfl rfl rfl rfl rfl <| gU rfl rfl rfl rfl rfl <| zF h61 rfl <| zS rfl (ap (av := .v _) rfl h61 rfl) ?_;exact K _ 15 _ (am (dz h61)) rfl rfl
     ·refine zM h61 rfl <| zM h61 rfl <| aG (l := [19, 20, 21, 22, 23, 24, 25, 26]) 75 (B (y47 && (decide (97 ≤ (x66.toNat : Int))))) (fun K => ?_) ?_
      ·rcases af y47 with h62 | h62
       ·refine zM h62 rfl <| zM h62 rfl <| zU h62 rfl (bi ag rfl rfl (g63 (eH (nf h61) h62)) e65) <| zT h62 rfl (aU rfl fZ rfl (eU F x64 x66 (e67 (eH (nf h61) h62))) ?_);refine zU h62 rfl (cL rfl rfl) <| zU h61 rfl (ap (av := .v _) rfl h62 rfl) ?_;exact K _ 5 _ (am (bI h62)) rfl rfl
       ·refine zF h62 rfl <| zF h62 rfl <| zF h62 rfl <| zF h62 rfl <| zF h62 rfl <| zU h61 rfl (ao (av := .v _) rfl h62 rfl) ?_;exact K _ 5 _ (am (bJ h62)) rfl rfl
      refine zM h61 rfl <| aG (l := [26]) 82 (B ((y47 && (decide (97 ≤ (x66.toNat : Int)))) && (decide ((x72.toNat : Int) ≤ 102)))) (fun K => ?_) ?_
      ·rcases af (y47 && (decide (97 ≤ (x66.toNat : Int)))) with h68 | h68
       ·refine zM h68 rfl <| zM h68 rfl <| zU h68 rfl (bi ag rfl rfl (g69 (eH (nf h61) h68)) e71) <| zT h68 rfl (aU rfl fZ rfl (eU F x70 x72 (e73 (eH (nf h61) h68))) ?_);refine zU h68 rfl (cL rfl rfl) <| zU h61 rfl (ap (av := .v _) rfl h68 rfl) ?_;exact K _ 5 _ (am (bI h68)) rfl rfl
       ·refine zF h68 rfl <| zF h68 rfl <| zF h68 rfl <| zF h68 rfl <| zF h68 rfl <| zU h61 rfl (ao (av := .v _) rfl h68 rfl) ?_;exact K _ 5 _ (am (bJ h68)) rfl rfl
      refine zS rfl (ao (av := .v _) rfl h61 rfl) ?_;exact K _ 5 _ (am (dA h61)) rfl rfl
    refine ai <| aE rfl (fun c74 => ?_) (fun c74 => ?_)
    ·replace H := bg c74 H;refine ah <| ac ?_;show AR _ _ _ _ _ [0] _;refine za rfl <| ai <| cH ?_;exact Exists.intro 48 ⟨H, aZ [] (.cons (.refl _) (.cons (.refl _) (.cons (.refl _) (.cons (.refl _) (.nil _))))) rfl⟩
    ·replace H := ba c74 H;refine aJ <| ah <| ah ?_;obtain ⟨g75, H⟩ := aY H;obtain ⟨x76, e77, H⟩ := bP H;refine ac ?_;show AR _ _ _ _ _ [0, 1, 2, 3] _;refine zm rfl <| zm rfl <| zS rfl (bi ag rfl rfl g75 e77) <| zS rfl (dr (a := x76) (b := 95) rfl rfl) <| ai <| aE rfl (fun c78 => ?_) (fun c78 => ?_)
     ·replace H := bg c78 H;refine ah <| ah <| ac ?_;show AR _ _ _ _ _ [0, 1] _;refine zm rfl <| zS rfl (fm rfl rfl) <| ai <| aE rfl (fun c79 => ?_) (fun c79 => ?_)
      ·replace H := bg c79 H;refine ah <| ac ?_;show AR _ _ _ _ _ [0] _;refine za rfl <| ai <| aQ ?_;obtain rfl := ay H;exact And.intro rfl (Exists.intro _ (Exists.intro _ ⟨aV rfl (.refl _), aL [] rfl, rfl, rfl⟩))
      ·replace H := ba c79 H;refine aJ <| ah <| ac ?_;show AR _ _ _ _ _ [0] _;refine za rfl <| ai <| cH ?_;exact Exists.intro 95 ⟨H, aZ [] (.cons (.refl _) (.cons (.refl _) (.cons (.refl _) (.cons (.refl _) (.nil _))))) rfl⟩
     ·replace H := ba c78 H;refine aJ <| ah <| ah <| ac ?_;show AR _ _ _ _ _ [0, 1] _;refine zm rfl <| zS rfl (bt rfl rfl) <| ai <| aE rfl (fun c80 => ?_) (fun c80 => ?_)
      ·replace H := bg c80 H;refine ah <| ac ?_;show AR _ _ _ _ _ [0] _;refine za rfl <| ai <| aQ ?_;obtain rfl := ay H;exact And.intro rfl (Exists.intro _ (Exists.intro _ ⟨aV rfl (.refl _), aL [] rfl, rfl, rfl⟩))
      ·replace H := ba c80 H;refine aJ <| ac ?_;show AR _ _ _ _ _ [0] _;refine za rfl <| ai ?_;exact Exists.intro 33 ⟨H, aZ [] (.cons (.refl _) (.cons (.refl _) (.cons (.refl _) (.cons (.refl _) (.nil _))))) rfl⟩
   rintro y81 H;replace H : dl y50 (dR F y15 y47 n52) y81 = some r2 := H
   unfold dl at H
   obtain ⟨g83, H⟩ := aY H;refine ac ?_;show AR _ _ _ _ _ [0, 1, 2] _;refine zm rfl <| zS rfl (dE rfl rfl g83) <| za rfl <| ai ?_;exact Exists.intro (n52, y81, y50 + 1) ⟨H, Nat.lt_succ_self _, aZ [] (.cons (.refl _) (.cons (.refl _) (.cons (.refl _) (.cons (.refl _) (.nil _))))) rfl⟩
  ·replace H := ba c53 H;refine cH ?_;exact Exists.intro y49 ⟨H, aZ [] (.cons (.refl _) (.nil _)) rfl⟩
 rintro y84 H;replace H : eM y84 = some r2 := H
 unfold eM at H
 refine ah <| ac ?_;show AR _ _ _ _ _ [0, 1, 2] _;refine zm rfl <| zS rfl (fm rfl rfl) <| za rfl <| ai <| aQ ?_;obtain rfl := ay H;exact And.intro rfl (Exists.intro _ (Exists.intro _ ⟨aV rfl (.refl _), aL [] rfl, rfl, rfl⟩))
abbrev _root_.Go.Av.bS := @Tryz.underlying126
abbrev _root_.Go.Av.aO := @Tryz.underlying5
set_option maxRecDepth 100000 in
set_option maxHeartbeats 1000000 in
theorem ox (F : Nat) (a1 : List UInt8) (a2 : Int) (a3 : Int) (r4 : Int) (r5 : Int) (H : gX F a1 a2 a3 = some (r4, r5)) : ACalls Tryz.prog 120 [S a1, i64 a2, i64 a3] [] (Ret (.tup [.v (.int .u64 r4), gB 126 .i64 r5]) []) := by
 unfold gX at H
 refine az Tryz.func120 rfl rfl ?_;show AW _ _ 172 _ _ _;refine ah <| ac ?_;show AR _ _ _ _ _ [0, 1] _;refine za rfl <| za rfl <| ai <| ah <| ah <| ac ?_;show AR _ _ _ _ _ [0, 1] _;refine zm rfl <| zS rfl (ig rfl rfl) <| ai <| aE rfl (fun c6 => ?_) (fun c6 => ?_)
 ·replace H := bg c6 H;refine ah <| ac ?_;show AR _ _ _ _ _ [0, 1, 2] _;refine zS rfl (bz (a := .v _) bS rfl rfl) <| za rfl <| zS rfl (aB (av := .ifc _ _) rfl) <| ai <| aQ ?_;obtain ⟨rfl, rfl⟩ := gw H;exact And.intro rfl (Exists.intro _ (Exists.intro _ ⟨bV rfl (.refl _) (.refl _), aL [] rfl, rfl, rfl⟩))
 ·replace H := ba c6 H;refine aJ <| ah <| ac ?_;show AR _ _ _ _ _ [0, 1, 2] _;refine zm rfl <| zS rfl (bt rfl rfl) <| za rfl <| ai <| ah <| ac ?_;show AR _ _ _ _ _ [0, 1] _;refine zm rfl <| za rfl <| ai <| bK (X := Unit) (fun _ => ⟨[(0, S a1), (1, i64 a2), (2, i64 a3), (8, B (decide (a2 = 0))), (9, S a1)], [], []⟩) (fun _ => fc F a1 a2 a3 = some (r4, r5)) ?_ ?_
  ·refine be <| ah <| ac ?_;show AR _ _ _ _ _ [0, 1, 2, 3, 4, 5, 6] _;refine zm rfl <| zS rfl (cL rfl rfl) <| zm rfl <| aG (l := [6]) 31 (B ((decide (2 ≤ a2)) && (decide (a2 ≤ 36)))) (fun K => ?_) ?_
   ·rcases af (decide (2 ≤ a2)) with h7 | h7
    ·refine zM h7 rfl <| zU h7 rfl (cL rfl rfl) <| zS rfl (ap (av := .v _) rfl h7 rfl) ?_;exact K _ 2 _ (am (bI h7)) rfl rfl
    ·refine zF h7 rfl <| zF h7 rfl <| zS rfl (ao (av := .v _) rfl h7 rfl) ?_;exact K _ 2 _ (am (bJ h7)) rfl rfl
   refine za rfl <| ai ?_;obtain ⟨g9, H⟩ := aY H;refine aE rfl (fun _ => ?_) (fun hx => jO g9 hx);refine aJ ?_;exact Exists.intro () ⟨H, aZ [] (.cons (.refl _) (.cons (.refl _) (.cons (.refl _) (.cons (.refl _) (.cons (.refl _) (.nil _)))))) rfl⟩
  rintro _ H;replace H : fc F a1 a2 a3 = some (r4, r5) := H
  unfold fc at H
  refine bK (X := Unit) (fun _ => ⟨[(0, S a1), (1, i64 a2), (2, i64 64), (8, B (decide (a2 = 0))), (9, S a1)], [], []⟩) (fun _ => fe F a1 a2 = some (r4, r5)) ?_ ?_
  ·refine ah <| ac ?_;show AR _ _ _ _ _ [0, 1] _;refine zm rfl <| zS rfl (bt rfl rfl) <| ai ?_;obtain ⟨g12, H⟩ := aY H;refine aE rfl (fun _ => ?_) (fun hx => jO g12 hx);refine ac ?_;show AR _ _ _ _ _ [0] _;refine za rfl <| ai ?_;exact Exists.intro () ⟨H, aZ [] (.cons (.refl _) (.cons (.refl _) (.cons (.refl _) (.cons (.refl _) (.cons (.refl _) (.nil _)))))) rfl⟩
  rintro _ H;replace H : fe F a1 a2 = some (r4, r5) := H
  unfold fe at H
  refine ah <| ac ?_;show AR _ _ _ _ _ [0] _;refine za rfl <| ai <| bK (X := Int) (fun y17 => ⟨[(0, S a1), (1, i64 a2), (2, i64 64), (8, B (decide (a2 = 0))), (9, S a1), (10, .v (.int .u64 y17))], [], []⟩) (fun y17 => dB F a1 a2 y17 = some (r4, r5)) ?_ ?_
  ·refine ah <| ac ?_;show AR _ _ _ _ _ [0] _;refine zm rfl <| ai <| be <| ah <| ac ?_;show AR _ _ _ _ _ [0, 1] _;refine zS rfl (bt rfl rfl) <| za rfl <| ai <| aE rfl (fun c14 => ?_) (fun c14 => ?_)
   ·replace H := bg c14 H;refine ac ?_;show AR _ _ _ _ _ [0] _;refine za rfl <| ai ?_;exact Exists.intro 1844674407370955162 ⟨H, aZ [] (.cons (.refl _) (.cons (.refl _) (.cons (.refl _) (.cons (.refl _) (.cons (.refl _) (.cons (.refl _) (.nil _))))))) rfl⟩
   ·replace H := ba c14 H;refine ah <| ac ?_;show AR _ _ _ _ _ [0, 1] _;refine zS rfl (bt rfl rfl) <| za rfl <| ai <| aE rfl (fun c15 => ?_) (fun c15 => ?_)
    ·replace H := bg c15 H;refine ac ?_;show AR _ _ _ _ _ [0] _;refine za rfl <| ai ?_;exact Exists.intro 1152921504606846976 ⟨H, aZ [] (.cons (.refl _) (.cons (.refl _) (.cons (.refl _) (.cons (.refl _) (.cons (.refl _) (.cons (.refl _) (.nil _))))))) rfl⟩
    ·replace H := ba c15 H;obtain ⟨g16, H⟩ := aY H;refine ac ?_;show AR _ _ _ _ _ [0, 1, 2, 3, 4] _;refine zm rfl <| zS rfl (dq (by kernel_rfl) Tryz.underlying140 rfl) <| zS rfl (kf rfl rfl (of_decide_eq_true g16)) <| zS rfl (mJ rfl rfl) <| za rfl <| ai ?_;exact Exists.intro (IntKind.u64.wrap ((IntKind.u64.wrap (Int.tdiv 18446744073709551615 (IntKind.u64.wrap a2))) + 1)) ⟨H, aZ [] (.cons (.refl _) (.cons (.refl _) (.cons (.refl _) (.cons (.refl _) (.cons (.refl _) (.cons (.refl _) (.nil _))))))) rfl⟩
  rintro y17 H;replace H : dB F a1 a2 y17 = some (r4, r5) := H
  unfold dB at H
  refine ah ?_;obtain ⟨g19, H⟩ := aY H;refine ac ?_;show AR _ _ _ _ _ [0, 1, 2, 3, 4] _;refine zm rfl <| zS rfl (dq (by kernel_rfl) Tryz.underlying120 rfl) <| zS rfl (tC rfl rfl (of_decide_eq_true g19)) <| zS rfl (mI rfl rfl) <| za rfl <| ai <| ah <| ac ?_;show AR _ _ _ _ _ [0] _;refine za rfl <| ai <| ah <| ac ?_;show AR _ _ _ _ _ [0] _;refine za rfl <| ai <| bK (X := Bool × Int) (fun (y53, y54) => ⟨[(9, S a1), (12, B y53), (13, .v (.int .u64 y54))], [], []⟩) (fun (y53, y54) => ff F a1 y53 y54 = some (r4, r5)) ?_ ?_
  ·refine ah ?_;obtain ⟨g20, H⟩ := aY H;refine ac ?_;show AR _ _ _ _ _ [0, 1, 2, 3] _;refine zm rfl <| zX rfl (ik (bytes := 1) ag ab aO rfl g20) ?_;rintro _ _ ⟨t21, rfl, rfl⟩;refine zS rfl (bc ab rfl) <| zm rfl <| ai <| be <| cN (X := Nat × Bool × Int × Int) (fun (n26, y22, y23, y24) => ⟨[(1, i64 a2), (8, B (decide (a2 = 0))), (9, S a1), (10, .v (.int .u64 y17)), (11, .v (.int .u64 (IntKind.u64.wrap ((IntKind.u64.wrap (1 * 2 ^ min (Int.toNat (IntKind.u64.wrap 64)) IntKind.u64.bits)) - 1)))), (12, B y22), (13, .v (.int .u64 y23)), (99, slE Enc.byte a1 (some t21)), (100, i64 (a1.length : Int)), (101, i64 y24)], [], [.tok t21 5]⟩) (fun (n26, y22, y23, y24) => cB F a1 a2 y17 n26 (y22, y23, y24) = some (r4, r5)) (fun (n26, y22, y23, y24) => n26) (F, false, 0, 0) H (aZ [0] (.cons (.refl _) (.cons (.refl _) (.cons (.refl _) (.cons (.refl _) (.cons (.refl _) (.cons (.refl _) (.cons (.refl _) (.cons (.refl _) (.cons (.refl _) (.cons (.refl _) (.nil _))))))))))) rfl) ?_;rintro ⟨n26, y22, y23, y24⟩ H;obtain ⟨n26, rfl, H⟩ := dK H;replace H : fg F a1 a2 y17 (cB F a1 a2 y17 n26) y22 y23 y24 = some (r4, r5) := H
   unfold fg at H
   refine ah <| ac ?_;show AR _ _ _ _ _ [0] _;refine zS rfl (bN rfl rfl) <| ai <| ah <| aE rfl (fun c27 => ?_) (fun c27 => ?_)
   ·replace H := bg c27 H;refine aJ <| bK (X := Bool × Int) (fun (y49, y50) => ⟨[(1, i64 a2), (8, B (decide (a2 = 0))), (9, S a1), (10, .v (.int .u64 y17)), (11, .v (.int .u64 (IntKind.u64.wrap ((IntKind.u64.wrap (1 * 2 ^ min (Int.toNat (IntKind.u64.wrap 64)) IntKind.u64.bits)) - 1)))), (12, B y49), (13, .v (.int .u64 y50)), (99, slE Enc.byte a1 (some t21)), (100, i64 (a1.length : Int)), (101, i64 y24)], [], [.tok t21 5]⟩) (fun (y49, y50) => dX y24 (cB F a1 a2 y17 n26) y49 y50 = some (r4, r5)) ?_ ?_
    ·refine be <| ah ?_;obtain ⟨g28, H⟩ := aY H;obtain ⟨x29, e30, H⟩ := bP H;refine ac ?_;show AR _ _ _ _ _ [0, 1, 2] _;refine zS rfl (bL (E := Enc.byte) ab (by kernel_rfl) rfl rfl g28 e30) <| zS rfl (aF aO rfl rfl) <| za rfl <| ai <| ah <| ac ?_;show AR _ _ _ _ _ [0] _;refine za rfl <| ai <| bK (X := UInt8) (fun y43 => ⟨[(1, i64 a2), (8, B (decide (a2 = 0))), (9, S a1), (10, .v (.int .u64 y17)), (11, .v (.int .u64 (IntKind.u64.wrap ((IntKind.u64.wrap (1 * 2 ^ min (Int.toNat (IntKind.u64.wrap 64)) IntKind.u64.bits)) - 1)))), (12, B y22), (13, .v (.int .u64 y23)), (16, u8 y43), (99, slE Enc.byte a1 (some t21)), (100, i64 (a1.length : Int)), (101, i64 y24)], [], [.tok t21 5]⟩) (fun y43 => dC a2 y17 y22 y23 y24 (cB F a1 a2 y17 n26) y43 = some (r4, r5)) ?_ ?_
     ·refine be <| ah <| ac ?_;show AR _ _ _ _ _ [0, 1, 2, 3, 4, 5] _;refine zm rfl <| zS rfl (dr (a := x29) (b := 95) rfl rfl) <| zm rfl <| aG (l := [5]) 111 (B ((decide (x29 = 95)) && (decide (a2 = 0)))) (fun K => ?_) ?_
      ·rcases af (decide (x29 = 95)) with h31 | h31
       ·refine zM h31 rfl <| zS rfl (ap (av := .v _) rfl h31 rfl) ?_;exact K _ 1 _ (am (bI h31)) rfl rfl
       ·refine zF h31 rfl <| zS rfl (ao (av := .v _) rfl h31 rfl) ?_;exact K _ 1 _ (am (bJ h31)) rfl rfl
      refine za rfl <| ai <| aE rfl (fun c32 => ?_) (fun c32 => ?_)
      ·replace H := bg c32 H;refine ah <| ac ?_;show AR _ _ _ _ _ [0] _;refine za rfl <| ai <| cH ?_;exact Exists.intro (true, y23) ⟨H, aZ [0] (.cons (.refl _) (.cons (.refl _) (.cons (.refl _) (.cons (.refl _) (.cons (.refl _) (.cons (.refl _) (.cons (.refl _) (.cons (.refl _) (.cons (.refl _) (.cons (.refl _) (.nil _))))))))))) rfl⟩
      ·replace H := ba c32 H;refine ah <| ac ?_;show AR _ _ _ _ _ [0, 1, 2, 3, 4, 5, 6] _;refine zm rfl <| zS rfl (cL rfl rfl) <| zm rfl <| aG (l := [6]) 118 (B ((decide (48 ≤ (x29.toNat : Int))) && (decide ((x29.toNat : Int) ≤ 57)))) (fun K => ?_) ?_
       ·rcases af (decide (48 ≤ (x29.toNat : Int))) with h33 | h33
        ·refine zM h33 rfl <| zU h33 rfl (cL rfl rfl) <| zS rfl (ap (av := .v _) rfl h33 rfl) ?_;exact K _ 2 _ (am (bI h33)) rfl rfl
        ·refine zF h33 rfl <| zF h33 rfl <| zS rfl (ao (av := .v _) rfl h33 rfl) ?_;exact K _ 2 _ (am (bJ h33)) rfl rfl
       refine za rfl <| ai <| aE rfl (fun c34 => ?_) (fun c34 => ?_)
       ·replace H := bg c34 H;refine ac ?_;show AR _ _ _ _ _ [0, 1, 2] _;refine zm rfl <| zS rfl (pk (a := x29) (b := 48) rfl rfl) <| za rfl <| ai ?_;exact Exists.intro (x29 - 48) ⟨H, aZ [0] (.cons (.refl _) (.cons (.refl _) (.cons (.refl _) (.cons (.refl _) (.cons (.refl _) (.cons (.refl _) (.cons (.refl _) (.cons (.refl _) (.cons (.refl _) (.cons (.refl _) (.cons (.refl _) (.nil _)))))))))))) rfl⟩
       ·replace H := ba c34 H;refine ah ?_;obtain ⟨x35, e36, H⟩ := cu H;obtain ⟨x38, e39, H⟩ := gy H;refine ac ?_;show AR _ _ _ _ _ [0, 1, 2, 3, 4, 5, 6, 7, 8] _;refine zm rfl <| aq rfl rfl (aU rfl fZ rfl (eU F x29 x35 e36) ?_);refine zS rfl (cL rfl rfl) <| zm rfl <| aG (l := [8]) 129 (B ((decide (97 ≤ (x35.toNat : Int))) && (decide ((x38.toNat : Int) ≤ 122)))) (fun K => ?_) ?_
        ·rcases af (decide (97 ≤ (x35.toNat : Int))) with h37 | h37
         ·refine zM h37 rfl <| zT h37 rfl (aU rfl fZ rfl (eU F x29 x38 (e39 h37)) ?_);refine zU h37 rfl (cL rfl rfl) <| zS rfl (ap (av := .v _) rfl h37 rfl) ?_;exact K _ 3 _ (am (bI h37)) rfl rfl
         ·refine zF h37 rfl <| zF h37 rfl <| zF h37 rfl <| zS rfl (ao (av := .v _) rfl h37 rfl) ?_;exact K _ 3 _ (am (bJ h37)) rfl rfl
        refine za rfl <| ai <| aE rfl (fun c40 => ?_) (fun c40 => ?_)
        ·replace H := bg c40 H;obtain ⟨x41, e42, H⟩ := cu H;refine ac ?_;show AR _ _ _ _ _ [0, 1, 2, 3, 4] _;refine zm rfl <| aq rfl rfl (aU rfl fZ rfl (eU F x29 x41 e42) ?_);refine zS rfl (pk (a := x41) (b := 97) rfl rfl) <| zS rfl (tr (a := x41 - 97) (b := 10) rfl rfl) <| za rfl <| ai ?_;exact Exists.intro ((x41 - 97) + 10) ⟨H, aZ [0] (.cons (.refl _) (.cons (.refl _) (.cons (.refl _) (.cons (.refl _) (.cons (.refl _) (.cons (.refl _) (.cons (.refl _) (.cons (.refl _) (.cons (.refl _) (.cons (.refl _) (.cons (.refl _) (.nil _)))))))))))) rfl⟩
        ·replace H := ba c40 H;refine ah <| ac ?_;show AR _ _ _ _ _ [0, 1, 2] _;refine zS rfl (bz (a := .v _) bS rfl rfl) <| za rfl <| zS rfl (aB (av := .ifc _ _) rfl) <| ai <| aQ ?_;obtain ⟨rfl, rfl⟩ := gw H;exact And.intro rfl (Exists.intro _ (Exists.intro _ ⟨bV rfl (.refl _) (.refl _), aL [] rfl, rfl, rfl⟩))
     rintro y43 H;replace H : dC a2 y17 y22 y23 y24 (cB F a1 a2 y17 n26) y43 = some (r4, r5) := H
     unfold dC at H
     refine ah <| ah <| ac ?_;show AR _ _ _ _ _ [0, 1, 2, 3] _;refine zm rfl <| zm rfl <| zS rfl (sZ (by kernel_rfl) aO rfl) <| zS rfl (di rfl rfl) <| ai <| aE rfl (fun c45 => ?_) (fun c45 => ?_)
     ·replace H := bg c45 H;refine ah <| ac ?_;show AR _ _ _ _ _ [0, 1, 2] _;refine zS rfl (bz (a := .v _) bS rfl rfl) <| za rfl <| zS rfl (aB (av := .ifc _ _) rfl) <| ai <| aQ ?_;obtain ⟨rfl, rfl⟩ := gw H;exact And.intro rfl (Exists.intro _ (Exists.intro _ ⟨bV rfl (.refl _) (.refl _), aL [] rfl, rfl, rfl⟩))
     ·replace H := ba c45 H;refine aJ <| ah <| ah <| ac ?_;show AR _ _ _ _ _ [0, 1, 2] _;refine zm rfl <| zm rfl <| zS rfl (di rfl rfl) <| ai <| aE rfl (fun c46 => ?_) (fun c46 => ?_)
      ·replace H := bg c46 H;refine ah <| ac ?_;show AR _ _ _ _ _ [0, 1, 2, 3] _;refine zm rfl <| zS rfl (bz (a := .v _) bS rfl rfl) <| za rfl <| zS rfl (aB (av := .ifc _ _) rfl) <| ai <| aQ ?_;obtain ⟨rfl, rfl⟩ := gw H;exact And.intro rfl (Exists.intro _ (Exists.intro _ ⟨bV rfl (.refl _) (.refl _), aL [] rfl, rfl, rfl⟩))
      ·replace H := ba c46 H;refine aJ <| ah <| ac ?_;show AR _ _ _ _ _ [0, 1, 2, 3, 4] _;refine zm rfl <| zm rfl <| zS rfl (dq (by kernel_rfl) Tryz.underlying140 rfl) <| zS rfl (si rfl rfl) <| za rfl <| ai <| ah <| ac ?_;show AR _ _ _ _ _ [0, 1, 2, 3, 4] _;refine zm rfl <| zm rfl <| zS rfl (dq (k' := .u8) (n := (y43.toNat : Int)) (by kernel_rfl) Tryz.underlying140 rfl) <| zS rfl (mJ rfl rfl) <| za rfl <| ai <| ah <| ah <| ac ?_;show AR _ _ _ _ _ [0, 1, 2, 3, 4, 5, 6, 7] _;refine zm rfl <| zm rfl <| zS rfl (bN rfl rfl) <| zm rfl <| aG (l := []) 159 (B ((decide (IntKind.u64.wrap ((IntKind.u64.wrap (y23 * (IntKind.u64.wrap a2))) + (IntKind.u64.wrap (y43.toNat : Int))) < IntKind.u64.wrap (y23 * (IntKind.u64.wrap a2)))) || (decide (IntKind.u64.wrap ((IntKind.u64.wrap (1 * 2 ^ min (Int.toNat (IntKind.u64.wrap 64)) IntKind.u64.bits)) - 1) < IntKind.u64.wrap ((IntKind.u64.wrap (y23 * (IntKind.u64.wrap a2))) + (IntKind.u64.wrap (y43.toNat : Int))))))) (fun K => ?_) ?_
       ·rcases af (decide (IntKind.u64.wrap ((IntKind.u64.wrap (y23 * (IntKind.u64.wrap a2))) + (IntKind.u64.wrap (y43.toNat : Int))) < IntKind.u64.wrap (y23 * (IntKind.u64.wrap a2)))) with h47 | h47
        ·refine zF h47 rfl <| zF h47 rfl <| zF h47 rfl <| zS rfl (ap (av := .v _) rfl h47 rfl) ?_;exact K _ 3 _ (am (dz h47)) rfl rfl
        ·refine zM h47 rfl <| zM h47 rfl <| zU h47 rfl (fH rfl rfl) <| zS rfl (ao (av := .v _) rfl h47 rfl) ?_;exact K _ 3 _ (am (dA h47)) rfl rfl
       refine ai <| aE rfl (fun c48 => ?_) (fun c48 => ?_)
       ·replace H := bg c48 H;refine ah <| ac ?_;show AR _ _ _ _ _ [0, 1, 2, 3] _;refine zm rfl <| zS rfl (bz (a := .v _) bS rfl rfl) <| za rfl <| zS rfl (aB (av := .ifc _ _) rfl) <| ai <| aQ ?_;obtain ⟨rfl, rfl⟩ := gw H;exact And.intro rfl (Exists.intro _ (Exists.intro _ ⟨bV rfl (.refl _) (.refl _), aL [] rfl, rfl, rfl⟩))
       ·replace H := ba c48 H;refine aJ <| ac ?_;show AR _ _ _ _ _ [0, 1] _;refine zm rfl <| za rfl <| ai ?_;exact Exists.intro (y22, IntKind.u64.wrap ((IntKind.u64.wrap (y23 * (IntKind.u64.wrap a2))) + (IntKind.u64.wrap (y43.toNat : Int)))) ⟨H, aZ [0] (.cons (.refl _) (.cons (.refl _) (.cons (.refl _) (.cons (.refl _) (.cons (.refl _) (.cons (.refl _) (.cons (.refl _) (.cons (.refl _) (.cons (.refl _) (.cons (.refl _) (.nil _))))))))))) rfl⟩
    rintro ⟨y49, y50⟩ H;replace H : dX y24 (cB F a1 a2 y17 n26) y49 y50 = some (r4, r5) := H
    unfold dX at H
    obtain ⟨g52, H⟩ := aY H;refine ac ?_;show AR _ _ _ _ _ [0, 1] _;refine zS rfl (dE rfl rfl g52) <| zm rfl <| ai ?_;exact Exists.intro (n26, y49, y50, y24 + 1) ⟨H, Nat.lt_succ_self _, aZ [0] (.cons (.refl _) (.cons (.refl _) (.cons (.refl _) (.cons (.refl _) (.cons (.refl _) (.cons (.refl _) (.cons (.refl _) (.cons (.refl _) (.cons (.refl _) (.cons (.refl _) (.nil _))))))))))) rfl⟩
   ·replace H := ba c27 H;refine cH ?_;exact Exists.intro (y22, y23) ⟨H, aZ [] (.cons (.refl _) (.cons (.refl _) (.cons (.refl _) (.nil _)))) rfl⟩
  rintro ⟨y53, y54⟩ H;replace H : ff F a1 y53 y54 = some (r4, r5) := H
  unfold ff at H
  refine ah <| ah ?_;obtain ⟨x57, e58, H⟩ := gy H;refine ac ?_;show AR _ _ _ _ _ [0, 1, 2, 3, 4, 5] _;refine zm rfl <| zm rfl <| aG (l := []) 169 (B (y53 && (!x57))) (fun K => ?_) ?_
  ·rcases af y53 with h56 | h56
   ·refine zM h56 rfl <| zT h56 rfl (aU rfl uU rfl (mm F a1 x57 (e58 h56)) ?_);refine zU h56 rfl (cW rfl) <| zS rfl (ap (av := .v _) rfl h56 rfl) ?_;exact K _ 3 _ (am (bI h56)) rfl rfl
   ·refine zF h56 rfl <| zF h56 rfl <| zF h56 rfl <| zS rfl (ao (av := .v _) rfl h56 rfl) ?_;exact K _ 3 _ (am (bJ h56)) rfl rfl
  refine ai <| aE rfl (fun c59 => ?_) (fun c59 => ?_)
  ·replace H := bg c59 H;refine ah <| ac ?_;show AR _ _ _ _ _ [0, 1, 2] _;refine zS rfl (bz (a := .v _) bS rfl rfl) <| za rfl <| zS rfl (aB (av := .ifc _ _) rfl) <| ai <| aQ ?_;obtain ⟨rfl, rfl⟩ := gw H;exact And.intro rfl (Exists.intro _ (Exists.intro _ ⟨bV rfl (.refl _) (.refl _), aL [] rfl, rfl, rfl⟩))
  ·replace H := ba c59 H;refine aJ <| ah <| ac ?_;show AR _ _ _ _ _ [0, 1, 2] _;refine zm rfl <| za rfl <| za rfl <| ai <| aQ ?_;obtain ⟨rfl, rfl⟩ := gw H;exact And.intro rfl (Exists.intro _ (Exists.intro _ ⟨bV rfl (.refl _) (.refl _), aL [] rfl, rfl, rfl⟩))
abbrev _root_.Go.Av.dy := @Tryz.underlying76
set_option maxRecDepth 100000 in
set_option maxHeartbeats 1000000 in
theorem oy (F : Nat) (a1 : List UInt8) (a2 : Int) (a3 : Int) (r4 : Int) (r5 : Int) (H : gY F a1 a2 a3 = some (r4, r5)) : ACalls Tryz.prog 100 [S a1, i64 a2, i64 a3] [] (Ret (.tup [i64 r4, gB 126 .i64 r5]) []) := by
 unfold gY at H
 refine az Tryz.func100 rfl rfl ?_;show AW _ _ 73 _ _ _;refine ah <| ac ?_;show AR _ _ _ _ _ [0, 1] _;refine za rfl <| za rfl <| ai <| ah <| ah <| ac ?_;show AR _ _ _ _ _ [0, 1] _;refine zm rfl <| zS rfl (ig rfl rfl) <| ai <| aE rfl (fun c6 => ?_) (fun c6 => ?_)
 ·replace H := bg c6 H;refine ah <| ac ?_;show AR _ _ _ _ _ [0, 1, 2] _;refine zS rfl (bz (a := .v _) bS rfl rfl) <| za rfl <| zS rfl (aB (av := .ifc _ _) rfl) <| ai <| aQ ?_;obtain ⟨rfl, rfl⟩ := gw H;exact And.intro rfl (Exists.intro _ (Exists.intro _ ⟨bV rfl (.refl _) (.refl _), aL [] rfl, rfl, rfl⟩))
 ·replace H := ba c6 H;refine aJ <| ah <| ac ?_;show AR _ _ _ _ _ [0] _;refine za rfl <| ai <| bK (X := (List UInt8) × Bool) (fun (y18, y19) => ⟨[(0, S y18), (1, i64 a2), (2, i64 a3), (8, B y19)], [], []⟩) (fun (y18, y19) => de F a2 a3 y18 y19 = some (r4, r5)) ?_ ?_
  ·refine ah ?_;obtain ⟨g7, H⟩ := aY H;obtain ⟨x8, e9, H⟩ := bP H;refine ac ?_;show AR _ _ _ _ _ [0, 1] _;refine zm rfl <| zS rfl (bi ag rfl rfl g7 e9) <| ai <| be <| ah <| ac ?_;show AR _ _ _ _ _ [0, 1] _;refine zS rfl (dr (a := x8) (b := 43) rfl rfl) <| za rfl <| ai <| aE rfl (fun c10 => ?_) (fun c10 => ?_)
   ·replace H := bg c10 H;obtain ⟨g11, H⟩ := aY H;obtain ⟨x12, e13, H⟩ := bP H;refine ac ?_;show AR _ _ _ _ _ [0, 1, 2] _;refine zm rfl <| zS rfl (fR ag rfl rfl g11 e13) <| za rfl <| ai ?_;exact Exists.intro (x12, false) ⟨H, aZ [] (.cons (.refl _) (.cons (.refl _) (.cons (.refl _) (.cons (.refl _) (.nil _))))) rfl⟩
   ·replace H := ba c10 H;refine ah <| ac ?_;show AR _ _ _ _ _ [0, 1] _;refine zS rfl (dr (a := x8) (b := 45) rfl rfl) <| za rfl <| ai <| aE rfl (fun c14 => ?_) (fun c14 => ?_)
    ·replace H := bg c14 H;refine ah ?_;obtain ⟨g15, H⟩ := aY H;obtain ⟨x16, e17, H⟩ := bP H;refine ac ?_;show AR _ _ _ _ _ [0, 1, 2] _;refine zm rfl <| zS rfl (fR ag rfl rfl g15 e17) <| za rfl <| ai <| ac ?_;show AR _ _ _ _ _ [0] _;refine za rfl <| ai ?_;exact Exists.intro (x16, true) ⟨H, aZ [] (.cons (.refl _) (.cons (.refl _) (.cons (.refl _) (.cons (.refl _) (.nil _))))) rfl⟩
    ·replace H := ba c14 H;refine aJ ?_;exact Exists.intro (a1, false) ⟨H, aZ [] (.cons (.refl _) (.cons (.refl _) (.cons (.refl _) (.cons (.refl _) (.nil _))))) rfl⟩
  rintro ⟨y18, y19⟩ H;replace H : de F a2 a3 y18 y19 = some (r4, r5) := H
  unfold de at H
  refine ah <| ac ?_;show AR _ _ _ _ _ [0] _;refine za rfl <| ai <| ah ?_;obtain ⟨x21, x22, e23, H⟩ := eu H;refine ac ?_;show AR _ _ _ _ _ [0, 1, 2, 3, 4, 5, 6, 7, 8] _;refine zm rfl <| zm rfl <| zm rfl <| aq rfl rfl (aU rfl uW rfl (ox F y18 a2 a3 x21 x22 e23) ?_);refine zS rfl (ak (av := .tup _) rfl) <| zS rfl (aK (av := .v _) rfl rfl) <| zS rfl (aK (av := gB _ _ _) rfl rfl) <| za rfl <| zS rfl (aB (av := gB _ _ _) rfl) <| ai <| ah <| ah <| ac ?_;show AR _ _ _ _ _ [0, 1, 2, 3, 4, 5, 6] _;refine zS rfl (ak (av := gB _ _ _) rfl) <| zS rfl (md dy rfl rfl) <| zm rfl <| aG (l := []) 38 (B ((!decide (x22 = 0)) && (!decide (x22 = 1)))) (fun K => ?_) ?_
  ·rcases af (!decide (x22 = 0)) with h24 | h24
   ·refine zU h24 rfl (ak (av := gB _ _ _) rfl) <| zU h24 rfl (bz (a := .v _) bS rfl rfl) <| zU h24 rfl (up (m := 1) dy rfl bS (by kernel_rfl) (by decide) rfl rfl) <| zS rfl (ap (av := .v _) rfl h24 rfl) ?_;exact K _ 3 _ (am (bI h24)) rfl rfl
   ·refine zF h24 rfl <| zF h24 rfl <| zF h24 rfl <| zS rfl (ao (av := .v _) rfl h24 rfl) ?_;exact K _ 3 _ (am (bJ h24)) rfl rfl
  refine ai <| aE rfl (fun c25 => ?_) (fun c25 => ?_)
  ·replace H := bg c25 H;refine ah <| ac ?_;show AR _ _ _ _ _ [0, 1, 2] _;refine zS rfl (ak (av := gB _ _ _) rfl) <| za rfl <| zS rfl (aB (av := gB _ _ _) rfl) <| ai <| aQ ?_;obtain ⟨rfl, rfl⟩ := gw H;exact And.intro rfl (Exists.intro _ (Exists.intro _ ⟨bV rfl (.refl _) (.refl _), aL [] rfl, rfl, rfl⟩))
  ·replace H := ba c25 H;refine aJ <| bK (X := Unit) (fun _ => ⟨[(2, i64 64), (8, B y19), (9, .v (.int .u64 x21))], [], []⟩) (fun _ => dY y19 x21 = some (r4, r5)) ?_ ?_
   ·refine ah <| ac ?_;show AR _ _ _ _ _ [0, 1] _;refine zm rfl <| zS rfl (bt rfl rfl) <| ai ?_;obtain ⟨g27, H⟩ := aY H;refine aE rfl (fun _ => ?_) (fun hx => jO g27 hx);refine ac ?_;show AR _ _ _ _ _ [0] _;refine za rfl <| ai ?_;exact Exists.intro () ⟨H, aZ [] (.cons (.refl _) (.cons (.refl _) (.cons (.refl _) (.nil _)))) rfl⟩
   rintro _ H;replace H : dY y19 x21 = some (r4, r5) := H
   unfold dY at H
   refine ah ?_;obtain ⟨g29, H⟩ := aY H;refine ac ?_;show AR _ _ _ _ _ [0, 1, 2, 3, 4] _;refine zm rfl <| zS rfl (OpS.eq (av' := i64 63) (kN rfl rfl (by decide)) rfl) <| zS rfl (dq (by kernel_rfl) Tryz.underlying120 rfl) <| zS rfl (tC rfl rfl (of_decide_eq_true g29)) <| za rfl <| ai <| ah <| ah <| ac ?_;show AR _ _ _ _ _ [0, 1, 2, 3, 4, 5, 6] _;refine zm rfl <| zS rfl (cW rfl) <| zm rfl <| aG (l := []) 52 (B ((!y19) && (decide (IntKind.u64.wrap (1 * 2 ^ min (Int.toNat (IntKind.u64.wrap 63)) IntKind.u64.bits) ≤ x21)))) (fun K => ?_) ?_
   ·rcases af (!y19) with h30 | h30
    ·refine zM h30 rfl <| zM h30 rfl <| zU h30 rfl (di rfl rfl) <| zS rfl (ap (av := .v _) rfl h30 rfl) ?_;exact K _ 3 _ (am (bI h30)) rfl rfl
    ·refine zF h30 rfl <| zF h30 rfl <| zF h30 rfl <| zS rfl (ao (av := .v _) rfl h30 rfl) ?_;exact K _ 3 _ (am (bJ h30)) rfl rfl
   refine ai <| aE rfl (fun c31 => ?_) (fun c31 => ?_)
   ·replace H := bg c31 H;refine ah <| ac ?_;show AR _ _ _ _ _ [0, 1, 2, 3, 4, 5] _;refine zm rfl <| zS rfl (mI rfl rfl) <| zS rfl (dq (by kernel_rfl) Tryz.underlying2 rfl) <| zS rfl (bz (a := .v _) bS rfl rfl) <| za rfl <| zS rfl (aB (av := .ifc _ _) rfl) <| ai <| aQ ?_;obtain ⟨rfl, rfl⟩ := gw H;exact And.intro rfl (Exists.intro _ (Exists.intro _ ⟨bV rfl (.refl _) (.refl _), aL [] rfl, rfl, rfl⟩))
   ·replace H := ba c31 H;refine aJ <| ah <| ah <| ac ?_;show AR _ _ _ _ _ [0, 1, 2, 3, 4, 5] _;refine zm rfl <| zm rfl <| aG (l := []) 62 (B (y19 && (decide (IntKind.u64.wrap (1 * 2 ^ min (Int.toNat (IntKind.u64.wrap 63)) IntKind.u64.bits) < x21)))) (fun K => ?_) ?_
    ·rcases af y19 with h32 | h32
     ·refine zM h32 rfl <| zM h32 rfl <| zU h32 rfl (fH rfl rfl) <| zS rfl (ap (av := .v _) rfl h32 rfl) ?_;exact K _ 3 _ (am (bI h32)) rfl rfl
     ·refine zF h32 rfl <| zF h32 rfl <| zF h32 rfl <| zS rfl (ao (av := .v _) rfl h32 rfl) ?_;exact K _ 3 _ (am (bJ h32)) rfl rfl
    refine ai <| aE rfl (fun c33 => ?_) (fun c33 => ?_)
    ·replace H := bg c33 H;refine ah <| ac ?_;show AR _ _ _ _ _ [0, 1, 2, 3, 4, 5] _;refine zm rfl <| zS rfl (dq (by kernel_rfl) Tryz.underlying2 rfl) <| zS rfl (pb rfl) <| zS rfl (bz (a := .v _) bS rfl rfl) <| za rfl <| zS rfl (aB (av := .ifc _ _) rfl) <| ai <| aQ ?_;obtain ⟨rfl, rfl⟩ := gw H;exact And.intro rfl (Exists.intro _ (Exists.intro _ ⟨bV rfl (.refl _) (.refl _), aL [] rfl, rfl, rfl⟩))
    ·replace H := ba c33 H;refine aJ <| ah <| ac ?_;show AR _ _ _ _ _ [0, 1, 2] _;refine zm rfl <| zS rfl (dq (by kernel_rfl) Tryz.underlying2 rfl) <| za rfl <| ai <| bK (X := Int) (fun y35 => ⟨[(11, i64 y35)], [], []⟩) (fun y35 => dZ y35 = some (r4, r5)) ?_ ?_
     ·refine ah <| ac ?_;show AR _ _ _ _ _ [0] _;refine zm rfl <| ai <| aE rfl (fun c34 => ?_) (fun c34 => ?_)
      ·replace H := bg c34 H;refine ac ?_;show AR _ _ _ _ _ [0, 1, 2] _;refine zm rfl <| zS rfl (pb rfl) <| za rfl <| ai ?_;exact Exists.intro (IntKind.i64.wrap (0 - (IntKind.i64.wrap x21))) ⟨H, aZ [] (.cons (.refl _) (.nil _)) rfl⟩
      ·replace H := ba c34 H;refine aJ ?_;exact Exists.intro (IntKind.i64.wrap x21) ⟨H, aZ [] (.cons (.refl _) (.nil _)) rfl⟩
     rintro y35 H;replace H : dZ y35 = some (r4, r5) := H
     unfold dZ at H
     refine ah <| ac ?_;show AR _ _ _ _ _ [0, 1, 2] _;refine zm rfl <| za rfl <| za rfl <| ai <| aQ ?_;obtain ⟨rfl, rfl⟩ := gw H;exact And.intro rfl (Exists.intro _ (Exists.intro _ ⟨bV rfl (.refl _) (.refl _), aL [] rfl, rfl, rfl⟩))
abbrev _root_.Go.Av.aw := @Tryz.underlying3
set_option maxRecDepth 100000 in
set_option maxHeartbeats 1000000 in
theorem tS (F : Nat) (a1 : List UInt8) (r2 : Int) (r3 : Int) (H : ic F a1 = some (r2, r3)) : ACalls Tryz.prog 70 [S a1] [] (Ret (.tup [i64 r2, gB 126 .i64 r3]) []) := by
 unfold ic at H
 refine az Tryz.func70 rfl rfl ?_;show AW _ _ 77 _ _ _;refine ah <| ac ?_;show AR _ _ _ _ _ [0, 1] _;refine za rfl <| za rfl <| ai <| ah <| ac ?_;show AR _ _ _ _ _ [0, 1, 2] _;refine zm rfl <| zS rfl (bb ag rfl) <| za rfl <| ai <| bK (X := Unit) (fun _ => ⟨[(0, S a1)], [], []⟩) (fun _ => il F a1 = some (r2, r3)) ?_ ?_
 ·refine ah <| ac ?_;show AR _ _ _ _ _ [0, 1, 2, 3, 4, 5, 6, 7, 8, 9, 10, 11, 12, 13, 14, 15, 16, 17] _;refine zm rfl <| zF rfl rfl <| zF rfl rfl <| zF rfl rfl <| gU rfl rfl rfl rfl rfl <| gU rfl rfl rfl rfl rfl <| zF rfl rfl <| zS rfl (ao (av := .v _) rfl rfl rfl) <| zm rfl <| zM rfl rfl <| zM rfl rfl <| zU rfl rfl (bN rfl rfl) <| zM rfl rfl <| aG (l := [16, 17]) 28 (B ((decide (0 < (a1.length : Int))) && (decide ((a1.length : Int) < 19)))) (fun K => ?_) ?_
  ·rcases af (decide (0 < (a1.length : Int))) with h4 | h4
   ·refine zM h4 rfl <| zU h4 rfl (bN rfl rfl) <| zU rfl rfl (ap (av := .v _) rfl h4 rfl) ?_;exact K _ 2 _ (am (bI h4)) rfl rfl
   ·refine zF h4 rfl <| zF h4 rfl <| zU rfl rfl (ao (av := .v _) rfl h4 rfl) ?_;exact K _ 2 _ (am (bJ h4)) rfl rfl
  refine zU rfl rfl (ap (av := .v _) rfl rfl rfl) <| zS rfl (ao (av := .v _) rfl rfl rfl) <| ai <| aE rfl (fun c5 => ?_) (fun c5 => ?_)
  ·replace H := bg c5 H;refine ah <| ac ?_;show AR _ _ _ _ _ [0, 1] _;refine zm rfl <| za rfl <| ai <| bK (X := (List UInt8)) (fun y18 => ⟨[(0, S y18), (5, S a1)], [], []⟩) (fun y18 => eV F a1 y18 = some (r2, r3)) ?_ ?_
   ·refine ah ?_;obtain ⟨g6, H⟩ := aY H;obtain ⟨x7, e8, H⟩ := bP H;obtain ⟨g10, H⟩ := cq H;obtain ⟨x11, e12, H⟩ := bP H;refine ac ?_;show AR _ _ _ _ _ [0, 1, 2, 3, 4, 5, 6, 7] _;refine zm rfl <| zS rfl (bi ag rfl rfl g6 e8) <| zS rfl (dr (a := x7) (b := 45) rfl rfl) <| zm rfl <| aG (l := []) 39 (B ((decide (x7 = 45)) || (decide (x11 = 43)))) (fun K => ?_) ?_
    ·rcases af (decide (x7 = 45)) with h9 | h9
     ·refine zF h9 rfl <| zF h9 rfl <| zF h9 rfl <| zS rfl (ap (av := .v _) rfl h9 rfl) ?_;exact K _ 3 _ (am (dz h9)) rfl rfl
     ·refine zM h9 rfl <| zU h9 rfl (bi ag rfl rfl (g10 (nf h9)) e12) <| zU h9 rfl (dr (a := x11) (b := 43) rfl rfl) <| zS rfl (ao (av := .v _) rfl h9 rfl) ?_;exact K _ 3 _ (am (dA h9)) rfl rfl
    refine ai <| aE rfl (fun c13 => ?_) (fun c13 => ?_)
    ·replace H := bg c13 H;refine ah ?_;obtain ⟨g14, H⟩ := aY H;obtain ⟨x15, e16, H⟩ := bP H;refine ac ?_;show AR _ _ _ _ _ [0, 1, 2] _;refine zm rfl <| zS rfl (fR ag rfl rfl g14 e16) <| za rfl <| ai <| ah <| ac ?_;show AR _ _ _ _ _ [0, 1, 2] _;refine zm rfl <| zS rfl (bb ag rfl) <| zS rfl (bN rfl rfl) <| ai <| aE rfl (fun c17 => ?_) (fun c17 => ?_)
     ·replace H := bg c17 H;refine ah <| ac ?_;show AR _ _ _ _ _ [0, 1, 2] _;refine zS rfl (bz (a := .v _) bS rfl rfl) <| za rfl <| zS rfl (aB (av := .ifc _ _) rfl) <| ai <| aQ ?_;obtain ⟨rfl, rfl⟩ := gw H;exact And.intro rfl (Exists.intro _ (Exists.intro _ ⟨bV rfl (.refl _) (.refl _), aL [] rfl, rfl, rfl⟩))
     ·replace H := ba c17 H;refine aJ ?_;exact Exists.intro x15 ⟨H, aZ [] (.cons (.refl _) (.cons (.refl _) (.nil _))) rfl⟩
    ·replace H := ba c13 H;refine aJ ?_;exact Exists.intro a1 ⟨H, aZ [] (.cons (.refl _) (.cons (.refl _) (.nil _))) rfl⟩
   rintro y18 H;replace H : eV F a1 y18 = some (r2, r3) := H
   unfold eV at H
   refine ah <| ac ?_;show AR _ _ _ _ _ [0] _;refine za rfl <| ai <| bK (X := Int) (fun y34 => ⟨[(5, S a1), (6, i64 y34)], [], []⟩) (fun y34 => eW a1 y34 = some (r2, r3)) ?_ ?_
   ·refine ah ?_;obtain ⟨g20, H⟩ := aY H;refine ac ?_;show AR _ _ _ _ _ [0, 1, 2, 3] _;refine zm rfl <| zX rfl (ik (bytes := 1) ag ab aO rfl g20) ?_;rintro _ _ ⟨t21, rfl, rfl⟩;refine zS rfl (bc ab rfl) <| zm rfl <| ai <| be <| cN (X := Nat × Int × Int) (fun (n25, y22, y23) => ⟨[(5, S a1), (6, i64 y22), (47, slE Enc.byte y18 (some t21)), (48, i64 (y18.length : Int)), (49, i64 y23)], [], [.tok t21 5]⟩) (fun (n25, y22, y23) => eY a1 y18 n25 (y22, y23) = some (r2, r3)) (fun (n25, y22, y23) => n25) (F, 0, 0) H (aZ [0] (.cons (.refl _) (.cons (.refl _) (.cons (.refl _) (.cons (.refl _) (.cons (.refl _) (.nil _)))))) rfl) ?_;rintro ⟨n25, y22, y23⟩ H;obtain ⟨n25, rfl, H⟩ := dK H;replace H : eZ a1 y18 (eY a1 y18 n25) y22 y23 = some (r2, r3) := H
    unfold eZ at H
    refine ah <| ac ?_;show AR _ _ _ _ _ [0] _;refine zS rfl (bN rfl rfl) <| ai <| ah <| aE rfl (fun c26 => ?_) (fun c26 => ?_)
    ·replace H := bg c26 H;refine aJ <| ah <| be <| ah ?_;obtain ⟨g27, H⟩ := aY H;obtain ⟨x28, e29, H⟩ := bP H;refine ac ?_;show AR _ _ _ _ _ [0, 1, 2] _;refine zS rfl (bL (E := Enc.byte) ab (by kernel_rfl) rfl rfl g27 e29) <| zS rfl (aF aO rfl rfl) <| za rfl <| ai <| ah <| ac ?_;show AR _ _ _ _ _ [0, 1, 2] _;refine zm rfl <| zS rfl (pk (a := x28) (b := 48) rfl rfl) <| za rfl <| ai <| ah <| ah <| ac ?_;show AR _ _ _ _ _ [0, 1] _;refine zm rfl <| zS rfl (fH rfl rfl) <| ai <| aE rfl (fun c30 => ?_) (fun c30 => ?_)
     ·replace H := bg c30 H;refine ah <| ac ?_;show AR _ _ _ _ _ [0, 1, 2] _;refine zS rfl (bz (a := .v _) bS rfl rfl) <| za rfl <| zS rfl (aB (av := .ifc _ _) rfl) <| ai <| aQ ?_;obtain ⟨rfl, rfl⟩ := gw H;exact And.intro rfl (Exists.intro _ (Exists.intro _ ⟨bV rfl (.refl _) (.refl _), aL [] rfl, rfl, rfl⟩))
     ·replace H := ba c30 H;refine aJ ?_;obtain ⟨g31, H⟩ := aY H;obtain ⟨g32, H⟩ := aY H;refine ac ?_;show AR _ _ _ _ _ [0, 1, 2, 3, 4, 5] _;refine zm rfl <| zS rfl (g_mul rfl rfl g31) <| zm rfl <| zS rfl (kX (c := x28 - 48) (by kernel_rfl) aw rfl) <| zS rfl (dE rfl rfl g32) <| za rfl <| ai ?_;obtain ⟨g33, H⟩ := aY H;refine ac ?_;show AR _ _ _ _ _ [0, 1] _;refine zS rfl (dE rfl rfl g33) <| zm rfl <| ai ?_;exact Exists.intro (n25, (y22 * 10) + ((x28 - 48).toNat : Int), y23 + 1) ⟨H, Nat.lt_succ_self _, aZ [0] (.cons (.refl _) (.cons (.refl _) (.cons (.refl _) (.cons (.refl _) (.cons (.refl _) (.nil _)))))) rfl⟩
    ·replace H := ba c26 H;refine cH ?_;exact Exists.intro y22 ⟨H, aZ [] (.cons (.refl _) (.cons (.refl _) (.nil _))) rfl⟩
   rintro y34 H;replace H : eW a1 y34 = some (r2, r3) := H
   unfold eW at H
   refine bK (X := Int) (fun y41 => ⟨[(6, i64 y41)], [], []⟩) (fun y41 => eX y41 = some (r2, r3)) ?_ ?_
   ·refine ah ?_;obtain ⟨g36, H⟩ := aY H;obtain ⟨x37, e38, H⟩ := bP H;refine ac ?_;show AR _ _ _ _ _ [0, 1, 2] _;refine zm rfl <| zS rfl (bi ag rfl rfl g36 e38) <| zS rfl (dr (a := x37) (b := 45) rfl rfl) <| ai <| aE rfl (fun c39 => ?_) (fun c39 => ?_)
    ·replace H := bg c39 H;obtain ⟨g40, H⟩ := aY H;refine ac ?_;show AR _ _ _ _ _ [0, 1, 2] _;refine zm rfl <| zS rfl (g_neg rfl g40) <| za rfl <| ai ?_;exact Exists.intro (0 - y34) ⟨H, aZ [] (.cons (.refl _) (.nil _)) rfl⟩
    ·replace H := ba c39 H;refine aJ ?_;exact Exists.intro y34 ⟨H, aZ [] (.cons (.refl _) (.nil _)) rfl⟩
   rintro y41 H;replace H : eX y41 = some (r2, r3) := H
   unfold eX at H
   refine ah <| ac ?_;show AR _ _ _ _ _ [0, 1, 2] _;refine zm rfl <| za rfl <| za rfl <| ai <| aQ ?_;obtain ⟨rfl, rfl⟩ := gw H;exact And.intro rfl (Exists.intro _ (Exists.intro _ ⟨bV rfl (.refl _) (.refl _), aL [] rfl, rfl, rfl⟩))
  ·replace H := ba c5 H;refine aJ ?_;exact Exists.intro () ⟨H, aZ [] (.cons (.refl _) (.nil _)) rfl⟩
 rintro _ H;replace H : il F a1 = some (r2, r3) := H
 unfold il at H
 refine ah ?_;obtain ⟨x44, x45, e46, H⟩ := eu H;refine ac ?_;show AR _ _ _ _ _ [0, 1, 2, 3, 4, 5, 6] _;refine zm rfl <| aq rfl rfl (aU rfl uX rfl (oy F a1 10 0 x44 x45 e46) ?_);refine zS rfl (ak (av := .tup _) rfl) <| zS rfl (aK (av := .v _) rfl rfl) <| zS rfl (aK (av := gB _ _ _) rfl rfl) <| za rfl <| zS rfl (aB (av := gB _ _ _) rfl) <| ai <| ah <| ac ?_;show AR _ _ _ _ _ [0, 1, 2, 3] _;refine zm rfl <| zS rfl (ak (av := gB _ _ _) rfl) <| za rfl <| zS rfl (aB (av := gB _ _ _) rfl) <| ai <| aQ ?_;obtain ⟨rfl, rfl⟩ := gw H;exact And.intro rfl (Exists.intro _ (Exists.intro _ ⟨bV rfl (.refl _) (.refl _), aL [] rfl, rfl, rfl⟩))
set_option maxRecDepth 100000 in
set_option maxHeartbeats 1000000 in
theorem kO (F : Nat) (a1 : List UInt8) (r2 : Int) (r3 : Int) (H : cR F a1 = some (r2, r3)) : ACalls Tryz.prog 47 [S a1] [] (Ret (.tup [i64 r2, eAny 129 r3]) []) := by
 unfold cR at H
 refine az Tryz.func47 rfl rfl ?_;show AW _ _ 18 _ _ _;refine ah <| ac ?_;show AR _ _ _ _ _ [0, 1] _;refine za rfl <| za rfl <| ai <| ah ?_;obtain ⟨x4, x5, e6, H⟩ := eu H;refine ac ?_;show AR _ _ _ _ _ [0, 1, 2, 3, 4, 5, 6] _;refine zm rfl <| aq rfl rfl (aU rfl en70_num rfl (tS F a1 x4 x5 e6) ?_);refine zS rfl (ak (av := .tup _) rfl) <| zS rfl (aK (av := .v _) rfl rfl) <| zS rfl (aK (av := gB _ _ _) rfl rfl) <| za rfl <| zS rfl (aB (av := gB _ _ _) rfl) <| ai <| ah <| ah <| ac ?_;show AR _ _ _ _ _ [0, 1] _;refine zS rfl (ak (av := gB _ _ _) rfl) <| zS rfl (md dy rfl rfl) <| ai <| aE rfl (fun c7 => ?_) (fun c7 => ?_)
 ·replace H := bg c7 H;refine ah ?_;obtain ⟨g8, H⟩ := aY H;obtain ⟨g9, H⟩ := aY H;refine ac ?_;show AR _ _ _ _ _ [0, 1, 2, 3, 4, 5] _;refine zm rfl <| zm rfl <| zS rfl (ak (av := gB _ _ _) rfl) <| aq rfl rfl (aU rfl en71_num rfl (rM _ _ _ _ x5 (eI g8) (of_decide_eq_true g9)) ?_);refine za rfl <| zS rfl (aB (av := .ifc _ _) rfl) <| ai <| aQ ?_;obtain ⟨rfl, rfl⟩ := gw H;exact And.intro rfl (Exists.intro _ (Exists.intro _ ⟨bV rfl (.refl _) (.ifc _ _), aL [] rfl, rfl, rfl⟩))
 ·replace H := ba c7 H;refine aJ <| ah <| ac ?_;show AR _ _ _ _ _ [0, 1, 2] _;refine zm rfl <| za rfl <| za rfl <| ai <| aQ ?_;obtain ⟨rfl, rfl⟩ := gw H;exact And.intro rfl (Exists.intro _ (Exists.intro _ ⟨bV rfl (.refl _) (.refl _), aL [] rfl, rfl, rfl⟩))
end Go.Proofs.YtgjkjkmmgdbcoaaGreatDoor
namespace Go.Pv
def fj (F : Nat) (a1 : List UInt8) (a3 : UInt8) : Option Int :=
lt (Go.Lib.indexByte a1 a3) fun x5 =>
some x5
def im (F : Nat) (a1 : List UInt8) : Option (Int × Bool) :=
jJ (cR F a1) fun x4 x5 =>
dk ((decide (x5 = 0)) && (decide ((a1.length : Int) ≤ 3))) (okI x4) <|
lt (Go.Lib.itoa x4) fun x10 =>
some (x4, (((decide (x5 = 0)) && (decide ((a1.length : Int) ≤ 3))) && (decide (x10 = a1))) && (decide (0 ≤ x4)))
def gH (y45 : Int) (y46 : Int) (y47 : Int) : Option (Int × Int × Int) :=
some (y45, y46, y47)
def iE (a1 : Int) (y39 : Int) (y40 : Int) (y41 : Int) : Option (Int × Int × Int) :=
grd (mh a1 100) <|
bif decide (y39 = a1 / 100) then
  gH y39 y40 y41
else
  gH 0 0 0
def eO (F : Nat) (a1 : Int) (x12 : List (List UInt8)) (rec24 : (Int × Int × Int × Int) → Option (Int × Int × Int)) (y20 : Int) (y21 : Int) (y22 : Int) (y23 : Int) : Option (Int × Int × Int) :=
bif decide (y20 < (x12.length : Int)) then
  grd (ct y20 x12.length) <|
  lt (at_ x12 y20) fun x28 =>
  jJ (im F x28) fun x30 x31 =>
  bif !x31 then
    some (0, 0, 0)
  else
    grd (ct y20 3) <|
    grd (ct y20 3) <|
    lt (List.set ([y21, y22, y23] : List Int) (Int.toNat y20) x30) fun x36 =>
    grd (okI (y20 + 1)) <|
    rec24 (y20 + 1, x36.getD 0 0, x36.getD 1 0, x36.getD 2 0)
else
  iE a1 y21 y22 y23
def dN (F : Nat) (a1 : Int) (x12 : List (List UInt8)) (n : Nat) : (Int × Int × Int × Int) → Option (Int × Int × Int) :=
  loop (fun rec x => eO F a1 x12 rec x.1 x.2.1 x.2.2.1 x.2.2.2) n
def lc (F : Nat) (a1 : Int) (a2 : List UInt8) : Option (Int × Int × Int) :=
grd (okS a2.length) <|
lt (Go.Lib.cut a2 ([32] : List UInt8)) fun x8 =>
grd (okS x8.1.length) <|
grd (decide (1 ≤ ([46] : List UInt8).length)) <|
lt (Go.Lib.split x8.1 ([46] : List UInt8)) fun x12 =>
dk (!(!decide ((x12.length : Int) = 3))) (mh a1 100) <|
bif (!decide ((x12.length : Int) = 3)) || (decide (a1 / 100 = 3)) then
  some (0, 0, 0)
else
  dN F a1 x12 F (0, 0, 0, 0)
def fa (F : Nat) (a1 : Bool) : Option (Res Unit) :=
bif !a1 then
  some (Res.pan 0)
else
  some (Res.ok ())
def fv {σ : Type} (F : Nat) (k : σ → (List UInt8) → Option (σ × Option Bool)) (rec7 : ((List UInt8) × σ) → Option (σ × Bool × (List UInt8))) (y4 : List UInt8) (y5 : σ) : Option (σ × Bool × (List UInt8)) :=
bnd (fj F y4 10) fun x9 =>
bif decide (x9 < 0) then
  bndk (fa F (decide ((y4.length : Int) < 512))) (fun p14 =>
    some (y5, true, [])) fun x12 =>
  some (y5, false, y4)
else
  kM ((decide (x9 < 512)) && (decide (0 < x9))) (fj F y4 13) fun x17 =>
  dk ((decide (x9 < 512)) && (decide (0 < x9))) (okI (x9 - 1)) <|
  bndk (fa F (((decide (x9 < 512)) && (decide (0 < x9))) && (decide (x17 = x9 - 1)))) (fun p22 =>
    some (y5, true, [])) fun x20 =>
  grd (okI (x9 - 1)) <|
  grd (iU (x9 - 1) y4.length) <|
  lt (to_ y4 (x9 - 1)) fun x25 =>
  bnd (k y5 x25) fun x27 =>
  bndo x27.2 (some (x27.1, true, [])) fun x29 =>
  bif !x29 then
    some (x27.1, false, y4)
  else
    grd (okI (x9 + 1)) <|
    grd (iU (x9 + 1) y4.length) <|
    lt (eJ y4 (x9 + 1)) fun x36 =>
    rec7 (x36, x27.1)
def fu {σ : Type} (F : Nat) (k : σ → (List UInt8) → Option (σ × Option Bool)) (n : Nat) : ((List UInt8) × σ) → Option (σ × Bool × (List UInt8)) :=
  loop (fun rec x => fv F k rec x.1 x.2) n
def kv (F : Nat) {σ : Type} (k : σ → (List UInt8) → Option (σ × Option Bool)) (st0 : σ) (a2 : List UInt8) : Option (σ × Bool × (List UInt8)) :=
fu F k F (a2, st0)
def lk (F : Nat) (a1 : List UInt8) : Option Unit :=
some ()
def mE (F : Nat) (a1 : Int) (a2 : List (List UInt8)) (a3 : Int) (a4 : Int) (a5 : Int) (a6 : Int) (a8 : List (Int × (List (List UInt8)) × Int × Int × Int)) (a11 : Int) : Option ((List (Int × (List (List UInt8)) × Int × Int × Int)) × Int) :=
grd (dn (a8.length + ([(a1, a2, (a3, a4, a5))] : List (Int × (List (List UInt8)) × Int × Int × Int)).length)) <|
lt (a8 ++ ([(a1, a2, (a3, a4, a5))] : List (Int × (List (List UInt8)) × Int × Int × Int))) fun x17 =>
some (x17, a6)
def jn (F : Nat) (y16 : Int) (y20 : List (Int × (List (List UInt8)) × Int × Int × Int)) (y22 : Int) (x24 : List UInt8) (x40 : Int) (y58 : List (List UInt8)) : Option ((Int × Int × (List (List UInt8)) × (List (Int × (List (List UInt8)) × Int × Int × Int)) × Int) × (Option Bool)) :=
grd (okI ((x24.length : Int) + 2)) <|
grd (okI (y16 + ((x24.length : Int) + 2))) <|
grd (ct 3 x24.length) <|
lt (at_ x24 3) fun x64 =>
bif decide (x64 = 32) then
  grd (iU 4 x24.length) <|
  lt (eJ x24 4) fun x68 =>
  mf (lc F x40 x68) fun x70 x71 x72 =>
  jJ (mE F x40 y58 x70 x71 x72 (y16 + ((x24.length : Int) + 2)) y20 y22) fun x74 x75 =>
  some ((y16 + ((x24.length : Int) + 2), 0, [], x74, x75), some true)
else
  some ((y16 + ((x24.length : Int) + 2), x40, y58, y20, y22), some true)
def gD (F : Nat) (y16 : Int) (y17 : Int) (y18 : List (List UInt8)) (y20 : List (Int × (List (List UInt8)) × Int × Int × Int)) (y22 : Int) (x24 : List UInt8) : Option ((Int × Int × (List (List UInt8)) × (List (Int × (List (List UInt8)) × Int × Int × Int)) × Int) × (Option Bool)) :=
dk (decide (4 ≤ (x24.length : Int))) (ct 3 x24.length) <|
lt (at_ x24 3) fun x27 =>
dk ((decide (4 ≤ (x24.length : Int))) && (!(decide (x27 = 45)))) (ct 3 x24.length) <|
lt (at_ x24 3) fun x31 =>
bndk (fa F (((decide (4 ≤ (x24.length : Int))) && ((decide (x27 = 45)) || (decide (x31 = 32)))) && (decide ((y18.length : Int) < 100)))) (fun p36 =>
  some ((y16, y17, y18, y20, y22), none)) fun x34 =>
grd (iU 3 x24.length) <|
lt (to_ x24 3) fun x38 =>
jJ (im F x38) fun x40 x41 =>
bndk (fa F (((x41 && (decide (200 ≤ x40))) && (decide (x40 ≤ 599))) && ((decide ((y18.length : Int) = 0)) || (decide (x40 = y17))))) (fun p49 =>
  some ((y16, y17, y18, y20, y22), none)) fun x47 =>
grd (iU 4 x24.length) <|
lt (eJ x24 4) fun x51 =>
grd (dn (y18.length + ([x51] : List (List UInt8)).length)) <|
lt (y18 ++ ([x51] : List (List UInt8))) fun x55 =>
jn F y16 y20 y22 x24 x40 x55
def kH (F : Nat) (a1 : List UInt8) (a4 : List (Int × (List (List UInt8)) × Int × Int × Int)) (a7 : Int) : Option ((List (Int × (List (List UInt8)) × Int × Int × Int)) × Int × Bool) :=
bnd (lk F a1) fun _ =>
mf (kv F (fun s x => gD F s.1 s.2.1 s.2.2.1 s.2.2.2.1 s.2.2.2.2 x) (0, 0, [], a4, a7) a1) fun x79 x80 x81 =>
bif x80 then
  some (x79.2.2.2.1, x79.2.2.2.2, true)
else
  some (x79.2.2.2.1, x79.2.2.2.2, false)
def om (F : Nat) : Option Unit :=
some ()
def jo (F : Nat) (a4 : Bool) (y21 : List UInt8) : Option ((List (Int × (List (List UInt8)) × Int × Int × Int)) × (List UInt8) × Bool) :=
mf (kH F y21 [] 0) fun x26 x27 x28 =>
bif x28 then
  some (x26, [], true)
else
grd (iU x27 y21.length) <|
lt (eJ y21 x27) fun x35 =>
grd (okS x35.length) <|
some (x26, x35, a4)
def mP (F : Nat) (a2 : List UInt8) (a4 : Bool) (a5 : List UInt8) : Option ((List (Int × (List (List UInt8)) × Int × Int × Int)) × (List UInt8) × Bool) :=
bif a4 then
  some ([], a2, a4)
else
  grd (dn (a2.length + a5.length)) <|
  lt (a2 ++ a5) fun x16 =>
  jo F a4 x16
end Go.Pv
namespace Go.Proofs.YtgjkjkmmgdbcoaaGreatDoor
open Go.RowKit Go.Av Go.Pv
theorem dp : ∀ (args : Array Value) (w : World), (callFunc 30 args).run Tryz.prog w = .ok (.enter 30 args) w := fun _ _ => by kernel_rfl
theorem uG : ∀ (args : Array Value) (w : World), (callFunc 44 args).run Tryz.prog w = .ok (.enter 44 args) w := fun _ _ => by kernel_rfl
theorem uC : ∀ (args : Array Value) (w : World), (callFunc 47 args).run Tryz.prog w = .ok (.enter 47 args) w := fun _ _ => by kernel_rfl
theorem qq : ∀ (args : Array Value) (w : World), (callFunc 54 args).run Tryz.prog w = .ok (.enter 54 args) w := fun _ _ => by kernel_rfl
theorem qp : ∀ (args : Array Value) (w : World), (callFunc 55 args).run Tryz.prog w = .ok (.enter 55 args) w := fun _ _ => by kernel_rfl
theorem uz : ∀ (args : Array Value) (w : World), (callFunc 56 args).run Tryz.prog w = .ok (.enter 56 args) w := fun _ _ => by kernel_rfl
theorem ux : ∀ (args : Array Value) (w : World), (callFunc 76 args).run Tryz.prog w = .ok (.enter 76 args) w := fun _ _ => by kernel_rfl
theorem gO : ∀ (args : Array Value) (w : World), (callFunc 77 args).run Tryz.prog w = .ok (.enter 77 args) w := fun _ _ => by kernel_rfl
theorem qo : ∀ (args : Array Value) (w : World), (callFunc 78 args).run Tryz.prog w = .ok (.enter 78 args) w := fun _ _ => by kernel_rfl
theorem uw : ∀ (args : Array Value) (w : World), (callFunc 79 args).run Tryz.prog w = .ok (.enter 79 args) w := fun _ _ => by kernel_rfl
theorem nv : ∀ (args : Array Value) (w : World), (callFunc 91 args).run Tryz.prog w = .ok (.enter 91 args) w := fun _ _ => by kernel_rfl
theorem ti : ∀ (args : Array Value) (w : World), (callFunc 107 args).run Tryz.prog w = .ok (.enter 107 args) w := fun _ _ => by kernel_rfl
theorem th : ∀ (args : Array Value) (w : World), (callFunc 108 args).run Tryz.prog w = .ok (.enter 108 args) w := fun _ _ => by kernel_rfl
theorem tg : ∀ (args : Array Value) (w : World), (callFunc 109 args).run Tryz.prog w = .ok (.enter 109 args) w := fun _ _ => by kernel_rfl
set_option maxRecDepth 100000 in
set_option maxHeartbeats 1000000 in
theorem gR (F : Nat) (a1 : List UInt8) (q2 : Option Nat) (a3 : UInt8) (r4 : Int) (H : fj F a1 a3 = some r4) : ACalls Tryz.prog 91 [slE Enc.byte a1 q2, u8 a3] [] (Ret (i64 r4) []) := by
 unfold fj at H
 refine az Tryz.func91 rfl rfl ?_;show AW _ _ 8 _ _ _;refine ah <| ac ?_;show AR _ _ _ _ _ [0] _;refine za rfl <| ai <| ah ?_;obtain ⟨x5, e6, H⟩ := bP H;refine ac ?_;show AR _ _ _ _ _ [0, 1, 2, 3] _;refine zS rfl (ak (av := slE _ _ _) rfl) <| zm rfl <| zR rfl (show OpR _ _ _ _ (i64 x5) _ from by subst e6; exact pC ⟨Tryz.func113, by kernel_rfl, by kernel_rfl, by kernel_rfl, by kernel_rfl⟩ rfl rfl) <| za rfl <| ai <| aQ ?_;obtain rfl := ay H;exact And.intro rfl (Exists.intro _ (Exists.intro _ ⟨aV rfl (.refl _), aL [] rfl, rfl, rfl⟩))
set_option maxRecDepth 100000 in
set_option maxHeartbeats 1000000 in
theorem mq (F : Nat) (a1 : List UInt8) (r2 : Int) (r3 : Bool) (H : im F a1 = some (r2, r3)) : ACalls Tryz.prog 78 [S a1] [] (Ret (.tup [i64 r2, B r3]) []) := by
 unfold im at H
 refine az Tryz.func78 rfl rfl ?_;show AW _ _ 29 _ _ _;refine ah <| ac ?_;show AR _ _ _ _ _ [0, 1] _;refine za rfl <| za rfl <| ai <| ah ?_;obtain ⟨x4, x5, e6, H⟩ := eu H;refine ac ?_;show AR _ _ _ _ _ [0, 1, 2, 3, 4, 5, 6] _;refine zm rfl <| aq rfl rfl (aU rfl uC rfl (kO F a1 x4 x5 e6) ?_);refine zS rfl (ak (av := .tup _) rfl) <| zS rfl (aK (av := .v _) rfl rfl) <| zS rfl (aK (av := eAny _ _) rfl rfl) <| za rfl <| zS rfl (aB (av := eAny _ _) rfl) <| ai <| ah ?_;obtain ⟨g9, H⟩ := cq H;obtain ⟨x10, e11, H⟩ := bP H;refine ac ?_;show AR _ _ _ _ _ [0, 1, 2, 3, 4, 5, 6, 7, 8, 9, 10, 11, 12, 13, 14, 15, 16, 17, 18, 19] _;refine zm rfl <| zS rfl (ak (av := eAny _ _) rfl) <| zS rfl (oQ dy rfl rfl) <| zm rfl <| aG (l := [8, 9, 10, 11, 12, 13, 14, 15, 16, 17, 18, 19]) 18 (B ((decide (x5 = 0)) && (decide ((a1.length : Int) ≤ 3)))) (fun K => ?_) ?_
 ·rcases af (decide (x5 = 0)) with h7 | h7
  ·refine zM h7 rfl <| zU h7 rfl (bb ag rfl) <| zU h7 rfl (cL rfl rfl) <| zS rfl (ap (av := .v _) rfl h7 rfl) ?_;exact K _ 3 _ (am (bI h7)) rfl rfl
  ·refine zF h7 rfl <| zF h7 rfl <| zF h7 rfl <| zS rfl (ao (av := .v _) rfl h7 rfl) ?_;exact K _ 3 _ (am (bJ h7)) rfl rfl
 refine zm rfl <| aG (l := [14, 15, 16, 17, 18, 19]) 24 (B (((decide (x5 = 0)) && (decide ((a1.length : Int) ≤ 3))) && (decide (x10 = a1)))) (fun K => ?_) ?_
 ·rcases af ((decide (x5 = 0)) && (decide ((a1.length : Int) ≤ 3))) with h8 | h8
  ·refine zM h8 rfl <| zT h8 rfl (aU rfl th rfl (show ACalls _ _ _ [] (Ret (S x10) []) from by subst e11; exact rN x4 (sA (g9 h8))) ?_);refine zM h8 rfl <| zU h8 rfl (ig rfl rfl) <| zS rfl (ap (av := .v _) rfl h8 rfl) ?_;exact K _ 4 _ (am (bI h8)) rfl rfl
  ·refine zF h8 rfl <| zF h8 rfl <| zF h8 rfl <| zF h8 rfl <| zS rfl (ao (av := .v _) rfl h8 rfl) ?_;exact K _ 4 _ (am (bJ h8)) rfl rfl
 refine zm rfl <| aG (l := [18, 19]) 28 (B ((((decide (x5 = 0)) && (decide ((a1.length : Int) ≤ 3))) && (decide (x10 = a1))) && (decide (0 ≤ x4)))) (fun K => ?_) ?_
 ·rcases af (((decide (x5 = 0)) && (decide ((a1.length : Int) ≤ 3))) && (decide (x10 = a1))) with h12 | h12
  ·refine zM h12 rfl <| zU h12 rfl (di rfl rfl) <| zS rfl (ap (av := .v _) rfl h12 rfl) ?_;exact K _ 2 _ (am (bI h12)) rfl rfl
  ·refine zF h12 rfl <| zF h12 rfl <| zS rfl (ao (av := .v _) rfl h12 rfl) ?_;exact K _ 2 _ (am (bJ h12)) rfl rfl
 refine za rfl <| za rfl <| ai <| aQ ?_;obtain ⟨rfl, rfl⟩ := gw H;exact And.intro rfl (Exists.intro _ (Exists.intro _ ⟨bV rfl (.refl _) (.refl _), aL [] rfl, rfl, rfl⟩))
abbrev _root_.Go.Av.bj := @Tryz.underlying39
set_option maxRecDepth 100000 in
set_option maxHeartbeats 1000000 in
theorem sF (F : Nat) (a1 : Int) (a2 : List UInt8) (r3 : Int) (r4 : Int) (r5 : Int) (H : lc F a1 a2 = some (r3, r4, r5)) : ACalls Tryz.prog 79 [i64 a1, S a2] [] (Ret (.agg [i64 r3, i64 r4, i64 r5]) []) := by
 unfold lc at H
 refine az Tryz.func79 rfl rfl ?_;show AW _ _ 57 _ _ _;refine ah <| ac ?_;show AR _ _ _ _ _ [0] _;refine zX rfl (br (zs := [.int .i64 0, .int .i64 0, .int .i64 0]) (by kernel_rfl)) ?_;rintro _ _ ⟨o6, rfl, rfl⟩;refine ai <| ah ?_;obtain ⟨g7, H⟩ := aY H;obtain ⟨x8, e9, H⟩ := bP H;refine ac ?_;show AR _ _ _ _ _ [0, 1, 2, 3, 4, 5, 6, 7, 8] _;refine zm rfl <| aq rfl rfl (aU rfl uG rfl (show ACalls _ _ _ [] (Ret (.tup [S x8.1, S x8.2.1, B x8.2.2]) []) from by subst e9; exact rd a2 ([32] : List UInt8) (eI g7)) ?_);refine zS rfl (ak (av := .tup _) rfl) <| zS rfl (aK (av := .v _) rfl rfl) <| zS rfl (aK (av := .v _) rfl rfl) <| zS rfl (aK (av := .v _) rfl rfl) <| za rfl <| za rfl <| za rfl <| ai <| ah ?_;obtain ⟨g10, H⟩ := aY H;obtain ⟨g11, H⟩ := aY H;obtain ⟨x12, e13, H⟩ := bP H;refine ac ?_;show AR _ _ _ _ _ [0, 1, 2] _;refine zm rfl <| aq rfl rfl (aU rfl tg rfl (show ACalls _ _ _ [] (Ret (slE Enc.str x12 none) []) from by subst e13; exact un x8.1 ([46] : List UInt8) (eI g10) (of_decide_eq_true g11)) ?_);refine zS rfl (aB (av := slE _ _ _) rfl) <| ai <| ah <| ah ?_;obtain ⟨g15, H⟩ := cq H;refine ac ?_;show AR _ _ _ _ _ [0, 1, 2, 3, 4, 5, 6, 7] _;refine zS rfl (ak (av := slE _ _ _) rfl) <| zS rfl (bc ar rfl) <| zS rfl (fm rfl rfl) <| zm rfl <| aG (l := []) 28 (B ((!decide ((x12.length : Int) = 3)) || (decide (a1 / 100 = 3)))) (fun K => ?_) ?_
 ·rcases af (!decide ((x12.length : Int) = 3)) with h14 | h14
  ·refine zF h14 rfl <| zF h14 rfl <| zF h14 rfl <| zS rfl (ap (av := .v _) rfl h14 rfl) ?_;exact K _ 3 _ (am (dz h14)) rfl rfl
  ·refine zM h14 rfl <| zU h14 rfl (g_quo rfl rfl (g15 (nf h14))) <| zU h14 rfl (bt rfl rfl) <| zS rfl (ao (av := .v _) rfl h14 rfl) ?_;exact K _ 3 _ (am (dA h14)) rfl rfl
 refine ai <| aE rfl (fun c16 => ?_) (fun c16 => ?_)
 ·replace H := bg c16 H;refine ah <| ac ?_;show AR _ _ _ _ _ [0, 1] _;refine zR rfl (bq (i := 0) (n := 3) bj rfl (by kernel_rfl) rfl rfl (aa rfl)) <| s0 rfl rfl (aH (i := 0) (vs := [i64 0, i64 0, i64 0]) (by kernel_rfl) rfl rfl (by simp [bk, slE]) rfl (aa rfl)) <| ai <| aQ ?_;obtain ⟨rfl, rfl, rfl⟩ := ia H;exact And.intro rfl (Exists.intro _ (Exists.intro _ ⟨bW (dw rfl (bX (off := 0) (cs := [i64 0, i64 0, i64 0]) (n := 3) 0 bj rfl (by kernel_rfl) rfl rfl (aa rfl))), aL [] rfl, rfl, rfl⟩))
 ·replace H := ba c16 H;refine aJ <| ah <| ac ?_;show AR _ _ _ _ _ [0] _;refine zX rfl (br (zs := [.int .i64 0, .int .i64 0, .int .i64 0]) (by kernel_rfl)) ?_;rintro _ _ ⟨o17, rfl, rfl⟩;refine ai <| bK (X := Int × Int × Int) (fun (y39, y40, y41) => ⟨[(0, i64 a1), (4, .pt o6 0), (9, .pt o17 0)], [], [.obj o17 [i64 y39, i64 y40, i64 y41], .obj o6 [i64 0, i64 0, i64 0]]⟩) (fun (y39, y40, y41) => iE a1 y39 y40 y41 = some (r3, r4, r5)) ?_ ?_
  ·refine ah <| ac ?_;show AR _ _ _ _ _ [0, 1, 2] _;refine zS rfl (ak (av := slE _ _ _) rfl) <| zS rfl (bc ar rfl) <| zm rfl <| ai <| be <| cN (X := Nat × Int × Int × Int × Int) (fun (n25, y20, y21, y22, y23) => ⟨[(0, i64 a1), (4, .pt o6 0), (8, slE Enc.str x12 none), (9, .pt o17 0), (31, i64 (x12.length : Int)), (32, i64 y20)], [], [.obj o17 [i64 y21, i64 y22, i64 y23], .obj o6 [i64 0, i64 0, i64 0]]⟩) (fun (n25, y20, y21, y22, y23) => dN F a1 x12 n25 (y20, y21, y22, y23) = some (r3, r4, r5)) (fun (n25, y20, y21, y22, y23) => n25) (F, 0, 0, 0, 0) H (aZ [0, 0] (.cons (.refl _) (.cons (.refl _) (.cons (.refl _) (.cons (.refl _) (.cons (.refl _) (.cons (.refl _) (.nil _))))))) rfl) ?_;rintro ⟨n25, y20, y21, y22, y23⟩ H;obtain ⟨n25, rfl, H⟩ := dK H;replace H : eO F a1 x12 (dN F a1 x12 n25) y20 y21 y22 y23 = some (r3, r4, r5) := H
   unfold eO at H
   refine ah <| ac ?_;show AR _ _ _ _ _ [0] _;refine zS rfl (bN rfl rfl) <| ai <| ah <| aE rfl (fun c26 => ?_) (fun c26 => ?_)
   ·replace H := bg c26 H;refine aJ <| ah <| be <| ah <| ac ?_;show AR _ _ _ _ _ [0, 1] _;refine zm rfl <| za rfl <| ai <| ah ?_;obtain ⟨g27, H⟩ := aY H;obtain ⟨x28, e29, H⟩ := bP H;obtain ⟨x30, x31, e32, H⟩ := eu H;refine ac ?_;show AR _ _ _ _ _ [0, 1, 2, 3, 4, 5, 6, 7, 8, 9] _;refine zS rfl (ak (av := slE _ _ _) rfl) <| zm rfl <| zS rfl (bL (E := Enc.str) ar (by kernel_rfl) rfl rfl g27 e29) <| zS rfl (aF ag rfl rfl) <| aq rfl rfl (aU rfl qo rfl (mq F x28 x30 x31 e32) ?_);refine zS rfl (ak (av := .tup _) rfl) <| zS rfl (aK (av := .v _) rfl rfl) <| zS rfl (aK (av := .v _) rfl rfl) <| za rfl <| za rfl <| ai <| ah <| ah <| ac ?_;show AR _ _ _ _ _ [0, 1] _;refine zm rfl <| zS rfl (cW rfl) <| ai <| aE rfl (fun c33 => ?_) (fun c33 => ?_)
    ·replace H := bg c33 H;refine ah <| ac ?_;show AR _ _ _ _ _ [0, 1] _;refine zR rfl (bq (i := 1) (n := 3) bj rfl (by kernel_rfl) rfl rfl (aa rfl)) <| s0 rfl rfl (aH (i := 1) (vs := [i64 0, i64 0, i64 0]) (by kernel_rfl) rfl rfl (by simp [bk, slE]) rfl (aa rfl)) <| ai <| aQ ?_;obtain ⟨rfl, rfl, rfl⟩ := ia H;exact And.intro rfl (Exists.intro _ (Exists.intro _ ⟨bW (dw rfl (bX (off := 0) (cs := [i64 0, i64 0, i64 0]) (n := 3) 1 bj rfl (by kernel_rfl) rfl rfl (aa rfl))), aL [] rfl, rfl, rfl⟩))
    ·replace H := ba c33 H;refine aJ ?_;obtain ⟨g34, H⟩ := aY H;obtain ⟨g35, H⟩ := aY H;obtain ⟨x36, e37, H⟩ := bP H;refine ac ?_;show AR _ _ _ _ _ [0, 1, 2, 3] _;refine zm rfl <| zm rfl <| zS rfl (lV bj (by kernel_rfl) rfl rfl g34) <| s0 rfl rfl (rQ (pre := []) (post := []) (l := ([y21, y22, y23] : List Int)) (vs := [i64 (x36.getD 0 0), i64 (x36.getD 1 0), i64 (x36.getD 2 0)]) (n := 3) (k := 0) (by kernel_rfl) rfl rfl rfl rfl rfl g35 e37 rfl) <| ai ?_;obtain ⟨g38, H⟩ := aY H;refine ac ?_;show AR _ _ _ _ _ [0, 1] _;refine zS rfl (dE rfl rfl g38) <| zm rfl <| ai ?_;exact Exists.intro (n25, y20 + 1, x36.getD 0 0, x36.getD 1 0, x36.getD 2 0) ⟨H, Nat.lt_succ_self _, aZ [0, 0] (.cons (.refl _) (.cons (.refl _) (.cons (.refl _) (.cons (.refl _) (.cons (.refl _) (.cons (.refl _) (.nil _))))))) rfl⟩
   ·replace H := ba c26 H;refine cH ?_;exact Exists.intro (y21, y22, y23) ⟨H, aZ [0, 0] (.cons (.refl _) (.cons (.refl _) (.cons (.refl _) (.nil _)))) rfl⟩
  rintro ⟨y39, y40, y41⟩ H;replace H : iE a1 y39 y40 y41 = some (r3, r4, r5) := H
  unfold iE at H
  refine bK (X := Int × Int × Int) (fun (y45, y46, y47) => ⟨[(4, .pt o6 0)], [], [.obj o6 [i64 y45, i64 y46, i64 y47]]⟩) (fun (y45, y46, y47) => gH y45 y46 y47 = some (r3, r4, r5)) ?_ ?_
  ·refine ah ?_;obtain ⟨g43, H⟩ := aY H;refine ac ?_;show AR _ _ _ _ _ [0, 1, 2, 3, 4] _;refine zS rfl (ef (Ar := 0) (k := 1) (m := 0) bj (by kernel_rfl) rfl rfl rfl (by decide)) <| zR rfl (al (i := 0) aw rfl rfl rfl rfl) <| zm rfl <| zS rfl (g_quo rfl rfl g43) <| zS rfl (bt rfl rfl) <| ai <| aE rfl (fun c44 => ?_) (fun c44 => ?_)
   ·replace H := bg c44 H;refine ac ?_;show AR _ _ _ _ _ [0, 1] _;refine zR rfl (bq (i := 0) (n := 3) bj rfl (by kernel_rfl) rfl rfl (aa rfl)) <| s0 rfl rfl (aH (i := 1) (vs := [i64 y39, i64 y40, i64 y41]) (by kernel_rfl) rfl rfl (by simp [bk, slE]) rfl (aa rfl)) <| ai ?_;exact Exists.intro (y39, y40, y41) ⟨H, aZ [1] (.cons (.refl _) (.nil _)) rfl⟩
   ·replace H := ba c44 H;refine aJ ?_;exact Exists.intro (0, 0, 0) ⟨H, aZ [1] (.cons (.refl _) (.nil _)) rfl⟩
  rintro ⟨y45, y46, y47⟩ H;replace H : gH y45 y46 y47 = some (r3, r4, r5) := H
  unfold gH at H
  refine ah <| ac ?_;show AR _ _ _ _ _ [0, 1] _;refine zR rfl (bq (i := 0) (n := 3) bj rfl (by kernel_rfl) rfl rfl (aa rfl)) <| s0 rfl rfl (aH (i := 0) (vs := [i64 y45, i64 y46, i64 y47]) (by kernel_rfl) rfl rfl (by simp [bk, slE]) rfl (aa rfl)) <| ai <| aQ ?_;obtain ⟨rfl, rfl, rfl⟩ := ia H;exact And.intro rfl (Exists.intro _ (Exists.intro _ ⟨bW (dw rfl (bX (off := 0) (cs := [i64 y45, i64 y46, i64 y47]) (n := 3) 0 bj rfl (by kernel_rfl) rfl rfl (aa rfl))), aL [] rfl, rfl, rfl⟩))
set_option maxRecDepth 100000 in
set_option maxHeartbeats 1000000 in
theorem mo (F : Nat) (a1 : Bool) (rv : Res Unit) (H : fa F a1 = some rv) : ACalls Tryz.prog 77 [B a1] [] (PanOr (fun (r : Unit) => (Ret (.tup []) [])) (fun e => nR (.iface 87 (.agg #[]))) rv) := by
 unfold fa at H
 refine az Tryz.func77 rfl rfl ?_;show AW _ _ 6 _ _ _;refine ah <| ac ?_;show AR _ _ _ _ _ [0, 1] _;refine zm rfl <| zS rfl (cW rfl) <| ai <| aE rfl (fun c2 => ?_) (fun c2 => ?_)
 ·replace H := bg c2 H;obtain rfl := ay H;refine ac ?_;show AR _ _ _ _ _ [0, 1, 2] _;refine zS rfl (iQ (zs := []) (ps := []) (cs := []) (by kernel_rfl) rfl rfl) <| zS rfl (bz (a := .agg _) Tryz.underlying87 rfl rfl) <| aq rfl rfl (AO.panicT (c := nR (.iface 87 (.agg #[]))) rfl rfl ?_);exact And.intro rfl (Exists.intro [] ⟨cG _, rfl, rfl⟩)
 ·replace H := ba c2 H;refine aJ ?_;obtain rfl := ay H;exact And.intro rfl (Exists.intro _ (Exists.intro _ ⟨bp rfl, aL [] rfl, rfl, rfl⟩))
theorem gt (F : Nat) (a1 : Bool) (H : fa F a1 = some (Res.ok ())) : ACalls Tryz.prog 77 [B a1] [] (Ret (.tup []) []) := mo F a1 _ H
theorem fT (F : Nat) (a1 : Bool) (e : Int) (H : fa F a1 = some (Res.pan e)) : ACalls Tryz.prog 77 [B a1] [] (fun ae A' => ae = .pan ((fun e => nR (.iface 87 (.agg #[]))) e) ∧ A' = []) := mo F a1 _ H
set_option maxRecDepth 100000 in
set_option maxHeartbeats 1000000 in
theorem qC (F : Nat) {σ τ : Type} (T : σ → τ → List Chunk) (Tp : σ → τ → List Chunk) (k : σ → (List UInt8) → Option (σ × Option Bool)) (o : Nat) (hY : ∀ (s : σ) (t : τ) (x : List UInt8) (rv : σ × Option Bool), k s x = some rv → ii Tryz.prog o [S x] (T s t) fun ae A' => ∃ t', ae = outc (nR (.iface 87 (.agg #[]))) rv.2 ∧ A' = outT T Tp rv t') (st0 : σ) (tt0 : τ) (o1 : Nat) (a2 : List UInt8) (rs : σ) (rb : Bool) (r3 : List UInt8) (H : kv F k st0 a2 = some (rs, rb, r3)) : ACalls Tryz.prog 107 [.yl o, .pt o1 0] ([.obj o1 [slE Enc.byte a2 none]] ++ T st0 tt0) (fun e A' => ∃ tz, (rb = false ∧ e = .ret (.tup []) ∧ A' = [.obj o1 [slE Enc.byte r3 none]] ++ T rs tz) ∨ (rb = true ∧ e = .pan (nR (.iface 87 (.agg #[]))) ∧ (A' = T rs tz ∨ A' = Tp rs tz))) := by
 unfold kv at H
 refine az Tryz.func107 rfl rfl ?_;show AW _ _ 38 _ _ _;refine be <| cN (X := Nat × (List UInt8) × σ × τ) (fun (n8, y4, y5, t6) => ⟨[(0, .yl o), (1, .pt o1 0)], [], ([.obj o1 [slE Enc.byte y4 none]] ++ T y5 t6)⟩) (fun (n8, y4, y5, t6) => fu F k n8 (y4, y5) = some (rs, rb, r3)) (fun (n8, y4, y5, t6) => n8) (F, a2, st0, tt0) H (WK.atT 1 [0] (.cons (.refl _) (.cons (.refl _) (.nil _))) rfl) ?_;rintro ⟨n8, y4, y5, t6⟩ H;obtain ⟨n8, rfl, H⟩ := dK H;replace H : fv F k (fu F k n8) y4 y5 = some (rs, rb, r3) := H
 unfold fv at H
 refine be <| ah ?_;obtain ⟨x9, e10, H⟩ := cu H;refine ac ?_;show AR _ _ _ _ _ [0, 1, 2] _;refine zR rfl (al (i := 0) ab rfl rfl rfl rfl) <| aq rfl rfl (aU rfl nv rfl (gR F y4 none 10 x9 e10) ?_);refine za rfl <| ai <| ah <| ah <| ac ?_;show AR _ _ _ _ _ [0, 1] _;refine zm rfl <| zS rfl (bN rfl rfl) <| ai <| aE rfl (fun c11 => ?_) (fun c11 => ?_)
 ·replace H := bg c11 H;refine ah ?_
  rcases Or.symm (rq H) with ⟨p14, e13, H⟩ | ⟨x12, e13, H⟩
  ·obtain ⟨rfl, rfl, rfl⟩ := ia H;refine ac ?_;show AR _ _ _ _ _ [0, 1, 2, 3] _;refine zR rfl (al (i := 0) ab rfl rfl rfl rfl) <| zS rfl (bc ab rfl) <| zS rfl (bN rfl rfl) <| aq rfl rfl (AO.callPan (c := nR (.iface 87 (.agg #[]))) [] rfl gO rfl (fT F (decide ((y4.length : Int) < 512)) p14 e13) rfl ?_);exact And.intro rfl (Exists.intro _ ⟨Sub.atT 1 [] rfl, t6, .inr ⟨rfl, rfl, .inl rfl⟩⟩)
  refine ac ?_;show AR _ _ _ _ _ [0, 1, 2, 3] _;refine zR rfl (al (i := 0) ab rfl rfl rfl rfl) <| zS rfl (bc ab rfl) <| zS rfl (bN rfl rfl) <| aq rfl rfl (aU rfl gO rfl (gt F (decide ((y4.length : Int) < 512)) e13) ?_);refine ai <| aQ ?_;obtain ⟨rfl, rfl, rfl⟩ := ia H;exact And.intro rfl (Exists.intro _ (Exists.intro _ ⟨bp rfl, Sub.atT 1 [0] rfl, t6, .inl ⟨rfl, rfl, rfl⟩⟩))
 ·replace H := ba c11 H;refine aJ <| ah ?_;obtain ⟨x17, e18, H⟩ := gy H;obtain ⟨g19, H⟩ := cq H
  rcases Or.symm (rq H) with ⟨p22, e21, H⟩ | ⟨x20, e21, H⟩
  ·obtain ⟨rfl, rfl, rfl⟩ := ia H;refine ac ?_;show AR _ _ _ _ _ [0, 1, 2, 3, 4, 5, 6, 7, 8, 9, 10, 11, 12, 13] _;refine zm rfl <| zS rfl (bN rfl rfl) <| zm rfl <| aG (l := [6, 7, 8, 9, 10, 11, 12, 13]) 17 (B ((decide (x9 < 512)) && (decide (0 < x9)))) (fun K => ?_) ?_
   ·rcases af (decide (x9 < 512)) with h15 | h15
    ·refine zM h15 rfl <| zU h15 rfl (fH rfl rfl) <| zS rfl (ap (av := .v _) rfl h15 rfl) ?_;exact K _ 2 _ (am (bI h15)) rfl rfl
    ·refine zF h15 rfl <| zF h15 rfl <| zS rfl (ao (av := .v _) rfl h15 rfl) ?_;exact K _ 2 _ (am (bJ h15)) rfl rfl
   refine zm rfl <| aG (l := [13]) 24 (B (((decide (x9 < 512)) && (decide (0 < x9))) && (decide (x17 = x9 - 1)))) (fun K => ?_) ?_
   ·rcases af ((decide (x9 < 512)) && (decide (0 < x9))) with h16 | h16
    ·refine zT h16 rfl (ca rfl rfl (al (i := 0) ab rfl rfl rfl rfl) ?_);refine zT h16 rfl (aU rfl nv rfl (gR F y4 none 13 x17 (e18 h16)) ?_);refine zM h16 rfl <| zU h16 rfl (kN rfl rfl (g19 h16)) <| zU h16 rfl (bt rfl rfl) <| zS rfl (ap (av := .v _) rfl h16 rfl) ?_;exact K _ 5 _ (am (bI h16)) rfl rfl
    ·refine zF h16 rfl <| zF h16 rfl <| zF h16 rfl <| zF h16 rfl <| zF h16 rfl <| zS rfl (ao (av := .v _) rfl h16 rfl) ?_;exact K _ 5 _ (am (bJ h16)) rfl rfl
   refine aq rfl rfl (AO.callPan (c := nR (.iface 87 (.agg #[]))) [] rfl gO rfl (fT F (((decide (x9 < 512)) && (decide (0 < x9))) && (decide (x17 = x9 - 1))) p22 e21) rfl ?_);exact And.intro rfl (Exists.intro _ ⟨Sub.atT 1 [] rfl, t6, .inr ⟨rfl, rfl, .inl rfl⟩⟩)
  refine ac ?_;show AR _ _ _ _ _ [0, 1, 2, 3, 4, 5, 6, 7, 8, 9, 10, 11, 12, 13] _;refine zm rfl <| zS rfl (bN rfl rfl) <| zm rfl <| aG (l := [6, 7, 8, 9, 10, 11, 12, 13]) 17 (B ((decide (x9 < 512)) && (decide (0 < x9)))) (fun K => ?_) ?_
  ·rcases af (decide (x9 < 512)) with h15 | h15
   ·refine zM h15 rfl <| zU h15 rfl (fH rfl rfl) <| zS rfl (ap (av := .v _) rfl h15 rfl) ?_;exact K _ 2 _ (am (bI h15)) rfl rfl
   ·refine zF h15 rfl <| zF h15 rfl <| zS rfl (ao (av := .v _) rfl h15 rfl) ?_;exact K _ 2 _ (am (bJ h15)) rfl rfl
  refine zm rfl <| aG (l := [13]) 24 (B (((decide (x9 < 512)) && (decide (0 < x9))) && (decide (x17 = x9 - 1)))) (fun K => ?_) ?_
  ·rcases af ((decide (x9 < 512)) && (decide (0 < x9))) with h16 | h16
   ·refine zT h16 rfl (ca rfl rfl (al (i := 0) ab rfl rfl rfl rfl) ?_);refine zT h16 rfl (aU rfl nv rfl (gR F y4 none 13 x17 (e18 h16)) ?_);refine zM h16 rfl <| zU h16 rfl (kN rfl rfl (g19 h16)) <| zU h16 rfl (bt rfl rfl) <| zS rfl (ap (av := .v _) rfl h16 rfl) ?_;exact K _ 5 _ (am (bI h16)) rfl rfl
   ·refine zF h16 rfl <| zF h16 rfl <| zF h16 rfl <| zF h16 rfl <| zF h16 rfl <| zS rfl (ao (av := .v _) rfl h16 rfl) ?_;exact K _ 5 _ (am (bJ h16)) rfl rfl
  refine aq rfl rfl (aU rfl gO rfl (gt F (((decide (x9 < 512)) && (decide (0 < x9))) && (decide (x17 = x9 - 1))) e21) ?_);refine ai <| ah <| ah ?_;obtain ⟨g23, H⟩ := aY H;obtain ⟨g24, H⟩ := aY H;obtain ⟨x25, e26, H⟩ := bP H;obtain ⟨x27, e28, H⟩ := cu H
  rcases bndo_s H with ⟨h30, H⟩ | ⟨x29, h30, H⟩
  ·obtain ⟨rfl, rfl, rfl⟩ := ia H;refine ac ?_;show AR _ _ _ _ _ [0, 1, 2, 3, 4, 5, 6, 7] _;refine zS rfl (ak (av := .yl _) rfl) <| zR rfl (al (i := 0) ab rfl rfl rfl rfl) <| zm rfl <| zS rfl (kN rfl rfl g23) <| zS rfl (ou (E := Enc.byte) ab (by kernel_rfl) rfl rfl g24 e26) <| zS rfl (cr ab aO ag rfl) <| aq rfl rfl (AO.yieldPan 1 rfl rfl rfl (hY _ _ _ _ e28) h30 fun t32 => ?_);exact And.intro rfl (Exists.intro _ ⟨Sub.atT 1 [] rfl, t32, .inr ⟨rfl, rfl, .inr rfl⟩⟩)
  refine ac ?_;show AR _ _ _ _ _ [0, 1, 2, 3, 4, 5, 6, 7] _;refine zS rfl (ak (av := .yl _) rfl) <| zR rfl (al (i := 0) ab rfl rfl rfl rfl) <| zm rfl <| zS rfl (kN rfl rfl g23) <| zS rfl (ou (E := Enc.byte) ab (by kernel_rfl) rfl rfl g24 e26) <| zS rfl (cr ab aO ag rfl) <| aq rfl rfl (AO.yieldOk (b := x29) 1 rfl rfl rfl (hY _ _ _ _ e28) h30 fun t31 => ?_);show AR _ _ _ _ _ _ ⟨_, _, ([.obj o1 [slE Enc.byte y4 none]] ++ T x27.1 t31)⟩;refine zS rfl (cW rfl) <| ai <| aE rfl (fun c33 => ?_) (fun c33 => ?_)
  ·replace H := bg c33 H;refine aQ ?_;obtain ⟨rfl, rfl, rfl⟩ := ia H;exact And.intro rfl (Exists.intro _ (Exists.intro _ ⟨bp rfl, Sub.atT 1 [0] rfl, t31, .inl ⟨rfl, rfl, rfl⟩⟩))
  ·replace H := ba c33 H;refine aJ ?_;obtain ⟨g34, H⟩ := aY H;obtain ⟨g35, H⟩ := aY H;obtain ⟨x36, e37, H⟩ := bP H;refine ac ?_;show AR _ _ _ _ _ [0, 1, 2, 3, 4] _;refine zR rfl (al (i := 0) ab rfl rfl rfl rfl) <| zm rfl <| zS rfl (dE rfl rfl g34) <| zS rfl (cU (E := Enc.byte) ab (by kernel_rfl) rfl rfl g35 e37) <| s0 rfl rfl (au (i := 0) (c := slE _ _ _) (by kernel_rfl) rfl rfl rfl rfl (aa rfl)) <| ai ?_;exact Exists.intro (n8, x36, x27.1, t31) ⟨H, Nat.lt_succ_self _, WK.atT 1 [0] (.cons (.refl _) (.cons (.refl _) (.nil _))) rfl⟩
set_option maxRecDepth 100000 in
set_option maxHeartbeats 1000000 in
theorem ru (F : Nat) (a1 : List UInt8) (H : lk F a1 = some ()) : ACalls Tryz.prog 76 [slE Enc.byte a1 none] [] (fun e A' => ∃ ob1 : Nat, e = .ret (.fn (.func 107) [] [.pt ob1 0]) ∧ A' = [.obj ob1 [slE Enc.byte a1 none]]) := by
 unfold lk at H
 refine az Tryz.func76 rfl rfl ?_;show AW _ _ 4 _ _ _;refine ah <| ac ?_;show AR _ _ _ _ _ [0, 1] _;refine zX rfl (ie rfl (.inl rfl)) ?_;rintro _ _ ⟨o2, rfl, rfl⟩;refine za rfl <| ai <| ah <| ac ?_;show AR _ _ _ _ _ [0, 1] _;refine zS rfl (hU rfl rfl) <| zS rfl (aB (av := .fn _ _ _) rfl) <| ai <| aQ ?_;exact And.intro rfl (Exists.intro _ (Exists.intro _ ⟨aV rfl (.refl _), aL [0] rfl, o2, rfl, rfl⟩))
abbrev _root_.Go.Av.bm := @Tryz.underlying41
abbrev _root_.Go.Av.bE := @Tryz.underlying47
set_option maxRecDepth 100000 in
set_option maxHeartbeats 1000000 in
theorem sE (F : Nat) (a1 : Int) (a2 : List (List UInt8)) (a3 : Int) (a4 : Int) (a5 : Int) (a6 : Int) (o7 : Nat) (a8 : List (Int × (List (List UInt8)) × Int × Int × Int)) (t9 : Nat) (o10 : Nat) (a11 : Int) (r12 : List (Int × (List (List UInt8)) × Int × Int × Int)) (r14 : Int) (H : mE F a1 a2 a3 a4 a5 a6 a8 a11 = some (r12, r14)) : ACalls Tryz.prog 56 [.agg [i64 a1, slE Enc.str a2 none, i64 a3, i64 a4, i64 a5], i64 a6, .pt o7 0, .pt o10 0] [.obj o7 [slE (aC Enc.int (aC (Enc.sl Enc.str) (aC Enc.int (aC Enc.int Enc.int)))) a8 (some t9)], .tok t9 41, .obj o10 [i64 a11]] (fun e A' => e = .ret (.tup []) ∧ ∃ t13, A' = [.obj o7 [slE (aC Enc.int (aC (Enc.sl Enc.str) (aC Enc.int (aC Enc.int Enc.int)))) r12 (some t13)], .tok t13 41, .obj o10 [i64 r14]]) := by
 unfold mE at H
 refine az Tryz.func56 rfl rfl ?_;show AW _ _ 11 _ _ _;refine ah <| ac ?_;show AR _ _ _ _ _ [0] _;refine zR rfl (cP rfl (.inr ⟨_, rfl⟩)) <| ai ?_;obtain ⟨g16, H⟩ := aY H;obtain ⟨x17, e18, H⟩ := bP H;refine ac ?_;show AR _ _ _ _ _ [0, 1, 2, 3, 4, 5, 6] _;refine zR rfl (al (i := 0) bE rfl rfl rfl rfl) <| zS rfl (bh bm rfl (n := 5) (by kernel_rfl) rfl (aa rfl)) <| zR rfl (mA (E := (aC Enc.int (aC (Enc.sl Enc.str) (aC Enc.int (aC Enc.int Enc.int))))) (bytes := 56) (zs := [.int .i64 0, .slice none 0 0, .int .i64 0, .int .i64 0, .int .i64 0]) (l := ([(a1, a2, (a3, a4, a5))] : List (Int × (List (List UInt8)) × Int × Int × Int))) bE (by kernel_rfl) (by kernel_rfl) rfl rfl rfl rfl rfl) <| zX rfl (df (E := (aC Enc.int (aC (Enc.sl Enc.str) (aC Enc.int (aC Enc.int Enc.int))))) (bytes := 56) 1 bE bE rfl (by kernel_rfl) rfl rfl rfl rfl g16 e18) ?_;rintro _ _ ⟨t15, rfl, rfl⟩;refine zm rfl <| s0 rfl rfl (au (i := 0) (c := slE _ _ _) (by kernel_rfl) rfl rfl rfl rfl (aa rfl)) <| s0 rfl rfl (au (i := 2) (c := .v _) (by kernel_rfl) rfl rfl rfl rfl (aa rfl)) <| ai ?_;obtain ⟨rfl, rfl⟩ := gw H;exact And.intro rfl (Exists.intro _ (Exists.intro _ ⟨bp rfl, aL [0, 0, 0] rfl, rfl, t15, rfl⟩))
set_option maxRecDepth 100000 in
set_option maxHeartbeats 1000000 in
theorem pH (F : Nat) (a1 : List UInt8) (q2 : Option Nat) (o3 : Nat) (a4 : List (Int × (List (List UInt8)) × Int × Int × Int)) (t5 : Nat) (o6 : Nat) (a7 : Int) (r8 : List (Int × (List (List UInt8)) × Int × Int × Int)) (r10 : Int) (rb : Bool) (H : kH F a1 a4 a7 = some (r8, r10, rb)) : ACalls Tryz.prog 55 [slE Enc.byte a1 q2, .fn (.func 56) [] [.pt o3 0, .pt o6 0]] [.obj o3 [slE (aC Enc.int (aC (Enc.sl Enc.str) (aC Enc.int (aC Enc.int Enc.int)))) a4 (some t5)], .tok t5 41, .obj o6 [i64 a7]] (fun e A' => ∃ t9, A' = [.obj o3 [slE (aC Enc.int (aC (Enc.sl Enc.str) (aC Enc.int (aC Enc.int Enc.int)))) r8 (some t9)], .tok t9 41, .obj o6 [i64 r10]] ∧ ((rb = false ∧ e = .ret (.tup [])) ∨ (rb = true ∧ e = .pan (nR (.iface 87 (.agg #[])))))) := by
 unfold kH at H
 refine nk Tryz.func55 rfl rfl ?_;show AWV _ 87 _ _ _;refine AWV.seq <| AWV.of <| ac ?_;show AR _ _ _ _ _ [0] _;refine zR rfl (cP rfl (.inl rfl)) <| ai ?_;show AWV _ _ _ _ _;refine AWV.seq <| AWV.of <| ac ?_;show AR _ _ _ _ _ [0] _;refine zX rfl (br (zs := [.int .i64 0, .slice none 0 0, .int .i64 0, .int .i64 0, .int .i64 0]) (by kernel_rfl)) ?_;rintro _ _ ⟨o11, rfl, rfl⟩;refine ai ?_;show AWV _ _ _ _ _
 refine AWV.nil_objAt 0 1 1 9 rfl rfl fun t12 => ?_
 show AWV _ _ _ _ ⟨_, _, [.tok t12 9, .obj o11 [i64 0, slE Enc.str [] (some t12), i64 0, i64 0, i64 0], .obj o3 [slE (aC Enc.int (aC (Enc.sl Enc.str) (aC Enc.int (aC Enc.int Enc.int)))) a4 (some t5)], .tok t5 41, .obj o6 [i64 a7]]⟩;refine AWV.seq <| AWV.of <| ac ?_;show AR _ _ _ _ _ [0, 1] _;refine zX rfl (br (zs := [.int .i64 0]) (by kernel_rfl)) ?_;rintro _ _ ⟨o13, rfl, rfl⟩;refine s0 rfl rfl (au (i := 0) (c := .v _) (by kernel_rfl) rfl rfl rfl rfl (aa rfl)) <| ai ?_;show AWV _ _ _ _ _;refine AWV.seq <| AWV.of ?_;obtain ⟨_, e14, H⟩ := cu H;refine ac ?_;show AR _ _ _ _ _ [0, 1] _;refine zS rfl (ak (av := slE _ _ _) rfl) <| aq rfl rfl (cI [] rfl ux rfl (mC (.cons (.tok _ _ _) (.nil)) (ru F a1 e14)) rfl (fun c A' h => by obtain ⟨_, h, _⟩ := h; cases h) ?_)
 rintro av A' ⟨o15, h, rfl⟩; cases h
 refine ai ?_;show AWV _ _ _ _ _;refine AWV.block ?_;obtain ⟨x79, x80, x81, e82, H⟩ := gQ H;refine sa (α := List UInt8) (σ := Int × Int × (List (List UInt8)) × (List (Int × (List (List UInt8)) × Int × Int × Int)) × Int) (τ := Nat × Nat) (nR (.iface 87 (.agg #[]))) (fun x => [S x]) (fun s t => [.obj o13 [i64 s.1], .obj o11 [i64 s.2.1, slE Enc.str s.2.2.1 (some t.1), i64 0, i64 0, i64 0], .obj o3 [slE (aC Enc.int (aC (Enc.sl Enc.str) (aC Enc.int (aC Enc.int Enc.int)))) s.2.2.2.1 (some t.2)], .obj o6 [i64 s.2.2.2.2], .tok t.1 9, .tok t.2 41]) (fun _ => none) (fun s x => gD F s.1 s.2.1 s.2.2.1 s.2.2.2.1 s.2.2.2.2 x) (0, 0, [], a4, a7) (t12, t5) x79 x80 [0] [0, 1, 1, 2, 0, 0] rfl ti (fun _ => rfl) (by decide) rfl rfl rfl (fun o T' Tp hY => qC F T' Tp _ o hY _ _ o15 a1 x79 x80 x81 e82) ?_ ?_ ?_
 ·rintro l ⟨y16, y17, y18, y20, y22⟩ ⟨t19, t21⟩ x24 rv H;replace H : gD F y16 y17 y18 y20 y22 x24 = some rv := H
  unfold gD at H
  refine ⟨rfl, ?_⟩;show AW _ _ _ _ _ ⟨(11, S x24) :: _, [], _⟩;refine ac ?_;show AR _ _ _ _ _ [0] _;refine za rfl <| ai <| be <| ah ?_;obtain ⟨g26, H⟩ := cq H;obtain ⟨x27, e28, H⟩ := bP H;obtain ⟨g30, H⟩ := cq H;obtain ⟨x31, e32, H⟩ := bP H
  rcases Or.symm (rq H) with ⟨p36, e35, H⟩ | ⟨x34, e35, H⟩
  ·obtain rfl := ay H;refine ac ?_;show AR _ _ _ _ _ [0, 1, 2, 3, 4, 5, 6, 7, 8, 9, 10, 11, 12, 13, 14, 15, 16, 17, 18, 19] _;refine zm rfl <| zS rfl (bb ag rfl) <| zS rfl (di rfl rfl) <| zm rfl <| aG (l := [13, 14, 15, 16, 17, 18, 19]) 24 (B ((decide (4 ≤ (x24.length : Int))) && ((decide (x27 = 45)) || (decide (x31 = 32))))) (fun K => ?_) ?_
   ·rcases af (decide (4 ≤ (x24.length : Int))) with h25 | h25
    ·refine zM h25 rfl <| zU h25 rfl (bi ag rfl rfl (g26 h25) e28) <| zU h25 rfl (dr (a := x27) (b := 45) rfl rfl) <| zM h25 rfl <| aG (l := [12, 13, 14, 15, 16, 17, 18, 19]) 23 (B ((decide (x27 = 45)) || (decide (x31 = 32)))) (fun K => ?_) ?_
     ·rcases af (decide (x27 = 45)) with h29 | h29
      ·refine zF h29 rfl <| zF h29 rfl <| zF h29 rfl <| zU h25 rfl (ap (av := .v _) rfl h29 rfl) ?_;exact K _ 3 _ (am (dz h29)) rfl rfl
      ·refine zM h29 rfl <| zU h29 rfl (bi ag rfl rfl (g30 (eH h25 (nf h29))) e32) <| zU h29 rfl (dr (a := x31) (b := 32) rfl rfl) <| zU h25 rfl (ao (av := .v _) rfl h29 rfl) ?_;exact K _ 3 _ (am (dA h29)) rfl rfl
     refine zS rfl (ap (av := .v _) rfl h25 rfl) ?_;exact K _ 5 _ (am (bI h25)) rfl rfl
    ·refine zF h25 rfl <| zF h25 rfl <| zF h25 rfl <| zF h25 rfl <| gU rfl rfl rfl rfl rfl <| gU rfl rfl rfl rfl rfl <| gU rfl rfl rfl rfl rfl <| zF h25 rfl <| zS rfl (ao (av := .v _) rfl h25 rfl) ?_;exact K _ 8 _ (am (bJ h25)) rfl rfl
   refine zm rfl <| aG (l := [19]) 30 (B (((decide (4 ≤ (x24.length : Int))) && ((decide (x27 = 45)) || (decide (x31 = 32)))) && (decide ((y18.length : Int) < 100)))) (fun K => ?_) ?_
   ·rcases af ((decide (4 ≤ (x24.length : Int))) && ((decide (x27 = 45)) || (decide (x31 = 32)))) with h33 | h33
    ·refine zU h33 rfl (aj (n := 1) (by kernel_rfl) rfl) <| zT h33 rfl (ca rfl rfl (al (i := 1) ar rfl rfl rfl rfl) ?_);refine zU h33 rfl (bc ar rfl) <| zU h33 rfl (bN rfl rfl) <| zS rfl (ap (av := .v _) rfl h33 rfl) ?_;exact K _ 4 _ (am (bI h33)) rfl rfl
    ·refine zF h33 rfl <| zF h33 rfl <| zF h33 rfl <| zF h33 rfl <| zS rfl (ao (av := .v _) rfl h33 rfl) ?_;exact K _ 4 _ (am (bJ h33)) rfl rfl
   refine aq rfl rfl (AO.callPan (c := nR (.iface 87 (.agg #[]))) [] rfl gO rfl (fT F (((decide (4 ≤ (x24.length : Int))) && ((decide (x27 = 45)) || (decide (x31 = 32)))) && (decide ((y18.length : Int) < 100))) p36 e35) rfl ?_);exact ⟨rfl, rfl, rfl, (t19, t21), aL [0, 0, 0, 0, 0, 0] rfl⟩
  refine ac ?_;show AR _ _ _ _ _ [0, 1, 2, 3, 4, 5, 6, 7, 8, 9, 10, 11, 12, 13, 14, 15, 16, 17, 18, 19] _;refine zm rfl <| zS rfl (bb ag rfl) <| zS rfl (di rfl rfl) <| zm rfl <| aG (l := [13, 14, 15, 16, 17, 18, 19]) 24 (B ((decide (4 ≤ (x24.length : Int))) && ((decide (x27 = 45)) || (decide (x31 = 32))))) (fun K => ?_) ?_
  ·rcases af (decide (4 ≤ (x24.length : Int))) with h25 | h25
   ·refine zM h25 rfl <| zU h25 rfl (bi ag rfl rfl (g26 h25) e28) <| zU h25 rfl (dr (a := x27) (b := 45) rfl rfl) <| zM h25 rfl <| aG (l := [12, 13, 14, 15, 16, 17, 18, 19]) 23 (B ((decide (x27 = 45)) || (decide (x31 = 32)))) (fun K => ?_) ?_
    ·rcases af (decide (x27 = 45)) with h29 | h29
     ·refine zF h29 rfl <| zF h29 rfl <| zF h29 rfl <| zU h25 rfl (ap (av := .v _) rfl h29 rfl) ?_;exact K _ 3 _ (am (dz h29)) rfl rfl
     ·refine zM h29 rfl <| zU h29 rfl (bi ag rfl rfl (g30 (eH h25 (nf h29))) e32) <| zU h29 rfl (dr (a := x31) (b := 32) rfl rfl) <| zU h25 rfl (ao (av := .v _) rfl h29 rfl) ?_;exact K _ 3 _ (am (dA h29)) rfl rfl
    refine zS rfl (ap (av := .v _) rfl h25 rfl) ?_;exact K _ 5 _ (am (bI h25)) rfl rfl
   ·refine zF h25 rfl <| zF h25 rfl <| zF h25 rfl <| zF h25 rfl <| gU rfl rfl rfl rfl rfl <| gU rfl rfl rfl rfl rfl <| gU rfl rfl rfl rfl rfl <| zF h25 rfl <| zS rfl (ao (av := .v _) rfl h25 rfl) ?_;exact K _ 8 _ (am (bJ h25)) rfl rfl
  refine zm rfl <| aG (l := [19]) 30 (B (((decide (4 ≤ (x24.length : Int))) && ((decide (x27 = 45)) || (decide (x31 = 32)))) && (decide ((y18.length : Int) < 100)))) (fun K => ?_) ?_
  ·rcases af ((decide (4 ≤ (x24.length : Int))) && ((decide (x27 = 45)) || (decide (x31 = 32)))) with h33 | h33
   ·refine zU h33 rfl (aj (n := 1) (by kernel_rfl) rfl) <| zT h33 rfl (ca rfl rfl (al (i := 1) ar rfl rfl rfl rfl) ?_);refine zU h33 rfl (bc ar rfl) <| zU h33 rfl (bN rfl rfl) <| zS rfl (ap (av := .v _) rfl h33 rfl) ?_;exact K _ 4 _ (am (bI h33)) rfl rfl
   ·refine zF h33 rfl <| zF h33 rfl <| zF h33 rfl <| zF h33 rfl <| zS rfl (ao (av := .v _) rfl h33 rfl) ?_;exact K _ 4 _ (am (bJ h33)) rfl rfl
  refine aq rfl rfl (aU rfl gO rfl (gt F (((decide (4 ≤ (x24.length : Int))) && ((decide (x27 = 45)) || (decide (x31 = 32)))) && (decide ((y18.length : Int) < 100))) e35) ?_);refine ai <| ah ?_;obtain ⟨g37, H⟩ := aY H;obtain ⟨x38, e39, H⟩ := bP H;obtain ⟨x40, x41, e42, H⟩ := eu H;refine ac ?_;show AR _ _ _ _ _ [0, 1, 2, 3, 4, 5, 6, 7] _;refine zm rfl <| zS rfl (pe ag rfl rfl g37 e39) <| aq rfl rfl (aU rfl qo rfl (mq F x38 x40 x41 e42) ?_);refine zS rfl (ak (av := .tup _) rfl) <| zS rfl (aK (av := .v _) rfl rfl) <| zS rfl (aK (av := .v _) rfl rfl) <| za rfl <| za rfl <| ai <| ah ?_
  rcases Or.symm (rq H) with ⟨p49, e48, H⟩ | ⟨x47, e48, H⟩
  ·obtain rfl := ay H;refine ac ?_;show AR _ _ _ _ _ [0, 1, 2, 3, 4, 5, 6, 7, 8, 9, 10, 11, 12, 13, 14, 15, 16, 17, 18, 19, 20, 21] _;refine zm rfl <| zm rfl <| aG (l := [5, 6, 7, 8, 9, 10, 11, 12, 13, 14, 15, 16, 17, 18, 19, 20, 21]) 42 (B (x41 && (decide (200 ≤ x40)))) (fun K => ?_) ?_
   ·rcases af x41 with h43 | h43
    ·refine zM h43 rfl <| zU h43 rfl (di rfl rfl) <| zS rfl (ap (av := .v _) rfl h43 rfl) ?_;exact K _ 2 _ (am (bI h43)) rfl rfl
    ·refine zF h43 rfl <| zF h43 rfl <| zS rfl (ao (av := .v _) rfl h43 rfl) ?_;exact K _ 2 _ (am (bJ h43)) rfl rfl
   refine zm rfl <| aG (l := [9, 10, 11, 12, 13, 14, 15, 16, 17, 18, 19, 20, 21]) 46 (B ((x41 && (decide (200 ≤ x40))) && (decide (x40 ≤ 599)))) (fun K => ?_) ?_
   ·rcases af (x41 && (decide (200 ≤ x40))) with h44 | h44
    ·refine zM h44 rfl <| zU h44 rfl (cL rfl rfl) <| zS rfl (ap (av := .v _) rfl h44 rfl) ?_;exact K _ 2 _ (am (bI h44)) rfl rfl
    ·refine zF h44 rfl <| zF h44 rfl <| zS rfl (ao (av := .v _) rfl h44 rfl) ?_;exact K _ 2 _ (am (bJ h44)) rfl rfl
   refine zm rfl <| aG (l := [21]) 58 (B (((x41 && (decide (200 ≤ x40))) && (decide (x40 ≤ 599))) && ((decide ((y18.length : Int) = 0)) || (decide (x40 = y17))))) (fun K => ?_) ?_
   ·rcases af ((x41 && (decide (200 ≤ x40))) && (decide (x40 ≤ 599))) with h45 | h45
    ·refine zU h45 rfl (aj (n := 1) (by kernel_rfl) rfl) <| zT h45 rfl (ca rfl rfl (al (i := 1) ar rfl rfl rfl rfl) ?_);refine zU h45 rfl (bc ar rfl) <| zU h45 rfl (bt rfl rfl) <| zM h45 rfl <| aG (l := [20, 21]) 57 (B ((decide ((y18.length : Int) = 0)) || (decide (x40 = y17)))) (fun K => ?_) ?_
     ·rcases af (decide ((y18.length : Int) = 0)) with h46 | h46
      ·refine zF h46 rfl <| zF h46 rfl <| zF h46 rfl <| zF h46 rfl <| zU h45 rfl (ap (av := .v _) rfl h46 rfl) ?_;exact K _ 4 _ (am (dz h46)) rfl rfl
      ·refine zM h46 rfl <| zU h46 rfl (aj (n := 0) (by kernel_rfl) rfl) <| zT h46 rfl (ca rfl rfl (al (i := 1) aw rfl rfl rfl rfl) ?_);refine zU h46 rfl (bt rfl rfl) <| zU h45 rfl (ao (av := .v _) rfl h46 rfl) ?_;exact K _ 4 _ (am (dA h46)) rfl rfl
     refine zS rfl (ap (av := .v _) rfl h45 rfl) ?_;exact K _ 6 _ (am (bI h45)) rfl rfl
    ·refine zF h45 rfl <| zF h45 rfl <| zF h45 rfl <| zF h45 rfl <| zF h45 rfl <| gU rfl rfl rfl rfl rfl <| gU rfl rfl rfl rfl rfl <| gU rfl rfl rfl rfl rfl <| gU rfl rfl rfl rfl rfl <| zF h45 rfl <| zS rfl (ao (av := .v _) rfl h45 rfl) ?_;exact K _ 10 _ (am (bJ h45)) rfl rfl
   refine aq rfl rfl (AO.callPan (c := nR (.iface 87 (.agg #[]))) [] rfl gO rfl (fT F (((x41 && (decide (200 ≤ x40))) && (decide (x40 ≤ 599))) && ((decide ((y18.length : Int) = 0)) || (decide (x40 = y17)))) p49 e48) rfl ?_);exact ⟨rfl, rfl, rfl, (t19, t21), aL [0, 0, 0, 0, 0, 0] rfl⟩
  refine ac ?_;show AR _ _ _ _ _ [0, 1, 2, 3, 4, 5, 6, 7, 8, 9, 10, 11, 12, 13, 14, 15, 16, 17, 18, 19, 20, 21] _;refine zm rfl <| zm rfl <| aG (l := [5, 6, 7, 8, 9, 10, 11, 12, 13, 14, 15, 16, 17, 18, 19, 20, 21]) 42 (B (x41 && (decide (200 ≤ x40)))) (fun K => ?_) ?_
  ·rcases af x41 with h43 | h43
   ·refine zM h43 rfl <| zU h43 rfl (di rfl rfl) <| zS rfl (ap (av := .v _) rfl h43 rfl) ?_;exact K _ 2 _ (am (bI h43)) rfl rfl
   ·refine zF h43 rfl <| zF h43 rfl <| zS rfl (ao (av := .v _) rfl h43 rfl) ?_;exact K _ 2 _ (am (bJ h43)) rfl rfl
  refine zm rfl <| aG (l := [9, 10, 11, 12, 13, 14, 15, 16, 17, 18, 19, 20, 21]) 46 (B ((x41 && (decide (200 ≤ x40))) && (decide (x40 ≤ 599)))) (fun K => ?_) ?_
  ·rcases af (x41 && (decide (200 ≤ x40))) with h44 | h44
   ·refine zM h44 rfl <| zU h44 rfl (cL rfl rfl) <| zS rfl (ap (av := .v _) rfl h44 rfl) ?_;exact K _ 2 _ (am (bI h44)) rfl rfl
   ·refine zF h44 rfl <| zF h44 rfl <| zS rfl (ao (av := .v _) rfl h44 rfl) ?_;exact K _ 2 _ (am (bJ h44)) rfl rfl
  refine zm rfl <| aG (l := [21]) 58 (B (((x41 && (decide (200 ≤ x40))) && (decide (x40 ≤ 599))) && ((decide ((y18.length : Int) = 0)) || (decide (x40 = y17))))) (fun K => ?_) ?_
  ·rcases af ((x41 && (decide (200 ≤ x40))) && (decide (x40 ≤ 599))) with h45 | h45
   ·refine zU h45 rfl (aj (n := 1) (by kernel_rfl) rfl) <| zT h45 rfl (ca rfl rfl (al (i := 1) ar rfl rfl rfl rfl) ?_);refine zU h45 rfl (bc ar rfl) <| zU h45 rfl (bt rfl rfl) <| zM h45 rfl <| aG (l := [20, 21]) 57 (B ((decide ((y18.length : Int) = 0)) || (decide (x40 = y17)))) (fun K => ?_) ?_
    ·rcases af (decide ((y18.length : Int) = 0)) with h46 | h46
     ·refine zF h46 rfl <| zF h46 rfl <| zF h46 rfl <| zF h46 rfl <| zU h45 rfl (ap (av := .v _) rfl h46 rfl) ?_;exact K _ 4 _ (am (dz h46)) rfl rfl
     ·refine zM h46 rfl <| zU h46 rfl (aj (n := 0) (by kernel_rfl) rfl) <| zT h46 rfl (ca rfl rfl (al (i := 1) aw rfl rfl rfl rfl) ?_);refine zU h46 rfl (bt rfl rfl) <| zU h45 rfl (ao (av := .v _) rfl h46 rfl) ?_;exact K _ 4 _ (am (dA h46)) rfl rfl
    refine zS rfl (ap (av := .v _) rfl h45 rfl) ?_;exact K _ 6 _ (am (bI h45)) rfl rfl
   ·refine zF h45 rfl <| zF h45 rfl <| zF h45 rfl <| zF h45 rfl <| zF h45 rfl <| gU rfl rfl rfl rfl rfl <| gU rfl rfl rfl rfl rfl <| gU rfl rfl rfl rfl rfl <| gU rfl rfl rfl rfl rfl <| zF h45 rfl <| zS rfl (ao (av := .v _) rfl h45 rfl) ?_;exact K _ 10 _ (am (bJ h45)) rfl rfl
  refine aq rfl rfl (aU rfl gO rfl (gt F (((x41 && (decide (200 ≤ x40))) && (decide (x40 ≤ 599))) && ((decide ((y18.length : Int) = 0)) || (decide (x40 = y17)))) e48) ?_);refine ai <| bK (X := (List (List UInt8)) × Nat) (fun (y58, t59) => ⟨[(3, .cp [.fn (.func 56) [] [.pt o3 0, .pt o6 0]]), (4, .pt o11 0), (5, .pt o13 0), (6, S x24), (7, i64 x40)], [], [.obj o13 [i64 y16], .obj o11 [i64 x40, slE Enc.str y58 (some t59), i64 0, i64 0, i64 0], .obj o3 [slE (aC Enc.int (aC (Enc.sl Enc.str) (aC Enc.int (aC Enc.int Enc.int)))) y20 (some t21)], .obj o6 [i64 y22], .tok t59 9, .tok t21 41]⟩) (fun (y58, t59) => jn F y16 y20 y22 x24 x40 y58 = some rv) ?_ ?_
  ·obtain ⟨g50, H⟩ := aY H;obtain ⟨x51, e52, H⟩ := bP H;obtain ⟨g54, H⟩ := aY H;obtain ⟨x55, e56, H⟩ := bP H;refine nX (by kernel_rfl) (by kernel_rfl) ?_;show AI _ _ _ _ _ 11 (Array.replicate 11 false) _;refine zk 0 rfl (mv rfl) ?_;show AI _ _ _ _ _ _ #[true, false, false, false, false, false, false, false, false, false, false] _;refine zk 1 rfl (aj (n := 1) (by kernel_rfl) rfl) ?_;show AI _ _ _ _ _ _ #[true, true, false, false, false, false, false, false, false, false, false] _;refine zk 3 rfl (mv rfl) ?_;show AI _ _ _ _ _ _ #[true, true, false, true, false, false, false, false, false, false, false] _;refine zk 4 rfl (fR ag rfl rfl g50 e52) ?_;show AI _ _ _ _ _ _ #[true, true, false, true, true, false, false, false, false, false, false] _;refine cA (i := 2) (j := 5) (by kernel_rfl) rfl rfl rfl rfl ?_ ?_
   ·refine aW rfl (al (i := 1) ar rfl rfl rfl rfl) ?_;show AI _ _ _ _ _ _ #[true, true, true, true, true, false, false, false, false, false, false] _;refine zk 7 rfl (aj (n := 0) (by kernel_rfl) rfl) ?_;show AI _ _ _ _ _ _ #[true, true, true, true, true, false, false, true, false, false, false] _;refine aN (i := 5) (by kernel_rfl) rfl rfl <| aW rfl (cF (E := Enc.str) (bytes := 16) (xs := [.tmp 64]) (l := ([x51] : List (List UInt8))) ar (by kernel_rfl) rfl rfl (by decide) rfl rfl) ?_;show AI _ _ _ _ _ _ #[true, true, true, true, true, true, false, true, false, false, false] _;refine aN (i := 6) (by kernel_rfl) rfl rfl <| dd rfl (df (E := Enc.str) (bytes := 16) 4 ar ar rfl (by kernel_rfl) rfl rfl rfl rfl g54 e56) ?_;rintro _ _ ⟨t53, rfl, rfl⟩;show AI _ _ _ _ _ _ #[true, true, true, true, true, true, true, true, false, false, false] _;refine aN (i := 8) (by kernel_rfl) rfl rfl <| cd (au (i := 1) (c := .v _) (by kernel_rfl) rfl rfl rfl rfl (aa rfl)) ?_;show AI _ _ _ _ _ _ #[true, true, true, true, true, true, true, true, true, false, false] _;refine zk 9 rfl (aj (n := 1) (by kernel_rfl) rfl) ?_;show AI _ _ _ _ _ _ #[true, true, true, true, true, true, true, true, true, true, false] _;refine aN (i := 10) (by kernel_rfl) rfl rfl <| cd (au (i := 1) (c := slE _ _ _) (by kernel_rfl) rfl rfl rfl rfl (aa rfl)) ?_
    show AI _ _ _ _ _ _ #[true, true, true, true, true, true, true, true, true, true, true] _;refine bo rfl ?_;exact Exists.intro (x55, t53) ⟨H, aZ [0, 0, 0, 0, 0, 0] (.cons (.refl _) (.cons (.refl _) (.cons (.refl _) (.cons (.refl _) (.cons (.refl _) (.nil _)))))) rfl⟩
   ·refine aW rfl (cF (E := Enc.str) (bytes := 16) (xs := [.tmp 64]) (l := ([x51] : List (List UInt8))) ar (by kernel_rfl) rfl rfl (by decide) rfl rfl) ?_;show AI _ _ _ _ _ _ #[true, true, false, true, true, true, false, false, false, false, false] _;refine aN (i := 2) (by kernel_rfl) rfl rfl <| aW rfl (al (i := 1) ar rfl rfl rfl rfl) ?_;show AI _ _ _ _ _ _ #[true, true, true, true, true, true, false, false, false, false, false] _;refine zk 7 rfl (aj (n := 0) (by kernel_rfl) rfl) ?_;show AI _ _ _ _ _ _ #[true, true, true, true, true, true, false, true, false, false, false] _;refine aN (i := 6) (by kernel_rfl) rfl rfl <| dd rfl (df (E := Enc.str) (bytes := 16) 4 ar ar rfl (by kernel_rfl) rfl rfl rfl rfl g54 e56) ?_;rintro _ _ ⟨t57, rfl, rfl⟩;show AI _ _ _ _ _ _ #[true, true, true, true, true, true, true, true, false, false, false] _;refine aN (i := 8) (by kernel_rfl) rfl rfl <| cd (au (i := 1) (c := .v _) (by kernel_rfl) rfl rfl rfl rfl (aa rfl)) ?_;show AI _ _ _ _ _ _ #[true, true, true, true, true, true, true, true, true, false, false] _;refine zk 9 rfl (aj (n := 1) (by kernel_rfl) rfl) ?_;show AI _ _ _ _ _ _ #[true, true, true, true, true, true, true, true, true, true, false] _;refine aN (i := 10) (by kernel_rfl) rfl rfl <| cd (au (i := 1) (c := slE _ _ _) (by kernel_rfl) rfl rfl rfl rfl (aa rfl)) ?_
    show AI _ _ _ _ _ _ #[true, true, true, true, true, true, true, true, true, true, true] _;refine bo rfl ?_;exact Exists.intro (x55, t57) ⟨H, aZ [0, 0, 0, 0, 0, 0] (.cons (.refl _) (.cons (.refl _) (.cons (.refl _) (.cons (.refl _) (.cons (.refl _) (.nil _)))))) rfl⟩
  rintro ⟨y58, t59⟩ H;replace H : jn F y16 y20 y22 x24 x40 y58 = some rv := H
  unfold jn at H
  refine ah ?_;obtain ⟨g61, H⟩ := aY H;obtain ⟨g62, H⟩ := aY H;refine ac ?_;show AR _ _ _ _ _ [0, 1, 2, 3, 4, 5] _;refine zR rfl (al (i := 0) aw rfl rfl rfl rfl) <| zm rfl <| zS rfl (bb ag rfl) <| zS rfl (dE rfl rfl g61) <| zS rfl (dE rfl rfl g62) <| s0 rfl rfl (au (i := 0) (c := .v _) (by kernel_rfl) rfl rfl rfl rfl (aa rfl)) <| ai <| ah ?_;obtain ⟨g63, H⟩ := aY H;obtain ⟨x64, e65, H⟩ := bP H;refine ac ?_;show AR _ _ _ _ _ [0, 1, 2] _;refine zm rfl <| zS rfl (bi ag rfl rfl g63 e65) <| zS rfl (dr (a := x64) (b := 32) rfl rfl) <| ai <| aE rfl (fun c66 => ?_) (fun c66 => ?_)
  ·replace H := bg c66 H;refine ah ?_;obtain ⟨g67, H⟩ := aY H;obtain ⟨x68, e69, H⟩ := bP H;obtain ⟨x70, x71, x72, e73, H⟩ := gQ H;refine ac ?_;show AR _ _ _ _ _ [0, 1, 2, 3, 4, 5] _;refine zm rfl <| zm rfl <| zS rfl (fR ag rfl rfl g67 e69) <| aq rfl rfl (aU rfl uw rfl (sF F x40 x68 x70 x71 x72 e73) ?_);refine zS rfl (aj (n := 2) (by kernel_rfl) rfl) <| s0 rfl rfl (aH (i := 1) (vs := [i64 x70, i64 x71, i64 x72]) (by kernel_rfl) rfl rfl (by simp [bk, slE]) rfl (aa rfl)) <| ai <| ah ?_;obtain ⟨x74, x75, e76, H⟩ := eu H;refine ac ?_;show AR _ _ _ _ _ [0, 1, 2, 3] _;refine zS rfl (aF Tryz.underlying90 rfl rfl) <| zR rfl (qQ (cs := [i64 x40, slE Enc.str y58 (some t59), i64 x70, i64 x71, i64 x72]) (bq (i := 1) (n := 5) bm rfl (by kernel_rfl) rfl rfl (aa rfl)) (.cons (.refl _) (.cons (.tok _ _ _) (.cons (.refl _) (.cons (.refl _) (.cons (.refl _) (.nil))))))) <| zR rfl (al (i := 0) aw rfl rfl rfl rfl) <| aq rfl rfl (AO.callFAt [2, 4, 2] rfl (.inl rfl) uz rfl (sE F x40 y58 x70 x71 x72 (y16 + ((x24.length : Int) + 2)) o3 y20 t21 o6 y22 x74 x75 e76) rfl (fun c A' h => by cases h.1) ?_)
   rintro av A' ⟨h, t77, rfl⟩; cases h
   refine ai <| ac ?_;show AR _ _ _ _ _ [0, 1] _;refine zS rfl (iQ (zs := [.int .i64 0, .slice none 0 0, .int .i64 0, .int .i64 0, .int .i64 0]) (ps := [(0, 1), (1, 1), (2, 3)]) (cs := [i64 0, ec, i64 0, i64 0, i64 0]) (by kernel_rfl) rfl rfl) <| s0 rfl rfl (aH (i := 4) (vs := [i64 0, ec, i64 0, i64 0, i64 0]) (by kernel_rfl) rfl rfl (by simp [bk, slE]) rfl (aa rfl)) ?_
   refine AR.nil_objAt 4 1 1 9 rfl rfl fun t78 => ?_
   show AR _ _ _ _ _ _ ⟨_, _, [.tok t78 9, .obj o3 [slE (aC Enc.int (aC (Enc.sl Enc.str) (aC Enc.int (aC Enc.int Enc.int)))) x74 (some t77)], .tok t77 41, .obj o6 [i64 x75], .obj o13 [i64 (y16 + ((x24.length : Int) + 2))], .obj o11 [i64 0, slE Enc.str [] (some t78), i64 0, i64 0, i64 0], .tok t59 9]⟩;refine ai ?_;obtain rfl := ay H;exact ⟨rfl, rfl, (t78, t77), aL [4, 4, 1, 2, 0, 0] rfl⟩
  ·replace H := ba c66 H;refine aJ ?_;obtain rfl := ay H;exact ⟨rfl, rfl, (t59, t21), aL [0, 0, 0, 0, 0, 0] rfl⟩
 ·rintro h89 o88 ⟨t86, t87⟩;replace H := bg h89 H;obtain ⟨rfl, rfl, rfl⟩ := ia H;exact Exists.intro _ (And.intro (Unmark.at 0 rfl (.nil _)) (Exists.intro _ ⟨aL [2, 4, 2] rfl, t87, rfl, .inr ⟨rfl, rfl⟩⟩))
 rintro h89 o85 ⟨t83, t84⟩;replace H := ba h89 H;obtain ⟨rfl, rfl, rfl⟩ := ia H;exact Exists.intro _ (And.intro (Unmark.at 0 rfl (.nil _)) (Exists.intro _ (Exists.intro _ ⟨bp rfl, aL [3, 5, 3] rfl, t84, rfl, .inl ⟨rfl, rfl⟩⟩)))
theorem qD (F : Nat) (a1 : List UInt8) (q2 : Option Nat) (o3 : Nat) (a4 : List (Int × (List (List UInt8)) × Int × Int × Int)) (t5 : Nat) (o6 : Nat) (a7 : Int) (r8 : List (Int × (List (List UInt8)) × Int × Int × Int)) (r10 : Int) (H : kH F a1 a4 a7 = some (r8, r10, false)) : ACalls Tryz.prog 55 [slE Enc.byte a1 q2, .fn (.func 56) [] [.pt o3 0, .pt o6 0]] [.obj o3 [slE (aC Enc.int (aC (Enc.sl Enc.str) (aC Enc.int (aC Enc.int Enc.int)))) a4 (some t5)], .tok t5 41, .obj o6 [i64 a7]] (fun e A' => e = .ret (.tup []) ∧ ∃ t9, A' = [.obj o3 [slE (aC Enc.int (aC (Enc.sl Enc.str) (aC Enc.int (aC Enc.int Enc.int)))) r8 (some t9)], .tok t9 41, .obj o6 [i64 r10]]) :=
 (pH F a1 q2 o3 a4 t5 o6 a7 r8 r10 false H).mono fun e A' h => by obtain ⟨t9, h, ⟨h1, h2⟩ | ⟨h1, h2⟩⟩ := h <;> first | exact ⟨h2, t9, h⟩ | cases h1
theorem pq (F : Nat) (a1 : List UInt8) (q2 : Option Nat) (o3 : Nat) (a4 : List (Int × (List (List UInt8)) × Int × Int × Int)) (t5 : Nat) (o6 : Nat) (a7 : Int) (r8 : List (Int × (List (List UInt8)) × Int × Int × Int)) (r10 : Int) (H : kH F a1 a4 a7 = some (r8, r10, true)) : ACalls Tryz.prog 55 [slE Enc.byte a1 q2, .fn (.func 56) [] [.pt o3 0, .pt o6 0]] [.obj o3 [slE (aC Enc.int (aC (Enc.sl Enc.str) (aC Enc.int (aC Enc.int Enc.int)))) a4 (some t5)], .tok t5 41, .obj o6 [i64 a7]] (fun e A' => e = .pan (nR (.iface 87 (.agg #[]))) ∧ ∃ t9, A' = [.obj o3 [slE (aC Enc.int (aC (Enc.sl Enc.str) (aC Enc.int (aC Enc.int Enc.int)))) r8 (some t9)], .tok t9 41, .obj o6 [i64 r10]]) :=
 (pH F a1 q2 o3 a4 t5 o6 a7 r8 r10 true H).mono fun e A' h => by obtain ⟨t9, h, ⟨h1, h2⟩ | ⟨h1, h2⟩⟩ := h <;> first | exact ⟨h2, t9, h⟩ | cases h1
set_option maxRecDepth 100000 in
set_option maxHeartbeats 1000000 in
theorem tU (F : Nat) (H : om F = some ()) : ACalls Tryz.prog 35 [] [] (fun e A' => ∃ ob1 : Nat, e = .ret (.pt ob1 0) ∧ A' = [.obj ob1 [ec, B false]]) := by
 unfold om at H
 refine az Tryz.func35 rfl rfl ?_;show AW _ _ 3 _ _ _;refine ah <| ac ?_;show AR _ _ _ _ _ [0] _;refine za rfl <| ai <| ah <| ac ?_;show AR _ _ _ _ _ [0, 1, 2] _;refine zS rfl (iQ (zs := [.slice none 0 0, .bool false]) (ps := [(0, 1), (1, 1)]) (cs := [ec, B false]) (by kernel_rfl) rfl rfl) <| zX rfl (ie rfl (.inr ⟨_, rfl⟩)) ?_;rintro _ _ ⟨o1, rfl, rfl⟩;refine zS rfl (aB (av := .pt _ _) rfl) <| ai <| aQ ?_;exact And.intro rfl (Exists.intro _ (Exists.intro _ ⟨aV rfl (.refl _), aL [0] rfl, o1, rfl, rfl⟩))
abbrev _root_.Go.Av.aX := @Tryz.underlying58
set_option maxRecDepth 100000 in
set_option maxHeartbeats 1000000 in
theorem tT (F : Nat) (o1 : Nat) (a2 : List UInt8) (t3 : Nat) (a4 : Bool) (a5 : List UInt8) (q6 : Option Nat) (r7 : List (Int × (List (List UInt8)) × Int × Int × Int)) (r8 : List UInt8) (r10 : Bool) (H : mP F a2 a4 a5 = some (r7, r8, r10)) : ACalls Tryz.prog 36 [.pt o1 0, slE Enc.byte a5 q6] [.obj o1 [slE Enc.byte a2 (some t3), B a4], .tok t3 5] (fun e A' => e = .ret (slE (aC Enc.int (aC (Enc.sl Enc.str) (aC Enc.int (aC Enc.int Enc.int)))) r7 none) ∧ ∃ t9, A' = [.obj o1 [slE Enc.byte r8 (some t9), B r10], .tok t9 5]) := by
 unfold mP at H
 refine oa [4] Tryz.func36 rfl rfl ?_;show AW _ _ 31 _ _ _;refine ah <| ac ?_;show AR _ _ _ _ _ [0, 1] _;refine zX rfl (ie rfl (.inl rfl)) ?_;rintro _ _ ⟨o11, rfl, rfl⟩;refine zX rfl (br (zs := [.slice none 0 0]) (by kernel_rfl)) ?_;rintro _ _ ⟨o12, rfl, rfl⟩;refine ai <| ah <| ah <| ac ?_;show AR _ _ _ _ _ [0, 1, 2, 3, 4, 5, 6, 7] _;refine zR rfl (al (i := 1) aX rfl rfl rfl rfl) <| zS rfl (ko aX rfl rfl) <| zm rfl <| zT rfl rfl (ca rfl rfl (al (i := 1) aX rfl rfl rfl rfl) ?_);refine zU rfl rfl (an rfl) <| zU rfl rfl (aj (n := 1) (by kernel_rfl) rfl) <| zT rfl rfl (ca rfl rfl (al (i := 2) Tryz.underlying4 rfl rfl rfl rfl) ?_);refine zS rfl (ao (av := .v _) rfl rfl rfl) <| ai <| aE rfl (fun c13 => ?_) (fun c13 => ?_)
 ·replace H := bg c13 H;refine ah <| ac ?_;show AR _ _ _ _ _ [0] _;refine s0 rfl rfl (au (i := 0) (c := .v _) (by kernel_rfl) rfl rfl rfl rfl (aa rfl)) <| ai <| aQ ?_;obtain ⟨rfl, rfl, rfl⟩ := ia H;exact Exists.intro _ (Exists.intro _ ⟨dw rfl ((CellV.one (c := .v _) 0 bE rfl rfl rfl rfl).oneW (.nil _)), aL [2, 2] rfl, rfl, t3, rfl⟩)
 ·replace H := ba c13 H;refine aJ <| bK (X := (List UInt8) × Nat) (fun (y21, t22) => ⟨[(2, .pt o11 0), (4, .pt o12 0)], [], [.obj o12 [ec], .obj o11 [.pt o1 0], .obj o1 [slE Enc.byte y21 (some t22), B a4], .tok t22 5]⟩) (fun (y21, t22) => jo F a4 y21 = some (r7, r8, r10)) ?_ ?_
  ·obtain ⟨g15, H⟩ := aY H;obtain ⟨x16, e17, H⟩ := bP H;refine bA (by kernel_rfl) ?_;show AI _ _ _ _ _ 10 (Array.replicate 10 false) _;refine aI (i := 5) rfl rfl (by kernel_rfl) (by kernel_rfl) (by kernel_rfl) (fun _ _ h => cx rfl h) (ak (av := slE _ _ _) rfl) ?_;show AI _ _ _ _ _ _ #[false, false, false, false, false, true, false, false, false, false] _;refine cA (i := 0) (j := 1) (by kernel_rfl) rfl rfl rfl rfl ?_ ?_
   ·refine aW rfl (al (i := 1) aX rfl rfl rfl rfl) ?_;show AI _ _ _ _ _ _ #[true, false, false, false, false, true, false, false, false, false] _;refine aN (i := 1) (by kernel_rfl) rfl rfl <| aW rfl (al (i := 1) aX rfl rfl rfl rfl) ?_;show AI _ _ _ _ _ _ #[true, true, false, false, false, true, false, false, false, false] _;refine aI (i := 2) rfl rfl (by kernel_rfl) (by kernel_rfl) (by kernel_rfl) (fun _ _ h => cx rfl h) (an rfl) ?_;show AI _ _ _ _ _ _ #[true, true, true, false, false, true, false, false, false, false] _;refine aI (i := 3) rfl rfl (by kernel_rfl) (by kernel_rfl) (by kernel_rfl) (fun _ _ h => cx rfl h) (aj (n := 0) (by kernel_rfl) rfl) ?_;show AI _ _ _ _ _ _ #[true, true, true, true, false, true, false, false, false, false] _;refine aN (i := 4) (by kernel_rfl) rfl rfl <| aW rfl (al (i := 2) ab rfl rfl rfl rfl) ?_;show AI _ _ _ _ _ _ #[true, true, true, true, true, true, false, false, false, false] _;refine aN (i := 6) (by kernel_rfl) rfl rfl <| dd rfl (df (E := Enc.byte) (bytes := 1) 3 ab ab rfl (by kernel_rfl) rfl rfl rfl rfl g15 e17) ?_;rintro _ _ ⟨t14, rfl, rfl⟩;show AI _ _ _ _ _ _ #[true, true, true, true, true, true, true, false, false, false] _;refine aI (i := 7) rfl rfl (by kernel_rfl) (by kernel_rfl) (by kernel_rfl) (fun _ _ h => cx rfl h) (an rfl) ?_
    show AI _ _ _ _ _ _ #[true, true, true, true, true, true, true, true, false, false] _;refine aI (i := 8) rfl rfl (by kernel_rfl) (by kernel_rfl) (by kernel_rfl) (fun _ _ h => cx rfl h) (aj (n := 0) (by kernel_rfl) rfl) ?_;show AI _ _ _ _ _ _ #[true, true, true, true, true, true, true, true, true, false] _;refine aN (i := 9) (by kernel_rfl) rfl rfl <| cd (au (i := 2) (c := slE _ _ _) (by kernel_rfl) rfl rfl rfl rfl (aa rfl)) ?_;show AI _ _ _ _ _ _ #[true, true, true, true, true, true, true, true, true, true] _;refine bo rfl ?_;exact Exists.intro (x16, t14) ⟨H, aZ [0, 0, 0, 0] (.cons (.refl _) (.cons (.refl _) (.nil _))) rfl⟩
   ·refine aW rfl (al (i := 1) aX rfl rfl rfl rfl) ?_;show AI _ _ _ _ _ _ #[false, true, false, false, false, true, false, false, false, false] _;refine aI (i := 2) rfl rfl (by kernel_rfl) (by kernel_rfl) (by kernel_rfl) (fun _ _ h => cx rfl h) (an rfl) ?_;show AI _ _ _ _ _ _ #[false, true, true, false, false, true, false, false, false, false] _;refine aI (i := 3) rfl rfl (by kernel_rfl) (by kernel_rfl) (by kernel_rfl) (fun _ _ h => cx rfl h) (aj (n := 0) (by kernel_rfl) rfl) ?_;show AI _ _ _ _ _ _ #[false, true, true, true, false, true, false, false, false, false] _;refine cA (i := 0) (j := 4) (by kernel_rfl) rfl rfl rfl rfl ?_ ?_
    ·refine aW rfl (al (i := 1) aX rfl rfl rfl rfl) ?_;show AI _ _ _ _ _ _ #[true, true, true, true, false, true, false, false, false, false] _;refine aN (i := 4) (by kernel_rfl) rfl rfl <| aW rfl (al (i := 2) ab rfl rfl rfl rfl) ?_;show AI _ _ _ _ _ _ #[true, true, true, true, true, true, false, false, false, false] _;refine aN (i := 6) (by kernel_rfl) rfl rfl <| dd rfl (df (E := Enc.byte) (bytes := 1) 3 ab ab rfl (by kernel_rfl) rfl rfl rfl rfl g15 e17) ?_;rintro _ _ ⟨t18, rfl, rfl⟩;show AI _ _ _ _ _ _ #[true, true, true, true, true, true, true, false, false, false] _;refine aI (i := 7) rfl rfl (by kernel_rfl) (by kernel_rfl) (by kernel_rfl) (fun _ _ h => cx rfl h) (an rfl) ?_;show AI _ _ _ _ _ _ #[true, true, true, true, true, true, true, true, false, false] _;refine aI (i := 8) rfl rfl (by kernel_rfl) (by kernel_rfl) (by kernel_rfl) (fun _ _ h => cx rfl h) (aj (n := 0) (by kernel_rfl) rfl) ?_;show AI _ _ _ _ _ _ #[true, true, true, true, true, true, true, true, true, false] _;refine aN (i := 9) (by kernel_rfl) rfl rfl <| cd (au (i := 2) (c := slE _ _ _) (by kernel_rfl) rfl rfl rfl rfl (aa rfl)) ?_;show AI _ _ _ _ _ _ #[true, true, true, true, true, true, true, true, true, true] _;refine bo rfl ?_;exact Exists.intro (x16, t18) ⟨H, aZ [0, 0, 0, 0] (.cons (.refl _) (.cons (.refl _) (.nil _))) rfl⟩
    ·refine aW rfl (al (i := 2) ab rfl rfl rfl rfl) ?_;show AI _ _ _ _ _ _ #[false, true, true, true, true, true, false, false, false, false] _;refine cA (i := 0) (j := 6) (by kernel_rfl) rfl rfl rfl rfl ?_ ?_
     ·refine aW rfl (al (i := 1) aX rfl rfl rfl rfl) ?_;show AI _ _ _ _ _ _ #[true, true, true, true, true, true, false, false, false, false] _;refine aN (i := 6) (by kernel_rfl) rfl rfl <| dd rfl (df (E := Enc.byte) (bytes := 1) 3 ab ab rfl (by kernel_rfl) rfl rfl rfl rfl g15 e17) ?_;rintro _ _ ⟨t19, rfl, rfl⟩;show AI _ _ _ _ _ _ #[true, true, true, true, true, true, true, false, false, false] _;refine aI (i := 7) rfl rfl (by kernel_rfl) (by kernel_rfl) (by kernel_rfl) (fun _ _ h => cx rfl h) (an rfl) ?_;show AI _ _ _ _ _ _ #[true, true, true, true, true, true, true, true, false, false] _;refine aI (i := 8) rfl rfl (by kernel_rfl) (by kernel_rfl) (by kernel_rfl) (fun _ _ h => cx rfl h) (aj (n := 0) (by kernel_rfl) rfl) ?_;show AI _ _ _ _ _ _ #[true, true, true, true, true, true, true, true, true, false] _;refine aN (i := 9) (by kernel_rfl) rfl rfl <| cd (au (i := 2) (c := slE _ _ _) (by kernel_rfl) rfl rfl rfl rfl (aa rfl)) ?_;show AI _ _ _ _ _ _ #[true, true, true, true, true, true, true, true, true, true] _;refine bo rfl ?_;exact Exists.intro (x16, t19) ⟨H, aZ [0, 0, 0, 0] (.cons (.refl _) (.cons (.refl _) (.nil _))) rfl⟩
     ·refine dd rfl (df (E := Enc.byte) (bytes := 1) 3 ab ab rfl (by kernel_rfl) rfl rfl rfl rfl g15 e17) ?_;rintro _ _ ⟨t20, rfl, rfl⟩;show AI _ _ _ _ _ _ #[false, true, true, true, true, true, true, false, false, false] _;refine aN (i := 0) (by kernel_rfl) rfl rfl <| aW rfl (al (i := 1) aX rfl rfl rfl rfl) ?_;show AI _ _ _ _ _ _ #[true, true, true, true, true, true, true, false, false, false] _;refine aI (i := 7) rfl rfl (by kernel_rfl) (by kernel_rfl) (by kernel_rfl) (fun _ _ h => cx rfl h) (an rfl) ?_;show AI _ _ _ _ _ _ #[true, true, true, true, true, true, true, true, false, false] _;refine aI (i := 8) rfl rfl (by kernel_rfl) (by kernel_rfl) (by kernel_rfl) (fun _ _ h => cx rfl h) (aj (n := 0) (by kernel_rfl) rfl) ?_;show AI _ _ _ _ _ _ #[true, true, true, true, true, true, true, true, true, false] _;refine aN (i := 9) (by kernel_rfl) rfl rfl <| cd (au (i := 2) (c := slE _ _ _) (by kernel_rfl) rfl rfl rfl rfl (aa rfl)) ?_;show AI _ _ _ _ _ _ #[true, true, true, true, true, true, true, true, true, true] _;refine bo rfl ?_;exact Exists.intro (x16, t20) ⟨H, aZ [0, 0, 0, 0] (.cons (.refl _) (.cons (.refl _) (.nil _))) rfl⟩
  rintro ⟨y21, t22⟩ H;replace H : jo F a4 y21 = some (r7, r8, r10) := H
  unfold jo at H
  refine ah <| ac ?_;show AR _ _ _ _ _ [0, 1] _;refine zX rfl (br (zs := [.int .i64 0]) (by kernel_rfl)) ?_;rintro _ _ ⟨o24, rfl, rfl⟩;refine s0 rfl rfl (au (i := 0) (c := .v _) (by kernel_rfl) rfl rfl rfl rfl (aa rfl)) <| ai <| ah <| ac ?_;show AR _ _ _ _ _ [0, 1] _;refine zS rfl (hU rfl rfl) <| aq rfl rfl (AO.defer rfl ?_);show AR _ _ _ _ _ _ ⟨_, [.call (.func 54) [.pt o11 0, .pt o24 0] []], _⟩;refine ai <| ah ?_;obtain ⟨x26, x27, x28, e29, H⟩ := gQ H
  rcases af x28 with rfl | rfl
  ·replace H := bg rfl H;refine ac ?_;show AR _ _ _ _ _ [0, 1, 2, 3, 4, 5] _;refine zR rfl (al (i := 2) aX rfl rfl rfl rfl) <| zS rfl (an rfl) <| zS rfl (aj (n := 0) (by kernel_rfl) rfl) <| zR rfl (al (i := 3) ab rfl rfl rfl rfl) <| zS rfl (hU rfl rfl) ?_
   refine AR.nil_objAt 1 0 5 41 rfl rfl fun t25 => ?_
   show AR _ _ _ _ _ _ ⟨_, _, [.tok t25 41, .obj o24 [i64 0], .obj o12 [slE (aC Enc.int (aC (Enc.sl Enc.str) (aC Enc.int (aC Enc.int Enc.int)))) [] (some t25)], .obj o11 [.pt o1 0], .obj o1 [slE Enc.byte y21 (some t22), B a4], .tok t22 5]⟩;refine aq rfl rfl (AO.callPanR [2, 0, 0] rfl qp rfl (pq F y21 (some t22) o12 [] t25 o24 0 x26 x27 e29) rfl (fun av A' h => by cases h.1) ?_);rintro c A' ⟨h, t30, rfl⟩
   cases h
   refine Exists.intro [(4, .pt o12 0)] ⟨by simp, .cons (.refl _) (.nil _), ?_⟩;show ALeaves _ _ _ _ _ [.call (.func 54) [.pt o11 0, .pt o24 0] []] _ [.obj o12 [slE (aC Enc.int (aC (Enc.sl Enc.str) (aC Enc.int (aC Enc.int Enc.int)))) x26 (some t30)], .tok t30 41, .obj o24 [i64 x27], .obj o11 [.pt o1 0], .obj o1 [slE Enc.byte y21 (some t22), B a4], .tok t22 5];refine kV (v := .tup []) (u1 := (.panicking [{ v := (.iface 87 (.agg #[])), recovered := true }])) (A2 := (fun t32 => [.tok t32 5, .obj o24 [i64 x27], .obj o11 [.pt o1 0], .obj o1 [slE Enc.byte [] (some t32), B true]])) [2, 2, 2] (fun h => by cases h) qq rfl ?_ ?_
   ·show ADCalls _ _ [.pt o11 0, .pt o24 0] [.obj o24 [i64 x27], .obj o11 [.pt o1 0], .obj o1 [slE Enc.byte y21 (some t22), B a4]] _ _;refine ADCalls.grow (A2 := [.obj o24 [i64 x27], .obj o11 [.pt o1 0], .obj o1 [ec, B true]]) 2 0 1 5 rfl rfl (fun _ => rfl) <| iX (av := .ifc 87 (.agg [])) (l := [1]) Tryz.func54 rfl rfl rfl rfl rfl Recovers.pan rfl (fun cs => ?_);refine ASR.op rfl rfl ((aB (av := .ifc _ _) rfl).opR _) <| ASR.nil <| ah <| ac ?_;show AR _ _ _ _ _ [0, 1] _;refine zS rfl (ak (av := .ifc _ _) rfl) <| zS rfl (rJ (ms := []) (.inr rfl) Tryz.underlying20 rfl rfl) <| ai <| aE rfl (fun _ => ?_) (fun hx => jO rfl hx);refine ah <| ah <| ac ?_;show AR _ _ _ _ _ [0, 1, 2, 3, 4, 5, 6, 7] _;refine zS rfl (ak (av := .ifc _ _) rfl) <| zS rfl (nU Tryz.underlying87 rfl rfl) <| zS rfl (ak (av := .tup _) rfl) <| zS rfl (aK (av := .agg _) rfl rfl) <| zS rfl (aK (av := .v _) rfl rfl) <| zX rfl (br (zs := []) (by kernel_rfl)) ?_;rintro _ _ ⟨o31, rfl, rfl⟩;refine s0 rfl rfl (aH (i := 0) (vs := []) (by kernel_rfl) rfl rfl (by simp [bk, slE]) rfl (aa rfl)) <| za rfl <| ai <| ah <| ac ?_;show AR _ _ _ _ _ [0, 1] _;refine zm rfl <| zS rfl (cW rfl) <| ai <| aE rfl (fun hx => jO hx rfl) (fun _ => ?_);refine aJ <| ah <| ac ?_;show AR _ _ _ _ _ [0, 1, 2, 3, 4, 5, 6, 7] _
    refine zR rfl (al (i := 2) aX rfl rfl rfl rfl) <| zR rfl (al (i := 2) aX rfl rfl rfl rfl) <| zS rfl (an rfl) <| zS rfl (aj (n := 0) (by kernel_rfl) rfl) <| s0 rfl rfl (au (i := 3) (c := .v _) (by kernel_rfl) rfl rfl rfl rfl (aa rfl)) <| zS rfl (an rfl) <| zS rfl (aj (n := 1) (by kernel_rfl) rfl) <| s0 rfl rfl (au (i := 3) (c := .v _) (by kernel_rfl) rfl rfl rfl rfl (aa rfl)) <| ai <| aQ ?_;exact And.intro rfl (Exists.intro _ (Exists.intro _ ⟨bp rfl, aL [1, 1, 1] rfl, rfl, rfl, rfl⟩))
   intro t32;show ALeaves _ _ _ _ _ [] .returning [.tok t32 5, .obj o24 [i64 x27], .obj o11 [.pt o1 0], .obj o1 [slE Enc.byte [] (some t32), B true], .obj o12 [slE (aC Enc.int (aC (Enc.sl Enc.str) (aC Enc.int (aC Enc.int Enc.int)))) x26 (some t30)], .tok t30 41, .tok t22 5];obtain ⟨rfl, rfl, rfl⟩ := ia H;exact Exists.intro _ (Exists.intro _ ⟨dw rfl ((CellV.one (c := slE _ _ _) 4 bE rfl rfl rfl rfl).oneW (.tok _ _ _)), aL [3, 0] rfl, rfl, t32, rfl⟩)
  replace H := ba rfl H;refine ac ?_;show AR _ _ _ _ _ [0, 1, 2, 3, 4, 5] _;refine zR rfl (al (i := 2) aX rfl rfl rfl rfl) <| zS rfl (an rfl) <| zS rfl (aj (n := 0) (by kernel_rfl) rfl) <| zR rfl (al (i := 3) ab rfl rfl rfl rfl) <| zS rfl (hU rfl rfl) ?_
  refine AR.nil_objAt 1 0 5 41 rfl rfl fun t25 => ?_
  show AR _ _ _ _ _ _ ⟨_, _, [.tok t25 41, .obj o24 [i64 0], .obj o12 [slE (aC Enc.int (aC (Enc.sl Enc.str) (aC Enc.int (aC Enc.int Enc.int)))) [] (some t25)], .obj o11 [.pt o1 0], .obj o1 [slE Enc.byte y21 (some t22), B a4], .tok t22 5]⟩;refine aq rfl rfl (cI [2, 0, 0] rfl qp rfl (qD F y21 (some t22) o12 [] t25 o24 0 x26 x27 e29) rfl (fun c A' h => by cases h.1) ?_)
  rintro av A' ⟨h, t33, rfl⟩; cases h
  refine ai <| ah <| ac ?_;show AR _ _ _ _ _ [0, 1] _;refine zR rfl (al (i := 0) bE rfl rfl rfl rfl) <| s0 rfl rfl (au (i := 0) (c := slE _ _ _) (by kernel_rfl) rfl rfl rfl rfl (aa rfl)) <| ai <| aQ ?_;obtain ⟨g34, H⟩ := aY H;obtain ⟨x35, e36, H⟩ := bP H;obtain ⟨g37, H⟩ := aY H;show ALeaves _ _ _ _ _ [.call (.func 54) [.pt o11 0, .pt o24 0] []] _ [.obj o12 [slE (aC Enc.int (aC (Enc.sl Enc.str) (aC Enc.int (aC Enc.int Enc.int)))) x26 (some t33)], .tok t33 41, .obj o24 [i64 x27], .obj o11 [.pt o1 0], .obj o1 [slE Enc.byte y21 (some t22), B a4], .tok t22 5];refine kV (v := .tup []) (u1 := .returning) (A2 := (fun t38 => [.tok t38 5, .obj o24 [i64 x27], .obj o11 [.pt o1 0], .obj o1 [slE Enc.byte x35 (some t38), B a4]])) [2, 2, 2] (fun h => by cases h) qq rfl ?_ ?_
  ·show ADCalls _ _ [.pt o11 0, .pt o24 0] [.obj o24 [i64 x27], .obj o11 [.pt o1 0], .obj o1 [slE Enc.byte y21 (some t22), B a4]] _ _;refine iX (av := .v .nilIface) (l := [1]) Tryz.func54 rfl rfl rfl rfl rfl Recovers.ret rfl (fun cs => ?_);refine ASR.op rfl rfl ((asg rfl).opR _) <| ASR.nil <| ah <| ac ?_;show AR _ _ _ _ _ [0, 1] _;refine zm rfl <| zS rfl (md (n := 0) (t := 0) (k := .i64) Tryz.underlying20 rfl rfl) <| ai <| aE rfl (fun hx => jO hx rfl) (fun _ => ?_);refine aJ <| bA (by kernel_rfl) ?_;show AI _ _ _ _ _ 11 (Array.replicate 11 false) _;refine sw (i := 0) (j := 1) (l := 5) (by kernel_rfl) rfl rfl rfl rfl rfl rfl ?_ ?_ ?_
   ·refine aW rfl (al (i := 1) aX rfl rfl rfl rfl) ?_;show AI _ _ _ _ _ _ #[true, false, false, false, false, false, false, false, false, false, false] _;refine cA (i := 1) (j := 5) (by kernel_rfl) rfl rfl rfl rfl ?_ ?_
    ·refine aW rfl (al (i := 1) aX rfl rfl rfl rfl) ?_;show AI _ _ _ _ _ _ #[true, true, false, false, false, false, false, false, false, false, false] _;refine zk 2 rfl (an rfl) ?_;show AI _ _ _ _ _ _ #[true, true, true, false, false, false, false, false, false, false, false] _;refine zk 3 rfl (aj (n := 0) (by kernel_rfl) rfl) ?_;show AI _ _ _ _ _ _ #[true, true, true, true, false, false, false, false, false, false, false] _;refine cA (i := 4) (j := 5) (by kernel_rfl) rfl rfl rfl rfl ?_ ?_
     ·refine aW rfl (al (i := 2) ab rfl rfl rfl rfl) ?_;show AI _ _ _ _ _ _ #[true, true, true, true, true, false, false, false, false, false, false] _;refine aN (i := 5) (by kernel_rfl) rfl rfl <| aW rfl (al (i := 0) aw rfl rfl rfl rfl) ?_;show AI _ _ _ _ _ _ #[true, true, true, true, true, true, false, false, false, false, false] _;refine zk 6 rfl (cU (E := Enc.byte) ab (by kernel_rfl) rfl rfl g34 e36) ?_;show AI _ _ _ _ _ _ #[true, true, true, true, true, true, true, false, false, false, false] _;refine aN (i := 7) (by kernel_rfl) rfl rfl <| cT [] rfl dp rfl (bR x35 none (eI g37)) rfl (fun c A' h => by obtain ⟨_, h, _⟩ := h; cases h) ?_
      rintro av A' ⟨t38, h, rfl⟩; cases h
      show AI _ _ _ _ _ _ #[true, true, true, true, true, true, true, true, false, false, false] _;refine zk 8 rfl (an rfl) ?_;show AI _ _ _ _ _ _ #[true, true, true, true, true, true, true, true, true, false, false] _;refine zk 9 rfl (aj (n := 0) (by kernel_rfl) rfl) ?_;show AI _ _ _ _ _ _ #[true, true, true, true, true, true, true, true, true, true, false] _;refine aN (i := 10) (by kernel_rfl) rfl rfl <| cd (au (i := 3) (c := slE _ _ _) (by kernel_rfl) rfl rfl rfl rfl (aa rfl)) ?_;show AI _ _ _ _ _ _ #[true, true, true, true, true, true, true, true, true, true, true] _;refine bo rfl ?_;exact And.intro rfl (Exists.intro _ (Exists.intro _ ⟨bp rfl, aL [0, 0, 0, 0] rfl, rfl, rfl, t38, rfl⟩))
     ·refine aW rfl (al (i := 0) aw rfl rfl rfl rfl) ?_;show AI _ _ _ _ _ _ #[true, true, true, true, false, true, false, false, false, false, false] _;refine aN (i := 4) (by kernel_rfl) rfl rfl <| aW rfl (al (i := 2) ab rfl rfl rfl rfl) ?_;show AI _ _ _ _ _ _ #[true, true, true, true, true, true, false, false, false, false, false] _;refine zk 6 rfl (cU (E := Enc.byte) ab (by kernel_rfl) rfl rfl g34 e36) ?_;show AI _ _ _ _ _ _ #[true, true, true, true, true, true, true, false, false, false, false] _;refine aN (i := 7) (by kernel_rfl) rfl rfl <| cT [] rfl dp rfl (bR x35 none (eI g37)) rfl (fun c A' h => by obtain ⟨_, h, _⟩ := h; cases h) ?_
      rintro av A' ⟨t39, h, rfl⟩; cases h
      show AI _ _ _ _ _ _ #[true, true, true, true, true, true, true, true, false, false, false] _;refine zk 8 rfl (an rfl) ?_;show AI _ _ _ _ _ _ #[true, true, true, true, true, true, true, true, true, false, false] _;refine zk 9 rfl (aj (n := 0) (by kernel_rfl) rfl) ?_;show AI _ _ _ _ _ _ #[true, true, true, true, true, true, true, true, true, true, false] _;refine aN (i := 10) (by kernel_rfl) rfl rfl <| cd (au (i := 3) (c := slE _ _ _) (by kernel_rfl) rfl rfl rfl rfl (aa rfl)) ?_;show AI _ _ _ _ _ _ #[true, true, true, true, true, true, true, true, true, true, true] _;refine bo rfl ?_;exact And.intro rfl (Exists.intro _ (Exists.intro _ ⟨bp rfl, aL [0, 0, 0, 0] rfl, rfl, rfl, t39, rfl⟩))
    ·refine aW rfl (al (i := 0) aw rfl rfl rfl rfl) ?_;show AI _ _ _ _ _ _ #[true, false, false, false, false, true, false, false, false, false, false] _;refine aN (i := 1) (by kernel_rfl) rfl rfl <| aW rfl (al (i := 1) aX rfl rfl rfl rfl) ?_;show AI _ _ _ _ _ _ #[true, true, false, false, false, true, false, false, false, false, false] _;refine zk 2 rfl (an rfl) ?_;show AI _ _ _ _ _ _ #[true, true, true, false, false, true, false, false, false, false, false] _;refine zk 3 rfl (aj (n := 0) (by kernel_rfl) rfl) ?_;show AI _ _ _ _ _ _ #[true, true, true, true, false, true, false, false, false, false, false] _;refine aN (i := 4) (by kernel_rfl) rfl rfl <| aW rfl (al (i := 2) ab rfl rfl rfl rfl) ?_;show AI _ _ _ _ _ _ #[true, true, true, true, true, true, false, false, false, false, false] _;refine zk 6 rfl (cU (E := Enc.byte) ab (by kernel_rfl) rfl rfl g34 e36) ?_;show AI _ _ _ _ _ _ #[true, true, true, true, true, true, true, false, false, false, false] _;refine aN (i := 7) (by kernel_rfl) rfl rfl <| cT [] rfl dp rfl (bR x35 none (eI g37)) rfl (fun c A' h => by obtain ⟨_, h, _⟩ := h; cases h) ?_
     rintro av A' ⟨t40, h, rfl⟩; cases h
     show AI _ _ _ _ _ _ #[true, true, true, true, true, true, true, true, false, false, false] _;refine zk 8 rfl (an rfl) ?_;show AI _ _ _ _ _ _ #[true, true, true, true, true, true, true, true, true, false, false] _;refine zk 9 rfl (aj (n := 0) (by kernel_rfl) rfl) ?_;show AI _ _ _ _ _ _ #[true, true, true, true, true, true, true, true, true, true, false] _;refine aN (i := 10) (by kernel_rfl) rfl rfl <| cd (au (i := 3) (c := slE _ _ _) (by kernel_rfl) rfl rfl rfl rfl (aa rfl)) ?_;show AI _ _ _ _ _ _ #[true, true, true, true, true, true, true, true, true, true, true] _;refine bo rfl ?_;exact And.intro rfl (Exists.intro _ (Exists.intro _ ⟨bp rfl, aL [0, 0, 0, 0] rfl, rfl, rfl, t40, rfl⟩))
   ·refine aW rfl (al (i := 1) aX rfl rfl rfl rfl) ?_;show AI _ _ _ _ _ _ #[false, true, false, false, false, false, false, false, false, false, false] _;refine zk 2 rfl (an rfl) ?_;show AI _ _ _ _ _ _ #[false, true, true, false, false, false, false, false, false, false, false] _;refine zk 3 rfl (aj (n := 0) (by kernel_rfl) rfl) ?_;show AI _ _ _ _ _ _ #[false, true, true, true, false, false, false, false, false, false, false] _;refine sw (i := 0) (j := 4) (l := 5) (by kernel_rfl) rfl rfl rfl rfl rfl rfl ?_ ?_ ?_
    ·refine aW rfl (al (i := 1) aX rfl rfl rfl rfl) ?_;show AI _ _ _ _ _ _ #[true, true, true, true, false, false, false, false, false, false, false] _;refine cA (i := 4) (j := 5) (by kernel_rfl) rfl rfl rfl rfl ?_ ?_
     ·refine aW rfl (al (i := 2) ab rfl rfl rfl rfl) ?_;show AI _ _ _ _ _ _ #[true, true, true, true, true, false, false, false, false, false, false] _;refine aN (i := 5) (by kernel_rfl) rfl rfl <| aW rfl (al (i := 0) aw rfl rfl rfl rfl) ?_;show AI _ _ _ _ _ _ #[true, true, true, true, true, true, false, false, false, false, false] _;refine zk 6 rfl (cU (E := Enc.byte) ab (by kernel_rfl) rfl rfl g34 e36) ?_;show AI _ _ _ _ _ _ #[true, true, true, true, true, true, true, false, false, false, false] _;refine aN (i := 7) (by kernel_rfl) rfl rfl <| cT [] rfl dp rfl (bR x35 none (eI g37)) rfl (fun c A' h => by obtain ⟨_, h, _⟩ := h; cases h) ?_
      rintro av A' ⟨t41, h, rfl⟩; cases h
      show AI _ _ _ _ _ _ #[true, true, true, true, true, true, true, true, false, false, false] _;refine zk 8 rfl (an rfl) ?_;show AI _ _ _ _ _ _ #[true, true, true, true, true, true, true, true, true, false, false] _;refine zk 9 rfl (aj (n := 0) (by kernel_rfl) rfl) ?_;show AI _ _ _ _ _ _ #[true, true, true, true, true, true, true, true, true, true, false] _;refine aN (i := 10) (by kernel_rfl) rfl rfl <| cd (au (i := 3) (c := slE _ _ _) (by kernel_rfl) rfl rfl rfl rfl (aa rfl)) ?_;show AI _ _ _ _ _ _ #[true, true, true, true, true, true, true, true, true, true, true] _;refine bo rfl ?_;exact And.intro rfl (Exists.intro _ (Exists.intro _ ⟨bp rfl, aL [0, 0, 0, 0] rfl, rfl, rfl, t41, rfl⟩))
     ·refine aW rfl (al (i := 0) aw rfl rfl rfl rfl) ?_;show AI _ _ _ _ _ _ #[true, true, true, true, false, true, false, false, false, false, false] _;refine aN (i := 4) (by kernel_rfl) rfl rfl <| aW rfl (al (i := 2) ab rfl rfl rfl rfl) ?_;show AI _ _ _ _ _ _ #[true, true, true, true, true, true, false, false, false, false, false] _;refine zk 6 rfl (cU (E := Enc.byte) ab (by kernel_rfl) rfl rfl g34 e36) ?_;show AI _ _ _ _ _ _ #[true, true, true, true, true, true, true, false, false, false, false] _;refine aN (i := 7) (by kernel_rfl) rfl rfl <| cT [] rfl dp rfl (bR x35 none (eI g37)) rfl (fun c A' h => by obtain ⟨_, h, _⟩ := h; cases h) ?_
      rintro av A' ⟨t42, h, rfl⟩; cases h
      show AI _ _ _ _ _ _ #[true, true, true, true, true, true, true, true, false, false, false] _;refine zk 8 rfl (an rfl) ?_;show AI _ _ _ _ _ _ #[true, true, true, true, true, true, true, true, true, false, false] _;refine zk 9 rfl (aj (n := 0) (by kernel_rfl) rfl) ?_;show AI _ _ _ _ _ _ #[true, true, true, true, true, true, true, true, true, true, false] _;refine aN (i := 10) (by kernel_rfl) rfl rfl <| cd (au (i := 3) (c := slE _ _ _) (by kernel_rfl) rfl rfl rfl rfl (aa rfl)) ?_;show AI _ _ _ _ _ _ #[true, true, true, true, true, true, true, true, true, true, true] _;refine bo rfl ?_;exact And.intro rfl (Exists.intro _ (Exists.intro _ ⟨bp rfl, aL [0, 0, 0, 0] rfl, rfl, rfl, t42, rfl⟩))
    ·refine aW rfl (al (i := 2) ab rfl rfl rfl rfl) ?_;show AI _ _ _ _ _ _ #[false, true, true, true, true, false, false, false, false, false, false] _;refine cA (i := 0) (j := 5) (by kernel_rfl) rfl rfl rfl rfl ?_ ?_
     ·refine aW rfl (al (i := 1) aX rfl rfl rfl rfl) ?_;show AI _ _ _ _ _ _ #[true, true, true, true, true, false, false, false, false, false, false] _;refine aN (i := 5) (by kernel_rfl) rfl rfl <| aW rfl (al (i := 0) aw rfl rfl rfl rfl) ?_;show AI _ _ _ _ _ _ #[true, true, true, true, true, true, false, false, false, false, false] _;refine zk 6 rfl (cU (E := Enc.byte) ab (by kernel_rfl) rfl rfl g34 e36) ?_;show AI _ _ _ _ _ _ #[true, true, true, true, true, true, true, false, false, false, false] _;refine aN (i := 7) (by kernel_rfl) rfl rfl <| cT [] rfl dp rfl (bR x35 none (eI g37)) rfl (fun c A' h => by obtain ⟨_, h, _⟩ := h; cases h) ?_
      rintro av A' ⟨t43, h, rfl⟩; cases h
      show AI _ _ _ _ _ _ #[true, true, true, true, true, true, true, true, false, false, false] _;refine zk 8 rfl (an rfl) ?_;show AI _ _ _ _ _ _ #[true, true, true, true, true, true, true, true, true, false, false] _;refine zk 9 rfl (aj (n := 0) (by kernel_rfl) rfl) ?_;show AI _ _ _ _ _ _ #[true, true, true, true, true, true, true, true, true, true, false] _;refine aN (i := 10) (by kernel_rfl) rfl rfl <| cd (au (i := 3) (c := slE _ _ _) (by kernel_rfl) rfl rfl rfl rfl (aa rfl)) ?_;show AI _ _ _ _ _ _ #[true, true, true, true, true, true, true, true, true, true, true] _;refine bo rfl ?_;exact And.intro rfl (Exists.intro _ (Exists.intro _ ⟨bp rfl, aL [0, 0, 0, 0] rfl, rfl, rfl, t43, rfl⟩))
     ·refine aW rfl (al (i := 0) aw rfl rfl rfl rfl) ?_;show AI _ _ _ _ _ _ #[false, true, true, true, true, true, false, false, false, false, false] _;refine zk 6 rfl (cU (E := Enc.byte) ab (by kernel_rfl) rfl rfl g34 e36) ?_;show AI _ _ _ _ _ _ #[false, true, true, true, true, true, true, false, false, false, false] _;refine cA (i := 0) (j := 7) (by kernel_rfl) rfl rfl rfl rfl ?_ ?_
      ·refine aW rfl (al (i := 1) aX rfl rfl rfl rfl) ?_;show AI _ _ _ _ _ _ #[true, true, true, true, true, true, true, false, false, false, false] _;refine aN (i := 7) (by kernel_rfl) rfl rfl <| cT [] rfl dp rfl (bR x35 none (eI g37)) rfl (fun c A' h => by obtain ⟨_, h, _⟩ := h; cases h) ?_
       rintro av A' ⟨t44, h, rfl⟩; cases h
       show AI _ _ _ _ _ _ #[true, true, true, true, true, true, true, true, false, false, false] _;refine zk 8 rfl (an rfl) ?_;show AI _ _ _ _ _ _ #[true, true, true, true, true, true, true, true, true, false, false] _;refine zk 9 rfl (aj (n := 0) (by kernel_rfl) rfl) ?_;show AI _ _ _ _ _ _ #[true, true, true, true, true, true, true, true, true, true, false] _;refine aN (i := 10) (by kernel_rfl) rfl rfl <| cd (au (i := 3) (c := slE _ _ _) (by kernel_rfl) rfl rfl rfl rfl (aa rfl)) ?_;show AI _ _ _ _ _ _ #[true, true, true, true, true, true, true, true, true, true, true] _;refine bo rfl ?_;exact And.intro rfl (Exists.intro _ (Exists.intro _ ⟨bp rfl, aL [0, 0, 0, 0] rfl, rfl, rfl, t44, rfl⟩))
      ·refine cT [] rfl dp rfl (bR x35 none (eI g37)) rfl (fun c A' h => by obtain ⟨_, h, _⟩ := h; cases h) ?_
       rintro av A' ⟨t45, h, rfl⟩; cases h
       show AI _ _ _ _ _ _ #[false, true, true, true, true, true, true, true, false, false, false] _;refine aN (i := 0) (by kernel_rfl) rfl rfl <| aW rfl (al (i := 2) aX rfl rfl rfl rfl) ?_;show AI _ _ _ _ _ _ #[true, true, true, true, true, true, true, true, false, false, false] _;refine zk 8 rfl (an rfl) ?_;show AI _ _ _ _ _ _ #[true, true, true, true, true, true, true, true, true, false, false] _;refine zk 9 rfl (aj (n := 0) (by kernel_rfl) rfl) ?_;show AI _ _ _ _ _ _ #[true, true, true, true, true, true, true, true, true, true, false] _;refine aN (i := 10) (by kernel_rfl) rfl rfl <| cd (au (i := 3) (c := slE _ _ _) (by kernel_rfl) rfl rfl rfl rfl (aa rfl)) ?_;show AI _ _ _ _ _ _ #[true, true, true, true, true, true, true, true, true, true, true] _;refine bo rfl ?_;exact And.intro rfl (Exists.intro _ (Exists.intro _ ⟨bp rfl, aL [0, 0, 0, 0] rfl, rfl, rfl, t45, rfl⟩))
    ·refine aW rfl (al (i := 0) aw rfl rfl rfl rfl) ?_;show AI _ _ _ _ _ _ #[false, true, true, true, false, true, false, false, false, false, false] _;refine cA (i := 0) (j := 4) (by kernel_rfl) rfl rfl rfl rfl ?_ ?_
     ·refine aW rfl (al (i := 1) aX rfl rfl rfl rfl) ?_;show AI _ _ _ _ _ _ #[true, true, true, true, false, true, false, false, false, false, false] _;refine aN (i := 4) (by kernel_rfl) rfl rfl <| aW rfl (al (i := 2) ab rfl rfl rfl rfl) ?_;show AI _ _ _ _ _ _ #[true, true, true, true, true, true, false, false, false, false, false] _;refine zk 6 rfl (cU (E := Enc.byte) ab (by kernel_rfl) rfl rfl g34 e36) ?_;show AI _ _ _ _ _ _ #[true, true, true, true, true, true, true, false, false, false, false] _;refine aN (i := 7) (by kernel_rfl) rfl rfl <| cT [] rfl dp rfl (bR x35 none (eI g37)) rfl (fun c A' h => by obtain ⟨_, h, _⟩ := h; cases h) ?_
      rintro av A' ⟨t46, h, rfl⟩; cases h
      show AI _ _ _ _ _ _ #[true, true, true, true, true, true, true, true, false, false, false] _;refine zk 8 rfl (an rfl) ?_;show AI _ _ _ _ _ _ #[true, true, true, true, true, true, true, true, true, false, false] _;refine zk 9 rfl (aj (n := 0) (by kernel_rfl) rfl) ?_;show AI _ _ _ _ _ _ #[true, true, true, true, true, true, true, true, true, true, false] _;refine aN (i := 10) (by kernel_rfl) rfl rfl <| cd (au (i := 3) (c := slE _ _ _) (by kernel_rfl) rfl rfl rfl rfl (aa rfl)) ?_;show AI _ _ _ _ _ _ #[true, true, true, true, true, true, true, true, true, true, true] _;refine bo rfl ?_;exact And.intro rfl (Exists.intro _ (Exists.intro _ ⟨bp rfl, aL [0, 0, 0, 0] rfl, rfl, rfl, t46, rfl⟩))
     ·refine aW rfl (al (i := 2) ab rfl rfl rfl rfl) ?_;show AI _ _ _ _ _ _ #[false, true, true, true, true, true, false, false, false, false, false] _;refine zk 6 rfl (cU (E := Enc.byte) ab (by kernel_rfl) rfl rfl g34 e36) ?_;show AI _ _ _ _ _ _ #[false, true, true, true, true, true, true, false, false, false, false] _;refine cA (i := 0) (j := 7) (by kernel_rfl) rfl rfl rfl rfl ?_ ?_
      ·refine aW rfl (al (i := 1) aX rfl rfl rfl rfl) ?_;show AI _ _ _ _ _ _ #[true, true, true, true, true, true, true, false, false, false, false] _;refine aN (i := 7) (by kernel_rfl) rfl rfl <| cT [] rfl dp rfl (bR x35 none (eI g37)) rfl (fun c A' h => by obtain ⟨_, h, _⟩ := h; cases h) ?_
       rintro av A' ⟨t47, h, rfl⟩; cases h
       show AI _ _ _ _ _ _ #[true, true, true, true, true, true, true, true, false, false, false] _;refine zk 8 rfl (an rfl) ?_;show AI _ _ _ _ _ _ #[true, true, true, true, true, true, true, true, true, false, false] _;refine zk 9 rfl (aj (n := 0) (by kernel_rfl) rfl) ?_;show AI _ _ _ _ _ _ #[true, true, true, true, true, true, true, true, true, true, false] _;refine aN (i := 10) (by kernel_rfl) rfl rfl <| cd (au (i := 3) (c := slE _ _ _) (by kernel_rfl) rfl rfl rfl rfl (aa rfl)) ?_;show AI _ _ _ _ _ _ #[true, true, true, true, true, true, true, true, true, true, true] _;refine bo rfl ?_;exact And.intro rfl (Exists.intro _ (Exists.intro _ ⟨bp rfl, aL [0, 0, 0, 0] rfl, rfl, rfl, t47, rfl⟩))
      ·refine cT [] rfl dp rfl (bR x35 none (eI g37)) rfl (fun c A' h => by obtain ⟨_, h, _⟩ := h; cases h) ?_
       rintro av A' ⟨t48, h, rfl⟩; cases h
       show AI _ _ _ _ _ _ #[false, true, true, true, true, true, true, true, false, false, false] _;refine aN (i := 0) (by kernel_rfl) rfl rfl <| aW rfl (al (i := 2) aX rfl rfl rfl rfl) ?_;show AI _ _ _ _ _ _ #[true, true, true, true, true, true, true, true, false, false, false] _;refine zk 8 rfl (an rfl) ?_;show AI _ _ _ _ _ _ #[true, true, true, true, true, true, true, true, true, false, false] _;refine zk 9 rfl (aj (n := 0) (by kernel_rfl) rfl) ?_;show AI _ _ _ _ _ _ #[true, true, true, true, true, true, true, true, true, true, false] _;refine aN (i := 10) (by kernel_rfl) rfl rfl <| cd (au (i := 3) (c := slE _ _ _) (by kernel_rfl) rfl rfl rfl rfl (aa rfl)) ?_;show AI _ _ _ _ _ _ #[true, true, true, true, true, true, true, true, true, true, true] _;refine bo rfl ?_;exact And.intro rfl (Exists.intro _ (Exists.intro _ ⟨bp rfl, aL [0, 0, 0, 0] rfl, rfl, rfl, t48, rfl⟩))
   ·refine aW rfl (al (i := 0) aw rfl rfl rfl rfl) ?_;show AI _ _ _ _ _ _ #[false, false, false, false, false, true, false, false, false, false, false] _;refine cA (i := 0) (j := 1) (by kernel_rfl) rfl rfl rfl rfl ?_ ?_
    ·refine aW rfl (al (i := 1) aX rfl rfl rfl rfl) ?_;show AI _ _ _ _ _ _ #[true, false, false, false, false, true, false, false, false, false, false] _;refine aN (i := 1) (by kernel_rfl) rfl rfl <| aW rfl (al (i := 1) aX rfl rfl rfl rfl) ?_;show AI _ _ _ _ _ _ #[true, true, false, false, false, true, false, false, false, false, false] _;refine zk 2 rfl (an rfl) ?_;show AI _ _ _ _ _ _ #[true, true, true, false, false, true, false, false, false, false, false] _;refine zk 3 rfl (aj (n := 0) (by kernel_rfl) rfl) ?_;show AI _ _ _ _ _ _ #[true, true, true, true, false, true, false, false, false, false, false] _;refine aN (i := 4) (by kernel_rfl) rfl rfl <| aW rfl (al (i := 2) ab rfl rfl rfl rfl) ?_;show AI _ _ _ _ _ _ #[true, true, true, true, true, true, false, false, false, false, false] _;refine zk 6 rfl (cU (E := Enc.byte) ab (by kernel_rfl) rfl rfl g34 e36) ?_;show AI _ _ _ _ _ _ #[true, true, true, true, true, true, true, false, false, false, false] _;refine aN (i := 7) (by kernel_rfl) rfl rfl <| cT [] rfl dp rfl (bR x35 none (eI g37)) rfl (fun c A' h => by obtain ⟨_, h, _⟩ := h; cases h) ?_
     rintro av A' ⟨t49, h, rfl⟩; cases h
     show AI _ _ _ _ _ _ #[true, true, true, true, true, true, true, true, false, false, false] _;refine zk 8 rfl (an rfl) ?_;show AI _ _ _ _ _ _ #[true, true, true, true, true, true, true, true, true, false, false] _;refine zk 9 rfl (aj (n := 0) (by kernel_rfl) rfl) ?_;show AI _ _ _ _ _ _ #[true, true, true, true, true, true, true, true, true, true, false] _;refine aN (i := 10) (by kernel_rfl) rfl rfl <| cd (au (i := 3) (c := slE _ _ _) (by kernel_rfl) rfl rfl rfl rfl (aa rfl)) ?_;show AI _ _ _ _ _ _ #[true, true, true, true, true, true, true, true, true, true, true] _;refine bo rfl ?_;exact And.intro rfl (Exists.intro _ (Exists.intro _ ⟨bp rfl, aL [0, 0, 0, 0] rfl, rfl, rfl, t49, rfl⟩))
    ·refine aW rfl (al (i := 1) aX rfl rfl rfl rfl) ?_;show AI _ _ _ _ _ _ #[false, true, false, false, false, true, false, false, false, false, false] _;refine zk 2 rfl (an rfl) ?_;show AI _ _ _ _ _ _ #[false, true, true, false, false, true, false, false, false, false, false] _;refine zk 3 rfl (aj (n := 0) (by kernel_rfl) rfl) ?_;show AI _ _ _ _ _ _ #[false, true, true, true, false, true, false, false, false, false, false] _;refine cA (i := 0) (j := 4) (by kernel_rfl) rfl rfl rfl rfl ?_ ?_
     ·refine aW rfl (al (i := 1) aX rfl rfl rfl rfl) ?_;show AI _ _ _ _ _ _ #[true, true, true, true, false, true, false, false, false, false, false] _;refine aN (i := 4) (by kernel_rfl) rfl rfl <| aW rfl (al (i := 2) ab rfl rfl rfl rfl) ?_;show AI _ _ _ _ _ _ #[true, true, true, true, true, true, false, false, false, false, false] _;refine zk 6 rfl (cU (E := Enc.byte) ab (by kernel_rfl) rfl rfl g34 e36) ?_;show AI _ _ _ _ _ _ #[true, true, true, true, true, true, true, false, false, false, false] _;refine aN (i := 7) (by kernel_rfl) rfl rfl <| cT [] rfl dp rfl (bR x35 none (eI g37)) rfl (fun c A' h => by obtain ⟨_, h, _⟩ := h; cases h) ?_
      rintro av A' ⟨t50, h, rfl⟩; cases h
      show AI _ _ _ _ _ _ #[true, true, true, true, true, true, true, true, false, false, false] _;refine zk 8 rfl (an rfl) ?_;show AI _ _ _ _ _ _ #[true, true, true, true, true, true, true, true, true, false, false] _;refine zk 9 rfl (aj (n := 0) (by kernel_rfl) rfl) ?_;show AI _ _ _ _ _ _ #[true, true, true, true, true, true, true, true, true, true, false] _;refine aN (i := 10) (by kernel_rfl) rfl rfl <| cd (au (i := 3) (c := slE _ _ _) (by kernel_rfl) rfl rfl rfl rfl (aa rfl)) ?_;show AI _ _ _ _ _ _ #[true, true, true, true, true, true, true, true, true, true, true] _;refine bo rfl ?_;exact And.intro rfl (Exists.intro _ (Exists.intro _ ⟨bp rfl, aL [0, 0, 0, 0] rfl, rfl, rfl, t50, rfl⟩))
     ·refine aW rfl (al (i := 2) ab rfl rfl rfl rfl) ?_;show AI _ _ _ _ _ _ #[false, true, true, true, true, true, false, false, false, false, false] _;refine zk 6 rfl (cU (E := Enc.byte) ab (by kernel_rfl) rfl rfl g34 e36) ?_;show AI _ _ _ _ _ _ #[false, true, true, true, true, true, true, false, false, false, false] _;refine cA (i := 0) (j := 7) (by kernel_rfl) rfl rfl rfl rfl ?_ ?_
      ·refine aW rfl (al (i := 1) aX rfl rfl rfl rfl) ?_;show AI _ _ _ _ _ _ #[true, true, true, true, true, true, true, false, false, false, false] _;refine aN (i := 7) (by kernel_rfl) rfl rfl <| cT [] rfl dp rfl (bR x35 none (eI g37)) rfl (fun c A' h => by obtain ⟨_, h, _⟩ := h; cases h) ?_
       rintro av A' ⟨t51, h, rfl⟩; cases h
       show AI _ _ _ _ _ _ #[true, true, true, true, true, true, true, true, false, false, false] _;refine zk 8 rfl (an rfl) ?_;show AI _ _ _ _ _ _ #[true, true, true, true, true, true, true, true, true, false, false] _;refine zk 9 rfl (aj (n := 0) (by kernel_rfl) rfl) ?_;show AI _ _ _ _ _ _ #[true, true, true, true, true, true, true, true, true, true, false] _;refine aN (i := 10) (by kernel_rfl) rfl rfl <| cd (au (i := 3) (c := slE _ _ _) (by kernel_rfl) rfl rfl rfl rfl (aa rfl)) ?_;show AI _ _ _ _ _ _ #[true, true, true, true, true, true, true, true, true, true, true] _;refine bo rfl ?_;exact And.intro rfl (Exists.intro _ (Exists.intro _ ⟨bp rfl, aL [0, 0, 0, 0] rfl, rfl, rfl, t51, rfl⟩))
      ·refine cT [] rfl dp rfl (bR x35 none (eI g37)) rfl (fun c A' h => by obtain ⟨_, h, _⟩ := h; cases h) ?_
       rintro av A' ⟨t52, h, rfl⟩; cases h
       show AI _ _ _ _ _ _ #[false, true, true, true, true, true, true, true, false, false, false] _;refine aN (i := 0) (by kernel_rfl) rfl rfl <| aW rfl (al (i := 2) aX rfl rfl rfl rfl) ?_;show AI _ _ _ _ _ _ #[true, true, true, true, true, true, true, true, false, false, false] _;refine zk 8 rfl (an rfl) ?_;show AI _ _ _ _ _ _ #[true, true, true, true, true, true, true, true, true, false, false] _;refine zk 9 rfl (aj (n := 0) (by kernel_rfl) rfl) ?_;show AI _ _ _ _ _ _ #[true, true, true, true, true, true, true, true, true, true, false] _;refine aN (i := 10) (by kernel_rfl) rfl rfl <| cd (au (i := 3) (c := slE _ _ _) (by kernel_rfl) rfl rfl rfl rfl (aa rfl)) ?_;show AI _ _ _ _ _ _ #[true, true, true, true, true, true, true, true, true, true, true] _;refine bo rfl ?_;exact And.intro rfl (Exists.intro _ (Exists.intro _ ⟨bp rfl, aL [0, 0, 0, 0] rfl, rfl, rfl, t52, rfl⟩))
  intro t38;show ALeaves _ _ _ _ _ [] .returning [.tok t38 5, .obj o24 [i64 x27], .obj o11 [.pt o1 0], .obj o1 [slE Enc.byte x35 (some t38), B a4], .obj o12 [slE (aC Enc.int (aC (Enc.sl Enc.str) (aC Enc.int (aC Enc.int Enc.int)))) x26 (some t33)], .tok t33 41, .tok t22 5];obtain ⟨rfl, rfl, rfl⟩ := ia H;exact Exists.intro _ (Exists.intro _ ⟨dw rfl ((CellV.one (c := slE _ _ _) 4 bE rfl rfl rfl rfl).oneW (.tok _ _ _)), aL [3, 0] rfl, rfl, t38, rfl⟩)
end Go.Proofs.YtgjkjkmmgdbcoaaGreatDoor
namespace Go.Pv
def fP (a3 : List UInt8) (rec15 : ((List UInt8) × Int) → Option Int) (y13 : List UInt8) (y14 : Int) : Option Int :=
grd (okS y13.length) <|
grd (decide (2 ≤ a3.length)) <|
grd (okS a3.length) <|
lt (Go.Lib.index y13 a3) fun x20 =>
bif decide (x20 = (-1)) then
  some y14
else
  grd (okI (y14 + 1)) <|
  grd (okI (x20 + (a3.length : Int))) <|
  grd (iU (x20 + (a3.length : Int)) y13.length) <|
  lt (eJ y13 (x20 + (a3.length : Int))) fun x26 =>
  rec15 (x26, y14 + 1)
def fO (a3 : List UInt8) (n : Nat) : ((List UInt8) × Int) → Option Int :=
  loop (fun rec x => fP a3 rec x.1 x.2) n
def ej (F : Nat) (a1 : List UInt8) (a3 : List UInt8) : Option Int :=
grd (!(decide ((a3.length : Int) = 0))) <|
bif decide ((a3.length : Int) = 1) then
  grd (ct 0 a3.length) <|
  lt (at_ a3 0) fun x9 =>
  lt (List.count x9 a1 : Int) fun x11 =>
  some x11
else
  fO a3 F (a1, 0)
def lC (F : Nat) (a1 : List UInt8) : Option Bool :=
bnd (ej F a1 ([13, 10] : List UInt8)) fun x5 =>
bnd (ej F a1 ([13] : List UInt8)) fun x7 =>
kM (decide (x7 = x5)) (ej F a1 ([10] : List UInt8)) fun x10 =>
dk (((decide (x7 = x5)) && (decide (x10 = x5))) && (!(decide ((a1.length : Int) = 0)))) (okS a1.length) <|
lt (Go.Lib.hasSuffix a1 ([13, 10] : List UInt8)) fun x16 =>
some (((decide (x7 = x5)) && (decide (x10 = x5))) && ((decide ((a1.length : Int) = 0)) || x16))
def et {σ : Type} (k : σ → (List UInt8) → Option (σ × Bool)) (rec7 : ((List UInt8) × σ) → Option (σ × (List UInt8))) (y4 : List UInt8) (y5 : σ) : Option (σ × (List UInt8)) :=
grd (okS y4.length) <|
grd (decide (2 ≤ ([13, 10] : List UInt8).length)) <|
grd (okS ([13, 10] : List UInt8).length) <|
lt (Go.Lib.index y4 ([13, 10] : List UInt8)) fun x13 =>
bif decide (x13 < 0) then
  some (y5, y4)
else
  grd (okI (x13 + 2)) <|
  grd (iU (x13 + 2) y4.length) <|
  lt (to_ y4 (x13 + 2)) fun x18 =>
  jJ (k y5 x18) fun x20 x21 =>
  bif !x21 then
    some (x20, y4)
  else
    grd (okI (x13 + 2)) <|
    grd (iU (x13 + 2) y4.length) <|
    lt (eJ y4 (x13 + 2)) fun x27 =>
    rec7 (x27, x20)
def fB {σ : Type} (k : σ → (List UInt8) → Option (σ × Bool)) (n : Nat) : ((List UInt8) × σ) → Option (σ × (List UInt8)) :=
  loop (fun rec x => et k rec x.1 x.2) n
def kz (F : Nat) {σ : Type} (k : σ → (List UInt8) → Option (σ × Bool)) (st0 : σ) (a2 : List UInt8) : Option (σ × (List UInt8)) :=
fB k F (a2, st0)
def lw (F : Nat) (a1 : List UInt8) : Option Unit :=
some ()
def hZ (y37 : List UInt8) : Option ((List UInt8) × Int) :=
grd (dn (y37.length + ([46, 13, 10] : List UInt8).length)) <|
lt (y37 ++ ([46, 13, 10] : List UInt8)) fun x42 =>
some (x42, 0)
def fY (x15 : List UInt8) (y24 : List UInt8) : Option (((List UInt8)) × Bool) :=
grd (dn (y24.length + x15.length)) <|
lt (y24 ++ x15) fun x29 =>
some (x29, true)
def cS (y12 : List UInt8) (x15 : List UInt8) : Option (((List UInt8)) × Bool) :=
grd (ct 0 x15.length) <|
lt (at_ x15 0) fun x17 =>
bif decide (x17 = 46) then
  grd (dn (y12.length + ([46] : List UInt8).length)) <|
  lt (y12 ++ ([46] : List UInt8)) fun x22 =>
  fY x15 x22
else
  fY x15 y12
def jj (F : Nat) (a1 : List UInt8) : Option ((List UInt8) × Int) :=
bnd (lC F a1) fun x5 =>
bif !x5 then
  some ([], 1)
else
  bnd (lw F a1) fun _ =>
  jJ (kz F (fun s x => cS s x) [] a1) fun x31 x32 =>
  hZ x31
end Go.Pv
namespace Go.Av
open Go.RowKit Go.Pv
theorem uk {P : Program} {A : List Chunk} {e : Env} {x y : Operand} {d : Option Nat} {pos : String} {after : Array Edge} {g : Option (Nat × Bool)} {f : FuncId} {fn : Func} {ts : Array TypeId} {T2 : TypeId} {l : List UInt8} {t : Option Nat} {c : UInt8} (h : Ext0 P f fn Extern.BytealgCount.count) (hx : opv e x = slE Enc.byte l t) (hy : opv e y = u8 c) :
    OpR P ⟨d, .call ⟨.value (.func f), #[x, y], ts⟩, T2, pos, after, g⟩ e A (i64 (l.count c : Int)) A := fun F I w ρ hI hρ => by
  obtain ⟨a, cap, hv, hc, hb, hx1⟩ := eP (hx ▸ hρ x)
  have h2 := cg (hy ▸ hρ y)
  have key : (Extern.BytealgCount.count #[.slice a l.length cap, .int .u8 (c.toNat : Int)]).run P w = .ok (.int .i64 (l.count c : Int)) w := by
    by_cases hne : l = []
    · subst hne
      cases a with
      | none => exact Go.Lib.run_countNil w 0 cap _
      | some a =>
        have := Go.Lib.run_countAt (P := P) w a 0 cap [] rfl (fun i hi => absurd hi (Nat.not_lt_zero _)) (c.toNat : Int)
        exact this
    · obtain ⟨b, o, rfl, g1⟩ := hx1 hne
      rw [Go.Lib.run_countSlice w b o l.length cap (Go.Lib.numsL l) (Go.Lib.numsL_length _) g1, Go.Lib.bytesOf_numsL]
      simp [Go.Lib.countByte]
  refine ⟨_, _, w, I, qe hρ (r := .value (.int .i64 (l.count c : Int))) ?_, .inl rfl, cc _ _, hI, .v _⟩
  rw [show (#[x, y].map ρ) = #[ρ x, ρ y] by simp, hv, h2, run_callFunc_extern h.hf h.nm h.nb h.nn h.he, key]
  rfl
theorem idx7 {i : Int} (h : ct i 7 = true) : i = 0 ∨ i = 1 ∨ i = 2 ∨ i = 3 ∨ i = 4 ∨ i = 5 ∨ i = 6 := by
  have := lA h
  omega
theorem AR.subL {P : Program} {ro : Option Nat} {N : Nat} {Q : ee} {ops : Array Oper} {l : List Nat} {e : Env} {ds : List ADef} {A A' B : List Chunk} (is : List Nat) (p : ib A is = some (A', B))
    (h : AR P ro N ops Q l ⟨e, ds, A'⟩) : AR P ro N ops Q l ⟨e, ds, A⟩ := fun F I w a hI hS =>
  h F I w a ((aL is p : Sub A' A).inv hI) ⟨hS.size, hS.env, hS.ds⟩
end Go.Av
namespace Go.Proofs.YtgjkjkmmgdbcoaaGreatDoor
open Go.RowKit Go.Av Go.Pv
theorem en29_dot : ∀ (args : Array Value) (w : World), (callFunc 29 args).run Tryz.prog w = .ok (.enter 29 args) w := fun _ _ => by kernel_rfl
theorem en40_dot : ∀ (args : Array Value) (w : World), (callFunc 40 args).run Tryz.prog w = .ok (.enter 40 args) w := fun _ _ => by kernel_rfl
theorem pf : ∀ (args : Array Value) (w : World), (callFunc 52 args).run Tryz.prog w = .ok (.enter 52 args) w := fun _ _ => by kernel_rfl
theorem en53_dot : ∀ (args : Array Value) (w : World), (callFunc 53 args).run Tryz.prog w = .ok (.enter 53 args) w := fun _ _ => by kernel_rfl
theorem en60_dot : ∀ (args : Array Value) (w : World), (callFunc 60 args).run Tryz.prog w = .ok (.enter 60 args) w := fun _ _ => by kernel_rfl
theorem su : ∀ (args : Array Value) (w : World), (callFunc 61 args).run Tryz.prog w = .ok (.enter 61 args) w := fun _ _ => by kernel_rfl
set_option maxRecDepth 100000 in
set_option maxHeartbeats 1000000 in
theorem jF (F : Nat) (a1 : List UInt8) (q2 : Option Nat) (a3 : List UInt8) (q4 : Option Nat) (r5 : Int) (H : ej F a1 a3 = some r5) : ACalls Tryz.prog 52 [slE Enc.byte a1 q2, slE Enc.byte a3 q4] [] (Ret (i64 r5) []) := by
 unfold ej at H
 refine az Tryz.func52 rfl rfl ?_;show AW _ _ 35 _ _ _;refine ah <| ac ?_;show AR _ _ _ _ _ [0] _;refine za rfl <| ai <| ah <| ah <| ac ?_;show AR _ _ _ _ _ [0, 1, 2] _;refine zS rfl (ak (av := slE _ _ _) rfl) <| zS rfl (bc ab rfl) <| zS rfl (bt rfl rfl) <| ai ?_;obtain ⟨g28, H⟩ := aY H;replace g28 := fn g28;refine aE rfl (fun hx => jO hx g28) (fun _ => ?_);refine aJ <| ah <| ah <| ac ?_;show AR _ _ _ _ _ [0, 1, 2] _;refine zS rfl (ak (av := slE _ _ _) rfl) <| zS rfl (bc ab rfl) <| zS rfl (bt rfl rfl) <| ai <| aE rfl (fun c7 => ?_) (fun c7 => ?_)
 ·replace H := bg c7 H;refine ah ?_;obtain ⟨g8, H⟩ := aY H;obtain ⟨x9, e10, H⟩ := bP H;obtain ⟨x11, e12, H⟩ := bP H;refine ac ?_;show AR _ _ _ _ _ [0, 1, 2, 3, 4, 5] _;refine zS rfl (ak (av := slE _ _ _) rfl) <| zS rfl (ak (av := slE _ _ _) rfl) <| zS rfl (bL (E := Enc.byte) ab (by kernel_rfl) rfl rfl g8 e10) <| zS rfl (aF aO rfl rfl) <| zR rfl (show OpR _ _ _ _ (i64 x11) _ from by subst e12; exact uk ⟨Tryz.func74, by kernel_rfl, by kernel_rfl, by kernel_rfl, by kernel_rfl⟩ rfl rfl) <| za rfl <| ai <| aQ ?_;obtain rfl := ay H;exact And.intro rfl (Exists.intro _ (Exists.intro _ ⟨aV rfl (.refl _), aL [] rfl, rfl, rfl⟩))
 ·replace H := ba c7 H;refine aJ <| ah <| ac ?_;show AR _ _ _ _ _ [0] _;refine za rfl <| ai <| be <| cN (X := Nat × (List UInt8) × Int) (fun (n16, y13, y14) => ⟨[(0, slE Enc.byte y13 none), (1, slE Enc.byte a3 q4), (5, i64 y14)], [], []⟩) (fun (n16, y13, y14) => fO a3 n16 (y13, y14) = some r5) (fun (n16, y13, y14) => n16) (F, a1, 0) H (aZ [] (.cons (.tok _ _ _) (.cons (.refl _) (.cons (.refl _) (.nil _)))) rfl) ?_;rintro ⟨n16, y13, y14⟩ H;obtain ⟨n16, rfl, H⟩ := dK H;replace H : fP a3 (fO a3 n16) y13 y14 = some r5 := H
  unfold fP at H
  refine be <| ah ?_;obtain ⟨g17, H⟩ := aY H;obtain ⟨g18, H⟩ := aY H;obtain ⟨g19, H⟩ := aY H;obtain ⟨x20, e21, H⟩ := bP H;refine ac ?_;show AR _ _ _ _ _ [0, 1, 2, 3] _;refine zS rfl (ak (av := slE _ _ _) rfl) <| zS rfl (ak (av := slE _ _ _) rfl) <| aq rfl rfl (aU rfl su rfl (show ACalls _ _ _ [] (Ret (i64 x20) []) from by subst e21; exact kS y13 a3 none q4 (eI g17) (of_decide_eq_true g18) (eI g19)) ?_);refine za rfl <| ai <| ah <| ah <| ac ?_;show AR _ _ _ _ _ [0, 1] _;refine zm rfl <| zS rfl (bt rfl rfl) <| ai <| aE rfl (fun c22 => ?_) (fun c22 => ?_)
  ·replace H := bg c22 H;refine ah <| ac ?_;show AR _ _ _ _ _ [0, 1] _;refine zm rfl <| za rfl <| ai <| aQ ?_;obtain rfl := ay H;exact And.intro rfl (Exists.intro _ (Exists.intro _ ⟨aV rfl (.refl _), aL [] rfl, rfl, rfl⟩))
  ·replace H := ba c22 H;refine aJ <| ah ?_;obtain ⟨g23, H⟩ := aY H;refine ac ?_;show AR _ _ _ _ _ [0, 1, 2] _;refine zm rfl <| zS rfl (dE rfl rfl g23) <| za rfl <| ai ?_;obtain ⟨g24, H⟩ := aY H;obtain ⟨g25, H⟩ := aY H;obtain ⟨x26, e27, H⟩ := bP H;refine ac ?_;show AR _ _ _ _ _ [0, 1, 2, 3, 4, 5, 6] _;refine zS rfl (ak (av := slE _ _ _) rfl) <| zm rfl <| zS rfl (ak (av := slE _ _ _) rfl) <| zS rfl (bc ab rfl) <| zS rfl (dE rfl rfl g24) <| zS rfl (cU (E := Enc.byte) ab (by kernel_rfl) rfl rfl g25 e27) <| zS rfl (aB (av := slE _ _ _) rfl) <| ai ?_;exact Exists.intro (n16, x26, y14 + 1) ⟨H, Nat.lt_succ_self _, aZ [] (.cons (.refl _) (.cons (.refl _) (.cons (.refl _) (.nil _)))) rfl⟩
set_option maxRecDepth 100000 in
set_option maxHeartbeats 1000000 in
theorem pI (F : Nat) (a1 : List UInt8) (q2 : Option Nat) (r3 : Bool) (H : lC F a1 = some r3) : ACalls Tryz.prog 29 [slE Enc.byte a1 q2] [] (Ret (B r3) []) := by
 unfold lC at H
 refine az Tryz.func29 rfl rfl ?_;show AW _ _ 31 _ _ _;refine ah <| ac ?_;show AR _ _ _ _ _ [0] _;refine za rfl <| ai <| ah ?_;obtain ⟨x5, e6, H⟩ := cu H;refine ac ?_;show AR _ _ _ _ _ [0, 1, 2, 3, 4] _;refine zS rfl (ak (av := slE _ _ _) rfl) <| zX rfl (ir (E := Enc.byte) (bytes := 1) (xs := [.const _, .const _]) (l := ([13, 10] : List UInt8)) ab (by kernel_rfl) rfl rfl (by decide) rfl rfl) ?_;rintro _ _ ⟨t4, rfl, rfl⟩;refine zR rfl (fA 0 ab aO rfl (by simp) rfl) <| aq rfl rfl (aU rfl pf rfl (jF F a1 q2 ([13, 10] : List UInt8) (some t4) x5 e6) ?_);refine za rfl <| ai <| ah ?_;obtain ⟨x7, e8, H⟩ := cu H;obtain ⟨x10, e11, H⟩ := gy H;obtain ⟨g15, H⟩ := cq H;obtain ⟨x16, e17, H⟩ := bP H;refine ac ?_;show AR _ _ _ _ _ [0, 1, 2, 3, 4, 5, 6, 7, 8, 9, 10, 11, 12, 13, 14, 15, 16, 17, 18, 19, 20, 21, 22, 23] _;refine zS rfl (ak (av := slE _ _ _) rfl) <| zR rfl (cF (E := Enc.byte) (bytes := 1) (xs := [.const _]) (l := ([13] : List UInt8)) ab (by kernel_rfl) rfl rfl (by decide) rfl rfl) <| aq rfl rfl (aU rfl pf rfl (jF F a1 q2 ([13] : List UInt8) none x7 e8) ?_);refine zm rfl <| zS rfl (bt rfl rfl) <| zm rfl <| aG (l := [12, 13, 14, 15, 16, 17, 18, 19, 20, 21, 22, 23]) 19 (B ((decide (x7 = x5)) && (decide (x10 = x5)))) (fun K => ?_) ?_
 ·rcases af (decide (x7 = x5)) with h9 | h9
  ·refine zU h9 rfl (ak (av := slE _ _ _) rfl) <| zT h9 rfl (ca rfl rfl (cF (E := Enc.byte) (bytes := 1) (xs := [.const _]) (l := ([10] : List UInt8)) ab (by kernel_rfl) rfl rfl (by decide) rfl rfl) ?_);refine zT h9 rfl (aU rfl pf rfl (jF F a1 q2 ([10] : List UInt8) none x10 (e11 h9)) ?_);refine zM h9 rfl <| zU h9 rfl (bt rfl rfl) <| zS rfl (ap (av := .v _) rfl h9 rfl) ?_;exact K _ 5 _ (am (bI h9)) rfl rfl
  ·refine zF h9 rfl <| zF h9 rfl <| zF h9 rfl <| zF h9 rfl <| zF h9 rfl <| zS rfl (ao (av := .v _) rfl h9 rfl) ?_;exact K _ 5 _ (am (bJ h9)) rfl rfl
 refine zm rfl <| aG (l := [23]) 30 (B (((decide (x7 = x5)) && (decide (x10 = x5))) && ((decide ((a1.length : Int) = 0)) || x16))) (fun K => ?_) ?_
 ·rcases af ((decide (x7 = x5)) && (decide (x10 = x5))) with h12 | h12
  ·refine zU h12 rfl (ak (av := slE _ _ _) rfl) <| zU h12 rfl (bc ab rfl) <| zU h12 rfl (bt rfl rfl) <| zM h12 rfl <| aG (l := [22, 23]) 29 (B ((decide ((a1.length : Int) = 0)) || x16)) (fun K => ?_) ?_
   ·rcases af (decide ((a1.length : Int) = 0)) with h13 | h13
    ·refine zF h13 rfl <| zF h13 rfl <| zF h13 rfl <| zF h13 rfl <| zU h12 rfl (ap (av := .v _) rfl h13 rfl) ?_;exact K _ 4 _ (am (dz h13)) rfl rfl
    ·refine zU h13 rfl (ak (av := slE _ _ _) rfl) <| zT h13 rfl (AO.opx rfl rfl (ir (E := Enc.byte) (bytes := 1) (xs := [.const _, .const _]) (l := ([13, 10] : List UInt8)) ab (by kernel_rfl) rfl rfl (by decide) rfl rfl) ?_);rintro _ _ ⟨t14, rfl, rfl⟩;refine zT h13 rfl (ca rfl rfl (fA 0 ab aO rfl (by simp) rfl) ?_);refine zT h13 rfl (aU rfl en53_dot rfl (show ACalls _ _ _ [] (Ret (B x16) []) from by subst e17; exact lX a1 ([13, 10] : List UInt8) q2 (some t14) (eI (g15 (eH h12 (nf h13))))) ?_);refine AR.subL [1] rfl ?_;show AR _ _ _ _ _ _ ⟨_, _, [.tok t4 5]⟩;refine zU h12 rfl (ao (av := .v _) rfl h13 rfl) ?_;exact K _ 4 _ (am (dA h13)) rfl rfl
   refine zS rfl (ap (av := .v _) rfl h12 rfl) ?_;exact K _ 5 _ (am (bI h12)) rfl rfl
  ·refine zF h12 rfl <| zF h12 rfl <| zF h12 rfl <| zF h12 rfl <| gU rfl rfl rfl rfl rfl <| gU rfl rfl rfl rfl rfl <| gU rfl rfl rfl rfl rfl <| gU rfl rfl rfl rfl rfl <| zF h12 rfl <| zS rfl (ao (av := .v _) rfl h12 rfl) ?_;exact K _ 9 _ (am (bJ h12)) rfl rfl
 refine za rfl <| ai <| aQ ?_;obtain rfl := ay H;exact And.intro rfl (Exists.intro _ (Exists.intro _ ⟨aV rfl (.refl _), aL [] rfl, rfl, rfl⟩))
set_option maxRecDepth 100000 in
set_option maxHeartbeats 1000000 in
theorem qK (F : Nat) {σ τ : Type} (T : σ → τ → List Chunk) (k : σ → (List UInt8) → Option (σ × Bool)) (o : Nat) (hY : ∀ (s : σ) (t : τ) (x : List UInt8) (rv : σ × Bool), k s x = some rv → ii Tryz.prog o [slE Enc.byte x none] (T s t) fun ae A' => ∃ t', ae = .ret (.v (.bool rv.2)) ∧ A' = T rv.1 t') (st0 : σ) (tt0 : τ) (o1 : Nat) (a2 : List UInt8) (rs : σ) (r3 : List UInt8) (H : kz F k st0 a2 = some (rs, r3)) : ACalls Tryz.prog 60 [.yl o, .pt o1 0] ([.obj o1 [slE Enc.byte a2 none]] ++ T st0 tt0) (fun e A' => ∃ tz, e = .ret (.tup []) ∧ A' = [.obj o1 [slE Enc.byte r3 none]] ++ T rs tz) := by
 unfold kz at H
 refine az Tryz.func60 rfl rfl ?_;show AW _ _ 23 _ _ _;refine be <| cN (X := Nat × (List UInt8) × σ × τ) (fun (n8, y4, y5, t6) => ⟨[(0, .yl o), (1, .pt o1 0)], [], ([.obj o1 [slE Enc.byte y4 none]] ++ T y5 t6)⟩) (fun (n8, y4, y5, t6) => fB k n8 (y4, y5) = some (rs, r3)) (fun (n8, y4, y5, t6) => n8) (F, a2, st0, tt0) H (WK.atT 1 [0] (.cons (.refl _) (.cons (.refl _) (.nil _))) rfl) ?_;rintro ⟨n8, y4, y5, t6⟩ H;obtain ⟨n8, rfl, H⟩ := dK H;replace H : et k (fB k n8) y4 y5 = some (rs, r3) := H
 unfold et at H
 refine be <| ah ?_;obtain ⟨g10, H⟩ := aY H;obtain ⟨g11, H⟩ := aY H;obtain ⟨g12, H⟩ := aY H;obtain ⟨x13, e14, H⟩ := bP H;refine ac ?_;show AR _ _ _ _ _ [0, 1, 2, 3, 4] _;refine zR rfl (al (i := 0) ab rfl rfl rfl rfl) <| zX rfl (ir (E := Enc.byte) (bytes := 1) (xs := [.const _, .const _]) (l := ([13, 10] : List UInt8)) ab (by kernel_rfl) rfl rfl (by decide) rfl rfl) ?_;rintro _ _ ⟨t9, rfl, rfl⟩;refine zR rfl (fA 0 ab aO rfl (by simp) rfl) <| aq rfl rfl (aU rfl su rfl (show ACalls _ _ _ [] (Ret (i64 x13) []) from by subst e14; exact kS y4 ([13, 10] : List UInt8) none (some t9) (eI g10) (of_decide_eq_true g11) (eI g12)) ?_);refine za rfl <| ai <| ah <| ah ?_
 rcases af (decide (x13 < 0)) with h15 | h15
 ·replace H := bg h15 H;refine ac ?_;show AR _ _ _ _ _ [0, 1, 2, 3, 4, 5, 6, 7, 8, 9, 10] _;refine zm rfl <| zS rfl (bN rfl rfl) <| zm rfl <| zF h15 rfl <| zF h15 rfl <| zF h15 rfl <| zF h15 rfl <| zF h15 rfl <| zF h15 rfl <| zF h15 rfl <| zS rfl (ap (av := .v _) rfl h15 rfl) <| ai <| aE rfl (fun _ => ?_) (fun hx => jO rfl hx);refine aQ ?_;obtain ⟨rfl, rfl⟩ := gw H;exact And.intro rfl (Exists.intro _ (Exists.intro _ ⟨bp rfl, Sub.atT 2 [1] rfl, t6, rfl, rfl⟩))
 ·replace H := ba h15 H;obtain ⟨g16, H⟩ := aY H;obtain ⟨g17, H⟩ := aY H;obtain ⟨x18, e19, H⟩ := bP H;obtain ⟨x20, x21, e22, H⟩ := eu H;refine ac ?_;show AR _ _ _ _ _ [0, 1, 2, 3, 4, 5, 6, 7, 8, 9, 10] _;refine zm rfl <| zS rfl (bN rfl rfl) <| zm rfl <| zU h15 rfl (ak (av := .yl _) rfl) <| zT h15 rfl (ca rfl rfl (al (i := 1) ab rfl rfl rfl rfl) ?_);refine zM h15 rfl <| zU h15 rfl (dE rfl rfl g16) <| zU h15 rfl (ou (E := Enc.byte) ab (by kernel_rfl) rfl rfl g17 e19) <| zT h15 rfl (AO.yieldT (s' := x20) (b := x21) 2 rfl rfl rfl (hY _ _ _ _ e22) fun t23 => ?_);show AR _ _ _ _ _ _ ⟨_, _, ([.tok t9 5, .obj o1 [slE Enc.byte y4 none]] ++ T x20 t23)⟩;refine zU h15 rfl (cW rfl) <| zS rfl (ao (av := .v _) rfl h15 rfl) <| ai <| aE rfl (fun c24 => ?_) (fun c24 => ?_)
  ·replace H := bg c24 H;refine aQ ?_;obtain ⟨rfl, rfl⟩ := gw H;exact And.intro rfl (Exists.intro _ (Exists.intro _ ⟨bp rfl, Sub.atT 2 [1] rfl, t23, rfl, rfl⟩))
  ·replace H := ba c24 H;refine aJ ?_;obtain ⟨g25, H⟩ := aY H;obtain ⟨g26, H⟩ := aY H;obtain ⟨x27, e28, H⟩ := bP H;refine ac ?_;show AR _ _ _ _ _ [0, 1, 2, 3, 4] _;refine zR rfl (al (i := 1) ab rfl rfl rfl rfl) <| zm rfl <| zS rfl (dE rfl rfl g25) <| zS rfl (cU (E := Enc.byte) ab (by kernel_rfl) rfl rfl g26 e28) <| s0 rfl rfl (au (i := 1) (c := slE _ _ _) (by kernel_rfl) rfl rfl rfl rfl (aa rfl)) <| ai ?_;exact Exists.intro (n8, x27, x20, t23) ⟨H, Nat.lt_succ_self _, WK.atT 2 [1] (.cons (.refl _) (.cons (.refl _) (.nil _))) rfl⟩
set_option maxRecDepth 100000 in
set_option maxHeartbeats 1000000 in
theorem rD (F : Nat) (a1 : List UInt8) (H : lw F a1 = some ()) : ACalls Tryz.prog 40 [slE Enc.byte a1 none] [] (fun e A' => ∃ ob1 : Nat, e = .ret (.fn (.func 60) [] [.pt ob1 0]) ∧ A' = [.obj ob1 [slE Enc.byte a1 none]]) := by
 unfold lw at H
 refine az Tryz.func40 rfl rfl ?_;show AW _ _ 4 _ _ _;refine ah <| ac ?_;show AR _ _ _ _ _ [0, 1] _;refine zX rfl (ie rfl (.inl rfl)) ?_;rintro _ _ ⟨o2, rfl, rfl⟩;refine za rfl <| ai <| ah <| ac ?_;show AR _ _ _ _ _ [0, 1] _;refine zS rfl (hU rfl rfl) <| zS rfl (aB (av := .fn _ _ _) rfl) <| ai <| aQ ?_;exact And.intro rfl (Exists.intro _ (Exists.intro _ ⟨aV rfl (.refl _), aL [0] rfl, o2, rfl, rfl⟩))
set_option maxRecDepth 100000 in
set_option maxHeartbeats 1000000 in
theorem nB (F : Nat) (a1 : List UInt8) (q2 : Option Nat) (r3 : List UInt8) (r4 : Int) (H : jj F a1 = some (r3, r4)) : ACalls Tryz.prog 17 [slE Enc.byte a1 q2] [] (Ret (.tup [slE Enc.byte r3 none, i64 r4]) []) := by
 unfold jj at H
 refine nZ Tryz.func17 rfl rfl ?_;show AW _ _ 24 _ _ _;refine ah <| ac ?_;show AR _ _ _ _ _ [0, 1] _;refine za rfl <| za rfl <| ai <| ah <| ah ?_;obtain ⟨x5, e6, H⟩ := cu H;refine ac ?_;show AR _ _ _ _ _ [0, 1, 2] _;refine zS rfl (ak (av := slE _ _ _) rfl) <| aq rfl rfl (aU rfl en29_dot rfl (pI F a1 q2 x5 e6) ?_);refine zS rfl (cW rfl) <| ai <| aE rfl (fun c7 => ?_) (fun c7 => ?_)
 ·replace H := bg c7 H;refine ah <| ac ?_;show AR _ _ _ _ _ [0, 1] _;refine za rfl <| za rfl <| ai <| aQ ?_;obtain ⟨rfl, rfl⟩ := gw H;exact Exists.intro _ (And.intro (.nil _) (Exists.intro _ (Exists.intro _ ⟨bV rfl (.nil _) (.refl _), aL [] rfl, rfl, rfl⟩)))
 ·replace H := ba c7 H;refine aJ <| ah <| ac ?_;show AR _ _ _ _ _ [0] _;refine zX rfl (br (zs := [.slice none 0 0]) (by kernel_rfl)) ?_;rintro _ _ ⟨o8, rfl, rfl⟩;refine ai ?_
  refine AW.nil_objAt 0 0 1 5 rfl rfl fun t9 => ?_
  show AW _ _ _ _ _ ⟨_, _, [.tok t9 5, .obj o8 [slE Enc.byte [] (some t9)]]⟩;refine bK (X := Nat × (List UInt8) × Nat) (fun (t36, y37, t38) => ⟨[(4, .pt o8 0)], [.mark t36], [.obj o8 [slE Enc.byte y37 (some t38)], .tok t38 5, .db t36]⟩) (fun (t36, y37, t38) => hZ y37 = some (r3, r4)) ?_ ?_
  ·refine ah ?_;obtain ⟨_, e10, H⟩ := cu H;refine ac ?_;show AR _ _ _ _ _ [0, 1] _;refine zS rfl (ak (av := slE _ _ _) rfl) <| aq rfl rfl (cI [] rfl en40_dot rfl (mC (.cons (.tok _ _ _) (.nil)) (rD F a1 e10)) rfl (fun c A' h => by obtain ⟨_, h, _⟩ := h; cases h) ?_)
   rintro av A' ⟨o11, h, rfl⟩; cases h
   refine ai <| be ?_;obtain ⟨x31, x32, e33, H⟩ := eu H;refine AW.rangeK (α := List UInt8) (σ := (List UInt8)) (τ := Nat) (fun x => [slE Enc.byte x none]) (fun s t => [.obj o8 [slE Enc.byte s (some t)], .tok t 5]) (fun _ => none) (fun s x => cS s x) [] t9 x31 [0] [1, 0] rfl en60_dot (fun _ => rfl) (by decide) rfl rfl rfl (fun o T' hY => qK F T' _ o hY _ _ o11 a1 x31 x32 e33) ?_ ?_
   ·rintro l y12 t13 x15 rv H;replace H : cS y12 x15 = some rv := H
    unfold cS at H
    refine ⟨rfl, ?_⟩;show AW _ _ _ _ _ ⟨(11, slE Enc.byte x15 none) :: _, [], _⟩;refine ac ?_;show AR _ _ _ _ _ [0] _;refine zS rfl (aB (av := slE _ _ _) rfl) <| ai <| be <| bK (X := (List UInt8) × Nat) (fun (y24, t25) => ⟨[(4, .pt o8 0), (5, slE Enc.byte x15 none)], [], [.obj o8 [slE Enc.byte y24 (some t25)], .tok t25 5]⟩) (fun (y24, t25) => fY x15 y24 = some rv) ?_ ?_
    ·refine ah ?_;obtain ⟨g16, H⟩ := aY H;obtain ⟨x17, e18, H⟩ := bP H;refine ac ?_;show AR _ _ _ _ _ [0, 1, 2, 3] _;refine zS rfl (ak (av := slE _ _ _) rfl) <| zS rfl (bL (E := Enc.byte) ab (by kernel_rfl) rfl rfl g16 e18) <| zS rfl (aF aO rfl rfl) <| zS rfl (dr (a := x17) (b := 46) rfl rfl) <| ai <| aE rfl (fun c19 => ?_) (fun c19 => ?_)
     ·replace H := bg c19 H;obtain ⟨g21, H⟩ := aY H;obtain ⟨x22, e23, H⟩ := bP H;refine ac ?_;show AR _ _ _ _ _ [0, 1, 2, 3] _;refine zR rfl (al (i := 0) ab rfl rfl rfl rfl) <| zR rfl (cF (E := Enc.byte) (bytes := 1) (xs := [.const _]) (l := ([46] : List UInt8)) ab (by kernel_rfl) rfl rfl (by decide) rfl rfl) <| zX rfl (df (E := Enc.byte) (bytes := 1) 1 ab ab rfl (by kernel_rfl) rfl rfl rfl rfl g21 e23) ?_;rintro _ _ ⟨t20, rfl, rfl⟩;refine s0 rfl rfl (au (i := 0) (c := slE _ _ _) (by kernel_rfl) rfl rfl rfl rfl (aa rfl)) <| ai ?_;exact Exists.intro (x22, t20) ⟨H, aZ [0, 0] (.cons (.refl _) (.cons (.refl _) (.nil _))) rfl⟩
     ·replace H := ba c19 H;refine aJ ?_;exact Exists.intro (y12, t13) ⟨H, aZ [0, 0] (.cons (.refl _) (.cons (.refl _) (.nil _))) rfl⟩
    rintro ⟨y24, t25⟩ H;replace H : fY x15 y24 = some rv := H
    unfold fY at H
    obtain ⟨g28, H⟩ := aY H;obtain ⟨x29, e30, H⟩ := bP H;refine ac ?_;show AR _ _ _ _ _ [0, 1, 2, 3] _;refine zR rfl (al (i := 0) ab rfl rfl rfl rfl) <| zS rfl (ak (av := slE _ _ _) rfl) <| zX rfl (df (E := Enc.byte) (bytes := 1) 1 ab ab rfl (by kernel_rfl) rfl rfl rfl rfl g28 e30) ?_;rintro _ _ ⟨t27, rfl, rfl⟩;refine s0 rfl rfl (au (i := 0) (c := slE _ _ _) (by kernel_rfl) rfl rfl rfl rfl (aa rfl)) <| ai ?_;obtain rfl := ay H;exact ⟨rfl, rfl, t27, aL [0, 0] rfl⟩
   rintro o35 t34;exact Exists.intro (o35, x31, t34) ⟨H, aZ [2, 2, 0] (.cons (.refl _) (.nil _)) rfl⟩
  rintro ⟨t36, y37, t38⟩ H;replace H : hZ y37 = some (r3, r4) := H
  unfold hZ at H
  refine ah ?_;obtain ⟨g41, H⟩ := aY H;obtain ⟨x42, e43, H⟩ := bP H;refine ac ?_;show AR _ _ _ _ _ [0, 1, 2, 3] _;refine zR rfl (al (i := 0) ab rfl rfl rfl rfl) <| zX rfl (kq (bytes := 1) 1 ab ag rfl (by kernel_rfl) rfl rfl rfl rfl g41 e43) ?_;rintro _ _ ⟨t40, rfl, rfl⟩;refine zS rfl (aB (av := slE _ _ _) rfl) <| za rfl <| ai <| aQ ?_;obtain ⟨rfl, rfl⟩ := gw H;exact Exists.intro _ (And.intro (Unmark.at 2 rfl (.nil _)) (Exists.intro _ (Exists.intro _ ⟨bV rfl (.tok _ _ _) (.refl _), aL [] rfl, rfl, rfl⟩)))
end Go.Proofs.YtgjkjkmmgdbcoaaGreatDoor
namespace Go.Pv
def clia_k1 : List UInt8 := [97, 98, 99, 100, 101, 102, 103, 104, 105, 106, 107, 108, 109, 110, 111, 112, 113, 114, 115, 116, 117, 118, 119, 120, 121, 122, 65, 66, 67, 68, 69, 70, 71, 72, 73, 74, 75, 76, 77, 78, 79, 80, 81, 82, 83, 84, 85, 86, 87, 88, 89, 90, 48, 49, 50, 51, 52, 53, 54, 55, 56, 57, 46, 45, 95, 43]
def clia_k2 : List UInt8 := [97, 98, 99, 100, 101, 102, 103, 104, 105, 106, 107, 108, 109, 110, 111, 112, 113, 114, 115, 116, 117, 118, 119, 120, 121, 122, 65, 66, 67, 68, 69, 70, 71, 72, 73, 74, 75, 76, 77, 78, 79, 80, 81, 82, 83, 84, 85, 86, 87, 88, 89, 90, 48, 49, 50, 51, 52, 53, 54, 55, 56, 57, 46, 45]
def jv (a1 : List UInt8) : Option Bool :=
some ((!decide (a1 = ([] : List UInt8))) && (decide ((a1.length : Int) ≤ 60)))
def jx (a1 : List UInt8) (a2 : List UInt8) (rec5 : Int → Option Bool) (y4 : Int) : Option Bool :=
bif decide (y4 < (a1.length : Int)) then
  grd (ct y4 a1.length) <|
  lt (at_ a1 y4) fun x9 =>
  lt (Go.Lib.indexByte a2 x9) fun x11 =>
  bif decide (x11 < 0) then
    some false
  else
    grd (okI (y4 + 1)) <|
    rec5 (y4 + 1)
else
  jv a1
def jw (a1 : List UInt8) (a2 : List UInt8) (n : Nat) : Int → Option Bool :=
  loop (fun rec x => jx a1 a2 rec x) n
def kK (F : Nat) (a1 : List UInt8) (a2 : List UInt8) : Option Bool :=
jw a1 a2 F 0
def iu (F : Nat) (a1 : List UInt8) : Option Bool :=
grd (okS a1.length) <|
lt (Go.Lib.cut a1 ([64] : List UInt8)) fun x4 =>
kM x4.2.2 (kK F x4.1 clia_k1) fun x7 =>
kM (x4.2.2 && x7) (kK F x4.2.1 clia_k1) fun x10 =>
some ((((x4.2.2 && x7) && x10) && (decide (3 ≤ (a1.length : Int)))) && (decide ((a1.length : Int) ≤ 60)))
def ki (F : Nat) (a1 : List UInt8) (a2 : List UInt8) (a3 : List UInt8) (a4 : List UInt8) : Option (Int × Int × (List UInt8) × (List UInt8) × (List UInt8) × (List UInt8) × Int) :=
bnd (iu F a1) fun x14 =>
kM (!(!x14)) (iu F a2) fun x17 =>
kM (!((!x14) || (!x17))) (kK F a3 clia_k2) fun x20 =>
kM (!(((!x14) || (!x17)) || (!x20))) (lC F a4) fun x23 =>
bif (((!x14) || (!x17)) || (!x20)) || (!x23) then
  some (0, 0, ([] : List UInt8), ([] : List UInt8), ([] : List UInt8), [], 1)
else
  grd (okS a4.length) <|
  some (0, 0, a1, a2, a3, a4, 0)
def iM (a1 : List UInt8) (a2 : List UInt8) (y25 : List UInt8) : Option Bool :=
grd (decide (y25.length = a1.length)) <|
some (decide (y25 = a2))
def gM (y7 : Int) (rec9 : (Int × (List UInt8)) → Option Bool) (y22 : List UInt8) : Option Bool :=
grd (okI (y7 + 1)) <|
rec9 (y7 + 1, y22)
def fQ (a1 : List UInt8) (a2 : List UInt8) (rec9 : (Int × (List UInt8)) → Option Bool) (y7 : Int) (y8 : List UInt8) : Option Bool :=
bif decide (y7 < (a1.length : Int)) then
  grd (ct y7 a1.length) <|
  grd (ct y7 y8.length) <|
  lt (at_ y8 y7) fun x14 =>
  bif (decide (65 ≤ (x14.toNat : Int))) && (decide ((x14.toNat : Int) ≤ 90)) then
    grd (ct y7 a1.length) <|
    grd (ct y7 y8.length) <|
    lt (y8.set (Int.toNat y7) ((x14 + 97) - 65)) fun x20 =>
    gM y7 rec9 x20
  else
    gM y7 rec9 y8
else
  iM a1 a2 y8
def eQ (a1 : List UInt8) (a2 : List UInt8) (n : Nat) : (Int × (List UInt8)) → Option Bool :=
  loop (fun rec x => fQ a1 a2 rec x.1 x.2) n
def lf (F : Nat) (a1 : List UInt8) (a2 : List UInt8) : Option Bool :=
grd (dn a1.length) <|
eQ a1 a2 F (0, a1)
def kA : Option Int :=
some 0
def iv (y7 : Int) (rec8 : Int → Option Int) : Option Int :=
grd (okI (y7 + 1)) <|
rec8 (y7 + 1)
def fb (F : Nat) (a2 : List (List UInt8)) (rec8 : Int → Option Int) (y7 : Int) : Option Int :=
bif decide (y7 < (a2.length : Int)) then
  grd (ct y7 a2.length) <|
  lt (at_ a2 y7) fun x12 =>
  grd (okS x12.length) <|
  lt (Go.Lib.cut x12 ([32] : List UInt8)) fun x15 =>
  kM (!((decide (y7 = 0)) || (!x15.2.2))) (lf F x15.1 ([115, 105, 122, 101] : List UInt8)) fun x19 =>
  dk (!(((((decide (y7 = 0)) || (!x15.2.2)) || (!x19)) || (decide (x15.2.1 = ([] : List UInt8)))) || (decide (9 < (x15.2.1.length : Int))))) (okS x15.2.1.length) <|
  dk (!(((((decide (y7 = 0)) || (!x15.2.2)) || (!x19)) || (decide (x15.2.1 = ([] : List UInt8)))) || (decide (9 < (x15.2.1.length : Int))))) (okS ([48, 49, 50, 51, 52, 53, 54, 55, 56, 57] : List UInt8).length) <|
  dk (!(((((decide (y7 = 0)) || (!x15.2.2)) || (!x19)) || (decide (x15.2.1 = ([] : List UInt8)))) || (decide (9 < (x15.2.1.length : Int))))) (rr ([48, 49, 50, 51, 52, 53, 54, 55, 56, 57] : List UInt8)) <|
  lt (Go.Lib.trimS x15.2.1 ([48, 49, 50, 51, 52, 53, 54, 55, 56, 57] : List UInt8)) fun x27 =>
  bif (((((decide (y7 = 0)) || (!x15.2.2)) || (!x19)) || (decide (x15.2.1 = ([] : List UInt8)))) || (decide (9 < (x15.2.1.length : Int)))) || (!decide (x27 = ([] : List UInt8))) then
    iv y7 rec8
  else
    jJ (cR F x15.2.1) fun x30 x31 =>
    bif decide (x31 = 0) then
      some x30
    else
      iv y7 rec8
else
  kA
def fS (F : Nat) (a2 : List (List UInt8)) (n : Nat) : Int → Option Int :=
  loop (fun rec x => fb F a2 rec x) n
def mX (F : Nat) (a1 : Int) (a2 : List (List UInt8)) (a3 : Int) (a4 : Int) (a5 : Int) : Option Int :=
fS F a2 F 0
def je (F : Nat) (a2 : Int) (a3 : Int) (a4 : List UInt8) (a5 : List UInt8) (a6 : List UInt8) (a7 : List UInt8) (a8 : List UInt8) (a10 : Int) (a11 : List (List UInt8)) : Option (Int × (List UInt8)) :=
grd (rk a11 ([] : List UInt8)) <|
lt (Go.Av.Str.join ([] : List UInt8) a11) fun x17 =>
grd (dn (x17.length + ([13, 10] : List UInt8).length)) <|
lt (x17 ++ ([13, 10] : List UInt8)) fun x20 =>
grd (dn (a8.length + x20.length)) <|
lt (a8 ++ x20) fun x24 =>
some (a10, x24)
def jN (F : Nat) (a2 : Int) (a3 : Int) (a4 : List UInt8) (a5 : List UInt8) (a6 : List UInt8) (a7 : List UInt8) (a8 : List UInt8) (a10 : Int) : Option (Int × Int × (List UInt8)) :=
jJ (je F a2 a10 a4 a5 a6 a7 a8 6 ([([81, 85, 73, 84] : List UInt8)] : List (List UInt8))) fun x15 x16 =>
some (x15, a10, x16)
def lD (F : Nat) (a2 : Int) (a3 : Int) (a4 : List UInt8) (a5 : List UInt8) (a6 : List UInt8) (a7 : List UInt8) (a8 : List UInt8) : Option (Int × Int) :=
bif decide (a3 = 0) then
  some (7, 2)
else
  some (7, a3)
def lh (F : Nat) (a2 : Int) (a3 : Int) (a4 : List UInt8) (a5 : List UInt8) (a6 : List UInt8) (a7 : List UInt8) (a8 : List UInt8) (a10 : Int) (a11 : List (List UInt8)) (a12 : Int) (a13 : Int) (a14 : Int) : Option (Bool × Int × (List UInt8)) :=
bif !decide (a10 = 220) then
  some (false, a2, a8)
else
  jJ (je F a2 a3 a4 a5 a6 a7 a8 1 ([([69, 72, 76, 79, 32] : List UInt8), a6] : List (List UInt8))) fun x20 x21 =>
  some (true, x20, x21)
def lg (F : Nat) (a2 : Int) (a3 : Int) (a4 : List UInt8) (a5 : List UInt8) (a6 : List UInt8) (a7 : List UInt8) (a8 : List UInt8) (a10 : Int) (a11 : List (List UInt8)) (a12 : Int) (a13 : Int) (a14 : Int) : Option (Bool × Int × Int × (List UInt8)) :=
bif !decide (IntKind.i64.wrap (Int.tdiv a10 100) = 2) then
  some (false, a2, a3, a8)
else
  jJ (jj F a7) fun x21 x22 =>
  bnd (mX F a10 a11 a12 a13 a14) fun x24 =>
  bif (decide (0 < x24)) && (decide (x24 < (x21.length : Int))) then
    mf (jN F a2 a3 a4 a5 a6 a7 a8 3) fun x28 x29 x30 =>
    some (true, x28, x29, x30)
  else
    jJ (je F a2 a3 a4 a5 a6 a7 a8 2 ([([77, 65, 73, 76, 32, 70, 82, 79, 77, 58, 60] : List UInt8), a4, ([62] : List UInt8)] : List (List UInt8))) fun x33 x34 =>
    some (true, x33, a3, x34)
def mU (F : Nat) (a2 : Int) (a3 : Int) (a4 : List UInt8) (a5 : List UInt8) (a6 : List UInt8) (a7 : List UInt8) (a8 : List UInt8) (a10 : Int) (a11 : List (List UInt8)) (a12 : Int) (a13 : Int) (a14 : Int) : Option (Bool × Int × (List UInt8)) :=
bif !decide (IntKind.i64.wrap (Int.tdiv a10 100) = 2) then
  some (false, a2, a8)
else
  jJ (je F a2 a3 a4 a5 a6 a7 a8 3 ([([82, 67, 80, 84, 32, 84, 79, 58, 60] : List UInt8), a5, ([62] : List UInt8)] : List (List UInt8))) fun x20 x21 =>
  some (true, x20, x21)
def mT (F : Nat) (a2 : Int) (a3 : Int) (a4 : List UInt8) (a5 : List UInt8) (a6 : List UInt8) (a7 : List UInt8) (a8 : List UInt8) (a10 : Int) (a11 : List (List UInt8)) (a12 : Int) (a13 : Int) (a14 : Int) : Option (Bool × Int × (List UInt8)) :=
bif !decide (IntKind.i64.wrap (Int.tdiv a10 100) = 2) then
  some (false, a2, a8)
else
  jJ (je F a2 a3 a4 a5 a6 a7 a8 4 ([([68, 65, 84, 65] : List UInt8)] : List (List UInt8))) fun x20 x21 =>
  some (true, x20, x21)
def mV (F : Nat) (a2 : Int) (a3 : Int) (a4 : List UInt8) (a5 : List UInt8) (a6 : List UInt8) (a7 : List UInt8) (a8 : List UInt8) (a10 : Int) (a11 : List (List UInt8)) (a12 : Int) (a13 : Int) (a14 : Int) : Option (Bool × Int × (List UInt8)) :=
bif !decide (a10 = 354) then
  some (false, a2, a8)
else
  jJ (jj F a7) fun x20 x21 =>
  grd (dn (a8.length + x20.length)) <|
  lt (a8 ++ x20) fun x25 =>
  some (true, 5, x25)
def mW (F : Nat) (a2 : Int) (a3 : Int) (a4 : List UInt8) (a5 : List UInt8) (a6 : List UInt8) (a7 : List UInt8) (a8 : List UInt8) (a10 : Int) (a11 : List (List UInt8)) (a12 : Int) (a13 : Int) (a14 : Int) : Option (Bool × Int × Int × (List UInt8)) :=
bif !decide (IntKind.i64.wrap (Int.tdiv a10 100) = 2) then
  some (false, a2, a3, a8)
else
  mf (jN F a2 a3 a4 a5 a6 a7 a8 1) fun x21 x22 x23 =>
  some (true, x21, x22, x23)
def ow (F : Nat) (a2 : Int) (a3 : Int) (a4 : List UInt8) (a5 : List UInt8) (a6 : List UInt8) (a7 : List UInt8) (a8 : List UInt8) (a10 : Int) (a11 : List (List UInt8)) (a12 : Int) (a13 : Int) (a14 : Int) : Option (Bool × Int) :=
some (true, 7)
def fE (F : Nat) : Option Unit :=
some ()
def cZ (F : Nat) (a4 : List UInt8) (a5 : List UInt8) (a6 : List UInt8) (a7 : List UInt8) (a10 : Int) (y74 : Bool) (y75 : Int) (y76 : Int) (y77 : List UInt8) : Option (Int × Int × (List UInt8)) :=
bif y74 then
  some (y75, y76, y77)
else
  bif (decide (500 ≤ a10)) && (decide (a10 ≤ 599)) then
    mf (jN F y75 y76 a4 a5 a6 a7 y77 3) fun x83 x84 x85 =>
    some (x83, x84, x85)
  else
    mf (jN F y75 y76 a4 a5 a6 a7 y77 2) fun x88 x89 x90 =>
    some (x88, x89, x90)
def mS (F : Nat) (a2 : Int) (a3 : Int) (a4 : List UInt8) (a5 : List UInt8) (a6 : List UInt8) (a7 : List UInt8) (a8 : List UInt8) (a10 : Int) (a11 : List (List UInt8)) (a12 : Int) (a13 : Int) (a14 : Int) : Option (Int × Int × (List UInt8)) :=
bif (decide (a2 < 0)) || (decide (7 ≤ a2)) then
  some (a2, a3, a8)
else
  bif decide (a10 = 421) then
    jJ (lD F a2 a3 a4 a5 a6 a7 a8) fun x22 x23 =>
    some (x22, x23, a8)
  else
    grd (ct a2 7) <|
    bif decide (a2 = 0) then
      bnd (fE F) fun _ =>
      mf (lh F 0 a3 a4 a5 a6 a7 a8 a10 a11 a12 a13 a14) fun x27 x28 x29 =>
      cZ F a4 a5 a6 a7 a10 x27 x28 a3 x29
    else
      bif decide (a2 = 1) then
        bnd (fE F) fun _ =>
        bnd4 (lg F 1 a3 a4 a5 a6 a7 a8 a10 a11 a12 a13 a14) fun x34 x35 x36 x37 =>
        cZ F a4 a5 a6 a7 a10 x34 x35 x36 x37
      else
        bif decide (a2 = 2) then
          bnd (fE F) fun _ =>
          mf (mU F 2 a3 a4 a5 a6 a7 a8 a10 a11 a12 a13 a14) fun x42 x43 x44 =>
          cZ F a4 a5 a6 a7 a10 x42 x43 a3 x44
        else
          bif decide (a2 = 3) then
            bnd (fE F) fun _ =>
            mf (mT F 3 a3 a4 a5 a6 a7 a8 a10 a11 a12 a13 a14) fun x49 x50 x51 =>
            cZ F a4 a5 a6 a7 a10 x49 x50 a3 x51
          else
            bif decide (a2 = 4) then
              bnd (fE F) fun _ =>
              mf (mV F 4 a3 a4 a5 a6 a7 a8 a10 a11 a12 a13 a14) fun x56 x57 x58 =>
              cZ F a4 a5 a6 a7 a10 x56 x57 a3 x58
            else
              bif decide (a2 = 5) then
                bnd (fE F) fun _ =>
                bnd4 (mW F 5 a3 a4 a5 a6 a7 a8 a10 a11 a12 a13 a14) fun x63 x64 x65 x66 =>
                cZ F a4 a5 a6 a7 a10 x63 x64 x65 x66
              else
                bnd (fE F) fun _ =>
                jJ (ow F 6 a3 a4 a5 a6 a7 a8 a10 a11 a12 a13 a14) fun x71 x72 =>
                cZ F a4 a5 a6 a7 a10 x71 x72 a3 a8
def mO (F : Nat) (a1 : Int) (a2 : Int) (a3 : List UInt8) (a4 : List UInt8) (a5 : List UInt8) (a6 : List UInt8) : Option Unit :=
grd (okS a6.length) <|
some ()
def jk (a3 : List UInt8) (a4 : List UInt8) (a5 : List UInt8) (a6 : List UInt8) (y48 : List UInt8) (y55 : Int) (y56 : Int) : Option (Int × Int × (List UInt8) × (List UInt8) × (List UInt8) × (List UInt8) × (List UInt8)) :=
some (y55, y56, a3, a4, a5, a6, y48)
def kb (F : Nat) (a3 : List UInt8) (a4 : List UInt8) (a5 : List UInt8) (a6 : List UInt8) (y46 : Int) (y47 : Int) (y48 : List UInt8) : Option (Int × Int × (List UInt8) × (List UInt8) × (List UInt8) × (List UInt8) × (List UInt8)) :=
bif !decide (y46 = 7) then
  jJ (lD F y46 y47 a3 a4 a5 a6 y48) fun x52 x53 =>
  jk a3 a4 a5 a6 y48 x52 x53
else
  jk a3 a4 a5 a6 y48 y46 y47
def kd (F : Nat) (a3 : List UInt8) (a4 : List UInt8) (a5 : List UInt8) (a6 : List UInt8) (x23 : List (Int × (List (List UInt8)) × Int × Int × Int)) (rec33 : (Int × Int × Int × (List UInt8)) → Option (Int × Int × (List UInt8) × (List UInt8) × (List UInt8) × (List UInt8) × (List UInt8))) (y28 : Int) (y29 : Int) (y30 : Int) (y31 : List UInt8) : Option (Int × Int × (List UInt8) × (List UInt8) × (List UInt8) × (List UInt8) × (List UInt8)) :=
bif decide (y28 < (x23.length : Int)) then
  grd (ct y28 x23.length) <|
  lt (at_ x23 y28) fun x37 =>
  mf (mS F y29 y30 a3 a4 a5 a6 y31 x37.1 x37.2.1 x37.2.2.1 x37.2.2.2.1 x37.2.2.2.2) fun x40 x41 x42 =>
  grd (okI (y28 + 1)) <|
  rec33 (y28 + 1, x40, x41, x42)
else
  kb F a3 a4 a5 a6 y29 y30 y31
def kc (F : Nat) (a3 : List UInt8) (a4 : List UInt8) (a5 : List UInt8) (a6 : List UInt8) (x23 : List (Int × (List (List UInt8)) × Int × Int × Int)) (n : Nat) : (Int × Int × Int × (List UInt8)) → Option (Int × Int × (List UInt8) × (List UInt8) × (List UInt8) × (List UInt8) × (List UInt8)) :=
  loop (fun rec x => kd F a3 a4 a5 a6 x23 rec x.1 x.2.1 x.2.2.1 x.2.2.2) n
def nQ (F : Nat) (a1 : Int) (a2 : Int) (a3 : List UInt8) (a4 : List UInt8) (a5 : List UInt8) (a6 : List UInt8) (a7 : List UInt8) : Option (Int × Int × (List UInt8) × (List UInt8) × (List UInt8) × (List UInt8) × (List UInt8)) :=
bnd (mO F a1 a2 a3 a4 a5 a6) fun _ =>
bnd (om F) fun _ =>
mf (mP F [] false a7) fun x23 x24 x25 =>
kc F a3 a4 a5 a6 x23 F (0, a1, a2, [])
end Go.Pv
