/-
  Texts in one (only what FeedOthers needs): EntAW, XmlBP, XmlBW, FdAP, FdAW, CivP, CivW, StpP, StpW, NumP, NumW, AnyP, AnyW, EntBP.
-/
import Derived.Test.YtkbfjepffpddfaaGreatDoorZFeedOthers2
import Derived.Test.YtkbfjepffpddfaaGreatDoorShelf
import Derived.Lib.ItoaNum
import Derived.Lib.IndexLaws
import Derived.Test.YtkbfjepffpddfaaGreatDoorChecked
import Derived.Lib.IndexAny
import Derived.Below
set_option linter.unusedVariables false
set_option linter.unusedSimpArgs false
set_option linter.unusedSectionVars false
namespace Go.Proofs.YtkbfjepffpddfaaGreatDoor
open Go.RowKit Go.Av Go.Pv
theorem zC : ∀ (args : Array Value) (w : World), (callFunc 29 args).run Tryz.prog w = .ok (.enter 29 args) w := fun _ _ => by kernel_rfl
theorem zB : ∀ (args : Array Value) (w : World), (callFunc 30 args).run Tryz.prog w = .ok (.enter 30 args) w := fun _ _ => by kernel_rfl
theorem zA : ∀ (args : Array Value) (w : World), (callFunc 44 args).run Tryz.prog w = .ok (.enter 44 args) w := fun _ _ => by kernel_rfl
set_option maxRecDepth 100000 in
set_option maxHeartbeats 1000000 in
theorem vE (F : Nat) (a1 : UInt8) (r2 : Bool) (H : mB F a1 = some r2) : ACalls Tryz.prog 29 [u8 a1] [] (Ret (B r2) []) := by
 unfold mB at H
 refine ap Tryz.func29 rfl rfl ?_;show AW _ _ 6 _ _ _;refine af <| aa ?_;show AR _ _ _ _ _ [0] _;refine za rfl <| ag <| af ?_;obtain ⟨x3, e4, H⟩ := bM H;refine aa ?_;show AR _ _ _ _ _ [0, 1, 2, 3] _;refine zm rfl <| am rfl rfl (aA rfl zA rfl (show ACalls _ _ _ [] (Ret (i64 x3) []) from by subst e4; exact eX ([9, 10, 13, 32] : List UInt8) a1) ?_);refine zS rfl (fB rfl rfl) <| za rfl <| ag <| aG ?_;obtain rfl := ak H;exact And.intro rfl (Exists.intro _ (Exists.intro _ ⟨aF rfl (.refl _), aB [] rfl, rfl, rfl⟩))
abbrev _root_.Go.Av.aj := @Bool.eq_false_or_eq_true
set_option maxRecDepth 100000 in
set_option maxHeartbeats 1000000 in
theorem oT (F : Nat) (a1 : List UInt8) (r2 : List UInt8) (H : mG F a1 = some r2) : ACalls Tryz.prog 18 [S a1] [] (Ret (S r2) []) := by
 unfold mG at H
 refine ap Tryz.func18 rfl rfl ?_;show AW _ _ 46 _ _ _;refine af <| aa ?_;show AR _ _ _ _ _ [0] _;refine za rfl <| ag <| af <| aa ?_;show AR _ _ _ _ _ [0] _;refine za rfl <| ag ?_
 refine uS 3 1 9 rfl fun t3 => ?_
 show AW _ _ _ _ _ ⟨(3, slE Enc.str [] (some t3)) :: _, _, _⟩;refine af <| aa ?_;show AR _ _ _ _ _ [0] _;refine za rfl <| ag <| bL (X := (List (List UInt8)) × Nat) (fun (y33, t34) => ⟨[(3, slE Enc.str y33 (some t34))], [], [.tok t34 9]⟩) (fun (y33, t34) => kh y33 = some r2) ?_ ?_
 ·refine af <| aa ?_;show AR _ _ _ _ _ [0] _;refine za rfl <| ag <| aU <| dk (X := Nat × (List (List UInt8)) × Nat × Int × Int) (fun (n9, y4, t5, y6, y7) => ⟨[(0, S a1), (3, slE Enc.str y4 (some t5)), (4, i64 y6), (5, i64 y7)], [], [.tok t5 9]⟩) (fun (n9, y4, t5, y6, y7) => eh F a1 n9 (y4, y6, y7) = some r2) (fun (n9, y4, t5, y6, y7) => n9) (F, [], t3, (-1), 0) H (be [0] (.cons (.refl _) (.cons (.refl _) (.cons (.refl _) (.cons (.refl _) (.nil _))))) rfl) ?_;rintro ⟨n9, y4, t5, y6, y7⟩ H;obtain ⟨n9, rfl, H⟩ := fC H;replace H : gH F a1 (eh F a1 n9) y4 y6 y7 = some r2 := H
  unfold gH at H
  refine af <| af <| aa ?_;show AR _ _ _ _ _ [0, 1, 2, 3] _;refine zm rfl <| zm rfl <| zS rfl (bt ai rfl) <| zS rfl (fL rfl rfl) <| ag <| ax rfl (fun c10 => ?_) (fun c10 => ?_)
  ·replace H := aX c10 H;refine aC <| bL (X := (List (List UInt8)) × Nat × Int) (fun (y28, t29, y30) => ⟨[(0, S a1), (3, slE Enc.str y28 (some t29)), (4, i64 y30), (5, i64 y7)], [], [.tok t29 9]⟩) (fun (y28, t29, y30) => gG y7 (eh F a1 n9) y28 y30 = some r2) ?_ ?_
   ·refine aU <| af ?_;obtain ⟨g12, H⟩ := cN H;obtain ⟨x13, e14, H⟩ := bM H;obtain ⟨x15, e16, H⟩ := fM H;refine aa ?_;show AR _ _ _ _ _ [0, 1, 2, 3, 4, 5, 6, 7, 8, 9, 10] _;refine zm rfl <| zm rfl <| zS rfl (bt ai rfl) <| zS rfl (bJ rfl rfl) <| zm rfl <| aW (l := [10]) 22 (B ((decide (y7 = (a1.length : Int))) || x15)) (fun K => ?_) ?_
    ·rcases aj (decide (y7 = (a1.length : Int))) with h11 | h11
     ·refine zF h11 rfl <| zF h11 rfl <| zF h11 rfl <| zF h11 rfl <| zS rfl (aD (av := .v _) rfl h11 rfl) ?_;exact K _ 4 _ (ay (jA h11)) rfl rfl
     ·refine zM h11 rfl <| zM h11 rfl <| zU h11 rfl (bo ai rfl rfl (g12 (nf h11)) e14) <| zT h11 rfl (aA rfl zC rfl (vE F x13 x15 (e16 (nf h11))) ?_);refine zS rfl (aE (av := .v _) rfl h11 rfl) ?_;exact K _ 4 _ (ay (jB h11)) rfl rfl
    refine za rfl <| ag <| aU <| af <| aa ?_;show AR _ _ _ _ _ [0, 1, 2, 3, 4, 5, 6] _;refine zm rfl <| zS rfl (bB rfl) <| zm rfl <| aW (l := [6]) 29 (B ((!((decide (y7 = (a1.length : Int))) || x15)) && (decide (y6 < 0)))) (fun K => ?_) ?_
    ·rcases aj (!((decide (y7 = (a1.length : Int))) || x15)) with h17 | h17
     ·refine zM h17 rfl <| zU h17 rfl (cd rfl rfl) <| zS rfl (aD (av := .v _) rfl h17 rfl) ?_;exact K _ 2 _ (ay (cz h17)) rfl rfl
     ·refine zF h17 rfl <| zF h17 rfl <| zS rfl (aE (av := .v _) rfl h17 rfl) ?_;exact K _ 2 _ (ay (cA h17)) rfl rfl
    refine za rfl <| ag <| ax rfl (fun c18 => ?_) (fun c18 => ?_)
    ·replace H := aX c18 H;refine aa ?_;show AR _ _ _ _ _ [0, 1] _;refine zm rfl <| za rfl <| ag ?_;exact Exists.intro (y4, t5, y7) ⟨H, be [0] (.cons (.refl _) (.cons (.refl _) (.cons (.refl _) (.cons (.refl _) (.nil _))))) rfl⟩
    ·replace H := aY c18 H;refine af <| aa ?_;show AR _ _ _ _ _ [0, 1, 2, 3, 4, 5] _;refine zm rfl <| zm rfl <| aW (l := [5]) 36 (B (((decide (y7 = (a1.length : Int))) || x15) && (decide (0 ≤ y6)))) (fun K => ?_) ?_
     ·rcases aj ((decide (y7 = (a1.length : Int))) || x15) with h19 | h19
      ·refine zM h19 rfl <| zU h19 rfl (fB rfl rfl) <| zS rfl (aD (av := .v _) rfl h19 rfl) ?_;exact K _ 2 _ (ay (cz h19)) rfl rfl
      ·refine zF h19 rfl <| zF h19 rfl <| zS rfl (aE (av := .v _) rfl h19 rfl) ?_;exact K _ 2 _ (ay (cA h19)) rfl rfl
     refine za rfl <| ag <| ax rfl (fun c20 => ?_) (fun c20 => ?_)
     ·replace H := aX c20 H;obtain ⟨g21, H⟩ := aM H;obtain ⟨x22, e23, H⟩ := bM H;obtain ⟨g25, H⟩ := aM H;obtain ⟨x26, e27, H⟩ := bM H;refine aa ?_;show AR _ _ _ _ _ [0, 1, 2, 3, 4, 5, 6, 7, 8] _;refine zS rfl (ah (av := slE _ _ _) rfl) <| zm rfl <| zm rfl <| zm rfl <| zS rfl (qG ai rfl rfl rfl g21 e23) <| zR rfl (cO (E := Enc.str) (bytes := 16) (xs := [.tmp 41]) (l := ([x22] : List (List UInt8))) au (by kernel_rfl) rfl rfl (by decide) rfl rfl) <| zX rfl (kr (E := Enc.str) (bytes := 16) 0 au au rfl (by kernel_rfl) rfl rfl rfl rfl g25 e27) ?_;rintro _ _ ⟨t24, rfl, rfl⟩;refine zS rfl (aH (av := slE _ _ _) rfl) <| za rfl <| ag ?_;exact Exists.intro (x26, t24, (-1)) ⟨H, be [0] (.cons (.refl _) (.cons (.refl _) (.cons (.refl _) (.cons (.refl _) (.nil _))))) rfl⟩
     ·replace H := aY c20 H;refine aC ?_;exact Exists.intro (y4, t5, y6) ⟨H, be [0] (.cons (.refl _) (.cons (.refl _) (.cons (.refl _) (.cons (.refl _) (.nil _))))) rfl⟩
   rintro ⟨y28, t29, y30⟩ H;replace H : gG y7 (eh F a1 n9) y28 y30 = some r2 := H
   unfold gG at H
   obtain ⟨g32, H⟩ := aM H;refine aa ?_;show AR _ _ _ _ _ [0, 1, 2] _;refine zm rfl <| zS rfl (di rfl rfl g32) <| za rfl <| ag ?_;exact Exists.intro (n9, y28, t29, y30, y7 + 1) ⟨H, Nat.lt_succ_self _, be [0] (.cons (.refl _) (.cons (.refl _) (.cons (.refl _) (.cons (.refl _) (.nil _))))) rfl⟩
  ·replace H := aY c10 H;refine cB ?_;exact Exists.intro (y4, t5) ⟨H, be [0] (.cons (.refl _) (.nil _)) rfl⟩
 rintro ⟨y33, t34⟩ H;replace H : kh y33 = some r2 := H
 unfold kh at H
 refine af ?_;obtain ⟨g36, H⟩ := aM H;obtain ⟨x37, e38, H⟩ := bM H;refine aa ?_;show AR _ _ _ _ _ [0, 1, 2] _;refine zS rfl (ah (av := slE _ _ _) rfl) <| am rfl rfl (aA rfl zB rfl (show ACalls _ _ _ [] (Ret (S x37) []) from by subst e38; exact pp y33 ([32] : List UInt8) (some t34) (pI g36).1 (pI g36).2) ?_);refine za rfl <| ag <| aG ?_;obtain rfl := ak H;exact And.intro rfl (Exists.intro _ (Exists.intro _ ⟨aF rfl (.refl _), aB [] rfl, rfl, rfl⟩))
set_option maxRecDepth 100000 in
set_option maxHeartbeats 1000000 in
theorem pD (F : Nat) (a1 : Int) (a2 : Int) (a3 : Int) (r4 : Bool) (H : ml F a1 a2 a3 = some r4) : ACalls Tryz.prog 92 [i64 a1, i64 a2, i64 a3] [] (Ret (B r4) []) := by
 unfold ml at H
 refine ap Tryz.func92 rfl rfl ?_;show AW _ _ 15 _ _ _;refine af <| aa ?_;show AR _ _ _ _ _ [0] _;refine za rfl <| ag <| af <| aa ?_;show AR _ _ _ _ _ [0, 1, 2, 3, 4, 5, 6, 7, 8] _;refine zm rfl <| zm rfl <| zS rfl (fB rfl rfl) <| zm rfl <| aW (l := [8]) 14 (B ((decide (a2 ≤ a1)) && (decide (a1 ≤ a3)))) (fun K => ?_) ?_
 ·rcases aj (decide (a2 ≤ a1)) with h5 | h5
  ·refine zM h5 rfl <| zM h5 rfl <| zU h5 rfl (fL rfl rfl) <| zS rfl (aD (av := .v _) rfl h5 rfl) ?_;exact K _ 3 _ (ay (cz h5)) rfl rfl
  ·refine zF h5 rfl <| zF h5 rfl <| zF h5 rfl <| zS rfl (aE (av := .v _) rfl h5 rfl) ?_;exact K _ 3 _ (ay (cA h5)) rfl rfl
 refine za rfl <| ag <| aG ?_;obtain rfl := ak H;exact And.intro rfl (Exists.intro _ (Exists.intro _ ⟨aF rfl (.refl _), aB [] rfl, rfl, rfl⟩))
end Go.Proofs.YtkbfjepffpddfaaGreatDoor
namespace Go.Pv
def jQ : Option Int :=
some (-1)
def hO (a1 : List UInt8) (a2 : UInt8) (rec6 : Int → Option Int) (y5 : Int) : Option Int :=
bif decide (0 ≤ y5) then
  grd (dq y5 a1.length) <|
  lt (at_ a1 y5) fun x10 =>
  bif decide (x10 = a2) then
    some y5
  else
    grd (okI (y5 - 1)) <|
    rec6 (y5 - 1)
else
  jQ
def hM (a1 : List UInt8) (a2 : UInt8) (n : Nat) : Int → Option Int :=
  loop (fun rec x => hO a1 a2 rec x) n
def mM (F : Nat) (a1 : List UInt8) (a2 : UInt8) : Option Int :=
grd (okI ((a1.length : Int) - 1)) <|
hM a1 a2 F ((a1.length : Int) - 1)
def gK (F : Nat) (a1 : List UInt8) (a2 : UInt8) : Option Int :=
bnd (mM F a1 a2) fun x4 =>
some x4
def nL (F : Nat) (a1 : List UInt8) : Option ((List UInt8)) :=
bnd (gK F a1 58) fun x3 =>
grd (okI (x3 + 1)) <|
grd (kF (x3 + 1) a1.length) <|
lt (cV a1 (x3 + 1)) fun x7 =>
some x7
end Go.Pv
namespace Go.Proofs.YtkbfjepffpddfaaGreatDoor
open Go.RowKit Go.Av Go.Pv
theorem zx : ∀ (args : Array Value) (w : World), (callFunc 57 args).run Tryz.prog w = .ok (.enter 57 args) w := fun _ _ => by kernel_rfl
theorem zq : ∀ (args : Array Value) (w : World), (callFunc 67 args).run Tryz.prog w = .ok (.enter 67 args) w := fun _ _ => by kernel_rfl
set_option maxRecDepth 100000 in
set_option maxHeartbeats 1000000 in
theorem uA (F : Nat) (a1 : List UInt8) (a2 : UInt8) (r3 : Int) (H : mM F a1 a2 = some r3) : ACalls Tryz.prog 67 [S a1, u8 a2] [] (Ret (i64 r3) []) := by
 unfold mM at H
 refine ap Tryz.func67 rfl rfl ?_;show AW _ _ 19 _ _ _;refine af <| aa ?_;show AR _ _ _ _ _ [0] _;refine za rfl <| ag <| bL (X := Unit) (fun _ => ⟨[], [], []⟩) (fun _ => jQ = some r3) ?_ ?_
 ·refine af ?_;obtain ⟨g4, H⟩ := aM H;refine aa ?_;show AR _ _ _ _ _ [0, 1, 2, 3] _;refine zm rfl <| zS rfl (bt ai rfl) <| zS rfl (lP rfl rfl g4) <| za rfl <| ag <| aU <| dk (X := Nat × Int) (fun (n7, y5) => ⟨[(0, S a1), (1, u8 a2), (5, i64 y5)], [], []⟩) (fun (n7, y5) => hM a1 a2 n7 y5 = some r3) (fun (n7, y5) => n7) (F, (a1.length : Int) - 1) H (be [] (.cons (.refl _) (.cons (.refl _) (.cons (.refl _) (.nil _)))) rfl) ?_;rintro ⟨n7, y5⟩ H;obtain ⟨n7, rfl, H⟩ := fC H;replace H : hO a1 a2 (hM a1 a2 n7) y5 = some r3 := H
  unfold hO at H
  refine af <| af <| aa ?_;show AR _ _ _ _ _ [0, 1] _;refine zm rfl <| zS rfl (fB rfl rfl) <| ag <| ax rfl (fun c8 => ?_) (fun c8 => ?_)
  ·replace H := aX c8 H;refine aC <| af <| aU <| af ?_;obtain ⟨g9, H⟩ := aM H;obtain ⟨x10, e11, H⟩ := bM H;refine aa ?_;show AR _ _ _ _ _ [0, 1, 2, 3, 4] _;refine zm rfl <| zm rfl <| zS rfl (bo ai rfl rfl g9 e11) <| zm rfl <| zS rfl (jD (a := x10) (b := a2) rfl rfl) <| ag <| ax rfl (fun c12 => ?_) (fun c12 => ?_)
   ·replace H := aX c12 H;refine af <| aa ?_;show AR _ _ _ _ _ [0, 1] _;refine zm rfl <| za rfl <| ag <| aG ?_;obtain rfl := ak H;exact And.intro rfl (Exists.intro _ (Exists.intro _ ⟨aF rfl (.refl _), aB [] rfl, rfl, rfl⟩))
   ·replace H := aY c12 H;refine aC ?_;obtain ⟨g13, H⟩ := aM H;refine aa ?_;show AR _ _ _ _ _ [0, 1, 2] _;refine zm rfl <| zS rfl (lP rfl rfl g13) <| za rfl <| ag ?_;exact Exists.intro (n7, y5 - 1) ⟨H, Nat.lt_succ_self _, be [] (.cons (.refl _) (.cons (.refl _) (.cons (.refl _) (.nil _)))) rfl⟩
  ·replace H := aY c8 H;refine cB ?_;exact Exists.intro () ⟨H, be [] (.nil _) rfl⟩
 rintro _ H;replace H : jQ = some r3 := H
 unfold jQ at H
 refine af <| aa ?_;show AR _ _ _ _ _ [0] _;refine za rfl <| ag <| aG ?_;obtain rfl := ak H;exact And.intro rfl (Exists.intro _ (Exists.intro _ ⟨aF rfl (.refl _), aB [] rfl, rfl, rfl⟩))
set_option maxRecDepth 100000 in
set_option maxHeartbeats 1000000 in
theorem oK (F : Nat) (a1 : List UInt8) (a2 : UInt8) (r3 : Int) (H : gK F a1 a2 = some r3) : ACalls Tryz.prog 57 [S a1, u8 a2] [] (Ret (i64 r3) []) := by
 unfold gK at H
 refine ap Tryz.func57 rfl rfl ?_;show AW _ _ 8 _ _ _;refine af <| aa ?_;show AR _ _ _ _ _ [0] _;refine za rfl <| ag <| af ?_;obtain ⟨x4, e5, H⟩ := bW H;refine aa ?_;show AR _ _ _ _ _ [0, 1, 2, 3] _;refine zm rfl <| zm rfl <| am rfl rfl (aA rfl zq rfl (uA F a1 a2 x4 e5) ?_);refine za rfl <| ag <| aG ?_;obtain rfl := ak H;exact And.intro rfl (Exists.intro _ (Exists.intro _ ⟨aF rfl (.refl _), aB [] rfl, rfl, rfl⟩))
set_option maxRecDepth 100000 in
set_option maxHeartbeats 1000000 in
theorem wX (F : Nat) (a1 : List UInt8) (r2 : List UInt8) (H : nL F a1 = some r2) : ACalls Tryz.prog 42 [S a1] [] (Ret (S r2) []) := by
 unfold nL at H
 refine ap Tryz.func42 rfl rfl ?_;show AW _ _ 8 _ _ _;refine af <| aa ?_;show AR _ _ _ _ _ [0] _;refine za rfl <| ag <| af ?_;obtain ⟨x3, e4, H⟩ := bW H;obtain ⟨g5, H⟩ := aM H;obtain ⟨g6, H⟩ := aM H;obtain ⟨x7, e8, H⟩ := bM H;refine aa ?_;show AR _ _ _ _ _ [0, 1, 2, 3, 4, 5] _;refine zm rfl <| zm rfl <| am rfl rfl (aA rfl zx rfl (oK F a1 58 x3 e4) ?_);refine zS rfl (di rfl rfl g5) <| zS rfl (eG ai rfl rfl g6 e8) <| za rfl <| ag <| aG ?_;obtain rfl := ak H;exact And.intro rfl (Exists.intro _ (Exists.intro _ ⟨aF rfl (.refl _), aB [] rfl, rfl, rfl⟩))
end Go.Proofs.YtkbfjepffpddfaaGreatDoor
namespace Go.Pv
def gz (a1 : List (Int × (List UInt8) × (List UInt8) × List ((List UInt8) × List UInt8))) (y41 : List (List UInt8)) : Option Bool :=
some ((decide ((y41.length : Int) = 0)) && (decide (0 < (a1.length : Int))))
def dC (y7 : Int) (rec8 : ((List (List UInt8)) × Int) → Option Bool) (y37 : List (List UInt8)) : Option Bool :=
grd (okI (y7 + 1)) <|
rec8 (y37, y7 + 1)
def gA (a1 : List (Int × (List UInt8) × (List UInt8) × List ((List UInt8) × List UInt8))) (rec8 : ((List (List UInt8)) × Int) → Option Bool) (y6 : List (List UInt8)) (y7 : Int) : Option Bool :=
bif decide (y7 < (a1.length : Int)) then
  grd (dq y7 a1.length) <|
  lt (at_ a1 y7) fun x12 =>
  bif (decide (0 < y7)) && (decide ((y6.length : Int) = 0)) then
    some false
  else
    bif decide (x12.1 = 0) then
      grd (dU (y6.length + ([x12.2.1] : List (List UInt8)).length)) <|
      lt (y6 ++ ([x12.2.1] : List (List UInt8))) fun x19 =>
      dC y7 rec8 x19
    else
      fv ((decide (x12.1 = 1)) && (decide (0 < (y6.length : Int)))) (okI ((y6.length : Int) - 1)) <|
      fv ((decide (x12.1 = 1)) && (decide (0 < (y6.length : Int)))) (dq ((y6.length : Int) - 1) y6.length) <|
      fv ((decide (x12.1 = 1)) && (decide (0 < (y6.length : Int)))) (dq ((y6.length : Int) - 1) y6.length) <|
      lt (at_ y6 ((y6.length : Int) - 1)) fun x27 =>
      bif ((decide (x12.1 = 1)) && (decide (0 < (y6.length : Int)))) && (decide (x27 = x12.2.1)) then
        grd (okI ((y6.length : Int) - 1)) <|
        grd (kF ((y6.length : Int) - 1) y6.length) <|
        lt (to_ y6 ((y6.length : Int) - 1)) fun x32 =>
        dC y7 rec8 x32
      else
        bif (!decide (x12.1 = 2)) || (decide ((y6.length : Int) = 0)) then
          some false
        else
          dC y7 rec8 y6
else
  gz a1 y6
def dD (a1 : List (Int × (List UInt8) × (List UInt8) × List ((List UInt8) × List UInt8))) (n : Nat) : ((List (List UInt8)) × Int) → Option Bool :=
  loop (fun rec x => gA a1 rec x.1 x.2) n
def ke (F : Nat) (a1 : List (Int × (List UInt8) × (List UInt8) × List ((List UInt8) × List UInt8))) : Option Bool :=
dD a1 F (([] : List (List UInt8)), 0)
def ik (F : Nat) (y28 : List UInt8) : Option ((List UInt8)) :=
grd (okW y28 []) <|
bnd (mG F y28) fun x32 =>
some x32
def gl (y6 : Int) (rec10 : (Int × (List UInt8)) → Option ((List UInt8))) (y23 : List UInt8) : Option ((List UInt8)) :=
grd (okI (y6 + 1)) <|
rec10 (y6 + 1, y23)
def im (F : Nat) (a1 : List (Int × (List UInt8) × (List UInt8) × List ((List UInt8) × List UInt8))) (rec10 : (Int × (List UInt8)) → Option ((List UInt8))) (y6 : Int) (y8 : List UInt8) : Option ((List UInt8)) :=
bif decide (y6 < (a1.length : Int)) then
  grd (dq y6 a1.length) <|
  lt (at_ a1 y6) fun x14 =>
  bif decide (x14.1 = 2) then
    grd (okW y8 x14.2.2.1) <|
    lt (y8 ++ x14.2.2.1) fun x19 =>
    gl y6 rec10 x19
  else
    gl y6 rec10 y8
else
  ik F y8
def eY (F : Nat) (a1 : List (Int × (List UInt8) × (List UInt8) × List ((List UInt8) × List UInt8))) (n : Nat) : (Int × (List UInt8)) → Option ((List UInt8)) :=
  loop (fun rec x => im F a1 rec x.1 x.2) n
def fT (F : Nat) (a1 : List (Int × (List UInt8) × (List UInt8) × List ((List UInt8) × List UInt8))) : Option ((List UInt8)) :=
eY F a1 F (0, [])
def fj (F : Nat) (a1 : List (Int × (List UInt8) × (List UInt8) × List ((List UInt8) × List UInt8))) : Option ((List UInt8)) :=
grd (dq 0 a1.length) <|
lt (at_ a1 0) fun x5 =>
bnd (nL F x5.2.1) fun x7 =>
some x7
def kO : Option ((List UInt8) × Bool) :=
some (([] : List UInt8), false)
def jp (a3 : List UInt8) (x7 : Int × (List UInt8) × (List UInt8) × List ((List UInt8) × List UInt8)) (rec10 : Int → Option ((List UInt8) × Bool)) (y9 : Int) : Option ((List UInt8) × Bool) :=
bif decide (y9 < (x7.2.2.2.length : Int)) then
  grd (dq y9 x7.2.2.2.length) <|
  lt (at_ x7.2.2.2 y9) fun x14 =>
  bif decide (x14.1 = a3) then
    some (x14.2, true)
  else
    grd (okI (y9 + 1)) <|
    rec10 (y9 + 1)
else
  kO
def jo (a3 : List UInt8) (x7 : Int × (List UInt8) × (List UInt8) × List ((List UInt8) × List UInt8)) (n : Nat) : Int → Option ((List UInt8) × Bool) :=
  loop (fun rec x => jp a3 x7 rec x) n
def kV (F : Nat) (a1 : List (Int × (List UInt8) × (List UInt8) × List ((List UInt8) × List UInt8))) (a3 : List UInt8) : Option ((List UInt8) × Bool) :=
grd (dq 0 a1.length) <|
lt (at_ a1 0) fun x7 =>
jo a3 x7 F 0
def rt (F : Nat) (a1 : List (Int × (List UInt8) × (List UInt8) × List ((List UInt8) × List UInt8))) : Option ((Option Bool) × Bool) :=
bnd (fj F a1) fun x5 =>
bif decide (x5 = ([114, 115, 115] : List UInt8)) then
  some ((some true), true)
else
  bif decide (x5 = ([102, 101, 101, 100] : List UInt8)) then
    some ((some false), true)
  else
    some (none, false)
def cU {σ : Type} (y9 : Int) (rec12 : (Int × Int × Int × σ) → Option σ) (y25 : Int) (y26 : Int) (y27 : σ) : Option σ :=
grd (okI (y9 + 1)) <|
rec12 (y25, y26, y9 + 1, y27)
def ie {σ : Type} (a2 : List (Int × (List UInt8) × (List UInt8) × List ((List UInt8) × List UInt8))) (k : σ → (List (Int × (List UInt8) × (List UInt8) × List ((List UInt8) × List UInt8))) → Option (σ × Bool)) (rec12 : (Int × Int × Int × σ) → Option σ) (y7 : Int) (y8 : Int) (y9 : Int) (y10 : σ) : Option σ :=
bif decide (y9 < (a2.length : Int)) then
  grd (dq y9 a2.length) <|
  lt (at_ a2 y9) fun x16 =>
  bif decide (x16.1 = 0) then
    grd (okI (y7 + 1)) <|
    bif decide (y7 + 1 = 2) then
      cU y9 rec12 (y7 + 1) y9 y10
    else
      cU y9 rec12 (y7 + 1) y8 y10
  else
    bif decide (x16.1 = 1) then
      grd (okI (y7 - 1)) <|
      bif decide (y7 - 1 = 1) then
        grd (okI (y9 + 1)) <|
        grd (okI (y9 + 1)) <|
        grd (re y8 (y9 + 1) a2.length) <|
        lt (sub a2 y8 (y9 + 1)) fun x28 =>
        fy (k y10 x28) fun x30 x31 =>
        bif !x31 then
          some x30
        else
          cU y9 rec12 (y7 - 1) y8 x30
      else
        cU y9 rec12 (y7 - 1) y8 y10
    else
      cU y9 rec12 y7 y8 y10
else
  some y10
def eb {σ : Type} (a2 : List (Int × (List UInt8) × (List UInt8) × List ((List UInt8) × List UInt8))) (k : σ → (List (Int × (List UInt8) × (List UInt8) × List ((List UInt8) × List UInt8))) → Option (σ × Bool)) (n : Nat) : (Int × Int × Int × σ) → Option σ :=
  loop (fun rec x => ie a2 k rec x.1 x.2.1 x.2.2.1 x.2.2.2) n
def fi (F : Nat) {σ : Type} (k : σ → (List (Int × (List UInt8) × (List UInt8) × List ((List UInt8) × List UInt8))) → Option (σ × Bool)) (st0 : σ) (a2 : List (Int × (List UInt8) × (List UInt8) × List ((List UInt8) × List UInt8))) : Option σ :=
eb a2 k F (0, 0, 0, st0)
def dG (F : Nat) (a1 : List (Int × (List UInt8) × (List UInt8) × List ((List UInt8) × List UInt8))) : Option Unit :=
some ()
def kd (F : Nat) (a1 : List (Int × (List UInt8) × (List UInt8) × List ((List UInt8) × List UInt8))) (a4 : List (List UInt8)) : Option Bool :=
grd (pb a4 ([124] : List UInt8)) <|
lt (Go.Av.Str.join ([124] : List UInt8) a4) fun x7 =>
grd (dU (([124] : List UInt8).length + x7.length)) <|
lt (([124] : List UInt8) ++ x7) fun x10 =>
grd (dU (x10.length + ([124] : List UInt8).length)) <|
lt (x10 ++ ([124] : List UInt8)) fun x13 =>
bnd (fj F a1) fun x15 =>
grd (dU (([124] : List UInt8).length + x15.length)) <|
lt (([124] : List UInt8) ++ x15) fun x18 =>
grd (dU (x18.length + ([124] : List UInt8).length)) <|
lt (x18 ++ ([124] : List UInt8)) fun x21 =>
grd (okS x13.length) <|
lt (Go.Lib.contains x13 x21) fun x24 =>
lE x24 (fj F a1) fun x27 =>
fv x24 (okS x27.length) <|
lt (Go.Lib.contains x27 ([124] : List UInt8)) fun x30 =>
some (x24 && (!x30))
def mA (F : Nat) (a1 : List (Int × (List UInt8) × (List UInt8) × List ((List UInt8) × List UInt8))) : Option Bool :=
bnd (fj F a1) fun x4 =>
some (decide (x4 = ([99, 104, 97, 110, 110, 101, 108] : List UInt8)))
def kf (F : Nat) (a1 : List (Int × (List UInt8) × (List UInt8) × List ((List UInt8) × List UInt8))) : Option Bool :=
fy (kV F a1 ([114, 101, 108] : List UInt8)) fun x4 x5 =>
bnd (fj F a1) fun x7 =>
some ((decide (x7 = ([108, 105, 110, 107] : List UInt8))) && ((!x5) || (decide (x4 = ([97, 108, 116, 101, 114, 110, 97, 116, 101] : List UInt8)))))
def ig (y25 : Bool) (y26 : List (Int × (List UInt8) × (List UInt8) × List ((List UInt8) × List UInt8))) : Option ((List (Int × (List UInt8) × (List UInt8) × List ((List UInt8) × List UInt8))) × Bool) :=
some (([] : List (Int × (List UInt8) × (List UInt8) × List ((List UInt8) × List UInt8))), false)
def gi (F : Nat) (a4 : List (List UInt8)) (y11 : Bool) (y12 : List (Int × (List UInt8) × (List UInt8) × List ((List UInt8) × List UInt8))) (z13 : Nat) (x15 : List (Int × (List UInt8) × (List UInt8) × List ((List UInt8) × List UInt8))) : Option ((Bool × (List (Int × (List UInt8) × (List UInt8) × List ((List UInt8) × List UInt8))) × Nat) × Bool) :=
grd (decide (z13 = 0)) <|
bnd (kd F x15 a4) fun x16 =>
bif x16 then
  some ((true, x15, 1), false)
else
  some ((y11, y12, 0), true)
def lj (F : Nat) (a1 : List (Int × (List UInt8) × (List UInt8) × List ((List UInt8) × List UInt8))) (a4 : List (List UInt8)) : Option ((List (Int × (List UInt8) × (List UInt8) × List ((List UInt8) × List UInt8))) × Bool) :=
bnd (dG F a1) fun _ =>
bnd (fi F (fun s x => gi F a4 s.1 s.2.1 s.2.2 x) (false, ([] : List (Int × (List UInt8) × (List UInt8) × List ((List UInt8) × List UInt8))), 0) a1) fun x20 =>
bif decide (x20.2.2 = 0) then
  ig x20.1 x20.2.1
else
  bif decide (x20.2.2 = 1) then
    some (x20.2.1, x20.1)
  else
    none
def ii (y23 : Bool) (y24 : List (Int × (List UInt8) × (List UInt8) × List ((List UInt8) × List UInt8))) : Option ((List (Int × (List UInt8) × (List UInt8) × List ((List UInt8) × List UInt8))) × Bool) :=
some (([] : List (Int × (List UInt8) × (List UInt8) × List ((List UInt8) × List UInt8))), false)
def gj (F : Nat) (y9 : Bool) (y10 : List (Int × (List UInt8) × (List UInt8) × List ((List UInt8) × List UInt8))) (z11 : Nat) (x13 : List (Int × (List UInt8) × (List UInt8) × List ((List UInt8) × List UInt8))) : Option ((Bool × (List (Int × (List UInt8) × (List UInt8) × List ((List UInt8) × List UInt8))) × Nat) × Bool) :=
grd (decide (z11 = 0)) <|
bnd (mA F x13) fun x14 =>
bif x14 then
  some ((true, x13, 1), false)
else
  some ((y9, y10, 0), true)
def lk (F : Nat) (a1 : List (Int × (List UInt8) × (List UInt8) × List ((List UInt8) × List UInt8))) : Option ((List (Int × (List UInt8) × (List UInt8) × List ((List UInt8) × List UInt8))) × Bool) :=
bnd (dG F a1) fun _ =>
bnd (fi F (fun s x => gj F s.1 s.2.1 s.2.2 x) (false, ([] : List (Int × (List UInt8) × (List UInt8) × List ((List UInt8) × List UInt8))), 0) a1) fun x18 =>
bif decide (x18.2.2 = 0) then
  ii x18.1 x18.2.1
else
  bif decide (x18.2.2 = 1) then
    some (x18.2.1, x18.1)
  else
    none
def ij (y23 : Bool) (y24 : List (Int × (List UInt8) × (List UInt8) × List ((List UInt8) × List UInt8))) : Option ((List (Int × (List UInt8) × (List UInt8) × List ((List UInt8) × List UInt8))) × Bool) :=
some (([] : List (Int × (List UInt8) × (List UInt8) × List ((List UInt8) × List UInt8))), false)
def gk (F : Nat) (y9 : Bool) (y10 : List (Int × (List UInt8) × (List UInt8) × List ((List UInt8) × List UInt8))) (z11 : Nat) (x13 : List (Int × (List UInt8) × (List UInt8) × List ((List UInt8) × List UInt8))) : Option ((Bool × (List (Int × (List UInt8) × (List UInt8) × List ((List UInt8) × List UInt8))) × Nat) × Bool) :=
grd (decide (z11 = 0)) <|
bnd (kf F x13) fun x14 =>
bif x14 then
  some ((true, x13, 1), false)
else
  some ((y9, y10, 0), true)
def ll (F : Nat) (a1 : List (Int × (List UInt8) × (List UInt8) × List ((List UInt8) × List UInt8))) : Option ((List (Int × (List UInt8) × (List UInt8) × List ((List UInt8) × List UInt8))) × Bool) :=
bnd (dG F a1) fun _ =>
bnd (fi F (fun s x => gk F s.1 s.2.1 s.2.2 x) (false, ([] : List (Int × (List UInt8) × (List UInt8) × List ((List UInt8) × List UInt8))), 0) a1) fun x18 =>
bif decide (x18.2.2 = 0) then
  ij x18.1 x18.2.1
else
  bif decide (x18.2.2 = 1) then
    some (x18.2.1, x18.1)
  else
    none
def cX (F : Nat) (a1 : List (Int × (List UInt8) × (List UInt8) × List ((List UInt8) × List UInt8))) (a3 : List (List UInt8)) : Option ((List UInt8)) :=
fy (lj F a1 a3) fun x6 x7 =>
bnd (fT F x6) fun x9 =>
some x9
end Go.Pv
namespace Go.Proofs.YtkbfjepffpddfaaGreatDoor
open Go.RowKit Go.Av Go.Pv
theorem en13_fda : ∀ (args : Array Value) (w : World), (callFunc 13 args).run Tryz.prog w = .ok (.enter 13 args) w := fun _ _ => by kernel_rfl
theorem en17_fda : ∀ (args : Array Value) (w : World), (callFunc 17 args).run Tryz.prog w = .ok (.enter 17 args) w := fun _ _ => by kernel_rfl
theorem en18_fda : ∀ (args : Array Value) (w : World), (callFunc 18 args).run Tryz.prog w = .ok (.enter 18 args) w := fun _ _ => by kernel_rfl
theorem en19_fda : ∀ (args : Array Value) (w : World), (callFunc 19 args).run Tryz.prog w = .ok (.enter 19 args) w := fun _ _ => by kernel_rfl
theorem sg : ∀ (args : Array Value) (w : World), (callFunc 26 args).run Tryz.prog w = .ok (.enter 26 args) w := fun _ _ => by kernel_rfl
theorem nU : ∀ (args : Array Value) (w : World), (callFunc 27 args).run Tryz.prog w = .ok (.enter 27 args) w := fun _ _ => by kernel_rfl
theorem en30_fda : ∀ (args : Array Value) (w : World), (callFunc 30 args).run Tryz.prog w = .ok (.enter 30 args) w := fun _ _ => by kernel_rfl
theorem en38_fda : ∀ (args : Array Value) (w : World), (callFunc 38 args).run Tryz.prog w = .ok (.enter 38 args) w := fun _ _ => by kernel_rfl
theorem en39_fda : ∀ (args : Array Value) (w : World), (callFunc 39 args).run Tryz.prog w = .ok (.enter 39 args) w := fun _ _ => by kernel_rfl
theorem wJ : ∀ (args : Array Value) (w : World), (callFunc 40 args).run Tryz.prog w = .ok (.enter 40 args) w := fun _ _ => by kernel_rfl
theorem sf : ∀ (args : Array Value) (w : World), (callFunc 41 args).run Tryz.prog w = .ok (.enter 41 args) w := fun _ _ => by kernel_rfl
theorem en42_fda : ∀ (args : Array Value) (w : World), (callFunc 42 args).run Tryz.prog w = .ok (.enter 42 args) w := fun _ _ => by kernel_rfl
theorem Ac : ∀ (args : Array Value) (w : World), (callFunc 149 args).run Tryz.prog w = .ok (.enter 149 args) w := fun _ _ => by kernel_rfl
theorem zY : ∀ (args : Array Value) (w : World), (callFunc 153 args).run Tryz.prog w = .ok (.enter 153 args) w := fun _ _ => by kernel_rfl
theorem zW : ∀ (args : Array Value) (w : World), (callFunc 154 args).run Tryz.prog w = .ok (.enter 154 args) w := fun _ _ => by kernel_rfl
abbrev _root_.Go.Av.aK := @Tryz.underlying3
abbrev _root_.Go.Av.aO := @Tryz.underlying44
set_option maxRecDepth 100000 in
set_option maxHeartbeats 1000000 in
theorem sC (F : Nat) (a1 : List (Int × (List UInt8) × (List UInt8) × List ((List UInt8) × List UInt8))) (q2 : Option Nat) (r3 : Bool) (H : ke F a1 = some r3) : ACalls Tryz.prog 23 [slE (ab Enc.int (ab Enc.str (ab Enc.str (Enc.sl (ab Enc.str Enc.str))))) a1 q2] [] (Ret (B r3) []) := by
 unfold ke at H
 refine ap Tryz.func23 rfl rfl ?_;show AW _ _ 71 _ _ _;refine af <| aa ?_;show AR _ _ _ _ _ [0] _;refine za rfl <| ag <| af <| aa ?_;show AR _ _ _ _ _ [0] _;refine za rfl <| ag ?_
 refine AW.nil_stk 3 rfl fun t4 => ?_
 show AW _ _ _ _ _ ⟨(3, .sk t4 (([] : List (List UInt8)).length)) :: _, _, [.stk t4 (Enc.str.fl ([] : List (List UInt8)))]⟩;refine bL (X := Nat × (List (List UInt8))) (fun (t40, y41) => ⟨[(0, slE (ab Enc.int (ab Enc.str (ab Enc.str (Enc.sl (ab Enc.str Enc.str))))) a1 q2), (3, .sk t40 y41.length)], [], [.stk t40 (Enc.str.fl y41)]⟩) (fun (t40, y41) => gz a1 y41 = some r3) ?_ ?_
 ·refine af <| aa ?_;show AR _ _ _ _ _ [0, 1, 2] _;refine zS rfl (ah (av := slE _ _ _) rfl) <| zS rfl (bE aO rfl) <| zm rfl <| ag <| aU <| dk (X := Nat × Nat × (List (List UInt8)) × Int) (fun (n9, t5, y6, y7) => ⟨[(0, slE (ab Enc.int (ab Enc.str (ab Enc.str (Enc.sl (ab Enc.str Enc.str))))) a1 q2), (3, .sk t5 y6.length), (7, slE (ab Enc.int (ab Enc.str (ab Enc.str (Enc.sl (ab Enc.str Enc.str))))) a1 q2), (8, i64 (a1.length : Int)), (9, i64 y7)], [], [.stk t5 (Enc.str.fl y6)]⟩) (fun (n9, t5, y6, y7) => dD a1 n9 (y6, y7) = some r3) (fun (n9, t5, y6, y7) => n9) (F, t4, ([] : List (List UInt8)), 0) H (be [0] (.cons (.refl _) (.cons (.refl _) (.cons (.refl _) (.cons (.refl _) (.cons (.refl _) (.nil _)))))) rfl) ?_;rintro ⟨n9, t5, y6, y7⟩ H;obtain ⟨n9, rfl, H⟩ := fC H;replace H : gA a1 (dD a1 n9) y6 y7 = some r3 := H
  unfold gA at H
  refine af <| aa ?_;show AR _ _ _ _ _ [0] _;refine zS rfl (cd rfl rfl) <| ag <| af <| ax rfl (fun c10 => ?_) (fun c10 => ?_)
  ·replace H := aX c10 H;refine aC <| bL (X := Nat × (List (List UInt8))) (fun (t36, y37) => ⟨[(0, slE (ab Enc.int (ab Enc.str (ab Enc.str (Enc.sl (ab Enc.str Enc.str))))) a1 q2), (3, .sk t36 y37.length), (7, slE (ab Enc.int (ab Enc.str (ab Enc.str (Enc.sl (ab Enc.str Enc.str))))) a1 q2), (8, i64 (a1.length : Int)), (9, i64 y7)], [], [.stk t36 (Enc.str.fl y37)]⟩) (fun (t36, y37) => dC y7 (dD a1 n9) y37 = some r3) ?_ ?_
   ·refine aU <| af ?_;obtain ⟨g11, H⟩ := aM H;obtain ⟨x12, e13, H⟩ := bM H;refine aa ?_;show AR _ _ _ _ _ [0, 1, 2, 3, 4, 5] _;refine zm rfl <| zS rfl (dF (E := (ab Enc.int (ab Enc.str (ab Enc.str (Enc.sl (ab Enc.str Enc.str)))))) aO (by kernel_rfl) rfl rfl g11 e13) <| zS rfl (ct Tryz.underlying43 rfl (n := 4) (by kernel_rfl) rfl (ac rfl)) <| zX rfl (bg (zs := [.int .i64 0, .string ⟨#[]⟩, .string ⟨#[]⟩, .slice none 0 0]) (by kernel_rfl)) ?_;rintro _ _ ⟨o14, rfl, rfl⟩;refine za rfl <| s0 rfl rfl (aV (i := 0) (vs := [i64 x12.1, S x12.2.1, S x12.2.2.1, slE (ab Enc.str Enc.str) x12.2.2.2 none]) (by kernel_rfl) rfl rfl (by simp [bA, slE]) rfl (ac rfl)) <| fQ 5 0 rfl rfl ?_;show AR _ _ _ _ _ _ ⟨_, _, [.stk t5 (Enc.str.fl y6)]⟩;refine ag <| af <| aa ?_;show AR _ _ _ _ _ [0, 1, 2] _;refine zS rfl (ah (av := .sk _ _) rfl) <| zS rfl (fh au rfl) <| za rfl <| ag <| aU <| af <| aa ?_;show AR _ _ _ _ _ [0, 1, 2, 3, 4, 5, 6] _;refine zm rfl <| zS rfl (gp rfl rfl) <| zm rfl <| aW (l := [6]) 22 (B ((decide (0 < y7)) && (decide ((y6.length : Int) = 0)))) (fun K => ?_) ?_
    ·rcases aj (decide (0 < y7)) with h15 | h15
     ·refine zM h15 rfl <| zU h15 rfl (bJ rfl rfl) <| zS rfl (aD (av := .v _) rfl h15 rfl) ?_;exact K _ 2 _ (ay (cz h15)) rfl rfl
     ·refine zF h15 rfl <| zF h15 rfl <| zS rfl (aE (av := .v _) rfl h15 rfl) ?_;exact K _ 2 _ (ay (cA h15)) rfl rfl
    refine za rfl <| ag <| ax rfl (fun c16 => ?_) (fun c16 => ?_)
    ·replace H := aX c16 H;refine af <| aa ?_;show AR _ _ _ _ _ [0] _;refine za rfl <| ag <| aG ?_;obtain rfl := ak H;exact And.intro rfl (Exists.intro _ (Exists.intro _ ⟨aF rfl (.refl _), aB [] rfl, rfl, rfl⟩))
    ·replace H := aY c16 H;refine af <| aa ?_;show AR _ _ _ _ _ [0, 1, 2, 3] _;refine zS rfl (aP (n := 0) (by kernel_rfl) rfl (ac rfl)) <| zS rfl (aL aK rfl rfl) <| zS rfl (bJ rfl rfl) <| za rfl <| ag <| ax rfl (fun c17 => ?_) (fun c17 => ?_)
     ·replace H := aX c17 H;obtain ⟨g18, H⟩ := aM H;obtain ⟨x19, e20, H⟩ := bM H;refine aa ?_;show AR _ _ _ _ _ [0, 1, 2, 3, 4, 5] _;refine zS rfl (ah (av := .sk _ _) rfl) <| zS rfl (aP (n := 1) (by kernel_rfl) rfl (ac rfl)) <| zS rfl (aL ai rfl rfl) <| zR rfl (cO (E := Enc.str) (bytes := 16) (xs := [.tmp 29]) (l := ([x12.2.1] : List (List UInt8))) au (by kernel_rfl) rfl rfl (by decide) rfl rfl) <| zX rfl (kM (E := Enc.str) (bytes := 16) 0 au au rfl (by kernel_rfl) rfl rfl rfl rfl rfl rfl rfl g18 e20) ?_;rintro _ _ ⟨t21, rfl, rfl⟩;refine zS rfl (aH (av := .sk _ _) rfl) <| ag ?_;exact Exists.intro (t21, x19) ⟨H, be [0] (.cons (.refl _) (.cons (.refl _) (.cons (.refl _) (.cons (.refl _) (.cons (.refl _) (.nil _)))))) rfl⟩
     ·replace H := aY c17 H;refine af ?_;obtain ⟨g24, H⟩ := cN H;obtain ⟨g25, H⟩ := cN H;obtain ⟨g26, H⟩ := cN H;obtain ⟨x27, e28, H⟩ := bM H;refine cw (by kernel_rfl) ?_;show AI _ _ _ _ _ 18 (Array.replicate 18 false) _;refine zk 0 rfl (aP (n := 0) (by kernel_rfl) rfl (ac rfl)) ?_;show AI _ _ _ _ _ _ #[true, false, false, false, false, false, false, false, false, false, false, false, false, false, false, false, false, false] _;refine zk 1 rfl (aL aK rfl rfl) ?_;show AI _ _ _ _ _ _ #[true, true, false, false, false, false, false, false, false, false, false, false, false, false, false, false, false, false] _;refine zk 2 rfl (bJ rfl rfl) ?_;show AI _ _ _ _ _ _ #[true, true, true, false, false, false, false, false, false, false, false, false, false, false, false, false, false, false] _;refine zk 3 rfl (mv rfl) ?_;show AI _ _ _ _ _ _ #[true, true, true, true, false, false, false, false, false, false, false, false, false, false, false, false, false, false] _;refine AI.meet 11 #[true, true, true, true, true, true, true, false, false, false, false, false, false, false, false, false, false, false] 39 (B ((decide (x12.1 = 1)) && (decide (0 < (y6.length : Int))))) (fun K6 => ?_) ?_
      ·refine uu (t := 36) rfl (fun h22 => ?_) (fun h22 => ?_)
       ·refine jx (i := 4) rfl rfl (by kernel_rfl) (by kernel_rfl) (by kernel_rfl) rfl rfl rfl (fun _ _ h => h) h22 (mv rfl) ?_;show AI _ _ _ _ _ _ #[true, true, true, true, true, false, false, false, false, false, false, false, false, false, false, false, false, false] _;refine jx (i := 5) rfl rfl (by kernel_rfl) (by kernel_rfl) (by kernel_rfl) rfl rfl rfl (fun _ _ h => h) h22 (gp rfl rfl) ?_;show AI _ _ _ _ _ _ #[true, true, true, true, true, true, false, false, false, false, false, false, false, false, false, false, false, false] _;refine zk 6 rfl (fe (av' := B ((decide (x12.1 = 1)) && (decide (0 < (y6.length : Int))))) (aD (av := .v _) rfl h22 rfl) (ay (cz h22))) ?_;show AI _ _ _ _ _ _ #[true, true, true, true, true, true, true, false, false, false, false, false, false, false, false, false, false, false] _;exact K6 _ 2 rfl rfl
       ·refine iB (i := 4) rfl rfl (by kernel_rfl) (by kernel_rfl) (by kernel_rfl) rfl rfl rfl (fun _ _ h => h) h22 ?_;show AI _ _ _ _ _ _ #[true, true, true, true, true, false, false, false, false, false, false, false, false, false, false, false, false, false] _;refine iB (i := 5) rfl rfl (by kernel_rfl) (by kernel_rfl) (by kernel_rfl) rfl rfl rfl (fun _ _ h => h) h22 ?_;show AI _ _ _ _ _ _ #[true, true, true, true, true, true, false, false, false, false, false, false, false, false, false, false, false, false] _;refine zk 6 rfl (fe (av' := B ((decide (x12.1 = 1)) && (decide (0 < (y6.length : Int))))) (aE (av := .v _) rfl h22 rfl) (ay (cA h22))) ?_;show AI _ _ _ _ _ _ #[true, true, true, true, true, true, true, false, false, false, false, false, false, false, false, false, false, false] _;exact K6 _ 2 rfl rfl
      refine zk 7 rfl (mv rfl) ?_;show AI _ _ _ _ _ _ #[true, true, true, true, true, true, true, true, false, false, false, false, false, false, false, false, false, false] _;refine AI.meet 1 #[true, true, true, true, true, true, true, true, true, true, true, true, true, true, true, true, true, false] 49 (B (((decide (x12.1 = 1)) && (decide (0 < (y6.length : Int)))) && (decide (x27 = x12.2.1)))) (fun K16 => ?_) ?_
      ·refine uu (t := 40) rfl (fun h23 => ?_) (fun h23 => ?_)
       ·refine jx (i := 8) rfl rfl (by kernel_rfl) (by kernel_rfl) (by kernel_rfl) rfl rfl rfl (fun _ _ h => h) h23 (ah (av := .sk _ _) rfl) ?_;show AI _ _ _ _ _ _ #[true, true, true, true, true, true, true, true, true, false, false, false, false, false, false, false, false, false] _;refine jx (i := 9) rfl rfl (by kernel_rfl) (by kernel_rfl) (by kernel_rfl) rfl rfl rfl (fun _ _ h => h) h23 (mv rfl) ?_;show AI _ _ _ _ _ _ #[true, true, true, true, true, true, true, true, true, true, false, false, false, false, false, false, false, false] _;refine jx (i := 10) rfl rfl (by kernel_rfl) (by kernel_rfl) (by kernel_rfl) rfl rfl rfl (fun _ _ h => h) h23 (lP rfl rfl (g24 h23)) ?_;show AI _ _ _ _ _ _ #[true, true, true, true, true, true, true, true, true, true, true, false, false, false, false, false, false, false] _;refine jx (i := 11) rfl rfl (by kernel_rfl) (by kernel_rfl) (by kernel_rfl) rfl rfl rfl (fun _ _ h => h) h23 (lb au (by kernel_rfl) rfl rfl (g25 h23)) ?_;show AI _ _ _ _ _ _ #[true, true, true, true, true, true, true, true, true, true, true, true, false, false, false, false, false, false] _;refine jx (i := 13) rfl rfl (by kernel_rfl) (by kernel_rfl) (by kernel_rfl) rfl rfl rfl (fun _ _ h => h) h23 (aP (n := 1) (by kernel_rfl) rfl (ac rfl)) ?_;show AI _ _ _ _ _ _ #[true, true, true, true, true, true, true, true, true, true, true, true, false, true, false, false, false, false] _
        refine jx (i := 14) rfl rfl (by kernel_rfl) (by kernel_rfl) (by kernel_rfl) rfl rfl rfl (fun _ _ h => h) h23 (aL ai rfl rfl) ?_;show AI _ _ _ _ _ _ #[true, true, true, true, true, true, true, true, true, true, true, true, false, true, true, false, false, false] _;refine AI.gone (i := 12) (by kernel_rfl) rfl rfl rfl rfl rfl h23 <| bw rfl (oY (E := Enc.str) 0 ai rfl rfl rfl rfl (g26 h23) e28 rfl) ?_;show AI _ _ _ _ _ _ #[true, true, true, true, true, true, true, true, true, true, true, true, true, true, true, false, false, false] _;refine jx (i := 15) rfl rfl (by kernel_rfl) (by kernel_rfl) (by kernel_rfl) rfl rfl rfl (fun _ _ h => h) h23 (dr rfl rfl) ?_;show AI _ _ _ _ _ _ #[true, true, true, true, true, true, true, true, true, true, true, true, true, true, true, true, false, false] _;refine zk 16 rfl (fe (av' := B (((decide (x12.1 = 1)) && (decide (0 < (y6.length : Int)))) && (decide (x27 = x12.2.1)))) (aD (av := .v _) rfl h23 rfl) (ay (cz h23))) ?_;show AI _ _ _ _ _ _ #[true, true, true, true, true, true, true, true, true, true, true, true, true, true, true, true, true, false] _;exact K16 _ 8 rfl rfl
       ·refine iB (i := 8) rfl rfl (by kernel_rfl) (by kernel_rfl) (by kernel_rfl) rfl rfl rfl (fun _ _ h => h) h23 ?_;show AI _ _ _ _ _ _ #[true, true, true, true, true, true, true, true, true, false, false, false, false, false, false, false, false, false] _;refine iB (i := 9) rfl rfl (by kernel_rfl) (by kernel_rfl) (by kernel_rfl) rfl rfl rfl (fun _ _ h => h) h23 ?_;show AI _ _ _ _ _ _ #[true, true, true, true, true, true, true, true, true, true, false, false, false, false, false, false, false, false] _;refine iB (i := 10) rfl rfl (by kernel_rfl) (by kernel_rfl) (by kernel_rfl) rfl rfl rfl (fun _ _ h => h) h23 ?_;show AI _ _ _ _ _ _ #[true, true, true, true, true, true, true, true, true, true, true, false, false, false, false, false, false, false] _;refine iB (i := 11) rfl rfl (by kernel_rfl) (by kernel_rfl) (by kernel_rfl) rfl rfl rfl (fun _ _ h => h) h23 ?_;show AI _ _ _ _ _ _ #[true, true, true, true, true, true, true, true, true, true, true, true, false, false, false, false, false, false] _;refine iB (i := 12) rfl rfl (by kernel_rfl) (by kernel_rfl) (by kernel_rfl) rfl rfl rfl (fun _ _ h => h) h23 ?_;show AI _ _ _ _ _ _ #[true, true, true, true, true, true, true, true, true, true, true, true, true, false, false, false, false, false] _;refine iB (i := 13) rfl rfl (by kernel_rfl) (by kernel_rfl) (by kernel_rfl) rfl rfl rfl (fun _ _ h => h) h23 ?_;show AI _ _ _ _ _ _ #[true, true, true, true, true, true, true, true, true, true, true, true, true, true, false, false, false, false] _
        refine iB (i := 14) rfl rfl (by kernel_rfl) (by kernel_rfl) (by kernel_rfl) rfl rfl rfl (fun _ _ h => h) h23 ?_;show AI _ _ _ _ _ _ #[true, true, true, true, true, true, true, true, true, true, true, true, true, true, true, false, false, false] _;refine iB (i := 15) rfl rfl (by kernel_rfl) (by kernel_rfl) (by kernel_rfl) rfl rfl rfl (fun _ _ h => h) h23 ?_;show AI _ _ _ _ _ _ #[true, true, true, true, true, true, true, true, true, true, true, true, true, true, true, true, false, false] _;refine zk 16 rfl (fe (av' := B (((decide (x12.1 = 1)) && (decide (0 < (y6.length : Int)))) && (decide (x27 = x12.2.1)))) (aE (av := .v _) rfl h23 rfl) (ay (cA h23))) ?_;show AI _ _ _ _ _ _ #[true, true, true, true, true, true, true, true, true, true, true, true, true, true, true, true, true, false] _;exact K16 _ 8 rfl rfl
      refine zk 17 rfl (asg rfl) ?_;show AI _ _ _ _ _ _ #[true, true, true, true, true, true, true, true, true, true, true, true, true, true, true, true, true, true] _;refine cT rfl <| ax rfl (fun c29 => ?_) (fun c29 => ?_)
      ·replace H := aX c29 H;obtain ⟨g30, H⟩ := aM H;obtain ⟨g31, H⟩ := aM H;obtain ⟨x32, e33, H⟩ := bM H;refine aa ?_;show AR _ _ _ _ _ [0, 1, 2, 3, 4] _;refine zS rfl (ah (av := .sk _ _) rfl) <| zm rfl <| zS rfl (lP rfl rfl g30) <| zR rfl (rR (E := Enc.str) 0 au (by kernel_rfl) rfl rfl rfl rfl g31 e33) <| zS rfl (aH (av := .sk _ _) rfl) <| ag ?_;exact Exists.intro (t5, x32) ⟨H, be [0] (.cons (.refl _) (.cons (.refl _) (.cons (.refl _) (.cons (.refl _) (.cons (.refl _) (.nil _)))))) rfl⟩
      ·replace H := aY c29 H;refine af <| aa ?_;show AR _ _ _ _ _ [0, 1, 2, 3, 4, 5, 6, 7] _;refine zS rfl (aP (n := 0) (by kernel_rfl) rfl (ac rfl)) <| zS rfl (aL aK rfl rfl) <| zS rfl (mb rfl rfl) <| zm rfl <| aW (l := [7]) 61 (B ((!decide (x12.1 = 2)) || (decide ((y6.length : Int) = 0)))) (fun K => ?_) ?_
       ·rcases aj (!decide (x12.1 = 2)) with h34 | h34
        ·refine zF h34 rfl <| zF h34 rfl <| zS rfl (aD (av := .v _) rfl h34 rfl) ?_;exact K _ 2 _ (ay (jA h34)) rfl rfl
        ·refine zM h34 rfl <| zU h34 rfl (bJ rfl rfl) <| zS rfl (aE (av := .v _) rfl h34 rfl) ?_;exact K _ 2 _ (ay (jB h34)) rfl rfl
       refine za rfl <| ag <| ax rfl (fun c35 => ?_) (fun c35 => ?_)
       ·replace H := aX c35 H;refine af <| aa ?_;show AR _ _ _ _ _ [0] _;refine za rfl <| ag <| aG ?_;obtain rfl := ak H;exact And.intro rfl (Exists.intro _ (Exists.intro _ ⟨aF rfl (.refl _), aB [] rfl, rfl, rfl⟩))
       ·replace H := aY c35 H;refine aC ?_;exact Exists.intro (t5, y6) ⟨H, be [0] (.cons (.refl _) (.cons (.refl _) (.cons (.refl _) (.cons (.refl _) (.cons (.refl _) (.nil _)))))) rfl⟩
   rintro ⟨t36, y37⟩ H;replace H : dC y7 (dD a1 n9) y37 = some r3 := H
   unfold dC at H
   obtain ⟨g39, H⟩ := aM H;refine aa ?_;show AR _ _ _ _ _ [0, 1] _;refine zS rfl (di rfl rfl g39) <| zm rfl <| ag ?_;exact Exists.intro (n9, t36, y37, y7 + 1) ⟨H, Nat.lt_succ_self _, be [0] (.cons (.refl _) (.cons (.refl _) (.cons (.refl _) (.cons (.refl _) (.cons (.refl _) (.nil _)))))) rfl⟩
  ·replace H := aY c10 H;refine cB ?_;exact Exists.intro (t5, y6) ⟨H, be [0] (.cons (.refl _) (.cons (.refl _) (.nil _))) rfl⟩
 rintro ⟨t40, y41⟩ H;replace H : gz a1 y41 = some r3 := H
 unfold gz at H
 refine af <| aa ?_;show AR _ _ _ _ _ [0, 1, 2, 3, 4, 5, 6, 7, 8] _;refine zS rfl (ah (av := .sk _ _) rfl) <| zS rfl (fh au rfl) <| zS rfl (bJ rfl rfl) <| zm rfl <| aW (l := [8]) 70 (B ((decide ((y41.length : Int) = 0)) && (decide (0 < (a1.length : Int))))) (fun K => ?_) ?_
 ·rcases aj (decide ((y41.length : Int) = 0)) with h43 | h43
  ·refine zU h43 rfl (ah (av := slE _ _ _) rfl) <| zU h43 rfl (bE aO rfl) <| zU h43 rfl (gp rfl rfl) <| zS rfl (aD (av := .v _) rfl h43 rfl) ?_;exact K _ 3 _ (ay (cz h43)) rfl rfl
  ·refine zF h43 rfl <| zF h43 rfl <| zF h43 rfl <| zS rfl (aE (av := .v _) rfl h43 rfl) ?_;exact K _ 3 _ (ay (cA h43)) rfl rfl
 refine za rfl <| ag <| aG ?_;obtain rfl := ak H;exact And.intro rfl (Exists.intro _ (Exists.intro _ ⟨aF rfl (.refl _), aB [] rfl, rfl, rfl⟩))
set_option maxRecDepth 100000 in
set_option maxHeartbeats 1000000 in
theorem pn (F : Nat) (a1 : List (Int × (List UInt8) × (List UInt8) × List ((List UInt8) × List UInt8))) (q2 : Option Nat) (r3 : List UInt8) (H : fT F a1 = some r3) : ACalls Tryz.prog 13 [slE (ab Enc.int (ab Enc.str (ab Enc.str (Enc.sl (ab Enc.str Enc.str))))) a1 q2] [] (Ret (S r3) []) := by
 unfold fT at H
 refine ap Tryz.func13 rfl rfl ?_;show AW _ _ 21 _ _ _;refine af <| aa ?_;show AR _ _ _ _ _ [0] _;refine za rfl <| ag <| af <| aa ?_;show AR _ _ _ _ _ [0] _;refine zX rfl (oW (zs := [(.pointer none), .slice none 0 0]) (by kernel_rfl)) ?_;rintro _ _ ⟨o4, rfl, rfl⟩;refine ag ?_
 refine js 0 1 1 5 rfl rfl fun t5 => ?_
 show AW _ _ _ _ _ ⟨_, _, [.tok t5 5, .obj o4 [.v (.pointer none), slE Enc.byte [] (some t5)], .ty o4 51]⟩;refine bL (X := AV × (List UInt8) × Nat) (fun (t27, y28, t29) => ⟨[(3, .pt o4 0)], [], [.obj o4 [t27, slE Enc.byte y28 (some t29)], .ty o4 51, .tok t29 5]⟩) (fun (t27, y28, t29) => ik F y28 = some r3 ∧ (t27 = .v (.pointer none) ∨ t27 = .pt o4 0)) ?_ ?_
 ·refine af <| aa ?_;show AR _ _ _ _ _ [0, 1, 2] _;refine zS rfl (ah (av := slE _ _ _) rfl) <| zS rfl (bE aO rfl) <| zm rfl <| ag <| aU <| dk (X := Nat × Int × AV × (List UInt8) × Nat) (fun (n11, y6, t7, y8, t9) => ⟨[(3, .pt o4 0), (6, slE (ab Enc.int (ab Enc.str (ab Enc.str (Enc.sl (ab Enc.str Enc.str))))) a1 q2), (7, i64 (a1.length : Int)), (8, i64 y6)], [], [.obj o4 [t7, slE Enc.byte y8 (some t9)], .ty o4 51, .tok t9 5]⟩) (fun (n11, y6, t7, y8, t9) => eY F a1 n11 (y6, y8) = some r3 ∧ (t7 = .v (.pointer none) ∨ t7 = .pt o4 0)) (fun (n11, y6, t7, y8, t9) => n11) (F, 0, (.v (.pointer none)), [], t5) ⟨H, .inl rfl⟩ (be [1, 1, 0] (.cons (.refl _) (.cons (.refl _) (.cons (.refl _) (.cons (.refl _) (.nil _))))) rfl) ?_;rintro ⟨n11, y6, t7, y8, t9⟩ ⟨H, ht7⟩;obtain ⟨n11, rfl, H⟩ := fC H;replace H : im F a1 (eY F a1 n11) y6 y8 = some r3 := H
  unfold im at H
  refine af <| aa ?_;show AR _ _ _ _ _ [0] _;refine zS rfl (cd rfl rfl) <| ag <| af <| ax rfl (fun c12 => ?_) (fun c12 => ?_)
  ·replace H := aX c12 H;refine aC <| bL (X := AV × (List UInt8) × Nat) (fun (t22, y23, t24) => ⟨[(3, .pt o4 0), (6, slE (ab Enc.int (ab Enc.str (ab Enc.str (Enc.sl (ab Enc.str Enc.str))))) a1 q2), (7, i64 (a1.length : Int)), (8, i64 y6)], [], [.obj o4 [t22, slE Enc.byte y23 (some t24)], .ty o4 51, .tok t24 5]⟩) (fun (t22, y23, t24) => gl y6 (eY F a1 n11) y23 = some r3 ∧ (t22 = .v (.pointer none) ∨ t22 = .pt o4 0)) ?_ ?_
   ·refine aU <| af ?_;obtain ⟨g13, H⟩ := aM H;obtain ⟨x14, e15, H⟩ := bM H;refine aa ?_;show AR _ _ _ _ _ [0, 1, 2, 3] _;refine zS rfl (dF (E := (ab Enc.int (ab Enc.str (ab Enc.str (Enc.sl (ab Enc.str Enc.str)))))) aO (by kernel_rfl) rfl rfl g13 e15) <| zS rfl (ct Tryz.underlying43 rfl (n := 4) (by kernel_rfl) rfl (ac rfl)) <| zX rfl (bg (zs := [.int .i64 0, .string ⟨#[]⟩, .string ⟨#[]⟩, .slice none 0 0]) (by kernel_rfl)) ?_;rintro _ _ ⟨o16, rfl, rfl⟩;refine s0 rfl rfl (aV (i := 0) (vs := [i64 x14.1, S x14.2.1, S x14.2.2.1, slE (ab Enc.str Enc.str) x14.2.2.2 none]) (by kernel_rfl) rfl rfl (by simp [bA, slE]) rfl (ac rfl)) <| fQ 5 0 rfl rfl ?_;show AR _ _ _ _ _ _ ⟨_, _, [.obj o4 [t7, slE Enc.byte y8 (some t9)], .ty o4 51, .tok t9 5]⟩;refine ag <| af <| aa ?_;show AR _ _ _ _ _ [0, 1, 2] _;refine zS rfl (aP (n := 0) (by kernel_rfl) rfl (ac rfl)) <| zS rfl (aL aK rfl rfl) <| zS rfl (bJ rfl rfl) <| ag <| ax rfl (fun c17 => ?_) (fun c17 => ?_)
    ·replace H := aX c17 H;obtain ⟨g18, H⟩ := aM H;obtain ⟨x19, e20, H⟩ := bM H;refine aa ?_;show AR _ _ _ _ _ [0, 1, 2] _;refine zS rfl (aP (n := 2) (by kernel_rfl) rfl (ac rfl)) <| zS rfl (aL ai rfl rfl) <| am rfl rfl (aQ [0, 0, 0] rfl en17_fda rfl (cC  o4 (t7) ht7 y8 x14.2.2.1 t9 (wQ g18)) rfl (fun c A' h => by cases h.1) ?_)
     rintro av A' ⟨h, t21, rfl⟩; cases h
     rw [e20]
     refine ag ?_;exact Exists.intro ((.pt o4 0), x19, t21) ⟨⟨H, .inr rfl⟩, be [0, 0, 0] (.cons (.refl _) (.cons (.refl _) (.cons (.refl _) (.cons (.refl _) (.nil _))))) rfl⟩
    ·replace H := aY c17 H;refine aC ?_;exact Exists.intro (t7, y8, t9) ⟨⟨H, ht7⟩, be [0, 0, 0] (.cons (.refl _) (.cons (.refl _) (.cons (.refl _) (.cons (.refl _) (.nil _))))) rfl⟩
   rintro ⟨t22, y23, t24⟩ ⟨H, ht22⟩;replace H : gl y6 (eY F a1 n11) y23 = some r3 := H
   unfold gl at H
   obtain ⟨g26, H⟩ := aM H;refine aa ?_;show AR _ _ _ _ _ [0, 1] _;refine zS rfl (di rfl rfl g26) <| zm rfl <| ag ?_;exact Exists.intro (n11, y6 + 1, t22, y23, t24) ⟨⟨H, ht22⟩, Nat.lt_succ_self _, be [0, 0, 0] (.cons (.refl _) (.cons (.refl _) (.cons (.refl _) (.cons (.refl _) (.nil _))))) rfl⟩
  ·replace H := aY c12 H;refine cB ?_;exact Exists.intro (t7, y8, t9) ⟨⟨H, ht7⟩, be [0, 0, 0] (.cons (.refl _) (.nil _)) rfl⟩
 rintro ⟨t27, y28, t29⟩ ⟨H, ht27⟩;replace H : ik F y28 = some r3 := H
 unfold ik at H
 refine af ?_;obtain ⟨g31, H⟩ := aM H;obtain ⟨x32, e33, H⟩ := bW H;refine aa ?_;show AR _ _ _ _ _ [0, 1, 2] _;refine am rfl rfl (aQ [0, 1] rfl en19_fda rfl (kD  o4 (t27) y28 t29 (okW0_s g31)) rfl (fun c A' h => by cases h.1) ?_)
 rintro av A' ⟨h, rfl⟩; cases h
 refine am rfl rfl (aA rfl en18_fda rfl (oT F y28 x32 e33) ?_);refine za rfl <| ag <| aG ?_;obtain rfl := ak H;exact And.intro rfl (Exists.intro _ (Exists.intro _ ⟨aF rfl (.refl _), aB [] rfl, rfl, rfl⟩))
abbrev _root_.Go.Av.bP := @Tryz.underlying70
set_option maxRecDepth 100000 in
set_option maxHeartbeats 1000000 in
theorem gP (F : Nat) (a1 : List (Int × (List UInt8) × (List UInt8) × List ((List UInt8) × List UInt8))) (q2 : Option Nat) (r3 : List UInt8) (H : fj F a1 = some r3) : ACalls Tryz.prog 27 [slE (ab Enc.int (ab Enc.str (ab Enc.str (Enc.sl (ab Enc.str Enc.str))))) a1 q2] [] (Ret (S r3) []) := by
 unfold fj at H
 refine ap Tryz.func27 rfl rfl ?_;show AW _ _ 8 _ _ _;refine af <| aa ?_;show AR _ _ _ _ _ [0] _;refine za rfl <| ag <| af ?_;obtain ⟨g4, H⟩ := aM H;obtain ⟨x5, e6, H⟩ := bM H;obtain ⟨x7, e8, H⟩ := bW H;refine aa ?_;show AR _ _ _ _ _ [0, 1, 2, 3, 4, 5] _;refine zS rfl (ah (av := slE _ _ _) rfl) <| zS rfl (dF (E := (ab Enc.int (ab Enc.str (ab Enc.str (Enc.sl (ab Enc.str Enc.str)))))) bP (by kernel_rfl) rfl rfl g4 e6) <| zS rfl (aP (n := 1) (by kernel_rfl) rfl (ac rfl)) <| zS rfl (aL ai rfl rfl) <| am rfl rfl (aA rfl en42_fda rfl (wX F x5.2.1 x7 e8) ?_);refine za rfl <| ag <| aG ?_;obtain rfl := ak H;exact And.intro rfl (Exists.intro _ (Exists.intro _ ⟨aF rfl (.refl _), aB [] rfl, rfl, rfl⟩))
abbrev _root_.Go.Av.cn := @Tryz.underlying41
set_option maxRecDepth 100000 in
set_option maxHeartbeats 1000000 in
theorem qw (F : Nat) (a1 : List (Int × (List UInt8) × (List UInt8) × List ((List UInt8) × List UInt8))) (q2 : Option Nat) (a3 : List UInt8) (r4 : List UInt8) (r5 : Bool) (H : kV F a1 a3 = some (r4, r5)) : ACalls Tryz.prog 154 [slE (ab Enc.int (ab Enc.str (ab Enc.str (Enc.sl (ab Enc.str Enc.str))))) a1 q2, S a3] [] (Ret (.tup [S r4, B r5]) []) := by
 unfold kV at H
 refine ap Tryz.func154 rfl rfl ?_;show AW _ _ 24 _ _ _;refine af <| aa ?_;show AR _ _ _ _ _ [0, 1] _;refine za rfl <| za rfl <| ag <| bL (X := Unit) (fun _ => ⟨[], [], []⟩) (fun _ => kO = some (r4, r5)) ?_ ?_
 ·refine af ?_;obtain ⟨g6, H⟩ := aM H;obtain ⟨x7, e8, H⟩ := bM H;refine aa ?_;show AR _ _ _ _ _ [0, 1, 2, 3, 4, 5] _;refine zS rfl (ah (av := slE _ _ _) rfl) <| zS rfl (dF (E := (ab Enc.int (ab Enc.str (ab Enc.str (Enc.sl (ab Enc.str Enc.str)))))) bP (by kernel_rfl) rfl rfl g6 e8) <| zS rfl (aP (n := 3) (by kernel_rfl) rfl (ac rfl)) <| zS rfl (aL cn rfl rfl) <| zS rfl (bE cn rfl) <| zm rfl <| ag <| aU <| dk (X := Nat × Int) (fun (n11, y9) => ⟨[(1, S a3), (11, slE (ab Enc.str Enc.str) x7.2.2.2 none), (12, i64 (x7.2.2.2.length : Int)), (13, i64 y9)], [], []⟩) (fun (n11, y9) => jo a3 x7 n11 y9 = some (r4, r5)) (fun (n11, y9) => n11) (F, 0) H (be [] (.cons (.refl _) (.cons (.refl _) (.cons (.refl _) (.cons (.refl _) (.nil _))))) rfl) ?_;rintro ⟨n11, y9⟩ H;obtain ⟨n11, rfl, H⟩ := fC H;replace H : jp a3 x7 (jo a3 x7 n11) y9 = some (r4, r5) := H
  unfold jp at H
  refine af <| aa ?_;show AR _ _ _ _ _ [0] _;refine zS rfl (cd rfl rfl) <| ag <| af <| ax rfl (fun c12 => ?_) (fun c12 => ?_)
  ·replace H := aX c12 H;refine aC <| af <| aU <| af ?_;obtain ⟨g13, H⟩ := aM H;obtain ⟨x14, e15, H⟩ := bM H;refine aa ?_;show AR _ _ _ _ _ [0, 1, 2, 3] _;refine zS rfl (dF (E := (ab Enc.str Enc.str)) cn (by kernel_rfl) rfl rfl g13 e15) <| zS rfl (ct Tryz.underlying94 rfl (n := 2) (by kernel_rfl) rfl (ac rfl)) <| zX rfl (bg (zs := [.string ⟨#[]⟩, .string ⟨#[]⟩]) (by kernel_rfl)) ?_;rintro _ _ ⟨o16, rfl, rfl⟩;refine s0 rfl rfl (aV (i := 0) (vs := [S x14.1, S x14.2]) (by kernel_rfl) rfl rfl (by simp [bA, slE]) rfl (ac rfl)) <| fQ 7 0 rfl rfl ?_;show AR _ _ _ _ _ _ ⟨_, _, []⟩;refine ag <| af <| aa ?_;show AR _ _ _ _ _ [0, 1, 2, 3] _;refine zS rfl (aP (n := 0) (by kernel_rfl) rfl (ac rfl)) <| zS rfl (aL ai rfl rfl) <| zm rfl <| zS rfl (dr rfl rfl) <| ag <| ax rfl (fun c17 => ?_) (fun c17 => ?_)
   ·replace H := aX c17 H;refine af <| aa ?_;show AR _ _ _ _ _ [0, 1, 2, 3] _;refine zS rfl (aP (n := 1) (by kernel_rfl) rfl (ac rfl)) <| zS rfl (aL ai rfl rfl) <| za rfl <| za rfl <| ag <| aG ?_;obtain ⟨rfl, rfl⟩ := dw H;exact And.intro rfl (Exists.intro _ (Exists.intro _ ⟨bk rfl (.refl _) (.refl _), aB [] rfl, rfl, rfl⟩))
   ·replace H := aY c17 H;refine aC ?_;obtain ⟨g18, H⟩ := aM H;refine aa ?_;show AR _ _ _ _ _ [0, 1] _;refine zS rfl (di rfl rfl g18) <| zm rfl <| ag ?_;exact Exists.intro (n11, y9 + 1) ⟨H, Nat.lt_succ_self _, be [] (.cons (.refl _) (.cons (.refl _) (.cons (.refl _) (.cons (.refl _) (.nil _))))) rfl⟩
  ·replace H := aY c12 H;refine cB ?_;exact Exists.intro () ⟨H, be [] (.nil _) rfl⟩
 rintro _ H;replace H : kO = some (r4, r5) := H
 unfold kO at H
 refine af <| aa ?_;show AR _ _ _ _ _ [0, 1] _;refine za rfl <| za rfl <| ag <| aG ?_;obtain ⟨rfl, rfl⟩ := dw H;exact And.intro rfl (Exists.intro _ (Exists.intro _ ⟨bk rfl (.refl _) (.refl _), aB [] rfl, rfl, rfl⟩))
set_option maxRecDepth 100000 in
set_option maxHeartbeats 1000000 in
theorem yC (F : Nat) (a1 : List (Int × (List UInt8) × (List UInt8) × List ((List UInt8) × List UInt8))) (q2 : Option Nat) (r3 : Option Bool) (r4 : Bool) (H : rt F a1 = some (r3, r4)) : ACalls Tryz.prog 24 [slE (ab Enc.int (ab Enc.str (ab Enc.str (Enc.sl (ab Enc.str Enc.str))))) a1 q2] [] (Ret (.tup [ikA 83 84 r3, B r4]) []) := by
 unfold rt at H
 refine ap Tryz.func24 rfl rfl ?_;show AW _ _ 14 _ _ _;refine af <| aa ?_;show AR _ _ _ _ _ [0, 1] _;refine za rfl <| za rfl <| ag <| af <| af ?_;obtain ⟨x5, e6, H⟩ := bW H;refine aa ?_;show AR _ _ _ _ _ [0, 1] _;refine zS rfl (ah (av := slE _ _ _) rfl) <| am rfl rfl (aA rfl nU rfl (gP F a1 q2 x5 e6) ?_);refine ag <| aU <| af <| aa ?_;show AR _ _ _ _ _ [0, 1] _;refine zS rfl (dr rfl rfl) <| za rfl <| ag <| ax rfl (fun c7 => ?_) (fun c7 => ?_)
 ·replace H := aX c7 H;refine af <| aa ?_;show AR _ _ _ _ _ [0, 1, 2, 3] _;refine zS rfl (cP (zs := []) (ps := []) (cs := []) (by kernel_rfl) rfl rfl) <| zS rfl (bf (a := .agg _) Tryz.underlying83 rfl rfl) <| zS rfl (aH (av := .ifc _ _) rfl) <| za rfl <| ag <| aG ?_;obtain ⟨rfl, rfl⟩ := dw H;exact And.intro rfl (Exists.intro _ (Exists.intro _ ⟨bk rfl (.refl _) (.refl _), aB [] rfl, rfl, rfl⟩))
 ·replace H := aY c7 H;refine af <| aa ?_;show AR _ _ _ _ _ [0, 1] _;refine zS rfl (dr rfl rfl) <| za rfl <| ag <| ax rfl (fun c8 => ?_) (fun c8 => ?_)
  ·replace H := aX c8 H;refine af <| aa ?_;show AR _ _ _ _ _ [0, 1, 2, 3] _;refine zS rfl (cP (zs := []) (ps := []) (cs := []) (by kernel_rfl) rfl rfl) <| zS rfl (bf (a := .agg _) Tryz.underlying84 rfl rfl) <| zS rfl (aH (av := .ifc _ _) rfl) <| za rfl <| ag <| aG ?_;obtain ⟨rfl, rfl⟩ := dw H;exact And.intro rfl (Exists.intro _ (Exists.intro _ ⟨bk rfl (.refl _) (.refl _), aB [] rfl, rfl, rfl⟩))
  ·replace H := aY c8 H;refine aC <| af <| aa ?_;show AR _ _ _ _ _ [0, 1] _;refine za rfl <| za rfl <| ag <| aG ?_;obtain ⟨rfl, rfl⟩ := dw H;exact And.intro rfl (Exists.intro _ (Exists.intro _ ⟨bk rfl (.refl _) (.refl _), aB [] rfl, rfl, rfl⟩))
set_option maxRecDepth 100000 in
set_option maxHeartbeats 1000000 in
theorem kL (F : Nat) {σ τ : Type} (T : σ → τ → List Chunk) (k : σ → (List (Int × (List UInt8) × (List UInt8) × List ((List UInt8) × List UInt8))) → Option (σ × Bool)) (o : Nat) (hY : ∀ (s : σ) (t : τ) (x : List (Int × (List UInt8) × (List UInt8) × List ((List UInt8) × List UInt8))) (rv : σ × Bool), k s x = some rv → ov Tryz.prog o [slE (ab Enc.int (ab Enc.str (ab Enc.str (Enc.sl (ab Enc.str Enc.str))))) x none] (T s t) fun ae A' => ∃ t', ae = .ret (.v (.bool rv.2)) ∧ A' = T rv.1 t') (st0 : σ) (tt0 : τ) (o1 : Nat) (a2 : List (Int × (List UInt8) × (List UInt8) × List ((List UInt8) × List UInt8))) (rs : σ) (H : fi F k st0 a2 = some rs) : ACalls Tryz.prog 41 [.yl o, .pt o1 0] ([.obj o1 [slE (ab Enc.int (ab Enc.str (ab Enc.str (Enc.sl (ab Enc.str Enc.str))))) a2 none]] ++ T st0 tt0) (fun e A' => ∃ tz, e = .ret (.tup []) ∧ A' = [.obj o1 [slE (ab Enc.int (ab Enc.str (ab Enc.str (Enc.sl (ab Enc.str Enc.str))))) a2 none]] ++ T rs tz) := by
 unfold fi at H
 refine ap Tryz.func41 rfl rfl ?_;show AW _ _ 42 _ _ _;refine af <| aa ?_;show AR _ _ _ _ _ [0, 1] _;refine za rfl <| za rfl <| ag <| af <| aa ?_;show AR _ _ _ _ _ [0, 1, 2] _;refine zR rfl (ao (i := 0) bP rfl rfl rfl rfl) <| zS rfl (bE bP rfl) <| zm rfl <| ag <| aU <| dk (X := Nat × Int × Int × Int × σ × τ) (fun (n13, y7, y8, y9, y10, t11) => ⟨[(0, .yl o), (1, .pt o1 0), (3, i64 y7), (4, i64 y8), (7, slE (ab Enc.int (ab Enc.str (ab Enc.str (Enc.sl (ab Enc.str Enc.str))))) a2 none), (8, i64 (a2.length : Int)), (9, i64 y9)], [], ([.obj o1 [slE (ab Enc.int (ab Enc.str (ab Enc.str (Enc.sl (ab Enc.str Enc.str))))) a2 none]] ++ T y10 t11)⟩) (fun (n13, y7, y8, y9, y10, t11) => eb a2 k n13 (y7, y8, y9, y10) = some rs) (fun (n13, y7, y8, y9, y10, t11) => n13) (F, 0, 0, 0, st0, tt0) H (WK.atT 1 [0] (.cons (.refl _) (.cons (.refl _) (.cons (.refl _) (.cons (.refl _) (.cons (.refl _) (.cons (.refl _) (.cons (.refl _) (.nil _)))))))) rfl) ?_;rintro ⟨n13, y7, y8, y9, y10, t11⟩ H;obtain ⟨n13, rfl, H⟩ := fC H;replace H : ie a2 k (eb a2 k n13) y7 y8 y9 y10 = some rs := H
 unfold ie at H
 refine af <| aa ?_;show AR _ _ _ _ _ [0] _;refine zS rfl (cd rfl rfl) <| ag <| af <| ax rfl (fun c14 => ?_) (fun c14 => ?_)
 ·replace H := aX c14 H;refine aC <| bL (X := Int × Int × σ × τ) (fun (y25, y26, y27, t28) => ⟨[(0, .yl o), (1, .pt o1 0), (3, i64 y25), (4, i64 y26), (7, slE (ab Enc.int (ab Enc.str (ab Enc.str (Enc.sl (ab Enc.str Enc.str))))) a2 none), (8, i64 (a2.length : Int)), (9, i64 y9)], [], ([.obj o1 [slE (ab Enc.int (ab Enc.str (ab Enc.str (Enc.sl (ab Enc.str Enc.str))))) a2 none]] ++ T y27 t28)⟩) (fun (y25, y26, y27, t28) => cU y9 (eb a2 k n13) y25 y26 y27 = some rs) ?_ ?_
  ·refine aU <| af ?_;obtain ⟨g15, H⟩ := aM H;obtain ⟨x16, e17, H⟩ := bM H;refine aa ?_;show AR _ _ _ _ _ [0, 1, 2, 3, 4, 5] _;refine zm rfl <| zS rfl (dF (E := (ab Enc.int (ab Enc.str (ab Enc.str (Enc.sl (ab Enc.str Enc.str)))))) bP (by kernel_rfl) rfl rfl g15 e17) <| zS rfl (ct Tryz.underlying43 rfl (n := 4) (by kernel_rfl) rfl (ac rfl)) <| zX rfl (bg (zs := [.int .i64 0, .string ⟨#[]⟩, .string ⟨#[]⟩, .slice none 0 0]) (by kernel_rfl)) ?_;rintro _ _ ⟨o18, rfl, rfl⟩;refine za rfl <| s0 rfl rfl (aV (i := 0) (vs := [i64 x16.1, S x16.2.1, S x16.2.2.1, slE (ab Enc.str Enc.str) x16.2.2.2 none]) (by kernel_rfl) rfl rfl (by simp [bA, slE]) rfl (ac rfl)) <| fQ 6 0 rfl rfl ?_;show AR _ _ _ _ _ _ ⟨_, _, ([.obj o1 [slE (ab Enc.int (ab Enc.str (ab Enc.str (Enc.sl (ab Enc.str Enc.str))))) a2 none]] ++ T y10 t11)⟩;refine ag <| af <| aa ?_;show AR _ _ _ _ _ [0, 1] _;refine zS rfl (aP (n := 0) (by kernel_rfl) rfl (ac rfl)) <| zS rfl (aL aK rfl rfl) <| ag <| aU <| af <| aa ?_;show AR _ _ _ _ _ [0, 1] _;refine zS rfl (bJ rfl rfl) <| za rfl <| ag <| ax rfl (fun c19 => ?_) (fun c19 => ?_)
   ·replace H := aX c19 H;refine af ?_;obtain ⟨g20, H⟩ := aM H;refine aa ?_;show AR _ _ _ _ _ [0, 1, 2] _;refine zm rfl <| zS rfl (di rfl rfl g20) <| za rfl <| ag <| af <| aa ?_;show AR _ _ _ _ _ [0, 1] _;refine zm rfl <| zS rfl (bJ rfl rfl) <| ag <| ax rfl (fun c21 => ?_) (fun c21 => ?_)
    ·replace H := aX c21 H;refine aa ?_;show AR _ _ _ _ _ [0, 1] _;refine zm rfl <| za rfl <| ag ?_;exact Exists.intro (y7 + 1, y9, y10, t11) ⟨H, WK.atT 1 [0] (.cons (.refl _) (.cons (.refl _) (.cons (.refl _) (.cons (.refl _) (.cons (.refl _) (.cons (.refl _) (.cons (.refl _) (.nil _)))))))) rfl⟩
    ·replace H := aY c21 H;refine aC ?_;exact Exists.intro (y7 + 1, y8, y10, t11) ⟨H, WK.atT 1 [0] (.cons (.refl _) (.cons (.refl _) (.cons (.refl _) (.cons (.refl _) (.cons (.refl _) (.cons (.refl _) (.cons (.refl _) (.nil _)))))))) rfl⟩
   ·replace H := aY c19 H;refine af <| aa ?_;show AR _ _ _ _ _ [0, 1] _;refine zS rfl (bJ rfl rfl) <| za rfl <| ag <| ax rfl (fun c22 => ?_) (fun c22 => ?_)
    ·replace H := aX c22 H;refine af ?_;obtain ⟨g23, H⟩ := aM H;refine aa ?_;show AR _ _ _ _ _ [0, 1, 2] _;refine zm rfl <| zS rfl (lP rfl rfl g23) <| za rfl <| ag <| af ?_
     rcases aj (decide (y7 - 1 = 1)) with h24 | h24
     ·replace H := aX h24 H;obtain ⟨g25, H⟩ := aM H;obtain ⟨g26, H⟩ := aM H;obtain ⟨g27, H⟩ := aM H;obtain ⟨x28, e29, H⟩ := bM H;obtain ⟨x30, x31, e32, H⟩ := cF H;refine aa ?_;show AR _ _ _ _ _ [0, 1, 2, 3, 4, 5, 6, 7, 8, 9, 10, 11, 12, 13] _;refine zm rfl <| zS rfl (bJ rfl rfl) <| zm rfl <| zU h24 rfl (ah (av := .yl _) rfl) <| zT h24 rfl (ck rfl rfl (ao (i := 0) bP rfl rfl rfl rfl) ?_);refine zM h24 rfl <| zM h24 rfl <| zU h24 rfl (di rfl rfl g25) <| zM h24 rfl <| zU h24 rfl (di rfl rfl g26) <| zU h24 rfl (vS (E := (ab Enc.int (ab Enc.str (ab Enc.str (Enc.sl (ab Enc.str Enc.str)))))) bP (by kernel_rfl) rfl rfl rfl rfl g27 e29) <| zT h24 rfl (AO.yieldT (s' := x30) (b := x31) 1 rfl rfl rfl (hY _ _ _ _ e32) fun t33 => ?_);show AR _ _ _ _ _ _ ⟨_, _, ([.obj o1 [slE (ab Enc.int (ab Enc.str (ab Enc.str (Enc.sl (ab Enc.str Enc.str))))) a2 none]] ++ T x30 t33)⟩;refine zU h24 rfl (bB rfl) <| zS rfl (aD (av := .v _) rfl h24 rfl) <| ag <| ax rfl (fun c34 => ?_) (fun c34 => ?_)
      ·replace H := aX c34 H;refine aG ?_;obtain rfl := ak H;exact And.intro rfl (Exists.intro _ (Exists.intro _ ⟨bj rfl, Sub.atT 1 [0] rfl, t33, rfl, rfl⟩))
      ·replace H := aY c34 H;refine aC ?_;exact Exists.intro (y7 - 1, y8, x30, t33) ⟨H, WK.atT 1 [0] (.cons (.refl _) (.cons (.refl _) (.cons (.refl _) (.cons (.refl _) (.cons (.refl _) (.cons (.refl _) (.cons (.refl _) (.nil _)))))))) rfl⟩
     ·replace H := aY h24 H;refine aa ?_;show AR _ _ _ _ _ [0, 1, 2, 3, 4, 5, 6, 7, 8, 9, 10, 11, 12, 13] _;refine zm rfl <| zS rfl (bJ rfl rfl) <| zm rfl <| zF h24 rfl <| zF h24 rfl <| zF h24 rfl <| zF h24 rfl <| zF h24 rfl <| zF h24 rfl <| zF h24 rfl <| zF h24 rfl <| zF h24 rfl <| zF h24 rfl <| zS rfl (aE (av := .v _) rfl h24 rfl) <| ag <| ax rfl (fun hx => bK hx rfl) (fun _ => ?_);refine aC ?_;exact Exists.intro (y7 - 1, y8, y10, t11) ⟨H, WK.atT 1 [0] (.cons (.refl _) (.cons (.refl _) (.cons (.refl _) (.cons (.refl _) (.cons (.refl _) (.cons (.refl _) (.cons (.refl _) (.nil _)))))))) rfl⟩
    ·replace H := aY c22 H;refine aC ?_;exact Exists.intro (y7, y8, y10, t11) ⟨H, WK.atT 1 [0] (.cons (.refl _) (.cons (.refl _) (.cons (.refl _) (.cons (.refl _) (.cons (.refl _) (.cons (.refl _) (.cons (.refl _) (.nil _)))))))) rfl⟩
  rintro ⟨y25, y26, y27, t28⟩ H;replace H : cU y9 (eb a2 k n13) y25 y26 y27 = some rs := H
  unfold cU at H
  obtain ⟨g30, H⟩ := aM H;refine aa ?_;show AR _ _ _ _ _ [0, 1] _;refine zS rfl (di rfl rfl g30) <| zm rfl <| ag ?_;exact Exists.intro (n13, y25, y26, y9 + 1, y27, t28) ⟨H, Nat.lt_succ_self _, WK.atT 1 [0] (.cons (.refl _) (.cons (.refl _) (.cons (.refl _) (.cons (.refl _) (.cons (.refl _) (.cons (.refl _) (.cons (.refl _) (.nil _)))))))) rfl⟩
 ·replace H := aY c14 H;refine cB ?_;obtain rfl := ak H;exact And.intro rfl (Exists.intro _ (Exists.intro _ ⟨bj rfl, Sub.atT 1 [0] rfl, t11, rfl, rfl⟩))
set_option maxRecDepth 100000 in
set_option maxHeartbeats 1000000 in
theorem jR (F : Nat) (a1 : List (Int × (List UInt8) × (List UInt8) × List ((List UInt8) × List UInt8))) (H : dG F a1 = some ()) : ACalls Tryz.prog 26 [slE (ab Enc.int (ab Enc.str (ab Enc.str (Enc.sl (ab Enc.str Enc.str))))) a1 none] [] (fun e A' => ∃ ob1 : Nat, e = .ret (.fn (.func 41) [] [.pt ob1 0]) ∧ A' = [.obj ob1 [slE (ab Enc.int (ab Enc.str (ab Enc.str (Enc.sl (ab Enc.str Enc.str))))) a1 none]]) := by
 unfold dG at H
 refine ap Tryz.func26 rfl rfl ?_;show AW _ _ 4 _ _ _;refine af <| aa ?_;show AR _ _ _ _ _ [0, 1] _;refine zX rfl (pR rfl (.inl rfl)) ?_;rintro _ _ ⟨o2, rfl, rfl⟩;refine za rfl <| ag <| af <| aa ?_;show AR _ _ _ _ _ [0, 1] _;refine zS rfl (fP rfl rfl) <| zS rfl (aH (av := .fn _ _ _) rfl) <| ag <| aG ?_;exact And.intro rfl (Exists.intro _ (Exists.intro _ ⟨aF rfl (.refl _), aB [0] rfl, o2, rfl, rfl⟩))
set_option maxRecDepth 100000 in
set_option maxHeartbeats 1000000 in
theorem sB (F : Nat) (a1 : List (Int × (List UInt8) × (List UInt8) × List ((List UInt8) × List UInt8))) (q2 : Option Nat) (o3 : Nat) (a4 : List (List UInt8)) (r5 : Bool) (H : kd F a1 a4 = some r5) : ACalls Tryz.prog 39 [slE (ab Enc.int (ab Enc.str (ab Enc.str (Enc.sl (ab Enc.str Enc.str))))) a1 q2, .pt o3 0] [.obj o3 [slE Enc.str a4 none]] (fun e A' => e = .ret (B r5) ∧ A' = [.obj o3 [slE Enc.str a4 none]]) := by
 unfold kd at H
 refine ap Tryz.func39 rfl rfl ?_;show AW _ _ 19 _ _ _;refine af <| aa ?_;show AR _ _ _ _ _ [0] _;refine za rfl <| ag <| af ?_;obtain ⟨g6, H⟩ := aM H;obtain ⟨x7, e8, H⟩ := bM H;obtain ⟨g9, H⟩ := aM H;obtain ⟨x10, e11, H⟩ := bM H;obtain ⟨g12, H⟩ := aM H;obtain ⟨x13, e14, H⟩ := bM H;obtain ⟨x15, e16, H⟩ := bW H;obtain ⟨g17, H⟩ := aM H;obtain ⟨x18, e19, H⟩ := bM H;obtain ⟨g20, H⟩ := aM H;obtain ⟨x21, e22, H⟩ := bM H;obtain ⟨g23, H⟩ := aM H;obtain ⟨x24, e25, H⟩ := bM H;obtain ⟨x27, e28, H⟩ := fM H;obtain ⟨g29, H⟩ := cN H;obtain ⟨x30, e31, H⟩ := bM H;refine aa ?_;show AR _ _ _ _ _ [0, 1, 2, 3, 4, 5, 6, 7, 8, 9, 10, 11, 12, 13, 14, 15] _;refine zR rfl (ao (i := 0) au rfl rfl rfl rfl) <| am rfl rfl (aA rfl en30_fda rfl (show ACalls _ _ _ [] (Ret (S x7) []) from by subst e8; exact pp a4 ([124] : List UInt8) none (pI g6).1 (pI g6).2) ?_);refine zS rfl (mu rfl rfl g9 e11) <| zS rfl (mu rfl rfl g12 e14) <| zS rfl (ah (av := slE _ _ _) rfl) <| am rfl rfl (aA rfl nU rfl (gP F a1 q2 x15 e16) ?_);refine zS rfl (mu rfl rfl g17 e19) <| zS rfl (mu rfl rfl g20 e22) <| am rfl rfl (aA rfl wJ rfl (show ACalls _ _ _ [] (Ret (B x24) []) from by subst e25; exact gS x13 x21 (nb g23)) ?_);refine zm rfl <| aW (l := [15]) 18 (B (x24 && (!x30))) (fun K => ?_) ?_
 ·rcases aj x24 with h26 | h26
  ·refine zU h26 rfl (ah (av := slE _ _ _) rfl) <| zT h26 rfl (aA rfl nU rfl (gP F a1 q2 x27 (e28 h26)) ?_);refine zT h26 rfl (aA rfl wJ rfl (show ACalls _ _ _ [] (Ret (B x30) []) from by subst e31; exact gS x27 ([124] : List UInt8) (nb (g29 h26))) ?_);refine zU h26 rfl (bB rfl) <| zS rfl (aD (av := .v _) rfl h26 rfl) ?_;exact K _ 4 _ (ay (cz h26)) rfl rfl
  ·refine zF h26 rfl <| zF h26 rfl <| zF h26 rfl <| zF h26 rfl <| zS rfl (aE (av := .v _) rfl h26 rfl) ?_;exact K _ 4 _ (ay (cA h26)) rfl rfl
 refine za rfl <| ag <| aG ?_;obtain rfl := ak H;exact And.intro rfl (Exists.intro _ (Exists.intro _ ⟨aF rfl (.refl _), aB [0] rfl, rfl, rfl⟩))
set_option maxRecDepth 100000 in
set_option maxHeartbeats 1000000 in
theorem vB (F : Nat) (a1 : List (Int × (List UInt8) × (List UInt8) × List ((List UInt8) × List UInt8))) (q2 : Option Nat) (r3 : Bool) (H : mA F a1 = some r3) : ACalls Tryz.prog 149 [slE (ab Enc.int (ab Enc.str (ab Enc.str (Enc.sl (ab Enc.str Enc.str))))) a1 q2] [] (Ret (B r3) []) := by
 unfold mA at H
 refine ap Tryz.func149 rfl rfl ?_;show AW _ _ 6 _ _ _;refine af <| aa ?_;show AR _ _ _ _ _ [0] _;refine za rfl <| ag <| af ?_;obtain ⟨x4, e5, H⟩ := bW H;refine aa ?_;show AR _ _ _ _ _ [0, 1, 2, 3] _;refine zS rfl (ah (av := slE _ _ _) rfl) <| am rfl rfl (aA rfl nU rfl (gP F a1 q2 x4 e5) ?_);refine zS rfl (dr rfl rfl) <| za rfl <| ag <| aG ?_;obtain rfl := ak H;exact And.intro rfl (Exists.intro _ (Exists.intro _ ⟨aF rfl (.refl _), aB [] rfl, rfl, rfl⟩))
set_option maxRecDepth 100000 in
set_option maxHeartbeats 1000000 in
theorem sD (F : Nat) (a1 : List (Int × (List UInt8) × (List UInt8) × List ((List UInt8) × List UInt8))) (q2 : Option Nat) (r3 : Bool) (H : kf F a1 = some r3) : ACalls Tryz.prog 153 [slE (ab Enc.int (ab Enc.str (ab Enc.str (Enc.sl (ab Enc.str Enc.str))))) a1 q2] [] (Ret (B r3) []) := by
 unfold kf at H
 refine ap Tryz.func153 rfl rfl ?_;show AW _ _ 21 _ _ _;refine af <| aa ?_;show AR _ _ _ _ _ [0] _;refine za rfl <| ag <| af ?_;obtain ⟨x4, x5, e6, H⟩ := cF H;refine aa ?_;show AR _ _ _ _ _ [0, 1, 2, 3, 4, 5, 6] _;refine zS rfl (ah (av := slE _ _ _) rfl) <| am rfl rfl (aA rfl zW rfl (qw F a1 q2 ([114, 101, 108] : List UInt8) x4 x5 e6) ?_);refine zS rfl (ah (av := .tup _) rfl) <| zS rfl (az (av := .v _) rfl rfl) <| zS rfl (az (av := .v _) rfl rfl) <| za rfl <| za rfl <| ag <| af ?_;obtain ⟨x7, e8, H⟩ := bW H;refine aa ?_;show AR _ _ _ _ _ [0, 1, 2, 3, 4, 5, 6, 7, 8, 9, 10, 11] _;refine zS rfl (ah (av := slE _ _ _) rfl) <| am rfl rfl (aA rfl nU rfl (gP F a1 q2 x7 e8) ?_);refine zS rfl (dr rfl rfl) <| zm rfl <| aW (l := [11]) 20 (B ((decide (x7 = ([108, 105, 110, 107] : List UInt8))) && ((!x5) || (decide (x4 = ([97, 108, 116, 101, 114, 110, 97, 116, 101] : List UInt8)))))) (fun K => ?_) ?_
 ·rcases aj (decide (x7 = ([108, 105, 110, 107] : List UInt8))) with h9 | h9
  ·refine zM h9 rfl <| zU h9 rfl (bB rfl) <| zM h9 rfl <| aW (l := [10, 11]) 19 (B ((!x5) || (decide (x4 = ([97, 108, 116, 101, 114, 110, 97, 116, 101] : List UInt8))))) (fun K => ?_) ?_
   ·rcases aj (!x5) with h10 | h10
    ·refine zF h10 rfl <| zF h10 rfl <| zU h9 rfl (aD (av := .v _) rfl h10 rfl) ?_;exact K _ 2 _ (ay (jA h10)) rfl rfl
    ·refine zM h10 rfl <| zU h10 rfl (dr rfl rfl) <| zU h9 rfl (aE (av := .v _) rfl h10 rfl) ?_;exact K _ 2 _ (ay (jB h10)) rfl rfl
   refine zS rfl (aD (av := .v _) rfl h9 rfl) ?_;exact K _ 4 _ (ay (cz h9)) rfl rfl
  ·refine zF h9 rfl <| zF h9 rfl <| zF h9 rfl <| gU rfl rfl rfl rfl rfl <| gU rfl rfl rfl rfl rfl <| zF h9 rfl <| zS rfl (aE (av := .v _) rfl h9 rfl) ?_;exact K _ 6 _ (ay (cA h9)) rfl rfl
 refine za rfl <| ag <| aG ?_;obtain rfl := ak H;exact And.intro rfl (Exists.intro _ (Exists.intro _ ⟨aF rfl (.refl _), aB [] rfl, rfl, rfl⟩))
abbrev _root_.Go.Av.ei := @Tryz.underlying4
set_option maxRecDepth 100000 in
set_option maxHeartbeats 1000000 in
theorem uB (F : Nat) (a1 : List (Int × (List UInt8) × (List UInt8) × List ((List UInt8) × List UInt8))) (q2 : Option Nat) (o3 : Nat) (a4 : List (List UInt8)) (r5 : List (Int × (List UInt8) × (List UInt8) × List ((List UInt8) × List UInt8))) (r6 : Bool) (H : lj F a1 a4 = some (r5, r6)) : ACalls Tryz.prog 38 [slE (ab Enc.int (ab Enc.str (ab Enc.str (Enc.sl (ab Enc.str Enc.str))))) a1 q2, .fn (.func 39) [] [.pt o3 0]] [.obj o3 [slE Enc.str a4 none]] (fun e A' => e = .ret (.tup [slE (ab Enc.int (ab Enc.str (ab Enc.str (Enc.sl (ab Enc.str Enc.str))))) r5 none, B r6]) ∧ A' = [.obj o3 [slE Enc.str a4 none]]) := by
 unfold lj at H
 refine ir Tryz.func38 rfl rfl ?_;show AW _ _ 14 _ _ _;refine af <| aa ?_;show AR _ _ _ _ _ [0, 1, 2] _;refine zR rfl (dQ rfl (.inl rfl)) <| zX rfl (bg (zs := [.slice none 0 0]) (by kernel_rfl)) ?_;rintro _ _ ⟨o7, rfl, rfl⟩;refine zX rfl (bg (zs := [.bool false]) (by kernel_rfl)) ?_;rintro _ _ ⟨o8, rfl, rfl⟩;refine ag <| iZ (b := slE (ab Enc.int (ab Enc.str (ab Enc.str (Enc.sl (ab Enc.str Enc.str))))) ([] : List (Int × (List UInt8) × (List UInt8) × List ((List UInt8) × List UInt8))) none) 1 0 rfl rfl (.nil _) ?_;show AW _ _ _ _ _ ⟨_, _, [.obj o8 [B false], .obj o7 [slE (ab Enc.int (ab Enc.str (ab Enc.str (Enc.sl (ab Enc.str Enc.str))))) ([] : List (Int × (List UInt8) × (List UInt8) × List ((List UInt8) × List UInt8))) none], .obj o3 [slE Enc.str a4 none]]⟩;refine bL (X := Nat × Bool × (List (Int × (List UInt8) × (List UInt8) × List ((List UInt8) × List UInt8)))) (fun (t24, y25, y26) => ⟨[(4, .pt o7 0), (5, .pt o8 0)], [.mark t24], [.obj o8 [B y25], .obj o7 [slE (ab Enc.int (ab Enc.str (ab Enc.str (Enc.sl (ab Enc.str Enc.str))))) y26 none], .obj o3 [slE Enc.str a4 none], .db t24]⟩) (fun (t24, y25, y26) => ig y25 y26 = some (r5, r6)) ?_ ?_
 ·refine af ?_;obtain ⟨_, e9, H⟩ := bW H;refine aa ?_;show AR _ _ _ _ _ [0, 1] _;refine zS rfl (ah (av := slE _ _ _) rfl) <| am rfl rfl (aQ [] rfl sg rfl (mL (.cons (.tok _ _ _) (.nil)) (jR F a1 e9)) rfl (fun c A' h => by obtain ⟨_, h, _⟩ := h; cases h) ?_)
  rintro av A' ⟨o10, h, rfl⟩; cases h
  refine ag <| aU ?_;obtain ⟨x20, e21, H⟩ := bW H;refine AW.rangeK (α := List (Int × (List UInt8) × (List UInt8) × List ((List UInt8) × List UInt8))) (σ := Bool × (List (Int × (List UInt8) × (List UInt8) × List ((List UInt8) × List UInt8))) × Nat) (τ := Unit) (fun x => [slE (ab Enc.int (ab Enc.str (ab Enc.str (Enc.sl (ab Enc.str Enc.str))))) x none]) (fun s t => [.obj o8 [B s.1], .obj o7 [slE (ab Enc.int (ab Enc.str (ab Enc.str (Enc.sl (ab Enc.str Enc.str))))) s.2.1 none], .obj o3 [slE Enc.str a4 none]]) (fun s => jat [.ret] s.2.2) (fun s x => gi F a4 s.1 s.2.1 s.2.2 x) (false, ([] : List (Int × (List UInt8) × (List UInt8) × List ((List UInt8) × List UInt8))), 0) () x20 [0] [0, 0, 0] rfl sf (fun _ => rfl) (by decide) rfl rfl rfl (fun o T' hY => kL F T' _ o hY _ _ o10 a1 x20 e21) ?_ ?_
  ·rintro l ⟨y11, y12, z13⟩ _ x15 rv H;replace H : gi F a4 y11 y12 z13 x15 = some rv := H
   unfold gi at H
   obtain ⟨g19, H⟩ := aM H;obtain rfl := of_decide_eq_true g19;refine ⟨rfl, ?_⟩;show AW _ _ _ _ _ ⟨(9, slE (ab Enc.int (ab Enc.str (ab Enc.str (Enc.sl (ab Enc.str Enc.str))))) x15 none) :: _, [], _⟩;refine aa ?_;show AR _ _ _ _ _ [0] _;refine zS rfl (aH (av := slE _ _ _) rfl) <| ag <| aU <| af ?_;obtain ⟨x16, e17, H⟩ := bW H;refine aa ?_;show AR _ _ _ _ _ [0, 1, 2] _;refine zS rfl (aL Tryz.underlying87 rfl rfl) <| zS rfl (ah (av := slE _ _ _) rfl) <| am rfl rfl (fu [2] rfl (.inl rfl) en39_fda rfl (sB F x15 none o3 a4 x16 e17) rfl (fun c A' h => by cases h.1) ?_)
   rintro av A' ⟨h, rfl⟩; cases h
   refine ag <| ax rfl (fun c18 => ?_) (fun c18 => ?_)
   ·replace H := aX c18 H;refine af <| aa ?_;show AR _ _ _ _ _ [0, 1, 2] _;refine zS rfl (ah (av := slE _ _ _) rfl) <| s0 rfl rfl (aq (i := 2) (c := slE _ _ _) (by kernel_rfl) rfl rfl rfl rfl (ac rfl)) <| s0 rfl rfl (aq (i := 1) (c := .v _) (by kernel_rfl) rfl rfl rfl rfl (ac rfl)) <| ag <| aG ?_;obtain rfl := ak H;exact ⟨rfl, rfl, (), aB [1, 1, 0] rfl⟩
   ·replace H := aY c18 H;refine aC ?_;obtain rfl := ak H;exact ⟨rfl, rfl, (), aB [1, 1, 0] rfl⟩
  rintro o22 _
  generalize hzz23 : x20.2.2 = z23 at H ⊢
  rcases bifz H with ⟨rfl, H⟩ | ⟨hz0, H⟩
  ·exact Exists.intro (o22, x20.1, x20.2.1) ⟨H, be [2, 2, 2, 0] (.cons (.refl _) (.cons (.refl _) (.nil _))) rfl⟩
  rcases bifz H with ⟨rfl, H⟩ | ⟨hz1, H⟩
  ·refine aG ?_;obtain ⟨rfl, rfl⟩ := dw H;exact Exists.intro _ (And.intro (Unmark.at 0 rfl (.nil _)) (Exists.intro _ (Exists.intro _ ⟨dh (bD rfl (bn (c := slE _ _ _) 2 bP rfl rfl rfl rfl) (bn (c := .v _) 1 ei rfl rfl rfl rfl)), aB [3] rfl, rfl, rfl⟩)))
  exact vo H
 rintro ⟨t24, y25, y26⟩ H;replace H : ig y25 y26 = some (r5, r6) := H
 unfold ig at H
 refine af <| aa ?_;show AR _ _ _ _ _ [0, 1] _;refine s0 rfl rfl (aq (i := 1) (c := .v _) (by kernel_rfl) rfl rfl rfl rfl (ac rfl)) <| s0 rfl rfl (aq (i := 0) (c := .v _) (by kernel_rfl) rfl rfl rfl rfl (ac rfl)) <| ag <| iZ (b := slE (ab Enc.int (ab Enc.str (ab Enc.str (Enc.sl (ab Enc.str Enc.str))))) ([] : List (Int × (List UInt8) × (List UInt8) × List ((List UInt8) × List UInt8))) none) 1 0 rfl rfl (.nil _) ?_;show AW _ _ _ _ _ ⟨_, _, [.obj o8 [B false], .obj o7 [slE (ab Enc.int (ab Enc.str (ab Enc.str (Enc.sl (ab Enc.str Enc.str))))) ([] : List (Int × (List UInt8) × (List UInt8) × List ((List UInt8) × List UInt8))) none], .obj o3 [slE Enc.str a4 none], .db t24]⟩;refine aG ?_;obtain ⟨rfl, rfl⟩ := dw H;exact Exists.intro _ (And.intro (Unmark.at 3 rfl (.nil _)) (Exists.intro _ (Exists.intro _ ⟨dh (bD rfl (bn (c := slE _ _ _) 1 bP rfl rfl rfl rfl) (bn (c := .v _) 0 ei rfl rfl rfl rfl)), aB [2] rfl, rfl, rfl⟩)))
set_option maxRecDepth 100000 in
set_option maxHeartbeats 1000000 in
theorem uC (F : Nat) (a1 : List (Int × (List UInt8) × (List UInt8) × List ((List UInt8) × List UInt8))) (q2 : Option Nat) (r3 : List (Int × (List UInt8) × (List UInt8) × List ((List UInt8) × List UInt8))) (r4 : Bool) (H : lk F a1 = some (r3, r4)) : ACalls Tryz.prog 38 [slE (ab Enc.int (ab Enc.str (ab Enc.str (Enc.sl (ab Enc.str Enc.str))))) a1 q2, .v (.func (.func 149) #[] #[])] [] (Ret (.tup [slE (ab Enc.int (ab Enc.str (ab Enc.str (Enc.sl (ab Enc.str Enc.str))))) r3 none, B r4]) []) := by
 unfold lk at H
 refine ir Tryz.func38 rfl rfl ?_;show AW _ _ 14 _ _ _;refine af <| aa ?_;show AR _ _ _ _ _ [0, 1, 2] _;refine zR rfl (dQ rfl (.inl rfl)) <| zX rfl (bg (zs := [.slice none 0 0]) (by kernel_rfl)) ?_;rintro _ _ ⟨o5, rfl, rfl⟩;refine zX rfl (bg (zs := [.bool false]) (by kernel_rfl)) ?_;rintro _ _ ⟨o6, rfl, rfl⟩;refine ag <| iZ (b := slE (ab Enc.int (ab Enc.str (ab Enc.str (Enc.sl (ab Enc.str Enc.str))))) ([] : List (Int × (List UInt8) × (List UInt8) × List ((List UInt8) × List UInt8))) none) 1 0 rfl rfl (.nil _) ?_;show AW _ _ _ _ _ ⟨_, _, [.obj o6 [B false], .obj o5 [slE (ab Enc.int (ab Enc.str (ab Enc.str (Enc.sl (ab Enc.str Enc.str))))) ([] : List (Int × (List UInt8) × (List UInt8) × List ((List UInt8) × List UInt8))) none]]⟩;refine bL (X := Nat × Bool × (List (Int × (List UInt8) × (List UInt8) × List ((List UInt8) × List UInt8)))) (fun (t22, y23, y24) => ⟨[(4, .pt o5 0), (5, .pt o6 0)], [.mark t22], [.obj o6 [B y23], .obj o5 [slE (ab Enc.int (ab Enc.str (ab Enc.str (Enc.sl (ab Enc.str Enc.str))))) y24 none], .db t22]⟩) (fun (t22, y23, y24) => ii y23 y24 = some (r3, r4)) ?_ ?_
 ·refine af ?_;obtain ⟨_, e7, H⟩ := bW H;refine aa ?_;show AR _ _ _ _ _ [0, 1] _;refine zS rfl (ah (av := slE _ _ _) rfl) <| am rfl rfl (aQ [] rfl sg rfl (mL (.cons (.tok _ _ _) (.nil)) (jR F a1 e7)) rfl (fun c A' h => by obtain ⟨_, h, _⟩ := h; cases h) ?_)
  rintro av A' ⟨o8, h, rfl⟩; cases h
  refine ag <| aU ?_;obtain ⟨x18, e19, H⟩ := bW H;refine AW.rangeK (α := List (Int × (List UInt8) × (List UInt8) × List ((List UInt8) × List UInt8))) (σ := Bool × (List (Int × (List UInt8) × (List UInt8) × List ((List UInt8) × List UInt8))) × Nat) (τ := Unit) (fun x => [slE (ab Enc.int (ab Enc.str (ab Enc.str (Enc.sl (ab Enc.str Enc.str))))) x none]) (fun s t => [.obj o6 [B s.1], .obj o5 [slE (ab Enc.int (ab Enc.str (ab Enc.str (Enc.sl (ab Enc.str Enc.str))))) s.2.1 none]]) (fun s => jat [.ret] s.2.2) (fun s x => gj F s.1 s.2.1 s.2.2 x) (false, ([] : List (Int × (List UInt8) × (List UInt8) × List ((List UInt8) × List UInt8))), 0) () x18 [0] [0, 0] rfl sf (fun _ => rfl) (by decide) rfl rfl rfl (fun o T' hY => kL F T' _ o hY _ _ o8 a1 x18 e19) ?_ ?_
  ·rintro l ⟨y9, y10, z11⟩ _ x13 rv H;replace H : gj F y9 y10 z11 x13 = some rv := H
   unfold gj at H
   obtain ⟨g17, H⟩ := aM H;obtain rfl := of_decide_eq_true g17;refine ⟨rfl, ?_⟩;show AW _ _ _ _ _ ⟨(9, slE (ab Enc.int (ab Enc.str (ab Enc.str (Enc.sl (ab Enc.str Enc.str))))) x13 none) :: _, [], _⟩;refine aa ?_;show AR _ _ _ _ _ [0] _;refine zS rfl (aH (av := slE _ _ _) rfl) <| ag <| aU <| af ?_;obtain ⟨x14, e15, H⟩ := bW H;refine aa ?_;show AR _ _ _ _ _ [0, 1, 2] _;refine zS rfl (aL Tryz.underlying87 rfl rfl) <| zS rfl (ah (av := slE _ _ _) rfl) <| am rfl rfl (AO.callFp rfl (.inr ⟨rfl, rfl, rfl⟩) Ac rfl (vB F x13 none x14 e15) ?_);refine ag <| ax rfl (fun c16 => ?_) (fun c16 => ?_)
   ·replace H := aX c16 H;refine af <| aa ?_;show AR _ _ _ _ _ [0, 1, 2] _;refine zS rfl (ah (av := slE _ _ _) rfl) <| s0 rfl rfl (aq (i := 1) (c := slE _ _ _) (by kernel_rfl) rfl rfl rfl rfl (ac rfl)) <| s0 rfl rfl (aq (i := 0) (c := .v _) (by kernel_rfl) rfl rfl rfl rfl (ac rfl)) <| ag <| aG ?_;obtain rfl := ak H;exact ⟨rfl, rfl, (), aB [0, 0] rfl⟩
   ·replace H := aY c16 H;refine aC ?_;obtain rfl := ak H;exact ⟨rfl, rfl, (), aB [0, 0] rfl⟩
  rintro o20 _
  generalize hzz21 : x18.2.2 = z21 at H ⊢
  rcases bifz H with ⟨rfl, H⟩ | ⟨hz0, H⟩
  ·exact Exists.intro (o20, x18.1, x18.2.1) ⟨H, be [2, 2, 0] (.cons (.refl _) (.cons (.refl _) (.nil _))) rfl⟩
  rcases bifz H with ⟨rfl, H⟩ | ⟨hz1, H⟩
  ·refine aG ?_;obtain ⟨rfl, rfl⟩ := dw H;exact Exists.intro _ (And.intro (Unmark.at 0 rfl (.nil _)) (Exists.intro _ (Exists.intro _ ⟨dh (bD rfl (bn (c := slE _ _ _) 2 bP rfl rfl rfl rfl) (bn (c := .v _) 1 ei rfl rfl rfl rfl)), aB [] rfl, rfl, rfl⟩)))
  exact vo H
 rintro ⟨t22, y23, y24⟩ H;replace H : ii y23 y24 = some (r3, r4) := H
 unfold ii at H
 refine af <| aa ?_;show AR _ _ _ _ _ [0, 1] _;refine s0 rfl rfl (aq (i := 1) (c := .v _) (by kernel_rfl) rfl rfl rfl rfl (ac rfl)) <| s0 rfl rfl (aq (i := 0) (c := .v _) (by kernel_rfl) rfl rfl rfl rfl (ac rfl)) <| ag <| iZ (b := slE (ab Enc.int (ab Enc.str (ab Enc.str (Enc.sl (ab Enc.str Enc.str))))) ([] : List (Int × (List UInt8) × (List UInt8) × List ((List UInt8) × List UInt8))) none) 1 0 rfl rfl (.nil _) ?_;show AW _ _ _ _ _ ⟨_, _, [.obj o6 [B false], .obj o5 [slE (ab Enc.int (ab Enc.str (ab Enc.str (Enc.sl (ab Enc.str Enc.str))))) ([] : List (Int × (List UInt8) × (List UInt8) × List ((List UInt8) × List UInt8))) none], .db t22]⟩;refine aG ?_;obtain ⟨rfl, rfl⟩ := dw H;exact Exists.intro _ (And.intro (Unmark.at 2 rfl (.nil _)) (Exists.intro _ (Exists.intro _ ⟨dh (bD rfl (bn (c := slE _ _ _) 1 bP rfl rfl rfl rfl) (bn (c := .v _) 0 ei rfl rfl rfl rfl)), aB [] rfl, rfl, rfl⟩)))
set_option maxRecDepth 100000 in
set_option maxHeartbeats 1000000 in
theorem uD (F : Nat) (a1 : List (Int × (List UInt8) × (List UInt8) × List ((List UInt8) × List UInt8))) (q2 : Option Nat) (r3 : List (Int × (List UInt8) × (List UInt8) × List ((List UInt8) × List UInt8))) (r4 : Bool) (H : ll F a1 = some (r3, r4)) : ACalls Tryz.prog 38 [slE (ab Enc.int (ab Enc.str (ab Enc.str (Enc.sl (ab Enc.str Enc.str))))) a1 q2, .v (.func (.func 153) #[] #[])] [] (Ret (.tup [slE (ab Enc.int (ab Enc.str (ab Enc.str (Enc.sl (ab Enc.str Enc.str))))) r3 none, B r4]) []) := by
 unfold ll at H
 refine ir Tryz.func38 rfl rfl ?_;show AW _ _ 14 _ _ _;refine af <| aa ?_;show AR _ _ _ _ _ [0, 1, 2] _;refine zR rfl (dQ rfl (.inl rfl)) <| zX rfl (bg (zs := [.slice none 0 0]) (by kernel_rfl)) ?_;rintro _ _ ⟨o5, rfl, rfl⟩;refine zX rfl (bg (zs := [.bool false]) (by kernel_rfl)) ?_;rintro _ _ ⟨o6, rfl, rfl⟩;refine ag <| iZ (b := slE (ab Enc.int (ab Enc.str (ab Enc.str (Enc.sl (ab Enc.str Enc.str))))) ([] : List (Int × (List UInt8) × (List UInt8) × List ((List UInt8) × List UInt8))) none) 1 0 rfl rfl (.nil _) ?_;show AW _ _ _ _ _ ⟨_, _, [.obj o6 [B false], .obj o5 [slE (ab Enc.int (ab Enc.str (ab Enc.str (Enc.sl (ab Enc.str Enc.str))))) ([] : List (Int × (List UInt8) × (List UInt8) × List ((List UInt8) × List UInt8))) none]]⟩;refine bL (X := Nat × Bool × (List (Int × (List UInt8) × (List UInt8) × List ((List UInt8) × List UInt8)))) (fun (t22, y23, y24) => ⟨[(4, .pt o5 0), (5, .pt o6 0)], [.mark t22], [.obj o6 [B y23], .obj o5 [slE (ab Enc.int (ab Enc.str (ab Enc.str (Enc.sl (ab Enc.str Enc.str))))) y24 none], .db t22]⟩) (fun (t22, y23, y24) => ij y23 y24 = some (r3, r4)) ?_ ?_
 ·refine af ?_;obtain ⟨_, e7, H⟩ := bW H;refine aa ?_;show AR _ _ _ _ _ [0, 1] _;refine zS rfl (ah (av := slE _ _ _) rfl) <| am rfl rfl (aQ [] rfl sg rfl (mL (.cons (.tok _ _ _) (.nil)) (jR F a1 e7)) rfl (fun c A' h => by obtain ⟨_, h, _⟩ := h; cases h) ?_)
  rintro av A' ⟨o8, h, rfl⟩; cases h
  refine ag <| aU ?_;obtain ⟨x18, e19, H⟩ := bW H;refine AW.rangeK (α := List (Int × (List UInt8) × (List UInt8) × List ((List UInt8) × List UInt8))) (σ := Bool × (List (Int × (List UInt8) × (List UInt8) × List ((List UInt8) × List UInt8))) × Nat) (τ := Unit) (fun x => [slE (ab Enc.int (ab Enc.str (ab Enc.str (Enc.sl (ab Enc.str Enc.str))))) x none]) (fun s t => [.obj o6 [B s.1], .obj o5 [slE (ab Enc.int (ab Enc.str (ab Enc.str (Enc.sl (ab Enc.str Enc.str))))) s.2.1 none]]) (fun s => jat [.ret] s.2.2) (fun s x => gk F s.1 s.2.1 s.2.2 x) (false, ([] : List (Int × (List UInt8) × (List UInt8) × List ((List UInt8) × List UInt8))), 0) () x18 [0] [0, 0] rfl sf (fun _ => rfl) (by decide) rfl rfl rfl (fun o T' hY => kL F T' _ o hY _ _ o8 a1 x18 e19) ?_ ?_
  ·rintro l ⟨y9, y10, z11⟩ _ x13 rv H;replace H : gk F y9 y10 z11 x13 = some rv := H
   unfold gk at H
   obtain ⟨g17, H⟩ := aM H;obtain rfl := of_decide_eq_true g17;refine ⟨rfl, ?_⟩;show AW _ _ _ _ _ ⟨(9, slE (ab Enc.int (ab Enc.str (ab Enc.str (Enc.sl (ab Enc.str Enc.str))))) x13 none) :: _, [], _⟩;refine aa ?_;show AR _ _ _ _ _ [0] _;refine zS rfl (aH (av := slE _ _ _) rfl) <| ag <| aU <| af ?_;obtain ⟨x14, e15, H⟩ := bW H;refine aa ?_;show AR _ _ _ _ _ [0, 1, 2] _;refine zS rfl (aL Tryz.underlying87 rfl rfl) <| zS rfl (ah (av := slE _ _ _) rfl) <| am rfl rfl (AO.callFp rfl (.inr ⟨rfl, rfl, rfl⟩) zY rfl (sD F x13 none x14 e15) ?_);refine ag <| ax rfl (fun c16 => ?_) (fun c16 => ?_)
   ·replace H := aX c16 H;refine af <| aa ?_;show AR _ _ _ _ _ [0, 1, 2] _;refine zS rfl (ah (av := slE _ _ _) rfl) <| s0 rfl rfl (aq (i := 1) (c := slE _ _ _) (by kernel_rfl) rfl rfl rfl rfl (ac rfl)) <| s0 rfl rfl (aq (i := 0) (c := .v _) (by kernel_rfl) rfl rfl rfl rfl (ac rfl)) <| ag <| aG ?_;obtain rfl := ak H;exact ⟨rfl, rfl, (), aB [0, 0] rfl⟩
   ·replace H := aY c16 H;refine aC ?_;obtain rfl := ak H;exact ⟨rfl, rfl, (), aB [0, 0] rfl⟩
  rintro o20 _
  generalize hzz21 : x18.2.2 = z21 at H ⊢
  rcases bifz H with ⟨rfl, H⟩ | ⟨hz0, H⟩
  ·exact Exists.intro (o20, x18.1, x18.2.1) ⟨H, be [2, 2, 0] (.cons (.refl _) (.cons (.refl _) (.nil _))) rfl⟩
  rcases bifz H with ⟨rfl, H⟩ | ⟨hz1, H⟩
  ·refine aG ?_;obtain ⟨rfl, rfl⟩ := dw H;exact Exists.intro _ (And.intro (Unmark.at 0 rfl (.nil _)) (Exists.intro _ (Exists.intro _ ⟨dh (bD rfl (bn (c := slE _ _ _) 2 bP rfl rfl rfl rfl) (bn (c := .v _) 1 ei rfl rfl rfl rfl)), aB [] rfl, rfl, rfl⟩)))
  exact vo H
 rintro ⟨t22, y23, y24⟩ H;replace H : ij y23 y24 = some (r3, r4) := H
 unfold ij at H
 refine af <| aa ?_;show AR _ _ _ _ _ [0, 1] _;refine s0 rfl rfl (aq (i := 1) (c := .v _) (by kernel_rfl) rfl rfl rfl rfl (ac rfl)) <| s0 rfl rfl (aq (i := 0) (c := .v _) (by kernel_rfl) rfl rfl rfl rfl (ac rfl)) <| ag <| iZ (b := slE (ab Enc.int (ab Enc.str (ab Enc.str (Enc.sl (ab Enc.str Enc.str))))) ([] : List (Int × (List UInt8) × (List UInt8) × List ((List UInt8) × List UInt8))) none) 1 0 rfl rfl (.nil _) ?_;show AW _ _ _ _ _ ⟨_, _, [.obj o6 [B false], .obj o5 [slE (ab Enc.int (ab Enc.str (ab Enc.str (Enc.sl (ab Enc.str Enc.str))))) ([] : List (Int × (List UInt8) × (List UInt8) × List ((List UInt8) × List UInt8))) none], .db t22]⟩;refine aG ?_;obtain ⟨rfl, rfl⟩ := dw H;exact Exists.intro _ (And.intro (Unmark.at 2 rfl (.nil _)) (Exists.intro _ (Exists.intro _ ⟨dh (bD rfl (bn (c := slE _ _ _) 1 bP rfl rfl rfl rfl) (bn (c := .v _) 0 ei rfl rfl rfl rfl)), aB [] rfl, rfl, rfl⟩)))
set_option maxRecDepth 100000 in
set_option maxHeartbeats 1000000 in
theorem dV (F : Nat) (a1 : List (Int × (List UInt8) × (List UInt8) × List ((List UInt8) × List UInt8))) (q2 : Option Nat) (a3 : List (List UInt8)) (r4 : List UInt8) (H : cX F a1 a3 = some r4) : ACalls Tryz.prog 25 [slE (ab Enc.int (ab Enc.str (ab Enc.str (Enc.sl (ab Enc.str Enc.str))))) a1 q2, slE Enc.str a3 none] [] (Ret (S r4) []) := by
 unfold cX at H
 refine ap Tryz.func25 rfl rfl ?_;show AW _ _ 15 _ _ _;refine af <| aa ?_;show AR _ _ _ _ _ [0, 1] _;refine zX rfl (pR rfl (.inl rfl)) ?_;rintro _ _ ⟨o5, rfl, rfl⟩;refine za rfl <| ag <| af ?_;obtain ⟨x6, x7, e8, H⟩ := cF H;refine aa ?_;show AR _ _ _ _ _ [0, 1, 2, 3, 4, 5, 6, 7] _;refine zS rfl (ah (av := slE _ _ _) rfl) <| zS rfl (fP rfl rfl) <| am rfl rfl (aQ [0] rfl en38_fda rfl (uB F a1 q2 o5 a3 x6 x7 e8) rfl (fun c A' h => by cases h.1) ?_)
 rintro av A' ⟨h, rfl⟩; cases h
 refine zS rfl (ah (av := .tup _) rfl) <| zS rfl (az (av := slE _ _ _) rfl rfl) <| zS rfl (az (av := .v _) rfl rfl) <| zS rfl (aH (av := slE _ _ _) rfl) <| za rfl <| ag <| af ?_;obtain ⟨x9, e10, H⟩ := bW H;refine aa ?_;show AR _ _ _ _ _ [0, 1, 2] _;refine zS rfl (ah (av := slE _ _ _) rfl) <| am rfl rfl (aA rfl en13_fda rfl (pn F x6 none x9 e10) ?_);refine za rfl <| ag <| aG ?_;obtain rfl := ak H;exact And.intro rfl (Exists.intro _ (Exists.intro _ ⟨aF rfl (.refl _), aB [] rfl, rfl, rfl⟩))
end Go.Proofs.YtkbfjepffpddfaaGreatDoor
namespace Go.Pv
def ln (F : Nat) (a1 : Int) : Option Bool :=
grd (fJ a1 4) <|
fv (decide (a1 % 4 = 0)) (fJ a1 100) <|
fv ((decide (a1 % 4 = 0)) && (!(!decide (a1 % 100 = 0)))) (fJ a1 400) <|
some ((decide (a1 % 4 = 0)) && ((!decide (a1 % 100 = 0)) || (decide (a1 % 400 = 0))))
def od (F : Nat) (a2 : Int) (a4 : Int) (a5 : Int) (a6 : Int) (a7 : Int) (a8 : Int) (a9 : Int) (a10 : Int) (a11 : Int) (a12 : Int) (a13 : Int) (a14 : Int) (a15 : Int) (a16 : Int) : Option Int :=
bnd (ln F a2) fun x18 =>
bif x18 then
  grd (okI (a6 + 1)) <|
  some (a6 + 1)
else
  some a6
def jW (F : Nat) (a1 : Int) : Option (Int × Int × Int × Int × Int × Int × Int × Int × Int × Int × Int × Int × Int) :=
bnd (od F a1 0 31 28 31 30 31 30 31 31 30 31 30 31) fun x18 =>
some (0, 31, x18, 31, 30, 31, 30, 31, 31, 30, 31, 30, 31)
def lq (F : Nat) (a1 : Int) (a2 : Int) : Option Int :=
bif (decide (a2 < 1)) || (decide (12 < a2)) then
  some 0
else
  bnd (jW F a1) fun x6 =>
  grd (dq a2 13) <|
  lt (at_ ([x6.1, x6.2.1, x6.2.2.1, x6.2.2.2.1, x6.2.2.2.2.1, x6.2.2.2.2.2.1, x6.2.2.2.2.2.2.1, x6.2.2.2.2.2.2.2.1, x6.2.2.2.2.2.2.2.2.1, x6.2.2.2.2.2.2.2.2.2.1, x6.2.2.2.2.2.2.2.2.2.2.1, x6.2.2.2.2.2.2.2.2.2.2.2.1, x6.2.2.2.2.2.2.2.2.2.2.2.2] : List Int) a2) fun x9 =>
  some x9
def dP (a3 : Int) (y8 : Int) (y9 : Int) : Option Int :=
grd (fJ y8 400) <|
grd (okI (146097 * (y8 / 400))) <|
grd (fJ y8 400) <|
grd (okI (365 * (y8 % 400))) <|
grd (okI ((146097 * (y8 / 400)) + (365 * (y8 % 400)))) <|
grd (fJ y8 400) <|
grd (fJ (y8 % 400) 4) <|
grd (okI (((146097 * (y8 / 400)) + (365 * (y8 % 400))) + ((y8 % 400) / 4))) <|
grd (fJ y8 400) <|
grd (fJ (y8 % 400) 100) <|
grd (okI ((((146097 * (y8 / 400)) + (365 * (y8 % 400))) + ((y8 % 400) / 4)) - ((y8 % 400) / 100))) <|
grd (okI (y9 - 3)) <|
grd (okI (153 * (y9 - 3))) <|
grd (okI ((153 * (y9 - 3)) + 2)) <|
grd (fJ ((153 * (y9 - 3)) + 2) 5) <|
grd (okI (((((146097 * (y8 / 400)) + (365 * (y8 % 400))) + ((y8 % 400) / 4)) - ((y8 % 400) / 100)) + (((153 * (y9 - 3)) + 2) / 5))) <|
grd (okI ((((((146097 * (y8 / 400)) + (365 * (y8 % 400))) + ((y8 % 400) / 4)) - ((y8 % 400) / 100)) + (((153 * (y9 - 3)) + 2) / 5)) + a3)) <|
grd (okI (((((((146097 * (y8 / 400)) + (365 * (y8 % 400))) + ((y8 % 400) / 4)) - ((y8 % 400) / 100)) + (((153 * (y9 - 3)) + 2) / 5)) + a3) - 1)) <|
grd (okI ((((((((146097 * (y8 / 400)) + (365 * (y8 % 400))) + ((y8 % 400) / 4)) - ((y8 % 400) / 100)) + (((153 * (y9 - 3)) + 2) / 5)) + a3) - 1) - 719468)) <|
some ((((((((146097 * (y8 / 400)) + (365 * (y8 % 400))) + ((y8 % 400) / 4)) - ((y8 % 400) / 100)) + (((153 * (y9 - 3)) + 2) / 5)) + a3) - 1) - 719468)
def jr (F : Nat) (a1 : Int) (a2 : Int) (a3 : Int) : Option Int :=
bif decide (a2 ≤ 2) then
  grd (okI (a1 - 1)) <|
  grd (okI (a2 + 12)) <|
  dP a3 (a1 - 1) (a2 + 12)
else
  dP a3 a1 a2
def kZ (F : Nat) (a1 : Int) (a2 : Int) (a3 : Int) : Option (Int × Int) :=
lE (!(((decide (a1 < 1)) || (decide (9999 < a1))) || (decide (a3 < 1)))) (lq F a1 a2) fun x9 =>
bif (((decide (a1 < 1)) || (decide (9999 < a1))) || (decide (a3 < 1))) || (decide (x9 < a3)) then
  some (0, 1)
else
  bnd (jr F a1 a2 a3) fun x12 =>
  some (x12, 0)
def ju (F : Nat) (a1 : Int) (a2 : Int) : Option Bool :=
some ((decide (0 ≤ a1)) && (decide (a1 < a2)))
def nV (F : Nat) (a1 : Int) (a2 : Int) (a3 : Int) (a4 : Int) (a5 : Int) (a6 : Int) : Option Bool :=
fy (kZ F a1 a2 a3) fun x8 x9 =>
lE (decide (x9 = 0)) (ju F a4 24) fun x12 =>
lE ((decide (x9 = 0)) && x12) (ju F a5 60) fun x15 =>
lE (((decide (x9 = 0)) && x12) && x15) (ju F a6 60) fun x18 =>
some ((((decide (x9 = 0)) && x12) && x15) && x18)
end Go.Pv
namespace Go.Proofs.YtkbfjepffpddfaaGreatDoor
open Go.RowKit Go.Av Go.Pv
theorem qp : ∀ (args : Array Value) (w : World), (callFunc 165 args).run Tryz.prog w = .ok (.enter 165 args) w := fun _ _ => by kernel_rfl
theorem zL : ∀ (args : Array Value) (w : World), (callFunc 167 args).run Tryz.prog w = .ok (.enter 167 args) w := fun _ _ => by kernel_rfl
theorem zJ : ∀ (args : Array Value) (w : World), (callFunc 168 args).run Tryz.prog w = .ok (.enter 168 args) w := fun _ _ => by kernel_rfl
theorem zI : ∀ (args : Array Value) (w : World), (callFunc 169 args).run Tryz.prog w = .ok (.enter 169 args) w := fun _ _ => by kernel_rfl
theorem zH : ∀ (args : Array Value) (w : World), (callFunc 170 args).run Tryz.prog w = .ok (.enter 170 args) w := fun _ _ => by kernel_rfl
theorem zG : ∀ (args : Array Value) (w : World), (callFunc 171 args).run Tryz.prog w = .ok (.enter 171 args) w := fun _ _ => by kernel_rfl
theorem zE : ∀ (args : Array Value) (w : World), (callFunc 172 args).run Tryz.prog w = .ok (.enter 172 args) w := fun _ _ => by kernel_rfl
set_option maxRecDepth 100000 in
set_option maxHeartbeats 1000000 in
theorem uF (F : Nat) (a1 : Int) (r2 : Bool) (H : ln F a1 = some r2) : ACalls Tryz.prog 172 [i64 a1] [] (Ret (B r2) []) := by
 unfold ln at H
 refine ap Tryz.func172 rfl rfl ?_;show AW _ _ 16 _ _ _;refine af <| aa ?_;show AR _ _ _ _ _ [0] _;refine za rfl <| ag <| af ?_;obtain ⟨g3, H⟩ := aM H;obtain ⟨g5, H⟩ := cN H;obtain ⟨g7, H⟩ := cN H;refine aa ?_;show AR _ _ _ _ _ [0, 1, 2, 3, 4, 5, 6, 7, 8, 9, 10, 11, 12, 13] _;refine zm rfl <| zS rfl (uT rfl rfl g3) <| zS rfl (bJ rfl rfl) <| zm rfl <| aW (l := [13]) 15 (B ((decide (a1 % 4 = 0)) && ((!decide (a1 % 100 = 0)) || (decide (a1 % 400 = 0))))) (fun K => ?_) ?_
 ·rcases aj (decide (a1 % 4 = 0)) with h4 | h4
  ·refine zM h4 rfl <| zU h4 rfl (uT rfl rfl (g5 h4)) <| zU h4 rfl (mb rfl rfl) <| zM h4 rfl <| aW (l := [12, 13]) 14 (B ((!decide (a1 % 100 = 0)) || (decide (a1 % 400 = 0)))) (fun K => ?_) ?_
   ·rcases aj (!decide (a1 % 100 = 0)) with h6 | h6
    ·refine zF h6 rfl <| zF h6 rfl <| zF h6 rfl <| zU h4 rfl (aD (av := .v _) rfl h6 rfl) ?_;exact K _ 3 _ (ay (jA h6)) rfl rfl
    ·refine zM h6 rfl <| zU h6 rfl (uT rfl rfl (g7 (mn h4 (nf h6)))) <| zU h6 rfl (bJ rfl rfl) <| zU h4 rfl (aE (av := .v _) rfl h6 rfl) ?_;exact K _ 3 _ (ay (jB h6)) rfl rfl
   refine zS rfl (aD (av := .v _) rfl h4 rfl) ?_;exact K _ 5 _ (ay (cz h4)) rfl rfl
  ·refine zF h4 rfl <| zF h4 rfl <| zF h4 rfl <| zF h4 rfl <| gU rfl rfl rfl rfl rfl <| gU rfl rfl rfl rfl rfl <| gU rfl rfl rfl rfl rfl <| zF h4 rfl <| zS rfl (aE (av := .v _) rfl h4 rfl) ?_;exact K _ 8 _ (ay (cA h4)) rfl rfl
 refine za rfl <| ag <| aG ?_;obtain rfl := ak H;exact And.intro rfl (Exists.intro _ (Exists.intro _ ⟨aF rfl (.refl _), aB [] rfl, rfl, rfl⟩))
abbrev _root_.Go.Av.eC := @Tryz.underlying198
set_option maxRecDepth 100000 in
set_option maxHeartbeats 1000000 in
theorem vF (F : Nat) (o1 : Nat) (a2 : Int) (o3 : Nat) (a4 : Int) (a5 : Int) (a6 : Int) (a7 : Int) (a8 : Int) (a9 : Int) (a10 : Int) (a11 : Int) (a12 : Int) (a13 : Int) (a14 : Int) (a15 : Int) (a16 : Int) (r17 : Int) (H : od F a2 a4 a5 a6 a7 a8 a9 a10 a11 a12 a13 a14 a15 a16 = some r17) : ACalls Tryz.prog 171 [.pt o1 0, .pt o3 0] [.obj o1 [i64 a2], .obj o3 [i64 a4, i64 a5, i64 a6, i64 a7, i64 a8, i64 a9, i64 a10, i64 a11, i64 a12, i64 a13, i64 a14, i64 a15, i64 a16]] (fun e A' => e = .ret (.tup []) ∧ A' = [.obj o1 [i64 a2], .obj o3 [i64 a4, i64 a5, i64 r17, i64 a7, i64 a8, i64 a9, i64 a10, i64 a11, i64 a12, i64 a13, i64 a14, i64 a15, i64 a16]]) := by
 unfold od at H
 refine ap Tryz.func171 rfl rfl ?_;show AW _ _ 8 _ _ _;refine af ?_;obtain ⟨x18, e19, H⟩ := bW H;refine aa ?_;show AR _ _ _ _ _ [0, 1] _;refine zR rfl (ao (i := 0) aK rfl rfl rfl rfl) <| am rfl rfl (aA rfl zE rfl (uF F a2 x18 e19) ?_);refine ag <| ax rfl (fun c20 => ?_) (fun c20 => ?_)
 ·replace H := aX c20 H;obtain ⟨g21, H⟩ := aM H;refine aa ?_;show AR _ _ _ _ _ [0, 1, 2, 3, 4] _;refine zS rfl (lG (Ar := 0) (k := 1) (m := 2) eC (by kernel_rfl) rfl rfl rfl (by decide)) <| zR rfl (ao (i := 1) aK rfl rfl rfl rfl) <| zS rfl (di rfl rfl g21) <| zS rfl (lG (Ar := 0) (k := 1) (m := 2) eC (by kernel_rfl) rfl rfl rfl (by decide)) <| s0 rfl rfl (aq (i := 1) (c := .v _) (by kernel_rfl) rfl rfl rfl rfl (ac rfl)) <| ag ?_;obtain rfl := ak H;exact And.intro rfl (Exists.intro _ (Exists.intro _ ⟨bj rfl, aB [0, 0] rfl, rfl, rfl⟩))
 ·replace H := aY c20 H;refine aC ?_;obtain rfl := ak H;exact And.intro rfl (Exists.intro _ (Exists.intro _ ⟨bj rfl, aB [0, 0] rfl, rfl, rfl⟩))
set_option maxRecDepth 100000 in
set_option maxHeartbeats 1000000 in
theorem qY (F : Nat) (a1 : Int) (r2 : Int) (r3 : Int) (r4 : Int) (r5 : Int) (r6 : Int) (r7 : Int) (r8 : Int) (r9 : Int) (r10 : Int) (r11 : Int) (r12 : Int) (r13 : Int) (r14 : Int) (H : jW F a1 = some (r2, r3, r4, r5, r6, r7, r8, r9, r10, r11, r12, r13, r14)) : ACalls Tryz.prog 170 [i64 a1] [] (Ret (.agg [i64 r2, i64 r3, i64 r4, i64 r5, i64 r6, i64 r7, i64 r8, i64 r9, i64 r10, i64 r11, i64 r12, i64 r13, i64 r14]) []) := by
 unfold jW at H
 refine ap Tryz.func170 rfl rfl ?_;show AW _ _ 10 _ _ _;refine af <| aa ?_;show AR _ _ _ _ _ [0, 1] _;refine zX rfl (pR rfl (.inl rfl)) ?_;rintro _ _ ⟨o15, rfl, rfl⟩;refine zX rfl (bg (zs := [.int .i64 0, .int .i64 0, .int .i64 0, .int .i64 0, .int .i64 0, .int .i64 0, .int .i64 0, .int .i64 0, .int .i64 0, .int .i64 0, .int .i64 0, .int .i64 0, .int .i64 0]) (by kernel_rfl)) ?_;rintro _ _ ⟨o16, rfl, rfl⟩;refine ag <| af <| aa ?_;show AR _ _ _ _ _ [0, 1, 2] _;refine zS rfl (xt (zs := [.int .i64 0, .int .i64 0, .int .i64 0, .int .i64 0, .int .i64 0, .int .i64 0, .int .i64 0, .int .i64 0, .int .i64 0, .int .i64 0, .int .i64 0, .int .i64 0, .int .i64 0]) (k := 1) (cs := [i64 0, i64 31, i64 28, i64 31, i64 30, i64 31, i64 30, i64 31, i64 31, i64 30, i64 31, i64 30, i64 31]) eC (by kernel_rfl) (by kernel_rfl) rfl rfl (by kernel_rfl)) <| zX rfl (bg (zs := [.int .i64 0, .int .i64 0, .int .i64 0, .int .i64 0, .int .i64 0, .int .i64 0, .int .i64 0, .int .i64 0, .int .i64 0, .int .i64 0, .int .i64 0, .int .i64 0, .int .i64 0]) (by kernel_rfl)) ?_;rintro _ _ ⟨o17, rfl, rfl⟩;refine s0 rfl rfl (aV (i := 0) (vs := [i64 0, i64 31, i64 28, i64 31, i64 30, i64 31, i64 30, i64 31, i64 31, i64 30, i64 31, i64 30, i64 31]) (by kernel_rfl) rfl rfl (by simp [bA, slE]) rfl (ac rfl)) <| ag <| af <| aa ?_;show AR _ _ _ _ _ [0, 1] _;refine zS rfl (fP rfl rfl) <| zS rfl (aH (av := .fn _ _ _) rfl) <| ag <| af ?_;obtain ⟨x18, e19, H⟩ := bW H
 refine aa ?_;show AR _ _ _ _ _ [0, 1] _;refine zS rfl (ah (av := .fn _ _ _) rfl) <| am rfl rfl (fu [2, 0] rfl (.inl rfl) zG rfl (vF F o15 a1 o17 0 31 28 31 30 31 30 31 31 30 31 30 31 x18 e19) rfl (fun c A' h => by cases h.1) ?_)
 rintro av A' ⟨h, rfl⟩; cases h
 refine ag <| af <| aa ?_;show AR _ _ _ _ _ [0, 1] _;refine zR rfl (dY (i := 1) (n := 13) eC rfl (by kernel_rfl) rfl rfl (ac rfl)) <| s0 rfl rfl (aV (i := 2) (vs := [i64 0, i64 31, i64 x18, i64 31, i64 30, i64 31, i64 30, i64 31, i64 31, i64 30, i64 31, i64 30, i64 31]) (by kernel_rfl) rfl rfl (by simp [bA, slE]) rfl (ac rfl)) <| ag <| aG ?_;obtain ⟨rfl, rfl, rfl, rfl, rfl, rfl, rfl, rfl, rfl, rfl, rfl, rfl, rfl⟩ := res13 H;exact And.intro rfl (Exists.intro _ (Exists.intro _ ⟨dh (lM rfl (CellV.agg (off := 0) (cs := [i64 0, i64 31, i64 x18, i64 31, i64 30, i64 31, i64 30, i64 31, i64 31, i64 30, i64 31, i64 30, i64 31]) (n := 13) 2 eC rfl (by kernel_rfl) rfl rfl (ac rfl))), aB [] rfl, rfl, rfl⟩))
set_option maxRecDepth 100000 in
set_option maxHeartbeats 1000000 in
theorem uG (F : Nat) (a1 : Int) (a2 : Int) (r3 : Int) (H : lq F a1 a2 = some r3) : ACalls Tryz.prog 168 [i64 a1, i64 a2] [] (Ret (i64 r3) []) := by
 unfold lq at H
 refine ap Tryz.func168 rfl rfl ?_;show AW _ _ 15 _ _ _;refine af <| aa ?_;show AR _ _ _ _ _ [0] _;refine za rfl <| ag <| af <| af <| aa ?_;show AR _ _ _ _ _ [0, 1, 2, 3, 4, 5] _;refine zm rfl <| zS rfl (cd rfl rfl) <| zm rfl <| aW (l := []) 10 (B ((decide (a2 < 1)) || (decide (12 < a2)))) (fun K => ?_) ?_
 ·rcases aj (decide (a2 < 1)) with h4 | h4
  ·refine zF h4 rfl <| zF h4 rfl <| zS rfl (aD (av := .v _) rfl h4 rfl) ?_;exact K _ 2 _ (ay (jA h4)) rfl rfl
  ·refine zM h4 rfl <| zU h4 rfl (gp rfl rfl) <| zS rfl (aE (av := .v _) rfl h4 rfl) ?_;exact K _ 2 _ (ay (jB h4)) rfl rfl
 refine ag <| ax rfl (fun c5 => ?_) (fun c5 => ?_)
 ·replace H := aX c5 H;refine af <| aa ?_;show AR _ _ _ _ _ [0] _;refine za rfl <| ag <| aG ?_;obtain rfl := ak H;exact And.intro rfl (Exists.intro _ (Exists.intro _ ⟨aF rfl (.refl _), aB [] rfl, rfl, rfl⟩))
 ·replace H := aY c5 H;refine aC <| af ?_;obtain ⟨x6, e7, H⟩ := bW H;obtain ⟨g8, H⟩ := aM H;obtain ⟨x9, e10, H⟩ := bM H;refine aa ?_;show AR _ _ _ _ _ [0, 1, 2, 3, 4] _;refine zm rfl <| am rfl rfl (aA rfl zH rfl (qY F a1 x6.1 x6.2.1 x6.2.2.1 x6.2.2.2.1 x6.2.2.2.2.1 x6.2.2.2.2.2.1 x6.2.2.2.2.2.2.1 x6.2.2.2.2.2.2.2.1 x6.2.2.2.2.2.2.2.2.1 x6.2.2.2.2.2.2.2.2.2.1 x6.2.2.2.2.2.2.2.2.2.2.1 x6.2.2.2.2.2.2.2.2.2.2.2.1 x6.2.2.2.2.2.2.2.2.2.2.2.2 e7) ?_);refine zm rfl <| zS rfl (sL (E := Enc.int) (l := ([x6.1, x6.2.1, x6.2.2.1, x6.2.2.2.1, x6.2.2.2.2.1, x6.2.2.2.2.2.1, x6.2.2.2.2.2.2.1, x6.2.2.2.2.2.2.2.1, x6.2.2.2.2.2.2.2.2.1, x6.2.2.2.2.2.2.2.2.2.1, x6.2.2.2.2.2.2.2.2.2.2.1, x6.2.2.2.2.2.2.2.2.2.2.2.1, x6.2.2.2.2.2.2.2.2.2.2.2.2] : List Int)) rfl eC aK rfl (by kernel_rfl) rfl rfl rfl g8 e10 rfl) <| za rfl <| ag <| aG ?_;obtain rfl := ak H;exact And.intro rfl (Exists.intro _ (Exists.intro _ ⟨aF rfl (.refl _), aB [] rfl, rfl, rfl⟩))
set_option maxRecDepth 100000 in
set_option maxHeartbeats 1000000 in
theorem rC (F : Nat) (a1 : Int) (a2 : Int) (a3 : Int) (r4 : Int) (H : jr F a1 a2 a3 = some r4) : ACalls Tryz.prog 169 [i64 a1, i64 a2, i64 a3] [] (Ret (i64 r4) []) := by
 unfold jr at H
 refine ap Tryz.func169 rfl rfl ?_;show AW _ _ 38 _ _ _;refine af <| aa ?_;show AR _ _ _ _ _ [0] _;refine za rfl <| ag <| bL (X := Int × Int) (fun (y8, y9) => ⟨[(0, i64 y8), (1, i64 y9), (2, i64 a3)], [], []⟩) (fun (y8, y9) => dP a3 y8 y9 = some r4) ?_ ?_
 ·refine af <| aa ?_;show AR _ _ _ _ _ [0, 1] _;refine zm rfl <| zS rfl (fL rfl rfl) <| ag <| ax rfl (fun c5 => ?_) (fun c5 => ?_)
  ·replace H := aX c5 H;refine af ?_;obtain ⟨g6, H⟩ := aM H;refine aa ?_;show AR _ _ _ _ _ [0, 1, 2] _;refine zm rfl <| zS rfl (lP rfl rfl g6) <| za rfl <| ag ?_;obtain ⟨g7, H⟩ := aM H;refine aa ?_;show AR _ _ _ _ _ [0, 1, 2] _;refine zm rfl <| zS rfl (di rfl rfl g7) <| za rfl <| ag ?_;exact Exists.intro (a1 - 1, a2 + 12) ⟨H, be [] (.cons (.refl _) (.cons (.refl _) (.cons (.refl _) (.nil _)))) rfl⟩
  ·replace H := aY c5 H;refine aC ?_;exact Exists.intro (a1, a2) ⟨H, be [] (.cons (.refl _) (.cons (.refl _) (.cons (.refl _) (.nil _)))) rfl⟩
 rintro ⟨y8, y9⟩ H;replace H : dP a3 y8 y9 = some r4 := H
 unfold dP at H
 refine af ?_;obtain ⟨g11, H⟩ := aM H;obtain ⟨g12, H⟩ := aM H;obtain ⟨g13, H⟩ := aM H;obtain ⟨g14, H⟩ := aM H;obtain ⟨g15, H⟩ := aM H;obtain ⟨g16, H⟩ := aM H;obtain ⟨g17, H⟩ := aM H;obtain ⟨g18, H⟩ := aM H;obtain ⟨g19, H⟩ := aM H;obtain ⟨g20, H⟩ := aM H;obtain ⟨g21, H⟩ := aM H;obtain ⟨g22, H⟩ := aM H;obtain ⟨g23, H⟩ := aM H;obtain ⟨g24, H⟩ := aM H;obtain ⟨g25, H⟩ := aM H;obtain ⟨g26, H⟩ := aM H;obtain ⟨g27, H⟩ := aM H;obtain ⟨g28, H⟩ := aM H;obtain ⟨g29, H⟩ := aM H;refine aa ?_;show AR _ _ _ _ _ [0, 1, 2, 3, 4, 5, 6, 7, 8, 9, 10, 11, 12, 13, 14, 15, 16, 17, 18, 19, 20, 21, 22, 23, 24, 25] _;refine zm rfl <| zS rfl (g_quo rfl rfl g11) <| zS rfl (ox rfl rfl g12) <| zm rfl <| zS rfl (uT rfl rfl g13) <| zS rfl (ox rfl rfl g14) <| zS rfl (di rfl rfl g15) <| zm rfl <| zS rfl (uT rfl rfl g16) <| zS rfl (g_quo rfl rfl g17) <| zS rfl (di rfl rfl g18) <| zm rfl <| zS rfl (uT rfl rfl g19) <| zS rfl (g_quo rfl rfl g20) <| zS rfl (lP rfl rfl g21) <| zm rfl <| zS rfl (lP rfl rfl g22) <| zS rfl (ox rfl rfl g23) <| zS rfl (di rfl rfl g24) <| zS rfl (g_quo rfl rfl g25) <| zS rfl (di rfl rfl g26) <| zm rfl <| zS rfl (di rfl rfl g27) <| zS rfl (lP rfl rfl g28) <| zS rfl (lP rfl rfl g29) <| za rfl <| ag <| aG ?_;obtain rfl := ak H;exact And.intro rfl (Exists.intro _ (Exists.intro _ ⟨aF rfl (.refl _), aB [] rfl, rfl, rfl⟩))
set_option maxRecDepth 100000 in
set_option maxHeartbeats 1000000 in
theorem qx (F : Nat) (a1 : Int) (a2 : Int) (a3 : Int) (r4 : Int) (r5 : Int) (H : kZ F a1 a2 a3 = some (r4, r5)) : ACalls Tryz.prog 167 [i64 a1, i64 a2, i64 a3] [] (Ret (.tup [i64 r4, i64 r5]) []) := by
 unfold kZ at H
 refine ap Tryz.func167 rfl rfl ?_;show AW _ _ 29 _ _ _;refine af <| aa ?_;show AR _ _ _ _ _ [0, 1] _;refine za rfl <| za rfl <| ag <| af <| af ?_;obtain ⟨x9, e10, H⟩ := fM H;refine aa ?_;show AR _ _ _ _ _ [0, 1, 2, 3, 4, 5, 6, 7, 8, 9, 10, 11, 12, 13, 14, 15, 16] _;refine zm rfl <| zS rfl (cd rfl rfl) <| zm rfl <| aW (l := [6, 7, 8, 9, 10, 11, 12, 13, 14, 15, 16]) 13 (B ((decide (a1 < 1)) || (decide (9999 < a1)))) (fun K => ?_) ?_
 ·rcases aj (decide (a1 < 1)) with h6 | h6
  ·refine zF h6 rfl <| zF h6 rfl <| zS rfl (aD (av := .v _) rfl h6 rfl) ?_;exact K _ 2 _ (ay (jA h6)) rfl rfl
  ·refine zM h6 rfl <| zU h6 rfl (gp rfl rfl) <| zS rfl (aE (av := .v _) rfl h6 rfl) ?_;exact K _ 2 _ (ay (jB h6)) rfl rfl
 refine zm rfl <| aW (l := [10, 11, 12, 13, 14, 15, 16]) 17 (B (((decide (a1 < 1)) || (decide (9999 < a1))) || (decide (a3 < 1)))) (fun K => ?_) ?_
 ·rcases aj ((decide (a1 < 1)) || (decide (9999 < a1))) with h7 | h7
  ·refine zF h7 rfl <| zF h7 rfl <| zS rfl (aD (av := .v _) rfl h7 rfl) ?_;exact K _ 2 _ (ay (jA h7)) rfl rfl
  ·refine zM h7 rfl <| zU h7 rfl (cd rfl rfl) <| zS rfl (aE (av := .v _) rfl h7 rfl) ?_;exact K _ 2 _ (ay (jB h7)) rfl rfl
 refine zm rfl <| aW (l := []) 24 (B ((((decide (a1 < 1)) || (decide (9999 < a1))) || (decide (a3 < 1))) || (decide (x9 < a3)))) (fun K => ?_) ?_
 ·rcases aj (((decide (a1 < 1)) || (decide (9999 < a1))) || (decide (a3 < 1))) with h8 | h8
  ·refine zF h8 rfl <| zF h8 rfl <| zF h8 rfl <| zF h8 rfl <| zF h8 rfl <| zS rfl (aD (av := .v _) rfl h8 rfl) ?_;exact K _ 5 _ (ay (jA h8)) rfl rfl
  ·refine zM h8 rfl <| zM h8 rfl <| zM h8 rfl <| zT h8 rfl (aA rfl zJ rfl (uG F a1 a2 x9 (e10 (nf h8))) ?_);refine zU h8 rfl (gp rfl rfl) <| zS rfl (aE (av := .v _) rfl h8 rfl) ?_;exact K _ 5 _ (ay (jB h8)) rfl rfl
 refine ag <| ax rfl (fun c11 => ?_) (fun c11 => ?_)
 ·replace H := aX c11 H;refine af <| aa ?_;show AR _ _ _ _ _ [0, 1] _;refine za rfl <| za rfl <| ag <| aG ?_;obtain ⟨rfl, rfl⟩ := dw H;exact And.intro rfl (Exists.intro _ (Exists.intro _ ⟨bk rfl (.refl _) (.refl _), aB [] rfl, rfl, rfl⟩))
 ·replace H := aY c11 H;refine aC <| af ?_;obtain ⟨x12, e13, H⟩ := bW H;refine aa ?_;show AR _ _ _ _ _ [0, 1, 2, 3, 4, 5] _;refine zm rfl <| zm rfl <| zm rfl <| am rfl rfl (aA rfl zI rfl (rC F a1 a2 a3 x12 e13) ?_);refine za rfl <| za rfl <| ag <| aG ?_;obtain ⟨rfl, rfl⟩ := dw H;exact And.intro rfl (Exists.intro _ (Exists.intro _ ⟨bk rfl (.refl _) (.refl _), aB [] rfl, rfl, rfl⟩))
set_option maxRecDepth 100000 in
set_option maxHeartbeats 1000000 in
theorem lf (F : Nat) (a1 : Int) (a2 : Int) (r3 : Bool) (H : ju F a1 a2 = some r3) : ACalls Tryz.prog 165 [i64 a1, i64 a2] [] (Ret (B r3) []) := by
 unfold ju at H
 refine ap Tryz.func165 rfl rfl ?_;show AW _ _ 12 _ _ _;refine af <| aa ?_;show AR _ _ _ _ _ [0] _;refine za rfl <| ag <| af <| aa ?_;show AR _ _ _ _ _ [0, 1, 2, 3, 4, 5, 6, 7] _;refine zm rfl <| zS rfl (fB rfl rfl) <| zm rfl <| aW (l := [7]) 11 (B ((decide (0 ≤ a1)) && (decide (a1 < a2)))) (fun K => ?_) ?_
 ·rcases aj (decide (0 ≤ a1)) with h4 | h4
  ·refine zM h4 rfl <| zM h4 rfl <| zU h4 rfl (cd rfl rfl) <| zS rfl (aD (av := .v _) rfl h4 rfl) ?_;exact K _ 3 _ (ay (cz h4)) rfl rfl
  ·refine zF h4 rfl <| zF h4 rfl <| zF h4 rfl <| zS rfl (aE (av := .v _) rfl h4 rfl) ?_;exact K _ 3 _ (ay (cA h4)) rfl rfl
 refine za rfl <| ag <| aG ?_;obtain rfl := ak H;exact And.intro rfl (Exists.intro _ (Exists.intro _ ⟨aF rfl (.refl _), aB [] rfl, rfl, rfl⟩))
set_option maxRecDepth 100000 in
set_option maxHeartbeats 1000000 in
theorem vz (F : Nat) (a1 : Int) (a2 : Int) (a3 : Int) (a4 : Int) (a5 : Int) (a6 : Int) (r7 : Bool) (H : nV F a1 a2 a3 a4 a5 a6 = some r7) : ACalls Tryz.prog 166 [.agg [i64 a1, i64 a2, i64 a3, i64 a4, i64 a5, i64 a6]] [] (Ret (B r7) []) := by
 unfold nV at H
 refine ap Tryz.func166 rfl rfl ?_;show AW _ _ 32 _ _ _;refine af <| aa ?_;show AR _ _ _ _ _ [0, 1] _;refine zR rfl (dQ rfl (.inr ⟨_, rfl⟩)) <| za rfl <| ag <| af ?_;obtain ⟨x8, x9, e10, H⟩ := cF H;refine aa ?_;show AR _ _ _ _ _ [0, 1, 2, 3, 4, 5, 6, 7, 8, 9, 10, 11] _;refine zS rfl (aP (n := 0) (by kernel_rfl) rfl (ac rfl)) <| zS rfl (aL aK rfl rfl) <| zS rfl (aP (n := 1) (by kernel_rfl) rfl (ac rfl)) <| zS rfl (aL aK rfl rfl) <| zS rfl (aP (n := 2) (by kernel_rfl) rfl (ac rfl)) <| zS rfl (aL aK rfl rfl) <| am rfl rfl (aA rfl zL rfl (qx F a1 a2 a3 x8 x9 e10) ?_);refine zS rfl (ah (av := .tup _) rfl) <| zS rfl (az (av := .v _) rfl rfl) <| zS rfl (az (av := .v _) rfl rfl) <| za rfl <| za rfl <| ag <| af ?_;obtain ⟨x12, e13, H⟩ := fM H;obtain ⟨x15, e16, H⟩ := fM H;obtain ⟨x18, e19, H⟩ := fM H;refine aa ?_;show AR _ _ _ _ _ [0, 1, 2, 3, 4, 5, 6, 7, 8, 9, 10, 11, 12, 13, 14, 15, 16, 17] _;refine zm rfl <| zS rfl (bJ rfl rfl) <| zm rfl <| aW (l := [7, 8, 9, 10, 11, 12, 13, 14, 15, 16, 17]) 21 (B ((decide (x9 = 0)) && x12)) (fun K => ?_) ?_
 ·rcases aj (decide (x9 = 0)) with h11 | h11
  ·refine zU h11 rfl (aP (n := 3) (by kernel_rfl) rfl (ac rfl)) <| zU h11 rfl (aL aK rfl rfl) <| zT h11 rfl (aA rfl qp rfl (lf F a4 24 x12 (e13 h11)) ?_);refine zS rfl (aD (av := .v _) rfl h11 rfl) ?_;exact K _ 3 _ (ay (cz h11)) rfl rfl
  ·refine zF h11 rfl <| zF h11 rfl <| zF h11 rfl <| zS rfl (aE (av := .v _) rfl h11 rfl) ?_;exact K _ 3 _ (ay (cA h11)) rfl rfl
 refine zm rfl <| aW (l := [12, 13, 14, 15, 16, 17]) 26 (B (((decide (x9 = 0)) && x12) && x15)) (fun K => ?_) ?_
 ·rcases aj ((decide (x9 = 0)) && x12) with h14 | h14
  ·refine zU h14 rfl (aP (n := 4) (by kernel_rfl) rfl (ac rfl)) <| zU h14 rfl (aL aK rfl rfl) <| zT h14 rfl (aA rfl qp rfl (lf F a5 60 x15 (e16 h14)) ?_);refine zS rfl (aD (av := .v _) rfl h14 rfl) ?_;exact K _ 3 _ (ay (cz h14)) rfl rfl
  ·refine zF h14 rfl <| zF h14 rfl <| zF h14 rfl <| zS rfl (aE (av := .v _) rfl h14 rfl) ?_;exact K _ 3 _ (ay (cA h14)) rfl rfl
 refine zm rfl <| aW (l := [17]) 31 (B ((((decide (x9 = 0)) && x12) && x15) && x18)) (fun K => ?_) ?_
 ·rcases aj (((decide (x9 = 0)) && x12) && x15) with h17 | h17
  ·refine zU h17 rfl (aP (n := 5) (by kernel_rfl) rfl (ac rfl)) <| zU h17 rfl (aL aK rfl rfl) <| zT h17 rfl (aA rfl qp rfl (lf F a6 60 x18 (e19 h17)) ?_);refine zS rfl (aD (av := .v _) rfl h17 rfl) ?_;exact K _ 3 _ (ay (cz h17)) rfl rfl
  ·refine zF h17 rfl <| zF h17 rfl <| zF h17 rfl <| zS rfl (aE (av := .v _) rfl h17 rfl) ?_;exact K _ 3 _ (ay (cA h17)) rfl rfl
 refine za rfl <| ag <| aG ?_;obtain rfl := ak H;exact And.intro rfl (Exists.intro _ (Exists.intro _ ⟨aF rfl (.refl _), aB [] rfl, rfl, rfl⟩))
end Go.Proofs.YtkbfjepffpddfaaGreatDoor
namespace Go.Pv
def jh (F : Nat) (a1 : List UInt8) (a2 : List UInt8) : Option Bool :=
fv (decide ((a2.length : Int) ≤ (a1.length : Int))) (kF (a2.length : Int) a1.length) <|
lt (to_ a1 (a2.length : Int)) fun x6 =>
some ((decide ((a2.length : Int) ≤ (a1.length : Int))) && (decide (x6 = a2)))
def jS (F : Nat) (a1 : List UInt8) (a2 : List UInt8) : Option Bool :=
bnd (jh F a1 a2) fun x4 =>
some x4
def nN (F : Nat) (a1 : Int) (a2 : Int) (a3 : Int) (a4 : Int) (a5 : Int) (a6 : Int) : Option (Int × Int) :=
bnd (nV F a1 a2 a3 a4 a5 a6) fun x9 =>
bif !x9 then
  some (0, 1)
else
  fy (kZ F a1 a2 a3) fun x12 x13 =>
  grd (okI (x12 * 86400)) <|
  grd (okI (a4 * 3600)) <|
  grd (okI ((x12 * 86400) + (a4 * 3600))) <|
  grd (okI (a5 * 60)) <|
  grd (okI (((x12 * 86400) + (a4 * 3600)) + (a5 * 60))) <|
  grd (okI ((((x12 * 86400) + (a4 * 3600)) + (a5 * 60)) + a6)) <|
  some ((((x12 * 86400) + (a4 * 3600)) + (a5 * 60)) + a6, x13)
def gg (a2 : List UInt8) (a3 : Int) : Option (Res ((List UInt8) × (List UInt8))) :=
grd (kF a3 a2.length) <|
lt (to_ a2 a3) fun x9 =>
grd (kF a3 a2.length) <|
lt (cV a2 a3) fun x12 =>
some (Res.ok (x9, x12))
def fg (F : Nat) (a2 : List UInt8) (a3 : Int) : Option (Res ((List UInt8) × (List UInt8))) :=
bif decide ((a2.length : Int) < a3) then
  some (Res.pan 0)
else
  gg a2 a3
def iq (y25 : Int) (y26 : List UInt8) : Option (Res (Int × (List UInt8))) :=
some (Res.ok (y25, y26))
def fX (y11 : Int) (y12 : Int) (x17 : UInt8) (rec13 : (Int × Int) → Option (Res (Int × (List UInt8)))) : Option (Res (Int × (List UInt8))) :=
grd (okI (y11 * 10)) <|
grd (okI ((y11 * 10) + ((x17 - 48).toNat : Int))) <|
grd (okI (y12 + 1)) <|
rec13 ((y11 * 10) + ((x17 - 48).toNat : Int), y12 + 1)
def fY (x6 : (List UInt8) × (List UInt8)) (rec13 : (Int × Int) → Option (Res (Int × (List UInt8)))) (y11 : Int) (y12 : Int) : Option (Res (Int × (List UInt8))) :=
bif decide (y12 < (x6.1.length : Int)) then
  grd (dq y12 x6.1.length) <|
  lt (at_ x6.1 y12) fun x17 =>
  bif (decide ((x17.toNat : Int) < 48)) || (decide (57 < (x17.toNat : Int))) then
    some (Res.pan 0)
  else
    fX y11 y12 x17 rec13
else
  iq y11 x6.2
def dL (x6 : (List UInt8) × (List UInt8)) (n : Nat) : (Int × Int) → Option (Res (Int × (List UInt8))) :=
  loop (fun rec x => fY x6 rec x.1 x.2) n
def dW (F : Nat) (a2 : List UInt8) (a3 : Int) : Option (Res (Int × (List UInt8))) :=
eI (fg F a2 a3) fun x6 =>
grd (dU x6.1.length) <|
dL x6 F (0, 0)
def jn (x6 : (List UInt8) × (List UInt8)) : Option (Res (UInt8 × (List UInt8))) :=
grd (dq 0 x6.1.length) <|
lt (at_ x6.1 0) fun x15 =>
some (Res.ok (x15, x6.2))
def jc (F : Nat) (a2 : List UInt8) (a3 : List UInt8) : Option (Res (UInt8 × (List UInt8))) :=
eI (fg F a2 1) fun x6 =>
grd (okS a3.length) <|
lt (Go.Lib.contains a3 x6.1) fun x10 =>
bif !x10 then
  some (Res.pan 0)
else
  jn x6
def du (F : Nat) (a2 : List UInt8) (a3 : List UInt8) (a4 : Int) : Option (Res (Int × (List UInt8))) :=
eI (jc F a2 a3) fun x7 =>
eI (dW F x7.2 a4) fun x10 =>
some (Res.ok (x10.1, x10.2))
def eR (F : Nat) (rec11 : ((List UInt8)) → Option (Res ((List UInt8)))) (y10 : List UInt8) : Option (Res ((List UInt8))) :=
fv (!decide (y10 = ([] : List UInt8))) (dq 0 y10.length) <|
lt (at_ y10 0) fun x15 =>
fv ((!decide (y10 = ([] : List UInt8))) && (decide (48 ≤ (x15.toNat : Int)))) (dq 0 y10.length) <|
lt (at_ y10 0) fun x19 =>
bif ((!decide (y10 = ([] : List UInt8))) && (decide (48 ≤ (x15.toNat : Int)))) && (decide ((x19.toNat : Int) ≤ 57)) then
  eI (fg F y10 1) fun x22 =>
  rec11 x22.2
else
  some (Res.ok y10)
def eQ (F : Nat) (n : Nat) : ((List UInt8)) → Option (Res ((List UInt8))) :=
  loop (fun rec x => eR F rec x) n
def eA (F : Nat) (a2 : List UInt8) : Option (Res ((List UInt8))) :=
bnd (jS F a2 ([46] : List UInt8)) fun x4 =>
bif !x4 then
  some (Res.ok a2)
else
  eI (du F a2 ([46] : List UInt8) 1) fun x7 =>
  eQ F F x7.2
def hU (x5 : UInt8 × (List UInt8)) (x10 : Int × (List UInt8)) (x13 : Int × (List UInt8)) : Option (Res (Int × (List UInt8))) :=
bif decide (x5.1 = 45) then
  grd (okI (0 - x10.1)) <|
  grd (okI ((0 - x10.1) * 3600)) <|
  grd (okI (x13.1 * 60)) <|
  grd (okI (((0 - x10.1) * 3600) - (x13.1 * 60))) <|
  some (Res.ok (((0 - x10.1) * 3600) - (x13.1 * 60), x13.2))
else
  grd (okI (x10.1 * 3600)) <|
  grd (okI (x13.1 * 60)) <|
  grd (okI ((x10.1 * 3600) + (x13.1 * 60))) <|
  some (Res.ok ((x10.1 * 3600) + (x13.1 * 60), x13.2))
def iG (F : Nat) (a2 : List UInt8) : Option (Res (Int × (List UInt8))) :=
eI (jc F a2 ([90, 122, 43, 45] : List UInt8)) fun x5 =>
bif (decide (x5.1 = 90)) || (decide (x5.1 = 122)) then
  some (Res.ok (0, x5.2))
else
  eI (dW F x5.2 2) fun x10 =>
  eI (du F x10.2 ([58] : List UInt8) 2) fun x13 =>
  bnd (ju F x10.1 24) fun x16 =>
  lE (!(!x16)) (ju F x13.1 60) fun x19 =>
  bif (!x16) || (!x19) then
    some (Res.pan 0)
  else
    hU x5 x10 x13
def gy (x36 : Int × (List UInt8)) (x40 : Int) : Option (Int × Int) :=
grd (okI (x40 - x36.1)) <|
some (x40 - x36.1, 0)
def iW (F : Nat) (a1 : List UInt8) : Option (Int × Int) :=
rj (dW F a1 4) (fun p10 =>
  some (0, 2)) fun x8 =>
rj (du F x8.2 ([45] : List UInt8) 2) (fun p14 =>
  some (0, 2)) fun x12 =>
rj (du F x12.2 ([45] : List UInt8) 2) (fun p18 =>
  some (0, 2)) fun x16 =>
rj (du F x16.2 ([84, 116] : List UInt8) 2) (fun p22 =>
  some (0, 2)) fun x20 =>
rj (du F x20.2 ([58] : List UInt8) 2) (fun p26 =>
  some (0, 2)) fun x24 =>
rj (du F x24.2 ([58] : List UInt8) 2) (fun p30 =>
  some (0, 2)) fun x28 =>
rj (eA F x28.2) (fun p34 =>
  some (0, 2)) fun x32 =>
rj (iG F x32) (fun p38 =>
  some (0, 2)) fun x36 =>
fy (nN F x8.1 x12.1 x16.1 x20.1 x24.1 x28.1) fun x40 x41 =>
bif (!decide (x41 = 0)) || (!decide (x36.2 = ([] : List UInt8))) then
  some (0, 2)
else
  gy x36 x40
end Go.Pv
namespace Go.Proofs.YtkbfjepffpddfaaGreatDoor
open Go.RowKit Go.Av Go.Pv
theorem en40_stp : ∀ (args : Array Value) (w : World), (callFunc 40 args).run Tryz.prog w = .ok (.enter 40 args) w := fun _ _ => by kernel_rfl
theorem en83_stp : ∀ (args : Array Value) (w : World), (callFunc 83 args).run Tryz.prog w = .ok (.enter 83 args) w := fun _ _ => by kernel_rfl
theorem gt : ∀ (args : Array Value) (w : World), (callFunc 156 args).run Tryz.prog w = .ok (.enter 156 args) w := fun _ _ => by kernel_rfl
theorem jd : ∀ (args : Array Value) (w : World), (callFunc 157 args).run Tryz.prog w = .ok (.enter 157 args) w := fun _ _ => by kernel_rfl
theorem cK : ∀ (args : Array Value) (w : World), (callFunc 158 args).run Tryz.prog w = .ok (.enter 158 args) w := fun _ _ => by kernel_rfl
theorem ui : ∀ (args : Array Value) (w : World), (callFunc 159 args).run Tryz.prog w = .ok (.enter 159 args) w := fun _ _ => by kernel_rfl
theorem uh : ∀ (args : Array Value) (w : World), (callFunc 160 args).run Tryz.prog w = .ok (.enter 160 args) w := fun _ _ => by kernel_rfl
theorem zP : ∀ (args : Array Value) (w : World), (callFunc 161 args).run Tryz.prog w = .ok (.enter 161 args) w := fun _ _ => by kernel_rfl
theorem kY : ∀ (args : Array Value) (w : World), (callFunc 162 args).run Tryz.prog w = .ok (.enter 162 args) w := fun _ _ => by kernel_rfl
theorem oc : ∀ (args : Array Value) (w : World), (callFunc 163 args).run Tryz.prog w = .ok (.enter 163 args) w := fun _ _ => by kernel_rfl
theorem zO : ∀ (args : Array Value) (w : World), (callFunc 164 args).run Tryz.prog w = .ok (.enter 164 args) w := fun _ _ => by kernel_rfl
theorem ug : ∀ (args : Array Value) (w : World), (callFunc 165 args).run Tryz.prog w = .ok (.enter 165 args) w := fun _ _ => by kernel_rfl
theorem zN : ∀ (args : Array Value) (w : World), (callFunc 166 args).run Tryz.prog w = .ok (.enter 166 args) w := fun _ _ => by kernel_rfl
theorem zK : ∀ (args : Array Value) (w : World), (callFunc 167 args).run Tryz.prog w = .ok (.enter 167 args) w := fun _ _ => by kernel_rfl
set_option maxRecDepth 100000 in
set_option maxHeartbeats 1000000 in
theorem pX (F : Nat) (a1 : List UInt8) (a2 : List UInt8) (r3 : Bool) (H : jh F a1 a2 = some r3) : ACalls Tryz.prog 83 [S a1, S a2] [] (Ret (B r3) []) := by
 unfold jh at H
 refine ap Tryz.func83 rfl rfl ?_;show AW _ _ 18 _ _ _;refine af <| aa ?_;show AR _ _ _ _ _ [0] _;refine za rfl <| ag <| af ?_;obtain ⟨g5, H⟩ := cN H;obtain ⟨x6, e7, H⟩ := bM H;refine aa ?_;show AR _ _ _ _ _ [0, 1, 2, 3, 4, 5, 6, 7, 8, 9, 10, 11, 12, 13] _;refine zm rfl <| zS rfl (bt ai rfl) <| zm rfl <| zS rfl (bt ai rfl) <| zS rfl (fB rfl rfl) <| zm rfl <| aW (l := [13]) 17 (B ((decide ((a2.length : Int) ≤ (a1.length : Int))) && (decide (x6 = a2)))) (fun K => ?_) ?_
 ·rcases aj (decide ((a2.length : Int) ≤ (a1.length : Int))) with h4 | h4
  ·refine zM h4 rfl <| zM h4 rfl <| zU h4 rfl (bt ai rfl) <| zU h4 rfl (lx ai rfl rfl (g5 h4) e7) <| zM h4 rfl <| zU h4 rfl (dr rfl rfl) <| zS rfl (aD (av := .v _) rfl h4 rfl) ?_;exact K _ 6 _ (ay (cz h4)) rfl rfl
  ·refine zF h4 rfl <| zF h4 rfl <| zF h4 rfl <| zF h4 rfl <| zF h4 rfl <| zF h4 rfl <| zS rfl (aE (av := .v _) rfl h4 rfl) ?_;exact K _ 6 _ (ay (cA h4)) rfl rfl
 refine za rfl <| ag <| aG ?_;obtain rfl := ak H;exact And.intro rfl (Exists.intro _ (Exists.intro _ ⟨aF rfl (.refl _), aB [] rfl, rfl, rfl⟩))
set_option maxRecDepth 100000 in
set_option maxHeartbeats 1000000 in
theorem qW (F : Nat) (a1 : List UInt8) (a2 : List UInt8) (r3 : Bool) (H : jS F a1 a2 = some r3) : ACalls Tryz.prog 164 [S a1, S a2] [] (Ret (B r3) []) := by
 unfold jS at H
 refine ap Tryz.func164 rfl rfl ?_;show AW _ _ 8 _ _ _;refine af <| aa ?_;show AR _ _ _ _ _ [0] _;refine za rfl <| ag <| af ?_;obtain ⟨x4, e5, H⟩ := bW H;refine aa ?_;show AR _ _ _ _ _ [0, 1, 2, 3] _;refine zm rfl <| zm rfl <| am rfl rfl (aA rfl en83_stp rfl (pX F a1 a2 x4 e5) ?_);refine za rfl <| ag <| aG ?_;obtain rfl := ak H;exact And.intro rfl (Exists.intro _ (Exists.intro _ ⟨aF rfl (.refl _), aB [] rfl, rfl, rfl⟩))
set_option maxRecDepth 100000 in
set_option maxHeartbeats 1000000 in
theorem wY (F : Nat) (a1 : Int) (a2 : Int) (a3 : Int) (a4 : Int) (a5 : Int) (a6 : Int) (r7 : Int) (r8 : Int) (H : nN F a1 a2 a3 a4 a5 a6 = some (r7, r8)) : ACalls Tryz.prog 161 [.agg [i64 a1, i64 a2, i64 a3, i64 a4, i64 a5, i64 a6]] [] (Ret (.tup [i64 r7, i64 r8]) []) := by
 unfold nN at H
 refine ap Tryz.func161 rfl rfl ?_;show AW _ _ 33 _ _ _;refine af <| aa ?_;show AR _ _ _ _ _ [0, 1, 2] _;refine zR rfl (dQ rfl (.inr ⟨_, rfl⟩)) <| za rfl <| za rfl <| ag <| af <| af ?_;obtain ⟨x9, e10, H⟩ := bW H;refine aa ?_;show AR _ _ _ _ _ [0, 1, 2] _;refine zS rfl (ct Tryz.underlying189 rfl (n := 6) (by kernel_rfl) rfl (ac rfl)) <| am rfl rfl (aA rfl zN rfl (vz F a1 a2 a3 a4 a5 a6 x9 e10) ?_);refine zS rfl (bB rfl) <| ag <| ax rfl (fun c11 => ?_) (fun c11 => ?_)
 ·replace H := aX c11 H;refine af <| aa ?_;show AR _ _ _ _ _ [0, 1] _;refine za rfl <| za rfl <| ag <| aG ?_;obtain ⟨rfl, rfl⟩ := dw H;exact And.intro rfl (Exists.intro _ (Exists.intro _ ⟨bk rfl (.refl _) (.refl _), aB [] rfl, rfl, rfl⟩))
 ·replace H := aY c11 H;refine aC <| af ?_;obtain ⟨x12, x13, e14, H⟩ := cF H;refine aa ?_;show AR _ _ _ _ _ [0, 1, 2, 3, 4, 5, 6, 7, 8, 9, 10, 11] _;refine zS rfl (aP (n := 0) (by kernel_rfl) rfl (ac rfl)) <| zS rfl (aL aK rfl rfl) <| zS rfl (aP (n := 1) (by kernel_rfl) rfl (ac rfl)) <| zS rfl (aL aK rfl rfl) <| zS rfl (aP (n := 2) (by kernel_rfl) rfl (ac rfl)) <| zS rfl (aL aK rfl rfl) <| am rfl rfl (aA rfl zK rfl (qx F a1 a2 a3 x12 x13 e14) ?_);refine zS rfl (ah (av := .tup _) rfl) <| zS rfl (az (av := .v _) rfl rfl) <| zS rfl (az (av := .v _) rfl rfl) <| za rfl <| za rfl <| ag <| af ?_;obtain ⟨g15, H⟩ := aM H;obtain ⟨g16, H⟩ := aM H;obtain ⟨g17, H⟩ := aM H;obtain ⟨g18, H⟩ := aM H;obtain ⟨g19, H⟩ := aM H;obtain ⟨g20, H⟩ := aM H;refine aa ?_;show AR _ _ _ _ _ [0, 1, 2, 3, 4, 5, 6, 7, 8, 9, 10, 11, 12, 13, 14, 15] _
  refine zm rfl <| zS rfl (ox rfl rfl g15) <| zS rfl (aP (n := 3) (by kernel_rfl) rfl (ac rfl)) <| zS rfl (aL aK rfl rfl) <| zS rfl (ox rfl rfl g16) <| zS rfl (di rfl rfl g17) <| zS rfl (aP (n := 4) (by kernel_rfl) rfl (ac rfl)) <| zS rfl (aL aK rfl rfl) <| zS rfl (ox rfl rfl g18) <| zS rfl (di rfl rfl g19) <| zS rfl (aP (n := 5) (by kernel_rfl) rfl (ac rfl)) <| zS rfl (aL aK rfl rfl) <| zS rfl (di rfl rfl g20) <| zm rfl <| za rfl <| za rfl <| ag <| aG ?_;obtain ⟨rfl, rfl⟩ := dw H;exact And.intro rfl (Exists.intro _ (Exists.intro _ ⟨bk rfl (.refl _) (.refl _), aB [] rfl, rfl, rfl⟩))
abbrev _root_.Go.Av.bI := @Tryz.underlying183
set_option maxRecDepth 100000 in
set_option maxHeartbeats 1000000 in
theorem pk (F : Nat) (o1 : Nat) (a2 : List UInt8) (a3 : Int) (rv : Res ((List UInt8) × (List UInt8))) (H : fg F a2 a3 = some rv) : ACalls Tryz.prog 162 [.pt o1 0, i64 a3] [.obj o1 [S a2]] (jz (fun (r : (List UInt8) × (List UInt8)) => (fun e A' => e = .ret (S r.1) ∧ A' = [.obj o1 [S r.2]])) (fun e => ce (.iface 183 (.agg #[]))) rv) := by
 unfold fg at H
 refine ap Tryz.func162 rfl rfl ?_;show AW _ _ 31 _ _ _;refine af <| aa ?_;show AR _ _ _ _ _ [0] _;refine za rfl <| ag <| bL (X := Unit) (fun _ => ⟨[(0, .pt o1 0), (1, i64 a3)], [], [.obj o1 [S a2]]⟩) (fun _ => gg a2 a3 = some rv) ?_ ?_
 ·refine af <| aa ?_;show AR _ _ _ _ _ [0, 1, 2, 3, 4, 5, 6] _;refine zS rfl (ah (av := .pt _ _) rfl) <| zS rfl (ar rfl) <| zS rfl (an (n := 0) (by kernel_rfl) rfl) <| zR rfl (ao (i := 0) ai rfl rfl rfl rfl) <| zS rfl (bt ai rfl) <| zm rfl <| zS rfl (cd rfl rfl) <| ag <| ax rfl (fun c6 => ?_) (fun c6 => ?_)
  ·replace H := aX c6 H;obtain rfl := ak H;refine aa ?_;show AR _ _ _ _ _ [0, 1, 2] _;refine zS rfl (cP (zs := []) (ps := []) (cs := []) (by kernel_rfl) rfl rfl) <| zS rfl (bf (a := .agg _) bI rfl rfl) <| am rfl rfl (AO.panicT (c := ce (.iface 183 (.agg #[]))) rfl rfl ?_);exact And.intro rfl (Exists.intro [] ⟨ba _, rfl, rfl⟩)
  ·replace H := aY c6 H;refine aC ?_;exact Exists.intro () ⟨H, be [0] (.cons (.refl _) (.cons (.refl _) (.nil _))) rfl⟩
 rintro _ H;replace H : gg a2 a3 = some rv := H
 unfold gg at H
 refine af ?_;obtain ⟨g8, H⟩ := aM H;obtain ⟨x9, e10, H⟩ := bM H;refine aa ?_;show AR _ _ _ _ _ [0, 1, 2, 3, 4, 5, 6] _;refine zS rfl (ah (av := .pt _ _) rfl) <| zS rfl (ar rfl) <| zS rfl (an (n := 0) (by kernel_rfl) rfl) <| zR rfl (ao (i := 0) ai rfl rfl rfl rfl) <| zm rfl <| zS rfl (lx ai rfl rfl g8 e10) <| za rfl <| ag <| af ?_;obtain ⟨g11, H⟩ := aM H;obtain ⟨x12, e13, H⟩ := bM H;refine aa ?_;show AR _ _ _ _ _ [0, 1, 2, 3, 4, 5, 6, 7, 8, 9] _;refine zS rfl (ah (av := .pt _ _) rfl) <| zS rfl (ah (av := .pt _ _) rfl) <| zS rfl (ar rfl) <| zS rfl (an (n := 0) (by kernel_rfl) rfl) <| zR rfl (ao (i := 0) ai rfl rfl rfl rfl) <| zm rfl <| zS rfl (eG ai rfl rfl g11 e13) <| zS rfl (ar rfl) <| zS rfl (an (n := 0) (by kernel_rfl) rfl) <| s0 rfl rfl (aq (i := 0) (c := .v _) (by kernel_rfl) rfl rfl rfl rfl (ac rfl)) <| ag <| af <| aa ?_;show AR _ _ _ _ _ [0, 1] _;refine zm rfl <| za rfl <| ag <| aG ?_;obtain rfl := ak H;exact And.intro rfl (Exists.intro _ (Exists.intro _ ⟨aF rfl (.refl _), aB [0] rfl, rfl, rfl⟩))
theorem kv (F : Nat) (o1 : Nat) (a2 : List UInt8) (a3 : Int) (r4 : List UInt8) (r5 : List UInt8) (H : fg F a2 a3 = some (Res.ok (r4, r5))) : ACalls Tryz.prog 162 [.pt o1 0, i64 a3] [.obj o1 [S a2]] (fun e A' => e = .ret (S r4) ∧ A' = [.obj o1 [S r5]]) := pk F o1 a2 a3 _ H
theorem jC (F : Nat) (o1 : Nat) (a2 : List UInt8) (a3 : Int) (e : Int) (H : fg F a2 a3 = some (Res.pan e)) : ACalls Tryz.prog 162 [.pt o1 0, i64 a3] [.obj o1 [S a2]] (fun ae A' => ae = .pan ((fun e => ce (.iface 183 (.agg #[]))) e) ∧ A' = []) := pk F o1 a2 a3 _ H
abbrev _root_.Go.Av.cH := @Tryz.underlying5
set_option maxRecDepth 100000 in
set_option maxHeartbeats 1000000 in
theorem nz (F : Nat) (o1 : Nat) (a2 : List UInt8) (a3 : Int) (rv : Res (Int × (List UInt8))) (H : dW F a2 a3 = some rv) : ACalls Tryz.prog 157 [.pt o1 0, i64 a3] [.obj o1 [S a2]] (jz (fun (r : Int × (List UInt8)) => (fun e A' => e = .ret (i64 r.1) ∧ A' = [.obj o1 [S r.2]])) (fun e => ce (.iface 183 (.agg #[]))) rv) := by
 unfold dW at H
 refine ap Tryz.func157 rfl rfl ?_;show AW _ _ 33 _ _ _;refine af <| aa ?_;show AR _ _ _ _ _ [0] _;refine za rfl <| ag <| af <| aa ?_;show AR _ _ _ _ _ [0] _;refine za rfl <| ag <| bL (X := Int × (List UInt8)) (fun (y25, y26) => ⟨[(5, i64 y25)], [], [.obj o1 [S y26]]⟩) (fun (y25, y26) => iq y25 y26 = some rv) ?_ ?_
 ·refine af ?_
  rcases Or.symm (co H) with ⟨p8, e7, H⟩ | ⟨x6, e7, H⟩
  ·subst H;refine aa ?_;show AR _ _ _ _ _ [0, 1, 2, 3, 4, 5] _;refine zS rfl (ah (av := .pt _ _) rfl) <| zm rfl <| am rfl rfl (bb (c := ce (.iface 183 (.agg #[]))) [0] rfl kY rfl (jC F o1 a2 a3 p8 e7) rfl ?_);exact And.intro rfl (Exists.intro [] ⟨ba _, rfl, rfl⟩)
  obtain ⟨g9, H⟩ := aM H;refine aa ?_;show AR _ _ _ _ _ [0, 1, 2, 3, 4, 5] _;refine zS rfl (ah (av := .pt _ _) rfl) <| zm rfl <| am rfl rfl (aQ [0] rfl kY rfl (kv F o1 a2 a3 x6.1 x6.2 e7) rfl (fun c A' h => by cases h.1) ?_)
  rintro av A' ⟨h, rfl⟩; cases h
  refine zX rfl (gN (bytes := 1) ai al cH rfl g9) ?_;rintro _ _ ⟨t10, rfl, rfl⟩;refine zS rfl (bE al rfl) <| zm rfl <| ag <| aU <| dk (X := Nat × Int × Int) (fun (n14, y11, y12) => ⟨[(5, i64 y11), (11, slE Enc.byte x6.1 (some t10)), (12, i64 (x6.1.length : Int)), (13, i64 y12)], [], [.obj o1 [S x6.2], .tok t10 5]⟩) (fun (n14, y11, y12) => dL x6 n14 (y11, y12) = some rv) (fun (n14, y11, y12) => n14) (F, 0, 0) H (be [1, 0] (.cons (.refl _) (.cons (.refl _) (.cons (.refl _) (.cons (.refl _) (.nil _))))) rfl) ?_;rintro ⟨n14, y11, y12⟩ H;obtain ⟨n14, rfl, H⟩ := fC H;replace H : fY x6 (dL x6 n14) y11 y12 = some rv := H
  unfold fY at H
  refine af <| aa ?_;show AR _ _ _ _ _ [0] _;refine zS rfl (cd rfl rfl) <| ag <| af <| ax rfl (fun c15 => ?_) (fun c15 => ?_)
  ·replace H := aX c15 H;refine aC <| af <| aU <| af ?_;obtain ⟨g16, H⟩ := aM H;obtain ⟨x17, e18, H⟩ := bM H;refine aa ?_;show AR _ _ _ _ _ [0, 1, 2] _;refine zS rfl (dF (E := Enc.byte) al (by kernel_rfl) rfl rfl g16 e18) <| zS rfl (aL cH rfl rfl) <| za rfl <| ag <| bL (X := Unit) (fun _ => ⟨[(5, i64 y11), (7, u8 x17), (11, slE Enc.byte x6.1 (some t10)), (12, i64 (x6.1.length : Int)), (13, i64 y12)], [], [.obj o1 [S x6.2], .tok t10 5]⟩) (fun _ => fX y11 y12 x17 (dL x6 n14) = some rv) ?_ ?_
   ·refine af <| aa ?_;show AR _ _ _ _ _ [0, 1, 2, 3, 4, 5] _;refine zm rfl <| zS rfl (cd rfl rfl) <| zm rfl <| aW (l := []) 22 (B ((decide ((x17.toNat : Int) < 48)) || (decide (57 < (x17.toNat : Int))))) (fun K => ?_) ?_
    ·rcases aj (decide ((x17.toNat : Int) < 48)) with h19 | h19
     ·refine zF h19 rfl <| zF h19 rfl <| zS rfl (aD (av := .v _) rfl h19 rfl) ?_;exact K _ 2 _ (ay (jA h19)) rfl rfl
     ·refine zM h19 rfl <| zU h19 rfl (gp rfl rfl) <| zS rfl (aE (av := .v _) rfl h19 rfl) ?_;exact K _ 2 _ (ay (jB h19)) rfl rfl
    refine ag <| ax rfl (fun c20 => ?_) (fun c20 => ?_)
    ·replace H := aX c20 H;obtain rfl := ak H;refine aa ?_;show AR _ _ _ _ _ [0, 1, 2] _;refine zS rfl (cP (zs := []) (ps := []) (cs := []) (by kernel_rfl) rfl rfl) <| zS rfl (bf (a := .agg _) bI rfl rfl) <| am rfl rfl (AO.panicT (c := ce (.iface 183 (.agg #[]))) rfl rfl ?_);exact And.intro rfl (Exists.intro [] ⟨ba _, rfl, rfl⟩)
    ·replace H := aY c20 H;refine aC ?_;exact Exists.intro () ⟨H, be [0, 0] (.cons (.refl _) (.cons (.refl _) (.cons (.refl _) (.cons (.refl _) (.cons (.refl _) (.nil _)))))) rfl⟩
   rintro _ H;replace H : fX y11 y12 x17 (dL x6 n14) = some rv := H
   unfold fX at H
   obtain ⟨g22, H⟩ := aM H;obtain ⟨g23, H⟩ := aM H;refine aa ?_;show AR _ _ _ _ _ [0, 1, 2, 3, 4, 5, 6] _;refine zm rfl <| zS rfl (ox rfl rfl g22) <| zm rfl <| zS rfl (xO (a := x17) (b := 48) rfl rfl) <| zS rfl (vO (c := x17 - 48) (by kernel_rfl) aK rfl) <| zS rfl (di rfl rfl g23) <| za rfl <| ag ?_;obtain ⟨g24, H⟩ := aM H;refine aa ?_;show AR _ _ _ _ _ [0, 1] _;refine zS rfl (di rfl rfl g24) <| zm rfl <| ag ?_;exact Exists.intro (n14, (y11 * 10) + ((x17 - 48).toNat : Int), y12 + 1) ⟨H, Nat.lt_succ_self _, be [0, 0] (.cons (.refl _) (.cons (.refl _) (.cons (.refl _) (.cons (.refl _) (.nil _))))) rfl⟩
  ·replace H := aY c15 H;refine cB ?_;exact Exists.intro (y11, x6.2) ⟨H, be [0] (.cons (.refl _) (.nil _)) rfl⟩
 rintro ⟨y25, y26⟩ H;replace H : iq y25 y26 = some rv := H
 unfold iq at H
 refine af <| aa ?_;show AR _ _ _ _ _ [0, 1] _;refine zm rfl <| za rfl <| ag <| aG ?_;obtain rfl := ak H;exact And.intro rfl (Exists.intro _ (Exists.intro _ ⟨aF rfl (.refl _), aB [0] rfl, rfl, rfl⟩))
theorem eP (F : Nat) (o1 : Nat) (a2 : List UInt8) (a3 : Int) (r4 : Int) (r5 : List UInt8) (H : dW F a2 a3 = some (Res.ok (r4, r5))) : ACalls Tryz.prog 157 [.pt o1 0, i64 a3] [.obj o1 [S a2]] (fun e A' => e = .ret (i64 r4) ∧ A' = [.obj o1 [S r5]]) := nz F o1 a2 a3 _ H
theorem iw (F : Nat) (o1 : Nat) (a2 : List UInt8) (a3 : Int) (e : Int) (H : dW F a2 a3 = some (Res.pan e)) : ACalls Tryz.prog 157 [.pt o1 0, i64 a3] [.obj o1 [S a2]] (fun ae A' => ae = .pan ((fun e => ce (.iface 183 (.agg #[]))) e) ∧ A' = []) := nz F o1 a2 a3 _ H
set_option maxRecDepth 100000 in
set_option maxHeartbeats 1000000 in
theorem qv (F : Nat) (o1 : Nat) (a2 : List UInt8) (a3 : List UInt8) (rv : Res (UInt8 × (List UInt8))) (H : jc F a2 a3 = some rv) : ACalls Tryz.prog 163 [.pt o1 0, S a3] [.obj o1 [S a2]] (jz (fun (r : UInt8 × (List UInt8)) => (fun e A' => e = .ret (u8 r.1) ∧ A' = [.obj o1 [S r.2]])) (fun e => ce (.iface 183 (.agg #[]))) rv) := by
 unfold jc at H
 refine ap Tryz.func163 rfl rfl ?_;show AW _ _ 16 _ _ _;refine af <| aa ?_;show AR _ _ _ _ _ [0] _;refine za rfl <| ag <| af ?_
 rcases Or.symm (co H) with ⟨p8, e7, H⟩ | ⟨x6, e7, H⟩
 ·subst H;refine aa ?_;show AR _ _ _ _ _ [0, 1, 2] _;refine zS rfl (ah (av := .pt _ _) rfl) <| am rfl rfl (bb (c := ce (.iface 183 (.agg #[]))) [0] rfl kY rfl (jC F o1 a2 1 p8 e7) rfl ?_);exact And.intro rfl (Exists.intro [] ⟨ba _, rfl, rfl⟩)
 refine aa ?_;show AR _ _ _ _ _ [0, 1, 2] _;refine zS rfl (ah (av := .pt _ _) rfl) <| am rfl rfl (aQ [0] rfl kY rfl (kv F o1 a2 1 x6.1 x6.2 e7) rfl (fun c A' h => by cases h.1) ?_)
 rintro av A' ⟨h, rfl⟩; cases h
 refine za rfl <| ag <| bL (X := Unit) (fun _ => ⟨[(5, S x6.1)], [], [.obj o1 [S x6.2]]⟩) (fun _ => jn x6 = some rv) ?_ ?_
 ·refine af ?_;obtain ⟨g9, H⟩ := aM H;obtain ⟨x10, e11, H⟩ := bM H;refine aa ?_;show AR _ _ _ _ _ [0, 1, 2, 3] _;refine zm rfl <| zm rfl <| am rfl rfl (aA rfl en40_stp rfl (show ACalls _ _ _ [] (Ret (B x10) []) from by subst e11; exact gS a3 x6.1 (nb g9)) ?_);refine zS rfl (bB rfl) <| ag <| ax rfl (fun c12 => ?_) (fun c12 => ?_)
  ·replace H := aX c12 H;obtain rfl := ak H;refine aa ?_;show AR _ _ _ _ _ [0, 1, 2] _;refine zS rfl (cP (zs := []) (ps := []) (cs := []) (by kernel_rfl) rfl rfl) <| zS rfl (bf (a := .agg _) bI rfl rfl) <| am rfl rfl (AO.panicT (c := ce (.iface 183 (.agg #[]))) rfl rfl ?_);exact And.intro rfl (Exists.intro [] ⟨ba _, rfl, rfl⟩)
  ·replace H := aY c12 H;refine aC ?_;exact Exists.intro () ⟨H, be [0] (.cons (.refl _) (.nil _)) rfl⟩
 rintro _ H;replace H : jn x6 = some rv := H
 unfold jn at H
 refine af ?_;obtain ⟨g14, H⟩ := aM H;obtain ⟨x15, e16, H⟩ := bM H;refine aa ?_;show AR _ _ _ _ _ [0, 1, 2] _;refine zm rfl <| zS rfl (bo ai rfl rfl g14 e16) <| za rfl <| ag <| aG ?_;obtain rfl := ak H;exact And.intro rfl (Exists.intro _ (Exists.intro _ ⟨aF rfl (.refl _), aB [0] rfl, rfl, rfl⟩))
theorem ny (F : Nat) (o1 : Nat) (a2 : List UInt8) (a3 : List UInt8) (r4 : UInt8) (r5 : List UInt8) (H : jc F a2 a3 = some (Res.ok (r4, r5))) : ACalls Tryz.prog 163 [.pt o1 0, S a3] [.obj o1 [S a2]] (fun e A' => e = .ret (u8 r4) ∧ A' = [.obj o1 [S r5]]) := qv F o1 a2 a3 _ H
theorem mU (F : Nat) (o1 : Nat) (a2 : List UInt8) (a3 : List UInt8) (e : Int) (H : jc F a2 a3 = some (Res.pan e)) : ACalls Tryz.prog 163 [.pt o1 0, S a3] [.obj o1 [S a2]] (fun ae A' => ae = .pan ((fun e => ce (.iface 183 (.agg #[]))) e) ∧ A' = []) := qv F o1 a2 a3 _ H
set_option maxRecDepth 100000 in
set_option maxHeartbeats 1000000 in
theorem pj (F : Nat) (o1 : Nat) (a2 : List UInt8) (a3 : List UInt8) (a4 : Int) (rv : Res (Int × (List UInt8))) (H : du F a2 a3 a4 = some rv) : ACalls Tryz.prog 158 [.pt o1 0, S a3, i64 a4] [.obj o1 [S a2]] (jz (fun (r : Int × (List UInt8)) => (fun e A' => e = .ret (i64 r.1) ∧ A' = [.obj o1 [S r.2]])) (fun e => ce (.iface 183 (.agg #[]))) rv) := by
 unfold du at H
 refine ap Tryz.func158 rfl rfl ?_;show AW _ _ 13 _ _ _;refine af <| aa ?_;show AR _ _ _ _ _ [0] _;refine za rfl <| ag <| af ?_
 rcases Or.symm (co H) with ⟨p9, e8, H⟩ | ⟨x7, e8, H⟩
 ·subst H;refine aa ?_;show AR _ _ _ _ _ [0, 1, 2] _;refine zS rfl (ah (av := .pt _ _) rfl) <| zm rfl <| am rfl rfl (bb (c := ce (.iface 183 (.agg #[]))) [0] rfl oc rfl (mU F o1 a2 a3 p9 e8) rfl ?_);exact And.intro rfl (Exists.intro [] ⟨ba _, rfl, rfl⟩)
 refine aa ?_;show AR _ _ _ _ _ [0, 1, 2] _;refine zS rfl (ah (av := .pt _ _) rfl) <| zm rfl <| am rfl rfl (aQ [0] rfl oc rfl (ny F o1 a2 a3 x7.1 x7.2 e8) rfl (fun c A' h => by cases h.1) ?_)
 rintro av A' ⟨h, rfl⟩; cases h
 refine ag <| af ?_
 rcases Or.symm (co H) with ⟨p12, e11, H⟩ | ⟨x10, e11, H⟩
 ·subst H;refine aa ?_;show AR _ _ _ _ _ [0, 1, 2, 3] _;refine zS rfl (ah (av := .pt _ _) rfl) <| zm rfl <| am rfl rfl (bb (c := ce (.iface 183 (.agg #[]))) [0] rfl jd rfl (iw F o1 x7.2 a4 p12 e11) rfl ?_);exact And.intro rfl (Exists.intro [] ⟨ba _, rfl, rfl⟩)
 refine aa ?_;show AR _ _ _ _ _ [0, 1, 2, 3] _;refine zS rfl (ah (av := .pt _ _) rfl) <| zm rfl <| am rfl rfl (aQ [0] rfl jd rfl (eP F o1 x7.2 a4 x10.1 x10.2 e11) rfl (fun c A' h => by cases h.1) ?_)
 rintro av A' ⟨h, rfl⟩; cases h
 refine za rfl <| ag <| aG ?_;obtain rfl := ak H;exact And.intro rfl (Exists.intro _ (Exists.intro _ ⟨aF rfl (.refl _), aB [0] rfl, rfl, rfl⟩))
theorem cr (F : Nat) (o1 : Nat) (a2 : List UInt8) (a3 : List UInt8) (a4 : Int) (r5 : Int) (r6 : List UInt8) (H : du F a2 a3 a4 = some (Res.ok (r5, r6))) : ACalls Tryz.prog 158 [.pt o1 0, S a3, i64 a4] [.obj o1 [S a2]] (fun e A' => e = .ret (i64 r5) ∧ A' = [.obj o1 [S r6]]) := pj F o1 a2 a3 a4 _ H
theorem dn (F : Nat) (o1 : Nat) (a2 : List UInt8) (a3 : List UInt8) (a4 : Int) (e : Int) (H : du F a2 a3 a4 = some (Res.pan e)) : ACalls Tryz.prog 158 [.pt o1 0, S a3, i64 a4] [.obj o1 [S a2]] (fun ae A' => ae = .pan ((fun e => ce (.iface 183 (.agg #[]))) e) ∧ A' = []) := pj F o1 a2 a3 a4 _ H
set_option maxRecDepth 100000 in
set_option maxHeartbeats 1000000 in
theorem md (F : Nat) (o1 : Nat) (a2 : List UInt8) (rv : Res ((List UInt8))) (H : eA F a2 = some rv) : ACalls Tryz.prog 159 [.pt o1 0] [.obj o1 [S a2]] (jz (fun (r : (List UInt8)) => (fun e A' => e = .ret (.tup []) ∧ A' = [.obj o1 [S r]])) (fun e => ce (.iface 183 (.agg #[]))) rv) := by
 unfold eA at H
 refine ap Tryz.func159 rfl rfl ?_;show AW _ _ 33 _ _ _;refine af <| af ?_;obtain ⟨x4, e5, H⟩ := bW H;refine aa ?_;show AR _ _ _ _ _ [0, 1, 2, 3, 4, 5] _;refine zS rfl (ah (av := .pt _ _) rfl) <| zS rfl (ar rfl) <| zS rfl (an (n := 0) (by kernel_rfl) rfl) <| zR rfl (ao (i := 0) ai rfl rfl rfl rfl) <| am rfl rfl (aA rfl zO rfl (qW F a2 ([46] : List UInt8) x4 e5) ?_);refine zS rfl (bB rfl) <| ag <| ax rfl (fun c6 => ?_) (fun c6 => ?_)
 ·replace H := aX c6 H;refine aG ?_;obtain rfl := ak H;exact And.intro rfl (Exists.intro _ (Exists.intro _ ⟨bj rfl, aB [0] rfl, rfl, rfl⟩))
 ·replace H := aY c6 H;refine aC <| af ?_
  rcases Or.symm (co H) with ⟨p9, e8, H⟩ | ⟨x7, e8, H⟩
  ·subst H;refine aa ?_;show AR _ _ _ _ _ [0, 1] _;refine zS rfl (ah (av := .pt _ _) rfl) <| am rfl rfl (bb (c := ce (.iface 183 (.agg #[]))) [0] rfl cK rfl (dn F o1 a2 ([46] : List UInt8) 1 p9 e8) rfl ?_);exact And.intro rfl (Exists.intro [] ⟨ba _, rfl, rfl⟩)
  refine aa ?_;show AR _ _ _ _ _ [0, 1] _;refine zS rfl (ah (av := .pt _ _) rfl) <| am rfl rfl (aQ [0] rfl cK rfl (cr F o1 a2 ([46] : List UInt8) 1 x7.1 x7.2 e8) rfl (fun c A' h => by cases h.1) ?_)
  rintro av A' ⟨h, rfl⟩; cases h
  refine ag <| aU <| dk (X := Nat × (List UInt8)) (fun (n12, y10) => ⟨[(0, .pt o1 0)], [], [.obj o1 [S y10]]⟩) (fun (n12, y10) => eQ F n12 y10 = some rv) (fun (n12, y10) => n12) (F, x7.2) H (be [0] (.cons (.refl _) (.nil _)) rfl) ?_;rintro ⟨n12, y10⟩ H;obtain ⟨n12, rfl, H⟩ := fC H;replace H : eR F (eQ F n12) y10 = some rv := H
  unfold eR at H
  refine af <| af ?_;obtain ⟨g14, H⟩ := cN H;obtain ⟨x15, e16, H⟩ := bM H;obtain ⟨g18, H⟩ := cN H;obtain ⟨x19, e20, H⟩ := bM H;refine aa ?_;show AR _ _ _ _ _ [0, 1, 2, 3, 4, 5, 6, 7, 8, 9, 10, 11, 12, 13, 14, 15, 16, 17, 18, 19, 20] _;refine zS rfl (ah (av := .pt _ _) rfl) <| zS rfl (ar rfl) <| zS rfl (an (n := 0) (by kernel_rfl) rfl) <| zR rfl (ao (i := 0) ai rfl rfl rfl rfl) <| zS rfl (ni rfl rfl) <| zm rfl <| aW (l := [13, 14, 15, 16, 17, 18, 19, 20]) 22 (B ((!decide (y10 = ([] : List UInt8))) && (decide (48 ≤ (x15.toNat : Int))))) (fun K => ?_) ?_
  ·rcases aj (!decide (y10 = ([] : List UInt8))) with h13 | h13
   ·refine zU h13 rfl (ah (av := .pt _ _) rfl) <| zU h13 rfl (ar rfl) <| zU h13 rfl (an (n := 0) (by kernel_rfl) rfl) <| zT h13 rfl (ck rfl rfl (ao (i := 0) ai rfl rfl rfl rfl) ?_);refine zU h13 rfl (bo ai rfl rfl (g14 h13) e16) <| zU h13 rfl (fB rfl rfl) <| zS rfl (aD (av := .v _) rfl h13 rfl) ?_;exact K _ 6 _ (ay (cz h13)) rfl rfl
   ·refine zF h13 rfl <| zF h13 rfl <| zF h13 rfl <| zF h13 rfl <| zF h13 rfl <| zF h13 rfl <| zS rfl (aE (av := .v _) rfl h13 rfl) ?_;exact K _ 6 _ (ay (cA h13)) rfl rfl
  refine zm rfl <| aW (l := []) 30 (B (((!decide (y10 = ([] : List UInt8))) && (decide (48 ≤ (x15.toNat : Int)))) && (decide ((x19.toNat : Int) ≤ 57)))) (fun K => ?_) ?_
  ·rcases aj ((!decide (y10 = ([] : List UInt8))) && (decide (48 ≤ (x15.toNat : Int)))) with h17 | h17
   ·refine zU h17 rfl (ah (av := .pt _ _) rfl) <| zU h17 rfl (ar rfl) <| zU h17 rfl (an (n := 0) (by kernel_rfl) rfl) <| zT h17 rfl (ck rfl rfl (ao (i := 0) ai rfl rfl rfl rfl) ?_);refine zU h17 rfl (bo ai rfl rfl (g18 h17) e20) <| zU h17 rfl (fL rfl rfl) <| zS rfl (aD (av := .v _) rfl h17 rfl) ?_;exact K _ 6 _ (ay (cz h17)) rfl rfl
   ·refine zF h17 rfl <| zF h17 rfl <| zF h17 rfl <| zF h17 rfl <| zF h17 rfl <| zF h17 rfl <| zS rfl (aE (av := .v _) rfl h17 rfl) ?_;exact K _ 6 _ (ay (cA h17)) rfl rfl
  refine ag <| ax rfl (fun c21 => ?_) (fun c21 => ?_)
  ·replace H := aX c21 H;refine aC <| aU ?_
   rcases Or.symm (co H) with ⟨p24, e23, H⟩ | ⟨x22, e23, H⟩
   ·subst H;refine aa ?_;show AR _ _ _ _ _ [0, 1] _;refine zS rfl (ah (av := .pt _ _) rfl) <| am rfl rfl (bb (c := ce (.iface 183 (.agg #[]))) [0] rfl kY rfl (jC F o1 y10 1 p24 e23) rfl ?_);exact And.intro rfl (Exists.intro [] ⟨ba _, rfl, rfl⟩)
   refine aa ?_;show AR _ _ _ _ _ [0, 1] _;refine zS rfl (ah (av := .pt _ _) rfl) <| am rfl rfl (aQ [0] rfl kY rfl (kv F o1 y10 1 x22.1 x22.2 e23) rfl (fun c A' h => by cases h.1) ?_)
   rintro av A' ⟨h, rfl⟩; cases h
   refine ag ?_;exact Exists.intro (n12, x22.2) ⟨H, Nat.lt_succ_self _, be [0] (.cons (.refl _) (.nil _)) rfl⟩
  ·replace H := aY c21 H;refine cB ?_;obtain rfl := ak H;exact And.intro rfl (Exists.intro _ (Exists.intro _ ⟨bj rfl, aB [0] rfl, rfl, rfl⟩))
theorem og (F : Nat) (o1 : Nat) (a2 : List UInt8) (r3 : List UInt8) (H : eA F a2 = some (Res.ok r3)) : ACalls Tryz.prog 159 [.pt o1 0] [.obj o1 [S a2]] (fun e A' => e = .ret (.tup []) ∧ A' = [.obj o1 [S r3]]) := md F o1 a2 _ H
theorem nv (F : Nat) (o1 : Nat) (a2 : List UInt8) (e : Int) (H : eA F a2 = some (Res.pan e)) : ACalls Tryz.prog 159 [.pt o1 0] [.obj o1 [S a2]] (fun ae A' => ae = .pan ((fun e => ce (.iface 183 (.agg #[]))) e) ∧ A' = []) := md F o1 a2 _ H
set_option maxRecDepth 100000 in
set_option maxHeartbeats 1000000 in
theorem pi (F : Nat) (o1 : Nat) (a2 : List UInt8) (rv : Res (Int × (List UInt8))) (H : iG F a2 = some rv) : ACalls Tryz.prog 160 [.pt o1 0] [.obj o1 [S a2]] (jz (fun (r : Int × (List UInt8)) => (fun e A' => e = .ret (i64 r.1) ∧ A' = [.obj o1 [S r.2]])) (fun e => ce (.iface 183 (.agg #[]))) rv) := by
 unfold iG at H
 refine ap Tryz.func160 rfl rfl ?_;show AW _ _ 41 _ _ _;refine af <| aa ?_;show AR _ _ _ _ _ [0] _;refine za rfl <| ag <| af ?_
 rcases Or.symm (co H) with ⟨p7, e6, H⟩ | ⟨x5, e6, H⟩
 ·subst H;refine aa ?_;show AR _ _ _ _ _ [0, 1, 2] _;refine zS rfl (ah (av := .pt _ _) rfl) <| am rfl rfl (bb (c := ce (.iface 183 (.agg #[]))) [0] rfl oc rfl (mU F o1 a2 ([90, 122, 43, 45] : List UInt8) p7 e6) rfl ?_);exact And.intro rfl (Exists.intro [] ⟨ba _, rfl, rfl⟩)
 refine aa ?_;show AR _ _ _ _ _ [0, 1, 2] _;refine zS rfl (ah (av := .pt _ _) rfl) <| am rfl rfl (aQ [0] rfl oc rfl (ny F o1 a2 ([90, 122, 43, 45] : List UInt8) x5.1 x5.2 e6) rfl (fun c A' h => by cases h.1) ?_)
 rintro av A' ⟨h, rfl⟩; cases h
 refine za rfl <| ag <| af <| af <| aa ?_;show AR _ _ _ _ _ [0, 1, 2, 3, 4, 5] _;refine zm rfl <| zS rfl (jD (a := x5.1) (b := 90) rfl rfl) <| zm rfl <| aW (l := []) 13 (B ((decide (x5.1 = 90)) || (decide (x5.1 = 122)))) (fun K => ?_) ?_
 ·rcases aj (decide (x5.1 = 90)) with h8 | h8
  ·refine zF h8 rfl <| zF h8 rfl <| zS rfl (aD (av := .v _) rfl h8 rfl) ?_;exact K _ 2 _ (ay (jA h8)) rfl rfl
  ·refine zM h8 rfl <| zU h8 rfl (jD (a := x5.1) (b := 122) rfl rfl) <| zS rfl (aE (av := .v _) rfl h8 rfl) ?_;exact K _ 2 _ (ay (jB h8)) rfl rfl
 refine ag <| ax rfl (fun c9 => ?_) (fun c9 => ?_)
 ·replace H := aX c9 H;refine af <| aa ?_;show AR _ _ _ _ _ [0] _;refine za rfl <| ag <| aG ?_;obtain rfl := ak H;exact And.intro rfl (Exists.intro _ (Exists.intro _ ⟨aF rfl (.refl _), aB [0] rfl, rfl, rfl⟩))
 ·replace H := aY c9 H;refine aC <| af ?_
  rcases Or.symm (co H) with ⟨p12, e11, H⟩ | ⟨x10, e11, H⟩
  ·subst H;refine aa ?_;show AR _ _ _ _ _ [0, 1, 2] _;refine zS rfl (ah (av := .pt _ _) rfl) <| am rfl rfl (bb (c := ce (.iface 183 (.agg #[]))) [0] rfl jd rfl (iw F o1 x5.2 2 p12 e11) rfl ?_);exact And.intro rfl (Exists.intro [] ⟨ba _, rfl, rfl⟩)
  refine aa ?_;show AR _ _ _ _ _ [0, 1, 2] _;refine zS rfl (ah (av := .pt _ _) rfl) <| am rfl rfl (aQ [0] rfl jd rfl (eP F o1 x5.2 2 x10.1 x10.2 e11) rfl (fun c A' h => by cases h.1) ?_)
  rintro av A' ⟨h, rfl⟩; cases h
  refine za rfl <| ag <| af ?_
  rcases Or.symm (co H) with ⟨p15, e14, H⟩ | ⟨x13, e14, H⟩
  ·subst H;refine aa ?_;show AR _ _ _ _ _ [0, 1, 2] _;refine zS rfl (ah (av := .pt _ _) rfl) <| am rfl rfl (bb (c := ce (.iface 183 (.agg #[]))) [0] rfl cK rfl (dn F o1 x10.2 ([58] : List UInt8) 2 p15 e14) rfl ?_);exact And.intro rfl (Exists.intro [] ⟨ba _, rfl, rfl⟩)
  refine aa ?_;show AR _ _ _ _ _ [0, 1, 2] _;refine zS rfl (ah (av := .pt _ _) rfl) <| am rfl rfl (aQ [0] rfl cK rfl (cr F o1 x10.2 ([58] : List UInt8) 2 x13.1 x13.2 e14) rfl (fun c A' h => by cases h.1) ?_)
  rintro av A' ⟨h, rfl⟩; cases h
  refine za rfl <| ag <| bL (X := Unit) (fun _ => ⟨[(3, u8 x5.1), (4, i64 x10.1), (5, i64 x13.1)], [], [.obj o1 [S x13.2]]⟩) (fun _ => hU x5 x10 x13 = some rv) ?_ ?_
  ·refine af ?_;obtain ⟨x16, e17, H⟩ := bW H;obtain ⟨x19, e20, H⟩ := fM H;refine aa ?_;show AR _ _ _ _ _ [0, 1, 2, 3, 4, 5, 6, 7] _;refine zm rfl <| am rfl rfl (aA rfl ug rfl (lf F x10.1 24 x16 e17) ?_);refine zS rfl (bB rfl) <| zm rfl <| aW (l := []) 25 (B ((!x16) || (!x19))) (fun K => ?_) ?_
   ·rcases aj (!x16) with h18 | h18
    ·refine zF h18 rfl <| zF h18 rfl <| zF h18 rfl <| zS rfl (aD (av := .v _) rfl h18 rfl) ?_;exact K _ 3 _ (ay (jA h18)) rfl rfl
    ·refine zM h18 rfl <| zT h18 rfl (aA rfl ug rfl (lf F x13.1 60 x19 (e20 (nf h18))) ?_);refine zU h18 rfl (bB rfl) <| zS rfl (aE (av := .v _) rfl h18 rfl) ?_;exact K _ 3 _ (ay (jB h18)) rfl rfl
   refine ag <| ax rfl (fun c21 => ?_) (fun c21 => ?_)
   ·replace H := aX c21 H;obtain rfl := ak H;refine aa ?_;show AR _ _ _ _ _ [0, 1, 2] _;refine zS rfl (cP (zs := []) (ps := []) (cs := []) (by kernel_rfl) rfl rfl) <| zS rfl (bf (a := .agg _) bI rfl rfl) <| am rfl rfl (AO.panicT (c := ce (.iface 183 (.agg #[]))) rfl rfl ?_);exact And.intro rfl (Exists.intro [] ⟨ba _, rfl, rfl⟩)
   ·replace H := aY c21 H;refine aC ?_;exact Exists.intro () ⟨H, be [0] (.cons (.refl _) (.cons (.refl _) (.cons (.refl _) (.nil _)))) rfl⟩
  rintro _ H;replace H : hU x5 x10 x13 = some rv := H
  unfold hU at H
  refine af <| af <| aa ?_;show AR _ _ _ _ _ [0, 1] _;refine zm rfl <| zS rfl (jD (a := x5.1) (b := 45) rfl rfl) <| ag <| ax rfl (fun c23 => ?_) (fun c23 => ?_)
  ·replace H := aX c23 H;refine af ?_;obtain ⟨g24, H⟩ := aM H;obtain ⟨g25, H⟩ := aM H;obtain ⟨g26, H⟩ := aM H;obtain ⟨g27, H⟩ := aM H;refine aa ?_;show AR _ _ _ _ _ [0, 1, 2, 3, 4, 5, 6] _;refine zm rfl <| zS rfl (g_neg rfl g24) <| zS rfl (ox rfl rfl g25) <| zm rfl <| zS rfl (ox rfl rfl g26) <| zS rfl (lP rfl rfl g27) <| za rfl <| ag <| aG ?_;obtain rfl := ak H;exact And.intro rfl (Exists.intro _ (Exists.intro _ ⟨aF rfl (.refl _), aB [0] rfl, rfl, rfl⟩))
  ·replace H := aY c23 H;refine aC <| af ?_;obtain ⟨g28, H⟩ := aM H;obtain ⟨g29, H⟩ := aM H;obtain ⟨g30, H⟩ := aM H;refine aa ?_;show AR _ _ _ _ _ [0, 1, 2, 3, 4, 5] _;refine zm rfl <| zS rfl (ox rfl rfl g28) <| zm rfl <| zS rfl (ox rfl rfl g29) <| zS rfl (di rfl rfl g30) <| za rfl <| ag <| aG ?_;obtain rfl := ak H;exact And.intro rfl (Exists.intro _ (Exists.intro _ ⟨aF rfl (.refl _), aB [0] rfl, rfl, rfl⟩))
theorem qX (F : Nat) (o1 : Nat) (a2 : List UInt8) (r3 : Int) (r4 : List UInt8) (H : iG F a2 = some (Res.ok (r3, r4))) : ACalls Tryz.prog 160 [.pt o1 0] [.obj o1 [S a2]] (fun e A' => e = .ret (i64 r3) ∧ A' = [.obj o1 [S r4]]) := pi F o1 a2 _ H
theorem pW (F : Nat) (o1 : Nat) (a2 : List UInt8) (e : Int) (H : iG F a2 = some (Res.pan e)) : ACalls Tryz.prog 160 [.pt o1 0] [.obj o1 [S a2]] (fun ae A' => ae = .pan ((fun e => ce (.iface 183 (.agg #[]))) e) ∧ A' = []) := pi F o1 a2 _ H
abbrev _root_.Go.Av.ee := @Tryz.func156
abbrev _root_.Go.Av.bQ := @Tryz.underlying20
abbrev _root_.Go.Av.bm := @Tryz.underlying27
set_option maxRecDepth 100000 in
set_option maxHeartbeats 1000000 in
theorem sy (F : Nat) (a1 : List UInt8) (r2 : Int) (r3 : Int) (H : iW F a1 = some (r2, r3)) : ACalls Tryz.prog 155 [S a1] [] (Ret (.tup [i64 r2, i64 r3]) []) := by
 unfold iW at H
 refine mZ [2, 3] Tryz.func155 rfl rfl ?_;show AW _ _ 52 _ _ _;refine af <| aa ?_;show AR _ _ _ _ _ [0, 1] _;refine zX rfl (bg (zs := [.int .i64 0]) (by kernel_rfl)) ?_;rintro _ _ ⟨o4, rfl, rfl⟩;refine zX rfl (bg (zs := [.int .i64 0]) (by kernel_rfl)) ?_;rintro _ _ ⟨o5, rfl, rfl⟩;refine ag <| af <| aa ?_;show AR _ _ _ _ _ [0, 1] _;refine zS rfl (fP rfl rfl) <| am rfl rfl (AO.defer rfl ?_);show AR _ _ _ _ _ _ ⟨_, [.call (.func 156) [.pt o4 0, .pt o5 0] []], _⟩;refine ag <| af <| aa ?_;show AR _ _ _ _ _ [0, 1, 2, 3] _;refine zm rfl <| zS rfl (cP (zs := [.string ⟨#[]⟩]) (ps := [(0, 1)]) (cs := [S a1]) (by kernel_rfl) rfl rfl) <| zX rfl (pR rfl (.inr ⟨_, rfl⟩)) ?_;rintro _ _ ⟨o6, rfl, rfl⟩;refine zS rfl (aH (av := .pt _ _) rfl) <| ag <| af <| aa ?_;show AR _ _ _ _ _ [0] _;refine zX rfl (bg (zs := [.int .i64 0, .int .i64 0, .int .i64 0, .int .i64 0, .int .i64 0, .int .i64 0]) (by kernel_rfl)) ?_;rintro _ _ ⟨o7, rfl, rfl⟩;refine ag <| af ?_
 rcases Or.symm (mm H) with ⟨p10, e9, H⟩ | ⟨x8, e9, H⟩
 ·refine aa ?_;show AR _ _ _ _ _ [0, 1, 2, 3, 4, 5, 6, 7, 8, 9, 10, 11] _;refine zS rfl (ah (av := .pt _ _) rfl) <| am rfl rfl (bb (c := ce (.iface 183 (.agg #[]))) [1] rfl jd rfl (iw F o6 a1 4 p10 e9) rfl ?_);refine Exists.intro [(2, .pt o4 0), (3, .pt o5 0)] ⟨by simp, .cons (.refl _) (.cons (.refl _) (.nil _)), ?_⟩;show ALeaves _ _ _ _ _ [.call (.func 156) [.pt o4 0, .pt o5 0] []] _ [.obj o7 [i64 0, i64 0, i64 0, i64 0, i64 0, i64 0], .obj o5 [i64 0], .obj o4 [i64 0]];refine cx (v := .tup []) (u1 := (.panicking [{ v := (.iface 183 (.agg #[])), recovered := true }])) (A2 := [.obj o5 [i64 2], .obj o4 [i64 0]]) [1, 1] (fun h => by cases h) gt rfl ?_ ?_
  ·show ADCalls _ _ [.pt o4 0, .pt o5 0] [.obj o5 [i64 0], .obj o4 [i64 0]] _ _;refine bH (av := .ifc 183 (.agg [])) (l := [1]) ee rfl rfl rfl rfl rfl cZ rfl (fun cs => ?_);refine ASR.op rfl rfl ((aH (av := .ifc _ _) rfl).opR _) <| ASR.nil <| af <| aa ?_;show AR _ _ _ _ _ [0, 1] _;refine zS rfl (ah (av := .ifc _ _) rfl) <| zS rfl (dE (ms := []) (.inr rfl) bQ rfl rfl) <| ag <| ax rfl (fun _ => ?_) (fun hx => bK rfl hx);refine af <| af <| aa ?_;show AR _ _ _ _ _ [0, 1, 2, 3, 4, 5, 6, 7] _;refine zS rfl (ah (av := .ifc _ _) rfl) <| zS rfl (cu bI rfl rfl) <| zS rfl (ah (av := .tup _) rfl) <| zS rfl (az (av := .agg _) rfl rfl) <| zS rfl (az (av := .v _) rfl rfl) <| zX rfl (bg (zs := []) (by kernel_rfl)) ?_;rintro _ _ ⟨o11, rfl, rfl⟩;refine s0 rfl rfl (aV (i := 0) (vs := []) (by kernel_rfl) rfl rfl (by simp [bA, slE]) rfl (ac rfl)) <| za rfl <| ag <| af <| aa ?_;show AR _ _ _ _ _ [0, 1] _;refine zm rfl <| zS rfl (bB rfl) <| ag <| ax rfl (fun hx => bK hx rfl) (fun _ => ?_);refine aC <| aa ?_;show AR _ _ _ _ _ [0, 1] _;refine s0 rfl rfl (aq (i := 2) (c := .v _) (by kernel_rfl) rfl rfl rfl rfl (ac rfl)) <| s0 rfl rfl (aq (i := 1) (c := .v _) (by kernel_rfl) rfl rfl rfl rfl (ac rfl)) <| ag ?_
   exact And.intro rfl (Exists.intro _ (Exists.intro _ ⟨bj rfl, aB [1, 1] rfl, rfl, rfl, rfl⟩))
  show ALeaves _ _ _ _ _ [] .returning [.obj o5 [i64 2], .obj o4 [i64 0], .obj o7 [i64 0, i64 0, i64 0, i64 0, i64 0, i64 0]];obtain ⟨rfl, rfl⟩ := dw H;exact Exists.intro _ (Exists.intro _ ⟨bD rfl (bn (c := .v _) 1 aK rfl rfl rfl rfl) (bn (c := .v _) 0 bm rfl rfl rfl rfl), aB [] rfl, rfl, rfl⟩)
 rcases Or.symm (mm H) with ⟨p14, e13, H⟩ | ⟨x12, e13, H⟩
 ·refine aa ?_;show AR _ _ _ _ _ [0, 1, 2, 3, 4, 5, 6, 7, 8, 9, 10, 11] _;refine zS rfl (ah (av := .pt _ _) rfl) <| am rfl rfl (aQ [1] rfl jd rfl (eP F o6 a1 4 x8.1 x8.2 e9) rfl (fun c A' h => by cases h.1) ?_)
  rintro av A' ⟨h, rfl⟩; cases h
  refine zS rfl (ah (av := .pt _ _) rfl) <| am rfl rfl (bb (c := ce (.iface 183 (.agg #[]))) [0] rfl cK rfl (dn F o6 x8.2 ([45] : List UInt8) 2 p14 e13) rfl ?_);refine Exists.intro [(2, .pt o4 0), (3, .pt o5 0)] ⟨by simp, .cons (.refl _) (.cons (.refl _) (.nil _)), ?_⟩;show ALeaves _ _ _ _ _ [.call (.func 156) [.pt o4 0, .pt o5 0] []] _ [.obj o7 [i64 0, i64 0, i64 0, i64 0, i64 0, i64 0], .obj o5 [i64 0], .obj o4 [i64 0]];refine cx (v := .tup []) (u1 := (.panicking [{ v := (.iface 183 (.agg #[])), recovered := true }])) (A2 := [.obj o5 [i64 2], .obj o4 [i64 0]]) [1, 1] (fun h => by cases h) gt rfl ?_ ?_
  ·show ADCalls _ _ [.pt o4 0, .pt o5 0] [.obj o5 [i64 0], .obj o4 [i64 0]] _ _;refine bH (av := .ifc 183 (.agg [])) (l := [1]) ee rfl rfl rfl rfl rfl cZ rfl (fun cs => ?_);refine ASR.op rfl rfl ((aH (av := .ifc _ _) rfl).opR _) <| ASR.nil <| af <| aa ?_;show AR _ _ _ _ _ [0, 1] _;refine zS rfl (ah (av := .ifc _ _) rfl) <| zS rfl (dE (ms := []) (.inr rfl) bQ rfl rfl) <| ag <| ax rfl (fun _ => ?_) (fun hx => bK rfl hx);refine af <| af <| aa ?_;show AR _ _ _ _ _ [0, 1, 2, 3, 4, 5, 6, 7] _;refine zS rfl (ah (av := .ifc _ _) rfl) <| zS rfl (cu bI rfl rfl) <| zS rfl (ah (av := .tup _) rfl) <| zS rfl (az (av := .agg _) rfl rfl) <| zS rfl (az (av := .v _) rfl rfl) <| zX rfl (bg (zs := []) (by kernel_rfl)) ?_;rintro _ _ ⟨o15, rfl, rfl⟩;refine s0 rfl rfl (aV (i := 0) (vs := []) (by kernel_rfl) rfl rfl (by simp [bA, slE]) rfl (ac rfl)) <| za rfl <| ag <| af <| aa ?_;show AR _ _ _ _ _ [0, 1] _;refine zm rfl <| zS rfl (bB rfl) <| ag <| ax rfl (fun hx => bK hx rfl) (fun _ => ?_);refine aC <| aa ?_;show AR _ _ _ _ _ [0, 1] _;refine s0 rfl rfl (aq (i := 2) (c := .v _) (by kernel_rfl) rfl rfl rfl rfl (ac rfl)) <| s0 rfl rfl (aq (i := 1) (c := .v _) (by kernel_rfl) rfl rfl rfl rfl (ac rfl)) <| ag ?_
   exact And.intro rfl (Exists.intro _ (Exists.intro _ ⟨bj rfl, aB [1, 1] rfl, rfl, rfl, rfl⟩))
  show ALeaves _ _ _ _ _ [] .returning [.obj o5 [i64 2], .obj o4 [i64 0], .obj o7 [i64 0, i64 0, i64 0, i64 0, i64 0, i64 0]];obtain ⟨rfl, rfl⟩ := dw H;exact Exists.intro _ (Exists.intro _ ⟨bD rfl (bn (c := .v _) 1 aK rfl rfl rfl rfl) (bn (c := .v _) 0 bm rfl rfl rfl rfl), aB [] rfl, rfl, rfl⟩)
 rcases Or.symm (mm H) with ⟨p18, e17, H⟩ | ⟨x16, e17, H⟩
 ·refine aa ?_;show AR _ _ _ _ _ [0, 1, 2, 3, 4, 5, 6, 7, 8, 9, 10, 11] _;refine zS rfl (ah (av := .pt _ _) rfl) <| am rfl rfl (aQ [1] rfl jd rfl (eP F o6 a1 4 x8.1 x8.2 e9) rfl (fun c A' h => by cases h.1) ?_)
  rintro av A' ⟨h, rfl⟩; cases h
  refine zS rfl (ah (av := .pt _ _) rfl) <| am rfl rfl (aQ [0] rfl cK rfl (cr F o6 x8.2 ([45] : List UInt8) 2 x12.1 x12.2 e13) rfl (fun c A' h => by cases h.1) ?_)
  rintro av A' ⟨h, rfl⟩; cases h
  refine zS rfl (ah (av := .pt _ _) rfl) <| am rfl rfl (bb (c := ce (.iface 183 (.agg #[]))) [0] rfl cK rfl (dn F o6 x12.2 ([45] : List UInt8) 2 p18 e17) rfl ?_);refine Exists.intro [(2, .pt o4 0), (3, .pt o5 0)] ⟨by simp, .cons (.refl _) (.cons (.refl _) (.nil _)), ?_⟩;show ALeaves _ _ _ _ _ [.call (.func 156) [.pt o4 0, .pt o5 0] []] _ [.obj o7 [i64 0, i64 0, i64 0, i64 0, i64 0, i64 0], .obj o5 [i64 0], .obj o4 [i64 0]];refine cx (v := .tup []) (u1 := (.panicking [{ v := (.iface 183 (.agg #[])), recovered := true }])) (A2 := [.obj o5 [i64 2], .obj o4 [i64 0]]) [1, 1] (fun h => by cases h) gt rfl ?_ ?_
  ·show ADCalls _ _ [.pt o4 0, .pt o5 0] [.obj o5 [i64 0], .obj o4 [i64 0]] _ _;refine bH (av := .ifc 183 (.agg [])) (l := [1]) ee rfl rfl rfl rfl rfl cZ rfl (fun cs => ?_);refine ASR.op rfl rfl ((aH (av := .ifc _ _) rfl).opR _) <| ASR.nil <| af <| aa ?_;show AR _ _ _ _ _ [0, 1] _;refine zS rfl (ah (av := .ifc _ _) rfl) <| zS rfl (dE (ms := []) (.inr rfl) bQ rfl rfl) <| ag <| ax rfl (fun _ => ?_) (fun hx => bK rfl hx);refine af <| af <| aa ?_;show AR _ _ _ _ _ [0, 1, 2, 3, 4, 5, 6, 7] _;refine zS rfl (ah (av := .ifc _ _) rfl) <| zS rfl (cu bI rfl rfl) <| zS rfl (ah (av := .tup _) rfl) <| zS rfl (az (av := .agg _) rfl rfl) <| zS rfl (az (av := .v _) rfl rfl) <| zX rfl (bg (zs := []) (by kernel_rfl)) ?_;rintro _ _ ⟨o19, rfl, rfl⟩;refine s0 rfl rfl (aV (i := 0) (vs := []) (by kernel_rfl) rfl rfl (by simp [bA, slE]) rfl (ac rfl)) <| za rfl <| ag <| af <| aa ?_;show AR _ _ _ _ _ [0, 1] _;refine zm rfl <| zS rfl (bB rfl) <| ag <| ax rfl (fun hx => bK hx rfl) (fun _ => ?_);refine aC <| aa ?_;show AR _ _ _ _ _ [0, 1] _;refine s0 rfl rfl (aq (i := 2) (c := .v _) (by kernel_rfl) rfl rfl rfl rfl (ac rfl)) <| s0 rfl rfl (aq (i := 1) (c := .v _) (by kernel_rfl) rfl rfl rfl rfl (ac rfl)) <| ag ?_
   exact And.intro rfl (Exists.intro _ (Exists.intro _ ⟨bj rfl, aB [1, 1] rfl, rfl, rfl, rfl⟩))
  show ALeaves _ _ _ _ _ [] .returning [.obj o5 [i64 2], .obj o4 [i64 0], .obj o7 [i64 0, i64 0, i64 0, i64 0, i64 0, i64 0]];obtain ⟨rfl, rfl⟩ := dw H;exact Exists.intro _ (Exists.intro _ ⟨bD rfl (bn (c := .v _) 1 aK rfl rfl rfl rfl) (bn (c := .v _) 0 bm rfl rfl rfl rfl), aB [] rfl, rfl, rfl⟩)
 refine aa ?_;show AR _ _ _ _ _ [0, 1, 2, 3, 4, 5, 6, 7, 8, 9, 10, 11] _;refine zS rfl (ah (av := .pt _ _) rfl) <| am rfl rfl (aQ [1] rfl jd rfl (eP F o6 a1 4 x8.1 x8.2 e9) rfl (fun c A' h => by cases h.1) ?_)
 rintro av A' ⟨h, rfl⟩; cases h
 refine zS rfl (ah (av := .pt _ _) rfl) <| am rfl rfl (aQ [0] rfl cK rfl (cr F o6 x8.2 ([45] : List UInt8) 2 x12.1 x12.2 e13) rfl (fun c A' h => by cases h.1) ?_)
 rintro av A' ⟨h, rfl⟩; cases h
 refine zS rfl (ah (av := .pt _ _) rfl) <| am rfl rfl (aQ [0] rfl cK rfl (cr F o6 x12.2 ([45] : List UInt8) 2 x16.1 x16.2 e17) rfl (fun c A' h => by cases h.1) ?_)
 rintro av A' ⟨h, rfl⟩; cases h
 refine zS rfl (an (n := 0) (by kernel_rfl) rfl) <| s0 rfl rfl (aq (i := 1) (c := .v _) (by kernel_rfl) rfl rfl rfl rfl (ac rfl)) <| zS rfl (an (n := 1) (by kernel_rfl) rfl) <| s0 rfl rfl (aq (i := 1) (c := .v _) (by kernel_rfl) rfl rfl rfl rfl (ac rfl)) <| zS rfl (an (n := 2) (by kernel_rfl) rfl) <| s0 rfl rfl (aq (i := 1) (c := .v _) (by kernel_rfl) rfl rfl rfl rfl (ac rfl)) <| ag <| af ?_
 rcases Or.symm (mm H) with ⟨p22, e21, H⟩ | ⟨x20, e21, H⟩
 ·refine aa ?_;show AR _ _ _ _ _ [0, 1, 2, 3, 4, 5, 6, 7, 8, 9, 10, 11] _;refine zS rfl (ah (av := .pt _ _) rfl) <| am rfl rfl (bb (c := ce (.iface 183 (.agg #[]))) [0] rfl cK rfl (dn F o6 x16.2 ([84, 116] : List UInt8) 2 p22 e21) rfl ?_);refine Exists.intro [(2, .pt o4 0), (3, .pt o5 0)] ⟨by simp, .cons (.refl _) (.cons (.refl _) (.nil _)), ?_⟩;show ALeaves _ _ _ _ _ [.call (.func 156) [.pt o4 0, .pt o5 0] []] _ [.obj o7 [i64 x8.1, i64 x12.1, i64 x16.1, i64 0, i64 0, i64 0], .obj o5 [i64 0], .obj o4 [i64 0]];refine cx (v := .tup []) (u1 := (.panicking [{ v := (.iface 183 (.agg #[])), recovered := true }])) (A2 := [.obj o5 [i64 2], .obj o4 [i64 0]]) [1, 1] (fun h => by cases h) gt rfl ?_ ?_
  ·show ADCalls _ _ [.pt o4 0, .pt o5 0] [.obj o5 [i64 0], .obj o4 [i64 0]] _ _;refine bH (av := .ifc 183 (.agg [])) (l := [1]) ee rfl rfl rfl rfl rfl cZ rfl (fun cs => ?_);refine ASR.op rfl rfl ((aH (av := .ifc _ _) rfl).opR _) <| ASR.nil <| af <| aa ?_;show AR _ _ _ _ _ [0, 1] _;refine zS rfl (ah (av := .ifc _ _) rfl) <| zS rfl (dE (ms := []) (.inr rfl) bQ rfl rfl) <| ag <| ax rfl (fun _ => ?_) (fun hx => bK rfl hx);refine af <| af <| aa ?_;show AR _ _ _ _ _ [0, 1, 2, 3, 4, 5, 6, 7] _;refine zS rfl (ah (av := .ifc _ _) rfl) <| zS rfl (cu bI rfl rfl) <| zS rfl (ah (av := .tup _) rfl) <| zS rfl (az (av := .agg _) rfl rfl) <| zS rfl (az (av := .v _) rfl rfl) <| zX rfl (bg (zs := []) (by kernel_rfl)) ?_;rintro _ _ ⟨o23, rfl, rfl⟩;refine s0 rfl rfl (aV (i := 0) (vs := []) (by kernel_rfl) rfl rfl (by simp [bA, slE]) rfl (ac rfl)) <| za rfl <| ag <| af <| aa ?_;show AR _ _ _ _ _ [0, 1] _;refine zm rfl <| zS rfl (bB rfl) <| ag <| ax rfl (fun hx => bK hx rfl) (fun _ => ?_);refine aC <| aa ?_;show AR _ _ _ _ _ [0, 1] _;refine s0 rfl rfl (aq (i := 2) (c := .v _) (by kernel_rfl) rfl rfl rfl rfl (ac rfl)) <| s0 rfl rfl (aq (i := 1) (c := .v _) (by kernel_rfl) rfl rfl rfl rfl (ac rfl)) <| ag ?_
   exact And.intro rfl (Exists.intro _ (Exists.intro _ ⟨bj rfl, aB [1, 1] rfl, rfl, rfl, rfl⟩))
  show ALeaves _ _ _ _ _ [] .returning [.obj o5 [i64 2], .obj o4 [i64 0], .obj o7 [i64 x8.1, i64 x12.1, i64 x16.1, i64 0, i64 0, i64 0]];obtain ⟨rfl, rfl⟩ := dw H;exact Exists.intro _ (Exists.intro _ ⟨bD rfl (bn (c := .v _) 1 aK rfl rfl rfl rfl) (bn (c := .v _) 0 bm rfl rfl rfl rfl), aB [] rfl, rfl, rfl⟩)
 rcases Or.symm (mm H) with ⟨p26, e25, H⟩ | ⟨x24, e25, H⟩
 ·refine aa ?_;show AR _ _ _ _ _ [0, 1, 2, 3, 4, 5, 6, 7, 8, 9, 10, 11] _;refine zS rfl (ah (av := .pt _ _) rfl) <| am rfl rfl (aQ [0] rfl cK rfl (cr F o6 x16.2 ([84, 116] : List UInt8) 2 x20.1 x20.2 e21) rfl (fun c A' h => by cases h.1) ?_)
  rintro av A' ⟨h, rfl⟩; cases h
  refine zS rfl (ah (av := .pt _ _) rfl) <| am rfl rfl (bb (c := ce (.iface 183 (.agg #[]))) [0] rfl cK rfl (dn F o6 x20.2 ([58] : List UInt8) 2 p26 e25) rfl ?_);refine Exists.intro [(2, .pt o4 0), (3, .pt o5 0)] ⟨by simp, .cons (.refl _) (.cons (.refl _) (.nil _)), ?_⟩;show ALeaves _ _ _ _ _ [.call (.func 156) [.pt o4 0, .pt o5 0] []] _ [.obj o7 [i64 x8.1, i64 x12.1, i64 x16.1, i64 0, i64 0, i64 0], .obj o5 [i64 0], .obj o4 [i64 0]];refine cx (v := .tup []) (u1 := (.panicking [{ v := (.iface 183 (.agg #[])), recovered := true }])) (A2 := [.obj o5 [i64 2], .obj o4 [i64 0]]) [1, 1] (fun h => by cases h) gt rfl ?_ ?_
  ·show ADCalls _ _ [.pt o4 0, .pt o5 0] [.obj o5 [i64 0], .obj o4 [i64 0]] _ _;refine bH (av := .ifc 183 (.agg [])) (l := [1]) ee rfl rfl rfl rfl rfl cZ rfl (fun cs => ?_);refine ASR.op rfl rfl ((aH (av := .ifc _ _) rfl).opR _) <| ASR.nil <| af <| aa ?_;show AR _ _ _ _ _ [0, 1] _;refine zS rfl (ah (av := .ifc _ _) rfl) <| zS rfl (dE (ms := []) (.inr rfl) bQ rfl rfl) <| ag <| ax rfl (fun _ => ?_) (fun hx => bK rfl hx);refine af <| af <| aa ?_;show AR _ _ _ _ _ [0, 1, 2, 3, 4, 5, 6, 7] _;refine zS rfl (ah (av := .ifc _ _) rfl) <| zS rfl (cu bI rfl rfl) <| zS rfl (ah (av := .tup _) rfl) <| zS rfl (az (av := .agg _) rfl rfl) <| zS rfl (az (av := .v _) rfl rfl) <| zX rfl (bg (zs := []) (by kernel_rfl)) ?_;rintro _ _ ⟨o27, rfl, rfl⟩;refine s0 rfl rfl (aV (i := 0) (vs := []) (by kernel_rfl) rfl rfl (by simp [bA, slE]) rfl (ac rfl)) <| za rfl <| ag <| af <| aa ?_;show AR _ _ _ _ _ [0, 1] _;refine zm rfl <| zS rfl (bB rfl) <| ag <| ax rfl (fun hx => bK hx rfl) (fun _ => ?_);refine aC <| aa ?_;show AR _ _ _ _ _ [0, 1] _;refine s0 rfl rfl (aq (i := 2) (c := .v _) (by kernel_rfl) rfl rfl rfl rfl (ac rfl)) <| s0 rfl rfl (aq (i := 1) (c := .v _) (by kernel_rfl) rfl rfl rfl rfl (ac rfl)) <| ag ?_
   exact And.intro rfl (Exists.intro _ (Exists.intro _ ⟨bj rfl, aB [1, 1] rfl, rfl, rfl, rfl⟩))
  show ALeaves _ _ _ _ _ [] .returning [.obj o5 [i64 2], .obj o4 [i64 0], .obj o7 [i64 x8.1, i64 x12.1, i64 x16.1, i64 0, i64 0, i64 0]];obtain ⟨rfl, rfl⟩ := dw H;exact Exists.intro _ (Exists.intro _ ⟨bD rfl (bn (c := .v _) 1 aK rfl rfl rfl rfl) (bn (c := .v _) 0 bm rfl rfl rfl rfl), aB [] rfl, rfl, rfl⟩)
 rcases Or.symm (mm H) with ⟨p30, e29, H⟩ | ⟨x28, e29, H⟩
 ·refine aa ?_;show AR _ _ _ _ _ [0, 1, 2, 3, 4, 5, 6, 7, 8, 9, 10, 11] _;refine zS rfl (ah (av := .pt _ _) rfl) <| am rfl rfl (aQ [0] rfl cK rfl (cr F o6 x16.2 ([84, 116] : List UInt8) 2 x20.1 x20.2 e21) rfl (fun c A' h => by cases h.1) ?_)
  rintro av A' ⟨h, rfl⟩; cases h
  refine zS rfl (ah (av := .pt _ _) rfl) <| am rfl rfl (aQ [0] rfl cK rfl (cr F o6 x20.2 ([58] : List UInt8) 2 x24.1 x24.2 e25) rfl (fun c A' h => by cases h.1) ?_)
  rintro av A' ⟨h, rfl⟩; cases h
  refine zS rfl (ah (av := .pt _ _) rfl) <| am rfl rfl (bb (c := ce (.iface 183 (.agg #[]))) [0] rfl cK rfl (dn F o6 x24.2 ([58] : List UInt8) 2 p30 e29) rfl ?_);refine Exists.intro [(2, .pt o4 0), (3, .pt o5 0)] ⟨by simp, .cons (.refl _) (.cons (.refl _) (.nil _)), ?_⟩;show ALeaves _ _ _ _ _ [.call (.func 156) [.pt o4 0, .pt o5 0] []] _ [.obj o7 [i64 x8.1, i64 x12.1, i64 x16.1, i64 0, i64 0, i64 0], .obj o5 [i64 0], .obj o4 [i64 0]];refine cx (v := .tup []) (u1 := (.panicking [{ v := (.iface 183 (.agg #[])), recovered := true }])) (A2 := [.obj o5 [i64 2], .obj o4 [i64 0]]) [1, 1] (fun h => by cases h) gt rfl ?_ ?_
  ·show ADCalls _ _ [.pt o4 0, .pt o5 0] [.obj o5 [i64 0], .obj o4 [i64 0]] _ _;refine bH (av := .ifc 183 (.agg [])) (l := [1]) ee rfl rfl rfl rfl rfl cZ rfl (fun cs => ?_);refine ASR.op rfl rfl ((aH (av := .ifc _ _) rfl).opR _) <| ASR.nil <| af <| aa ?_;show AR _ _ _ _ _ [0, 1] _;refine zS rfl (ah (av := .ifc _ _) rfl) <| zS rfl (dE (ms := []) (.inr rfl) bQ rfl rfl) <| ag <| ax rfl (fun _ => ?_) (fun hx => bK rfl hx);refine af <| af <| aa ?_;show AR _ _ _ _ _ [0, 1, 2, 3, 4, 5, 6, 7] _;refine zS rfl (ah (av := .ifc _ _) rfl) <| zS rfl (cu bI rfl rfl) <| zS rfl (ah (av := .tup _) rfl) <| zS rfl (az (av := .agg _) rfl rfl) <| zS rfl (az (av := .v _) rfl rfl) <| zX rfl (bg (zs := []) (by kernel_rfl)) ?_;rintro _ _ ⟨o31, rfl, rfl⟩;refine s0 rfl rfl (aV (i := 0) (vs := []) (by kernel_rfl) rfl rfl (by simp [bA, slE]) rfl (ac rfl)) <| za rfl <| ag <| af <| aa ?_;show AR _ _ _ _ _ [0, 1] _;refine zm rfl <| zS rfl (bB rfl) <| ag <| ax rfl (fun hx => bK hx rfl) (fun _ => ?_);refine aC <| aa ?_;show AR _ _ _ _ _ [0, 1] _;refine s0 rfl rfl (aq (i := 2) (c := .v _) (by kernel_rfl) rfl rfl rfl rfl (ac rfl)) <| s0 rfl rfl (aq (i := 1) (c := .v _) (by kernel_rfl) rfl rfl rfl rfl (ac rfl)) <| ag ?_
   exact And.intro rfl (Exists.intro _ (Exists.intro _ ⟨bj rfl, aB [1, 1] rfl, rfl, rfl, rfl⟩))
  show ALeaves _ _ _ _ _ [] .returning [.obj o5 [i64 2], .obj o4 [i64 0], .obj o7 [i64 x8.1, i64 x12.1, i64 x16.1, i64 0, i64 0, i64 0]];obtain ⟨rfl, rfl⟩ := dw H;exact Exists.intro _ (Exists.intro _ ⟨bD rfl (bn (c := .v _) 1 aK rfl rfl rfl rfl) (bn (c := .v _) 0 bm rfl rfl rfl rfl), aB [] rfl, rfl, rfl⟩)
 refine aa ?_;show AR _ _ _ _ _ [0, 1, 2, 3, 4, 5, 6, 7, 8, 9, 10, 11] _;refine zS rfl (ah (av := .pt _ _) rfl) <| am rfl rfl (aQ [0] rfl cK rfl (cr F o6 x16.2 ([84, 116] : List UInt8) 2 x20.1 x20.2 e21) rfl (fun c A' h => by cases h.1) ?_)
 rintro av A' ⟨h, rfl⟩; cases h
 refine zS rfl (ah (av := .pt _ _) rfl) <| am rfl rfl (aQ [0] rfl cK rfl (cr F o6 x20.2 ([58] : List UInt8) 2 x24.1 x24.2 e25) rfl (fun c A' h => by cases h.1) ?_)
 rintro av A' ⟨h, rfl⟩; cases h
 refine zS rfl (ah (av := .pt _ _) rfl) <| am rfl rfl (aQ [0] rfl cK rfl (cr F o6 x24.2 ([58] : List UInt8) 2 x28.1 x28.2 e29) rfl (fun c A' h => by cases h.1) ?_)
 rintro av A' ⟨h, rfl⟩; cases h
 refine zS rfl (an (n := 3) (by kernel_rfl) rfl) <| s0 rfl rfl (aq (i := 1) (c := .v _) (by kernel_rfl) rfl rfl rfl rfl (ac rfl)) <| zS rfl (an (n := 4) (by kernel_rfl) rfl) <| s0 rfl rfl (aq (i := 1) (c := .v _) (by kernel_rfl) rfl rfl rfl rfl (ac rfl)) <| zS rfl (an (n := 5) (by kernel_rfl) rfl) <| s0 rfl rfl (aq (i := 1) (c := .v _) (by kernel_rfl) rfl rfl rfl rfl (ac rfl)) <| ag <| af ?_
 rcases Or.symm (mm H) with ⟨p34, e33, H⟩ | ⟨x32, e33, H⟩
 ·refine aa ?_;show AR _ _ _ _ _ [0, 1] _;refine zS rfl (ah (av := .pt _ _) rfl) <| am rfl rfl (bb (c := ce (.iface 183 (.agg #[]))) [0] rfl ui rfl (nv F o6 x28.2 p34 e33) rfl ?_);refine Exists.intro [(2, .pt o4 0), (3, .pt o5 0)] ⟨by simp, .cons (.refl _) (.cons (.refl _) (.nil _)), ?_⟩;show ALeaves _ _ _ _ _ [.call (.func 156) [.pt o4 0, .pt o5 0] []] _ [.obj o7 [i64 x8.1, i64 x12.1, i64 x16.1, i64 x20.1, i64 x24.1, i64 x28.1], .obj o5 [i64 0], .obj o4 [i64 0]];refine cx (v := .tup []) (u1 := (.panicking [{ v := (.iface 183 (.agg #[])), recovered := true }])) (A2 := [.obj o5 [i64 2], .obj o4 [i64 0]]) [1, 1] (fun h => by cases h) gt rfl ?_ ?_
  ·show ADCalls _ _ [.pt o4 0, .pt o5 0] [.obj o5 [i64 0], .obj o4 [i64 0]] _ _;refine bH (av := .ifc 183 (.agg [])) (l := [1]) ee rfl rfl rfl rfl rfl cZ rfl (fun cs => ?_);refine ASR.op rfl rfl ((aH (av := .ifc _ _) rfl).opR _) <| ASR.nil <| af <| aa ?_;show AR _ _ _ _ _ [0, 1] _;refine zS rfl (ah (av := .ifc _ _) rfl) <| zS rfl (dE (ms := []) (.inr rfl) bQ rfl rfl) <| ag <| ax rfl (fun _ => ?_) (fun hx => bK rfl hx);refine af <| af <| aa ?_;show AR _ _ _ _ _ [0, 1, 2, 3, 4, 5, 6, 7] _;refine zS rfl (ah (av := .ifc _ _) rfl) <| zS rfl (cu bI rfl rfl) <| zS rfl (ah (av := .tup _) rfl) <| zS rfl (az (av := .agg _) rfl rfl) <| zS rfl (az (av := .v _) rfl rfl) <| zX rfl (bg (zs := []) (by kernel_rfl)) ?_;rintro _ _ ⟨o35, rfl, rfl⟩;refine s0 rfl rfl (aV (i := 0) (vs := []) (by kernel_rfl) rfl rfl (by simp [bA, slE]) rfl (ac rfl)) <| za rfl <| ag <| af <| aa ?_;show AR _ _ _ _ _ [0, 1] _;refine zm rfl <| zS rfl (bB rfl) <| ag <| ax rfl (fun hx => bK hx rfl) (fun _ => ?_);refine aC <| aa ?_;show AR _ _ _ _ _ [0, 1] _;refine s0 rfl rfl (aq (i := 2) (c := .v _) (by kernel_rfl) rfl rfl rfl rfl (ac rfl)) <| s0 rfl rfl (aq (i := 1) (c := .v _) (by kernel_rfl) rfl rfl rfl rfl (ac rfl)) <| ag ?_
   exact And.intro rfl (Exists.intro _ (Exists.intro _ ⟨bj rfl, aB [1, 1] rfl, rfl, rfl, rfl⟩))
  show ALeaves _ _ _ _ _ [] .returning [.obj o5 [i64 2], .obj o4 [i64 0], .obj o7 [i64 x8.1, i64 x12.1, i64 x16.1, i64 x20.1, i64 x24.1, i64 x28.1]];obtain ⟨rfl, rfl⟩ := dw H;exact Exists.intro _ (Exists.intro _ ⟨bD rfl (bn (c := .v _) 1 aK rfl rfl rfl rfl) (bn (c := .v _) 0 bm rfl rfl rfl rfl), aB [] rfl, rfl, rfl⟩)
 refine aa ?_;show AR _ _ _ _ _ [0, 1] _;refine zS rfl (ah (av := .pt _ _) rfl) <| am rfl rfl (aQ [0] rfl ui rfl (og F o6 x28.2 x32 e33) rfl (fun c A' h => by cases h.1) ?_)
 rintro av A' ⟨h, rfl⟩; cases h
 refine ag <| af ?_
 rcases Or.symm (mm H) with ⟨p38, e37, H⟩ | ⟨x36, e37, H⟩
 ·refine aa ?_;show AR _ _ _ _ _ [0, 1, 2] _;refine zS rfl (ah (av := .pt _ _) rfl) <| am rfl rfl (bb (c := ce (.iface 183 (.agg #[]))) [0] rfl uh rfl (pW F o6 x32 p38 e37) rfl ?_);refine Exists.intro [(2, .pt o4 0), (3, .pt o5 0)] ⟨by simp, .cons (.refl _) (.cons (.refl _) (.nil _)), ?_⟩;show ALeaves _ _ _ _ _ [.call (.func 156) [.pt o4 0, .pt o5 0] []] _ [.obj o7 [i64 x8.1, i64 x12.1, i64 x16.1, i64 x20.1, i64 x24.1, i64 x28.1], .obj o5 [i64 0], .obj o4 [i64 0]];refine cx (v := .tup []) (u1 := (.panicking [{ v := (.iface 183 (.agg #[])), recovered := true }])) (A2 := [.obj o5 [i64 2], .obj o4 [i64 0]]) [1, 1] (fun h => by cases h) gt rfl ?_ ?_
  ·show ADCalls _ _ [.pt o4 0, .pt o5 0] [.obj o5 [i64 0], .obj o4 [i64 0]] _ _;refine bH (av := .ifc 183 (.agg [])) (l := [1]) ee rfl rfl rfl rfl rfl cZ rfl (fun cs => ?_);refine ASR.op rfl rfl ((aH (av := .ifc _ _) rfl).opR _) <| ASR.nil <| af <| aa ?_;show AR _ _ _ _ _ [0, 1] _;refine zS rfl (ah (av := .ifc _ _) rfl) <| zS rfl (dE (ms := []) (.inr rfl) bQ rfl rfl) <| ag <| ax rfl (fun _ => ?_) (fun hx => bK rfl hx);refine af <| af <| aa ?_;show AR _ _ _ _ _ [0, 1, 2, 3, 4, 5, 6, 7] _;refine zS rfl (ah (av := .ifc _ _) rfl) <| zS rfl (cu bI rfl rfl) <| zS rfl (ah (av := .tup _) rfl) <| zS rfl (az (av := .agg _) rfl rfl) <| zS rfl (az (av := .v _) rfl rfl) <| zX rfl (bg (zs := []) (by kernel_rfl)) ?_;rintro _ _ ⟨o39, rfl, rfl⟩;refine s0 rfl rfl (aV (i := 0) (vs := []) (by kernel_rfl) rfl rfl (by simp [bA, slE]) rfl (ac rfl)) <| za rfl <| ag <| af <| aa ?_;show AR _ _ _ _ _ [0, 1] _;refine zm rfl <| zS rfl (bB rfl) <| ag <| ax rfl (fun hx => bK hx rfl) (fun _ => ?_);refine aC <| aa ?_;show AR _ _ _ _ _ [0, 1] _;refine s0 rfl rfl (aq (i := 2) (c := .v _) (by kernel_rfl) rfl rfl rfl rfl (ac rfl)) <| s0 rfl rfl (aq (i := 1) (c := .v _) (by kernel_rfl) rfl rfl rfl rfl (ac rfl)) <| ag ?_
   exact And.intro rfl (Exists.intro _ (Exists.intro _ ⟨bj rfl, aB [1, 1] rfl, rfl, rfl, rfl⟩))
  show ALeaves _ _ _ _ _ [] .returning [.obj o5 [i64 2], .obj o4 [i64 0], .obj o7 [i64 x8.1, i64 x12.1, i64 x16.1, i64 x20.1, i64 x24.1, i64 x28.1]];obtain ⟨rfl, rfl⟩ := dw H;exact Exists.intro _ (Exists.intro _ ⟨bD rfl (bn (c := .v _) 1 aK rfl rfl rfl rfl) (bn (c := .v _) 0 bm rfl rfl rfl rfl), aB [] rfl, rfl, rfl⟩)
 refine aa ?_;show AR _ _ _ _ _ [0, 1, 2] _;refine zS rfl (ah (av := .pt _ _) rfl) <| am rfl rfl (aQ [0] rfl uh rfl (qX F o6 x32 x36.1 x36.2 e37) rfl (fun c A' h => by cases h.1) ?_)
 rintro av A' ⟨h, rfl⟩; cases h
 refine za rfl <| ag <| af ?_;obtain ⟨x40, x41, e42, H⟩ := cF H;refine aa ?_;show AR _ _ _ _ _ [0, 1, 2, 3, 4, 5, 6] _;refine zR rfl (dY (i := 1) (n := 6) Tryz.underlying189 rfl (by kernel_rfl) rfl rfl (ac rfl)) <| am rfl rfl (aA rfl zP rfl (wY F x8.1 x12.1 x16.1 x20.1 x24.1 x28.1 x40 x41 e42) ?_);refine zS rfl (ah (av := .tup _) rfl) <| zS rfl (az (av := .v _) rfl rfl) <| zS rfl (az (av := .v _) rfl rfl) <| s0 rfl rfl (aq (i := 3) (c := .v _) (by kernel_rfl) rfl rfl rfl rfl (ac rfl)) <| s0 rfl rfl (aq (i := 2) (c := .v _) (by kernel_rfl) rfl rfl rfl rfl (ac rfl)) <| ag <| bL (X := Unit) (fun _ => ⟨[(2, .pt o4 0), (3, .pt o5 0), (6, i64 x36.1)], [.call (.func 156) [.pt o4 0, .pt o5 0] []], [.obj o5 [i64 x41], .obj o4 [i64 x40]]⟩) (fun _ => gy x36 x40 = some (r2, r3)) ?_ ?_
 ·refine af <| aa ?_;show AR _ _ _ _ _ [0, 1, 2, 3, 4, 5, 6, 7, 8] _;refine zR rfl (ao (i := 2) bm rfl rfl rfl rfl) <| zS rfl (mb rfl rfl) <| zm rfl <| aW (l := []) 46 (B ((!decide (x41 = 0)) || (!decide (x36.2 = ([] : List UInt8))))) (fun K => ?_) ?_
  ·rcases aj (!decide (x41 = 0)) with h43 | h43
   ·refine zF h43 rfl <| zF h43 rfl <| zF h43 rfl <| zF h43 rfl <| zF h43 rfl <| zS rfl (aD (av := .v _) rfl h43 rfl) ?_;exact K _ 5 _ (ay (jA h43)) rfl rfl
   ·refine zU h43 rfl (ah (av := .pt _ _) rfl) <| zU h43 rfl (ar rfl) <| zU h43 rfl (an (n := 0) (by kernel_rfl) rfl) <| zT h43 rfl (ck rfl rfl (ao (i := 0) ai rfl rfl rfl rfl) ?_);refine zU h43 rfl (ni rfl rfl) <| zS rfl (aE (av := .v _) rfl h43 rfl) ?_;exact K _ 5 _ (ay (jB h43)) rfl rfl
  refine ag <| ax rfl (fun c44 => ?_) (fun c44 => ?_)
  ·replace H := aX c44 H;refine aa ?_;show AR _ _ _ _ _ [0, 1, 2] _;refine zS rfl (cP (zs := []) (ps := []) (cs := []) (by kernel_rfl) rfl rfl) <| zS rfl (bf (a := .agg _) bI rfl rfl) <| am rfl rfl (AO.panicT (c := ce (.iface 183 (.agg #[]))) rfl rfl ?_);refine Exists.intro [(2, .pt o4 0), (3, .pt o5 0)] ⟨by simp, .cons (.refl _) (.cons (.refl _) (.nil _)), ?_⟩;show ALeaves _ _ _ _ _ [.call (.func 156) [.pt o4 0, .pt o5 0] []] _ [.obj o6 [S x36.2], .obj o7 [i64 x8.1, i64 x12.1, i64 x16.1, i64 x20.1, i64 x24.1, i64 x28.1], .obj o5 [i64 x41], .obj o4 [i64 x40]];refine cx (v := .tup []) (u1 := (.panicking [{ v := (.iface 183 (.agg #[])), recovered := true }])) (A2 := [.obj o5 [i64 2], .obj o4 [i64 0]]) [2, 2] (fun h => by cases h) gt rfl ?_ ?_
   ·show ADCalls _ _ [.pt o4 0, .pt o5 0] [.obj o5 [i64 x41], .obj o4 [i64 x40]] _ _;refine bH (av := .ifc 183 (.agg [])) (l := [1]) ee rfl rfl rfl rfl rfl cZ rfl (fun cs => ?_);refine ASR.op rfl rfl ((aH (av := .ifc _ _) rfl).opR _) <| ASR.nil <| af <| aa ?_;show AR _ _ _ _ _ [0, 1] _;refine zS rfl (ah (av := .ifc _ _) rfl) <| zS rfl (dE (ms := []) (.inr rfl) bQ rfl rfl) <| ag <| ax rfl (fun _ => ?_) (fun hx => bK rfl hx);refine af <| af <| aa ?_;show AR _ _ _ _ _ [0, 1, 2, 3, 4, 5, 6, 7] _;refine zS rfl (ah (av := .ifc _ _) rfl) <| zS rfl (cu bI rfl rfl) <| zS rfl (ah (av := .tup _) rfl) <| zS rfl (az (av := .agg _) rfl rfl) <| zS rfl (az (av := .v _) rfl rfl) <| zX rfl (bg (zs := []) (by kernel_rfl)) ?_;rintro _ _ ⟨o45, rfl, rfl⟩;refine s0 rfl rfl (aV (i := 0) (vs := []) (by kernel_rfl) rfl rfl (by simp [bA, slE]) rfl (ac rfl)) <| za rfl <| ag <| af <| aa ?_;show AR _ _ _ _ _ [0, 1] _;refine zm rfl <| zS rfl (bB rfl) <| ag <| ax rfl (fun hx => bK hx rfl) (fun _ => ?_);refine aC <| aa ?_;show AR _ _ _ _ _ [0, 1] _;refine s0 rfl rfl (aq (i := 2) (c := .v _) (by kernel_rfl) rfl rfl rfl rfl (ac rfl)) <| s0 rfl rfl (aq (i := 1) (c := .v _) (by kernel_rfl) rfl rfl rfl rfl (ac rfl)) <| ag ?_
    exact And.intro rfl (Exists.intro _ (Exists.intro _ ⟨bj rfl, aB [1, 1] rfl, rfl, rfl, rfl⟩))
   show ALeaves _ _ _ _ _ [] .returning [.obj o5 [i64 2], .obj o4 [i64 0], .obj o6 [S x36.2], .obj o7 [i64 x8.1, i64 x12.1, i64 x16.1, i64 x20.1, i64 x24.1, i64 x28.1]];obtain ⟨rfl, rfl⟩ := dw H;exact Exists.intro _ (Exists.intro _ ⟨bD rfl (bn (c := .v _) 1 aK rfl rfl rfl rfl) (bn (c := .v _) 0 bm rfl rfl rfl rfl), aB [] rfl, rfl, rfl⟩)
  ·replace H := aY c44 H;refine aC ?_;exact Exists.intro () ⟨H, be [2, 2] (.cons (.refl _) (.cons (.refl _) (.cons (.refl _) (.nil _)))) rfl⟩
 rintro _ H;replace H : gy x36 x40 = some (r2, r3) := H
 unfold gy at H
 refine af ?_;obtain ⟨g47, H⟩ := aM H;refine aa ?_;show AR _ _ _ _ _ [0, 1, 2, 3, 4] _;refine zR rfl (ao (i := 1) aK rfl rfl rfl rfl) <| zm rfl <| zS rfl (lP rfl rfl g47) <| s0 rfl rfl (aq (i := 1) (c := .v _) (by kernel_rfl) rfl rfl rfl rfl (ac rfl)) <| s0 rfl rfl (aq (i := 0) (c := .v _) (by kernel_rfl) rfl rfl rfl rfl (ac rfl)) <| ag <| aG ?_;show ALeaves _ _ _ _ _ [.call (.func 156) [.pt o4 0, .pt o5 0] []] _ [.obj o5 [i64 0], .obj o4 [i64 (x40 - x36.1)]];refine cx (v := .tup []) (u1 := .returning) (A2 := [.obj o5 [i64 0], .obj o4 [i64 (x40 - x36.1)]]) [0, 0] (fun h => by cases h) gt rfl ?_ ?_
 ·show ADCalls _ _ [.pt o4 0, .pt o5 0] [.obj o5 [i64 0], .obj o4 [i64 (x40 - x36.1)]] _ _;refine bH (av := .v .nilIface) (l := [1]) ee rfl rfl rfl rfl rfl Recovers.ret rfl (fun cs => ?_);refine ASR.op rfl rfl ((asg rfl).opR _) <| ASR.nil <| af <| aa ?_;show AR _ _ _ _ _ [0, 1] _;refine zm rfl <| zS rfl (mP (n := 0) (t := 0) (k := .i64) bQ rfl rfl) <| ag <| ax rfl (fun hx => bK hx rfl) (fun _ => ?_);refine aC ?_;exact And.intro rfl (Exists.intro _ (Exists.intro _ ⟨bj rfl, aB [0, 0] rfl, rfl, rfl, rfl⟩))
 show ALeaves _ _ _ _ _ [] .returning [.obj o5 [i64 0], .obj o4 [i64 (x40 - x36.1)]];obtain ⟨rfl, rfl⟩ := dw H;exact Exists.intro _ (Exists.intro _ ⟨bD rfl (bn (c := .v _) 1 aK rfl rfl rfl rfl) (bn (c := .v _) 0 bm rfl rfl rfl rfl), aB [] rfl, rfl, rfl⟩)
end Go.Proofs.YtkbfjepffpddfaaGreatDoor
namespace Go.Pv
def fG (F : Nat) (a1 : UInt8) : Option UInt8 :=
some (a1 ||| 32)
def fI (y84 : Int) : Option Bool :=
some (!decide (y84 = 95))
def dl (y50 : Int) (rec51 : (Int × Int) → Option Bool) (y81 : Int) : Option Bool :=
grd (okI (y50 + 1)) <|
rec51 (y81, y50 + 1)
def ix (F : Nat) (y15 : List UInt8) (y47 : Bool) (rec51 : (Int × Int) → Option Bool) (y49 : Int) (y50 : Int) : Option Bool :=
bif decide (y50 < (y15.length : Int)) then
  grd (dq y50 y15.length) <|
  lt (at_ y15 y50) fun x55 =>
  fv (decide (48 ≤ (x55.toNat : Int))) (dq y50 y15.length) <|
  lt (at_ y15 y50) fun x59 =>
  fv ((!((decide (48 ≤ (x55.toNat : Int))) && (decide ((x59.toNat : Int) ≤ 57)))) && y47) (dq y50 y15.length) <|
  lt (at_ y15 y50) fun x64 =>
  lE ((!((decide (48 ≤ (x55.toNat : Int))) && (decide ((x59.toNat : Int) ≤ 57)))) && y47) (fG F x64) fun x66 =>
  fv ((!((decide (48 ≤ (x55.toNat : Int))) && (decide ((x59.toNat : Int) ≤ 57)))) && (y47 && (decide (97 ≤ (x66.toNat : Int))))) (dq y50 y15.length) <|
  lt (at_ y15 y50) fun x70 =>
  lE ((!((decide (48 ≤ (x55.toNat : Int))) && (decide ((x59.toNat : Int) ≤ 57)))) && (y47 && (decide (97 ≤ (x66.toNat : Int))))) (fG F x70) fun x72 =>
  bif ((decide (48 ≤ (x55.toNat : Int))) && (decide ((x59.toNat : Int) ≤ 57))) || ((y47 && (decide (97 ≤ (x66.toNat : Int)))) && (decide ((x72.toNat : Int) ≤ 102))) then
    dl y50 rec51 48
  else
    grd (dq y50 y15.length) <|
    lt (at_ y15 y50) fun x76 =>
    bif decide (x76 = 95) then
      bif !decide (y49 = 48) then
        some false
      else
        dl y50 rec51 95
    else
      bif decide (y49 = 95) then
        some false
      else
        dl y50 rec51 33
else
  fI y49
def ep (F : Nat) (y15 : List UInt8) (y47 : Bool) (n : Nat) : (Int × Int) → Option Bool :=
  loop (fun rec x => ix F y15 y47 rec x.1 x.2) n
def eo (F : Nat) (y15 : List UInt8) (y45 : Int) (y46 : Int) (y47 : Bool) : Option Bool :=
ep F y15 y47 F (y45, y46)
def ek (F : Nat) (y15 : List UInt8) : Option Bool :=
fv (decide (2 ≤ (y15.length : Int))) (dq 0 y15.length) <|
lt (at_ y15 0) fun x19 =>
fv ((decide (2 ≤ (y15.length : Int))) && (decide (x19 = 48))) (dq 1 y15.length) <|
lt (at_ y15 1) fun x23 =>
lE ((decide (2 ≤ (y15.length : Int))) && (decide (x19 = 48))) (fG F x23) fun x25 =>
fv (((decide (2 ≤ (y15.length : Int))) && (decide (x19 = 48))) && (!(decide (x25 = 98)))) (dq 1 y15.length) <|
lt (at_ y15 1) fun x29 =>
lE (((decide (2 ≤ (y15.length : Int))) && (decide (x19 = 48))) && (!(decide (x25 = 98)))) (fG F x29) fun x31 =>
fv (((decide (2 ≤ (y15.length : Int))) && (decide (x19 = 48))) && (!((decide (x25 = 98)) || (decide (x31 = 111))))) (dq 1 y15.length) <|
lt (at_ y15 1) fun x35 =>
lE (((decide (2 ≤ (y15.length : Int))) && (decide (x19 = 48))) && (!((decide (x25 = 98)) || (decide (x31 = 111))))) (fG F x35) fun x37 =>
bif ((decide (2 ≤ (y15.length : Int))) && (decide (x19 = 48))) && (((decide (x25 = 98)) || (decide (x31 = 111))) || (decide (x37 = 120))) then
  grd (dq 1 y15.length) <|
  lt (at_ y15 1) fun x41 =>
  bnd (fG F x41) fun x43 =>
  eo F y15 48 2 (decide (x43 = 120))
else
  eo F y15 94 0 false
def kw (F : Nat) (a1 : List UInt8) : Option Bool :=
fv (decide (1 ≤ (a1.length : Int))) (dq 0 a1.length) <|
lt (at_ a1 0) fun x5 =>
fv ((decide (1 ≤ (a1.length : Int))) && (!(decide (x5 = 45)))) (dq 0 a1.length) <|
lt (at_ a1 0) fun x9 =>
bif (decide (1 ≤ (a1.length : Int))) && ((decide (x5 = 45)) || (decide (x9 = 43))) then
  grd (kF 1 a1.length) <|
  lt (cV a1 1) fun x13 =>
  ek F x13
else
  ek F a1
def eN (F : Nat) (a1 : List UInt8) (y53 : Bool) (y54 : Int) : Option (Int × Int) :=
lE y53 (kw F a1) fun x57 =>
bif y53 && (!x57) then
  some (0, 2)
else
  some (y54, 0)
def dM (y24 : Int) (rec25 : (Bool × Int × Int) → Option (Int × Int)) (y49 : Bool) (y50 : Int) : Option (Int × Int) :=
grd (okI (y24 + 1)) <|
rec25 (y49, y50, y24 + 1)
def cL (a2 : Int) (y17 : Int) (y22 : Bool) (y23 : Int) (y24 : Int) (rec25 : (Bool × Int × Int) → Option (Int × Int)) (y43 : UInt8) : Option (Int × Int) :=
bif decide (((Go.Av.toB a2).toNat : Int) ≤ (y43.toNat : Int)) then
  some (0, 2)
else
  bif decide (y17 ≤ y23) then
    some (IntKind.u64.wrap ((IntKind.u64.wrap (1 * 2 ^ min (Int.toNat (IntKind.u64.wrap 64)) IntKind.u64.bits)) - 1), 1)
  else
    bif (decide (IntKind.u64.wrap ((IntKind.u64.wrap (y23 * (IntKind.u64.wrap a2))) + (IntKind.u64.wrap (y43.toNat : Int))) < IntKind.u64.wrap (y23 * (IntKind.u64.wrap a2)))) || (decide (IntKind.u64.wrap ((IntKind.u64.wrap (1 * 2 ^ min (Int.toNat (IntKind.u64.wrap 64)) IntKind.u64.bits)) - 1) < IntKind.u64.wrap ((IntKind.u64.wrap (y23 * (IntKind.u64.wrap a2))) + (IntKind.u64.wrap (y43.toNat : Int))))) then
      some (IntKind.u64.wrap ((IntKind.u64.wrap (1 * 2 ^ min (Int.toNat (IntKind.u64.wrap 64)) IntKind.u64.bits)) - 1), 1)
    else
      dM y24 rec25 y22 (IntKind.u64.wrap ((IntKind.u64.wrap (y23 * (IntKind.u64.wrap a2))) + (IntKind.u64.wrap (y43.toNat : Int))))
def dN (F : Nat) (a1 : List UInt8) (a2 : Int) (y17 : Int) (rec25 : (Bool × Int × Int) → Option (Int × Int)) (y22 : Bool) (y23 : Int) (y24 : Int) : Option (Int × Int) :=
bif decide (y24 < (a1.length : Int)) then
  grd (dq y24 a1.length) <|
  lt (at_ a1 y24) fun x29 =>
  bif (decide (x29 = 95)) && (decide (a2 = 0)) then
    dM y24 rec25 true y23
  else
    bif (decide (48 ≤ (x29.toNat : Int))) && (decide ((x29.toNat : Int) ≤ 57)) then
      cL a2 y17 y22 y23 y24 rec25 (x29 - 48)
    else
      bnd (fG F x29) fun x35 =>
      lE (decide (97 ≤ (x35.toNat : Int))) (fG F x29) fun x38 =>
      bif (decide (97 ≤ (x35.toNat : Int))) && (decide ((x38.toNat : Int) ≤ 122)) then
        bnd (fG F x29) fun x41 =>
        cL a2 y17 y22 y23 y24 rec25 ((x41 - 97) + 10)
      else
        some (0, 2)
else
  eN F a1 y22 y23
def bZ (F : Nat) (a1 : List UInt8) (a2 : Int) (y17 : Int) (n : Nat) : (Bool × Int × Int) → Option (Int × Int) :=
  loop (fun rec x => dN F a1 a2 y17 rec x.1 x.2.1 x.2.2) n
def dc (F : Nat) (a1 : List UInt8) (a2 : Int) (y17 : Int) : Option (Int × Int) :=
grd (decide (0 ≤ IntKind.u64.wrap 64)) <|
grd (dU a1.length) <|
bZ F a1 a2 y17 F (false, 0, 0)
def eM (F : Nat) (a1 : List UInt8) (a2 : Int) : Option (Int × Int) :=
bif decide (a2 = 10) then
  dc F a1 a2 1844674407370955162
else
  bif decide (a2 = 16) then
    dc F a1 a2 1152921504606846976
  else
    grd (decide (IntKind.u64.wrap a2 ≠ 0)) <|
    dc F a1 a2 (IntKind.u64.wrap ((IntKind.u64.wrap (Int.tdiv 18446744073709551615 (IntKind.u64.wrap a2))) + 1))
def eL (F : Nat) (a1 : List UInt8) (a2 : Int) (a3 : Int) : Option (Int × Int) :=
grd (decide (a3 = 0)) <|
eM F a1 a2
def fO (F : Nat) (a1 : List UInt8) (a2 : Int) (a3 : Int) : Option (Int × Int) :=
bif decide (a1 = ([] : List UInt8)) then
  some (0, 2)
else
  grd ((decide (2 ≤ a2)) && (decide (a2 ≤ 36))) <|
  eL F a1 a2 a3
def eB (y40 : Int) : Option (Int × Int) :=
some (y40, 0)
def fw (y19 : Bool) (x21 : Int) : Option (Int × Int) :=
grd (decide (0 ≤ IntKind.u64.wrap 63)) <|
bif (!y19) && (decide (IntKind.u64.wrap (1 * 2 ^ min (Int.toNat (IntKind.u64.wrap 63)) IntKind.u64.bits) ≤ x21)) then
  grd (okI (IntKind.u64.wrap ((IntKind.u64.wrap (1 * 2 ^ min (Int.toNat (IntKind.u64.wrap 63)) IntKind.u64.bits)) - 1))) <|
  some (IntKind.u64.wrap ((IntKind.u64.wrap (1 * 2 ^ min (Int.toNat (IntKind.u64.wrap 63)) IntKind.u64.bits)) - 1), 1)
else
  bif y19 && (decide (IntKind.u64.wrap (1 * 2 ^ min (Int.toNat (IntKind.u64.wrap 63)) IntKind.u64.bits) < x21)) then
    grd (okI (IntKind.u64.wrap (1 * 2 ^ min (Int.toNat (IntKind.u64.wrap 63)) IntKind.u64.bits))) <|
    grd (okI (0 - (IntKind.u64.wrap (1 * 2 ^ min (Int.toNat (IntKind.u64.wrap 63)) IntKind.u64.bits)))) <|
    some (0 - (IntKind.u64.wrap (1 * 2 ^ min (Int.toNat (IntKind.u64.wrap 63)) IntKind.u64.bits)), 1)
  else
    grd (okI x21) <|
    bif y19 then
      grd (okI (0 - x21)) <|
      eB (0 - x21)
    else
      eB x21
def dB (F : Nat) (a2 : Int) (a3 : Int) (y18 : List UInt8) (y19 : Bool) : Option (Int × Int) :=
fy (fO F y18 a2 a3) fun x21 x22 =>
bif (!decide (x22 = 0)) && (!decide (x22 = 1)) then
  some (0, x22)
else
  grd (decide (a3 = 0)) <|
  fw y19 x21
def gB (F : Nat) (a1 : List UInt8) (a2 : Int) (a3 : Int) : Option (Int × Int) :=
bif decide (a1 = ([] : List UInt8)) then
  some (0, 2)
else
  grd (dq 0 a1.length) <|
  lt (at_ a1 0) fun x8 =>
  bif decide (x8 = 43) then
    grd (kF 1 a1.length) <|
    lt (cV a1 1) fun x12 =>
    dB F a2 a3 x12 false
  else
    bif decide (x8 = 45) then
      grd (kF 1 a1.length) <|
      lt (cV a1 1) fun x16 =>
      dB F a2 a3 x16 true
    else
      dB F a2 a3 a1 false
def dp (F : Nat) (a1 : List UInt8) (a2 : Int) (a3 : Int) : Option (Int × Int) :=
fy (gB F a1 a2 a3) fun x6 x7 =>
bif !decide (x7 = 0) then
  grd (okS a1.length) <|
  grd (decide (x7 = 1 ∨ x7 = 2)) <|
  some (x6, 1)
else
  some (x6, 0)
end Go.Pv
namespace Go.Proofs.YtkbfjepffpddfaaGreatDoor
open Go.RowKit Go.Av Go.Pv
theorem Aj : ∀ (args : Array Value) (w : World), (callFunc 105 args).run Tryz.prog w = .ok (.enter 105 args) w := fun _ _ => by kernel_rfl
theorem Ai : ∀ (args : Array Value) (w : World), (callFunc 106 args).run Tryz.prog w = .ok (.enter 106 args) w := fun _ _ => by kernel_rfl
theorem Ah : ∀ (args : Array Value) (w : World), (callFunc 107 args).run Tryz.prog w = .ok (.enter 107 args) w := fun _ _ => by kernel_rfl
theorem gW : ∀ (args : Array Value) (w : World), (callFunc 112 args).run Tryz.prog w = .ok (.enter 112 args) w := fun _ _ => by kernel_rfl
theorem Ag : ∀ (args : Array Value) (w : World), (callFunc 113 args).run Tryz.prog w = .ok (.enter 113 args) w := fun _ _ => by kernel_rfl
set_option maxRecDepth 100000 in
set_option maxHeartbeats 1000000 in
theorem fR (F : Nat) (a1 : UInt8) (r2 : UInt8) (H : fG F a1 = some r2) : ACalls Tryz.prog 112 [u8 a1] [] (Ret (u8 r2) []) := by
 unfold fG at H
 refine ap Tryz.func112 rfl rfl ?_;show AW _ _ 5 _ _ _;refine af <| aa ?_;show AR _ _ _ _ _ [0] _;refine za rfl <| ag <| af <| aa ?_;show AR _ _ _ _ _ [0, 1, 2] _;refine zm rfl <| zS rfl (g_or8 (a := a1) (b := 32) rfl rfl) <| za rfl <| ag <| aG ?_;obtain rfl := ak H;exact And.intro rfl (Exists.intro _ (Exists.intro _ ⟨aF rfl (.refl _), aB [] rfl, rfl, rfl⟩))
set_option maxRecDepth 100000 in
set_option maxHeartbeats 1000000 in
theorem pc (F : Nat) (a1 : List UInt8) (r2 : Bool) (H : kw F a1 = some r2) : ACalls Tryz.prog 113 [S a1] [] (Ret (B r2) []) := by
 unfold kw at H
 refine ap Tryz.func113 rfl rfl ?_;show AW _ _ 94 _ _ _;refine af <| aa ?_;show AR _ _ _ _ _ [0] _;refine za rfl <| ag <| af <| aa ?_;show AR _ _ _ _ _ [0] _;refine za rfl <| ag <| af <| aa ?_;show AR _ _ _ _ _ [0] _;refine za rfl <| ag <| bL (X := (List UInt8)) (fun y15 => ⟨[(0, S y15), (3, .v (.int .i32 94)), (4, i64 0)], [], []⟩) (fun y15 => ek F y15 = some r2) ?_ ?_
 ·refine af ?_;obtain ⟨g4, H⟩ := cN H;obtain ⟨x5, e6, H⟩ := bM H;obtain ⟨g8, H⟩ := cN H;obtain ⟨x9, e10, H⟩ := bM H;refine aa ?_;show AR _ _ _ _ _ [0, 1, 2, 3, 4, 5, 6, 7, 8, 9, 10, 11, 12] _;refine zm rfl <| zS rfl (bt ai rfl) <| zS rfl (fB rfl rfl) <| zm rfl <| aW (l := []) 18 (B ((decide (1 ≤ (a1.length : Int))) && ((decide (x5 = 45)) || (decide (x9 = 43))))) (fun K => ?_) ?_
  ·rcases aj (decide (1 ≤ (a1.length : Int))) with h3 | h3
   ·refine zM h3 rfl <| zU h3 rfl (bo ai rfl rfl (g4 h3) e6) <| zU h3 rfl (jD (a := x5) (b := 45) rfl rfl) <| zM h3 rfl <| aW (l := [12]) 17 (B ((decide (x5 = 45)) || (decide (x9 = 43)))) (fun K => ?_) ?_
    ·rcases aj (decide (x5 = 45)) with h7 | h7
     ·refine zF h7 rfl <| zF h7 rfl <| zF h7 rfl <| zU h3 rfl (aD (av := .v _) rfl h7 rfl) ?_;exact K _ 3 _ (ay (jA h7)) rfl rfl
     ·refine zM h7 rfl <| zU h7 rfl (bo ai rfl rfl (g8 (mn h3 (nf h7))) e10) <| zU h7 rfl (jD (a := x9) (b := 43) rfl rfl) <| zU h3 rfl (aE (av := .v _) rfl h7 rfl) ?_;exact K _ 3 _ (ay (jB h7)) rfl rfl
    refine zS rfl (aD (av := .v _) rfl h3 rfl) ?_;exact K _ 5 _ (ay (cz h3)) rfl rfl
   ·refine zF h3 rfl <| zF h3 rfl <| zF h3 rfl <| zF h3 rfl <| gU rfl rfl rfl rfl rfl <| gU rfl rfl rfl rfl rfl <| gU rfl rfl rfl rfl rfl <| zF h3 rfl <| zS rfl (aE (av := .v _) rfl h3 rfl) ?_;exact K _ 8 _ (ay (cA h3)) rfl rfl
  refine ag <| ax rfl (fun c11 => ?_) (fun c11 => ?_)
  ·replace H := aX c11 H;obtain ⟨g12, H⟩ := aM H;obtain ⟨x13, e14, H⟩ := bM H;refine aa ?_;show AR _ _ _ _ _ [0, 1, 2] _;refine zm rfl <| zS rfl (eG ai rfl rfl g12 e14) <| za rfl <| ag ?_;exact Exists.intro x13 ⟨H, be [] (.cons (.refl _) (.cons (.refl _) (.cons (.refl _) (.nil _)))) rfl⟩
  ·replace H := aY c11 H;refine aC ?_;exact Exists.intro a1 ⟨H, be [] (.cons (.refl _) (.cons (.refl _) (.cons (.refl _) (.nil _)))) rfl⟩
 rintro y15 H;replace H : ek F y15 = some r2 := H
 unfold ek at H
 refine af <| aa ?_;show AR _ _ _ _ _ [0] _;refine za rfl <| ag <| bL (X := Int × Int × Bool) (fun (y45, y46, y47) => ⟨[(0, S y15), (3, .v (.int .i32 y45)), (4, i64 y46), (5, B y47)], [], []⟩) (fun (y45, y46, y47) => eo F y15 y45 y46 y47 = some r2) ?_ ?_
 ·refine af ?_;obtain ⟨g18, H⟩ := cN H;obtain ⟨x19, e20, H⟩ := bM H;obtain ⟨g22, H⟩ := cN H;obtain ⟨x23, e24, H⟩ := bM H;obtain ⟨x25, e26, H⟩ := fM H;obtain ⟨g28, H⟩ := cN H;obtain ⟨x29, e30, H⟩ := bM H;obtain ⟨x31, e32, H⟩ := fM H;obtain ⟨g34, H⟩ := cN H;obtain ⟨x35, e36, H⟩ := bM H;obtain ⟨x37, e38, H⟩ := fM H;refine aa ?_;show AR _ _ _ _ _ [0, 1, 2, 3, 4, 5, 6, 7, 8, 9, 10, 11, 12, 13, 14, 15, 16, 17, 18, 19, 20, 21, 22, 23, 24, 25] _;refine zm rfl <| zS rfl (bt ai rfl) <| zS rfl (fB rfl rfl) <| zm rfl <| aW (l := [8, 9, 10, 11, 12, 13, 14, 15, 16, 17, 18, 19, 20, 21, 22, 23, 24, 25]) 28 (B ((decide (2 ≤ (y15.length : Int))) && (decide (x19 = 48)))) (fun K => ?_) ?_
  ·rcases aj (decide (2 ≤ (y15.length : Int))) with h17 | h17
   ·refine zM h17 rfl <| zU h17 rfl (bo ai rfl rfl (g18 h17) e20) <| zU h17 rfl (jD (a := x19) (b := 48) rfl rfl) <| zS rfl (aD (av := .v _) rfl h17 rfl) ?_;exact K _ 3 _ (ay (cz h17)) rfl rfl
   ·refine zF h17 rfl <| zF h17 rfl <| zF h17 rfl <| zS rfl (aE (av := .v _) rfl h17 rfl) ?_;exact K _ 3 _ (ay (cA h17)) rfl rfl
  refine zm rfl <| aW (l := []) 46 (B (((decide (2 ≤ (y15.length : Int))) && (decide (x19 = 48))) && (((decide (x25 = 98)) || (decide (x31 = 111))) || (decide (x37 = 120))))) (fun K => ?_) ?_
  ·rcases aj ((decide (2 ≤ (y15.length : Int))) && (decide (x19 = 48))) with h21 | h21
   ·refine zM h21 rfl <| zU h21 rfl (bo ai rfl rfl (g22 h21) e24) <| zT h21 rfl (aA rfl gW rfl (fR F x23 x25 (e26 h21)) ?_);refine zU h21 rfl (jD (a := x25) (b := 98) rfl rfl) <| zM h21 rfl <| aW (l := [19, 20, 21, 22, 23, 24, 25]) 39 (B ((decide (x25 = 98)) || (decide (x31 = 111)))) (fun K => ?_) ?_
    ·rcases aj (decide (x25 = 98)) with h27 | h27
     ·refine zF h27 rfl <| zF h27 rfl <| zF h27 rfl <| zF h27 rfl <| zU h21 rfl (aD (av := .v _) rfl h27 rfl) ?_;exact K _ 4 _ (ay (jA h27)) rfl rfl
     ·refine zM h27 rfl <| zU h27 rfl (bo ai rfl rfl (g28 (mn h21 (nf h27))) e30) <| zT h27 rfl (aA rfl gW rfl (fR F x29 x31 (e32 (mn h21 (nf h27)))) ?_);refine zU h27 rfl (jD (a := x31) (b := 111) rfl rfl) <| zU h21 rfl (aE (av := .v _) rfl h27 rfl) ?_;exact K _ 4 _ (ay (jB h27)) rfl rfl
    refine zM h21 rfl <| aW (l := [25]) 45 (B (((decide (x25 = 98)) || (decide (x31 = 111))) || (decide (x37 = 120)))) (fun K => ?_) ?_
    ·rcases aj ((decide (x25 = 98)) || (decide (x31 = 111))) with h33 | h33
     ·refine zF h33 rfl <| zF h33 rfl <| zF h33 rfl <| zF h33 rfl <| zU h21 rfl (aD (av := .v _) rfl h33 rfl) ?_;exact K _ 4 _ (ay (jA h33)) rfl rfl
     ·refine zM h33 rfl <| zU h33 rfl (bo ai rfl rfl (g34 (mn h21 (nf h33))) e36) <| zT h33 rfl (aA rfl gW rfl (fR F x35 x37 (e38 (mn h21 (nf h33)))) ?_);refine zU h33 rfl (jD (a := x37) (b := 120) rfl rfl) <| zU h21 rfl (aE (av := .v _) rfl h33 rfl) ?_;exact K _ 4 _ (ay (jB h33)) rfl rfl
    refine zS rfl (aD (av := .v _) rfl h21 rfl) ?_;exact K _ 8 _ (ay (cz h21)) rfl rfl
   ·refine zF h21 rfl <| zF h21 rfl <| zF h21 rfl <| zF h21 rfl <| zF h21 rfl <| gU rfl rfl rfl rfl rfl <| gU rfl rfl rfl rfl rfl <| gU rfl rfl rfl rfl rfl <| gU rfl rfl rfl rfl rfl <| zF h21 rfl <| zF h21 rfl <| gU rfl rfl rfl rfl rfl <| gU rfl rfl rfl rfl rfl <| gU rfl rfl rfl rfl rfl <| gU rfl rfl rfl rfl rfl <| zF h21 rfl <| zS rfl (aE (av := .v _) rfl h21 rfl) ?_;exact K _ 16 _ (ay (cA h21)) rfl rfl
  refine ag <| ax rfl (fun c39 => ?_) (fun c39 => ?_)
  ·replace H := aX c39 H;refine af <| aa ?_;show AR _ _ _ _ _ [0] _;refine za rfl <| ag <| af <| aa ?_;show AR _ _ _ _ _ [0] _;refine za rfl <| ag ?_;obtain ⟨g40, H⟩ := aM H;obtain ⟨x41, e42, H⟩ := bM H;obtain ⟨x43, e44, H⟩ := bW H;refine aa ?_;show AR _ _ _ _ _ [0, 1, 2, 3, 4] _;refine zm rfl <| zS rfl (bo ai rfl rfl g40 e42) <| am rfl rfl (aA rfl gW rfl (fR F x41 x43 e44) ?_);refine zS rfl (jD (a := x43) (b := 120) rfl rfl) <| za rfl <| ag ?_;exact Exists.intro (48, 2, decide (x43 = 120)) ⟨H, be [] (.cons (.refl _) (.cons (.refl _) (.cons (.refl _) (.cons (.refl _) (.nil _))))) rfl⟩
  ·replace H := aY c39 H;refine aC ?_;exact Exists.intro (94, 0, false) ⟨H, be [] (.cons (.refl _) (.cons (.refl _) (.cons (.refl _) (.cons (.refl _) (.nil _))))) rfl⟩
 rintro ⟨y45, y46, y47⟩ H;replace H : eo F y15 y45 y46 y47 = some r2 := H
 unfold eo at H
 refine bL (X := Int) (fun y84 => ⟨[(3, .v (.int .i32 y84))], [], []⟩) (fun y84 => fI y84 = some r2) ?_ ?_
 ·refine aU <| dk (X := Nat × Int × Int) (fun (n52, y49, y50) => ⟨[(0, S y15), (3, .v (.int .i32 y49)), (4, i64 y50), (5, B y47)], [], []⟩) (fun (n52, y49, y50) => ep F y15 y47 n52 (y49, y50) = some r2) (fun (n52, y49, y50) => n52) (F, y45, y46) H (be [] (.cons (.refl _) (.cons (.refl _) (.cons (.refl _) (.cons (.refl _) (.nil _))))) rfl) ?_;rintro ⟨n52, y49, y50⟩ H;obtain ⟨n52, rfl, H⟩ := fC H;replace H : ix F y15 y47 (ep F y15 y47 n52) y49 y50 = some r2 := H
  unfold ix at H
  refine af <| af <| aa ?_;show AR _ _ _ _ _ [0, 1, 2, 3] _;refine zm rfl <| zm rfl <| zS rfl (bt ai rfl) <| zS rfl (cd rfl rfl) <| ag <| ax rfl (fun c53 => ?_) (fun c53 => ?_)
  ·replace H := aX c53 H;refine aC <| bL (X := Int) (fun y81 => ⟨[(0, S y15), (3, .v (.int .i32 y81)), (4, i64 y50), (5, B y47)], [], []⟩) (fun y81 => dl y50 (ep F y15 y47 n52) y81 = some r2) ?_ ?_
   ·refine aU <| af <| af ?_;obtain ⟨g54, H⟩ := aM H;obtain ⟨x55, e56, H⟩ := bM H;obtain ⟨g58, H⟩ := cN H;obtain ⟨x59, e60, H⟩ := bM H;obtain ⟨g63, H⟩ := cN H;obtain ⟨x64, e65, H⟩ := bM H;obtain ⟨x66, e67, H⟩ := fM H;obtain ⟨g69, H⟩ := cN H;obtain ⟨x70, e71, H⟩ := bM H;obtain ⟨x72, e73, H⟩ := fM H;refine aa ?_;show AR _ _ _ _ _ [0, 1, 2, 3, 4, 5, 6, 7, 8, 9, 10, 11, 12, 13, 14, 15, 16, 17, 18, 19, 20, 21, 22, 23, 24, 25, 26] _;refine zm rfl <| zm rfl <| zS rfl (bo ai rfl rfl g54 e56) <| zS rfl (fL rfl rfl) <| zm rfl <| aW (l := [10, 11, 12, 13, 14, 15, 16, 17, 18, 19, 20, 21, 22, 23, 24, 25, 26]) 66 (B ((decide (48 ≤ (x55.toNat : Int))) && (decide ((x59.toNat : Int) ≤ 57)))) (fun K => ?_) ?_
    ·rcases aj (decide (48 ≤ (x55.toNat : Int))) with h57 | h57
     ·refine zM h57 rfl <| zM h57 rfl <| zU h57 rfl (bo ai rfl rfl (g58 h57) e60) <| zU h57 rfl (fL rfl rfl) <| zS rfl (aD (av := .v _) rfl h57 rfl) ?_;exact K _ 4 _ (ay (cz h57)) rfl rfl
     ·refine zF h57 rfl <| zF h57 rfl <| zF h57 rfl <| zF h57 rfl <| zS rfl (aE (av := .v _) rfl h57 rfl) ?_;exact K _ 4 _ (ay (cA h57)) rfl rfl
    refine zm rfl <| aW (l := []) 83 (B (((decide (48 ≤ (x55.toNat : Int))) && (decide ((x59.toNat : Int) ≤ 57))) || ((y47 && (decide (97 ≤ (x66.toNat : Int)))) && (decide ((x72.toNat : Int) ≤ 102))))) (fun K => ?_) ?_
    ·rcases aj ((decide (48 ≤ (x55.toNat : Int))) && (decide ((x59.toNat : Int) ≤ 57))) with h61 | h61
     ·refine zF h61 rfl <| zF h61 rfl <| gU rfl rfl rfl rfl rfl <| gU rfl rfl rfl rfl rfl <| gU rfl rfl rfl rfl rfl <| gU rfl rfl rfl rfl rfl <| gU rfl rfl rfl rfl rfl <| zF h61 rfl <| zF h61 rfl <| gU rfl rfl rfl rfl rfl <| gU rfl rfl rfl rfl rfl <| gU rfl rfl rfl rfl rfl <| gU rfl rfl rfl rfl rfl <| gU rfl rfl rfl rfl rfl <| zF h61 rfl <| zS rfl (aD (av := .v _) rfl h61 rfl) ?_;exact K _ 15 _ (ay (jA h61)) rfl rfl
     ·refine zM h61 rfl <| zM h61 rfl <| aW (l := [19, 20, 21, 22, 23, 24, 25, 26]) 75 (B (y47 && (decide (97 ≤ (x66.toNat : Int))))) (fun K => ?_) ?_
      ·rcases aj y47 with h62 | h62
       ·refine zM h62 rfl <| zM h62 rfl <| zU h62 rfl (bo ai rfl rfl (g63 (mn (nf h61) h62)) e65) <| zT h62 rfl (aA rfl gW rfl (fR F x64 x66 (e67 (mn (nf h61) h62))) ?_);refine zU h62 rfl (fL rfl rfl) <| zU h61 rfl (aD (av := .v _) rfl h62 rfl) ?_;exact K _ 5 _ (ay (cz h62)) rfl rfl
       ·refine zF h62 rfl <| zF h62 rfl <| zF h62 rfl <| zF h62 rfl <| zF h62 rfl <| zU h61 rfl (aE (av := .v _) rfl h62 rfl) ?_;exact K _ 5 _ (ay (cA h62)) rfl rfl
      refine zM h61 rfl <| aW (l := [26]) 82 (B ((y47 && (decide (97 ≤ (x66.toNat : Int)))) && (decide ((x72.toNat : Int) ≤ 102)))) (fun K => ?_) ?_
      ·rcases aj (y47 && (decide (97 ≤ (x66.toNat : Int)))) with h68 | h68
       ·refine zM h68 rfl <| zM h68 rfl <| zU h68 rfl (bo ai rfl rfl (g69 (mn (nf h61) h68)) e71) <| zT h68 rfl (aA rfl gW rfl (fR F x70 x72 (e73 (mn (nf h61) h68))) ?_);refine zU h68 rfl (fL rfl rfl) <| zU h61 rfl (aD (av := .v _) rfl h68 rfl) ?_;exact K _ 5 _ (ay (cz h68)) rfl rfl
       ·refine zF h68 rfl <| zF h68 rfl <| zF h68 rfl <| zF h68 rfl <| zF h68 rfl <| zU h61 rfl (aE (av := .v _) rfl h68 rfl) ?_;exact K _ 5 _ (ay (cA h68)) rfl rfl
      refine zS rfl (aE (av := .v _) rfl h61 rfl) ?_;exact K _ 5 _ (ay (jB h61)) rfl rfl
    refine ag <| ax rfl (fun c74 => ?_) (fun c74 => ?_)
    ·replace H := aX c74 H;refine af <| aa ?_;show AR _ _ _ _ _ [0] _;refine za rfl <| ag <| cB ?_;exact Exists.intro 48 ⟨H, be [] (.cons (.refl _) (.cons (.refl _) (.cons (.refl _) (.cons (.refl _) (.nil _))))) rfl⟩
    ·replace H := aY c74 H;refine aC <| af <| af ?_;obtain ⟨g75, H⟩ := aM H;obtain ⟨x76, e77, H⟩ := bM H;refine aa ?_;show AR _ _ _ _ _ [0, 1, 2, 3] _;refine zm rfl <| zm rfl <| zS rfl (bo ai rfl rfl g75 e77) <| zS rfl (jD (a := x76) (b := 95) rfl rfl) <| ag <| ax rfl (fun c78 => ?_) (fun c78 => ?_)
     ·replace H := aX c78 H;refine af <| af <| aa ?_;show AR _ _ _ _ _ [0, 1] _;refine zm rfl <| zS rfl (mb rfl rfl) <| ag <| ax rfl (fun c79 => ?_) (fun c79 => ?_)
      ·replace H := aX c79 H;refine af <| aa ?_;show AR _ _ _ _ _ [0] _;refine za rfl <| ag <| aG ?_;obtain rfl := ak H;exact And.intro rfl (Exists.intro _ (Exists.intro _ ⟨aF rfl (.refl _), aB [] rfl, rfl, rfl⟩))
      ·replace H := aY c79 H;refine aC <| af <| aa ?_;show AR _ _ _ _ _ [0] _;refine za rfl <| ag <| cB ?_;exact Exists.intro 95 ⟨H, be [] (.cons (.refl _) (.cons (.refl _) (.cons (.refl _) (.cons (.refl _) (.nil _))))) rfl⟩
     ·replace H := aY c78 H;refine aC <| af <| af <| aa ?_;show AR _ _ _ _ _ [0, 1] _;refine zm rfl <| zS rfl (bJ rfl rfl) <| ag <| ax rfl (fun c80 => ?_) (fun c80 => ?_)
      ·replace H := aX c80 H;refine af <| aa ?_;show AR _ _ _ _ _ [0] _;refine za rfl <| ag <| aG ?_;obtain rfl := ak H;exact And.intro rfl (Exists.intro _ (Exists.intro _ ⟨aF rfl (.refl _), aB [] rfl, rfl, rfl⟩))
      ·replace H := aY c80 H;refine aC <| aa ?_;show AR _ _ _ _ _ [0] _;refine za rfl <| ag ?_;exact Exists.intro 33 ⟨H, be [] (.cons (.refl _) (.cons (.refl _) (.cons (.refl _) (.cons (.refl _) (.nil _))))) rfl⟩
   rintro y81 H;replace H : dl y50 (ep F y15 y47 n52) y81 = some r2 := H
   unfold dl at H
   obtain ⟨g83, H⟩ := aM H;refine aa ?_;show AR _ _ _ _ _ [0, 1, 2] _;refine zm rfl <| zS rfl (di rfl rfl g83) <| za rfl <| ag ?_;exact Exists.intro (n52, y81, y50 + 1) ⟨H, Nat.lt_succ_self _, be [] (.cons (.refl _) (.cons (.refl _) (.cons (.refl _) (.cons (.refl _) (.nil _))))) rfl⟩
  ·replace H := aY c53 H;refine cB ?_;exact Exists.intro y49 ⟨H, be [] (.cons (.refl _) (.nil _)) rfl⟩
 rintro y84 H;replace H : fI y84 = some r2 := H
 unfold fI at H
 refine af <| aa ?_;show AR _ _ _ _ _ [0, 1, 2] _;refine zm rfl <| zS rfl (mb rfl rfl) <| za rfl <| ag <| aG ?_;obtain rfl := ak H;exact And.intro rfl (Exists.intro _ (Exists.intro _ ⟨aF rfl (.refl _), aB [] rfl, rfl, rfl⟩))
abbrev _root_.Go.Av.cf := @Tryz.underlying141
set_option maxRecDepth 100000 in
set_option maxHeartbeats 1000000 in
theorem rA (F : Nat) (a1 : List UInt8) (a2 : Int) (a3 : Int) (r4 : Int) (r5 : Int) (H : fO F a1 a2 a3 = some (r4, r5)) : ACalls Tryz.prog 107 [S a1, i64 a2, i64 a3] [] (Ret (.tup [.v (.int .u64 r4), kJ 141 .i64 r5]) []) := by
 unfold fO at H
 refine ap Tryz.func107 rfl rfl ?_;show AW _ _ 172 _ _ _;refine af <| aa ?_;show AR _ _ _ _ _ [0, 1] _;refine za rfl <| za rfl <| ag <| af <| af <| aa ?_;show AR _ _ _ _ _ [0, 1] _;refine zm rfl <| zS rfl (dr rfl rfl) <| ag <| ax rfl (fun c6 => ?_) (fun c6 => ?_)
 ·replace H := aX c6 H;refine af <| aa ?_;show AR _ _ _ _ _ [0, 1, 2] _;refine zS rfl (bf (a := .v _) cf rfl rfl) <| za rfl <| zS rfl (aH (av := .ifc _ _) rfl) <| ag <| aG ?_;obtain ⟨rfl, rfl⟩ := dw H;exact And.intro rfl (Exists.intro _ (Exists.intro _ ⟨bk rfl (.refl _) (.refl _), aB [] rfl, rfl, rfl⟩))
 ·replace H := aY c6 H;refine aC <| af <| aa ?_;show AR _ _ _ _ _ [0, 1, 2] _;refine zm rfl <| zS rfl (bJ rfl rfl) <| za rfl <| ag <| af <| aa ?_;show AR _ _ _ _ _ [0, 1] _;refine zm rfl <| za rfl <| ag <| bL (X := Unit) (fun _ => ⟨[(0, S a1), (1, i64 a2), (2, i64 a3), (8, B (decide (a2 = 0))), (9, S a1)], [], []⟩) (fun _ => eL F a1 a2 a3 = some (r4, r5)) ?_ ?_
  ·refine aU <| af <| aa ?_;show AR _ _ _ _ _ [0, 1, 2, 3, 4, 5, 6] _;refine zm rfl <| zS rfl (fL rfl rfl) <| zm rfl <| aW (l := [6]) 31 (B ((decide (2 ≤ a2)) && (decide (a2 ≤ 36)))) (fun K => ?_) ?_
   ·rcases aj (decide (2 ≤ a2)) with h7 | h7
    ·refine zM h7 rfl <| zU h7 rfl (fL rfl rfl) <| zS rfl (aD (av := .v _) rfl h7 rfl) ?_;exact K _ 2 _ (ay (cz h7)) rfl rfl
    ·refine zF h7 rfl <| zF h7 rfl <| zS rfl (aE (av := .v _) rfl h7 rfl) ?_;exact K _ 2 _ (ay (cA h7)) rfl rfl
   refine za rfl <| ag ?_;obtain ⟨g9, H⟩ := aM H;refine ax rfl (fun _ => ?_) (fun hx => bK g9 hx);refine aC ?_;exact Exists.intro () ⟨H, be [] (.cons (.refl _) (.cons (.refl _) (.cons (.refl _) (.cons (.refl _) (.cons (.refl _) (.nil _)))))) rfl⟩
  rintro _ H;replace H : eL F a1 a2 a3 = some (r4, r5) := H
  unfold eL at H
  refine bL (X := Unit) (fun _ => ⟨[(0, S a1), (1, i64 a2), (2, i64 64), (8, B (decide (a2 = 0))), (9, S a1)], [], []⟩) (fun _ => eM F a1 a2 = some (r4, r5)) ?_ ?_
  ·refine af <| aa ?_;show AR _ _ _ _ _ [0, 1] _;refine zm rfl <| zS rfl (bJ rfl rfl) <| ag ?_;obtain ⟨g12, H⟩ := aM H;refine ax rfl (fun _ => ?_) (fun hx => bK g12 hx);refine aa ?_;show AR _ _ _ _ _ [0] _;refine za rfl <| ag ?_;exact Exists.intro () ⟨H, be [] (.cons (.refl _) (.cons (.refl _) (.cons (.refl _) (.cons (.refl _) (.cons (.refl _) (.nil _)))))) rfl⟩
  rintro _ H;replace H : eM F a1 a2 = some (r4, r5) := H
  unfold eM at H
  refine af <| aa ?_;show AR _ _ _ _ _ [0] _;refine za rfl <| ag <| bL (X := Int) (fun y17 => ⟨[(0, S a1), (1, i64 a2), (2, i64 64), (8, B (decide (a2 = 0))), (9, S a1), (10, .v (.int .u64 y17))], [], []⟩) (fun y17 => dc F a1 a2 y17 = some (r4, r5)) ?_ ?_
  ·refine af <| aa ?_;show AR _ _ _ _ _ [0] _;refine zm rfl <| ag <| aU <| af <| aa ?_;show AR _ _ _ _ _ [0, 1] _;refine zS rfl (bJ rfl rfl) <| za rfl <| ag <| ax rfl (fun c14 => ?_) (fun c14 => ?_)
   ·replace H := aX c14 H;refine aa ?_;show AR _ _ _ _ _ [0] _;refine za rfl <| ag ?_;exact Exists.intro 1844674407370955162 ⟨H, be [] (.cons (.refl _) (.cons (.refl _) (.cons (.refl _) (.cons (.refl _) (.cons (.refl _) (.cons (.refl _) (.nil _))))))) rfl⟩
   ·replace H := aY c14 H;refine af <| aa ?_;show AR _ _ _ _ _ [0, 1] _;refine zS rfl (bJ rfl rfl) <| za rfl <| ag <| ax rfl (fun c15 => ?_) (fun c15 => ?_)
    ·replace H := aX c15 H;refine aa ?_;show AR _ _ _ _ _ [0] _;refine za rfl <| ag ?_;exact Exists.intro 1152921504606846976 ⟨H, be [] (.cons (.refl _) (.cons (.refl _) (.cons (.refl _) (.cons (.refl _) (.cons (.refl _) (.cons (.refl _) (.nil _))))))) rfl⟩
    ·replace H := aY c15 H;obtain ⟨g16, H⟩ := aM H;refine aa ?_;show AR _ _ _ _ _ [0, 1, 2, 3, 4] _;refine zm rfl <| zS rfl (dX (by kernel_rfl) Tryz.underlying142 rfl) <| zS rfl (wn rfl rfl (of_decide_eq_true g16)) <| zS rfl (pH rfl rfl) <| za rfl <| ag ?_;exact Exists.intro (IntKind.u64.wrap ((IntKind.u64.wrap (Int.tdiv 18446744073709551615 (IntKind.u64.wrap a2))) + 1)) ⟨H, be [] (.cons (.refl _) (.cons (.refl _) (.cons (.refl _) (.cons (.refl _) (.cons (.refl _) (.cons (.refl _) (.nil _))))))) rfl⟩
  rintro y17 H;replace H : dc F a1 a2 y17 = some (r4, r5) := H
  unfold dc at H
  refine af ?_;obtain ⟨g19, H⟩ := aM H;refine aa ?_;show AR _ _ _ _ _ [0, 1, 2, 3, 4] _;refine zm rfl <| zS rfl (dX (by kernel_rfl) Tryz.underlying117 rfl) <| zS rfl (yi rfl rfl (of_decide_eq_true g19)) <| zS rfl (pG rfl rfl) <| za rfl <| ag <| af <| aa ?_;show AR _ _ _ _ _ [0] _;refine za rfl <| ag <| af <| aa ?_;show AR _ _ _ _ _ [0] _;refine za rfl <| ag <| bL (X := Bool × Int) (fun (y53, y54) => ⟨[(9, S a1), (12, B y53), (13, .v (.int .u64 y54))], [], []⟩) (fun (y53, y54) => eN F a1 y53 y54 = some (r4, r5)) ?_ ?_
  ·refine af ?_;obtain ⟨g20, H⟩ := aM H;refine aa ?_;show AR _ _ _ _ _ [0, 1, 2, 3] _;refine zm rfl <| zX rfl (gN (bytes := 1) ai al cH rfl g20) ?_;rintro _ _ ⟨t21, rfl, rfl⟩;refine zS rfl (bE al rfl) <| zm rfl <| ag <| aU <| dk (X := Nat × Bool × Int × Int) (fun (n26, y22, y23, y24) => ⟨[(1, i64 a2), (8, B (decide (a2 = 0))), (9, S a1), (10, .v (.int .u64 y17)), (11, .v (.int .u64 (IntKind.u64.wrap ((IntKind.u64.wrap (1 * 2 ^ min (Int.toNat (IntKind.u64.wrap 64)) IntKind.u64.bits)) - 1)))), (12, B y22), (13, .v (.int .u64 y23)), (99, slE Enc.byte a1 (some t21)), (100, i64 (a1.length : Int)), (101, i64 y24)], [], [.tok t21 5]⟩) (fun (n26, y22, y23, y24) => bZ F a1 a2 y17 n26 (y22, y23, y24) = some (r4, r5)) (fun (n26, y22, y23, y24) => n26) (F, false, 0, 0) H (be [0] (.cons (.refl _) (.cons (.refl _) (.cons (.refl _) (.cons (.refl _) (.cons (.refl _) (.cons (.refl _) (.cons (.refl _) (.cons (.refl _) (.cons (.refl _) (.cons (.refl _) (.nil _))))))))))) rfl) ?_;rintro ⟨n26, y22, y23, y24⟩ H;obtain ⟨n26, rfl, H⟩ := fC H;replace H : dN F a1 a2 y17 (bZ F a1 a2 y17 n26) y22 y23 y24 = some (r4, r5) := H
   unfold dN at H
   refine af <| aa ?_;show AR _ _ _ _ _ [0] _;refine zS rfl (cd rfl rfl) <| ag <| af <| ax rfl (fun c27 => ?_) (fun c27 => ?_)
   ·replace H := aX c27 H;refine aC <| bL (X := Bool × Int) (fun (y49, y50) => ⟨[(1, i64 a2), (8, B (decide (a2 = 0))), (9, S a1), (10, .v (.int .u64 y17)), (11, .v (.int .u64 (IntKind.u64.wrap ((IntKind.u64.wrap (1 * 2 ^ min (Int.toNat (IntKind.u64.wrap 64)) IntKind.u64.bits)) - 1)))), (12, B y49), (13, .v (.int .u64 y50)), (99, slE Enc.byte a1 (some t21)), (100, i64 (a1.length : Int)), (101, i64 y24)], [], [.tok t21 5]⟩) (fun (y49, y50) => dM y24 (bZ F a1 a2 y17 n26) y49 y50 = some (r4, r5)) ?_ ?_
    ·refine aU <| af ?_;obtain ⟨g28, H⟩ := aM H;obtain ⟨x29, e30, H⟩ := bM H;refine aa ?_;show AR _ _ _ _ _ [0, 1, 2] _;refine zS rfl (dF (E := Enc.byte) al (by kernel_rfl) rfl rfl g28 e30) <| zS rfl (aL cH rfl rfl) <| za rfl <| ag <| af <| aa ?_;show AR _ _ _ _ _ [0] _;refine za rfl <| ag <| bL (X := UInt8) (fun y43 => ⟨[(1, i64 a2), (8, B (decide (a2 = 0))), (9, S a1), (10, .v (.int .u64 y17)), (11, .v (.int .u64 (IntKind.u64.wrap ((IntKind.u64.wrap (1 * 2 ^ min (Int.toNat (IntKind.u64.wrap 64)) IntKind.u64.bits)) - 1)))), (12, B y22), (13, .v (.int .u64 y23)), (16, u8 y43), (99, slE Enc.byte a1 (some t21)), (100, i64 (a1.length : Int)), (101, i64 y24)], [], [.tok t21 5]⟩) (fun y43 => cL a2 y17 y22 y23 y24 (bZ F a1 a2 y17 n26) y43 = some (r4, r5)) ?_ ?_
     ·refine aU <| af <| aa ?_;show AR _ _ _ _ _ [0, 1, 2, 3, 4, 5] _;refine zm rfl <| zS rfl (jD (a := x29) (b := 95) rfl rfl) <| zm rfl <| aW (l := [5]) 111 (B ((decide (x29 = 95)) && (decide (a2 = 0)))) (fun K => ?_) ?_
      ·rcases aj (decide (x29 = 95)) with h31 | h31
       ·refine zM h31 rfl <| zS rfl (aD (av := .v _) rfl h31 rfl) ?_;exact K _ 1 _ (ay (cz h31)) rfl rfl
       ·refine zF h31 rfl <| zS rfl (aE (av := .v _) rfl h31 rfl) ?_;exact K _ 1 _ (ay (cA h31)) rfl rfl
      refine za rfl <| ag <| ax rfl (fun c32 => ?_) (fun c32 => ?_)
      ·replace H := aX c32 H;refine af <| aa ?_;show AR _ _ _ _ _ [0] _;refine za rfl <| ag <| cB ?_;exact Exists.intro (true, y23) ⟨H, be [0] (.cons (.refl _) (.cons (.refl _) (.cons (.refl _) (.cons (.refl _) (.cons (.refl _) (.cons (.refl _) (.cons (.refl _) (.cons (.refl _) (.cons (.refl _) (.cons (.refl _) (.nil _))))))))))) rfl⟩
      ·replace H := aY c32 H;refine af <| aa ?_;show AR _ _ _ _ _ [0, 1, 2, 3, 4, 5, 6] _;refine zm rfl <| zS rfl (fL rfl rfl) <| zm rfl <| aW (l := [6]) 118 (B ((decide (48 ≤ (x29.toNat : Int))) && (decide ((x29.toNat : Int) ≤ 57)))) (fun K => ?_) ?_
       ·rcases aj (decide (48 ≤ (x29.toNat : Int))) with h33 | h33
        ·refine zM h33 rfl <| zU h33 rfl (fL rfl rfl) <| zS rfl (aD (av := .v _) rfl h33 rfl) ?_;exact K _ 2 _ (ay (cz h33)) rfl rfl
        ·refine zF h33 rfl <| zF h33 rfl <| zS rfl (aE (av := .v _) rfl h33 rfl) ?_;exact K _ 2 _ (ay (cA h33)) rfl rfl
       refine za rfl <| ag <| ax rfl (fun c34 => ?_) (fun c34 => ?_)
       ·replace H := aX c34 H;refine aa ?_;show AR _ _ _ _ _ [0, 1, 2] _;refine zm rfl <| zS rfl (xO (a := x29) (b := 48) rfl rfl) <| za rfl <| ag ?_;exact Exists.intro (x29 - 48) ⟨H, be [0] (.cons (.refl _) (.cons (.refl _) (.cons (.refl _) (.cons (.refl _) (.cons (.refl _) (.cons (.refl _) (.cons (.refl _) (.cons (.refl _) (.cons (.refl _) (.cons (.refl _) (.cons (.refl _) (.nil _)))))))))))) rfl⟩
       ·replace H := aY c34 H;refine af ?_;obtain ⟨x35, e36, H⟩ := bW H;obtain ⟨x38, e39, H⟩ := fM H;refine aa ?_;show AR _ _ _ _ _ [0, 1, 2, 3, 4, 5, 6, 7, 8] _;refine zm rfl <| am rfl rfl (aA rfl gW rfl (fR F x29 x35 e36) ?_);refine zS rfl (fL rfl rfl) <| zm rfl <| aW (l := [8]) 129 (B ((decide (97 ≤ (x35.toNat : Int))) && (decide ((x38.toNat : Int) ≤ 122)))) (fun K => ?_) ?_
        ·rcases aj (decide (97 ≤ (x35.toNat : Int))) with h37 | h37
         ·refine zM h37 rfl <| zT h37 rfl (aA rfl gW rfl (fR F x29 x38 (e39 h37)) ?_);refine zU h37 rfl (fL rfl rfl) <| zS rfl (aD (av := .v _) rfl h37 rfl) ?_;exact K _ 3 _ (ay (cz h37)) rfl rfl
         ·refine zF h37 rfl <| zF h37 rfl <| zF h37 rfl <| zS rfl (aE (av := .v _) rfl h37 rfl) ?_;exact K _ 3 _ (ay (cA h37)) rfl rfl
        refine za rfl <| ag <| ax rfl (fun c40 => ?_) (fun c40 => ?_)
        ·replace H := aX c40 H;obtain ⟨x41, e42, H⟩ := bW H;refine aa ?_;show AR _ _ _ _ _ [0, 1, 2, 3, 4] _;refine zm rfl <| am rfl rfl (aA rfl gW rfl (fR F x29 x41 e42) ?_);refine zS rfl (xO (a := x41) (b := 97) rfl rfl) <| zS rfl (g_add8 (a := x41 - 97) (b := 10) rfl rfl) <| za rfl <| ag ?_;exact Exists.intro ((x41 - 97) + 10) ⟨H, be [0] (.cons (.refl _) (.cons (.refl _) (.cons (.refl _) (.cons (.refl _) (.cons (.refl _) (.cons (.refl _) (.cons (.refl _) (.cons (.refl _) (.cons (.refl _) (.cons (.refl _) (.cons (.refl _) (.nil _)))))))))))) rfl⟩
        ·replace H := aY c40 H;refine af <| aa ?_;show AR _ _ _ _ _ [0, 1, 2] _;refine zS rfl (bf (a := .v _) cf rfl rfl) <| za rfl <| zS rfl (aH (av := .ifc _ _) rfl) <| ag <| aG ?_;obtain ⟨rfl, rfl⟩ := dw H;exact And.intro rfl (Exists.intro _ (Exists.intro _ ⟨bk rfl (.refl _) (.refl _), aB [] rfl, rfl, rfl⟩))
     rintro y43 H;replace H : cL a2 y17 y22 y23 y24 (bZ F a1 a2 y17 n26) y43 = some (r4, r5) := H
     unfold cL at H
     refine af <| af <| aa ?_;show AR _ _ _ _ _ [0, 1, 2, 3] _;refine zm rfl <| zm rfl <| zS rfl (rS (by kernel_rfl) cH rfl) <| zS rfl (fB rfl rfl) <| ag <| ax rfl (fun c45 => ?_) (fun c45 => ?_)
     ·replace H := aX c45 H;refine af <| aa ?_;show AR _ _ _ _ _ [0, 1, 2] _;refine zS rfl (bf (a := .v _) cf rfl rfl) <| za rfl <| zS rfl (aH (av := .ifc _ _) rfl) <| ag <| aG ?_;obtain ⟨rfl, rfl⟩ := dw H;exact And.intro rfl (Exists.intro _ (Exists.intro _ ⟨bk rfl (.refl _) (.refl _), aB [] rfl, rfl, rfl⟩))
     ·replace H := aY c45 H;refine aC <| af <| af <| aa ?_;show AR _ _ _ _ _ [0, 1, 2] _;refine zm rfl <| zm rfl <| zS rfl (fB rfl rfl) <| ag <| ax rfl (fun c46 => ?_) (fun c46 => ?_)
      ·replace H := aX c46 H;refine af <| aa ?_;show AR _ _ _ _ _ [0, 1, 2, 3] _;refine zm rfl <| zS rfl (bf (a := .v _) cf rfl rfl) <| za rfl <| zS rfl (aH (av := .ifc _ _) rfl) <| ag <| aG ?_;obtain ⟨rfl, rfl⟩ := dw H;exact And.intro rfl (Exists.intro _ (Exists.intro _ ⟨bk rfl (.refl _) (.refl _), aB [] rfl, rfl, rfl⟩))
      ·replace H := aY c46 H;refine aC <| af <| aa ?_;show AR _ _ _ _ _ [0, 1, 2, 3, 4] _;refine zm rfl <| zm rfl <| zS rfl (dX (by kernel_rfl) Tryz.underlying142 rfl) <| zS rfl (wo rfl rfl) <| za rfl <| ag <| af <| aa ?_;show AR _ _ _ _ _ [0, 1, 2, 3, 4] _;refine zm rfl <| zm rfl <| zS rfl (dX (k' := .u8) (n := (y43.toNat : Int)) (by kernel_rfl) Tryz.underlying142 rfl) <| zS rfl (pH rfl rfl) <| za rfl <| ag <| af <| af <| aa ?_;show AR _ _ _ _ _ [0, 1, 2, 3, 4, 5, 6, 7] _;refine zm rfl <| zm rfl <| zS rfl (cd rfl rfl) <| zm rfl <| aW (l := []) 159 (B ((decide (IntKind.u64.wrap ((IntKind.u64.wrap (y23 * (IntKind.u64.wrap a2))) + (IntKind.u64.wrap (y43.toNat : Int))) < IntKind.u64.wrap (y23 * (IntKind.u64.wrap a2)))) || (decide (IntKind.u64.wrap ((IntKind.u64.wrap (1 * 2 ^ min (Int.toNat (IntKind.u64.wrap 64)) IntKind.u64.bits)) - 1) < IntKind.u64.wrap ((IntKind.u64.wrap (y23 * (IntKind.u64.wrap a2))) + (IntKind.u64.wrap (y43.toNat : Int))))))) (fun K => ?_) ?_
       ·rcases aj (decide (IntKind.u64.wrap ((IntKind.u64.wrap (y23 * (IntKind.u64.wrap a2))) + (IntKind.u64.wrap (y43.toNat : Int))) < IntKind.u64.wrap (y23 * (IntKind.u64.wrap a2)))) with h47 | h47
        ·refine zF h47 rfl <| zF h47 rfl <| zF h47 rfl <| zS rfl (aD (av := .v _) rfl h47 rfl) ?_;exact K _ 3 _ (ay (jA h47)) rfl rfl
        ·refine zM h47 rfl <| zM h47 rfl <| zU h47 rfl (gp rfl rfl) <| zS rfl (aE (av := .v _) rfl h47 rfl) ?_;exact K _ 3 _ (ay (jB h47)) rfl rfl
       refine ag <| ax rfl (fun c48 => ?_) (fun c48 => ?_)
       ·replace H := aX c48 H;refine af <| aa ?_;show AR _ _ _ _ _ [0, 1, 2, 3] _;refine zm rfl <| zS rfl (bf (a := .v _) cf rfl rfl) <| za rfl <| zS rfl (aH (av := .ifc _ _) rfl) <| ag <| aG ?_;obtain ⟨rfl, rfl⟩ := dw H;exact And.intro rfl (Exists.intro _ (Exists.intro _ ⟨bk rfl (.refl _) (.refl _), aB [] rfl, rfl, rfl⟩))
       ·replace H := aY c48 H;refine aC <| aa ?_;show AR _ _ _ _ _ [0, 1] _;refine zm rfl <| za rfl <| ag ?_;exact Exists.intro (y22, IntKind.u64.wrap ((IntKind.u64.wrap (y23 * (IntKind.u64.wrap a2))) + (IntKind.u64.wrap (y43.toNat : Int)))) ⟨H, be [0] (.cons (.refl _) (.cons (.refl _) (.cons (.refl _) (.cons (.refl _) (.cons (.refl _) (.cons (.refl _) (.cons (.refl _) (.cons (.refl _) (.cons (.refl _) (.cons (.refl _) (.nil _))))))))))) rfl⟩
    rintro ⟨y49, y50⟩ H;replace H : dM y24 (bZ F a1 a2 y17 n26) y49 y50 = some (r4, r5) := H
    unfold dM at H
    obtain ⟨g52, H⟩ := aM H;refine aa ?_;show AR _ _ _ _ _ [0, 1] _;refine zS rfl (di rfl rfl g52) <| zm rfl <| ag ?_;exact Exists.intro (n26, y49, y50, y24 + 1) ⟨H, Nat.lt_succ_self _, be [0] (.cons (.refl _) (.cons (.refl _) (.cons (.refl _) (.cons (.refl _) (.cons (.refl _) (.cons (.refl _) (.cons (.refl _) (.cons (.refl _) (.cons (.refl _) (.cons (.refl _) (.nil _))))))))))) rfl⟩
   ·replace H := aY c27 H;refine cB ?_;exact Exists.intro (y22, y23) ⟨H, be [] (.cons (.refl _) (.cons (.refl _) (.cons (.refl _) (.nil _)))) rfl⟩
  rintro ⟨y53, y54⟩ H;replace H : eN F a1 y53 y54 = some (r4, r5) := H
  unfold eN at H
  refine af <| af ?_;obtain ⟨x57, e58, H⟩ := fM H;refine aa ?_;show AR _ _ _ _ _ [0, 1, 2, 3, 4, 5] _;refine zm rfl <| zm rfl <| aW (l := []) 169 (B (y53 && (!x57))) (fun K => ?_) ?_
  ·rcases aj y53 with h56 | h56
   ·refine zM h56 rfl <| zT h56 rfl (aA rfl Ag rfl (pc F a1 x57 (e58 h56)) ?_);refine zU h56 rfl (bB rfl) <| zS rfl (aD (av := .v _) rfl h56 rfl) ?_;exact K _ 3 _ (ay (cz h56)) rfl rfl
   ·refine zF h56 rfl <| zF h56 rfl <| zF h56 rfl <| zS rfl (aE (av := .v _) rfl h56 rfl) ?_;exact K _ 3 _ (ay (cA h56)) rfl rfl
  refine ag <| ax rfl (fun c59 => ?_) (fun c59 => ?_)
  ·replace H := aX c59 H;refine af <| aa ?_;show AR _ _ _ _ _ [0, 1, 2] _;refine zS rfl (bf (a := .v _) cf rfl rfl) <| za rfl <| zS rfl (aH (av := .ifc _ _) rfl) <| ag <| aG ?_;obtain ⟨rfl, rfl⟩ := dw H;exact And.intro rfl (Exists.intro _ (Exists.intro _ ⟨bk rfl (.refl _) (.refl _), aB [] rfl, rfl, rfl⟩))
  ·replace H := aY c59 H;refine aC <| af <| aa ?_;show AR _ _ _ _ _ [0, 1, 2] _;refine zm rfl <| za rfl <| za rfl <| ag <| aG ?_;obtain ⟨rfl, rfl⟩ := dw H;exact And.intro rfl (Exists.intro _ (Exists.intro _ ⟨bk rfl (.refl _) (.refl _), aB [] rfl, rfl, rfl⟩))
abbrev _root_.Go.Av.eS := @Tryz.underlying53
set_option maxRecDepth 100000 in
set_option maxHeartbeats 1000000 in
theorem sz (F : Nat) (a1 : List UInt8) (a2 : Int) (a3 : Int) (r4 : Int) (r5 : Int) (H : gB F a1 a2 a3 = some (r4, r5)) : ACalls Tryz.prog 105 [S a1, i64 a2, i64 a3] [] (Ret (.tup [i64 r4, kJ 141 .i64 r5]) []) := by
 unfold gB at H
 refine ap Tryz.func105 rfl rfl ?_;show AW _ _ 73 _ _ _;refine af <| aa ?_;show AR _ _ _ _ _ [0, 1] _;refine za rfl <| za rfl <| ag <| af <| af <| aa ?_;show AR _ _ _ _ _ [0, 1] _;refine zm rfl <| zS rfl (dr rfl rfl) <| ag <| ax rfl (fun c6 => ?_) (fun c6 => ?_)
 ·replace H := aX c6 H;refine af <| aa ?_;show AR _ _ _ _ _ [0, 1, 2] _;refine zS rfl (bf (a := .v _) cf rfl rfl) <| za rfl <| zS rfl (aH (av := .ifc _ _) rfl) <| ag <| aG ?_;obtain ⟨rfl, rfl⟩ := dw H;exact And.intro rfl (Exists.intro _ (Exists.intro _ ⟨bk rfl (.refl _) (.refl _), aB [] rfl, rfl, rfl⟩))
 ·replace H := aY c6 H;refine aC <| af <| aa ?_;show AR _ _ _ _ _ [0] _;refine za rfl <| ag <| bL (X := (List UInt8) × Bool) (fun (y18, y19) => ⟨[(0, S y18), (1, i64 a2), (2, i64 a3), (8, B y19)], [], []⟩) (fun (y18, y19) => dB F a2 a3 y18 y19 = some (r4, r5)) ?_ ?_
  ·refine af ?_;obtain ⟨g7, H⟩ := aM H;obtain ⟨x8, e9, H⟩ := bM H;refine aa ?_;show AR _ _ _ _ _ [0, 1] _;refine zm rfl <| zS rfl (bo ai rfl rfl g7 e9) <| ag <| aU <| af <| aa ?_;show AR _ _ _ _ _ [0, 1] _;refine zS rfl (jD (a := x8) (b := 43) rfl rfl) <| za rfl <| ag <| ax rfl (fun c10 => ?_) (fun c10 => ?_)
   ·replace H := aX c10 H;obtain ⟨g11, H⟩ := aM H;obtain ⟨x12, e13, H⟩ := bM H;refine aa ?_;show AR _ _ _ _ _ [0, 1, 2] _;refine zm rfl <| zS rfl (eG ai rfl rfl g11 e13) <| za rfl <| ag ?_;exact Exists.intro (x12, false) ⟨H, be [] (.cons (.refl _) (.cons (.refl _) (.cons (.refl _) (.cons (.refl _) (.nil _))))) rfl⟩
   ·replace H := aY c10 H;refine af <| aa ?_;show AR _ _ _ _ _ [0, 1] _;refine zS rfl (jD (a := x8) (b := 45) rfl rfl) <| za rfl <| ag <| ax rfl (fun c14 => ?_) (fun c14 => ?_)
    ·replace H := aX c14 H;refine af ?_;obtain ⟨g15, H⟩ := aM H;obtain ⟨x16, e17, H⟩ := bM H;refine aa ?_;show AR _ _ _ _ _ [0, 1, 2] _;refine zm rfl <| zS rfl (eG ai rfl rfl g15 e17) <| za rfl <| ag <| aa ?_;show AR _ _ _ _ _ [0] _;refine za rfl <| ag ?_;exact Exists.intro (x16, true) ⟨H, be [] (.cons (.refl _) (.cons (.refl _) (.cons (.refl _) (.cons (.refl _) (.nil _))))) rfl⟩
    ·replace H := aY c14 H;refine aC ?_;exact Exists.intro (a1, false) ⟨H, be [] (.cons (.refl _) (.cons (.refl _) (.cons (.refl _) (.cons (.refl _) (.nil _))))) rfl⟩
  rintro ⟨y18, y19⟩ H;replace H : dB F a2 a3 y18 y19 = some (r4, r5) := H
  unfold dB at H
  refine af <| aa ?_;show AR _ _ _ _ _ [0] _;refine za rfl <| ag <| af ?_;obtain ⟨x21, x22, e23, H⟩ := cF H;refine aa ?_;show AR _ _ _ _ _ [0, 1, 2, 3, 4, 5, 6, 7, 8] _;refine zm rfl <| zm rfl <| zm rfl <| am rfl rfl (aA rfl Ah rfl (rA F y18 a2 a3 x21 x22 e23) ?_);refine zS rfl (ah (av := .tup _) rfl) <| zS rfl (az (av := .v _) rfl rfl) <| zS rfl (az (av := kJ _ _ _) rfl rfl) <| za rfl <| zS rfl (aH (av := kJ _ _ _) rfl) <| ag <| af <| af <| aa ?_;show AR _ _ _ _ _ [0, 1, 2, 3, 4, 5, 6] _;refine zS rfl (ah (av := kJ _ _ _) rfl) <| zS rfl (mP eS rfl rfl) <| zm rfl <| aW (l := []) 38 (B ((!decide (x22 = 0)) && (!decide (x22 = 1)))) (fun K => ?_) ?_
  ·rcases aj (!decide (x22 = 0)) with h24 | h24
   ·refine zU h24 rfl (ah (av := kJ _ _ _) rfl) <| zU h24 rfl (bf (a := .v _) cf rfl rfl) <| zU h24 rfl (zb (m := 1) eS rfl cf (by kernel_rfl) (by decide) rfl rfl) <| zS rfl (aD (av := .v _) rfl h24 rfl) ?_;exact K _ 3 _ (ay (cz h24)) rfl rfl
   ·refine zF h24 rfl <| zF h24 rfl <| zF h24 rfl <| zS rfl (aE (av := .v _) rfl h24 rfl) ?_;exact K _ 3 _ (ay (cA h24)) rfl rfl
  refine ag <| ax rfl (fun c25 => ?_) (fun c25 => ?_)
  ·replace H := aX c25 H;refine af <| aa ?_;show AR _ _ _ _ _ [0, 1, 2] _;refine zS rfl (ah (av := kJ _ _ _) rfl) <| za rfl <| zS rfl (aH (av := kJ _ _ _) rfl) <| ag <| aG ?_;obtain ⟨rfl, rfl⟩ := dw H;exact And.intro rfl (Exists.intro _ (Exists.intro _ ⟨bk rfl (.refl _) (.refl _), aB [] rfl, rfl, rfl⟩))
  ·replace H := aY c25 H;refine aC <| bL (X := Unit) (fun _ => ⟨[(2, i64 64), (8, B y19), (9, .v (.int .u64 x21))], [], []⟩) (fun _ => fw y19 x21 = some (r4, r5)) ?_ ?_
   ·refine af <| aa ?_;show AR _ _ _ _ _ [0, 1] _;refine zm rfl <| zS rfl (bJ rfl rfl) <| ag ?_;obtain ⟨g27, H⟩ := aM H;refine ax rfl (fun _ => ?_) (fun hx => bK g27 hx);refine aa ?_;show AR _ _ _ _ _ [0] _;refine za rfl <| ag ?_;exact Exists.intro () ⟨H, be [] (.cons (.refl _) (.cons (.refl _) (.cons (.refl _) (.nil _)))) rfl⟩
   rintro _ H;replace H : fw y19 x21 = some (r4, r5) := H
   unfold fw at H
   refine af ?_;obtain ⟨g29, H⟩ := aM H;refine aa ?_;show AR _ _ _ _ _ [0, 1, 2, 3, 4] _;refine zm rfl <| zS rfl (fe (av' := i64 63) (lP rfl rfl (by decide)) rfl) <| zS rfl (dX (by kernel_rfl) Tryz.underlying117 rfl) <| zS rfl (yi rfl rfl (of_decide_eq_true g29)) <| za rfl <| ag <| af <| af <| aa ?_;show AR _ _ _ _ _ [0, 1, 2, 3, 4, 5, 6] _;refine zm rfl <| zS rfl (bB rfl) <| zm rfl <| aW (l := []) 52 (B ((!y19) && (decide (IntKind.u64.wrap (1 * 2 ^ min (Int.toNat (IntKind.u64.wrap 63)) IntKind.u64.bits) ≤ x21)))) (fun K => ?_) ?_
   ·rcases aj (!y19) with h30 | h30
    ·refine zM h30 rfl <| zM h30 rfl <| zU h30 rfl (fB rfl rfl) <| zS rfl (aD (av := .v _) rfl h30 rfl) ?_;exact K _ 3 _ (ay (cz h30)) rfl rfl
    ·refine zF h30 rfl <| zF h30 rfl <| zF h30 rfl <| zS rfl (aE (av := .v _) rfl h30 rfl) ?_;exact K _ 3 _ (ay (cA h30)) rfl rfl
   refine ag <| ax rfl (fun c31 => ?_) (fun c31 => ?_)
   ·replace H := aX c31 H;refine af ?_;obtain ⟨g32, H⟩ := aM H;refine aa ?_;show AR _ _ _ _ _ [0, 1, 2, 3, 4, 5] _;refine zm rfl <| zS rfl (pG rfl rfl) <| zS rfl (qj (by kernel_rfl) Tryz.underlying2 rfl g32) <| zS rfl (bf (a := .v _) cf rfl rfl) <| za rfl <| zS rfl (aH (av := .ifc _ _) rfl) <| ag <| aG ?_;obtain ⟨rfl, rfl⟩ := dw H;exact And.intro rfl (Exists.intro _ (Exists.intro _ ⟨bk rfl (.refl _) (.refl _), aB [] rfl, rfl, rfl⟩))
   ·replace H := aY c31 H;refine aC <| af <| af <| aa ?_;show AR _ _ _ _ _ [0, 1, 2, 3, 4, 5] _;refine zm rfl <| zm rfl <| aW (l := []) 62 (B (y19 && (decide (IntKind.u64.wrap (1 * 2 ^ min (Int.toNat (IntKind.u64.wrap 63)) IntKind.u64.bits) < x21)))) (fun K => ?_) ?_
    ·rcases aj y19 with h33 | h33
     ·refine zM h33 rfl <| zM h33 rfl <| zU h33 rfl (gp rfl rfl) <| zS rfl (aD (av := .v _) rfl h33 rfl) ?_;exact K _ 3 _ (ay (cz h33)) rfl rfl
     ·refine zF h33 rfl <| zF h33 rfl <| zF h33 rfl <| zS rfl (aE (av := .v _) rfl h33 rfl) ?_;exact K _ 3 _ (ay (cA h33)) rfl rfl
    refine ag <| ax rfl (fun c34 => ?_) (fun c34 => ?_)
    ·replace H := aX c34 H;refine af ?_;obtain ⟨g35, H⟩ := aM H;obtain ⟨g36, H⟩ := aM H;refine aa ?_;show AR _ _ _ _ _ [0, 1, 2, 3, 4, 5] _;refine zm rfl <| zS rfl (qj (by kernel_rfl) Tryz.underlying2 rfl g35) <| zS rfl (g_neg rfl g36) <| zS rfl (bf (a := .v _) cf rfl rfl) <| za rfl <| zS rfl (aH (av := .ifc _ _) rfl) <| ag <| aG ?_;obtain ⟨rfl, rfl⟩ := dw H;exact And.intro rfl (Exists.intro _ (Exists.intro _ ⟨bk rfl (.refl _) (.refl _), aB [] rfl, rfl, rfl⟩))
    ·replace H := aY c34 H;refine aC <| af ?_;obtain ⟨g37, H⟩ := aM H;refine aa ?_;show AR _ _ _ _ _ [0, 1, 2] _;refine zm rfl <| zS rfl (qj (by kernel_rfl) Tryz.underlying2 rfl g37) <| za rfl <| ag <| bL (X := Int) (fun y40 => ⟨[(11, i64 y40)], [], []⟩) (fun y40 => eB y40 = some (r4, r5)) ?_ ?_
     ·refine af <| aa ?_;show AR _ _ _ _ _ [0] _;refine zm rfl <| ag <| ax rfl (fun c38 => ?_) (fun c38 => ?_)
      ·replace H := aX c38 H;obtain ⟨g39, H⟩ := aM H;refine aa ?_;show AR _ _ _ _ _ [0, 1, 2] _;refine zm rfl <| zS rfl (g_neg rfl g39) <| za rfl <| ag ?_;exact Exists.intro (0 - x21) ⟨H, be [] (.cons (.refl _) (.nil _)) rfl⟩
      ·replace H := aY c38 H;refine aC ?_;exact Exists.intro x21 ⟨H, be [] (.cons (.refl _) (.nil _)) rfl⟩
     rintro y40 H;replace H : eB y40 = some (r4, r5) := H
     unfold eB at H
     refine af <| aa ?_;show AR _ _ _ _ _ [0, 1, 2] _;refine zm rfl <| za rfl <| za rfl <| ag <| aG ?_;obtain ⟨rfl, rfl⟩ := dw H;exact And.intro rfl (Exists.intro _ (Exists.intro _ ⟨bk rfl (.refl _) (.refl _), aB [] rfl, rfl, rfl⟩))
set_option maxRecDepth 100000 in
set_option maxHeartbeats 1000000 in
theorem oL (F : Nat) (a1 : List UInt8) (a2 : Int) (a3 : Int) (r4 : Int) (r5 : Int) (H : dp F a1 a2 a3 = some (r4, r5)) : ACalls Tryz.prog 103 [S a1, i64 a2, i64 a3] [] (Ret (.tup [i64 r4, eAny 145 r5]) []) := by
 unfold dp at H
 refine ap Tryz.func103 rfl rfl ?_;show AW _ _ 25 _ _ _;refine af <| aa ?_;show AR _ _ _ _ _ [0, 1] _;refine za rfl <| za rfl <| ag <| af ?_;obtain ⟨x6, x7, e8, H⟩ := cF H;refine aa ?_;show AR _ _ _ _ _ [0, 1, 2, 3, 4, 5, 6, 7, 8] _;refine zm rfl <| zm rfl <| zm rfl <| am rfl rfl (aA rfl Aj rfl (sz F a1 a2 a3 x6 x7 e8) ?_);refine zS rfl (ah (av := .tup _) rfl) <| zS rfl (az (av := .v _) rfl rfl) <| zS rfl (az (av := kJ _ _ _) rfl rfl) <| za rfl <| zS rfl (aH (av := kJ _ _ _) rfl) <| ag <| af <| af <| aa ?_;show AR _ _ _ _ _ [0, 1] _;refine zS rfl (ah (av := kJ _ _ _) rfl) <| zS rfl (mP eS rfl rfl) <| ag <| ax rfl (fun c9 => ?_) (fun c9 => ?_)
 ·replace H := aX c9 H;refine af ?_;obtain ⟨g10, H⟩ := aM H;obtain ⟨g11, H⟩ := aM H;refine aa ?_;show AR _ _ _ _ _ [0, 1, 2, 3, 4, 5, 6, 7] _;refine zm rfl <| zm rfl <| zm rfl <| zm rfl <| zS rfl (ah (av := kJ _ _ _) rfl) <| am rfl rfl (aA rfl Ai rfl (vQ _ _ _ _ x7 (nb g10) (of_decide_eq_true g11)) ?_);refine za rfl <| zS rfl (aH (av := .ifc _ _) rfl) <| ag <| aG ?_;obtain ⟨rfl, rfl⟩ := dw H;exact And.intro rfl (Exists.intro _ (Exists.intro _ ⟨bk rfl (.refl _) (.ifc _ _), aB [] rfl, rfl, rfl⟩))
 ·replace H := aY c9 H;refine aC <| af <| aa ?_;show AR _ _ _ _ _ [0, 1, 2] _;refine zm rfl <| za rfl <| za rfl <| ag <| aG ?_;obtain ⟨rfl, rfl⟩ := dw H;exact And.intro rfl (Exists.intro _ (Exists.intro _ ⟨bk rfl (.refl _) (.refl _), aB [] rfl, rfl, rfl⟩))
end Go.Proofs.YtkbfjepffpddfaaGreatDoor
namespace Go.Pv
def jP (F : Nat) (a1 : Int) : Option Bool :=
bif (decide (0 ≤ a1)) && (decide (a1 < 55296)) then
  some true
else
  bif (decide (57343 < a1)) && (decide (a1 ≤ 1114111)) then
    some true
  else
    some false
def mO : Option Int :=
some (-1)
def eF (a1 : List UInt8) (rec11 : Nat → Option Int) (y10 : Nat) : Option Int :=
bif decide (y10 < a1.length) then
  grd (!(decide (((nq a1 y10).1 : Int) = 65533))) <|
  rec11 (y10 + (nq a1 y10).2)
else
  mO
def iH (a1 : List UInt8) (n : Nat) : Nat → Option Int :=
  loop (fun rec x => eF a1 rec x) n
def jI : Option Int :=
some (-1)
def iI (a1 : List UInt8) (x20 : List UInt8) (rec23 : Unit → Option Int) : Option Int :=
bif decide ((x20.length : Int) - 1 < (a1.length : Int)) then
  grd (dq ((x20.length : Int) - 1) a1.length) <|
  lt (at_ a1 ((x20.length : Int) - 1)) fun x27 =>
  grd (dq ((x20.length : Int) - 1) x20.length) <|
  lt (at_ x20 ((x20.length : Int) - 1)) fun x30 =>
  grd (!decide (x27 = x30)) <|
  grd (okI (((x20.length : Int) - 1) + 1)) <|
  grd (kF (((x20.length : Int) - 1) + 1) a1.length) <|
  lt (cV a1 (((x20.length : Int) - 1) + 1)) fun x35 =>
  grd (dq ((x20.length : Int) - 1) x20.length) <|
  lt (at_ x20 ((x20.length : Int) - 1)) fun x38 =>
  lt (Go.Lib.indexByte x35 x38) fun x40 =>
  grd (decide (x40 < 0)) <|
  some (-1)
else
  jI
def li (a1 : List UInt8) (x20 : List UInt8) (n : Nat) : Unit → Option Int :=
  loop (fun rec x => iI a1 x20 rec) n
def iU (F : Nat) (a1 : List UInt8) (a2 : Int) : Option Int :=
bif (decide (0 ≤ a2)) && (decide (a2 < 128)) then
  lt (Go.Lib.indexByte a1 (Go.Av.toB a2)) fun x6 =>
  some x6
else
  bif decide (a2 = 65533) then
    iH a1 F 0
  else
    bnd (jP F a2) fun x17 =>
    bif !x17 then
      some (-1)
    else
      lt (cG a2) fun x20 =>
      grd (okI ((x20.length : Int) - 1)) <|
      li a1 x20 F ()
def si (F : Nat) (a1 : Int) : Option Bool :=
some (decide (8 < a1))
def iJ (F : Nat) (a1 : List UInt8) (y11 : Int) : Option Int :=
bnd (iU F a1 y11) fun x13 =>
some x13
def jK : Option Int :=
some (-1)
def iM (F : Nat) (a1 : List UInt8) (a2 : List UInt8) (rec22 : Nat → Option Int) (y21 : Nat) : Option Int :=
bif decide (y21 < a1.length) then
  bnd (iU F a2 ((nq a1 y21).1 : Int)) fun x25 =>
  bif decide (0 ≤ x25) then
    some (y21 : Int)
  else
    rec22 (y21 + (nq a1 y21).2)
else
  jK
def iK (F : Nat) (a1 : List UInt8) (a2 : List UInt8) (n : Nat) : Nat → Option Int :=
  loop (fun rec x => iM F a1 a2 rec x) n
def jJ (F : Nat) (a1 : List UInt8) (a2 : List UInt8) : Option Int :=
iK F a1 a2 F 0
def nk (F : Nat) (a1 : List UInt8) (a2 : List UInt8) : Option Int :=
bif decide (a2 = ([] : List UInt8)) then
  some (-1)
else
  bif decide ((a2.length : Int) = 1) then
    grd (dq 0 a2.length) <|
    lt (at_ a2 0) fun x7 =>
    grd (okJ (x7.toNat : Int)) <|
    bif decide (128 ≤ (x7.toNat : Int)) then
      iJ F a1 65533
    else
      iJ F a1 (x7.toNat : Int)
  else
    bnd (si F (a1.length : Int)) fun x15 =>
    grd (!x15) <|
    jJ F a1 a2
def mi (F : Nat) (s chars : List UInt8) : Option Int := bif decide (8 < s.length) && decide (2 ≤ chars.length) then some (Go.Lib.indexAny s chars) else nk F s chars
def gI (F : Nat) (a1 : List UInt8) (a2 : List UInt8) : Option Bool :=
grd (jf a2) <|
grd (okS a1.length) <|
grd (okS a2.length) <|
bnd (mi F a1 a2) fun x7 =>
some (decide (0 ≤ x7))
end Go.Pv
namespace Go.Proofs.YtkbfjepffpddfaaGreatDoor
open Go.RowKit Go.Av Go.Pv
theorem wI : ∀ (args : Array Value) (w : World), (callFunc 44 args).run Tryz.prog w = .ok (.enter 44 args) w := fun _ _ => by kernel_rfl
theorem en91_any : ∀ (args : Array Value) (w : World), (callFunc 91 args).run Tryz.prog w = .ok (.enter 91 args) w := fun _ _ => by kernel_rfl
theorem wH : ∀ (args : Array Value) (w : World), (callFunc 96 args).run Tryz.prog w = .ok (.enter 96 args) w := fun _ _ => by kernel_rfl
theorem en97_any : ∀ (args : Array Value) (w : World), (callFunc 97 args).run Tryz.prog w = .ok (.enter 97 args) w := fun _ _ => by kernel_rfl
theorem Ak : ∀ (args : Array Value) (w : World), (callFunc 101 args).run Tryz.prog w = .ok (.enter 101 args) w := fun _ _ => by kernel_rfl
set_option maxRecDepth 100000 in
set_option maxHeartbeats 1000000 in
theorem vH (F : Nat) (a1 : Int) (r2 : Bool) (H : jP F a1 = some r2) : ACalls Tryz.prog 101 [.v (.int .i32 a1)] [] (Ret (B r2) []) := by
 unfold jP at H
 refine ap Tryz.func101 rfl rfl ?_;show AW _ _ 17 _ _ _;refine af <| aa ?_;show AR _ _ _ _ _ [0] _;refine za rfl <| ag <| af <| aU <| af <| aa ?_;show AR _ _ _ _ _ [0, 1, 2, 3, 4, 5, 6] _;refine zm rfl <| zS rfl (fL rfl rfl) <| zm rfl <| aW (l := [6]) 9 (B ((decide (0 ≤ a1)) && (decide (a1 < 55296)))) (fun K => ?_) ?_
 ·rcases aj (decide (0 ≤ a1)) with h3 | h3
  ·refine zM h3 rfl <| zU h3 rfl (cd rfl rfl) <| zS rfl (aD (av := .v _) rfl h3 rfl) ?_;exact K _ 2 _ (ay (cz h3)) rfl rfl
  ·refine zF h3 rfl <| zF h3 rfl <| zS rfl (aE (av := .v _) rfl h3 rfl) ?_;exact K _ 2 _ (ay (cA h3)) rfl rfl
 refine za rfl <| ag <| ax rfl (fun c4 => ?_) (fun c4 => ?_)
 ·replace H := aX c4 H;refine af <| aa ?_;show AR _ _ _ _ _ [0] _;refine za rfl <| ag <| aG ?_;obtain rfl := ak H;exact And.intro rfl (Exists.intro _ (Exists.intro _ ⟨aF rfl (.refl _), aB [] rfl, rfl, rfl⟩))
 ·replace H := aY c4 H;refine af <| aa ?_;show AR _ _ _ _ _ [0, 1, 2, 3, 4, 5, 6] _;refine zm rfl <| zS rfl (cd rfl rfl) <| zm rfl <| aW (l := [6]) 16 (B ((decide (57343 < a1)) && (decide (a1 ≤ 1114111)))) (fun K => ?_) ?_
  ·rcases aj (decide (57343 < a1)) with h5 | h5
   ·refine zM h5 rfl <| zU h5 rfl (fL rfl rfl) <| zS rfl (aD (av := .v _) rfl h5 rfl) ?_;exact K _ 2 _ (ay (cz h5)) rfl rfl
   ·refine zF h5 rfl <| zF h5 rfl <| zS rfl (aE (av := .v _) rfl h5 rfl) ?_;exact K _ 2 _ (ay (cA h5)) rfl rfl
  refine za rfl <| ag <| ax rfl (fun c6 => ?_) (fun c6 => ?_)
  ·replace H := aX c6 H;refine af <| aa ?_;show AR _ _ _ _ _ [0] _;refine za rfl <| ag <| aG ?_;obtain rfl := ak H;exact And.intro rfl (Exists.intro _ (Exists.intro _ ⟨aF rfl (.refl _), aB [] rfl, rfl, rfl⟩))
  ·replace H := aY c6 H;refine aC <| af <| aa ?_;show AR _ _ _ _ _ [0] _;refine za rfl <| ag <| aG ?_;obtain rfl := ak H;exact And.intro rfl (Exists.intro _ (Exists.intro _ ⟨aF rfl (.refl _), aB [] rfl, rfl, rfl⟩))
set_option maxRecDepth 100000 in
set_option maxHeartbeats 1000000 in
theorem tk (F : Nat) (a1 : List UInt8) (a2 : Int) (r3 : Int) (H : iU F a1 a2 = some r3) : ACalls Tryz.prog 96 [S a1, .v (.int .i32 a2)] [] (Ret (i64 r3) []) := by
 unfold iU at H
 refine ap Tryz.func96 rfl rfl ?_;show AW _ _ 187 _ _ _;refine af <| aa ?_;show AR _ _ _ _ _ [0] _;refine za rfl <| ag <| aU <| af <| aa ?_;show AR _ _ _ _ _ [0, 1, 2, 3, 4, 5, 6] _;refine zm rfl <| zS rfl (fL rfl rfl) <| zm rfl <| aW (l := [6]) 166 (B ((decide (0 ≤ a2)) && (decide (a2 < 128)))) (fun K => ?_) ?_
 ·rcases aj (decide (0 ≤ a2)) with h4 | h4
  ·refine zM h4 rfl <| zU h4 rfl (cd rfl rfl) <| zS rfl (aD (av := .v _) rfl h4 rfl) ?_;exact K _ 2 _ (ay (cz h4)) rfl rfl
  ·refine zF h4 rfl <| zF h4 rfl <| zS rfl (aE (av := .v _) rfl h4 rfl) ?_;exact K _ 2 _ (ay (cA h4)) rfl rfl
 refine za rfl <| ag <| ax rfl (fun c5 => ?_) (fun c5 => ?_)
 ·replace H := aX c5 H;refine af ?_;obtain ⟨x6, e7, H⟩ := bM H;refine aa ?_;show AR _ _ _ _ _ [0, 1, 2, 3, 4] _;refine zm rfl <| zm rfl <| zS rfl (rS (by kernel_rfl) cH rfl) <| am rfl rfl (aA rfl wI rfl (show ACalls _ _ _ [] (Ret (i64 x6) []) from by subst e7; exact eX a1 (Go.Av.toB a2)) ?_);refine za rfl <| ag <| aG ?_;obtain rfl := ak H;exact And.intro rfl (Exists.intro _ (Exists.intro _ ⟨aF rfl (.refl _), aB [] rfl, rfl, rfl⟩))
 ·replace H := aY c5 H;refine af <| aa ?_;show AR _ _ _ _ _ [0, 1, 2] _;refine zm rfl <| zS rfl (bJ rfl rfl) <| za rfl <| ag <| ax rfl (fun c8 => ?_) (fun c8 => ?_)
  ·replace H := aX c8 H;refine bL (X := Unit) (fun _ => ⟨[], [], []⟩) (fun _ => mO = some r3) ?_ ?_
   ·refine af <| aa ?_;show AR _ _ _ _ _ [0, 1] _;refine zm rfl <| zX rfl (oH ai rfl) ?_;rintro _ _ ⟨o9, rfl, rfl⟩;refine ag <| aU <| dk (X := Nat × Nat) (fun (n12, y10) => ⟨[(175, .pt o9 0)], [], [.iter o9 a1 y10]⟩) (fun (n12, y10) => iH a1 n12 y10 = some r3) (fun (n12, y10) => n12) (F, 0) H (be [0] (.cons (.refl _) (.nil _)) rfl) ?_;rintro ⟨n12, y10⟩ H;obtain ⟨n12, rfl, H⟩ := fC H;replace H : eF a1 (iH a1 n12) y10 = some r3 := H
    unfold eF at H
    refine af ?_
    rcases aj (decide (y10 < a1.length)) with c13 | c13
    ·replace H := aX c13 H;refine aa ?_;show AR _ _ _ _ _ [0, 1] _;refine zR rfl (wC (i := 0) rfl rfl c13) <| zS rfl (az (av := .v _) rfl rfl) <| ag <| af <| ax rfl (fun _ => ?_) (fun hx => bK rfl hx);refine aC <| aU <| af <| aa ?_;show AR _ _ _ _ _ [0, 1, 2, 3] _;refine zS rfl (az (av := .v _) rfl rfl) <| zS rfl (az (av := .v _) rfl rfl) <| za rfl <| za rfl <| ag <| af <| aa ?_;show AR _ _ _ _ _ [0, 1] _;refine zm rfl <| zS rfl (bJ rfl rfl) <| ag ?_;obtain ⟨g15, H⟩ := aM H;replace g15 := fn g15;refine ax rfl (fun hx => bK hx g15) (fun _ => ?_);refine aC ?_;exact Exists.intro (n12, y10 + (nq a1 y10).2) ⟨H, Nat.lt_succ_self _, be [0] (.cons (.refl _) (.nil _)) rfl⟩
    ·replace H := aY c13 H;refine aa ?_;show AR _ _ _ _ _ [0, 1] _;refine zR rfl (wD (i := 0) rfl rfl c13) <| zS rfl (az (av := .v _) rfl rfl) <| ag <| af <| ax rfl (fun hx => bK hx rfl) (fun _ => ?_);refine cB ?_;exact Exists.intro () ⟨H, be [] (.nil _) rfl⟩
   rintro _ H;replace H : mO = some r3 := H
   unfold mO at H
   refine af <| aa ?_;show AR _ _ _ _ _ [0] _;refine za rfl <| ag <| aG ?_;obtain rfl := ak H;exact And.intro rfl (Exists.intro _ (Exists.intro _ ⟨aF rfl (.refl _), aB [] rfl, rfl, rfl⟩))
  ·replace H := aY c8 H;refine af ?_;obtain ⟨x17, e18, H⟩ := bW H;refine aa ?_;show AR _ _ _ _ _ [0, 1, 2, 3] _;refine zm rfl <| am rfl rfl (aA rfl Ak rfl (vH F a2 x17 e18) ?_);refine zS rfl (bB rfl) <| za rfl <| ag <| ax rfl (fun c19 => ?_) (fun c19 => ?_)
   ·replace H := aX c19 H;refine af <| aa ?_;show AR _ _ _ _ _ [0] _;refine za rfl <| ag <| aG ?_;obtain rfl := ak H;exact And.intro rfl (Exists.intro _ (Exists.intro _ ⟨aF rfl (.refl _), aB [] rfl, rfl, rfl⟩))
   ·replace H := aY c19 H;refine AW.scope <| af ?_;obtain ⟨x20, e21, H⟩ := bM H;refine aa ?_;show AR _ _ _ _ _ [0, 1, 2] _;refine zm rfl <| zS rfl (oX Tryz.underlying21 ai rfl e21) <| za rfl <| ag <| af ?_;obtain ⟨g22, H⟩ := aM H;refine aa ?_;show AR _ _ _ _ _ [0, 1, 2, 3] _;refine zm rfl <| zS rfl (bt ai rfl) <| zS rfl (lP rfl rfl g22) <| za rfl <| ag <| af <| aa ?_;show AR _ _ _ _ _ [0, 1] _;refine zm rfl <| za rfl <| ag <| af <| aa ?_;show AR _ _ _ _ _ [0] _;refine za rfl <| ag <| bL (X := Unit) (fun _ => ⟨[], [], []⟩) (fun _ => jI = some r3) ?_ ?_
    ·refine aU <| dk (X := Nat) (fun n24 => ⟨[(0, S a1), (7, S x20), (8, i64 ((x20.length : Int) - 1)), (9, i64 ((x20.length : Int) - 1)), (10, i64 0)], [], []⟩) (fun n24 => li a1 x20 n24 () = some r3) (fun n24 => n24) F H (be [] (.cons (.refl _) (.cons (.refl _) (.cons (.refl _) (.cons (.refl _) (.cons (.refl _) (.nil _)))))) rfl) ?_;rintro n24 H;obtain ⟨n24, rfl, H⟩ := fC H;replace H : iI a1 x20 (li a1 x20 n24) = some r3 := H
     unfold iI at H
     refine af <| af <| aa ?_;show AR _ _ _ _ _ [0, 1, 2, 3] _;refine zm rfl <| zm rfl <| zS rfl (bt ai rfl) <| zS rfl (cd rfl rfl) <| ag <| ax rfl (fun c25 => ?_) (fun c25 => ?_)
     ·replace H := aX c25 H;refine aC <| aU <| AW.scope <| af <| af ?_;obtain ⟨g26, H⟩ := aM H;obtain ⟨x27, e28, H⟩ := bM H;obtain ⟨g29, H⟩ := aM H;obtain ⟨x30, e31, H⟩ := bM H;refine cw (by kernel_rfl) ?_;show AI _ _ _ _ _ 7 (Array.replicate 7 false) _;refine zk 0 rfl (mv rfl) ?_;show AI _ _ _ _ _ _ #[true, false, false, false, false, false, false] _;refine zk 1 rfl (mv rfl) ?_;show AI _ _ _ _ _ _ #[true, true, false, false, false, false, false] _;refine zk 2 rfl (bo ai rfl rfl g26 e28) ?_;show AI _ _ _ _ _ _ #[true, true, true, false, false, false, false] _;refine zk 3 rfl (mv rfl) ?_;show AI _ _ _ _ _ _ #[true, true, true, true, false, false, false] _;refine zk 4 rfl (mv rfl) ?_;show AI _ _ _ _ _ _ #[true, true, true, true, true, false, false] _;refine zk 5 rfl (bo ai rfl rfl g29 e31) ?_;show AI _ _ _ _ _ _ #[true, true, true, true, true, true, false] _;refine zk 6 rfl (g_ne8 (a := x27) (b := x30) rfl rfl) ?_;show AI _ _ _ _ _ _ #[true, true, true, true, true, true, true] _;refine cT rfl ?_;obtain ⟨g44, H⟩ := aM H;refine ax rfl (fun _ => ?_) (fun hx => bK g44 hx);refine af ?_;obtain ⟨g33, H⟩ := aM H;obtain ⟨g34, H⟩ := aM H;obtain ⟨x35, e36, H⟩ := bM H;obtain ⟨g37, H⟩ := aM H;obtain ⟨x38, e39, H⟩ := bM H;obtain ⟨x40, e41, H⟩ := bM H;refine cw (by kernel_rfl) ?_;show AI _ _ _ _ _ 9 (Array.replicate 9 false) _;refine zk 0 rfl (mv rfl) ?_;show AI _ _ _ _ _ _ #[true, false, false, false, false, false, false, false, false] _
      refine zk 1 rfl (mv rfl) ?_;show AI _ _ _ _ _ _ #[true, true, false, false, false, false, false, false, false] _;refine zk 2 rfl (di rfl rfl g33) ?_;show AI _ _ _ _ _ _ #[true, true, true, false, false, false, false, false, false] _;refine zk 3 rfl (eG ai rfl rfl g34 e36) ?_;show AI _ _ _ _ _ _ #[true, true, true, true, false, false, false, false, false] _;refine zk 4 rfl (mv rfl) ?_;show AI _ _ _ _ _ _ #[true, true, true, true, true, false, false, false, false] _;refine zk 5 rfl (mv rfl) ?_;show AI _ _ _ _ _ _ #[true, true, true, true, true, true, false, false, false] _;refine zk 6 rfl (bo ai rfl rfl g37 e39) ?_;show AI _ _ _ _ _ _ #[true, true, true, true, true, true, true, false, false] _;refine cj (i := 7) (by kernel_rfl) rfl rfl <| AIO.callp rfl wI rfl (show ACalls _ _ _ [] (Ret (i64 x40) []) from by subst e41; exact eX x35 x38) ?_;show AI _ _ _ _ _ _ #[true, true, true, true, true, true, true, true, false] _;refine zk 8 rfl (asg rfl) ?_;show AI _ _ _ _ _ _ #[true, true, true, true, true, true, true, true, true] _;refine cT rfl <| af <| af <| aa ?_;show AR _ _ _ _ _ [0, 1] _;refine zm rfl <| zS rfl (cd rfl rfl) <| ag ?_;obtain ⟨g43, H⟩ := aM H;refine ax rfl (fun _ => ?_) (fun hx => bK g43 hx);refine af <| aa ?_;show AR _ _ _ _ _ [0] _;refine za rfl <| ag <| aG ?_;obtain rfl := ak H;exact And.intro rfl (Exists.intro _ (Exists.intro _ ⟨aF rfl (.refl _), aB [] rfl, rfl, rfl⟩))
     ·replace H := aY c25 H;refine cB ?_;exact Exists.intro () ⟨H, be [] (.nil _) rfl⟩
    rintro _ H;replace H : jI = some r3 := H
    unfold jI at H
    refine af <| af <| aa ?_;show AR _ _ _ _ _ [0] _;refine za rfl <| ag <| aG ?_;obtain rfl := ak H;exact And.intro rfl (Exists.intro _ (Exists.intro _ ⟨aF rfl (.refl _), aB [] rfl, rfl, rfl⟩))
set_option maxRecDepth 100000 in
set_option maxHeartbeats 1000000 in
theorem w_useSet (F : Nat) (a1 : Int) (r2 : Bool) (H : si F a1 = some r2) : ACalls Tryz.prog 97 [i64 a1] [] (Ret (B r2) []) := by
 unfold si at H
 refine ap Tryz.func97 rfl rfl ?_;show AW _ _ 5 _ _ _;refine af <| aa ?_;show AR _ _ _ _ _ [0] _;refine za rfl <| ag <| af <| aa ?_;show AR _ _ _ _ _ [0, 1, 2] _;refine zm rfl <| zS rfl (gp rfl rfl) <| za rfl <| ag <| aG ?_;obtain rfl := ak H;exact And.intro rfl (Exists.intro _ (Exists.intro _ ⟨aF rfl (.refl _), aB [] rfl, rfl, rfl⟩))
set_option maxRecDepth 100000 in
set_option maxHeartbeats 1000000 in
theorem yB (F : Nat) (a1 : List UInt8) (a2 : List UInt8) (r3 : Int) (H : nk F a1 a2 = some r3) : ACalls Tryz.prog 91 [S a1, S a2] [] (Ret (i64 r3) []) := by
 unfold nk at H
 refine ap Tryz.func91 rfl rfl ?_;show AW _ _ 55 _ _ _;refine af <| aa ?_;show AR _ _ _ _ _ [0] _;refine za rfl <| ag <| af <| af <| aa ?_;show AR _ _ _ _ _ [0, 1] _;refine zm rfl <| zS rfl (dr rfl rfl) <| ag <| ax rfl (fun c4 => ?_) (fun c4 => ?_)
 ·replace H := aX c4 H;refine af <| aa ?_;show AR _ _ _ _ _ [0] _;refine za rfl <| ag <| aG ?_;obtain rfl := ak H;exact And.intro rfl (Exists.intro _ (Exists.intro _ ⟨aF rfl (.refl _), aB [] rfl, rfl, rfl⟩))
 ·replace H := aY c4 H;refine aC <| af <| af <| aa ?_;show AR _ _ _ _ _ [0, 1, 2] _;refine zm rfl <| zS rfl (bt ai rfl) <| zS rfl (bJ rfl rfl) <| ag <| ax rfl (fun c5 => ?_) (fun c5 => ?_)
  ·replace H := aX c5 H;refine af ?_;obtain ⟨g6, H⟩ := aM H;obtain ⟨x7, e8, H⟩ := bM H;obtain ⟨g9, H⟩ := aM H;refine aa ?_;show AR _ _ _ _ _ [0, 1, 2, 3] _;refine zm rfl <| zS rfl (bo ai rfl rfl g6 e8) <| zS rfl (tH (by kernel_rfl) Tryz.underlying21 rfl g9) <| za rfl <| ag <| bL (X := Int) (fun y11 => ⟨[(0, S a1), (5, .v (.int .i32 y11))], [], []⟩) (fun y11 => iJ F a1 y11 = some r3) ?_ ?_
   ·refine af <| aa ?_;show AR _ _ _ _ _ [0, 1] _;refine zm rfl <| zS rfl (fB rfl rfl) <| ag <| ax rfl (fun c10 => ?_) (fun c10 => ?_)
    ·replace H := aX c10 H;refine aa ?_;show AR _ _ _ _ _ [0] _;refine za rfl <| ag ?_;exact Exists.intro 65533 ⟨H, be [] (.cons (.refl _) (.cons (.refl _) (.nil _))) rfl⟩
    ·replace H := aY c10 H;refine aC ?_;exact Exists.intro (x7.toNat : Int) ⟨H, be [] (.cons (.refl _) (.cons (.refl _) (.nil _))) rfl⟩
   rintro y11 H;replace H : iJ F a1 y11 = some r3 := H
   unfold iJ at H
   refine af ?_;obtain ⟨x13, e14, H⟩ := bW H;refine aa ?_;show AR _ _ _ _ _ [0, 1, 2, 3] _;refine zm rfl <| zm rfl <| am rfl rfl (aA rfl wH rfl (tk F a1 y11 x13 e14) ?_);refine za rfl <| ag <| aG ?_;obtain rfl := ak H;exact And.intro rfl (Exists.intro _ (Exists.intro _ ⟨aF rfl (.refl _), aB [] rfl, rfl, rfl⟩))
  ·replace H := aY c5 H;refine aC <| bL (X := Unit) (fun _ => ⟨[(0, S a1), (1, S a2)], [], []⟩) (fun _ => jJ F a1 a2 = some r3) ?_ ?_
   ·refine af ?_;obtain ⟨x15, e16, H⟩ := bW H;refine aa ?_;show AR _ _ _ _ _ [0, 1, 2] _;refine zm rfl <| zS rfl (bt ai rfl) <| am rfl rfl (aA rfl en97_any rfl (w_useSet F (a1.length : Int) x15 e16) ?_);refine ag ?_;obtain ⟨g18, H⟩ := aM H;replace g18 := fn g18;refine ax rfl (fun hx => bK hx g18) (fun _ => ?_);refine aC ?_;exact Exists.intro () ⟨H, be [] (.cons (.refl _) (.cons (.refl _) (.nil _))) rfl⟩
   rintro _ H;replace H : jJ F a1 a2 = some r3 := H
   unfold jJ at H
   refine bL (X := Unit) (fun _ => ⟨[], [], []⟩) (fun _ => jK = some r3) ?_ ?_
   ·refine af <| aa ?_;show AR _ _ _ _ _ [0, 1] _;refine zm rfl <| zX rfl (oH ai rfl) ?_;rintro _ _ ⟨o20, rfl, rfl⟩;refine ag <| aU <| dk (X := Nat × Nat) (fun (n23, y21) => ⟨[(1, S a2), (45, .pt o20 0)], [], [.iter o20 a1 y21]⟩) (fun (n23, y21) => iK F a1 a2 n23 y21 = some r3) (fun (n23, y21) => n23) (F, 0) H (be [0] (.cons (.refl _) (.cons (.refl _) (.nil _))) rfl) ?_;rintro ⟨n23, y21⟩ H;obtain ⟨n23, rfl, H⟩ := fC H;replace H : iM F a1 a2 (iK F a1 a2 n23) y21 = some r3 := H
    unfold iM at H
    refine af ?_
    rcases aj (decide (y21 < a1.length)) with c24 | c24
    ·replace H := aX c24 H;refine aa ?_;show AR _ _ _ _ _ [0, 1] _;refine zR rfl (wC (i := 0) rfl rfl c24) <| zS rfl (az (av := .v _) rfl rfl) <| ag <| af <| ax rfl (fun _ => ?_) (fun hx => bK rfl hx);refine aC <| aU <| af <| aa ?_;show AR _ _ _ _ _ [0, 1, 2, 3] _;refine zS rfl (az (av := .v _) rfl rfl) <| zS rfl (az (av := .v _) rfl rfl) <| za rfl <| za rfl <| ag <| af ?_;obtain ⟨x25, e26, H⟩ := bW H;refine aa ?_;show AR _ _ _ _ _ [0, 1, 2, 3] _;refine zm rfl <| zm rfl <| am rfl rfl (aA rfl wH rfl (tk F a2 ((nq a1 y21).1 : Int) x25 e26) ?_);refine zS rfl (fB rfl rfl) <| ag <| ax rfl (fun c27 => ?_) (fun c27 => ?_)
     ·replace H := aX c27 H;refine af <| aa ?_;show AR _ _ _ _ _ [0, 1] _;refine zm rfl <| za rfl <| ag <| aG ?_;obtain rfl := ak H;exact And.intro rfl (Exists.intro _ (Exists.intro _ ⟨aF rfl (.refl _), aB [] rfl, rfl, rfl⟩))
     ·replace H := aY c27 H;refine aC ?_;exact Exists.intro (n23, y21 + (nq a1 y21).2) ⟨H, Nat.lt_succ_self _, be [0] (.cons (.refl _) (.cons (.refl _) (.nil _))) rfl⟩
    ·replace H := aY c24 H;refine aa ?_;show AR _ _ _ _ _ [0, 1] _;refine zR rfl (wD (i := 0) rfl rfl c24) <| zS rfl (az (av := .v _) rfl rfl) <| ag <| af <| ax rfl (fun hx => bK hx rfl) (fun _ => ?_);refine cB ?_;exact Exists.intro () ⟨H, be [] (.nil _) rfl⟩
   rintro _ H;replace H : jK = some r3 := H
   unfold jK at H
   refine af <| aa ?_;show AR _ _ _ _ _ [0] _;refine za rfl <| ag <| aG ?_;obtain rfl := ak H;exact And.intro rfl (Exists.intro _ (Exists.intro _ ⟨aF rfl (.refl _), aB [] rfl, rfl, rfl⟩))
theorem pv (F : Nat) (s chars : List UInt8) (x : Int) (h1 : jf chars = true) (h2 : okS s.length = true) (h3 : okS chars.length = true) (H : mi F s chars = some x) : ACalls Tryz.prog 91 [S s, S chars] [] (Ret (i64 x) []) := by
 unfold mi at H
 cases hb : (decide (8 < s.length) && decide (2 ≤ chars.length)) with
 | true =>
  rw [hb] at H
  obtain rfl := ak H
  simp only [Bool.and_eq_true, decide_eq_true_eq] at hb
  refine ga fun I A w vs hI hv => ?_
  obtain ⟨v1, r1, rfl, e1, hv⟩ := hv.out_cons;obtain ⟨v2, r2, rfl, e2, hv⟩ := hv.out_cons
  rw [hv.out_nil, kG e1, kG e2]
  refine (Tryz.strings_IndexAny_long (fun _ => by kernel_rfl) ⟨s.toArray⟩ ⟨chars.toArray⟩ w (by simpa [ByteArray.size] using hb.2) (by simpa [ByteArray.size] using hb.1) (by simpa [ByteArray.size] using nb h2) (by simpa [ByteArray.size] using nb h3) (fun j b hj => sh h1 j b (by simpa using hj))).mono fun e w' ⟨he, hw⟩ => ⟨by simpa using he, ?_⟩
  subst hw;exact ((Below.refl _ _).alloc (Nat.le_refl _) _).alloc (by simp) _
 | false => rw [hb] at H; exact yB F s chars x H
set_option maxRecDepth 100000 in
set_option maxHeartbeats 1000000 in
theorem sE (F : Nat) (a1 : List UInt8) (a2 : List UInt8) (r3 : Bool) (H : gI F a1 a2 = some r3) : ACalls Tryz.prog 102 [S a1, S a2] [] (Ret (B r3) []) := by
 unfold gI at H
 refine ap Tryz.func102 rfl rfl ?_;show AW _ _ 9 _ _ _;refine af <| aa ?_;show AR _ _ _ _ _ [0] _;refine za rfl <| ag <| af ?_;obtain ⟨g4, H⟩ := aM H;obtain ⟨g5, H⟩ := aM H;obtain ⟨g6, H⟩ := aM H;obtain ⟨x7, e8, H⟩ := bW H;refine aa ?_;show AR _ _ _ _ _ [0, 1, 2, 3, 4] _;refine zm rfl <| zm rfl <| am rfl rfl (aA rfl en91_any rfl (pv F a1 a2 x7 g4 g5 g6 e8) ?_);refine zS rfl (fB rfl rfl) <| za rfl <| ag <| aG ?_;obtain rfl := ak H;exact And.intro rfl (Exists.intro _ (Exists.intro _ ⟨aF rfl (.refl _), aB [] rfl, rfl, rfl⟩))
end Go.Proofs.YtkbfjepffpddfaaGreatDoor
namespace Go.Pv
def jv (F : Nat) (a1 : Int) : Option ((List UInt8) × Bool) :=
lE (!(((decide (a1 = 9)) || (decide (a1 = 10))) || (decide (a1 = 13)))) (ml F a1 32 55295) fun x7 =>
lE ((!(((decide (a1 = 9)) || (decide (a1 = 10))) || (decide (a1 = 13)))) && (!x7)) (ml F a1 57344 65533) fun x10 =>
lE (((!(((decide (a1 = 9)) || (decide (a1 = 10))) || (decide (a1 = 13)))) && (!x7)) && (!x10)) (ml F a1 65536 1114111) fun x13 =>
bif (((!(((decide (a1 = 9)) || (decide (a1 = 10))) || (decide (a1 = 13)))) && (!x7)) && (!x10)) && (!x13) then
  some (([] : List UInt8), false)
else
  grd (okJ a1) <|
  lt (cG a1) fun x17 =>
  some (x17, true)
def kW (F : Nat) : Option ((List (List UInt8 × Int))) :=
some ([(([97, 109, 112] : List UInt8), 38), (([108, 116] : List UInt8), 60), (([103, 116] : List UInt8), 62), (([113, 117, 111, 116] : List UInt8), 34), (([97, 112, 111, 115] : List UInt8), 39)] : List (List UInt8 × Int))
def dT (F : Nat) (a1 : List UInt8) (a2 : Int) : Option ((List UInt8) × Bool) :=
fv (!(decide (a1 = ([] : List UInt8)))) (dq 0 a1.length) <|
lt (at_ a1 0) fun x7 =>
fv (!((decide (a1 = ([] : List UInt8))) || (decide (x7 = 43)))) (dq 0 a1.length) <|
lt (at_ a1 0) fun x11 =>
fv (!(((decide (a1 = ([] : List UInt8))) || (decide (x7 = 43))) || (decide (x11 = 45)))) (dq 0 a1.length) <|
lt (at_ a1 0) fun x15 =>
lE (!((((decide (a1 = ([] : List UInt8))) || (decide (x7 = 43))) || (decide (x11 = 45))) || (decide (x15 = 95)))) (gI F a1 ([95] : List UInt8)) fun x18 =>
bif ((((decide (a1 = ([] : List UInt8))) || (decide (x7 = 43))) || (decide (x11 = 45))) || (decide (x15 = 95))) || x18 then
  some (([] : List UInt8), false)
else
  fy (dp F a1 a2 0) fun x21 x22 =>
  bif !decide (x22 = 0) then
    some (([] : List UInt8), false)
  else
    fy (jv F x21) fun x25 x26 =>
    some (x25, x26)
def iA (F : Nat) (a1 : List UInt8) : Option ((List UInt8) × Bool) :=
bnd (kW F) fun x4 =>
bif Go.Av.mhas x4 a1 then
  lt (cG (Go.Av.mget x4 a1)) fun x7 =>
  some (x7, true)
else
  lt (Go.Lib.trimPrefix a1 ([35, 120] : List UInt8), Go.Lib.hasPrefix a1 ([35, 120] : List UInt8)) fun x9 =>
  bif x9.2 then
    fy (dT F x9.1 16) fun x12 x13 =>
    some (x12, x13)
  else
    lt (Go.Lib.trimPrefix a1 ([35] : List UInt8), Go.Lib.hasPrefix a1 ([35] : List UInt8)) fun x15 =>
    bif x15.2 then
      fy (dT F x15.1 10) fun x18 x19 =>
      some (x18, x19)
    else
      some (([] : List UInt8), false)
def jO (F : Nat) (a1 : List UInt8) : Option ((List UInt8) × Int) :=
grd (kF 1 a1.length) <|
lt (cV a1 1) fun x5 =>
grd (jf ([38, 59] : List UInt8)) <|
grd (okS x5.length) <|
grd (okS ([38, 59] : List UInt8).length) <|
bnd (mi F x5 ([38, 59] : List UInt8)) fun x10 =>
bnd (ml F x10 1 10) fun x12 =>
fv (!(!x12)) (okI (x10 + 1)) <|
fv (!(!x12)) (dq (x10 + 1) a1.length) <|
lt (at_ a1 (x10 + 1)) fun x17 =>
bif (!x12) || (decide (x17 = 38)) then
  some (([] : List UInt8), 0)
else
  grd (okI (x10 + 1)) <|
  grd (re 1 (x10 + 1) a1.length) <|
  lt (sub a1 1 (x10 + 1)) fun x22 =>
  fy (iA F x22) fun x24 x25 =>
  bif !x25 then
    some (([] : List UInt8), 0)
  else
    grd (okI (x10 + 2)) <|
    some (x24, x10 + 2)
def gD (rec11 : ((List UInt8) × Bool × (List UInt8)) → Option ((List UInt8) × Bool)) (x25 : List UInt8) (x29 : List UInt8) (y35 : Bool) (y36 : List UInt8) (y37 : Int) : Option ((List UInt8) × Bool) :=
grd (okW x25 y36) <|
lt (x25 ++ y36) fun x40 =>
grd (kF y37 x29.length) <|
lt (cV x29 y37) fun x44 =>
rec11 (x44, y35, x40)
def gE (F : Nat) (rec11 : ((List UInt8) × Bool × (List UInt8)) → Option ((List UInt8) × Bool)) (y6 : List UInt8) (y7 : Bool) (y9 : List UInt8) : Option ((List UInt8) × Bool) :=
lt (Go.Lib.indexByte y6 38) fun x13 =>
bif decide (x13 < 0) then
  grd (okW y9 y6) <|
  lt (y9 ++ y6) fun x17 =>
  grd (okW x17 []) <|
  some (x17, y7)
else
  grd (kF x13 y6.length) <|
  lt (to_ y6 x13) fun x22 =>
  grd (okW y9 x22) <|
  lt (y9 ++ x22) fun x25 =>
  grd (kF x13 y6.length) <|
  lt (cV y6 x13) fun x29 =>
  fy (jO F x29) fun x31 x32 =>
  bif decide (x32 = 0) then
    gD rec11 x25 x29 false ([38] : List UInt8) 1
  else
    gD rec11 x25 x29 y7 x31 x32
def eT (F : Nat) (n : Nat) : ((List UInt8) × Bool × (List UInt8)) → Option ((List UInt8) × Bool) :=
  loop (fun rec x => gE F rec x.1 x.2.1 x.2.2) n
def nT (F : Nat) (a1 : List UInt8) : Option ((List UInt8) × Bool) :=
eT F F (a1, true, [])
def lm (F : Nat) (a1 : List UInt8) : Option ((List UInt8) × Int) :=
fy (nT F a1) fun x4 x5 =>
bif !x5 then
  some (([] : List UInt8), 2)
else
  some (x4, 0)
end Go.Pv
