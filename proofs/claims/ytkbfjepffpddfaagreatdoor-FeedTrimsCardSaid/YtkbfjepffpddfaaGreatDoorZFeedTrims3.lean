/-
  Texts in one (only what FeedTrims needs): EntAW, XmlBP, XmlBW, FdAP, FdAW, CivP, CivW, StpP, StpW, NumP, NumW, AnyP, AnyW, EntBP.
-/
import Derived.Test.YtkbfjepffpddfaaGreatDoorZFeedTrims2
import Derived.Test.YtkbfjepffpddfaaGreatDoorShelf
import Derived.Lib.ItoaNum
import Derived.Lib.IndexLaws
import Derived.Test.YtkbfjepffpddfaaGreatDoorChecked
import Derived.Lib.IndexAny
import Derived.Below
set_option linter.unusedVariables false
set_option linter.unusedSimpArgs false
set_option linter.unusedSectionVars false
namespace Go.Proofs.YtkbfjepffpddfaaGreatDoor
open Go.RowKit Go.Av Go.Pv
theorem ym : ∀ (args : Array Value) (w : World), (callFunc 29 args).run Tryz.prog w = .ok (.enter 29 args) w := fun _ _ => by kernel_rfl
theorem yk : ∀ (args : Array Value) (w : World), (callFunc 30 args).run Tryz.prog w = .ok (.enter 30 args) w := fun _ _ => by kernel_rfl
theorem yj : ∀ (args : Array Value) (w : World), (callFunc 44 args).run Tryz.prog w = .ok (.enter 44 args) w := fun _ _ => by kernel_rfl
set_option maxRecDepth 100000 in
set_option maxHeartbeats 1000000 in
theorem uQ (F : Nat) (a1 : UInt8) (r2 : Bool) (H : mf F a1 = some r2) : ACalls Tryz.prog 29 [u8 a1] [] (Ret (B r2) []) := by
 unfold mf at H
 refine ap Tryz.func29 rfl rfl ?_;show AW _ _ 6 _ _ _;refine af <| aa ?_;show AR _ _ _ _ _ [0] _;refine za rfl <| ag <| af ?_;obtain ⟨x3, e4, H⟩ := bR H;refine aa ?_;show AR _ _ _ _ _ [0, 1, 2, 3] _;refine zm rfl <| am rfl rfl (aC rfl yj rfl (show ACalls _ _ _ [] (Ret (i64 x3) []) from by subst e4; exact eS ([9, 10, 13, 32] : List UInt8) a1) ?_);refine zS rfl (fv rfl rfl) <| za rfl <| ag <| aI ?_;obtain rfl := ak H;exact And.intro rfl (Exists.intro _ (Exists.intro _ ⟨aG rfl (.refl _), aB [] rfl, rfl, rfl⟩))
abbrev _root_.Go.Av.al := @Bool.eq_false_or_eq_true
set_option maxRecDepth 100000 in
set_option maxHeartbeats 1000000 in
theorem oy (F : Nat) (a1 : List UInt8) (r2 : List UInt8) (H : mi F a1 = some r2) : ACalls Tryz.prog 18 [S a1] [] (Ret (S r2) []) := by
 unfold mi at H
 refine ap Tryz.func18 rfl rfl ?_;show AW _ _ 46 _ _ _;refine af <| aa ?_;show AR _ _ _ _ _ [0] _;refine za rfl <| ag <| af <| aa ?_;show AR _ _ _ _ _ [0] _;refine za rfl <| ag ?_
 refine pf 3 1 9 rfl fun t3 => ?_
 show AW _ _ _ _ _ ⟨(3, slE Enc.str [] (some t3)) :: _, _, _⟩;refine af <| aa ?_;show AR _ _ _ _ _ [0] _;refine za rfl <| ag <| bJ (X := (List (List UInt8)) × Nat) (fun (y33, t34) => ⟨[(3, slE Enc.str y33 (some t34))], [], [.tok t34 9]⟩) (fun (y33, t34) => jT y33 = some r2) ?_ ?_
 ·refine af <| aa ?_;show AR _ _ _ _ _ [0] _;refine za rfl <| ag <| aR <| de (X := Nat × (List (List UInt8)) × Nat × Int × Int) (fun (n9, y4, t5, y6, y7) => ⟨[(0, S a1), (3, slE Enc.str y4 (some t5)), (4, i64 y6), (5, i64 y7)], [], [.tok t5 9]⟩) (fun (n9, y4, t5, y6, y7) => ed F a1 n9 (y4, y6, y7) = some r2) (fun (n9, y4, t5, y6, y7) => n9) (F, [], t3, (-1), 0) H (bb [0] (.cons (.refl _) (.cons (.refl _) (.cons (.refl _) (.cons (.refl _) (.nil _))))) rfl) ?_;rintro ⟨n9, y4, t5, y6, y7⟩ H;obtain ⟨n9, rfl, H⟩ := eX H;replace H : gw F a1 (ed F a1 n9) y4 y6 y7 = some r2 := H
  unfold gw at H
  refine af <| af <| aa ?_;show AR _ _ _ _ _ [0, 1, 2, 3] _;refine zm rfl <| zm rfl <| zS rfl (bw ai rfl) <| zS rfl (gh rfl rfl) <| ag <| ax rfl (fun c10 => ?_) (fun c10 => ?_)
  ·replace H := aW c10 H;refine aA <| bJ (X := (List (List UInt8)) × Nat × Int) (fun (y28, t29, y30) => ⟨[(0, S a1), (3, slE Enc.str y28 (some t29)), (4, i64 y30), (5, i64 y7)], [], [.tok t29 9]⟩) (fun (y28, t29, y30) => gu y7 (ed F a1 n9) y28 y30 = some r2) ?_ ?_
   ·refine aR <| af ?_;obtain ⟨g12, H⟩ := cQ H;obtain ⟨x13, e14, H⟩ := bR H;obtain ⟨x15, e16, H⟩ := eY H;refine aa ?_;show AR _ _ _ _ _ [0, 1, 2, 3, 4, 5, 6, 7, 8, 9, 10] _;refine zm rfl <| zm rfl <| zS rfl (bw ai rfl) <| zS rfl (bK rfl rfl) <| zm rfl <| aY (l := [10]) 22 (B ((decide (y7 = (a1.length : Int))) || x15)) (fun K => ?_) ?_
    ·rcases al (decide (y7 = (a1.length : Int))) with h11 | h11
     ·refine zF h11 rfl <| zF h11 rfl <| zF h11 rfl <| zF h11 rfl <| zS rfl (aD (av := .v _) rfl h11 rfl) ?_;exact K _ 4 _ (ay (iQ h11)) rfl rfl
     ·refine zM h11 rfl <| zM h11 rfl <| zU h11 rfl (bp ai rfl rfl (g12 (nf h11)) e14) <| zT h11 rfl (aC rfl ym rfl (uQ F x13 x15 (e16 (nf h11))) ?_);refine zS rfl (aE (av := .v _) rfl h11 rfl) ?_;exact K _ 4 _ (ay (iR h11)) rfl rfl
    refine za rfl <| ag <| aR <| af <| aa ?_;show AR _ _ _ _ _ [0, 1, 2, 3, 4, 5, 6] _;refine zm rfl <| zS rfl (bG rfl) <| zm rfl <| aY (l := [6]) 29 (B ((!((decide (y7 = (a1.length : Int))) || x15)) && (decide (y6 < 0)))) (fun K => ?_) ?_
    ·rcases al (!((decide (y7 = (a1.length : Int))) || x15)) with h17 | h17
     ·refine zM h17 rfl <| zU h17 rfl (bX rfl rfl) <| zS rfl (aD (av := .v _) rfl h17 rfl) ?_;exact K _ 2 _ (ay (cz h17)) rfl rfl
     ·refine zF h17 rfl <| zF h17 rfl <| zS rfl (aE (av := .v _) rfl h17 rfl) ?_;exact K _ 2 _ (ay (cA h17)) rfl rfl
    refine za rfl <| ag <| ax rfl (fun c18 => ?_) (fun c18 => ?_)
    ·replace H := aW c18 H;refine aa ?_;show AR _ _ _ _ _ [0, 1] _;refine zm rfl <| za rfl <| ag ?_;exact Exists.intro (y4, t5, y7) ⟨H, bb [0] (.cons (.refl _) (.cons (.refl _) (.cons (.refl _) (.cons (.refl _) (.nil _))))) rfl⟩
    ·replace H := aX c18 H;refine af <| aa ?_;show AR _ _ _ _ _ [0, 1, 2, 3, 4, 5] _;refine zm rfl <| zm rfl <| aY (l := [5]) 36 (B (((decide (y7 = (a1.length : Int))) || x15) && (decide (0 ≤ y6)))) (fun K => ?_) ?_
     ·rcases al ((decide (y7 = (a1.length : Int))) || x15) with h19 | h19
      ·refine zM h19 rfl <| zU h19 rfl (fv rfl rfl) <| zS rfl (aD (av := .v _) rfl h19 rfl) ?_;exact K _ 2 _ (ay (cz h19)) rfl rfl
      ·refine zF h19 rfl <| zF h19 rfl <| zS rfl (aE (av := .v _) rfl h19 rfl) ?_;exact K _ 2 _ (ay (cA h19)) rfl rfl
     refine za rfl <| ag <| ax rfl (fun c20 => ?_) (fun c20 => ?_)
     ·replace H := aW c20 H;obtain ⟨g21, H⟩ := aN H;obtain ⟨x22, e23, H⟩ := bR H;obtain ⟨g25, H⟩ := aN H;obtain ⟨x26, e27, H⟩ := bR H;refine aa ?_;show AR _ _ _ _ _ [0, 1, 2, 3, 4, 5, 6, 7, 8] _;refine zS rfl (ah (av := slE _ _ _) rfl) <| zm rfl <| zm rfl <| zm rfl <| zS rfl (qj ai rfl rfl rfl g21 e23) <| zR rfl (cE (E := Enc.str) (bytes := 16) (xs := [.tmp 41]) (l := ([x22] : List (List UInt8))) au (by kernel_rfl) rfl rfl (by decide) rfl rfl) <| zX rfl (ip (E := Enc.str) (bytes := 16) 0 au au rfl (by kernel_rfl) rfl rfl rfl rfl g25 e27) ?_;rintro _ _ ⟨t24, rfl, rfl⟩;refine zS rfl (aJ (av := slE _ _ _) rfl) <| za rfl <| ag ?_;exact Exists.intro (x26, t24, (-1)) ⟨H, bb [0] (.cons (.refl _) (.cons (.refl _) (.cons (.refl _) (.cons (.refl _) (.nil _))))) rfl⟩
     ·replace H := aX c20 H;refine aA ?_;exact Exists.intro (y4, t5, y6) ⟨H, bb [0] (.cons (.refl _) (.cons (.refl _) (.cons (.refl _) (.cons (.refl _) (.nil _))))) rfl⟩
   rintro ⟨y28, t29, y30⟩ H;replace H : gu y7 (ed F a1 n9) y28 y30 = some r2 := H
   unfold gu at H
   obtain ⟨g32, H⟩ := aN H;refine aa ?_;show AR _ _ _ _ _ [0, 1, 2] _;refine zm rfl <| zS rfl (cX rfl rfl g32) <| za rfl <| ag ?_;exact Exists.intro (n9, y28, t29, y30, y7 + 1) ⟨H, Nat.lt_succ_self _, bb [0] (.cons (.refl _) (.cons (.refl _) (.cons (.refl _) (.cons (.refl _) (.nil _))))) rfl⟩
  ·replace H := aX c10 H;refine cw ?_;exact Exists.intro (y4, t5) ⟨H, bb [0] (.cons (.refl _) (.nil _)) rfl⟩
 rintro ⟨y33, t34⟩ H;replace H : jT y33 = some r2 := H
 unfold jT at H
 refine af ?_;obtain ⟨g36, H⟩ := aN H;obtain ⟨x37, e38, H⟩ := bR H;refine aa ?_;show AR _ _ _ _ _ [0, 1, 2] _;refine zS rfl (ah (av := slE _ _ _) rfl) <| am rfl rfl (aC rfl yk rfl (show ACalls _ _ _ [] (Ret (S x37) []) from by subst e38; exact oX y33 ([32] : List UInt8) (some t34) (pn g36).1 (pn g36).2) ?_);refine za rfl <| ag <| aI ?_;obtain rfl := ak H;exact And.intro rfl (Exists.intro _ (Exists.intro _ ⟨aG rfl (.refl _), aB [] rfl, rfl, rfl⟩))
set_option maxRecDepth 100000 in
set_option maxHeartbeats 1000000 in
theorem pj (F : Nat) (a1 : Int) (a2 : Int) (a3 : Int) (r4 : Bool) (H : lW F a1 a2 a3 = some r4) : ACalls Tryz.prog 92 [i64 a1, i64 a2, i64 a3] [] (Ret (B r4) []) := by
 unfold lW at H
 refine ap Tryz.func92 rfl rfl ?_;show AW _ _ 15 _ _ _;refine af <| aa ?_;show AR _ _ _ _ _ [0] _;refine za rfl <| ag <| af <| aa ?_;show AR _ _ _ _ _ [0, 1, 2, 3, 4, 5, 6, 7, 8] _;refine zm rfl <| zm rfl <| zS rfl (fv rfl rfl) <| zm rfl <| aY (l := [8]) 14 (B ((decide (a2 ≤ a1)) && (decide (a1 ≤ a3)))) (fun K => ?_) ?_
 ·rcases al (decide (a2 ≤ a1)) with h5 | h5
  ·refine zM h5 rfl <| zM h5 rfl <| zU h5 rfl (gh rfl rfl) <| zS rfl (aD (av := .v _) rfl h5 rfl) ?_;exact K _ 3 _ (ay (cz h5)) rfl rfl
  ·refine zF h5 rfl <| zF h5 rfl <| zF h5 rfl <| zS rfl (aE (av := .v _) rfl h5 rfl) ?_;exact K _ 3 _ (ay (cA h5)) rfl rfl
 refine za rfl <| ag <| aI ?_;obtain rfl := ak H;exact And.intro rfl (Exists.intro _ (Exists.intro _ ⟨aG rfl (.refl _), aB [] rfl, rfl, rfl⟩))
end Go.Proofs.YtkbfjepffpddfaaGreatDoor
namespace Go.Pv
def jE : Option Int :=
some (-1)
def gR (a1 : List UInt8) (a2 : UInt8) (rec6 : Int → Option Int) (y5 : Int) : Option Int :=
bif decide (0 ≤ y5) then
  grd (dr y5 a1.length) <|
  lt (at_ a1 y5) fun x10 =>
  bif decide (x10 = a2) then
    some y5
  else
    grd (okI (y5 - 1)) <|
    rec6 (y5 - 1)
else
  jE
def gQ (a1 : List UInt8) (a2 : UInt8) (n : Nat) : Int → Option Int :=
  loop (fun rec x => gR a1 a2 rec x) n
def mq (F : Nat) (a1 : List UInt8) (a2 : UInt8) : Option Int :=
grd (okI ((a1.length : Int) - 1)) <|
gQ a1 a2 F ((a1.length : Int) - 1)
def gz (F : Nat) (a1 : List UInt8) (a2 : UInt8) : Option Int :=
bnd (mq F a1 a2) fun x4 =>
some x4
def nn (F : Nat) (a1 : List UInt8) : Option ((List UInt8)) :=
bnd (gz F a1 58) fun x3 =>
grd (okI (x3 + 1)) <|
grd (kj (x3 + 1) a1.length) <|
lt (cY a1 (x3 + 1)) fun x7 =>
some x7
end Go.Pv
namespace Go.Proofs.YtkbfjepffpddfaaGreatDoor
open Go.RowKit Go.Av Go.Pv
theorem yg : ∀ (args : Array Value) (w : World), (callFunc 57 args).run Tryz.prog w = .ok (.enter 57 args) w := fun _ _ => by kernel_rfl
theorem ya : ∀ (args : Array Value) (w : World), (callFunc 67 args).run Tryz.prog w = .ok (.enter 67 args) w := fun _ _ => by kernel_rfl
set_option maxRecDepth 100000 in
set_option maxHeartbeats 1000000 in
theorem tR (F : Nat) (a1 : List UInt8) (a2 : UInt8) (r3 : Int) (H : mq F a1 a2 = some r3) : ACalls Tryz.prog 67 [S a1, u8 a2] [] (Ret (i64 r3) []) := by
 unfold mq at H
 refine ap Tryz.func67 rfl rfl ?_;show AW _ _ 19 _ _ _;refine af <| aa ?_;show AR _ _ _ _ _ [0] _;refine za rfl <| ag <| bJ (X := Unit) (fun _ => ⟨[], [], []⟩) (fun _ => jE = some r3) ?_ ?_
 ·refine af ?_;obtain ⟨g4, H⟩ := aN H;refine aa ?_;show AR _ _ _ _ _ [0, 1, 2, 3] _;refine zm rfl <| zS rfl (bw ai rfl) <| zS rfl (lw rfl rfl g4) <| za rfl <| ag <| aR <| de (X := Nat × Int) (fun (n7, y5) => ⟨[(0, S a1), (1, u8 a2), (5, i64 y5)], [], []⟩) (fun (n7, y5) => gQ a1 a2 n7 y5 = some r3) (fun (n7, y5) => n7) (F, (a1.length : Int) - 1) H (bb [] (.cons (.refl _) (.cons (.refl _) (.cons (.refl _) (.nil _)))) rfl) ?_;rintro ⟨n7, y5⟩ H;obtain ⟨n7, rfl, H⟩ := eX H;replace H : gR a1 a2 (gQ a1 a2 n7) y5 = some r3 := H
  unfold gR at H
  refine af <| af <| aa ?_;show AR _ _ _ _ _ [0, 1] _;refine zm rfl <| zS rfl (fv rfl rfl) <| ag <| ax rfl (fun c8 => ?_) (fun c8 => ?_)
  ·replace H := aW c8 H;refine aA <| af <| aR <| af ?_;obtain ⟨g9, H⟩ := aN H;obtain ⟨x10, e11, H⟩ := bR H;refine aa ?_;show AR _ _ _ _ _ [0, 1, 2, 3, 4] _;refine zm rfl <| zm rfl <| zS rfl (bp ai rfl rfl g9 e11) <| zm rfl <| zS rfl (gK (a := x10) (b := a2) rfl rfl) <| ag <| ax rfl (fun c12 => ?_) (fun c12 => ?_)
   ·replace H := aW c12 H;refine af <| aa ?_;show AR _ _ _ _ _ [0, 1] _;refine zm rfl <| za rfl <| ag <| aI ?_;obtain rfl := ak H;exact And.intro rfl (Exists.intro _ (Exists.intro _ ⟨aG rfl (.refl _), aB [] rfl, rfl, rfl⟩))
   ·replace H := aX c12 H;refine aA ?_;obtain ⟨g13, H⟩ := aN H;refine aa ?_;show AR _ _ _ _ _ [0, 1, 2] _;refine zm rfl <| zS rfl (lw rfl rfl g13) <| za rfl <| ag ?_;exact Exists.intro (n7, y5 - 1) ⟨H, Nat.lt_succ_self _, bb [] (.cons (.refl _) (.cons (.refl _) (.cons (.refl _) (.nil _)))) rfl⟩
  ·replace H := aX c8 H;refine cw ?_;exact Exists.intro () ⟨H, bb [] (.nil _) rfl⟩
 rintro _ H;replace H : jE = some r3 := H
 unfold jE at H
 refine af <| aa ?_;show AR _ _ _ _ _ [0] _;refine za rfl <| ag <| aI ?_;obtain rfl := ak H;exact And.intro rfl (Exists.intro _ (Exists.intro _ ⟨aG rfl (.refl _), aB [] rfl, rfl, rfl⟩))
set_option maxRecDepth 100000 in
set_option maxHeartbeats 1000000 in
theorem ot (F : Nat) (a1 : List UInt8) (a2 : UInt8) (r3 : Int) (H : gz F a1 a2 = some r3) : ACalls Tryz.prog 57 [S a1, u8 a2] [] (Ret (i64 r3) []) := by
 unfold gz at H
 refine ap Tryz.func57 rfl rfl ?_;show AW _ _ 8 _ _ _;refine af <| aa ?_;show AR _ _ _ _ _ [0] _;refine za rfl <| ag <| af ?_;obtain ⟨x4, e5, H⟩ := cd H;refine aa ?_;show AR _ _ _ _ _ [0, 1, 2, 3] _;refine zm rfl <| zm rfl <| am rfl rfl (aC rfl ya rfl (tR F a1 a2 x4 e5) ?_);refine za rfl <| ag <| aI ?_;obtain rfl := ak H;exact And.intro rfl (Exists.intro _ (Exists.intro _ ⟨aG rfl (.refl _), aB [] rfl, rfl, rfl⟩))
set_option maxRecDepth 100000 in
set_option maxHeartbeats 1000000 in
theorem vX (F : Nat) (a1 : List UInt8) (r2 : List UInt8) (H : nn F a1 = some r2) : ACalls Tryz.prog 42 [S a1] [] (Ret (S r2) []) := by
 unfold nn at H
 refine ap Tryz.func42 rfl rfl ?_;show AW _ _ 8 _ _ _;refine af <| aa ?_;show AR _ _ _ _ _ [0] _;refine za rfl <| ag <| af ?_;obtain ⟨x3, e4, H⟩ := cd H;obtain ⟨g5, H⟩ := aN H;obtain ⟨g6, H⟩ := aN H;obtain ⟨x7, e8, H⟩ := bR H;refine aa ?_;show AR _ _ _ _ _ [0, 1, 2, 3, 4, 5] _;refine zm rfl <| zm rfl <| am rfl rfl (aC rfl yg rfl (ot F a1 58 x3 e4) ?_);refine zS rfl (cX rfl rfl g5) <| zS rfl (eD ai rfl rfl g6 e8) <| za rfl <| ag <| aI ?_;obtain rfl := ak H;exact And.intro rfl (Exists.intro _ (Exists.intro _ ⟨aG rfl (.refl _), aB [] rfl, rfl, rfl⟩))
end Go.Proofs.YtkbfjepffpddfaaGreatDoor
namespace Go.Pv
def gm (a1 : List (Int × (List UInt8) × (List UInt8) × List ((List UInt8) × List UInt8))) (y41 : List (List UInt8)) : Option Bool :=
some ((decide ((y41.length : Int) = 0)) && (decide (0 < (a1.length : Int))))
def dD (y7 : Int) (rec8 : ((List (List UInt8)) × Int) → Option Bool) (y37 : List (List UInt8)) : Option Bool :=
grd (okI (y7 + 1)) <|
rec8 (y37, y7 + 1)
def gn (a1 : List (Int × (List UInt8) × (List UInt8) × List ((List UInt8) × List UInt8))) (rec8 : ((List (List UInt8)) × Int) → Option Bool) (y6 : List (List UInt8)) (y7 : Int) : Option Bool :=
bif decide (y7 < (a1.length : Int)) then
  grd (dr y7 a1.length) <|
  lt (at_ a1 y7) fun x12 =>
  bif (decide (0 < y7)) && (decide ((y6.length : Int) = 0)) then
    some false
  else
    bif decide (x12.1 = 0) then
      grd (gJ (y6.length + ([x12.2.1] : List (List UInt8)).length)) <|
      lt (y6 ++ ([x12.2.1] : List (List UInt8))) fun x19 =>
      dD y7 rec8 x19
    else
      fq ((decide (x12.1 = 1)) && (decide (0 < (y6.length : Int)))) (okI ((y6.length : Int) - 1)) <|
      fq ((decide (x12.1 = 1)) && (decide (0 < (y6.length : Int)))) (dr ((y6.length : Int) - 1) y6.length) <|
      fq ((decide (x12.1 = 1)) && (decide (0 < (y6.length : Int)))) (dr ((y6.length : Int) - 1) y6.length) <|
      lt (at_ y6 ((y6.length : Int) - 1)) fun x27 =>
      bif ((decide (x12.1 = 1)) && (decide (0 < (y6.length : Int)))) && (decide (x27 = x12.2.1)) then
        grd (okI ((y6.length : Int) - 1)) <|
        grd (kj ((y6.length : Int) - 1) y6.length) <|
        lt (to_ y6 ((y6.length : Int) - 1)) fun x32 =>
        dD y7 rec8 x32
      else
        bif (!decide (x12.1 = 2)) || (decide ((y6.length : Int) = 0)) then
          some false
        else
          dD y7 rec8 y6
else
  gm a1 y6
def dE (a1 : List (Int × (List UInt8) × (List UInt8) × List ((List UInt8) × List UInt8))) (n : Nat) : ((List (List UInt8)) × Int) → Option Bool :=
  loop (fun rec x => gn a1 rec x.1 x.2) n
def jQ (F : Nat) (a1 : List (Int × (List UInt8) × (List UInt8) × List ((List UInt8) × List UInt8))) : Option Bool :=
dE a1 F (([] : List (List UInt8)), 0)
def hM (F : Nat) (y28 : List UInt8) : Option ((List UInt8)) :=
grd (okW y28 []) <|
bnd (mi F y28) fun x32 =>
some x32
def ge (y6 : Int) (rec10 : (Int × (List UInt8)) → Option ((List UInt8))) (y23 : List UInt8) : Option ((List UInt8)) :=
grd (okI (y6 + 1)) <|
rec10 (y6 + 1, y23)
def hO (F : Nat) (a1 : List (Int × (List UInt8) × (List UInt8) × List ((List UInt8) × List UInt8))) (rec10 : (Int × (List UInt8)) → Option ((List UInt8))) (y6 : Int) (y8 : List UInt8) : Option ((List UInt8)) :=
bif decide (y6 < (a1.length : Int)) then
  grd (dr y6 a1.length) <|
  lt (at_ a1 y6) fun x14 =>
  bif decide (x14.1 = 2) then
    grd (okW y8 x14.2.2.1) <|
    lt (y8 ++ x14.2.2.1) fun x19 =>
    ge y6 rec10 x19
  else
    ge y6 rec10 y8
else
  hM F y8
def eT (F : Nat) (a1 : List (Int × (List UInt8) × (List UInt8) × List ((List UInt8) × List UInt8))) (n : Nat) : (Int × (List UInt8)) → Option ((List UInt8)) :=
  loop (fun rec x => hO F a1 rec x.1 x.2) n
def gy (F : Nat) (a1 : List (Int × (List UInt8) × (List UInt8) × List ((List UInt8) × List UInt8))) : Option ((List UInt8)) :=
eT F a1 F (0, [])
def fe (F : Nat) (a1 : List (Int × (List UInt8) × (List UInt8) × List ((List UInt8) × List UInt8))) : Option ((List UInt8)) :=
grd (dr 0 a1.length) <|
lt (at_ a1 0) fun x5 =>
bnd (nn F x5.2.1) fun x7 =>
some x7
def kw : Option ((List UInt8) × Bool) :=
some (([] : List UInt8), false)
def jf (a3 : List UInt8) (x7 : Int × (List UInt8) × (List UInt8) × List ((List UInt8) × List UInt8)) (rec10 : Int → Option ((List UInt8) × Bool)) (y9 : Int) : Option ((List UInt8) × Bool) :=
bif decide (y9 < (x7.2.2.2.length : Int)) then
  grd (dr y9 x7.2.2.2.length) <|
  lt (at_ x7.2.2.2 y9) fun x14 =>
  bif decide (x14.1 = a3) then
    some (x14.2, true)
  else
    grd (okI (y9 + 1)) <|
    rec10 (y9 + 1)
else
  kw
def je (a3 : List UInt8) (x7 : Int × (List UInt8) × (List UInt8) × List ((List UInt8) × List UInt8)) (n : Nat) : Int → Option ((List UInt8) × Bool) :=
  loop (fun rec x => jf a3 x7 rec x) n
def kH (F : Nat) (a1 : List (Int × (List UInt8) × (List UInt8) × List ((List UInt8) × List UInt8))) (a3 : List UInt8) : Option ((List UInt8) × Bool) :=
grd (dr 0 a1.length) <|
lt (at_ a1 0) fun x7 =>
je a3 x7 F 0
def qS (F : Nat) (a1 : List (Int × (List UInt8) × (List UInt8) × List ((List UInt8) × List UInt8))) : Option ((Option Bool) × Bool) :=
bnd (fe F a1) fun x5 =>
bif decide (x5 = ([114, 115, 115] : List UInt8)) then
  some ((some true), true)
else
  bif decide (x5 = ([102, 101, 101, 100] : List UInt8)) then
    some ((some false), true)
  else
    some (none, false)
def cU {σ : Type} (y9 : Int) (rec12 : (Int × Int × Int × σ) → Option σ) (y25 : Int) (y26 : Int) (y27 : σ) : Option σ :=
grd (okI (y9 + 1)) <|
rec12 (y25, y26, y9 + 1, y27)
def gY {σ : Type} (a2 : List (Int × (List UInt8) × (List UInt8) × List ((List UInt8) × List UInt8))) (k : σ → (List (Int × (List UInt8) × (List UInt8) × List ((List UInt8) × List UInt8))) → Option (σ × Bool)) (rec12 : (Int × Int × Int × σ) → Option σ) (y7 : Int) (y8 : Int) (y9 : Int) (y10 : σ) : Option σ :=
bif decide (y9 < (a2.length : Int)) then
  grd (dr y9 a2.length) <|
  lt (at_ a2 y9) fun x16 =>
  bif decide (x16.1 = 0) then
    grd (okI (y7 + 1)) <|
    bif decide (y7 + 1 = 2) then
      cU y9 rec12 (y7 + 1) y9 y10
    else
      cU y9 rec12 (y7 + 1) y8 y10
  else
    bif decide (x16.1 = 1) then
      grd (okI (y7 - 1)) <|
      bif decide (y7 - 1 = 1) then
        grd (okI (y9 + 1)) <|
        grd (okI (y9 + 1)) <|
        grd (qE y8 (y9 + 1) a2.length) <|
        lt (sub a2 y8 (y9 + 1)) fun x28 =>
        ft (k y10 x28) fun x30 x31 =>
        bif !x31 then
          some x30
        else
          cU y9 rec12 (y7 - 1) y8 x30
      else
        cU y9 rec12 (y7 - 1) y8 y10
    else
      cU y9 rec12 y7 y8 y10
else
  some y10
def dY {σ : Type} (a2 : List (Int × (List UInt8) × (List UInt8) × List ((List UInt8) × List UInt8))) (k : σ → (List (Int × (List UInt8) × (List UInt8) × List ((List UInt8) × List UInt8))) → Option (σ × Bool)) (n : Nat) : (Int × Int × Int × σ) → Option σ :=
  loop (fun rec x => gY a2 k rec x.1 x.2.1 x.2.2.1 x.2.2.2) n
def fc (F : Nat) {σ : Type} (k : σ → (List (Int × (List UInt8) × (List UInt8) × List ((List UInt8) × List UInt8))) → Option (σ × Bool)) (st0 : σ) (a2 : List (Int × (List UInt8) × (List UInt8) × List ((List UInt8) × List UInt8))) : Option σ :=
dY a2 k F (0, 0, 0, st0)
def dG (F : Nat) (a1 : List (Int × (List UInt8) × (List UInt8) × List ((List UInt8) × List UInt8))) : Option Unit :=
some ()
def jP (F : Nat) (a1 : List (Int × (List UInt8) × (List UInt8) × List ((List UInt8) × List UInt8))) (a4 : List (List UInt8)) : Option Bool :=
grd (oI a4 ([124] : List UInt8)) <|
lt (Go.Av.Str.join ([124] : List UInt8) a4) fun x7 =>
grd (gJ (([124] : List UInt8).length + x7.length)) <|
lt (([124] : List UInt8) ++ x7) fun x10 =>
grd (gJ (x10.length + ([124] : List UInt8).length)) <|
lt (x10 ++ ([124] : List UInt8)) fun x13 =>
bnd (fe F a1) fun x15 =>
grd (gJ (([124] : List UInt8).length + x15.length)) <|
lt (([124] : List UInt8) ++ x15) fun x18 =>
grd (gJ (x18.length + ([124] : List UInt8).length)) <|
lt (x18 ++ ([124] : List UInt8)) fun x21 =>
grd (okS x13.length) <|
lt (Go.Lib.contains x13 x21) fun x24 =>
kz x24 (fe F a1) fun x27 =>
fq x24 (okS x27.length) <|
lt (Go.Lib.contains x27 ([124] : List UInt8)) fun x30 =>
some (x24 && (!x30))
def me (F : Nat) (a1 : List (Int × (List UInt8) × (List UInt8) × List ((List UInt8) × List UInt8))) : Option Bool :=
bnd (fe F a1) fun x4 =>
some (decide (x4 = ([99, 104, 97, 110, 110, 101, 108] : List UInt8)))
def jR (F : Nat) (a1 : List (Int × (List UInt8) × (List UInt8) × List ((List UInt8) × List UInt8))) : Option Bool :=
ft (kH F a1 ([114, 101, 108] : List UInt8)) fun x4 x5 =>
bnd (fe F a1) fun x7 =>
some ((decide (x7 = ([108, 105, 110, 107] : List UInt8))) && ((!x5) || (decide (x4 = ([97, 108, 116, 101, 114, 110, 97, 116, 101] : List UInt8)))))
def gZ (y25 : Bool) (y26 : List (Int × (List UInt8) × (List UInt8) × List ((List UInt8) × List UInt8))) : Option ((List (Int × (List UInt8) × (List UInt8) × List ((List UInt8) × List UInt8))) × Bool) :=
some (([] : List (Int × (List UInt8) × (List UInt8) × List ((List UInt8) × List UInt8))), false)
def gb (F : Nat) (a4 : List (List UInt8)) (y11 : Bool) (y12 : List (Int × (List UInt8) × (List UInt8) × List ((List UInt8) × List UInt8))) (z13 : Nat) (x15 : List (Int × (List UInt8) × (List UInt8) × List ((List UInt8) × List UInt8))) : Option ((Bool × (List (Int × (List UInt8) × (List UInt8) × List ((List UInt8) × List UInt8))) × Nat) × Bool) :=
grd (decide (z13 = 0)) <|
bnd (jP F x15 a4) fun x16 =>
bif x16 then
  some ((true, x15, 1), false)
else
  some ((y11, y12, 0), true)
def kU (F : Nat) (a1 : List (Int × (List UInt8) × (List UInt8) × List ((List UInt8) × List UInt8))) (a4 : List (List UInt8)) : Option ((List (Int × (List UInt8) × (List UInt8) × List ((List UInt8) × List UInt8))) × Bool) :=
bnd (dG F a1) fun _ =>
bnd (fc F (fun s x => gb F a4 s.1 s.2.1 s.2.2 x) (false, ([] : List (Int × (List UInt8) × (List UInt8) × List ((List UInt8) × List UInt8))), 0) a1) fun x20 =>
bif decide (x20.2.2 = 0) then
  gZ x20.1 x20.2.1
else
  bif decide (x20.2.2 = 1) then
    some (x20.2.1, x20.1)
  else
    none
def hC (y23 : Bool) (y24 : List (Int × (List UInt8) × (List UInt8) × List ((List UInt8) × List UInt8))) : Option ((List (Int × (List UInt8) × (List UInt8) × List ((List UInt8) × List UInt8))) × Bool) :=
some (([] : List (Int × (List UInt8) × (List UInt8) × List ((List UInt8) × List UInt8))), false)
def gc (F : Nat) (y9 : Bool) (y10 : List (Int × (List UInt8) × (List UInt8) × List ((List UInt8) × List UInt8))) (z11 : Nat) (x13 : List (Int × (List UInt8) × (List UInt8) × List ((List UInt8) × List UInt8))) : Option ((Bool × (List (Int × (List UInt8) × (List UInt8) × List ((List UInt8) × List UInt8))) × Nat) × Bool) :=
grd (decide (z11 = 0)) <|
bnd (me F x13) fun x14 =>
bif x14 then
  some ((true, x13, 1), false)
else
  some ((y9, y10, 0), true)
def kV (F : Nat) (a1 : List (Int × (List UInt8) × (List UInt8) × List ((List UInt8) × List UInt8))) : Option ((List (Int × (List UInt8) × (List UInt8) × List ((List UInt8) × List UInt8))) × Bool) :=
bnd (dG F a1) fun _ =>
bnd (fc F (fun s x => gc F s.1 s.2.1 s.2.2 x) (false, ([] : List (Int × (List UInt8) × (List UInt8) × List ((List UInt8) × List UInt8))), 0) a1) fun x18 =>
bif decide (x18.2.2 = 0) then
  hC x18.1 x18.2.1
else
  bif decide (x18.2.2 = 1) then
    some (x18.2.1, x18.1)
  else
    none
def hH (y23 : Bool) (y24 : List (Int × (List UInt8) × (List UInt8) × List ((List UInt8) × List UInt8))) : Option ((List (Int × (List UInt8) × (List UInt8) × List ((List UInt8) × List UInt8))) × Bool) :=
some (([] : List (Int × (List UInt8) × (List UInt8) × List ((List UInt8) × List UInt8))), false)
def gd (F : Nat) (y9 : Bool) (y10 : List (Int × (List UInt8) × (List UInt8) × List ((List UInt8) × List UInt8))) (z11 : Nat) (x13 : List (Int × (List UInt8) × (List UInt8) × List ((List UInt8) × List UInt8))) : Option ((Bool × (List (Int × (List UInt8) × (List UInt8) × List ((List UInt8) × List UInt8))) × Nat) × Bool) :=
grd (decide (z11 = 0)) <|
bnd (jR F x13) fun x14 =>
bif x14 then
  some ((true, x13, 1), false)
else
  some ((y9, y10, 0), true)
def kW (F : Nat) (a1 : List (Int × (List UInt8) × (List UInt8) × List ((List UInt8) × List UInt8))) : Option ((List (Int × (List UInt8) × (List UInt8) × List ((List UInt8) × List UInt8))) × Bool) :=
bnd (dG F a1) fun _ =>
bnd (fc F (fun s x => gd F s.1 s.2.1 s.2.2 x) (false, ([] : List (Int × (List UInt8) × (List UInt8) × List ((List UInt8) × List UInt8))), 0) a1) fun x18 =>
bif decide (x18.2.2 = 0) then
  hH x18.1 x18.2.1
else
  bif decide (x18.2.2 = 1) then
    some (x18.2.1, x18.1)
  else
    none
def da (F : Nat) (a1 : List (Int × (List UInt8) × (List UInt8) × List ((List UInt8) × List UInt8))) (a3 : List (List UInt8)) : Option ((List UInt8)) :=
ft (kU F a1 a3) fun x6 x7 =>
bnd (gy F x6) fun x9 =>
some x9
end Go.Pv
namespace Go.Proofs.YtkbfjepffpddfaaGreatDoor
open Go.RowKit Go.Av Go.Pv
theorem en13_fda : ∀ (args : Array Value) (w : World), (callFunc 13 args).run Tryz.prog w = .ok (.enter 13 args) w := fun _ _ => by kernel_rfl
theorem en17_fda : ∀ (args : Array Value) (w : World), (callFunc 17 args).run Tryz.prog w = .ok (.enter 17 args) w := fun _ _ => by kernel_rfl
theorem en18_fda : ∀ (args : Array Value) (w : World), (callFunc 18 args).run Tryz.prog w = .ok (.enter 18 args) w := fun _ _ => by kernel_rfl
theorem en19_fda : ∀ (args : Array Value) (w : World), (callFunc 19 args).run Tryz.prog w = .ok (.enter 19 args) w := fun _ _ => by kernel_rfl
theorem rI : ∀ (args : Array Value) (w : World), (callFunc 26 args).run Tryz.prog w = .ok (.enter 26 args) w := fun _ _ => by kernel_rfl
theorem nx : ∀ (args : Array Value) (w : World), (callFunc 27 args).run Tryz.prog w = .ok (.enter 27 args) w := fun _ _ => by kernel_rfl
theorem en30_fda : ∀ (args : Array Value) (w : World), (callFunc 30 args).run Tryz.prog w = .ok (.enter 30 args) w := fun _ _ => by kernel_rfl
theorem en38_fda : ∀ (args : Array Value) (w : World), (callFunc 38 args).run Tryz.prog w = .ok (.enter 38 args) w := fun _ _ => by kernel_rfl
theorem en39_fda : ∀ (args : Array Value) (w : World), (callFunc 39 args).run Tryz.prog w = .ok (.enter 39 args) w := fun _ _ => by kernel_rfl
theorem vM : ∀ (args : Array Value) (w : World), (callFunc 40 args).run Tryz.prog w = .ok (.enter 40 args) w := fun _ _ => by kernel_rfl
theorem rH : ∀ (args : Array Value) (w : World), (callFunc 41 args).run Tryz.prog w = .ok (.enter 41 args) w := fun _ _ => by kernel_rfl
theorem en42_fda : ∀ (args : Array Value) (w : World), (callFunc 42 args).run Tryz.prog w = .ok (.enter 42 args) w := fun _ _ => by kernel_rfl
theorem yH : ∀ (args : Array Value) (w : World), (callFunc 149 args).run Tryz.prog w = .ok (.enter 149 args) w := fun _ _ => by kernel_rfl
theorem yD : ∀ (args : Array Value) (w : World), (callFunc 153 args).run Tryz.prog w = .ok (.enter 153 args) w := fun _ _ => by kernel_rfl
theorem yC : ∀ (args : Array Value) (w : World), (callFunc 154 args).run Tryz.prog w = .ok (.enter 154 args) w := fun _ _ => by kernel_rfl
abbrev _root_.Go.Av.aM := @Tryz.underlying3
abbrev _root_.Go.Av.aP := @Tryz.underlying44
set_option maxRecDepth 100000 in
set_option maxHeartbeats 1000000 in
theorem sb (F : Nat) (a1 : List (Int × (List UInt8) × (List UInt8) × List ((List UInt8) × List UInt8))) (q2 : Option Nat) (r3 : Bool) (H : jQ F a1 = some r3) : ACalls Tryz.prog 23 [slE (ab Enc.int (ab Enc.str (ab Enc.str (Enc.sl (ab Enc.str Enc.str))))) a1 q2] [] (Ret (B r3) []) := by
 unfold jQ at H
 refine ap Tryz.func23 rfl rfl ?_;show AW _ _ 71 _ _ _;refine af <| aa ?_;show AR _ _ _ _ _ [0] _;refine za rfl <| ag <| af <| aa ?_;show AR _ _ _ _ _ [0] _;refine za rfl <| ag ?_
 refine AW.nil_stk 3 rfl fun t4 => ?_
 show AW _ _ _ _ _ ⟨(3, .sk t4 (([] : List (List UInt8)).length)) :: _, _, [.stk t4 (Enc.str.fl ([] : List (List UInt8)))]⟩;refine bJ (X := Nat × (List (List UInt8))) (fun (t40, y41) => ⟨[(0, slE (ab Enc.int (ab Enc.str (ab Enc.str (Enc.sl (ab Enc.str Enc.str))))) a1 q2), (3, .sk t40 y41.length)], [], [.stk t40 (Enc.str.fl y41)]⟩) (fun (t40, y41) => gm a1 y41 = some r3) ?_ ?_
 ·refine af <| aa ?_;show AR _ _ _ _ _ [0, 1, 2] _;refine zS rfl (ah (av := slE _ _ _) rfl) <| zS rfl (bu aP rfl) <| zm rfl <| ag <| aR <| de (X := Nat × Nat × (List (List UInt8)) × Int) (fun (n9, t5, y6, y7) => ⟨[(0, slE (ab Enc.int (ab Enc.str (ab Enc.str (Enc.sl (ab Enc.str Enc.str))))) a1 q2), (3, .sk t5 y6.length), (7, slE (ab Enc.int (ab Enc.str (ab Enc.str (Enc.sl (ab Enc.str Enc.str))))) a1 q2), (8, i64 (a1.length : Int)), (9, i64 y7)], [], [.stk t5 (Enc.str.fl y6)]⟩) (fun (n9, t5, y6, y7) => dE a1 n9 (y6, y7) = some r3) (fun (n9, t5, y6, y7) => n9) (F, t4, ([] : List (List UInt8)), 0) H (bb [0] (.cons (.refl _) (.cons (.refl _) (.cons (.refl _) (.cons (.refl _) (.cons (.refl _) (.nil _)))))) rfl) ?_;rintro ⟨n9, t5, y6, y7⟩ H;obtain ⟨n9, rfl, H⟩ := eX H;replace H : gn a1 (dE a1 n9) y6 y7 = some r3 := H
  unfold gn at H
  refine af <| aa ?_;show AR _ _ _ _ _ [0] _;refine zS rfl (bX rfl rfl) <| ag <| af <| ax rfl (fun c10 => ?_) (fun c10 => ?_)
  ·replace H := aW c10 H;refine aA <| bJ (X := Nat × (List (List UInt8))) (fun (t36, y37) => ⟨[(0, slE (ab Enc.int (ab Enc.str (ab Enc.str (Enc.sl (ab Enc.str Enc.str))))) a1 q2), (3, .sk t36 y37.length), (7, slE (ab Enc.int (ab Enc.str (ab Enc.str (Enc.sl (ab Enc.str Enc.str))))) a1 q2), (8, i64 (a1.length : Int)), (9, i64 y7)], [], [.stk t36 (Enc.str.fl y37)]⟩) (fun (t36, y37) => dD y7 (dE a1 n9) y37 = some r3) ?_ ?_
   ·refine aR <| af ?_;obtain ⟨g11, H⟩ := aN H;obtain ⟨x12, e13, H⟩ := bR H;refine aa ?_;show AR _ _ _ _ _ [0, 1, 2, 3, 4, 5] _;refine zm rfl <| zS rfl (dn (E := (ab Enc.int (ab Enc.str (ab Enc.str (Enc.sl (ab Enc.str Enc.str)))))) aP (by kernel_rfl) rfl rfl g11 e13) <| zS rfl (cB Tryz.underlying43 rfl (n := 4) (by kernel_rfl) rfl (ac rfl)) <| zX rfl (bh (zs := [.int .i64 0, .string ⟨#[]⟩, .string ⟨#[]⟩, .slice none 0 0]) (by kernel_rfl)) ?_;rintro _ _ ⟨o14, rfl, rfl⟩;refine za rfl <| s0 rfl rfl (aV (i := 0) (vs := [i64 x12.1, S x12.2.1, S x12.2.2.1, slE (ab Enc.str Enc.str) x12.2.2.2 none]) (by kernel_rfl) rfl rfl (by simp [bB, slE]) rfl (ac rfl)) <| fI 5 0 rfl rfl ?_;show AR _ _ _ _ _ _ ⟨_, _, [.stk t5 (Enc.str.fl y6)]⟩;refine ag <| af <| aa ?_;show AR _ _ _ _ _ [0, 1, 2] _;refine zS rfl (ah (av := .sk _ _) rfl) <| zS rfl (fb au rfl) <| za rfl <| ag <| aR <| af <| aa ?_;show AR _ _ _ _ _ [0, 1, 2, 3, 4, 5, 6] _;refine zm rfl <| zS rfl (eW rfl rfl) <| zm rfl <| aY (l := [6]) 22 (B ((decide (0 < y7)) && (decide ((y6.length : Int) = 0)))) (fun K => ?_) ?_
    ·rcases al (decide (0 < y7)) with h15 | h15
     ·refine zM h15 rfl <| zU h15 rfl (bK rfl rfl) <| zS rfl (aD (av := .v _) rfl h15 rfl) ?_;exact K _ 2 _ (ay (cz h15)) rfl rfl
     ·refine zF h15 rfl <| zF h15 rfl <| zS rfl (aE (av := .v _) rfl h15 rfl) ?_;exact K _ 2 _ (ay (cA h15)) rfl rfl
    refine za rfl <| ag <| ax rfl (fun c16 => ?_) (fun c16 => ?_)
    ·replace H := aW c16 H;refine af <| aa ?_;show AR _ _ _ _ _ [0] _;refine za rfl <| ag <| aI ?_;obtain rfl := ak H;exact And.intro rfl (Exists.intro _ (Exists.intro _ ⟨aG rfl (.refl _), aB [] rfl, rfl, rfl⟩))
    ·replace H := aX c16 H;refine af <| aa ?_;show AR _ _ _ _ _ [0, 1, 2, 3] _;refine zS rfl (aF (n := 0) (by kernel_rfl) rfl (ac rfl)) <| zS rfl (aH aM rfl rfl) <| zS rfl (bK rfl rfl) <| za rfl <| ag <| ax rfl (fun c17 => ?_) (fun c17 => ?_)
     ·replace H := aW c17 H;obtain ⟨g18, H⟩ := aN H;obtain ⟨x19, e20, H⟩ := bR H;refine aa ?_;show AR _ _ _ _ _ [0, 1, 2, 3, 4, 5] _;refine zS rfl (ah (av := .sk _ _) rfl) <| zS rfl (aF (n := 1) (by kernel_rfl) rfl (ac rfl)) <| zS rfl (aH ai rfl rfl) <| zR rfl (cE (E := Enc.str) (bytes := 16) (xs := [.tmp 29]) (l := ([x12.2.1] : List (List UInt8))) au (by kernel_rfl) rfl rfl (by decide) rfl rfl) <| zX rfl (kv (E := Enc.str) (bytes := 16) 0 au au rfl (by kernel_rfl) rfl rfl rfl rfl rfl rfl rfl g18 e20) ?_;rintro _ _ ⟨t21, rfl, rfl⟩;refine zS rfl (aJ (av := .sk _ _) rfl) <| ag ?_;exact Exists.intro (t21, x19) ⟨H, bb [0] (.cons (.refl _) (.cons (.refl _) (.cons (.refl _) (.cons (.refl _) (.cons (.refl _) (.nil _)))))) rfl⟩
     ·replace H := aX c17 H;refine af ?_;obtain ⟨g24, H⟩ := cQ H;obtain ⟨g25, H⟩ := cQ H;obtain ⟨g26, H⟩ := cQ H;obtain ⟨x27, e28, H⟩ := bR H;refine ce (by kernel_rfl) ?_;show AI _ _ _ _ _ 18 (Array.replicate 18 false) _;refine zk 0 rfl (aF (n := 0) (by kernel_rfl) rfl (ac rfl)) ?_;show AI _ _ _ _ _ _ #[true, false, false, false, false, false, false, false, false, false, false, false, false, false, false, false, false, false] _;refine zk 1 rfl (aH aM rfl rfl) ?_;show AI _ _ _ _ _ _ #[true, true, false, false, false, false, false, false, false, false, false, false, false, false, false, false, false, false] _;refine zk 2 rfl (bK rfl rfl) ?_;show AI _ _ _ _ _ _ #[true, true, true, false, false, false, false, false, false, false, false, false, false, false, false, false, false, false] _;refine zk 3 rfl (mv rfl) ?_;show AI _ _ _ _ _ _ #[true, true, true, true, false, false, false, false, false, false, false, false, false, false, false, false, false, false] _;refine AI.meet 11 #[true, true, true, true, true, true, true, false, false, false, false, false, false, false, false, false, false, false] 39 (B ((decide (x12.1 = 1)) && (decide (0 < (y6.length : Int))))) (fun K6 => ?_) ?_
      ·refine jD (t := 36) rfl (fun h22 => ?_) (fun h22 => ?_)
       ·refine cl (i := 4) rfl rfl (by kernel_rfl) (by kernel_rfl) (by kernel_rfl) rfl rfl rfl (fun _ _ h => h) h22 (mv rfl) ?_;show AI _ _ _ _ _ _ #[true, true, true, true, true, false, false, false, false, false, false, false, false, false, false, false, false, false] _;refine cl (i := 5) rfl rfl (by kernel_rfl) (by kernel_rfl) (by kernel_rfl) rfl rfl rfl (fun _ _ h => h) h22 (eW rfl rfl) ?_;show AI _ _ _ _ _ _ #[true, true, true, true, true, true, false, false, false, false, false, false, false, false, false, false, false, false] _;refine zk 6 rfl (cR (av' := B ((decide (x12.1 = 1)) && (decide (0 < (y6.length : Int))))) (aD (av := .v _) rfl h22 rfl) (ay (cz h22))) ?_;show AI _ _ _ _ _ _ #[true, true, true, true, true, true, true, false, false, false, false, false, false, false, false, false, false, false] _;exact K6 _ 2 rfl rfl
       ·refine bZ (i := 4) rfl rfl (by kernel_rfl) (by kernel_rfl) (by kernel_rfl) rfl rfl rfl (fun _ _ h => h) h22 ?_;show AI _ _ _ _ _ _ #[true, true, true, true, true, false, false, false, false, false, false, false, false, false, false, false, false, false] _;refine bZ (i := 5) rfl rfl (by kernel_rfl) (by kernel_rfl) (by kernel_rfl) rfl rfl rfl (fun _ _ h => h) h22 ?_;show AI _ _ _ _ _ _ #[true, true, true, true, true, true, false, false, false, false, false, false, false, false, false, false, false, false] _;refine zk 6 rfl (cR (av' := B ((decide (x12.1 = 1)) && (decide (0 < (y6.length : Int))))) (aE (av := .v _) rfl h22 rfl) (ay (cA h22))) ?_;show AI _ _ _ _ _ _ #[true, true, true, true, true, true, true, false, false, false, false, false, false, false, false, false, false, false] _;exact K6 _ 2 rfl rfl
      refine zk 7 rfl (mv rfl) ?_;show AI _ _ _ _ _ _ #[true, true, true, true, true, true, true, true, false, false, false, false, false, false, false, false, false, false] _;refine AI.meet 1 #[true, true, true, true, true, true, true, true, true, true, true, true, true, true, true, true, true, false] 49 (B (((decide (x12.1 = 1)) && (decide (0 < (y6.length : Int)))) && (decide (x27 = x12.2.1)))) (fun K16 => ?_) ?_
      ·refine jD (t := 40) rfl (fun h23 => ?_) (fun h23 => ?_)
       ·refine cl (i := 8) rfl rfl (by kernel_rfl) (by kernel_rfl) (by kernel_rfl) rfl rfl rfl (fun _ _ h => h) h23 (ah (av := .sk _ _) rfl) ?_;show AI _ _ _ _ _ _ #[true, true, true, true, true, true, true, true, true, false, false, false, false, false, false, false, false, false] _;refine cl (i := 9) rfl rfl (by kernel_rfl) (by kernel_rfl) (by kernel_rfl) rfl rfl rfl (fun _ _ h => h) h23 (mv rfl) ?_;show AI _ _ _ _ _ _ #[true, true, true, true, true, true, true, true, true, true, false, false, false, false, false, false, false, false] _;refine cl (i := 10) rfl rfl (by kernel_rfl) (by kernel_rfl) (by kernel_rfl) rfl rfl rfl (fun _ _ h => h) h23 (lw rfl rfl (g24 h23)) ?_;show AI _ _ _ _ _ _ #[true, true, true, true, true, true, true, true, true, true, true, false, false, false, false, false, false, false] _;refine cl (i := 11) rfl rfl (by kernel_rfl) (by kernel_rfl) (by kernel_rfl) rfl rfl rfl (fun _ _ h => h) h23 (kO au (by kernel_rfl) rfl rfl (g25 h23)) ?_;show AI _ _ _ _ _ _ #[true, true, true, true, true, true, true, true, true, true, true, true, false, false, false, false, false, false] _;refine cl (i := 13) rfl rfl (by kernel_rfl) (by kernel_rfl) (by kernel_rfl) rfl rfl rfl (fun _ _ h => h) h23 (aF (n := 1) (by kernel_rfl) rfl (ac rfl)) ?_;show AI _ _ _ _ _ _ #[true, true, true, true, true, true, true, true, true, true, true, true, false, true, false, false, false, false] _
        refine cl (i := 14) rfl rfl (by kernel_rfl) (by kernel_rfl) (by kernel_rfl) rfl rfl rfl (fun _ _ h => h) h23 (aH ai rfl rfl) ?_;show AI _ _ _ _ _ _ #[true, true, true, true, true, true, true, true, true, true, true, true, false, true, true, false, false, false] _;refine uz (i := 12) (by kernel_rfl) rfl rfl rfl rfl rfl h23 <| bz rfl (oE (E := Enc.str) 0 ai rfl rfl rfl rfl (g26 h23) e28 rfl) ?_;show AI _ _ _ _ _ _ #[true, true, true, true, true, true, true, true, true, true, true, true, true, true, true, false, false, false] _;refine cl (i := 15) rfl rfl (by kernel_rfl) (by kernel_rfl) (by kernel_rfl) rfl rfl rfl (fun _ _ h => h) h23 (dR rfl rfl) ?_;show AI _ _ _ _ _ _ #[true, true, true, true, true, true, true, true, true, true, true, true, true, true, true, true, false, false] _;refine zk 16 rfl (cR (av' := B (((decide (x12.1 = 1)) && (decide (0 < (y6.length : Int)))) && (decide (x27 = x12.2.1)))) (aD (av := .v _) rfl h23 rfl) (ay (cz h23))) ?_;show AI _ _ _ _ _ _ #[true, true, true, true, true, true, true, true, true, true, true, true, true, true, true, true, true, false] _;exact K16 _ 8 rfl rfl
       ·refine bZ (i := 8) rfl rfl (by kernel_rfl) (by kernel_rfl) (by kernel_rfl) rfl rfl rfl (fun _ _ h => h) h23 ?_;show AI _ _ _ _ _ _ #[true, true, true, true, true, true, true, true, true, false, false, false, false, false, false, false, false, false] _;refine bZ (i := 9) rfl rfl (by kernel_rfl) (by kernel_rfl) (by kernel_rfl) rfl rfl rfl (fun _ _ h => h) h23 ?_;show AI _ _ _ _ _ _ #[true, true, true, true, true, true, true, true, true, true, false, false, false, false, false, false, false, false] _;refine bZ (i := 10) rfl rfl (by kernel_rfl) (by kernel_rfl) (by kernel_rfl) rfl rfl rfl (fun _ _ h => h) h23 ?_;show AI _ _ _ _ _ _ #[true, true, true, true, true, true, true, true, true, true, true, false, false, false, false, false, false, false] _;refine bZ (i := 11) rfl rfl (by kernel_rfl) (by kernel_rfl) (by kernel_rfl) rfl rfl rfl (fun _ _ h => h) h23 ?_;show AI _ _ _ _ _ _ #[true, true, true, true, true, true, true, true, true, true, true, true, false, false, false, false, false, false] _;refine bZ (i := 12) rfl rfl (by kernel_rfl) (by kernel_rfl) (by kernel_rfl) rfl rfl rfl (fun _ _ h => h) h23 ?_;show AI _ _ _ _ _ _ #[true, true, true, true, true, true, true, true, true, true, true, true, true, false, false, false, false, false] _;refine bZ (i := 13) rfl rfl (by kernel_rfl) (by kernel_rfl) (by kernel_rfl) rfl rfl rfl (fun _ _ h => h) h23 ?_;show AI _ _ _ _ _ _ #[true, true, true, true, true, true, true, true, true, true, true, true, true, true, false, false, false, false] _
        refine bZ (i := 14) rfl rfl (by kernel_rfl) (by kernel_rfl) (by kernel_rfl) rfl rfl rfl (fun _ _ h => h) h23 ?_;show AI _ _ _ _ _ _ #[true, true, true, true, true, true, true, true, true, true, true, true, true, true, true, false, false, false] _;refine bZ (i := 15) rfl rfl (by kernel_rfl) (by kernel_rfl) (by kernel_rfl) rfl rfl rfl (fun _ _ h => h) h23 ?_;show AI _ _ _ _ _ _ #[true, true, true, true, true, true, true, true, true, true, true, true, true, true, true, true, false, false] _;refine zk 16 rfl (cR (av' := B (((decide (x12.1 = 1)) && (decide (0 < (y6.length : Int)))) && (decide (x27 = x12.2.1)))) (aE (av := .v _) rfl h23 rfl) (ay (cA h23))) ?_;show AI _ _ _ _ _ _ #[true, true, true, true, true, true, true, true, true, true, true, true, true, true, true, true, true, false] _;exact K16 _ 8 rfl rfl
      refine zk 17 rfl (asg rfl) ?_;show AI _ _ _ _ _ _ #[true, true, true, true, true, true, true, true, true, true, true, true, true, true, true, true, true, true] _;refine cK rfl <| ax rfl (fun c29 => ?_) (fun c29 => ?_)
      ·replace H := aW c29 H;obtain ⟨g30, H⟩ := aN H;obtain ⟨g31, H⟩ := aN H;obtain ⟨x32, e33, H⟩ := bR H;refine aa ?_;show AR _ _ _ _ _ [0, 1, 2, 3, 4] _;refine zS rfl (ah (av := .sk _ _) rfl) <| zm rfl <| zS rfl (lw rfl rfl g30) <| zR rfl (rx (E := Enc.str) 0 au (by kernel_rfl) rfl rfl rfl rfl g31 e33) <| zS rfl (aJ (av := .sk _ _) rfl) <| ag ?_;exact Exists.intro (t5, x32) ⟨H, bb [0] (.cons (.refl _) (.cons (.refl _) (.cons (.refl _) (.cons (.refl _) (.cons (.refl _) (.nil _)))))) rfl⟩
      ·replace H := aX c29 H;refine af <| aa ?_;show AR _ _ _ _ _ [0, 1, 2, 3, 4, 5, 6, 7] _;refine zS rfl (aF (n := 0) (by kernel_rfl) rfl (ac rfl)) <| zS rfl (aH aM rfl rfl) <| zS rfl (kD rfl rfl) <| zm rfl <| aY (l := [7]) 61 (B ((!decide (x12.1 = 2)) || (decide ((y6.length : Int) = 0)))) (fun K => ?_) ?_
       ·rcases al (!decide (x12.1 = 2)) with h34 | h34
        ·refine zF h34 rfl <| zF h34 rfl <| zS rfl (aD (av := .v _) rfl h34 rfl) ?_;exact K _ 2 _ (ay (iQ h34)) rfl rfl
        ·refine zM h34 rfl <| zU h34 rfl (bK rfl rfl) <| zS rfl (aE (av := .v _) rfl h34 rfl) ?_;exact K _ 2 _ (ay (iR h34)) rfl rfl
       refine za rfl <| ag <| ax rfl (fun c35 => ?_) (fun c35 => ?_)
       ·replace H := aW c35 H;refine af <| aa ?_;show AR _ _ _ _ _ [0] _;refine za rfl <| ag <| aI ?_;obtain rfl := ak H;exact And.intro rfl (Exists.intro _ (Exists.intro _ ⟨aG rfl (.refl _), aB [] rfl, rfl, rfl⟩))
       ·replace H := aX c35 H;refine aA ?_;exact Exists.intro (t5, y6) ⟨H, bb [0] (.cons (.refl _) (.cons (.refl _) (.cons (.refl _) (.cons (.refl _) (.cons (.refl _) (.nil _)))))) rfl⟩
   rintro ⟨t36, y37⟩ H;replace H : dD y7 (dE a1 n9) y37 = some r3 := H
   unfold dD at H
   obtain ⟨g39, H⟩ := aN H;refine aa ?_;show AR _ _ _ _ _ [0, 1] _;refine zS rfl (cX rfl rfl g39) <| zm rfl <| ag ?_;exact Exists.intro (n9, t36, y37, y7 + 1) ⟨H, Nat.lt_succ_self _, bb [0] (.cons (.refl _) (.cons (.refl _) (.cons (.refl _) (.cons (.refl _) (.cons (.refl _) (.nil _)))))) rfl⟩
  ·replace H := aX c10 H;refine cw ?_;exact Exists.intro (t5, y6) ⟨H, bb [0] (.cons (.refl _) (.cons (.refl _) (.nil _))) rfl⟩
 rintro ⟨t40, y41⟩ H;replace H : gm a1 y41 = some r3 := H
 unfold gm at H
 refine af <| aa ?_;show AR _ _ _ _ _ [0, 1, 2, 3, 4, 5, 6, 7, 8] _;refine zS rfl (ah (av := .sk _ _) rfl) <| zS rfl (fb au rfl) <| zS rfl (bK rfl rfl) <| zm rfl <| aY (l := [8]) 70 (B ((decide ((y41.length : Int) = 0)) && (decide (0 < (a1.length : Int))))) (fun K => ?_) ?_
 ·rcases al (decide ((y41.length : Int) = 0)) with h43 | h43
  ·refine zU h43 rfl (ah (av := slE _ _ _) rfl) <| zU h43 rfl (bu aP rfl) <| zU h43 rfl (eW rfl rfl) <| zS rfl (aD (av := .v _) rfl h43 rfl) ?_;exact K _ 3 _ (ay (cz h43)) rfl rfl
  ·refine zF h43 rfl <| zF h43 rfl <| zF h43 rfl <| zS rfl (aE (av := .v _) rfl h43 rfl) ?_;exact K _ 3 _ (ay (cA h43)) rfl rfl
 refine za rfl <| ag <| aI ?_;obtain rfl := ak H;exact And.intro rfl (Exists.intro _ (Exists.intro _ ⟨aG rfl (.refl _), aB [] rfl, rfl, rfl⟩))
set_option maxRecDepth 100000 in
set_option maxHeartbeats 1000000 in
theorem oV (F : Nat) (a1 : List (Int × (List UInt8) × (List UInt8) × List ((List UInt8) × List UInt8))) (q2 : Option Nat) (r3 : List UInt8) (H : gy F a1 = some r3) : ACalls Tryz.prog 13 [slE (ab Enc.int (ab Enc.str (ab Enc.str (Enc.sl (ab Enc.str Enc.str))))) a1 q2] [] (Ret (S r3) []) := by
 unfold gy at H
 refine ap Tryz.func13 rfl rfl ?_;show AW _ _ 21 _ _ _;refine af <| aa ?_;show AR _ _ _ _ _ [0] _;refine za rfl <| ag <| af <| aa ?_;show AR _ _ _ _ _ [0] _;refine zX rfl (oC (zs := [(.pointer none), .slice none 0 0]) (by kernel_rfl)) ?_;rintro _ _ ⟨o4, rfl, rfl⟩;refine ag ?_
 refine ji 0 1 1 5 rfl rfl fun t5 => ?_
 show AW _ _ _ _ _ ⟨_, _, [.tok t5 5, .obj o4 [.v (.pointer none), slE Enc.byte [] (some t5)], .ty o4 51]⟩;refine bJ (X := AV × (List UInt8) × Nat) (fun (t27, y28, t29) => ⟨[(3, .pt o4 0)], [], [.obj o4 [t27, slE Enc.byte y28 (some t29)], .ty o4 51, .tok t29 5]⟩) (fun (t27, y28, t29) => hM F y28 = some r3 ∧ (t27 = .v (.pointer none) ∨ t27 = .pt o4 0)) ?_ ?_
 ·refine af <| aa ?_;show AR _ _ _ _ _ [0, 1, 2] _;refine zS rfl (ah (av := slE _ _ _) rfl) <| zS rfl (bu aP rfl) <| zm rfl <| ag <| aR <| de (X := Nat × Int × AV × (List UInt8) × Nat) (fun (n11, y6, t7, y8, t9) => ⟨[(3, .pt o4 0), (6, slE (ab Enc.int (ab Enc.str (ab Enc.str (Enc.sl (ab Enc.str Enc.str))))) a1 q2), (7, i64 (a1.length : Int)), (8, i64 y6)], [], [.obj o4 [t7, slE Enc.byte y8 (some t9)], .ty o4 51, .tok t9 5]⟩) (fun (n11, y6, t7, y8, t9) => eT F a1 n11 (y6, y8) = some r3 ∧ (t7 = .v (.pointer none) ∨ t7 = .pt o4 0)) (fun (n11, y6, t7, y8, t9) => n11) (F, 0, (.v (.pointer none)), [], t5) ⟨H, .inl rfl⟩ (bb [1, 1, 0] (.cons (.refl _) (.cons (.refl _) (.cons (.refl _) (.cons (.refl _) (.nil _))))) rfl) ?_;rintro ⟨n11, y6, t7, y8, t9⟩ ⟨H, ht7⟩;obtain ⟨n11, rfl, H⟩ := eX H;replace H : hO F a1 (eT F a1 n11) y6 y8 = some r3 := H
  unfold hO at H
  refine af <| aa ?_;show AR _ _ _ _ _ [0] _;refine zS rfl (bX rfl rfl) <| ag <| af <| ax rfl (fun c12 => ?_) (fun c12 => ?_)
  ·replace H := aW c12 H;refine aA <| bJ (X := AV × (List UInt8) × Nat) (fun (t22, y23, t24) => ⟨[(3, .pt o4 0), (6, slE (ab Enc.int (ab Enc.str (ab Enc.str (Enc.sl (ab Enc.str Enc.str))))) a1 q2), (7, i64 (a1.length : Int)), (8, i64 y6)], [], [.obj o4 [t22, slE Enc.byte y23 (some t24)], .ty o4 51, .tok t24 5]⟩) (fun (t22, y23, t24) => ge y6 (eT F a1 n11) y23 = some r3 ∧ (t22 = .v (.pointer none) ∨ t22 = .pt o4 0)) ?_ ?_
   ·refine aR <| af ?_;obtain ⟨g13, H⟩ := aN H;obtain ⟨x14, e15, H⟩ := bR H;refine aa ?_;show AR _ _ _ _ _ [0, 1, 2, 3] _;refine zS rfl (dn (E := (ab Enc.int (ab Enc.str (ab Enc.str (Enc.sl (ab Enc.str Enc.str)))))) aP (by kernel_rfl) rfl rfl g13 e15) <| zS rfl (cB Tryz.underlying43 rfl (n := 4) (by kernel_rfl) rfl (ac rfl)) <| zX rfl (bh (zs := [.int .i64 0, .string ⟨#[]⟩, .string ⟨#[]⟩, .slice none 0 0]) (by kernel_rfl)) ?_;rintro _ _ ⟨o16, rfl, rfl⟩;refine s0 rfl rfl (aV (i := 0) (vs := [i64 x14.1, S x14.2.1, S x14.2.2.1, slE (ab Enc.str Enc.str) x14.2.2.2 none]) (by kernel_rfl) rfl rfl (by simp [bB, slE]) rfl (ac rfl)) <| fI 5 0 rfl rfl ?_;show AR _ _ _ _ _ _ ⟨_, _, [.obj o4 [t7, slE Enc.byte y8 (some t9)], .ty o4 51, .tok t9 5]⟩;refine ag <| af <| aa ?_;show AR _ _ _ _ _ [0, 1, 2] _;refine zS rfl (aF (n := 0) (by kernel_rfl) rfl (ac rfl)) <| zS rfl (aH aM rfl rfl) <| zS rfl (bK rfl rfl) <| ag <| ax rfl (fun c17 => ?_) (fun c17 => ?_)
    ·replace H := aW c17 H;obtain ⟨g18, H⟩ := aN H;obtain ⟨x19, e20, H⟩ := bR H;refine aa ?_;show AR _ _ _ _ _ [0, 1, 2] _;refine zS rfl (aF (n := 2) (by kernel_rfl) rfl (ac rfl)) <| zS rfl (aH ai rfl rfl) <| am rfl rfl (aQ [0, 0, 0] rfl en17_fda rfl (cy  o4 (t7) ht7 y8 x14.2.2.1 t9 (vR g18)) rfl (fun c A' h => by cases h.1) ?_)
     rintro av A' ⟨h, t21, rfl⟩; cases h
     rw [e20]
     refine ag ?_;exact Exists.intro ((.pt o4 0), x19, t21) ⟨⟨H, .inr rfl⟩, bb [0, 0, 0] (.cons (.refl _) (.cons (.refl _) (.cons (.refl _) (.cons (.refl _) (.nil _))))) rfl⟩
    ·replace H := aX c17 H;refine aA ?_;exact Exists.intro (t7, y8, t9) ⟨⟨H, ht7⟩, bb [0, 0, 0] (.cons (.refl _) (.cons (.refl _) (.cons (.refl _) (.cons (.refl _) (.nil _))))) rfl⟩
   rintro ⟨t22, y23, t24⟩ ⟨H, ht22⟩;replace H : ge y6 (eT F a1 n11) y23 = some r3 := H
   unfold ge at H
   obtain ⟨g26, H⟩ := aN H;refine aa ?_;show AR _ _ _ _ _ [0, 1] _;refine zS rfl (cX rfl rfl g26) <| zm rfl <| ag ?_;exact Exists.intro (n11, y6 + 1, t22, y23, t24) ⟨⟨H, ht22⟩, Nat.lt_succ_self _, bb [0, 0, 0] (.cons (.refl _) (.cons (.refl _) (.cons (.refl _) (.cons (.refl _) (.nil _))))) rfl⟩
  ·replace H := aX c12 H;refine cw ?_;exact Exists.intro (t7, y8, t9) ⟨⟨H, ht7⟩, bb [0, 0, 0] (.cons (.refl _) (.nil _)) rfl⟩
 rintro ⟨t27, y28, t29⟩ ⟨H, ht27⟩;replace H : hM F y28 = some r3 := H
 unfold hM at H
 refine af ?_;obtain ⟨g31, H⟩ := aN H;obtain ⟨x32, e33, H⟩ := cd H;refine aa ?_;show AR _ _ _ _ _ [0, 1, 2] _;refine am rfl rfl (aQ [0, 1] rfl en19_fda rfl (kh  o4 (t27) y28 t29 (okW0_s g31)) rfl (fun c A' h => by cases h.1) ?_)
 rintro av A' ⟨h, rfl⟩; cases h
 refine am rfl rfl (aC rfl en18_fda rfl (oy F y28 x32 e33) ?_);refine za rfl <| ag <| aI ?_;obtain rfl := ak H;exact And.intro rfl (Exists.intro _ (Exists.intro _ ⟨aG rfl (.refl _), aB [] rfl, rfl, rfl⟩))
abbrev _root_.Go.Av.bO := @Tryz.underlying70
set_option maxRecDepth 100000 in
set_option maxHeartbeats 1000000 in
theorem gC (F : Nat) (a1 : List (Int × (List UInt8) × (List UInt8) × List ((List UInt8) × List UInt8))) (q2 : Option Nat) (r3 : List UInt8) (H : fe F a1 = some r3) : ACalls Tryz.prog 27 [slE (ab Enc.int (ab Enc.str (ab Enc.str (Enc.sl (ab Enc.str Enc.str))))) a1 q2] [] (Ret (S r3) []) := by
 unfold fe at H
 refine ap Tryz.func27 rfl rfl ?_;show AW _ _ 8 _ _ _;refine af <| aa ?_;show AR _ _ _ _ _ [0] _;refine za rfl <| ag <| af ?_;obtain ⟨g4, H⟩ := aN H;obtain ⟨x5, e6, H⟩ := bR H;obtain ⟨x7, e8, H⟩ := cd H;refine aa ?_;show AR _ _ _ _ _ [0, 1, 2, 3, 4, 5] _;refine zS rfl (ah (av := slE _ _ _) rfl) <| zS rfl (dn (E := (ab Enc.int (ab Enc.str (ab Enc.str (Enc.sl (ab Enc.str Enc.str)))))) bO (by kernel_rfl) rfl rfl g4 e6) <| zS rfl (aF (n := 1) (by kernel_rfl) rfl (ac rfl)) <| zS rfl (aH ai rfl rfl) <| am rfl rfl (aC rfl en42_fda rfl (vX F x5.2.1 x7 e8) ?_);refine za rfl <| ag <| aI ?_;obtain rfl := ak H;exact And.intro rfl (Exists.intro _ (Exists.intro _ ⟨aG rfl (.refl _), aB [] rfl, rfl, rfl⟩))
abbrev _root_.Go.Av.co := @Tryz.underlying41
set_option maxRecDepth 100000 in
set_option maxHeartbeats 1000000 in
theorem pY (F : Nat) (a1 : List (Int × (List UInt8) × (List UInt8) × List ((List UInt8) × List UInt8))) (q2 : Option Nat) (a3 : List UInt8) (r4 : List UInt8) (r5 : Bool) (H : kH F a1 a3 = some (r4, r5)) : ACalls Tryz.prog 154 [slE (ab Enc.int (ab Enc.str (ab Enc.str (Enc.sl (ab Enc.str Enc.str))))) a1 q2, S a3] [] (Ret (.tup [S r4, B r5]) []) := by
 unfold kH at H
 refine ap Tryz.func154 rfl rfl ?_;show AW _ _ 24 _ _ _;refine af <| aa ?_;show AR _ _ _ _ _ [0, 1] _;refine za rfl <| za rfl <| ag <| bJ (X := Unit) (fun _ => ⟨[], [], []⟩) (fun _ => kw = some (r4, r5)) ?_ ?_
 ·refine af ?_;obtain ⟨g6, H⟩ := aN H;obtain ⟨x7, e8, H⟩ := bR H;refine aa ?_;show AR _ _ _ _ _ [0, 1, 2, 3, 4, 5] _;refine zS rfl (ah (av := slE _ _ _) rfl) <| zS rfl (dn (E := (ab Enc.int (ab Enc.str (ab Enc.str (Enc.sl (ab Enc.str Enc.str)))))) bO (by kernel_rfl) rfl rfl g6 e8) <| zS rfl (aF (n := 3) (by kernel_rfl) rfl (ac rfl)) <| zS rfl (aH co rfl rfl) <| zS rfl (bu co rfl) <| zm rfl <| ag <| aR <| de (X := Nat × Int) (fun (n11, y9) => ⟨[(1, S a3), (11, slE (ab Enc.str Enc.str) x7.2.2.2 none), (12, i64 (x7.2.2.2.length : Int)), (13, i64 y9)], [], []⟩) (fun (n11, y9) => je a3 x7 n11 y9 = some (r4, r5)) (fun (n11, y9) => n11) (F, 0) H (bb [] (.cons (.refl _) (.cons (.refl _) (.cons (.refl _) (.cons (.refl _) (.nil _))))) rfl) ?_;rintro ⟨n11, y9⟩ H;obtain ⟨n11, rfl, H⟩ := eX H;replace H : jf a3 x7 (je a3 x7 n11) y9 = some (r4, r5) := H
  unfold jf at H
  refine af <| aa ?_;show AR _ _ _ _ _ [0] _;refine zS rfl (bX rfl rfl) <| ag <| af <| ax rfl (fun c12 => ?_) (fun c12 => ?_)
  ·replace H := aW c12 H;refine aA <| af <| aR <| af ?_;obtain ⟨g13, H⟩ := aN H;obtain ⟨x14, e15, H⟩ := bR H;refine aa ?_;show AR _ _ _ _ _ [0, 1, 2, 3] _;refine zS rfl (dn (E := (ab Enc.str Enc.str)) co (by kernel_rfl) rfl rfl g13 e15) <| zS rfl (cB Tryz.underlying94 rfl (n := 2) (by kernel_rfl) rfl (ac rfl)) <| zX rfl (bh (zs := [.string ⟨#[]⟩, .string ⟨#[]⟩]) (by kernel_rfl)) ?_;rintro _ _ ⟨o16, rfl, rfl⟩;refine s0 rfl rfl (aV (i := 0) (vs := [S x14.1, S x14.2]) (by kernel_rfl) rfl rfl (by simp [bB, slE]) rfl (ac rfl)) <| fI 7 0 rfl rfl ?_;show AR _ _ _ _ _ _ ⟨_, _, []⟩;refine ag <| af <| aa ?_;show AR _ _ _ _ _ [0, 1, 2, 3] _;refine zS rfl (aF (n := 0) (by kernel_rfl) rfl (ac rfl)) <| zS rfl (aH ai rfl rfl) <| zm rfl <| zS rfl (dR rfl rfl) <| ag <| ax rfl (fun c17 => ?_) (fun c17 => ?_)
   ·replace H := aW c17 H;refine af <| aa ?_;show AR _ _ _ _ _ [0, 1, 2, 3] _;refine zS rfl (aF (n := 1) (by kernel_rfl) rfl (ac rfl)) <| zS rfl (aH ai rfl rfl) <| za rfl <| za rfl <| ag <| aI ?_;obtain ⟨rfl, rfl⟩ := dx H;exact And.intro rfl (Exists.intro _ (Exists.intro _ ⟨bm rfl (.refl _) (.refl _), aB [] rfl, rfl, rfl⟩))
   ·replace H := aX c17 H;refine aA ?_;obtain ⟨g18, H⟩ := aN H;refine aa ?_;show AR _ _ _ _ _ [0, 1] _;refine zS rfl (cX rfl rfl g18) <| zm rfl <| ag ?_;exact Exists.intro (n11, y9 + 1) ⟨H, Nat.lt_succ_self _, bb [] (.cons (.refl _) (.cons (.refl _) (.cons (.refl _) (.cons (.refl _) (.nil _))))) rfl⟩
  ·replace H := aX c12 H;refine cw ?_;exact Exists.intro () ⟨H, bb [] (.nil _) rfl⟩
 rintro _ H;replace H : kw = some (r4, r5) := H
 unfold kw at H
 refine af <| aa ?_;show AR _ _ _ _ _ [0, 1] _;refine za rfl <| za rfl <| ag <| aI ?_;obtain ⟨rfl, rfl⟩ := dx H;exact And.intro rfl (Exists.intro _ (Exists.intro _ ⟨bm rfl (.refl _) (.refl _), aB [] rfl, rfl, rfl⟩))
set_option maxRecDepth 100000 in
set_option maxHeartbeats 1000000 in
theorem xv (F : Nat) (a1 : List (Int × (List UInt8) × (List UInt8) × List ((List UInt8) × List UInt8))) (q2 : Option Nat) (r3 : Option Bool) (r4 : Bool) (H : qS F a1 = some (r3, r4)) : ACalls Tryz.prog 24 [slE (ab Enc.int (ab Enc.str (ab Enc.str (Enc.sl (ab Enc.str Enc.str))))) a1 q2] [] (Ret (.tup [ikA 83 84 r3, B r4]) []) := by
 unfold qS at H
 refine ap Tryz.func24 rfl rfl ?_;show AW _ _ 14 _ _ _;refine af <| aa ?_;show AR _ _ _ _ _ [0, 1] _;refine za rfl <| za rfl <| ag <| af <| af ?_;obtain ⟨x5, e6, H⟩ := cd H;refine aa ?_;show AR _ _ _ _ _ [0, 1] _;refine zS rfl (ah (av := slE _ _ _) rfl) <| am rfl rfl (aC rfl nx rfl (gC F a1 q2 x5 e6) ?_);refine ag <| aR <| af <| aa ?_;show AR _ _ _ _ _ [0, 1] _;refine zS rfl (dR rfl rfl) <| za rfl <| ag <| ax rfl (fun c7 => ?_) (fun c7 => ?_)
 ·replace H := aW c7 H;refine af <| aa ?_;show AR _ _ _ _ _ [0, 1, 2, 3] _;refine zS rfl (cP (zs := []) (ps := []) (cs := []) (by kernel_rfl) rfl rfl) <| zS rfl (bf (a := .agg _) Tryz.underlying83 rfl rfl) <| zS rfl (aJ (av := .ifc _ _) rfl) <| za rfl <| ag <| aI ?_;obtain ⟨rfl, rfl⟩ := dx H;exact And.intro rfl (Exists.intro _ (Exists.intro _ ⟨bm rfl (.refl _) (.refl _), aB [] rfl, rfl, rfl⟩))
 ·replace H := aX c7 H;refine af <| aa ?_;show AR _ _ _ _ _ [0, 1] _;refine zS rfl (dR rfl rfl) <| za rfl <| ag <| ax rfl (fun c8 => ?_) (fun c8 => ?_)
  ·replace H := aW c8 H;refine af <| aa ?_;show AR _ _ _ _ _ [0, 1, 2, 3] _;refine zS rfl (cP (zs := []) (ps := []) (cs := []) (by kernel_rfl) rfl rfl) <| zS rfl (bf (a := .agg _) Tryz.underlying84 rfl rfl) <| zS rfl (aJ (av := .ifc _ _) rfl) <| za rfl <| ag <| aI ?_;obtain ⟨rfl, rfl⟩ := dx H;exact And.intro rfl (Exists.intro _ (Exists.intro _ ⟨bm rfl (.refl _) (.refl _), aB [] rfl, rfl, rfl⟩))
  ·replace H := aX c8 H;refine aA <| af <| aa ?_;show AR _ _ _ _ _ [0, 1] _;refine za rfl <| za rfl <| ag <| aI ?_;obtain ⟨rfl, rfl⟩ := dx H;exact And.intro rfl (Exists.intro _ (Exists.intro _ ⟨bm rfl (.refl _) (.refl _), aB [] rfl, rfl, rfl⟩))
set_option maxRecDepth 100000 in
set_option maxHeartbeats 1000000 in
theorem ku (F : Nat) {σ τ : Type} (T : σ → τ → List Chunk) (k : σ → (List (Int × (List UInt8) × (List UInt8) × List ((List UInt8) × List UInt8))) → Option (σ × Bool)) (o : Nat) (hY : ∀ (s : σ) (t : τ) (x : List (Int × (List UInt8) × (List UInt8) × List ((List UInt8) × List UInt8))) (rv : σ × Bool), k s x = some rv → nT Tryz.prog o [slE (ab Enc.int (ab Enc.str (ab Enc.str (Enc.sl (ab Enc.str Enc.str))))) x none] (T s t) fun ae A' => ∃ t', ae = .ret (.v (.bool rv.2)) ∧ A' = T rv.1 t') (st0 : σ) (tt0 : τ) (o1 : Nat) (a2 : List (Int × (List UInt8) × (List UInt8) × List ((List UInt8) × List UInt8))) (rs : σ) (H : fc F k st0 a2 = some rs) : ACalls Tryz.prog 41 [.yl o, .pt o1 0] ([.obj o1 [slE (ab Enc.int (ab Enc.str (ab Enc.str (Enc.sl (ab Enc.str Enc.str))))) a2 none]] ++ T st0 tt0) (fun e A' => ∃ tz, e = .ret (.tup []) ∧ A' = [.obj o1 [slE (ab Enc.int (ab Enc.str (ab Enc.str (Enc.sl (ab Enc.str Enc.str))))) a2 none]] ++ T rs tz) := by
 unfold fc at H
 refine ap Tryz.func41 rfl rfl ?_;show AW _ _ 42 _ _ _;refine af <| aa ?_;show AR _ _ _ _ _ [0, 1] _;refine za rfl <| za rfl <| ag <| af <| aa ?_;show AR _ _ _ _ _ [0, 1, 2] _;refine zR rfl (ao (i := 0) bO rfl rfl rfl rfl) <| zS rfl (bu bO rfl) <| zm rfl <| ag <| aR <| de (X := Nat × Int × Int × Int × σ × τ) (fun (n13, y7, y8, y9, y10, t11) => ⟨[(0, .yl o), (1, .pt o1 0), (3, i64 y7), (4, i64 y8), (7, slE (ab Enc.int (ab Enc.str (ab Enc.str (Enc.sl (ab Enc.str Enc.str))))) a2 none), (8, i64 (a2.length : Int)), (9, i64 y9)], [], ([.obj o1 [slE (ab Enc.int (ab Enc.str (ab Enc.str (Enc.sl (ab Enc.str Enc.str))))) a2 none]] ++ T y10 t11)⟩) (fun (n13, y7, y8, y9, y10, t11) => dY a2 k n13 (y7, y8, y9, y10) = some rs) (fun (n13, y7, y8, y9, y10, t11) => n13) (F, 0, 0, 0, st0, tt0) H (WK.atT 1 [0] (.cons (.refl _) (.cons (.refl _) (.cons (.refl _) (.cons (.refl _) (.cons (.refl _) (.cons (.refl _) (.cons (.refl _) (.nil _)))))))) rfl) ?_;rintro ⟨n13, y7, y8, y9, y10, t11⟩ H;obtain ⟨n13, rfl, H⟩ := eX H;replace H : gY a2 k (dY a2 k n13) y7 y8 y9 y10 = some rs := H
 unfold gY at H
 refine af <| aa ?_;show AR _ _ _ _ _ [0] _;refine zS rfl (bX rfl rfl) <| ag <| af <| ax rfl (fun c14 => ?_) (fun c14 => ?_)
 ·replace H := aW c14 H;refine aA <| bJ (X := Int × Int × σ × τ) (fun (y25, y26, y27, t28) => ⟨[(0, .yl o), (1, .pt o1 0), (3, i64 y25), (4, i64 y26), (7, slE (ab Enc.int (ab Enc.str (ab Enc.str (Enc.sl (ab Enc.str Enc.str))))) a2 none), (8, i64 (a2.length : Int)), (9, i64 y9)], [], ([.obj o1 [slE (ab Enc.int (ab Enc.str (ab Enc.str (Enc.sl (ab Enc.str Enc.str))))) a2 none]] ++ T y27 t28)⟩) (fun (y25, y26, y27, t28) => cU y9 (dY a2 k n13) y25 y26 y27 = some rs) ?_ ?_
  ·refine aR <| af ?_;obtain ⟨g15, H⟩ := aN H;obtain ⟨x16, e17, H⟩ := bR H;refine aa ?_;show AR _ _ _ _ _ [0, 1, 2, 3, 4, 5] _;refine zm rfl <| zS rfl (dn (E := (ab Enc.int (ab Enc.str (ab Enc.str (Enc.sl (ab Enc.str Enc.str)))))) bO (by kernel_rfl) rfl rfl g15 e17) <| zS rfl (cB Tryz.underlying43 rfl (n := 4) (by kernel_rfl) rfl (ac rfl)) <| zX rfl (bh (zs := [.int .i64 0, .string ⟨#[]⟩, .string ⟨#[]⟩, .slice none 0 0]) (by kernel_rfl)) ?_;rintro _ _ ⟨o18, rfl, rfl⟩;refine za rfl <| s0 rfl rfl (aV (i := 0) (vs := [i64 x16.1, S x16.2.1, S x16.2.2.1, slE (ab Enc.str Enc.str) x16.2.2.2 none]) (by kernel_rfl) rfl rfl (by simp [bB, slE]) rfl (ac rfl)) <| fI 6 0 rfl rfl ?_;show AR _ _ _ _ _ _ ⟨_, _, ([.obj o1 [slE (ab Enc.int (ab Enc.str (ab Enc.str (Enc.sl (ab Enc.str Enc.str))))) a2 none]] ++ T y10 t11)⟩;refine ag <| af <| aa ?_;show AR _ _ _ _ _ [0, 1] _;refine zS rfl (aF (n := 0) (by kernel_rfl) rfl (ac rfl)) <| zS rfl (aH aM rfl rfl) <| ag <| aR <| af <| aa ?_;show AR _ _ _ _ _ [0, 1] _;refine zS rfl (bK rfl rfl) <| za rfl <| ag <| ax rfl (fun c19 => ?_) (fun c19 => ?_)
   ·replace H := aW c19 H;refine af ?_;obtain ⟨g20, H⟩ := aN H;refine aa ?_;show AR _ _ _ _ _ [0, 1, 2] _;refine zm rfl <| zS rfl (cX rfl rfl g20) <| za rfl <| ag <| af <| aa ?_;show AR _ _ _ _ _ [0, 1] _;refine zm rfl <| zS rfl (bK rfl rfl) <| ag <| ax rfl (fun c21 => ?_) (fun c21 => ?_)
    ·replace H := aW c21 H;refine aa ?_;show AR _ _ _ _ _ [0, 1] _;refine zm rfl <| za rfl <| ag ?_;exact Exists.intro (y7 + 1, y9, y10, t11) ⟨H, WK.atT 1 [0] (.cons (.refl _) (.cons (.refl _) (.cons (.refl _) (.cons (.refl _) (.cons (.refl _) (.cons (.refl _) (.cons (.refl _) (.nil _)))))))) rfl⟩
    ·replace H := aX c21 H;refine aA ?_;exact Exists.intro (y7 + 1, y8, y10, t11) ⟨H, WK.atT 1 [0] (.cons (.refl _) (.cons (.refl _) (.cons (.refl _) (.cons (.refl _) (.cons (.refl _) (.cons (.refl _) (.cons (.refl _) (.nil _)))))))) rfl⟩
   ·replace H := aX c19 H;refine af <| aa ?_;show AR _ _ _ _ _ [0, 1] _;refine zS rfl (bK rfl rfl) <| za rfl <| ag <| ax rfl (fun c22 => ?_) (fun c22 => ?_)
    ·replace H := aW c22 H;refine af ?_;obtain ⟨g23, H⟩ := aN H;refine aa ?_;show AR _ _ _ _ _ [0, 1, 2] _;refine zm rfl <| zS rfl (lw rfl rfl g23) <| za rfl <| ag <| af ?_
     rcases al (decide (y7 - 1 = 1)) with h24 | h24
     ·replace H := aW h24 H;obtain ⟨g25, H⟩ := aN H;obtain ⟨g26, H⟩ := aN H;obtain ⟨g27, H⟩ := aN H;obtain ⟨x28, e29, H⟩ := bR H;obtain ⟨x30, x31, e32, H⟩ := cF H;refine aa ?_;show AR _ _ _ _ _ [0, 1, 2, 3, 4, 5, 6, 7, 8, 9, 10, 11, 12, 13] _;refine zm rfl <| zS rfl (bK rfl rfl) <| zm rfl <| zU h24 rfl (ah (av := .yl _) rfl) <| zT h24 rfl (cm rfl rfl (ao (i := 0) bO rfl rfl rfl rfl) ?_);refine zM h24 rfl <| zM h24 rfl <| zU h24 rfl (cX rfl rfl g25) <| zM h24 rfl <| zU h24 rfl (cX rfl rfl g26) <| zU h24 rfl (ve (E := (ab Enc.int (ab Enc.str (ab Enc.str (Enc.sl (ab Enc.str Enc.str)))))) bO (by kernel_rfl) rfl rfl rfl rfl g27 e29) <| zT h24 rfl (AO.yieldT (s' := x30) (b := x31) 1 rfl rfl rfl (hY _ _ _ _ e32) fun t33 => ?_);show AR _ _ _ _ _ _ ⟨_, _, ([.obj o1 [slE (ab Enc.int (ab Enc.str (ab Enc.str (Enc.sl (ab Enc.str Enc.str))))) a2 none]] ++ T x30 t33)⟩;refine zU h24 rfl (bG rfl) <| zS rfl (aD (av := .v _) rfl h24 rfl) <| ag <| ax rfl (fun c34 => ?_) (fun c34 => ?_)
      ·replace H := aW c34 H;refine aI ?_;obtain rfl := ak H;exact And.intro rfl (Exists.intro _ (Exists.intro _ ⟨bj rfl, Sub.atT 1 [0] rfl, t33, rfl, rfl⟩))
      ·replace H := aX c34 H;refine aA ?_;exact Exists.intro (y7 - 1, y8, x30, t33) ⟨H, WK.atT 1 [0] (.cons (.refl _) (.cons (.refl _) (.cons (.refl _) (.cons (.refl _) (.cons (.refl _) (.cons (.refl _) (.cons (.refl _) (.nil _)))))))) rfl⟩
     ·replace H := aX h24 H;refine aa ?_;show AR _ _ _ _ _ [0, 1, 2, 3, 4, 5, 6, 7, 8, 9, 10, 11, 12, 13] _;refine zm rfl <| zS rfl (bK rfl rfl) <| zm rfl <| zF h24 rfl <| zF h24 rfl <| zF h24 rfl <| zF h24 rfl <| zF h24 rfl <| zF h24 rfl <| zF h24 rfl <| zF h24 rfl <| zF h24 rfl <| zF h24 rfl <| zS rfl (aE (av := .v _) rfl h24 rfl) <| ag <| ax rfl (fun hx => bL hx rfl) (fun _ => ?_);refine aA ?_;exact Exists.intro (y7 - 1, y8, y10, t11) ⟨H, WK.atT 1 [0] (.cons (.refl _) (.cons (.refl _) (.cons (.refl _) (.cons (.refl _) (.cons (.refl _) (.cons (.refl _) (.cons (.refl _) (.nil _)))))))) rfl⟩
    ·replace H := aX c22 H;refine aA ?_;exact Exists.intro (y7, y8, y10, t11) ⟨H, WK.atT 1 [0] (.cons (.refl _) (.cons (.refl _) (.cons (.refl _) (.cons (.refl _) (.cons (.refl _) (.cons (.refl _) (.cons (.refl _) (.nil _)))))))) rfl⟩
  rintro ⟨y25, y26, y27, t28⟩ H;replace H : cU y9 (dY a2 k n13) y25 y26 y27 = some rs := H
  unfold cU at H
  obtain ⟨g30, H⟩ := aN H;refine aa ?_;show AR _ _ _ _ _ [0, 1] _;refine zS rfl (cX rfl rfl g30) <| zm rfl <| ag ?_;exact Exists.intro (n13, y25, y26, y9 + 1, y27, t28) ⟨H, Nat.lt_succ_self _, WK.atT 1 [0] (.cons (.refl _) (.cons (.refl _) (.cons (.refl _) (.cons (.refl _) (.cons (.refl _) (.cons (.refl _) (.cons (.refl _) (.nil _)))))))) rfl⟩
 ·replace H := aX c14 H;refine cw ?_;obtain rfl := ak H;exact And.intro rfl (Exists.intro _ (Exists.intro _ ⟨bj rfl, Sub.atT 1 [0] rfl, t11, rfl, rfl⟩))
set_option maxRecDepth 100000 in
set_option maxHeartbeats 1000000 in
theorem jF (F : Nat) (a1 : List (Int × (List UInt8) × (List UInt8) × List ((List UInt8) × List UInt8))) (H : dG F a1 = some ()) : ACalls Tryz.prog 26 [slE (ab Enc.int (ab Enc.str (ab Enc.str (Enc.sl (ab Enc.str Enc.str))))) a1 none] [] (fun e A' => ∃ ob1 : Nat, e = .ret (.fn (.func 41) [] [.pt ob1 0]) ∧ A' = [.obj ob1 [slE (ab Enc.int (ab Enc.str (ab Enc.str (Enc.sl (ab Enc.str Enc.str))))) a1 none]]) := by
 unfold dG at H
 refine ap Tryz.func26 rfl rfl ?_;show AW _ _ 4 _ _ _;refine af <| aa ?_;show AR _ _ _ _ _ [0, 1] _;refine zX rfl (py rfl (.inl rfl)) ?_;rintro _ _ ⟨o2, rfl, rfl⟩;refine za rfl <| ag <| af <| aa ?_;show AR _ _ _ _ _ [0, 1] _;refine zS rfl (fH rfl rfl) <| zS rfl (aJ (av := .fn _ _ _) rfl) <| ag <| aI ?_;exact And.intro rfl (Exists.intro _ (Exists.intro _ ⟨aG rfl (.refl _), aB [0] rfl, o2, rfl, rfl⟩))
set_option maxRecDepth 100000 in
set_option maxHeartbeats 1000000 in
theorem sa (F : Nat) (a1 : List (Int × (List UInt8) × (List UInt8) × List ((List UInt8) × List UInt8))) (q2 : Option Nat) (o3 : Nat) (a4 : List (List UInt8)) (r5 : Bool) (H : jP F a1 a4 = some r5) : ACalls Tryz.prog 39 [slE (ab Enc.int (ab Enc.str (ab Enc.str (Enc.sl (ab Enc.str Enc.str))))) a1 q2, .pt o3 0] [.obj o3 [slE Enc.str a4 none]] (fun e A' => e = .ret (B r5) ∧ A' = [.obj o3 [slE Enc.str a4 none]]) := by
 unfold jP at H
 refine ap Tryz.func39 rfl rfl ?_;show AW _ _ 19 _ _ _;refine af <| aa ?_;show AR _ _ _ _ _ [0] _;refine za rfl <| ag <| af ?_;obtain ⟨g6, H⟩ := aN H;obtain ⟨x7, e8, H⟩ := bR H;obtain ⟨g9, H⟩ := aN H;obtain ⟨x10, e11, H⟩ := bR H;obtain ⟨g12, H⟩ := aN H;obtain ⟨x13, e14, H⟩ := bR H;obtain ⟨x15, e16, H⟩ := cd H;obtain ⟨g17, H⟩ := aN H;obtain ⟨x18, e19, H⟩ := bR H;obtain ⟨g20, H⟩ := aN H;obtain ⟨x21, e22, H⟩ := bR H;obtain ⟨g23, H⟩ := aN H;obtain ⟨x24, e25, H⟩ := bR H;obtain ⟨x27, e28, H⟩ := eY H;obtain ⟨g29, H⟩ := cQ H;obtain ⟨x30, e31, H⟩ := bR H;refine aa ?_;show AR _ _ _ _ _ [0, 1, 2, 3, 4, 5, 6, 7, 8, 9, 10, 11, 12, 13, 14, 15] _;refine zR rfl (ao (i := 0) au rfl rfl rfl rfl) <| am rfl rfl (aC rfl en30_fda rfl (show ACalls _ _ _ [] (Ret (S x7) []) from by subst e8; exact oX a4 ([124] : List UInt8) none (pn g6).1 (pn g6).2) ?_);refine zS rfl (g_cat rfl rfl g9 e11) <| zS rfl (g_cat rfl rfl g12 e14) <| zS rfl (ah (av := slE _ _ _) rfl) <| am rfl rfl (aC rfl nx rfl (gC F a1 q2 x15 e16) ?_);refine zS rfl (g_cat rfl rfl g17 e19) <| zS rfl (g_cat rfl rfl g20 e22) <| am rfl rfl (aC rfl vM rfl (show ACalls _ _ _ [] (Ret (B x24) []) from by subst e25; exact gG x13 x21 (mH g23)) ?_);refine zm rfl <| aY (l := [15]) 18 (B (x24 && (!x30))) (fun K => ?_) ?_
 ·rcases al x24 with h26 | h26
  ·refine zU h26 rfl (ah (av := slE _ _ _) rfl) <| zT h26 rfl (aC rfl nx rfl (gC F a1 q2 x27 (e28 h26)) ?_);refine zT h26 rfl (aC rfl vM rfl (show ACalls _ _ _ [] (Ret (B x30) []) from by subst e31; exact gG x27 ([124] : List UInt8) (mH (g29 h26))) ?_);refine zU h26 rfl (bG rfl) <| zS rfl (aD (av := .v _) rfl h26 rfl) ?_;exact K _ 4 _ (ay (cz h26)) rfl rfl
  ·refine zF h26 rfl <| zF h26 rfl <| zF h26 rfl <| zF h26 rfl <| zS rfl (aE (av := .v _) rfl h26 rfl) ?_;exact K _ 4 _ (ay (cA h26)) rfl rfl
 refine za rfl <| ag <| aI ?_;obtain rfl := ak H;exact And.intro rfl (Exists.intro _ (Exists.intro _ ⟨aG rfl (.refl _), aB [0] rfl, rfl, rfl⟩))
set_option maxRecDepth 100000 in
set_option maxHeartbeats 1000000 in
theorem uN (F : Nat) (a1 : List (Int × (List UInt8) × (List UInt8) × List ((List UInt8) × List UInt8))) (q2 : Option Nat) (r3 : Bool) (H : me F a1 = some r3) : ACalls Tryz.prog 149 [slE (ab Enc.int (ab Enc.str (ab Enc.str (Enc.sl (ab Enc.str Enc.str))))) a1 q2] [] (Ret (B r3) []) := by
 unfold me at H
 refine ap Tryz.func149 rfl rfl ?_;show AW _ _ 6 _ _ _;refine af <| aa ?_;show AR _ _ _ _ _ [0] _;refine za rfl <| ag <| af ?_;obtain ⟨x4, e5, H⟩ := cd H;refine aa ?_;show AR _ _ _ _ _ [0, 1, 2, 3] _;refine zS rfl (ah (av := slE _ _ _) rfl) <| am rfl rfl (aC rfl nx rfl (gC F a1 q2 x4 e5) ?_);refine zS rfl (dR rfl rfl) <| za rfl <| ag <| aI ?_;obtain rfl := ak H;exact And.intro rfl (Exists.intro _ (Exists.intro _ ⟨aG rfl (.refl _), aB [] rfl, rfl, rfl⟩))
set_option maxRecDepth 100000 in
set_option maxHeartbeats 1000000 in
theorem sc (F : Nat) (a1 : List (Int × (List UInt8) × (List UInt8) × List ((List UInt8) × List UInt8))) (q2 : Option Nat) (r3 : Bool) (H : jR F a1 = some r3) : ACalls Tryz.prog 153 [slE (ab Enc.int (ab Enc.str (ab Enc.str (Enc.sl (ab Enc.str Enc.str))))) a1 q2] [] (Ret (B r3) []) := by
 unfold jR at H
 refine ap Tryz.func153 rfl rfl ?_;show AW _ _ 21 _ _ _;refine af <| aa ?_;show AR _ _ _ _ _ [0] _;refine za rfl <| ag <| af ?_;obtain ⟨x4, x5, e6, H⟩ := cF H;refine aa ?_;show AR _ _ _ _ _ [0, 1, 2, 3, 4, 5, 6] _;refine zS rfl (ah (av := slE _ _ _) rfl) <| am rfl rfl (aC rfl yC rfl (pY F a1 q2 ([114, 101, 108] : List UInt8) x4 x5 e6) ?_);refine zS rfl (ah (av := .tup _) rfl) <| zS rfl (az (av := .v _) rfl rfl) <| zS rfl (az (av := .v _) rfl rfl) <| za rfl <| za rfl <| ag <| af ?_;obtain ⟨x7, e8, H⟩ := cd H;refine aa ?_;show AR _ _ _ _ _ [0, 1, 2, 3, 4, 5, 6, 7, 8, 9, 10, 11] _;refine zS rfl (ah (av := slE _ _ _) rfl) <| am rfl rfl (aC rfl nx rfl (gC F a1 q2 x7 e8) ?_);refine zS rfl (dR rfl rfl) <| zm rfl <| aY (l := [11]) 20 (B ((decide (x7 = ([108, 105, 110, 107] : List UInt8))) && ((!x5) || (decide (x4 = ([97, 108, 116, 101, 114, 110, 97, 116, 101] : List UInt8)))))) (fun K => ?_) ?_
 ·rcases al (decide (x7 = ([108, 105, 110, 107] : List UInt8))) with h9 | h9
  ·refine zM h9 rfl <| zU h9 rfl (bG rfl) <| zM h9 rfl <| aY (l := [10, 11]) 19 (B ((!x5) || (decide (x4 = ([97, 108, 116, 101, 114, 110, 97, 116, 101] : List UInt8))))) (fun K => ?_) ?_
   ·rcases al (!x5) with h10 | h10
    ·refine zF h10 rfl <| zF h10 rfl <| zU h9 rfl (aD (av := .v _) rfl h10 rfl) ?_;exact K _ 2 _ (ay (iQ h10)) rfl rfl
    ·refine zM h10 rfl <| zU h10 rfl (dR rfl rfl) <| zU h9 rfl (aE (av := .v _) rfl h10 rfl) ?_;exact K _ 2 _ (ay (iR h10)) rfl rfl
   refine zS rfl (aD (av := .v _) rfl h9 rfl) ?_;exact K _ 4 _ (ay (cz h9)) rfl rfl
  ·refine zF h9 rfl <| zF h9 rfl <| zF h9 rfl <| gU rfl rfl rfl rfl rfl <| gU rfl rfl rfl rfl rfl <| zF h9 rfl <| zS rfl (aE (av := .v _) rfl h9 rfl) ?_;exact K _ 6 _ (ay (cA h9)) rfl rfl
 refine za rfl <| ag <| aI ?_;obtain rfl := ak H;exact And.intro rfl (Exists.intro _ (Exists.intro _ ⟨aG rfl (.refl _), aB [] rfl, rfl, rfl⟩))
abbrev _root_.Go.Av.ee := @Tryz.underlying4
set_option maxRecDepth 100000 in
set_option maxHeartbeats 1000000 in
theorem tT (F : Nat) (a1 : List (Int × (List UInt8) × (List UInt8) × List ((List UInt8) × List UInt8))) (q2 : Option Nat) (o3 : Nat) (a4 : List (List UInt8)) (r5 : List (Int × (List UInt8) × (List UInt8) × List ((List UInt8) × List UInt8))) (r6 : Bool) (H : kU F a1 a4 = some (r5, r6)) : ACalls Tryz.prog 38 [slE (ab Enc.int (ab Enc.str (ab Enc.str (Enc.sl (ab Enc.str Enc.str))))) a1 q2, .fn (.func 39) [] [.pt o3 0]] [.obj o3 [slE Enc.str a4 none]] (fun e A' => e = .ret (.tup [slE (ab Enc.int (ab Enc.str (ab Enc.str (Enc.sl (ab Enc.str Enc.str))))) r5 none, B r6]) ∧ A' = [.obj o3 [slE Enc.str a4 none]]) := by
 unfold kU at H
 refine ib Tryz.func38 rfl rfl ?_;show AW _ _ 14 _ _ _;refine af <| aa ?_;show AR _ _ _ _ _ [0, 1, 2] _;refine zR rfl (dN rfl (.inl rfl)) <| zX rfl (bh (zs := [.slice none 0 0]) (by kernel_rfl)) ?_;rintro _ _ ⟨o7, rfl, rfl⟩;refine zX rfl (bh (zs := [.bool false]) (by kernel_rfl)) ?_;rintro _ _ ⟨o8, rfl, rfl⟩;refine ag <| iK (b := slE (ab Enc.int (ab Enc.str (ab Enc.str (Enc.sl (ab Enc.str Enc.str))))) ([] : List (Int × (List UInt8) × (List UInt8) × List ((List UInt8) × List UInt8))) none) 1 0 rfl rfl (.nil _) ?_;show AW _ _ _ _ _ ⟨_, _, [.obj o8 [B false], .obj o7 [slE (ab Enc.int (ab Enc.str (ab Enc.str (Enc.sl (ab Enc.str Enc.str))))) ([] : List (Int × (List UInt8) × (List UInt8) × List ((List UInt8) × List UInt8))) none], .obj o3 [slE Enc.str a4 none]]⟩;refine bJ (X := Nat × Bool × (List (Int × (List UInt8) × (List UInt8) × List ((List UInt8) × List UInt8)))) (fun (t24, y25, y26) => ⟨[(4, .pt o7 0), (5, .pt o8 0)], [.mark t24], [.obj o8 [B y25], .obj o7 [slE (ab Enc.int (ab Enc.str (ab Enc.str (Enc.sl (ab Enc.str Enc.str))))) y26 none], .obj o3 [slE Enc.str a4 none], .db t24]⟩) (fun (t24, y25, y26) => gZ y25 y26 = some (r5, r6)) ?_ ?_
 ·refine af ?_;obtain ⟨_, e9, H⟩ := cd H;refine aa ?_;show AR _ _ _ _ _ [0, 1] _;refine zS rfl (ah (av := slE _ _ _) rfl) <| am rfl rfl (aQ [] rfl rI rfl (mo (.cons (.tok _ _ _) (.nil)) (jF F a1 e9)) rfl (fun c A' h => by obtain ⟨_, h, _⟩ := h; cases h) ?_)
  rintro av A' ⟨o10, h, rfl⟩; cases h
  refine ag <| aR ?_;obtain ⟨x20, e21, H⟩ := cd H;refine AW.rangeK (α := List (Int × (List UInt8) × (List UInt8) × List ((List UInt8) × List UInt8))) (σ := Bool × (List (Int × (List UInt8) × (List UInt8) × List ((List UInt8) × List UInt8))) × Nat) (τ := Unit) (fun x => [slE (ab Enc.int (ab Enc.str (ab Enc.str (Enc.sl (ab Enc.str Enc.str))))) x none]) (fun s t => [.obj o8 [B s.1], .obj o7 [slE (ab Enc.int (ab Enc.str (ab Enc.str (Enc.sl (ab Enc.str Enc.str))))) s.2.1 none], .obj o3 [slE Enc.str a4 none]]) (fun s => jat [.ret] s.2.2) (fun s x => gb F a4 s.1 s.2.1 s.2.2 x) (false, ([] : List (Int × (List UInt8) × (List UInt8) × List ((List UInt8) × List UInt8))), 0) () x20 [0] [0, 0, 0] rfl rH (fun _ => rfl) (by decide) rfl rfl rfl (fun o T' hY => ku F T' _ o hY _ _ o10 a1 x20 e21) ?_ ?_
  ·rintro l ⟨y11, y12, z13⟩ _ x15 rv H;replace H : gb F a4 y11 y12 z13 x15 = some rv := H
   unfold gb at H
   obtain ⟨g19, H⟩ := aN H;obtain rfl := of_decide_eq_true g19;refine ⟨rfl, ?_⟩;show AW _ _ _ _ _ ⟨(9, slE (ab Enc.int (ab Enc.str (ab Enc.str (Enc.sl (ab Enc.str Enc.str))))) x15 none) :: _, [], _⟩;refine aa ?_;show AR _ _ _ _ _ [0] _;refine zS rfl (aJ (av := slE _ _ _) rfl) <| ag <| aR <| af ?_;obtain ⟨x16, e17, H⟩ := cd H;refine aa ?_;show AR _ _ _ _ _ [0, 1, 2] _;refine zS rfl (aH Tryz.underlying87 rfl rfl) <| zS rfl (ah (av := slE _ _ _) rfl) <| am rfl rfl (fm [2] rfl (.inl rfl) en39_fda rfl (sa F x15 none o3 a4 x16 e17) rfl (fun c A' h => by cases h.1) ?_)
   rintro av A' ⟨h, rfl⟩; cases h
   refine ag <| ax rfl (fun c18 => ?_) (fun c18 => ?_)
   ·replace H := aW c18 H;refine af <| aa ?_;show AR _ _ _ _ _ [0, 1, 2] _;refine zS rfl (ah (av := slE _ _ _) rfl) <| s0 rfl rfl (aq (i := 2) (c := slE _ _ _) (by kernel_rfl) rfl rfl rfl rfl (ac rfl)) <| s0 rfl rfl (aq (i := 1) (c := .v _) (by kernel_rfl) rfl rfl rfl rfl (ac rfl)) <| ag <| aI ?_;obtain rfl := ak H;exact ⟨rfl, rfl, (), aB [1, 1, 0] rfl⟩
   ·replace H := aX c18 H;refine aA ?_;obtain rfl := ak H;exact ⟨rfl, rfl, (), aB [1, 1, 0] rfl⟩
  rintro o22 _
  generalize hzz23 : x20.2.2 = z23 at H ⊢
  rcases bifz H with ⟨rfl, H⟩ | ⟨hz0, H⟩
  ·exact Exists.intro (o22, x20.1, x20.2.1) ⟨H, bb [2, 2, 2, 0] (.cons (.refl _) (.cons (.refl _) (.nil _))) rfl⟩
  rcases bifz H with ⟨rfl, H⟩ | ⟨hz1, H⟩
  ·refine aI ?_;obtain ⟨rfl, rfl⟩ := dx H;exact Exists.intro _ (And.intro (Unmark.at 0 rfl (.nil _)) (Exists.intro _ (Exists.intro _ ⟨dl (bD rfl (bo (c := slE _ _ _) 2 bO rfl rfl rfl rfl) (bo (c := .v _) 1 ee rfl rfl rfl rfl)), aB [3] rfl, rfl, rfl⟩)))
  exact uE H
 rintro ⟨t24, y25, y26⟩ H;replace H : gZ y25 y26 = some (r5, r6) := H
 unfold gZ at H
 refine af <| aa ?_;show AR _ _ _ _ _ [0, 1] _;refine s0 rfl rfl (aq (i := 1) (c := .v _) (by kernel_rfl) rfl rfl rfl rfl (ac rfl)) <| s0 rfl rfl (aq (i := 0) (c := .v _) (by kernel_rfl) rfl rfl rfl rfl (ac rfl)) <| ag <| iK (b := slE (ab Enc.int (ab Enc.str (ab Enc.str (Enc.sl (ab Enc.str Enc.str))))) ([] : List (Int × (List UInt8) × (List UInt8) × List ((List UInt8) × List UInt8))) none) 1 0 rfl rfl (.nil _) ?_;show AW _ _ _ _ _ ⟨_, _, [.obj o8 [B false], .obj o7 [slE (ab Enc.int (ab Enc.str (ab Enc.str (Enc.sl (ab Enc.str Enc.str))))) ([] : List (Int × (List UInt8) × (List UInt8) × List ((List UInt8) × List UInt8))) none], .obj o3 [slE Enc.str a4 none], .db t24]⟩;refine aI ?_;obtain ⟨rfl, rfl⟩ := dx H;exact Exists.intro _ (And.intro (Unmark.at 3 rfl (.nil _)) (Exists.intro _ (Exists.intro _ ⟨dl (bD rfl (bo (c := slE _ _ _) 1 bO rfl rfl rfl rfl) (bo (c := .v _) 0 ee rfl rfl rfl rfl)), aB [2] rfl, rfl, rfl⟩)))
set_option maxRecDepth 100000 in
set_option maxHeartbeats 1000000 in
theorem tU (F : Nat) (a1 : List (Int × (List UInt8) × (List UInt8) × List ((List UInt8) × List UInt8))) (q2 : Option Nat) (r3 : List (Int × (List UInt8) × (List UInt8) × List ((List UInt8) × List UInt8))) (r4 : Bool) (H : kV F a1 = some (r3, r4)) : ACalls Tryz.prog 38 [slE (ab Enc.int (ab Enc.str (ab Enc.str (Enc.sl (ab Enc.str Enc.str))))) a1 q2, .v (.func (.func 149) #[] #[])] [] (Ret (.tup [slE (ab Enc.int (ab Enc.str (ab Enc.str (Enc.sl (ab Enc.str Enc.str))))) r3 none, B r4]) []) := by
 unfold kV at H
 refine ib Tryz.func38 rfl rfl ?_;show AW _ _ 14 _ _ _;refine af <| aa ?_;show AR _ _ _ _ _ [0, 1, 2] _;refine zR rfl (dN rfl (.inl rfl)) <| zX rfl (bh (zs := [.slice none 0 0]) (by kernel_rfl)) ?_;rintro _ _ ⟨o5, rfl, rfl⟩;refine zX rfl (bh (zs := [.bool false]) (by kernel_rfl)) ?_;rintro _ _ ⟨o6, rfl, rfl⟩;refine ag <| iK (b := slE (ab Enc.int (ab Enc.str (ab Enc.str (Enc.sl (ab Enc.str Enc.str))))) ([] : List (Int × (List UInt8) × (List UInt8) × List ((List UInt8) × List UInt8))) none) 1 0 rfl rfl (.nil _) ?_;show AW _ _ _ _ _ ⟨_, _, [.obj o6 [B false], .obj o5 [slE (ab Enc.int (ab Enc.str (ab Enc.str (Enc.sl (ab Enc.str Enc.str))))) ([] : List (Int × (List UInt8) × (List UInt8) × List ((List UInt8) × List UInt8))) none]]⟩;refine bJ (X := Nat × Bool × (List (Int × (List UInt8) × (List UInt8) × List ((List UInt8) × List UInt8)))) (fun (t22, y23, y24) => ⟨[(4, .pt o5 0), (5, .pt o6 0)], [.mark t22], [.obj o6 [B y23], .obj o5 [slE (ab Enc.int (ab Enc.str (ab Enc.str (Enc.sl (ab Enc.str Enc.str))))) y24 none], .db t22]⟩) (fun (t22, y23, y24) => hC y23 y24 = some (r3, r4)) ?_ ?_
 ·refine af ?_;obtain ⟨_, e7, H⟩ := cd H;refine aa ?_;show AR _ _ _ _ _ [0, 1] _;refine zS rfl (ah (av := slE _ _ _) rfl) <| am rfl rfl (aQ [] rfl rI rfl (mo (.cons (.tok _ _ _) (.nil)) (jF F a1 e7)) rfl (fun c A' h => by obtain ⟨_, h, _⟩ := h; cases h) ?_)
  rintro av A' ⟨o8, h, rfl⟩; cases h
  refine ag <| aR ?_;obtain ⟨x18, e19, H⟩ := cd H;refine AW.rangeK (α := List (Int × (List UInt8) × (List UInt8) × List ((List UInt8) × List UInt8))) (σ := Bool × (List (Int × (List UInt8) × (List UInt8) × List ((List UInt8) × List UInt8))) × Nat) (τ := Unit) (fun x => [slE (ab Enc.int (ab Enc.str (ab Enc.str (Enc.sl (ab Enc.str Enc.str))))) x none]) (fun s t => [.obj o6 [B s.1], .obj o5 [slE (ab Enc.int (ab Enc.str (ab Enc.str (Enc.sl (ab Enc.str Enc.str))))) s.2.1 none]]) (fun s => jat [.ret] s.2.2) (fun s x => gc F s.1 s.2.1 s.2.2 x) (false, ([] : List (Int × (List UInt8) × (List UInt8) × List ((List UInt8) × List UInt8))), 0) () x18 [0] [0, 0] rfl rH (fun _ => rfl) (by decide) rfl rfl rfl (fun o T' hY => ku F T' _ o hY _ _ o8 a1 x18 e19) ?_ ?_
  ·rintro l ⟨y9, y10, z11⟩ _ x13 rv H;replace H : gc F y9 y10 z11 x13 = some rv := H
   unfold gc at H
   obtain ⟨g17, H⟩ := aN H;obtain rfl := of_decide_eq_true g17;refine ⟨rfl, ?_⟩;show AW _ _ _ _ _ ⟨(9, slE (ab Enc.int (ab Enc.str (ab Enc.str (Enc.sl (ab Enc.str Enc.str))))) x13 none) :: _, [], _⟩;refine aa ?_;show AR _ _ _ _ _ [0] _;refine zS rfl (aJ (av := slE _ _ _) rfl) <| ag <| aR <| af ?_;obtain ⟨x14, e15, H⟩ := cd H;refine aa ?_;show AR _ _ _ _ _ [0, 1, 2] _;refine zS rfl (aH Tryz.underlying87 rfl rfl) <| zS rfl (ah (av := slE _ _ _) rfl) <| am rfl rfl (AO.callFp rfl (.inr ⟨rfl, rfl, rfl⟩) yH rfl (uN F x13 none x14 e15) ?_);refine ag <| ax rfl (fun c16 => ?_) (fun c16 => ?_)
   ·replace H := aW c16 H;refine af <| aa ?_;show AR _ _ _ _ _ [0, 1, 2] _;refine zS rfl (ah (av := slE _ _ _) rfl) <| s0 rfl rfl (aq (i := 1) (c := slE _ _ _) (by kernel_rfl) rfl rfl rfl rfl (ac rfl)) <| s0 rfl rfl (aq (i := 0) (c := .v _) (by kernel_rfl) rfl rfl rfl rfl (ac rfl)) <| ag <| aI ?_;obtain rfl := ak H;exact ⟨rfl, rfl, (), aB [0, 0] rfl⟩
   ·replace H := aX c16 H;refine aA ?_;obtain rfl := ak H;exact ⟨rfl, rfl, (), aB [0, 0] rfl⟩
  rintro o20 _
  generalize hzz21 : x18.2.2 = z21 at H ⊢
  rcases bifz H with ⟨rfl, H⟩ | ⟨hz0, H⟩
  ·exact Exists.intro (o20, x18.1, x18.2.1) ⟨H, bb [2, 2, 0] (.cons (.refl _) (.cons (.refl _) (.nil _))) rfl⟩
  rcases bifz H with ⟨rfl, H⟩ | ⟨hz1, H⟩
  ·refine aI ?_;obtain ⟨rfl, rfl⟩ := dx H;exact Exists.intro _ (And.intro (Unmark.at 0 rfl (.nil _)) (Exists.intro _ (Exists.intro _ ⟨dl (bD rfl (bo (c := slE _ _ _) 2 bO rfl rfl rfl rfl) (bo (c := .v _) 1 ee rfl rfl rfl rfl)), aB [] rfl, rfl, rfl⟩)))
  exact uE H
 rintro ⟨t22, y23, y24⟩ H;replace H : hC y23 y24 = some (r3, r4) := H
 unfold hC at H
 refine af <| aa ?_;show AR _ _ _ _ _ [0, 1] _;refine s0 rfl rfl (aq (i := 1) (c := .v _) (by kernel_rfl) rfl rfl rfl rfl (ac rfl)) <| s0 rfl rfl (aq (i := 0) (c := .v _) (by kernel_rfl) rfl rfl rfl rfl (ac rfl)) <| ag <| iK (b := slE (ab Enc.int (ab Enc.str (ab Enc.str (Enc.sl (ab Enc.str Enc.str))))) ([] : List (Int × (List UInt8) × (List UInt8) × List ((List UInt8) × List UInt8))) none) 1 0 rfl rfl (.nil _) ?_;show AW _ _ _ _ _ ⟨_, _, [.obj o6 [B false], .obj o5 [slE (ab Enc.int (ab Enc.str (ab Enc.str (Enc.sl (ab Enc.str Enc.str))))) ([] : List (Int × (List UInt8) × (List UInt8) × List ((List UInt8) × List UInt8))) none], .db t22]⟩;refine aI ?_;obtain ⟨rfl, rfl⟩ := dx H;exact Exists.intro _ (And.intro (Unmark.at 2 rfl (.nil _)) (Exists.intro _ (Exists.intro _ ⟨dl (bD rfl (bo (c := slE _ _ _) 1 bO rfl rfl rfl rfl) (bo (c := .v _) 0 ee rfl rfl rfl rfl)), aB [] rfl, rfl, rfl⟩)))
set_option maxRecDepth 100000 in
set_option maxHeartbeats 1000000 in
theorem tV (F : Nat) (a1 : List (Int × (List UInt8) × (List UInt8) × List ((List UInt8) × List UInt8))) (q2 : Option Nat) (r3 : List (Int × (List UInt8) × (List UInt8) × List ((List UInt8) × List UInt8))) (r4 : Bool) (H : kW F a1 = some (r3, r4)) : ACalls Tryz.prog 38 [slE (ab Enc.int (ab Enc.str (ab Enc.str (Enc.sl (ab Enc.str Enc.str))))) a1 q2, .v (.func (.func 153) #[] #[])] [] (Ret (.tup [slE (ab Enc.int (ab Enc.str (ab Enc.str (Enc.sl (ab Enc.str Enc.str))))) r3 none, B r4]) []) := by
 unfold kW at H
 refine ib Tryz.func38 rfl rfl ?_;show AW _ _ 14 _ _ _;refine af <| aa ?_;show AR _ _ _ _ _ [0, 1, 2] _;refine zR rfl (dN rfl (.inl rfl)) <| zX rfl (bh (zs := [.slice none 0 0]) (by kernel_rfl)) ?_;rintro _ _ ⟨o5, rfl, rfl⟩;refine zX rfl (bh (zs := [.bool false]) (by kernel_rfl)) ?_;rintro _ _ ⟨o6, rfl, rfl⟩;refine ag <| iK (b := slE (ab Enc.int (ab Enc.str (ab Enc.str (Enc.sl (ab Enc.str Enc.str))))) ([] : List (Int × (List UInt8) × (List UInt8) × List ((List UInt8) × List UInt8))) none) 1 0 rfl rfl (.nil _) ?_;show AW _ _ _ _ _ ⟨_, _, [.obj o6 [B false], .obj o5 [slE (ab Enc.int (ab Enc.str (ab Enc.str (Enc.sl (ab Enc.str Enc.str))))) ([] : List (Int × (List UInt8) × (List UInt8) × List ((List UInt8) × List UInt8))) none]]⟩;refine bJ (X := Nat × Bool × (List (Int × (List UInt8) × (List UInt8) × List ((List UInt8) × List UInt8)))) (fun (t22, y23, y24) => ⟨[(4, .pt o5 0), (5, .pt o6 0)], [.mark t22], [.obj o6 [B y23], .obj o5 [slE (ab Enc.int (ab Enc.str (ab Enc.str (Enc.sl (ab Enc.str Enc.str))))) y24 none], .db t22]⟩) (fun (t22, y23, y24) => hH y23 y24 = some (r3, r4)) ?_ ?_
 ·refine af ?_;obtain ⟨_, e7, H⟩ := cd H;refine aa ?_;show AR _ _ _ _ _ [0, 1] _;refine zS rfl (ah (av := slE _ _ _) rfl) <| am rfl rfl (aQ [] rfl rI rfl (mo (.cons (.tok _ _ _) (.nil)) (jF F a1 e7)) rfl (fun c A' h => by obtain ⟨_, h, _⟩ := h; cases h) ?_)
  rintro av A' ⟨o8, h, rfl⟩; cases h
  refine ag <| aR ?_;obtain ⟨x18, e19, H⟩ := cd H;refine AW.rangeK (α := List (Int × (List UInt8) × (List UInt8) × List ((List UInt8) × List UInt8))) (σ := Bool × (List (Int × (List UInt8) × (List UInt8) × List ((List UInt8) × List UInt8))) × Nat) (τ := Unit) (fun x => [slE (ab Enc.int (ab Enc.str (ab Enc.str (Enc.sl (ab Enc.str Enc.str))))) x none]) (fun s t => [.obj o6 [B s.1], .obj o5 [slE (ab Enc.int (ab Enc.str (ab Enc.str (Enc.sl (ab Enc.str Enc.str))))) s.2.1 none]]) (fun s => jat [.ret] s.2.2) (fun s x => gd F s.1 s.2.1 s.2.2 x) (false, ([] : List (Int × (List UInt8) × (List UInt8) × List ((List UInt8) × List UInt8))), 0) () x18 [0] [0, 0] rfl rH (fun _ => rfl) (by decide) rfl rfl rfl (fun o T' hY => ku F T' _ o hY _ _ o8 a1 x18 e19) ?_ ?_
  ·rintro l ⟨y9, y10, z11⟩ _ x13 rv H;replace H : gd F y9 y10 z11 x13 = some rv := H
   unfold gd at H
   obtain ⟨g17, H⟩ := aN H;obtain rfl := of_decide_eq_true g17;refine ⟨rfl, ?_⟩;show AW _ _ _ _ _ ⟨(9, slE (ab Enc.int (ab Enc.str (ab Enc.str (Enc.sl (ab Enc.str Enc.str))))) x13 none) :: _, [], _⟩;refine aa ?_;show AR _ _ _ _ _ [0] _;refine zS rfl (aJ (av := slE _ _ _) rfl) <| ag <| aR <| af ?_;obtain ⟨x14, e15, H⟩ := cd H;refine aa ?_;show AR _ _ _ _ _ [0, 1, 2] _;refine zS rfl (aH Tryz.underlying87 rfl rfl) <| zS rfl (ah (av := slE _ _ _) rfl) <| am rfl rfl (AO.callFp rfl (.inr ⟨rfl, rfl, rfl⟩) yD rfl (sc F x13 none x14 e15) ?_);refine ag <| ax rfl (fun c16 => ?_) (fun c16 => ?_)
   ·replace H := aW c16 H;refine af <| aa ?_;show AR _ _ _ _ _ [0, 1, 2] _;refine zS rfl (ah (av := slE _ _ _) rfl) <| s0 rfl rfl (aq (i := 1) (c := slE _ _ _) (by kernel_rfl) rfl rfl rfl rfl (ac rfl)) <| s0 rfl rfl (aq (i := 0) (c := .v _) (by kernel_rfl) rfl rfl rfl rfl (ac rfl)) <| ag <| aI ?_;obtain rfl := ak H;exact ⟨rfl, rfl, (), aB [0, 0] rfl⟩
   ·replace H := aX c16 H;refine aA ?_;obtain rfl := ak H;exact ⟨rfl, rfl, (), aB [0, 0] rfl⟩
  rintro o20 _
  generalize hzz21 : x18.2.2 = z21 at H ⊢
  rcases bifz H with ⟨rfl, H⟩ | ⟨hz0, H⟩
  ·exact Exists.intro (o20, x18.1, x18.2.1) ⟨H, bb [2, 2, 0] (.cons (.refl _) (.cons (.refl _) (.nil _))) rfl⟩
  rcases bifz H with ⟨rfl, H⟩ | ⟨hz1, H⟩
  ·refine aI ?_;obtain ⟨rfl, rfl⟩ := dx H;exact Exists.intro _ (And.intro (Unmark.at 0 rfl (.nil _)) (Exists.intro _ (Exists.intro _ ⟨dl (bD rfl (bo (c := slE _ _ _) 2 bO rfl rfl rfl rfl) (bo (c := .v _) 1 ee rfl rfl rfl rfl)), aB [] rfl, rfl, rfl⟩)))
  exact uE H
 rintro ⟨t22, y23, y24⟩ H;replace H : hH y23 y24 = some (r3, r4) := H
 unfold hH at H
 refine af <| aa ?_;show AR _ _ _ _ _ [0, 1] _;refine s0 rfl rfl (aq (i := 1) (c := .v _) (by kernel_rfl) rfl rfl rfl rfl (ac rfl)) <| s0 rfl rfl (aq (i := 0) (c := .v _) (by kernel_rfl) rfl rfl rfl rfl (ac rfl)) <| ag <| iK (b := slE (ab Enc.int (ab Enc.str (ab Enc.str (Enc.sl (ab Enc.str Enc.str))))) ([] : List (Int × (List UInt8) × (List UInt8) × List ((List UInt8) × List UInt8))) none) 1 0 rfl rfl (.nil _) ?_;show AW _ _ _ _ _ ⟨_, _, [.obj o6 [B false], .obj o5 [slE (ab Enc.int (ab Enc.str (ab Enc.str (Enc.sl (ab Enc.str Enc.str))))) ([] : List (Int × (List UInt8) × (List UInt8) × List ((List UInt8) × List UInt8))) none], .db t22]⟩;refine aI ?_;obtain ⟨rfl, rfl⟩ := dx H;exact Exists.intro _ (And.intro (Unmark.at 2 rfl (.nil _)) (Exists.intro _ (Exists.intro _ ⟨dl (bD rfl (bo (c := slE _ _ _) 1 bO rfl rfl rfl rfl) (bo (c := .v _) 0 ee rfl rfl rfl rfl)), aB [] rfl, rfl, rfl⟩)))
set_option maxRecDepth 100000 in
set_option maxHeartbeats 1000000 in
theorem dT (F : Nat) (a1 : List (Int × (List UInt8) × (List UInt8) × List ((List UInt8) × List UInt8))) (q2 : Option Nat) (a3 : List (List UInt8)) (r4 : List UInt8) (H : da F a1 a3 = some r4) : ACalls Tryz.prog 25 [slE (ab Enc.int (ab Enc.str (ab Enc.str (Enc.sl (ab Enc.str Enc.str))))) a1 q2, slE Enc.str a3 none] [] (Ret (S r4) []) := by
 unfold da at H
 refine ap Tryz.func25 rfl rfl ?_;show AW _ _ 15 _ _ _;refine af <| aa ?_;show AR _ _ _ _ _ [0, 1] _;refine zX rfl (py rfl (.inl rfl)) ?_;rintro _ _ ⟨o5, rfl, rfl⟩;refine za rfl <| ag <| af ?_;obtain ⟨x6, x7, e8, H⟩ := cF H;refine aa ?_;show AR _ _ _ _ _ [0, 1, 2, 3, 4, 5, 6, 7] _;refine zS rfl (ah (av := slE _ _ _) rfl) <| zS rfl (fH rfl rfl) <| am rfl rfl (aQ [0] rfl en38_fda rfl (tT F a1 q2 o5 a3 x6 x7 e8) rfl (fun c A' h => by cases h.1) ?_)
 rintro av A' ⟨h, rfl⟩; cases h
 refine zS rfl (ah (av := .tup _) rfl) <| zS rfl (az (av := slE _ _ _) rfl rfl) <| zS rfl (az (av := .v _) rfl rfl) <| zS rfl (aJ (av := slE _ _ _) rfl) <| za rfl <| ag <| af ?_;obtain ⟨x9, e10, H⟩ := cd H;refine aa ?_;show AR _ _ _ _ _ [0, 1, 2] _;refine zS rfl (ah (av := slE _ _ _) rfl) <| am rfl rfl (aC rfl en13_fda rfl (oV F x6 none x9 e10) ?_);refine za rfl <| ag <| aI ?_;obtain rfl := ak H;exact And.intro rfl (Exists.intro _ (Exists.intro _ ⟨aG rfl (.refl _), aB [] rfl, rfl, rfl⟩))
end Go.Proofs.YtkbfjepffpddfaaGreatDoor
namespace Go.Pv
def kY (F : Nat) (a1 : Int) : Option Bool :=
grd (fE a1 4) <|
fq (decide (a1 % 4 = 0)) (fE a1 100) <|
fq ((decide (a1 % 4 = 0)) && (!(!decide (a1 % 100 = 0)))) (fE a1 400) <|
some ((decide (a1 % 4 = 0)) && ((!decide (a1 % 100 = 0)) || (decide (a1 % 400 = 0))))
def nH (F : Nat) (a2 : Int) (a4 : Int) (a5 : Int) (a6 : Int) (a7 : Int) (a8 : Int) (a9 : Int) (a10 : Int) (a11 : Int) (a12 : Int) (a13 : Int) (a14 : Int) (a15 : Int) (a16 : Int) : Option Int :=
bnd (kY F a2) fun x18 =>
bif x18 then
  grd (okI (a6 + 1)) <|
  some (a6 + 1)
else
  some a6
def jJ (F : Nat) (a1 : Int) : Option (Int × Int × Int × Int × Int × Int × Int × Int × Int × Int × Int × Int × Int) :=
bnd (nH F a1 0 31 28 31 30 31 30 31 31 30 31 30 31) fun x18 =>
some (0, 31, x18, 31, 30, 31, 30, 31, 31, 30, 31, 30, 31)
def kZ (F : Nat) (a1 : Int) (a2 : Int) : Option Int :=
bif (decide (a2 < 1)) || (decide (12 < a2)) then
  some 0
else
  bnd (jJ F a1) fun x6 =>
  grd (dr a2 13) <|
  lt (at_ ([x6.1, x6.2.1, x6.2.2.1, x6.2.2.2.1, x6.2.2.2.2.1, x6.2.2.2.2.2.1, x6.2.2.2.2.2.2.1, x6.2.2.2.2.2.2.2.1, x6.2.2.2.2.2.2.2.2.1, x6.2.2.2.2.2.2.2.2.2.1, x6.2.2.2.2.2.2.2.2.2.2.1, x6.2.2.2.2.2.2.2.2.2.2.2.1, x6.2.2.2.2.2.2.2.2.2.2.2.2] : List Int) a2) fun x9 =>
  some x9
def dM (a3 : Int) (y8 : Int) (y9 : Int) : Option Int :=
grd (fE y8 400) <|
grd (okI (146097 * (y8 / 400))) <|
grd (fE y8 400) <|
grd (okI (365 * (y8 % 400))) <|
grd (okI ((146097 * (y8 / 400)) + (365 * (y8 % 400)))) <|
grd (fE y8 400) <|
grd (fE (y8 % 400) 4) <|
grd (okI (((146097 * (y8 / 400)) + (365 * (y8 % 400))) + ((y8 % 400) / 4))) <|
grd (fE y8 400) <|
grd (fE (y8 % 400) 100) <|
grd (okI ((((146097 * (y8 / 400)) + (365 * (y8 % 400))) + ((y8 % 400) / 4)) - ((y8 % 400) / 100))) <|
grd (okI (y9 - 3)) <|
grd (okI (153 * (y9 - 3))) <|
grd (okI ((153 * (y9 - 3)) + 2)) <|
grd (fE ((153 * (y9 - 3)) + 2) 5) <|
grd (okI (((((146097 * (y8 / 400)) + (365 * (y8 % 400))) + ((y8 % 400) / 4)) - ((y8 % 400) / 100)) + (((153 * (y9 - 3)) + 2) / 5))) <|
grd (okI ((((((146097 * (y8 / 400)) + (365 * (y8 % 400))) + ((y8 % 400) / 4)) - ((y8 % 400) / 100)) + (((153 * (y9 - 3)) + 2) / 5)) + a3)) <|
grd (okI (((((((146097 * (y8 / 400)) + (365 * (y8 % 400))) + ((y8 % 400) / 4)) - ((y8 % 400) / 100)) + (((153 * (y9 - 3)) + 2) / 5)) + a3) - 1)) <|
grd (okI ((((((((146097 * (y8 / 400)) + (365 * (y8 % 400))) + ((y8 % 400) / 4)) - ((y8 % 400) / 100)) + (((153 * (y9 - 3)) + 2) / 5)) + a3) - 1) - 719468)) <|
some ((((((((146097 * (y8 / 400)) + (365 * (y8 % 400))) + ((y8 % 400) / 4)) - ((y8 % 400) / 100)) + (((153 * (y9 - 3)) + 2) / 5)) + a3) - 1) - 719468)
def jh (F : Nat) (a1 : Int) (a2 : Int) (a3 : Int) : Option Int :=
bif decide (a2 ≤ 2) then
  grd (okI (a1 - 1)) <|
  grd (okI (a2 + 12)) <|
  dM a3 (a1 - 1) (a2 + 12)
else
  dM a3 a1 a2
def kM (F : Nat) (a1 : Int) (a2 : Int) (a3 : Int) : Option (Int × Int) :=
kz (!(((decide (a1 < 1)) || (decide (9999 < a1))) || (decide (a3 < 1)))) (kZ F a1 a2) fun x9 =>
bif (((decide (a1 < 1)) || (decide (9999 < a1))) || (decide (a3 < 1))) || (decide (x9 < a3)) then
  some (0, 1)
else
  bnd (jh F a1 a2 a3) fun x12 =>
  some (x12, 0)
def jk (F : Nat) (a1 : Int) (a2 : Int) : Option Bool :=
some ((decide (0 ≤ a1)) && (decide (a1 < a2)))
def nz (F : Nat) (a1 : Int) (a2 : Int) (a3 : Int) (a4 : Int) (a5 : Int) (a6 : Int) : Option Bool :=
ft (kM F a1 a2 a3) fun x8 x9 =>
kz (decide (x9 = 0)) (jk F a4 24) fun x12 =>
kz ((decide (x9 = 0)) && x12) (jk F a5 60) fun x15 =>
kz (((decide (x9 = 0)) && x12) && x15) (jk F a6 60) fun x18 =>
some ((((decide (x9 = 0)) && x12) && x15) && x18)
end Go.Pv
namespace Go.Proofs.YtkbfjepffpddfaaGreatDoor
open Go.RowKit Go.Av Go.Pv
theorem pR : ∀ (args : Array Value) (w : World), (callFunc 165 args).run Tryz.prog w = .ok (.enter 165 args) w := fun _ _ => by kernel_rfl
theorem yw : ∀ (args : Array Value) (w : World), (callFunc 167 args).run Tryz.prog w = .ok (.enter 167 args) w := fun _ _ => by kernel_rfl
theorem yu : ∀ (args : Array Value) (w : World), (callFunc 168 args).run Tryz.prog w = .ok (.enter 168 args) w := fun _ _ => by kernel_rfl
theorem yt : ∀ (args : Array Value) (w : World), (callFunc 169 args).run Tryz.prog w = .ok (.enter 169 args) w := fun _ _ => by kernel_rfl
theorem yq : ∀ (args : Array Value) (w : World), (callFunc 170 args).run Tryz.prog w = .ok (.enter 170 args) w := fun _ _ => by kernel_rfl
theorem yp : ∀ (args : Array Value) (w : World), (callFunc 171 args).run Tryz.prog w = .ok (.enter 171 args) w := fun _ _ => by kernel_rfl
theorem yo : ∀ (args : Array Value) (w : World), (callFunc 172 args).run Tryz.prog w = .ok (.enter 172 args) w := fun _ _ => by kernel_rfl
set_option maxRecDepth 100000 in
set_option maxHeartbeats 1000000 in
theorem tX (F : Nat) (a1 : Int) (r2 : Bool) (H : kY F a1 = some r2) : ACalls Tryz.prog 172 [i64 a1] [] (Ret (B r2) []) := by
 unfold kY at H
 refine ap Tryz.func172 rfl rfl ?_;show AW _ _ 16 _ _ _;refine af <| aa ?_;show AR _ _ _ _ _ [0] _;refine za rfl <| ag <| af ?_;obtain ⟨g3, H⟩ := aN H;obtain ⟨g5, H⟩ := cQ H;obtain ⟨g7, H⟩ := cQ H;refine aa ?_;show AR _ _ _ _ _ [0, 1, 2, 3, 4, 5, 6, 7, 8, 9, 10, 11, 12, 13] _;refine zm rfl <| zS rfl (uk rfl rfl g3) <| zS rfl (bK rfl rfl) <| zm rfl <| aY (l := [13]) 15 (B ((decide (a1 % 4 = 0)) && ((!decide (a1 % 100 = 0)) || (decide (a1 % 400 = 0))))) (fun K => ?_) ?_
 ·rcases al (decide (a1 % 4 = 0)) with h4 | h4
  ·refine zM h4 rfl <| zU h4 rfl (uk rfl rfl (g5 h4)) <| zU h4 rfl (kD rfl rfl) <| zM h4 rfl <| aY (l := [12, 13]) 14 (B ((!decide (a1 % 100 = 0)) || (decide (a1 % 400 = 0)))) (fun K => ?_) ?_
   ·rcases al (!decide (a1 % 100 = 0)) with h6 | h6
    ·refine zF h6 rfl <| zF h6 rfl <| zF h6 rfl <| zU h4 rfl (aD (av := .v _) rfl h6 rfl) ?_;exact K _ 3 _ (ay (iQ h6)) rfl rfl
    ·refine zM h6 rfl <| zU h6 rfl (uk rfl rfl (g7 (lY h4 (nf h6)))) <| zU h6 rfl (bK rfl rfl) <| zU h4 rfl (aE (av := .v _) rfl h6 rfl) ?_;exact K _ 3 _ (ay (iR h6)) rfl rfl
   refine zS rfl (aD (av := .v _) rfl h4 rfl) ?_;exact K _ 5 _ (ay (cz h4)) rfl rfl
  ·refine zF h4 rfl <| zF h4 rfl <| zF h4 rfl <| zF h4 rfl <| gU rfl rfl rfl rfl rfl <| gU rfl rfl rfl rfl rfl <| gU rfl rfl rfl rfl rfl <| zF h4 rfl <| zS rfl (aE (av := .v _) rfl h4 rfl) ?_;exact K _ 8 _ (ay (cA h4)) rfl rfl
 refine za rfl <| ag <| aI ?_;obtain rfl := ak H;exact And.intro rfl (Exists.intro _ (Exists.intro _ ⟨aG rfl (.refl _), aB [] rfl, rfl, rfl⟩))
abbrev _root_.Go.Av.ez := @Tryz.underlying198
set_option maxRecDepth 100000 in
set_option maxHeartbeats 1000000 in
theorem uR (F : Nat) (o1 : Nat) (a2 : Int) (o3 : Nat) (a4 : Int) (a5 : Int) (a6 : Int) (a7 : Int) (a8 : Int) (a9 : Int) (a10 : Int) (a11 : Int) (a12 : Int) (a13 : Int) (a14 : Int) (a15 : Int) (a16 : Int) (r17 : Int) (H : nH F a2 a4 a5 a6 a7 a8 a9 a10 a11 a12 a13 a14 a15 a16 = some r17) : ACalls Tryz.prog 171 [.pt o1 0, .pt o3 0] [.obj o1 [i64 a2], .obj o3 [i64 a4, i64 a5, i64 a6, i64 a7, i64 a8, i64 a9, i64 a10, i64 a11, i64 a12, i64 a13, i64 a14, i64 a15, i64 a16]] (fun e A' => e = .ret (.tup []) ∧ A' = [.obj o1 [i64 a2], .obj o3 [i64 a4, i64 a5, i64 r17, i64 a7, i64 a8, i64 a9, i64 a10, i64 a11, i64 a12, i64 a13, i64 a14, i64 a15, i64 a16]]) := by
 unfold nH at H
 refine ap Tryz.func171 rfl rfl ?_;show AW _ _ 8 _ _ _;refine af ?_;obtain ⟨x18, e19, H⟩ := cd H;refine aa ?_;show AR _ _ _ _ _ [0, 1] _;refine zR rfl (ao (i := 0) aM rfl rfl rfl rfl) <| am rfl rfl (aC rfl yo rfl (tX F a2 x18 e19) ?_);refine ag <| ax rfl (fun c20 => ?_) (fun c20 => ?_)
 ·replace H := aW c20 H;obtain ⟨g21, H⟩ := aN H;refine aa ?_;show AR _ _ _ _ _ [0, 1, 2, 3, 4] _;refine zS rfl (lh (Ar := 0) (k := 1) (m := 2) ez (by kernel_rfl) rfl rfl rfl (by decide)) <| zR rfl (ao (i := 1) aM rfl rfl rfl rfl) <| zS rfl (cX rfl rfl g21) <| zS rfl (lh (Ar := 0) (k := 1) (m := 2) ez (by kernel_rfl) rfl rfl rfl (by decide)) <| s0 rfl rfl (aq (i := 1) (c := .v _) (by kernel_rfl) rfl rfl rfl rfl (ac rfl)) <| ag ?_;obtain rfl := ak H;exact And.intro rfl (Exists.intro _ (Exists.intro _ ⟨bj rfl, aB [0, 0] rfl, rfl, rfl⟩))
 ·replace H := aX c20 H;refine aA ?_;obtain rfl := ak H;exact And.intro rfl (Exists.intro _ (Exists.intro _ ⟨bj rfl, aB [0, 0] rfl, rfl, rfl⟩))
set_option maxRecDepth 100000 in
set_option maxHeartbeats 1000000 in
theorem qA (F : Nat) (a1 : Int) (r2 : Int) (r3 : Int) (r4 : Int) (r5 : Int) (r6 : Int) (r7 : Int) (r8 : Int) (r9 : Int) (r10 : Int) (r11 : Int) (r12 : Int) (r13 : Int) (r14 : Int) (H : jJ F a1 = some (r2, r3, r4, r5, r6, r7, r8, r9, r10, r11, r12, r13, r14)) : ACalls Tryz.prog 170 [i64 a1] [] (Ret (.agg [i64 r2, i64 r3, i64 r4, i64 r5, i64 r6, i64 r7, i64 r8, i64 r9, i64 r10, i64 r11, i64 r12, i64 r13, i64 r14]) []) := by
 unfold jJ at H
 refine ap Tryz.func170 rfl rfl ?_;show AW _ _ 10 _ _ _;refine af <| aa ?_;show AR _ _ _ _ _ [0, 1] _;refine zX rfl (py rfl (.inl rfl)) ?_;rintro _ _ ⟨o15, rfl, rfl⟩;refine zX rfl (bh (zs := [.int .i64 0, .int .i64 0, .int .i64 0, .int .i64 0, .int .i64 0, .int .i64 0, .int .i64 0, .int .i64 0, .int .i64 0, .int .i64 0, .int .i64 0, .int .i64 0, .int .i64 0]) (by kernel_rfl)) ?_;rintro _ _ ⟨o16, rfl, rfl⟩;refine ag <| af <| aa ?_;show AR _ _ _ _ _ [0, 1, 2] _;refine zS rfl (wx (zs := [.int .i64 0, .int .i64 0, .int .i64 0, .int .i64 0, .int .i64 0, .int .i64 0, .int .i64 0, .int .i64 0, .int .i64 0, .int .i64 0, .int .i64 0, .int .i64 0, .int .i64 0]) (k := 1) (cs := [i64 0, i64 31, i64 28, i64 31, i64 30, i64 31, i64 30, i64 31, i64 31, i64 30, i64 31, i64 30, i64 31]) ez (by kernel_rfl) (by kernel_rfl) rfl rfl (by kernel_rfl)) <| zX rfl (bh (zs := [.int .i64 0, .int .i64 0, .int .i64 0, .int .i64 0, .int .i64 0, .int .i64 0, .int .i64 0, .int .i64 0, .int .i64 0, .int .i64 0, .int .i64 0, .int .i64 0, .int .i64 0]) (by kernel_rfl)) ?_;rintro _ _ ⟨o17, rfl, rfl⟩;refine s0 rfl rfl (aV (i := 0) (vs := [i64 0, i64 31, i64 28, i64 31, i64 30, i64 31, i64 30, i64 31, i64 31, i64 30, i64 31, i64 30, i64 31]) (by kernel_rfl) rfl rfl (by simp [bB, slE]) rfl (ac rfl)) <| ag <| af <| aa ?_;show AR _ _ _ _ _ [0, 1] _;refine zS rfl (fH rfl rfl) <| zS rfl (aJ (av := .fn _ _ _) rfl) <| ag <| af ?_;obtain ⟨x18, e19, H⟩ := cd H
 refine aa ?_;show AR _ _ _ _ _ [0, 1] _;refine zS rfl (ah (av := .fn _ _ _) rfl) <| am rfl rfl (fm [2, 0] rfl (.inl rfl) yp rfl (uR F o15 a1 o17 0 31 28 31 30 31 30 31 31 30 31 30 31 x18 e19) rfl (fun c A' h => by cases h.1) ?_)
 rintro av A' ⟨h, rfl⟩; cases h
 refine ag <| af <| aa ?_;show AR _ _ _ _ _ [0, 1] _;refine zR rfl (dW (i := 1) (n := 13) ez rfl (by kernel_rfl) rfl rfl (ac rfl)) <| s0 rfl rfl (aV (i := 2) (vs := [i64 0, i64 31, i64 x18, i64 31, i64 30, i64 31, i64 30, i64 31, i64 31, i64 30, i64 31, i64 30, i64 31]) (by kernel_rfl) rfl rfl (by simp [bB, slE]) rfl (ac rfl)) <| ag <| aI ?_;obtain ⟨rfl, rfl, rfl, rfl, rfl, rfl, rfl, rfl, rfl, rfl, rfl, rfl, rfl⟩ := res13 H;exact And.intro rfl (Exists.intro _ (Exists.intro _ ⟨dl (ls rfl (CellV.agg (off := 0) (cs := [i64 0, i64 31, i64 x18, i64 31, i64 30, i64 31, i64 30, i64 31, i64 31, i64 30, i64 31, i64 30, i64 31]) (n := 13) 2 ez rfl (by kernel_rfl) rfl rfl (ac rfl))), aB [] rfl, rfl, rfl⟩))
set_option maxRecDepth 100000 in
set_option maxHeartbeats 1000000 in
theorem tY (F : Nat) (a1 : Int) (a2 : Int) (r3 : Int) (H : kZ F a1 a2 = some r3) : ACalls Tryz.prog 168 [i64 a1, i64 a2] [] (Ret (i64 r3) []) := by
 unfold kZ at H
 refine ap Tryz.func168 rfl rfl ?_;show AW _ _ 15 _ _ _;refine af <| aa ?_;show AR _ _ _ _ _ [0] _;refine za rfl <| ag <| af <| af <| aa ?_;show AR _ _ _ _ _ [0, 1, 2, 3, 4, 5] _;refine zm rfl <| zS rfl (bX rfl rfl) <| zm rfl <| aY (l := []) 10 (B ((decide (a2 < 1)) || (decide (12 < a2)))) (fun K => ?_) ?_
 ·rcases al (decide (a2 < 1)) with h4 | h4
  ·refine zF h4 rfl <| zF h4 rfl <| zS rfl (aD (av := .v _) rfl h4 rfl) ?_;exact K _ 2 _ (ay (iQ h4)) rfl rfl
  ·refine zM h4 rfl <| zU h4 rfl (eW rfl rfl) <| zS rfl (aE (av := .v _) rfl h4 rfl) ?_;exact K _ 2 _ (ay (iR h4)) rfl rfl
 refine ag <| ax rfl (fun c5 => ?_) (fun c5 => ?_)
 ·replace H := aW c5 H;refine af <| aa ?_;show AR _ _ _ _ _ [0] _;refine za rfl <| ag <| aI ?_;obtain rfl := ak H;exact And.intro rfl (Exists.intro _ (Exists.intro _ ⟨aG rfl (.refl _), aB [] rfl, rfl, rfl⟩))
 ·replace H := aX c5 H;refine aA <| af ?_;obtain ⟨x6, e7, H⟩ := cd H;obtain ⟨g8, H⟩ := aN H;obtain ⟨x9, e10, H⟩ := bR H;refine aa ?_;show AR _ _ _ _ _ [0, 1, 2, 3, 4] _;refine zm rfl <| am rfl rfl (aC rfl yq rfl (qA F a1 x6.1 x6.2.1 x6.2.2.1 x6.2.2.2.1 x6.2.2.2.2.1 x6.2.2.2.2.2.1 x6.2.2.2.2.2.2.1 x6.2.2.2.2.2.2.2.1 x6.2.2.2.2.2.2.2.2.1 x6.2.2.2.2.2.2.2.2.2.1 x6.2.2.2.2.2.2.2.2.2.2.1 x6.2.2.2.2.2.2.2.2.2.2.2.1 x6.2.2.2.2.2.2.2.2.2.2.2.2 e7) ?_);refine zm rfl <| zS rfl (sm (E := Enc.int) (l := ([x6.1, x6.2.1, x6.2.2.1, x6.2.2.2.1, x6.2.2.2.2.1, x6.2.2.2.2.2.1, x6.2.2.2.2.2.2.1, x6.2.2.2.2.2.2.2.1, x6.2.2.2.2.2.2.2.2.1, x6.2.2.2.2.2.2.2.2.2.1, x6.2.2.2.2.2.2.2.2.2.2.1, x6.2.2.2.2.2.2.2.2.2.2.2.1, x6.2.2.2.2.2.2.2.2.2.2.2.2] : List Int)) rfl ez aM rfl (by kernel_rfl) rfl rfl rfl g8 e10 rfl) <| za rfl <| ag <| aI ?_;obtain rfl := ak H;exact And.intro rfl (Exists.intro _ (Exists.intro _ ⟨aG rfl (.refl _), aB [] rfl, rfl, rfl⟩))
set_option maxRecDepth 100000 in
set_option maxHeartbeats 1000000 in
theorem qY (F : Nat) (a1 : Int) (a2 : Int) (a3 : Int) (r4 : Int) (H : jh F a1 a2 a3 = some r4) : ACalls Tryz.prog 169 [i64 a1, i64 a2, i64 a3] [] (Ret (i64 r4) []) := by
 unfold jh at H
 refine ap Tryz.func169 rfl rfl ?_;show AW _ _ 38 _ _ _;refine af <| aa ?_;show AR _ _ _ _ _ [0] _;refine za rfl <| ag <| bJ (X := Int × Int) (fun (y8, y9) => ⟨[(0, i64 y8), (1, i64 y9), (2, i64 a3)], [], []⟩) (fun (y8, y9) => dM a3 y8 y9 = some r4) ?_ ?_
 ·refine af <| aa ?_;show AR _ _ _ _ _ [0, 1] _;refine zm rfl <| zS rfl (gh rfl rfl) <| ag <| ax rfl (fun c5 => ?_) (fun c5 => ?_)
  ·replace H := aW c5 H;refine af ?_;obtain ⟨g6, H⟩ := aN H;refine aa ?_;show AR _ _ _ _ _ [0, 1, 2] _;refine zm rfl <| zS rfl (lw rfl rfl g6) <| za rfl <| ag ?_;obtain ⟨g7, H⟩ := aN H;refine aa ?_;show AR _ _ _ _ _ [0, 1, 2] _;refine zm rfl <| zS rfl (cX rfl rfl g7) <| za rfl <| ag ?_;exact Exists.intro (a1 - 1, a2 + 12) ⟨H, bb [] (.cons (.refl _) (.cons (.refl _) (.cons (.refl _) (.nil _)))) rfl⟩
  ·replace H := aX c5 H;refine aA ?_;exact Exists.intro (a1, a2) ⟨H, bb [] (.cons (.refl _) (.cons (.refl _) (.cons (.refl _) (.nil _)))) rfl⟩
 rintro ⟨y8, y9⟩ H;replace H : dM a3 y8 y9 = some r4 := H
 unfold dM at H
 refine af ?_;obtain ⟨g11, H⟩ := aN H;obtain ⟨g12, H⟩ := aN H;obtain ⟨g13, H⟩ := aN H;obtain ⟨g14, H⟩ := aN H;obtain ⟨g15, H⟩ := aN H;obtain ⟨g16, H⟩ := aN H;obtain ⟨g17, H⟩ := aN H;obtain ⟨g18, H⟩ := aN H;obtain ⟨g19, H⟩ := aN H;obtain ⟨g20, H⟩ := aN H;obtain ⟨g21, H⟩ := aN H;obtain ⟨g22, H⟩ := aN H;obtain ⟨g23, H⟩ := aN H;obtain ⟨g24, H⟩ := aN H;obtain ⟨g25, H⟩ := aN H;obtain ⟨g26, H⟩ := aN H;obtain ⟨g27, H⟩ := aN H;obtain ⟨g28, H⟩ := aN H;obtain ⟨g29, H⟩ := aN H;refine aa ?_;show AR _ _ _ _ _ [0, 1, 2, 3, 4, 5, 6, 7, 8, 9, 10, 11, 12, 13, 14, 15, 16, 17, 18, 19, 20, 21, 22, 23, 24, 25] _;refine zm rfl <| zS rfl (g_quo rfl rfl g11) <| zS rfl (nX rfl rfl g12) <| zm rfl <| zS rfl (uk rfl rfl g13) <| zS rfl (nX rfl rfl g14) <| zS rfl (cX rfl rfl g15) <| zm rfl <| zS rfl (uk rfl rfl g16) <| zS rfl (g_quo rfl rfl g17) <| zS rfl (cX rfl rfl g18) <| zm rfl <| zS rfl (uk rfl rfl g19) <| zS rfl (g_quo rfl rfl g20) <| zS rfl (lw rfl rfl g21) <| zm rfl <| zS rfl (lw rfl rfl g22) <| zS rfl (nX rfl rfl g23) <| zS rfl (cX rfl rfl g24) <| zS rfl (g_quo rfl rfl g25) <| zS rfl (cX rfl rfl g26) <| zm rfl <| zS rfl (cX rfl rfl g27) <| zS rfl (lw rfl rfl g28) <| zS rfl (lw rfl rfl g29) <| za rfl <| ag <| aI ?_;obtain rfl := ak H;exact And.intro rfl (Exists.intro _ (Exists.intro _ ⟨aG rfl (.refl _), aB [] rfl, rfl, rfl⟩))
set_option maxRecDepth 100000 in
set_option maxHeartbeats 1000000 in
theorem qa (F : Nat) (a1 : Int) (a2 : Int) (a3 : Int) (r4 : Int) (r5 : Int) (H : kM F a1 a2 a3 = some (r4, r5)) : ACalls Tryz.prog 167 [i64 a1, i64 a2, i64 a3] [] (Ret (.tup [i64 r4, i64 r5]) []) := by
 unfold kM at H
 refine ap Tryz.func167 rfl rfl ?_;show AW _ _ 29 _ _ _;refine af <| aa ?_;show AR _ _ _ _ _ [0, 1] _;refine za rfl <| za rfl <| ag <| af <| af ?_;obtain ⟨x9, e10, H⟩ := eY H;refine aa ?_;show AR _ _ _ _ _ [0, 1, 2, 3, 4, 5, 6, 7, 8, 9, 10, 11, 12, 13, 14, 15, 16] _;refine zm rfl <| zS rfl (bX rfl rfl) <| zm rfl <| aY (l := [6, 7, 8, 9, 10, 11, 12, 13, 14, 15, 16]) 13 (B ((decide (a1 < 1)) || (decide (9999 < a1)))) (fun K => ?_) ?_
 ·rcases al (decide (a1 < 1)) with h6 | h6
  ·refine zF h6 rfl <| zF h6 rfl <| zS rfl (aD (av := .v _) rfl h6 rfl) ?_;exact K _ 2 _ (ay (iQ h6)) rfl rfl
  ·refine zM h6 rfl <| zU h6 rfl (eW rfl rfl) <| zS rfl (aE (av := .v _) rfl h6 rfl) ?_;exact K _ 2 _ (ay (iR h6)) rfl rfl
 refine zm rfl <| aY (l := [10, 11, 12, 13, 14, 15, 16]) 17 (B (((decide (a1 < 1)) || (decide (9999 < a1))) || (decide (a3 < 1)))) (fun K => ?_) ?_
 ·rcases al ((decide (a1 < 1)) || (decide (9999 < a1))) with h7 | h7
  ·refine zF h7 rfl <| zF h7 rfl <| zS rfl (aD (av := .v _) rfl h7 rfl) ?_;exact K _ 2 _ (ay (iQ h7)) rfl rfl
  ·refine zM h7 rfl <| zU h7 rfl (bX rfl rfl) <| zS rfl (aE (av := .v _) rfl h7 rfl) ?_;exact K _ 2 _ (ay (iR h7)) rfl rfl
 refine zm rfl <| aY (l := []) 24 (B ((((decide (a1 < 1)) || (decide (9999 < a1))) || (decide (a3 < 1))) || (decide (x9 < a3)))) (fun K => ?_) ?_
 ·rcases al (((decide (a1 < 1)) || (decide (9999 < a1))) || (decide (a3 < 1))) with h8 | h8
  ·refine zF h8 rfl <| zF h8 rfl <| zF h8 rfl <| zF h8 rfl <| zF h8 rfl <| zS rfl (aD (av := .v _) rfl h8 rfl) ?_;exact K _ 5 _ (ay (iQ h8)) rfl rfl
  ·refine zM h8 rfl <| zM h8 rfl <| zM h8 rfl <| zT h8 rfl (aC rfl yu rfl (tY F a1 a2 x9 (e10 (nf h8))) ?_);refine zU h8 rfl (eW rfl rfl) <| zS rfl (aE (av := .v _) rfl h8 rfl) ?_;exact K _ 5 _ (ay (iR h8)) rfl rfl
 refine ag <| ax rfl (fun c11 => ?_) (fun c11 => ?_)
 ·replace H := aW c11 H;refine af <| aa ?_;show AR _ _ _ _ _ [0, 1] _;refine za rfl <| za rfl <| ag <| aI ?_;obtain ⟨rfl, rfl⟩ := dx H;exact And.intro rfl (Exists.intro _ (Exists.intro _ ⟨bm rfl (.refl _) (.refl _), aB [] rfl, rfl, rfl⟩))
 ·replace H := aX c11 H;refine aA <| af ?_;obtain ⟨x12, e13, H⟩ := cd H;refine aa ?_;show AR _ _ _ _ _ [0, 1, 2, 3, 4, 5] _;refine zm rfl <| zm rfl <| zm rfl <| am rfl rfl (aC rfl yt rfl (qY F a1 a2 a3 x12 e13) ?_);refine za rfl <| za rfl <| ag <| aI ?_;obtain ⟨rfl, rfl⟩ := dx H;exact And.intro rfl (Exists.intro _ (Exists.intro _ ⟨bm rfl (.refl _) (.refl _), aB [] rfl, rfl, rfl⟩))
set_option maxRecDepth 100000 in
set_option maxHeartbeats 1000000 in
theorem kR (F : Nat) (a1 : Int) (a2 : Int) (r3 : Bool) (H : jk F a1 a2 = some r3) : ACalls Tryz.prog 165 [i64 a1, i64 a2] [] (Ret (B r3) []) := by
 unfold jk at H
 refine ap Tryz.func165 rfl rfl ?_;show AW _ _ 12 _ _ _;refine af <| aa ?_;show AR _ _ _ _ _ [0] _;refine za rfl <| ag <| af <| aa ?_;show AR _ _ _ _ _ [0, 1, 2, 3, 4, 5, 6, 7] _;refine zm rfl <| zS rfl (fv rfl rfl) <| zm rfl <| aY (l := [7]) 11 (B ((decide (0 ≤ a1)) && (decide (a1 < a2)))) (fun K => ?_) ?_
 ·rcases al (decide (0 ≤ a1)) with h4 | h4
  ·refine zM h4 rfl <| zM h4 rfl <| zU h4 rfl (bX rfl rfl) <| zS rfl (aD (av := .v _) rfl h4 rfl) ?_;exact K _ 3 _ (ay (cz h4)) rfl rfl
  ·refine zF h4 rfl <| zF h4 rfl <| zF h4 rfl <| zS rfl (aE (av := .v _) rfl h4 rfl) ?_;exact K _ 3 _ (ay (cA h4)) rfl rfl
 refine za rfl <| ag <| aI ?_;obtain rfl := ak H;exact And.intro rfl (Exists.intro _ (Exists.intro _ ⟨aG rfl (.refl _), aB [] rfl, rfl, rfl⟩))
set_option maxRecDepth 100000 in
set_option maxHeartbeats 1000000 in
theorem uL (F : Nat) (a1 : Int) (a2 : Int) (a3 : Int) (a4 : Int) (a5 : Int) (a6 : Int) (r7 : Bool) (H : nz F a1 a2 a3 a4 a5 a6 = some r7) : ACalls Tryz.prog 166 [.agg [i64 a1, i64 a2, i64 a3, i64 a4, i64 a5, i64 a6]] [] (Ret (B r7) []) := by
 unfold nz at H
 refine ap Tryz.func166 rfl rfl ?_;show AW _ _ 32 _ _ _;refine af <| aa ?_;show AR _ _ _ _ _ [0, 1] _;refine zR rfl (dN rfl (.inr ⟨_, rfl⟩)) <| za rfl <| ag <| af ?_;obtain ⟨x8, x9, e10, H⟩ := cF H;refine aa ?_;show AR _ _ _ _ _ [0, 1, 2, 3, 4, 5, 6, 7, 8, 9, 10, 11] _;refine zS rfl (aF (n := 0) (by kernel_rfl) rfl (ac rfl)) <| zS rfl (aH aM rfl rfl) <| zS rfl (aF (n := 1) (by kernel_rfl) rfl (ac rfl)) <| zS rfl (aH aM rfl rfl) <| zS rfl (aF (n := 2) (by kernel_rfl) rfl (ac rfl)) <| zS rfl (aH aM rfl rfl) <| am rfl rfl (aC rfl yw rfl (qa F a1 a2 a3 x8 x9 e10) ?_);refine zS rfl (ah (av := .tup _) rfl) <| zS rfl (az (av := .v _) rfl rfl) <| zS rfl (az (av := .v _) rfl rfl) <| za rfl <| za rfl <| ag <| af ?_;obtain ⟨x12, e13, H⟩ := eY H;obtain ⟨x15, e16, H⟩ := eY H;obtain ⟨x18, e19, H⟩ := eY H;refine aa ?_;show AR _ _ _ _ _ [0, 1, 2, 3, 4, 5, 6, 7, 8, 9, 10, 11, 12, 13, 14, 15, 16, 17] _;refine zm rfl <| zS rfl (bK rfl rfl) <| zm rfl <| aY (l := [7, 8, 9, 10, 11, 12, 13, 14, 15, 16, 17]) 21 (B ((decide (x9 = 0)) && x12)) (fun K => ?_) ?_
 ·rcases al (decide (x9 = 0)) with h11 | h11
  ·refine zU h11 rfl (aF (n := 3) (by kernel_rfl) rfl (ac rfl)) <| zU h11 rfl (aH aM rfl rfl) <| zT h11 rfl (aC rfl pR rfl (kR F a4 24 x12 (e13 h11)) ?_);refine zS rfl (aD (av := .v _) rfl h11 rfl) ?_;exact K _ 3 _ (ay (cz h11)) rfl rfl
  ·refine zF h11 rfl <| zF h11 rfl <| zF h11 rfl <| zS rfl (aE (av := .v _) rfl h11 rfl) ?_;exact K _ 3 _ (ay (cA h11)) rfl rfl
 refine zm rfl <| aY (l := [12, 13, 14, 15, 16, 17]) 26 (B (((decide (x9 = 0)) && x12) && x15)) (fun K => ?_) ?_
 ·rcases al ((decide (x9 = 0)) && x12) with h14 | h14
  ·refine zU h14 rfl (aF (n := 4) (by kernel_rfl) rfl (ac rfl)) <| zU h14 rfl (aH aM rfl rfl) <| zT h14 rfl (aC rfl pR rfl (kR F a5 60 x15 (e16 h14)) ?_);refine zS rfl (aD (av := .v _) rfl h14 rfl) ?_;exact K _ 3 _ (ay (cz h14)) rfl rfl
  ·refine zF h14 rfl <| zF h14 rfl <| zF h14 rfl <| zS rfl (aE (av := .v _) rfl h14 rfl) ?_;exact K _ 3 _ (ay (cA h14)) rfl rfl
 refine zm rfl <| aY (l := [17]) 31 (B ((((decide (x9 = 0)) && x12) && x15) && x18)) (fun K => ?_) ?_
 ·rcases al (((decide (x9 = 0)) && x12) && x15) with h17 | h17
  ·refine zU h17 rfl (aF (n := 5) (by kernel_rfl) rfl (ac rfl)) <| zU h17 rfl (aH aM rfl rfl) <| zT h17 rfl (aC rfl pR rfl (kR F a6 60 x18 (e19 h17)) ?_);refine zS rfl (aD (av := .v _) rfl h17 rfl) ?_;exact K _ 3 _ (ay (cz h17)) rfl rfl
  ·refine zF h17 rfl <| zF h17 rfl <| zF h17 rfl <| zS rfl (aE (av := .v _) rfl h17 rfl) ?_;exact K _ 3 _ (ay (cA h17)) rfl rfl
 refine za rfl <| ag <| aI ?_;obtain rfl := ak H;exact And.intro rfl (Exists.intro _ (Exists.intro _ ⟨aG rfl (.refl _), aB [] rfl, rfl, rfl⟩))
end Go.Proofs.YtkbfjepffpddfaaGreatDoor
namespace Go.Pv
def iX (F : Nat) (a1 : List UInt8) (a2 : List UInt8) : Option Bool :=
fq (decide ((a2.length : Int) ≤ (a1.length : Int))) (kj (a2.length : Int) a1.length) <|
lt (to_ a1 (a2.length : Int)) fun x6 =>
some ((decide ((a2.length : Int) ≤ (a1.length : Int))) && (decide (x6 = a2)))
def jG (F : Nat) (a1 : List UInt8) (a2 : List UInt8) : Option Bool :=
bnd (iX F a1 a2) fun x4 =>
some x4
def nr (F : Nat) (a1 : Int) (a2 : Int) (a3 : Int) (a4 : Int) (a5 : Int) (a6 : Int) : Option (Int × Int) :=
bnd (nz F a1 a2 a3 a4 a5 a6) fun x9 =>
bif !x9 then
  some (0, 1)
else
  ft (kM F a1 a2 a3) fun x12 x13 =>
  grd (okI (x12 * 86400)) <|
  grd (okI (a4 * 3600)) <|
  grd (okI ((x12 * 86400) + (a4 * 3600))) <|
  grd (okI (a5 * 60)) <|
  grd (okI (((x12 * 86400) + (a4 * 3600)) + (a5 * 60))) <|
  grd (okI ((((x12 * 86400) + (a4 * 3600)) + (a5 * 60)) + a6)) <|
  some ((((x12 * 86400) + (a4 * 3600)) + (a5 * 60)) + a6, x13)
def fX (a2 : List UInt8) (a3 : Int) : Option (Res ((List UInt8) × (List UInt8))) :=
grd (kj a3 a2.length) <|
lt (to_ a2 a3) fun x9 =>
grd (kj a3 a2.length) <|
lt (cY a2 a3) fun x12 =>
some (Res.ok (x9, x12))
def fa (F : Nat) (a2 : List UInt8) (a3 : Int) : Option (Res ((List UInt8) × (List UInt8))) :=
bif decide ((a2.length : Int) < a3) then
  some (Res.pan 0)
else
  fX a2 a3
def hU (y25 : Int) (y26 : List UInt8) : Option (Res (Int × (List UInt8))) :=
some (Res.ok (y25, y26))
def fP (y11 : Int) (y12 : Int) (x17 : UInt8) (rec13 : (Int × Int) → Option (Res (Int × (List UInt8)))) : Option (Res (Int × (List UInt8))) :=
grd (okI (y11 * 10)) <|
grd (okI ((y11 * 10) + ((x17 - 48).toNat : Int))) <|
grd (okI (y12 + 1)) <|
rec13 ((y11 * 10) + ((x17 - 48).toNat : Int), y12 + 1)
def fQ (x6 : (List UInt8) × (List UInt8)) (rec13 : (Int × Int) → Option (Res (Int × (List UInt8)))) (y11 : Int) (y12 : Int) : Option (Res (Int × (List UInt8))) :=
bif decide (y12 < (x6.1.length : Int)) then
  grd (dr y12 x6.1.length) <|
  lt (at_ x6.1 y12) fun x17 =>
  bif (decide ((x17.toNat : Int) < 48)) || (decide (57 < (x17.toNat : Int))) then
    some (Res.pan 0)
  else
    fP y11 y12 x17 rec13
else
  hU y11 x6.2
def dJ (x6 : (List UInt8) × (List UInt8)) (n : Nat) : (Int × Int) → Option (Res (Int × (List UInt8))) :=
  loop (fun rec x => fQ x6 rec x.1 x.2) n
def dU (F : Nat) (a2 : List UInt8) (a3 : Int) : Option (Res (Int × (List UInt8))) :=
eF (fa F a2 a3) fun x6 =>
grd (gJ x6.1.length) <|
dJ x6 F (0, 0)
def jd (x6 : (List UInt8) × (List UInt8)) : Option (Res (UInt8 × (List UInt8))) :=
grd (dr 0 x6.1.length) <|
lt (at_ x6.1 0) fun x15 =>
some (Res.ok (x15, x6.2))
def iO (F : Nat) (a2 : List UInt8) (a3 : List UInt8) : Option (Res (UInt8 × (List UInt8))) :=
eF (fa F a2 1) fun x6 =>
grd (okS a3.length) <|
lt (Go.Lib.contains a3 x6.1) fun x10 =>
bif !x10 then
  some (Res.pan 0)
else
  jd x6
def dw (F : Nat) (a2 : List UInt8) (a3 : List UInt8) (a4 : Int) : Option (Res (Int × (List UInt8))) :=
eF (iO F a2 a3) fun x7 =>
eF (dU F x7.2 a4) fun x10 =>
some (Res.ok (x10.1, x10.2))
def eM (F : Nat) (rec11 : ((List UInt8)) → Option (Res ((List UInt8)))) (y10 : List UInt8) : Option (Res ((List UInt8))) :=
fq (!decide (y10 = ([] : List UInt8))) (dr 0 y10.length) <|
lt (at_ y10 0) fun x15 =>
fq ((!decide (y10 = ([] : List UInt8))) && (decide (48 ≤ (x15.toNat : Int)))) (dr 0 y10.length) <|
lt (at_ y10 0) fun x19 =>
bif ((!decide (y10 = ([] : List UInt8))) && (decide (48 ≤ (x15.toNat : Int)))) && (decide ((x19.toNat : Int) ≤ 57)) then
  eF (fa F y10 1) fun x22 =>
  rec11 x22.2
else
  some (Res.ok y10)
def eL (F : Nat) (n : Nat) : ((List UInt8)) → Option (Res ((List UInt8))) :=
  loop (fun rec x => eM F rec x) n
def eu (F : Nat) (a2 : List UInt8) : Option (Res ((List UInt8))) :=
bnd (jG F a2 ([46] : List UInt8)) fun x4 =>
bif !x4 then
  some (Res.ok a2)
else
  eF (dw F a2 ([46] : List UInt8) 1) fun x7 =>
  eL F F x7.2
def gV (x5 : UInt8 × (List UInt8)) (x10 : Int × (List UInt8)) (x13 : Int × (List UInt8)) : Option (Res (Int × (List UInt8))) :=
bif decide (x5.1 = 45) then
  grd (okI (0 - x10.1)) <|
  grd (okI ((0 - x10.1) * 3600)) <|
  grd (okI (x13.1 * 60)) <|
  grd (okI (((0 - x10.1) * 3600) - (x13.1 * 60))) <|
  some (Res.ok (((0 - x10.1) * 3600) - (x13.1 * 60), x13.2))
else
  grd (okI (x10.1 * 3600)) <|
  grd (okI (x13.1 * 60)) <|
  grd (okI ((x10.1 * 3600) + (x13.1 * 60))) <|
  some (Res.ok ((x10.1 * 3600) + (x13.1 * 60), x13.2))
def iv (F : Nat) (a2 : List UInt8) : Option (Res (Int × (List UInt8))) :=
eF (iO F a2 ([90, 122, 43, 45] : List UInt8)) fun x5 =>
bif (decide (x5.1 = 90)) || (decide (x5.1 = 122)) then
  some (Res.ok (0, x5.2))
else
  eF (dU F x5.2 2) fun x10 =>
  eF (dw F x10.2 ([58] : List UInt8) 2) fun x13 =>
  bnd (jk F x10.1 24) fun x16 =>
  kz (!(!x16)) (jk F x13.1 60) fun x19 =>
  bif (!x16) || (!x19) then
    some (Res.pan 0)
  else
    gV x5 x10 x13
def gl (x36 : Int × (List UInt8)) (x40 : Int) : Option (Int × Int) :=
grd (okI (x40 - x36.1)) <|
some (x40 - x36.1, 0)
def iH (F : Nat) (a1 : List UInt8) : Option (Int × Int) :=
qL (dU F a1 4) (fun p10 =>
  some (0, 2)) fun x8 =>
qL (dw F x8.2 ([45] : List UInt8) 2) (fun p14 =>
  some (0, 2)) fun x12 =>
qL (dw F x12.2 ([45] : List UInt8) 2) (fun p18 =>
  some (0, 2)) fun x16 =>
qL (dw F x16.2 ([84, 116] : List UInt8) 2) (fun p22 =>
  some (0, 2)) fun x20 =>
qL (dw F x20.2 ([58] : List UInt8) 2) (fun p26 =>
  some (0, 2)) fun x24 =>
qL (dw F x24.2 ([58] : List UInt8) 2) (fun p30 =>
  some (0, 2)) fun x28 =>
qL (eu F x28.2) (fun p34 =>
  some (0, 2)) fun x32 =>
qL (iv F x32) (fun p38 =>
  some (0, 2)) fun x36 =>
ft (nr F x8.1 x12.1 x16.1 x20.1 x24.1 x28.1) fun x40 x41 =>
bif (!decide (x41 = 0)) || (!decide (x36.2 = ([] : List UInt8))) then
  some (0, 2)
else
  gl x36 x40
end Go.Pv
namespace Go.Proofs.YtkbfjepffpddfaaGreatDoor
open Go.RowKit Go.Av Go.Pv
theorem en40_stp : ∀ (args : Array Value) (w : World), (callFunc 40 args).run Tryz.prog w = .ok (.enter 40 args) w := fun _ _ => by kernel_rfl
theorem en83_stp : ∀ (args : Array Value) (w : World), (callFunc 83 args).run Tryz.prog w = .ok (.enter 83 args) w := fun _ _ => by kernel_rfl
theorem gk : ∀ (args : Array Value) (w : World), (callFunc 156 args).run Tryz.prog w = .ok (.enter 156 args) w := fun _ _ => by kernel_rfl
theorem iP : ∀ (args : Array Value) (w : World), (callFunc 157 args).run Tryz.prog w = .ok (.enter 157 args) w := fun _ _ => by kernel_rfl
theorem cL : ∀ (args : Array Value) (w : World), (callFunc 158 args).run Tryz.prog w = .ok (.enter 158 args) w := fun _ _ => by kernel_rfl
theorem tB : ∀ (args : Array Value) (w : World), (callFunc 159 args).run Tryz.prog w = .ok (.enter 159 args) w := fun _ _ => by kernel_rfl
theorem tA : ∀ (args : Array Value) (w : World), (callFunc 160 args).run Tryz.prog w = .ok (.enter 160 args) w := fun _ _ => by kernel_rfl
theorem yz : ∀ (args : Array Value) (w : World), (callFunc 161 args).run Tryz.prog w = .ok (.enter 161 args) w := fun _ _ => by kernel_rfl
theorem kL : ∀ (args : Array Value) (w : World), (callFunc 162 args).run Tryz.prog w = .ok (.enter 162 args) w := fun _ _ => by kernel_rfl
theorem nG : ∀ (args : Array Value) (w : World), (callFunc 163 args).run Tryz.prog w = .ok (.enter 163 args) w := fun _ _ => by kernel_rfl
theorem yy : ∀ (args : Array Value) (w : World), (callFunc 164 args).run Tryz.prog w = .ok (.enter 164 args) w := fun _ _ => by kernel_rfl
theorem tw : ∀ (args : Array Value) (w : World), (callFunc 165 args).run Tryz.prog w = .ok (.enter 165 args) w := fun _ _ => by kernel_rfl
theorem yx : ∀ (args : Array Value) (w : World), (callFunc 166 args).run Tryz.prog w = .ok (.enter 166 args) w := fun _ _ => by kernel_rfl
theorem yv : ∀ (args : Array Value) (w : World), (callFunc 167 args).run Tryz.prog w = .ok (.enter 167 args) w := fun _ _ => by kernel_rfl
set_option maxRecDepth 100000 in
set_option maxHeartbeats 1000000 in
theorem pE (F : Nat) (a1 : List UInt8) (a2 : List UInt8) (r3 : Bool) (H : iX F a1 a2 = some r3) : ACalls Tryz.prog 83 [S a1, S a2] [] (Ret (B r3) []) := by
 unfold iX at H
 refine ap Tryz.func83 rfl rfl ?_;show AW _ _ 18 _ _ _;refine af <| aa ?_;show AR _ _ _ _ _ [0] _;refine za rfl <| ag <| af ?_;obtain ⟨g5, H⟩ := cQ H;obtain ⟨x6, e7, H⟩ := bR H;refine aa ?_;show AR _ _ _ _ _ [0, 1, 2, 3, 4, 5, 6, 7, 8, 9, 10, 11, 12, 13] _;refine zm rfl <| zS rfl (bw ai rfl) <| zm rfl <| zS rfl (bw ai rfl) <| zS rfl (fv rfl rfl) <| zm rfl <| aY (l := [13]) 17 (B ((decide ((a2.length : Int) ≤ (a1.length : Int))) && (decide (x6 = a2)))) (fun K => ?_) ?_
 ·rcases al (decide ((a2.length : Int) ≤ (a1.length : Int))) with h4 | h4
  ·refine zM h4 rfl <| zM h4 rfl <| zU h4 rfl (bw ai rfl) <| zU h4 rfl (la ai rfl rfl (g5 h4) e7) <| zM h4 rfl <| zU h4 rfl (dR rfl rfl) <| zS rfl (aD (av := .v _) rfl h4 rfl) ?_;exact K _ 6 _ (ay (cz h4)) rfl rfl
  ·refine zF h4 rfl <| zF h4 rfl <| zF h4 rfl <| zF h4 rfl <| zF h4 rfl <| zF h4 rfl <| zS rfl (aE (av := .v _) rfl h4 rfl) ?_;exact K _ 6 _ (ay (cA h4)) rfl rfl
 refine za rfl <| ag <| aI ?_;obtain rfl := ak H;exact And.intro rfl (Exists.intro _ (Exists.intro _ ⟨aG rfl (.refl _), aB [] rfl, rfl, rfl⟩))
set_option maxRecDepth 100000 in
set_option maxHeartbeats 1000000 in
theorem qy (F : Nat) (a1 : List UInt8) (a2 : List UInt8) (r3 : Bool) (H : jG F a1 a2 = some r3) : ACalls Tryz.prog 164 [S a1, S a2] [] (Ret (B r3) []) := by
 unfold jG at H
 refine ap Tryz.func164 rfl rfl ?_;show AW _ _ 8 _ _ _;refine af <| aa ?_;show AR _ _ _ _ _ [0] _;refine za rfl <| ag <| af ?_;obtain ⟨x4, e5, H⟩ := cd H;refine aa ?_;show AR _ _ _ _ _ [0, 1, 2, 3] _;refine zm rfl <| zm rfl <| am rfl rfl (aC rfl en83_stp rfl (pE F a1 a2 x4 e5) ?_);refine za rfl <| ag <| aI ?_;obtain rfl := ak H;exact And.intro rfl (Exists.intro _ (Exists.intro _ ⟨aG rfl (.refl _), aB [] rfl, rfl, rfl⟩))
set_option maxRecDepth 100000 in
set_option maxHeartbeats 1000000 in
theorem vY (F : Nat) (a1 : Int) (a2 : Int) (a3 : Int) (a4 : Int) (a5 : Int) (a6 : Int) (r7 : Int) (r8 : Int) (H : nr F a1 a2 a3 a4 a5 a6 = some (r7, r8)) : ACalls Tryz.prog 161 [.agg [i64 a1, i64 a2, i64 a3, i64 a4, i64 a5, i64 a6]] [] (Ret (.tup [i64 r7, i64 r8]) []) := by
 unfold nr at H
 refine ap Tryz.func161 rfl rfl ?_;show AW _ _ 33 _ _ _;refine af <| aa ?_;show AR _ _ _ _ _ [0, 1, 2] _;refine zR rfl (dN rfl (.inr ⟨_, rfl⟩)) <| za rfl <| za rfl <| ag <| af <| af ?_;obtain ⟨x9, e10, H⟩ := cd H;refine aa ?_;show AR _ _ _ _ _ [0, 1, 2] _;refine zS rfl (cB Tryz.underlying189 rfl (n := 6) (by kernel_rfl) rfl (ac rfl)) <| am rfl rfl (aC rfl yx rfl (uL F a1 a2 a3 a4 a5 a6 x9 e10) ?_);refine zS rfl (bG rfl) <| ag <| ax rfl (fun c11 => ?_) (fun c11 => ?_)
 ·replace H := aW c11 H;refine af <| aa ?_;show AR _ _ _ _ _ [0, 1] _;refine za rfl <| za rfl <| ag <| aI ?_;obtain ⟨rfl, rfl⟩ := dx H;exact And.intro rfl (Exists.intro _ (Exists.intro _ ⟨bm rfl (.refl _) (.refl _), aB [] rfl, rfl, rfl⟩))
 ·replace H := aX c11 H;refine aA <| af ?_;obtain ⟨x12, x13, e14, H⟩ := cF H;refine aa ?_;show AR _ _ _ _ _ [0, 1, 2, 3, 4, 5, 6, 7, 8, 9, 10, 11] _;refine zS rfl (aF (n := 0) (by kernel_rfl) rfl (ac rfl)) <| zS rfl (aH aM rfl rfl) <| zS rfl (aF (n := 1) (by kernel_rfl) rfl (ac rfl)) <| zS rfl (aH aM rfl rfl) <| zS rfl (aF (n := 2) (by kernel_rfl) rfl (ac rfl)) <| zS rfl (aH aM rfl rfl) <| am rfl rfl (aC rfl yv rfl (qa F a1 a2 a3 x12 x13 e14) ?_);refine zS rfl (ah (av := .tup _) rfl) <| zS rfl (az (av := .v _) rfl rfl) <| zS rfl (az (av := .v _) rfl rfl) <| za rfl <| za rfl <| ag <| af ?_;obtain ⟨g15, H⟩ := aN H;obtain ⟨g16, H⟩ := aN H;obtain ⟨g17, H⟩ := aN H;obtain ⟨g18, H⟩ := aN H;obtain ⟨g19, H⟩ := aN H;obtain ⟨g20, H⟩ := aN H;refine aa ?_;show AR _ _ _ _ _ [0, 1, 2, 3, 4, 5, 6, 7, 8, 9, 10, 11, 12, 13, 14, 15] _
  refine zm rfl <| zS rfl (nX rfl rfl g15) <| zS rfl (aF (n := 3) (by kernel_rfl) rfl (ac rfl)) <| zS rfl (aH aM rfl rfl) <| zS rfl (nX rfl rfl g16) <| zS rfl (cX rfl rfl g17) <| zS rfl (aF (n := 4) (by kernel_rfl) rfl (ac rfl)) <| zS rfl (aH aM rfl rfl) <| zS rfl (nX rfl rfl g18) <| zS rfl (cX rfl rfl g19) <| zS rfl (aF (n := 5) (by kernel_rfl) rfl (ac rfl)) <| zS rfl (aH aM rfl rfl) <| zS rfl (cX rfl rfl g20) <| zm rfl <| za rfl <| za rfl <| ag <| aI ?_;obtain ⟨rfl, rfl⟩ := dx H;exact And.intro rfl (Exists.intro _ (Exists.intro _ ⟨bm rfl (.refl _) (.refl _), aB [] rfl, rfl, rfl⟩))
abbrev _root_.Go.Av.bI := @Tryz.underlying183
set_option maxRecDepth 100000 in
set_option maxHeartbeats 1000000 in
theorem oU (F : Nat) (o1 : Nat) (a2 : List UInt8) (a3 : Int) (rv : Res ((List UInt8) × (List UInt8))) (H : fa F a2 a3 = some rv) : ACalls Tryz.prog 162 [.pt o1 0, i64 a3] [.obj o1 [S a2]] (jo (fun (r : (List UInt8) × (List UInt8)) => (fun e A' => e = .ret (S r.1) ∧ A' = [.obj o1 [S r.2]])) (fun e => cg (.iface 183 (.agg #[]))) rv) := by
 unfold fa at H
 refine ap Tryz.func162 rfl rfl ?_;show AW _ _ 31 _ _ _;refine af <| aa ?_;show AR _ _ _ _ _ [0] _;refine za rfl <| ag <| bJ (X := Unit) (fun _ => ⟨[(0, .pt o1 0), (1, i64 a3)], [], [.obj o1 [S a2]]⟩) (fun _ => fX a2 a3 = some rv) ?_ ?_
 ·refine af <| aa ?_;show AR _ _ _ _ _ [0, 1, 2, 3, 4, 5, 6] _;refine zS rfl (ah (av := .pt _ _) rfl) <| zS rfl (ar rfl) <| zS rfl (an (n := 0) (by kernel_rfl) rfl) <| zR rfl (ao (i := 0) ai rfl rfl rfl rfl) <| zS rfl (bw ai rfl) <| zm rfl <| zS rfl (bX rfl rfl) <| ag <| ax rfl (fun c6 => ?_) (fun c6 => ?_)
  ·replace H := aW c6 H;obtain rfl := ak H;refine aa ?_;show AR _ _ _ _ _ [0, 1, 2] _;refine zS rfl (cP (zs := []) (ps := []) (cs := []) (by kernel_rfl) rfl rfl) <| zS rfl (bf (a := .agg _) bI rfl rfl) <| am rfl rfl (AO.panicT (c := cg (.iface 183 (.agg #[]))) rfl rfl ?_);exact And.intro rfl (Exists.intro [] ⟨ba _, rfl, rfl⟩)
  ·replace H := aX c6 H;refine aA ?_;exact Exists.intro () ⟨H, bb [0] (.cons (.refl _) (.cons (.refl _) (.nil _))) rfl⟩
 rintro _ H;replace H : fX a2 a3 = some rv := H
 unfold fX at H
 refine af ?_;obtain ⟨g8, H⟩ := aN H;obtain ⟨x9, e10, H⟩ := bR H;refine aa ?_;show AR _ _ _ _ _ [0, 1, 2, 3, 4, 5, 6] _;refine zS rfl (ah (av := .pt _ _) rfl) <| zS rfl (ar rfl) <| zS rfl (an (n := 0) (by kernel_rfl) rfl) <| zR rfl (ao (i := 0) ai rfl rfl rfl rfl) <| zm rfl <| zS rfl (la ai rfl rfl g8 e10) <| za rfl <| ag <| af ?_;obtain ⟨g11, H⟩ := aN H;obtain ⟨x12, e13, H⟩ := bR H;refine aa ?_;show AR _ _ _ _ _ [0, 1, 2, 3, 4, 5, 6, 7, 8, 9] _;refine zS rfl (ah (av := .pt _ _) rfl) <| zS rfl (ah (av := .pt _ _) rfl) <| zS rfl (ar rfl) <| zS rfl (an (n := 0) (by kernel_rfl) rfl) <| zR rfl (ao (i := 0) ai rfl rfl rfl rfl) <| zm rfl <| zS rfl (eD ai rfl rfl g11 e13) <| zS rfl (ar rfl) <| zS rfl (an (n := 0) (by kernel_rfl) rfl) <| s0 rfl rfl (aq (i := 0) (c := .v _) (by kernel_rfl) rfl rfl rfl rfl (ac rfl)) <| ag <| af <| aa ?_;show AR _ _ _ _ _ [0, 1] _;refine zm rfl <| za rfl <| ag <| aI ?_;obtain rfl := ak H;exact And.intro rfl (Exists.intro _ (Exists.intro _ ⟨aG rfl (.refl _), aB [0] rfl, rfl, rfl⟩))
theorem ka (F : Nat) (o1 : Nat) (a2 : List UInt8) (a3 : Int) (r4 : List UInt8) (r5 : List UInt8) (H : fa F a2 a3 = some (Res.ok (r4, r5))) : ACalls Tryz.prog 162 [.pt o1 0, i64 a3] [.obj o1 [S a2]] (fun e A' => e = .ret (S r4) ∧ A' = [.obj o1 [S r5]]) := oU F o1 a2 a3 _ H
theorem jq (F : Nat) (o1 : Nat) (a2 : List UInt8) (a3 : Int) (e : Int) (H : fa F a2 a3 = some (Res.pan e)) : ACalls Tryz.prog 162 [.pt o1 0, i64 a3] [.obj o1 [S a2]] (fun ae A' => ae = .pan ((fun e => cg (.iface 183 (.agg #[]))) e) ∧ A' = []) := oU F o1 a2 a3 _ H
abbrev _root_.Go.Av.cH := @Tryz.underlying5
set_option maxRecDepth 100000 in
set_option maxHeartbeats 1000000 in
theorem mZ (F : Nat) (o1 : Nat) (a2 : List UInt8) (a3 : Int) (rv : Res (Int × (List UInt8))) (H : dU F a2 a3 = some rv) : ACalls Tryz.prog 157 [.pt o1 0, i64 a3] [.obj o1 [S a2]] (jo (fun (r : Int × (List UInt8)) => (fun e A' => e = .ret (i64 r.1) ∧ A' = [.obj o1 [S r.2]])) (fun e => cg (.iface 183 (.agg #[]))) rv) := by
 unfold dU at H
 refine ap Tryz.func157 rfl rfl ?_;show AW _ _ 33 _ _ _;refine af <| aa ?_;show AR _ _ _ _ _ [0] _;refine za rfl <| ag <| af <| aa ?_;show AR _ _ _ _ _ [0] _;refine za rfl <| ag <| bJ (X := Int × (List UInt8)) (fun (y25, y26) => ⟨[(5, i64 y25)], [], [.obj o1 [S y26]]⟩) (fun (y25, y26) => hU y25 y26 = some rv) ?_ ?_
 ·refine af ?_
  rcases Or.symm (cq H) with ⟨p8, e7, H⟩ | ⟨x6, e7, H⟩
  ·subst H;refine aa ?_;show AR _ _ _ _ _ [0, 1, 2, 3, 4, 5] _;refine zS rfl (ah (av := .pt _ _) rfl) <| zm rfl <| am rfl rfl (bc (c := cg (.iface 183 (.agg #[]))) [0] rfl kL rfl (jq F o1 a2 a3 p8 e7) rfl ?_);exact And.intro rfl (Exists.intro [] ⟨ba _, rfl, rfl⟩)
  obtain ⟨g9, H⟩ := aN H;refine aa ?_;show AR _ _ _ _ _ [0, 1, 2, 3, 4, 5] _;refine zS rfl (ah (av := .pt _ _) rfl) <| zm rfl <| am rfl rfl (aQ [0] rfl kL rfl (ka F o1 a2 a3 x6.1 x6.2 e7) rfl (fun c A' h => by cases h.1) ?_)
  rintro av A' ⟨h, rfl⟩; cases h
  refine zX rfl (lO (bytes := 1) ai aj cH rfl g9) ?_;rintro _ _ ⟨t10, rfl, rfl⟩;refine zS rfl (bu aj rfl) <| zm rfl <| ag <| aR <| de (X := Nat × Int × Int) (fun (n14, y11, y12) => ⟨[(5, i64 y11), (11, slE Enc.byte x6.1 (some t10)), (12, i64 (x6.1.length : Int)), (13, i64 y12)], [], [.obj o1 [S x6.2], .tok t10 5]⟩) (fun (n14, y11, y12) => dJ x6 n14 (y11, y12) = some rv) (fun (n14, y11, y12) => n14) (F, 0, 0) H (bb [1, 0] (.cons (.refl _) (.cons (.refl _) (.cons (.refl _) (.cons (.refl _) (.nil _))))) rfl) ?_;rintro ⟨n14, y11, y12⟩ H;obtain ⟨n14, rfl, H⟩ := eX H;replace H : fQ x6 (dJ x6 n14) y11 y12 = some rv := H
  unfold fQ at H
  refine af <| aa ?_;show AR _ _ _ _ _ [0] _;refine zS rfl (bX rfl rfl) <| ag <| af <| ax rfl (fun c15 => ?_) (fun c15 => ?_)
  ·replace H := aW c15 H;refine aA <| af <| aR <| af ?_;obtain ⟨g16, H⟩ := aN H;obtain ⟨x17, e18, H⟩ := bR H;refine aa ?_;show AR _ _ _ _ _ [0, 1, 2] _;refine zS rfl (dn (E := Enc.byte) aj (by kernel_rfl) rfl rfl g16 e18) <| zS rfl (aH cH rfl rfl) <| za rfl <| ag <| bJ (X := Unit) (fun _ => ⟨[(5, i64 y11), (7, u8 x17), (11, slE Enc.byte x6.1 (some t10)), (12, i64 (x6.1.length : Int)), (13, i64 y12)], [], [.obj o1 [S x6.2], .tok t10 5]⟩) (fun _ => fP y11 y12 x17 (dJ x6 n14) = some rv) ?_ ?_
   ·refine af <| aa ?_;show AR _ _ _ _ _ [0, 1, 2, 3, 4, 5] _;refine zm rfl <| zS rfl (bX rfl rfl) <| zm rfl <| aY (l := []) 22 (B ((decide ((x17.toNat : Int) < 48)) || (decide (57 < (x17.toNat : Int))))) (fun K => ?_) ?_
    ·rcases al (decide ((x17.toNat : Int) < 48)) with h19 | h19
     ·refine zF h19 rfl <| zF h19 rfl <| zS rfl (aD (av := .v _) rfl h19 rfl) ?_;exact K _ 2 _ (ay (iQ h19)) rfl rfl
     ·refine zM h19 rfl <| zU h19 rfl (eW rfl rfl) <| zS rfl (aE (av := .v _) rfl h19 rfl) ?_;exact K _ 2 _ (ay (iR h19)) rfl rfl
    refine ag <| ax rfl (fun c20 => ?_) (fun c20 => ?_)
    ·replace H := aW c20 H;obtain rfl := ak H;refine aa ?_;show AR _ _ _ _ _ [0, 1, 2] _;refine zS rfl (cP (zs := []) (ps := []) (cs := []) (by kernel_rfl) rfl rfl) <| zS rfl (bf (a := .agg _) bI rfl rfl) <| am rfl rfl (AO.panicT (c := cg (.iface 183 (.agg #[]))) rfl rfl ?_);exact And.intro rfl (Exists.intro [] ⟨ba _, rfl, rfl⟩)
    ·replace H := aX c20 H;refine aA ?_;exact Exists.intro () ⟨H, bb [0, 0] (.cons (.refl _) (.cons (.refl _) (.cons (.refl _) (.cons (.refl _) (.cons (.refl _) (.nil _)))))) rfl⟩
   rintro _ H;replace H : fP y11 y12 x17 (dJ x6 n14) = some rv := H
   unfold fP at H
   obtain ⟨g22, H⟩ := aN H;obtain ⟨g23, H⟩ := aN H;refine aa ?_;show AR _ _ _ _ _ [0, 1, 2, 3, 4, 5, 6] _;refine zm rfl <| zS rfl (nX rfl rfl g22) <| zm rfl <| zS rfl (wQ (a := x17) (b := 48) rfl rfl) <| zS rfl (va (c := x17 - 48) (by kernel_rfl) aM rfl) <| zS rfl (cX rfl rfl g23) <| za rfl <| ag ?_;obtain ⟨g24, H⟩ := aN H;refine aa ?_;show AR _ _ _ _ _ [0, 1] _;refine zS rfl (cX rfl rfl g24) <| zm rfl <| ag ?_;exact Exists.intro (n14, (y11 * 10) + ((x17 - 48).toNat : Int), y12 + 1) ⟨H, Nat.lt_succ_self _, bb [0, 0] (.cons (.refl _) (.cons (.refl _) (.cons (.refl _) (.cons (.refl _) (.nil _))))) rfl⟩
  ·replace H := aX c15 H;refine cw ?_;exact Exists.intro (y11, x6.2) ⟨H, bb [0] (.cons (.refl _) (.nil _)) rfl⟩
 rintro ⟨y25, y26⟩ H;replace H : hU y25 y26 = some rv := H
 unfold hU at H
 refine af <| aa ?_;show AR _ _ _ _ _ [0, 1] _;refine zm rfl <| za rfl <| ag <| aI ?_;obtain rfl := ak H;exact And.intro rfl (Exists.intro _ (Exists.intro _ ⟨aG rfl (.refl _), aB [0] rfl, rfl, rfl⟩))
theorem eK (F : Nat) (o1 : Nat) (a2 : List UInt8) (a3 : Int) (r4 : Int) (r5 : List UInt8) (H : dU F a2 a3 = some (Res.ok (r4, r5))) : ACalls Tryz.prog 157 [.pt o1 0, i64 a3] [.obj o1 [S a2]] (fun e A' => e = .ret (i64 r4) ∧ A' = [.obj o1 [S r5]]) := mZ F o1 a2 a3 _ H
theorem ii (F : Nat) (o1 : Nat) (a2 : List UInt8) (a3 : Int) (e : Int) (H : dU F a2 a3 = some (Res.pan e)) : ACalls Tryz.prog 157 [.pt o1 0, i64 a3] [.obj o1 [S a2]] (fun ae A' => ae = .pan ((fun e => cg (.iface 183 (.agg #[]))) e) ∧ A' = []) := mZ F o1 a2 a3 _ H
set_option maxRecDepth 100000 in
set_option maxHeartbeats 1000000 in
theorem pX (F : Nat) (o1 : Nat) (a2 : List UInt8) (a3 : List UInt8) (rv : Res (UInt8 × (List UInt8))) (H : iO F a2 a3 = some rv) : ACalls Tryz.prog 163 [.pt o1 0, S a3] [.obj o1 [S a2]] (jo (fun (r : UInt8 × (List UInt8)) => (fun e A' => e = .ret (u8 r.1) ∧ A' = [.obj o1 [S r.2]])) (fun e => cg (.iface 183 (.agg #[]))) rv) := by
 unfold iO at H
 refine ap Tryz.func163 rfl rfl ?_;show AW _ _ 16 _ _ _;refine af <| aa ?_;show AR _ _ _ _ _ [0] _;refine za rfl <| ag <| af ?_
 rcases Or.symm (cq H) with ⟨p8, e7, H⟩ | ⟨x6, e7, H⟩
 ·subst H;refine aa ?_;show AR _ _ _ _ _ [0, 1, 2] _;refine zS rfl (ah (av := .pt _ _) rfl) <| am rfl rfl (bc (c := cg (.iface 183 (.agg #[]))) [0] rfl kL rfl (jq F o1 a2 1 p8 e7) rfl ?_);exact And.intro rfl (Exists.intro [] ⟨ba _, rfl, rfl⟩)
 refine aa ?_;show AR _ _ _ _ _ [0, 1, 2] _;refine zS rfl (ah (av := .pt _ _) rfl) <| am rfl rfl (aQ [0] rfl kL rfl (ka F o1 a2 1 x6.1 x6.2 e7) rfl (fun c A' h => by cases h.1) ?_)
 rintro av A' ⟨h, rfl⟩; cases h
 refine za rfl <| ag <| bJ (X := Unit) (fun _ => ⟨[(5, S x6.1)], [], [.obj o1 [S x6.2]]⟩) (fun _ => jd x6 = some rv) ?_ ?_
 ·refine af ?_;obtain ⟨g9, H⟩ := aN H;obtain ⟨x10, e11, H⟩ := bR H;refine aa ?_;show AR _ _ _ _ _ [0, 1, 2, 3] _;refine zm rfl <| zm rfl <| am rfl rfl (aC rfl en40_stp rfl (show ACalls _ _ _ [] (Ret (B x10) []) from by subst e11; exact gG a3 x6.1 (mH g9)) ?_);refine zS rfl (bG rfl) <| ag <| ax rfl (fun c12 => ?_) (fun c12 => ?_)
  ·replace H := aW c12 H;obtain rfl := ak H;refine aa ?_;show AR _ _ _ _ _ [0, 1, 2] _;refine zS rfl (cP (zs := []) (ps := []) (cs := []) (by kernel_rfl) rfl rfl) <| zS rfl (bf (a := .agg _) bI rfl rfl) <| am rfl rfl (AO.panicT (c := cg (.iface 183 (.agg #[]))) rfl rfl ?_);exact And.intro rfl (Exists.intro [] ⟨ba _, rfl, rfl⟩)
  ·replace H := aX c12 H;refine aA ?_;exact Exists.intro () ⟨H, bb [0] (.cons (.refl _) (.nil _)) rfl⟩
 rintro _ H;replace H : jd x6 = some rv := H
 unfold jd at H
 refine af ?_;obtain ⟨g14, H⟩ := aN H;obtain ⟨x15, e16, H⟩ := bR H;refine aa ?_;show AR _ _ _ _ _ [0, 1, 2] _;refine zm rfl <| zS rfl (bp ai rfl rfl g14 e16) <| za rfl <| ag <| aI ?_;obtain rfl := ak H;exact And.intro rfl (Exists.intro _ (Exists.intro _ ⟨aG rfl (.refl _), aB [0] rfl, rfl, rfl⟩))
theorem mY (F : Nat) (o1 : Nat) (a2 : List UInt8) (a3 : List UInt8) (r4 : UInt8) (r5 : List UInt8) (H : iO F a2 a3 = some (Res.ok (r4, r5))) : ACalls Tryz.prog 163 [.pt o1 0, S a3] [.obj o1 [S a2]] (fun e A' => e = .ret (u8 r4) ∧ A' = [.obj o1 [S r5]]) := pX F o1 a2 a3 _ H
theorem mC (F : Nat) (o1 : Nat) (a2 : List UInt8) (a3 : List UInt8) (e : Int) (H : iO F a2 a3 = some (Res.pan e)) : ACalls Tryz.prog 163 [.pt o1 0, S a3] [.obj o1 [S a2]] (fun ae A' => ae = .pan ((fun e => cg (.iface 183 (.agg #[]))) e) ∧ A' = []) := pX F o1 a2 a3 _ H
set_option maxRecDepth 100000 in
set_option maxHeartbeats 1000000 in
theorem oT (F : Nat) (o1 : Nat) (a2 : List UInt8) (a3 : List UInt8) (a4 : Int) (rv : Res (Int × (List UInt8))) (H : dw F a2 a3 a4 = some rv) : ACalls Tryz.prog 158 [.pt o1 0, S a3, i64 a4] [.obj o1 [S a2]] (jo (fun (r : Int × (List UInt8)) => (fun e A' => e = .ret (i64 r.1) ∧ A' = [.obj o1 [S r.2]])) (fun e => cg (.iface 183 (.agg #[]))) rv) := by
 unfold dw at H
 refine ap Tryz.func158 rfl rfl ?_;show AW _ _ 13 _ _ _;refine af <| aa ?_;show AR _ _ _ _ _ [0] _;refine za rfl <| ag <| af ?_
 rcases Or.symm (cq H) with ⟨p9, e8, H⟩ | ⟨x7, e8, H⟩
 ·subst H;refine aa ?_;show AR _ _ _ _ _ [0, 1, 2] _;refine zS rfl (ah (av := .pt _ _) rfl) <| zm rfl <| am rfl rfl (bc (c := cg (.iface 183 (.agg #[]))) [0] rfl nG rfl (mC F o1 a2 a3 p9 e8) rfl ?_);exact And.intro rfl (Exists.intro [] ⟨ba _, rfl, rfl⟩)
 refine aa ?_;show AR _ _ _ _ _ [0, 1, 2] _;refine zS rfl (ah (av := .pt _ _) rfl) <| zm rfl <| am rfl rfl (aQ [0] rfl nG rfl (mY F o1 a2 a3 x7.1 x7.2 e8) rfl (fun c A' h => by cases h.1) ?_)
 rintro av A' ⟨h, rfl⟩; cases h
 refine ag <| af ?_
 rcases Or.symm (cq H) with ⟨p12, e11, H⟩ | ⟨x10, e11, H⟩
 ·subst H;refine aa ?_;show AR _ _ _ _ _ [0, 1, 2, 3] _;refine zS rfl (ah (av := .pt _ _) rfl) <| zm rfl <| am rfl rfl (bc (c := cg (.iface 183 (.agg #[]))) [0] rfl iP rfl (ii F o1 x7.2 a4 p12 e11) rfl ?_);exact And.intro rfl (Exists.intro [] ⟨ba _, rfl, rfl⟩)
 refine aa ?_;show AR _ _ _ _ _ [0, 1, 2, 3] _;refine zS rfl (ah (av := .pt _ _) rfl) <| zm rfl <| am rfl rfl (aQ [0] rfl iP rfl (eK F o1 x7.2 a4 x10.1 x10.2 e11) rfl (fun c A' h => by cases h.1) ?_)
 rintro av A' ⟨h, rfl⟩; cases h
 refine za rfl <| ag <| aI ?_;obtain rfl := ak H;exact And.intro rfl (Exists.intro _ (Exists.intro _ ⟨aG rfl (.refl _), aB [0] rfl, rfl, rfl⟩))
theorem ct (F : Nat) (o1 : Nat) (a2 : List UInt8) (a3 : List UInt8) (a4 : Int) (r5 : Int) (r6 : List UInt8) (H : dw F a2 a3 a4 = some (Res.ok (r5, r6))) : ACalls Tryz.prog 158 [.pt o1 0, S a3, i64 a4] [.obj o1 [S a2]] (fun e A' => e = .ret (i64 r5) ∧ A' = [.obj o1 [S r6]]) := oT F o1 a2 a3 a4 _ H
theorem du (F : Nat) (o1 : Nat) (a2 : List UInt8) (a3 : List UInt8) (a4 : Int) (e : Int) (H : dw F a2 a3 a4 = some (Res.pan e)) : ACalls Tryz.prog 158 [.pt o1 0, S a3, i64 a4] [.obj o1 [S a2]] (fun ae A' => ae = .pan ((fun e => cg (.iface 183 (.agg #[]))) e) ∧ A' = []) := oT F o1 a2 a3 a4 _ H
set_option maxRecDepth 100000 in
set_option maxHeartbeats 1000000 in
theorem lM (F : Nat) (o1 : Nat) (a2 : List UInt8) (rv : Res ((List UInt8))) (H : eu F a2 = some rv) : ACalls Tryz.prog 159 [.pt o1 0] [.obj o1 [S a2]] (jo (fun (r : (List UInt8)) => (fun e A' => e = .ret (.tup []) ∧ A' = [.obj o1 [S r]])) (fun e => cg (.iface 183 (.agg #[]))) rv) := by
 unfold eu at H
 refine ap Tryz.func159 rfl rfl ?_;show AW _ _ 33 _ _ _;refine af <| af ?_;obtain ⟨x4, e5, H⟩ := cd H;refine aa ?_;show AR _ _ _ _ _ [0, 1, 2, 3, 4, 5] _;refine zS rfl (ah (av := .pt _ _) rfl) <| zS rfl (ar rfl) <| zS rfl (an (n := 0) (by kernel_rfl) rfl) <| zR rfl (ao (i := 0) ai rfl rfl rfl rfl) <| am rfl rfl (aC rfl yy rfl (qy F a2 ([46] : List UInt8) x4 e5) ?_);refine zS rfl (bG rfl) <| ag <| ax rfl (fun c6 => ?_) (fun c6 => ?_)
 ·replace H := aW c6 H;refine aI ?_;obtain rfl := ak H;exact And.intro rfl (Exists.intro _ (Exists.intro _ ⟨bj rfl, aB [0] rfl, rfl, rfl⟩))
 ·replace H := aX c6 H;refine aA <| af ?_
  rcases Or.symm (cq H) with ⟨p9, e8, H⟩ | ⟨x7, e8, H⟩
  ·subst H;refine aa ?_;show AR _ _ _ _ _ [0, 1] _;refine zS rfl (ah (av := .pt _ _) rfl) <| am rfl rfl (bc (c := cg (.iface 183 (.agg #[]))) [0] rfl cL rfl (du F o1 a2 ([46] : List UInt8) 1 p9 e8) rfl ?_);exact And.intro rfl (Exists.intro [] ⟨ba _, rfl, rfl⟩)
  refine aa ?_;show AR _ _ _ _ _ [0, 1] _;refine zS rfl (ah (av := .pt _ _) rfl) <| am rfl rfl (aQ [0] rfl cL rfl (ct F o1 a2 ([46] : List UInt8) 1 x7.1 x7.2 e8) rfl (fun c A' h => by cases h.1) ?_)
  rintro av A' ⟨h, rfl⟩; cases h
  refine ag <| aR <| de (X := Nat × (List UInt8)) (fun (n12, y10) => ⟨[(0, .pt o1 0)], [], [.obj o1 [S y10]]⟩) (fun (n12, y10) => eL F n12 y10 = some rv) (fun (n12, y10) => n12) (F, x7.2) H (bb [0] (.cons (.refl _) (.nil _)) rfl) ?_;rintro ⟨n12, y10⟩ H;obtain ⟨n12, rfl, H⟩ := eX H;replace H : eM F (eL F n12) y10 = some rv := H
  unfold eM at H
  refine af <| af ?_;obtain ⟨g14, H⟩ := cQ H;obtain ⟨x15, e16, H⟩ := bR H;obtain ⟨g18, H⟩ := cQ H;obtain ⟨x19, e20, H⟩ := bR H;refine aa ?_;show AR _ _ _ _ _ [0, 1, 2, 3, 4, 5, 6, 7, 8, 9, 10, 11, 12, 13, 14, 15, 16, 17, 18, 19, 20] _;refine zS rfl (ah (av := .pt _ _) rfl) <| zS rfl (ar rfl) <| zS rfl (an (n := 0) (by kernel_rfl) rfl) <| zR rfl (ao (i := 0) ai rfl rfl rfl rfl) <| zS rfl (jp rfl rfl) <| zm rfl <| aY (l := [13, 14, 15, 16, 17, 18, 19, 20]) 22 (B ((!decide (y10 = ([] : List UInt8))) && (decide (48 ≤ (x15.toNat : Int))))) (fun K => ?_) ?_
  ·rcases al (!decide (y10 = ([] : List UInt8))) with h13 | h13
   ·refine zU h13 rfl (ah (av := .pt _ _) rfl) <| zU h13 rfl (ar rfl) <| zU h13 rfl (an (n := 0) (by kernel_rfl) rfl) <| zT h13 rfl (cm rfl rfl (ao (i := 0) ai rfl rfl rfl rfl) ?_);refine zU h13 rfl (bp ai rfl rfl (g14 h13) e16) <| zU h13 rfl (fv rfl rfl) <| zS rfl (aD (av := .v _) rfl h13 rfl) ?_;exact K _ 6 _ (ay (cz h13)) rfl rfl
   ·refine zF h13 rfl <| zF h13 rfl <| zF h13 rfl <| zF h13 rfl <| zF h13 rfl <| zF h13 rfl <| zS rfl (aE (av := .v _) rfl h13 rfl) ?_;exact K _ 6 _ (ay (cA h13)) rfl rfl
  refine zm rfl <| aY (l := []) 30 (B (((!decide (y10 = ([] : List UInt8))) && (decide (48 ≤ (x15.toNat : Int)))) && (decide ((x19.toNat : Int) ≤ 57)))) (fun K => ?_) ?_
  ·rcases al ((!decide (y10 = ([] : List UInt8))) && (decide (48 ≤ (x15.toNat : Int)))) with h17 | h17
   ·refine zU h17 rfl (ah (av := .pt _ _) rfl) <| zU h17 rfl (ar rfl) <| zU h17 rfl (an (n := 0) (by kernel_rfl) rfl) <| zT h17 rfl (cm rfl rfl (ao (i := 0) ai rfl rfl rfl rfl) ?_);refine zU h17 rfl (bp ai rfl rfl (g18 h17) e20) <| zU h17 rfl (gh rfl rfl) <| zS rfl (aD (av := .v _) rfl h17 rfl) ?_;exact K _ 6 _ (ay (cz h17)) rfl rfl
   ·refine zF h17 rfl <| zF h17 rfl <| zF h17 rfl <| zF h17 rfl <| zF h17 rfl <| zF h17 rfl <| zS rfl (aE (av := .v _) rfl h17 rfl) ?_;exact K _ 6 _ (ay (cA h17)) rfl rfl
  refine ag <| ax rfl (fun c21 => ?_) (fun c21 => ?_)
  ·replace H := aW c21 H;refine aA <| aR ?_
   rcases Or.symm (cq H) with ⟨p24, e23, H⟩ | ⟨x22, e23, H⟩
   ·subst H;refine aa ?_;show AR _ _ _ _ _ [0, 1] _;refine zS rfl (ah (av := .pt _ _) rfl) <| am rfl rfl (bc (c := cg (.iface 183 (.agg #[]))) [0] rfl kL rfl (jq F o1 y10 1 p24 e23) rfl ?_);exact And.intro rfl (Exists.intro [] ⟨ba _, rfl, rfl⟩)
   refine aa ?_;show AR _ _ _ _ _ [0, 1] _;refine zS rfl (ah (av := .pt _ _) rfl) <| am rfl rfl (aQ [0] rfl kL rfl (ka F o1 y10 1 x22.1 x22.2 e23) rfl (fun c A' h => by cases h.1) ?_)
   rintro av A' ⟨h, rfl⟩; cases h
   refine ag ?_;exact Exists.intro (n12, x22.2) ⟨H, Nat.lt_succ_self _, bb [0] (.cons (.refl _) (.nil _)) rfl⟩
  ·replace H := aX c21 H;refine cw ?_;obtain rfl := ak H;exact And.intro rfl (Exists.intro _ (Exists.intro _ ⟨bj rfl, aB [0] rfl, rfl, rfl⟩))
theorem nJ (F : Nat) (o1 : Nat) (a2 : List UInt8) (r3 : List UInt8) (H : eu F a2 = some (Res.ok r3)) : ACalls Tryz.prog 159 [.pt o1 0] [.obj o1 [S a2]] (fun e A' => e = .ret (.tup []) ∧ A' = [.obj o1 [S r3]]) := lM F o1 a2 _ H
theorem mU (F : Nat) (o1 : Nat) (a2 : List UInt8) (e : Int) (H : eu F a2 = some (Res.pan e)) : ACalls Tryz.prog 159 [.pt o1 0] [.obj o1 [S a2]] (fun ae A' => ae = .pan ((fun e => cg (.iface 183 (.agg #[]))) e) ∧ A' = []) := lM F o1 a2 _ H
set_option maxRecDepth 100000 in
set_option maxHeartbeats 1000000 in
theorem oS (F : Nat) (o1 : Nat) (a2 : List UInt8) (rv : Res (Int × (List UInt8))) (H : iv F a2 = some rv) : ACalls Tryz.prog 160 [.pt o1 0] [.obj o1 [S a2]] (jo (fun (r : Int × (List UInt8)) => (fun e A' => e = .ret (i64 r.1) ∧ A' = [.obj o1 [S r.2]])) (fun e => cg (.iface 183 (.agg #[]))) rv) := by
 unfold iv at H
 refine ap Tryz.func160 rfl rfl ?_;show AW _ _ 41 _ _ _;refine af <| aa ?_;show AR _ _ _ _ _ [0] _;refine za rfl <| ag <| af ?_
 rcases Or.symm (cq H) with ⟨p7, e6, H⟩ | ⟨x5, e6, H⟩
 ·subst H;refine aa ?_;show AR _ _ _ _ _ [0, 1, 2] _;refine zS rfl (ah (av := .pt _ _) rfl) <| am rfl rfl (bc (c := cg (.iface 183 (.agg #[]))) [0] rfl nG rfl (mC F o1 a2 ([90, 122, 43, 45] : List UInt8) p7 e6) rfl ?_);exact And.intro rfl (Exists.intro [] ⟨ba _, rfl, rfl⟩)
 refine aa ?_;show AR _ _ _ _ _ [0, 1, 2] _;refine zS rfl (ah (av := .pt _ _) rfl) <| am rfl rfl (aQ [0] rfl nG rfl (mY F o1 a2 ([90, 122, 43, 45] : List UInt8) x5.1 x5.2 e6) rfl (fun c A' h => by cases h.1) ?_)
 rintro av A' ⟨h, rfl⟩; cases h
 refine za rfl <| ag <| af <| af <| aa ?_;show AR _ _ _ _ _ [0, 1, 2, 3, 4, 5] _;refine zm rfl <| zS rfl (gK (a := x5.1) (b := 90) rfl rfl) <| zm rfl <| aY (l := []) 13 (B ((decide (x5.1 = 90)) || (decide (x5.1 = 122)))) (fun K => ?_) ?_
 ·rcases al (decide (x5.1 = 90)) with h8 | h8
  ·refine zF h8 rfl <| zF h8 rfl <| zS rfl (aD (av := .v _) rfl h8 rfl) ?_;exact K _ 2 _ (ay (iQ h8)) rfl rfl
  ·refine zM h8 rfl <| zU h8 rfl (gK (a := x5.1) (b := 122) rfl rfl) <| zS rfl (aE (av := .v _) rfl h8 rfl) ?_;exact K _ 2 _ (ay (iR h8)) rfl rfl
 refine ag <| ax rfl (fun c9 => ?_) (fun c9 => ?_)
 ·replace H := aW c9 H;refine af <| aa ?_;show AR _ _ _ _ _ [0] _;refine za rfl <| ag <| aI ?_;obtain rfl := ak H;exact And.intro rfl (Exists.intro _ (Exists.intro _ ⟨aG rfl (.refl _), aB [0] rfl, rfl, rfl⟩))
 ·replace H := aX c9 H;refine aA <| af ?_
  rcases Or.symm (cq H) with ⟨p12, e11, H⟩ | ⟨x10, e11, H⟩
  ·subst H;refine aa ?_;show AR _ _ _ _ _ [0, 1, 2] _;refine zS rfl (ah (av := .pt _ _) rfl) <| am rfl rfl (bc (c := cg (.iface 183 (.agg #[]))) [0] rfl iP rfl (ii F o1 x5.2 2 p12 e11) rfl ?_);exact And.intro rfl (Exists.intro [] ⟨ba _, rfl, rfl⟩)
  refine aa ?_;show AR _ _ _ _ _ [0, 1, 2] _;refine zS rfl (ah (av := .pt _ _) rfl) <| am rfl rfl (aQ [0] rfl iP rfl (eK F o1 x5.2 2 x10.1 x10.2 e11) rfl (fun c A' h => by cases h.1) ?_)
  rintro av A' ⟨h, rfl⟩; cases h
  refine za rfl <| ag <| af ?_
  rcases Or.symm (cq H) with ⟨p15, e14, H⟩ | ⟨x13, e14, H⟩
  ·subst H;refine aa ?_;show AR _ _ _ _ _ [0, 1, 2] _;refine zS rfl (ah (av := .pt _ _) rfl) <| am rfl rfl (bc (c := cg (.iface 183 (.agg #[]))) [0] rfl cL rfl (du F o1 x10.2 ([58] : List UInt8) 2 p15 e14) rfl ?_);exact And.intro rfl (Exists.intro [] ⟨ba _, rfl, rfl⟩)
  refine aa ?_;show AR _ _ _ _ _ [0, 1, 2] _;refine zS rfl (ah (av := .pt _ _) rfl) <| am rfl rfl (aQ [0] rfl cL rfl (ct F o1 x10.2 ([58] : List UInt8) 2 x13.1 x13.2 e14) rfl (fun c A' h => by cases h.1) ?_)
  rintro av A' ⟨h, rfl⟩; cases h
  refine za rfl <| ag <| bJ (X := Unit) (fun _ => ⟨[(3, u8 x5.1), (4, i64 x10.1), (5, i64 x13.1)], [], [.obj o1 [S x13.2]]⟩) (fun _ => gV x5 x10 x13 = some rv) ?_ ?_
  ·refine af ?_;obtain ⟨x16, e17, H⟩ := cd H;obtain ⟨x19, e20, H⟩ := eY H;refine aa ?_;show AR _ _ _ _ _ [0, 1, 2, 3, 4, 5, 6, 7] _;refine zm rfl <| am rfl rfl (aC rfl tw rfl (kR F x10.1 24 x16 e17) ?_);refine zS rfl (bG rfl) <| zm rfl <| aY (l := []) 25 (B ((!x16) || (!x19))) (fun K => ?_) ?_
   ·rcases al (!x16) with h18 | h18
    ·refine zF h18 rfl <| zF h18 rfl <| zF h18 rfl <| zS rfl (aD (av := .v _) rfl h18 rfl) ?_;exact K _ 3 _ (ay (iQ h18)) rfl rfl
    ·refine zM h18 rfl <| zT h18 rfl (aC rfl tw rfl (kR F x13.1 60 x19 (e20 (nf h18))) ?_);refine zU h18 rfl (bG rfl) <| zS rfl (aE (av := .v _) rfl h18 rfl) ?_;exact K _ 3 _ (ay (iR h18)) rfl rfl
   refine ag <| ax rfl (fun c21 => ?_) (fun c21 => ?_)
   ·replace H := aW c21 H;obtain rfl := ak H;refine aa ?_;show AR _ _ _ _ _ [0, 1, 2] _;refine zS rfl (cP (zs := []) (ps := []) (cs := []) (by kernel_rfl) rfl rfl) <| zS rfl (bf (a := .agg _) bI rfl rfl) <| am rfl rfl (AO.panicT (c := cg (.iface 183 (.agg #[]))) rfl rfl ?_);exact And.intro rfl (Exists.intro [] ⟨ba _, rfl, rfl⟩)
   ·replace H := aX c21 H;refine aA ?_;exact Exists.intro () ⟨H, bb [0] (.cons (.refl _) (.cons (.refl _) (.cons (.refl _) (.nil _)))) rfl⟩
  rintro _ H;replace H : gV x5 x10 x13 = some rv := H
  unfold gV at H
  refine af <| af <| aa ?_;show AR _ _ _ _ _ [0, 1] _;refine zm rfl <| zS rfl (gK (a := x5.1) (b := 45) rfl rfl) <| ag <| ax rfl (fun c23 => ?_) (fun c23 => ?_)
  ·replace H := aW c23 H;refine af ?_;obtain ⟨g24, H⟩ := aN H;obtain ⟨g25, H⟩ := aN H;obtain ⟨g26, H⟩ := aN H;obtain ⟨g27, H⟩ := aN H;refine aa ?_;show AR _ _ _ _ _ [0, 1, 2, 3, 4, 5, 6] _;refine zm rfl <| zS rfl (g_neg rfl g24) <| zS rfl (nX rfl rfl g25) <| zm rfl <| zS rfl (nX rfl rfl g26) <| zS rfl (lw rfl rfl g27) <| za rfl <| ag <| aI ?_;obtain rfl := ak H;exact And.intro rfl (Exists.intro _ (Exists.intro _ ⟨aG rfl (.refl _), aB [0] rfl, rfl, rfl⟩))
  ·replace H := aX c23 H;refine aA <| af ?_;obtain ⟨g28, H⟩ := aN H;obtain ⟨g29, H⟩ := aN H;obtain ⟨g30, H⟩ := aN H;refine aa ?_;show AR _ _ _ _ _ [0, 1, 2, 3, 4, 5] _;refine zm rfl <| zS rfl (nX rfl rfl g28) <| zm rfl <| zS rfl (nX rfl rfl g29) <| zS rfl (cX rfl rfl g30) <| za rfl <| ag <| aI ?_;obtain rfl := ak H;exact And.intro rfl (Exists.intro _ (Exists.intro _ ⟨aG rfl (.refl _), aB [0] rfl, rfl, rfl⟩))
theorem qz (F : Nat) (o1 : Nat) (a2 : List UInt8) (r3 : Int) (r4 : List UInt8) (H : iv F a2 = some (Res.ok (r3, r4))) : ACalls Tryz.prog 160 [.pt o1 0] [.obj o1 [S a2]] (fun e A' => e = .ret (i64 r3) ∧ A' = [.obj o1 [S r4]]) := oS F o1 a2 _ H
theorem pD (F : Nat) (o1 : Nat) (a2 : List UInt8) (e : Int) (H : iv F a2 = some (Res.pan e)) : ACalls Tryz.prog 160 [.pt o1 0] [.obj o1 [S a2]] (fun ae A' => ae = .pan ((fun e => cg (.iface 183 (.agg #[]))) e) ∧ A' = []) := oS F o1 a2 _ H
abbrev _root_.Go.Av.eb := @Tryz.func156
abbrev _root_.Go.Av.bP := @Tryz.underlying20
abbrev _root_.Go.Av.bn := @Tryz.underlying27
set_option maxRecDepth 100000 in
set_option maxHeartbeats 1000000 in
theorem rV (F : Nat) (a1 : List UInt8) (r2 : Int) (r3 : Int) (H : iH F a1 = some (r2, r3)) : ACalls Tryz.prog 155 [S a1] [] (Ret (.tup [i64 r2, i64 r3]) []) := by
 unfold iH at H
 refine mG [2, 3] Tryz.func155 rfl rfl ?_;show AW _ _ 52 _ _ _;refine af <| aa ?_;show AR _ _ _ _ _ [0, 1] _;refine zX rfl (bh (zs := [.int .i64 0]) (by kernel_rfl)) ?_;rintro _ _ ⟨o4, rfl, rfl⟩;refine zX rfl (bh (zs := [.int .i64 0]) (by kernel_rfl)) ?_;rintro _ _ ⟨o5, rfl, rfl⟩;refine ag <| af <| aa ?_;show AR _ _ _ _ _ [0, 1] _;refine zS rfl (fH rfl rfl) <| am rfl rfl (AO.defer rfl ?_);show AR _ _ _ _ _ _ ⟨_, [.call (.func 156) [.pt o4 0, .pt o5 0] []], _⟩;refine ag <| af <| aa ?_;show AR _ _ _ _ _ [0, 1, 2, 3] _;refine zm rfl <| zS rfl (cP (zs := [.string ⟨#[]⟩]) (ps := [(0, 1)]) (cs := [S a1]) (by kernel_rfl) rfl rfl) <| zX rfl (py rfl (.inr ⟨_, rfl⟩)) ?_;rintro _ _ ⟨o6, rfl, rfl⟩;refine zS rfl (aJ (av := .pt _ _) rfl) <| ag <| af <| aa ?_;show AR _ _ _ _ _ [0] _;refine zX rfl (bh (zs := [.int .i64 0, .int .i64 0, .int .i64 0, .int .i64 0, .int .i64 0, .int .i64 0]) (by kernel_rfl)) ?_;rintro _ _ ⟨o7, rfl, rfl⟩;refine ag <| af ?_
 rcases Or.symm (lX H) with ⟨p10, e9, H⟩ | ⟨x8, e9, H⟩
 ·refine aa ?_;show AR _ _ _ _ _ [0, 1, 2, 3, 4, 5, 6, 7, 8, 9, 10, 11] _;refine zS rfl (ah (av := .pt _ _) rfl) <| am rfl rfl (bc (c := cg (.iface 183 (.agg #[]))) [1] rfl iP rfl (ii F o6 a1 4 p10 e9) rfl ?_);refine Exists.intro [(2, .pt o4 0), (3, .pt o5 0)] ⟨by simp, .cons (.refl _) (.cons (.refl _) (.nil _)), ?_⟩;show ALeaves _ _ _ _ _ [.call (.func 156) [.pt o4 0, .pt o5 0] []] _ [.obj o7 [i64 0, i64 0, i64 0, i64 0, i64 0, i64 0], .obj o5 [i64 0], .obj o4 [i64 0]];refine cx (v := .tup []) (u1 := (.panicking [{ v := (.iface 183 (.agg #[])), recovered := true }])) (A2 := [.obj o5 [i64 2], .obj o4 [i64 0]]) [1, 1] (fun h => by cases h) gk rfl ?_ ?_
  ·show ADCalls _ _ [.pt o4 0, .pt o5 0] [.obj o5 [i64 0], .obj o4 [i64 0]] _ _;refine bH (av := .ifc 183 (.agg [])) (l := [1]) eb rfl rfl rfl rfl rfl dd rfl (fun cs => ?_);refine ASR.op rfl rfl ((aJ (av := .ifc _ _) rfl).opR _) <| ASR.nil <| af <| aa ?_;show AR _ _ _ _ _ [0, 1] _;refine zS rfl (ah (av := .ifc _ _) rfl) <| zS rfl (dF (ms := []) (.inr rfl) bP rfl rfl) <| ag <| ax rfl (fun _ => ?_) (fun hx => bL rfl hx);refine af <| af <| aa ?_;show AR _ _ _ _ _ [0, 1, 2, 3, 4, 5, 6, 7] _;refine zS rfl (ah (av := .ifc _ _) rfl) <| zS rfl (cu bI rfl rfl) <| zS rfl (ah (av := .tup _) rfl) <| zS rfl (az (av := .agg _) rfl rfl) <| zS rfl (az (av := .v _) rfl rfl) <| zX rfl (bh (zs := []) (by kernel_rfl)) ?_;rintro _ _ ⟨o11, rfl, rfl⟩;refine s0 rfl rfl (aV (i := 0) (vs := []) (by kernel_rfl) rfl rfl (by simp [bB, slE]) rfl (ac rfl)) <| za rfl <| ag <| af <| aa ?_;show AR _ _ _ _ _ [0, 1] _;refine zm rfl <| zS rfl (bG rfl) <| ag <| ax rfl (fun hx => bL hx rfl) (fun _ => ?_);refine aA <| aa ?_;show AR _ _ _ _ _ [0, 1] _;refine s0 rfl rfl (aq (i := 2) (c := .v _) (by kernel_rfl) rfl rfl rfl rfl (ac rfl)) <| s0 rfl rfl (aq (i := 1) (c := .v _) (by kernel_rfl) rfl rfl rfl rfl (ac rfl)) <| ag ?_
   exact And.intro rfl (Exists.intro _ (Exists.intro _ ⟨bj rfl, aB [1, 1] rfl, rfl, rfl, rfl⟩))
  show ALeaves _ _ _ _ _ [] .returning [.obj o5 [i64 2], .obj o4 [i64 0], .obj o7 [i64 0, i64 0, i64 0, i64 0, i64 0, i64 0]];obtain ⟨rfl, rfl⟩ := dx H;exact Exists.intro _ (Exists.intro _ ⟨bD rfl (bo (c := .v _) 1 aM rfl rfl rfl rfl) (bo (c := .v _) 0 bn rfl rfl rfl rfl), aB [] rfl, rfl, rfl⟩)
 rcases Or.symm (lX H) with ⟨p14, e13, H⟩ | ⟨x12, e13, H⟩
 ·refine aa ?_;show AR _ _ _ _ _ [0, 1, 2, 3, 4, 5, 6, 7, 8, 9, 10, 11] _;refine zS rfl (ah (av := .pt _ _) rfl) <| am rfl rfl (aQ [1] rfl iP rfl (eK F o6 a1 4 x8.1 x8.2 e9) rfl (fun c A' h => by cases h.1) ?_)
  rintro av A' ⟨h, rfl⟩; cases h
  refine zS rfl (ah (av := .pt _ _) rfl) <| am rfl rfl (bc (c := cg (.iface 183 (.agg #[]))) [0] rfl cL rfl (du F o6 x8.2 ([45] : List UInt8) 2 p14 e13) rfl ?_);refine Exists.intro [(2, .pt o4 0), (3, .pt o5 0)] ⟨by simp, .cons (.refl _) (.cons (.refl _) (.nil _)), ?_⟩;show ALeaves _ _ _ _ _ [.call (.func 156) [.pt o4 0, .pt o5 0] []] _ [.obj o7 [i64 0, i64 0, i64 0, i64 0, i64 0, i64 0], .obj o5 [i64 0], .obj o4 [i64 0]];refine cx (v := .tup []) (u1 := (.panicking [{ v := (.iface 183 (.agg #[])), recovered := true }])) (A2 := [.obj o5 [i64 2], .obj o4 [i64 0]]) [1, 1] (fun h => by cases h) gk rfl ?_ ?_
  ·show ADCalls _ _ [.pt o4 0, .pt o5 0] [.obj o5 [i64 0], .obj o4 [i64 0]] _ _;refine bH (av := .ifc 183 (.agg [])) (l := [1]) eb rfl rfl rfl rfl rfl dd rfl (fun cs => ?_);refine ASR.op rfl rfl ((aJ (av := .ifc _ _) rfl).opR _) <| ASR.nil <| af <| aa ?_;show AR _ _ _ _ _ [0, 1] _;refine zS rfl (ah (av := .ifc _ _) rfl) <| zS rfl (dF (ms := []) (.inr rfl) bP rfl rfl) <| ag <| ax rfl (fun _ => ?_) (fun hx => bL rfl hx);refine af <| af <| aa ?_;show AR _ _ _ _ _ [0, 1, 2, 3, 4, 5, 6, 7] _;refine zS rfl (ah (av := .ifc _ _) rfl) <| zS rfl (cu bI rfl rfl) <| zS rfl (ah (av := .tup _) rfl) <| zS rfl (az (av := .agg _) rfl rfl) <| zS rfl (az (av := .v _) rfl rfl) <| zX rfl (bh (zs := []) (by kernel_rfl)) ?_;rintro _ _ ⟨o15, rfl, rfl⟩;refine s0 rfl rfl (aV (i := 0) (vs := []) (by kernel_rfl) rfl rfl (by simp [bB, slE]) rfl (ac rfl)) <| za rfl <| ag <| af <| aa ?_;show AR _ _ _ _ _ [0, 1] _;refine zm rfl <| zS rfl (bG rfl) <| ag <| ax rfl (fun hx => bL hx rfl) (fun _ => ?_);refine aA <| aa ?_;show AR _ _ _ _ _ [0, 1] _;refine s0 rfl rfl (aq (i := 2) (c := .v _) (by kernel_rfl) rfl rfl rfl rfl (ac rfl)) <| s0 rfl rfl (aq (i := 1) (c := .v _) (by kernel_rfl) rfl rfl rfl rfl (ac rfl)) <| ag ?_
   exact And.intro rfl (Exists.intro _ (Exists.intro _ ⟨bj rfl, aB [1, 1] rfl, rfl, rfl, rfl⟩))
  show ALeaves _ _ _ _ _ [] .returning [.obj o5 [i64 2], .obj o4 [i64 0], .obj o7 [i64 0, i64 0, i64 0, i64 0, i64 0, i64 0]];obtain ⟨rfl, rfl⟩ := dx H;exact Exists.intro _ (Exists.intro _ ⟨bD rfl (bo (c := .v _) 1 aM rfl rfl rfl rfl) (bo (c := .v _) 0 bn rfl rfl rfl rfl), aB [] rfl, rfl, rfl⟩)
 rcases Or.symm (lX H) with ⟨p18, e17, H⟩ | ⟨x16, e17, H⟩
 ·refine aa ?_;show AR _ _ _ _ _ [0, 1, 2, 3, 4, 5, 6, 7, 8, 9, 10, 11] _;refine zS rfl (ah (av := .pt _ _) rfl) <| am rfl rfl (aQ [1] rfl iP rfl (eK F o6 a1 4 x8.1 x8.2 e9) rfl (fun c A' h => by cases h.1) ?_)
  rintro av A' ⟨h, rfl⟩; cases h
  refine zS rfl (ah (av := .pt _ _) rfl) <| am rfl rfl (aQ [0] rfl cL rfl (ct F o6 x8.2 ([45] : List UInt8) 2 x12.1 x12.2 e13) rfl (fun c A' h => by cases h.1) ?_)
  rintro av A' ⟨h, rfl⟩; cases h
  refine zS rfl (ah (av := .pt _ _) rfl) <| am rfl rfl (bc (c := cg (.iface 183 (.agg #[]))) [0] rfl cL rfl (du F o6 x12.2 ([45] : List UInt8) 2 p18 e17) rfl ?_);refine Exists.intro [(2, .pt o4 0), (3, .pt o5 0)] ⟨by simp, .cons (.refl _) (.cons (.refl _) (.nil _)), ?_⟩;show ALeaves _ _ _ _ _ [.call (.func 156) [.pt o4 0, .pt o5 0] []] _ [.obj o7 [i64 0, i64 0, i64 0, i64 0, i64 0, i64 0], .obj o5 [i64 0], .obj o4 [i64 0]];refine cx (v := .tup []) (u1 := (.panicking [{ v := (.iface 183 (.agg #[])), recovered := true }])) (A2 := [.obj o5 [i64 2], .obj o4 [i64 0]]) [1, 1] (fun h => by cases h) gk rfl ?_ ?_
  ·show ADCalls _ _ [.pt o4 0, .pt o5 0] [.obj o5 [i64 0], .obj o4 [i64 0]] _ _;refine bH (av := .ifc 183 (.agg [])) (l := [1]) eb rfl rfl rfl rfl rfl dd rfl (fun cs => ?_);refine ASR.op rfl rfl ((aJ (av := .ifc _ _) rfl).opR _) <| ASR.nil <| af <| aa ?_;show AR _ _ _ _ _ [0, 1] _;refine zS rfl (ah (av := .ifc _ _) rfl) <| zS rfl (dF (ms := []) (.inr rfl) bP rfl rfl) <| ag <| ax rfl (fun _ => ?_) (fun hx => bL rfl hx);refine af <| af <| aa ?_;show AR _ _ _ _ _ [0, 1, 2, 3, 4, 5, 6, 7] _;refine zS rfl (ah (av := .ifc _ _) rfl) <| zS rfl (cu bI rfl rfl) <| zS rfl (ah (av := .tup _) rfl) <| zS rfl (az (av := .agg _) rfl rfl) <| zS rfl (az (av := .v _) rfl rfl) <| zX rfl (bh (zs := []) (by kernel_rfl)) ?_;rintro _ _ ⟨o19, rfl, rfl⟩;refine s0 rfl rfl (aV (i := 0) (vs := []) (by kernel_rfl) rfl rfl (by simp [bB, slE]) rfl (ac rfl)) <| za rfl <| ag <| af <| aa ?_;show AR _ _ _ _ _ [0, 1] _;refine zm rfl <| zS rfl (bG rfl) <| ag <| ax rfl (fun hx => bL hx rfl) (fun _ => ?_);refine aA <| aa ?_;show AR _ _ _ _ _ [0, 1] _;refine s0 rfl rfl (aq (i := 2) (c := .v _) (by kernel_rfl) rfl rfl rfl rfl (ac rfl)) <| s0 rfl rfl (aq (i := 1) (c := .v _) (by kernel_rfl) rfl rfl rfl rfl (ac rfl)) <| ag ?_
   exact And.intro rfl (Exists.intro _ (Exists.intro _ ⟨bj rfl, aB [1, 1] rfl, rfl, rfl, rfl⟩))
  show ALeaves _ _ _ _ _ [] .returning [.obj o5 [i64 2], .obj o4 [i64 0], .obj o7 [i64 0, i64 0, i64 0, i64 0, i64 0, i64 0]];obtain ⟨rfl, rfl⟩ := dx H;exact Exists.intro _ (Exists.intro _ ⟨bD rfl (bo (c := .v _) 1 aM rfl rfl rfl rfl) (bo (c := .v _) 0 bn rfl rfl rfl rfl), aB [] rfl, rfl, rfl⟩)
 refine aa ?_;show AR _ _ _ _ _ [0, 1, 2, 3, 4, 5, 6, 7, 8, 9, 10, 11] _;refine zS rfl (ah (av := .pt _ _) rfl) <| am rfl rfl (aQ [1] rfl iP rfl (eK F o6 a1 4 x8.1 x8.2 e9) rfl (fun c A' h => by cases h.1) ?_)
 rintro av A' ⟨h, rfl⟩; cases h
 refine zS rfl (ah (av := .pt _ _) rfl) <| am rfl rfl (aQ [0] rfl cL rfl (ct F o6 x8.2 ([45] : List UInt8) 2 x12.1 x12.2 e13) rfl (fun c A' h => by cases h.1) ?_)
 rintro av A' ⟨h, rfl⟩; cases h
 refine zS rfl (ah (av := .pt _ _) rfl) <| am rfl rfl (aQ [0] rfl cL rfl (ct F o6 x12.2 ([45] : List UInt8) 2 x16.1 x16.2 e17) rfl (fun c A' h => by cases h.1) ?_)
 rintro av A' ⟨h, rfl⟩; cases h
 refine zS rfl (an (n := 0) (by kernel_rfl) rfl) <| s0 rfl rfl (aq (i := 1) (c := .v _) (by kernel_rfl) rfl rfl rfl rfl (ac rfl)) <| zS rfl (an (n := 1) (by kernel_rfl) rfl) <| s0 rfl rfl (aq (i := 1) (c := .v _) (by kernel_rfl) rfl rfl rfl rfl (ac rfl)) <| zS rfl (an (n := 2) (by kernel_rfl) rfl) <| s0 rfl rfl (aq (i := 1) (c := .v _) (by kernel_rfl) rfl rfl rfl rfl (ac rfl)) <| ag <| af ?_
 rcases Or.symm (lX H) with ⟨p22, e21, H⟩ | ⟨x20, e21, H⟩
 ·refine aa ?_;show AR _ _ _ _ _ [0, 1, 2, 3, 4, 5, 6, 7, 8, 9, 10, 11] _;refine zS rfl (ah (av := .pt _ _) rfl) <| am rfl rfl (bc (c := cg (.iface 183 (.agg #[]))) [0] rfl cL rfl (du F o6 x16.2 ([84, 116] : List UInt8) 2 p22 e21) rfl ?_);refine Exists.intro [(2, .pt o4 0), (3, .pt o5 0)] ⟨by simp, .cons (.refl _) (.cons (.refl _) (.nil _)), ?_⟩;show ALeaves _ _ _ _ _ [.call (.func 156) [.pt o4 0, .pt o5 0] []] _ [.obj o7 [i64 x8.1, i64 x12.1, i64 x16.1, i64 0, i64 0, i64 0], .obj o5 [i64 0], .obj o4 [i64 0]];refine cx (v := .tup []) (u1 := (.panicking [{ v := (.iface 183 (.agg #[])), recovered := true }])) (A2 := [.obj o5 [i64 2], .obj o4 [i64 0]]) [1, 1] (fun h => by cases h) gk rfl ?_ ?_
  ·show ADCalls _ _ [.pt o4 0, .pt o5 0] [.obj o5 [i64 0], .obj o4 [i64 0]] _ _;refine bH (av := .ifc 183 (.agg [])) (l := [1]) eb rfl rfl rfl rfl rfl dd rfl (fun cs => ?_);refine ASR.op rfl rfl ((aJ (av := .ifc _ _) rfl).opR _) <| ASR.nil <| af <| aa ?_;show AR _ _ _ _ _ [0, 1] _;refine zS rfl (ah (av := .ifc _ _) rfl) <| zS rfl (dF (ms := []) (.inr rfl) bP rfl rfl) <| ag <| ax rfl (fun _ => ?_) (fun hx => bL rfl hx);refine af <| af <| aa ?_;show AR _ _ _ _ _ [0, 1, 2, 3, 4, 5, 6, 7] _;refine zS rfl (ah (av := .ifc _ _) rfl) <| zS rfl (cu bI rfl rfl) <| zS rfl (ah (av := .tup _) rfl) <| zS rfl (az (av := .agg _) rfl rfl) <| zS rfl (az (av := .v _) rfl rfl) <| zX rfl (bh (zs := []) (by kernel_rfl)) ?_;rintro _ _ ⟨o23, rfl, rfl⟩;refine s0 rfl rfl (aV (i := 0) (vs := []) (by kernel_rfl) rfl rfl (by simp [bB, slE]) rfl (ac rfl)) <| za rfl <| ag <| af <| aa ?_;show AR _ _ _ _ _ [0, 1] _;refine zm rfl <| zS rfl (bG rfl) <| ag <| ax rfl (fun hx => bL hx rfl) (fun _ => ?_);refine aA <| aa ?_;show AR _ _ _ _ _ [0, 1] _;refine s0 rfl rfl (aq (i := 2) (c := .v _) (by kernel_rfl) rfl rfl rfl rfl (ac rfl)) <| s0 rfl rfl (aq (i := 1) (c := .v _) (by kernel_rfl) rfl rfl rfl rfl (ac rfl)) <| ag ?_
   exact And.intro rfl (Exists.intro _ (Exists.intro _ ⟨bj rfl, aB [1, 1] rfl, rfl, rfl, rfl⟩))
  show ALeaves _ _ _ _ _ [] .returning [.obj o5 [i64 2], .obj o4 [i64 0], .obj o7 [i64 x8.1, i64 x12.1, i64 x16.1, i64 0, i64 0, i64 0]];obtain ⟨rfl, rfl⟩ := dx H;exact Exists.intro _ (Exists.intro _ ⟨bD rfl (bo (c := .v _) 1 aM rfl rfl rfl rfl) (bo (c := .v _) 0 bn rfl rfl rfl rfl), aB [] rfl, rfl, rfl⟩)
 rcases Or.symm (lX H) with ⟨p26, e25, H⟩ | ⟨x24, e25, H⟩
 ·refine aa ?_;show AR _ _ _ _ _ [0, 1, 2, 3, 4, 5, 6, 7, 8, 9, 10, 11] _;refine zS rfl (ah (av := .pt _ _) rfl) <| am rfl rfl (aQ [0] rfl cL rfl (ct F o6 x16.2 ([84, 116] : List UInt8) 2 x20.1 x20.2 e21) rfl (fun c A' h => by cases h.1) ?_)
  rintro av A' ⟨h, rfl⟩; cases h
  refine zS rfl (ah (av := .pt _ _) rfl) <| am rfl rfl (bc (c := cg (.iface 183 (.agg #[]))) [0] rfl cL rfl (du F o6 x20.2 ([58] : List UInt8) 2 p26 e25) rfl ?_);refine Exists.intro [(2, .pt o4 0), (3, .pt o5 0)] ⟨by simp, .cons (.refl _) (.cons (.refl _) (.nil _)), ?_⟩;show ALeaves _ _ _ _ _ [.call (.func 156) [.pt o4 0, .pt o5 0] []] _ [.obj o7 [i64 x8.1, i64 x12.1, i64 x16.1, i64 0, i64 0, i64 0], .obj o5 [i64 0], .obj o4 [i64 0]];refine cx (v := .tup []) (u1 := (.panicking [{ v := (.iface 183 (.agg #[])), recovered := true }])) (A2 := [.obj o5 [i64 2], .obj o4 [i64 0]]) [1, 1] (fun h => by cases h) gk rfl ?_ ?_
  ·show ADCalls _ _ [.pt o4 0, .pt o5 0] [.obj o5 [i64 0], .obj o4 [i64 0]] _ _;refine bH (av := .ifc 183 (.agg [])) (l := [1]) eb rfl rfl rfl rfl rfl dd rfl (fun cs => ?_);refine ASR.op rfl rfl ((aJ (av := .ifc _ _) rfl).opR _) <| ASR.nil <| af <| aa ?_;show AR _ _ _ _ _ [0, 1] _;refine zS rfl (ah (av := .ifc _ _) rfl) <| zS rfl (dF (ms := []) (.inr rfl) bP rfl rfl) <| ag <| ax rfl (fun _ => ?_) (fun hx => bL rfl hx);refine af <| af <| aa ?_;show AR _ _ _ _ _ [0, 1, 2, 3, 4, 5, 6, 7] _;refine zS rfl (ah (av := .ifc _ _) rfl) <| zS rfl (cu bI rfl rfl) <| zS rfl (ah (av := .tup _) rfl) <| zS rfl (az (av := .agg _) rfl rfl) <| zS rfl (az (av := .v _) rfl rfl) <| zX rfl (bh (zs := []) (by kernel_rfl)) ?_;rintro _ _ ⟨o27, rfl, rfl⟩;refine s0 rfl rfl (aV (i := 0) (vs := []) (by kernel_rfl) rfl rfl (by simp [bB, slE]) rfl (ac rfl)) <| za rfl <| ag <| af <| aa ?_;show AR _ _ _ _ _ [0, 1] _;refine zm rfl <| zS rfl (bG rfl) <| ag <| ax rfl (fun hx => bL hx rfl) (fun _ => ?_);refine aA <| aa ?_;show AR _ _ _ _ _ [0, 1] _;refine s0 rfl rfl (aq (i := 2) (c := .v _) (by kernel_rfl) rfl rfl rfl rfl (ac rfl)) <| s0 rfl rfl (aq (i := 1) (c := .v _) (by kernel_rfl) rfl rfl rfl rfl (ac rfl)) <| ag ?_
   exact And.intro rfl (Exists.intro _ (Exists.intro _ ⟨bj rfl, aB [1, 1] rfl, rfl, rfl, rfl⟩))
  show ALeaves _ _ _ _ _ [] .returning [.obj o5 [i64 2], .obj o4 [i64 0], .obj o7 [i64 x8.1, i64 x12.1, i64 x16.1, i64 0, i64 0, i64 0]];obtain ⟨rfl, rfl⟩ := dx H;exact Exists.intro _ (Exists.intro _ ⟨bD rfl (bo (c := .v _) 1 aM rfl rfl rfl rfl) (bo (c := .v _) 0 bn rfl rfl rfl rfl), aB [] rfl, rfl, rfl⟩)
 rcases Or.symm (lX H) with ⟨p30, e29, H⟩ | ⟨x28, e29, H⟩
 ·refine aa ?_;show AR _ _ _ _ _ [0, 1, 2, 3, 4, 5, 6, 7, 8, 9, 10, 11] _;refine zS rfl (ah (av := .pt _ _) rfl) <| am rfl rfl (aQ [0] rfl cL rfl (ct F o6 x16.2 ([84, 116] : List UInt8) 2 x20.1 x20.2 e21) rfl (fun c A' h => by cases h.1) ?_)
  rintro av A' ⟨h, rfl⟩; cases h
  refine zS rfl (ah (av := .pt _ _) rfl) <| am rfl rfl (aQ [0] rfl cL rfl (ct F o6 x20.2 ([58] : List UInt8) 2 x24.1 x24.2 e25) rfl (fun c A' h => by cases h.1) ?_)
  rintro av A' ⟨h, rfl⟩; cases h
  refine zS rfl (ah (av := .pt _ _) rfl) <| am rfl rfl (bc (c := cg (.iface 183 (.agg #[]))) [0] rfl cL rfl (du F o6 x24.2 ([58] : List UInt8) 2 p30 e29) rfl ?_);refine Exists.intro [(2, .pt o4 0), (3, .pt o5 0)] ⟨by simp, .cons (.refl _) (.cons (.refl _) (.nil _)), ?_⟩;show ALeaves _ _ _ _ _ [.call (.func 156) [.pt o4 0, .pt o5 0] []] _ [.obj o7 [i64 x8.1, i64 x12.1, i64 x16.1, i64 0, i64 0, i64 0], .obj o5 [i64 0], .obj o4 [i64 0]];refine cx (v := .tup []) (u1 := (.panicking [{ v := (.iface 183 (.agg #[])), recovered := true }])) (A2 := [.obj o5 [i64 2], .obj o4 [i64 0]]) [1, 1] (fun h => by cases h) gk rfl ?_ ?_
  ·show ADCalls _ _ [.pt o4 0, .pt o5 0] [.obj o5 [i64 0], .obj o4 [i64 0]] _ _;refine bH (av := .ifc 183 (.agg [])) (l := [1]) eb rfl rfl rfl rfl rfl dd rfl (fun cs => ?_);refine ASR.op rfl rfl ((aJ (av := .ifc _ _) rfl).opR _) <| ASR.nil <| af <| aa ?_;show AR _ _ _ _ _ [0, 1] _;refine zS rfl (ah (av := .ifc _ _) rfl) <| zS rfl (dF (ms := []) (.inr rfl) bP rfl rfl) <| ag <| ax rfl (fun _ => ?_) (fun hx => bL rfl hx);refine af <| af <| aa ?_;show AR _ _ _ _ _ [0, 1, 2, 3, 4, 5, 6, 7] _;refine zS rfl (ah (av := .ifc _ _) rfl) <| zS rfl (cu bI rfl rfl) <| zS rfl (ah (av := .tup _) rfl) <| zS rfl (az (av := .agg _) rfl rfl) <| zS rfl (az (av := .v _) rfl rfl) <| zX rfl (bh (zs := []) (by kernel_rfl)) ?_;rintro _ _ ⟨o31, rfl, rfl⟩;refine s0 rfl rfl (aV (i := 0) (vs := []) (by kernel_rfl) rfl rfl (by simp [bB, slE]) rfl (ac rfl)) <| za rfl <| ag <| af <| aa ?_;show AR _ _ _ _ _ [0, 1] _;refine zm rfl <| zS rfl (bG rfl) <| ag <| ax rfl (fun hx => bL hx rfl) (fun _ => ?_);refine aA <| aa ?_;show AR _ _ _ _ _ [0, 1] _;refine s0 rfl rfl (aq (i := 2) (c := .v _) (by kernel_rfl) rfl rfl rfl rfl (ac rfl)) <| s0 rfl rfl (aq (i := 1) (c := .v _) (by kernel_rfl) rfl rfl rfl rfl (ac rfl)) <| ag ?_
   exact And.intro rfl (Exists.intro _ (Exists.intro _ ⟨bj rfl, aB [1, 1] rfl, rfl, rfl, rfl⟩))
  show ALeaves _ _ _ _ _ [] .returning [.obj o5 [i64 2], .obj o4 [i64 0], .obj o7 [i64 x8.1, i64 x12.1, i64 x16.1, i64 0, i64 0, i64 0]];obtain ⟨rfl, rfl⟩ := dx H;exact Exists.intro _ (Exists.intro _ ⟨bD rfl (bo (c := .v _) 1 aM rfl rfl rfl rfl) (bo (c := .v _) 0 bn rfl rfl rfl rfl), aB [] rfl, rfl, rfl⟩)
 refine aa ?_;show AR _ _ _ _ _ [0, 1, 2, 3, 4, 5, 6, 7, 8, 9, 10, 11] _;refine zS rfl (ah (av := .pt _ _) rfl) <| am rfl rfl (aQ [0] rfl cL rfl (ct F o6 x16.2 ([84, 116] : List UInt8) 2 x20.1 x20.2 e21) rfl (fun c A' h => by cases h.1) ?_)
 rintro av A' ⟨h, rfl⟩; cases h
 refine zS rfl (ah (av := .pt _ _) rfl) <| am rfl rfl (aQ [0] rfl cL rfl (ct F o6 x20.2 ([58] : List UInt8) 2 x24.1 x24.2 e25) rfl (fun c A' h => by cases h.1) ?_)
 rintro av A' ⟨h, rfl⟩; cases h
 refine zS rfl (ah (av := .pt _ _) rfl) <| am rfl rfl (aQ [0] rfl cL rfl (ct F o6 x24.2 ([58] : List UInt8) 2 x28.1 x28.2 e29) rfl (fun c A' h => by cases h.1) ?_)
 rintro av A' ⟨h, rfl⟩; cases h
 refine zS rfl (an (n := 3) (by kernel_rfl) rfl) <| s0 rfl rfl (aq (i := 1) (c := .v _) (by kernel_rfl) rfl rfl rfl rfl (ac rfl)) <| zS rfl (an (n := 4) (by kernel_rfl) rfl) <| s0 rfl rfl (aq (i := 1) (c := .v _) (by kernel_rfl) rfl rfl rfl rfl (ac rfl)) <| zS rfl (an (n := 5) (by kernel_rfl) rfl) <| s0 rfl rfl (aq (i := 1) (c := .v _) (by kernel_rfl) rfl rfl rfl rfl (ac rfl)) <| ag <| af ?_
 rcases Or.symm (lX H) with ⟨p34, e33, H⟩ | ⟨x32, e33, H⟩
 ·refine aa ?_;show AR _ _ _ _ _ [0, 1] _;refine zS rfl (ah (av := .pt _ _) rfl) <| am rfl rfl (bc (c := cg (.iface 183 (.agg #[]))) [0] rfl tB rfl (mU F o6 x28.2 p34 e33) rfl ?_);refine Exists.intro [(2, .pt o4 0), (3, .pt o5 0)] ⟨by simp, .cons (.refl _) (.cons (.refl _) (.nil _)), ?_⟩;show ALeaves _ _ _ _ _ [.call (.func 156) [.pt o4 0, .pt o5 0] []] _ [.obj o7 [i64 x8.1, i64 x12.1, i64 x16.1, i64 x20.1, i64 x24.1, i64 x28.1], .obj o5 [i64 0], .obj o4 [i64 0]];refine cx (v := .tup []) (u1 := (.panicking [{ v := (.iface 183 (.agg #[])), recovered := true }])) (A2 := [.obj o5 [i64 2], .obj o4 [i64 0]]) [1, 1] (fun h => by cases h) gk rfl ?_ ?_
  ·show ADCalls _ _ [.pt o4 0, .pt o5 0] [.obj o5 [i64 0], .obj o4 [i64 0]] _ _;refine bH (av := .ifc 183 (.agg [])) (l := [1]) eb rfl rfl rfl rfl rfl dd rfl (fun cs => ?_);refine ASR.op rfl rfl ((aJ (av := .ifc _ _) rfl).opR _) <| ASR.nil <| af <| aa ?_;show AR _ _ _ _ _ [0, 1] _;refine zS rfl (ah (av := .ifc _ _) rfl) <| zS rfl (dF (ms := []) (.inr rfl) bP rfl rfl) <| ag <| ax rfl (fun _ => ?_) (fun hx => bL rfl hx);refine af <| af <| aa ?_;show AR _ _ _ _ _ [0, 1, 2, 3, 4, 5, 6, 7] _;refine zS rfl (ah (av := .ifc _ _) rfl) <| zS rfl (cu bI rfl rfl) <| zS rfl (ah (av := .tup _) rfl) <| zS rfl (az (av := .agg _) rfl rfl) <| zS rfl (az (av := .v _) rfl rfl) <| zX rfl (bh (zs := []) (by kernel_rfl)) ?_;rintro _ _ ⟨o35, rfl, rfl⟩;refine s0 rfl rfl (aV (i := 0) (vs := []) (by kernel_rfl) rfl rfl (by simp [bB, slE]) rfl (ac rfl)) <| za rfl <| ag <| af <| aa ?_;show AR _ _ _ _ _ [0, 1] _;refine zm rfl <| zS rfl (bG rfl) <| ag <| ax rfl (fun hx => bL hx rfl) (fun _ => ?_);refine aA <| aa ?_;show AR _ _ _ _ _ [0, 1] _;refine s0 rfl rfl (aq (i := 2) (c := .v _) (by kernel_rfl) rfl rfl rfl rfl (ac rfl)) <| s0 rfl rfl (aq (i := 1) (c := .v _) (by kernel_rfl) rfl rfl rfl rfl (ac rfl)) <| ag ?_
   exact And.intro rfl (Exists.intro _ (Exists.intro _ ⟨bj rfl, aB [1, 1] rfl, rfl, rfl, rfl⟩))
  show ALeaves _ _ _ _ _ [] .returning [.obj o5 [i64 2], .obj o4 [i64 0], .obj o7 [i64 x8.1, i64 x12.1, i64 x16.1, i64 x20.1, i64 x24.1, i64 x28.1]];obtain ⟨rfl, rfl⟩ := dx H;exact Exists.intro _ (Exists.intro _ ⟨bD rfl (bo (c := .v _) 1 aM rfl rfl rfl rfl) (bo (c := .v _) 0 bn rfl rfl rfl rfl), aB [] rfl, rfl, rfl⟩)
 refine aa ?_;show AR _ _ _ _ _ [0, 1] _;refine zS rfl (ah (av := .pt _ _) rfl) <| am rfl rfl (aQ [0] rfl tB rfl (nJ F o6 x28.2 x32 e33) rfl (fun c A' h => by cases h.1) ?_)
 rintro av A' ⟨h, rfl⟩; cases h
 refine ag <| af ?_
 rcases Or.symm (lX H) with ⟨p38, e37, H⟩ | ⟨x36, e37, H⟩
 ·refine aa ?_;show AR _ _ _ _ _ [0, 1, 2] _;refine zS rfl (ah (av := .pt _ _) rfl) <| am rfl rfl (bc (c := cg (.iface 183 (.agg #[]))) [0] rfl tA rfl (pD F o6 x32 p38 e37) rfl ?_);refine Exists.intro [(2, .pt o4 0), (3, .pt o5 0)] ⟨by simp, .cons (.refl _) (.cons (.refl _) (.nil _)), ?_⟩;show ALeaves _ _ _ _ _ [.call (.func 156) [.pt o4 0, .pt o5 0] []] _ [.obj o7 [i64 x8.1, i64 x12.1, i64 x16.1, i64 x20.1, i64 x24.1, i64 x28.1], .obj o5 [i64 0], .obj o4 [i64 0]];refine cx (v := .tup []) (u1 := (.panicking [{ v := (.iface 183 (.agg #[])), recovered := true }])) (A2 := [.obj o5 [i64 2], .obj o4 [i64 0]]) [1, 1] (fun h => by cases h) gk rfl ?_ ?_
  ·show ADCalls _ _ [.pt o4 0, .pt o5 0] [.obj o5 [i64 0], .obj o4 [i64 0]] _ _;refine bH (av := .ifc 183 (.agg [])) (l := [1]) eb rfl rfl rfl rfl rfl dd rfl (fun cs => ?_);refine ASR.op rfl rfl ((aJ (av := .ifc _ _) rfl).opR _) <| ASR.nil <| af <| aa ?_;show AR _ _ _ _ _ [0, 1] _;refine zS rfl (ah (av := .ifc _ _) rfl) <| zS rfl (dF (ms := []) (.inr rfl) bP rfl rfl) <| ag <| ax rfl (fun _ => ?_) (fun hx => bL rfl hx);refine af <| af <| aa ?_;show AR _ _ _ _ _ [0, 1, 2, 3, 4, 5, 6, 7] _;refine zS rfl (ah (av := .ifc _ _) rfl) <| zS rfl (cu bI rfl rfl) <| zS rfl (ah (av := .tup _) rfl) <| zS rfl (az (av := .agg _) rfl rfl) <| zS rfl (az (av := .v _) rfl rfl) <| zX rfl (bh (zs := []) (by kernel_rfl)) ?_;rintro _ _ ⟨o39, rfl, rfl⟩;refine s0 rfl rfl (aV (i := 0) (vs := []) (by kernel_rfl) rfl rfl (by simp [bB, slE]) rfl (ac rfl)) <| za rfl <| ag <| af <| aa ?_;show AR _ _ _ _ _ [0, 1] _;refine zm rfl <| zS rfl (bG rfl) <| ag <| ax rfl (fun hx => bL hx rfl) (fun _ => ?_);refine aA <| aa ?_;show AR _ _ _ _ _ [0, 1] _;refine s0 rfl rfl (aq (i := 2) (c := .v _) (by kernel_rfl) rfl rfl rfl rfl (ac rfl)) <| s0 rfl rfl (aq (i := 1) (c := .v _) (by kernel_rfl) rfl rfl rfl rfl (ac rfl)) <| ag ?_
   exact And.intro rfl (Exists.intro _ (Exists.intro _ ⟨bj rfl, aB [1, 1] rfl, rfl, rfl, rfl⟩))
  show ALeaves _ _ _ _ _ [] .returning [.obj o5 [i64 2], .obj o4 [i64 0], .obj o7 [i64 x8.1, i64 x12.1, i64 x16.1, i64 x20.1, i64 x24.1, i64 x28.1]];obtain ⟨rfl, rfl⟩ := dx H;exact Exists.intro _ (Exists.intro _ ⟨bD rfl (bo (c := .v _) 1 aM rfl rfl rfl rfl) (bo (c := .v _) 0 bn rfl rfl rfl rfl), aB [] rfl, rfl, rfl⟩)
 refine aa ?_;show AR _ _ _ _ _ [0, 1, 2] _;refine zS rfl (ah (av := .pt _ _) rfl) <| am rfl rfl (aQ [0] rfl tA rfl (qz F o6 x32 x36.1 x36.2 e37) rfl (fun c A' h => by cases h.1) ?_)
 rintro av A' ⟨h, rfl⟩; cases h
 refine za rfl <| ag <| af ?_;obtain ⟨x40, x41, e42, H⟩ := cF H;refine aa ?_;show AR _ _ _ _ _ [0, 1, 2, 3, 4, 5, 6] _;refine zR rfl (dW (i := 1) (n := 6) Tryz.underlying189 rfl (by kernel_rfl) rfl rfl (ac rfl)) <| am rfl rfl (aC rfl yz rfl (vY F x8.1 x12.1 x16.1 x20.1 x24.1 x28.1 x40 x41 e42) ?_);refine zS rfl (ah (av := .tup _) rfl) <| zS rfl (az (av := .v _) rfl rfl) <| zS rfl (az (av := .v _) rfl rfl) <| s0 rfl rfl (aq (i := 3) (c := .v _) (by kernel_rfl) rfl rfl rfl rfl (ac rfl)) <| s0 rfl rfl (aq (i := 2) (c := .v _) (by kernel_rfl) rfl rfl rfl rfl (ac rfl)) <| ag <| bJ (X := Unit) (fun _ => ⟨[(2, .pt o4 0), (3, .pt o5 0), (6, i64 x36.1)], [.call (.func 156) [.pt o4 0, .pt o5 0] []], [.obj o5 [i64 x41], .obj o4 [i64 x40]]⟩) (fun _ => gl x36 x40 = some (r2, r3)) ?_ ?_
 ·refine af <| aa ?_;show AR _ _ _ _ _ [0, 1, 2, 3, 4, 5, 6, 7, 8] _;refine zR rfl (ao (i := 2) bn rfl rfl rfl rfl) <| zS rfl (kD rfl rfl) <| zm rfl <| aY (l := []) 46 (B ((!decide (x41 = 0)) || (!decide (x36.2 = ([] : List UInt8))))) (fun K => ?_) ?_
  ·rcases al (!decide (x41 = 0)) with h43 | h43
   ·refine zF h43 rfl <| zF h43 rfl <| zF h43 rfl <| zF h43 rfl <| zF h43 rfl <| zS rfl (aD (av := .v _) rfl h43 rfl) ?_;exact K _ 5 _ (ay (iQ h43)) rfl rfl
   ·refine zU h43 rfl (ah (av := .pt _ _) rfl) <| zU h43 rfl (ar rfl) <| zU h43 rfl (an (n := 0) (by kernel_rfl) rfl) <| zT h43 rfl (cm rfl rfl (ao (i := 0) ai rfl rfl rfl rfl) ?_);refine zU h43 rfl (jp rfl rfl) <| zS rfl (aE (av := .v _) rfl h43 rfl) ?_;exact K _ 5 _ (ay (iR h43)) rfl rfl
  refine ag <| ax rfl (fun c44 => ?_) (fun c44 => ?_)
  ·replace H := aW c44 H;refine aa ?_;show AR _ _ _ _ _ [0, 1, 2] _;refine zS rfl (cP (zs := []) (ps := []) (cs := []) (by kernel_rfl) rfl rfl) <| zS rfl (bf (a := .agg _) bI rfl rfl) <| am rfl rfl (AO.panicT (c := cg (.iface 183 (.agg #[]))) rfl rfl ?_);refine Exists.intro [(2, .pt o4 0), (3, .pt o5 0)] ⟨by simp, .cons (.refl _) (.cons (.refl _) (.nil _)), ?_⟩;show ALeaves _ _ _ _ _ [.call (.func 156) [.pt o4 0, .pt o5 0] []] _ [.obj o6 [S x36.2], .obj o7 [i64 x8.1, i64 x12.1, i64 x16.1, i64 x20.1, i64 x24.1, i64 x28.1], .obj o5 [i64 x41], .obj o4 [i64 x40]];refine cx (v := .tup []) (u1 := (.panicking [{ v := (.iface 183 (.agg #[])), recovered := true }])) (A2 := [.obj o5 [i64 2], .obj o4 [i64 0]]) [2, 2] (fun h => by cases h) gk rfl ?_ ?_
   ·show ADCalls _ _ [.pt o4 0, .pt o5 0] [.obj o5 [i64 x41], .obj o4 [i64 x40]] _ _;refine bH (av := .ifc 183 (.agg [])) (l := [1]) eb rfl rfl rfl rfl rfl dd rfl (fun cs => ?_);refine ASR.op rfl rfl ((aJ (av := .ifc _ _) rfl).opR _) <| ASR.nil <| af <| aa ?_;show AR _ _ _ _ _ [0, 1] _;refine zS rfl (ah (av := .ifc _ _) rfl) <| zS rfl (dF (ms := []) (.inr rfl) bP rfl rfl) <| ag <| ax rfl (fun _ => ?_) (fun hx => bL rfl hx);refine af <| af <| aa ?_;show AR _ _ _ _ _ [0, 1, 2, 3, 4, 5, 6, 7] _;refine zS rfl (ah (av := .ifc _ _) rfl) <| zS rfl (cu bI rfl rfl) <| zS rfl (ah (av := .tup _) rfl) <| zS rfl (az (av := .agg _) rfl rfl) <| zS rfl (az (av := .v _) rfl rfl) <| zX rfl (bh (zs := []) (by kernel_rfl)) ?_;rintro _ _ ⟨o45, rfl, rfl⟩;refine s0 rfl rfl (aV (i := 0) (vs := []) (by kernel_rfl) rfl rfl (by simp [bB, slE]) rfl (ac rfl)) <| za rfl <| ag <| af <| aa ?_;show AR _ _ _ _ _ [0, 1] _;refine zm rfl <| zS rfl (bG rfl) <| ag <| ax rfl (fun hx => bL hx rfl) (fun _ => ?_);refine aA <| aa ?_;show AR _ _ _ _ _ [0, 1] _;refine s0 rfl rfl (aq (i := 2) (c := .v _) (by kernel_rfl) rfl rfl rfl rfl (ac rfl)) <| s0 rfl rfl (aq (i := 1) (c := .v _) (by kernel_rfl) rfl rfl rfl rfl (ac rfl)) <| ag ?_
    exact And.intro rfl (Exists.intro _ (Exists.intro _ ⟨bj rfl, aB [1, 1] rfl, rfl, rfl, rfl⟩))
   show ALeaves _ _ _ _ _ [] .returning [.obj o5 [i64 2], .obj o4 [i64 0], .obj o6 [S x36.2], .obj o7 [i64 x8.1, i64 x12.1, i64 x16.1, i64 x20.1, i64 x24.1, i64 x28.1]];obtain ⟨rfl, rfl⟩ := dx H;exact Exists.intro _ (Exists.intro _ ⟨bD rfl (bo (c := .v _) 1 aM rfl rfl rfl rfl) (bo (c := .v _) 0 bn rfl rfl rfl rfl), aB [] rfl, rfl, rfl⟩)
  ·replace H := aX c44 H;refine aA ?_;exact Exists.intro () ⟨H, bb [2, 2] (.cons (.refl _) (.cons (.refl _) (.cons (.refl _) (.nil _)))) rfl⟩
 rintro _ H;replace H : gl x36 x40 = some (r2, r3) := H
 unfold gl at H
 refine af ?_;obtain ⟨g47, H⟩ := aN H;refine aa ?_;show AR _ _ _ _ _ [0, 1, 2, 3, 4] _;refine zR rfl (ao (i := 1) aM rfl rfl rfl rfl) <| zm rfl <| zS rfl (lw rfl rfl g47) <| s0 rfl rfl (aq (i := 1) (c := .v _) (by kernel_rfl) rfl rfl rfl rfl (ac rfl)) <| s0 rfl rfl (aq (i := 0) (c := .v _) (by kernel_rfl) rfl rfl rfl rfl (ac rfl)) <| ag <| aI ?_;show ALeaves _ _ _ _ _ [.call (.func 156) [.pt o4 0, .pt o5 0] []] _ [.obj o5 [i64 0], .obj o4 [i64 (x40 - x36.1)]];refine cx (v := .tup []) (u1 := .returning) (A2 := [.obj o5 [i64 0], .obj o4 [i64 (x40 - x36.1)]]) [0, 0] (fun h => by cases h) gk rfl ?_ ?_
 ·show ADCalls _ _ [.pt o4 0, .pt o5 0] [.obj o5 [i64 0], .obj o4 [i64 (x40 - x36.1)]] _ _;refine bH (av := .v .nilIface) (l := [1]) eb rfl rfl rfl rfl rfl Recovers.ret rfl (fun cs => ?_);refine ASR.op rfl rfl ((asg rfl).opR _) <| ASR.nil <| af <| aa ?_;show AR _ _ _ _ _ [0, 1] _;refine zm rfl <| zS rfl (my (n := 0) (t := 0) (k := .i64) bP rfl rfl) <| ag <| ax rfl (fun hx => bL hx rfl) (fun _ => ?_);refine aA ?_;exact And.intro rfl (Exists.intro _ (Exists.intro _ ⟨bj rfl, aB [0, 0] rfl, rfl, rfl, rfl⟩))
 show ALeaves _ _ _ _ _ [] .returning [.obj o5 [i64 0], .obj o4 [i64 (x40 - x36.1)]];obtain ⟨rfl, rfl⟩ := dx H;exact Exists.intro _ (Exists.intro _ ⟨bD rfl (bo (c := .v _) 1 aM rfl rfl rfl rfl) (bo (c := .v _) 0 bn rfl rfl rfl rfl), aB [] rfl, rfl, rfl⟩)
end Go.Proofs.YtkbfjepffpddfaaGreatDoor
namespace Go.Pv
def fA (F : Nat) (a1 : UInt8) : Option UInt8 :=
some (a1 ||| 32)
def fC (y84 : Int) : Option Bool :=
some (!decide (y84 = 95))
def dt (y50 : Int) (rec51 : (Int × Int) → Option Bool) (y81 : Int) : Option Bool :=
grd (okI (y50 + 1)) <|
rec51 (y81, y50 + 1)
def ij (F : Nat) (y15 : List UInt8) (y47 : Bool) (rec51 : (Int × Int) → Option Bool) (y49 : Int) (y50 : Int) : Option Bool :=
bif decide (y50 < (y15.length : Int)) then
  grd (dr y50 y15.length) <|
  lt (at_ y15 y50) fun x55 =>
  fq (decide (48 ≤ (x55.toNat : Int))) (dr y50 y15.length) <|
  lt (at_ y15 y50) fun x59 =>
  fq ((!((decide (48 ≤ (x55.toNat : Int))) && (decide ((x59.toNat : Int) ≤ 57)))) && y47) (dr y50 y15.length) <|
  lt (at_ y15 y50) fun x64 =>
  kz ((!((decide (48 ≤ (x55.toNat : Int))) && (decide ((x59.toNat : Int) ≤ 57)))) && y47) (fA F x64) fun x66 =>
  fq ((!((decide (48 ≤ (x55.toNat : Int))) && (decide ((x59.toNat : Int) ≤ 57)))) && (y47 && (decide (97 ≤ (x66.toNat : Int))))) (dr y50 y15.length) <|
  lt (at_ y15 y50) fun x70 =>
  kz ((!((decide (48 ≤ (x55.toNat : Int))) && (decide ((x59.toNat : Int) ≤ 57)))) && (y47 && (decide (97 ≤ (x66.toNat : Int))))) (fA F x70) fun x72 =>
  bif ((decide (48 ≤ (x55.toNat : Int))) && (decide ((x59.toNat : Int) ≤ 57))) || ((y47 && (decide (97 ≤ (x66.toNat : Int)))) && (decide ((x72.toNat : Int) ≤ 102))) then
    dt y50 rec51 48
  else
    grd (dr y50 y15.length) <|
    lt (at_ y15 y50) fun x76 =>
    bif decide (x76 = 95) then
      bif !decide (y49 = 48) then
        some false
      else
        dt y50 rec51 95
    else
      bif decide (y49 = 95) then
        some false
      else
        dt y50 rec51 33
else
  fC y49
def ei (F : Nat) (y15 : List UInt8) (y47 : Bool) (n : Nat) : (Int × Int) → Option Bool :=
  loop (fun rec x => ij F y15 y47 rec x.1 x.2) n
def eh (F : Nat) (y15 : List UInt8) (y45 : Int) (y46 : Int) (y47 : Bool) : Option Bool :=
ei F y15 y47 F (y45, y46)
def eg (F : Nat) (y15 : List UInt8) : Option Bool :=
fq (decide (2 ≤ (y15.length : Int))) (dr 0 y15.length) <|
lt (at_ y15 0) fun x19 =>
fq ((decide (2 ≤ (y15.length : Int))) && (decide (x19 = 48))) (dr 1 y15.length) <|
lt (at_ y15 1) fun x23 =>
kz ((decide (2 ≤ (y15.length : Int))) && (decide (x19 = 48))) (fA F x23) fun x25 =>
fq (((decide (2 ≤ (y15.length : Int))) && (decide (x19 = 48))) && (!(decide (x25 = 98)))) (dr 1 y15.length) <|
lt (at_ y15 1) fun x29 =>
kz (((decide (2 ≤ (y15.length : Int))) && (decide (x19 = 48))) && (!(decide (x25 = 98)))) (fA F x29) fun x31 =>
fq (((decide (2 ≤ (y15.length : Int))) && (decide (x19 = 48))) && (!((decide (x25 = 98)) || (decide (x31 = 111))))) (dr 1 y15.length) <|
lt (at_ y15 1) fun x35 =>
kz (((decide (2 ≤ (y15.length : Int))) && (decide (x19 = 48))) && (!((decide (x25 = 98)) || (decide (x31 = 111))))) (fA F x35) fun x37 =>
bif ((decide (2 ≤ (y15.length : Int))) && (decide (x19 = 48))) && (((decide (x25 = 98)) || (decide (x31 = 111))) || (decide (x37 = 120))) then
  grd (dr 1 y15.length) <|
  lt (at_ y15 1) fun x41 =>
  bnd (fA F x41) fun x43 =>
  eh F y15 48 2 (decide (x43 = 120))
else
  eh F y15 94 0 false
def kb (F : Nat) (a1 : List UInt8) : Option Bool :=
fq (decide (1 ≤ (a1.length : Int))) (dr 0 a1.length) <|
lt (at_ a1 0) fun x5 =>
fq ((decide (1 ≤ (a1.length : Int))) && (!(decide (x5 = 45)))) (dr 0 a1.length) <|
lt (at_ a1 0) fun x9 =>
bif (decide (1 ≤ (a1.length : Int))) && ((decide (x5 = 45)) || (decide (x9 = 43))) then
  grd (kj 1 a1.length) <|
  lt (cY a1 1) fun x13 =>
  eg F x13
else
  eg F a1
def eJ (F : Nat) (a1 : List UInt8) (y53 : Bool) (y54 : Int) : Option (Int × Int) :=
kz y53 (kb F a1) fun x57 =>
bif y53 && (!x57) then
  some (0, 2)
else
  some (y54, 0)
def dK (y24 : Int) (rec25 : (Bool × Int × Int) → Option (Int × Int)) (y49 : Bool) (y50 : Int) : Option (Int × Int) :=
grd (okI (y24 + 1)) <|
rec25 (y49, y50, y24 + 1)
def cM (a2 : Int) (y17 : Int) (y22 : Bool) (y23 : Int) (y24 : Int) (rec25 : (Bool × Int × Int) → Option (Int × Int)) (y43 : UInt8) : Option (Int × Int) :=
bif decide (((Go.Av.toB a2).toNat : Int) ≤ (y43.toNat : Int)) then
  some (0, 2)
else
  bif decide (y17 ≤ y23) then
    some (IntKind.u64.wrap ((IntKind.u64.wrap (1 * 2 ^ min (Int.toNat (IntKind.u64.wrap 64)) IntKind.u64.bits)) - 1), 1)
  else
    bif (decide (IntKind.u64.wrap ((IntKind.u64.wrap (y23 * (IntKind.u64.wrap a2))) + (IntKind.u64.wrap (y43.toNat : Int))) < IntKind.u64.wrap (y23 * (IntKind.u64.wrap a2)))) || (decide (IntKind.u64.wrap ((IntKind.u64.wrap (1 * 2 ^ min (Int.toNat (IntKind.u64.wrap 64)) IntKind.u64.bits)) - 1) < IntKind.u64.wrap ((IntKind.u64.wrap (y23 * (IntKind.u64.wrap a2))) + (IntKind.u64.wrap (y43.toNat : Int))))) then
      some (IntKind.u64.wrap ((IntKind.u64.wrap (1 * 2 ^ min (Int.toNat (IntKind.u64.wrap 64)) IntKind.u64.bits)) - 1), 1)
    else
      dK y24 rec25 y22 (IntKind.u64.wrap ((IntKind.u64.wrap (y23 * (IntKind.u64.wrap a2))) + (IntKind.u64.wrap (y43.toNat : Int))))
def dL (F : Nat) (a1 : List UInt8) (a2 : Int) (y17 : Int) (rec25 : (Bool × Int × Int) → Option (Int × Int)) (y22 : Bool) (y23 : Int) (y24 : Int) : Option (Int × Int) :=
bif decide (y24 < (a1.length : Int)) then
  grd (dr y24 a1.length) <|
  lt (at_ a1 y24) fun x29 =>
  bif (decide (x29 = 95)) && (decide (a2 = 0)) then
    dK y24 rec25 true y23
  else
    bif (decide (48 ≤ (x29.toNat : Int))) && (decide ((x29.toNat : Int) ≤ 57)) then
      cM a2 y17 y22 y23 y24 rec25 (x29 - 48)
    else
      bnd (fA F x29) fun x35 =>
      kz (decide (97 ≤ (x35.toNat : Int))) (fA F x29) fun x38 =>
      bif (decide (97 ≤ (x35.toNat : Int))) && (decide ((x38.toNat : Int) ≤ 122)) then
        bnd (fA F x29) fun x41 =>
        cM a2 y17 y22 y23 y24 rec25 ((x41 - 97) + 10)
      else
        some (0, 2)
else
  eJ F a1 y22 y23
def bW (F : Nat) (a1 : List UInt8) (a2 : Int) (y17 : Int) (n : Nat) : (Bool × Int × Int) → Option (Int × Int) :=
  loop (fun rec x => dL F a1 a2 y17 rec x.1 x.2.1 x.2.2) n
def df (F : Nat) (a1 : List UInt8) (a2 : Int) (y17 : Int) : Option (Int × Int) :=
grd (decide (0 ≤ IntKind.u64.wrap 64)) <|
grd (gJ a1.length) <|
bW F a1 a2 y17 F (false, 0, 0)
def eI (F : Nat) (a1 : List UInt8) (a2 : Int) : Option (Int × Int) :=
bif decide (a2 = 10) then
  df F a1 a2 1844674407370955162
else
  bif decide (a2 = 16) then
    df F a1 a2 1152921504606846976
  else
    grd (decide (IntKind.u64.wrap a2 ≠ 0)) <|
    df F a1 a2 (IntKind.u64.wrap ((IntKind.u64.wrap (Int.tdiv 18446744073709551615 (IntKind.u64.wrap a2))) + 1))
def eH (F : Nat) (a1 : List UInt8) (a2 : Int) (a3 : Int) : Option (Int × Int) :=
grd (decide (a3 = 0)) <|
eI F a1 a2
def fG (F : Nat) (a1 : List UInt8) (a2 : Int) (a3 : Int) : Option (Int × Int) :=
bif decide (a1 = ([] : List UInt8)) then
  some (0, 2)
else
  grd ((decide (2 ≤ a2)) && (decide (a2 ≤ 36))) <|
  eH F a1 a2 a3
def ew (y40 : Int) : Option (Int × Int) :=
some (y40, 0)
def fo (y19 : Bool) (x21 : Int) : Option (Int × Int) :=
grd (decide (0 ≤ IntKind.u64.wrap 63)) <|
bif (!y19) && (decide (IntKind.u64.wrap (1 * 2 ^ min (Int.toNat (IntKind.u64.wrap 63)) IntKind.u64.bits) ≤ x21)) then
  grd (okI (IntKind.u64.wrap ((IntKind.u64.wrap (1 * 2 ^ min (Int.toNat (IntKind.u64.wrap 63)) IntKind.u64.bits)) - 1))) <|
  some (IntKind.u64.wrap ((IntKind.u64.wrap (1 * 2 ^ min (Int.toNat (IntKind.u64.wrap 63)) IntKind.u64.bits)) - 1), 1)
else
  bif y19 && (decide (IntKind.u64.wrap (1 * 2 ^ min (Int.toNat (IntKind.u64.wrap 63)) IntKind.u64.bits) < x21)) then
    grd (okI (IntKind.u64.wrap (1 * 2 ^ min (Int.toNat (IntKind.u64.wrap 63)) IntKind.u64.bits))) <|
    grd (okI (0 - (IntKind.u64.wrap (1 * 2 ^ min (Int.toNat (IntKind.u64.wrap 63)) IntKind.u64.bits)))) <|
    some (0 - (IntKind.u64.wrap (1 * 2 ^ min (Int.toNat (IntKind.u64.wrap 63)) IntKind.u64.bits)), 1)
  else
    grd (okI x21) <|
    bif y19 then
      grd (okI (0 - x21)) <|
      ew (0 - x21)
    else
      ew x21
def dC (F : Nat) (a2 : Int) (a3 : Int) (y18 : List UInt8) (y19 : Bool) : Option (Int × Int) :=
ft (fG F y18 a2 a3) fun x21 x22 =>
bif (!decide (x22 = 0)) && (!decide (x22 = 1)) then
  some (0, x22)
else
  grd (decide (a3 = 0)) <|
  fo y19 x21
def gp (F : Nat) (a1 : List UInt8) (a2 : Int) (a3 : Int) : Option (Int × Int) :=
bif decide (a1 = ([] : List UInt8)) then
  some (0, 2)
else
  grd (dr 0 a1.length) <|
  lt (at_ a1 0) fun x8 =>
  bif decide (x8 = 43) then
    grd (kj 1 a1.length) <|
    lt (cY a1 1) fun x12 =>
    dC F a2 a3 x12 false
  else
    bif decide (x8 = 45) then
      grd (kj 1 a1.length) <|
      lt (cY a1 1) fun x16 =>
      dC F a2 a3 x16 true
    else
      dC F a2 a3 a1 false
def dv (F : Nat) (a1 : List UInt8) (a2 : Int) (a3 : Int) : Option (Int × Int) :=
ft (gp F a1 a2 a3) fun x6 x7 =>
bif !decide (x7 = 0) then
  grd (okS a1.length) <|
  grd (decide (x7 = 1 ∨ x7 = 2)) <|
  some (x6, 1)
else
  some (x6, 0)
end Go.Pv
namespace Go.Proofs.YtkbfjepffpddfaaGreatDoor
open Go.RowKit Go.Av Go.Pv
theorem yO : ∀ (args : Array Value) (w : World), (callFunc 105 args).run Tryz.prog w = .ok (.enter 105 args) w := fun _ _ => by kernel_rfl
theorem yN : ∀ (args : Array Value) (w : World), (callFunc 106 args).run Tryz.prog w = .ok (.enter 106 args) w := fun _ _ => by kernel_rfl
theorem yM : ∀ (args : Array Value) (w : World), (callFunc 107 args).run Tryz.prog w = .ok (.enter 107 args) w := fun _ _ => by kernel_rfl
theorem gI : ∀ (args : Array Value) (w : World), (callFunc 112 args).run Tryz.prog w = .ok (.enter 112 args) w := fun _ _ => by kernel_rfl
theorem yL : ∀ (args : Array Value) (w : World), (callFunc 113 args).run Tryz.prog w = .ok (.enter 113 args) w := fun _ _ => by kernel_rfl
set_option maxRecDepth 100000 in
set_option maxHeartbeats 1000000 in
theorem fJ (F : Nat) (a1 : UInt8) (r2 : UInt8) (H : fA F a1 = some r2) : ACalls Tryz.prog 112 [u8 a1] [] (Ret (u8 r2) []) := by
 unfold fA at H
 refine ap Tryz.func112 rfl rfl ?_;show AW _ _ 5 _ _ _;refine af <| aa ?_;show AR _ _ _ _ _ [0] _;refine za rfl <| ag <| af <| aa ?_;show AR _ _ _ _ _ [0, 1, 2] _;refine zm rfl <| zS rfl (g_or8 (a := a1) (b := 32) rfl rfl) <| za rfl <| ag <| aI ?_;obtain rfl := ak H;exact And.intro rfl (Exists.intro _ (Exists.intro _ ⟨aG rfl (.refl _), aB [] rfl, rfl, rfl⟩))
set_option maxRecDepth 100000 in
set_option maxHeartbeats 1000000 in
theorem oJ (F : Nat) (a1 : List UInt8) (r2 : Bool) (H : kb F a1 = some r2) : ACalls Tryz.prog 113 [S a1] [] (Ret (B r2) []) := by
 unfold kb at H
 refine ap Tryz.func113 rfl rfl ?_;show AW _ _ 94 _ _ _;refine af <| aa ?_;show AR _ _ _ _ _ [0] _;refine za rfl <| ag <| af <| aa ?_;show AR _ _ _ _ _ [0] _;refine za rfl <| ag <| af <| aa ?_;show AR _ _ _ _ _ [0] _;refine za rfl <| ag <| bJ (X := (List UInt8)) (fun y15 => ⟨[(0, S y15), (3, .v (.int .i32 94)), (4, i64 0)], [], []⟩) (fun y15 => eg F y15 = some r2) ?_ ?_
 ·refine af ?_;obtain ⟨g4, H⟩ := cQ H;obtain ⟨x5, e6, H⟩ := bR H;obtain ⟨g8, H⟩ := cQ H;obtain ⟨x9, e10, H⟩ := bR H;refine aa ?_;show AR _ _ _ _ _ [0, 1, 2, 3, 4, 5, 6, 7, 8, 9, 10, 11, 12] _;refine zm rfl <| zS rfl (bw ai rfl) <| zS rfl (fv rfl rfl) <| zm rfl <| aY (l := []) 18 (B ((decide (1 ≤ (a1.length : Int))) && ((decide (x5 = 45)) || (decide (x9 = 43))))) (fun K => ?_) ?_
  ·rcases al (decide (1 ≤ (a1.length : Int))) with h3 | h3
   ·refine zM h3 rfl <| zU h3 rfl (bp ai rfl rfl (g4 h3) e6) <| zU h3 rfl (gK (a := x5) (b := 45) rfl rfl) <| zM h3 rfl <| aY (l := [12]) 17 (B ((decide (x5 = 45)) || (decide (x9 = 43)))) (fun K => ?_) ?_
    ·rcases al (decide (x5 = 45)) with h7 | h7
     ·refine zF h7 rfl <| zF h7 rfl <| zF h7 rfl <| zU h3 rfl (aD (av := .v _) rfl h7 rfl) ?_;exact K _ 3 _ (ay (iQ h7)) rfl rfl
     ·refine zM h7 rfl <| zU h7 rfl (bp ai rfl rfl (g8 (lY h3 (nf h7))) e10) <| zU h7 rfl (gK (a := x9) (b := 43) rfl rfl) <| zU h3 rfl (aE (av := .v _) rfl h7 rfl) ?_;exact K _ 3 _ (ay (iR h7)) rfl rfl
    refine zS rfl (aD (av := .v _) rfl h3 rfl) ?_;exact K _ 5 _ (ay (cz h3)) rfl rfl
   ·refine zF h3 rfl <| zF h3 rfl <| zF h3 rfl <| zF h3 rfl <| gU rfl rfl rfl rfl rfl <| gU rfl rfl rfl rfl rfl <| gU rfl rfl rfl rfl rfl <| zF h3 rfl <| zS rfl (aE (av := .v _) rfl h3 rfl) ?_;exact K _ 8 _ (ay (cA h3)) rfl rfl
  refine ag <| ax rfl (fun c11 => ?_) (fun c11 => ?_)
  ·replace H := aW c11 H;obtain ⟨g12, H⟩ := aN H;obtain ⟨x13, e14, H⟩ := bR H;refine aa ?_;show AR _ _ _ _ _ [0, 1, 2] _;refine zm rfl <| zS rfl (eD ai rfl rfl g12 e14) <| za rfl <| ag ?_;exact Exists.intro x13 ⟨H, bb [] (.cons (.refl _) (.cons (.refl _) (.cons (.refl _) (.nil _)))) rfl⟩
  ·replace H := aX c11 H;refine aA ?_;exact Exists.intro a1 ⟨H, bb [] (.cons (.refl _) (.cons (.refl _) (.cons (.refl _) (.nil _)))) rfl⟩
 rintro y15 H;replace H : eg F y15 = some r2 := H
 unfold eg at H
 refine af <| aa ?_;show AR _ _ _ _ _ [0] _;refine za rfl <| ag <| bJ (X := Int × Int × Bool) (fun (y45, y46, y47) => ⟨[(0, S y15), (3, .v (.int .i32 y45)), (4, i64 y46), (5, B y47)], [], []⟩) (fun (y45, y46, y47) => eh F y15 y45 y46 y47 = some r2) ?_ ?_
 ·refine af ?_;obtain ⟨g18, H⟩ := cQ H;obtain ⟨x19, e20, H⟩ := bR H;obtain ⟨g22, H⟩ := cQ H;obtain ⟨x23, e24, H⟩ := bR H;obtain ⟨x25, e26, H⟩ := eY H;obtain ⟨g28, H⟩ := cQ H;obtain ⟨x29, e30, H⟩ := bR H;obtain ⟨x31, e32, H⟩ := eY H;obtain ⟨g34, H⟩ := cQ H;obtain ⟨x35, e36, H⟩ := bR H;obtain ⟨x37, e38, H⟩ := eY H;refine aa ?_;show AR _ _ _ _ _ [0, 1, 2, 3, 4, 5, 6, 7, 8, 9, 10, 11, 12, 13, 14, 15, 16, 17, 18, 19, 20, 21, 22, 23, 24, 25] _;refine zm rfl <| zS rfl (bw ai rfl) <| zS rfl (fv rfl rfl) <| zm rfl <| aY (l := [8, 9, 10, 11, 12, 13, 14, 15, 16, 17, 18, 19, 20, 21, 22, 23, 24, 25]) 28 (B ((decide (2 ≤ (y15.length : Int))) && (decide (x19 = 48)))) (fun K => ?_) ?_
  ·rcases al (decide (2 ≤ (y15.length : Int))) with h17 | h17
   ·refine zM h17 rfl <| zU h17 rfl (bp ai rfl rfl (g18 h17) e20) <| zU h17 rfl (gK (a := x19) (b := 48) rfl rfl) <| zS rfl (aD (av := .v _) rfl h17 rfl) ?_;exact K _ 3 _ (ay (cz h17)) rfl rfl
   ·refine zF h17 rfl <| zF h17 rfl <| zF h17 rfl <| zS rfl (aE (av := .v _) rfl h17 rfl) ?_;exact K _ 3 _ (ay (cA h17)) rfl rfl
  refine zm rfl <| aY (l := []) 46 (B (((decide (2 ≤ (y15.length : Int))) && (decide (x19 = 48))) && (((decide (x25 = 98)) || (decide (x31 = 111))) || (decide (x37 = 120))))) (fun K => ?_) ?_
  ·rcases al ((decide (2 ≤ (y15.length : Int))) && (decide (x19 = 48))) with h21 | h21
   ·refine zM h21 rfl <| zU h21 rfl (bp ai rfl rfl (g22 h21) e24) <| zT h21 rfl (aC rfl gI rfl (fJ F x23 x25 (e26 h21)) ?_);refine zU h21 rfl (gK (a := x25) (b := 98) rfl rfl) <| zM h21 rfl <| aY (l := [19, 20, 21, 22, 23, 24, 25]) 39 (B ((decide (x25 = 98)) || (decide (x31 = 111)))) (fun K => ?_) ?_
    ·rcases al (decide (x25 = 98)) with h27 | h27
     ·refine zF h27 rfl <| zF h27 rfl <| zF h27 rfl <| zF h27 rfl <| zU h21 rfl (aD (av := .v _) rfl h27 rfl) ?_;exact K _ 4 _ (ay (iQ h27)) rfl rfl
     ·refine zM h27 rfl <| zU h27 rfl (bp ai rfl rfl (g28 (lY h21 (nf h27))) e30) <| zT h27 rfl (aC rfl gI rfl (fJ F x29 x31 (e32 (lY h21 (nf h27)))) ?_);refine zU h27 rfl (gK (a := x31) (b := 111) rfl rfl) <| zU h21 rfl (aE (av := .v _) rfl h27 rfl) ?_;exact K _ 4 _ (ay (iR h27)) rfl rfl
    refine zM h21 rfl <| aY (l := [25]) 45 (B (((decide (x25 = 98)) || (decide (x31 = 111))) || (decide (x37 = 120)))) (fun K => ?_) ?_
    ·rcases al ((decide (x25 = 98)) || (decide (x31 = 111))) with h33 | h33
     ·refine zF h33 rfl <| zF h33 rfl <| zF h33 rfl <| zF h33 rfl <| zU h21 rfl (aD (av := .v _) rfl h33 rfl) ?_;exact K _ 4 _ (ay (iQ h33)) rfl rfl
     ·refine zM h33 rfl <| zU h33 rfl (bp ai rfl rfl (g34 (lY h21 (nf h33))) e36) <| zT h33 rfl (aC rfl gI rfl (fJ F x35 x37 (e38 (lY h21 (nf h33)))) ?_);refine zU h33 rfl (gK (a := x37) (b := 120) rfl rfl) <| zU h21 rfl (aE (av := .v _) rfl h33 rfl) ?_;exact K _ 4 _ (ay (iR h33)) rfl rfl
    refine zS rfl (aD (av := .v _) rfl h21 rfl) ?_;exact K _ 8 _ (ay (cz h21)) rfl rfl
   ·refine zF h21 rfl <| zF h21 rfl <| zF h21 rfl <| zF h21 rfl <| zF h21 rfl <| gU rfl rfl rfl rfl rfl <| gU rfl rfl rfl rfl rfl <| gU rfl rfl rfl rfl rfl <| gU rfl rfl rfl rfl rfl <| zF h21 rfl <| zF h21 rfl <| gU rfl rfl rfl rfl rfl <| gU rfl rfl rfl rfl rfl <| gU rfl rfl rfl rfl rfl <| gU rfl rfl rfl rfl rfl <| zF h21 rfl <| zS rfl (aE (av := .v _) rfl h21 rfl) ?_;exact K _ 16 _ (ay (cA h21)) rfl rfl
  refine ag <| ax rfl (fun c39 => ?_) (fun c39 => ?_)
  ·replace H := aW c39 H;refine af <| aa ?_;show AR _ _ _ _ _ [0] _;refine za rfl <| ag <| af <| aa ?_;show AR _ _ _ _ _ [0] _;refine za rfl <| ag ?_;obtain ⟨g40, H⟩ := aN H;obtain ⟨x41, e42, H⟩ := bR H;obtain ⟨x43, e44, H⟩ := cd H;refine aa ?_;show AR _ _ _ _ _ [0, 1, 2, 3, 4] _;refine zm rfl <| zS rfl (bp ai rfl rfl g40 e42) <| am rfl rfl (aC rfl gI rfl (fJ F x41 x43 e44) ?_);refine zS rfl (gK (a := x43) (b := 120) rfl rfl) <| za rfl <| ag ?_;exact Exists.intro (48, 2, decide (x43 = 120)) ⟨H, bb [] (.cons (.refl _) (.cons (.refl _) (.cons (.refl _) (.cons (.refl _) (.nil _))))) rfl⟩
  ·replace H := aX c39 H;refine aA ?_;exact Exists.intro (94, 0, false) ⟨H, bb [] (.cons (.refl _) (.cons (.refl _) (.cons (.refl _) (.cons (.refl _) (.nil _))))) rfl⟩
 rintro ⟨y45, y46, y47⟩ H;replace H : eh F y15 y45 y46 y47 = some r2 := H
 unfold eh at H
 refine bJ (X := Int) (fun y84 => ⟨[(3, .v (.int .i32 y84))], [], []⟩) (fun y84 => fC y84 = some r2) ?_ ?_
 ·refine aR <| de (X := Nat × Int × Int) (fun (n52, y49, y50) => ⟨[(0, S y15), (3, .v (.int .i32 y49)), (4, i64 y50), (5, B y47)], [], []⟩) (fun (n52, y49, y50) => ei F y15 y47 n52 (y49, y50) = some r2) (fun (n52, y49, y50) => n52) (F, y45, y46) H (bb [] (.cons (.refl _) (.cons (.refl _) (.cons (.refl _) (.cons (.refl _) (.nil _))))) rfl) ?_;rintro ⟨n52, y49, y50⟩ H;obtain ⟨n52, rfl, H⟩ := eX H;replace H : ij F y15 y47 (ei F y15 y47 n52) y49 y50 = some r2 := H
  unfold ij at H
  refine af <| af <| aa ?_;show AR _ _ _ _ _ [0, 1, 2, 3] _;refine zm rfl <| zm rfl <| zS rfl (bw ai rfl) <| zS rfl (bX rfl rfl) <| ag <| ax rfl (fun c53 => ?_) (fun c53 => ?_)
  ·replace H := aW c53 H;refine aA <| bJ (X := Int) (fun y81 => ⟨[(0, S y15), (3, .v (.int .i32 y81)), (4, i64 y50), (5, B y47)], [], []⟩) (fun y81 => dt y50 (ei F y15 y47 n52) y81 = some r2) ?_ ?_
   ·refine aR <| af <| af ?_;obtain ⟨g54, H⟩ := aN H;obtain ⟨x55, e56, H⟩ := bR H;obtain ⟨g58, H⟩ := cQ H;obtain ⟨x59, e60, H⟩ := bR H;obtain ⟨g63, H⟩ := cQ H;obtain ⟨x64, e65, H⟩ := bR H;obtain ⟨x66, e67, H⟩ := eY H;obtain ⟨g69, H⟩ := cQ H;obtain ⟨x70, e71, H⟩ := bR H;obtain ⟨x72, e73, H⟩ := eY H;refine aa ?_;show AR _ _ _ _ _ [0, 1, 2, 3, 4, 5, 6, 7, 8, 9, 10, 11, 12, 13, 14, 15, 16, 17, 18, 19, 20, 21, 22, 23, 24, 25, 26] _;refine zm rfl <| zm rfl <| zS rfl (bp ai rfl rfl g54 e56) <| zS rfl (gh rfl rfl) <| zm rfl <| aY (l := [10, 11, 12, 13, 14, 15, 16, 17, 18, 19, 20, 21, 22, 23, 24, 25, 26]) 66 (B ((decide (48 ≤ (x55.toNat : Int))) && (decide ((x59.toNat : Int) ≤ 57)))) (fun K => ?_) ?_
    ·rcases al (decide (48 ≤ (x55.toNat : Int))) with h57 | h57
     ·refine zM h57 rfl <| zM h57 rfl <| zU h57 rfl (bp ai rfl rfl (g58 h57) e60) <| zU h57 rfl (gh rfl rfl) <| zS rfl (aD (av := .v _) rfl h57 rfl) ?_;exact K _ 4 _ (ay (cz h57)) rfl rfl
     ·refine zF h57 rfl <| zF h57 rfl <| zF h57 rfl <| zF h57 rfl <| zS rfl (aE (av := .v _) rfl h57 rfl) ?_;exact K _ 4 _ (ay (cA h57)) rfl rfl
    refine zm rfl <| aY (l := []) 83 (B (((decide (48 ≤ (x55.toNat : Int))) && (decide ((x59.toNat : Int) ≤ 57))) || ((y47 && (decide (97 ≤ (x66.toNat : Int)))) && (decide ((x72.toNat : Int) ≤ 102))))) (fun K => ?_) ?_
    ·rcases al ((decide (48 ≤ (x55.toNat : Int))) && (decide ((x59.toNat : Int) ≤ 57))) with h61 | h61
     ·refine zF h61 rfl <| zF h61 rfl <| gU rfl rfl rfl rfl rfl <| gU rfl rfl rfl rfl rfl <| gU rfl rfl rfl rfl rfl <| gU rfl rfl rfl rfl rfl <| gU rfl rfl rfl rfl rfl <| zF h61 rfl <| zF h61 rfl <| gU rfl rfl rfl rfl rfl <| gU rfl rfl rfl rfl rfl <| gU rfl rfl rfl rfl rfl <| gU rfl rfl rfl rfl rfl <| gU rfl rfl rfl rfl rfl <| zF h61 rfl <| zS rfl (aD (av := .v _) rfl h61 rfl) ?_;exact K _ 15 _ (ay (iQ h61)) rfl rfl
     ·refine zM h61 rfl <| zM h61 rfl <| aY (l := [19, 20, 21, 22, 23, 24, 25, 26]) 75 (B (y47 && (decide (97 ≤ (x66.toNat : Int))))) (fun K => ?_) ?_
      ·rcases al y47 with h62 | h62
       ·refine zM h62 rfl <| zM h62 rfl <| zU h62 rfl (bp ai rfl rfl (g63 (lY (nf h61) h62)) e65) <| zT h62 rfl (aC rfl gI rfl (fJ F x64 x66 (e67 (lY (nf h61) h62))) ?_);refine zU h62 rfl (gh rfl rfl) <| zU h61 rfl (aD (av := .v _) rfl h62 rfl) ?_;exact K _ 5 _ (ay (cz h62)) rfl rfl
       ·refine zF h62 rfl <| zF h62 rfl <| zF h62 rfl <| zF h62 rfl <| zF h62 rfl <| zU h61 rfl (aE (av := .v _) rfl h62 rfl) ?_;exact K _ 5 _ (ay (cA h62)) rfl rfl
      refine zM h61 rfl <| aY (l := [26]) 82 (B ((y47 && (decide (97 ≤ (x66.toNat : Int)))) && (decide ((x72.toNat : Int) ≤ 102)))) (fun K => ?_) ?_
      ·rcases al (y47 && (decide (97 ≤ (x66.toNat : Int)))) with h68 | h68
       ·refine zM h68 rfl <| zM h68 rfl <| zU h68 rfl (bp ai rfl rfl (g69 (lY (nf h61) h68)) e71) <| zT h68 rfl (aC rfl gI rfl (fJ F x70 x72 (e73 (lY (nf h61) h68))) ?_);refine zU h68 rfl (gh rfl rfl) <| zU h61 rfl (aD (av := .v _) rfl h68 rfl) ?_;exact K _ 5 _ (ay (cz h68)) rfl rfl
       ·refine zF h68 rfl <| zF h68 rfl <| zF h68 rfl <| zF h68 rfl <| zF h68 rfl <| zU h61 rfl (aE (av := .v _) rfl h68 rfl) ?_;exact K _ 5 _ (ay (cA h68)) rfl rfl
      refine zS rfl (aE (av := .v _) rfl h61 rfl) ?_;exact K _ 5 _ (ay (iR h61)) rfl rfl
    refine ag <| ax rfl (fun c74 => ?_) (fun c74 => ?_)
    ·replace H := aW c74 H;refine af <| aa ?_;show AR _ _ _ _ _ [0] _;refine za rfl <| ag <| cw ?_;exact Exists.intro 48 ⟨H, bb [] (.cons (.refl _) (.cons (.refl _) (.cons (.refl _) (.cons (.refl _) (.nil _))))) rfl⟩
    ·replace H := aX c74 H;refine aA <| af <| af ?_;obtain ⟨g75, H⟩ := aN H;obtain ⟨x76, e77, H⟩ := bR H;refine aa ?_;show AR _ _ _ _ _ [0, 1, 2, 3] _;refine zm rfl <| zm rfl <| zS rfl (bp ai rfl rfl g75 e77) <| zS rfl (gK (a := x76) (b := 95) rfl rfl) <| ag <| ax rfl (fun c78 => ?_) (fun c78 => ?_)
     ·replace H := aW c78 H;refine af <| af <| aa ?_;show AR _ _ _ _ _ [0, 1] _;refine zm rfl <| zS rfl (kD rfl rfl) <| ag <| ax rfl (fun c79 => ?_) (fun c79 => ?_)
      ·replace H := aW c79 H;refine af <| aa ?_;show AR _ _ _ _ _ [0] _;refine za rfl <| ag <| aI ?_;obtain rfl := ak H;exact And.intro rfl (Exists.intro _ (Exists.intro _ ⟨aG rfl (.refl _), aB [] rfl, rfl, rfl⟩))
      ·replace H := aX c79 H;refine aA <| af <| aa ?_;show AR _ _ _ _ _ [0] _;refine za rfl <| ag <| cw ?_;exact Exists.intro 95 ⟨H, bb [] (.cons (.refl _) (.cons (.refl _) (.cons (.refl _) (.cons (.refl _) (.nil _))))) rfl⟩
     ·replace H := aX c78 H;refine aA <| af <| af <| aa ?_;show AR _ _ _ _ _ [0, 1] _;refine zm rfl <| zS rfl (bK rfl rfl) <| ag <| ax rfl (fun c80 => ?_) (fun c80 => ?_)
      ·replace H := aW c80 H;refine af <| aa ?_;show AR _ _ _ _ _ [0] _;refine za rfl <| ag <| aI ?_;obtain rfl := ak H;exact And.intro rfl (Exists.intro _ (Exists.intro _ ⟨aG rfl (.refl _), aB [] rfl, rfl, rfl⟩))
      ·replace H := aX c80 H;refine aA <| aa ?_;show AR _ _ _ _ _ [0] _;refine za rfl <| ag ?_;exact Exists.intro 33 ⟨H, bb [] (.cons (.refl _) (.cons (.refl _) (.cons (.refl _) (.cons (.refl _) (.nil _))))) rfl⟩
   rintro y81 H;replace H : dt y50 (ei F y15 y47 n52) y81 = some r2 := H
   unfold dt at H
   obtain ⟨g83, H⟩ := aN H;refine aa ?_;show AR _ _ _ _ _ [0, 1, 2] _;refine zm rfl <| zS rfl (cX rfl rfl g83) <| za rfl <| ag ?_;exact Exists.intro (n52, y81, y50 + 1) ⟨H, Nat.lt_succ_self _, bb [] (.cons (.refl _) (.cons (.refl _) (.cons (.refl _) (.cons (.refl _) (.nil _))))) rfl⟩
  ·replace H := aX c53 H;refine cw ?_;exact Exists.intro y49 ⟨H, bb [] (.cons (.refl _) (.nil _)) rfl⟩
 rintro y84 H;replace H : fC y84 = some r2 := H
 unfold fC at H
 refine af <| aa ?_;show AR _ _ _ _ _ [0, 1, 2] _;refine zm rfl <| zS rfl (kD rfl rfl) <| za rfl <| ag <| aI ?_;obtain rfl := ak H;exact And.intro rfl (Exists.intro _ (Exists.intro _ ⟨aG rfl (.refl _), aB [] rfl, rfl, rfl⟩))
abbrev _root_.Go.Av.ci := @Tryz.underlying141
set_option maxRecDepth 100000 in
set_option maxHeartbeats 1000000 in
theorem qW (F : Nat) (a1 : List UInt8) (a2 : Int) (a3 : Int) (r4 : Int) (r5 : Int) (H : fG F a1 a2 a3 = some (r4, r5)) : ACalls Tryz.prog 107 [S a1, i64 a2, i64 a3] [] (Ret (.tup [.v (.int .u64 r4), kn 141 .i64 r5]) []) := by
 unfold fG at H
 refine ap Tryz.func107 rfl rfl ?_;show AW _ _ 172 _ _ _;refine af <| aa ?_;show AR _ _ _ _ _ [0, 1] _;refine za rfl <| za rfl <| ag <| af <| af <| aa ?_;show AR _ _ _ _ _ [0, 1] _;refine zm rfl <| zS rfl (dR rfl rfl) <| ag <| ax rfl (fun c6 => ?_) (fun c6 => ?_)
 ·replace H := aW c6 H;refine af <| aa ?_;show AR _ _ _ _ _ [0, 1, 2] _;refine zS rfl (bf (a := .v _) ci rfl rfl) <| za rfl <| zS rfl (aJ (av := .ifc _ _) rfl) <| ag <| aI ?_;obtain ⟨rfl, rfl⟩ := dx H;exact And.intro rfl (Exists.intro _ (Exists.intro _ ⟨bm rfl (.refl _) (.refl _), aB [] rfl, rfl, rfl⟩))
 ·replace H := aX c6 H;refine aA <| af <| aa ?_;show AR _ _ _ _ _ [0, 1, 2] _;refine zm rfl <| zS rfl (bK rfl rfl) <| za rfl <| ag <| af <| aa ?_;show AR _ _ _ _ _ [0, 1] _;refine zm rfl <| za rfl <| ag <| bJ (X := Unit) (fun _ => ⟨[(0, S a1), (1, i64 a2), (2, i64 a3), (8, B (decide (a2 = 0))), (9, S a1)], [], []⟩) (fun _ => eH F a1 a2 a3 = some (r4, r5)) ?_ ?_
  ·refine aR <| af <| aa ?_;show AR _ _ _ _ _ [0, 1, 2, 3, 4, 5, 6] _;refine zm rfl <| zS rfl (gh rfl rfl) <| zm rfl <| aY (l := [6]) 31 (B ((decide (2 ≤ a2)) && (decide (a2 ≤ 36)))) (fun K => ?_) ?_
   ·rcases al (decide (2 ≤ a2)) with h7 | h7
    ·refine zM h7 rfl <| zU h7 rfl (gh rfl rfl) <| zS rfl (aD (av := .v _) rfl h7 rfl) ?_;exact K _ 2 _ (ay (cz h7)) rfl rfl
    ·refine zF h7 rfl <| zF h7 rfl <| zS rfl (aE (av := .v _) rfl h7 rfl) ?_;exact K _ 2 _ (ay (cA h7)) rfl rfl
   refine za rfl <| ag ?_;obtain ⟨g9, H⟩ := aN H;refine ax rfl (fun _ => ?_) (fun hx => bL g9 hx);refine aA ?_;exact Exists.intro () ⟨H, bb [] (.cons (.refl _) (.cons (.refl _) (.cons (.refl _) (.cons (.refl _) (.cons (.refl _) (.nil _)))))) rfl⟩
  rintro _ H;replace H : eH F a1 a2 a3 = some (r4, r5) := H
  unfold eH at H
  refine bJ (X := Unit) (fun _ => ⟨[(0, S a1), (1, i64 a2), (2, i64 64), (8, B (decide (a2 = 0))), (9, S a1)], [], []⟩) (fun _ => eI F a1 a2 = some (r4, r5)) ?_ ?_
  ·refine af <| aa ?_;show AR _ _ _ _ _ [0, 1] _;refine zm rfl <| zS rfl (bK rfl rfl) <| ag ?_;obtain ⟨g12, H⟩ := aN H;refine ax rfl (fun _ => ?_) (fun hx => bL g12 hx);refine aa ?_;show AR _ _ _ _ _ [0] _;refine za rfl <| ag ?_;exact Exists.intro () ⟨H, bb [] (.cons (.refl _) (.cons (.refl _) (.cons (.refl _) (.cons (.refl _) (.cons (.refl _) (.nil _)))))) rfl⟩
  rintro _ H;replace H : eI F a1 a2 = some (r4, r5) := H
  unfold eI at H
  refine af <| aa ?_;show AR _ _ _ _ _ [0] _;refine za rfl <| ag <| bJ (X := Int) (fun y17 => ⟨[(0, S a1), (1, i64 a2), (2, i64 64), (8, B (decide (a2 = 0))), (9, S a1), (10, .v (.int .u64 y17))], [], []⟩) (fun y17 => df F a1 a2 y17 = some (r4, r5)) ?_ ?_
  ·refine af <| aa ?_;show AR _ _ _ _ _ [0] _;refine zm rfl <| ag <| aR <| af <| aa ?_;show AR _ _ _ _ _ [0, 1] _;refine zS rfl (bK rfl rfl) <| za rfl <| ag <| ax rfl (fun c14 => ?_) (fun c14 => ?_)
   ·replace H := aW c14 H;refine aa ?_;show AR _ _ _ _ _ [0] _;refine za rfl <| ag ?_;exact Exists.intro 1844674407370955162 ⟨H, bb [] (.cons (.refl _) (.cons (.refl _) (.cons (.refl _) (.cons (.refl _) (.cons (.refl _) (.cons (.refl _) (.nil _))))))) rfl⟩
   ·replace H := aX c14 H;refine af <| aa ?_;show AR _ _ _ _ _ [0, 1] _;refine zS rfl (bK rfl rfl) <| za rfl <| ag <| ax rfl (fun c15 => ?_) (fun c15 => ?_)
    ·replace H := aW c15 H;refine aa ?_;show AR _ _ _ _ _ [0] _;refine za rfl <| ag ?_;exact Exists.intro 1152921504606846976 ⟨H, bb [] (.cons (.refl _) (.cons (.refl _) (.cons (.refl _) (.cons (.refl _) (.cons (.refl _) (.cons (.refl _) (.nil _))))))) rfl⟩
    ·replace H := aX c15 H;obtain ⟨g16, H⟩ := aN H;refine aa ?_;show AR _ _ _ _ _ [0, 1, 2, 3, 4] _;refine zm rfl <| zS rfl (dV (by kernel_rfl) Tryz.underlying142 rfl) <| zS rfl (vu rfl rfl (of_decide_eq_true g16)) <| zS rfl (pm rfl rfl) <| za rfl <| ag ?_;exact Exists.intro (IntKind.u64.wrap ((IntKind.u64.wrap (Int.tdiv 18446744073709551615 (IntKind.u64.wrap a2))) + 1)) ⟨H, bb [] (.cons (.refl _) (.cons (.refl _) (.cons (.refl _) (.cons (.refl _) (.cons (.refl _) (.cons (.refl _) (.nil _))))))) rfl⟩
  rintro y17 H;replace H : df F a1 a2 y17 = some (r4, r5) := H
  unfold df at H
  refine af ?_;obtain ⟨g19, H⟩ := aN H;refine aa ?_;show AR _ _ _ _ _ [0, 1, 2, 3, 4] _;refine zm rfl <| zS rfl (dV (by kernel_rfl) Tryz.underlying117 rfl) <| zS rfl (xf rfl rfl (of_decide_eq_true g19)) <| zS rfl (pk rfl rfl) <| za rfl <| ag <| af <| aa ?_;show AR _ _ _ _ _ [0] _;refine za rfl <| ag <| af <| aa ?_;show AR _ _ _ _ _ [0] _;refine za rfl <| ag <| bJ (X := Bool × Int) (fun (y53, y54) => ⟨[(9, S a1), (12, B y53), (13, .v (.int .u64 y54))], [], []⟩) (fun (y53, y54) => eJ F a1 y53 y54 = some (r4, r5)) ?_ ?_
  ·refine af ?_;obtain ⟨g20, H⟩ := aN H;refine aa ?_;show AR _ _ _ _ _ [0, 1, 2, 3] _;refine zm rfl <| zX rfl (lO (bytes := 1) ai aj cH rfl g20) ?_;rintro _ _ ⟨t21, rfl, rfl⟩;refine zS rfl (bu aj rfl) <| zm rfl <| ag <| aR <| de (X := Nat × Bool × Int × Int) (fun (n26, y22, y23, y24) => ⟨[(1, i64 a2), (8, B (decide (a2 = 0))), (9, S a1), (10, .v (.int .u64 y17)), (11, .v (.int .u64 (IntKind.u64.wrap ((IntKind.u64.wrap (1 * 2 ^ min (Int.toNat (IntKind.u64.wrap 64)) IntKind.u64.bits)) - 1)))), (12, B y22), (13, .v (.int .u64 y23)), (99, slE Enc.byte a1 (some t21)), (100, i64 (a1.length : Int)), (101, i64 y24)], [], [.tok t21 5]⟩) (fun (n26, y22, y23, y24) => bW F a1 a2 y17 n26 (y22, y23, y24) = some (r4, r5)) (fun (n26, y22, y23, y24) => n26) (F, false, 0, 0) H (bb [0] (.cons (.refl _) (.cons (.refl _) (.cons (.refl _) (.cons (.refl _) (.cons (.refl _) (.cons (.refl _) (.cons (.refl _) (.cons (.refl _) (.cons (.refl _) (.cons (.refl _) (.nil _))))))))))) rfl) ?_;rintro ⟨n26, y22, y23, y24⟩ H;obtain ⟨n26, rfl, H⟩ := eX H;replace H : dL F a1 a2 y17 (bW F a1 a2 y17 n26) y22 y23 y24 = some (r4, r5) := H
   unfold dL at H
   refine af <| aa ?_;show AR _ _ _ _ _ [0] _;refine zS rfl (bX rfl rfl) <| ag <| af <| ax rfl (fun c27 => ?_) (fun c27 => ?_)
   ·replace H := aW c27 H;refine aA <| bJ (X := Bool × Int) (fun (y49, y50) => ⟨[(1, i64 a2), (8, B (decide (a2 = 0))), (9, S a1), (10, .v (.int .u64 y17)), (11, .v (.int .u64 (IntKind.u64.wrap ((IntKind.u64.wrap (1 * 2 ^ min (Int.toNat (IntKind.u64.wrap 64)) IntKind.u64.bits)) - 1)))), (12, B y49), (13, .v (.int .u64 y50)), (99, slE Enc.byte a1 (some t21)), (100, i64 (a1.length : Int)), (101, i64 y24)], [], [.tok t21 5]⟩) (fun (y49, y50) => dK y24 (bW F a1 a2 y17 n26) y49 y50 = some (r4, r5)) ?_ ?_
    ·refine aR <| af ?_;obtain ⟨g28, H⟩ := aN H;obtain ⟨x29, e30, H⟩ := bR H;refine aa ?_;show AR _ _ _ _ _ [0, 1, 2] _;refine zS rfl (dn (E := Enc.byte) aj (by kernel_rfl) rfl rfl g28 e30) <| zS rfl (aH cH rfl rfl) <| za rfl <| ag <| af <| aa ?_;show AR _ _ _ _ _ [0] _;refine za rfl <| ag <| bJ (X := UInt8) (fun y43 => ⟨[(1, i64 a2), (8, B (decide (a2 = 0))), (9, S a1), (10, .v (.int .u64 y17)), (11, .v (.int .u64 (IntKind.u64.wrap ((IntKind.u64.wrap (1 * 2 ^ min (Int.toNat (IntKind.u64.wrap 64)) IntKind.u64.bits)) - 1)))), (12, B y22), (13, .v (.int .u64 y23)), (16, u8 y43), (99, slE Enc.byte a1 (some t21)), (100, i64 (a1.length : Int)), (101, i64 y24)], [], [.tok t21 5]⟩) (fun y43 => cM a2 y17 y22 y23 y24 (bW F a1 a2 y17 n26) y43 = some (r4, r5)) ?_ ?_
     ·refine aR <| af <| aa ?_;show AR _ _ _ _ _ [0, 1, 2, 3, 4, 5] _;refine zm rfl <| zS rfl (gK (a := x29) (b := 95) rfl rfl) <| zm rfl <| aY (l := [5]) 111 (B ((decide (x29 = 95)) && (decide (a2 = 0)))) (fun K => ?_) ?_
      ·rcases al (decide (x29 = 95)) with h31 | h31
       ·refine zM h31 rfl <| zS rfl (aD (av := .v _) rfl h31 rfl) ?_;exact K _ 1 _ (ay (cz h31)) rfl rfl
       ·refine zF h31 rfl <| zS rfl (aE (av := .v _) rfl h31 rfl) ?_;exact K _ 1 _ (ay (cA h31)) rfl rfl
      refine za rfl <| ag <| ax rfl (fun c32 => ?_) (fun c32 => ?_)
      ·replace H := aW c32 H;refine af <| aa ?_;show AR _ _ _ _ _ [0] _;refine za rfl <| ag <| cw ?_;exact Exists.intro (true, y23) ⟨H, bb [0] (.cons (.refl _) (.cons (.refl _) (.cons (.refl _) (.cons (.refl _) (.cons (.refl _) (.cons (.refl _) (.cons (.refl _) (.cons (.refl _) (.cons (.refl _) (.cons (.refl _) (.nil _))))))))))) rfl⟩
      ·replace H := aX c32 H;refine af <| aa ?_;show AR _ _ _ _ _ [0, 1, 2, 3, 4, 5, 6] _;refine zm rfl <| zS rfl (gh rfl rfl) <| zm rfl <| aY (l := [6]) 118 (B ((decide (48 ≤ (x29.toNat : Int))) && (decide ((x29.toNat : Int) ≤ 57)))) (fun K => ?_) ?_
       ·rcases al (decide (48 ≤ (x29.toNat : Int))) with h33 | h33
        ·refine zM h33 rfl <| zU h33 rfl (gh rfl rfl) <| zS rfl (aD (av := .v _) rfl h33 rfl) ?_;exact K _ 2 _ (ay (cz h33)) rfl rfl
        ·refine zF h33 rfl <| zF h33 rfl <| zS rfl (aE (av := .v _) rfl h33 rfl) ?_;exact K _ 2 _ (ay (cA h33)) rfl rfl
       refine za rfl <| ag <| ax rfl (fun c34 => ?_) (fun c34 => ?_)
       ·replace H := aW c34 H;refine aa ?_;show AR _ _ _ _ _ [0, 1, 2] _;refine zm rfl <| zS rfl (wQ (a := x29) (b := 48) rfl rfl) <| za rfl <| ag ?_;exact Exists.intro (x29 - 48) ⟨H, bb [0] (.cons (.refl _) (.cons (.refl _) (.cons (.refl _) (.cons (.refl _) (.cons (.refl _) (.cons (.refl _) (.cons (.refl _) (.cons (.refl _) (.cons (.refl _) (.cons (.refl _) (.cons (.refl _) (.nil _)))))))))))) rfl⟩
       ·replace H := aX c34 H;refine af ?_;obtain ⟨x35, e36, H⟩ := cd H;obtain ⟨x38, e39, H⟩ := eY H;refine aa ?_;show AR _ _ _ _ _ [0, 1, 2, 3, 4, 5, 6, 7, 8] _;refine zm rfl <| am rfl rfl (aC rfl gI rfl (fJ F x29 x35 e36) ?_);refine zS rfl (gh rfl rfl) <| zm rfl <| aY (l := [8]) 129 (B ((decide (97 ≤ (x35.toNat : Int))) && (decide ((x38.toNat : Int) ≤ 122)))) (fun K => ?_) ?_
        ·rcases al (decide (97 ≤ (x35.toNat : Int))) with h37 | h37
         ·refine zM h37 rfl <| zT h37 rfl (aC rfl gI rfl (fJ F x29 x38 (e39 h37)) ?_);refine zU h37 rfl (gh rfl rfl) <| zS rfl (aD (av := .v _) rfl h37 rfl) ?_;exact K _ 3 _ (ay (cz h37)) rfl rfl
         ·refine zF h37 rfl <| zF h37 rfl <| zF h37 rfl <| zS rfl (aE (av := .v _) rfl h37 rfl) ?_;exact K _ 3 _ (ay (cA h37)) rfl rfl
        refine za rfl <| ag <| ax rfl (fun c40 => ?_) (fun c40 => ?_)
        ·replace H := aW c40 H;obtain ⟨x41, e42, H⟩ := cd H;refine aa ?_;show AR _ _ _ _ _ [0, 1, 2, 3, 4] _;refine zm rfl <| am rfl rfl (aC rfl gI rfl (fJ F x29 x41 e42) ?_);refine zS rfl (wQ (a := x41) (b := 97) rfl rfl) <| zS rfl (g_add8 (a := x41 - 97) (b := 10) rfl rfl) <| za rfl <| ag ?_;exact Exists.intro ((x41 - 97) + 10) ⟨H, bb [0] (.cons (.refl _) (.cons (.refl _) (.cons (.refl _) (.cons (.refl _) (.cons (.refl _) (.cons (.refl _) (.cons (.refl _) (.cons (.refl _) (.cons (.refl _) (.cons (.refl _) (.cons (.refl _) (.nil _)))))))))))) rfl⟩
        ·replace H := aX c40 H;refine af <| aa ?_;show AR _ _ _ _ _ [0, 1, 2] _;refine zS rfl (bf (a := .v _) ci rfl rfl) <| za rfl <| zS rfl (aJ (av := .ifc _ _) rfl) <| ag <| aI ?_;obtain ⟨rfl, rfl⟩ := dx H;exact And.intro rfl (Exists.intro _ (Exists.intro _ ⟨bm rfl (.refl _) (.refl _), aB [] rfl, rfl, rfl⟩))
     rintro y43 H;replace H : cM a2 y17 y22 y23 y24 (bW F a1 a2 y17 n26) y43 = some (r4, r5) := H
     unfold cM at H
     refine af <| af <| aa ?_;show AR _ _ _ _ _ [0, 1, 2, 3] _;refine zm rfl <| zm rfl <| zS rfl (ry (by kernel_rfl) cH rfl) <| zS rfl (fv rfl rfl) <| ag <| ax rfl (fun c45 => ?_) (fun c45 => ?_)
     ·replace H := aW c45 H;refine af <| aa ?_;show AR _ _ _ _ _ [0, 1, 2] _;refine zS rfl (bf (a := .v _) ci rfl rfl) <| za rfl <| zS rfl (aJ (av := .ifc _ _) rfl) <| ag <| aI ?_;obtain ⟨rfl, rfl⟩ := dx H;exact And.intro rfl (Exists.intro _ (Exists.intro _ ⟨bm rfl (.refl _) (.refl _), aB [] rfl, rfl, rfl⟩))
     ·replace H := aX c45 H;refine aA <| af <| af <| aa ?_;show AR _ _ _ _ _ [0, 1, 2] _;refine zm rfl <| zm rfl <| zS rfl (fv rfl rfl) <| ag <| ax rfl (fun c46 => ?_) (fun c46 => ?_)
      ·replace H := aW c46 H;refine af <| aa ?_;show AR _ _ _ _ _ [0, 1, 2, 3] _;refine zm rfl <| zS rfl (bf (a := .v _) ci rfl rfl) <| za rfl <| zS rfl (aJ (av := .ifc _ _) rfl) <| ag <| aI ?_;obtain ⟨rfl, rfl⟩ := dx H;exact And.intro rfl (Exists.intro _ (Exists.intro _ ⟨bm rfl (.refl _) (.refl _), aB [] rfl, rfl, rfl⟩))
      ·replace H := aX c46 H;refine aA <| af <| aa ?_;show AR _ _ _ _ _ [0, 1, 2, 3, 4] _;refine zm rfl <| zm rfl <| zS rfl (dV (by kernel_rfl) Tryz.underlying142 rfl) <| zS rfl (vv rfl rfl) <| za rfl <| ag <| af <| aa ?_;show AR _ _ _ _ _ [0, 1, 2, 3, 4] _;refine zm rfl <| zm rfl <| zS rfl (dV (k' := .u8) (n := (y43.toNat : Int)) (by kernel_rfl) Tryz.underlying142 rfl) <| zS rfl (pm rfl rfl) <| za rfl <| ag <| af <| af <| aa ?_;show AR _ _ _ _ _ [0, 1, 2, 3, 4, 5, 6, 7] _;refine zm rfl <| zm rfl <| zS rfl (bX rfl rfl) <| zm rfl <| aY (l := []) 159 (B ((decide (IntKind.u64.wrap ((IntKind.u64.wrap (y23 * (IntKind.u64.wrap a2))) + (IntKind.u64.wrap (y43.toNat : Int))) < IntKind.u64.wrap (y23 * (IntKind.u64.wrap a2)))) || (decide (IntKind.u64.wrap ((IntKind.u64.wrap (1 * 2 ^ min (Int.toNat (IntKind.u64.wrap 64)) IntKind.u64.bits)) - 1) < IntKind.u64.wrap ((IntKind.u64.wrap (y23 * (IntKind.u64.wrap a2))) + (IntKind.u64.wrap (y43.toNat : Int))))))) (fun K => ?_) ?_
       ·rcases al (decide (IntKind.u64.wrap ((IntKind.u64.wrap (y23 * (IntKind.u64.wrap a2))) + (IntKind.u64.wrap (y43.toNat : Int))) < IntKind.u64.wrap (y23 * (IntKind.u64.wrap a2)))) with h47 | h47
        ·refine zF h47 rfl <| zF h47 rfl <| zF h47 rfl <| zS rfl (aD (av := .v _) rfl h47 rfl) ?_;exact K _ 3 _ (ay (iQ h47)) rfl rfl
        ·refine zM h47 rfl <| zM h47 rfl <| zU h47 rfl (eW rfl rfl) <| zS rfl (aE (av := .v _) rfl h47 rfl) ?_;exact K _ 3 _ (ay (iR h47)) rfl rfl
       refine ag <| ax rfl (fun c48 => ?_) (fun c48 => ?_)
       ·replace H := aW c48 H;refine af <| aa ?_;show AR _ _ _ _ _ [0, 1, 2, 3] _;refine zm rfl <| zS rfl (bf (a := .v _) ci rfl rfl) <| za rfl <| zS rfl (aJ (av := .ifc _ _) rfl) <| ag <| aI ?_;obtain ⟨rfl, rfl⟩ := dx H;exact And.intro rfl (Exists.intro _ (Exists.intro _ ⟨bm rfl (.refl _) (.refl _), aB [] rfl, rfl, rfl⟩))
       ·replace H := aX c48 H;refine aA <| aa ?_;show AR _ _ _ _ _ [0, 1] _;refine zm rfl <| za rfl <| ag ?_;exact Exists.intro (y22, IntKind.u64.wrap ((IntKind.u64.wrap (y23 * (IntKind.u64.wrap a2))) + (IntKind.u64.wrap (y43.toNat : Int)))) ⟨H, bb [0] (.cons (.refl _) (.cons (.refl _) (.cons (.refl _) (.cons (.refl _) (.cons (.refl _) (.cons (.refl _) (.cons (.refl _) (.cons (.refl _) (.cons (.refl _) (.cons (.refl _) (.nil _))))))))))) rfl⟩
    rintro ⟨y49, y50⟩ H;replace H : dK y24 (bW F a1 a2 y17 n26) y49 y50 = some (r4, r5) := H
    unfold dK at H
    obtain ⟨g52, H⟩ := aN H;refine aa ?_;show AR _ _ _ _ _ [0, 1] _;refine zS rfl (cX rfl rfl g52) <| zm rfl <| ag ?_;exact Exists.intro (n26, y49, y50, y24 + 1) ⟨H, Nat.lt_succ_self _, bb [0] (.cons (.refl _) (.cons (.refl _) (.cons (.refl _) (.cons (.refl _) (.cons (.refl _) (.cons (.refl _) (.cons (.refl _) (.cons (.refl _) (.cons (.refl _) (.cons (.refl _) (.nil _))))))))))) rfl⟩
   ·replace H := aX c27 H;refine cw ?_;exact Exists.intro (y22, y23) ⟨H, bb [] (.cons (.refl _) (.cons (.refl _) (.cons (.refl _) (.nil _)))) rfl⟩
  rintro ⟨y53, y54⟩ H;replace H : eJ F a1 y53 y54 = some (r4, r5) := H
  unfold eJ at H
  refine af <| af ?_;obtain ⟨x57, e58, H⟩ := eY H;refine aa ?_;show AR _ _ _ _ _ [0, 1, 2, 3, 4, 5] _;refine zm rfl <| zm rfl <| aY (l := []) 169 (B (y53 && (!x57))) (fun K => ?_) ?_
  ·rcases al y53 with h56 | h56
   ·refine zM h56 rfl <| zT h56 rfl (aC rfl yL rfl (oJ F a1 x57 (e58 h56)) ?_);refine zU h56 rfl (bG rfl) <| zS rfl (aD (av := .v _) rfl h56 rfl) ?_;exact K _ 3 _ (ay (cz h56)) rfl rfl
   ·refine zF h56 rfl <| zF h56 rfl <| zF h56 rfl <| zS rfl (aE (av := .v _) rfl h56 rfl) ?_;exact K _ 3 _ (ay (cA h56)) rfl rfl
  refine ag <| ax rfl (fun c59 => ?_) (fun c59 => ?_)
  ·replace H := aW c59 H;refine af <| aa ?_;show AR _ _ _ _ _ [0, 1, 2] _;refine zS rfl (bf (a := .v _) ci rfl rfl) <| za rfl <| zS rfl (aJ (av := .ifc _ _) rfl) <| ag <| aI ?_;obtain ⟨rfl, rfl⟩ := dx H;exact And.intro rfl (Exists.intro _ (Exists.intro _ ⟨bm rfl (.refl _) (.refl _), aB [] rfl, rfl, rfl⟩))
  ·replace H := aX c59 H;refine aA <| af <| aa ?_;show AR _ _ _ _ _ [0, 1, 2] _;refine zm rfl <| za rfl <| za rfl <| ag <| aI ?_;obtain ⟨rfl, rfl⟩ := dx H;exact And.intro rfl (Exists.intro _ (Exists.intro _ ⟨bm rfl (.refl _) (.refl _), aB [] rfl, rfl, rfl⟩))
abbrev _root_.Go.Av.eN := @Tryz.underlying53
set_option maxRecDepth 100000 in
set_option maxHeartbeats 1000000 in
theorem rX (F : Nat) (a1 : List UInt8) (a2 : Int) (a3 : Int) (r4 : Int) (r5 : Int) (H : gp F a1 a2 a3 = some (r4, r5)) : ACalls Tryz.prog 105 [S a1, i64 a2, i64 a3] [] (Ret (.tup [i64 r4, kn 141 .i64 r5]) []) := by
 unfold gp at H
 refine ap Tryz.func105 rfl rfl ?_;show AW _ _ 73 _ _ _;refine af <| aa ?_;show AR _ _ _ _ _ [0, 1] _;refine za rfl <| za rfl <| ag <| af <| af <| aa ?_;show AR _ _ _ _ _ [0, 1] _;refine zm rfl <| zS rfl (dR rfl rfl) <| ag <| ax rfl (fun c6 => ?_) (fun c6 => ?_)
 ·replace H := aW c6 H;refine af <| aa ?_;show AR _ _ _ _ _ [0, 1, 2] _;refine zS rfl (bf (a := .v _) ci rfl rfl) <| za rfl <| zS rfl (aJ (av := .ifc _ _) rfl) <| ag <| aI ?_;obtain ⟨rfl, rfl⟩ := dx H;exact And.intro rfl (Exists.intro _ (Exists.intro _ ⟨bm rfl (.refl _) (.refl _), aB [] rfl, rfl, rfl⟩))
 ·replace H := aX c6 H;refine aA <| af <| aa ?_;show AR _ _ _ _ _ [0] _;refine za rfl <| ag <| bJ (X := (List UInt8) × Bool) (fun (y18, y19) => ⟨[(0, S y18), (1, i64 a2), (2, i64 a3), (8, B y19)], [], []⟩) (fun (y18, y19) => dC F a2 a3 y18 y19 = some (r4, r5)) ?_ ?_
  ·refine af ?_;obtain ⟨g7, H⟩ := aN H;obtain ⟨x8, e9, H⟩ := bR H;refine aa ?_;show AR _ _ _ _ _ [0, 1] _;refine zm rfl <| zS rfl (bp ai rfl rfl g7 e9) <| ag <| aR <| af <| aa ?_;show AR _ _ _ _ _ [0, 1] _;refine zS rfl (gK (a := x8) (b := 43) rfl rfl) <| za rfl <| ag <| ax rfl (fun c10 => ?_) (fun c10 => ?_)
   ·replace H := aW c10 H;obtain ⟨g11, H⟩ := aN H;obtain ⟨x12, e13, H⟩ := bR H;refine aa ?_;show AR _ _ _ _ _ [0, 1, 2] _;refine zm rfl <| zS rfl (eD ai rfl rfl g11 e13) <| za rfl <| ag ?_;exact Exists.intro (x12, false) ⟨H, bb [] (.cons (.refl _) (.cons (.refl _) (.cons (.refl _) (.cons (.refl _) (.nil _))))) rfl⟩
   ·replace H := aX c10 H;refine af <| aa ?_;show AR _ _ _ _ _ [0, 1] _;refine zS rfl (gK (a := x8) (b := 45) rfl rfl) <| za rfl <| ag <| ax rfl (fun c14 => ?_) (fun c14 => ?_)
    ·replace H := aW c14 H;refine af ?_;obtain ⟨g15, H⟩ := aN H;obtain ⟨x16, e17, H⟩ := bR H;refine aa ?_;show AR _ _ _ _ _ [0, 1, 2] _;refine zm rfl <| zS rfl (eD ai rfl rfl g15 e17) <| za rfl <| ag <| aa ?_;show AR _ _ _ _ _ [0] _;refine za rfl <| ag ?_;exact Exists.intro (x16, true) ⟨H, bb [] (.cons (.refl _) (.cons (.refl _) (.cons (.refl _) (.cons (.refl _) (.nil _))))) rfl⟩
    ·replace H := aX c14 H;refine aA ?_;exact Exists.intro (a1, false) ⟨H, bb [] (.cons (.refl _) (.cons (.refl _) (.cons (.refl _) (.cons (.refl _) (.nil _))))) rfl⟩
  rintro ⟨y18, y19⟩ H;replace H : dC F a2 a3 y18 y19 = some (r4, r5) := H
  unfold dC at H
  refine af <| aa ?_;show AR _ _ _ _ _ [0] _;refine za rfl <| ag <| af ?_;obtain ⟨x21, x22, e23, H⟩ := cF H;refine aa ?_;show AR _ _ _ _ _ [0, 1, 2, 3, 4, 5, 6, 7, 8] _;refine zm rfl <| zm rfl <| zm rfl <| am rfl rfl (aC rfl yM rfl (qW F y18 a2 a3 x21 x22 e23) ?_);refine zS rfl (ah (av := .tup _) rfl) <| zS rfl (az (av := .v _) rfl rfl) <| zS rfl (az (av := kn _ _ _) rfl rfl) <| za rfl <| zS rfl (aJ (av := kn _ _ _) rfl) <| ag <| af <| af <| aa ?_;show AR _ _ _ _ _ [0, 1, 2, 3, 4, 5, 6] _;refine zS rfl (ah (av := kn _ _ _) rfl) <| zS rfl (my eN rfl rfl) <| zm rfl <| aY (l := []) 38 (B ((!decide (x22 = 0)) && (!decide (x22 = 1)))) (fun K => ?_) ?_
  ·rcases al (!decide (x22 = 0)) with h24 | h24
   ·refine zU h24 rfl (ah (av := kn _ _ _) rfl) <| zU h24 rfl (bf (a := .v _) ci rfl rfl) <| zU h24 rfl (xN (m := 1) eN rfl ci (by kernel_rfl) (by decide) rfl rfl) <| zS rfl (aD (av := .v _) rfl h24 rfl) ?_;exact K _ 3 _ (ay (cz h24)) rfl rfl
   ·refine zF h24 rfl <| zF h24 rfl <| zF h24 rfl <| zS rfl (aE (av := .v _) rfl h24 rfl) ?_;exact K _ 3 _ (ay (cA h24)) rfl rfl
  refine ag <| ax rfl (fun c25 => ?_) (fun c25 => ?_)
  ·replace H := aW c25 H;refine af <| aa ?_;show AR _ _ _ _ _ [0, 1, 2] _;refine zS rfl (ah (av := kn _ _ _) rfl) <| za rfl <| zS rfl (aJ (av := kn _ _ _) rfl) <| ag <| aI ?_;obtain ⟨rfl, rfl⟩ := dx H;exact And.intro rfl (Exists.intro _ (Exists.intro _ ⟨bm rfl (.refl _) (.refl _), aB [] rfl, rfl, rfl⟩))
  ·replace H := aX c25 H;refine aA <| bJ (X := Unit) (fun _ => ⟨[(2, i64 64), (8, B y19), (9, .v (.int .u64 x21))], [], []⟩) (fun _ => fo y19 x21 = some (r4, r5)) ?_ ?_
   ·refine af <| aa ?_;show AR _ _ _ _ _ [0, 1] _;refine zm rfl <| zS rfl (bK rfl rfl) <| ag ?_;obtain ⟨g27, H⟩ := aN H;refine ax rfl (fun _ => ?_) (fun hx => bL g27 hx);refine aa ?_;show AR _ _ _ _ _ [0] _;refine za rfl <| ag ?_;exact Exists.intro () ⟨H, bb [] (.cons (.refl _) (.cons (.refl _) (.cons (.refl _) (.nil _)))) rfl⟩
   rintro _ H;replace H : fo y19 x21 = some (r4, r5) := H
   unfold fo at H
   refine af ?_;obtain ⟨g29, H⟩ := aN H;refine aa ?_;show AR _ _ _ _ _ [0, 1, 2, 3, 4] _;refine zm rfl <| zS rfl (cR (av' := i64 63) (lw rfl rfl (by decide)) rfl) <| zS rfl (dV (by kernel_rfl) Tryz.underlying117 rfl) <| zS rfl (xf rfl rfl (of_decide_eq_true g29)) <| za rfl <| ag <| af <| af <| aa ?_;show AR _ _ _ _ _ [0, 1, 2, 3, 4, 5, 6] _;refine zm rfl <| zS rfl (bG rfl) <| zm rfl <| aY (l := []) 52 (B ((!y19) && (decide (IntKind.u64.wrap (1 * 2 ^ min (Int.toNat (IntKind.u64.wrap 63)) IntKind.u64.bits) ≤ x21)))) (fun K => ?_) ?_
   ·rcases al (!y19) with h30 | h30
    ·refine zM h30 rfl <| zM h30 rfl <| zU h30 rfl (fv rfl rfl) <| zS rfl (aD (av := .v _) rfl h30 rfl) ?_;exact K _ 3 _ (ay (cz h30)) rfl rfl
    ·refine zF h30 rfl <| zF h30 rfl <| zF h30 rfl <| zS rfl (aE (av := .v _) rfl h30 rfl) ?_;exact K _ 3 _ (ay (cA h30)) rfl rfl
   refine ag <| ax rfl (fun c31 => ?_) (fun c31 => ?_)
   ·replace H := aW c31 H;refine af ?_;obtain ⟨g32, H⟩ := aN H;refine aa ?_;show AR _ _ _ _ _ [0, 1, 2, 3, 4, 5] _;refine zm rfl <| zS rfl (pk rfl rfl) <| zS rfl (pL (by kernel_rfl) Tryz.underlying2 rfl g32) <| zS rfl (bf (a := .v _) ci rfl rfl) <| za rfl <| zS rfl (aJ (av := .ifc _ _) rfl) <| ag <| aI ?_;obtain ⟨rfl, rfl⟩ := dx H;exact And.intro rfl (Exists.intro _ (Exists.intro _ ⟨bm rfl (.refl _) (.refl _), aB [] rfl, rfl, rfl⟩))
   ·replace H := aX c31 H;refine aA <| af <| af <| aa ?_;show AR _ _ _ _ _ [0, 1, 2, 3, 4, 5] _;refine zm rfl <| zm rfl <| aY (l := []) 62 (B (y19 && (decide (IntKind.u64.wrap (1 * 2 ^ min (Int.toNat (IntKind.u64.wrap 63)) IntKind.u64.bits) < x21)))) (fun K => ?_) ?_
    ·rcases al y19 with h33 | h33
     ·refine zM h33 rfl <| zM h33 rfl <| zU h33 rfl (eW rfl rfl) <| zS rfl (aD (av := .v _) rfl h33 rfl) ?_;exact K _ 3 _ (ay (cz h33)) rfl rfl
     ·refine zF h33 rfl <| zF h33 rfl <| zF h33 rfl <| zS rfl (aE (av := .v _) rfl h33 rfl) ?_;exact K _ 3 _ (ay (cA h33)) rfl rfl
    refine ag <| ax rfl (fun c34 => ?_) (fun c34 => ?_)
    ·replace H := aW c34 H;refine af ?_;obtain ⟨g35, H⟩ := aN H;obtain ⟨g36, H⟩ := aN H;refine aa ?_;show AR _ _ _ _ _ [0, 1, 2, 3, 4, 5] _;refine zm rfl <| zS rfl (pL (by kernel_rfl) Tryz.underlying2 rfl g35) <| zS rfl (g_neg rfl g36) <| zS rfl (bf (a := .v _) ci rfl rfl) <| za rfl <| zS rfl (aJ (av := .ifc _ _) rfl) <| ag <| aI ?_;obtain ⟨rfl, rfl⟩ := dx H;exact And.intro rfl (Exists.intro _ (Exists.intro _ ⟨bm rfl (.refl _) (.refl _), aB [] rfl, rfl, rfl⟩))
    ·replace H := aX c34 H;refine aA <| af ?_;obtain ⟨g37, H⟩ := aN H;refine aa ?_;show AR _ _ _ _ _ [0, 1, 2] _;refine zm rfl <| zS rfl (pL (by kernel_rfl) Tryz.underlying2 rfl g37) <| za rfl <| ag <| bJ (X := Int) (fun y40 => ⟨[(11, i64 y40)], [], []⟩) (fun y40 => ew y40 = some (r4, r5)) ?_ ?_
     ·refine af <| aa ?_;show AR _ _ _ _ _ [0] _;refine zm rfl <| ag <| ax rfl (fun c38 => ?_) (fun c38 => ?_)
      ·replace H := aW c38 H;obtain ⟨g39, H⟩ := aN H;refine aa ?_;show AR _ _ _ _ _ [0, 1, 2] _;refine zm rfl <| zS rfl (g_neg rfl g39) <| za rfl <| ag ?_;exact Exists.intro (0 - x21) ⟨H, bb [] (.cons (.refl _) (.nil _)) rfl⟩
      ·replace H := aX c38 H;refine aA ?_;exact Exists.intro x21 ⟨H, bb [] (.cons (.refl _) (.nil _)) rfl⟩
     rintro y40 H;replace H : ew y40 = some (r4, r5) := H
     unfold ew at H
     refine af <| aa ?_;show AR _ _ _ _ _ [0, 1, 2] _;refine zm rfl <| za rfl <| za rfl <| ag <| aI ?_;obtain ⟨rfl, rfl⟩ := dx H;exact And.intro rfl (Exists.intro _ (Exists.intro _ ⟨bm rfl (.refl _) (.refl _), aB [] rfl, rfl, rfl⟩))
set_option maxRecDepth 100000 in
set_option maxHeartbeats 1000000 in
theorem ou (F : Nat) (a1 : List UInt8) (a2 : Int) (a3 : Int) (r4 : Int) (r5 : Int) (H : dv F a1 a2 a3 = some (r4, r5)) : ACalls Tryz.prog 103 [S a1, i64 a2, i64 a3] [] (Ret (.tup [i64 r4, eAny 145 r5]) []) := by
 unfold dv at H
 refine ap Tryz.func103 rfl rfl ?_;show AW _ _ 25 _ _ _;refine af <| aa ?_;show AR _ _ _ _ _ [0, 1] _;refine za rfl <| za rfl <| ag <| af ?_;obtain ⟨x6, x7, e8, H⟩ := cF H;refine aa ?_;show AR _ _ _ _ _ [0, 1, 2, 3, 4, 5, 6, 7, 8] _;refine zm rfl <| zm rfl <| zm rfl <| am rfl rfl (aC rfl yO rfl (rX F a1 a2 a3 x6 x7 e8) ?_);refine zS rfl (ah (av := .tup _) rfl) <| zS rfl (az (av := .v _) rfl rfl) <| zS rfl (az (av := kn _ _ _) rfl rfl) <| za rfl <| zS rfl (aJ (av := kn _ _ _) rfl) <| ag <| af <| af <| aa ?_;show AR _ _ _ _ _ [0, 1] _;refine zS rfl (ah (av := kn _ _ _) rfl) <| zS rfl (my eN rfl rfl) <| ag <| ax rfl (fun c9 => ?_) (fun c9 => ?_)
 ·replace H := aW c9 H;refine af ?_;obtain ⟨g10, H⟩ := aN H;obtain ⟨g11, H⟩ := aN H;refine aa ?_;show AR _ _ _ _ _ [0, 1, 2, 3, 4, 5, 6, 7] _;refine zm rfl <| zm rfl <| zm rfl <| zm rfl <| zS rfl (ah (av := kn _ _ _) rfl) <| am rfl rfl (aC rfl yN rfl (vc _ _ _ _ x7 (mH g10) (of_decide_eq_true g11)) ?_);refine za rfl <| zS rfl (aJ (av := .ifc _ _) rfl) <| ag <| aI ?_;obtain ⟨rfl, rfl⟩ := dx H;exact And.intro rfl (Exists.intro _ (Exists.intro _ ⟨bm rfl (.refl _) (.ifc _ _), aB [] rfl, rfl, rfl⟩))
 ·replace H := aX c9 H;refine aA <| af <| aa ?_;show AR _ _ _ _ _ [0, 1, 2] _;refine zm rfl <| za rfl <| za rfl <| ag <| aI ?_;obtain ⟨rfl, rfl⟩ := dx H;exact And.intro rfl (Exists.intro _ (Exists.intro _ ⟨bm rfl (.refl _) (.refl _), aB [] rfl, rfl, rfl⟩))
end Go.Proofs.YtkbfjepffpddfaaGreatDoor
namespace Go.Pv
def jC (F : Nat) (a1 : Int) : Option Bool :=
bif (decide (0 ≤ a1)) && (decide (a1 < 55296)) then
  some true
else
  bif (decide (57343 < a1)) && (decide (a1 ≤ 1114111)) then
    some true
  else
    some false
def mw : Option Int :=
some (-1)
def eC (a1 : List UInt8) (rec11 : Nat → Option Int) (y10 : Nat) : Option Int :=
bif decide (y10 < a1.length) then
  grd (!(decide (((mQ a1 y10).1 : Int) = 65533))) <|
  rec11 (y10 + (mQ a1 y10).2)
else
  mw
def iw (a1 : List UInt8) (n : Nat) : Nat → Option Int :=
  loop (fun rec x => eC a1 rec x) n
def ju : Option Int :=
some (-1)
def ix (a1 : List UInt8) (x20 : List UInt8) (rec23 : Unit → Option Int) : Option Int :=
bif decide ((x20.length : Int) - 1 < (a1.length : Int)) then
  grd (dr ((x20.length : Int) - 1) a1.length) <|
  lt (at_ a1 ((x20.length : Int) - 1)) fun x27 =>
  grd (dr ((x20.length : Int) - 1) x20.length) <|
  lt (at_ x20 ((x20.length : Int) - 1)) fun x30 =>
  grd (!decide (x27 = x30)) <|
  grd (okI (((x20.length : Int) - 1) + 1)) <|
  grd (kj (((x20.length : Int) - 1) + 1) a1.length) <|
  lt (cY a1 (((x20.length : Int) - 1) + 1)) fun x35 =>
  grd (dr ((x20.length : Int) - 1) x20.length) <|
  lt (at_ x20 ((x20.length : Int) - 1)) fun x38 =>
  lt (Go.Lib.indexByte x35 x38) fun x40 =>
  grd (decide (x40 < 0)) <|
  some (-1)
else
  ju
def kT (a1 : List UInt8) (x20 : List UInt8) (n : Nat) : Unit → Option Int :=
  loop (fun rec x => ix a1 x20 rec) n
def iG (F : Nat) (a1 : List UInt8) (a2 : Int) : Option Int :=
bif (decide (0 ≤ a2)) && (decide (a2 < 128)) then
  lt (Go.Lib.indexByte a1 (Go.Av.toB a2)) fun x6 =>
  some x6
else
  bif decide (a2 = 65533) then
    iw a1 F 0
  else
    bnd (jC F a2) fun x17 =>
    bif !x17 then
      some (-1)
    else
      lt (cG a2) fun x20 =>
      grd (okI ((x20.length : Int) - 1)) <|
      kT a1 x20 F ()
def rK (F : Nat) (a1 : Int) : Option Bool :=
some (decide (8 < a1))
def iy (F : Nat) (a1 : List UInt8) (y11 : Int) : Option Int :=
bnd (iG F a1 y11) fun x13 =>
some x13
def jw : Option Int :=
some (-1)
def iA (F : Nat) (a1 : List UInt8) (a2 : List UInt8) (rec22 : Nat → Option Int) (y21 : Nat) : Option Int :=
bif decide (y21 < a1.length) then
  bnd (iG F a2 ((mQ a1 y21).1 : Int)) fun x25 =>
  bif decide (0 ≤ x25) then
    some (y21 : Int)
  else
    rec22 (y21 + (mQ a1 y21).2)
else
  jw
def iz (F : Nat) (a1 : List UInt8) (a2 : List UInt8) (n : Nat) : Nat → Option Int :=
  loop (fun rec x => iA F a1 a2 rec x) n
def jv (F : Nat) (a1 : List UInt8) (a2 : List UInt8) : Option Int :=
iz F a1 a2 F 0
def mO (F : Nat) (a1 : List UInt8) (a2 : List UInt8) : Option Int :=
bif decide (a2 = ([] : List UInt8)) then
  some (-1)
else
  bif decide ((a2.length : Int) = 1) then
    grd (dr 0 a2.length) <|
    lt (at_ a2 0) fun x7 =>
    grd (okJ (x7.toNat : Int)) <|
    bif decide (128 ≤ (x7.toNat : Int)) then
      iy F a1 65533
    else
      iy F a1 (x7.toNat : Int)
  else
    bnd (rK F (a1.length : Int)) fun x15 =>
    grd (!x15) <|
    jv F a1 a2
def lV (F : Nat) (s chars : List UInt8) : Option Int := bif decide (8 < s.length) && decide (2 ≤ chars.length) then some (Go.Lib.indexAny s chars) else mO F s chars
def gx (F : Nat) (a1 : List UInt8) (a2 : List UInt8) : Option Bool :=
grd (iV a2) <|
grd (okS a1.length) <|
grd (okS a2.length) <|
bnd (lV F a1 a2) fun x7 =>
some (decide (0 ≤ x7))
end Go.Pv
namespace Go.Proofs.YtkbfjepffpddfaaGreatDoor
open Go.RowKit Go.Av Go.Pv
theorem vL : ∀ (args : Array Value) (w : World), (callFunc 44 args).run Tryz.prog w = .ok (.enter 44 args) w := fun _ _ => by kernel_rfl
theorem en91_any : ∀ (args : Array Value) (w : World), (callFunc 91 args).run Tryz.prog w = .ok (.enter 91 args) w := fun _ _ => by kernel_rfl
theorem vK : ∀ (args : Array Value) (w : World), (callFunc 96 args).run Tryz.prog w = .ok (.enter 96 args) w := fun _ _ => by kernel_rfl
theorem en97_any : ∀ (args : Array Value) (w : World), (callFunc 97 args).run Tryz.prog w = .ok (.enter 97 args) w := fun _ _ => by kernel_rfl
theorem yP : ∀ (args : Array Value) (w : World), (callFunc 101 args).run Tryz.prog w = .ok (.enter 101 args) w := fun _ _ => by kernel_rfl
set_option maxRecDepth 100000 in
set_option maxHeartbeats 1000000 in
theorem uT (F : Nat) (a1 : Int) (r2 : Bool) (H : jC F a1 = some r2) : ACalls Tryz.prog 101 [.v (.int .i32 a1)] [] (Ret (B r2) []) := by
 unfold jC at H
 refine ap Tryz.func101 rfl rfl ?_;show AW _ _ 17 _ _ _;refine af <| aa ?_;show AR _ _ _ _ _ [0] _;refine za rfl <| ag <| af <| aR <| af <| aa ?_;show AR _ _ _ _ _ [0, 1, 2, 3, 4, 5, 6] _;refine zm rfl <| zS rfl (gh rfl rfl) <| zm rfl <| aY (l := [6]) 9 (B ((decide (0 ≤ a1)) && (decide (a1 < 55296)))) (fun K => ?_) ?_
 ·rcases al (decide (0 ≤ a1)) with h3 | h3
  ·refine zM h3 rfl <| zU h3 rfl (bX rfl rfl) <| zS rfl (aD (av := .v _) rfl h3 rfl) ?_;exact K _ 2 _ (ay (cz h3)) rfl rfl
  ·refine zF h3 rfl <| zF h3 rfl <| zS rfl (aE (av := .v _) rfl h3 rfl) ?_;exact K _ 2 _ (ay (cA h3)) rfl rfl
 refine za rfl <| ag <| ax rfl (fun c4 => ?_) (fun c4 => ?_)
 ·replace H := aW c4 H;refine af <| aa ?_;show AR _ _ _ _ _ [0] _;refine za rfl <| ag <| aI ?_;obtain rfl := ak H;exact And.intro rfl (Exists.intro _ (Exists.intro _ ⟨aG rfl (.refl _), aB [] rfl, rfl, rfl⟩))
 ·replace H := aX c4 H;refine af <| aa ?_;show AR _ _ _ _ _ [0, 1, 2, 3, 4, 5, 6] _;refine zm rfl <| zS rfl (bX rfl rfl) <| zm rfl <| aY (l := [6]) 16 (B ((decide (57343 < a1)) && (decide (a1 ≤ 1114111)))) (fun K => ?_) ?_
  ·rcases al (decide (57343 < a1)) with h5 | h5
   ·refine zM h5 rfl <| zU h5 rfl (gh rfl rfl) <| zS rfl (aD (av := .v _) rfl h5 rfl) ?_;exact K _ 2 _ (ay (cz h5)) rfl rfl
   ·refine zF h5 rfl <| zF h5 rfl <| zS rfl (aE (av := .v _) rfl h5 rfl) ?_;exact K _ 2 _ (ay (cA h5)) rfl rfl
  refine za rfl <| ag <| ax rfl (fun c6 => ?_) (fun c6 => ?_)
  ·replace H := aW c6 H;refine af <| aa ?_;show AR _ _ _ _ _ [0] _;refine za rfl <| ag <| aI ?_;obtain rfl := ak H;exact And.intro rfl (Exists.intro _ (Exists.intro _ ⟨aG rfl (.refl _), aB [] rfl, rfl, rfl⟩))
  ·replace H := aX c6 H;refine aA <| af <| aa ?_;show AR _ _ _ _ _ [0] _;refine za rfl <| ag <| aI ?_;obtain rfl := ak H;exact And.intro rfl (Exists.intro _ (Exists.intro _ ⟨aG rfl (.refl _), aB [] rfl, rfl, rfl⟩))
set_option maxRecDepth 100000 in
set_option maxHeartbeats 1000000 in
theorem sG (F : Nat) (a1 : List UInt8) (a2 : Int) (r3 : Int) (H : iG F a1 a2 = some r3) : ACalls Tryz.prog 96 [S a1, .v (.int .i32 a2)] [] (Ret (i64 r3) []) := by
 unfold iG at H
 refine ap Tryz.func96 rfl rfl ?_;show AW _ _ 187 _ _ _;refine af <| aa ?_;show AR _ _ _ _ _ [0] _;refine za rfl <| ag <| aR <| af <| aa ?_;show AR _ _ _ _ _ [0, 1, 2, 3, 4, 5, 6] _;refine zm rfl <| zS rfl (gh rfl rfl) <| zm rfl <| aY (l := [6]) 166 (B ((decide (0 ≤ a2)) && (decide (a2 < 128)))) (fun K => ?_) ?_
 ·rcases al (decide (0 ≤ a2)) with h4 | h4
  ·refine zM h4 rfl <| zU h4 rfl (bX rfl rfl) <| zS rfl (aD (av := .v _) rfl h4 rfl) ?_;exact K _ 2 _ (ay (cz h4)) rfl rfl
  ·refine zF h4 rfl <| zF h4 rfl <| zS rfl (aE (av := .v _) rfl h4 rfl) ?_;exact K _ 2 _ (ay (cA h4)) rfl rfl
 refine za rfl <| ag <| ax rfl (fun c5 => ?_) (fun c5 => ?_)
 ·replace H := aW c5 H;refine af ?_;obtain ⟨x6, e7, H⟩ := bR H;refine aa ?_;show AR _ _ _ _ _ [0, 1, 2, 3, 4] _;refine zm rfl <| zm rfl <| zS rfl (ry (by kernel_rfl) cH rfl) <| am rfl rfl (aC rfl vL rfl (show ACalls _ _ _ [] (Ret (i64 x6) []) from by subst e7; exact eS a1 (Go.Av.toB a2)) ?_);refine za rfl <| ag <| aI ?_;obtain rfl := ak H;exact And.intro rfl (Exists.intro _ (Exists.intro _ ⟨aG rfl (.refl _), aB [] rfl, rfl, rfl⟩))
 ·replace H := aX c5 H;refine af <| aa ?_;show AR _ _ _ _ _ [0, 1, 2] _;refine zm rfl <| zS rfl (bK rfl rfl) <| za rfl <| ag <| ax rfl (fun c8 => ?_) (fun c8 => ?_)
  ·replace H := aW c8 H;refine bJ (X := Unit) (fun _ => ⟨[], [], []⟩) (fun _ => mw = some r3) ?_ ?_
   ·refine af <| aa ?_;show AR _ _ _ _ _ [0, 1] _;refine zm rfl <| zX rfl (om ai rfl) ?_;rintro _ _ ⟨o9, rfl, rfl⟩;refine ag <| aR <| de (X := Nat × Nat) (fun (n12, y10) => ⟨[(175, .pt o9 0)], [], [.iter o9 a1 y10]⟩) (fun (n12, y10) => iw a1 n12 y10 = some r3) (fun (n12, y10) => n12) (F, 0) H (bb [0] (.cons (.refl _) (.nil _)) rfl) ?_;rintro ⟨n12, y10⟩ H;obtain ⟨n12, rfl, H⟩ := eX H;replace H : eC a1 (iw a1 n12) y10 = some r3 := H
    unfold eC at H
    refine af ?_
    rcases al (decide (y10 < a1.length)) with c13 | c13
    ·replace H := aW c13 H;refine aa ?_;show AR _ _ _ _ _ [0, 1] _;refine zR rfl (vF (i := 0) rfl rfl c13) <| zS rfl (az (av := .v _) rfl rfl) <| ag <| af <| ax rfl (fun _ => ?_) (fun hx => bL rfl hx);refine aA <| aR <| af <| aa ?_;show AR _ _ _ _ _ [0, 1, 2, 3] _;refine zS rfl (az (av := .v _) rfl rfl) <| zS rfl (az (av := .v _) rfl rfl) <| za rfl <| za rfl <| ag <| af <| aa ?_;show AR _ _ _ _ _ [0, 1] _;refine zm rfl <| zS rfl (bK rfl rfl) <| ag ?_;obtain ⟨g15, H⟩ := aN H;replace g15 := fn g15;refine ax rfl (fun hx => bL hx g15) (fun _ => ?_);refine aA ?_;exact Exists.intro (n12, y10 + (mQ a1 y10).2) ⟨H, Nat.lt_succ_self _, bb [0] (.cons (.refl _) (.nil _)) rfl⟩
    ·replace H := aX c13 H;refine aa ?_;show AR _ _ _ _ _ [0, 1] _;refine zR rfl (vG (i := 0) rfl rfl c13) <| zS rfl (az (av := .v _) rfl rfl) <| ag <| af <| ax rfl (fun hx => bL hx rfl) (fun _ => ?_);refine cw ?_;exact Exists.intro () ⟨H, bb [] (.nil _) rfl⟩
   rintro _ H;replace H : mw = some r3 := H
   unfold mw at H
   refine af <| aa ?_;show AR _ _ _ _ _ [0] _;refine za rfl <| ag <| aI ?_;obtain rfl := ak H;exact And.intro rfl (Exists.intro _ (Exists.intro _ ⟨aG rfl (.refl _), aB [] rfl, rfl, rfl⟩))
  ·replace H := aX c8 H;refine af ?_;obtain ⟨x17, e18, H⟩ := cd H;refine aa ?_;show AR _ _ _ _ _ [0, 1, 2, 3] _;refine zm rfl <| am rfl rfl (aC rfl yP rfl (uT F a2 x17 e18) ?_);refine zS rfl (bG rfl) <| za rfl <| ag <| ax rfl (fun c19 => ?_) (fun c19 => ?_)
   ·replace H := aW c19 H;refine af <| aa ?_;show AR _ _ _ _ _ [0] _;refine za rfl <| ag <| aI ?_;obtain rfl := ak H;exact And.intro rfl (Exists.intro _ (Exists.intro _ ⟨aG rfl (.refl _), aB [] rfl, rfl, rfl⟩))
   ·replace H := aX c19 H;refine AW.scope <| af ?_;obtain ⟨x20, e21, H⟩ := bR H;refine aa ?_;show AR _ _ _ _ _ [0, 1, 2] _;refine zm rfl <| zS rfl (oD Tryz.underlying21 ai rfl e21) <| za rfl <| ag <| af ?_;obtain ⟨g22, H⟩ := aN H;refine aa ?_;show AR _ _ _ _ _ [0, 1, 2, 3] _;refine zm rfl <| zS rfl (bw ai rfl) <| zS rfl (lw rfl rfl g22) <| za rfl <| ag <| af <| aa ?_;show AR _ _ _ _ _ [0, 1] _;refine zm rfl <| za rfl <| ag <| af <| aa ?_;show AR _ _ _ _ _ [0] _;refine za rfl <| ag <| bJ (X := Unit) (fun _ => ⟨[], [], []⟩) (fun _ => ju = some r3) ?_ ?_
    ·refine aR <| de (X := Nat) (fun n24 => ⟨[(0, S a1), (7, S x20), (8, i64 ((x20.length : Int) - 1)), (9, i64 ((x20.length : Int) - 1)), (10, i64 0)], [], []⟩) (fun n24 => kT a1 x20 n24 () = some r3) (fun n24 => n24) F H (bb [] (.cons (.refl _) (.cons (.refl _) (.cons (.refl _) (.cons (.refl _) (.cons (.refl _) (.nil _)))))) rfl) ?_;rintro n24 H;obtain ⟨n24, rfl, H⟩ := eX H;replace H : ix a1 x20 (kT a1 x20 n24) = some r3 := H
     unfold ix at H
     refine af <| af <| aa ?_;show AR _ _ _ _ _ [0, 1, 2, 3] _;refine zm rfl <| zm rfl <| zS rfl (bw ai rfl) <| zS rfl (bX rfl rfl) <| ag <| ax rfl (fun c25 => ?_) (fun c25 => ?_)
     ·replace H := aW c25 H;refine aA <| aR <| AW.scope <| af <| af ?_;obtain ⟨g26, H⟩ := aN H;obtain ⟨x27, e28, H⟩ := bR H;obtain ⟨g29, H⟩ := aN H;obtain ⟨x30, e31, H⟩ := bR H;refine ce (by kernel_rfl) ?_;show AI _ _ _ _ _ 7 (Array.replicate 7 false) _;refine zk 0 rfl (mv rfl) ?_;show AI _ _ _ _ _ _ #[true, false, false, false, false, false, false] _;refine zk 1 rfl (mv rfl) ?_;show AI _ _ _ _ _ _ #[true, true, false, false, false, false, false] _;refine zk 2 rfl (bp ai rfl rfl g26 e28) ?_;show AI _ _ _ _ _ _ #[true, true, true, false, false, false, false] _;refine zk 3 rfl (mv rfl) ?_;show AI _ _ _ _ _ _ #[true, true, true, true, false, false, false] _;refine zk 4 rfl (mv rfl) ?_;show AI _ _ _ _ _ _ #[true, true, true, true, true, false, false] _;refine zk 5 rfl (bp ai rfl rfl g29 e31) ?_;show AI _ _ _ _ _ _ #[true, true, true, true, true, true, false] _;refine zk 6 rfl (g_ne8 (a := x27) (b := x30) rfl rfl) ?_;show AI _ _ _ _ _ _ #[true, true, true, true, true, true, true] _;refine cK rfl ?_;obtain ⟨g44, H⟩ := aN H;refine ax rfl (fun _ => ?_) (fun hx => bL g44 hx);refine af ?_;obtain ⟨g33, H⟩ := aN H;obtain ⟨g34, H⟩ := aN H;obtain ⟨x35, e36, H⟩ := bR H;obtain ⟨g37, H⟩ := aN H;obtain ⟨x38, e39, H⟩ := bR H;obtain ⟨x40, e41, H⟩ := bR H;refine ce (by kernel_rfl) ?_;show AI _ _ _ _ _ 9 (Array.replicate 9 false) _;refine zk 0 rfl (mv rfl) ?_;show AI _ _ _ _ _ _ #[true, false, false, false, false, false, false, false, false] _
      refine zk 1 rfl (mv rfl) ?_;show AI _ _ _ _ _ _ #[true, true, false, false, false, false, false, false, false] _;refine zk 2 rfl (cX rfl rfl g33) ?_;show AI _ _ _ _ _ _ #[true, true, true, false, false, false, false, false, false] _;refine zk 3 rfl (eD ai rfl rfl g34 e36) ?_;show AI _ _ _ _ _ _ #[true, true, true, true, false, false, false, false, false] _;refine zk 4 rfl (mv rfl) ?_;show AI _ _ _ _ _ _ #[true, true, true, true, true, false, false, false, false] _;refine zk 5 rfl (mv rfl) ?_;show AI _ _ _ _ _ _ #[true, true, true, true, true, true, false, false, false] _;refine zk 6 rfl (bp ai rfl rfl g37 e39) ?_;show AI _ _ _ _ _ _ #[true, true, true, true, true, true, true, false, false] _;refine ca (i := 7) (by kernel_rfl) rfl rfl <| AIO.callp rfl vL rfl (show ACalls _ _ _ [] (Ret (i64 x40) []) from by subst e41; exact eS x35 x38) ?_;show AI _ _ _ _ _ _ #[true, true, true, true, true, true, true, true, false] _;refine zk 8 rfl (asg rfl) ?_;show AI _ _ _ _ _ _ #[true, true, true, true, true, true, true, true, true] _;refine cK rfl <| af <| af <| aa ?_;show AR _ _ _ _ _ [0, 1] _;refine zm rfl <| zS rfl (bX rfl rfl) <| ag ?_;obtain ⟨g43, H⟩ := aN H;refine ax rfl (fun _ => ?_) (fun hx => bL g43 hx);refine af <| aa ?_;show AR _ _ _ _ _ [0] _;refine za rfl <| ag <| aI ?_;obtain rfl := ak H;exact And.intro rfl (Exists.intro _ (Exists.intro _ ⟨aG rfl (.refl _), aB [] rfl, rfl, rfl⟩))
     ·replace H := aX c25 H;refine cw ?_;exact Exists.intro () ⟨H, bb [] (.nil _) rfl⟩
    rintro _ H;replace H : ju = some r3 := H
    unfold ju at H
    refine af <| af <| aa ?_;show AR _ _ _ _ _ [0] _;refine za rfl <| ag <| aI ?_;obtain rfl := ak H;exact And.intro rfl (Exists.intro _ (Exists.intro _ ⟨aG rfl (.refl _), aB [] rfl, rfl, rfl⟩))
set_option maxRecDepth 100000 in
set_option maxHeartbeats 1000000 in
theorem w_useSet (F : Nat) (a1 : Int) (r2 : Bool) (H : rK F a1 = some r2) : ACalls Tryz.prog 97 [i64 a1] [] (Ret (B r2) []) := by
 unfold rK at H
 refine ap Tryz.func97 rfl rfl ?_;show AW _ _ 5 _ _ _;refine af <| aa ?_;show AR _ _ _ _ _ [0] _;refine za rfl <| ag <| af <| aa ?_;show AR _ _ _ _ _ [0, 1, 2] _;refine zm rfl <| zS rfl (eW rfl rfl) <| za rfl <| ag <| aI ?_;obtain rfl := ak H;exact And.intro rfl (Exists.intro _ (Exists.intro _ ⟨aG rfl (.refl _), aB [] rfl, rfl, rfl⟩))
set_option maxRecDepth 100000 in
set_option maxHeartbeats 1000000 in
theorem xu (F : Nat) (a1 : List UInt8) (a2 : List UInt8) (r3 : Int) (H : mO F a1 a2 = some r3) : ACalls Tryz.prog 91 [S a1, S a2] [] (Ret (i64 r3) []) := by
 unfold mO at H
 refine ap Tryz.func91 rfl rfl ?_;show AW _ _ 55 _ _ _;refine af <| aa ?_;show AR _ _ _ _ _ [0] _;refine za rfl <| ag <| af <| af <| aa ?_;show AR _ _ _ _ _ [0, 1] _;refine zm rfl <| zS rfl (dR rfl rfl) <| ag <| ax rfl (fun c4 => ?_) (fun c4 => ?_)
 ·replace H := aW c4 H;refine af <| aa ?_;show AR _ _ _ _ _ [0] _;refine za rfl <| ag <| aI ?_;obtain rfl := ak H;exact And.intro rfl (Exists.intro _ (Exists.intro _ ⟨aG rfl (.refl _), aB [] rfl, rfl, rfl⟩))
 ·replace H := aX c4 H;refine aA <| af <| af <| aa ?_;show AR _ _ _ _ _ [0, 1, 2] _;refine zm rfl <| zS rfl (bw ai rfl) <| zS rfl (bK rfl rfl) <| ag <| ax rfl (fun c5 => ?_) (fun c5 => ?_)
  ·replace H := aW c5 H;refine af ?_;obtain ⟨g6, H⟩ := aN H;obtain ⟨x7, e8, H⟩ := bR H;obtain ⟨g9, H⟩ := aN H;refine aa ?_;show AR _ _ _ _ _ [0, 1, 2, 3] _;refine zm rfl <| zS rfl (bp ai rfl rfl g6 e8) <| zS rfl (sV (by kernel_rfl) Tryz.underlying21 rfl g9) <| za rfl <| ag <| bJ (X := Int) (fun y11 => ⟨[(0, S a1), (5, .v (.int .i32 y11))], [], []⟩) (fun y11 => iy F a1 y11 = some r3) ?_ ?_
   ·refine af <| aa ?_;show AR _ _ _ _ _ [0, 1] _;refine zm rfl <| zS rfl (fv rfl rfl) <| ag <| ax rfl (fun c10 => ?_) (fun c10 => ?_)
    ·replace H := aW c10 H;refine aa ?_;show AR _ _ _ _ _ [0] _;refine za rfl <| ag ?_;exact Exists.intro 65533 ⟨H, bb [] (.cons (.refl _) (.cons (.refl _) (.nil _))) rfl⟩
    ·replace H := aX c10 H;refine aA ?_;exact Exists.intro (x7.toNat : Int) ⟨H, bb [] (.cons (.refl _) (.cons (.refl _) (.nil _))) rfl⟩
   rintro y11 H;replace H : iy F a1 y11 = some r3 := H
   unfold iy at H
   refine af ?_;obtain ⟨x13, e14, H⟩ := cd H;refine aa ?_;show AR _ _ _ _ _ [0, 1, 2, 3] _;refine zm rfl <| zm rfl <| am rfl rfl (aC rfl vK rfl (sG F a1 y11 x13 e14) ?_);refine za rfl <| ag <| aI ?_;obtain rfl := ak H;exact And.intro rfl (Exists.intro _ (Exists.intro _ ⟨aG rfl (.refl _), aB [] rfl, rfl, rfl⟩))
  ·replace H := aX c5 H;refine aA <| bJ (X := Unit) (fun _ => ⟨[(0, S a1), (1, S a2)], [], []⟩) (fun _ => jv F a1 a2 = some r3) ?_ ?_
   ·refine af ?_;obtain ⟨x15, e16, H⟩ := cd H;refine aa ?_;show AR _ _ _ _ _ [0, 1, 2] _;refine zm rfl <| zS rfl (bw ai rfl) <| am rfl rfl (aC rfl en97_any rfl (w_useSet F (a1.length : Int) x15 e16) ?_);refine ag ?_;obtain ⟨g18, H⟩ := aN H;replace g18 := fn g18;refine ax rfl (fun hx => bL hx g18) (fun _ => ?_);refine aA ?_;exact Exists.intro () ⟨H, bb [] (.cons (.refl _) (.cons (.refl _) (.nil _))) rfl⟩
   rintro _ H;replace H : jv F a1 a2 = some r3 := H
   unfold jv at H
   refine bJ (X := Unit) (fun _ => ⟨[], [], []⟩) (fun _ => jw = some r3) ?_ ?_
   ·refine af <| aa ?_;show AR _ _ _ _ _ [0, 1] _;refine zm rfl <| zX rfl (om ai rfl) ?_;rintro _ _ ⟨o20, rfl, rfl⟩;refine ag <| aR <| de (X := Nat × Nat) (fun (n23, y21) => ⟨[(1, S a2), (45, .pt o20 0)], [], [.iter o20 a1 y21]⟩) (fun (n23, y21) => iz F a1 a2 n23 y21 = some r3) (fun (n23, y21) => n23) (F, 0) H (bb [0] (.cons (.refl _) (.cons (.refl _) (.nil _))) rfl) ?_;rintro ⟨n23, y21⟩ H;obtain ⟨n23, rfl, H⟩ := eX H;replace H : iA F a1 a2 (iz F a1 a2 n23) y21 = some r3 := H
    unfold iA at H
    refine af ?_
    rcases al (decide (y21 < a1.length)) with c24 | c24
    ·replace H := aW c24 H;refine aa ?_;show AR _ _ _ _ _ [0, 1] _;refine zR rfl (vF (i := 0) rfl rfl c24) <| zS rfl (az (av := .v _) rfl rfl) <| ag <| af <| ax rfl (fun _ => ?_) (fun hx => bL rfl hx);refine aA <| aR <| af <| aa ?_;show AR _ _ _ _ _ [0, 1, 2, 3] _;refine zS rfl (az (av := .v _) rfl rfl) <| zS rfl (az (av := .v _) rfl rfl) <| za rfl <| za rfl <| ag <| af ?_;obtain ⟨x25, e26, H⟩ := cd H;refine aa ?_;show AR _ _ _ _ _ [0, 1, 2, 3] _;refine zm rfl <| zm rfl <| am rfl rfl (aC rfl vK rfl (sG F a2 ((mQ a1 y21).1 : Int) x25 e26) ?_);refine zS rfl (fv rfl rfl) <| ag <| ax rfl (fun c27 => ?_) (fun c27 => ?_)
     ·replace H := aW c27 H;refine af <| aa ?_;show AR _ _ _ _ _ [0, 1] _;refine zm rfl <| za rfl <| ag <| aI ?_;obtain rfl := ak H;exact And.intro rfl (Exists.intro _ (Exists.intro _ ⟨aG rfl (.refl _), aB [] rfl, rfl, rfl⟩))
     ·replace H := aX c27 H;refine aA ?_;exact Exists.intro (n23, y21 + (mQ a1 y21).2) ⟨H, Nat.lt_succ_self _, bb [0] (.cons (.refl _) (.cons (.refl _) (.nil _))) rfl⟩
    ·replace H := aX c24 H;refine aa ?_;show AR _ _ _ _ _ [0, 1] _;refine zR rfl (vG (i := 0) rfl rfl c24) <| zS rfl (az (av := .v _) rfl rfl) <| ag <| af <| ax rfl (fun hx => bL hx rfl) (fun _ => ?_);refine cw ?_;exact Exists.intro () ⟨H, bb [] (.nil _) rfl⟩
   rintro _ H;replace H : jw = some r3 := H
   unfold jw at H
   refine af <| aa ?_;show AR _ _ _ _ _ [0] _;refine za rfl <| ag <| aI ?_;obtain rfl := ak H;exact And.intro rfl (Exists.intro _ (Exists.intro _ ⟨aG rfl (.refl _), aB [] rfl, rfl, rfl⟩))
theorem pb (F : Nat) (s chars : List UInt8) (x : Int) (h1 : iV chars = true) (h2 : okS s.length = true) (h3 : okS chars.length = true) (H : lV F s chars = some x) : ACalls Tryz.prog 91 [S s, S chars] [] (Ret (i64 x) []) := by
 unfold lV at H
 cases hb : (decide (8 < s.length) && decide (2 ≤ chars.length)) with
 | true =>
  rw [hb] at H
  obtain rfl := ak H
  simp only [Bool.and_eq_true, decide_eq_true_eq] at hb
  refine fS fun I A w vs hI hv => ?_
  obtain ⟨v1, r1, rfl, e1, hv⟩ := hv.out_cons;obtain ⟨v2, r2, rfl, e2, hv⟩ := hv.out_cons
  rw [hv.out_nil, km e1, km e2]
  refine (Tryz.strings_IndexAny_long (fun _ => by kernel_rfl) ⟨s.toArray⟩ ⟨chars.toArray⟩ w (by simpa [ByteArray.size] using hb.2) (by simpa [ByteArray.size] using hb.1) (by simpa [ByteArray.size] using mH h2) (by simpa [ByteArray.size] using mH h3) (fun j b hj => rJ h1 j b (by simpa using hj))).mono fun e w' ⟨he, hw⟩ => ⟨by simpa using he, ?_⟩
  subst hw;exact ((Below.refl _ _).alloc (Nat.le_refl _) _).alloc (by simp) _
 | false => rw [hb] at H; exact xu F s chars x H
set_option maxRecDepth 100000 in
set_option maxHeartbeats 1000000 in
theorem sd (F : Nat) (a1 : List UInt8) (a2 : List UInt8) (r3 : Bool) (H : gx F a1 a2 = some r3) : ACalls Tryz.prog 102 [S a1, S a2] [] (Ret (B r3) []) := by
 unfold gx at H
 refine ap Tryz.func102 rfl rfl ?_;show AW _ _ 9 _ _ _;refine af <| aa ?_;show AR _ _ _ _ _ [0] _;refine za rfl <| ag <| af ?_;obtain ⟨g4, H⟩ := aN H;obtain ⟨g5, H⟩ := aN H;obtain ⟨g6, H⟩ := aN H;obtain ⟨x7, e8, H⟩ := cd H;refine aa ?_;show AR _ _ _ _ _ [0, 1, 2, 3, 4] _;refine zm rfl <| zm rfl <| am rfl rfl (aC rfl en91_any rfl (pb F a1 a2 x7 g4 g5 g6 e8) ?_);refine zS rfl (fv rfl rfl) <| za rfl <| ag <| aI ?_;obtain rfl := ak H;exact And.intro rfl (Exists.intro _ (Exists.intro _ ⟨aG rfl (.refl _), aB [] rfl, rfl, rfl⟩))
end Go.Proofs.YtkbfjepffpddfaaGreatDoor
namespace Go.Pv
def jl (F : Nat) (a1 : Int) : Option ((List UInt8) × Bool) :=
kz (!(((decide (a1 = 9)) || (decide (a1 = 10))) || (decide (a1 = 13)))) (lW F a1 32 55295) fun x7 =>
kz ((!(((decide (a1 = 9)) || (decide (a1 = 10))) || (decide (a1 = 13)))) && (!x7)) (lW F a1 57344 65533) fun x10 =>
kz (((!(((decide (a1 = 9)) || (decide (a1 = 10))) || (decide (a1 = 13)))) && (!x7)) && (!x10)) (lW F a1 65536 1114111) fun x13 =>
bif (((!(((decide (a1 = 9)) || (decide (a1 = 10))) || (decide (a1 = 13)))) && (!x7)) && (!x10)) && (!x13) then
  some (([] : List UInt8), false)
else
  grd (okJ a1) <|
  lt (cG a1) fun x17 =>
  some (x17, true)
def kJ (F : Nat) : Option ((List (List UInt8 × Int))) :=
some ([(([97, 109, 112] : List UInt8), 38), (([108, 116] : List UInt8), 60), (([103, 116] : List UInt8), 62), (([113, 117, 111, 116] : List UInt8), 34), (([97, 112, 111, 115] : List UInt8), 39)] : List (List UInt8 × Int))
def dQ (F : Nat) (a1 : List UInt8) (a2 : Int) : Option ((List UInt8) × Bool) :=
fq (!(decide (a1 = ([] : List UInt8)))) (dr 0 a1.length) <|
lt (at_ a1 0) fun x7 =>
fq (!((decide (a1 = ([] : List UInt8))) || (decide (x7 = 43)))) (dr 0 a1.length) <|
lt (at_ a1 0) fun x11 =>
fq (!(((decide (a1 = ([] : List UInt8))) || (decide (x7 = 43))) || (decide (x11 = 45)))) (dr 0 a1.length) <|
lt (at_ a1 0) fun x15 =>
kz (!((((decide (a1 = ([] : List UInt8))) || (decide (x7 = 43))) || (decide (x11 = 45))) || (decide (x15 = 95)))) (gx F a1 ([95] : List UInt8)) fun x18 =>
bif ((((decide (a1 = ([] : List UInt8))) || (decide (x7 = 43))) || (decide (x11 = 45))) || (decide (x15 = 95))) || x18 then
  some (([] : List UInt8), false)
else
  ft (dv F a1 a2 0) fun x21 x22 =>
  bif !decide (x22 = 0) then
    some (([] : List UInt8), false)
  else
    ft (jl F x21) fun x25 x26 =>
    some (x25, x26)
def iq (F : Nat) (a1 : List UInt8) : Option ((List UInt8) × Bool) :=
bnd (kJ F) fun x4 =>
bif Go.Av.mhas x4 a1 then
  lt (cG (Go.Av.mget x4 a1)) fun x7 =>
  some (x7, true)
else
  lt (Go.Lib.trimPrefix a1 ([35, 120] : List UInt8), Go.Lib.hasPrefix a1 ([35, 120] : List UInt8)) fun x9 =>
  bif x9.2 then
    ft (dQ F x9.1 16) fun x12 x13 =>
    some (x12, x13)
  else
    lt (Go.Lib.trimPrefix a1 ([35] : List UInt8), Go.Lib.hasPrefix a1 ([35] : List UInt8)) fun x15 =>
    bif x15.2 then
      ft (dQ F x15.1 10) fun x18 x19 =>
      some (x18, x19)
    else
      some (([] : List UInt8), false)
def jB (F : Nat) (a1 : List UInt8) : Option ((List UInt8) × Int) :=
grd (kj 1 a1.length) <|
lt (cY a1 1) fun x5 =>
grd (iV ([38, 59] : List UInt8)) <|
grd (okS x5.length) <|
grd (okS ([38, 59] : List UInt8).length) <|
bnd (lV F x5 ([38, 59] : List UInt8)) fun x10 =>
bnd (lW F x10 1 10) fun x12 =>
fq (!(!x12)) (okI (x10 + 1)) <|
fq (!(!x12)) (dr (x10 + 1) a1.length) <|
lt (at_ a1 (x10 + 1)) fun x17 =>
bif (!x12) || (decide (x17 = 38)) then
  some (([] : List UInt8), 0)
else
  grd (okI (x10 + 1)) <|
  grd (qE 1 (x10 + 1) a1.length) <|
  lt (sub a1 1 (x10 + 1)) fun x22 =>
  ft (iq F x22) fun x24 x25 =>
  bif !x25 then
    some (([] : List UInt8), 0)
  else
    grd (okI (x10 + 2)) <|
    some (x24, x10 + 2)
def gr (rec11 : ((List UInt8) × Bool × (List UInt8)) → Option ((List UInt8) × Bool)) (x25 : List UInt8) (x29 : List UInt8) (y35 : Bool) (y36 : List UInt8) (y37 : Int) : Option ((List UInt8) × Bool) :=
grd (okW x25 y36) <|
lt (x25 ++ y36) fun x40 =>
grd (kj y37 x29.length) <|
lt (cY x29 y37) fun x44 =>
rec11 (x44, y35, x40)
def gt (F : Nat) (rec11 : ((List UInt8) × Bool × (List UInt8)) → Option ((List UInt8) × Bool)) (y6 : List UInt8) (y7 : Bool) (y9 : List UInt8) : Option ((List UInt8) × Bool) :=
lt (Go.Lib.indexByte y6 38) fun x13 =>
bif decide (x13 < 0) then
  grd (okW y9 y6) <|
  lt (y9 ++ y6) fun x17 =>
  grd (okW x17 []) <|
  some (x17, y7)
else
  grd (kj x13 y6.length) <|
  lt (to_ y6 x13) fun x22 =>
  grd (okW y9 x22) <|
  lt (y9 ++ x22) fun x25 =>
  grd (kj x13 y6.length) <|
  lt (cY y6 x13) fun x29 =>
  ft (jB F x29) fun x31 x32 =>
  bif decide (x32 = 0) then
    gr rec11 x25 x29 false ([38] : List UInt8) 1
  else
    gr rec11 x25 x29 y7 x31 x32
def eO (F : Nat) (n : Nat) : ((List UInt8) × Bool × (List UInt8)) → Option ((List UInt8) × Bool) :=
  loop (fun rec x => gt F rec x.1 x.2.1 x.2.2) n
def nw (F : Nat) (a1 : List UInt8) : Option ((List UInt8) × Bool) :=
eO F F (a1, true, [])
def kX (F : Nat) (a1 : List UInt8) : Option ((List UInt8) × Int) :=
ft (nw F a1) fun x4 x5 =>
bif !x5 then
  some (([] : List UInt8), 2)
else
  some (x4, 0)
end Go.Pv
