/-
  Texts in one (only what XmlDeep needs): AnyP, AnyW, EntBP, EntBW, XmlAP, XmlAW, XmlBP, XmlBW, XmlLP.
-/
import Derived.Test.YteokdkimegepoaaGreatDoorZXmlDeep2
import Derived.Lib.IndexAny
import Derived.Test.YteokdkimegepoaaGreatDoorShelf
import Derived.Lib.ItoaNum
import Derived.Lib.IndexLaws
import Derived.Test.YteokdkimegepoaaGreatDoorChecked
import Derived.Below
set_option linter.unusedVariables false
set_option linter.unusedSimpArgs false
set_option linter.unusedSectionVars false
namespace Go.Pv
def fX (F : Nat) (a1 : Int) : Option Bool :=
bif (decide (0 ≤ a1)) && (decide (a1 < 55296)) then
  some true
else
  bif (decide (57343 < a1)) && (decide (a1 ≤ 1114111)) then
    some true
  else
    some false
def jc : Option Int :=
some (-1)
def dk (a1 : List UInt8) (rec11 : Nat → Option Int) (y10 : Nat) : Option Int :=
bif decide (y10 < a1.length) then
  grd (!(decide (((jp a1 y10).1 : Int) = 65533))) <|
  rec11 (y10 + (jp a1 y10).2)
else
  jc
def fh (a1 : List UInt8) (n : Nat) : Nat → Option Int :=
  loop (fun rec x => dk a1 rec x) n
def fR : Option Int :=
some (-1)
def fi (a1 : List UInt8) (x20 : List UInt8) (rec23 : Unit → Option Int) : Option Int :=
bif decide ((x20.length : Int) - 1 < (a1.length : Int)) then
  grd (cG ((x20.length : Int) - 1) a1.length) <|
  lt (at_ a1 ((x20.length : Int) - 1)) fun x27 =>
  grd (cG ((x20.length : Int) - 1) x20.length) <|
  lt (at_ x20 ((x20.length : Int) - 1)) fun x30 =>
  grd (!decide (x27 = x30)) <|
  grd (okI (((x20.length : Int) - 1) + 1)) <|
  grd (iA (((x20.length : Int) - 1) + 1) a1.length) <|
  lt (eo a1 (((x20.length : Int) - 1) + 1)) fun x35 =>
  grd (cG ((x20.length : Int) - 1) x20.length) <|
  lt (at_ x20 ((x20.length : Int) - 1)) fun x38 =>
  lt (Go.Lib.indexByte x35 x38) fun x40 =>
  grd (decide (x40 < 0)) <|
  some (-1)
else
  fR
def gR (a1 : List UInt8) (x20 : List UInt8) (n : Nat) : Unit → Option Int :=
  loop (fun rec x => fi a1 x20 rec) n
def fq (F : Nat) (a1 : List UInt8) (a2 : Int) : Option Int :=
bif (decide (0 ≤ a2)) && (decide (a2 < 128)) then
  lt (Go.Lib.indexByte a1 (Go.Av.toB a2)) fun x6 =>
  some x6
else
  bif decide (a2 = 65533) then
    fh a1 F 0
  else
    bnd (fX F a2) fun x17 =>
    bif !x17 then
      some (-1)
    else
      lt (ca a2) fun x20 =>
      grd (okI ((x20.length : Int) - 1)) <|
      gR a1 x20 F ()
def mX (F : Nat) (a1 : Int) : Option Bool :=
some (decide (8 < a1))
def fj (F : Nat) (a1 : List UInt8) (y11 : Int) : Option Int :=
bnd (fq F a1 y11) fun x13 =>
some x13
def fT : Option Int :=
some (-1)
def fm (F : Nat) (a1 : List UInt8) (a2 : List UInt8) (rec22 : Nat → Option Int) (y21 : Nat) : Option Int :=
bif decide (y21 < a1.length) then
  bnd (fq F a2 ((jp a1 y21).1 : Int)) fun x25 =>
  bif decide (0 ≤ x25) then
    some (y21 : Int)
  else
    rec22 (y21 + (jp a1 y21).2)
else
  fT
def fk (F : Nat) (a1 : List UInt8) (a2 : List UInt8) (n : Nat) : Nat → Option Int :=
  loop (fun rec x => fm F a1 a2 rec x) n
def fS (F : Nat) (a1 : List UInt8) (a2 : List UInt8) : Option Int :=
fk F a1 a2 F 0
def jo (F : Nat) (a1 : List UInt8) (a2 : List UInt8) : Option Int :=
bif decide (a2 = ([] : List UInt8)) then
  some (-1)
else
  bif decide ((a2.length : Int) = 1) then
    grd (cG 0 a2.length) <|
    lt (at_ a2 0) fun x7 =>
    grd (okJ (x7.toNat : Int)) <|
    bif decide (128 ≤ (x7.toNat : Int)) then
      fj F a1 65533
    else
      fj F a1 (x7.toNat : Int)
  else
    bnd (mX F (a1.length : Int)) fun x15 =>
    grd (!x15) <|
    fS F a1 a2
def iD (F : Nat) (s chars : List UInt8) : Option Int := bif decide (8 < s.length) && decide (2 ≤ chars.length) then some (Go.Lib.indexAny s chars) else jo F s chars
def eB (F : Nat) (a1 : List UInt8) (a2 : List UInt8) : Option Bool :=
grd (fB a2) <|
grd (okS a1.length) <|
grd (okS a2.length) <|
bnd (iD F a1 a2) fun x7 =>
some (decide (0 ≤ x7))
end Go.Pv
namespace Go.Proofs.YteokdkimegepoaaGreatDoor
open Go.RowKit Go.Av Go.Pv
theorem ql : ∀ (args : Array Value) (w : World), (callFunc 62 args).run Tryz.prog w = .ok (.enter 62 args) w := fun _ _ => by kernel_rfl
theorem ov : ∀ (args : Array Value) (w : World), (callFunc 105 args).run Tryz.prog w = .ok (.enter 105 args) w := fun _ _ => by kernel_rfl
theorem sB : ∀ (args : Array Value) (w : World), (callFunc 121 args).run Tryz.prog w = .ok (.enter 121 args) w := fun _ _ => by kernel_rfl
theorem sz : ∀ (args : Array Value) (w : World), (callFunc 133 args).run Tryz.prog w = .ok (.enter 133 args) w := fun _ _ => by kernel_rfl
theorem sx : ∀ (args : Array Value) (w : World), (callFunc 148 args).run Tryz.prog w = .ok (.enter 148 args) w := fun _ _ => by kernel_rfl
set_option maxRecDepth 100000 in
set_option maxHeartbeats 1000000 in
theorem pF (F : Nat) (a1 : Int) (r2 : Bool) (H : fX F a1 = some r2) : ACalls Tryz.prog 121 [.v (.int .i32 a1)] [] (Ret (B r2) []) := by
 unfold fX at H
 refine au Tryz.func121 rfl rfl ?_;show AW _ _ 17 _ _ _;refine ac <| aa ?_;show AR _ _ _ _ _ [0] _;refine za rfl <| ag <| ac <| aN <| ac <| aa ?_;show AR _ _ _ _ _ [0, 1, 2, 3, 4, 5, 6] _;refine zm rfl <| zS rfl (eY rfl rfl) <| zm rfl <| bb (l := [6]) 9 (B ((decide (0 ≤ a1)) && (decide (a1 < 55296)))) (fun K => ?_) ?_
 ·rcases ak (decide (0 ≤ a1)) with h3 | h3
  ·refine zM h3 rfl <| zU h3 rfl (bW rfl rfl) <| zS rfl (aE (av := .v _) rfl h3 rfl) ?_;exact K _ 2 _ (ay (cz h3)) rfl rfl
  ·refine zF h3 rfl <| zF h3 rfl <| zS rfl (aF (av := .v _) rfl h3 rfl) ?_;exact K _ 2 _ (ay (cA h3)) rfl rfl
 refine za rfl <| ag <| ax rfl (fun c4 => ?_) (fun c4 => ?_)
 ·replace H := aV c4 H;refine ac <| aa ?_;show AR _ _ _ _ _ [0] _;refine za rfl <| ag <| aI ?_;obtain rfl := al H;exact And.intro rfl (Exists.intro _ (Exists.intro _ ⟨aC rfl (.refl _), aH [] rfl, rfl, rfl⟩))
 ·replace H := aW c4 H;refine ac <| aa ?_;show AR _ _ _ _ _ [0, 1, 2, 3, 4, 5, 6] _;refine zm rfl <| zS rfl (bW rfl rfl) <| zm rfl <| bb (l := [6]) 16 (B ((decide (57343 < a1)) && (decide (a1 ≤ 1114111)))) (fun K => ?_) ?_
  ·rcases ak (decide (57343 < a1)) with h5 | h5
   ·refine zM h5 rfl <| zU h5 rfl (eY rfl rfl) <| zS rfl (aE (av := .v _) rfl h5 rfl) ?_;exact K _ 2 _ (ay (cz h5)) rfl rfl
   ·refine zF h5 rfl <| zF h5 rfl <| zS rfl (aF (av := .v _) rfl h5 rfl) ?_;exact K _ 2 _ (ay (cA h5)) rfl rfl
  refine za rfl <| ag <| ax rfl (fun c6 => ?_) (fun c6 => ?_)
  ·replace H := aV c6 H;refine ac <| aa ?_;show AR _ _ _ _ _ [0] _;refine za rfl <| ag <| aI ?_;obtain rfl := al H;exact And.intro rfl (Exists.intro _ (Exists.intro _ ⟨aC rfl (.refl _), aH [] rfl, rfl, rfl⟩))
  ·replace H := aW c6 H;refine aB <| ac <| aa ?_;show AR _ _ _ _ _ [0] _;refine za rfl <| ag <| aI ?_;obtain rfl := al H;exact And.intro rfl (Exists.intro _ (Exists.intro _ ⟨aC rfl (.refl _), aH [] rfl, rfl, rfl⟩))
set_option maxRecDepth 100000 in
set_option maxHeartbeats 1000000 in
theorem nG (F : Nat) (a1 : List UInt8) (a2 : Int) (r3 : Int) (H : fq F a1 a2 = some r3) : ACalls Tryz.prog 105 [S a1, .v (.int .i32 a2)] [] (Ret (i64 r3) []) := by
 unfold fq at H
 refine au Tryz.func105 rfl rfl ?_;show AW _ _ 187 _ _ _;refine ac <| aa ?_;show AR _ _ _ _ _ [0] _;refine za rfl <| ag <| aN <| ac <| aa ?_;show AR _ _ _ _ _ [0, 1, 2, 3, 4, 5, 6] _;refine zm rfl <| zS rfl (eY rfl rfl) <| zm rfl <| bb (l := [6]) 166 (B ((decide (0 ≤ a2)) && (decide (a2 < 128)))) (fun K => ?_) ?_
 ·rcases ak (decide (0 ≤ a2)) with h4 | h4
  ·refine zM h4 rfl <| zU h4 rfl (bW rfl rfl) <| zS rfl (aE (av := .v _) rfl h4 rfl) ?_;exact K _ 2 _ (ay (cz h4)) rfl rfl
  ·refine zF h4 rfl <| zF h4 rfl <| zS rfl (aF (av := .v _) rfl h4 rfl) ?_;exact K _ 2 _ (ay (cA h4)) rfl rfl
 refine za rfl <| ag <| ax rfl (fun c5 => ?_) (fun c5 => ?_)
 ·replace H := aV c5 H;refine ac ?_;obtain ⟨x6, e7, H⟩ := bI H;refine aa ?_;show AR _ _ _ _ _ [0, 1, 2, 3, 4] _;refine zm rfl <| zm rfl <| zS rfl (mK (by kernel_rfl) cX rfl) <| am rfl rfl (aG rfl ql rfl (show ACalls _ _ _ [] (Ret (i64 x6) []) from by subst e7; exact dz a1 (Go.Av.toB a2)) ?_);refine za rfl <| ag <| aI ?_;obtain rfl := al H;exact And.intro rfl (Exists.intro _ (Exists.intro _ ⟨aC rfl (.refl _), aH [] rfl, rfl, rfl⟩))
 ·replace H := aW c5 H;refine ac <| aa ?_;show AR _ _ _ _ _ [0, 1, 2] _;refine zm rfl <| zS rfl (bM rfl rfl) <| za rfl <| ag <| ax rfl (fun c8 => ?_) (fun c8 => ?_)
  ·replace H := aV c8 H;refine bQ (X := Unit) (fun _ => ⟨[], [], []⟩) (fun _ => jc = some r3) ?_ ?_
   ·refine ac <| aa ?_;show AR _ _ _ _ _ [0, 1] _;refine zm rfl <| zX rfl (kf ah rfl) ?_;rintro _ _ ⟨o9, rfl, rfl⟩;refine ag <| aN <| cR (X := Nat × Nat) (fun (n12, y10) => ⟨[(175, .pt o9 0)], [], [.iter o9 a1 y10]⟩) (fun (n12, y10) => fh a1 n12 y10 = some r3) (fun (n12, y10) => n12) (F, 0) H (ba [0] (.cons (.refl _) (.nil _)) rfl) ?_;rintro ⟨n12, y10⟩ H;obtain ⟨n12, rfl, H⟩ := ep H;replace H : dk a1 (fh a1 n12) y10 = some r3 := H
    unfold dk at H
    refine ac ?_
    rcases ak (decide (y10 < a1.length)) with c13 | c13
    ·replace H := aV c13 H;refine aa ?_;show AR _ _ _ _ _ [0, 1] _;refine zR rfl (qi (i := 0) rfl rfl c13) <| zS rfl (aJ (av := .v _) rfl rfl) <| ag <| ac <| ax rfl (fun _ => ?_) (fun hx => co rfl hx);refine aB <| aN <| ac <| aa ?_;show AR _ _ _ _ _ [0, 1, 2, 3] _;refine zS rfl (aJ (av := .v _) rfl rfl) <| zS rfl (aJ (av := .v _) rfl rfl) <| za rfl <| za rfl <| ag <| ac <| aa ?_;show AR _ _ _ _ _ [0, 1] _;refine zm rfl <| zS rfl (bM rfl rfl) <| ag ?_;obtain ⟨g15, H⟩ := aQ H;replace g15 := fn g15;refine ax rfl (fun hx => co hx g15) (fun _ => ?_);refine aB ?_;exact Exists.intro (n12, y10 + (jp a1 y10).2) ⟨H, Nat.lt_succ_self _, ba [0] (.cons (.refl _) (.nil _)) rfl⟩
    ·replace H := aW c13 H;refine aa ?_;show AR _ _ _ _ _ [0, 1] _;refine zR rfl (qj (i := 0) rfl rfl c13) <| zS rfl (aJ (av := .v _) rfl rfl) <| ag <| ac <| ax rfl (fun hx => co hx rfl) (fun _ => ?_);refine ct ?_;exact Exists.intro () ⟨H, ba [] (.nil _) rfl⟩
   rintro _ H;replace H : jc = some r3 := H
   unfold jc at H
   refine ac <| aa ?_;show AR _ _ _ _ _ [0] _;refine za rfl <| ag <| aI ?_;obtain rfl := al H;exact And.intro rfl (Exists.intro _ (Exists.intro _ ⟨aC rfl (.refl _), aH [] rfl, rfl, rfl⟩))
  ·replace H := aW c8 H;refine ac ?_;obtain ⟨x17, e18, H⟩ := eu H;refine aa ?_;show AR _ _ _ _ _ [0, 1, 2, 3] _;refine zm rfl <| am rfl rfl (aG rfl sB rfl (pF F a2 x17 e18) ?_);refine zS rfl (ce rfl) <| za rfl <| ag <| ax rfl (fun c19 => ?_) (fun c19 => ?_)
   ·replace H := aV c19 H;refine ac <| aa ?_;show AR _ _ _ _ _ [0] _;refine za rfl <| ag <| aI ?_;obtain rfl := al H;exact And.intro rfl (Exists.intro _ (Exists.intro _ ⟨aC rfl (.refl _), aH [] rfl, rfl, rfl⟩))
   ·replace H := aW c19 H;refine AW.scope <| ac ?_;obtain ⟨x20, e21, H⟩ := bI H;refine aa ?_;show AR _ _ _ _ _ [0, 1, 2] _;refine zm rfl <| zS rfl (kx Tryz.underlying21 ah rfl e21) <| za rfl <| ag <| ac ?_;obtain ⟨g22, H⟩ := aQ H;refine aa ?_;show AR _ _ _ _ _ [0, 1, 2, 3] _;refine zm rfl <| zS rfl (bu ah rfl) <| zS rfl (qp rfl rfl g22) <| za rfl <| ag <| ac <| aa ?_;show AR _ _ _ _ _ [0, 1] _;refine zm rfl <| za rfl <| ag <| ac <| aa ?_;show AR _ _ _ _ _ [0] _;refine za rfl <| ag <| bQ (X := Unit) (fun _ => ⟨[], [], []⟩) (fun _ => fR = some r3) ?_ ?_
    ·refine aN <| cR (X := Nat) (fun n24 => ⟨[(0, S a1), (7, S x20), (8, i64 ((x20.length : Int) - 1)), (9, i64 ((x20.length : Int) - 1)), (10, i64 0)], [], []⟩) (fun n24 => gR a1 x20 n24 () = some r3) (fun n24 => n24) F H (ba [] (.cons (.refl _) (.cons (.refl _) (.cons (.refl _) (.cons (.refl _) (.cons (.refl _) (.nil _)))))) rfl) ?_;rintro n24 H;obtain ⟨n24, rfl, H⟩ := ep H;replace H : fi a1 x20 (gR a1 x20 n24) = some r3 := H
     unfold fi at H
     refine ac <| ac <| aa ?_;show AR _ _ _ _ _ [0, 1, 2, 3] _;refine zm rfl <| zm rfl <| zS rfl (bu ah rfl) <| zS rfl (bW rfl rfl) <| ag <| ax rfl (fun c25 => ?_) (fun c25 => ?_)
     ·replace H := aV c25 H;refine aB <| aN <| AW.scope <| ac <| ac ?_;obtain ⟨g26, H⟩ := aQ H;obtain ⟨x27, e28, H⟩ := bI H;obtain ⟨g29, H⟩ := aQ H;obtain ⟨x30, e31, H⟩ := bI H;refine bH (by kernel_rfl) ?_;show AI _ _ _ _ _ 7 (Array.replicate 7 false) _;refine zk 0 rfl (mv rfl) ?_;show AI _ _ _ _ _ _ #[true, false, false, false, false, false, false] _;refine zk 1 rfl (mv rfl) ?_;show AI _ _ _ _ _ _ #[true, true, false, false, false, false, false] _;refine zk 2 rfl (bj ah rfl rfl g26 e28) ?_;show AI _ _ _ _ _ _ #[true, true, true, false, false, false, false] _;refine zk 3 rfl (mv rfl) ?_;show AI _ _ _ _ _ _ #[true, true, true, true, false, false, false] _;refine zk 4 rfl (mv rfl) ?_;show AI _ _ _ _ _ _ #[true, true, true, true, true, false, false] _;refine zk 5 rfl (bj ah rfl rfl g29 e31) ?_;show AI _ _ _ _ _ _ #[true, true, true, true, true, true, false] _;refine zk 6 rfl (g_ne8 (a := x27) (b := x30) rfl rfl) ?_;show AI _ _ _ _ _ _ #[true, true, true, true, true, true, true] _;refine cn rfl ?_;obtain ⟨g44, H⟩ := aQ H;refine ax rfl (fun _ => ?_) (fun hx => co g44 hx);refine ac ?_;obtain ⟨g33, H⟩ := aQ H;obtain ⟨g34, H⟩ := aQ H;obtain ⟨x35, e36, H⟩ := bI H;obtain ⟨g37, H⟩ := aQ H;obtain ⟨x38, e39, H⟩ := bI H;obtain ⟨x40, e41, H⟩ := bI H;refine bH (by kernel_rfl) ?_;show AI _ _ _ _ _ 9 (Array.replicate 9 false) _;refine zk 0 rfl (mv rfl) ?_;show AI _ _ _ _ _ _ #[true, false, false, false, false, false, false, false, false] _
      refine zk 1 rfl (mv rfl) ?_;show AI _ _ _ _ _ _ #[true, true, false, false, false, false, false, false, false] _;refine zk 2 rfl (eH rfl rfl g33) ?_;show AI _ _ _ _ _ _ #[true, true, true, false, false, false, false, false, false] _;refine zk 3 rfl (dA ah rfl rfl g34 e36) ?_;show AI _ _ _ _ _ _ #[true, true, true, true, false, false, false, false, false] _;refine zk 4 rfl (mv rfl) ?_;show AI _ _ _ _ _ _ #[true, true, true, true, true, false, false, false, false] _;refine zk 5 rfl (mv rfl) ?_;show AI _ _ _ _ _ _ #[true, true, true, true, true, true, false, false, false] _;refine zk 6 rfl (bj ah rfl rfl g37 e39) ?_;show AI _ _ _ _ _ _ #[true, true, true, true, true, true, true, false, false] _;refine bJ (i := 7) (by kernel_rfl) rfl rfl <| AIO.callp rfl ql rfl (show ACalls _ _ _ [] (Ret (i64 x40) []) from by subst e41; exact dz x35 x38) ?_;show AI _ _ _ _ _ _ #[true, true, true, true, true, true, true, true, false] _;refine zk 8 rfl (asg rfl) ?_;show AI _ _ _ _ _ _ #[true, true, true, true, true, true, true, true, true] _;refine cn rfl <| ac <| ac <| aa ?_;show AR _ _ _ _ _ [0, 1] _;refine zm rfl <| zS rfl (bW rfl rfl) <| ag ?_;obtain ⟨g43, H⟩ := aQ H;refine ax rfl (fun _ => ?_) (fun hx => co g43 hx);refine ac <| aa ?_;show AR _ _ _ _ _ [0] _;refine za rfl <| ag <| aI ?_;obtain rfl := al H;exact And.intro rfl (Exists.intro _ (Exists.intro _ ⟨aC rfl (.refl _), aH [] rfl, rfl, rfl⟩))
     ·replace H := aW c25 H;refine ct ?_;exact Exists.intro () ⟨H, ba [] (.nil _) rfl⟩
    rintro _ H;replace H : fR = some r3 := H
    unfold fR at H
    refine ac <| ac <| aa ?_;show AR _ _ _ _ _ [0] _;refine za rfl <| ag <| aI ?_;obtain rfl := al H;exact And.intro rfl (Exists.intro _ (Exists.intro _ ⟨aC rfl (.refl _), aH [] rfl, rfl, rfl⟩))
set_option maxRecDepth 100000 in
set_option maxHeartbeats 1000000 in
theorem w_useSet (F : Nat) (a1 : Int) (r2 : Bool) (H : mX F a1 = some r2) : ACalls Tryz.prog 148 [i64 a1] [] (Ret (B r2) []) := by
 unfold mX at H
 refine au Tryz.func148 rfl rfl ?_;show AW _ _ 5 _ _ _;refine ac <| aa ?_;show AR _ _ _ _ _ [0] _;refine za rfl <| ag <| ac <| aa ?_;show AR _ _ _ _ _ [0, 1, 2] _;refine zm rfl <| zS rfl (gl rfl rfl) <| za rfl <| ag <| aI ?_;obtain rfl := al H;exact And.intro rfl (Exists.intro _ (Exists.intro _ ⟨aC rfl (.refl _), aH [] rfl, rfl, rfl⟩))
set_option maxRecDepth 100000 in
set_option maxHeartbeats 1000000 in
theorem rH (F : Nat) (a1 : List UInt8) (a2 : List UInt8) (r3 : Int) (H : jo F a1 a2 = some r3) : ACalls Tryz.prog 133 [S a1, S a2] [] (Ret (i64 r3) []) := by
 unfold jo at H
 refine au Tryz.func133 rfl rfl ?_;show AW _ _ 55 _ _ _;refine ac <| aa ?_;show AR _ _ _ _ _ [0] _;refine za rfl <| ag <| ac <| ac <| aa ?_;show AR _ _ _ _ _ [0, 1] _;refine zm rfl <| zS rfl (eL rfl rfl) <| ag <| ax rfl (fun c4 => ?_) (fun c4 => ?_)
 ·replace H := aV c4 H;refine ac <| aa ?_;show AR _ _ _ _ _ [0] _;refine za rfl <| ag <| aI ?_;obtain rfl := al H;exact And.intro rfl (Exists.intro _ (Exists.intro _ ⟨aC rfl (.refl _), aH [] rfl, rfl, rfl⟩))
 ·replace H := aW c4 H;refine aB <| ac <| ac <| aa ?_;show AR _ _ _ _ _ [0, 1, 2] _;refine zm rfl <| zS rfl (bu ah rfl) <| zS rfl (bM rfl rfl) <| ag <| ax rfl (fun c5 => ?_) (fun c5 => ?_)
  ·replace H := aV c5 H;refine ac ?_;obtain ⟨g6, H⟩ := aQ H;obtain ⟨x7, e8, H⟩ := bI H;obtain ⟨g9, H⟩ := aQ H;refine aa ?_;show AR _ _ _ _ _ [0, 1, 2, 3] _;refine zm rfl <| zS rfl (bj ah rfl rfl g6 e8) <| zS rfl (nR (by kernel_rfl) Tryz.underlying21 rfl g9) <| za rfl <| ag <| bQ (X := Int) (fun y11 => ⟨[(0, S a1), (5, .v (.int .i32 y11))], [], []⟩) (fun y11 => fj F a1 y11 = some r3) ?_ ?_
   ·refine ac <| aa ?_;show AR _ _ _ _ _ [0, 1] _;refine zm rfl <| zS rfl (eJ rfl rfl) <| ag <| ax rfl (fun c10 => ?_) (fun c10 => ?_)
    ·replace H := aV c10 H;refine aa ?_;show AR _ _ _ _ _ [0] _;refine za rfl <| ag ?_;exact Exists.intro 65533 ⟨H, ba [] (.cons (.refl _) (.cons (.refl _) (.nil _))) rfl⟩
    ·replace H := aW c10 H;refine aB ?_;exact Exists.intro (x7.toNat : Int) ⟨H, ba [] (.cons (.refl _) (.cons (.refl _) (.nil _))) rfl⟩
   rintro y11 H;replace H : fj F a1 y11 = some r3 := H
   unfold fj at H
   refine ac ?_;obtain ⟨x13, e14, H⟩ := eu H;refine aa ?_;show AR _ _ _ _ _ [0, 1, 2, 3] _;refine zm rfl <| zm rfl <| am rfl rfl (aG rfl ov rfl (nG F a1 y11 x13 e14) ?_);refine za rfl <| ag <| aI ?_;obtain rfl := al H;exact And.intro rfl (Exists.intro _ (Exists.intro _ ⟨aC rfl (.refl _), aH [] rfl, rfl, rfl⟩))
  ·replace H := aW c5 H;refine aB <| bQ (X := Unit) (fun _ => ⟨[(0, S a1), (1, S a2)], [], []⟩) (fun _ => fS F a1 a2 = some r3) ?_ ?_
   ·refine ac ?_;obtain ⟨x15, e16, H⟩ := eu H;refine aa ?_;show AR _ _ _ _ _ [0, 1, 2] _;refine zm rfl <| zS rfl (bu ah rfl) <| am rfl rfl (aG rfl sx rfl (w_useSet F (a1.length : Int) x15 e16) ?_);refine ag ?_;obtain ⟨g18, H⟩ := aQ H;replace g18 := fn g18;refine ax rfl (fun hx => co hx g18) (fun _ => ?_);refine aB ?_;exact Exists.intro () ⟨H, ba [] (.cons (.refl _) (.cons (.refl _) (.nil _))) rfl⟩
   rintro _ H;replace H : fS F a1 a2 = some r3 := H
   unfold fS at H
   refine bQ (X := Unit) (fun _ => ⟨[], [], []⟩) (fun _ => fT = some r3) ?_ ?_
   ·refine ac <| aa ?_;show AR _ _ _ _ _ [0, 1] _;refine zm rfl <| zX rfl (kf ah rfl) ?_;rintro _ _ ⟨o20, rfl, rfl⟩;refine ag <| aN <| cR (X := Nat × Nat) (fun (n23, y21) => ⟨[(1, S a2), (45, .pt o20 0)], [], [.iter o20 a1 y21]⟩) (fun (n23, y21) => fk F a1 a2 n23 y21 = some r3) (fun (n23, y21) => n23) (F, 0) H (ba [0] (.cons (.refl _) (.cons (.refl _) (.nil _))) rfl) ?_;rintro ⟨n23, y21⟩ H;obtain ⟨n23, rfl, H⟩ := ep H;replace H : fm F a1 a2 (fk F a1 a2 n23) y21 = some r3 := H
    unfold fm at H
    refine ac ?_
    rcases ak (decide (y21 < a1.length)) with c24 | c24
    ·replace H := aV c24 H;refine aa ?_;show AR _ _ _ _ _ [0, 1] _;refine zR rfl (qi (i := 0) rfl rfl c24) <| zS rfl (aJ (av := .v _) rfl rfl) <| ag <| ac <| ax rfl (fun _ => ?_) (fun hx => co rfl hx);refine aB <| aN <| ac <| aa ?_;show AR _ _ _ _ _ [0, 1, 2, 3] _;refine zS rfl (aJ (av := .v _) rfl rfl) <| zS rfl (aJ (av := .v _) rfl rfl) <| za rfl <| za rfl <| ag <| ac ?_;obtain ⟨x25, e26, H⟩ := eu H;refine aa ?_;show AR _ _ _ _ _ [0, 1, 2, 3] _;refine zm rfl <| zm rfl <| am rfl rfl (aG rfl ov rfl (nG F a2 ((jp a1 y21).1 : Int) x25 e26) ?_);refine zS rfl (eJ rfl rfl) <| ag <| ax rfl (fun c27 => ?_) (fun c27 => ?_)
     ·replace H := aV c27 H;refine ac <| aa ?_;show AR _ _ _ _ _ [0, 1] _;refine zm rfl <| za rfl <| ag <| aI ?_;obtain rfl := al H;exact And.intro rfl (Exists.intro _ (Exists.intro _ ⟨aC rfl (.refl _), aH [] rfl, rfl, rfl⟩))
     ·replace H := aW c27 H;refine aB ?_;exact Exists.intro (n23, y21 + (jp a1 y21).2) ⟨H, Nat.lt_succ_self _, ba [0] (.cons (.refl _) (.cons (.refl _) (.nil _))) rfl⟩
    ·replace H := aW c24 H;refine aa ?_;show AR _ _ _ _ _ [0, 1] _;refine zR rfl (qj (i := 0) rfl rfl c24) <| zS rfl (aJ (av := .v _) rfl rfl) <| ag <| ac <| ax rfl (fun hx => co hx rfl) (fun _ => ?_);refine ct ?_;exact Exists.intro () ⟨H, ba [] (.nil _) rfl⟩
   rintro _ H;replace H : fT = some r3 := H
   unfold fT at H
   refine ac <| aa ?_;show AR _ _ _ _ _ [0] _;refine za rfl <| ag <| aI ?_;obtain rfl := al H;exact And.intro rfl (Exists.intro _ (Exists.intro _ ⟨aC rfl (.refl _), aH [] rfl, rfl, rfl⟩))
theorem kL (F : Nat) (s chars : List UInt8) (x : Int) (h1 : fB chars = true) (h2 : okS s.length = true) (h3 : okS chars.length = true) (H : iD F s chars = some x) : ACalls Tryz.prog 133 [S s, S chars] [] (Ret (i64 x) []) := by
 unfold iD at H
 cases hb : (decide (8 < s.length) && decide (2 ≤ chars.length)) with
 | true =>
  rw [hb] at H
  obtain rfl := al H
  simp only [Bool.and_eq_true, decide_eq_true_eq] at hb
  refine dY fun I A w vs hI hv => ?_
  obtain ⟨v1, r1, rfl, e1, hv⟩ := hv.out_cons;obtain ⟨v2, r2, rfl, e2, hv⟩ := hv.out_cons
  rw [hv.out_nil, gC e1, gC e2]
  refine (Tryz.strings_IndexAny_long (fun _ => by kernel_rfl) ⟨s.toArray⟩ ⟨chars.toArray⟩ w (by simpa [ByteArray.size] using hb.2) (by simpa [ByteArray.size] using hb.1) (by simpa [ByteArray.size] using kz h2) (by simpa [ByteArray.size] using kz h3) (fun j b hj => mW h1 j b (by simpa using hj))).mono fun e w' ⟨he, hw⟩ => ⟨by simpa using he, ?_⟩
  subst hw;exact ((Below.refl _ _).alloc (Nat.le_refl _) _).alloc (by simp) _
 | false => rw [hb] at H; exact rH F s chars x H
set_option maxRecDepth 100000 in
set_option maxHeartbeats 1000000 in
theorem nk (F : Nat) (a1 : List UInt8) (a2 : List UInt8) (r3 : Bool) (H : eB F a1 a2 = some r3) : ACalls Tryz.prog 158 [S a1, S a2] [] (Ret (B r3) []) := by
 unfold eB at H
 refine au Tryz.func158 rfl rfl ?_;show AW _ _ 9 _ _ _;refine ac <| aa ?_;show AR _ _ _ _ _ [0] _;refine za rfl <| ag <| ac ?_;obtain ⟨g4, H⟩ := aQ H;obtain ⟨g5, H⟩ := aQ H;obtain ⟨g6, H⟩ := aQ H;obtain ⟨x7, e8, H⟩ := eu H;refine aa ?_;show AR _ _ _ _ _ [0, 1, 2, 3, 4] _;refine zm rfl <| zm rfl <| am rfl rfl (aG rfl sz rfl (kL F a1 a2 x7 g4 g5 g6 e8) ?_);refine zS rfl (eJ rfl rfl) <| za rfl <| ag <| aI ?_;obtain rfl := al H;exact And.intro rfl (Exists.intro _ (Exists.intro _ ⟨aC rfl (.refl _), aH [] rfl, rfl, rfl⟩))
end Go.Proofs.YteokdkimegepoaaGreatDoor
namespace Go.Pv
def fK (F : Nat) (a1 : Int) : Option ((List UInt8) × Bool) :=
iQ (!(((decide (a1 = 9)) || (decide (a1 = 10))) || (decide (a1 = 13)))) (iE F a1 32 55295) fun x7 =>
iQ ((!(((decide (a1 = 9)) || (decide (a1 = 10))) || (decide (a1 = 13)))) && (!x7)) (iE F a1 57344 65533) fun x10 =>
iQ (((!(((decide (a1 = 9)) || (decide (a1 = 10))) || (decide (a1 = 13)))) && (!x7)) && (!x10)) (iE F a1 65536 1114111) fun x13 =>
bif (((!(((decide (a1 = 9)) || (decide (a1 = 10))) || (decide (a1 = 13)))) && (!x7)) && (!x10)) && (!x13) then
  some (([] : List UInt8), false)
else
  grd (okJ a1) <|
  lt (ca a1) fun x17 =>
  some (x17, true)
def gK (F : Nat) : Option ((List (List UInt8 × Int))) :=
some ([(([97, 109, 112] : List UInt8), 38), (([108, 116] : List UInt8), 60), (([103, 116] : List UInt8), 62), (([113, 117, 111, 116] : List UInt8), 34), (([97, 112, 111, 115] : List UInt8), 39)] : List (List UInt8 × Int))
def cQ (F : Nat) (a1 : List UInt8) (a2 : Int) : Option ((List UInt8) × Bool) :=
ek (!(decide (a1 = ([] : List UInt8)))) (cG 0 a1.length) <|
lt (at_ a1 0) fun x7 =>
ek (!((decide (a1 = ([] : List UInt8))) || (decide (x7 = 43)))) (cG 0 a1.length) <|
lt (at_ a1 0) fun x11 =>
ek (!(((decide (a1 = ([] : List UInt8))) || (decide (x7 = 43))) || (decide (x11 = 45)))) (cG 0 a1.length) <|
lt (at_ a1 0) fun x15 =>
iQ (!((((decide (a1 = ([] : List UInt8))) || (decide (x7 = 43))) || (decide (x11 = 45))) || (decide (x15 = 95)))) (eB F a1 ([95] : List UInt8)) fun x18 =>
bif ((((decide (a1 = ([] : List UInt8))) || (decide (x7 = 43))) || (decide (x11 = 45))) || (decide (x15 = 95))) || x18 then
  some (([] : List UInt8), false)
else
  gB (cC F a1 a2 0) fun x21 x22 =>
  bif !decide (x22 = 0) then
    some (([] : List UInt8), false)
  else
    gB (fK F x21) fun x25 x26 =>
    some (x25, x26)
def fe (F : Nat) (a1 : List UInt8) : Option ((List UInt8) × Bool) :=
bnd (gK F) fun x4 =>
bif Go.Av.mhas x4 a1 then
  lt (ca (Go.Av.mget x4 a1)) fun x7 =>
  some (x7, true)
else
  lt (Go.Lib.trimPrefix a1 ([35, 120] : List UInt8), Go.Lib.hasPrefix a1 ([35, 120] : List UInt8)) fun x9 =>
  bif x9.2 then
    gB (cQ F x9.1 16) fun x12 x13 =>
    some (x12, x13)
  else
    lt (Go.Lib.trimPrefix a1 ([35] : List UInt8), Go.Lib.hasPrefix a1 ([35] : List UInt8)) fun x15 =>
    bif x15.2 then
      gB (cQ F x15.1 10) fun x18 x19 =>
      some (x18, x19)
    else
      some (([] : List UInt8), false)
def fV (F : Nat) (a1 : List UInt8) : Option ((List UInt8) × Int) :=
grd (iA 1 a1.length) <|
lt (eo a1 1) fun x5 =>
grd (fB ([38, 59] : List UInt8)) <|
grd (okS x5.length) <|
grd (okS ([38, 59] : List UInt8).length) <|
bnd (iD F x5 ([38, 59] : List UInt8)) fun x10 =>
bnd (iE F x10 1 10) fun x12 =>
ek (!(!x12)) (okI (x10 + 1)) <|
ek (!(!x12)) (cG (x10 + 1) a1.length) <|
lt (at_ a1 (x10 + 1)) fun x17 =>
bif (!x12) || (decide (x17 = 38)) then
  some (([] : List UInt8), 0)
else
  grd (okI (x10 + 1)) <|
  grd (pa 1 (x10 + 1) a1.length) <|
  lt (sub a1 1 (x10 + 1)) fun x22 =>
  gB (fe F x22) fun x24 x25 =>
  bif !x25 then
    some (([] : List UInt8), 0)
  else
    grd (okI (x10 + 2)) <|
    some (x24, x10 + 2)
def fv (rec11 : ((List UInt8) × Bool × (List UInt8)) → Option ((List UInt8) × Bool)) (x25 : List UInt8) (x29 : List UInt8) (y35 : Bool) (y36 : List UInt8) (y37 : Int) : Option ((List UInt8) × Bool) :=
grd (okW x25 y36) <|
lt (x25 ++ y36) fun x40 =>
grd (iA y37 x29.length) <|
lt (eo x29 y37) fun x44 =>
rec11 (x44, y35, x40)
def gi (F : Nat) (rec11 : ((List UInt8) × Bool × (List UInt8)) → Option ((List UInt8) × Bool)) (y6 : List UInt8) (y7 : Bool) (y9 : List UInt8) : Option ((List UInt8) × Bool) :=
lt (Go.Lib.indexByte y6 38) fun x13 =>
bif decide (x13 < 0) then
  grd (okW y9 y6) <|
  lt (y9 ++ y6) fun x17 =>
  grd (okW x17 []) <|
  some (x17, y7)
else
  grd (iA x13 y6.length) <|
  lt (to_ y6 x13) fun x22 =>
  grd (okW y9 x22) <|
  lt (y9 ++ x22) fun x25 =>
  grd (iA x13 y6.length) <|
  lt (eo y6 x13) fun x29 =>
  gB (fV F x29) fun x31 x32 =>
  bif decide (x32 = 0) then
    fv rec11 x25 x29 false ([38] : List UInt8) 1
  else
    fv rec11 x25 x29 y7 x31 x32
def ey (F : Nat) (n : Nat) : ((List UInt8) × Bool × (List UInt8)) → Option ((List UInt8) × Bool) :=
  loop (fun rec x => gi F rec x.1 x.2.1 x.2.2) n
def la (F : Nat) (a1 : List UInt8) : Option ((List UInt8) × Bool) :=
ey F F (a1, true, [])
def gS (F : Nat) (a1 : List UInt8) : Option ((List UInt8) × Int) :=
gB (la F a1) fun x4 x5 =>
bif !x5 then
  some (([] : List UInt8), 2)
else
  some (x4, 0)
end Go.Pv
namespace Go.Proofs.YteokdkimegepoaaGreatDoor
open Go.RowKit Go.Av Go.Pv
theorem lw : ∀ (args : Array Value) (w : World), (callFunc 28 args).run Tryz.prog w = .ok (.enter 28 args) w := fun _ _ => by kernel_rfl
theorem sm : ∀ (args : Array Value) (w : World), (callFunc 30 args).run Tryz.prog w = .ok (.enter 30 args) w := fun _ _ => by kernel_rfl
theorem sf : ∀ (args : Array Value) (w : World), (callFunc 62 args).run Tryz.prog w = .ok (.enter 62 args) w := fun _ _ => by kernel_rfl
theorem nW : ∀ (args : Array Value) (w : World), (callFunc 93 args).run Tryz.prog w = .ok (.enter 93 args) w := fun _ _ => by kernel_rfl
theorem rb : ∀ (args : Array Value) (w : World), (callFunc 108 args).run Tryz.prog w = .ok (.enter 108 args) w := fun _ _ => by kernel_rfl
theorem ra : ∀ (args : Array Value) (w : World), (callFunc 122 args).run Tryz.prog w = .ok (.enter 122 args) w := fun _ _ => by kernel_rfl
theorem qZ : ∀ (args : Array Value) (w : World), (callFunc 133 args).run Tryz.prog w = .ok (.enter 133 args) w := fun _ _ => by kernel_rfl
theorem jf : ∀ (args : Array Value) (w : World), (callFunc 134 args).run Tryz.prog w = .ok (.enter 134 args) w := fun _ _ => by kernel_rfl
theorem qY : ∀ (args : Array Value) (w : World), (callFunc 135 args).run Tryz.prog w = .ok (.enter 135 args) w := fun _ _ => by kernel_rfl
theorem qX : ∀ (args : Array Value) (w : World), (callFunc 149 args).run Tryz.prog w = .ok (.enter 149 args) w := fun _ _ => by kernel_rfl
theorem mL : ∀ (args : Array Value) (w : World), (callFunc 150 args).run Tryz.prog w = .ok (.enter 150 args) w := fun _ _ => by kernel_rfl
theorem qW : ∀ (args : Array Value) (w : World), (callFunc 158 args).run Tryz.prog w = .ok (.enter 158 args) w := fun _ _ => by kernel_rfl
theorem qV : ∀ (args : Array Value) (w : World), (callFunc 159 args).run Tryz.prog w = .ok (.enter 159 args) w := fun _ _ => by kernel_rfl
theorem qU : ∀ (args : Array Value) (w : World), (callFunc 160 args).run Tryz.prog w = .ok (.enter 160 args) w := fun _ _ => by kernel_rfl
set_option maxRecDepth 100000 in
set_option maxHeartbeats 1000000 in
theorem qB (F : Nat) (a1 : Int) (r2 : List UInt8) (r3 : Bool) (H : fK F a1 = some (r2, r3)) : ACalls Tryz.prog 160 [i64 a1] [] (Ret (.tup [S r2, B r3]) []) := by
 unfold fK at H
 refine au Tryz.func160 rfl rfl ?_;show AW _ _ 35 _ _ _;refine ac <| aa ?_;show AR _ _ _ _ _ [0, 1] _;refine za rfl <| za rfl <| ag <| ac <| aa ?_;show AR _ _ _ _ _ [0, 1, 2, 3, 4, 5, 6, 7, 8, 9, 10] _;refine zm rfl <| zS rfl (bM rfl rfl) <| zm rfl <| bb (l := [6, 7, 8, 9, 10]) 10 (B ((decide (a1 = 9)) || (decide (a1 = 10)))) (fun K => ?_) ?_
 ·rcases ak (decide (a1 = 9)) with h4 | h4
  ·refine zF h4 rfl <| zF h4 rfl <| zS rfl (aE (av := .v _) rfl h4 rfl) ?_;exact K _ 2 _ (ay (jX h4)) rfl rfl
  ·refine zM h4 rfl <| zU h4 rfl (bM rfl rfl) <| zS rfl (aF (av := .v _) rfl h4 rfl) ?_;exact K _ 2 _ (ay (jY h4)) rfl rfl
 refine zm rfl <| bb (l := [10]) 14 (B (((decide (a1 = 9)) || (decide (a1 = 10))) || (decide (a1 = 13)))) (fun K => ?_) ?_
 ·rcases ak ((decide (a1 = 9)) || (decide (a1 = 10))) with h5 | h5
  ·refine zF h5 rfl <| zF h5 rfl <| zS rfl (aE (av := .v _) rfl h5 rfl) ?_;exact K _ 2 _ (ay (jX h5)) rfl rfl
  ·refine zM h5 rfl <| zU h5 rfl (bM rfl rfl) <| zS rfl (aF (av := .v _) rfl h5 rfl) ?_;exact K _ 2 _ (ay (jY h5)) rfl rfl
 refine za rfl <| ag <| ac <| ac ?_;obtain ⟨x7, e8, H⟩ := eK H;obtain ⟨x10, e11, H⟩ := eK H;obtain ⟨x13, e14, H⟩ := eK H;refine aa ?_;show AR _ _ _ _ _ [0, 1, 2, 3, 4, 5, 6, 7, 8, 9, 10, 11, 12, 13, 14, 15, 16] _;refine zm rfl <| zS rfl (ce rfl) <| zm rfl <| bb (l := [7, 8, 9, 10, 11, 12, 13, 14, 15, 16]) 21 (B ((!(((decide (a1 = 9)) || (decide (a1 = 10))) || (decide (a1 = 13)))) && (!x7))) (fun K => ?_) ?_
 ·rcases ak (!(((decide (a1 = 9)) || (decide (a1 = 10))) || (decide (a1 = 13)))) with h6 | h6
  ·refine zM h6 rfl <| zT h6 rfl (aG rfl jf rfl (kR F a1 32 55295 x7 (e8 h6)) ?_);refine zU h6 rfl (ce rfl) <| zS rfl (aE (av := .v _) rfl h6 rfl) ?_;exact K _ 3 _ (ay (cz h6)) rfl rfl
  ·refine zF h6 rfl <| zF h6 rfl <| zF h6 rfl <| zS rfl (aF (av := .v _) rfl h6 rfl) ?_;exact K _ 3 _ (ay (cA h6)) rfl rfl
 refine zm rfl <| bb (l := [12, 13, 14, 15, 16]) 26 (B (((!(((decide (a1 = 9)) || (decide (a1 = 10))) || (decide (a1 = 13)))) && (!x7)) && (!x10))) (fun K => ?_) ?_
 ·rcases ak ((!(((decide (a1 = 9)) || (decide (a1 = 10))) || (decide (a1 = 13)))) && (!x7)) with h9 | h9
  ·refine zM h9 rfl <| zT h9 rfl (aG rfl jf rfl (kR F a1 57344 65533 x10 (e11 h9)) ?_);refine zU h9 rfl (ce rfl) <| zS rfl (aE (av := .v _) rfl h9 rfl) ?_;exact K _ 3 _ (ay (cz h9)) rfl rfl
  ·refine zF h9 rfl <| zF h9 rfl <| zF h9 rfl <| zS rfl (aF (av := .v _) rfl h9 rfl) ?_;exact K _ 3 _ (ay (cA h9)) rfl rfl
 refine zm rfl <| bb (l := []) 31 (B ((((!(((decide (a1 = 9)) || (decide (a1 = 10))) || (decide (a1 = 13)))) && (!x7)) && (!x10)) && (!x13))) (fun K => ?_) ?_
 ·rcases ak (((!(((decide (a1 = 9)) || (decide (a1 = 10))) || (decide (a1 = 13)))) && (!x7)) && (!x10)) with h12 | h12
  ·refine zM h12 rfl <| zT h12 rfl (aG rfl jf rfl (kR F a1 65536 1114111 x13 (e14 h12)) ?_);refine zU h12 rfl (ce rfl) <| zS rfl (aE (av := .v _) rfl h12 rfl) ?_;exact K _ 3 _ (ay (cz h12)) rfl rfl
  ·refine zF h12 rfl <| zF h12 rfl <| zF h12 rfl <| zS rfl (aF (av := .v _) rfl h12 rfl) ?_;exact K _ 3 _ (ay (cA h12)) rfl rfl
 refine ag <| ax rfl (fun c15 => ?_) (fun c15 => ?_)
 ·replace H := aV c15 H;refine ac <| aa ?_;show AR _ _ _ _ _ [0, 1] _;refine za rfl <| za rfl <| ag <| aI ?_;obtain ⟨rfl, rfl⟩ := fo H;exact And.intro rfl (Exists.intro _ (Exists.intro _ ⟨bp rfl (.refl _) (.refl _), aH [] rfl, rfl, rfl⟩))
 ·replace H := aW c15 H;refine aB <| ac ?_;obtain ⟨g16, H⟩ := aQ H;obtain ⟨x17, e18, H⟩ := bI H;refine aa ?_;show AR _ _ _ _ _ [0, 1, 2, 3, 4] _;refine zm rfl <| zS rfl (nR (by kernel_rfl) Tryz.underlying21 rfl g16) <| zS rfl (kx Tryz.underlying21 ah rfl e18) <| za rfl <| za rfl <| ag <| aI ?_;obtain ⟨rfl, rfl⟩ := fo H;exact And.intro rfl (Exists.intro _ (Exists.intro _ ⟨bp rfl (.refl _) (.refl _), aH [] rfl, rfl, rfl⟩))
abbrev _root_.Go.Av.di := @Tryz.underlying181
set_option maxRecDepth 100000 in
set_option maxHeartbeats 1000000 in
theorem pC (F : Nat) (r1 : List (List UInt8 × Int)) (H : gK F = some r1) : ACalls Tryz.prog 149 [] [] (Ret (mpI .i32 r1) []) := by
 unfold gK at H
 refine au Tryz.func149 rfl rfl ?_;show AW _ _ 3 _ _ _;refine ac <| aa ?_;show AR _ _ _ _ _ [0] _;refine za rfl <| ag <| ac <| aa ?_;show AR _ _ _ _ _ [0, 1, 2, 3, 4, 5, 6, 7] _;refine AM.make (k := .i32) rfl rfl <| AM.insert (s := ([97, 109, 112] : List UInt8)) rfl di ah rfl (by decide) <| AM.insert (s := ([108, 116] : List UInt8)) rfl di ah rfl (by decide) <| AM.insert (s := ([103, 116] : List UInt8)) rfl di ah rfl (by decide) <| AM.insert (s := ([113, 117, 111, 116] : List UInt8)) rfl di ah rfl (by decide) <| AM.insert (s := ([97, 112, 111, 115] : List UInt8)) rfl di ah rfl (by decide) <| AM.done (es := ([(([97, 109, 112] : List UInt8), 38), (([108, 116] : List UInt8), 60), (([103, 116] : List UInt8), 62), (([113, 117, 111, 116] : List UInt8), 34), (([97, 112, 111, 115] : List UInt8), 39)] : List (List UInt8 × Int))) <| zS rfl (af (av := mpI _ _) rfl) <| zS rfl (aK (av := mpI _ _) rfl) <| ag <| aI ?_;obtain rfl := al H;exact And.intro rfl (Exists.intro _ (Exists.intro _ ⟨aC rfl (.refl _), aH [] rfl, rfl, rfl⟩))
set_option maxRecDepth 100000 in
set_option maxHeartbeats 1000000 in
theorem kH (F : Nat) (a1 : List UInt8) (a2 : Int) (r3 : List UInt8) (r4 : Bool) (H : cQ F a1 a2 = some (r3, r4)) : ACalls Tryz.prog 150 [S a1, i64 a2] [] (Ret (.tup [S r3, B r4]) []) := by
 unfold cQ at H
 refine au Tryz.func150 rfl rfl ?_;show AW _ _ 41 _ _ _;refine ac <| aa ?_;show AR _ _ _ _ _ [0, 1] _;refine za rfl <| za rfl <| ag <| ac <| ac ?_;obtain ⟨g6, H⟩ := cu H;obtain ⟨x7, e8, H⟩ := bI H;obtain ⟨g10, H⟩ := cu H;obtain ⟨x11, e12, H⟩ := bI H;obtain ⟨g14, H⟩ := cu H;obtain ⟨x15, e16, H⟩ := bI H;obtain ⟨x18, e19, H⟩ := eK H;refine aa ?_;show AR _ _ _ _ _ [0, 1, 2, 3, 4, 5, 6, 7, 8, 9, 10, 11, 12, 13, 14, 15, 16, 17, 18, 19, 20] _;refine zm rfl <| zS rfl (eL rfl rfl) <| zm rfl <| bb (l := [7, 8, 9, 10, 11, 12, 13, 14, 15, 16, 17, 18, 19, 20]) 14 (B ((decide (a1 = ([] : List UInt8))) || (decide (x7 = 43)))) (fun K => ?_) ?_
 ·rcases ak (decide (a1 = ([] : List UInt8))) with h5 | h5
  ·refine zF h5 rfl <| zF h5 rfl <| zF h5 rfl <| zS rfl (aE (av := .v _) rfl h5 rfl) ?_;exact K _ 3 _ (ay (jX h5)) rfl rfl
  ·refine zM h5 rfl <| zU h5 rfl (bj ah rfl rfl (g6 (nf h5)) e8) <| zU h5 rfl (gW (a := x7) (b := 43) rfl rfl) <| zS rfl (aF (av := .v _) rfl h5 rfl) ?_;exact K _ 3 _ (ay (jY h5)) rfl rfl
 refine zm rfl <| bb (l := [12, 13, 14, 15, 16, 17, 18, 19, 20]) 19 (B (((decide (a1 = ([] : List UInt8))) || (decide (x7 = 43))) || (decide (x11 = 45)))) (fun K => ?_) ?_
 ·rcases ak ((decide (a1 = ([] : List UInt8))) || (decide (x7 = 43))) with h9 | h9
  ·refine zF h9 rfl <| zF h9 rfl <| zF h9 rfl <| zS rfl (aE (av := .v _) rfl h9 rfl) ?_;exact K _ 3 _ (ay (jX h9)) rfl rfl
  ·refine zM h9 rfl <| zU h9 rfl (bj ah rfl rfl (g10 (nf h9)) e12) <| zU h9 rfl (gW (a := x11) (b := 45) rfl rfl) <| zS rfl (aF (av := .v _) rfl h9 rfl) ?_;exact K _ 3 _ (ay (jY h9)) rfl rfl
 refine zm rfl <| bb (l := [17, 18, 19, 20]) 24 (B ((((decide (a1 = ([] : List UInt8))) || (decide (x7 = 43))) || (decide (x11 = 45))) || (decide (x15 = 95)))) (fun K => ?_) ?_
 ·rcases ak (((decide (a1 = ([] : List UInt8))) || (decide (x7 = 43))) || (decide (x11 = 45))) with h13 | h13
  ·refine zF h13 rfl <| zF h13 rfl <| zF h13 rfl <| zS rfl (aE (av := .v _) rfl h13 rfl) ?_;exact K _ 3 _ (ay (jX h13)) rfl rfl
  ·refine zM h13 rfl <| zU h13 rfl (bj ah rfl rfl (g14 (nf h13)) e16) <| zU h13 rfl (gW (a := x15) (b := 95) rfl rfl) <| zS rfl (aF (av := .v _) rfl h13 rfl) ?_;exact K _ 3 _ (ay (jY h13)) rfl rfl
 refine zm rfl <| bb (l := []) 28 (B (((((decide (a1 = ([] : List UInt8))) || (decide (x7 = 43))) || (decide (x11 = 45))) || (decide (x15 = 95))) || x18)) (fun K => ?_) ?_
 ·rcases ak ((((decide (a1 = ([] : List UInt8))) || (decide (x7 = 43))) || (decide (x11 = 45))) || (decide (x15 = 95))) with h17 | h17
  ·refine zF h17 rfl <| zF h17 rfl <| zS rfl (aE (av := .v _) rfl h17 rfl) ?_;exact K _ 2 _ (ay (jX h17)) rfl rfl
  ·refine zM h17 rfl <| zT h17 rfl (aG rfl qW rfl (nk F a1 ([95] : List UInt8) x18 (e19 (nf h17))) ?_);refine zS rfl (aF (av := .v _) rfl h17 rfl) ?_;exact K _ 2 _ (ay (jY h17)) rfl rfl
 refine ag <| ax rfl (fun c20 => ?_) (fun c20 => ?_)
 ·replace H := aV c20 H;refine ac <| aa ?_;show AR _ _ _ _ _ [0, 1] _;refine za rfl <| za rfl <| ag <| aI ?_;obtain ⟨rfl, rfl⟩ := fo H;exact And.intro rfl (Exists.intro _ (Exists.intro _ ⟨bp rfl (.refl _) (.refl _), aH [] rfl, rfl, rfl⟩))
 ·replace H := aW c20 H;refine aB <| ac ?_;obtain ⟨x21, x22, e23, H⟩ := cU H;refine aa ?_;show AR _ _ _ _ _ [0, 1, 2, 3, 4, 5, 6, 7] _;refine zm rfl <| zm rfl <| am rfl rfl (aG rfl qV rfl (km F a1 a2 0 x21 x22 e23) ?_);refine zS rfl (af (av := .tup _) rfl) <| zS rfl (aJ (av := .v _) rfl rfl) <| zS rfl (aJ (av := eAny _ _) rfl rfl) <| za rfl <| zS rfl (aK (av := eAny _ _) rfl) <| ag <| ac <| ac <| aa ?_;show AR _ _ _ _ _ [0, 1] _;refine zS rfl (af (av := eAny _ _) rfl) <| zS rfl (qO dr rfl rfl) <| ag <| ax rfl (fun c24 => ?_) (fun c24 => ?_)
  ·replace H := aV c24 H;refine ac <| aa ?_;show AR _ _ _ _ _ [0, 1] _;refine za rfl <| za rfl <| ag <| aI ?_;obtain ⟨rfl, rfl⟩ := fo H;exact And.intro rfl (Exists.intro _ (Exists.intro _ ⟨bp rfl (.refl _) (.refl _), aH [] rfl, rfl, rfl⟩))
  ·replace H := aW c24 H;refine aB <| ac ?_;obtain ⟨x25, x26, e27, H⟩ := cU H;refine aa ?_;show AR _ _ _ _ _ [0, 1, 2, 3, 4, 5] _;refine zm rfl <| am rfl rfl (aG rfl qU rfl (qB F x21 x25 x26 e27) ?_);refine zS rfl (aJ (av := .v _) rfl rfl) <| zS rfl (aJ (av := .v _) rfl rfl) <| za rfl <| za rfl <| ag <| aI ?_;obtain ⟨rfl, rfl⟩ := fo H;exact And.intro rfl (Exists.intro _ (Exists.intro _ ⟨bp rfl (.refl _) (.refl _), aH [] rfl, rfl, rfl⟩))
set_option maxRecDepth 100000 in
set_option maxHeartbeats 1000000 in
theorem qz (F : Nat) (a1 : List UInt8) (r2 : List UInt8) (r3 : Bool) (H : fe F a1 = some (r2, r3)) : ACalls Tryz.prog 135 [S a1] [] (Ret (.tup [S r2, B r3]) []) := by
 unfold fe at H
 refine au Tryz.func135 rfl rfl ?_;show AW _ _ 39 _ _ _;refine ac <| aa ?_;show AR _ _ _ _ _ [0, 1] _;refine za rfl <| za rfl <| ag <| ac <| ac ?_;obtain ⟨x4, e5, H⟩ := eu H;refine aa ?_;show AR _ _ _ _ _ [0, 1, 2, 3, 4, 5, 6, 7] _;refine am rfl rfl (aG rfl qX rfl (pC F x4 e5) ?_);refine zm rfl <| zS rfl (rR di ah (fun _ => by kernel_rfl) rfl rfl) <| zS rfl (af (av := .tup _) rfl) <| zS rfl (aJ (av := .v _) rfl rfl) <| zS rfl (aJ (av := .v _) rfl rfl) <| za rfl <| za rfl <| ag <| ac <| aa ?_;show AR _ _ _ _ _ [0] _;refine zm rfl <| ag <| ax rfl (fun c6 => ?_) (fun c6 => ?_)
 ·replace H := aV c6 H;refine ac ?_;obtain ⟨x7, e8, H⟩ := bI H;refine aa ?_;show AR _ _ _ _ _ [0, 1, 2, 3] _;refine zm rfl <| zS rfl (kx Tryz.underlying21 ah rfl e8) <| za rfl <| za rfl <| ag <| aI ?_;obtain ⟨rfl, rfl⟩ := fo H;exact And.intro rfl (Exists.intro _ (Exists.intro _ ⟨bp rfl (.refl _) (.refl _), aH [] rfl, rfl, rfl⟩))
 ·replace H := aW c6 H;refine aB <| ac <| ac ?_;obtain ⟨x9, e10, H⟩ := bI H;refine aa ?_;show AR _ _ _ _ _ [0, 1, 2, 3, 4, 5, 6] _;refine zm rfl <| am rfl rfl (aG rfl nW rfl (show ACalls _ _ _ [] (Ret (.tup [S x9.1, B x9.2]) []) from by subst e10; exact ij a1 ([35, 120] : List UInt8)) ?_);refine zS rfl (af (av := .tup _) rfl) <| zS rfl (aJ (av := .v _) rfl rfl) <| zS rfl (aJ (av := .v _) rfl rfl) <| za rfl <| za rfl <| ag <| ac <| aa ?_;show AR _ _ _ _ _ [0] _;refine zm rfl <| ag <| ax rfl (fun c11 => ?_) (fun c11 => ?_)
  ·replace H := aV c11 H;refine ac ?_;obtain ⟨x12, x13, e14, H⟩ := cU H;refine aa ?_;show AR _ _ _ _ _ [0, 1, 2, 3, 4, 5] _;refine zm rfl <| am rfl rfl (aG rfl mL rfl (kH F x9.1 16 x12 x13 e14) ?_);refine zS rfl (aJ (av := .v _) rfl rfl) <| zS rfl (aJ (av := .v _) rfl rfl) <| za rfl <| za rfl <| ag <| aI ?_;obtain ⟨rfl, rfl⟩ := fo H;exact And.intro rfl (Exists.intro _ (Exists.intro _ ⟨bp rfl (.refl _) (.refl _), aH [] rfl, rfl, rfl⟩))
  ·replace H := aW c11 H;refine aB <| ac <| ac ?_;obtain ⟨x15, e16, H⟩ := bI H;refine aa ?_;show AR _ _ _ _ _ [0, 1, 2, 3, 4, 5, 6] _;refine zm rfl <| am rfl rfl (aG rfl nW rfl (show ACalls _ _ _ [] (Ret (.tup [S x15.1, B x15.2]) []) from by subst e16; exact ij a1 ([35] : List UInt8)) ?_);refine zS rfl (af (av := .tup _) rfl) <| zS rfl (aJ (av := .v _) rfl rfl) <| zS rfl (aJ (av := .v _) rfl rfl) <| za rfl <| za rfl <| ag <| ac <| aa ?_;show AR _ _ _ _ _ [0] _;refine zm rfl <| ag <| ax rfl (fun c17 => ?_) (fun c17 => ?_)
   ·replace H := aV c17 H;refine ac ?_;obtain ⟨x18, x19, e20, H⟩ := cU H;refine aa ?_;show AR _ _ _ _ _ [0, 1, 2, 3, 4, 5] _;refine zm rfl <| am rfl rfl (aG rfl mL rfl (kH F x15.1 10 x18 x19 e20) ?_);refine zS rfl (aJ (av := .v _) rfl rfl) <| zS rfl (aJ (av := .v _) rfl rfl) <| za rfl <| za rfl <| ag <| aI ?_;obtain ⟨rfl, rfl⟩ := fo H;exact And.intro rfl (Exists.intro _ (Exists.intro _ ⟨bp rfl (.refl _) (.refl _), aH [] rfl, rfl, rfl⟩))
   ·replace H := aW c17 H;refine aB <| ac <| aa ?_;show AR _ _ _ _ _ [0, 1] _;refine za rfl <| za rfl <| ag <| aI ?_;obtain ⟨rfl, rfl⟩ := fo H;exact And.intro rfl (Exists.intro _ (Exists.intro _ ⟨bp rfl (.refl _) (.refl _), aH [] rfl, rfl, rfl⟩))
set_option maxRecDepth 100000 in
set_option maxHeartbeats 1000000 in
theorem pD (F : Nat) (a1 : List UInt8) (r2 : List UInt8) (r3 : Int) (H : fV F a1 = some (r2, r3)) : ACalls Tryz.prog 122 [S a1] [] (Ret (.tup [S r2, i64 r3]) []) := by
 unfold fV at H
 refine au Tryz.func122 rfl rfl ?_;show AW _ _ 33 _ _ _;refine ac <| aa ?_;show AR _ _ _ _ _ [0, 1] _;refine za rfl <| za rfl <| ag <| ac ?_;obtain ⟨g4, H⟩ := aQ H;obtain ⟨x5, e6, H⟩ := bI H;obtain ⟨g7, H⟩ := aQ H;obtain ⟨g8, H⟩ := aQ H;obtain ⟨g9, H⟩ := aQ H;obtain ⟨x10, e11, H⟩ := eu H;refine aa ?_;show AR _ _ _ _ _ [0, 1, 2, 3] _;refine zm rfl <| zS rfl (dA ah rfl rfl g4 e6) <| am rfl rfl (aG rfl qZ rfl (kL F x5 ([38, 59] : List UInt8) x10 g7 g8 g9 e11) ?_);refine za rfl <| ag <| ac <| ac ?_;obtain ⟨x12, e13, H⟩ := eu H;obtain ⟨g15, H⟩ := cu H;obtain ⟨g16, H⟩ := cu H;obtain ⟨x17, e18, H⟩ := bI H;refine aa ?_;show AR _ _ _ _ _ [0, 1, 2, 3, 4, 5, 6, 7, 8, 9] _;refine zm rfl <| am rfl rfl (aG rfl jf rfl (kR F x10 1 10 x12 e13) ?_);refine zS rfl (ce rfl) <| zm rfl <| bb (l := []) 19 (B ((!x12) || (decide (x17 = 38)))) (fun K => ?_) ?_
 ·rcases ak (!x12) with h14 | h14
  ·refine zF h14 rfl <| zF h14 rfl <| zF h14 rfl <| zF h14 rfl <| zF h14 rfl <| zS rfl (aE (av := .v _) rfl h14 rfl) ?_;exact K _ 5 _ (ay (jX h14)) rfl rfl
  ·refine zM h14 rfl <| zM h14 rfl <| zU h14 rfl (eH rfl rfl (g15 (nf h14))) <| zU h14 rfl (bj ah rfl rfl (g16 (nf h14)) e18) <| zU h14 rfl (gW (a := x17) (b := 38) rfl rfl) <| zS rfl (aF (av := .v _) rfl h14 rfl) ?_;exact K _ 5 _ (ay (jY h14)) rfl rfl
 refine ag <| ax rfl (fun c19 => ?_) (fun c19 => ?_)
 ·replace H := aV c19 H;refine ac <| aa ?_;show AR _ _ _ _ _ [0, 1] _;refine za rfl <| za rfl <| ag <| aI ?_;obtain ⟨rfl, rfl⟩ := fo H;exact And.intro rfl (Exists.intro _ (Exists.intro _ ⟨bp rfl (.refl _) (.refl _), aH [] rfl, rfl, rfl⟩))
 ·replace H := aW c19 H;refine aB <| ac ?_;obtain ⟨g20, H⟩ := aQ H;obtain ⟨g21, H⟩ := aQ H;obtain ⟨x22, e23, H⟩ := bI H;obtain ⟨x24, x25, e26, H⟩ := cU H;refine aa ?_;show AR _ _ _ _ _ [0, 1, 2, 3, 4, 5, 6, 7, 8, 9] _;refine zm rfl <| zm rfl <| zS rfl (eH rfl rfl g20) <| zS rfl (lO ah rfl rfl rfl g21 e23) <| am rfl rfl (aG rfl qY rfl (qz F x22 x24 x25 e26) ?_);refine zS rfl (af (av := .tup _) rfl) <| zS rfl (aJ (av := .v _) rfl rfl) <| zS rfl (aJ (av := .v _) rfl rfl) <| za rfl <| za rfl <| ag <| ac <| ac <| aa ?_;show AR _ _ _ _ _ [0, 1] _;refine zm rfl <| zS rfl (ce rfl) <| ag <| ax rfl (fun c27 => ?_) (fun c27 => ?_)
  ·replace H := aV c27 H;refine ac <| aa ?_;show AR _ _ _ _ _ [0, 1] _;refine za rfl <| za rfl <| ag <| aI ?_;obtain ⟨rfl, rfl⟩ := fo H;exact And.intro rfl (Exists.intro _ (Exists.intro _ ⟨bp rfl (.refl _) (.refl _), aH [] rfl, rfl, rfl⟩))
  ·replace H := aW c27 H;refine aB <| ac ?_;obtain ⟨g28, H⟩ := aQ H;refine aa ?_;show AR _ _ _ _ _ [0, 1, 2, 3, 4] _;refine zm rfl <| zm rfl <| zS rfl (eH rfl rfl g28) <| za rfl <| za rfl <| ag <| aI ?_;obtain ⟨rfl, rfl⟩ := fo H;exact And.intro rfl (Exists.intro _ (Exists.intro _ ⟨bp rfl (.refl _) (.refl _), aH [] rfl, rfl, rfl⟩))
set_option maxRecDepth 100000 in
set_option maxHeartbeats 1000000 in
theorem qA (F : Nat) (a1 : List UInt8) (r2 : List UInt8) (r3 : Bool) (H : la F a1 = some (r2, r3)) : ACalls Tryz.prog 108 [S a1] [] (Ret (.tup [S r2, B r3]) []) := by
 unfold la at H
 refine au Tryz.func108 rfl rfl ?_;show AW _ _ 36 _ _ _;refine ac <| aa ?_;show AR _ _ _ _ _ [0, 1] _;refine za rfl <| za rfl <| ag <| ac <| aa ?_;show AR _ _ _ _ _ [0] _;refine zX rfl (mG (zs := [(.pointer none), .slice none 0 0]) (by kernel_rfl)) ?_;rintro _ _ ⟨o4, rfl, rfl⟩;refine ag ?_
 refine ja 0 1 1 5 rfl rfl fun t5 => ?_
 show AW _ _ _ _ _ ⟨_, _, [.tok t5 5, .obj o4 [.v (.pointer none), slE Enc.byte [] (some t5)], .ty o4 60]⟩;refine ac <| aa ?_;show AR _ _ _ _ _ [0] _;refine za rfl <| ag <| aN <| cR (X := Nat × (List UInt8) × Bool × AV × (List UInt8) × Nat) (fun (n12, y6, y7, t8, y9, t10) => ⟨[(0, S y6), (4, .pt o4 0), (5, B y7)], [], [.obj o4 [t8, slE Enc.byte y9 (some t10)], .ty o4 60, .tok t10 5]⟩) (fun (n12, y6, y7, t8, y9, t10) => ey F n12 (y6, y7, y9) = some (r2, r3) ∧ (t8 = .v (.pointer none) ∨ t8 = .pt o4 0)) (fun (n12, y6, y7, t8, y9, t10) => n12) (F, a1, true, (.v (.pointer none)), [], t5) ⟨H, .inl rfl⟩ (ba [1, 1, 0] (.cons (.refl _) (.cons (.refl _) (.cons (.refl _) (.nil _)))) rfl) ?_;rintro ⟨n12, y6, y7, t8, y9, t10⟩ ⟨H, ht8⟩;obtain ⟨n12, rfl, H⟩ := ep H;replace H : gi F (ey F n12) y6 y7 y9 = some (r2, r3) := H
 unfold gi at H
 refine aN <| ac ?_;obtain ⟨x13, e14, H⟩ := bI H;refine aa ?_;show AR _ _ _ _ _ [0, 1, 2] _;refine zm rfl <| am rfl rfl (aG rfl sf rfl (show ACalls _ _ _ [] (Ret (i64 x13) []) from by subst e14; exact dz y6 38) ?_);refine za rfl <| ag <| ac <| ac <| aa ?_;show AR _ _ _ _ _ [0, 1] _;refine zm rfl <| zS rfl (bW rfl rfl) <| ag <| ax rfl (fun c15 => ?_) (fun c15 => ?_)
 ·replace H := aV c15 H;refine ac ?_;obtain ⟨g16, H⟩ := aQ H;obtain ⟨x17, e18, H⟩ := bI H;refine aa ?_;show AR _ _ _ _ _ [0, 1] _;refine zm rfl <| am rfl rfl (bg [0, 0, 0] rfl lw rfl (cl  o4 (t8) ht8 y9 y6 t10 (okW_s g16)) rfl (fun c A' h => by cases h.1) ?_)
  rintro av A' ⟨h, t19, rfl⟩; cases h
  rw [e18]
  refine ag <| ac ?_;obtain ⟨g20, H⟩ := aQ H;refine aa ?_;show AR _ _ _ _ _ [0, 1, 2, 3] _;refine am rfl rfl (bg [0, 1] rfl sm rfl (jk  o4 (.pt o4 0) x17 t19 (okW0_s g20)) rfl (fun c A' h => by cases h.1) ?_)
  rintro av A' ⟨h, rfl⟩; cases h
  refine zm rfl <| za rfl <| za rfl <| ag <| aI ?_;obtain ⟨rfl, rfl⟩ := fo H;exact And.intro rfl (Exists.intro _ (Exists.intro _ ⟨bp rfl (.refl _) (.refl _), aH [] rfl, rfl, rfl⟩))
 ·replace H := aW c15 H;refine aB <| ac ?_;obtain ⟨g21, H⟩ := aQ H;obtain ⟨x22, e23, H⟩ := bI H;obtain ⟨g24, H⟩ := aQ H;obtain ⟨x25, e26, H⟩ := bI H;refine aa ?_;show AR _ _ _ _ _ [0, 1, 2, 3] _;refine zm rfl <| zm rfl <| zS rfl (kW ah rfl rfl g21 e23) <| am rfl rfl (bg [0, 0, 0] rfl lw rfl (cl  o4 (t8) ht8 y9 x22 t10 (okW_s g24)) rfl (fun c A' h => by cases h.1) ?_)
  rintro av A' ⟨h, t27, rfl⟩; cases h
  rw [e26]
  refine ag <| ac ?_;obtain ⟨g28, H⟩ := aQ H;obtain ⟨x29, e30, H⟩ := bI H;refine aa ?_;show AR _ _ _ _ _ [0, 1, 2, 3] _;refine zm rfl <| zm rfl <| zS rfl (dA ah rfl rfl g28 e30) <| za rfl <| ag <| ac ?_;obtain ⟨x31, x32, e33, H⟩ := cU H;refine aa ?_;show AR _ _ _ _ _ [0, 1, 2, 3, 4, 5, 6] _;refine zm rfl <| am rfl rfl (aG rfl ra rfl (pD F x29 x31 x32 e33) ?_);refine zS rfl (af (av := .tup _) rfl) <| zS rfl (aJ (av := .v _) rfl rfl) <| zS rfl (aJ (av := .v _) rfl rfl) <| za rfl <| za rfl <| ag <| bQ (X := Bool × (List UInt8) × Int) (fun (y35, y36, y37) => ⟨[(0, S x29), (4, .pt o4 0), (5, B y35), (7, S y36), (8, i64 y37)], [], [.obj o4 [.pt o4 0, slE Enc.byte x25 (some t27)], .ty o4 60, .tok t27 5]⟩) (fun (y35, y36, y37) => fv (ey F n12) x25 x29 y35 y36 y37 = some (r2, r3)) ?_ ?_
  ·refine ac <| aa ?_;show AR _ _ _ _ _ [0, 1] _;refine zm rfl <| zS rfl (bM rfl rfl) <| ag <| ax rfl (fun c34 => ?_) (fun c34 => ?_)
   ·replace H := aV c34 H;refine aa ?_;show AR _ _ _ _ _ [0, 1, 2] _;refine za rfl <| za rfl <| za rfl <| ag ?_;exact Exists.intro (false, ([38] : List UInt8), 1) ⟨H, ba [0, 0, 0] (.cons (.refl _) (.cons (.refl _) (.cons (.refl _) (.cons (.refl _) (.cons (.refl _) (.nil _)))))) rfl⟩
   ·replace H := aW c34 H;refine aB ?_;exact Exists.intro (y7, x31, x32) ⟨H, ba [0, 0, 0] (.cons (.refl _) (.cons (.refl _) (.cons (.refl _) (.cons (.refl _) (.cons (.refl _) (.nil _)))))) rfl⟩
  rintro ⟨y35, y36, y37⟩ H;replace H : fv (ey F n12) x25 x29 y35 y36 y37 = some (r2, r3) := H
  unfold fv at H
  refine ac ?_;obtain ⟨g39, H⟩ := aQ H;obtain ⟨x40, e41, H⟩ := bI H;refine aa ?_;show AR _ _ _ _ _ [0, 1] _;refine zm rfl <| am rfl rfl (bg [0, 0, 0] rfl lw rfl (cl  o4 (.pt o4 0) (.inr rfl) x25 y36 t27 (okW_s g39)) rfl (fun c A' h => by cases h.1) ?_)
  rintro av A' ⟨h, t42, rfl⟩; cases h
  rw [e41]
  refine ag ?_;obtain ⟨g43, H⟩ := aQ H;obtain ⟨x44, e45, H⟩ := bI H;refine aa ?_;show AR _ _ _ _ _ [0, 1, 2, 3] _;refine zm rfl <| zm rfl <| zS rfl (dA ah rfl rfl g43 e45) <| za rfl <| ag ?_;exact Exists.intro (n12, x44, y35, (.pt o4 0), x40, t42) ⟨⟨H, .inr rfl⟩, Nat.lt_succ_self _, ba [0, 0, 0] (.cons (.refl _) (.cons (.refl _) (.cons (.refl _) (.nil _)))) rfl⟩
set_option maxRecDepth 100000 in
set_option maxHeartbeats 1000000 in
theorem oJ (F : Nat) (a1 : List UInt8) (r2 : List UInt8) (r3 : Int) (H : gS F a1 = some (r2, r3)) : ACalls Tryz.prog 90 [S a1] [] (Ret (.tup [S r2, i64 r3]) []) := by
 unfold gS at H
 refine au Tryz.func90 rfl rfl ?_;show AW _ _ 14 _ _ _;refine ac <| aa ?_;show AR _ _ _ _ _ [0, 1] _;refine za rfl <| za rfl <| ag <| ac ?_;obtain ⟨x4, x5, e6, H⟩ := cU H;refine aa ?_;show AR _ _ _ _ _ [0, 1, 2, 3, 4, 5, 6] _;refine zm rfl <| am rfl rfl (aG rfl rb rfl (qA F a1 x4 x5 e6) ?_);refine zS rfl (af (av := .tup _) rfl) <| zS rfl (aJ (av := .v _) rfl rfl) <| zS rfl (aJ (av := .v _) rfl rfl) <| za rfl <| za rfl <| ag <| ac <| ac <| aa ?_;show AR _ _ _ _ _ [0, 1] _;refine zm rfl <| zS rfl (ce rfl) <| ag <| ax rfl (fun c7 => ?_) (fun c7 => ?_)
 ·replace H := aV c7 H;refine ac <| aa ?_;show AR _ _ _ _ _ [0, 1] _;refine za rfl <| za rfl <| ag <| aI ?_;obtain ⟨rfl, rfl⟩ := fo H;exact And.intro rfl (Exists.intro _ (Exists.intro _ ⟨bp rfl (.refl _) (.refl _), aH [] rfl, rfl, rfl⟩))
 ·replace H := aW c7 H;refine aB <| ac <| aa ?_;show AR _ _ _ _ _ [0, 1, 2] _;refine zm rfl <| za rfl <| za rfl <| ag <| aI ?_;obtain ⟨rfl, rfl⟩ := fo H;exact And.intro rfl (Exists.intro _ (Exists.intro _ ⟨bp rfl (.refl _) (.refl _), aH [] rfl, rfl, rfl⟩))
end Go.Proofs.YteokdkimegepoaaGreatDoor
namespace Go.Pv
def xmla_k1 : List UInt8 := [65, 66, 67, 68, 69, 70, 71, 72, 73, 74, 75, 76, 77, 78, 79, 80, 81, 82, 83, 84, 85, 86, 87, 88, 89, 90, 97, 98, 99, 100, 101, 102, 103, 104, 105, 106, 107, 108, 109, 110, 111, 112, 113, 114, 115, 116, 117, 118, 119, 120, 121, 122, 95, 48, 49, 50, 51, 52, 53, 54, 55, 56, 57, 45, 46, 58]
def xmla_k2 : List UInt8 := [65, 66, 67, 68, 69, 70, 71, 72, 73, 74, 75, 76, 77, 78, 79, 80, 81, 82, 83, 84, 85, 86, 87, 88, 89, 90, 97, 98, 99, 100, 101, 102, 103, 104, 105, 106, 107, 108, 109, 110, 111, 112, 113, 114, 115, 116, 117, 118, 119, 120, 121, 122, 95]
def hH : Option Bool :=
some true
def gf (a1 : List UInt8) (rec4 : Int → Option Bool) (y3 : Int) : Option Bool :=
bif decide (y3 < (a1.length : Int)) then
  grd (cG y3 a1.length) <|
  lt (at_ a1 y3) fun x8 =>
  lt (Go.Lib.indexByte xmla_k1 x8) fun x10 =>
  bif decide (x10 < 0) then
    some false
  else
    grd (okI (y3 + 1)) <|
    rec4 (y3 + 1)
else
  hH
def ge (a1 : List UInt8) (n : Nat) : Int → Option Bool :=
  loop (fun rec x => gf a1 rec x) n
def kP (F : Nat) (a1 : List UInt8) : Option Bool :=
ge a1 F 0
def jP (F : Nat) (a1 : List UInt8) : Option Bool :=
ek ((!decide (a1 = ([] : List UInt8))) && (decide ((a1.length : Int) ≤ 60))) (iA 1 a1.length) <|
lt (to_ a1 1) fun x6 =>
ek ((!decide (a1 = ([] : List UInt8))) && (decide ((a1.length : Int) ≤ 60))) (okS xmla_k2.length) <|
lt (Go.Lib.contains xmla_k2 x6) fun x9 =>
ek (((!decide (a1 = ([] : List UInt8))) && (decide ((a1.length : Int) ≤ 60))) && x9) (okS a1.length) <|
ek (((!decide (a1 = ([] : List UInt8))) && (decide ((a1.length : Int) ≤ 60))) && x9) (okS xmla_k1.length) <|
ek (((!decide (a1 = ([] : List UInt8))) && (decide ((a1.length : Int) ≤ 60))) && x9) (fB xmla_k1) <|
lt (Go.Lib.trimS a1 xmla_k1) fun x15 =>
iQ ((((!decide (a1 = ([] : List UInt8))) && (decide ((a1.length : Int) ≤ 60))) && x9) && (decide (x15 = ([] : List UInt8)))) (kP F a1) fun x18 =>
some (((((!decide (a1 = ([] : List UInt8))) && (decide ((a1.length : Int) ≤ 60))) && x9) && (decide (x15 = ([] : List UInt8)))) && x18)
def cc (F : Nat) (a1 : Bool) : Option (Res Unit) :=
bif !a1 then
  some (Res.pan 2)
else
  some (Res.ok ())
def dB (F : Nat) (a2 : List UInt8) (a3 : List (List UInt8)) (a5 : Int) (a6 : List (Int × (List UInt8) × (List UInt8) × List ((List UInt8) × List UInt8))) (a8 : List UInt8) : Option (Bool × (List UInt8)) :=
lt (Go.Lib.trimPrefix a2 a8, Go.Lib.hasPrefix a2 a8) fun x11 =>
some (x11.2, x11.1)
def fp (F : Nat) (a2 : List UInt8) (a3 : List (List UInt8)) (a5 : Int) (a6 : List (Int × (List UInt8) × (List UInt8) × List ((List UInt8) × List UInt8))) (a8 : List UInt8) : Option (Res ((List UInt8) × (List UInt8))) :=
grd (okS a2.length) <|
lt (Go.Lib.cut a2 a8) fun x12 =>
ee (cc F x12.2.2) fun x14 =>
some (Res.ok (x12.1, x12.2.1))
def gI (F : Nat) (a2 : List UInt8) (a3 : List (List UInt8)) (a5 : Int) (a6 : List (Int × (List UInt8) × (List UInt8) × List ((List UInt8) × List UInt8))) : Option (Bool × (List UInt8)) :=
grd (okS ([9, 10, 13, 32] : List UInt8).length) <|
grd (fB ([9, 10, 13, 32] : List UInt8)) <|
lt (Go.Lib.trimLeftS a2 ([9, 10, 13, 32] : List UInt8)) fun x12 =>
some (decide ((x12.length : Int) < (a2.length : Int)), x12)
def fP (F : Nat) (a2 : List UInt8) (y21 : Int) : Option (Res ((List UInt8) × (List UInt8))) :=
grd (iA y21 a2.length) <|
lt (to_ a2 y21) fun x24 =>
bnd (jP F x24) fun x26 =>
ee (cc F x26) fun x28 =>
grd (iA y21 a2.length) <|
lt (eo a2 y21) fun x32 =>
some (Res.ok (x24, x32))
def gO (F : Nat) (a2 : List UInt8) (rec11 : Int → Option (Res ((List UInt8) × (List UInt8)))) (y10 : Int) : Option (Res ((List UInt8) × (List UInt8))) :=
ek (decide (y10 < (a2.length : Int))) (cG y10 a2.length) <|
lt (at_ a2 y10) fun x15 =>
lt (Go.Lib.indexByte xmla_k1 x15) fun x17 =>
bif (decide (y10 < (a2.length : Int))) && (decide (0 ≤ x17)) then
  grd (okI (y10 + 1)) <|
  rec11 (y10 + 1)
else
  fP F a2 y10
def gN (F : Nat) (a2 : List UInt8) (n : Nat) : Int → Option (Res ((List UInt8) × (List UInt8))) :=
  loop (fun rec x => gO F a2 rec x) n
def ip (F : Nat) (a2 : List UInt8) (a3 : List (List UInt8)) (a5 : Int) (a6 : List (Int × (List UInt8) × (List UInt8) × List ((List UInt8) × List UInt8))) : Option (Res ((List UInt8) × (List UInt8))) :=
gN F a2 F 0
def fx (F : Nat) (a1 : List UInt8) : Option (Res ((List UInt8))) :=
gB (gS F a1) fun x3 x4 =>
ee (cc F (decide (x4 = 0))) fun x6 =>
some (Res.ok x3)
def jO (F : Nat) (a2 : List UInt8) (a3 : List (List UInt8)) (a5 : Int) (a6 : List (Int × (List UInt8) × (List UInt8) × List ((List UInt8) × List UInt8))) (a8 : List UInt8) : Option ((List (Int × (List UInt8) × (List UInt8) × List ((List UInt8) × List UInt8)))) :=
bif !decide (a8 = ([] : List UInt8)) then
  grd (fL (a6.length + ([(2, ([] : List UInt8), a8, ([] : List ((List UInt8) × List UInt8)))] : List (Int × (List UInt8) × (List UInt8) × List ((List UInt8) × List UInt8))).length)) <|
  lt (a6 ++ ([(2, ([] : List UInt8), a8, ([] : List ((List UInt8) × List UInt8)))] : List (Int × (List UInt8) × (List UInt8) × List ((List UInt8) × List UInt8)))) fun x14 =>
  some x14
else
  some a6
def io (F : Nat) (a2 : List UInt8) (a3 : List (List UInt8)) (a5 : Int) (a6 : List (Int × (List UInt8) × (List UInt8) × List ((List UInt8) × List UInt8))) (a8 : List UInt8) : Option (Res ((List (Int × (List UInt8) × (List UInt8) × List ((List UInt8) × List UInt8))) × (List (List UInt8)))) :=
grd (okI ((a3.length : Int) - 1)) <|
ek (decide (0 ≤ (a3.length : Int) - 1)) (cG ((a3.length : Int) - 1) a3.length) <|
ek (decide (0 ≤ (a3.length : Int) - 1)) (cG ((a3.length : Int) - 1) a3.length) <|
lt (at_ a3 ((a3.length : Int) - 1)) fun x17 =>
ee (cc F ((decide (0 ≤ (a3.length : Int) - 1)) && (decide (x17 = a8)))) fun x19 =>
grd (iA ((a3.length : Int) - 1) a3.length) <|
lt (to_ a3 ((a3.length : Int) - 1)) fun x23 =>
grd (fL (a6.length + ([(1, a8, ([] : List UInt8), ([] : List ((List UInt8) × List UInt8)))] : List (Int × (List UInt8) × (List UInt8) × List ((List UInt8) × List UInt8))).length)) <|
lt (a6 ++ ([(1, a8, ([] : List UInt8), ([] : List ((List UInt8) × List UInt8)))] : List (Int × (List UInt8) × (List UInt8) × List ((List UInt8) × List UInt8)))) fun x27 =>
some (Res.ok (x27, x23))
def dP (F : Nat) (a2 : List UInt8) (a3 : List (List UInt8)) (a5 : Int) (a6 : List (Int × (List UInt8) × (List UInt8) × List ((List UInt8) × List UInt8))) (y15 : Int) : Option (Res (Bool × (List UInt8) × (List (Int × (List UInt8) × (List UInt8) × List ((List UInt8) × List UInt8))))) :=
bif decide (y15 = 0) then
  some (Res.ok (false, a2, a6))
else
  grd (iA y15 a2.length) <|
  lt (to_ a2 y15) fun x19 =>
  grd (iA y15 a2.length) <|
  lt (eo a2 y15) fun x22 =>
  ee (fx F x19) fun x24 =>
  bif decide ((a3.length : Int) = 0) then
    bnd (jF F x19) fun x28 =>
    ee (cc F (decide (x28 = ([] : List UInt8)))) fun x30 =>
    some (Res.ok (true, x22, a6))
  else
    bnd (jO F x22 a3 a5 a6 x24) fun x33 =>
    some (Res.ok (true, x22, x33))
def fJ (F : Nat) (a2 : List UInt8) (a3 : List (List UInt8)) (a5 : Int) (a6 : List (Int × (List UInt8) × (List UInt8) × List ((List UInt8) × List UInt8))) : Option (Res (Bool × (List UInt8) × (List (Int × (List UInt8) × (List UInt8) × List ((List UInt8) × List UInt8))))) :=
lt (Go.Lib.indexByte a2 60) fun x12 =>
bif decide (x12 < 0) then
  dP F a2 a3 a5 a6 (a2.length : Int)
else
  dP F a2 a3 a5 a6 x12
def fQ (F : Nat) (a2 : List UInt8) (a3 : List (List UInt8)) (a5 : Int) (a6 : List (Int × (List UInt8) × (List UInt8) × List ((List UInt8) × List UInt8))) : Option (Res (Bool × (List UInt8))) :=
gB (dB F a2 a3 a5 a6 ([60, 33, 45, 45] : List UInt8)) fun x10 x11 =>
bif !x10 then
  some (Res.ok (false, x11))
else
  ee (fp F x11 a3 a5 a6 ([45, 45, 62] : List UInt8)) fun x14 =>
  some (Res.ok (true, x14.2))
def lV (F : Nat) (a2 : List UInt8) (a3 : List (List UInt8)) (a5 : Int) (a6 : List (Int × (List UInt8) × (List UInt8) × List ((List UInt8) × List UInt8))) : Option (Res (Bool × (List UInt8))) :=
gB (dB F a2 a3 a5 a6 ([60, 63] : List UInt8)) fun x10 x11 =>
bif !x10 then
  some (Res.ok (false, x11))
else
  ee (fp F x11 a3 a5 a6 ([63, 62] : List UInt8)) fun x14 =>
  some (Res.ok (true, x14.2))
def iq (F : Nat) (a2 : List UInt8) (a3 : List (List UInt8)) (a5 : Int) (a6 : List (Int × (List UInt8) × (List UInt8) × List ((List UInt8) × List UInt8))) : Option (Res (Bool × (List UInt8) × (List (Int × (List UInt8) × (List UInt8) × List ((List UInt8) × List UInt8))))) :=
gB (dB F a2 a3 a5 a6 ([60, 33, 91, 67, 68, 65, 84, 65, 91] : List UInt8)) fun x12 x13 =>
bif !x12 then
  some (Res.ok (false, x13, a6))
else
  ee (fp F x13 a3 a5 a6 ([93, 93, 62] : List UInt8)) fun x16 =>
  ee (cc F (decide (0 < (a3.length : Int)))) fun x19 =>
  bnd (jO F x16.2 a3 a5 a6 x16.1) fun x22 =>
  some (Res.ok (true, x16.2, x22))
def lU (F : Nat) (a2 : List UInt8) (a3 : List (List UInt8)) (a5 : Int) (a6 : List (Int × (List UInt8) × (List UInt8) × List ((List UInt8) × List UInt8))) : Option (Res (Bool × (List UInt8))) :=
gB (dB F a2 a3 a5 a6 ([60, 33] : List UInt8)) fun x10 x11 =>
bif !x10 then
  some (Res.ok (false, x11))
else
  ee (fp F x11 a3 a5 a6 ([62] : List UInt8)) fun x14 =>
  some (Res.ok (true, x14.2))
def fw (F : Nat) (a2 : List UInt8) (a3 : List (List UInt8)) (a5 : Int) (a6 : List (Int × (List UInt8) × (List UInt8) × List ((List UInt8) × List UInt8))) : Option (Res (Bool × (List UInt8) × (List (Int × (List UInt8) × (List UInt8) × List ((List UInt8) × List UInt8))) × (List (List UInt8)))) :=
gB (dB F a2 a3 a5 a6 ([60, 47] : List UInt8)) fun x14 x15 =>
bif !x14 then
  some (Res.ok (false, x15, a6, a3))
else
  ee (ip F x15 a3 a5 a6) fun x18 =>
  gB (gI F x18.2 a3 a5 a6) fun x21 x22 =>
  gB (dB F x22 a3 a5 a6 ([62] : List UInt8)) fun x24 x25 =>
  ee (cc F x24) fun x27 =>
  ee (io F x25 a3 a5 a6 x18.1) fun x30 =>
  some (Res.ok (true, x25, x30.1, x30.2))
def fg (F : Nat) (a3 : List (List UInt8)) (a5 : Int) (a6 : List (Int × (List UInt8) × (List UInt8) × List ((List UInt8) × List UInt8))) (x12 : (List UInt8) × (List UInt8)) (y26 : List UInt8) (y27 : List UInt8) : Option (Res ((List UInt8) × (List UInt8) × (List UInt8))) :=
ee (fp F y27 a3 a5 a6 y26) fun x29 =>
grd (okS x29.1.length) <|
lt (Go.Lib.contains x29.1 ([60] : List UInt8)) fun x33 =>
ee (cc F (!x33)) fun x35 =>
ee (fx F x29.1) fun x38 =>
some (Res.ok (x12.1, x38, x29.2))
def jm (F : Nat) (a2 : List UInt8) (a3 : List (List UInt8)) (a5 : Int) (a6 : List (Int × (List UInt8) × (List UInt8) × List ((List UInt8) × List UInt8))) : Option (Res ((List UInt8) × (List UInt8) × (List UInt8))) :=
ee (ip F a2 a3 a5 a6) fun x12 =>
gB (dB F x12.2 a3 a5 a6 ([61, 34] : List UInt8)) fun x16 x17 =>
bif !x16 then
  gB (dB F x17 a3 a5 a6 ([61, 39] : List UInt8)) fun x20 x21 =>
  ee (cc F x20) fun x23 =>
  fg F a3 a5 a6 x12 ([39] : List UInt8) x21
else
  fg F a3 a5 a6 x12 ([34] : List UInt8) x17
def kQ (F : Nat) (a1 : List UInt8) (a2 : List UInt8) (a4 : List UInt8) (a5 : List UInt8) : Option Bool :=
some (decide (a4 = a1))
def eW : Option Int :=
some (-1)
def dV (F : Nat) (a1 : List ((List UInt8) × List UInt8)) (a4 : List UInt8) (a5 : List UInt8) (rec8 : Int → Option Int) (y7 : Int) : Option Int :=
bif decide (y7 < (a1.length : Int)) then
  grd (cG y7 a1.length) <|
  lt (at_ a1 y7) fun x12 =>
  bnd (kQ F x12.1 x12.2 a4 a5) fun x14 =>
  bif x14 then
    some y7
  else
    grd (okI (y7 + 1)) <|
    rec8 (y7 + 1)
else
  eW
def dm (F : Nat) (a1 : List ((List UInt8) × List UInt8)) (a4 : List UInt8) (a5 : List UInt8) (n : Nat) : Int → Option Int :=
  loop (fun rec x => dV F a1 a4 a5 rec x) n
def gE (F : Nat) (a1 : List ((List UInt8) × List UInt8)) (a4 : List UInt8) (a5 : List UInt8) : Option Int :=
dm F a1 a4 a5 F 0
def dW (F : Nat) (a1 : List ((List UInt8) × List UInt8)) (a4 : List UInt8) (a5 : List UInt8) : Option Bool :=
bnd (gE F a1 a4 a5) fun x7 =>
some (decide (0 ≤ x7))
def eb (y57 : List UInt8) (y66 : Int) (y97 : List (List UInt8)) (y98 : List (Int × (List UInt8) × (List UInt8) × List ((List UInt8) × List UInt8))) : Option (Res (Bool × (List UInt8) × Int × (List (Int × (List UInt8) × (List UInt8) × List ((List UInt8) × List UInt8))) × (List (List UInt8)))) :=
some (Res.ok (true, y57, y66, y98, y97))
def eR (F : Nat) (x19 : (List UInt8) × (List UInt8)) (y56 : Bool) (y57 : List UInt8) (y66 : Int) (y79 : List (List UInt8)) (y87 : List (Int × (List UInt8) × (List UInt8) × List ((List UInt8) × List UInt8))) : Option (Res (Bool × (List UInt8) × Int × (List (Int × (List UInt8) × (List UInt8) × List ((List UInt8) × List UInt8))) × (List (List UInt8)))) :=
bif y56 then
  ee (io F y57 y79 y66 y87 x19.1) fun x91 =>
  eb y57 y66 x91.2 x91.1
else
  eb y57 y66 y79 y87
def eQ (F : Nat) (a6 : List (Int × (List UInt8) × (List UInt8) × List ((List UInt8) × List UInt8))) (x19 : (List UInt8) × (List UInt8)) (y56 : Bool) (y57 : List UInt8) (y58 : List ((List UInt8) × List UInt8)) (y66 : Int) (y79 : List (List UInt8)) : Option (Res (Bool × (List UInt8) × Int × (List (Int × (List UInt8) × (List UInt8) × List ((List UInt8) × List UInt8))) × (List (List UInt8)))) :=
grd (fL (a6.length + ([(0, x19.1, ([] : List UInt8), y58)] : List (Int × (List UInt8) × (List UInt8) × List ((List UInt8) × List UInt8))).length)) <|
lt (a6 ++ ([(0, x19.1, ([] : List UInt8), y58)] : List (Int × (List UInt8) × (List UInt8) × List ((List UInt8) × List UInt8)))) fun x83 =>
eR F x19 y56 y57 y66 y79 x83
def eP (F : Nat) (a6 : List (Int × (List UInt8) × (List UInt8) × List ((List UInt8) × List UInt8))) (x19 : (List UInt8) × (List UInt8)) (y56 : Bool) (y57 : List UInt8) (y58 : List ((List UInt8) × List UInt8)) (y66 : Int) (y75 : List (List UInt8)) : Option (Res (Bool × (List UInt8) × Int × (List (Int × (List UInt8) × (List UInt8) × List ((List UInt8) × List UInt8))) × (List (List UInt8)))) :=
bif decide (20 < (y75.length : Int)) then
  some (Res.pan 5)
else
  eQ F a6 x19 y56 y57 y58 y66 y75
def dy (F : Nat) (a3 : List (List UInt8)) (a6 : List (Int × (List UInt8) × (List UInt8) × List ((List UInt8) × List UInt8))) (x19 : (List UInt8) × (List UInt8)) (y56 : Bool) (y57 : List UInt8) (y58 : List ((List UInt8) × List UInt8)) (y66 : Int) : Option (Res (Bool × (List UInt8) × Int × (List (Int × (List UInt8) × (List UInt8) × List ((List UInt8) × List UInt8))) × (List (List UInt8)))) :=
grd (fL (a3.length + ([x19.1] : List (List UInt8)).length)) <|
lt (a3 ++ ([x19.1] : List (List UInt8))) fun x69 =>
eP F a6 x19 y56 y57 y58 y66 x69
def dx (F : Nat) (a3 : List (List UInt8)) (a5 : Int) (a6 : List (Int × (List UInt8) × (List UInt8) × List ((List UInt8) × List UInt8))) (x19 : (List UInt8) × (List UInt8)) (y56 : Bool) (y57 : List UInt8) (y58 : List ((List UInt8) × List UInt8)) : Option (Res (Bool × (List UInt8) × Int × (List (Int × (List UInt8) × (List UInt8) × List ((List UInt8) × List UInt8))) × (List (List UInt8)))) :=
bif decide ((a3.length : Int) = 0) then
  grd (okI (a5 + 1)) <|
  ee (cc F (decide (a5 + 1 = 1))) fun x63 =>
  dy F a3 a6 x19 y56 y57 y58 (a5 + 1)
else
  dy F a3 a6 x19 y56 y57 y58 a5
def eT (F : Nat) (a3 : List (List UInt8)) (a5 : Int) (a6 : List (Int × (List UInt8) × (List UInt8) × List ((List UInt8) × List UInt8))) (x19 : (List UInt8) × (List UInt8)) (rec27 : ((List ((List UInt8) × List UInt8)) × (List UInt8)) → Option (Res (Bool × (List UInt8) × Int × (List (Int × (List UInt8) × (List UInt8) × List ((List UInt8) × List UInt8))) × (List (List UInt8))))) (y24 : List ((List UInt8) × List UInt8)) (y26 : List UInt8) : Option (Res (Bool × (List UInt8) × Int × (List (Int × (List UInt8) × (List UInt8) × List ((List UInt8) × List UInt8))) × (List (List UInt8)))) :=
gB (gI F y26 a3 a5 a6) fun x29 x30 =>
gB (dB F x30 a3 a5 a6 ([62] : List UInt8)) fun x32 x33 =>
bif x32 then
  dx F a3 a5 a6 x19 false x33 y24
else
  gB (dB F x33 a3 a5 a6 ([47, 62] : List UInt8)) fun x36 x37 =>
  bif x36 then
    dx F a3 a5 a6 x19 true x37 y24
  else
    ee (cc F x29) fun x40 =>
    ee (jm F x37 a3 a5 a6) fun x43 =>
    bnd (dW F y24 x43.1 x43.2.1) fun x47 =>
    ee (cc F (!x47)) fun x49 =>
    grd (fL (y24.length + ([(x43.1, x43.2.1)] : List ((List UInt8) × List UInt8)).length)) <|
    lt (y24 ++ ([(x43.1, x43.2.1)] : List ((List UInt8) × List UInt8))) fun x54 =>
    rec27 (x54, x43.2.2)
def eS (F : Nat) (a3 : List (List UInt8)) (a5 : Int) (a6 : List (Int × (List UInt8) × (List UInt8) × List ((List UInt8) × List UInt8))) (x19 : (List UInt8) × (List UInt8)) (n : Nat) : ((List ((List UInt8) × List UInt8)) × (List UInt8)) → Option (Res (Bool × (List UInt8) × Int × (List (Int × (List UInt8) × (List UInt8) × List ((List UInt8) × List UInt8))) × (List (List UInt8)))) :=
  loop (fun rec x => eT F a3 a5 a6 x19 rec x.1 x.2) n
def ff (F : Nat) (a2 : List UInt8) (a3 : List (List UInt8)) (a5 : Int) (a6 : List (Int × (List UInt8) × (List UInt8) × List ((List UInt8) × List UInt8))) : Option (Res (Bool × (List UInt8) × Int × (List (Int × (List UInt8) × (List UInt8) × List ((List UInt8) × List UInt8))) × (List (List UInt8)))) :=
gB (dB F a2 a3 a5 a6 ([60] : List UInt8)) fun x15 x16 =>
bif !x15 then
  some (Res.ok (false, x16, a5, a6, a3))
else
  ee (ip F x16 a3 a5 a6) fun x19 =>
  eS F a3 a5 a6 x19 F ([], x19.2)
def jl (F : Nat) (a2 : List UInt8) (a3 : List (List UInt8)) (a5 : Int) (a6 : List (Int × (List UInt8) × (List UInt8) × List ((List UInt8) × List UInt8))) : Option (Res ((List UInt8) × Int × (List (Int × (List UInt8) × (List UInt8) × List ((List UInt8) × List UInt8))) × (List (List UInt8)))) :=
ee (fJ F a2 a3 a5 a6) fun x14 =>
bif x14.1 then
  some (Res.ok (x14.2.1, a5, x14.2.2, a3))
else
  ee (fQ F x14.2.1 a3 a5 x14.2.2) fun x19 =>
  bif x19.1 then
    some (Res.ok (x19.2, a5, x14.2.2, a3))
  else
    ee (lV F x19.2 a3 a5 x14.2.2) fun x23 =>
    bif x23.1 then
      some (Res.ok (x23.2, a5, x14.2.2, a3))
    else
      ee (iq F x23.2 a3 a5 x14.2.2) fun x27 =>
      bif x27.1 then
        some (Res.ok (x27.2.1, a5, x27.2.2, a3))
      else
        ee (lU F x27.2.1 a3 a5 x27.2.2) fun x32 =>
        bif x32.1 then
          some (Res.ok (x32.2, a5, x27.2.2, a3))
        else
          ee (fw F x32.2 a3 a5 x27.2.2) fun x36 =>
          bif x36.1 then
            some (Res.ok (x36.2.1, a5, x36.2.2.1, x36.2.2.2))
          else
            ee (ff F x36.2.1 x36.2.2.2 a5 x36.2.2.1) fun x42 =>
            bif x42.1 then
              some (Res.ok (x42.2.1, x42.2.2.1, x42.2.2.2.1, x42.2.2.2.2))
            else
              some (Res.ok (x42.2.1, x42.2.2.1, x42.2.2.2.1, x42.2.2.2.2))
def fE (F : Nat) (y26 : List UInt8) (y28 : List (List UInt8)) (y29 : Int) (y30 : List (Int × (List UInt8) × (List UInt8) × List ((List UInt8) × List UInt8))) : Option ((List (Int × (List UInt8) × (List UInt8) × List ((List UInt8) × List UInt8))) × Int) :=
bndk (cc F ((decide ((y28.length : Int) = 0)) && (decide (0 < y29)))) (fun p36 =>
  some ([], p36)) fun x34 =>
some (y30, 0)
def fG (F : Nat) (rec17 : ((List UInt8) × (List (List UInt8)) × Int × (List (Int × (List UInt8) × (List UInt8) × List ((List UInt8) × List UInt8)))) → Option ((List (Int × (List UInt8) × (List UInt8) × List ((List UInt8) × List UInt8))) × Int)) (y11 : List UInt8) (y13 : List (List UInt8)) (y14 : Int) (y15 : List (Int × (List UInt8) × (List UInt8) × List ((List UInt8) × List UInt8))) : Option ((List (Int × (List UInt8) × (List UInt8) × List ((List UInt8) × List UInt8))) × Int) :=
bif !decide (y11 = ([] : List UInt8)) then
  bndk (jl F y11 y13 y14 y15) (fun p22 =>
    some ([], p22)) fun x20 =>
  rec17 (x20.1, x20.2.2.2, x20.2.1, x20.2.2.1)
else
  fE F y11 y13 y14 y15
def fF (F : Nat) (n : Nat) : ((List UInt8) × (List (List UInt8)) × Int × (List (Int × (List UInt8) × (List UInt8) × List ((List UInt8) × List UInt8)))) → Option ((List (Int × (List UInt8) × (List UInt8) × List ((List UInt8) × List UInt8))) × Int) :=
  loop (fun rec x => fG F rec x.1 x.2.1 x.2.2.1 x.2.2.2) n
def gJ (F : Nat) (a1 : List UInt8) : Option ((List (Int × (List UInt8) × (List UInt8) × List ((List UInt8) × List UInt8))) × Int) :=
bif decide (100000 < (a1.length : Int)) then
  some ([], 4)
else
  fF F F (a1, ([] : List (List UInt8)), 0, [])
end Go.Pv
namespace Go.Proofs.YteokdkimegepoaaGreatDoor
open Go.RowKit Go.Av Go.Pv
theorem ou : ∀ (args : Array Value) (w : World), (callFunc 18 args).run Tryz.prog w = .ok (.enter 18 args) w := fun _ _ => by kernel_rfl
theorem lx : ∀ (args : Array Value) (w : World), (callFunc 21 args).run Tryz.prog w = .ok (.enter 21 args) w := fun _ _ => by kernel_rfl
theorem ot : ∀ (args : Array Value) (w : World), (callFunc 22 args).run Tryz.prog w = .ok (.enter 22 args) w := fun _ _ => by kernel_rfl
theorem bw : ∀ (args : Array Value) (w : World), (callFunc 23 args).run Tryz.prog w = .ok (.enter 23 args) w := fun _ _ => by kernel_rfl
theorem lv : ∀ (args : Array Value) (w : World), (callFunc 33 args).run Tryz.prog w = .ok (.enter 33 args) w := fun _ _ => by kernel_rfl
theorem sj : ∀ (args : Array Value) (w : World), (callFunc 34 args).run Tryz.prog w = .ok (.enter 34 args) w := fun _ _ => by kernel_rfl
theorem si : ∀ (args : Array Value) (w : World), (callFunc 35 args).run Tryz.prog w = .ok (.enter 35 args) w := fun _ _ => by kernel_rfl
theorem oq : ∀ (args : Array Value) (w : World), (callFunc 37 args).run Tryz.prog w = .ok (.enter 37 args) w := fun _ _ => by kernel_rfl
theorem oo : ∀ (args : Array Value) (w : World), (callFunc 38 args).run Tryz.prog w = .ok (.enter 38 args) w := fun _ _ => by kernel_rfl
theorem om : ∀ (args : Array Value) (w : World), (callFunc 39 args).run Tryz.prog w = .ok (.enter 39 args) w := fun _ _ => by kernel_rfl
theorem oh : ∀ (args : Array Value) (w : World), (callFunc 40 args).run Tryz.prog w = .ok (.enter 40 args) w := fun _ _ => by kernel_rfl
theorem og : ∀ (args : Array Value) (w : World), (callFunc 41 args).run Tryz.prog w = .ok (.enter 41 args) w := fun _ _ => by kernel_rfl
theorem oe : ∀ (args : Array Value) (w : World), (callFunc 42 args).run Tryz.prog w = .ok (.enter 42 args) w := fun _ _ => by kernel_rfl
theorem od : ∀ (args : Array Value) (w : World), (callFunc 43 args).run Tryz.prog w = .ok (.enter 43 args) w := fun _ _ => by kernel_rfl
theorem lu : ∀ (args : Array Value) (w : World), (callFunc 62 args).run Tryz.prog w = .ok (.enter 62 args) w := fun _ _ => by kernel_rfl
theorem jK : ∀ (args : Array Value) (w : World), (callFunc 64 args).run Tryz.prog w = .ok (.enter 64 args) w := fun _ _ => by kernel_rfl
theorem oc : ∀ (args : Array Value) (w : World), (callFunc 65 args).run Tryz.prog w = .ok (.enter 65 args) w := fun _ _ => by kernel_rfl
theorem oa : ∀ (args : Array Value) (w : World), (callFunc 66 args).run Tryz.prog w = .ok (.enter 66 args) w := fun _ _ => by kernel_rfl
theorem df : ∀ (args : Array Value) (w : World), (callFunc 67 args).run Tryz.prog w = .ok (.enter 67 args) w := fun _ _ => by kernel_rfl
theorem ej : ∀ (args : Array Value) (w : World), (callFunc 68 args).run Tryz.prog w = .ok (.enter 68 args) w := fun _ _ => by kernel_rfl
theorem gL : ∀ (args : Array Value) (w : World), (callFunc 69 args).run Tryz.prog w = .ok (.enter 69 args) w := fun _ _ => by kernel_rfl
theorem nZ : ∀ (args : Array Value) (w : World), (callFunc 70 args).run Tryz.prog w = .ok (.enter 70 args) w := fun _ _ => by kernel_rfl
theorem jJ : ∀ (args : Array Value) (w : World), (callFunc 71 args).run Tryz.prog w = .ok (.enter 71 args) w := fun _ _ => by kernel_rfl
theorem nY : ∀ (args : Array Value) (w : World), (callFunc 72 args).run Tryz.prog w = .ok (.enter 72 args) w := fun _ _ => by kernel_rfl
theorem nX : ∀ (args : Array Value) (w : World), (callFunc 73 args).run Tryz.prog w = .ok (.enter 73 args) w := fun _ _ => by kernel_rfl
theorem sd : ∀ (args : Array Value) (w : World), (callFunc 74 args).run Tryz.prog w = .ok (.enter 74 args) w := fun _ _ => by kernel_rfl
theorem sc : ∀ (args : Array Value) (w : World), (callFunc 90 args).run Tryz.prog w = .ok (.enter 90 args) w := fun _ _ => by kernel_rfl
theorem rZ : ∀ (args : Array Value) (w : World), (callFunc 93 args).run Tryz.prog w = .ok (.enter 93 args) w := fun _ _ => by kernel_rfl
theorem rY : ∀ (args : Array Value) (w : World), (callFunc 94 args).run Tryz.prog w = .ok (.enter 94 args) w := fun _ _ => by kernel_rfl
theorem rX : ∀ (args : Array Value) (w : World), (callFunc 95 args).run Tryz.prog w = .ok (.enter 95 args) w := fun _ _ => by kernel_rfl
theorem rV : ∀ (args : Array Value) (w : World), (callFunc 96 args).run Tryz.prog w = .ok (.enter 96 args) w := fun _ _ => by kernel_rfl
set_option maxRecDepth 100000 in
set_option maxHeartbeats 1000000 in
theorem qu (F : Nat) (a1 : List UInt8) (r2 : Bool) (H : kP F a1 = some r2) : ACalls Tryz.prog 35 [S a1] [] (Ret (B r2) []) := by
 unfold kP at H
 refine au Tryz.func35 rfl rfl ?_;show AW _ _ 15 _ _ _;refine ac <| aa ?_;show AR _ _ _ _ _ [0] _;refine za rfl <| ag <| bQ (X := Unit) (fun _ => ⟨[], [], []⟩) (fun _ => hH = some r2) ?_ ?_
 ·refine ac <| aa ?_;show AR _ _ _ _ _ [0, 1, 2] _;refine zm rfl <| zS rfl (bu ah rfl) <| zm rfl <| ag <| aN <| cR (X := Nat × Int) (fun (n5, y3) => ⟨[(0, S a1), (5, i64 (a1.length : Int)), (6, i64 y3)], [], []⟩) (fun (n5, y3) => ge a1 n5 y3 = some r2) (fun (n5, y3) => n5) (F, 0) H (ba [] (.cons (.refl _) (.cons (.refl _) (.cons (.refl _) (.nil _)))) rfl) ?_;rintro ⟨n5, y3⟩ H;obtain ⟨n5, rfl, H⟩ := ep H;replace H : gf a1 (ge a1 n5) y3 = some r2 := H
  unfold gf at H
  refine ac <| aa ?_;show AR _ _ _ _ _ [0] _;refine zS rfl (bW rfl rfl) <| ag <| ac <| ax rfl (fun c6 => ?_) (fun c6 => ?_)
  ·replace H := aV c6 H;refine aB <| ac <| aN <| ac <| aa ?_;show AR _ _ _ _ _ [0, 1] _;refine zm rfl <| za rfl <| ag <| ac ?_;obtain ⟨g7, H⟩ := aQ H;obtain ⟨x8, e9, H⟩ := bI H;obtain ⟨x10, e11, H⟩ := bI H;refine aa ?_;show AR _ _ _ _ _ [0, 1, 2, 3, 4] _;refine zm rfl <| zm rfl <| zS rfl (bj ah rfl rfl g7 e9) <| am rfl rfl (aG rfl lu rfl (show ACalls _ _ _ [] (Ret (i64 x10) []) from by subst e11; exact dz xmla_k1 x8) ?_);refine zS rfl (bW rfl rfl) <| ag <| ax rfl (fun c12 => ?_) (fun c12 => ?_)
   ·replace H := aV c12 H;refine ac <| aa ?_;show AR _ _ _ _ _ [0] _;refine za rfl <| ag <| aI ?_;obtain rfl := al H;exact And.intro rfl (Exists.intro _ (Exists.intro _ ⟨aC rfl (.refl _), aH [] rfl, rfl, rfl⟩))
   ·replace H := aW c12 H;refine aB ?_;obtain ⟨g13, H⟩ := aQ H;refine aa ?_;show AR _ _ _ _ _ [0, 1] _;refine zS rfl (eH rfl rfl g13) <| zm rfl <| ag ?_;exact Exists.intro (n5, y3 + 1) ⟨H, Nat.lt_succ_self _, ba [] (.cons (.refl _) (.cons (.refl _) (.cons (.refl _) (.nil _)))) rfl⟩
  ·replace H := aW c6 H;refine ct ?_;exact Exists.intro () ⟨H, ba [] (.nil _) rfl⟩
 rintro _ H;replace H : hH = some r2 := H
 unfold hH at H
 refine ac <| aa ?_;show AR _ _ _ _ _ [0] _;refine za rfl <| ag <| aI ?_;obtain rfl := al H;exact And.intro rfl (Exists.intro _ (Exists.intro _ ⟨aC rfl (.refl _), aH [] rfl, rfl, rfl⟩))
set_option maxRecDepth 100000 in
set_option maxHeartbeats 1000000 in
theorem lm (F : Nat) (a1 : List UInt8) (r2 : Bool) (H : jP F a1 = some r2) : ACalls Tryz.prog 18 [S a1] [] (Ret (B r2) []) := by
 unfold jP at H
 refine au Tryz.func18 rfl rfl ?_;show AW _ _ 24 _ _ _;refine ac <| aa ?_;show AR _ _ _ _ _ [0] _;refine za rfl <| ag <| ac ?_;obtain ⟨g5, H⟩ := cu H;obtain ⟨x6, e7, H⟩ := bI H;obtain ⟨g8, H⟩ := cu H;obtain ⟨x9, e10, H⟩ := bI H;obtain ⟨g12, H⟩ := cu H;obtain ⟨g13, H⟩ := cu H;obtain ⟨g14, H⟩ := cu H;obtain ⟨x15, e16, H⟩ := bI H;obtain ⟨x18, e19, H⟩ := eK H;refine aa ?_;show AR _ _ _ _ _ [0, 1, 2, 3, 4, 5, 6, 7, 8, 9, 10, 11, 12, 13, 14, 15, 16, 17, 18, 19, 20, 21] _;refine zm rfl <| zS rfl (ld rfl rfl) <| zm rfl <| bb (l := [7, 8, 9, 10, 11, 12, 13, 14, 15, 16, 17, 18, 19, 20, 21]) 9 (B ((!decide (a1 = ([] : List UInt8))) && (decide ((a1.length : Int) ≤ 60)))) (fun K => ?_) ?_
 ·rcases ak (!decide (a1 = ([] : List UInt8))) with h3 | h3
  ·refine zM h3 rfl <| zU h3 rfl (bu ah rfl) <| zU h3 rfl (eY rfl rfl) <| zS rfl (aE (av := .v _) rfl h3 rfl) ?_;exact K _ 3 _ (ay (cz h3)) rfl rfl
  ·refine zF h3 rfl <| zF h3 rfl <| zF h3 rfl <| zS rfl (aF (av := .v _) rfl h3 rfl) ?_;exact K _ 3 _ (ay (cA h3)) rfl rfl
 refine zm rfl <| bb (l := [12, 13, 14, 15, 16, 17, 18, 19, 20, 21]) 14 (B (((!decide (a1 = ([] : List UInt8))) && (decide ((a1.length : Int) ≤ 60))) && x9)) (fun K => ?_) ?_
 ·rcases ak ((!decide (a1 = ([] : List UInt8))) && (decide ((a1.length : Int) ≤ 60))) with h4 | h4
  ·refine zM h4 rfl <| zU h4 rfl (kW ah rfl rfl (g5 h4) e7) <| zT h4 rfl (aG rfl lv rfl (show ACalls _ _ _ [] (Ret (B x9) []) from by subst e10; exact iY xmla_k2 x6 (kz (g8 h4))) ?_);refine zS rfl (aE (av := .v _) rfl h4 rfl) ?_;exact K _ 3 _ (ay (cz h4)) rfl rfl
  ·refine zF h4 rfl <| zF h4 rfl <| zF h4 rfl <| zS rfl (aF (av := .v _) rfl h4 rfl) ?_;exact K _ 3 _ (ay (cA h4)) rfl rfl
 refine zm rfl <| bb (l := [17, 18, 19, 20, 21]) 19 (B ((((!decide (a1 = ([] : List UInt8))) && (decide ((a1.length : Int) ≤ 60))) && x9) && (decide (x15 = ([] : List UInt8))))) (fun K => ?_) ?_
 ·rcases ak (((!decide (a1 = ([] : List UInt8))) && (decide ((a1.length : Int) ≤ 60))) && x9) with h11 | h11
  ·refine zM h11 rfl <| zT h11 rfl (aG rfl sj rfl (show ACalls _ _ _ [] (Ret (S x15) []) from by subst e16; exact lib_Trim a1 xmla_k1 (kz (g12 h11)) (kz (g13 h11)) (g14 h11)) ?_);refine zU h11 rfl (eL rfl rfl) <| zS rfl (aE (av := .v _) rfl h11 rfl) ?_;exact K _ 3 _ (ay (cz h11)) rfl rfl
  ·refine zF h11 rfl <| zF h11 rfl <| zF h11 rfl <| zS rfl (aF (av := .v _) rfl h11 rfl) ?_;exact K _ 3 _ (ay (cA h11)) rfl rfl
 refine zm rfl <| bb (l := [21]) 23 (B (((((!decide (a1 = ([] : List UInt8))) && (decide ((a1.length : Int) ≤ 60))) && x9) && (decide (x15 = ([] : List UInt8)))) && x18)) (fun K => ?_) ?_
 ·rcases ak ((((!decide (a1 = ([] : List UInt8))) && (decide ((a1.length : Int) ≤ 60))) && x9) && (decide (x15 = ([] : List UInt8)))) with h17 | h17
  ·refine zM h17 rfl <| zT h17 rfl (aG rfl si rfl (qu F a1 x18 (e19 h17)) ?_);refine zS rfl (aE (av := .v _) rfl h17 rfl) ?_;exact K _ 2 _ (ay (cz h17)) rfl rfl
  ·refine zF h17 rfl <| zF h17 rfl <| zS rfl (aF (av := .v _) rfl h17 rfl) ?_;exact K _ 2 _ (ay (cA h17)) rfl rfl
 refine za rfl <| ag <| aI ?_;obtain rfl := al H;exact And.intro rfl (Exists.intro _ (Exists.intro _ ⟨aC rfl (.refl _), aH [] rfl, rfl, rfl⟩))
set_option maxRecDepth 100000 in
set_option maxHeartbeats 1000000 in
theorem lB (F : Nat) (a1 : Bool) (rv : Res Unit) (H : cc F a1 = some rv) : ACalls Tryz.prog 23 [B a1] [] (iK (fun (r : Unit) => (Ret (.tup []) [])) (fun e => cy (.iface 46 (.agg #[.int .i64 e]))) rv) := by
 unfold cc at H
 refine au Tryz.func23 rfl rfl ?_;show AW _ _ 6 _ _ _;refine ac <| aa ?_;show AR _ _ _ _ _ [0, 1] _;refine zm rfl <| zS rfl (ce rfl) <| ag <| ax rfl (fun c2 => ?_) (fun c2 => ?_)
 ·replace H := aV c2 H;obtain rfl := al H;refine aa ?_;show AR _ _ _ _ _ [0, 1, 2] _;refine zS rfl (eN (zs := [.int .i64 0]) (ps := [(0, 1)]) (cs := [i64 2]) (by kernel_rfl) rfl rfl) <| zS rfl (bk (a := .agg _) Tryz.underlying46 rfl rfl) <| am rfl rfl (AO.panicT (c := cy (.iface 46 (.agg #[.int .i64 2]))) rfl rfl ?_);exact And.intro rfl (Exists.intro [] ⟨aP _, rfl, rfl⟩)
 ·replace H := aW c2 H;refine aB ?_;obtain rfl := al H;exact And.intro rfl (Exists.intro _ (Exists.intro _ ⟨bK rfl, aH [] rfl, rfl, rfl⟩))
theorem bG (F : Nat) (a1 : Bool) (H : cc F a1 = some (Res.ok ())) : ACalls Tryz.prog 23 [B a1] [] (Ret (.tup []) []) := lB F a1 _ H
theorem bA (F : Nat) (a1 : Bool) (e : Int) (H : cc F a1 = some (Res.pan e)) : ACalls Tryz.prog 23 [B a1] [] (fun ae A' => ae = .pan ((fun e => cy (.iface 46 (.agg #[.int .i64 e]))) e) ∧ A' = []) := lB F a1 _ H
set_option maxRecDepth 100000 in
set_option maxHeartbeats 1000000 in
theorem dd (F : Nat) (o1 : Nat) (a2 : List UInt8) (a3 : List (List UInt8)) (t4 : Nat) (a5 : Int) (a6 : List (Int × (List UInt8) × (List UInt8) × List ((List UInt8) × List UInt8))) (t7 : Nat) (a8 : List UInt8) (r9 : Bool) (r10 : List UInt8) (H : dB F a2 a3 a5 a6 a8 = some (r9, r10)) : ACalls Tryz.prog 67 [.pt o1 0, S a8] [.obj o1 [S a2, .sk t4 a3.length, i64 a5, slE (ab Enc.int (ab Enc.str (ab Enc.str (Enc.sl (ab Enc.str Enc.str))))) a6 (some t7)], .stk t4 (Enc.str.fl a3), .tok t7 33] (fun e A' => e = .ret (B r9) ∧ A' = [.obj o1 [S r10, .sk t4 a3.length, i64 a5, slE (ab Enc.int (ab Enc.str (ab Enc.str (Enc.sl (ab Enc.str Enc.str))))) a6 (some t7)], .stk t4 (Enc.str.fl a3), .tok t7 33]) := by
 unfold dB at H
 refine au Tryz.func67 rfl rfl ?_;show AW _ _ 21 _ _ _;refine ac <| aa ?_;show AR _ _ _ _ _ [0] _;refine za rfl <| ag <| ac ?_;obtain ⟨x11, e12, H⟩ := bI H;refine aa ?_;show AR _ _ _ _ _ [0, 1, 2, 3, 4, 5, 6, 7, 8, 9, 10] _;refine zS rfl (af (av := .pt _ _) rfl) <| zS rfl (aq rfl) <| zS rfl (an (n := 0) (by kernel_rfl) rfl) <| zR rfl (ao (i := 0) ah rfl rfl rfl rfl) <| zm rfl <| am rfl rfl (aG rfl rZ rfl (show ACalls _ _ _ [] (Ret (.tup [S x11.1, B x11.2]) []) from by subst e12; exact ij a2 a8) ?_);refine zS rfl (af (av := .tup _) rfl) <| zS rfl (aJ (av := .v _) rfl rfl) <| zS rfl (aJ (av := .v _) rfl rfl) <| za rfl <| za rfl <| ag <| ac <| aa ?_;show AR _ _ _ _ _ [0, 1, 2, 3, 4] _;refine zS rfl (af (av := .pt _ _) rfl) <| zm rfl <| zS rfl (aq rfl) <| zS rfl (an (n := 0) (by kernel_rfl) rfl) <| s0 rfl rfl (az (i := 0) (c := .v _) (by kernel_rfl) rfl rfl rfl rfl (ai rfl)) <| ag <| ac <| aa ?_;show AR _ _ _ _ _ [0, 1] _;refine zm rfl <| za rfl <| ag <| aI ?_;obtain ⟨rfl, rfl⟩ := fo H;exact And.intro rfl (Exists.intro _ (Exists.intro _ ⟨aC rfl (.refl _), aH [0, 0, 0] rfl, rfl, rfl⟩))
set_option maxRecDepth 100000 in
set_option maxHeartbeats 1000000 in
theorem nz (F : Nat) (o1 : Nat) (a2 : List UInt8) (a3 : List (List UInt8)) (t4 : Nat) (a5 : Int) (a6 : List (Int × (List UInt8) × (List UInt8) × List ((List UInt8) × List UInt8))) (t7 : Nat) (a8 : List UInt8) (rv : Res ((List UInt8) × (List UInt8))) (H : fp F a2 a3 a5 a6 a8 = some rv) : ACalls Tryz.prog 68 [.pt o1 0, S a8] [.obj o1 [S a2, .sk t4 a3.length, i64 a5, slE (ab Enc.int (ab Enc.str (ab Enc.str (Enc.sl (ab Enc.str Enc.str))))) a6 (some t7)], .stk t4 (Enc.str.fl a3), .tok t7 33] (iK (fun (r : (List UInt8) × (List UInt8)) => (fun e A' => e = .ret (S r.1) ∧ A' = [.obj o1 [S r.2, .sk t4 a3.length, i64 a5, slE (ab Enc.int (ab Enc.str (ab Enc.str (Enc.sl (ab Enc.str Enc.str))))) a6 (some t7)], .stk t4 (Enc.str.fl a3), .tok t7 33])) (fun e => cy (.iface 46 (.agg #[.int .i64 e]))) rv) := by
 unfold fp at H
 refine au Tryz.func68 rfl rfl ?_;show AW _ _ 25 _ _ _;refine ac <| aa ?_;show AR _ _ _ _ _ [0] _;refine za rfl <| ag <| ac ?_;obtain ⟨g11, H⟩ := aQ H;obtain ⟨x12, e13, H⟩ := bI H;refine aa ?_;show AR _ _ _ _ _ [0, 1, 2, 3, 4, 5, 6, 7, 8, 9, 10, 11, 12] _;refine zS rfl (af (av := .pt _ _) rfl) <| zS rfl (aq rfl) <| zS rfl (an (n := 0) (by kernel_rfl) rfl) <| zR rfl (ao (i := 0) ah rfl rfl rfl rfl) <| zm rfl <| am rfl rfl (aG rfl rY rfl (show ACalls _ _ _ [] (Ret (.tup [S x12.1, S x12.2.1, B x12.2.2]) []) from by subst e13; exact lib_Cut a2 a8 (kz g11)) ?_);refine zS rfl (af (av := .tup _) rfl) <| zS rfl (aJ (av := .v _) rfl rfl) <| zS rfl (aJ (av := .v _) rfl rfl) <| zS rfl (aJ (av := .v _) rfl rfl) <| za rfl <| za rfl <| za rfl <| ag <| ac ?_
 rcases Or.symm (cm H) with ⟨p16, e15, H⟩ | ⟨x14, e15, H⟩
 ·subst H;refine aa ?_;show AR _ _ _ _ _ [0, 1] _;refine zm rfl <| am rfl rfl (bm (c := cy (.iface 46 (.agg #[.int .i64 p16]))) [] rfl bw rfl (bA F x12.2.2 p16 e15) rfl ?_);exact And.intro rfl (Exists.intro [] ⟨aP _, rfl, rfl⟩)
 refine aa ?_;show AR _ _ _ _ _ [0, 1] _;refine zm rfl <| am rfl rfl (aG rfl bw rfl (bG F x12.2.2 e15) ?_);refine ag <| ac <| aa ?_;show AR _ _ _ _ _ [0, 1, 2, 3, 4] _;refine zS rfl (af (av := .pt _ _) rfl) <| zm rfl <| zS rfl (aq rfl) <| zS rfl (an (n := 0) (by kernel_rfl) rfl) <| s0 rfl rfl (az (i := 0) (c := .v _) (by kernel_rfl) rfl rfl rfl rfl (ai rfl)) <| ag <| ac <| aa ?_;show AR _ _ _ _ _ [0, 1] _;refine zm rfl <| za rfl <| ag <| aI ?_;obtain rfl := al H;exact And.intro rfl (Exists.intro _ (Exists.intro _ ⟨aC rfl (.refl _), aH [0, 0, 0] rfl, rfl, rfl⟩))
theorem fH (F : Nat) (o1 : Nat) (a2 : List UInt8) (a3 : List (List UInt8)) (t4 : Nat) (a5 : Int) (a6 : List (Int × (List UInt8) × (List UInt8) × List ((List UInt8) × List UInt8))) (t7 : Nat) (a8 : List UInt8) (r9 : List UInt8) (r10 : List UInt8) (H : fp F a2 a3 a5 a6 a8 = some (Res.ok (r9, r10))) : ACalls Tryz.prog 68 [.pt o1 0, S a8] [.obj o1 [S a2, .sk t4 a3.length, i64 a5, slE (ab Enc.int (ab Enc.str (ab Enc.str (Enc.sl (ab Enc.str Enc.str))))) a6 (some t7)], .stk t4 (Enc.str.fl a3), .tok t7 33] (fun e A' => e = .ret (S r9) ∧ A' = [.obj o1 [S r10, .sk t4 a3.length, i64 a5, slE (ab Enc.int (ab Enc.str (ab Enc.str (Enc.sl (ab Enc.str Enc.str))))) a6 (some t7)], .stk t4 (Enc.str.fl a3), .tok t7 33]) := nz F o1 a2 a3 t4 a5 a6 t7 a8 _ H
theorem eU (F : Nat) (o1 : Nat) (a2 : List UInt8) (a3 : List (List UInt8)) (t4 : Nat) (a5 : Int) (a6 : List (Int × (List UInt8) × (List UInt8) × List ((List UInt8) × List UInt8))) (t7 : Nat) (a8 : List UInt8) (e : Int) (H : fp F a2 a3 a5 a6 a8 = some (Res.pan e)) : ACalls Tryz.prog 68 [.pt o1 0, S a8] [.obj o1 [S a2, .sk t4 a3.length, i64 a5, slE (ab Enc.int (ab Enc.str (ab Enc.str (Enc.sl (ab Enc.str Enc.str))))) a6 (some t7)], .stk t4 (Enc.str.fl a3), .tok t7 33] (fun ae A' => ae = .pan ((fun e => cy (.iface 46 (.agg #[.int .i64 e]))) e) ∧ A' = []) := nz F o1 a2 a3 t4 a5 a6 t7 a8 _ H
set_option maxRecDepth 100000 in
set_option maxHeartbeats 1000000 in
theorem lC (F : Nat) (o1 : Nat) (a2 : List UInt8) (a3 : List (List UInt8)) (t4 : Nat) (a5 : Int) (a6 : List (Int × (List UInt8) × (List UInt8) × List ((List UInt8) × List UInt8))) (t7 : Nat) (r8 : Bool) (r9 : List UInt8) (H : gI F a2 a3 a5 a6 = some (r8, r9)) : ACalls Tryz.prog 70 [.pt o1 0] [.obj o1 [S a2, .sk t4 a3.length, i64 a5, slE (ab Enc.int (ab Enc.str (ab Enc.str (Enc.sl (ab Enc.str Enc.str))))) a6 (some t7)], .stk t4 (Enc.str.fl a3), .tok t7 33] (fun e A' => e = .ret (B r8) ∧ A' = [.obj o1 [S r9, .sk t4 a3.length, i64 a5, slE (ab Enc.int (ab Enc.str (ab Enc.str (Enc.sl (ab Enc.str Enc.str))))) a6 (some t7)], .stk t4 (Enc.str.fl a3), .tok t7 33]) := by
 unfold gI at H
 refine au Tryz.func70 rfl rfl ?_;show AW _ _ 24 _ _ _;refine ac <| aa ?_;show AR _ _ _ _ _ [0] _;refine za rfl <| ag <| ac <| aa ?_;show AR _ _ _ _ _ [0, 1, 2, 3, 4, 5] _;refine zS rfl (af (av := .pt _ _) rfl) <| zS rfl (aq rfl) <| zS rfl (an (n := 0) (by kernel_rfl) rfl) <| zR rfl (ao (i := 0) ah rfl rfl rfl rfl) <| zS rfl (bu ah rfl) <| za rfl <| ag <| ac ?_;obtain ⟨g10, H⟩ := aQ H;obtain ⟨g11, H⟩ := aQ H;obtain ⟨x12, e13, H⟩ := bI H;refine aa ?_;show AR _ _ _ _ _ [0, 1, 2, 3, 4, 5, 6, 7, 8] _;refine zS rfl (af (av := .pt _ _) rfl) <| zS rfl (af (av := .pt _ _) rfl) <| zS rfl (aq rfl) <| zS rfl (an (n := 0) (by kernel_rfl) rfl) <| zR rfl (ao (i := 0) ah rfl rfl rfl rfl) <| am rfl rfl (aG rfl rX rfl (show ACalls _ _ _ [] (Ret (S x12) []) from by subst e13; exact oQ a2 ([9, 10, 13, 32] : List UInt8) (kz g10) g11) ?_);refine zS rfl (aq rfl) <| zS rfl (an (n := 0) (by kernel_rfl) rfl) <| s0 rfl rfl (az (i := 0) (c := .v _) (by kernel_rfl) rfl rfl rfl rfl (ai rfl)) <| ag <| ac <| aa ?_;show AR _ _ _ _ _ [0, 1, 2, 3, 4, 5, 6, 7] _
 refine zS rfl (af (av := .pt _ _) rfl) <| zS rfl (aq rfl) <| zS rfl (an (n := 0) (by kernel_rfl) rfl) <| zR rfl (ao (i := 0) ah rfl rfl rfl rfl) <| zS rfl (bu ah rfl) <| zm rfl <| zS rfl (bW rfl rfl) <| za rfl <| ag <| aI ?_;obtain ⟨rfl, rfl⟩ := fo H;exact And.intro rfl (Exists.intro _ (Exists.intro _ ⟨aC rfl (.refl _), aH [0, 0, 0] rfl, rfl, rfl⟩))
set_option maxRecDepth 100000 in
set_option maxHeartbeats 1000000 in
theorem nD (F : Nat) (o1 : Nat) (a2 : List UInt8) (a3 : List (List UInt8)) (t4 : Nat) (a5 : Int) (a6 : List (Int × (List UInt8) × (List UInt8) × List ((List UInt8) × List UInt8))) (t7 : Nat) (rv : Res ((List UInt8) × (List UInt8))) (H : ip F a2 a3 a5 a6 = some rv) : ACalls Tryz.prog 69 [.pt o1 0] [.obj o1 [S a2, .sk t4 a3.length, i64 a5, slE (ab Enc.int (ab Enc.str (ab Enc.str (Enc.sl (ab Enc.str Enc.str))))) a6 (some t7)], .stk t4 (Enc.str.fl a3), .tok t7 33] (iK (fun (r : (List UInt8) × (List UInt8)) => (fun e A' => e = .ret (S r.1) ∧ A' = [.obj o1 [S r.2, .sk t4 a3.length, i64 a5, slE (ab Enc.int (ab Enc.str (ab Enc.str (Enc.sl (ab Enc.str Enc.str))))) a6 (some t7)], .stk t4 (Enc.str.fl a3), .tok t7 33])) (fun e => cy (.iface 46 (.agg #[.int .i64 e]))) rv) := by
 unfold ip at H
 refine au Tryz.func69 rfl rfl ?_;show AW _ _ 43 _ _ _;refine ac <| aa ?_;show AR _ _ _ _ _ [0] _;refine za rfl <| ag <| ac <| aa ?_;show AR _ _ _ _ _ [0] _;refine za rfl <| ag <| bQ (X := Int) (fun y21 => ⟨[(0, .pt o1 0), (3, i64 y21)], [], [.obj o1 [S a2, .sk t4 a3.length, i64 a5, slE (ab Enc.int (ab Enc.str (ab Enc.str (Enc.sl (ab Enc.str Enc.str))))) a6 (some t7)], .stk t4 (Enc.str.fl a3), .tok t7 33]⟩) (fun y21 => fP F a2 y21 = some rv) ?_ ?_
 ·refine aN <| cR (X := Nat × Int) (fun (n12, y10) => ⟨[(0, .pt o1 0), (3, i64 y10)], [], [.obj o1 [S a2, .sk t4 a3.length, i64 a5, slE (ab Enc.int (ab Enc.str (ab Enc.str (Enc.sl (ab Enc.str Enc.str))))) a6 (some t7)], .stk t4 (Enc.str.fl a3), .tok t7 33]⟩) (fun (n12, y10) => gN F a2 n12 y10 = some rv) (fun (n12, y10) => n12) (F, 0) H (ba [0, 0, 0] (.cons (.refl _) (.cons (.refl _) (.nil _))) rfl) ?_;rintro ⟨n12, y10⟩ H;obtain ⟨n12, rfl, H⟩ := ep H;replace H : gO F a2 (gN F a2 n12) y10 = some rv := H
  unfold gO at H
  refine ac <| ac ?_;obtain ⟨g14, H⟩ := cu H;obtain ⟨x15, e16, H⟩ := bI H;obtain ⟨x17, e18, H⟩ := bI H;refine aa ?_;show AR _ _ _ _ _ [0, 1, 2, 3, 4, 5, 6, 7, 8, 9, 10, 11, 12, 13, 14, 15, 16] _;refine zm rfl <| zS rfl (af (av := .pt _ _) rfl) <| zS rfl (aq rfl) <| zS rfl (an (n := 0) (by kernel_rfl) rfl) <| zR rfl (ao (i := 0) ah rfl rfl rfl rfl) <| zS rfl (bu ah rfl) <| zS rfl (bW rfl rfl) <| zm rfl <| bb (l := []) 21 (B ((decide (y10 < (a2.length : Int))) && (decide (0 ≤ x17)))) (fun K => ?_) ?_
  ·rcases ak (decide (y10 < (a2.length : Int))) with h13 | h13
   ·refine zU h13 rfl (af (av := .pt _ _) rfl) <| zU h13 rfl (aq rfl) <| zU h13 rfl (an (n := 0) (by kernel_rfl) rfl) <| zT h13 rfl (bP rfl rfl (ao (i := 0) ah rfl rfl rfl rfl) ?_);refine zM h13 rfl <| zU h13 rfl (bj ah rfl rfl (g14 h13) e16) <| zT h13 rfl (aG rfl lu rfl (show ACalls _ _ _ [] (Ret (i64 x17) []) from by subst e18; exact dz xmla_k1 x15) ?_);refine zU h13 rfl (eJ rfl rfl) <| zS rfl (aE (av := .v _) rfl h13 rfl) ?_;exact K _ 8 _ (ay (cz h13)) rfl rfl
   ·refine zF h13 rfl <| zF h13 rfl <| zF h13 rfl <| zF h13 rfl <| zF h13 rfl <| zF h13 rfl <| zF h13 rfl <| zF h13 rfl <| zS rfl (aF (av := .v _) rfl h13 rfl) ?_;exact K _ 8 _ (ay (cA h13)) rfl rfl
  refine ag <| ax rfl (fun c19 => ?_) (fun c19 => ?_)
  ·replace H := aV c19 H;refine aB <| aN ?_;obtain ⟨g20, H⟩ := aQ H;refine aa ?_;show AR _ _ _ _ _ [0, 1, 2] _;refine zm rfl <| zS rfl (eH rfl rfl g20) <| za rfl <| ag ?_;exact Exists.intro (n12, y10 + 1) ⟨H, Nat.lt_succ_self _, ba [0, 0, 0] (.cons (.refl _) (.cons (.refl _) (.nil _))) rfl⟩
  ·replace H := aW c19 H;refine ct ?_;exact Exists.intro y10 ⟨H, ba [0, 0, 0] (.cons (.refl _) (.cons (.refl _) (.nil _))) rfl⟩
 rintro y21 H;replace H : fP F a2 y21 = some rv := H
 unfold fP at H
 refine ac ?_;obtain ⟨g23, H⟩ := aQ H;obtain ⟨x24, e25, H⟩ := bI H;refine aa ?_;show AR _ _ _ _ _ [0, 1, 2, 3, 4, 5, 6] _;refine zS rfl (af (av := .pt _ _) rfl) <| zS rfl (aq rfl) <| zS rfl (an (n := 0) (by kernel_rfl) rfl) <| zR rfl (ao (i := 0) ah rfl rfl rfl rfl) <| zm rfl <| zS rfl (kW ah rfl rfl g23 e25) <| za rfl <| ag <| ac ?_;obtain ⟨x26, e27, H⟩ := eu H
 rcases Or.symm (cm H) with ⟨p30, e29, H⟩ | ⟨x28, e29, H⟩
 ·subst H;refine aa ?_;show AR _ _ _ _ _ [0, 1, 2] _;refine zm rfl <| am rfl rfl (aG rfl ou rfl (lm F x24 x26 e27) ?_);refine am rfl rfl (bm (c := cy (.iface 46 (.agg #[.int .i64 p30]))) [] rfl bw rfl (bA F x26 p30 e29) rfl ?_);exact And.intro rfl (Exists.intro [] ⟨aP _, rfl, rfl⟩)
 refine aa ?_;show AR _ _ _ _ _ [0, 1, 2] _;refine zm rfl <| am rfl rfl (aG rfl ou rfl (lm F x24 x26 e27) ?_);refine am rfl rfl (aG rfl bw rfl (bG F x26 e29) ?_);refine ag <| ac ?_;obtain ⟨g31, H⟩ := aQ H;obtain ⟨x32, e33, H⟩ := bI H;refine aa ?_;show AR _ _ _ _ _ [0, 1, 2, 3, 4, 5, 6, 7, 8, 9] _;refine zS rfl (af (av := .pt _ _) rfl) <| zS rfl (af (av := .pt _ _) rfl) <| zS rfl (aq rfl) <| zS rfl (an (n := 0) (by kernel_rfl) rfl) <| zR rfl (ao (i := 0) ah rfl rfl rfl rfl) <| zm rfl <| zS rfl (dA ah rfl rfl g31 e33) <| zS rfl (aq rfl) <| zS rfl (an (n := 0) (by kernel_rfl) rfl) <| s0 rfl rfl (az (i := 0) (c := .v _) (by kernel_rfl) rfl rfl rfl rfl (ai rfl)) <| ag <| ac <| aa ?_;show AR _ _ _ _ _ [0, 1] _;refine zm rfl <| za rfl <| ag <| aI ?_;obtain rfl := al H;exact And.intro rfl (Exists.intro _ (Exists.intro _ ⟨aC rfl (.refl _), aH [0, 0, 0] rfl, rfl, rfl⟩))
theorem iV (F : Nat) (o1 : Nat) (a2 : List UInt8) (a3 : List (List UInt8)) (t4 : Nat) (a5 : Int) (a6 : List (Int × (List UInt8) × (List UInt8) × List ((List UInt8) × List UInt8))) (t7 : Nat) (r8 : List UInt8) (r9 : List UInt8) (H : ip F a2 a3 a5 a6 = some (Res.ok (r8, r9))) : ACalls Tryz.prog 69 [.pt o1 0] [.obj o1 [S a2, .sk t4 a3.length, i64 a5, slE (ab Enc.int (ab Enc.str (ab Enc.str (Enc.sl (ab Enc.str Enc.str))))) a6 (some t7)], .stk t4 (Enc.str.fl a3), .tok t7 33] (fun e A' => e = .ret (S r8) ∧ A' = [.obj o1 [S r9, .sk t4 a3.length, i64 a5, slE (ab Enc.int (ab Enc.str (ab Enc.str (Enc.sl (ab Enc.str Enc.str))))) a6 (some t7)], .stk t4 (Enc.str.fl a3), .tok t7 33]) := nD F o1 a2 a3 t4 a5 a6 t7 _ H
theorem ia (F : Nat) (o1 : Nat) (a2 : List UInt8) (a3 : List (List UInt8)) (t4 : Nat) (a5 : Int) (a6 : List (Int × (List UInt8) × (List UInt8) × List ((List UInt8) × List UInt8))) (t7 : Nat) (e : Int) (H : ip F a2 a3 a5 a6 = some (Res.pan e)) : ACalls Tryz.prog 69 [.pt o1 0] [.obj o1 [S a2, .sk t4 a3.length, i64 a5, slE (ab Enc.int (ab Enc.str (ab Enc.str (Enc.sl (ab Enc.str Enc.str))))) a6 (some t7)], .stk t4 (Enc.str.fl a3), .tok t7 33] (fun ae A' => ae = .pan ((fun e => cy (.iface 46 (.agg #[.int .i64 e]))) e) ∧ A' = []) := nD F o1 a2 a3 t4 a5 a6 t7 _ H
set_option maxRecDepth 100000 in
set_option maxHeartbeats 1000000 in
theorem lE (F : Nat) (a1 : List UInt8) (rv : Res ((List UInt8))) (H : fx F a1 = some rv) : ACalls Tryz.prog 64 [S a1] [] (iK (fun (r : (List UInt8)) => (Ret (S r) [])) (fun e => cy (.iface 46 (.agg #[.int .i64 e]))) rv) := by
 unfold fx at H
 refine au Tryz.func64 rfl rfl ?_;show AW _ _ 14 _ _ _;refine ac <| aa ?_;show AR _ _ _ _ _ [0] _;refine za rfl <| ag <| ac ?_;obtain ⟨x3, x4, e5, H⟩ := cU H;refine aa ?_;show AR _ _ _ _ _ [0, 1, 2, 3, 4, 5, 6] _;refine zm rfl <| am rfl rfl (aG rfl sc rfl (oJ F a1 x3 x4 e5) ?_);refine zS rfl (af (av := .tup _) rfl) <| zS rfl (aJ (av := .v _) rfl rfl) <| zS rfl (aJ (av := .v _) rfl rfl) <| za rfl <| za rfl <| ag <| ac ?_
 rcases Or.symm (cm H) with ⟨p8, e7, H⟩ | ⟨x6, e7, H⟩
 ·subst H;refine aa ?_;show AR _ _ _ _ _ [0, 1, 2] _;refine zm rfl <| zS rfl (bM rfl rfl) <| am rfl rfl (bm (c := cy (.iface 46 (.agg #[.int .i64 p8]))) [] rfl bw rfl (bA F (decide (x4 = 0)) p8 e7) rfl ?_);exact And.intro rfl (Exists.intro [] ⟨aP _, rfl, rfl⟩)
 refine aa ?_;show AR _ _ _ _ _ [0, 1, 2] _;refine zm rfl <| zS rfl (bM rfl rfl) <| am rfl rfl (aG rfl bw rfl (bG F (decide (x4 = 0)) e7) ?_);refine ag <| ac <| aa ?_;show AR _ _ _ _ _ [0, 1] _;refine zm rfl <| za rfl <| ag <| aI ?_;obtain rfl := al H;exact And.intro rfl (Exists.intro _ (Exists.intro _ ⟨aC rfl (.refl _), aH [] rfl, rfl, rfl⟩))
theorem jt (F : Nat) (a1 : List UInt8) (r2 : List UInt8) (H : fx F a1 = some (Res.ok r2)) : ACalls Tryz.prog 64 [S a1] [] (Ret (S r2) []) := lE F a1 _ H
theorem jg (F : Nat) (a1 : List UInt8) (e : Int) (H : fx F a1 = some (Res.pan e)) : ACalls Tryz.prog 64 [S a1] [] (fun ae A' => ae = .pan ((fun e => cy (.iface 46 (.agg #[.int .i64 e]))) e) ∧ A' = []) := lE F a1 _ H
abbrev _root_.Go.Av.aw := @Tryz.underlying24
set_option maxRecDepth 100000 in
set_option maxHeartbeats 1000000 in
theorem nA (F : Nat) (o1 : Nat) (a2 : List UInt8) (a3 : List (List UInt8)) (t4 : Nat) (a5 : Int) (a6 : List (Int × (List UInt8) × (List UInt8) × List ((List UInt8) × List UInt8))) (t7 : Nat) (a8 : List UInt8) (r9 : List (Int × (List UInt8) × (List UInt8) × List ((List UInt8) × List UInt8))) (H : jO F a2 a3 a5 a6 a8 = some r9) : ACalls Tryz.prog 66 [.pt o1 0, S a8] [.obj o1 [S a2, .sk t4 a3.length, i64 a5, slE (ab Enc.int (ab Enc.str (ab Enc.str (Enc.sl (ab Enc.str Enc.str))))) a6 (some t7)], .stk t4 (Enc.str.fl a3), .tok t7 33] (fun e A' => e = .ret (.tup []) ∧ ∃ t10, A' = [.obj o1 [S a2, .sk t4 a3.length, i64 a5, slE (ab Enc.int (ab Enc.str (ab Enc.str (Enc.sl (ab Enc.str Enc.str))))) r9 (some t10)], .stk t4 (Enc.str.fl a3), .tok t10 33]) := by
 unfold jO at H
 refine au Tryz.func66 rfl rfl ?_;show AW _ _ 17 _ _ _;refine ac <| aa ?_;show AR _ _ _ _ _ [0, 1] _;refine zm rfl <| zS rfl (ld rfl rfl) <| ag <| ax rfl (fun c11 => ?_) (fun c11 => ?_)
 ·replace H := aV c11 H;obtain ⟨g13, H⟩ := aQ H;obtain ⟨x14, e15, H⟩ := bI H;refine aa ?_;show AR _ _ _ _ _ [0, 1, 2, 3, 4, 5, 6, 7, 8, 9, 10, 11] _;refine zS rfl (af (av := .pt _ _) rfl) <| zS rfl (af (av := .pt _ _) rfl) <| zS rfl (aq rfl) <| zS rfl (an (n := 3) (by kernel_rfl) rfl) <| zR rfl (ao (i := 0) aw rfl rfl rfl rfl) <| zm rfl <| zS rfl (eN (zs := [.int .i64 0, .string ⟨#[]⟩, .string ⟨#[]⟩, .slice none 0 0]) (ps := [(0, 1), (1, 1), (2, 1), (3, 1)]) (cs := [i64 2, S ([] : List UInt8), S a8, fI]) (by kernel_rfl) rfl rfl) <| zR rfl (dT (ds := [i64 2, S ([] : List UInt8), S a8, slE (ab Enc.str Enc.str) ([] : List ((List UInt8) × List UInt8)) none]) 12 (.cons (.refl _) (.cons (.refl _) (.cons (.refl _) (.cons (.nil _) (.nil))))) (hc := rfl) <| dv (E := (ab Enc.int (ab Enc.str (ab Enc.str (Enc.sl (ab Enc.str Enc.str)))))) (bytes := 64) (zs := [.int .i64 0, .string ⟨#[]⟩, .string ⟨#[]⟩, .slice none 0 0]) (l := ([(2, ([] : List UInt8), a8, ([] : List ((List UInt8) × List UInt8)))] : List (Int × (List UInt8) × (List UInt8) × List ((List UInt8) × List UInt8)))) aw (by kernel_rfl) (by kernel_rfl) rfl rfl rfl rfl rfl) <| zX rfl (gX (E := (ab Enc.int (ab Enc.str (ab Enc.str (Enc.sl (ab Enc.str Enc.str)))))) (bytes := 64) 2 aw aw rfl (by kernel_rfl) rfl rfl rfl rfl g13 e15) ?_;rintro _ _ ⟨t12, rfl, rfl⟩
  refine zS rfl (aq rfl) <| zS rfl (an (n := 3) (by kernel_rfl) rfl) <| s0 rfl rfl (az (i := 0) (c := slE _ _ _) (by kernel_rfl) rfl rfl rfl rfl (ai rfl)) <| ag ?_;obtain rfl := al H;exact And.intro rfl (Exists.intro _ (Exists.intro _ ⟨bK rfl, aH [0, 0, 0] rfl, rfl, t12, rfl⟩))
 ·replace H := aW c11 H;refine aB ?_;obtain rfl := al H;exact And.intro rfl (Exists.intro _ (Exists.intro _ ⟨bK rfl, aH [0, 0, 0] rfl, rfl, t7, rfl⟩))
set_option maxRecDepth 100000 in
set_option maxHeartbeats 1000000 in
theorem nC (F : Nat) (o1 : Nat) (a2 : List UInt8) (a3 : List (List UInt8)) (t4 : Nat) (a5 : Int) (a6 : List (Int × (List UInt8) × (List UInt8) × List ((List UInt8) × List UInt8))) (t7 : Nat) (a8 : List UInt8) (rv : Res ((List (Int × (List UInt8) × (List UInt8) × List ((List UInt8) × List UInt8))) × (List (List UInt8)))) (H : io F a2 a3 a5 a6 a8 = some rv) : ACalls Tryz.prog 71 [.pt o1 0, S a8] [.obj o1 [S a2, .sk t4 a3.length, i64 a5, slE (ab Enc.int (ab Enc.str (ab Enc.str (Enc.sl (ab Enc.str Enc.str))))) a6 (some t7)], .stk t4 (Enc.str.fl a3), .tok t7 33] (iK (fun (r : (List (Int × (List UInt8) × (List UInt8) × List ((List UInt8) × List UInt8))) × (List (List UInt8))) => (fun e A' => e = .ret (.tup []) ∧ ∃ t10 t12, A' = [.obj o1 [S a2, .sk t10 r.2.length, i64 a5, slE (ab Enc.int (ab Enc.str (ab Enc.str (Enc.sl (ab Enc.str Enc.str))))) r.1 (some t12)], .stk t10 (Enc.str.fl r.2), .tok t12 33])) (fun e => cy (.iface 46 (.agg #[.int .i64 e]))) rv) := by
 unfold io at H
 refine au Tryz.func71 rfl rfl ?_;show AW _ _ 45 _ _ _;refine ac ?_;obtain ⟨g13, H⟩ := aQ H;refine aa ?_;show AR _ _ _ _ _ [0, 1, 2, 3, 4, 5, 6] _;refine zS rfl (af (av := .pt _ _) rfl) <| zS rfl (aq rfl) <| zS rfl (an (n := 1) (by kernel_rfl) rfl) <| zR rfl (ao (i := 0) ar rfl rfl rfl rfl) <| zS rfl (eD ar rfl) <| zS rfl (qp rfl rfl g13) <| za rfl <| ag <| ac ?_;obtain ⟨g15, H⟩ := cu H;obtain ⟨g16, H⟩ := cu H;obtain ⟨x17, e18, H⟩ := bI H
 rcases Or.symm (cm H) with ⟨p21, e20, H⟩ | ⟨x19, e20, H⟩
 ·subst H;refine aa ?_;show AR _ _ _ _ _ [0, 1, 2, 3, 4, 5, 6, 7, 8, 9, 10, 11, 12, 13] _;refine zm rfl <| zS rfl (eJ rfl rfl) <| zm rfl <| bb (l := [13]) 23 (B ((decide (0 ≤ (a3.length : Int) - 1)) && (decide (x17 = a8)))) (fun K => ?_) ?_
  ·rcases ak (decide (0 ≤ (a3.length : Int) - 1)) with h14 | h14
   ·refine zU h14 rfl (af (av := .pt _ _) rfl) <| zU h14 rfl (aq rfl) <| zU h14 rfl (an (n := 1) (by kernel_rfl) rfl) <| zT h14 rfl (bP rfl rfl (ao (i := 0) ar rfl rfl rfl rfl) ?_);refine zM h14 rfl <| zU h14 rfl (jv ar (by kernel_rfl) rfl rfl (g15 h14)) <| zT h14 rfl (bP rfl rfl (mJ (E := Enc.str) 1 ah rfl rfl rfl rfl (g16 h14) e18 rfl) ?_);refine zM h14 rfl <| zU h14 rfl (eL rfl rfl) <| zS rfl (aE (av := .v _) rfl h14 rfl) ?_;exact K _ 9 _ (ay (cz h14)) rfl rfl
   ·refine zF h14 rfl <| zF h14 rfl <| zF h14 rfl <| zF h14 rfl <| zF h14 rfl <| zF h14 rfl <| zF h14 rfl <| zF h14 rfl <| zF h14 rfl <| zS rfl (aF (av := .v _) rfl h14 rfl) ?_;exact K _ 9 _ (ay (cA h14)) rfl rfl
  refine am rfl rfl (bm (c := cy (.iface 46 (.agg #[.int .i64 p21]))) [] rfl bw rfl (bA F ((decide (0 ≤ (a3.length : Int) - 1)) && (decide (x17 = a8))) p21 e20) rfl ?_);exact And.intro rfl (Exists.intro [] ⟨aP _, rfl, rfl⟩)
 refine aa ?_;show AR _ _ _ _ _ [0, 1, 2, 3, 4, 5, 6, 7, 8, 9, 10, 11, 12, 13] _;refine zm rfl <| zS rfl (eJ rfl rfl) <| zm rfl <| bb (l := [13]) 23 (B ((decide (0 ≤ (a3.length : Int) - 1)) && (decide (x17 = a8)))) (fun K => ?_) ?_
 ·rcases ak (decide (0 ≤ (a3.length : Int) - 1)) with h14 | h14
  ·refine zU h14 rfl (af (av := .pt _ _) rfl) <| zU h14 rfl (aq rfl) <| zU h14 rfl (an (n := 1) (by kernel_rfl) rfl) <| zT h14 rfl (bP rfl rfl (ao (i := 0) ar rfl rfl rfl rfl) ?_);refine zM h14 rfl <| zU h14 rfl (jv ar (by kernel_rfl) rfl rfl (g15 h14)) <| zT h14 rfl (bP rfl rfl (mJ (E := Enc.str) 1 ah rfl rfl rfl rfl (g16 h14) e18 rfl) ?_);refine zM h14 rfl <| zU h14 rfl (eL rfl rfl) <| zS rfl (aE (av := .v _) rfl h14 rfl) ?_;exact K _ 9 _ (ay (cz h14)) rfl rfl
  ·refine zF h14 rfl <| zF h14 rfl <| zF h14 rfl <| zF h14 rfl <| zF h14 rfl <| zF h14 rfl <| zF h14 rfl <| zF h14 rfl <| zF h14 rfl <| zS rfl (aF (av := .v _) rfl h14 rfl) ?_;exact K _ 9 _ (ay (cA h14)) rfl rfl
 refine am rfl rfl (aG rfl bw rfl (bG F ((decide (0 ≤ (a3.length : Int) - 1)) && (decide (x17 = a8))) e20) ?_);refine ag <| ac ?_;obtain ⟨g22, H⟩ := aQ H;obtain ⟨x23, e24, H⟩ := bI H;refine aa ?_;show AR _ _ _ _ _ [0, 1, 2, 3, 4, 5, 6, 7, 8, 9] _;refine zS rfl (af (av := .pt _ _) rfl) <| zS rfl (af (av := .pt _ _) rfl) <| zS rfl (aq rfl) <| zS rfl (an (n := 1) (by kernel_rfl) rfl) <| zR rfl (ao (i := 0) ar rfl rfl rfl rfl) <| zm rfl <| zR rfl (qN (E := Enc.str) 1 ar (by kernel_rfl) rfl rfl rfl rfl g22 e24) <| zS rfl (aq rfl) <| zS rfl (an (n := 1) (by kernel_rfl) rfl) <| s0 rfl rfl (az (i := 0) (c := .sk _ _) (by kernel_rfl) rfl rfl rfl rfl (ai rfl)) <| ag ?_;obtain ⟨g26, H⟩ := aQ H;obtain ⟨x27, e28, H⟩ := bI H;refine aa ?_;show AR _ _ _ _ _ [0, 1, 2, 3, 4, 5, 6, 7, 8, 9, 10, 11] _
 refine zS rfl (af (av := .pt _ _) rfl) <| zS rfl (af (av := .pt _ _) rfl) <| zS rfl (aq rfl) <| zS rfl (an (n := 3) (by kernel_rfl) rfl) <| zR rfl (ao (i := 0) aw rfl rfl rfl rfl) <| zm rfl <| zS rfl (eN (zs := [.int .i64 0, .string ⟨#[]⟩, .string ⟨#[]⟩, .slice none 0 0]) (ps := [(0, 1), (1, 1), (2, 1), (3, 1)]) (cs := [i64 1, S a8, S ([] : List UInt8), fI]) (by kernel_rfl) rfl rfl) <| zR rfl (dT (ds := [i64 1, S a8, S ([] : List UInt8), slE (ab Enc.str Enc.str) ([] : List ((List UInt8) × List UInt8)) none]) 40 (.cons (.refl _) (.cons (.refl _) (.cons (.refl _) (.cons (.nil _) (.nil))))) (hc := rfl) <| dv (E := (ab Enc.int (ab Enc.str (ab Enc.str (Enc.sl (ab Enc.str Enc.str)))))) (bytes := 64) (zs := [.int .i64 0, .string ⟨#[]⟩, .string ⟨#[]⟩, .slice none 0 0]) (l := ([(1, a8, ([] : List UInt8), ([] : List ((List UInt8) × List UInt8)))] : List (Int × (List UInt8) × (List UInt8) × List ((List UInt8) × List UInt8)))) aw (by kernel_rfl) (by kernel_rfl) rfl rfl rfl rfl rfl) <| zX rfl (gX (E := (ab Enc.int (ab Enc.str (ab Enc.str (Enc.sl (ab Enc.str Enc.str)))))) (bytes := 64) 2 aw aw rfl (by kernel_rfl) rfl rfl rfl rfl g26 e28) ?_;rintro _ _ ⟨t25, rfl, rfl⟩;refine zS rfl (aq rfl) <| zS rfl (an (n := 3) (by kernel_rfl) rfl) <| s0 rfl rfl (az (i := 0) (c := slE _ _ _) (by kernel_rfl) rfl rfl rfl rfl (ai rfl)) <| ag ?_
 obtain rfl := al H;exact And.intro rfl (Exists.intro _ (Exists.intro _ ⟨bK rfl, aH [0, 0, 0] rfl, rfl, t4, t25, rfl⟩))
theorem kE (F : Nat) (o1 : Nat) (a2 : List UInt8) (a3 : List (List UInt8)) (t4 : Nat) (a5 : Int) (a6 : List (Int × (List UInt8) × (List UInt8) × List ((List UInt8) × List UInt8))) (t7 : Nat) (a8 : List UInt8) (r11 : List (Int × (List UInt8) × (List UInt8) × List ((List UInt8) × List UInt8))) (r9 : List (List UInt8)) (H : io F a2 a3 a5 a6 a8 = some (Res.ok (r11, r9))) : ACalls Tryz.prog 71 [.pt o1 0, S a8] [.obj o1 [S a2, .sk t4 a3.length, i64 a5, slE (ab Enc.int (ab Enc.str (ab Enc.str (Enc.sl (ab Enc.str Enc.str))))) a6 (some t7)], .stk t4 (Enc.str.fl a3), .tok t7 33] (fun e A' => e = .ret (.tup []) ∧ ∃ t10 t12, A' = [.obj o1 [S a2, .sk t10 r9.length, i64 a5, slE (ab Enc.int (ab Enc.str (ab Enc.str (Enc.sl (ab Enc.str Enc.str))))) r11 (some t12)], .stk t10 (Enc.str.fl r9), .tok t12 33]) := nC F o1 a2 a3 t4 a5 a6 t7 a8 _ H
theorem jZ (F : Nat) (o1 : Nat) (a2 : List UInt8) (a3 : List (List UInt8)) (t4 : Nat) (a5 : Int) (a6 : List (Int × (List UInt8) × (List UInt8) × List ((List UInt8) × List UInt8))) (t7 : Nat) (a8 : List UInt8) (e : Int) (H : io F a2 a3 a5 a6 a8 = some (Res.pan e)) : ACalls Tryz.prog 71 [.pt o1 0, S a8] [.obj o1 [S a2, .sk t4 a3.length, i64 a5, slE (ab Enc.int (ab Enc.str (ab Enc.str (Enc.sl (ab Enc.str Enc.str))))) a6 (some t7)], .stk t4 (Enc.str.fl a3), .tok t7 33] (fun ae A' => ae = .pan ((fun e => cy (.iface 46 (.agg #[.int .i64 e]))) e) ∧ A' = []) := nC F o1 a2 a3 t4 a5 a6 t7 a8 _ H
set_option maxRecDepth 100000 in
set_option maxHeartbeats 1000000 in
theorem mD (F : Nat) (o1 : Nat) (a2 : List UInt8) (a3 : List (List UInt8)) (t4 : Nat) (a5 : Int) (a6 : List (Int × (List UInt8) × (List UInt8) × List ((List UInt8) × List UInt8))) (t7 : Nat) (rv : Res (Bool × (List UInt8) × (List (Int × (List UInt8) × (List UInt8) × List ((List UInt8) × List UInt8))))) (H : fJ F a2 a3 a5 a6 = some rv) : ACalls Tryz.prog 37 [.pt o1 0] [.obj o1 [S a2, .sk t4 a3.length, i64 a5, slE (ab Enc.int (ab Enc.str (ab Enc.str (Enc.sl (ab Enc.str Enc.str))))) a6 (some t7)], .stk t4 (Enc.str.fl a3), .tok t7 33] (iK (fun (r : Bool × (List UInt8) × (List (Int × (List UInt8) × (List UInt8) × List ((List UInt8) × List UInt8)))) => (fun e A' => e = .ret (B r.1) ∧ ∃ t11, A' = [.obj o1 [S r.2.1, .sk t4 a3.length, i64 a5, slE (ab Enc.int (ab Enc.str (ab Enc.str (Enc.sl (ab Enc.str Enc.str))))) r.2.2 (some t11)], .stk t4 (Enc.str.fl a3), .tok t11 33])) (fun e => cy (.iface 46 (.agg #[.int .i64 e]))) rv) := by
 unfold fJ at H
 refine au Tryz.func37 rfl rfl ?_;show AW _ _ 50 _ _ _;refine ac <| aa ?_;show AR _ _ _ _ _ [0] _;refine za rfl <| ag <| ac ?_;obtain ⟨x12, e13, H⟩ := bI H;refine aa ?_;show AR _ _ _ _ _ [0, 1, 2, 3, 4, 5] _;refine zS rfl (af (av := .pt _ _) rfl) <| zS rfl (aq rfl) <| zS rfl (an (n := 0) (by kernel_rfl) rfl) <| zR rfl (ao (i := 0) ah rfl rfl rfl rfl) <| am rfl rfl (aG rfl lu rfl (show ACalls _ _ _ [] (Ret (i64 x12) []) from by subst e13; exact dz a2 60) ?_);refine za rfl <| ag <| bQ (X := Int) (fun y15 => ⟨[(0, .pt o1 0), (3, i64 y15)], [], [.obj o1 [S a2, .sk t4 a3.length, i64 a5, slE (ab Enc.int (ab Enc.str (ab Enc.str (Enc.sl (ab Enc.str Enc.str))))) a6 (some t7)], .stk t4 (Enc.str.fl a3), .tok t7 33]⟩) (fun y15 => dP F a2 a3 a5 a6 y15 = some rv) ?_ ?_
 ·refine ac <| aa ?_;show AR _ _ _ _ _ [0, 1] _;refine zm rfl <| zS rfl (bW rfl rfl) <| ag <| ax rfl (fun c14 => ?_) (fun c14 => ?_)
  ·replace H := aV c14 H;refine aa ?_;show AR _ _ _ _ _ [0, 1, 2, 3, 4, 5] _;refine zS rfl (af (av := .pt _ _) rfl) <| zS rfl (aq rfl) <| zS rfl (an (n := 0) (by kernel_rfl) rfl) <| zR rfl (ao (i := 0) ah rfl rfl rfl rfl) <| zS rfl (bu ah rfl) <| za rfl <| ag ?_;exact Exists.intro (a2.length : Int) ⟨H, ba [0, 0, 0] (.cons (.refl _) (.cons (.refl _) (.nil _))) rfl⟩
  ·replace H := aW c14 H;refine aB ?_;exact Exists.intro x12 ⟨H, ba [0, 0, 0] (.cons (.refl _) (.cons (.refl _) (.nil _))) rfl⟩
 rintro y15 H;replace H : dP F a2 a3 a5 a6 y15 = some rv := H
 unfold dP at H
 refine ac <| ac <| aa ?_;show AR _ _ _ _ _ [0, 1] _;refine zm rfl <| zS rfl (bM rfl rfl) <| ag <| ax rfl (fun c17 => ?_) (fun c17 => ?_)
 ·replace H := aV c17 H;refine ac <| aa ?_;show AR _ _ _ _ _ [0] _;refine za rfl <| ag <| aI ?_;obtain rfl := al H;exact And.intro rfl (Exists.intro _ (Exists.intro _ ⟨aC rfl (.refl _), aH [0, 0, 0] rfl, rfl, t7, rfl⟩))
 ·replace H := aW c17 H;refine aB <| ac ?_;obtain ⟨g18, H⟩ := aQ H;obtain ⟨x19, e20, H⟩ := bI H;refine aa ?_;show AR _ _ _ _ _ [0, 1, 2, 3, 4, 5, 6] _;refine zS rfl (af (av := .pt _ _) rfl) <| zS rfl (aq rfl) <| zS rfl (an (n := 0) (by kernel_rfl) rfl) <| zR rfl (ao (i := 0) ah rfl rfl rfl rfl) <| zm rfl <| zS rfl (kW ah rfl rfl g18 e20) <| za rfl <| ag <| ac ?_;obtain ⟨g21, H⟩ := aQ H;obtain ⟨x22, e23, H⟩ := bI H;refine aa ?_;show AR _ _ _ _ _ [0, 1, 2, 3, 4, 5, 6, 7, 8, 9] _;refine zS rfl (af (av := .pt _ _) rfl) <| zS rfl (af (av := .pt _ _) rfl) <| zS rfl (aq rfl) <| zS rfl (an (n := 0) (by kernel_rfl) rfl) <| zR rfl (ao (i := 0) ah rfl rfl rfl rfl) <| zm rfl <| zS rfl (dA ah rfl rfl g21 e23) <| zS rfl (aq rfl) <| zS rfl (an (n := 0) (by kernel_rfl) rfl) <| s0 rfl rfl (az (i := 0) (c := .v _) (by kernel_rfl) rfl rfl rfl rfl (ai rfl)) <| ag <| ac ?_
  rcases Or.symm (cm H) with ⟨p26, e25, H⟩ | ⟨x24, e25, H⟩
  ·subst H;refine aa ?_;show AR _ _ _ _ _ [0, 1, 2] _;refine zm rfl <| am rfl rfl (bm (c := cy (.iface 46 (.agg #[.int .i64 p26]))) [] rfl jK rfl (jg F x19 p26 e25) rfl ?_);exact And.intro rfl (Exists.intro [] ⟨aP _, rfl, rfl⟩)
  refine aa ?_;show AR _ _ _ _ _ [0, 1, 2] _;refine zm rfl <| am rfl rfl (aG rfl jK rfl (jt F x19 x24 e25) ?_);refine za rfl <| ag <| ac <| ac <| aa ?_;show AR _ _ _ _ _ [0, 1, 2, 3, 4, 5] _;refine zS rfl (af (av := .pt _ _) rfl) <| zS rfl (aq rfl) <| zS rfl (an (n := 1) (by kernel_rfl) rfl) <| zR rfl (ao (i := 0) ar rfl rfl rfl rfl) <| zS rfl (eD ar rfl) <| zS rfl (bM rfl rfl) <| ag <| ax rfl (fun c27 => ?_) (fun c27 => ?_)
  ·replace H := aV c27 H;refine ac ?_;obtain ⟨x28, e29, H⟩ := eu H
   rcases Or.symm (cm H) with ⟨p32, e31, H⟩ | ⟨x30, e31, H⟩
   ·subst H;refine aa ?_;show AR _ _ _ _ _ [0, 1, 2, 3] _;refine zm rfl <| am rfl rfl (aG rfl oc rfl (mE F x19 x28 e29) ?_);refine zS rfl (eL rfl rfl) <| am rfl rfl (bm (c := cy (.iface 46 (.agg #[.int .i64 p32]))) [] rfl bw rfl (bA F (decide (x28 = ([] : List UInt8))) p32 e31) rfl ?_);exact And.intro rfl (Exists.intro [] ⟨aP _, rfl, rfl⟩)
   refine aa ?_;show AR _ _ _ _ _ [0, 1, 2, 3] _;refine zm rfl <| am rfl rfl (aG rfl oc rfl (mE F x19 x28 e29) ?_);refine zS rfl (eL rfl rfl) <| am rfl rfl (aG rfl bw rfl (bG F (decide (x28 = ([] : List UInt8))) e31) ?_);refine ag <| ac <| aa ?_;show AR _ _ _ _ _ [0] _;refine za rfl <| ag <| aI ?_;obtain rfl := al H;exact And.intro rfl (Exists.intro _ (Exists.intro _ ⟨aC rfl (.refl _), aH [0, 0, 0] rfl, rfl, t7, rfl⟩))
  ·replace H := aW c27 H;refine aB <| ac ?_;obtain ⟨x33, e34, H⟩ := eu H;refine aa ?_;show AR _ _ _ _ _ [0, 1, 2] _;refine zS rfl (af (av := .pt _ _) rfl) <| zm rfl <| am rfl rfl (bg [0, 0, 0] rfl oa rfl (nA F o1 x22 a3 t4 a5 a6 t7 x24 x33 e34) rfl (fun c A' h => by cases h.1) ?_)
   rintro av A' ⟨h, t35, rfl⟩; cases h
   refine ag <| ac <| aa ?_;show AR _ _ _ _ _ [0] _;refine za rfl <| ag <| aI ?_;obtain rfl := al H;exact And.intro rfl (Exists.intro _ (Exists.intro _ ⟨aC rfl (.refl _), aH [0, 0, 0] rfl, rfl, t35, rfl⟩))
theorem ne (F : Nat) (o1 : Nat) (a2 : List UInt8) (a3 : List (List UInt8)) (t4 : Nat) (a5 : Int) (a6 : List (Int × (List UInt8) × (List UInt8) × List ((List UInt8) × List UInt8))) (t7 : Nat) (r8 : Bool) (r9 : List UInt8) (r10 : List (Int × (List UInt8) × (List UInt8) × List ((List UInt8) × List UInt8))) (H : fJ F a2 a3 a5 a6 = some (Res.ok (r8, r9, r10))) : ACalls Tryz.prog 37 [.pt o1 0] [.obj o1 [S a2, .sk t4 a3.length, i64 a5, slE (ab Enc.int (ab Enc.str (ab Enc.str (Enc.sl (ab Enc.str Enc.str))))) a6 (some t7)], .stk t4 (Enc.str.fl a3), .tok t7 33] (fun e A' => e = .ret (B r8) ∧ ∃ t11, A' = [.obj o1 [S r9, .sk t4 a3.length, i64 a5, slE (ab Enc.int (ab Enc.str (ab Enc.str (Enc.sl (ab Enc.str Enc.str))))) r10 (some t11)], .stk t4 (Enc.str.fl a3), .tok t11 33]) := mD F o1 a2 a3 t4 a5 a6 t7 _ H
theorem mo (F : Nat) (o1 : Nat) (a2 : List UInt8) (a3 : List (List UInt8)) (t4 : Nat) (a5 : Int) (a6 : List (Int × (List UInt8) × (List UInt8) × List ((List UInt8) × List UInt8))) (t7 : Nat) (e : Int) (H : fJ F a2 a3 a5 a6 = some (Res.pan e)) : ACalls Tryz.prog 37 [.pt o1 0] [.obj o1 [S a2, .sk t4 a3.length, i64 a5, slE (ab Enc.int (ab Enc.str (ab Enc.str (Enc.sl (ab Enc.str Enc.str))))) a6 (some t7)], .stk t4 (Enc.str.fl a3), .tok t7 33] (fun ae A' => ae = .pan ((fun e => cy (.iface 46 (.agg #[.int .i64 e]))) e) ∧ A' = []) := mD F o1 a2 a3 t4 a5 a6 t7 _ H
set_option maxRecDepth 100000 in
set_option maxHeartbeats 1000000 in
theorem kG (F : Nat) (o1 : Nat) (a2 : List UInt8) (a3 : List (List UInt8)) (t4 : Nat) (a5 : Int) (a6 : List (Int × (List UInt8) × (List UInt8) × List ((List UInt8) × List UInt8))) (t7 : Nat) (rv : Res (Bool × (List UInt8))) (H : fQ F a2 a3 a5 a6 = some rv) : ACalls Tryz.prog 38 [.pt o1 0] [.obj o1 [S a2, .sk t4 a3.length, i64 a5, slE (ab Enc.int (ab Enc.str (ab Enc.str (Enc.sl (ab Enc.str Enc.str))))) a6 (some t7)], .stk t4 (Enc.str.fl a3), .tok t7 33] (iK (fun (r : Bool × (List UInt8)) => (fun e A' => e = .ret (B r.1) ∧ A' = [.obj o1 [S r.2, .sk t4 a3.length, i64 a5, slE (ab Enc.int (ab Enc.str (ab Enc.str (Enc.sl (ab Enc.str Enc.str))))) a6 (some t7)], .stk t4 (Enc.str.fl a3), .tok t7 33])) (fun e => cy (.iface 46 (.agg #[.int .i64 e]))) rv) := by
 unfold fQ at H
 refine au Tryz.func38 rfl rfl ?_;show AW _ _ 8 _ _ _;refine ac <| aa ?_;show AR _ _ _ _ _ [0] _;refine za rfl <| ag <| ac <| ac ?_;obtain ⟨x10, x11, e12, H⟩ := cU H;refine aa ?_;show AR _ _ _ _ _ [0, 1, 2] _;refine zS rfl (af (av := .pt _ _) rfl) <| am rfl rfl (bg [0, 0, 0] rfl df rfl (dd F o1 a2 a3 t4 a5 a6 t7 ([60, 33, 45, 45] : List UInt8) x10 x11 e12) rfl (fun c A' h => by cases h.1) ?_)
 rintro av A' ⟨h, rfl⟩; cases h
 refine zS rfl (ce rfl) <| ag <| ax rfl (fun c13 => ?_) (fun c13 => ?_)
 ·replace H := aV c13 H;refine ac <| aa ?_;show AR _ _ _ _ _ [0] _;refine za rfl <| ag <| aI ?_;obtain rfl := al H;exact And.intro rfl (Exists.intro _ (Exists.intro _ ⟨aC rfl (.refl _), aH [0, 0, 0] rfl, rfl, rfl⟩))
 ·replace H := aW c13 H;refine aB <| ac ?_
  rcases Or.symm (cm H) with ⟨p16, e15, H⟩ | ⟨x14, e15, H⟩
  ·subst H;refine aa ?_;show AR _ _ _ _ _ [0, 1] _;refine zS rfl (af (av := .pt _ _) rfl) <| am rfl rfl (bm (c := cy (.iface 46 (.agg #[.int .i64 p16]))) [0, 0, 0] rfl ej rfl (eU F o1 x11 a3 t4 a5 a6 t7 ([45, 45, 62] : List UInt8) p16 e15) rfl ?_);exact And.intro rfl (Exists.intro [] ⟨aP _, rfl, rfl⟩)
  refine aa ?_;show AR _ _ _ _ _ [0, 1] _;refine zS rfl (af (av := .pt _ _) rfl) <| am rfl rfl (bg [0, 0, 0] rfl ej rfl (fH F o1 x11 a3 t4 a5 a6 t7 ([45, 45, 62] : List UInt8) x14.1 x14.2 e15) rfl (fun c A' h => by cases h.1) ?_)
  rintro av A' ⟨h, rfl⟩; cases h
  refine ag <| ac <| aa ?_;show AR _ _ _ _ _ [0] _;refine za rfl <| ag <| aI ?_;obtain rfl := al H;exact And.intro rfl (Exists.intro _ (Exists.intro _ ⟨aC rfl (.refl _), aH [0, 0, 0] rfl, rfl, rfl⟩))
theorem lZ (F : Nat) (o1 : Nat) (a2 : List UInt8) (a3 : List (List UInt8)) (t4 : Nat) (a5 : Int) (a6 : List (Int × (List UInt8) × (List UInt8) × List ((List UInt8) × List UInt8))) (t7 : Nat) (r8 : Bool) (r9 : List UInt8) (H : fQ F a2 a3 a5 a6 = some (Res.ok (r8, r9))) : ACalls Tryz.prog 38 [.pt o1 0] [.obj o1 [S a2, .sk t4 a3.length, i64 a5, slE (ab Enc.int (ab Enc.str (ab Enc.str (Enc.sl (ab Enc.str Enc.str))))) a6 (some t7)], .stk t4 (Enc.str.fl a3), .tok t7 33] (fun e A' => e = .ret (B r8) ∧ A' = [.obj o1 [S r9, .sk t4 a3.length, i64 a5, slE (ab Enc.int (ab Enc.str (ab Enc.str (Enc.sl (ab Enc.str Enc.str))))) a6 (some t7)], .stk t4 (Enc.str.fl a3), .tok t7 33]) := kG F o1 a2 a3 t4 a5 a6 t7 _ H
theorem lh (F : Nat) (o1 : Nat) (a2 : List UInt8) (a3 : List (List UInt8)) (t4 : Nat) (a5 : Int) (a6 : List (Int × (List UInt8) × (List UInt8) × List ((List UInt8) × List UInt8))) (t7 : Nat) (e : Int) (H : fQ F a2 a3 a5 a6 = some (Res.pan e)) : ACalls Tryz.prog 38 [.pt o1 0] [.obj o1 [S a2, .sk t4 a3.length, i64 a5, slE (ab Enc.int (ab Enc.str (ab Enc.str (Enc.sl (ab Enc.str Enc.str))))) a6 (some t7)], .stk t4 (Enc.str.fl a3), .tok t7 33] (fun ae A' => ae = .pan ((fun e => cy (.iface 46 (.agg #[.int .i64 e]))) e) ∧ A' = []) := kG F o1 a2 a3 t4 a5 a6 t7 _ H
set_option maxRecDepth 100000 in
set_option maxHeartbeats 1000000 in
theorem pW (F : Nat) (o1 : Nat) (a2 : List UInt8) (a3 : List (List UInt8)) (t4 : Nat) (a5 : Int) (a6 : List (Int × (List UInt8) × (List UInt8) × List ((List UInt8) × List UInt8))) (t7 : Nat) (rv : Res (Bool × (List UInt8))) (H : lV F a2 a3 a5 a6 = some rv) : ACalls Tryz.prog 39 [.pt o1 0] [.obj o1 [S a2, .sk t4 a3.length, i64 a5, slE (ab Enc.int (ab Enc.str (ab Enc.str (Enc.sl (ab Enc.str Enc.str))))) a6 (some t7)], .stk t4 (Enc.str.fl a3), .tok t7 33] (iK (fun (r : Bool × (List UInt8)) => (fun e A' => e = .ret (B r.1) ∧ A' = [.obj o1 [S r.2, .sk t4 a3.length, i64 a5, slE (ab Enc.int (ab Enc.str (ab Enc.str (Enc.sl (ab Enc.str Enc.str))))) a6 (some t7)], .stk t4 (Enc.str.fl a3), .tok t7 33])) (fun e => cy (.iface 46 (.agg #[.int .i64 e]))) rv) := by
 unfold lV at H
 refine au Tryz.func39 rfl rfl ?_;show AW _ _ 8 _ _ _;refine ac <| aa ?_;show AR _ _ _ _ _ [0] _;refine za rfl <| ag <| ac <| ac ?_;obtain ⟨x10, x11, e12, H⟩ := cU H;refine aa ?_;show AR _ _ _ _ _ [0, 1, 2] _;refine zS rfl (af (av := .pt _ _) rfl) <| am rfl rfl (bg [0, 0, 0] rfl df rfl (dd F o1 a2 a3 t4 a5 a6 t7 ([60, 63] : List UInt8) x10 x11 e12) rfl (fun c A' h => by cases h.1) ?_)
 rintro av A' ⟨h, rfl⟩; cases h
 refine zS rfl (ce rfl) <| ag <| ax rfl (fun c13 => ?_) (fun c13 => ?_)
 ·replace H := aV c13 H;refine ac <| aa ?_;show AR _ _ _ _ _ [0] _;refine za rfl <| ag <| aI ?_;obtain rfl := al H;exact And.intro rfl (Exists.intro _ (Exists.intro _ ⟨aC rfl (.refl _), aH [0, 0, 0] rfl, rfl, rfl⟩))
 ·replace H := aW c13 H;refine aB <| ac ?_
  rcases Or.symm (cm H) with ⟨p16, e15, H⟩ | ⟨x14, e15, H⟩
  ·subst H;refine aa ?_;show AR _ _ _ _ _ [0, 1] _;refine zS rfl (af (av := .pt _ _) rfl) <| am rfl rfl (bm (c := cy (.iface 46 (.agg #[.int .i64 p16]))) [0, 0, 0] rfl ej rfl (eU F o1 x11 a3 t4 a5 a6 t7 ([63, 62] : List UInt8) p16 e15) rfl ?_);exact And.intro rfl (Exists.intro [] ⟨aP _, rfl, rfl⟩)
  refine aa ?_;show AR _ _ _ _ _ [0, 1] _;refine zS rfl (af (av := .pt _ _) rfl) <| am rfl rfl (bg [0, 0, 0] rfl ej rfl (fH F o1 x11 a3 t4 a5 a6 t7 ([63, 62] : List UInt8) x14.1 x14.2 e15) rfl (fun c A' h => by cases h.1) ?_)
  rintro av A' ⟨h, rfl⟩; cases h
  refine ag <| ac <| aa ?_;show AR _ _ _ _ _ [0] _;refine za rfl <| ag <| aI ?_;obtain rfl := al H;exact And.intro rfl (Exists.intro _ (Exists.intro _ ⟨aC rfl (.refl _), aH [0, 0, 0] rfl, rfl, rfl⟩))
theorem pB (F : Nat) (o1 : Nat) (a2 : List UInt8) (a3 : List (List UInt8)) (t4 : Nat) (a5 : Int) (a6 : List (Int × (List UInt8) × (List UInt8) × List ((List UInt8) × List UInt8))) (t7 : Nat) (r8 : Bool) (r9 : List UInt8) (H : lV F a2 a3 a5 a6 = some (Res.ok (r8, r9))) : ACalls Tryz.prog 39 [.pt o1 0] [.obj o1 [S a2, .sk t4 a3.length, i64 a5, slE (ab Enc.int (ab Enc.str (ab Enc.str (Enc.sl (ab Enc.str Enc.str))))) a6 (some t7)], .stk t4 (Enc.str.fl a3), .tok t7 33] (fun e A' => e = .ret (B r8) ∧ A' = [.obj o1 [S r9, .sk t4 a3.length, i64 a5, slE (ab Enc.int (ab Enc.str (ab Enc.str (Enc.sl (ab Enc.str Enc.str))))) a6 (some t7)], .stk t4 (Enc.str.fl a3), .tok t7 33]) := pW F o1 a2 a3 t4 a5 a6 t7 _ H
theorem oG (F : Nat) (o1 : Nat) (a2 : List UInt8) (a3 : List (List UInt8)) (t4 : Nat) (a5 : Int) (a6 : List (Int × (List UInt8) × (List UInt8) × List ((List UInt8) × List UInt8))) (t7 : Nat) (e : Int) (H : lV F a2 a3 a5 a6 = some (Res.pan e)) : ACalls Tryz.prog 39 [.pt o1 0] [.obj o1 [S a2, .sk t4 a3.length, i64 a5, slE (ab Enc.int (ab Enc.str (ab Enc.str (Enc.sl (ab Enc.str Enc.str))))) a6 (some t7)], .stk t4 (Enc.str.fl a3), .tok t7 33] (fun ae A' => ae = .pan ((fun e => cy (.iface 46 (.agg #[.int .i64 e]))) e) ∧ A' = []) := pW F o1 a2 a3 t4 a5 a6 t7 _ H
set_option maxRecDepth 100000 in
set_option maxHeartbeats 1000000 in
theorem nE (F : Nat) (o1 : Nat) (a2 : List UInt8) (a3 : List (List UInt8)) (t4 : Nat) (a5 : Int) (a6 : List (Int × (List UInt8) × (List UInt8) × List ((List UInt8) × List UInt8))) (t7 : Nat) (rv : Res (Bool × (List UInt8) × (List (Int × (List UInt8) × (List UInt8) × List ((List UInt8) × List UInt8))))) (H : iq F a2 a3 a5 a6 = some rv) : ACalls Tryz.prog 40 [.pt o1 0] [.obj o1 [S a2, .sk t4 a3.length, i64 a5, slE (ab Enc.int (ab Enc.str (ab Enc.str (Enc.sl (ab Enc.str Enc.str))))) a6 (some t7)], .stk t4 (Enc.str.fl a3), .tok t7 33] (iK (fun (r : Bool × (List UInt8) × (List (Int × (List UInt8) × (List UInt8) × List ((List UInt8) × List UInt8)))) => (fun e A' => e = .ret (B r.1) ∧ ∃ t11, A' = [.obj o1 [S r.2.1, .sk t4 a3.length, i64 a5, slE (ab Enc.int (ab Enc.str (ab Enc.str (Enc.sl (ab Enc.str Enc.str))))) r.2.2 (some t11)], .stk t4 (Enc.str.fl a3), .tok t11 33])) (fun e => cy (.iface 46 (.agg #[.int .i64 e]))) rv) := by
 unfold iq at H
 refine au Tryz.func40 rfl rfl ?_;show AW _ _ 19 _ _ _;refine ac <| aa ?_;show AR _ _ _ _ _ [0] _;refine za rfl <| ag <| ac <| ac ?_;obtain ⟨x12, x13, e14, H⟩ := cU H;refine aa ?_;show AR _ _ _ _ _ [0, 1, 2] _;refine zS rfl (af (av := .pt _ _) rfl) <| am rfl rfl (bg [0, 0, 0] rfl df rfl (dd F o1 a2 a3 t4 a5 a6 t7 ([60, 33, 91, 67, 68, 65, 84, 65, 91] : List UInt8) x12 x13 e14) rfl (fun c A' h => by cases h.1) ?_)
 rintro av A' ⟨h, rfl⟩; cases h
 refine zS rfl (ce rfl) <| ag <| ax rfl (fun c15 => ?_) (fun c15 => ?_)
 ·replace H := aV c15 H;refine ac <| aa ?_;show AR _ _ _ _ _ [0] _;refine za rfl <| ag <| aI ?_;obtain rfl := al H;exact And.intro rfl (Exists.intro _ (Exists.intro _ ⟨aC rfl (.refl _), aH [0, 0, 0] rfl, rfl, t7, rfl⟩))
 ·replace H := aW c15 H;refine aB <| ac ?_
  rcases Or.symm (cm H) with ⟨p18, e17, H⟩ | ⟨x16, e17, H⟩
  ·subst H;refine aa ?_;show AR _ _ _ _ _ [0, 1, 2] _;refine zS rfl (af (av := .pt _ _) rfl) <| am rfl rfl (bm (c := cy (.iface 46 (.agg #[.int .i64 p18]))) [0, 0, 0] rfl ej rfl (eU F o1 x13 a3 t4 a5 a6 t7 ([93, 93, 62] : List UInt8) p18 e17) rfl ?_);exact And.intro rfl (Exists.intro [] ⟨aP _, rfl, rfl⟩)
  refine aa ?_;show AR _ _ _ _ _ [0, 1, 2] _;refine zS rfl (af (av := .pt _ _) rfl) <| am rfl rfl (bg [0, 0, 0] rfl ej rfl (fH F o1 x13 a3 t4 a5 a6 t7 ([93, 93, 62] : List UInt8) x16.1 x16.2 e17) rfl (fun c A' h => by cases h.1) ?_)
  rintro av A' ⟨h, rfl⟩; cases h
  refine za rfl <| ag <| ac ?_
  rcases Or.symm (cm H) with ⟨p21, e20, H⟩ | ⟨x19, e20, H⟩
  ·subst H;refine aa ?_;show AR _ _ _ _ _ [0, 1, 2, 3, 4, 5, 6] _;refine zS rfl (af (av := .pt _ _) rfl) <| zS rfl (aq rfl) <| zS rfl (an (n := 1) (by kernel_rfl) rfl) <| zR rfl (ao (i := 0) ar rfl rfl rfl rfl) <| zS rfl (eD ar rfl) <| zS rfl (gl rfl rfl) <| am rfl rfl (bm (c := cy (.iface 46 (.agg #[.int .i64 p21]))) [] rfl bw rfl (bA F (decide (0 < (a3.length : Int))) p21 e20) rfl ?_);exact And.intro rfl (Exists.intro [] ⟨aP _, rfl, rfl⟩)
  refine aa ?_;show AR _ _ _ _ _ [0, 1, 2, 3, 4, 5, 6] _;refine zS rfl (af (av := .pt _ _) rfl) <| zS rfl (aq rfl) <| zS rfl (an (n := 1) (by kernel_rfl) rfl) <| zR rfl (ao (i := 0) ar rfl rfl rfl rfl) <| zS rfl (eD ar rfl) <| zS rfl (gl rfl rfl) <| am rfl rfl (aG rfl bw rfl (bG F (decide (0 < (a3.length : Int))) e20) ?_);refine ag <| ac ?_;obtain ⟨x22, e23, H⟩ := eu H;refine aa ?_;show AR _ _ _ _ _ [0, 1, 2] _;refine zS rfl (af (av := .pt _ _) rfl) <| zm rfl <| am rfl rfl (bg [0, 0, 0] rfl oa rfl (nA F o1 x16.2 a3 t4 a5 a6 t7 x16.1 x22 e23) rfl (fun c A' h => by cases h.1) ?_)
  rintro av A' ⟨h, t24, rfl⟩; cases h
  refine ag <| ac <| aa ?_;show AR _ _ _ _ _ [0] _;refine za rfl <| ag <| aI ?_;obtain rfl := al H;exact And.intro rfl (Exists.intro _ (Exists.intro _ ⟨aC rfl (.refl _), aH [0, 0, 0] rfl, rfl, t24, rfl⟩))
theorem oD (F : Nat) (o1 : Nat) (a2 : List UInt8) (a3 : List (List UInt8)) (t4 : Nat) (a5 : Int) (a6 : List (Int × (List UInt8) × (List UInt8) × List ((List UInt8) × List UInt8))) (t7 : Nat) (r8 : Bool) (r9 : List UInt8) (r10 : List (Int × (List UInt8) × (List UInt8) × List ((List UInt8) × List UInt8))) (H : iq F a2 a3 a5 a6 = some (Res.ok (r8, r9, r10))) : ACalls Tryz.prog 40 [.pt o1 0] [.obj o1 [S a2, .sk t4 a3.length, i64 a5, slE (ab Enc.int (ab Enc.str (ab Enc.str (Enc.sl (ab Enc.str Enc.str))))) a6 (some t7)], .stk t4 (Enc.str.fl a3), .tok t7 33] (fun e A' => e = .ret (B r8) ∧ ∃ t11, A' = [.obj o1 [S r9, .sk t4 a3.length, i64 a5, slE (ab Enc.int (ab Enc.str (ab Enc.str (Enc.sl (ab Enc.str Enc.str))))) r10 (some t11)], .stk t4 (Enc.str.fl a3), .tok t11 33]) := nE F o1 a2 a3 t4 a5 a6 t7 _ H
theorem ng (F : Nat) (o1 : Nat) (a2 : List UInt8) (a3 : List (List UInt8)) (t4 : Nat) (a5 : Int) (a6 : List (Int × (List UInt8) × (List UInt8) × List ((List UInt8) × List UInt8))) (t7 : Nat) (e : Int) (H : iq F a2 a3 a5 a6 = some (Res.pan e)) : ACalls Tryz.prog 40 [.pt o1 0] [.obj o1 [S a2, .sk t4 a3.length, i64 a5, slE (ab Enc.int (ab Enc.str (ab Enc.str (Enc.sl (ab Enc.str Enc.str))))) a6 (some t7)], .stk t4 (Enc.str.fl a3), .tok t7 33] (fun ae A' => ae = .pan ((fun e => cy (.iface 46 (.agg #[.int .i64 e]))) e) ∧ A' = []) := nE F o1 a2 a3 t4 a5 a6 t7 _ H
set_option maxRecDepth 100000 in
set_option maxHeartbeats 1000000 in
theorem pV (F : Nat) (o1 : Nat) (a2 : List UInt8) (a3 : List (List UInt8)) (t4 : Nat) (a5 : Int) (a6 : List (Int × (List UInt8) × (List UInt8) × List ((List UInt8) × List UInt8))) (t7 : Nat) (rv : Res (Bool × (List UInt8))) (H : lU F a2 a3 a5 a6 = some rv) : ACalls Tryz.prog 41 [.pt o1 0] [.obj o1 [S a2, .sk t4 a3.length, i64 a5, slE (ab Enc.int (ab Enc.str (ab Enc.str (Enc.sl (ab Enc.str Enc.str))))) a6 (some t7)], .stk t4 (Enc.str.fl a3), .tok t7 33] (iK (fun (r : Bool × (List UInt8)) => (fun e A' => e = .ret (B r.1) ∧ A' = [.obj o1 [S r.2, .sk t4 a3.length, i64 a5, slE (ab Enc.int (ab Enc.str (ab Enc.str (Enc.sl (ab Enc.str Enc.str))))) a6 (some t7)], .stk t4 (Enc.str.fl a3), .tok t7 33])) (fun e => cy (.iface 46 (.agg #[.int .i64 e]))) rv) := by
 unfold lU at H
 refine au Tryz.func41 rfl rfl ?_;show AW _ _ 8 _ _ _;refine ac <| aa ?_;show AR _ _ _ _ _ [0] _;refine za rfl <| ag <| ac <| ac ?_;obtain ⟨x10, x11, e12, H⟩ := cU H;refine aa ?_;show AR _ _ _ _ _ [0, 1, 2] _;refine zS rfl (af (av := .pt _ _) rfl) <| am rfl rfl (bg [0, 0, 0] rfl df rfl (dd F o1 a2 a3 t4 a5 a6 t7 ([60, 33] : List UInt8) x10 x11 e12) rfl (fun c A' h => by cases h.1) ?_)
 rintro av A' ⟨h, rfl⟩; cases h
 refine zS rfl (ce rfl) <| ag <| ax rfl (fun c13 => ?_) (fun c13 => ?_)
 ·replace H := aV c13 H;refine ac <| aa ?_;show AR _ _ _ _ _ [0] _;refine za rfl <| ag <| aI ?_;obtain rfl := al H;exact And.intro rfl (Exists.intro _ (Exists.intro _ ⟨aC rfl (.refl _), aH [0, 0, 0] rfl, rfl, rfl⟩))
 ·replace H := aW c13 H;refine aB <| ac ?_
  rcases Or.symm (cm H) with ⟨p16, e15, H⟩ | ⟨x14, e15, H⟩
  ·subst H;refine aa ?_;show AR _ _ _ _ _ [0, 1] _;refine zS rfl (af (av := .pt _ _) rfl) <| am rfl rfl (bm (c := cy (.iface 46 (.agg #[.int .i64 p16]))) [0, 0, 0] rfl ej rfl (eU F o1 x11 a3 t4 a5 a6 t7 ([62] : List UInt8) p16 e15) rfl ?_);exact And.intro rfl (Exists.intro [] ⟨aP _, rfl, rfl⟩)
  refine aa ?_;show AR _ _ _ _ _ [0, 1] _;refine zS rfl (af (av := .pt _ _) rfl) <| am rfl rfl (bg [0, 0, 0] rfl ej rfl (fH F o1 x11 a3 t4 a5 a6 t7 ([62] : List UInt8) x14.1 x14.2 e15) rfl (fun c A' h => by cases h.1) ?_)
  rintro av A' ⟨h, rfl⟩; cases h
  refine ag <| ac <| aa ?_;show AR _ _ _ _ _ [0] _;refine za rfl <| ag <| aI ?_;obtain rfl := al H;exact And.intro rfl (Exists.intro _ (Exists.intro _ ⟨aC rfl (.refl _), aH [0, 0, 0] rfl, rfl, rfl⟩))
theorem pA (F : Nat) (o1 : Nat) (a2 : List UInt8) (a3 : List (List UInt8)) (t4 : Nat) (a5 : Int) (a6 : List (Int × (List UInt8) × (List UInt8) × List ((List UInt8) × List UInt8))) (t7 : Nat) (r8 : Bool) (r9 : List UInt8) (H : lU F a2 a3 a5 a6 = some (Res.ok (r8, r9))) : ACalls Tryz.prog 41 [.pt o1 0] [.obj o1 [S a2, .sk t4 a3.length, i64 a5, slE (ab Enc.int (ab Enc.str (ab Enc.str (Enc.sl (ab Enc.str Enc.str))))) a6 (some t7)], .stk t4 (Enc.str.fl a3), .tok t7 33] (fun e A' => e = .ret (B r8) ∧ A' = [.obj o1 [S r9, .sk t4 a3.length, i64 a5, slE (ab Enc.int (ab Enc.str (ab Enc.str (Enc.sl (ab Enc.str Enc.str))))) a6 (some t7)], .stk t4 (Enc.str.fl a3), .tok t7 33]) := pV F o1 a2 a3 t4 a5 a6 t7 _ H
theorem oC (F : Nat) (o1 : Nat) (a2 : List UInt8) (a3 : List (List UInt8)) (t4 : Nat) (a5 : Int) (a6 : List (Int × (List UInt8) × (List UInt8) × List ((List UInt8) × List UInt8))) (t7 : Nat) (e : Int) (H : lU F a2 a3 a5 a6 = some (Res.pan e)) : ACalls Tryz.prog 41 [.pt o1 0] [.obj o1 [S a2, .sk t4 a3.length, i64 a5, slE (ab Enc.int (ab Enc.str (ab Enc.str (Enc.sl (ab Enc.str Enc.str))))) a6 (some t7)], .stk t4 (Enc.str.fl a3), .tok t7 33] (fun ae A' => ae = .pan ((fun e => cy (.iface 46 (.agg #[.int .i64 e]))) e) ∧ A' = []) := pV F o1 a2 a3 t4 a5 a6 t7 _ H
set_option maxRecDepth 100000 in
set_option maxHeartbeats 1000000 in
theorem lD (F : Nat) (o1 : Nat) (a2 : List UInt8) (a3 : List (List UInt8)) (t4 : Nat) (a5 : Int) (a6 : List (Int × (List UInt8) × (List UInt8) × List ((List UInt8) × List UInt8))) (t7 : Nat) (rv : Res (Bool × (List UInt8) × (List (Int × (List UInt8) × (List UInt8) × List ((List UInt8) × List UInt8))) × (List (List UInt8)))) (H : fw F a2 a3 a5 a6 = some rv) : ACalls Tryz.prog 42 [.pt o1 0] [.obj o1 [S a2, .sk t4 a3.length, i64 a5, slE (ab Enc.int (ab Enc.str (ab Enc.str (Enc.sl (ab Enc.str Enc.str))))) a6 (some t7)], .stk t4 (Enc.str.fl a3), .tok t7 33] (iK (fun (r : Bool × (List UInt8) × (List (Int × (List UInt8) × (List UInt8) × List ((List UInt8) × List UInt8))) × (List (List UInt8))) => (fun e A' => e = .ret (B r.1) ∧ ∃ t11 t13, A' = [.obj o1 [S r.2.1, .sk t11 r.2.2.2.length, i64 a5, slE (ab Enc.int (ab Enc.str (ab Enc.str (Enc.sl (ab Enc.str Enc.str))))) r.2.2.1 (some t13)], .stk t11 (Enc.str.fl r.2.2.2), .tok t13 33])) (fun e => cy (.iface 46 (.agg #[.int .i64 e]))) rv) := by
 unfold fw at H
 refine au Tryz.func42 rfl rfl ?_;show AW _ _ 17 _ _ _;refine ac <| aa ?_;show AR _ _ _ _ _ [0] _;refine za rfl <| ag <| ac <| ac ?_;obtain ⟨x14, x15, e16, H⟩ := cU H;refine aa ?_;show AR _ _ _ _ _ [0, 1, 2] _;refine zS rfl (af (av := .pt _ _) rfl) <| am rfl rfl (bg [0, 0, 0] rfl df rfl (dd F o1 a2 a3 t4 a5 a6 t7 ([60, 47] : List UInt8) x14 x15 e16) rfl (fun c A' h => by cases h.1) ?_)
 rintro av A' ⟨h, rfl⟩; cases h
 refine zS rfl (ce rfl) <| ag <| ax rfl (fun c17 => ?_) (fun c17 => ?_)
 ·replace H := aV c17 H;refine ac <| aa ?_;show AR _ _ _ _ _ [0] _;refine za rfl <| ag <| aI ?_;obtain rfl := al H;exact And.intro rfl (Exists.intro _ (Exists.intro _ ⟨aC rfl (.refl _), aH [0, 0, 0] rfl, rfl, t4, t7, rfl⟩))
 ·replace H := aW c17 H;refine aB <| ac ?_
  rcases Or.symm (cm H) with ⟨p20, e19, H⟩ | ⟨x18, e19, H⟩
  ·subst H;refine aa ?_;show AR _ _ _ _ _ [0, 1, 2] _;refine zS rfl (af (av := .pt _ _) rfl) <| am rfl rfl (bm (c := cy (.iface 46 (.agg #[.int .i64 p20]))) [0, 0, 0] rfl gL rfl (ia F o1 x15 a3 t4 a5 a6 t7 p20 e19) rfl ?_);exact And.intro rfl (Exists.intro [] ⟨aP _, rfl, rfl⟩)
  refine aa ?_;show AR _ _ _ _ _ [0, 1, 2] _;refine zS rfl (af (av := .pt _ _) rfl) <| am rfl rfl (bg [0, 0, 0] rfl gL rfl (iV F o1 x15 a3 t4 a5 a6 t7 x18.1 x18.2 e19) rfl (fun c A' h => by cases h.1) ?_)
  rintro av A' ⟨h, rfl⟩; cases h
  refine za rfl <| ag <| ac ?_;obtain ⟨x21, x22, e23, H⟩ := cU H;refine aa ?_;show AR _ _ _ _ _ [0, 1] _;refine zS rfl (af (av := .pt _ _) rfl) <| am rfl rfl (bg [0, 0, 0] rfl nZ rfl (lC F o1 x18.2 a3 t4 a5 a6 t7 x21 x22 e23) rfl (fun c A' h => by cases h.1) ?_)
  rintro av A' ⟨h, rfl⟩; cases h
  refine ag <| ac ?_;obtain ⟨x24, x25, e26, H⟩ := cU H
  rcases Or.symm (cm H) with ⟨p29, e28, H⟩ | ⟨x27, e28, H⟩
  ·subst H;refine aa ?_;show AR _ _ _ _ _ [0, 1, 2] _;refine zS rfl (af (av := .pt _ _) rfl) <| am rfl rfl (bg [0, 0, 0] rfl df rfl (dd F o1 x22 a3 t4 a5 a6 t7 ([62] : List UInt8) x24 x25 e26) rfl (fun c A' h => by cases h.1) ?_)
   rintro av A' ⟨h, rfl⟩; cases h
   refine am rfl rfl (bm (c := cy (.iface 46 (.agg #[.int .i64 p29]))) [] rfl bw rfl (bA F x24 p29 e28) rfl ?_);exact And.intro rfl (Exists.intro [] ⟨aP _, rfl, rfl⟩)
  refine aa ?_;show AR _ _ _ _ _ [0, 1, 2] _;refine zS rfl (af (av := .pt _ _) rfl) <| am rfl rfl (bg [0, 0, 0] rfl df rfl (dd F o1 x22 a3 t4 a5 a6 t7 ([62] : List UInt8) x24 x25 e26) rfl (fun c A' h => by cases h.1) ?_)
  rintro av A' ⟨h, rfl⟩; cases h
  refine am rfl rfl (aG rfl bw rfl (bG F x24 e28) ?_);refine ag <| ac ?_
  rcases Or.symm (cm H) with ⟨p32, e31, H⟩ | ⟨x30, e31, H⟩
  ·subst H;refine aa ?_;show AR _ _ _ _ _ [0, 1, 2] _;refine zS rfl (af (av := .pt _ _) rfl) <| zm rfl <| am rfl rfl (bm (c := cy (.iface 46 (.agg #[.int .i64 p32]))) [0, 0, 0] rfl jJ rfl (jZ F o1 x25 a3 t4 a5 a6 t7 x18.1 p32 e31) rfl ?_);exact And.intro rfl (Exists.intro [] ⟨aP _, rfl, rfl⟩)
  refine aa ?_;show AR _ _ _ _ _ [0, 1, 2] _;refine zS rfl (af (av := .pt _ _) rfl) <| zm rfl <| am rfl rfl (bg [0, 0, 0] rfl jJ rfl (kE F o1 x25 a3 t4 a5 a6 t7 x18.1 x30.1 x30.2 e31) rfl (fun c A' h => by cases h.1) ?_)
  rintro av A' ⟨h, t33, t34, rfl⟩; cases h
  refine ag <| ac <| aa ?_;show AR _ _ _ _ _ [0] _;refine za rfl <| ag <| aI ?_;obtain rfl := al H;exact And.intro rfl (Exists.intro _ (Exists.intro _ ⟨aC rfl (.refl _), aH [0, 0, 0] rfl, rfl, t33, t34, rfl⟩))
theorem mq (F : Nat) (o1 : Nat) (a2 : List UInt8) (a3 : List (List UInt8)) (t4 : Nat) (a5 : Int) (a6 : List (Int × (List UInt8) × (List UInt8) × List ((List UInt8) × List UInt8))) (t7 : Nat) (r8 : Bool) (r9 : List UInt8) (r12 : List (Int × (List UInt8) × (List UInt8) × List ((List UInt8) × List UInt8))) (r10 : List (List UInt8)) (H : fw F a2 a3 a5 a6 = some (Res.ok (r8, r9, r12, r10))) : ACalls Tryz.prog 42 [.pt o1 0] [.obj o1 [S a2, .sk t4 a3.length, i64 a5, slE (ab Enc.int (ab Enc.str (ab Enc.str (Enc.sl (ab Enc.str Enc.str))))) a6 (some t7)], .stk t4 (Enc.str.fl a3), .tok t7 33] (fun e A' => e = .ret (B r8) ∧ ∃ t11 t13, A' = [.obj o1 [S r9, .sk t11 r10.length, i64 a5, slE (ab Enc.int (ab Enc.str (ab Enc.str (Enc.sl (ab Enc.str Enc.str))))) r12 (some t13)], .stk t11 (Enc.str.fl r10), .tok t13 33]) := lD F o1 a2 a3 t4 a5 a6 t7 _ H
theorem lX (F : Nat) (o1 : Nat) (a2 : List UInt8) (a3 : List (List UInt8)) (t4 : Nat) (a5 : Int) (a6 : List (Int × (List UInt8) × (List UInt8) × List ((List UInt8) × List UInt8))) (t7 : Nat) (e : Int) (H : fw F a2 a3 a5 a6 = some (Res.pan e)) : ACalls Tryz.prog 42 [.pt o1 0] [.obj o1 [S a2, .sk t4 a3.length, i64 a5, slE (ab Enc.int (ab Enc.str (ab Enc.str (Enc.sl (ab Enc.str Enc.str))))) a6 (some t7)], .stk t4 (Enc.str.fl a3), .tok t7 33] (fun ae A' => ae = .pan ((fun e => cy (.iface 46 (.agg #[.int .i64 e]))) e) ∧ A' = []) := lD F o1 a2 a3 t4 a5 a6 t7 _ H
abbrev _root_.Go.Av.bV := @Tryz.underlying44
set_option maxRecDepth 100000 in
set_option maxHeartbeats 1000000 in
theorem nF (F : Nat) (o1 : Nat) (a2 : List UInt8) (a3 : List (List UInt8)) (t4 : Nat) (a5 : Int) (a6 : List (Int × (List UInt8) × (List UInt8) × List ((List UInt8) × List UInt8))) (t7 : Nat) (rv : Res ((List UInt8) × (List UInt8) × (List UInt8))) (H : jm F a2 a3 a5 a6 = some rv) : ACalls Tryz.prog 72 [.pt o1 0] [.obj o1 [S a2, .sk t4 a3.length, i64 a5, slE (ab Enc.int (ab Enc.str (ab Enc.str (Enc.sl (ab Enc.str Enc.str))))) a6 (some t7)], .stk t4 (Enc.str.fl a3), .tok t7 33] (iK (fun (r : (List UInt8) × (List UInt8) × (List UInt8)) => (fun e A' => e = .ret (.agg [S r.1, S r.2.1]) ∧ A' = [.obj o1 [S r.2.2, .sk t4 a3.length, i64 a5, slE (ab Enc.int (ab Enc.str (ab Enc.str (Enc.sl (ab Enc.str Enc.str))))) a6 (some t7)], .stk t4 (Enc.str.fl a3), .tok t7 33])) (fun e => cy (.iface 46 (.agg #[.int .i64 e]))) rv) := by
 unfold jm at H
 refine au Tryz.func72 rfl rfl ?_;show AW _ _ 26 _ _ _;refine ac <| aa ?_;show AR _ _ _ _ _ [0] _;refine zX rfl (ei (zs := [.string ⟨#[]⟩, .string ⟨#[]⟩]) (by kernel_rfl)) ?_;rintro _ _ ⟨o11, rfl, rfl⟩;refine ag <| ac ?_
 rcases Or.symm (cm H) with ⟨p14, e13, H⟩ | ⟨x12, e13, H⟩
 ·subst H;refine aa ?_;show AR _ _ _ _ _ [0, 1, 2, 3, 4] _;refine zS rfl (af (av := .pt _ _) rfl) <| am rfl rfl (bm (c := cy (.iface 46 (.agg #[.int .i64 p14]))) [1, 1, 1] rfl gL rfl (ia F o1 a2 a3 t4 a5 a6 t7 p14 e13) rfl ?_);exact And.intro rfl (Exists.intro [] ⟨aP _, rfl, rfl⟩)
 refine aa ?_;show AR _ _ _ _ _ [0, 1, 2, 3, 4] _;refine zS rfl (af (av := .pt _ _) rfl) <| am rfl rfl (bg [1, 1, 1] rfl gL rfl (iV F o1 a2 a3 t4 a5 a6 t7 x12.1 x12.2 e13) rfl (fun c A' h => by cases h.1) ?_)
 rintro av A' ⟨h, rfl⟩; cases h
 refine zS rfl (eN (zs := [.string ⟨#[]⟩, .string ⟨#[]⟩]) (ps := [(0, 1), (1, 1)]) (cs := [S x12.1, S ([] : List UInt8)]) (by kernel_rfl) rfl rfl) <| zX rfl (ei (zs := [.string ⟨#[]⟩, .string ⟨#[]⟩]) (by kernel_rfl)) ?_;rintro _ _ ⟨o15, rfl, rfl⟩;refine s0 rfl rfl (cT (i := 0) (vs := [S x12.1, S ([] : List UInt8)]) (by kernel_rfl) rfl rfl (by simp [cd, slE]) rfl (ai rfl)) <| ag <| ac <| aa ?_;show AR _ _ _ _ _ [0] _;refine za rfl <| ag <| bQ (X := (List UInt8) × (List UInt8)) (fun (y26, y27) => ⟨[(0, .pt o1 0), (2, .pt o11 0), (3, .pt o15 0), (4, S y26)], [], [.obj o1 [S y27, .sk t4 a3.length, i64 a5, slE (ab Enc.int (ab Enc.str (ab Enc.str (Enc.sl (ab Enc.str Enc.str))))) a6 (some t7)], .obj o15 [S x12.1, S ([] : List UInt8)], .obj o11 [S ([] : List UInt8), S ([] : List UInt8)], .stk t4 (Enc.str.fl a3), .tok t7 33]⟩) (fun (y26, y27) => fg F a3 a5 a6 x12 y26 y27 = some rv) ?_ ?_
 ·refine ac ?_;obtain ⟨x16, x17, e18, H⟩ := cU H;refine aa ?_;show AR _ _ _ _ _ [0, 1, 2] _;refine zS rfl (af (av := .pt _ _) rfl) <| am rfl rfl (bg [1, 1, 1] rfl df rfl (dd F o1 x12.2 a3 t4 a5 a6 t7 ([61, 34] : List UInt8) x16 x17 e18) rfl (fun c A' h => by cases h.1) ?_)
  rintro av A' ⟨h, rfl⟩; cases h
  refine zS rfl (ce rfl) <| ag <| ax rfl (fun c19 => ?_) (fun c19 => ?_)
  ·replace H := aV c19 H;refine ac ?_;obtain ⟨x20, x21, e22, H⟩ := cU H
   rcases Or.symm (cm H) with ⟨p25, e24, H⟩ | ⟨x23, e24, H⟩
   ·subst H;refine aa ?_;show AR _ _ _ _ _ [0, 1, 2] _;refine zS rfl (af (av := .pt _ _) rfl) <| am rfl rfl (bg [0, 0, 0] rfl df rfl (dd F o1 x17 a3 t4 a5 a6 t7 ([61, 39] : List UInt8) x20 x21 e22) rfl (fun c A' h => by cases h.1) ?_)
    rintro av A' ⟨h, rfl⟩; cases h
    refine am rfl rfl (bm (c := cy (.iface 46 (.agg #[.int .i64 p25]))) [] rfl bw rfl (bA F x20 p25 e24) rfl ?_);exact And.intro rfl (Exists.intro [] ⟨aP _, rfl, rfl⟩)
   refine aa ?_;show AR _ _ _ _ _ [0, 1, 2] _;refine zS rfl (af (av := .pt _ _) rfl) <| am rfl rfl (bg [0, 0, 0] rfl df rfl (dd F o1 x17 a3 t4 a5 a6 t7 ([61, 39] : List UInt8) x20 x21 e22) rfl (fun c A' h => by cases h.1) ?_)
   rintro av A' ⟨h, rfl⟩; cases h
   refine am rfl rfl (aG rfl bw rfl (bG F x20 e24) ?_);refine ag <| aa ?_;show AR _ _ _ _ _ [0] _;refine za rfl <| ag ?_;exact Exists.intro (([39] : List UInt8), x21) ⟨H, ba [0, 2, 2, 0, 0] (.cons (.refl _) (.cons (.refl _) (.cons (.refl _) (.cons (.refl _) (.nil _))))) rfl⟩
  ·replace H := aW c19 H;refine aB ?_;exact Exists.intro (([34] : List UInt8), x17) ⟨H, ba [0, 2, 2, 0, 0] (.cons (.refl _) (.cons (.refl _) (.cons (.refl _) (.cons (.refl _) (.nil _))))) rfl⟩
 rintro ⟨y26, y27⟩ H;replace H : fg F a3 a5 a6 x12 y26 y27 = some rv := H
 unfold fg at H
 refine ac ?_
 rcases Or.symm (cm H) with ⟨p31, e30, H⟩ | ⟨x29, e30, H⟩
 ·subst H;refine aa ?_;show AR _ _ _ _ _ [0, 1, 2, 3] _;refine zS rfl (af (av := .pt _ _) rfl) <| zm rfl <| am rfl rfl (bm (c := cy (.iface 46 (.agg #[.int .i64 p31]))) [0, 2, 2] rfl ej rfl (eU F o1 y27 a3 t4 a5 a6 t7 y26 p31 e30) rfl ?_);exact And.intro rfl (Exists.intro [] ⟨aP _, rfl, rfl⟩)
 refine aa ?_;show AR _ _ _ _ _ [0, 1, 2, 3] _;refine zS rfl (af (av := .pt _ _) rfl) <| zm rfl <| am rfl rfl (bg [0, 2, 2] rfl ej rfl (fH F o1 y27 a3 t4 a5 a6 t7 y26 x29.1 x29.2 e30) rfl (fun c A' h => by cases h.1) ?_)
 rintro av A' ⟨h, rfl⟩; cases h
 refine za rfl <| ag <| ac ?_;obtain ⟨g32, H⟩ := aQ H;obtain ⟨x33, e34, H⟩ := bI H
 rcases Or.symm (cm H) with ⟨p37, e36, H⟩ | ⟨x35, e36, H⟩
 ·subst H;refine aa ?_;show AR _ _ _ _ _ [0, 1, 2, 3] _;refine zm rfl <| am rfl rfl (aG rfl lv rfl (show ACalls _ _ _ [] (Ret (B x33) []) from by subst e34; exact iY x29.1 ([60] : List UInt8) (kz g32)) ?_);refine zS rfl (ce rfl) <| am rfl rfl (bm (c := cy (.iface 46 (.agg #[.int .i64 p37]))) [] rfl bw rfl (bA F (!x33) p37 e36) rfl ?_);exact And.intro rfl (Exists.intro [] ⟨aP _, rfl, rfl⟩)
 refine aa ?_;show AR _ _ _ _ _ [0, 1, 2, 3] _;refine zm rfl <| am rfl rfl (aG rfl lv rfl (show ACalls _ _ _ [] (Ret (B x33) []) from by subst e34; exact iY x29.1 ([60] : List UInt8) (kz g32)) ?_);refine zS rfl (ce rfl) <| am rfl rfl (aG rfl bw rfl (bG F (!x33) e36) ?_);refine ag <| ac ?_
 rcases Or.symm (cm H) with ⟨p40, e39, H⟩ | ⟨x38, e39, H⟩
 ·subst H;refine aa ?_;show AR _ _ _ _ _ [0, 1, 2, 3] _;refine zm rfl <| am rfl rfl (bm (c := cy (.iface 46 (.agg #[.int .i64 p40]))) [] rfl jK rfl (jg F x29.1 p40 e39) rfl ?_);exact And.intro rfl (Exists.intro [] ⟨aP _, rfl, rfl⟩)
 refine aa ?_;show AR _ _ _ _ _ [0, 1, 2, 3] _;refine zm rfl <| am rfl rfl (aG rfl jK rfl (jt F x29.1 x38 e39) ?_);refine zS rfl (an (n := 1) (by kernel_rfl) rfl) <| s0 rfl rfl (az (i := 3) (c := .v _) (by kernel_rfl) rfl rfl rfl rfl (ai rfl)) <| ag <| ac <| aa ?_;show AR _ _ _ _ _ [0, 1] _;refine zR rfl (gG (i := 3) (n := 2) bV rfl (by kernel_rfl) rfl rfl (ai rfl)) <| s0 rfl rfl (cT (i := 4) (vs := [S x12.1, S x38]) (by kernel_rfl) rfl rfl (by simp [cd, slE]) rfl (ai rfl)) <| ag <| aI ?_;obtain rfl := al H;exact And.intro rfl (Exists.intro _ (Exists.intro _ ⟨sH (pT rfl (CellV.agg (off := 0) (cs := [S x12.1, S x38]) (n := 2) 4 bV rfl (by kernel_rfl) rfl rfl (ai rfl))), aH [0, 0, 0] rfl, rfl, rfl⟩))
theorem oE (F : Nat) (o1 : Nat) (a2 : List UInt8) (a3 : List (List UInt8)) (t4 : Nat) (a5 : Int) (a6 : List (Int × (List UInt8) × (List UInt8) × List ((List UInt8) × List UInt8))) (t7 : Nat) (r8 : List UInt8) (r9 : List UInt8) (r10 : List UInt8) (H : jm F a2 a3 a5 a6 = some (Res.ok (r8, r9, r10))) : ACalls Tryz.prog 72 [.pt o1 0] [.obj o1 [S a2, .sk t4 a3.length, i64 a5, slE (ab Enc.int (ab Enc.str (ab Enc.str (Enc.sl (ab Enc.str Enc.str))))) a6 (some t7)], .stk t4 (Enc.str.fl a3), .tok t7 33] (fun e A' => e = .ret (.agg [S r8, S r9]) ∧ A' = [.obj o1 [S r10, .sk t4 a3.length, i64 a5, slE (ab Enc.int (ab Enc.str (ab Enc.str (Enc.sl (ab Enc.str Enc.str))))) a6 (some t7)], .stk t4 (Enc.str.fl a3), .tok t7 33]) := nF F o1 a2 a3 t4 a5 a6 t7 _ H
theorem nh (F : Nat) (o1 : Nat) (a2 : List UInt8) (a3 : List (List UInt8)) (t4 : Nat) (a5 : Int) (a6 : List (Int × (List UInt8) × (List UInt8) × List ((List UInt8) × List UInt8))) (t7 : Nat) (e : Int) (H : jm F a2 a3 a5 a6 = some (Res.pan e)) : ACalls Tryz.prog 72 [.pt o1 0] [.obj o1 [S a2, .sk t4 a3.length, i64 a5, slE (ab Enc.int (ab Enc.str (ab Enc.str (Enc.sl (ab Enc.str Enc.str))))) a6 (some t7)], .stk t4 (Enc.str.fl a3), .tok t7 33] (fun ae A' => ae = .pan ((fun e => cy (.iface 46 (.agg #[.int .i64 e]))) e) ∧ A' = []) := nF F o1 a2 a3 t4 a5 a6 t7 _ H
set_option maxRecDepth 100000 in
set_option maxHeartbeats 1000000 in
theorem qv (F : Nat) (a1 : List UInt8) (a2 : List UInt8) (o3 : Nat) (a4 : List UInt8) (a5 : List UInt8) (r6 : Bool) (H : kQ F a1 a2 a4 a5 = some r6) : ACalls Tryz.prog 74 [.agg [S a1, S a2], .pt o3 0] [.obj o3 [S a4, S a5]] (fun e A' => e = .ret (B r6) ∧ A' = [.obj o3 [S a4, S a5]]) := by
 unfold kQ at H
 refine au Tryz.func74 rfl rfl ?_;show AW _ _ 9 _ _ _;refine ac <| aa ?_;show AR _ _ _ _ _ [0, 1] _;refine zR rfl (ln rfl (.inr ⟨_, rfl⟩)) <| za rfl <| ag <| ac <| aa ?_;show AR _ _ _ _ _ [0, 1, 2, 3, 4, 5] _;refine zS rfl (an (n := 0) (by kernel_rfl) rfl) <| zR rfl (ao (i := 0) ah rfl rfl rfl rfl) <| zS rfl (aU (n := 0) (by kernel_rfl) rfl (ai rfl)) <| zS rfl (aM ah rfl rfl) <| zS rfl (eL rfl rfl) <| za rfl <| ag <| aI ?_;obtain rfl := al H;exact And.intro rfl (Exists.intro _ (Exists.intro _ ⟨aC rfl (.refl _), aH [0] rfl, rfl, rfl⟩))
abbrev _root_.Go.Av.aL := @Tryz.underlying31
set_option maxRecDepth 100000 in
set_option maxHeartbeats 1000000 in
theorem mr (F : Nat) (a1 : List ((List UInt8) × List UInt8)) (q2 : Option Nat) (o3 : Nat) (a4 : List UInt8) (a5 : List UInt8) (r6 : Int) (H : gE F a1 a4 a5 = some r6) : ACalls Tryz.prog 96 [slE (ab Enc.str Enc.str) a1 q2, .fn (.func 74) [] [.pt o3 0]] [.obj o3 [S a4, S a5]] (fun e A' => e = .ret (i64 r6) ∧ A' = [.obj o3 [S a4, S a5]]) := by
 unfold gE at H
 refine au Tryz.func96 rfl rfl ?_;show AW _ _ 19 _ _ _;refine ac <| aa ?_;show AR _ _ _ _ _ [0] _;refine za rfl <| ag <| bQ (X := Unit) (fun _ => ⟨[], [], [.obj o3 [S a4, S a5]]⟩) (fun _ => eW = some r6) ?_ ?_
 ·refine ac <| aa ?_;show AR _ _ _ _ _ [0, 1, 2] _;refine zS rfl (af (av := slE _ _ _) rfl) <| zS rfl (bc aL rfl) <| zm rfl <| ag <| aN <| cR (X := Nat × Int) (fun (n9, y7) => ⟨[(0, slE (ab Enc.str Enc.str) a1 q2), (1, .fn (.func 74) [] [.pt o3 0]), (7, i64 (a1.length : Int)), (8, i64 y7)], [], [.obj o3 [S a4, S a5]]⟩) (fun (n9, y7) => dm F a1 a4 a5 n9 y7 = some r6) (fun (n9, y7) => n9) (F, 0) H (ba [0] (.cons (.refl _) (.cons (.refl _) (.cons (.refl _) (.cons (.refl _) (.nil _))))) rfl) ?_;rintro ⟨n9, y7⟩ H;obtain ⟨n9, rfl, H⟩ := ep H;replace H : dV F a1 a4 a5 (dm F a1 a4 a5 n9) y7 = some r6 := H
  unfold dV at H
  refine ac <| aa ?_;show AR _ _ _ _ _ [0] _;refine zS rfl (bW rfl rfl) <| ag <| ac <| ax rfl (fun c10 => ?_) (fun c10 => ?_)
  ·replace H := aV c10 H;refine aB <| ac <| aN <| ac <| aa ?_;show AR _ _ _ _ _ [0, 1] _;refine zm rfl <| za rfl <| ag <| ac ?_;obtain ⟨g11, H⟩ := aQ H;obtain ⟨x12, e13, H⟩ := bI H;obtain ⟨x14, e15, H⟩ := eu H;refine aa ?_;show AR _ _ _ _ _ [0, 1, 2, 3, 4, 5] _;refine zS rfl (af (av := .fn _ _ _) rfl) <| zS rfl (af (av := slE _ _ _) rfl) <| zm rfl <| zS rfl (bD (E := (ab Enc.str Enc.str)) aL (by kernel_rfl) rfl rfl g11 e13) <| zS rfl (cj bV rfl (n := 2) (by kernel_rfl) rfl (ai rfl)) <| am rfl rfl (AO.callFAt [0] rfl (.inl rfl) sd rfl (qv F x12.1 x12.2 o3 a4 a5 x14 e15) rfl (fun c A' h => by cases h.1) ?_)
   rintro av A' ⟨h, rfl⟩; cases h
   refine ag <| ax rfl (fun c16 => ?_) (fun c16 => ?_)
   ·replace H := aV c16 H;refine ac <| aa ?_;show AR _ _ _ _ _ [0, 1] _;refine zm rfl <| za rfl <| ag <| aI ?_;obtain rfl := al H;exact And.intro rfl (Exists.intro _ (Exists.intro _ ⟨aC rfl (.refl _), aH [0] rfl, rfl, rfl⟩))
   ·replace H := aW c16 H;refine aB ?_;obtain ⟨g17, H⟩ := aQ H;refine aa ?_;show AR _ _ _ _ _ [0, 1] _;refine zS rfl (eH rfl rfl g17) <| zm rfl <| ag ?_;exact Exists.intro (n9, y7 + 1) ⟨H, Nat.lt_succ_self _, ba [0] (.cons (.refl _) (.cons (.refl _) (.cons (.refl _) (.cons (.refl _) (.nil _))))) rfl⟩
  ·replace H := aW c10 H;refine ct ?_;exact Exists.intro () ⟨H, ba [0] (.nil _) rfl⟩
 rintro _ H;replace H : eW = some r6 := H
 unfold eW at H
 refine ac <| aa ?_;show AR _ _ _ _ _ [0] _;refine za rfl <| ag <| aI ?_;obtain rfl := al H;exact And.intro rfl (Exists.intro _ (Exists.intro _ ⟨aC rfl (.refl _), aH [0] rfl, rfl, rfl⟩))
set_option maxRecDepth 100000 in
set_option maxHeartbeats 1000000 in
theorem hC (F : Nat) (a1 : List ((List UInt8) × List UInt8)) (q2 : Option Nat) (o3 : Nat) (a4 : List UInt8) (a5 : List UInt8) (r6 : Bool) (H : dW F a1 a4 a5 = some r6) : ACalls Tryz.prog 73 [slE (ab Enc.str Enc.str) a1 q2, .fn (.func 74) [] [.pt o3 0]] [.obj o3 [S a4, S a5]] (fun e A' => e = .ret (B r6) ∧ A' = [.obj o3 [S a4, S a5]]) := by
 unfold dW at H
 refine au Tryz.func73 rfl rfl ?_;show AW _ _ 9 _ _ _;refine ac <| aa ?_;show AR _ _ _ _ _ [0] _;refine za rfl <| ag <| ac ?_;obtain ⟨x7, e8, H⟩ := eu H;refine aa ?_;show AR _ _ _ _ _ [0, 1, 2, 3, 4] _;refine zS rfl (af (av := slE _ _ _) rfl) <| zS rfl (af (av := .fn _ _ _) rfl) <| am rfl rfl (bg [0] rfl rV rfl (mr F a1 q2 o3 a4 a5 x7 e8) rfl (fun c A' h => by cases h.1) ?_)
 rintro av A' ⟨h, rfl⟩; cases h
 refine zS rfl (eJ rfl rfl) <| za rfl <| ag <| aI ?_;obtain rfl := al H;exact And.intro rfl (Exists.intro _ (Exists.intro _ ⟨aC rfl (.refl _), aH [0] rfl, rfl, rfl⟩))
abbrev _root_.Go.Av.bU := @Tryz.underlying3
abbrev _root_.Go.Av.dt := @Tryz.underlying33
set_option maxRecDepth 100000 in
set_option maxHeartbeats 1000000 in
theorem kF (F : Nat) (o1 : Nat) (a2 : List UInt8) (a3 : List (List UInt8)) (t4 : Nat) (a5 : Int) (a6 : List (Int × (List UInt8) × (List UInt8) × List ((List UInt8) × List UInt8))) (t7 : Nat) (rv : Res (Bool × (List UInt8) × Int × (List (Int × (List UInt8) × (List UInt8) × List ((List UInt8) × List UInt8))) × (List (List UInt8)))) (H : ff F a2 a3 a5 a6 = some rv) : ACalls Tryz.prog 43 [.pt o1 0] [.obj o1 [S a2, .sk t4 a3.length, i64 a5, slE (ab Enc.int (ab Enc.str (ab Enc.str (Enc.sl (ab Enc.str Enc.str))))) a6 (some t7)], .stk t4 (Enc.str.fl a3), .tok t7 33] (iK (fun (r : Bool × (List UInt8) × Int × (List (Int × (List UInt8) × (List UInt8) × List ((List UInt8) × List UInt8))) × (List (List UInt8))) => (fun e A' => e = .ret (B r.1) ∧ ∃ t11 t14, A' = [.obj o1 [S r.2.1, .sk t11 r.2.2.2.2.length, i64 r.2.2.1, slE (ab Enc.int (ab Enc.str (ab Enc.str (Enc.sl (ab Enc.str Enc.str))))) r.2.2.2.1 (some t14)], .stk t11 (Enc.str.fl r.2.2.2.2), .tok t14 33])) (fun e => cy (.iface 46 (.agg #[.int .i64 e]))) rv) := by
 unfold ff at H
 refine au Tryz.func43 rfl rfl ?_;show AW _ _ 88 _ _ _;refine ac <| aa ?_;show AR _ _ _ _ _ [0] _;refine za rfl <| ag <| ac <| ac ?_;obtain ⟨x15, x16, e17, H⟩ := cU H;refine aa ?_;show AR _ _ _ _ _ [0, 1, 2] _;refine zS rfl (af (av := .pt _ _) rfl) <| am rfl rfl (bg [0, 0, 0] rfl df rfl (dd F o1 a2 a3 t4 a5 a6 t7 ([60] : List UInt8) x15 x16 e17) rfl (fun c A' h => by cases h.1) ?_)
 rintro av A' ⟨h, rfl⟩; cases h
 refine zS rfl (ce rfl) <| ag <| ax rfl (fun c18 => ?_) (fun c18 => ?_)
 ·replace H := aV c18 H;refine ac <| aa ?_;show AR _ _ _ _ _ [0] _;refine za rfl <| ag <| aI ?_;obtain rfl := al H;exact And.intro rfl (Exists.intro _ (Exists.intro _ ⟨aC rfl (.refl _), aH [0, 0, 0] rfl, rfl, t4, t7, rfl⟩))
 ·replace H := aW c18 H;refine aB <| ac ?_
  rcases Or.symm (cm H) with ⟨p21, e20, H⟩ | ⟨x19, e20, H⟩
  ·subst H;refine aa ?_;show AR _ _ _ _ _ [0, 1, 2, 3, 4] _;refine zS rfl (af (av := .pt _ _) rfl) <| am rfl rfl (bm (c := cy (.iface 46 (.agg #[.int .i64 p21]))) [0, 0, 0] rfl gL rfl (ia F o1 x16 a3 t4 a5 a6 t7 p21 e20) rfl ?_);exact And.intro rfl (Exists.intro [] ⟨aP _, rfl, rfl⟩)
  refine aa ?_;show AR _ _ _ _ _ [0, 1, 2, 3, 4] _;refine zS rfl (af (av := .pt _ _) rfl) <| am rfl rfl (bg [0, 0, 0] rfl gL rfl (iV F o1 x16 a3 t4 a5 a6 t7 x19.1 x19.2 e20) rfl (fun c A' h => by cases h.1) ?_)
  rintro av A' ⟨h, rfl⟩; cases h
  refine zS rfl (eN (zs := [.int .i64 0, .string ⟨#[]⟩, .string ⟨#[]⟩, .slice none 0 0]) (ps := [(0, 1), (1, 1), (2, 1), (3, 1)]) (cs := [i64 0, S x19.1, S ([] : List UInt8), fI]) (by kernel_rfl) rfl rfl) <| zX rfl (ei (zs := [.int .i64 0, .string ⟨#[]⟩, .string ⟨#[]⟩, .slice none 0 0]) (by kernel_rfl)) ?_;rintro _ _ ⟨o22, rfl, rfl⟩;refine s0 rfl rfl (cT (i := 0) (vs := [i64 0, S x19.1, S ([] : List UInt8), fI]) (by kernel_rfl) rfl rfl (by simp [cd, slE]) rfl (ai rfl)) <| ag ?_
  refine ja 0 3 2 44 rfl rfl fun t23 => ?_
  show AW _ _ _ _ _ ⟨_, _, [.tok t23 44, .obj o22 [i64 0, S x19.1, S ([] : List UInt8), slE (ab Enc.str Enc.str) [] (some t23)], .obj o1 [S x19.2, .sk t4 a3.length, i64 a5, slE (ab Enc.int (ab Enc.str (ab Enc.str (Enc.sl (ab Enc.str Enc.str))))) a6 (some t7)], .stk t4 (Enc.str.fl a3), .tok t7 33]⟩;refine ac <| aa ?_;show AR _ _ _ _ _ [0] _;refine za rfl <| ag <| bQ (X := Bool × (List UInt8) × (List ((List UInt8) × List UInt8)) × Nat) (fun (y56, y57, y58, t59) => ⟨[(0, .pt o1 0), (3, .pt o22 0), (4, B y56)], [], [.obj o1 [S y57, .sk t4 a3.length, i64 a5, slE (ab Enc.int (ab Enc.str (ab Enc.str (Enc.sl (ab Enc.str Enc.str))))) a6 (some t7)], .obj o22 [i64 0, S x19.1, S ([] : List UInt8), slE (ab Enc.str Enc.str) y58 (some t59)], .stk t4 (Enc.str.fl a3), .tok t7 33, .tok t59 44]⟩) (fun (y56, y57, y58, t59) => dx F a3 a5 a6 x19 y56 y57 y58 = some rv) ?_ ?_
  ·refine aN <| cR (X := Nat × (List ((List UInt8) × List UInt8)) × Nat × (List UInt8)) (fun (n28, y24, t25, y26) => ⟨[(0, .pt o1 0), (3, .pt o22 0), (4, B false)], [], [.obj o22 [i64 0, S x19.1, S ([] : List UInt8), slE (ab Enc.str Enc.str) y24 (some t25)], .obj o1 [S y26, .sk t4 a3.length, i64 a5, slE (ab Enc.int (ab Enc.str (ab Enc.str (Enc.sl (ab Enc.str Enc.str))))) a6 (some t7)], .stk t4 (Enc.str.fl a3), .tok t25 44, .tok t7 33]⟩) (fun (n28, y24, t25, y26) => eS F a3 a5 a6 x19 n28 (y24, y26) = some rv) (fun (n28, y24, t25, y26) => n28) (F, [], t23, x19.2) H (ba [1, 1, 1, 0, 0] (.cons (.refl _) (.cons (.refl _) (.cons (.refl _) (.nil _)))) rfl) ?_;rintro ⟨n28, y24, t25, y26⟩ H;obtain ⟨n28, rfl, H⟩ := ep H;replace H : eT F a3 a5 a6 x19 (eS F a3 a5 a6 x19 n28) y24 y26 = some rv := H
   unfold eT at H
   refine aN <| ac ?_;obtain ⟨x29, x30, e31, H⟩ := cU H;refine aa ?_;show AR _ _ _ _ _ [0, 1, 2] _;refine zS rfl (af (av := .pt _ _) rfl) <| am rfl rfl (bg [1, 1, 2] rfl nZ rfl (lC F o1 y26 a3 t4 a5 a6 t7 x29 x30 e31) rfl (fun c A' h => by cases h.1) ?_)
   rintro av A' ⟨h, rfl⟩; cases h
   refine za rfl <| ag <| ac <| ac ?_;obtain ⟨x32, x33, e34, H⟩ := cU H;refine aa ?_;show AR _ _ _ _ _ [0, 1] _;refine zS rfl (af (av := .pt _ _) rfl) <| am rfl rfl (bg [0, 0, 0] rfl df rfl (dd F o1 x30 a3 t4 a5 a6 t7 ([62] : List UInt8) x32 x33 e34) rfl (fun c A' h => by cases h.1) ?_)
   rintro av A' ⟨h, rfl⟩; cases h
   refine ag <| ax rfl (fun c35 => ?_) (fun c35 => ?_)
   ·replace H := aV c35 H;refine ct ?_;exact Exists.intro (false, x33, y24, t25) ⟨H, ba [0, 2, 0, 0, 0] (.cons (.refl _) (.cons (.refl _) (.cons (.refl _) (.nil _)))) rfl⟩
   ·replace H := aW c35 H;refine aB <| ac <| ac ?_;obtain ⟨x36, x37, e38, H⟩ := cU H;refine aa ?_;show AR _ _ _ _ _ [0, 1] _;refine zS rfl (af (av := .pt _ _) rfl) <| am rfl rfl (bg [0, 0, 0] rfl df rfl (dd F o1 x33 a3 t4 a5 a6 t7 ([47, 62] : List UInt8) x36 x37 e38) rfl (fun c A' h => by cases h.1) ?_)
    rintro av A' ⟨h, rfl⟩; cases h
    refine ag <| ax rfl (fun c39 => ?_) (fun c39 => ?_)
    ·replace H := aV c39 H;refine ac <| aa ?_;show AR _ _ _ _ _ [0] _;refine za rfl <| ag <| ct ?_;exact Exists.intro (true, x37, y24, t25) ⟨H, ba [0, 2, 0, 0, 0] (.cons (.refl _) (.cons (.refl _) (.cons (.refl _) (.nil _)))) rfl⟩
    ·replace H := aW c39 H;refine aB <| ac ?_
     rcases Or.symm (cm H) with ⟨p42, e41, H⟩ | ⟨x40, e41, H⟩
     ·subst H;refine aa ?_;show AR _ _ _ _ _ [0, 1] _;refine zm rfl <| am rfl rfl (bm (c := cy (.iface 46 (.agg #[.int .i64 p42]))) [] rfl bw rfl (bA F x29 p42 e41) rfl ?_);exact And.intro rfl (Exists.intro [] ⟨aP _, rfl, rfl⟩)
     refine aa ?_;show AR _ _ _ _ _ [0, 1] _;refine zm rfl <| am rfl rfl (aG rfl bw rfl (bG F x29 e41) ?_);refine ag <| ac ?_
     rcases Or.symm (cm H) with ⟨p45, e44, H⟩ | ⟨x43, e44, H⟩
     ·subst H;refine aa ?_;show AR _ _ _ _ _ [0, 1, 2, 3] _;refine zS rfl (af (av := .pt _ _) rfl) <| am rfl rfl (bm (c := cy (.iface 46 (.agg #[.int .i64 p45]))) [0, 0, 0] rfl nY rfl (nh F o1 x37 a3 t4 a5 a6 t7 p45 e44) rfl ?_);exact And.intro rfl (Exists.intro [] ⟨aP _, rfl, rfl⟩)
     refine aa ?_;show AR _ _ _ _ _ [0, 1, 2, 3] _;refine zS rfl (af (av := .pt _ _) rfl) <| am rfl rfl (bg [0, 0, 0] rfl nY rfl (oE F o1 x37 a3 t4 a5 a6 t7 x43.1 x43.2.1 x43.2.2 e44) rfl (fun c A' h => by cases h.1) ?_)
     rintro av A' ⟨h, rfl⟩; cases h
     refine zX rfl (ei (zs := [.string ⟨#[]⟩, .string ⟨#[]⟩]) (by kernel_rfl)) ?_;rintro _ _ ⟨o46, rfl, rfl⟩;refine s0 rfl rfl (cT (i := 0) (vs := [S x43.1, S x43.2.1]) (by kernel_rfl) rfl rfl (by simp [cd, slE]) rfl (ai rfl)) <| ag <| ac ?_;obtain ⟨x47, e48, H⟩ := eu H
     rcases Or.symm (cm H) with ⟨p51, e50, H⟩ | ⟨x49, e50, H⟩
     ·subst H;refine aa ?_;show AR _ _ _ _ _ [0, 1, 2, 3, 4, 5] _;refine zS rfl (an (n := 3) (by kernel_rfl) rfl) <| zR rfl (ao (i := 4) aL rfl rfl rfl rfl) <| zS rfl (iX rfl rfl) <| am rfl rfl (bg [0] rfl nX rfl (hC F y24 (some t25) o46 x43.1 x43.2.1 x47 e48) rfl (fun c A' h => by cases h.1) ?_)
      rintro av A' ⟨h, rfl⟩; cases h
      refine zS rfl (ce rfl) <| am rfl rfl (bm (c := cy (.iface 46 (.agg #[.int .i64 p51]))) [] rfl bw rfl (bA F (!x47) p51 e50) rfl ?_);exact And.intro rfl (Exists.intro [] ⟨aP _, rfl, rfl⟩)
     refine aa ?_;show AR _ _ _ _ _ [0, 1, 2, 3, 4, 5] _;refine zS rfl (an (n := 3) (by kernel_rfl) rfl) <| zR rfl (ao (i := 4) aL rfl rfl rfl rfl) <| zS rfl (iX rfl rfl) <| am rfl rfl (bg [0] rfl nX rfl (hC F y24 (some t25) o46 x43.1 x43.2.1 x47 e48) rfl (fun c A' h => by cases h.1) ?_)
     rintro av A' ⟨h, rfl⟩; cases h
     refine zS rfl (ce rfl) <| am rfl rfl (aG rfl bw rfl (bG F (!x47) e50) ?_);refine ag ?_;obtain ⟨g53, H⟩ := aQ H;obtain ⟨x54, e55, H⟩ := bI H;refine aa ?_;show AR _ _ _ _ _ [0, 1, 2, 3, 4, 5, 6] _;refine zS rfl (an (n := 3) (by kernel_rfl) rfl) <| zR rfl (ao (i := 4) aL rfl rfl rfl rfl) <| zR rfl (gG (i := 0) (n := 2) bV rfl (by kernel_rfl) rfl rfl (ai rfl)) <| zR rfl (dv (E := (ab Enc.str Enc.str)) (bytes := 32) (zs := [.string ⟨#[]⟩, .string ⟨#[]⟩]) (l := ([(x43.1, x43.2.1)] : List ((List UInt8) × List UInt8))) aL (by kernel_rfl) (by kernel_rfl) rfl rfl rfl rfl rfl) <| zX rfl (gX (E := (ab Enc.str Enc.str)) (bytes := 32) 5 aL aL rfl (by kernel_rfl) rfl rfl rfl rfl g53 e55) ?_;rintro _ _ ⟨t52, rfl, rfl⟩;refine zS rfl (an (n := 3) (by kernel_rfl) rfl) <| s0 rfl rfl (az (i := 4) (c := slE _ _ _) (by kernel_rfl) rfl rfl rfl rfl (ai rfl)) <| ag ?_;exact Exists.intro (n28, x54, t52, x43.2.2) ⟨H, Nat.lt_succ_self _, ba [4, 1, 1, 2, 1] (.cons (.refl _) (.cons (.refl _) (.cons (.refl _) (.nil _)))) rfl⟩
  rintro ⟨y56, y57, y58, t59⟩ H;replace H : dx F a3 a5 a6 x19 y56 y57 y58 = some rv := H
  unfold dx at H
  refine bQ (X := Int) (fun y66 => ⟨[(0, .pt o1 0), (3, .pt o22 0), (4, B y56)], [], [.obj o1 [S y57, .sk t4 a3.length, i64 y66, slE (ab Enc.int (ab Enc.str (ab Enc.str (Enc.sl (ab Enc.str Enc.str))))) a6 (some t7)], .obj o22 [i64 0, S x19.1, S ([] : List UInt8), slE (ab Enc.str Enc.str) y58 (some t59)], .stk t4 (Enc.str.fl a3), .tok t7 33, .tok t59 44]⟩) (fun y66 => dy F a3 a6 x19 y56 y57 y58 y66 = some rv) ?_ ?_
  ·refine ac <| aa ?_;show AR _ _ _ _ _ [0, 1, 2, 3, 4, 5] _;refine zS rfl (af (av := .pt _ _) rfl) <| zS rfl (aq rfl) <| zS rfl (an (n := 1) (by kernel_rfl) rfl) <| zR rfl (ao (i := 0) ar rfl rfl rfl rfl) <| zS rfl (eD ar rfl) <| zS rfl (bM rfl rfl) <| ag <| ax rfl (fun c61 => ?_) (fun c61 => ?_)
   ·replace H := aV c61 H;refine ac ?_;obtain ⟨g62, H⟩ := aQ H;refine aa ?_;show AR _ _ _ _ _ [0, 1, 2, 3, 4, 5, 6, 7] _;refine zS rfl (af (av := .pt _ _) rfl) <| zS rfl (aq rfl) <| zS rfl (an (n := 2) (by kernel_rfl) rfl) <| zR rfl (ao (i := 0) bU rfl rfl rfl rfl) <| zS rfl (eH rfl rfl g62) <| zS rfl (aq rfl) <| zS rfl (an (n := 2) (by kernel_rfl) rfl) <| s0 rfl rfl (az (i := 0) (c := .v _) (by kernel_rfl) rfl rfl rfl rfl (ai rfl)) <| ag ?_
    rcases Or.symm (cm H) with ⟨p65, e64, H⟩ | ⟨x63, e64, H⟩
    ·subst H;refine aa ?_;show AR _ _ _ _ _ [0, 1, 2, 3, 4, 5] _;refine zS rfl (af (av := .pt _ _) rfl) <| zS rfl (aq rfl) <| zS rfl (an (n := 2) (by kernel_rfl) rfl) <| zR rfl (ao (i := 0) bU rfl rfl rfl rfl) <| zS rfl (bM rfl rfl) <| am rfl rfl (bm (c := cy (.iface 46 (.agg #[.int .i64 p65]))) [] rfl bw rfl (bA F (decide (a5 + 1 = 1)) p65 e64) rfl ?_);exact And.intro rfl (Exists.intro [] ⟨aP _, rfl, rfl⟩)
    refine aa ?_;show AR _ _ _ _ _ [0, 1, 2, 3, 4, 5] _;refine zS rfl (af (av := .pt _ _) rfl) <| zS rfl (aq rfl) <| zS rfl (an (n := 2) (by kernel_rfl) rfl) <| zR rfl (ao (i := 0) bU rfl rfl rfl rfl) <| zS rfl (bM rfl rfl) <| am rfl rfl (aG rfl bw rfl (bG F (decide (a5 + 1 = 1)) e64) ?_);refine ag ?_;exact Exists.intro (a5 + 1) ⟨H, ba [0, 0, 0, 0, 0] (.cons (.refl _) (.cons (.refl _) (.cons (.refl _) (.nil _)))) rfl⟩
   ·replace H := aW c61 H;refine aB ?_;exact Exists.intro a5 ⟨H, ba [0, 0, 0, 0, 0] (.cons (.refl _) (.cons (.refl _) (.cons (.refl _) (.nil _)))) rfl⟩
  rintro y66 H;replace H : dy F a3 a6 x19 y56 y57 y58 y66 = some rv := H
  unfold dy at H
  refine bQ (X := Nat × (List (List UInt8))) (fun (t78, y79) => ⟨[(0, .pt o1 0), (3, .pt o22 0), (4, B y56)], [], [.obj o1 [S y57, .sk t78 y79.length, i64 y66, slE (ab Enc.int (ab Enc.str (ab Enc.str (Enc.sl (ab Enc.str Enc.str))))) a6 (some t7)], .obj o22 [i64 0, S x19.1, S ([] : List UInt8), slE (ab Enc.str Enc.str) y58 (some t59)], .stk t78 (Enc.str.fl y79), .tok t7 33, .tok t59 44]⟩) (fun (t78, y79) => eQ F a6 x19 y56 y57 y58 y66 y79 = some rv) ?_ ?_
  ·refine bQ (X := Nat × (List (List UInt8))) (fun (t74, y75) => ⟨[(0, .pt o1 0), (3, .pt o22 0), (4, B y56)], [], [.obj o1 [S y57, .sk t74 y75.length, i64 y66, slE (ab Enc.int (ab Enc.str (ab Enc.str (Enc.sl (ab Enc.str Enc.str))))) a6 (some t7)], .obj o22 [i64 0, S x19.1, S ([] : List UInt8), slE (ab Enc.str Enc.str) y58 (some t59)], .stk t74 (Enc.str.fl y75), .tok t7 33, .tok t59 44]⟩) (fun (t74, y75) => eP F a6 x19 y56 y57 y58 y66 y75 = some rv) ?_ ?_
   ·obtain ⟨g68, H⟩ := aQ H;obtain ⟨x69, e70, H⟩ := bI H;refine bH (by kernel_rfl) ?_;show AI _ _ _ _ _ 12 (Array.replicate 12 false) _;refine zk 0 rfl (af (av := .pt _ _) rfl) ?_;show AI _ _ _ _ _ _ #[true, false, false, false, false, false, false, false, false, false, false, false] _;refine zk 1 rfl (af (av := .pt _ _) rfl) ?_;show AI _ _ _ _ _ _ #[true, true, false, false, false, false, false, false, false, false, false, false] _;refine zk 2 rfl (aq rfl) ?_;show AI _ _ _ _ _ _ #[true, true, true, false, false, false, false, false, false, false, false, false] _;refine zk 3 rfl (an (n := 1) (by kernel_rfl) rfl) ?_;show AI _ _ _ _ _ _ #[true, true, true, true, false, false, false, false, false, false, false, false] _;refine zk 5 rfl (an (n := 1) (by kernel_rfl) rfl) ?_;show AI _ _ _ _ _ _ #[true, true, true, true, false, true, false, false, false, false, false, false] _;refine AI.two (i := 4) (j := 6) (by kernel_rfl) rfl rfl rfl rfl ?_ ?_
    ·refine bf rfl (ao (i := 0) ar rfl rfl rfl rfl) ?_;show AI _ _ _ _ _ _ #[true, true, true, true, true, true, false, false, false, false, false, false] _;refine bJ (i := 6) (by kernel_rfl) rfl rfl <| bf rfl (ao (i := 1) ah rfl rfl rfl rfl) ?_;show AI _ _ _ _ _ _ #[true, true, true, true, true, true, true, false, false, false, false, false] _;refine bJ (i := 7) (by kernel_rfl) rfl rfl <| bf rfl (gQ (E := Enc.str) (bytes := 16) (xs := [.tmp 60]) (l := ([x19.1] : List (List UInt8))) ar (by kernel_rfl) rfl rfl (by decide) rfl rfl) ?_;show AI _ _ _ _ _ _ #[true, true, true, true, true, true, true, true, false, false, false, false] _;refine bJ (i := 8) (by kernel_rfl) rfl rfl <| AIO.opx rfl (iZ (E := Enc.str) (bytes := 16) 2 ar ar rfl (by kernel_rfl) rfl rfl rfl rfl rfl rfl rfl g68 e70) ?_;rintro _ _ ⟨t71, rfl, rfl⟩;show AI _ _ _ _ _ _ #[true, true, true, true, true, true, true, true, true, false, false, false] _;refine zk 9 rfl (aq rfl) ?_;show AI _ _ _ _ _ _ #[true, true, true, true, true, true, true, true, true, true, false, false] _;refine zk 10 rfl (an (n := 1) (by kernel_rfl) rfl) ?_;show AI _ _ _ _ _ _ #[true, true, true, true, true, true, true, true, true, true, true, false] _;refine bJ (i := 11) (by kernel_rfl) rfl rfl <| AIO.op0 (az (i := 0) (c := .sk _ _) (by kernel_rfl) rfl rfl rfl rfl (ai rfl)) ?_
     show AI _ _ _ _ _ _ #[true, true, true, true, true, true, true, true, true, true, true, true] _;refine cn rfl ?_;exact Exists.intro (t71, x69) ⟨H, ba [0, 0, 0, 0, 0] (.cons (.refl _) (.cons (.refl _) (.cons (.refl _) (.nil _)))) rfl⟩
    ·refine bf rfl (ao (i := 1) ah rfl rfl rfl rfl) ?_;show AI _ _ _ _ _ _ #[true, true, true, true, false, true, true, false, false, false, false, false] _;refine AI.two (i := 4) (j := 7) (by kernel_rfl) rfl rfl rfl rfl ?_ ?_
     ·refine bf rfl (ao (i := 0) ar rfl rfl rfl rfl) ?_;show AI _ _ _ _ _ _ #[true, true, true, true, true, true, true, false, false, false, false, false] _;refine bJ (i := 7) (by kernel_rfl) rfl rfl <| bf rfl (gQ (E := Enc.str) (bytes := 16) (xs := [.tmp 60]) (l := ([x19.1] : List (List UInt8))) ar (by kernel_rfl) rfl rfl (by decide) rfl rfl) ?_;show AI _ _ _ _ _ _ #[true, true, true, true, true, true, true, true, false, false, false, false] _;refine bJ (i := 8) (by kernel_rfl) rfl rfl <| AIO.opx rfl (iZ (E := Enc.str) (bytes := 16) 2 ar ar rfl (by kernel_rfl) rfl rfl rfl rfl rfl rfl rfl g68 e70) ?_;rintro _ _ ⟨t72, rfl, rfl⟩;show AI _ _ _ _ _ _ #[true, true, true, true, true, true, true, true, true, false, false, false] _;refine zk 9 rfl (aq rfl) ?_;show AI _ _ _ _ _ _ #[true, true, true, true, true, true, true, true, true, true, false, false] _;refine zk 10 rfl (an (n := 1) (by kernel_rfl) rfl) ?_;show AI _ _ _ _ _ _ #[true, true, true, true, true, true, true, true, true, true, true, false] _;refine bJ (i := 11) (by kernel_rfl) rfl rfl <| AIO.op0 (az (i := 0) (c := .sk _ _) (by kernel_rfl) rfl rfl rfl rfl (ai rfl)) ?_;show AI _ _ _ _ _ _ #[true, true, true, true, true, true, true, true, true, true, true, true] _;refine cn rfl ?_;exact Exists.intro (t72, x69) ⟨H, ba [0, 0, 0, 0, 0] (.cons (.refl _) (.cons (.refl _) (.cons (.refl _) (.nil _)))) rfl⟩
     ·refine bf rfl (gQ (E := Enc.str) (bytes := 16) (xs := [.tmp 60]) (l := ([x19.1] : List (List UInt8))) ar (by kernel_rfl) rfl rfl (by decide) rfl rfl) ?_;show AI _ _ _ _ _ _ #[true, true, true, true, false, true, true, true, false, false, false, false] _;refine bJ (i := 4) (by kernel_rfl) rfl rfl <| bf rfl (ao (i := 0) ar rfl rfl rfl rfl) ?_;show AI _ _ _ _ _ _ #[true, true, true, true, true, true, true, true, false, false, false, false] _;refine bJ (i := 8) (by kernel_rfl) rfl rfl <| AIO.opx rfl (iZ (E := Enc.str) (bytes := 16) 2 ar ar rfl (by kernel_rfl) rfl rfl rfl rfl rfl rfl rfl g68 e70) ?_;rintro _ _ ⟨t73, rfl, rfl⟩;show AI _ _ _ _ _ _ #[true, true, true, true, true, true, true, true, true, false, false, false] _;refine zk 9 rfl (aq rfl) ?_;show AI _ _ _ _ _ _ #[true, true, true, true, true, true, true, true, true, true, false, false] _;refine zk 10 rfl (an (n := 1) (by kernel_rfl) rfl) ?_;show AI _ _ _ _ _ _ #[true, true, true, true, true, true, true, true, true, true, true, false] _;refine bJ (i := 11) (by kernel_rfl) rfl rfl <| AIO.op0 (az (i := 0) (c := .sk _ _) (by kernel_rfl) rfl rfl rfl rfl (ai rfl)) ?_;show AI _ _ _ _ _ _ #[true, true, true, true, true, true, true, true, true, true, true, true] _;refine cn rfl ?_;exact Exists.intro (t73, x69) ⟨H, ba [0, 0, 0, 0, 0] (.cons (.refl _) (.cons (.refl _) (.cons (.refl _) (.nil _)))) rfl⟩
   rintro ⟨t74, y75⟩ H;replace H : eP F a6 x19 y56 y57 y58 y66 y75 = some rv := H
   unfold eP at H
   refine ac <| aa ?_;show AR _ _ _ _ _ [0, 1, 2, 3, 4, 5] _;refine zS rfl (af (av := .pt _ _) rfl) <| zS rfl (aq rfl) <| zS rfl (an (n := 1) (by kernel_rfl) rfl) <| zR rfl (ao (i := 0) ar rfl rfl rfl rfl) <| zS rfl (eD ar rfl) <| zS rfl (gl rfl rfl) <| ag <| ax rfl (fun c77 => ?_) (fun c77 => ?_)
   ·replace H := aV c77 H;obtain rfl := al H;refine aa ?_;show AR _ _ _ _ _ [0, 1, 2] _;refine zS rfl (eN (zs := [.int .i64 0]) (ps := [(0, 1)]) (cs := [i64 5]) (by kernel_rfl) rfl rfl) <| zS rfl (bk (a := .agg _) Tryz.underlying46 rfl rfl) <| am rfl rfl (AO.panicT (c := cy (.iface 46 (.agg #[.int .i64 5]))) rfl rfl ?_);exact And.intro rfl (Exists.intro [] ⟨aP _, rfl, rfl⟩)
   ·replace H := aW c77 H;refine aB ?_;exact Exists.intro (t74, y75) ⟨H, ba [0, 0, 0, 0, 0] (.cons (.refl _) (.cons (.refl _) (.cons (.refl _) (.nil _)))) rfl⟩
  rintro ⟨t78, y79⟩ H;replace H : eQ F a6 x19 y56 y57 y58 y66 y79 = some rv := H
  unfold eQ at H
  refine bQ (X := (List (Int × (List UInt8) × (List UInt8) × List ((List UInt8) × List UInt8))) × Nat) (fun (y87, t88) => ⟨[(0, .pt o1 0), (3, .pt o22 0), (4, B y56)], [], [.obj o1 [S y57, .sk t78 y79.length, i64 y66, slE (ab Enc.int (ab Enc.str (ab Enc.str (Enc.sl (ab Enc.str Enc.str))))) y87 (some t88)], .obj o22 [i64 0, S x19.1, S ([] : List UInt8), slE (ab Enc.str Enc.str) y58 (some t59)], .stk t78 (Enc.str.fl y79), .tok t88 33, .tok t59 44]⟩) (fun (y87, t88) => eR F x19 y56 y57 y66 y79 y87 = some rv) ?_ ?_
  ·obtain ⟨g82, H⟩ := aQ H;obtain ⟨x83, e84, H⟩ := bI H;refine bH (by kernel_rfl) ?_;show AI _ _ _ _ _ 11 (Array.replicate 11 false) _;refine zk 0 rfl (af (av := .pt _ _) rfl) ?_;show AI _ _ _ _ _ _ #[true, false, false, false, false, false, false, false, false, false, false] _;refine zk 1 rfl (af (av := .pt _ _) rfl) ?_;show AI _ _ _ _ _ _ #[true, true, false, false, false, false, false, false, false, false, false] _;refine zk 2 rfl (aq rfl) ?_;show AI _ _ _ _ _ _ #[true, true, true, false, false, false, false, false, false, false, false] _;refine zk 3 rfl (an (n := 3) (by kernel_rfl) rfl) ?_;show AI _ _ _ _ _ _ #[true, true, true, true, false, false, false, false, false, false, false] _;refine AI.two (i := 4) (j := 5) (by kernel_rfl) rfl rfl rfl rfl ?_ ?_
   ·refine bf rfl (ao (i := 0) aw rfl rfl rfl rfl) ?_;show AI _ _ _ _ _ _ #[true, true, true, true, true, false, false, false, false, false, false] _;refine bJ (i := 5) (by kernel_rfl) rfl rfl <| bf rfl (gG (i := 1) (n := 4) dt rfl (by kernel_rfl) rfl rfl (ai rfl)) ?_;show AI _ _ _ _ _ _ #[true, true, true, true, true, true, false, false, false, false, false] _;refine bJ (i := 6) (by kernel_rfl) rfl rfl <| bf rfl (dT (ds := [i64 0, S x19.1, S ([] : List UInt8), slE (ab Enc.str Enc.str) y58 none]) 78 (.cons (.refl _) (.cons (.refl _) (.cons (.refl _) (.cons (.tok _ _ _) (.nil))))) (hc := rfl) <| dv (E := (ab Enc.int (ab Enc.str (ab Enc.str (Enc.sl (ab Enc.str Enc.str)))))) (bytes := 64) (zs := [.int .i64 0, .string ⟨#[]⟩, .string ⟨#[]⟩, .slice none 0 0]) (l := ([(0, x19.1, ([] : List UInt8), y58)] : List (Int × (List UInt8) × (List UInt8) × List ((List UInt8) × List UInt8)))) aw (by kernel_rfl) (by kernel_rfl) rfl rfl rfl rfl rfl) ?_;show AI _ _ _ _ _ _ #[true, true, true, true, true, true, true, false, false, false, false] _;refine bJ (i := 7) (by kernel_rfl) rfl rfl <| AIO.opx rfl (gX (E := (ab Enc.int (ab Enc.str (ab Enc.str (Enc.sl (ab Enc.str Enc.str)))))) (bytes := 64) 3 aw aw rfl (by kernel_rfl) rfl rfl rfl rfl g82 e84) ?_;rintro _ _ ⟨t81, rfl, rfl⟩;show AI _ _ _ _ _ _ #[true, true, true, true, true, true, true, true, false, false, false] _
    refine zk 8 rfl (aq rfl) ?_;show AI _ _ _ _ _ _ #[true, true, true, true, true, true, true, true, true, false, false] _;refine zk 9 rfl (an (n := 3) (by kernel_rfl) rfl) ?_;show AI _ _ _ _ _ _ #[true, true, true, true, true, true, true, true, true, true, false] _;refine bJ (i := 10) (by kernel_rfl) rfl rfl <| AIO.op0 (az (i := 0) (c := slE _ _ _) (by kernel_rfl) rfl rfl rfl rfl (ai rfl)) ?_;show AI _ _ _ _ _ _ #[true, true, true, true, true, true, true, true, true, true, true] _;refine cn rfl ?_;exact Exists.intro (x83, t81) ⟨H, ba [0, 0, 0, 0, 0] (.cons (.refl _) (.cons (.refl _) (.cons (.refl _) (.nil _)))) rfl⟩
   ·refine bf rfl (gG (i := 1) (n := 4) dt rfl (by kernel_rfl) rfl rfl (ai rfl)) ?_;show AI _ _ _ _ _ _ #[true, true, true, true, false, true, false, false, false, false, false] _;refine AI.two (i := 4) (j := 6) (by kernel_rfl) rfl rfl rfl rfl ?_ ?_
    ·refine bf rfl (ao (i := 0) aw rfl rfl rfl rfl) ?_;show AI _ _ _ _ _ _ #[true, true, true, true, true, true, false, false, false, false, false] _;refine bJ (i := 6) (by kernel_rfl) rfl rfl <| bf rfl (dT (ds := [i64 0, S x19.1, S ([] : List UInt8), slE (ab Enc.str Enc.str) y58 none]) 78 (.cons (.refl _) (.cons (.refl _) (.cons (.refl _) (.cons (.tok _ _ _) (.nil))))) (hc := rfl) <| dv (E := (ab Enc.int (ab Enc.str (ab Enc.str (Enc.sl (ab Enc.str Enc.str)))))) (bytes := 64) (zs := [.int .i64 0, .string ⟨#[]⟩, .string ⟨#[]⟩, .slice none 0 0]) (l := ([(0, x19.1, ([] : List UInt8), y58)] : List (Int × (List UInt8) × (List UInt8) × List ((List UInt8) × List UInt8)))) aw (by kernel_rfl) (by kernel_rfl) rfl rfl rfl rfl rfl) ?_;show AI _ _ _ _ _ _ #[true, true, true, true, true, true, true, false, false, false, false] _;refine bJ (i := 7) (by kernel_rfl) rfl rfl <| AIO.opx rfl (gX (E := (ab Enc.int (ab Enc.str (ab Enc.str (Enc.sl (ab Enc.str Enc.str)))))) (bytes := 64) 3 aw aw rfl (by kernel_rfl) rfl rfl rfl rfl g82 e84) ?_;rintro _ _ ⟨t85, rfl, rfl⟩;show AI _ _ _ _ _ _ #[true, true, true, true, true, true, true, true, false, false, false] _;refine zk 8 rfl (aq rfl) ?_;show AI _ _ _ _ _ _ #[true, true, true, true, true, true, true, true, true, false, false] _;refine zk 9 rfl (an (n := 3) (by kernel_rfl) rfl) ?_
     show AI _ _ _ _ _ _ #[true, true, true, true, true, true, true, true, true, true, false] _;refine bJ (i := 10) (by kernel_rfl) rfl rfl <| AIO.op0 (az (i := 0) (c := slE _ _ _) (by kernel_rfl) rfl rfl rfl rfl (ai rfl)) ?_;show AI _ _ _ _ _ _ #[true, true, true, true, true, true, true, true, true, true, true] _;refine cn rfl ?_;exact Exists.intro (x83, t85) ⟨H, ba [0, 0, 0, 0, 0] (.cons (.refl _) (.cons (.refl _) (.cons (.refl _) (.nil _)))) rfl⟩
    ·refine bf rfl (dT (ds := [i64 0, S x19.1, S ([] : List UInt8), slE (ab Enc.str Enc.str) y58 none]) 78 (.cons (.refl _) (.cons (.refl _) (.cons (.refl _) (.cons (.tok _ _ _) (.nil))))) (hc := rfl) <| dv (E := (ab Enc.int (ab Enc.str (ab Enc.str (Enc.sl (ab Enc.str Enc.str)))))) (bytes := 64) (zs := [.int .i64 0, .string ⟨#[]⟩, .string ⟨#[]⟩, .slice none 0 0]) (l := ([(0, x19.1, ([] : List UInt8), y58)] : List (Int × (List UInt8) × (List UInt8) × List ((List UInt8) × List UInt8)))) aw (by kernel_rfl) (by kernel_rfl) rfl rfl rfl rfl rfl) ?_;show AI _ _ _ _ _ _ #[true, true, true, true, false, true, true, false, false, false, false] _;refine bJ (i := 4) (by kernel_rfl) rfl rfl <| bf rfl (ao (i := 0) aw rfl rfl rfl rfl) ?_;show AI _ _ _ _ _ _ #[true, true, true, true, true, true, true, false, false, false, false] _;refine bJ (i := 7) (by kernel_rfl) rfl rfl <| AIO.opx rfl (gX (E := (ab Enc.int (ab Enc.str (ab Enc.str (Enc.sl (ab Enc.str Enc.str)))))) (bytes := 64) 3 aw aw rfl (by kernel_rfl) rfl rfl rfl rfl g82 e84) ?_;rintro _ _ ⟨t86, rfl, rfl⟩;show AI _ _ _ _ _ _ #[true, true, true, true, true, true, true, true, false, false, false] _;refine zk 8 rfl (aq rfl) ?_;show AI _ _ _ _ _ _ #[true, true, true, true, true, true, true, true, true, false, false] _;refine zk 9 rfl (an (n := 3) (by kernel_rfl) rfl) ?_
     show AI _ _ _ _ _ _ #[true, true, true, true, true, true, true, true, true, true, false] _;refine bJ (i := 10) (by kernel_rfl) rfl rfl <| AIO.op0 (az (i := 0) (c := slE _ _ _) (by kernel_rfl) rfl rfl rfl rfl (ai rfl)) ?_;show AI _ _ _ _ _ _ #[true, true, true, true, true, true, true, true, true, true, true] _;refine cn rfl ?_;exact Exists.intro (x83, t86) ⟨H, ba [0, 0, 0, 0, 0] (.cons (.refl _) (.cons (.refl _) (.cons (.refl _) (.nil _)))) rfl⟩
  rintro ⟨y87, t88⟩ H;replace H : eR F x19 y56 y57 y66 y79 y87 = some rv := H
  unfold eR at H
  refine bQ (X := Nat × (List (List UInt8)) × (List (Int × (List UInt8) × (List UInt8) × List ((List UInt8) × List UInt8))) × Nat) (fun (t96, y97, y98, t99) => ⟨[], [], [.obj o1 [S y57, .sk t96 y97.length, i64 y66, slE (ab Enc.int (ab Enc.str (ab Enc.str (Enc.sl (ab Enc.str Enc.str))))) y98 (some t99)], .stk t96 (Enc.str.fl y97), .tok t99 33]⟩) (fun (t96, y97, y98, t99) => eb y57 y66 y97 y98 = some rv) ?_ ?_
  ·refine ac <| aa ?_;show AR _ _ _ _ _ [0] _;refine zm rfl <| ag <| ax rfl (fun c90 => ?_) (fun c90 => ?_)
   ·replace H := aV c90 H
    rcases Or.symm (cm H) with ⟨p93, e92, H⟩ | ⟨x91, e92, H⟩
    ·subst H;refine aa ?_;show AR _ _ _ _ _ [0, 1, 2, 3] _;refine zS rfl (af (av := .pt _ _) rfl) <| zS rfl (an (n := 1) (by kernel_rfl) rfl) <| zR rfl (ao (i := 1) ah rfl rfl rfl rfl) <| am rfl rfl (bm (c := cy (.iface 46 (.agg #[.int .i64 p93]))) [0, 1, 1] rfl jJ rfl (jZ F o1 y57 y79 t78 y66 y87 t88 x19.1 p93 e92) rfl ?_);exact And.intro rfl (Exists.intro [] ⟨aP _, rfl, rfl⟩)
    refine aa ?_;show AR _ _ _ _ _ [0, 1, 2, 3] _;refine zS rfl (af (av := .pt _ _) rfl) <| zS rfl (an (n := 1) (by kernel_rfl) rfl) <| zR rfl (ao (i := 1) ah rfl rfl rfl rfl) <| am rfl rfl (bg [0, 1, 1] rfl jJ rfl (kE F o1 y57 y79 t78 y66 y87 t88 x19.1 x91.1 x91.2 e92) rfl (fun c A' h => by cases h.1) ?_)
    rintro av A' ⟨h, t94, t95, rfl⟩; cases h
    refine ag ?_;exact Exists.intro (t94, x91.2, x91.1, t95) ⟨H, ba [0, 0, 0] (.nil _) rfl⟩
   ·replace H := aW c90 H;refine aB ?_;exact Exists.intro (t78, y79, y87, t88) ⟨H, ba [0, 1, 1] (.nil _) rfl⟩
  rintro ⟨t96, y97, y98, t99⟩ H;replace H : eb y57 y66 y97 y98 = some rv := H
  unfold eb at H
  refine ac <| aa ?_;show AR _ _ _ _ _ [0] _;refine za rfl <| ag <| aI ?_;obtain rfl := al H;exact And.intro rfl (Exists.intro _ (Exists.intro _ ⟨aC rfl (.refl _), aH [0, 0, 0] rfl, rfl, t96, t99, rfl⟩))
theorem lY (F : Nat) (o1 : Nat) (a2 : List UInt8) (a3 : List (List UInt8)) (t4 : Nat) (a5 : Int) (a6 : List (Int × (List UInt8) × (List UInt8) × List ((List UInt8) × List UInt8))) (t7 : Nat) (r8 : Bool) (r9 : List UInt8) (r12 : Int) (r13 : List (Int × (List UInt8) × (List UInt8) × List ((List UInt8) × List UInt8))) (r10 : List (List UInt8)) (H : ff F a2 a3 a5 a6 = some (Res.ok (r8, r9, r12, r13, r10))) : ACalls Tryz.prog 43 [.pt o1 0] [.obj o1 [S a2, .sk t4 a3.length, i64 a5, slE (ab Enc.int (ab Enc.str (ab Enc.str (Enc.sl (ab Enc.str Enc.str))))) a6 (some t7)], .stk t4 (Enc.str.fl a3), .tok t7 33] (fun e A' => e = .ret (B r8) ∧ ∃ t11 t14, A' = [.obj o1 [S r9, .sk t11 r10.length, i64 r12, slE (ab Enc.int (ab Enc.str (ab Enc.str (Enc.sl (ab Enc.str Enc.str))))) r13 (some t14)], .stk t11 (Enc.str.fl r10), .tok t14 33]) := kF F o1 a2 a3 t4 a5 a6 t7 _ H
theorem lg (F : Nat) (o1 : Nat) (a2 : List UInt8) (a3 : List (List UInt8)) (t4 : Nat) (a5 : Int) (a6 : List (Int × (List UInt8) × (List UInt8) × List ((List UInt8) × List UInt8))) (t7 : Nat) (e : Int) (H : ff F a2 a3 a5 a6 = some (Res.pan e)) : ACalls Tryz.prog 43 [.pt o1 0] [.obj o1 [S a2, .sk t4 a3.length, i64 a5, slE (ab Enc.int (ab Enc.str (ab Enc.str (Enc.sl (ab Enc.str Enc.str))))) a6 (some t7)], .stk t4 (Enc.str.fl a3), .tok t7 33] (fun ae A' => ae = .pan ((fun e => cy (.iface 46 (.agg #[.int .i64 e]))) e) ∧ A' = []) := kF F o1 a2 a3 t4 a5 a6 t7 _ H
abbrev _root_.Go.Av.cM := @Tryz.underlying70
abbrev _root_.Go.Av.cf := @Tryz.underlying71
set_option maxRecDepth 100000 in
set_option maxHeartbeats 1000000 in
theorem nB (F : Nat) (o1 : Nat) (a2 : List UInt8) (a3 : List (List UInt8)) (t4 : Nat) (a5 : Int) (a6 : List (Int × (List UInt8) × (List UInt8) × List ((List UInt8) × List UInt8))) (t7 : Nat) (rv : Res ((List UInt8) × Int × (List (Int × (List UInt8) × (List UInt8) × List ((List UInt8) × List UInt8))) × (List (List UInt8)))) (H : jl F a2 a3 a5 a6 = some rv) : ACalls Tryz.prog 22 [.pt o1 0] [.obj o1 [S a2, .sk t4 a3.length, i64 a5, slE (ab Enc.int (ab Enc.str (ab Enc.str (Enc.sl (ab Enc.str Enc.str))))) a6 (some t7)], .stk t4 (Enc.str.fl a3), .tok t7 33] (iK (fun (r : (List UInt8) × Int × (List (Int × (List UInt8) × (List UInt8) × List ((List UInt8) × List UInt8))) × (List (List UInt8))) => (fun e A' => e = .ret (.tup []) ∧ ∃ t10 t13, A' = [.obj o1 [S r.1, .sk t10 r.2.2.2.length, i64 r.2.1, slE (ab Enc.int (ab Enc.str (ab Enc.str (Enc.sl (ab Enc.str Enc.str))))) r.2.2.1 (some t13)], .stk t10 (Enc.str.fl r.2.2.2), .tok t13 33])) (fun e => cy (.iface 46 (.agg #[.int .i64 e]))) rv) := by
 unfold jl at H
 refine au Tryz.func22 rfl rfl ?_;show AW _ _ 14 _ _ _;refine ac <| aa ?_;show AR _ _ _ _ _ [0, 1, 2] _;refine zR rfl (gQ (E := iv) (bytes := 8) (xs := [.func 37, .func 38, .func 39, .func 40, .func 41, .func 42, .func 43]) (l := ([37, 38, 39, 40, 41, 42, 43] : List Nat)) cf (by kernel_rfl) rfl rfl (by decide) rfl rfl) <| zS rfl (dj (av' := i64 7) (bc cf rfl) rfl) <| zm rfl <| ag <| aN <| sI 9 <| ac <| aa ?_;show AR _ _ _ _ _ [0] _;refine zS rfl (dj (av' := B true) (bW rfl rfl) (ay (by decide))) <| ag <| ac <| ax rfl (fun _ => ?_) (fun hx => co rfl hx);refine aB <| ac <| aN <| ac <| aa ?_;show AR _ _ _ _ _ [0, 1, 2] _;refine zS rfl (cF (E := iv) (m := 0) cf (by kernel_rfl) rfl rfl rfl rfl) <| zS rfl (aM cM rfl rfl) <| za rfl <| ag <| ac ?_
 rcases Or.symm (cm H) with ⟨p16, e15, H⟩ | ⟨x14, e15, H⟩
 ·subst H;refine aa ?_;show AR _ _ _ _ _ [0, 1, 2] _;refine zm rfl <| zS rfl (af (av := .pt _ _) rfl) <| am rfl rfl (AO.callFPan (c := cy (.iface 46 (.agg #[.int .i64 p16]))) [0, 0, 0] rfl (.inr ⟨rfl, rfl, rfl⟩) oq rfl (mo F o1 a2 a3 t4 a5 a6 t7 p16 e15) rfl ?_);exact And.intro rfl (Exists.intro [] ⟨aP _, rfl, rfl⟩)
 refine aa ?_;show AR _ _ _ _ _ [0, 1, 2] _;refine zm rfl <| zS rfl (af (av := .pt _ _) rfl) <| am rfl rfl (AO.callFAt [0, 0, 0] rfl (.inr ⟨rfl, rfl, rfl⟩) oq rfl (ne F o1 a2 a3 t4 a5 a6 t7 x14.1 x14.2.1 x14.2.2 e15) rfl (fun c A' h => by cases h.1) ?_)
 rintro av A' ⟨h, t17, rfl⟩; cases h
 refine ag <| ax rfl (fun c18 => ?_) (fun c18 => ?_)
 ·replace H := aV c18 H;refine aI ?_;obtain rfl := al H;exact And.intro rfl (Exists.intro _ (Exists.intro _ ⟨bK rfl, aH [0, 0, 0] rfl, rfl, t4, t17, rfl⟩))
 ·replace H := aW c18 H;refine aB <| aa ?_;show AR _ _ _ _ _ [0, 1] _;refine zS rfl (dj (av' := i64 1) (eH rfl rfl (by decide)) rfl) <| zm rfl <| ag <| ac <| aa ?_;show AR _ _ _ _ _ [0] _;refine zS rfl (dj (av' := B true) (bW rfl rfl) (ay (by decide))) <| ag <| ac <| ax rfl (fun _ => ?_) (fun hx => co rfl hx);refine aB <| ac <| aN <| ac <| aa ?_;show AR _ _ _ _ _ [0, 1, 2] _;refine zS rfl (cF (E := iv) (m := 1) cf (by kernel_rfl) rfl rfl rfl rfl) <| zS rfl (aM cM rfl rfl) <| za rfl <| ag <| ac ?_
  rcases Or.symm (cm H) with ⟨p21, e20, H⟩ | ⟨x19, e20, H⟩
  ·subst H;refine aa ?_;show AR _ _ _ _ _ [0, 1, 2] _;refine zm rfl <| zS rfl (af (av := .pt _ _) rfl) <| am rfl rfl (AO.callFPan (c := cy (.iface 46 (.agg #[.int .i64 p21]))) [0, 0, 0] rfl (.inr ⟨rfl, rfl, rfl⟩) oo rfl (lh F o1 x14.2.1 a3 t4 a5 x14.2.2 t17 p21 e20) rfl ?_);exact And.intro rfl (Exists.intro [] ⟨aP _, rfl, rfl⟩)
  refine aa ?_;show AR _ _ _ _ _ [0, 1, 2] _;refine zm rfl <| zS rfl (af (av := .pt _ _) rfl) <| am rfl rfl (AO.callFAt [0, 0, 0] rfl (.inr ⟨rfl, rfl, rfl⟩) oo rfl (lZ F o1 x14.2.1 a3 t4 a5 x14.2.2 t17 x19.1 x19.2 e20) rfl (fun c A' h => by cases h.1) ?_)
  rintro av A' ⟨h, rfl⟩; cases h
  refine ag <| ax rfl (fun c22 => ?_) (fun c22 => ?_)
  ·replace H := aV c22 H;refine aI ?_;obtain rfl := al H;exact And.intro rfl (Exists.intro _ (Exists.intro _ ⟨bK rfl, aH [0, 0, 0] rfl, rfl, t4, t17, rfl⟩))
  ·replace H := aW c22 H;refine aB <| aa ?_;show AR _ _ _ _ _ [0, 1] _;refine zS rfl (dj (av' := i64 2) (eH rfl rfl (by decide)) rfl) <| zm rfl <| ag <| ac <| aa ?_;show AR _ _ _ _ _ [0] _;refine zS rfl (dj (av' := B true) (bW rfl rfl) (ay (by decide))) <| ag <| ac <| ax rfl (fun _ => ?_) (fun hx => co rfl hx);refine aB <| ac <| aN <| ac <| aa ?_;show AR _ _ _ _ _ [0, 1, 2] _;refine zS rfl (cF (E := iv) (m := 2) cf (by kernel_rfl) rfl rfl rfl rfl) <| zS rfl (aM cM rfl rfl) <| za rfl <| ag <| ac ?_
   rcases Or.symm (cm H) with ⟨p25, e24, H⟩ | ⟨x23, e24, H⟩
   ·subst H;refine aa ?_;show AR _ _ _ _ _ [0, 1, 2] _;refine zm rfl <| zS rfl (af (av := .pt _ _) rfl) <| am rfl rfl (AO.callFPan (c := cy (.iface 46 (.agg #[.int .i64 p25]))) [0, 0, 0] rfl (.inr ⟨rfl, rfl, rfl⟩) om rfl (oG F o1 x19.2 a3 t4 a5 x14.2.2 t17 p25 e24) rfl ?_);exact And.intro rfl (Exists.intro [] ⟨aP _, rfl, rfl⟩)
   refine aa ?_;show AR _ _ _ _ _ [0, 1, 2] _;refine zm rfl <| zS rfl (af (av := .pt _ _) rfl) <| am rfl rfl (AO.callFAt [0, 0, 0] rfl (.inr ⟨rfl, rfl, rfl⟩) om rfl (pB F o1 x19.2 a3 t4 a5 x14.2.2 t17 x23.1 x23.2 e24) rfl (fun c A' h => by cases h.1) ?_)
   rintro av A' ⟨h, rfl⟩; cases h
   refine ag <| ax rfl (fun c26 => ?_) (fun c26 => ?_)
   ·replace H := aV c26 H;refine aI ?_;obtain rfl := al H;exact And.intro rfl (Exists.intro _ (Exists.intro _ ⟨bK rfl, aH [0, 0, 0] rfl, rfl, t4, t17, rfl⟩))
   ·replace H := aW c26 H;refine aB <| aa ?_;show AR _ _ _ _ _ [0, 1] _;refine zS rfl (dj (av' := i64 3) (eH rfl rfl (by decide)) rfl) <| zm rfl <| ag <| ac <| aa ?_;show AR _ _ _ _ _ [0] _;refine zS rfl (dj (av' := B true) (bW rfl rfl) (ay (by decide))) <| ag <| ac <| ax rfl (fun _ => ?_) (fun hx => co rfl hx);refine aB <| ac <| aN <| ac <| aa ?_;show AR _ _ _ _ _ [0, 1, 2] _;refine zS rfl (cF (E := iv) (m := 3) cf (by kernel_rfl) rfl rfl rfl rfl) <| zS rfl (aM cM rfl rfl) <| za rfl <| ag <| ac ?_
    rcases Or.symm (cm H) with ⟨p29, e28, H⟩ | ⟨x27, e28, H⟩
    ·subst H;refine aa ?_;show AR _ _ _ _ _ [0, 1, 2] _;refine zm rfl <| zS rfl (af (av := .pt _ _) rfl) <| am rfl rfl (AO.callFPan (c := cy (.iface 46 (.agg #[.int .i64 p29]))) [0, 0, 0] rfl (.inr ⟨rfl, rfl, rfl⟩) oh rfl (ng F o1 x23.2 a3 t4 a5 x14.2.2 t17 p29 e28) rfl ?_);exact And.intro rfl (Exists.intro [] ⟨aP _, rfl, rfl⟩)
    refine aa ?_;show AR _ _ _ _ _ [0, 1, 2] _;refine zm rfl <| zS rfl (af (av := .pt _ _) rfl) <| am rfl rfl (AO.callFAt [0, 0, 0] rfl (.inr ⟨rfl, rfl, rfl⟩) oh rfl (oD F o1 x23.2 a3 t4 a5 x14.2.2 t17 x27.1 x27.2.1 x27.2.2 e28) rfl (fun c A' h => by cases h.1) ?_)
    rintro av A' ⟨h, t30, rfl⟩; cases h
    refine ag <| ax rfl (fun c31 => ?_) (fun c31 => ?_)
    ·replace H := aV c31 H;refine aI ?_;obtain rfl := al H;exact And.intro rfl (Exists.intro _ (Exists.intro _ ⟨bK rfl, aH [0, 0, 0] rfl, rfl, t4, t30, rfl⟩))
    ·replace H := aW c31 H;refine aB <| aa ?_;show AR _ _ _ _ _ [0, 1] _;refine zS rfl (dj (av' := i64 4) (eH rfl rfl (by decide)) rfl) <| zm rfl <| ag <| ac <| aa ?_;show AR _ _ _ _ _ [0] _;refine zS rfl (dj (av' := B true) (bW rfl rfl) (ay (by decide))) <| ag <| ac <| ax rfl (fun _ => ?_) (fun hx => co rfl hx);refine aB <| ac <| aN <| ac <| aa ?_;show AR _ _ _ _ _ [0, 1, 2] _;refine zS rfl (cF (E := iv) (m := 4) cf (by kernel_rfl) rfl rfl rfl rfl) <| zS rfl (aM cM rfl rfl) <| za rfl <| ag <| ac ?_
     rcases Or.symm (cm H) with ⟨p34, e33, H⟩ | ⟨x32, e33, H⟩
     ·subst H;refine aa ?_;show AR _ _ _ _ _ [0, 1, 2] _;refine zm rfl <| zS rfl (af (av := .pt _ _) rfl) <| am rfl rfl (AO.callFPan (c := cy (.iface 46 (.agg #[.int .i64 p34]))) [0, 0, 0] rfl (.inr ⟨rfl, rfl, rfl⟩) og rfl (oC F o1 x27.2.1 a3 t4 a5 x27.2.2 t30 p34 e33) rfl ?_);exact And.intro rfl (Exists.intro [] ⟨aP _, rfl, rfl⟩)
     refine aa ?_;show AR _ _ _ _ _ [0, 1, 2] _;refine zm rfl <| zS rfl (af (av := .pt _ _) rfl) <| am rfl rfl (AO.callFAt [0, 0, 0] rfl (.inr ⟨rfl, rfl, rfl⟩) og rfl (pA F o1 x27.2.1 a3 t4 a5 x27.2.2 t30 x32.1 x32.2 e33) rfl (fun c A' h => by cases h.1) ?_)
     rintro av A' ⟨h, rfl⟩; cases h
     refine ag <| ax rfl (fun c35 => ?_) (fun c35 => ?_)
     ·replace H := aV c35 H;refine aI ?_;obtain rfl := al H;exact And.intro rfl (Exists.intro _ (Exists.intro _ ⟨bK rfl, aH [0, 0, 0] rfl, rfl, t4, t30, rfl⟩))
     ·replace H := aW c35 H;refine aB <| aa ?_;show AR _ _ _ _ _ [0, 1] _;refine zS rfl (dj (av' := i64 5) (eH rfl rfl (by decide)) rfl) <| zm rfl <| ag <| ac <| aa ?_;show AR _ _ _ _ _ [0] _;refine zS rfl (dj (av' := B true) (bW rfl rfl) (ay (by decide))) <| ag <| ac <| ax rfl (fun _ => ?_) (fun hx => co rfl hx);refine aB <| ac <| aN <| ac <| aa ?_;show AR _ _ _ _ _ [0, 1, 2] _;refine zS rfl (cF (E := iv) (m := 5) cf (by kernel_rfl) rfl rfl rfl rfl) <| zS rfl (aM cM rfl rfl) <| za rfl <| ag <| ac ?_
      rcases Or.symm (cm H) with ⟨p38, e37, H⟩ | ⟨x36, e37, H⟩
      ·subst H;refine aa ?_;show AR _ _ _ _ _ [0, 1, 2] _;refine zm rfl <| zS rfl (af (av := .pt _ _) rfl) <| am rfl rfl (AO.callFPan (c := cy (.iface 46 (.agg #[.int .i64 p38]))) [0, 0, 0] rfl (.inr ⟨rfl, rfl, rfl⟩) oe rfl (lX F o1 x32.2 a3 t4 a5 x27.2.2 t30 p38 e37) rfl ?_);exact And.intro rfl (Exists.intro [] ⟨aP _, rfl, rfl⟩)
      refine aa ?_;show AR _ _ _ _ _ [0, 1, 2] _;refine zm rfl <| zS rfl (af (av := .pt _ _) rfl) <| am rfl rfl (AO.callFAt [0, 0, 0] rfl (.inr ⟨rfl, rfl, rfl⟩) oe rfl (mq F o1 x32.2 a3 t4 a5 x27.2.2 t30 x36.1 x36.2.1 x36.2.2.1 x36.2.2.2 e37) rfl (fun c A' h => by cases h.1) ?_)
      rintro av A' ⟨h, t39, t40, rfl⟩; cases h
      refine ag <| ax rfl (fun c41 => ?_) (fun c41 => ?_)
      ·replace H := aV c41 H;refine aI ?_;obtain rfl := al H;exact And.intro rfl (Exists.intro _ (Exists.intro _ ⟨bK rfl, aH [0, 0, 0] rfl, rfl, t39, t40, rfl⟩))
      ·replace H := aW c41 H;refine aB <| aa ?_;show AR _ _ _ _ _ [0, 1] _;refine zS rfl (dj (av' := i64 6) (eH rfl rfl (by decide)) rfl) <| zm rfl <| ag <| ac <| aa ?_;show AR _ _ _ _ _ [0] _;refine zS rfl (dj (av' := B true) (bW rfl rfl) (ay (by decide))) <| ag <| ac <| ax rfl (fun _ => ?_) (fun hx => co rfl hx);refine aB <| ac <| aN <| ac <| aa ?_;show AR _ _ _ _ _ [0, 1, 2] _;refine zS rfl (cF (E := iv) (m := 6) cf (by kernel_rfl) rfl rfl rfl rfl) <| zS rfl (aM cM rfl rfl) <| za rfl <| ag <| ac ?_
       rcases Or.symm (cm H) with ⟨p44, e43, H⟩ | ⟨x42, e43, H⟩
       ·subst H;refine aa ?_;show AR _ _ _ _ _ [0, 1, 2] _;refine zm rfl <| zS rfl (af (av := .pt _ _) rfl) <| am rfl rfl (AO.callFPan (c := cy (.iface 46 (.agg #[.int .i64 p44]))) [0, 0, 0] rfl (.inr ⟨rfl, rfl, rfl⟩) od rfl (lg F o1 x36.2.1 x36.2.2.2 t39 a5 x36.2.2.1 t40 p44 e43) rfl ?_);exact And.intro rfl (Exists.intro [] ⟨aP _, rfl, rfl⟩)
       refine aa ?_;show AR _ _ _ _ _ [0, 1, 2] _;refine zm rfl <| zS rfl (af (av := .pt _ _) rfl) <| am rfl rfl (AO.callFAt [0, 0, 0] rfl (.inr ⟨rfl, rfl, rfl⟩) od rfl (lY F o1 x36.2.1 x36.2.2.2 t39 a5 x36.2.2.1 t40 x42.1 x42.2.1 x42.2.2.1 x42.2.2.2.1 x42.2.2.2.2 e43) rfl (fun c A' h => by cases h.1) ?_)
       rintro av A' ⟨h, t45, t46, rfl⟩; cases h
       refine ag <| ax rfl (fun c47 => ?_) (fun c47 => ?_)
       ·replace H := aV c47 H;refine aI ?_;obtain rfl := al H;exact And.intro rfl (Exists.intro _ (Exists.intro _ ⟨bK rfl, aH [0, 0, 0] rfl, rfl, t45, t46, rfl⟩))
       ·replace H := aW c47 H;refine aB <| aa ?_;show AR _ _ _ _ _ [0, 1] _;refine zS rfl (dj (av' := i64 7) (eH rfl rfl (by decide)) rfl) <| zm rfl <| ag <| ac <| aa ?_;show AR _ _ _ _ _ [0] _;refine zS rfl (dj (av' := B false) (bW rfl rfl) (ay (by decide))) <| ag <| ac <| ax rfl (fun hx => co hx rfl) (fun _ => ?_);refine ct ?_;obtain rfl := al H;exact And.intro rfl (Exists.intro _ (Exists.intro _ ⟨bK rfl, aH [0, 0, 0] rfl, rfl, t45, t46, rfl⟩))
theorem oB (F : Nat) (o1 : Nat) (a2 : List UInt8) (a3 : List (List UInt8)) (t4 : Nat) (a5 : Int) (a6 : List (Int × (List UInt8) × (List UInt8) × List ((List UInt8) × List UInt8))) (t7 : Nat) (r8 : List UInt8) (r11 : Int) (r12 : List (Int × (List UInt8) × (List UInt8) × List ((List UInt8) × List UInt8))) (r9 : List (List UInt8)) (H : jl F a2 a3 a5 a6 = some (Res.ok (r8, r11, r12, r9))) : ACalls Tryz.prog 22 [.pt o1 0] [.obj o1 [S a2, .sk t4 a3.length, i64 a5, slE (ab Enc.int (ab Enc.str (ab Enc.str (Enc.sl (ab Enc.str Enc.str))))) a6 (some t7)], .stk t4 (Enc.str.fl a3), .tok t7 33] (fun e A' => e = .ret (.tup []) ∧ ∃ t10 t13, A' = [.obj o1 [S r8, .sk t10 r9.length, i64 r11, slE (ab Enc.int (ab Enc.str (ab Enc.str (Enc.sl (ab Enc.str Enc.str))))) r12 (some t13)], .stk t10 (Enc.str.fl r9), .tok t13 33]) := nB F o1 a2 a3 t4 a5 a6 t7 _ H
theorem nd (F : Nat) (o1 : Nat) (a2 : List UInt8) (a3 : List (List UInt8)) (t4 : Nat) (a5 : Int) (a6 : List (Int × (List UInt8) × (List UInt8) × List ((List UInt8) × List UInt8))) (t7 : Nat) (e : Int) (H : jl F a2 a3 a5 a6 = some (Res.pan e)) : ACalls Tryz.prog 22 [.pt o1 0] [.obj o1 [S a2, .sk t4 a3.length, i64 a5, slE (ab Enc.int (ab Enc.str (ab Enc.str (Enc.sl (ab Enc.str Enc.str))))) a6 (some t7)], .stk t4 (Enc.str.fl a3), .tok t7 33] (fun ae A' => ae = .pan ((fun e => cy (.iface 46 (.agg #[.int .i64 e]))) e) ∧ A' = []) := nB F o1 a2 a3 t4 a5 a6 t7 _ H
abbrev _root_.Go.Av.cq := @Tryz.underlying25
set_option maxRecDepth 100000 in
set_option maxHeartbeats 1000000 in
theorem lF (F : Nat) (a1 : List UInt8) (q2 : Option Nat) (r3 : List (Int × (List UInt8) × (List UInt8) × List ((List UInt8) × List UInt8))) (r4 : Int) (H : gJ F a1 = some (r3, r4)) : ACalls Tryz.prog 10 [slE Enc.byte a1 q2] [] (Ret (.tup [slE (ab Enc.int (ab Enc.str (ab Enc.str (Enc.sl (ab Enc.str Enc.str))))) r3 none, i64 r4]) []) := by
 unfold gJ at H
 refine me [2, 3] Tryz.func10 rfl rfl ?_;show AW _ _ 38 _ _ _;refine ac <| aa ?_;show AR _ _ _ _ _ [0, 1] _;refine zX rfl (ei (zs := [.slice none 0 0]) (by kernel_rfl)) ?_;rintro _ _ ⟨o5, rfl, rfl⟩;refine zX rfl (ei (zs := [.int .i64 0]) (by kernel_rfl)) ?_;rintro _ _ ⟨o6, rfl, rfl⟩;refine ag <| ac <| ac <| aa ?_;show AR _ _ _ _ _ [0, 1, 2] _;refine zS rfl (af (av := slE _ _ _) rfl) <| zS rfl (bc aj rfl) <| zS rfl (gl rfl rfl) <| ag <| ax rfl (fun c7 => ?_) (fun c7 => ?_)
 ·replace H := aV c7 H;refine ac <| aa ?_;show AR _ _ _ _ _ [0, 1] _;refine s0 rfl rfl (az (i := 1) (c := .v _) (by kernel_rfl) rfl rfl rfl rfl (ai rfl)) <| s0 rfl rfl (az (i := 0) (c := .v _) (by kernel_rfl) rfl rfl rfl rfl (ai rfl)) <| ag <| aI ?_;obtain ⟨rfl, rfl⟩ := fo H;exact Exists.intro _ (Exists.intro _ ⟨hU rfl ((CellV.one (c := .v _) 1 aw rfl rfl rfl rfl).oneW (.nil _)) (CellV.one (c := .v _) 0 cq rfl rfl rfl rfl), aH [] rfl, rfl, rfl⟩)
 ·replace H := aW c7 H;refine aB <| ac <| aa ?_;show AR _ _ _ _ _ [0, 1] _;refine zS rfl (iX rfl rfl) <| am rfl rfl (AO.defer rfl ?_);show AR _ _ _ _ _ _ ⟨_, [.call (.func 21) [.pt o5 0, .pt o6 0] []], _⟩;refine ag <| ac <| aa ?_;show AR _ _ _ _ _ [0, 1, 2, 3, 4] _;refine zS rfl (af (av := slE _ _ _) rfl) <| zS rfl (kq aj cX ah rfl) <| zS rfl (eN (zs := [.string ⟨#[]⟩, .slice none 0 0, .int .i64 0, .slice none 0 0]) (ps := [(0, 1), (1, 1), (2, 1), (3, 1)]) (cs := [S a1, fI, i64 0, fI]) (by kernel_rfl) rfl rfl) <| zX rfl (opX_box rfl (.inr ⟨_, rfl⟩)) ?_;rintro _ _ ⟨o8, rfl, rfl⟩;refine zS rfl (aK (av := .pt _ _) rfl) <| ag ?_
  refine AW.nil_stkAt 0 1 rfl rfl fun t9 => ?_
  show AW _ _ _ _ _ ⟨_, _, [.stk t9 (Enc.str.fl ([] : List (List UInt8))), .obj o8 [S a1, .sk t9 (([] : List (List UInt8)).length), i64 0, fI], .obj o6 [i64 0], .obj o5 [fI]]⟩
  refine ja 1 3 4 33 rfl rfl fun t10 => ?_
  show AW _ _ _ _ _ ⟨_, _, [.tok t10 33, .stk t9 (Enc.str.fl ([] : List (List UInt8))), .obj o8 [S a1, .sk t9 (([] : List (List UInt8)).length), i64 0, slE (ab Enc.int (ab Enc.str (ab Enc.str (Enc.sl (ab Enc.str Enc.str))))) [] (some t10)], .obj o6 [i64 0], .obj o5 [fI]]⟩;refine bQ (X := (List UInt8) × Nat × (List (List UInt8)) × Int × (List (Int × (List UInt8) × (List UInt8) × List ((List UInt8) × List UInt8))) × Nat) (fun (y26, t27, y28, y29, y30, t31) => ⟨[(2, .pt o5 0), (3, .pt o6 0), (4, .pt o8 0)], [.call (.func 21) [.pt o5 0, .pt o6 0] []], [.obj o8 [S y26, .sk t27 y28.length, i64 y29, slE (ab Enc.int (ab Enc.str (ab Enc.str (Enc.sl (ab Enc.str Enc.str))))) y30 (some t31)], .obj o6 [i64 0], .obj o5 [fI], .stk t27 (Enc.str.fl y28), .tok t31 33]⟩) (fun (y26, t27, y28, y29, y30, t31) => fE F y26 y28 y29 y30 = some (r3, r4)) ?_ ?_
  ·refine aN <| cR (X := Nat × (List UInt8) × Nat × (List (List UInt8)) × Int × (List (Int × (List UInt8) × (List UInt8) × List ((List UInt8) × List UInt8))) × Nat) (fun (n18, y11, t12, y13, y14, y15, t16) => ⟨[(2, .pt o5 0), (3, .pt o6 0), (4, .pt o8 0)], [.call (.func 21) [.pt o5 0, .pt o6 0] []], [.obj o8 [S y11, .sk t12 y13.length, i64 y14, slE (ab Enc.int (ab Enc.str (ab Enc.str (Enc.sl (ab Enc.str Enc.str))))) y15 (some t16)], .obj o6 [i64 0], .obj o5 [fI], .stk t12 (Enc.str.fl y13), .tok t16 33]⟩) (fun (n18, y11, t12, y13, y14, y15, t16) => fF F n18 (y11, y13, y14, y15) = some (r3, r4)) (fun (n18, y11, t12, y13, y14, y15, t16) => n18) (F, a1, t9, ([] : List (List UInt8)), 0, [], t10) H (ba [2, 2, 2, 1, 0] (.cons (.refl _) (.cons (.refl _) (.cons (.refl _) (.nil _)))) rfl) ?_;rintro ⟨n18, y11, t12, y13, y14, y15, t16⟩ H;obtain ⟨n18, rfl, H⟩ := ep H;replace H : fG F (fF F n18) y11 y13 y14 y15 = some (r3, r4) := H
   unfold fG at H
   refine ac <| ac <| aa ?_;show AR _ _ _ _ _ [0, 1, 2, 3, 4] _;refine zS rfl (af (av := .pt _ _) rfl) <| zS rfl (aq rfl) <| zS rfl (an (n := 0) (by kernel_rfl) rfl) <| zR rfl (ao (i := 0) ah rfl rfl rfl rfl) <| zS rfl (ld rfl rfl) <| ag <| ax rfl (fun c19 => ?_) (fun c19 => ?_)
   ·replace H := aV c19 H;refine aB <| aN ?_
    rcases Or.symm (bndk_s H) with ⟨p22, e21, H⟩ | ⟨x20, e21, H⟩
    ·refine aa ?_;show AR _ _ _ _ _ [0, 1] _;refine zS rfl (af (av := .pt _ _) rfl) <| am rfl rfl (bm (c := cy (.iface 46 (.agg #[.int .i64 p22]))) [0, 2, 2] rfl ot rfl (nd F o8 y11 y13 t12 y14 y15 t16 p22 e21) rfl ?_);refine Exists.intro [(2, .pt o5 0), (3, .pt o6 0)] ⟨by simp, .cons (.refl _) (.cons (.refl _) (.nil _)), ?_⟩;show ALeaves _ _ _ _ _ [.call (.func 21) [.pt o5 0, .pt o6 0] []] _ [.obj o6 [i64 0], .obj o5 [fI]];refine ik (v := .tup []) (u1 := (.panicking [{ v := (.iface 46 (.agg #[.int .i64 p22])), recovered := true }])) (A2 := [.obj o6 [i64 p22], .obj o5 [fI]]) [0, 0] (fun h => by cases h) lx rfl ?_ ?_
     ·show ADCalls _ _ [.pt o5 0, .pt o6 0] [.obj o6 [i64 0], .obj o5 [fI]] _ _;refine fc (av := .ifc 46 (.agg [i64 p22])) (l := [1]) Tryz.func21 rfl rfl rfl rfl rfl Recovers.pan rfl (fun cs => ?_);refine ASR.op rfl rfl ((aK (av := .ifc _ _) rfl).opR _) <| ASR.nil <| ac <| aa ?_;show AR _ _ _ _ _ [0, 1] _;refine zS rfl (af (av := .ifc _ _) rfl) <| zS rfl (lL (ms := []) (.inr rfl) Tryz.underlying20 rfl rfl) <| ag <| ax rfl (fun _ => ?_) (fun hx => co rfl hx);refine ac <| aa ?_;show AR _ _ _ _ _ [0, 1, 2, 3, 4, 5, 6, 7] _;refine zS rfl (af (av := .ifc _ _) rfl) <| zS rfl (ji Tryz.underlying46 rfl rfl) <| zS rfl (af (av := .tup _) rfl) <| zS rfl (aJ (av := .agg _) rfl rfl) <| zS rfl (aJ (av := .v _) rfl rfl) <| zX rfl (ei (zs := [.int .i64 0]) (by kernel_rfl)) ?_;rintro _ _ ⟨o23, rfl, rfl⟩;refine s0 rfl rfl (cT (i := 0) (vs := [i64 p22]) (by kernel_rfl) rfl rfl (by simp [cd, slE]) rfl (ai rfl)) <| za rfl <| ag <| ac <| ac <| aa ?_;show AR _ _ _ _ _ [0, 1] _;refine zm rfl <| zS rfl (ce rfl) <| ag <| ax rfl (fun hx => co hx rfl) (fun _ => ?_);refine aB <| bH (by kernel_rfl) ?_;show AI _ _ _ _ _ 4 (Array.replicate 4 false) _;refine zk 0 rfl (an (n := 0) (by kernel_rfl) rfl) ?_;show AI _ _ _ _ _ _ #[true, false, false, false] _;refine AI.two (i := 1) (j := 2) (by kernel_rfl) rfl rfl rfl rfl ?_ ?_
      ·refine bf rfl (ao (i := 0) cq rfl rfl rfl rfl) ?_;show AI _ _ _ _ _ _ #[true, true, false, false] _;refine bJ (i := 2) (by kernel_rfl) rfl rfl <| AIO.op0 (az (i := 2) (c := .v _) (by kernel_rfl) rfl rfl rfl rfl (ai rfl)) ?_;show AI _ _ _ _ _ _ #[true, true, true, false] _;refine bJ (i := 3) (by kernel_rfl) rfl rfl <| AIO.op0 (az (i := 1) (c := .v _) (by kernel_rfl) rfl rfl rfl rfl (ai rfl)) ?_;show AI _ _ _ _ _ _ #[true, true, true, true] _;refine cn rfl ?_;exact And.intro rfl (Exists.intro _ (Exists.intro _ ⟨bK rfl, aH [1, 1] rfl, rfl, rfl, rfl⟩))
      ·refine AIO.op0 (az (i := 2) (c := .v _) (by kernel_rfl) rfl rfl rfl rfl (ai rfl)) ?_;show AI _ _ _ _ _ _ #[true, false, true, false] _;refine bJ (i := 1) (by kernel_rfl) rfl rfl <| bf rfl (ao (i := 0) cq rfl rfl rfl rfl) ?_;show AI _ _ _ _ _ _ #[true, true, true, false] _;refine bJ (i := 3) (by kernel_rfl) rfl rfl <| AIO.op0 (az (i := 1) (c := .v _) (by kernel_rfl) rfl rfl rfl rfl (ai rfl)) ?_;show AI _ _ _ _ _ _ #[true, true, true, true] _;refine cn rfl ?_;exact And.intro rfl (Exists.intro _ (Exists.intro _ ⟨bK rfl, aH [1, 1] rfl, rfl, rfl, rfl⟩))
     show ALeaves _ _ _ _ _ [] .returning [.obj o6 [i64 p22], .obj o5 [fI]];obtain ⟨rfl, rfl⟩ := fo H;exact Exists.intro _ (Exists.intro _ ⟨hU rfl ((CellV.one (c := .v _) 1 aw rfl rfl rfl rfl).oneW (.nil _)) (CellV.one (c := .v _) 0 cq rfl rfl rfl rfl), aH [] rfl, rfl, rfl⟩)
    refine aa ?_;show AR _ _ _ _ _ [0, 1] _;refine zS rfl (af (av := .pt _ _) rfl) <| am rfl rfl (bg [0, 2, 2] rfl ot rfl (oB F o8 y11 y13 t12 y14 y15 t16 x20.1 x20.2.1 x20.2.2.1 x20.2.2.2 e21) rfl (fun c A' h => by cases h.1) ?_)
    rintro av A' ⟨h, t24, t25, rfl⟩; cases h
    refine ag ?_;exact Exists.intro (n18, x20.1, t24, x20.2.2.2, x20.2.1, x20.2.2.1, t25) ⟨H, Nat.lt_succ_self _, ba [0, 2, 2, 0, 0] (.cons (.refl _) (.cons (.refl _) (.cons (.refl _) (.nil _)))) rfl⟩
   ·replace H := aW c19 H;refine ct ?_;exact Exists.intro (y11, t12, y13, y14, y15, t16) ⟨H, ba [0, 0, 0, 0, 0] (.cons (.refl _) (.cons (.refl _) (.cons (.refl _) (.nil _)))) rfl⟩
  rintro ⟨y26, t27, y28, y29, y30, t31⟩ H;replace H : fE F y26 y28 y29 y30 = some (r3, r4) := H
  unfold fE at H
  refine ac ?_
  rcases Or.symm (bndk_s H) with ⟨p36, e35, H⟩ | ⟨x34, e35, H⟩
  ·refine aa ?_;show AR _ _ _ _ _ [0, 1, 2, 3, 4, 5, 6, 7, 8, 9, 10, 11, 12, 13] _;refine zS rfl (af (av := .pt _ _) rfl) <| zS rfl (aq rfl) <| zS rfl (an (n := 1) (by kernel_rfl) rfl) <| zR rfl (ao (i := 0) ar rfl rfl rfl rfl) <| zS rfl (eD ar rfl) <| zS rfl (bM rfl rfl) <| zm rfl <| bb (l := [13]) 32 (B ((decide ((y28.length : Int) = 0)) && (decide (0 < y29)))) (fun K => ?_) ?_
   ·rcases ak (decide ((y28.length : Int) = 0)) with h33 | h33
    ·refine zU h33 rfl (af (av := .pt _ _) rfl) <| zU h33 rfl (aq rfl) <| zU h33 rfl (an (n := 2) (by kernel_rfl) rfl) <| zT h33 rfl (bP rfl rfl (ao (i := 0) bU rfl rfl rfl rfl) ?_);refine zU h33 rfl (gl rfl rfl) <| zS rfl (aE (av := .v _) rfl h33 rfl) ?_;exact K _ 5 _ (ay (cz h33)) rfl rfl
    ·refine zF h33 rfl <| zF h33 rfl <| zF h33 rfl <| zF h33 rfl <| zF h33 rfl <| zS rfl (aF (av := .v _) rfl h33 rfl) ?_;exact K _ 5 _ (ay (cA h33)) rfl rfl
   refine am rfl rfl (bm (c := cy (.iface 46 (.agg #[.int .i64 p36]))) [] rfl bw rfl (bA F ((decide ((y28.length : Int) = 0)) && (decide (0 < y29))) p36 e35) rfl ?_);refine Exists.intro [(2, .pt o5 0), (3, .pt o6 0)] ⟨by simp, .cons (.refl _) (.cons (.refl _) (.nil _)), ?_⟩;show ALeaves _ _ _ _ _ [.call (.func 21) [.pt o5 0, .pt o6 0] []] _ [.obj o8 [S y26, .sk t27 y28.length, i64 y29, slE (ab Enc.int (ab Enc.str (ab Enc.str (Enc.sl (ab Enc.str Enc.str))))) y30 (some t31)], .obj o6 [i64 0], .obj o5 [fI], .stk t27 (Enc.str.fl y28), .tok t31 33];refine ik (v := .tup []) (u1 := (.panicking [{ v := (.iface 46 (.agg #[.int .i64 p36])), recovered := true }])) (A2 := [.obj o6 [i64 p36], .obj o5 [fI]]) [1, 1] (fun h => by cases h) lx rfl ?_ ?_
   ·show ADCalls _ _ [.pt o5 0, .pt o6 0] [.obj o6 [i64 0], .obj o5 [fI]] _ _;refine fc (av := .ifc 46 (.agg [i64 p36])) (l := [1]) Tryz.func21 rfl rfl rfl rfl rfl Recovers.pan rfl (fun cs => ?_);refine ASR.op rfl rfl ((aK (av := .ifc _ _) rfl).opR _) <| ASR.nil <| ac <| aa ?_;show AR _ _ _ _ _ [0, 1] _;refine zS rfl (af (av := .ifc _ _) rfl) <| zS rfl (lL (ms := []) (.inr rfl) Tryz.underlying20 rfl rfl) <| ag <| ax rfl (fun _ => ?_) (fun hx => co rfl hx);refine ac <| aa ?_;show AR _ _ _ _ _ [0, 1, 2, 3, 4, 5, 6, 7] _;refine zS rfl (af (av := .ifc _ _) rfl) <| zS rfl (ji Tryz.underlying46 rfl rfl) <| zS rfl (af (av := .tup _) rfl) <| zS rfl (aJ (av := .agg _) rfl rfl) <| zS rfl (aJ (av := .v _) rfl rfl) <| zX rfl (ei (zs := [.int .i64 0]) (by kernel_rfl)) ?_;rintro _ _ ⟨o37, rfl, rfl⟩;refine s0 rfl rfl (cT (i := 0) (vs := [i64 p36]) (by kernel_rfl) rfl rfl (by simp [cd, slE]) rfl (ai rfl)) <| za rfl <| ag <| ac <| ac <| aa ?_;show AR _ _ _ _ _ [0, 1] _;refine zm rfl <| zS rfl (ce rfl) <| ag <| ax rfl (fun hx => co hx rfl) (fun _ => ?_);refine aB <| bH (by kernel_rfl) ?_;show AI _ _ _ _ _ 4 (Array.replicate 4 false) _;refine zk 0 rfl (an (n := 0) (by kernel_rfl) rfl) ?_;show AI _ _ _ _ _ _ #[true, false, false, false] _;refine AI.two (i := 1) (j := 2) (by kernel_rfl) rfl rfl rfl rfl ?_ ?_
    ·refine bf rfl (ao (i := 0) cq rfl rfl rfl rfl) ?_;show AI _ _ _ _ _ _ #[true, true, false, false] _;refine bJ (i := 2) (by kernel_rfl) rfl rfl <| AIO.op0 (az (i := 2) (c := .v _) (by kernel_rfl) rfl rfl rfl rfl (ai rfl)) ?_;show AI _ _ _ _ _ _ #[true, true, true, false] _;refine bJ (i := 3) (by kernel_rfl) rfl rfl <| AIO.op0 (az (i := 1) (c := .v _) (by kernel_rfl) rfl rfl rfl rfl (ai rfl)) ?_;show AI _ _ _ _ _ _ #[true, true, true, true] _;refine cn rfl ?_;exact And.intro rfl (Exists.intro _ (Exists.intro _ ⟨bK rfl, aH [1, 1] rfl, rfl, rfl, rfl⟩))
    ·refine AIO.op0 (az (i := 2) (c := .v _) (by kernel_rfl) rfl rfl rfl rfl (ai rfl)) ?_;show AI _ _ _ _ _ _ #[true, false, true, false] _;refine bJ (i := 1) (by kernel_rfl) rfl rfl <| bf rfl (ao (i := 0) cq rfl rfl rfl rfl) ?_;show AI _ _ _ _ _ _ #[true, true, true, false] _;refine bJ (i := 3) (by kernel_rfl) rfl rfl <| AIO.op0 (az (i := 1) (c := .v _) (by kernel_rfl) rfl rfl rfl rfl (ai rfl)) ?_;show AI _ _ _ _ _ _ #[true, true, true, true] _;refine cn rfl ?_;exact And.intro rfl (Exists.intro _ (Exists.intro _ ⟨bK rfl, aH [1, 1] rfl, rfl, rfl, rfl⟩))
   show ALeaves _ _ _ _ _ [] .returning [.obj o6 [i64 p36], .obj o5 [fI], .obj o8 [S y26, .sk t27 y28.length, i64 y29, slE (ab Enc.int (ab Enc.str (ab Enc.str (Enc.sl (ab Enc.str Enc.str))))) y30 (some t31)], .stk t27 (Enc.str.fl y28), .tok t31 33];obtain ⟨rfl, rfl⟩ := fo H;exact Exists.intro _ (Exists.intro _ ⟨hU rfl ((CellV.one (c := .v _) 1 aw rfl rfl rfl rfl).oneW (.nil _)) (CellV.one (c := .v _) 0 cq rfl rfl rfl rfl), aH [] rfl, rfl, rfl⟩)
  refine aa ?_;show AR _ _ _ _ _ [0, 1, 2, 3, 4, 5, 6, 7, 8, 9, 10, 11, 12, 13] _;refine zS rfl (af (av := .pt _ _) rfl) <| zS rfl (aq rfl) <| zS rfl (an (n := 1) (by kernel_rfl) rfl) <| zR rfl (ao (i := 0) ar rfl rfl rfl rfl) <| zS rfl (eD ar rfl) <| zS rfl (bM rfl rfl) <| zm rfl <| bb (l := [13]) 32 (B ((decide ((y28.length : Int) = 0)) && (decide (0 < y29)))) (fun K => ?_) ?_
  ·rcases ak (decide ((y28.length : Int) = 0)) with h33 | h33
   ·refine zU h33 rfl (af (av := .pt _ _) rfl) <| zU h33 rfl (aq rfl) <| zU h33 rfl (an (n := 2) (by kernel_rfl) rfl) <| zT h33 rfl (bP rfl rfl (ao (i := 0) bU rfl rfl rfl rfl) ?_);refine zU h33 rfl (gl rfl rfl) <| zS rfl (aE (av := .v _) rfl h33 rfl) ?_;exact K _ 5 _ (ay (cz h33)) rfl rfl
   ·refine zF h33 rfl <| zF h33 rfl <| zF h33 rfl <| zF h33 rfl <| zF h33 rfl <| zS rfl (aF (av := .v _) rfl h33 rfl) ?_;exact K _ 5 _ (ay (cA h33)) rfl rfl
  refine am rfl rfl (aG rfl bw rfl (bG F ((decide ((y28.length : Int) = 0)) && (decide (0 < y29))) e35) ?_);refine ag <| ac <| aa ?_;show AR _ _ _ _ _ [0, 1, 2, 3, 4, 5] _;refine zS rfl (af (av := .pt _ _) rfl) <| zS rfl (aq rfl) <| zS rfl (an (n := 3) (by kernel_rfl) rfl) <| zR rfl (ao (i := 0) aw rfl rfl rfl rfl) <| s0 rfl rfl (az (i := 2) (c := slE _ _ _) (by kernel_rfl) rfl rfl rfl rfl (ai rfl)) <| s0 rfl rfl (az (i := 1) (c := .v _) (by kernel_rfl) rfl rfl rfl rfl (ai rfl)) <| ag <| aI ?_;show ALeaves _ _ _ _ _ [.call (.func 21) [.pt o5 0, .pt o6 0] []] _ [.obj o8 [S y26, .sk t27 y28.length, i64 y29, slE (ab Enc.int (ab Enc.str (ab Enc.str (Enc.sl (ab Enc.str Enc.str))))) y30 (some t31)], .obj o6 [i64 0], .obj o5 [slE (ab Enc.int (ab Enc.str (ab Enc.str (Enc.sl (ab Enc.str Enc.str))))) y30 (some t31)], .stk t27 (Enc.str.fl y28), .tok t31 33];refine ik (v := .tup []) (u1 := .returning) (A2 := [.obj o6 [i64 0], .obj o5 [slE (ab Enc.int (ab Enc.str (ab Enc.str (Enc.sl (ab Enc.str Enc.str))))) y30 (some t31)]]) [1, 1] (fun h => by cases h) lx rfl ?_ ?_
  ·show ADCalls _ _ [.pt o5 0, .pt o6 0] [.obj o6 [i64 0], .obj o5 [slE (ab Enc.int (ab Enc.str (ab Enc.str (Enc.sl (ab Enc.str Enc.str))))) y30 (some t31)]] _ _;refine fc (av := .v .nilIface) (l := [1]) Tryz.func21 rfl rfl rfl rfl rfl Recovers.ret rfl (fun cs => ?_);refine ASR.op rfl rfl ((asg rfl).opR _) <| ASR.nil <| ac <| aa ?_;show AR _ _ _ _ _ [0, 1] _;refine zm rfl <| zS rfl (ky (n := 0) (t := 0) (k := .i64) Tryz.underlying20 rfl rfl) <| ag <| ax rfl (fun hx => co hx rfl) (fun _ => ?_);refine aB ?_;exact And.intro rfl (Exists.intro _ (Exists.intro _ ⟨bK rfl, aH [0, 0] rfl, rfl, rfl, rfl⟩))
  show ALeaves _ _ _ _ _ [] .returning [.obj o6 [i64 0], .obj o5 [slE (ab Enc.int (ab Enc.str (ab Enc.str (Enc.sl (ab Enc.str Enc.str))))) y30 (some t31)], .obj o8 [S y26, .sk t27 y28.length, i64 y29, slE (ab Enc.int (ab Enc.str (ab Enc.str (Enc.sl (ab Enc.str Enc.str))))) y30 (some t31)], .stk t27 (Enc.str.fl y28), .tok t31 33];obtain ⟨rfl, rfl⟩ := fo H;exact Exists.intro _ (Exists.intro _ ⟨hU rfl ((CellV.one (c := slE _ _ _) 1 aw rfl rfl rfl rfl).oneW (.tok _ _ _)) (CellV.one (c := .v _) 0 cq rfl rfl rfl rfl), aH [] rfl, rfl, rfl⟩)
end Go.Proofs.YteokdkimegepoaaGreatDoor
namespace Go.Pv
def hM : Option Bool :=
some true
def jy (a1 : List ((List UInt8) × List UInt8)) (a3 : List ((List UInt8) × List UInt8)) (rec8 : Int → Option Bool) (y7 : Int) : Option Bool :=
bif decide (y7 < (a1.length : Int)) then
  grd (cG y7 a1.length) <|
  lt (at_ a1 y7) fun x12 =>
  grd (cG y7 a3.length) <|
  lt (at_ a3 y7) fun x15 =>
  bif !((decide (x12.1 = x15.1)) && (decide (x12.2 = x15.2))) then
    some false
  else
    grd (okI (y7 + 1)) <|
    rec8 (y7 + 1)
else
  hM
def jx (a1 : List ((List UInt8) × List UInt8)) (a3 : List ((List UInt8) × List UInt8)) (n : Nat) : Int → Option Bool :=
  loop (fun rec x => jy a1 a3 rec x) n
def mQ (F : Nat) (a1 : List ((List UInt8) × List UInt8)) (a3 : List ((List UInt8) × List UInt8)) : Option Bool :=
bif !decide ((a1.length : Int) = (a3.length : Int)) then
  some false
else
  jx a1 a3 F 0
def mO (F : Nat) (a1 : Int) (a2 : List UInt8) (a3 : List UInt8) (a4 : List ((List UInt8) × List UInt8)) (a5 : Int) (a6 : List UInt8) (a7 : List UInt8) (a8 : List ((List UInt8) × List UInt8)) : Option Bool :=
iQ (((decide (a1 = a5)) && (decide (a2 = a6))) && (decide (a3 = a7))) (mQ F a4 a8) fun x13 =>
some ((((decide (a1 = a5)) && (decide (a2 = a6))) && (decide (a3 = a7))) && x13)
def eX : Option Bool :=
some true
def gr (F : Nat) (a1 : List (Int × (List UInt8) × (List UInt8) × List ((List UInt8) × List UInt8))) (a3 : List (Int × (List UInt8) × (List UInt8) × List ((List UInt8) × List UInt8))) (rec8 : Int → Option Bool) (y7 : Int) : Option Bool :=
bif decide (y7 < (a1.length : Int)) then
  grd (cG y7 a1.length) <|
  lt (at_ a1 y7) fun x12 =>
  grd (cG y7 a3.length) <|
  lt (at_ a3 y7) fun x16 =>
  bnd (mO F x12.1 x12.2.1 x12.2.2.1 x12.2.2.2 x16.1 x16.2.1 x16.2.2.1 x16.2.2.2) fun x19 =>
  bif !x19 then
    some false
  else
    grd (okI (y7 + 1)) <|
    rec8 (y7 + 1)
else
  eX
def gq (F : Nat) (a1 : List (Int × (List UInt8) × (List UInt8) × List ((List UInt8) × List UInt8))) (a3 : List (Int × (List UInt8) × (List UInt8) × List ((List UInt8) × List UInt8))) (n : Nat) : Int → Option Bool :=
  loop (fun rec x => gr F a1 a3 rec x) n
def iR (F : Nat) (a1 : List (Int × (List UInt8) × (List UInt8) × List ((List UInt8) × List UInt8))) (a3 : List (Int × (List UInt8) × (List UInt8) × List ((List UInt8) × List UInt8))) : Option Bool :=
bif !decide ((a1.length : Int) = (a3.length : Int)) then
  some false
else
  gq F a1 a3 F 0
def pe (F : Nat) (a1 : List (Int × (List UInt8) × (List UInt8) × List ((List UInt8) × List UInt8))) (a3 : List (Int × (List UInt8) × (List UInt8) × List ((List UInt8) × List UInt8))) : Option Bool :=
bnd (iR F a1 a3) fun x6 =>
some x6
def fY : Option Int :=
some (-1)
def hZ (a1 : List UInt8) (a2 : UInt8) (rec6 : Int → Option Int) (y5 : Int) : Option Int :=
bif decide (0 ≤ y5) then
  grd (cG y5 a1.length) <|
  lt (at_ a1 y5) fun x10 =>
  bif decide (x10 = a2) then
    some y5
  else
    grd (okI (y5 - 1)) <|
    rec6 (y5 - 1)
else
  fY
def hY (a1 : List UInt8) (a2 : UInt8) (n : Nat) : Int → Option Int :=
  loop (fun rec x => hZ a1 a2 rec x) n
def ku (F : Nat) (a1 : List UInt8) (a2 : UInt8) : Option Int :=
grd (okI ((a1.length : Int) - 1)) <|
hY a1 a2 F ((a1.length : Int) - 1)
def fO (F : Nat) (a1 : List UInt8) (a2 : UInt8) : Option Int :=
bnd (ku F a1 a2) fun x4 =>
some x4
def mP (F : Nat) (a1 : List UInt8) : Option ((List UInt8)) :=
bnd (fO F a1 58) fun x3 =>
grd (okI (x3 + 1)) <|
grd (iA (x3 + 1) a1.length) <|
lt (eo a1 (x3 + 1)) fun x7 =>
some x7
end Go.Pv
namespace Go.Proofs.YteokdkimegepoaaGreatDoor
open Go.RowKit Go.Av Go.Pv
theorem sp : ∀ (args : Array Value) (w : World), (callFunc 25 args).run Tryz.prog w = .ok (.enter 25 args) w := fun _ _ => by kernel_rfl
theorem so : ∀ (args : Array Value) (w : World), (callFunc 26 args).run Tryz.prog w = .ok (.enter 26 args) w := fun _ _ => by kernel_rfl
theorem sn : ∀ (args : Array Value) (w : World), (callFunc 27 args).run Tryz.prog w = .ok (.enter 27 args) w := fun _ _ => by kernel_rfl
theorem sh : ∀ (args : Array Value) (w : World), (callFunc 36 args).run Tryz.prog w = .ok (.enter 36 args) w := fun _ _ => by kernel_rfl
theorem se : ∀ (args : Array Value) (w : World), (callFunc 63 args).run Tryz.prog w = .ok (.enter 63 args) w := fun _ _ => by kernel_rfl
set_option maxRecDepth 100000 in
set_option maxHeartbeats 1000000 in
theorem qy (F : Nat) (a1 : List ((List UInt8) × List UInt8)) (q2 : Option Nat) (a3 : List ((List UInt8) × List UInt8)) (q4 : Option Nat) (r5 : Bool) (H : mQ F a1 a3 = some r5) : ACalls Tryz.prog 27 [slE (ab Enc.str Enc.str) a1 q2, slE (ab Enc.str Enc.str) a3 q4] [] (Ret (B r5) []) := by
 unfold mQ at H
 refine au Tryz.func27 rfl rfl ?_;show AW _ _ 26 _ _ _;refine ac <| aa ?_;show AR _ _ _ _ _ [0] _;refine za rfl <| ag <| ac <| ac <| aa ?_;show AR _ _ _ _ _ [0, 1, 2, 3, 4] _;refine zS rfl (af (av := slE _ _ _) rfl) <| zS rfl (bc aL rfl) <| zS rfl (af (av := slE _ _ _) rfl) <| zS rfl (bc aL rfl) <| zS rfl (iu rfl rfl) <| ag <| ax rfl (fun c6 => ?_) (fun c6 => ?_)
 ·replace H := aV c6 H;refine ac <| aa ?_;show AR _ _ _ _ _ [0] _;refine za rfl <| ag <| aI ?_;obtain rfl := al H;exact And.intro rfl (Exists.intro _ (Exists.intro _ ⟨aC rfl (.refl _), aH [] rfl, rfl, rfl⟩))
 ·replace H := aW c6 H;refine aB <| bQ (X := Unit) (fun _ => ⟨[], [], []⟩) (fun _ => hM = some r5) ?_ ?_
  ·refine ac <| aa ?_;show AR _ _ _ _ _ [0, 1, 2] _;refine zS rfl (af (av := slE _ _ _) rfl) <| zS rfl (bc aL rfl) <| zm rfl <| ag <| aN <| cR (X := Nat × Int) (fun (n9, y7) => ⟨[(0, slE (ab Enc.str Enc.str) a1 q2), (1, slE (ab Enc.str Enc.str) a3 q4), (12, i64 (a1.length : Int)), (13, i64 y7)], [], []⟩) (fun (n9, y7) => jx a1 a3 n9 y7 = some r5) (fun (n9, y7) => n9) (F, 0) H (ba [] (.cons (.refl _) (.cons (.refl _) (.cons (.refl _) (.cons (.refl _) (.nil _))))) rfl) ?_;rintro ⟨n9, y7⟩ H;obtain ⟨n9, rfl, H⟩ := ep H;replace H : jy a1 a3 (jx a1 a3 n9) y7 = some r5 := H
   unfold jy at H
   refine ac <| aa ?_;show AR _ _ _ _ _ [0] _;refine zS rfl (bW rfl rfl) <| ag <| ac <| ax rfl (fun c10 => ?_) (fun c10 => ?_)
   ·replace H := aV c10 H;refine aB <| ac <| aN <| ac <| aa ?_;show AR _ _ _ _ _ [0, 1] _;refine zm rfl <| za rfl <| ag <| ac ?_;obtain ⟨g11, H⟩ := aQ H;obtain ⟨x12, e13, H⟩ := bI H;obtain ⟨g14, H⟩ := aQ H;obtain ⟨x15, e16, H⟩ := bI H;refine bH (by kernel_rfl) ?_;show AI _ _ _ _ _ 9 (Array.replicate 9 false) _;refine zk 0 rfl (af (av := slE _ _ _) rfl) ?_;show AI _ _ _ _ _ _ #[true, false, false, false, false, false, false, false, false] _;refine zk 1 rfl (mv rfl) ?_;show AI _ _ _ _ _ _ #[true, true, false, false, false, false, false, false, false] _;refine zk 2 rfl (bD (E := (ab Enc.str Enc.str)) aL (by kernel_rfl) rfl rfl g11 e13) ?_;show AI _ _ _ _ _ _ #[true, true, true, false, false, false, false, false, false] _;refine zk 3 rfl (cj bV rfl (n := 2) (by kernel_rfl) rfl (ai rfl)) ?_;show AI _ _ _ _ _ _ #[true, true, true, true, false, false, false, false, false] _;refine zk 4 rfl (af (av := slE _ _ _) rfl) ?_;show AI _ _ _ _ _ _ #[true, true, true, true, true, false, false, false, false] _;refine zk 5 rfl (mv rfl) ?_;show AI _ _ _ _ _ _ #[true, true, true, true, true, true, false, false, false] _;refine zk 6 rfl (bD (E := (ab Enc.str Enc.str)) aL (by kernel_rfl) rfl rfl g14 e16) ?_;show AI _ _ _ _ _ _ #[true, true, true, true, true, true, true, false, false] _;refine zk 7 rfl (cj bV rfl (n := 2) (by kernel_rfl) rfl (ai rfl)) ?_
    show AI _ _ _ _ _ _ #[true, true, true, true, true, true, true, true, false] _;refine zk 8 rfl (kh (r := (decide (x12.1 = x15.1)) && (decide (x12.2 = x15.2))) (.inr rfl) bV (by kernel_rfl) (by kernel_rfl) (by kernel_rfl) rfl rfl rfl (by simp only [List.all_cons, List.all_nil, id, rl, Bool.and_true])) ?_;show AI _ _ _ _ _ _ #[true, true, true, true, true, true, true, true, true] _;refine cn rfl <| ax rfl (fun c17 => ?_) (fun c17 => ?_)
    ·replace H := aV c17 H;refine ac <| aa ?_;show AR _ _ _ _ _ [0] _;refine za rfl <| ag <| aI ?_;obtain rfl := al H;exact And.intro rfl (Exists.intro _ (Exists.intro _ ⟨aC rfl (.refl _), aH [] rfl, rfl, rfl⟩))
    ·replace H := aW c17 H;refine aB ?_;obtain ⟨g18, H⟩ := aQ H;refine aa ?_;show AR _ _ _ _ _ [0, 1] _;refine zS rfl (eH rfl rfl g18) <| zm rfl <| ag ?_;exact Exists.intro (n9, y7 + 1) ⟨H, Nat.lt_succ_self _, ba [] (.cons (.refl _) (.cons (.refl _) (.cons (.refl _) (.cons (.refl _) (.nil _))))) rfl⟩
   ·replace H := aW c10 H;refine ct ?_;exact Exists.intro () ⟨H, ba [] (.nil _) rfl⟩
  rintro _ H;replace H : hM = some r5 := H
  unfold hM at H
  refine ac <| aa ?_;show AR _ _ _ _ _ [0] _;refine za rfl <| ag <| aI ?_;obtain rfl := al H;exact And.intro rfl (Exists.intro _ (Exists.intro _ ⟨aC rfl (.refl _), aH [] rfl, rfl, rfl⟩))
set_option maxRecDepth 100000 in
set_option maxHeartbeats 1000000 in
theorem qw (F : Nat) (a1 : Int) (a2 : List UInt8) (a3 : List UInt8) (a4 : List ((List UInt8) × List UInt8)) (a5 : Int) (a6 : List UInt8) (a7 : List UInt8) (a8 : List ((List UInt8) × List UInt8)) (r9 : Bool) (H : mO F a1 a2 a3 a4 a5 a6 a7 a8 = some r9) : ACalls Tryz.prog 26 [.agg [i64 a1, S a2, S a3, slE (ab Enc.str Enc.str) a4 none], .agg [i64 a5, S a6, S a7, slE (ab Enc.str Enc.str) a8 none]] [] (Ret (B r9) []) := by
 unfold mO at H
 refine au Tryz.func26 rfl rfl ?_;show AW _ _ 31 _ _ _;refine ac <| aa ?_;show AR _ _ _ _ _ [0, 1, 2] _;refine zR rfl (ln rfl (.inr ⟨_, rfl⟩)) <| zR rfl (ln rfl (.inr ⟨_, rfl⟩)) <| za rfl <| ag <| ac ?_;obtain ⟨x13, e14, H⟩ := eK H;refine aa ?_;show AR _ _ _ _ _ [0, 1, 2, 3, 4, 5, 6, 7, 8, 9, 10, 11, 12, 13, 14, 15, 16, 17, 18, 19, 20, 21, 22, 23, 24, 25, 26] _;refine zS rfl (aU (n := 0) (by kernel_rfl) rfl (ai rfl)) <| zS rfl (aM bU rfl rfl) <| zS rfl (aU (n := 0) (by kernel_rfl) rfl (ai rfl)) <| zS rfl (aM bU rfl rfl) <| zS rfl (bM rfl rfl) <| zm rfl <| bb (l := [12, 13, 14, 15, 16, 17, 18, 19, 20, 21, 22, 23, 24, 25, 26]) 16 (B ((decide (a1 = a5)) && (decide (a2 = a6)))) (fun K => ?_) ?_
 ·rcases ak (decide (a1 = a5)) with h10 | h10
  ·refine zU h10 rfl (aU (n := 1) (by kernel_rfl) rfl (ai rfl)) <| zU h10 rfl (aM ah rfl rfl) <| zU h10 rfl (aU (n := 1) (by kernel_rfl) rfl (ai rfl)) <| zU h10 rfl (aM ah rfl rfl) <| zU h10 rfl (eL rfl rfl) <| zS rfl (aE (av := .v _) rfl h10 rfl) ?_;exact K _ 5 _ (ay (cz h10)) rfl rfl
  ·refine zF h10 rfl <| zF h10 rfl <| zF h10 rfl <| zF h10 rfl <| zF h10 rfl <| zS rfl (aF (av := .v _) rfl h10 rfl) ?_;exact K _ 5 _ (ay (cA h10)) rfl rfl
 refine zm rfl <| bb (l := [19, 20, 21, 22, 23, 24, 25, 26]) 23 (B (((decide (a1 = a5)) && (decide (a2 = a6))) && (decide (a3 = a7)))) (fun K => ?_) ?_
 ·rcases ak ((decide (a1 = a5)) && (decide (a2 = a6))) with h11 | h11
  ·refine zU h11 rfl (aU (n := 2) (by kernel_rfl) rfl (ai rfl)) <| zU h11 rfl (aM ah rfl rfl) <| zU h11 rfl (aU (n := 2) (by kernel_rfl) rfl (ai rfl)) <| zU h11 rfl (aM ah rfl rfl) <| zU h11 rfl (eL rfl rfl) <| zS rfl (aE (av := .v _) rfl h11 rfl) ?_;exact K _ 5 _ (ay (cz h11)) rfl rfl
  ·refine zF h11 rfl <| zF h11 rfl <| zF h11 rfl <| zF h11 rfl <| zF h11 rfl <| zS rfl (aF (av := .v _) rfl h11 rfl) ?_;exact K _ 5 _ (ay (cA h11)) rfl rfl
 refine zm rfl <| bb (l := [26]) 30 (B ((((decide (a1 = a5)) && (decide (a2 = a6))) && (decide (a3 = a7))) && x13)) (fun K => ?_) ?_
 ·rcases ak (((decide (a1 = a5)) && (decide (a2 = a6))) && (decide (a3 = a7))) with h12 | h12
  ·refine zU h12 rfl (aU (n := 3) (by kernel_rfl) rfl (ai rfl)) <| zU h12 rfl (aM aL rfl rfl) <| zU h12 rfl (aU (n := 3) (by kernel_rfl) rfl (ai rfl)) <| zU h12 rfl (aM aL rfl rfl) <| zT h12 rfl (aG rfl sn rfl (qy F a4 none a8 none x13 (e14 h12)) ?_);refine zS rfl (aE (av := .v _) rfl h12 rfl) ?_;exact K _ 5 _ (ay (cz h12)) rfl rfl
  ·refine zF h12 rfl <| zF h12 rfl <| zF h12 rfl <| zF h12 rfl <| zF h12 rfl <| zS rfl (aF (av := .v _) rfl h12 rfl) ?_;exact K _ 5 _ (ay (cA h12)) rfl rfl
 refine za rfl <| ag <| aI ?_;obtain rfl := al H;exact And.intro rfl (Exists.intro _ (Exists.intro _ ⟨aC rfl (.refl _), aH [] rfl, rfl, rfl⟩))
set_option maxRecDepth 100000 in
set_option maxHeartbeats 1000000 in
theorem mt (F : Nat) (a1 : List (Int × (List UInt8) × (List UInt8) × List ((List UInt8) × List UInt8))) (q2 : Option Nat) (a3 : List (Int × (List UInt8) × (List UInt8) × List ((List UInt8) × List UInt8))) (q4 : Option Nat) (r5 : Bool) (H : iR F a1 a3 = some r5) : ACalls Tryz.prog 25 [slE (ab Enc.int (ab Enc.str (ab Enc.str (Enc.sl (ab Enc.str Enc.str))))) a1 q2, slE (ab Enc.int (ab Enc.str (ab Enc.str (Enc.sl (ab Enc.str Enc.str))))) a3 q4, .v (.func (.func 26) #[] #[])] [] (Ret (B r5) []) := by
 unfold iR at H
 refine au Tryz.func25 rfl rfl ?_;show AW _ _ 32 _ _ _;refine ac <| aa ?_;show AR _ _ _ _ _ [0] _;refine za rfl <| ag <| ac <| ac <| aa ?_;show AR _ _ _ _ _ [0, 1, 2, 3, 4] _;refine zS rfl (af (av := slE _ _ _) rfl) <| zS rfl (bc aw rfl) <| zS rfl (af (av := slE _ _ _) rfl) <| zS rfl (bc aw rfl) <| zS rfl (iu rfl rfl) <| ag <| ax rfl (fun c6 => ?_) (fun c6 => ?_)
 ·replace H := aV c6 H;refine ac <| aa ?_;show AR _ _ _ _ _ [0] _;refine za rfl <| ag <| aI ?_;obtain rfl := al H;exact And.intro rfl (Exists.intro _ (Exists.intro _ ⟨aC rfl (.refl _), aH [] rfl, rfl, rfl⟩))
 ·replace H := aW c6 H;refine aB <| bQ (X := Unit) (fun _ => ⟨[], [], []⟩) (fun _ => eX = some r5) ?_ ?_
  ·refine ac <| aa ?_;show AR _ _ _ _ _ [0, 1, 2] _;refine zS rfl (af (av := slE _ _ _) rfl) <| zS rfl (bc aw rfl) <| zm rfl <| ag <| aN <| cR (X := Nat × Int) (fun (n9, y7) => ⟨[(1, slE (ab Enc.int (ab Enc.str (ab Enc.str (Enc.sl (ab Enc.str Enc.str))))) a3 q4), (2, .v (.func (.func 26) #[] #[])), (15, slE (ab Enc.int (ab Enc.str (ab Enc.str (Enc.sl (ab Enc.str Enc.str))))) a1 q2), (16, i64 (a1.length : Int)), (17, i64 y7)], [], []⟩) (fun (n9, y7) => gq F a1 a3 n9 y7 = some r5) (fun (n9, y7) => n9) (F, 0) H (ba [] (.cons (.refl _) (.cons (.refl _) (.cons (.refl _) (.cons (.refl _) (.cons (.refl _) (.nil _)))))) rfl) ?_;rintro ⟨n9, y7⟩ H;obtain ⟨n9, rfl, H⟩ := ep H;replace H : gr F a1 a3 (gq F a1 a3 n9) y7 = some r5 := H
   unfold gr at H
   refine ac <| aa ?_;show AR _ _ _ _ _ [0] _;refine zS rfl (bW rfl rfl) <| ag <| ac <| ax rfl (fun c10 => ?_) (fun c10 => ?_)
   ·replace H := aV c10 H;refine aB <| ac <| aN <| ac ?_;obtain ⟨g11, H⟩ := aQ H;obtain ⟨x12, e13, H⟩ := bI H;refine aa ?_;show AR _ _ _ _ _ [0, 1, 2, 3, 4, 5] _;refine zm rfl <| zS rfl (bD (E := (ab Enc.int (ab Enc.str (ab Enc.str (Enc.sl (ab Enc.str Enc.str)))))) aw (by kernel_rfl) rfl rfl g11 e13) <| zS rfl (cj dt rfl (n := 4) (by kernel_rfl) rfl (ai rfl)) <| zX rfl (ei (zs := [.int .i64 0, .string ⟨#[]⟩, .string ⟨#[]⟩, .slice none 0 0]) (by kernel_rfl)) ?_;rintro _ _ ⟨o14, rfl, rfl⟩;refine za rfl <| s0 rfl rfl (cT (i := 0) (vs := [i64 x12.1, S x12.2.1, S x12.2.2.1, slE (ab Enc.str Enc.str) x12.2.2.2 none]) (by kernel_rfl) rfl rfl (by simp [cd, slE]) rfl (ai rfl)) <| AR.freezeCp 8 0 rfl rfl ?_;show AR _ _ _ _ _ _ ⟨_, _, []⟩;refine ag <| ac ?_;obtain ⟨g15, H⟩ := aQ H;obtain ⟨x16, e17, H⟩ := bI H;refine aa ?_;show AR _ _ _ _ _ [0, 1, 2, 3, 4, 5] _;refine zS rfl (af (av := slE _ _ _) rfl) <| zm rfl <| zS rfl (bD (E := (ab Enc.int (ab Enc.str (ab Enc.str (Enc.sl (ab Enc.str Enc.str)))))) aw (by kernel_rfl) rfl rfl g15 e17) <| zS rfl (cj dt rfl (n := 4) (by kernel_rfl) rfl (ai rfl)) <| zX rfl (ei (zs := [.int .i64 0, .string ⟨#[]⟩, .string ⟨#[]⟩, .slice none 0 0]) (by kernel_rfl)) ?_;rintro _ _ ⟨o18, rfl, rfl⟩
    refine s0 rfl rfl (cT (i := 0) (vs := [i64 x16.1, S x16.2.1, S x16.2.2.1, slE (ab Enc.str Enc.str) x16.2.2.2 none]) (by kernel_rfl) rfl rfl (by simp [cd, slE]) rfl (ai rfl)) <| AR.freezeCp 9 0 rfl rfl ?_;show AR _ _ _ _ _ _ ⟨_, _, []⟩;refine ag <| ac ?_;obtain ⟨x19, e20, H⟩ := eu H;refine aa ?_;show AR _ _ _ _ _ [0, 1, 2, 3, 4] _;refine zm rfl <| zS rfl (cj dt rfl (n := 4) (by kernel_rfl) rfl (ai rfl)) <| zS rfl (cj dt rfl (n := 4) (by kernel_rfl) rfl (ai rfl)) <| am rfl rfl (AO.callFp rfl (.inr ⟨rfl, rfl, rfl⟩) so rfl (qw F x12.1 x12.2.1 x12.2.2.1 x12.2.2.2 x16.1 x16.2.1 x16.2.2.1 x16.2.2.2 x19 e20) ?_);refine zS rfl (ce rfl) <| ag <| ax rfl (fun c21 => ?_) (fun c21 => ?_)
    ·replace H := aV c21 H;refine ac <| aa ?_;show AR _ _ _ _ _ [0] _;refine za rfl <| ag <| aI ?_;obtain rfl := al H;exact And.intro rfl (Exists.intro _ (Exists.intro _ ⟨aC rfl (.refl _), aH [] rfl, rfl, rfl⟩))
    ·replace H := aW c21 H;refine aB ?_;obtain ⟨g22, H⟩ := aQ H;refine aa ?_;show AR _ _ _ _ _ [0, 1] _;refine zS rfl (eH rfl rfl g22) <| zm rfl <| ag ?_;exact Exists.intro (n9, y7 + 1) ⟨H, Nat.lt_succ_self _, ba [] (.cons (.refl _) (.cons (.refl _) (.cons (.refl _) (.cons (.refl _) (.cons (.refl _) (.nil _)))))) rfl⟩
   ·replace H := aW c10 H;refine ct ?_;exact Exists.intro () ⟨H, ba [] (.nil _) rfl⟩
  rintro _ H;replace H : eX = some r5 := H
  unfold eX at H
  refine ac <| aa ?_;show AR _ _ _ _ _ [0] _;refine za rfl <| ag <| aI ?_;obtain rfl := al H;exact And.intro rfl (Exists.intro _ (Exists.intro _ ⟨aC rfl (.refl _), aH [] rfl, rfl, rfl⟩))
set_option maxRecDepth 100000 in
set_option maxHeartbeats 1000000 in
theorem rG (F : Nat) (a1 : List (Int × (List UInt8) × (List UInt8) × List ((List UInt8) × List UInt8))) (q2 : Option Nat) (a3 : List (Int × (List UInt8) × (List UInt8) × List ((List UInt8) × List UInt8))) (q4 : Option Nat) (r5 : Bool) (H : pe F a1 a3 = some r5) : ACalls Tryz.prog 13 [slE (ab Enc.int (ab Enc.str (ab Enc.str (Enc.sl (ab Enc.str Enc.str))))) a1 q2, slE (ab Enc.int (ab Enc.str (ab Enc.str (Enc.sl (ab Enc.str Enc.str))))) a3 q4] [] (Ret (B r5) []) := by
 unfold pe at H
 refine au Tryz.func13 rfl rfl ?_;show AW _ _ 8 _ _ _;refine ac <| aa ?_;show AR _ _ _ _ _ [0] _;refine za rfl <| ag <| ac ?_;obtain ⟨x6, e7, H⟩ := eu H;refine aa ?_;show AR _ _ _ _ _ [0, 1, 2, 3] _;refine zS rfl (af (av := slE _ _ _) rfl) <| zS rfl (af (av := slE _ _ _) rfl) <| am rfl rfl (aG rfl sp rfl (mt F a1 q2 a3 q4 x6 e7) ?_);refine za rfl <| ag <| aI ?_;obtain rfl := al H;exact And.intro rfl (Exists.intro _ (Exists.intro _ ⟨aC rfl (.refl _), aH [] rfl, rfl, rfl⟩))
set_option maxRecDepth 100000 in
set_option maxHeartbeats 1000000 in
theorem oH (F : Nat) (a1 : List UInt8) (a2 : UInt8) (r3 : Int) (H : ku F a1 a2 = some r3) : ACalls Tryz.prog 63 [S a1, u8 a2] [] (Ret (i64 r3) []) := by
 unfold ku at H
 refine au Tryz.func63 rfl rfl ?_;show AW _ _ 19 _ _ _;refine ac <| aa ?_;show AR _ _ _ _ _ [0] _;refine za rfl <| ag <| bQ (X := Unit) (fun _ => ⟨[], [], []⟩) (fun _ => fY = some r3) ?_ ?_
 ·refine ac ?_;obtain ⟨g4, H⟩ := aQ H;refine aa ?_;show AR _ _ _ _ _ [0, 1, 2, 3] _;refine zm rfl <| zS rfl (bu ah rfl) <| zS rfl (qp rfl rfl g4) <| za rfl <| ag <| aN <| cR (X := Nat × Int) (fun (n7, y5) => ⟨[(0, S a1), (1, u8 a2), (5, i64 y5)], [], []⟩) (fun (n7, y5) => hY a1 a2 n7 y5 = some r3) (fun (n7, y5) => n7) (F, (a1.length : Int) - 1) H (ba [] (.cons (.refl _) (.cons (.refl _) (.cons (.refl _) (.nil _)))) rfl) ?_;rintro ⟨n7, y5⟩ H;obtain ⟨n7, rfl, H⟩ := ep H;replace H : hZ a1 a2 (hY a1 a2 n7) y5 = some r3 := H
  unfold hZ at H
  refine ac <| ac <| aa ?_;show AR _ _ _ _ _ [0, 1] _;refine zm rfl <| zS rfl (eJ rfl rfl) <| ag <| ax rfl (fun c8 => ?_) (fun c8 => ?_)
  ·replace H := aV c8 H;refine aB <| ac <| aN <| ac ?_;obtain ⟨g9, H⟩ := aQ H;obtain ⟨x10, e11, H⟩ := bI H;refine aa ?_;show AR _ _ _ _ _ [0, 1, 2, 3, 4] _;refine zm rfl <| zm rfl <| zS rfl (bj ah rfl rfl g9 e11) <| zm rfl <| zS rfl (gW (a := x10) (b := a2) rfl rfl) <| ag <| ax rfl (fun c12 => ?_) (fun c12 => ?_)
   ·replace H := aV c12 H;refine ac <| aa ?_;show AR _ _ _ _ _ [0, 1] _;refine zm rfl <| za rfl <| ag <| aI ?_;obtain rfl := al H;exact And.intro rfl (Exists.intro _ (Exists.intro _ ⟨aC rfl (.refl _), aH [] rfl, rfl, rfl⟩))
   ·replace H := aW c12 H;refine aB ?_;obtain ⟨g13, H⟩ := aQ H;refine aa ?_;show AR _ _ _ _ _ [0, 1, 2] _;refine zm rfl <| zS rfl (qp rfl rfl g13) <| za rfl <| ag ?_;exact Exists.intro (n7, y5 - 1) ⟨H, Nat.lt_succ_self _, ba [] (.cons (.refl _) (.cons (.refl _) (.cons (.refl _) (.nil _)))) rfl⟩
  ·replace H := aW c8 H;refine ct ?_;exact Exists.intro () ⟨H, ba [] (.nil _) rfl⟩
 rintro _ H;replace H : fY = some r3 := H
 unfold fY at H
 refine ac <| aa ?_;show AR _ _ _ _ _ [0] _;refine za rfl <| ag <| aI ?_;obtain rfl := al H;exact And.intro rfl (Exists.intro _ (Exists.intro _ ⟨aC rfl (.refl _), aH [] rfl, rfl, rfl⟩))
set_option maxRecDepth 100000 in
set_option maxHeartbeats 1000000 in
theorem kj (F : Nat) (a1 : List UInt8) (a2 : UInt8) (r3 : Int) (H : fO F a1 a2 = some r3) : ACalls Tryz.prog 36 [S a1, u8 a2] [] (Ret (i64 r3) []) := by
 unfold fO at H
 refine au Tryz.func36 rfl rfl ?_;show AW _ _ 8 _ _ _;refine ac <| aa ?_;show AR _ _ _ _ _ [0] _;refine za rfl <| ag <| ac ?_;obtain ⟨x4, e5, H⟩ := eu H;refine aa ?_;show AR _ _ _ _ _ [0, 1, 2, 3] _;refine zm rfl <| zm rfl <| am rfl rfl (aG rfl se rfl (oH F a1 a2 x4 e5) ?_);refine za rfl <| ag <| aI ?_;obtain rfl := al H;exact And.intro rfl (Exists.intro _ (Exists.intro _ ⟨aC rfl (.refl _), aH [] rfl, rfl, rfl⟩))
set_option maxRecDepth 100000 in
set_option maxHeartbeats 1000000 in
theorem qx (F : Nat) (a1 : List UInt8) (r2 : List UInt8) (H : mP F a1 = some r2) : ACalls Tryz.prog 19 [S a1] [] (Ret (S r2) []) := by
 unfold mP at H
 refine au Tryz.func19 rfl rfl ?_;show AW _ _ 8 _ _ _;refine ac <| aa ?_;show AR _ _ _ _ _ [0] _;refine za rfl <| ag <| ac ?_;obtain ⟨x3, e4, H⟩ := eu H;obtain ⟨g5, H⟩ := aQ H;obtain ⟨g6, H⟩ := aQ H;obtain ⟨x7, e8, H⟩ := bI H;refine aa ?_;show AR _ _ _ _ _ [0, 1, 2, 3, 4, 5] _;refine zm rfl <| zm rfl <| am rfl rfl (aG rfl sh rfl (kj F a1 58 x3 e4) ?_);refine zS rfl (eH rfl rfl g5) <| zS rfl (dA ah rfl rfl g6 e8) <| za rfl <| ag <| aI ?_;obtain rfl := al H;exact And.intro rfl (Exists.intro _ (Exists.intro _ ⟨aC rfl (.refl _), aH [] rfl, rfl, rfl⟩))
end Go.Proofs.YteokdkimegepoaaGreatDoor
namespace Go.Pv
def ga : Option Bool :=
some true
def fZ (y7 : Int) (rec8 : Int → Option Bool) : Option Bool :=
grd (okI (y7 + 1)) <|
rec8 (y7 + 1)
def ie (a1 : List (Int × (List UInt8) × (List UInt8) × List ((List UInt8) × List UInt8))) (a3 : List (Int × (List UInt8) × (List UInt8) × List ((List UInt8) × List UInt8))) (y7 : Int) (rec8 : Int → Option Bool) (rec40 : Int → Option Bool) (y39 : Int) : Option Bool :=
grd (cG y7 a1.length) <|
lt (at_ a1 y7) fun x43 =>
bif decide (y39 < (x43.2.2.2.length : Int)) then
  grd (cG y7 a1.length) <|
  lt (at_ a1 y7) fun x47 =>
  grd (cG y39 x47.2.2.2.length) <|
  lt (at_ x47.2.2.2 y39) fun x50 =>
  grd (cG y7 a3.length) <|
  lt (at_ a3 y7) fun x53 =>
  grd (cG y39 x53.2.2.2.length) <|
  lt (at_ x53.2.2.2 y39) fun x56 =>
  bif !((decide (x50.1 = x56.1)) && (decide (x50.2 = x56.2))) then
    some false
  else
    grd (okI (y39 + 1)) <|
    rec40 (y39 + 1)
else
  fZ y7 rec8
def ib (a1 : List (Int × (List UInt8) × (List UInt8) × List ((List UInt8) × List UInt8))) (a3 : List (Int × (List UInt8) × (List UInt8) × List ((List UInt8) × List UInt8))) (y7 : Int) (rec8 : Int → Option Bool) (n : Nat) : Int → Option Bool :=
  loop (fun rec x => ie a1 a3 y7 rec8 rec x) n
def ic (F : Nat) (a1 : List (Int × (List UInt8) × (List UInt8) × List ((List UInt8) × List UInt8))) (a3 : List (Int × (List UInt8) × (List UInt8) × List ((List UInt8) × List UInt8))) (rec8 : Int → Option Bool) (y7 : Int) : Option Bool :=
bif decide (y7 < (a1.length : Int)) then
  grd (cG y7 a1.length) <|
  lt (at_ a1 y7) fun x12 =>
  grd (cG y7 a3.length) <|
  lt (at_ a3 y7) fun x15 =>
  ek (!(!decide (x12.1 = x15.1))) (cG y7 a1.length) <|
  lt (at_ a1 y7) fun x19 =>
  ek (!(!decide (x12.1 = x15.1))) (cG y7 a3.length) <|
  lt (at_ a3 y7) fun x22 =>
  ek (!((!decide (x12.1 = x15.1)) || (!decide (x19.2.1 = x22.2.1)))) (cG y7 a1.length) <|
  lt (at_ a1 y7) fun x26 =>
  ek (!((!decide (x12.1 = x15.1)) || (!decide (x19.2.1 = x22.2.1)))) (cG y7 a3.length) <|
  lt (at_ a3 y7) fun x29 =>
  ek (!(((!decide (x12.1 = x15.1)) || (!decide (x19.2.1 = x22.2.1))) || (!decide (x26.2.2.1 = x29.2.2.1)))) (cG y7 a1.length) <|
  lt (at_ a1 y7) fun x33 =>
  ek (!(((!decide (x12.1 = x15.1)) || (!decide (x19.2.1 = x22.2.1))) || (!decide (x26.2.2.1 = x29.2.2.1)))) (cG y7 a3.length) <|
  lt (at_ a3 y7) fun x36 =>
  bif (((!decide (x12.1 = x15.1)) || (!decide (x19.2.1 = x22.2.1))) || (!decide (x26.2.2.1 = x29.2.2.1))) || (!decide ((x33.2.2.2.length : Int) = (x36.2.2.2.length : Int))) then
    some false
  else
    ib a1 a3 y7 rec8 F 0
else
  ga
def cS (F : Nat) (a1 : List (Int × (List UInt8) × (List UInt8) × List ((List UInt8) × List UInt8))) (a3 : List (Int × (List UInt8) × (List UInt8) × List ((List UInt8) × List UInt8))) (n : Nat) : Int → Option Bool :=
  loop (fun rec x => ic F a1 a3 rec x) n
def kw (F : Nat) (a1 : List (Int × (List UInt8) × (List UInt8) × List ((List UInt8) × List UInt8))) (a3 : List (Int × (List UInt8) × (List UInt8) × List ((List UInt8) × List UInt8))) : Option Bool :=
bif !decide ((a1.length : Int) = (a3.length : Int)) then
  some false
else
  cS F a1 a3 F 0
def gg (F : Nat) : Option Bool :=
gB (gJ F ([60, 97, 32, 98, 61, 34, 49, 34, 62, 120, 38, 97, 109, 112, 59, 60] ++ [99, 47, 62, 60, 47, 97, 62] : List UInt8)) fun x3 x4 =>
bnd (kw F x3 ([(0, ([97] : List UInt8), ([] : List UInt8), ([(([98] : List UInt8), ([49] : List UInt8))] : List ((List UInt8) × List UInt8))), (2, ([] : List UInt8), ([120, 38] : List UInt8), ([] : List ((List UInt8) × List UInt8))), (0, ([99] : List UInt8), ([] : List UInt8), ([] : List ((List UInt8) × List UInt8))), (1, ([99] : List UInt8), ([] : List UInt8), ([] : List ((List UInt8) × List UInt8))), (1, ([97] : List UInt8), ([] : List UInt8), ([] : List ((List UInt8) × List UInt8)))] : List (Int × (List UInt8) × (List UInt8) × List ((List UInt8) × List UInt8)))) fun x6 =>
iQ ((decide (x4 = 0)) && x6) (jP F ([97, 58, 98] : List UInt8)) fun x10 =>
iQ (((decide (x4 = 0)) && x6) && x10) (mP F ([97, 58, 98] : List UInt8)) fun x13 =>
iQ ((((decide (x4 = 0)) && x6) && x10) && (decide (x13 = ([98] : List UInt8)))) (pe F x3 ([(0, ([97] : List UInt8), ([] : List UInt8), ([(([98] : List UInt8), ([49] : List UInt8))] : List ((List UInt8) × List UInt8))), (2, ([] : List UInt8), ([120, 38] : List UInt8), ([] : List ((List UInt8) × List UInt8))), (0, ([99] : List UInt8), ([] : List UInt8), ([] : List ((List UInt8) × List UInt8))), (1, ([99] : List UInt8), ([] : List UInt8), ([] : List ((List UInt8) × List UInt8))), (1, ([97] : List UInt8), ([] : List UInt8), ([] : List ((List UInt8) × List UInt8)))] : List (Int × (List UInt8) × (List UInt8) × List ((List UInt8) × List UInt8)))) fun x16 =>
some (((((decide (x4 = 0)) && x6) && x10) && (decide (x13 = ([98] : List UInt8)))) && x16)
end Go.Pv
