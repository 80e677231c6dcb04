/-
  Texts in one (only what DigestOnly needs): HeadAW, HeadBP, HeadBW, PartAP, PartAW, DigBP, DigBW, DigLP, DigLW, LDigestOnlyP, LDigestOnlyW, DgN, DgA, DgOnly.
-/
import Derived.Test.YtjegcifofddgbaaGreatDoorZDigestOnly4
import Derived.Test.YtjegcifofddgbaaGreatDoorShelf
import Derived.Lib.ItoaNum
import Derived.Lib.IndexLaws
import Derived.Test.YtjegcifofddgbaaGreatDoorChecked
set_option linter.unusedVariables false
set_option linter.unusedSimpArgs false
namespace Go.Proofs.YtjegcifofddgbaaGreatDoor
open Go.RowKit Go.Av Go.Pv
theorem pb : ∀ (args : Array Value) (w : World), (callFunc 65 args).run Tryz.prog w = .ok (.enter 65 args) w := fun _ _ => by kernel_rfl
theorem tV : ∀ (args : Array Value) (w : World), (callFunc 96 args).run Tryz.prog w = .ok (.enter 96 args) w := fun _ _ => by kernel_rfl
theorem sJ : ∀ (args : Array Value) (w : World), (callFunc 123 args).run Tryz.prog w = .ok (.enter 123 args) w := fun _ _ => by kernel_rfl
theorem sE : ∀ (args : Array Value) (w : World), (callFunc 129 args).run Tryz.prog w = .ok (.enter 129 args) w := fun _ _ => by kernel_rfl
theorem sD : ∀ (args : Array Value) (w : World), (callFunc 130 args).run Tryz.prog w = .ok (.enter 130 args) w := fun _ _ => by kernel_rfl
theorem nZ : ∀ (args : Array Value) (w : World), (callFunc 179 args).run Tryz.prog w = .ok (.enter 179 args) w := fun _ _ => by kernel_rfl
theorem sB : ∀ (args : Array Value) (w : World), (callFunc 180 args).run Tryz.prog w = .ok (.enter 180 args) w := fun _ _ => by kernel_rfl
theorem sA : ∀ (args : Array Value) (w : World), (callFunc 181 args).run Tryz.prog w = .ok (.enter 181 args) w := fun _ _ => by kernel_rfl
theorem sz : ∀ (args : Array Value) (w : World), (callFunc 182 args).run Tryz.prog w = .ok (.enter 182 args) w := fun _ _ => by kernel_rfl
theorem sy : ∀ (args : Array Value) (w : World), (callFunc 183 args).run Tryz.prog w = .ok (.enter 183 args) w := fun _ _ => by kernel_rfl
theorem sx : ∀ (args : Array Value) (w : World), (callFunc 184 args).run Tryz.prog w = .ok (.enter 184 args) w := fun _ _ => by kernel_rfl
theorem sw : ∀ (args : Array Value) (w : World), (callFunc 223 args).run Tryz.prog w = .ok (.enter 223 args) w := fun _ _ => by kernel_rfl
theorem sv : ∀ (args : Array Value) (w : World), (callFunc 224 args).run Tryz.prog w = .ok (.enter 224 args) w := fun _ _ => by kernel_rfl
set_option maxRecDepth 100000 in
set_option maxHeartbeats 1000000 in
theorem qP (F : Nat) (a1 : UInt8) (r2 : Bool) (H : mf F a1 = some r2) : ACalls Tryz.prog 180 [u8 a1] [] (Ret (B r2) []) := by
 unfold mf at H
 refine aw Tryz.func180 rfl rfl ?_;show AW _ _ 29 _ _ _;refine af <| aa ?_;show AR _ _ _ _ _ [0] _;refine za rfl <| ag <| af <| aa ?_;show AR _ _ _ _ _ [0, 1, 2, 3, 4, 5, 6, 7, 8, 9, 10, 11, 12, 13, 14, 15, 16, 17, 18, 19, 20, 21, 22, 23, 24, 25, 26] _;refine zm rfl <| zS rfl (cY rfl rfl) <| zm rfl <| aY (l := [6, 7, 8, 9, 10, 11, 12, 13, 14, 15, 16, 17, 18, 19, 20, 21, 22, 23, 24, 25, 26]) 8 (B ((decide (97 ≤ (a1.toNat : Int))) && (decide ((a1.toNat : Int) ≤ 122)))) (fun K => ?_) ?_
 ·rcases ak (decide (97 ≤ (a1.toNat : Int))) with h3 | h3
  ·refine zM h3 rfl <| zU h3 rfl (df rfl rfl) <| zS rfl (aF (av := .v _) rfl h3 rfl) ?_;exact K _ 2 _ (az (cd h3)) rfl rfl
  ·refine zF h3 rfl <| zF h3 rfl <| zS rfl (aE (av := .v _) rfl h3 rfl) ?_;exact K _ 2 _ (az (ce h3)) rfl rfl
 refine zm rfl <| aY (l := [14, 15, 16, 17, 18, 19, 20, 21, 22, 23, 24, 25, 26]) 16 (B (((decide (97 ≤ (a1.toNat : Int))) && (decide ((a1.toNat : Int) ≤ 122))) || ((decide (65 ≤ (a1.toNat : Int))) && (decide ((a1.toNat : Int) ≤ 90))))) (fun K => ?_) ?_
 ·rcases ak ((decide (97 ≤ (a1.toNat : Int))) && (decide ((a1.toNat : Int) ≤ 122))) with h4 | h4
  ·refine zF h4 rfl <| zF h4 rfl <| zF h4 rfl <| gU rfl rfl rfl rfl rfl <| gU rfl rfl rfl rfl rfl <| zF h4 rfl <| zS rfl (aF (av := .v _) rfl h4 rfl) ?_;exact K _ 6 _ (az (fb h4)) rfl rfl
  ·refine zM h4 rfl <| zU h4 rfl (cY rfl rfl) <| zM h4 rfl <| aY (l := [13, 14, 15, 16, 17, 18, 19, 20, 21, 22, 23, 24, 25, 26]) 15 (B ((decide (65 ≤ (a1.toNat : Int))) && (decide ((a1.toNat : Int) ≤ 90)))) (fun K => ?_) ?_
   ·rcases ak (decide (65 ≤ (a1.toNat : Int))) with h5 | h5
    ·refine zM h5 rfl <| zU h5 rfl (df rfl rfl) <| zU h4 rfl (aF (av := .v _) rfl h5 rfl) ?_;exact K _ 2 _ (az (cd h5)) rfl rfl
    ·refine zF h5 rfl <| zF h5 rfl <| zU h4 rfl (aE (av := .v _) rfl h5 rfl) ?_;exact K _ 2 _ (az (ce h5)) rfl rfl
   refine zS rfl (aE (av := .v _) rfl h4 rfl) ?_;exact K _ 4 _ (az (fc h4)) rfl rfl
 refine zm rfl <| aY (l := [22, 23, 24, 25, 26]) 24 (B ((((decide (97 ≤ (a1.toNat : Int))) && (decide ((a1.toNat : Int) ≤ 122))) || ((decide (65 ≤ (a1.toNat : Int))) && (decide ((a1.toNat : Int) ≤ 90)))) || ((decide (48 ≤ (a1.toNat : Int))) && (decide ((a1.toNat : Int) ≤ 57))))) (fun K => ?_) ?_
 ·rcases ak (((decide (97 ≤ (a1.toNat : Int))) && (decide ((a1.toNat : Int) ≤ 122))) || ((decide (65 ≤ (a1.toNat : Int))) && (decide ((a1.toNat : Int) ≤ 90)))) with h6 | h6
  ·refine zF h6 rfl <| zF h6 rfl <| zF h6 rfl <| gU rfl rfl rfl rfl rfl <| gU rfl rfl rfl rfl rfl <| zF h6 rfl <| zS rfl (aF (av := .v _) rfl h6 rfl) ?_;exact K _ 6 _ (az (fb h6)) rfl rfl
  ·refine zM h6 rfl <| zU h6 rfl (cY rfl rfl) <| zM h6 rfl <| aY (l := [21, 22, 23, 24, 25, 26]) 23 (B ((decide (48 ≤ (a1.toNat : Int))) && (decide ((a1.toNat : Int) ≤ 57)))) (fun K => ?_) ?_
   ·rcases ak (decide (48 ≤ (a1.toNat : Int))) with h7 | h7
    ·refine zM h7 rfl <| zU h7 rfl (df rfl rfl) <| zU h6 rfl (aF (av := .v _) rfl h7 rfl) ?_;exact K _ 2 _ (az (cd h7)) rfl rfl
    ·refine zF h7 rfl <| zF h7 rfl <| zU h6 rfl (aE (av := .v _) rfl h7 rfl) ?_;exact K _ 2 _ (az (ce h7)) rfl rfl
   refine zS rfl (aE (av := .v _) rfl h6 rfl) ?_;exact K _ 4 _ (az (fc h6)) rfl rfl
 refine zm rfl <| aY (l := [26]) 28 (B (((((decide (97 ≤ (a1.toNat : Int))) && (decide ((a1.toNat : Int) ≤ 122))) || ((decide (65 ≤ (a1.toNat : Int))) && (decide ((a1.toNat : Int) ≤ 90)))) || ((decide (48 ≤ (a1.toNat : Int))) && (decide ((a1.toNat : Int) ≤ 57)))) || (decide (a1 = 45)))) (fun K => ?_) ?_
 ·rcases ak ((((decide (97 ≤ (a1.toNat : Int))) && (decide ((a1.toNat : Int) ≤ 122))) || ((decide (65 ≤ (a1.toNat : Int))) && (decide ((a1.toNat : Int) ≤ 90)))) || ((decide (48 ≤ (a1.toNat : Int))) && (decide ((a1.toNat : Int) ≤ 57)))) with h8 | h8
  ·refine zF h8 rfl <| zF h8 rfl <| zS rfl (aF (av := .v _) rfl h8 rfl) ?_;exact K _ 2 _ (az (fb h8)) rfl rfl
  ·refine zM h8 rfl <| zU h8 rfl (eo (a := a1) (b := 45) rfl rfl) <| zS rfl (aE (av := .v _) rfl h8 rfl) ?_;exact K _ 2 _ (az (fc h8)) rfl rfl
 refine za rfl <| ag <| aI ?_;obtain rfl := ap H;exact And.intro rfl (Exists.intro _ (Exists.intro _ ⟨aH rfl (.refl _), aG [] rfl, rfl, rfl⟩))
set_option maxRecDepth 100000 in
set_option maxHeartbeats 1000000 in
theorem pI (F : Nat) (a1 : UInt8) (r2 : Bool) (H : kM F a1 = some r2) : ACalls Tryz.prog 223 [u8 a1] [] (Ret (B r2) []) := by
 unfold kM at H
 refine aw Tryz.func223 rfl rfl ?_;show AW _ _ 9 _ _ _;refine af <| aa ?_;show AR _ _ _ _ _ [0] _;refine za rfl <| ag <| af <| aa ?_;show AR _ _ _ _ _ [0, 1, 2, 3, 4, 5, 6] _;refine zm rfl <| zS rfl (cY rfl rfl) <| zm rfl <| aY (l := [6]) 8 (B ((decide (32 ≤ (a1.toNat : Int))) && (decide ((a1.toNat : Int) < 127)))) (fun K => ?_) ?_
 ·rcases ak (decide (32 ≤ (a1.toNat : Int))) with h3 | h3
  ·refine zM h3 rfl <| zU h3 rfl (bz rfl rfl) <| zS rfl (aF (av := .v _) rfl h3 rfl) ?_;exact K _ 2 _ (az (cd h3)) rfl rfl
  ·refine zF h3 rfl <| zF h3 rfl <| zS rfl (aE (av := .v _) rfl h3 rfl) ?_;exact K _ 2 _ (az (ce h3)) rfl rfl
 refine za rfl <| ag <| aI ?_;obtain rfl := ap H;exact And.intro rfl (Exists.intro _ (Exists.intro _ ⟨aH rfl (.refl _), aG [] rfl, rfl, rfl⟩))
set_option maxRecDepth 100000 in
set_option maxHeartbeats 1000000 in
theorem qO (F : Nat) (a1 : List UInt8) (r2 : Bool) (H : me F a1 = some r2) : ACalls Tryz.prog 179 [S a1, .v (.func (.func 180) #[] #[])] [] (Ret (B r2) []) := by
 unfold me at H
 refine aw Tryz.func179 rfl rfl ?_;show AW _ _ 20 _ _ _;refine af <| aa ?_;show AR _ _ _ _ _ [0] _;refine za rfl <| ag <| bj (X := Unit) (fun _ => ⟨[(0, S a1)], [], []⟩) (fun _ => fY a1 = some r2) ?_ ?_
 ·refine af <| aa ?_;show AR _ _ _ _ _ [0, 1, 2] _;refine zm rfl <| zS rfl (aX ac rfl) <| zm rfl <| ag <| aN <| cf (X := Nat × Int) (fun (n5, y3) => ⟨[(0, S a1), (1, .v (.func (.func 180) #[] #[])), (7, i64 (a1.length : Int)), (8, i64 y3)], [], []⟩) (fun (n5, y3) => jo F a1 n5 y3 = some r2) (fun (n5, y3) => n5) (F, 0) H (aO [] (.cons (.refl _) (.cons (.refl _) (.cons (.refl _) (.cons (.refl _) (.nil _))))) rfl) ?_;rintro ⟨n5, y3⟩ H;obtain ⟨n5, rfl, H⟩ := cE H;replace H : jp F a1 (jo F a1 n5) y3 = some r2 := H
  unfold jp at H
  refine af <| aa ?_;show AR _ _ _ _ _ [0] _;refine zS rfl (bz rfl rfl) <| ag <| af <| ay rfl (fun c6 => ?_) (fun c6 => ?_)
  ·replace H := aZ c6 H;refine aC <| af <| aN <| af <| aa ?_;show AR _ _ _ _ _ [0, 1] _;refine zm rfl <| za rfl <| ag <| af ?_;obtain ⟨g7, H⟩ := ax H;obtain ⟨x8, e9, H⟩ := bf H;obtain ⟨x10, e11, H⟩ := bL H;refine aa ?_;show AR _ _ _ _ _ [0, 1, 2, 3, 4, 5] _;refine zm rfl <| zm rfl <| zm rfl <| zS rfl (bi ac rfl rfl g7 e9) <| ao rfl rfl (AO.callFp rfl (.inr ⟨rfl, rfl, rfl⟩) sB rfl (qP F x8 x10 e11) ?_);refine zS rfl (co rfl) <| ag <| ay rfl (fun c12 => ?_) (fun c12 => ?_)
   ·replace H := aZ c12 H;refine af <| aa ?_;show AR _ _ _ _ _ [0] _;refine za rfl <| ag <| aI ?_;obtain rfl := ap H;exact And.intro rfl (Exists.intro _ (Exists.intro _ ⟨aH rfl (.refl _), aG [] rfl, rfl, rfl⟩))
   ·replace H := ba c12 H;refine aC ?_;obtain ⟨g13, H⟩ := ax H;refine aa ?_;show AR _ _ _ _ _ [0, 1] _;refine zS rfl (bp rfl rfl g13) <| zm rfl <| ag ?_;exact Exists.intro (n5, y3 + 1) ⟨H, Nat.lt_succ_self _, aO [] (.cons (.refl _) (.cons (.refl _) (.cons (.refl _) (.cons (.refl _) (.nil _))))) rfl⟩
  ·replace H := ba c6 H;refine bS ?_;exact Exists.intro () ⟨H, aO [] (.cons (.refl _) (.nil _)) rfl⟩
 rintro _ H;replace H : fY a1 = some r2 := H
 unfold fY at H
 refine af <| aa ?_;show AR _ _ _ _ _ [0, 1, 2] _;refine zm rfl <| zS rfl (gx rfl rfl) <| za rfl <| ag <| aI ?_;obtain rfl := ap H;exact And.intro rfl (Exists.intro _ (Exists.intro _ ⟨aH rfl (.refl _), aG [] rfl, rfl, rfl⟩))
set_option maxRecDepth 100000 in
set_option maxHeartbeats 1000000 in
theorem qN (F : Nat) (a1 : List UInt8) (r2 : Bool) (H : md F a1 = some r2) : ACalls Tryz.prog 179 [S a1, .v (.func (.func 223) #[] #[])] [] (Ret (B r2) []) := by
 unfold md at H
 refine aw Tryz.func179 rfl rfl ?_;show AW _ _ 20 _ _ _;refine af <| aa ?_;show AR _ _ _ _ _ [0] _;refine za rfl <| ag <| bj (X := Unit) (fun _ => ⟨[(0, S a1)], [], []⟩) (fun _ => fX a1 = some r2) ?_ ?_
 ·refine af <| aa ?_;show AR _ _ _ _ _ [0, 1, 2] _;refine zm rfl <| zS rfl (aX ac rfl) <| zm rfl <| ag <| aN <| cf (X := Nat × Int) (fun (n5, y3) => ⟨[(0, S a1), (1, .v (.func (.func 223) #[] #[])), (7, i64 (a1.length : Int)), (8, i64 y3)], [], []⟩) (fun (n5, y3) => jm F a1 n5 y3 = some r2) (fun (n5, y3) => n5) (F, 0) H (aO [] (.cons (.refl _) (.cons (.refl _) (.cons (.refl _) (.cons (.refl _) (.nil _))))) rfl) ?_;rintro ⟨n5, y3⟩ H;obtain ⟨n5, rfl, H⟩ := cE H;replace H : jn F a1 (jm F a1 n5) y3 = some r2 := H
  unfold jn at H
  refine af <| aa ?_;show AR _ _ _ _ _ [0] _;refine zS rfl (bz rfl rfl) <| ag <| af <| ay rfl (fun c6 => ?_) (fun c6 => ?_)
  ·replace H := aZ c6 H;refine aC <| af <| aN <| af <| aa ?_;show AR _ _ _ _ _ [0, 1] _;refine zm rfl <| za rfl <| ag <| af ?_;obtain ⟨g7, H⟩ := ax H;obtain ⟨x8, e9, H⟩ := bf H;obtain ⟨x10, e11, H⟩ := bL H;refine aa ?_;show AR _ _ _ _ _ [0, 1, 2, 3, 4, 5] _;refine zm rfl <| zm rfl <| zm rfl <| zS rfl (bi ac rfl rfl g7 e9) <| ao rfl rfl (AO.callFp rfl (.inr ⟨rfl, rfl, rfl⟩) sw rfl (pI F x8 x10 e11) ?_);refine zS rfl (co rfl) <| ag <| ay rfl (fun c12 => ?_) (fun c12 => ?_)
   ·replace H := aZ c12 H;refine af <| aa ?_;show AR _ _ _ _ _ [0] _;refine za rfl <| ag <| aI ?_;obtain rfl := ap H;exact And.intro rfl (Exists.intro _ (Exists.intro _ ⟨aH rfl (.refl _), aG [] rfl, rfl, rfl⟩))
   ·replace H := ba c12 H;refine aC ?_;obtain ⟨g13, H⟩ := ax H;refine aa ?_;show AR _ _ _ _ _ [0, 1] _;refine zS rfl (bp rfl rfl g13) <| zm rfl <| ag ?_;exact Exists.intro (n5, y3 + 1) ⟨H, Nat.lt_succ_self _, aO [] (.cons (.refl _) (.cons (.refl _) (.cons (.refl _) (.cons (.refl _) (.nil _))))) rfl⟩
  ·replace H := ba c6 H;refine bS ?_;exact Exists.intro () ⟨H, aO [] (.cons (.refl _) (.nil _)) rfl⟩
 rintro _ H;replace H : fX a1 = some r2 := H
 unfold fX at H
 refine af <| aa ?_;show AR _ _ _ _ _ [0, 1, 2] _;refine zm rfl <| zS rfl (gx rfl rfl) <| za rfl <| ag <| aI ?_;obtain rfl := ap H;exact And.intro rfl (Exists.intro _ (Exists.intro _ ⟨aH rfl (.refl _), aG [] rfl, rfl, rfl⟩))
set_option maxRecDepth 100000 in
set_option maxHeartbeats 1000000 in
theorem rJ (F : Nat) (a1 : List UInt8) (r2 : Bool) (H : ns F a1 = some r2) : ACalls Tryz.prog 129 [S a1] [] (Ret (B r2) []) := by
 unfold ns at H
 refine aw Tryz.func129 rfl rfl ?_;show AW _ _ 10 _ _ _;refine af <| aa ?_;show AR _ _ _ _ _ [0] _;refine za rfl <| ag <| af ?_;obtain ⟨x4, e5, H⟩ := ek H;refine aa ?_;show AR _ _ _ _ _ [0, 1, 2, 3, 4, 5, 6, 7] _;refine zm rfl <| zS rfl (aX ac rfl) <| zS rfl (df rfl rfl) <| zm rfl <| aY (l := [7]) 9 (B ((decide ((a1.length : Int) ≤ 40)) && x4)) (fun K => ?_) ?_
 ·rcases ak (decide ((a1.length : Int) ≤ 40)) with h3 | h3
  ·refine zM h3 rfl <| zT h3 rfl (aD rfl nZ rfl (qO F a1 x4 (e5 h3)) ?_);refine zS rfl (aF (av := .v _) rfl h3 rfl) ?_;exact K _ 2 _ (az (cd h3)) rfl rfl
  ·refine zF h3 rfl <| zF h3 rfl <| zS rfl (aE (av := .v _) rfl h3 rfl) ?_;exact K _ 2 _ (az (ce h3)) rfl rfl
 refine za rfl <| ag <| aI ?_;obtain rfl := ap H;exact And.intro rfl (Exists.intro _ (Exists.intro _ ⟨aH rfl (.refl _), aG [] rfl, rfl, rfl⟩))
set_option maxRecDepth 100000 in
set_option maxHeartbeats 1000000 in
theorem qQ (F : Nat) (a1 : List UInt8) (r2 : Bool) (H : mh F a1 = some r2) : ACalls Tryz.prog 182 [S a1] [] (Ret (B r2) []) := by
 unfold mh at H
 refine aw Tryz.func182 rfl rfl ?_;show AW _ _ 21 _ _ _;refine af <| aa ?_;show AR _ _ _ _ _ [0] _;refine za rfl <| ag <| af ?_;obtain ⟨x3, e4, H⟩ := bL H;obtain ⟨g6, H⟩ := di H;obtain ⟨x7, e8, H⟩ := bf H;obtain ⟨g10, H⟩ := di H;obtain ⟨x11, e12, H⟩ := bf H;obtain ⟨g14, H⟩ := di H;obtain ⟨x15, e16, H⟩ := bf H;refine aa ?_;show AR _ _ _ _ _ [0, 1, 2, 3, 4, 5, 6, 7, 8, 9, 10, 11, 12, 13, 14, 15, 16, 17, 18] _;refine zm rfl <| ao rfl rfl (aD rfl nZ rfl (qN F a1 x3 e4) ?_);refine zm rfl <| aY (l := [8, 9, 10, 11, 12, 13, 14, 15, 16, 17, 18]) 10 (B (x3 && (decide (x7 = a1)))) (fun K => ?_) ?_
 ·rcases ak x3 with h5 | h5
  ·refine zM h5 rfl <| zT h5 rfl (aD rfl sJ rfl (show ACalls _ _ _ [] (Ret (S x7) []) from by subst e8; exact qi a1 32 (by decide) (fC (g6 h5))) ?_);refine zM h5 rfl <| zU h5 rfl (eg rfl rfl) <| zS rfl (aF (av := .v _) rfl h5 rfl) ?_;exact K _ 4 _ (az (cd h5)) rfl rfl
  ·refine zF h5 rfl <| zF h5 rfl <| zF h5 rfl <| zF h5 rfl <| zS rfl (aE (av := .v _) rfl h5 rfl) ?_;exact K _ 4 _ (az (ce h5)) rfl rfl
 refine zm rfl <| aY (l := [13, 14, 15, 16, 17, 18]) 15 (B ((x3 && (decide (x7 = a1))) && (!x11))) (fun K => ?_) ?_
 ·rcases ak (x3 && (decide (x7 = a1))) with h9 | h9
  ·refine zM h9 rfl <| zT h9 rfl (aD rfl pb rfl (show ACalls _ _ _ [] (Ret (B x11) []) from by subst e12; exact gP a1 ([32, 32] : List UInt8) (fC (g10 h9))) ?_);refine zU h9 rfl (co rfl) <| zS rfl (aF (av := .v _) rfl h9 rfl) ?_;exact K _ 3 _ (az (cd h9)) rfl rfl
  ·refine zF h9 rfl <| zF h9 rfl <| zF h9 rfl <| zS rfl (aE (av := .v _) rfl h9 rfl) ?_;exact K _ 3 _ (az (ce h9)) rfl rfl
 refine zm rfl <| aY (l := [18]) 20 (B (((x3 && (decide (x7 = a1))) && (!x11)) && (!x15))) (fun K => ?_) ?_
 ·rcases ak ((x3 && (decide (x7 = a1))) && (!x11)) with h13 | h13
  ·refine zM h13 rfl <| zT h13 rfl (aD rfl pb rfl (show ACalls _ _ _ [] (Ret (B x15) []) from by subst e16; exact gP a1 ([61, 63] : List UInt8) (fC (g14 h13))) ?_);refine zU h13 rfl (co rfl) <| zS rfl (aF (av := .v _) rfl h13 rfl) ?_;exact K _ 3 _ (az (cd h13)) rfl rfl
  ·refine zF h13 rfl <| zF h13 rfl <| zF h13 rfl <| zS rfl (aE (av := .v _) rfl h13 rfl) ?_;exact K _ 3 _ (az (ce h13)) rfl rfl
 refine za rfl <| ag <| aI ?_;obtain rfl := ap H;exact And.intro rfl (Exists.intro _ (Exists.intro _ ⟨aH rfl (.refl _), aG [] rfl, rfl, rfl⟩))
set_option maxRecDepth 100000 in
set_option maxHeartbeats 1000000 in
theorem pJ (F : Nat) (a1 : UInt8) (r2 : Bool) (H : kN F a1 = some r2) : ACalls Tryz.prog 224 [u8 a1] [] (Ret (B r2) []) := by
 unfold kN at H
 refine aw Tryz.func224 rfl rfl ?_;show AW _ _ 6 _ _ _;refine af <| aa ?_;show AR _ _ _ _ _ [0] _;refine za rfl <| ag <| af <| aa ?_;show AR _ _ _ _ _ [0, 1, 2, 3] _;refine zm rfl <| zS rfl (g_shr8 (n := 6) rfl rfl rfl) <| zS rfl (eo (a := Go.Av.shr8 a1 6) (b := 2) rfl rfl) <| za rfl <| ag <| aI ?_;obtain rfl := ap H;exact And.intro rfl (Exists.intro _ (Exists.intro _ ⟨aH rfl (.refl _), aG [] rfl, rfl, rfl⟩))
set_option maxRecDepth 100000 in
set_option maxHeartbeats 1000000 in
theorem rI (F : Nat) (a1 : List UInt8) (r2 : Int) (H : nr F a1 = some r2) : ACalls Tryz.prog 183 [S a1] [] (Ret (i64 r2) []) := by
 unfold nr at H
 refine aw Tryz.func183 rfl rfl ?_;show AW _ _ 22 _ _ _;refine af <| aa ?_;show AR _ _ _ _ _ [0] _;refine za rfl <| ag <| af <| af <| aa ?_;show AR _ _ _ _ _ [0, 1, 2] _;refine zm rfl <| zS rfl (aX ac rfl) <| zS rfl (df rfl rfl) <| ag <| ay rfl (fun c3 => ?_) (fun c3 => ?_)
 ·replace H := aZ c3 H;refine af <| aa ?_;show AR _ _ _ _ _ [0, 1, 2] _;refine zm rfl <| zS rfl (aX ac rfl) <| za rfl <| ag <| aI ?_;obtain rfl := ap H;exact And.intro rfl (Exists.intro _ (Exists.intro _ ⟨aH rfl (.refl _), aG [] rfl, rfl, rfl⟩))
 ·replace H := ba c3 H;refine aC <| af <| aa ?_;show AR _ _ _ _ _ [0] _;refine za rfl <| ag <| bj (X := Int) (fun y15 => ⟨[(3, i64 y15)], [], []⟩) (fun y15 => gQ y15 = some r2) ?_ ?_
  ·refine aN <| cf (X := Nat × Int) (fun (n6, y4) => ⟨[(0, S a1), (3, i64 y4)], [], []⟩) (fun (n6, y4) => jQ F a1 n6 y4 = some r2) (fun (n6, y4) => n6) (F, 45) H (aO [] (.cons (.refl _) (.cons (.refl _) (.nil _))) rfl) ?_;rintro ⟨n6, y4⟩ H;obtain ⟨n6, rfl, H⟩ := cE H;replace H : jR F a1 (jQ F a1 n6) y4 = some r2 := H
   unfold jR at H
   refine af <| af ?_;obtain ⟨g8, H⟩ := di H;obtain ⟨x9, e10, H⟩ := bf H;obtain ⟨x11, e12, H⟩ := ek H;refine aa ?_;show AR _ _ _ _ _ [0, 1, 2, 3, 4, 5, 6, 7] _;refine zm rfl <| zS rfl (cU rfl rfl) <| zm rfl <| aY (l := []) 16 (B ((decide (41 < y4)) && x11)) (fun K => ?_) ?_
   ·rcases ak (decide (41 < y4)) with h7 | h7
    ·refine zM h7 rfl <| zM h7 rfl <| zU h7 rfl (bi ac rfl rfl (g8 h7) e10) <| zT h7 rfl (aD rfl sv rfl (pJ F x9 x11 (e12 h7)) ?_);refine zS rfl (aF (av := .v _) rfl h7 rfl) ?_;exact K _ 4 _ (az (cd h7)) rfl rfl
    ·refine zF h7 rfl <| zF h7 rfl <| zF h7 rfl <| zF h7 rfl <| zS rfl (aE (av := .v _) rfl h7 rfl) ?_;exact K _ 4 _ (az (ce h7)) rfl rfl
   refine ag <| ay rfl (fun c13 => ?_) (fun c13 => ?_)
   ·replace H := aZ c13 H;refine aC <| aN ?_;obtain ⟨g14, H⟩ := ax H;refine aa ?_;show AR _ _ _ _ _ [0, 1, 2] _;refine zm rfl <| zS rfl (dP rfl rfl g14) <| za rfl <| ag ?_;exact Exists.intro (n6, y4 - 1) ⟨H, Nat.lt_succ_self _, aO [] (.cons (.refl _) (.cons (.refl _) (.nil _))) rfl⟩
   ·replace H := ba c13 H;refine bS ?_;exact Exists.intro y4 ⟨H, aO [] (.cons (.refl _) (.nil _)) rfl⟩
  rintro y15 H;replace H : gQ y15 = some r2 := H
  unfold gQ at H
  refine af <| af <| aa ?_;show AR _ _ _ _ _ [0, 1] _;refine zm rfl <| zS rfl (cc rfl rfl) <| ag <| ay rfl (fun c17 => ?_) (fun c17 => ?_)
  ·replace H := aZ c17 H;refine af <| aa ?_;show AR _ _ _ _ _ [0] _;refine za rfl <| ag <| aI ?_;obtain rfl := ap H;exact And.intro rfl (Exists.intro _ (Exists.intro _ ⟨aH rfl (.refl _), aG [] rfl, rfl, rfl⟩))
  ·replace H := ba c17 H;refine aC <| af <| aa ?_;show AR _ _ _ _ _ [0, 1] _;refine zm rfl <| za rfl <| ag <| aI ?_;obtain rfl := ap H;exact And.intro rfl (Exists.intro _ (Exists.intro _ ⟨aH rfl (.refl _), aG [] rfl, rfl, rfl⟩))
set_option maxRecDepth 100000 in
set_option maxHeartbeats 1000000 in
theorem pH (F : Nat) {σ τ : Type} (T : σ → τ → List Chunk) (k : σ → (List UInt8) → Option (σ × Bool)) (o : Nat) (hY : ∀ (s : σ) (t : τ) (x : List UInt8) (rv : σ × Bool), k s x = some rv → lz Tryz.prog o [S x] (T s t) fun ae A' => ∃ t', ae = .ret (.v (.bool rv.2)) ∧ A' = T rv.1 t') (st0 : σ) (tt0 : τ) (o1 : Nat) (a2 : List UInt8) (rs : σ) (r3 : List UInt8) (H : kL F k st0 a2 = some (rs, r3)) : ACalls Tryz.prog 181 [.yl o, .pt o1 0] ([.obj o1 [S a2]] ++ T st0 tt0) (fun e A' => ∃ tz, e = .ret (.tup []) ∧ A' = [.obj o1 [S r3]] ++ T rs tz) := by
 unfold kL at H
 refine aw Tryz.func181 rfl rfl ?_;show AW _ _ 37 _ _ _;refine bj (X := Unit) (fun _ => ⟨[(0, .yl o), (1, .pt o1 0)], [], ([.obj o1 [S a2]] ++ T st0 tt0)⟩) (fun _ => fm F a2 k st0 = some (rs, r3)) ?_ ?_
 ·refine af ?_;obtain ⟨x4, e5, H⟩ := bL H;refine aa ?_;show AR _ _ _ _ _ [0, 1] _;refine zR rfl (am (i := 0) ac rfl rfl rfl rfl) <| ao rfl rfl (aD rfl sz rfl (qQ F a2 x4 e5) ?_);refine ag <| ay rfl (fun c6 => ?_) (fun c6 => ?_)
  ·replace H := aZ c6 H;refine af <| af ?_;obtain ⟨g7, H⟩ := ax H;obtain ⟨g8, H⟩ := ax H;obtain ⟨x9, e10, H⟩ := bf H;refine aa ?_;show AR _ _ _ _ _ [0, 1, 2, 3] _;refine zR rfl (am (i := 0) ac rfl rfl rfl rfl) <| ao rfl rfl (aD rfl tV rfl (show ACalls _ _ _ [] (Ret (slE Enc.str x9 none) []) from by subst e10; exact nq a2 ([32] : List UInt8) (fC g7) (of_decide_eq_true g8)) ?_);refine zS rfl (aQ an rfl) <| zm rfl <| ag <| aN <| cf (X := Nat × Int × σ × τ) (fun (n15, y11, y12, t13) => ⟨[(0, .yl o), (9, slE Enc.str x9 none), (10, i64 (x9.length : Int)), (11, i64 y11)], [], ([.obj o1 [S a2]] ++ T y12 t13)⟩) (fun (n15, y11, y12, t13) => im a2 k x9 n15 (y11, y12) = some (rs, r3)) (fun (n15, y11, y12, t13) => n15) (F, 0, st0, tt0) H (WK.atT 1 [0] (.cons (.refl _) (.cons (.refl _) (.cons (.refl _) (.cons (.refl _) (.nil _))))) rfl) ?_;rintro ⟨n15, y11, y12, t13⟩ H;obtain ⟨n15, rfl, H⟩ := cE H;replace H : iq a2 k x9 (im a2 k x9 n15) y11 y12 = some (rs, r3) := H
   unfold iq at H
   refine af <| aa ?_;show AR _ _ _ _ _ [0] _;refine zS rfl (bz rfl rfl) <| ag <| af <| ay rfl (fun c16 => ?_) (fun c16 => ?_)
   ·replace H := aZ c16 H;refine aC <| af <| aN <| af ?_;obtain ⟨g17, H⟩ := ax H;obtain ⟨x18, e19, H⟩ := bf H;refine aa ?_;show AR _ _ _ _ _ [0, 1, 2] _;refine zS rfl (cm (E := Enc.str) an (by kernel_rfl) rfl rfl g17 e19) <| zS rfl (aJ ac rfl rfl) <| za rfl <| ag <| af ?_;obtain ⟨x20, x21, e22, H⟩ := cF H;refine aa ?_;show AR _ _ _ _ _ [0, 1, 2, 3] _;refine zS rfl (aj (av := .yl _) rfl) <| zm rfl <| ao rfl rfl (AO.yieldT (s' := x20) (b := x21) 1 rfl rfl rfl (hY _ _ _ _ e22) fun t23 => ?_);show AR _ _ _ _ _ _ ⟨_, _, ([.obj o1 [S a2]] ++ T x20 t23)⟩;refine zS rfl (co rfl) <| ag <| ay rfl (fun c24 => ?_) (fun c24 => ?_)
    ·replace H := aZ c24 H;refine aI ?_;obtain ⟨rfl, rfl⟩ := cQ H;exact And.intro rfl (Exists.intro _ (Exists.intro _ ⟨bW rfl, Sub.atT 1 [0] rfl, t23, rfl, rfl⟩))
    ·replace H := ba c24 H;refine aC ?_;obtain ⟨g25, H⟩ := ax H;refine aa ?_;show AR _ _ _ _ _ [0, 1] _;refine zS rfl (bp rfl rfl g25) <| zm rfl <| ag ?_;exact Exists.intro (n15, y11 + 1, x20, t23) ⟨H, Nat.lt_succ_self _, WK.atT 1 [0] (.cons (.refl _) (.cons (.refl _) (.cons (.refl _) (.cons (.refl _) (.nil _))))) rfl⟩
   ·replace H := ba c16 H;refine bS <| aI ?_;obtain ⟨rfl, rfl⟩ := cQ H;exact And.intro rfl (Exists.intro _ (Exists.intro _ ⟨bW rfl, Sub.atT 1 [0] rfl, t13, rfl, rfl⟩))
  ·replace H := ba c6 H;refine aC ?_;exact Exists.intro () ⟨H, WK.atT 1 [0] (.cons (.refl _) (.cons (.refl _) (.nil _))) rfl⟩
 rintro _ H;replace H : fm F a2 k st0 = some (rs, r3) := H
 unfold fm at H
 refine aN <| cf (X := Nat × (List UInt8) × σ × τ) (fun (n31, y27, y28, t29) => ⟨[(0, .yl o), (1, .pt o1 0)], [], ([.obj o1 [S y27]] ++ T y28 t29)⟩) (fun (n31, y27, y28, t29) => ip F k n31 (y27, y28) = some (rs, r3)) (fun (n31, y27, y28, t29) => n31) (F, a2, st0, tt0) H (WK.atT 1 [0] (.cons (.refl _) (.cons (.refl _) (.nil _))) rfl) ?_;rintro ⟨n31, y27, y28, t29⟩ H;obtain ⟨n31, rfl, H⟩ := cE H;replace H : ir F k (ip F k n31) y27 y28 = some (rs, r3) := H
 unfold ir at H
 refine af <| af <| aa ?_;show AR _ _ _ _ _ [0, 1] _;refine zR rfl (am (i := 0) ac rfl rfl rfl rfl) <| zS rfl (gx rfl rfl) <| ag <| ay rfl (fun c32 => ?_) (fun c32 => ?_)
 ·replace H := aZ c32 H;refine aC <| aN <| af ?_;obtain ⟨x33, e34, H⟩ := bL H;refine aa ?_;show AR _ _ _ _ _ [0, 1, 2] _;refine zR rfl (am (i := 0) ac rfl rfl rfl rfl) <| ao rfl rfl (aD rfl sy rfl (rI F y27 x33 e34) ?_);refine za rfl <| ag <| af <| af ?_;obtain ⟨g35, H⟩ := ax H;obtain ⟨x36, e37, H⟩ := bf H;obtain ⟨g38, H⟩ := ax H;obtain ⟨x40, e41, H⟩ := bL H;obtain ⟨g42, H⟩ := ax H;obtain ⟨x43, e44, H⟩ := bf H;obtain ⟨g45, H⟩ := ax H;obtain ⟨x46, e47, H⟩ := bf H;obtain ⟨x48, x49, e50, H⟩ := cF H;refine aa ?_;show AR _ _ _ _ _ [0, 1, 2, 3, 4, 5, 6, 7, 8, 9] _;refine zS rfl (aj (av := .yl _) rfl) <| zR rfl (am (i := 0) ac rfl rfl rfl rfl) <| zm rfl <| zS rfl (lc ac rfl rfl g35 e37) <| zX rfl (ck (bytes := 1) ac ab aW rfl g38) ?_;rintro _ _ ⟨t39, rfl, rfl⟩;refine ao rfl rfl (aD rfl sx rfl (va F x36 (some t39) x40 e41) ?_);refine zS rfl (bZ rfl rfl g42 e44) <| zS rfl (bZ rfl rfl g45 e47) <| ao rfl rfl (AO.yieldT (s' := x48) (b := x49) 2 rfl rfl rfl (hY _ _ _ _ e50) fun t51 => ?_);show AR _ _ _ _ _ _ ⟨_, _, ([.tok t39 5, .obj o1 [S y27]] ++ T x48 t51)⟩;refine zS rfl (co rfl) <| ag <| ay rfl (fun c52 => ?_) (fun c52 => ?_)
  ·replace H := aZ c52 H;refine aI ?_;obtain ⟨rfl, rfl⟩ := cQ H;exact And.intro rfl (Exists.intro _ (Exists.intro _ ⟨bW rfl, Sub.atT 2 [1] rfl, t51, rfl, rfl⟩))
  ·replace H := ba c52 H;refine aC ?_;obtain ⟨g53, H⟩ := ax H;obtain ⟨x54, e55, H⟩ := bf H;refine aa ?_;show AR _ _ _ _ _ [0, 1, 2, 3] _;refine zR rfl (am (i := 1) ac rfl rfl rfl rfl) <| zm rfl <| zS rfl (cA ac rfl rfl g53 e55) <| s0 rfl rfl (au (i := 1) (c := .v _) (by kernel_rfl) rfl rfl rfl rfl (ai rfl)) <| ag ?_;exact Exists.intro (n31, x54, x48, t51) ⟨H, Nat.lt_succ_self _, WK.atT 2 [1] (.cons (.refl _) (.cons (.refl _) (.nil _))) rfl⟩
 ·replace H := ba c32 H;refine bS ?_;obtain ⟨rfl, rfl⟩ := cQ H;exact And.intro rfl (Exists.intro _ (Exists.intro _ ⟨bW rfl, Sub.atT 1 [0] rfl, t29, rfl, rfl⟩))
set_option maxRecDepth 100000 in
set_option maxHeartbeats 1000000 in
theorem qM (F : Nat) (a1 : List UInt8) (H : mc F a1 = some ()) : ACalls Tryz.prog 130 [S a1] [] (fun e A' => ∃ ob1 : Nat, e = .ret (.fn (.func 181) [] [.pt ob1 0]) ∧ A' = [.obj ob1 [S a1]]) := by
 unfold mc at H
 refine aw Tryz.func130 rfl rfl ?_;show AW _ _ 4 _ _ _;refine af <| aa ?_;show AR _ _ _ _ _ [0, 1] _;refine zX rfl (ox rfl (.inl rfl)) ?_;rintro _ _ ⟨o2, rfl, rfl⟩;refine za rfl <| ag <| af <| aa ?_;show AR _ _ _ _ _ [0, 1] _;refine zS rfl (gN rfl rfl) <| zS rfl (aA (av := .fn _ _ _) rfl) <| ag <| aI ?_;exact And.intro rfl (Exists.intro _ (Exists.intro _ ⟨aH rfl (.refl _), aG [0] rfl, o2, rfl, rfl⟩))
set_option maxRecDepth 100000 in
set_option maxHeartbeats 1000000 in
theorem rK (F : Nat) (a1 : List UInt8) (a2 : List UInt8) (r3 : List UInt8) (r4 : Int) (H : nt F a1 a2 = some (r3, r4)) : ACalls Tryz.prog 79 [.agg [S a1, S a2]] [] (Ret (.tup [slE Enc.byte r3 none, i64 r4]) []) := by
 unfold nt at H
 refine ov Tryz.func79 rfl rfl ?_;show AW _ _ 47 _ _ _;refine af <| aa ?_;show AR _ _ _ _ _ [0, 1, 2] _;refine zR rfl (hM rfl (.inr ⟨_, rfl⟩)) <| za rfl <| za rfl <| ag <| af <| af ?_;obtain ⟨x5, e6, H⟩ := bL H;refine aa ?_;show AR _ _ _ _ _ [0, 1, 2, 3, 4, 5, 6, 7, 8, 9] _;refine zS rfl (be (n := 0) (by kernel_rfl) rfl (ai rfl)) <| zS rfl (aJ ac rfl rfl) <| ao rfl rfl (aD rfl sE rfl (rJ F a1 x5 e6) ?_);refine zS rfl (co rfl) <| zm rfl <| aY (l := []) 16 (B ((!x5) || (decide (4000 < (a2.length : Int))))) (fun K => ?_) ?_
 ·rcases ak (!x5) with h7 | h7
  ·refine zF h7 rfl <| zF h7 rfl <| zF h7 rfl <| zF h7 rfl <| zS rfl (aF (av := .v _) rfl h7 rfl) ?_;exact K _ 4 _ (az (fb h7)) rfl rfl
  ·refine zU h7 rfl (be (n := 1) (by kernel_rfl) rfl (ai rfl)) <| zU h7 rfl (aJ ac rfl rfl) <| zU h7 rfl (aX ac rfl) <| zU h7 rfl (cU rfl rfl) <| zS rfl (aE (av := .v _) rfl h7 rfl) ?_;exact K _ 4 _ (az (fc h7)) rfl rfl
 refine ag <| ay rfl (fun c8 => ?_) (fun c8 => ?_)
 ·replace H := aZ c8 H;refine af <| aa ?_;show AR _ _ _ _ _ [0, 1] _;refine za rfl <| za rfl <| ag <| aI ?_;obtain ⟨rfl, rfl⟩ := cQ H;exact Exists.intro _ (And.intro (.nil _) (Exists.intro _ (Exists.intro _ ⟨bc rfl (.nil _) (.refl _), aG [] rfl, rfl, rfl⟩)))
 ·replace H := ba c8 H;refine aC <| af ?_;obtain ⟨g9, H⟩ := ax H;obtain ⟨x10, e11, H⟩ := bf H;obtain ⟨g12, H⟩ := ax H;refine aa ?_;show AR _ _ _ _ _ [0, 1, 2, 3, 4, 5] _;refine zS rfl (be (n := 0) (by kernel_rfl) rfl (ai rfl)) <| zS rfl (aJ ac rfl rfl) <| zS rfl (bZ rfl rfl g9 e11) <| zX rfl (ck (bytes := 1) ac ab aW rfl g12) ?_;rintro _ _ ⟨t13, rfl, rfl⟩;refine zX rfl (dp (zs := [.slice none 0 0]) (by kernel_rfl)) ?_;rintro _ _ ⟨o14, rfl, rfl⟩;refine s0 rfl rfl (au (i := 0) (c := slE _ _ _) (by kernel_rfl) rfl rfl rfl rfl (ai rfl)) <| ag <| af <| aa ?_;show AR _ _ _ _ _ [0, 1, 2, 3] _;refine zR rfl (am (i := 0) ab rfl rfl rfl rfl) <| zS rfl (aQ ab rfl) <| zX rfl (dp (zs := [.int .i64 0]) (by kernel_rfl)) ?_;rintro _ _ ⟨o15, rfl, rfl⟩;refine s0 rfl rfl (au (i := 0) (c := .v _) (by kernel_rfl) rfl rfl rfl rfl (ai rfl)) <| ag <| bj (X := Nat × (List UInt8) × Nat) (fun (t65, y66, t67) => ⟨[(4, .pt o14 0)], [.mark t65], [.obj o14 [slE Enc.byte y66 (some t67)], .tok t67 5, .db t65]⟩) (fun (t65, y66, t67) => gS y66 = some (r3, r4)) ?_ ?_
  ·refine af ?_;obtain ⟨_, e16, H⟩ := bL H;refine aa ?_;show AR _ _ _ _ _ [0, 1, 2] _;refine zS rfl (be (n := 1) (by kernel_rfl) rfl (ai rfl)) <| zS rfl (aJ ac rfl rfl) <| ao rfl rfl (bC [] rfl sD rfl (qM F a2 e16) rfl (fun c A' h => by obtain ⟨_, h, _⟩ := h; cases h) ?_)
   rintro av A' ⟨o17, h, rfl⟩; cases h
   refine ag <| aN ?_;obtain ⟨x60, x61, e62, H⟩ := cF H;refine AW.rangeK (α := List UInt8) (σ := Int × (List UInt8)) (τ := Nat) (fun x => [S x]) (fun s t => [.obj o15 [i64 s.1], .obj o14 [slE Enc.byte s.2 (some t)], .tok t 5]) (fun _ => none) (fun s x => gR s.1 s.2 x) ((x10.length : Int), x10) t13 x60 [0] [0, 0, 0] rfl sA (fun _ => rfl) (by decide) rfl rfl rfl (fun o T' hY => pH F T' _ o hY _ _ o17 a2 x60 x61 e62) ?_ ?_
   ·rintro l ⟨y18, y19⟩ t20 x22 rv H;replace H : gR y18 y19 x22 = some rv := H
    unfold gR at H
    refine ⟨rfl, ?_⟩;show AW _ _ _ _ _ ⟨(26, S x22) :: _, [], _⟩;refine aa ?_;show AR _ _ _ _ _ [0] _;refine za rfl <| ag <| aN <| bj (X := Int × (List UInt8) × Nat) (fun (y30, y31, t32) => ⟨[(4, .pt o14 0), (5, .pt o15 0), (6, S x22)], [], [.obj o15 [i64 y30], .obj o14 [slE Enc.byte y31 (some t32)], .tok t32 5]⟩) (fun (y30, y31, t32) => fu x22 y30 y31 = some rv) ?_ ?_
    ·refine af ?_;obtain ⟨g23, H⟩ := ax H;obtain ⟨g24, H⟩ := ax H;refine aa ?_;show AR _ _ _ _ _ [0, 1, 2, 3, 4, 5] _;refine zR rfl (am (i := 0) bg rfl rfl rfl rfl) <| zS rfl (bp rfl rfl g23) <| zm rfl <| zS rfl (aX ac rfl) <| zS rfl (bp rfl rfl g24) <| zS rfl (cU rfl rfl) <| ag <| ay rfl (fun c25 => ?_) (fun c25 => ?_)
     ·replace H := aZ c25 H;obtain ⟨g27, H⟩ := ax H;obtain ⟨x28, e29, H⟩ := bf H;refine aa ?_;show AR _ _ _ _ _ [0, 1, 2, 3] _;refine zR rfl (am (i := 1) ab rfl rfl rfl rfl) <| zX rfl (bq (bytes := 1) 2 ab ac rfl (by kernel_rfl) rfl rfl rfl rfl g27 e29) ?_;rintro _ _ ⟨t26, rfl, rfl⟩;refine s0 rfl rfl (au (i := 1) (c := slE _ _ _) (by kernel_rfl) rfl rfl rfl rfl (ai rfl)) <| s0 rfl rfl (au (i := 0) (c := .v _) (by kernel_rfl) rfl rfl rfl rfl (ai rfl)) <| ag ?_;exact Exists.intro (0, x28, t26) ⟨H, aO [0, 0, 0] (.cons (.refl _) (.cons (.refl _) (.cons (.refl _) (.nil _)))) rfl⟩
     ·replace H := ba c25 H;refine aC ?_;exact Exists.intro (y18, y19, t20) ⟨H, aO [0, 0, 0] (.cons (.refl _) (.cons (.refl _) (.cons (.refl _) (.nil _)))) rfl⟩
    rintro ⟨y30, y31, t32⟩ H;replace H : fu x22 y30 y31 = some rv := H
    unfold fu at H
    obtain ⟨g35, H⟩ := ax H;obtain ⟨x36, e37, H⟩ := bf H;obtain ⟨g39, H⟩ := ax H;obtain ⟨x40, e41, H⟩ := bf H;obtain ⟨g42, H⟩ := ax H;obtain ⟨g43, H⟩ := ax H;refine ou (by kernel_rfl) (by kernel_rfl) ?_;show AI _ _ _ _ _ 12 (Array.replicate 12 false) _;refine zk 3 rfl (mv rfl) ?_;show AI _ _ _ _ _ _ #[false, false, false, true, false, false, false, false, false, false, false, false] _;refine zk 7 rfl (mv rfl) ?_;show AI _ _ _ _ _ _ #[false, false, false, true, false, false, false, true, false, false, false, false] _;refine zk 8 rfl (aX ac rfl) ?_;show AI _ _ _ _ _ _ #[false, false, false, true, false, false, false, true, true, false, false, false] _;refine tj (i := 0) (j := 1) (l := 5) (by kernel_rfl) rfl rfl rfl rfl rfl rfl ?_ ?_ ?_
    ·refine aR rfl (am (i := 1) ab rfl rfl rfl rfl) ?_;show AI _ _ _ _ _ _ #[true, false, false, true, false, false, false, true, true, false, false, false] _;refine de (i := 1) (j := 5) (by kernel_rfl) rfl rfl rfl rfl ?_ ?_
     ·refine aR rfl (bI (E := Enc.byte) (bytes := 1) (xs := [.const _]) (l := ([32] : List UInt8)) ab (by kernel_rfl) rfl rfl (by decide) rfl rfl) ?_;show AI _ _ _ _ _ _ #[true, true, false, true, false, false, false, true, true, false, false, false] _;refine de (i := 2) (j := 5) (by kernel_rfl) rfl rfl rfl rfl ?_ ?_
      ·refine bU rfl (cw (E := Enc.byte) (bytes := 1) 2 ab ab rfl (by kernel_rfl) rfl rfl rfl rfl g35 e37) ?_;rintro _ _ ⟨t34, rfl, rfl⟩;show AI _ _ _ _ _ _ #[true, true, true, true, false, false, false, true, true, false, false, false] _;refine de (i := 4) (j := 5) (by kernel_rfl) rfl rfl rfl rfl ?_ ?_
       ·refine bU rfl (bq (bytes := 1) 2 ab ac rfl (by kernel_rfl) rfl rfl rfl rfl g39 e41) ?_;rintro _ _ ⟨t38, rfl, rfl⟩;show AI _ _ _ _ _ _ #[true, true, true, true, true, false, false, true, true, false, false, false] _;refine de (i := 5) (j := 10) (by kernel_rfl) rfl rfl rfl rfl ?_ ?_
        ·refine aR rfl (am (i := 0) bg rfl rfl rfl rfl) ?_;show AI _ _ _ _ _ _ #[true, true, true, true, true, true, false, true, true, false, false, false] _;refine zk 6 rfl (bp rfl rfl g42) ?_;show AI _ _ _ _ _ _ #[true, true, true, true, true, true, true, true, true, false, false, false] _;refine zk 9 rfl (bp rfl rfl g43) ?_;show AI _ _ _ _ _ _ #[true, true, true, true, true, true, true, true, true, true, false, false] _;refine aU (i := 10) (by kernel_rfl) rfl rfl <| cg (au (i := 1) (c := slE _ _ _) (by kernel_rfl) rfl rfl rfl rfl (ai rfl)) ?_;show AI _ _ _ _ _ _ #[true, true, true, true, true, true, true, true, true, true, true, false] _;refine aU (i := 11) (by kernel_rfl) rfl rfl <| cg (au (i := 0) (c := .v _) (by kernel_rfl) rfl rfl rfl rfl (ai rfl)) ?_;show AI _ _ _ _ _ _ #[true, true, true, true, true, true, true, true, true, true, true, true] _;refine bx rfl ?_;obtain rfl := ap H;exact ⟨rfl, rfl, t38, aG [0, 0, 0] rfl⟩
        ·refine cg (au (i := 1) (c := slE _ _ _) (by kernel_rfl) rfl rfl rfl rfl (ai rfl)) ?_;show AI _ _ _ _ _ _ #[true, true, true, true, true, false, false, true, true, false, true, false] _;refine aU (i := 5) (by kernel_rfl) rfl rfl <| aR rfl (am (i := 0) bg rfl rfl rfl rfl) ?_;show AI _ _ _ _ _ _ #[true, true, true, true, true, true, false, true, true, false, true, false] _;refine zk 6 rfl (bp rfl rfl g42) ?_;show AI _ _ _ _ _ _ #[true, true, true, true, true, true, true, true, true, false, true, false] _;refine zk 9 rfl (bp rfl rfl g43) ?_;show AI _ _ _ _ _ _ #[true, true, true, true, true, true, true, true, true, true, true, false] _;refine aU (i := 11) (by kernel_rfl) rfl rfl <| cg (au (i := 0) (c := .v _) (by kernel_rfl) rfl rfl rfl rfl (ai rfl)) ?_;show AI _ _ _ _ _ _ #[true, true, true, true, true, true, true, true, true, true, true, true] _;refine bx rfl ?_;obtain rfl := ap H;exact ⟨rfl, rfl, t38, aG [0, 0, 0] rfl⟩
       ·refine aR rfl (am (i := 0) bg rfl rfl rfl rfl) ?_;show AI _ _ _ _ _ _ #[true, true, true, true, false, true, false, true, true, false, false, false] _;refine zk 6 rfl (bp rfl rfl g42) ?_;show AI _ _ _ _ _ _ #[true, true, true, true, false, true, true, true, true, false, false, false] _;refine zk 9 rfl (bp rfl rfl g43) ?_;show AI _ _ _ _ _ _ #[true, true, true, true, false, true, true, true, true, true, false, false] _;refine aU (i := 4) (by kernel_rfl) rfl rfl <| bU rfl (bq (bytes := 1) 2 ab ac rfl (by kernel_rfl) rfl rfl rfl rfl g39 e41) ?_;rintro _ _ ⟨t44, rfl, rfl⟩;show AI _ _ _ _ _ _ #[true, true, true, true, true, true, true, true, true, true, false, false] _;refine aU (i := 10) (by kernel_rfl) rfl rfl <| cg (au (i := 1) (c := slE _ _ _) (by kernel_rfl) rfl rfl rfl rfl (ai rfl)) ?_;show AI _ _ _ _ _ _ #[true, true, true, true, true, true, true, true, true, true, true, false] _;refine aU (i := 11) (by kernel_rfl) rfl rfl <| cg (au (i := 0) (c := .v _) (by kernel_rfl) rfl rfl rfl rfl (ai rfl)) ?_;show AI _ _ _ _ _ _ #[true, true, true, true, true, true, true, true, true, true, true, true] _;refine bx rfl ?_;obtain rfl := ap H;exact ⟨rfl, rfl, t44, aG [0, 0, 0] rfl⟩
      ·refine aR rfl (am (i := 0) bg rfl rfl rfl rfl) ?_;show AI _ _ _ _ _ _ #[true, true, false, true, false, true, false, true, true, false, false, false] _;refine zk 6 rfl (bp rfl rfl g42) ?_;show AI _ _ _ _ _ _ #[true, true, false, true, false, true, true, true, true, false, false, false] _;refine zk 9 rfl (bp rfl rfl g43) ?_;show AI _ _ _ _ _ _ #[true, true, false, true, false, true, true, true, true, true, false, false] _;refine aU (i := 2) (by kernel_rfl) rfl rfl <| bU rfl (cw (E := Enc.byte) (bytes := 1) 2 ab ab rfl (by kernel_rfl) rfl rfl rfl rfl g35 e37) ?_;rintro _ _ ⟨t45, rfl, rfl⟩;show AI _ _ _ _ _ _ #[true, true, true, true, false, true, true, true, true, true, false, false] _;refine aU (i := 4) (by kernel_rfl) rfl rfl <| bU rfl (bq (bytes := 1) 2 ab ac rfl (by kernel_rfl) rfl rfl rfl rfl g39 e41) ?_;rintro _ _ ⟨t46, rfl, rfl⟩;show AI _ _ _ _ _ _ #[true, true, true, true, true, true, true, true, true, true, false, false] _;refine aU (i := 10) (by kernel_rfl) rfl rfl <| cg (au (i := 1) (c := slE _ _ _) (by kernel_rfl) rfl rfl rfl rfl (ai rfl)) ?_;show AI _ _ _ _ _ _ #[true, true, true, true, true, true, true, true, true, true, true, false] _;refine aU (i := 11) (by kernel_rfl) rfl rfl <| cg (au (i := 0) (c := .v _) (by kernel_rfl) rfl rfl rfl rfl (ai rfl)) ?_;show AI _ _ _ _ _ _ #[true, true, true, true, true, true, true, true, true, true, true, true] _
       refine bx rfl ?_;obtain rfl := ap H;exact ⟨rfl, rfl, t46, aG [0, 0, 0] rfl⟩
     ·refine aR rfl (am (i := 0) bg rfl rfl rfl rfl) ?_;show AI _ _ _ _ _ _ #[true, false, false, true, false, true, false, true, true, false, false, false] _;refine zk 6 rfl (bp rfl rfl g42) ?_;show AI _ _ _ _ _ _ #[true, false, false, true, false, true, true, true, true, false, false, false] _;refine zk 9 rfl (bp rfl rfl g43) ?_;show AI _ _ _ _ _ _ #[true, false, false, true, false, true, true, true, true, true, false, false] _;refine aU (i := 1) (by kernel_rfl) rfl rfl <| aR rfl (bI (E := Enc.byte) (bytes := 1) (xs := [.const _]) (l := ([32] : List UInt8)) ab (by kernel_rfl) rfl rfl (by decide) rfl rfl) ?_;show AI _ _ _ _ _ _ #[true, true, false, true, false, true, true, true, true, true, false, false] _;refine aU (i := 2) (by kernel_rfl) rfl rfl <| bU rfl (cw (E := Enc.byte) (bytes := 1) 2 ab ab rfl (by kernel_rfl) rfl rfl rfl rfl g35 e37) ?_;rintro _ _ ⟨t47, rfl, rfl⟩;show AI _ _ _ _ _ _ #[true, true, true, true, false, true, true, true, true, true, false, false] _;refine aU (i := 4) (by kernel_rfl) rfl rfl <| bU rfl (bq (bytes := 1) 2 ab ac rfl (by kernel_rfl) rfl rfl rfl rfl g39 e41) ?_;rintro _ _ ⟨t48, rfl, rfl⟩;show AI _ _ _ _ _ _ #[true, true, true, true, true, true, true, true, true, true, false, false] _;refine aU (i := 10) (by kernel_rfl) rfl rfl <| cg (au (i := 1) (c := slE _ _ _) (by kernel_rfl) rfl rfl rfl rfl (ai rfl)) ?_
      show AI _ _ _ _ _ _ #[true, true, true, true, true, true, true, true, true, true, true, false] _;refine aU (i := 11) (by kernel_rfl) rfl rfl <| cg (au (i := 0) (c := .v _) (by kernel_rfl) rfl rfl rfl rfl (ai rfl)) ?_;show AI _ _ _ _ _ _ #[true, true, true, true, true, true, true, true, true, true, true, true] _;refine bx rfl ?_;obtain rfl := ap H;exact ⟨rfl, rfl, t48, aG [0, 0, 0] rfl⟩
    ·refine aR rfl (bI (E := Enc.byte) (bytes := 1) (xs := [.const _]) (l := ([32] : List UInt8)) ab (by kernel_rfl) rfl rfl (by decide) rfl rfl) ?_;show AI _ _ _ _ _ _ #[false, true, false, true, false, false, false, true, true, false, false, false] _;refine de (i := 0) (j := 5) (by kernel_rfl) rfl rfl rfl rfl ?_ ?_
     ·refine aR rfl (am (i := 1) ab rfl rfl rfl rfl) ?_;show AI _ _ _ _ _ _ #[true, true, false, true, false, false, false, true, true, false, false, false] _;refine de (i := 2) (j := 5) (by kernel_rfl) rfl rfl rfl rfl ?_ ?_
      ·refine bU rfl (cw (E := Enc.byte) (bytes := 1) 2 ab ab rfl (by kernel_rfl) rfl rfl rfl rfl g35 e37) ?_;rintro _ _ ⟨t49, rfl, rfl⟩;show AI _ _ _ _ _ _ #[true, true, true, true, false, false, false, true, true, false, false, false] _;refine de (i := 4) (j := 5) (by kernel_rfl) rfl rfl rfl rfl ?_ ?_
       ·refine bU rfl (bq (bytes := 1) 2 ab ac rfl (by kernel_rfl) rfl rfl rfl rfl g39 e41) ?_;rintro _ _ ⟨t50, rfl, rfl⟩;show AI _ _ _ _ _ _ #[true, true, true, true, true, false, false, true, true, false, false, false] _;refine de (i := 5) (j := 10) (by kernel_rfl) rfl rfl rfl rfl ?_ ?_
        ·refine aR rfl (am (i := 0) bg rfl rfl rfl rfl) ?_;show AI _ _ _ _ _ _ #[true, true, true, true, true, true, false, true, true, false, false, false] _;refine zk 6 rfl (bp rfl rfl g42) ?_;show AI _ _ _ _ _ _ #[true, true, true, true, true, true, true, true, true, false, false, false] _;refine zk 9 rfl (bp rfl rfl g43) ?_;show AI _ _ _ _ _ _ #[true, true, true, true, true, true, true, true, true, true, false, false] _;refine aU (i := 10) (by kernel_rfl) rfl rfl <| cg (au (i := 1) (c := slE _ _ _) (by kernel_rfl) rfl rfl rfl rfl (ai rfl)) ?_;show AI _ _ _ _ _ _ #[true, true, true, true, true, true, true, true, true, true, true, false] _;refine aU (i := 11) (by kernel_rfl) rfl rfl <| cg (au (i := 0) (c := .v _) (by kernel_rfl) rfl rfl rfl rfl (ai rfl)) ?_;show AI _ _ _ _ _ _ #[true, true, true, true, true, true, true, true, true, true, true, true] _;refine bx rfl ?_;obtain rfl := ap H;exact ⟨rfl, rfl, t50, aG [0, 0, 0] rfl⟩
        ·refine cg (au (i := 1) (c := slE _ _ _) (by kernel_rfl) rfl rfl rfl rfl (ai rfl)) ?_;show AI _ _ _ _ _ _ #[true, true, true, true, true, false, false, true, true, false, true, false] _;refine aU (i := 5) (by kernel_rfl) rfl rfl <| aR rfl (am (i := 0) bg rfl rfl rfl rfl) ?_;show AI _ _ _ _ _ _ #[true, true, true, true, true, true, false, true, true, false, true, false] _;refine zk 6 rfl (bp rfl rfl g42) ?_;show AI _ _ _ _ _ _ #[true, true, true, true, true, true, true, true, true, false, true, false] _;refine zk 9 rfl (bp rfl rfl g43) ?_;show AI _ _ _ _ _ _ #[true, true, true, true, true, true, true, true, true, true, true, false] _;refine aU (i := 11) (by kernel_rfl) rfl rfl <| cg (au (i := 0) (c := .v _) (by kernel_rfl) rfl rfl rfl rfl (ai rfl)) ?_;show AI _ _ _ _ _ _ #[true, true, true, true, true, true, true, true, true, true, true, true] _;refine bx rfl ?_;obtain rfl := ap H;exact ⟨rfl, rfl, t50, aG [0, 0, 0] rfl⟩
       ·refine aR rfl (am (i := 0) bg rfl rfl rfl rfl) ?_;show AI _ _ _ _ _ _ #[true, true, true, true, false, true, false, true, true, false, false, false] _;refine zk 6 rfl (bp rfl rfl g42) ?_;show AI _ _ _ _ _ _ #[true, true, true, true, false, true, true, true, true, false, false, false] _;refine zk 9 rfl (bp rfl rfl g43) ?_;show AI _ _ _ _ _ _ #[true, true, true, true, false, true, true, true, true, true, false, false] _;refine aU (i := 4) (by kernel_rfl) rfl rfl <| bU rfl (bq (bytes := 1) 2 ab ac rfl (by kernel_rfl) rfl rfl rfl rfl g39 e41) ?_;rintro _ _ ⟨t51, rfl, rfl⟩;show AI _ _ _ _ _ _ #[true, true, true, true, true, true, true, true, true, true, false, false] _;refine aU (i := 10) (by kernel_rfl) rfl rfl <| cg (au (i := 1) (c := slE _ _ _) (by kernel_rfl) rfl rfl rfl rfl (ai rfl)) ?_;show AI _ _ _ _ _ _ #[true, true, true, true, true, true, true, true, true, true, true, false] _;refine aU (i := 11) (by kernel_rfl) rfl rfl <| cg (au (i := 0) (c := .v _) (by kernel_rfl) rfl rfl rfl rfl (ai rfl)) ?_;show AI _ _ _ _ _ _ #[true, true, true, true, true, true, true, true, true, true, true, true] _;refine bx rfl ?_;obtain rfl := ap H;exact ⟨rfl, rfl, t51, aG [0, 0, 0] rfl⟩
      ·refine aR rfl (am (i := 0) bg rfl rfl rfl rfl) ?_;show AI _ _ _ _ _ _ #[true, true, false, true, false, true, false, true, true, false, false, false] _;refine zk 6 rfl (bp rfl rfl g42) ?_;show AI _ _ _ _ _ _ #[true, true, false, true, false, true, true, true, true, false, false, false] _;refine zk 9 rfl (bp rfl rfl g43) ?_;show AI _ _ _ _ _ _ #[true, true, false, true, false, true, true, true, true, true, false, false] _;refine aU (i := 2) (by kernel_rfl) rfl rfl <| bU rfl (cw (E := Enc.byte) (bytes := 1) 2 ab ab rfl (by kernel_rfl) rfl rfl rfl rfl g35 e37) ?_;rintro _ _ ⟨t52, rfl, rfl⟩;show AI _ _ _ _ _ _ #[true, true, true, true, false, true, true, true, true, true, false, false] _;refine aU (i := 4) (by kernel_rfl) rfl rfl <| bU rfl (bq (bytes := 1) 2 ab ac rfl (by kernel_rfl) rfl rfl rfl rfl g39 e41) ?_;rintro _ _ ⟨t53, rfl, rfl⟩;show AI _ _ _ _ _ _ #[true, true, true, true, true, true, true, true, true, true, false, false] _;refine aU (i := 10) (by kernel_rfl) rfl rfl <| cg (au (i := 1) (c := slE _ _ _) (by kernel_rfl) rfl rfl rfl rfl (ai rfl)) ?_;show AI _ _ _ _ _ _ #[true, true, true, true, true, true, true, true, true, true, true, false] _;refine aU (i := 11) (by kernel_rfl) rfl rfl <| cg (au (i := 0) (c := .v _) (by kernel_rfl) rfl rfl rfl rfl (ai rfl)) ?_;show AI _ _ _ _ _ _ #[true, true, true, true, true, true, true, true, true, true, true, true] _
       refine bx rfl ?_;obtain rfl := ap H;exact ⟨rfl, rfl, t53, aG [0, 0, 0] rfl⟩
     ·refine aR rfl (am (i := 0) bg rfl rfl rfl rfl) ?_;show AI _ _ _ _ _ _ #[false, true, false, true, false, true, false, true, true, false, false, false] _;refine zk 6 rfl (bp rfl rfl g42) ?_;show AI _ _ _ _ _ _ #[false, true, false, true, false, true, true, true, true, false, false, false] _;refine zk 9 rfl (bp rfl rfl g43) ?_;show AI _ _ _ _ _ _ #[false, true, false, true, false, true, true, true, true, true, false, false] _;refine aU (i := 0) (by kernel_rfl) rfl rfl <| aR rfl (am (i := 1) ab rfl rfl rfl rfl) ?_;show AI _ _ _ _ _ _ #[true, true, false, true, false, true, true, true, true, true, false, false] _;refine aU (i := 2) (by kernel_rfl) rfl rfl <| bU rfl (cw (E := Enc.byte) (bytes := 1) 2 ab ab rfl (by kernel_rfl) rfl rfl rfl rfl g35 e37) ?_;rintro _ _ ⟨t54, rfl, rfl⟩;show AI _ _ _ _ _ _ #[true, true, true, true, false, true, true, true, true, true, false, false] _;refine aU (i := 4) (by kernel_rfl) rfl rfl <| bU rfl (bq (bytes := 1) 2 ab ac rfl (by kernel_rfl) rfl rfl rfl rfl g39 e41) ?_;rintro _ _ ⟨t55, rfl, rfl⟩;show AI _ _ _ _ _ _ #[true, true, true, true, true, true, true, true, true, true, false, false] _;refine aU (i := 10) (by kernel_rfl) rfl rfl <| cg (au (i := 1) (c := slE _ _ _) (by kernel_rfl) rfl rfl rfl rfl (ai rfl)) ?_;show AI _ _ _ _ _ _ #[true, true, true, true, true, true, true, true, true, true, true, false] _
      refine aU (i := 11) (by kernel_rfl) rfl rfl <| cg (au (i := 0) (c := .v _) (by kernel_rfl) rfl rfl rfl rfl (ai rfl)) ?_;show AI _ _ _ _ _ _ #[true, true, true, true, true, true, true, true, true, true, true, true] _;refine bx rfl ?_;obtain rfl := ap H;exact ⟨rfl, rfl, t55, aG [0, 0, 0] rfl⟩
    ·refine aR rfl (am (i := 0) bg rfl rfl rfl rfl) ?_;show AI _ _ _ _ _ _ #[false, false, false, true, false, true, false, true, true, false, false, false] _;refine zk 6 rfl (bp rfl rfl g42) ?_;show AI _ _ _ _ _ _ #[false, false, false, true, false, true, true, true, true, false, false, false] _;refine zk 9 rfl (bp rfl rfl g43) ?_;show AI _ _ _ _ _ _ #[false, false, false, true, false, true, true, true, true, true, false, false] _;refine de (i := 0) (j := 1) (by kernel_rfl) rfl rfl rfl rfl ?_ ?_
     ·refine aR rfl (am (i := 1) ab rfl rfl rfl rfl) ?_;show AI _ _ _ _ _ _ #[true, false, false, true, false, true, true, true, true, true, false, false] _;refine aU (i := 1) (by kernel_rfl) rfl rfl <| aR rfl (bI (E := Enc.byte) (bytes := 1) (xs := [.const _]) (l := ([32] : List UInt8)) ab (by kernel_rfl) rfl rfl (by decide) rfl rfl) ?_;show AI _ _ _ _ _ _ #[true, true, false, true, false, true, true, true, true, true, false, false] _;refine aU (i := 2) (by kernel_rfl) rfl rfl <| bU rfl (cw (E := Enc.byte) (bytes := 1) 2 ab ab rfl (by kernel_rfl) rfl rfl rfl rfl g35 e37) ?_;rintro _ _ ⟨t56, rfl, rfl⟩;show AI _ _ _ _ _ _ #[true, true, true, true, false, true, true, true, true, true, false, false] _;refine aU (i := 4) (by kernel_rfl) rfl rfl <| bU rfl (bq (bytes := 1) 2 ab ac rfl (by kernel_rfl) rfl rfl rfl rfl g39 e41) ?_;rintro _ _ ⟨t57, rfl, rfl⟩;show AI _ _ _ _ _ _ #[true, true, true, true, true, true, true, true, true, true, false, false] _;refine aU (i := 10) (by kernel_rfl) rfl rfl <| cg (au (i := 1) (c := slE _ _ _) (by kernel_rfl) rfl rfl rfl rfl (ai rfl)) ?_;show AI _ _ _ _ _ _ #[true, true, true, true, true, true, true, true, true, true, true, false] _;refine aU (i := 11) (by kernel_rfl) rfl rfl <| cg (au (i := 0) (c := .v _) (by kernel_rfl) rfl rfl rfl rfl (ai rfl)) ?_
      show AI _ _ _ _ _ _ #[true, true, true, true, true, true, true, true, true, true, true, true] _;refine bx rfl ?_;obtain rfl := ap H;exact ⟨rfl, rfl, t57, aG [0, 0, 0] rfl⟩
     ·refine aR rfl (bI (E := Enc.byte) (bytes := 1) (xs := [.const _]) (l := ([32] : List UInt8)) ab (by kernel_rfl) rfl rfl (by decide) rfl rfl) ?_;show AI _ _ _ _ _ _ #[false, true, false, true, false, true, true, true, true, true, false, false] _;refine aU (i := 0) (by kernel_rfl) rfl rfl <| aR rfl (am (i := 1) ab rfl rfl rfl rfl) ?_;show AI _ _ _ _ _ _ #[true, true, false, true, false, true, true, true, true, true, false, false] _;refine aU (i := 2) (by kernel_rfl) rfl rfl <| bU rfl (cw (E := Enc.byte) (bytes := 1) 2 ab ab rfl (by kernel_rfl) rfl rfl rfl rfl g35 e37) ?_;rintro _ _ ⟨t58, rfl, rfl⟩;show AI _ _ _ _ _ _ #[true, true, true, true, false, true, true, true, true, true, false, false] _;refine aU (i := 4) (by kernel_rfl) rfl rfl <| bU rfl (bq (bytes := 1) 2 ab ac rfl (by kernel_rfl) rfl rfl rfl rfl g39 e41) ?_;rintro _ _ ⟨t59, rfl, rfl⟩;show AI _ _ _ _ _ _ #[true, true, true, true, true, true, true, true, true, true, false, false] _;refine aU (i := 10) (by kernel_rfl) rfl rfl <| cg (au (i := 1) (c := slE _ _ _) (by kernel_rfl) rfl rfl rfl rfl (ai rfl)) ?_;show AI _ _ _ _ _ _ #[true, true, true, true, true, true, true, true, true, true, true, false] _;refine aU (i := 11) (by kernel_rfl) rfl rfl <| cg (au (i := 0) (c := .v _) (by kernel_rfl) rfl rfl rfl rfl (ai rfl)) ?_
      show AI _ _ _ _ _ _ #[true, true, true, true, true, true, true, true, true, true, true, true] _;refine bx rfl ?_;obtain rfl := ap H;exact ⟨rfl, rfl, t59, aG [0, 0, 0] rfl⟩
   rintro o64 t63;exact Exists.intro (o64, x60.2, t63) ⟨H, aO [3, 3, 0] (.cons (.refl _) (.nil _)) rfl⟩
  rintro ⟨t65, y66, t67⟩ H;replace H : gS y66 = some (r3, r4) := H
  unfold gS at H
  refine af ?_;obtain ⟨g70, H⟩ := ax H;obtain ⟨x71, e72, H⟩ := bf H;refine aa ?_;show AR _ _ _ _ _ [0, 1, 2, 3] _;refine zR rfl (am (i := 0) ab rfl rfl rfl rfl) <| zX rfl (bq (bytes := 1) 1 ab ac rfl (by kernel_rfl) rfl rfl rfl rfl g70 e72) ?_;rintro _ _ ⟨t69, rfl, rfl⟩;refine zS rfl (aA (av := slE _ _ _) rfl) <| za rfl <| ag <| aI ?_;obtain ⟨rfl, rfl⟩ := cQ H;exact Exists.intro _ (And.intro (Unmark.at 2 rfl (.nil _)) (Exists.intro _ (Exists.intro _ ⟨bc rfl (.tok _ _ _) (.refl _), aG [] rfl, rfl, rfl⟩)))
end Go.Proofs.YtjegcifofddgbaaGreatDoor
namespace Go.Pv
def fZ (y25 : List (List UInt8)) : Option ((List (List UInt8)) × Int) :=
some (y25, 0)
def jr (F : Nat) (a1 : List ((List UInt8) × List UInt8)) (rec9 : ((List (List UInt8)) × Int) → Option ((List (List UInt8)) × Int)) (y6 : List (List UInt8)) (y8 : Int) : Option ((List (List UInt8)) × Int) :=
bif decide (y8 < (a1.length : Int)) then
  grd (cu y8 a1.length) <|
  lt (at_ a1 y8) fun x13 =>
  fe (nt F x13.1 x13.2) fun x16 x17 =>
  bif !decide (x17 = 0) then
    some ([], x17)
  else
    grd (bu (y6.length + ([x16] : List (List UInt8)).length)) <|
    lt (y6 ++ ([x16] : List (List UInt8))) fun x22 =>
    grd (okI (y8 + 1)) <|
    rec9 (x22, y8 + 1)
else
  fZ y6
def jq (F : Nat) (a1 : List ((List UInt8) × List UInt8)) (n : Nat) : ((List (List UInt8)) × Int) → Option ((List (List UInt8)) × Int) :=
  loop (fun rec x => jr F a1 rec x.1 x.2) n
def mg (F : Nat) (a1 : List ((List UInt8) × List UInt8)) : Option ((List (List UInt8)) × Int) :=
jq F a1 F ([], 0)
def jC (F : Nat) (a1 : List ((List UInt8) × List UInt8)) : Option ((List UInt8) × Int) :=
bif decide (50 < (a1.length : Int)) then
  some ([], 4)
else
  fe (mg F a1) fun x6 x7 =>
  bif !decide (x7 = 0) then
    some ([], x7)
  else
    grd (oz x6) <|
    lt (List.flatten x6) fun x11 =>
    grd (bu (x11.length + ([13, 10] : List UInt8).length)) <|
    lt (x11 ++ ([13, 10] : List UInt8)) fun x16 =>
    some (x16, 0)
end Go.Pv
namespace Go.Proofs.YtjegcifofddgbaaGreatDoor
open Go.RowKit Go.Av Go.Pv
theorem oZ : ∀ (args : Array Value) (w : World), (callFunc 78 args).run Tryz.prog w = .ok (.enter 78 args) w := fun _ _ => by kernel_rfl
theorem tW : ∀ (args : Array Value) (w : World), (callFunc 79 args).run Tryz.prog w = .ok (.enter 79 args) w := fun _ _ => by kernel_rfl
theorem oY : ∀ (args : Array Value) (w : World), (callFunc 80 args).run Tryz.prog w = .ok (.enter 80 args) w := fun _ _ => by kernel_rfl
abbrev _root_.Go.Av.dC := @Tryz.underlying36
abbrev _root_.Go.Av.bD := @Tryz.underlying44
set_option maxRecDepth 100000 in
set_option maxHeartbeats 1000000 in
theorem mz (F : Nat) (a1 : List ((List UInt8) × List UInt8)) (q2 : Option Nat) (r3 : List (List UInt8)) (r4 : Int) (H : mg F a1 = some (r3, r4)) : ACalls Tryz.prog 78 [slE (aV Enc.str Enc.str) a1 q2, .v (.func (.func 79) #[] #[])] [] (Ret (.tup [slE (Enc.sl Enc.byte) r3 none, i64 r4]) []) := by
 unfold mg at H
 refine aw Tryz.func78 rfl rfl ?_;show AW _ _ 32 _ _ _;refine af <| aa ?_;show AR _ _ _ _ _ [0, 1] _;refine za rfl <| za rfl <| ag <| af <| aa ?_;show AR _ _ _ _ _ [0] _;refine za rfl <| ag ?_
 refine dY 6 1 32 rfl fun t5 => ?_
 show AW _ _ _ _ _ ⟨(6, slE (Enc.sl Enc.byte) [] (some t5)) :: _, _, _⟩;refine bj (X := (List (List UInt8)) × Nat) (fun (y25, t26) => ⟨[(6, slE (Enc.sl Enc.byte) y25 (some t26))], [], [.tok t26 32]⟩) (fun (y25, t26) => fZ y25 = some (r3, r4)) ?_ ?_
 ·refine af <| aa ?_;show AR _ _ _ _ _ [0, 1, 2] _;refine zS rfl (aj (av := slE _ _ _) rfl) <| zS rfl (aQ dC rfl) <| zm rfl <| ag <| aN <| cf (X := Nat × (List (List UInt8)) × Nat × Int) (fun (n10, y6, t7, y8) => ⟨[(1, .v (.func (.func 79) #[] #[])), (6, slE (Enc.sl Enc.byte) y6 (some t7)), (11, slE (aV Enc.str Enc.str) a1 q2), (12, i64 (a1.length : Int)), (13, i64 y8)], [], [.tok t7 32]⟩) (fun (n10, y6, t7, y8) => jq F a1 n10 (y6, y8) = some (r3, r4)) (fun (n10, y6, t7, y8) => n10) (F, [], t5, 0) H (aO [0] (.cons (.refl _) (.cons (.refl _) (.cons (.refl _) (.cons (.refl _) (.cons (.refl _) (.nil _)))))) rfl) ?_;rintro ⟨n10, y6, t7, y8⟩ H;obtain ⟨n10, rfl, H⟩ := cE H;replace H : jr F a1 (jq F a1 n10) y6 y8 = some (r3, r4) := H
  unfold jr at H
  refine af <| aa ?_;show AR _ _ _ _ _ [0] _;refine zS rfl (bz rfl rfl) <| ag <| af <| ay rfl (fun c11 => ?_) (fun c11 => ?_)
  ·replace H := aZ c11 H;refine aC <| af <| aN <| af ?_;obtain ⟨g12, H⟩ := ax H;obtain ⟨x13, e14, H⟩ := bf H;refine aa ?_;show AR _ _ _ _ _ [0, 1, 2, 3] _;refine zS rfl (cm (E := (aV Enc.str Enc.str)) dC (by kernel_rfl) rfl rfl g12 e14) <| zS rfl (ed Tryz.underlying40 rfl (n := 2) (by kernel_rfl) rfl (ai rfl)) <| zX rfl (dp (zs := [.string ⟨#[]⟩, .string ⟨#[]⟩]) (by kernel_rfl)) ?_;rintro _ _ ⟨o15, rfl, rfl⟩;refine s0 rfl rfl (cN (i := 0) (vs := [S x13.1, S x13.2]) (by kernel_rfl) rfl rfl (by simp [cB, slE]) rfl (ai rfl)) <| AR.freezeCp 8 0 rfl rfl ?_;show AR _ _ _ _ _ _ ⟨_, _, [.tok t7 32]⟩;refine ag <| af ?_;obtain ⟨x16, x17, e18, H⟩ := cF H;refine aa ?_;show AR _ _ _ _ _ [0, 1, 2, 3, 4, 5, 6, 7] _;refine zm rfl <| zS rfl (ed Tryz.underlying40 rfl (n := 2) (by kernel_rfl) rfl (ai rfl)) <| ao rfl rfl (AO.callFp rfl (.inr ⟨rfl, rfl, rfl⟩) tW rfl (rK F x13.1 x13.2 x16 x17 e18) ?_);refine zS rfl (aj (av := .tup _) rfl) <| zS rfl (aB (av := slE _ _ _) rfl rfl) <| zS rfl (aB (av := .v _) rfl rfl) <| zS rfl (aA (av := slE _ _ _) rfl) <| za rfl <| ag <| af <| af <| aa ?_;show AR _ _ _ _ _ [0, 1] _;refine zm rfl <| zS rfl (cG rfl rfl) <| ag <| ay rfl (fun c19 => ?_) (fun c19 => ?_)
   ·replace H := aZ c19 H;refine af <| aa ?_;show AR _ _ _ _ _ [0, 1, 2] _;refine zm rfl <| za rfl <| za rfl <| ag <| aI ?_;obtain ⟨rfl, rfl⟩ := cQ H;exact And.intro rfl (Exists.intro _ (Exists.intro _ ⟨bc rfl (.nil _) (.refl _), aG [] rfl, rfl, rfl⟩))
   ·replace H := ba c19 H;refine aC ?_;obtain ⟨g21, H⟩ := ax H;obtain ⟨x22, e23, H⟩ := bf H;refine aa ?_;show AR _ _ _ _ _ [0, 1, 2, 3, 4] _;refine zS rfl (aj (av := slE _ _ _) rfl) <| zS rfl (aj (av := slE _ _ _) rfl) <| zR rfl (bI (E := (Enc.sl Enc.byte)) (bytes := 24) (xs := [.tmp 27]) (l := ([x16] : List (List UInt8))) bD (by kernel_rfl) rfl rfl (by decide) rfl rfl) <| zX rfl (cw (E := (Enc.sl Enc.byte)) (bytes := 24) 0 bD bD rfl (by kernel_rfl) rfl rfl rfl rfl g21 e23) ?_;rintro _ _ ⟨t20, rfl, rfl⟩;refine zS rfl (aA (av := slE _ _ _) rfl) <| ag ?_;obtain ⟨g24, H⟩ := ax H;refine aa ?_;show AR _ _ _ _ _ [0, 1] _;refine zS rfl (bp rfl rfl g24) <| zm rfl <| ag ?_;exact Exists.intro (n10, x22, t20, y8 + 1) ⟨H, Nat.lt_succ_self _, aO [0] (.cons (.refl _) (.cons (.refl _) (.cons (.refl _) (.cons (.refl _) (.cons (.refl _) (.nil _)))))) rfl⟩
  ·replace H := ba c11 H;refine bS ?_;exact Exists.intro (y6, t7) ⟨H, aO [0] (.cons (.refl _) (.nil _)) rfl⟩
 rintro ⟨y25, t26⟩ H;replace H : fZ y25 = some (r3, r4) := H
 unfold fZ at H
 refine af <| aa ?_;show AR _ _ _ _ _ [0, 1, 2] _;refine zS rfl (aj (av := slE _ _ _) rfl) <| zS rfl (aA (av := slE _ _ _) rfl) <| za rfl <| ag <| aI ?_;obtain ⟨rfl, rfl⟩ := cQ H;exact And.intro rfl (Exists.intro _ (Exists.intro _ ⟨bc rfl (.tok _ _ _) (.refl _), aG [] rfl, rfl, rfl⟩))
set_option maxRecDepth 100000 in
set_option maxHeartbeats 1000000 in
theorem tv (F : Nat) (a1 : List ((List UInt8) × List UInt8)) (q2 : Option Nat) (r3 : List UInt8) (r4 : Int) (H : jC F a1 = some (r3, r4)) : ACalls Tryz.prog 30 [slE (aV Enc.str Enc.str) a1 q2] [] (Ret (.tup [slE Enc.byte r3 none, i64 r4]) []) := by
 unfold jC at H
 refine aw Tryz.func30 rfl rfl ?_;show AW _ _ 20 _ _ _;refine af <| aa ?_;show AR _ _ _ _ _ [0, 1] _;refine za rfl <| za rfl <| ag <| af <| af <| aa ?_;show AR _ _ _ _ _ [0, 1, 2] _;refine zS rfl (aj (av := slE _ _ _) rfl) <| zS rfl (aQ dC rfl) <| zS rfl (cU rfl rfl) <| ag <| ay rfl (fun c5 => ?_) (fun c5 => ?_)
 ·replace H := aZ c5 H;refine af <| aa ?_;show AR _ _ _ _ _ [0, 1] _;refine za rfl <| za rfl <| ag <| aI ?_;obtain ⟨rfl, rfl⟩ := cQ H;exact And.intro rfl (Exists.intro _ (Exists.intro _ ⟨bc rfl (.nil _) (.refl _), aG [] rfl, rfl, rfl⟩))
 ·replace H := ba c5 H;refine aC <| af ?_;obtain ⟨x6, x7, e8, H⟩ := cF H;refine aa ?_;show AR _ _ _ _ _ [0, 1, 2, 3, 4, 5, 6] _;refine zS rfl (aj (av := slE _ _ _) rfl) <| ao rfl rfl (aD rfl oZ rfl (mz F a1 q2 x6 x7 e8) ?_);refine zS rfl (aj (av := .tup _) rfl) <| zS rfl (aB (av := slE _ _ _) rfl rfl) <| zS rfl (aB (av := .v _) rfl rfl) <| zS rfl (aA (av := slE _ _ _) rfl) <| za rfl <| ag <| af <| af <| aa ?_;show AR _ _ _ _ _ [0, 1] _;refine zm rfl <| zS rfl (cG rfl rfl) <| ag <| ay rfl (fun c9 => ?_) (fun c9 => ?_)
  ·replace H := aZ c9 H;refine af <| aa ?_;show AR _ _ _ _ _ [0, 1, 2] _;refine zm rfl <| za rfl <| za rfl <| ag <| aI ?_;obtain ⟨rfl, rfl⟩ := cQ H;exact And.intro rfl (Exists.intro _ (Exists.intro _ ⟨bc rfl (.nil _) (.refl _), aG [] rfl, rfl, rfl⟩))
  ·replace H := ba c9 H;refine aC <| af ?_;obtain ⟨g10, H⟩ := ax H;obtain ⟨x11, e12, H⟩ := bf H;obtain ⟨g15, H⟩ := ax H;obtain ⟨x16, e17, H⟩ := bf H;refine aa ?_;show AR _ _ _ _ _ [0, 1, 2, 3, 4] _;refine zS rfl (aj (av := slE _ _ _) rfl) <| ao rfl rfl (bC [] rfl oY rfl (kA x6 none g10) rfl (fun c A' h => by obtain ⟨_, h, _⟩ := h; cases h) ?_)
   rintro av A' ⟨t13, h, rfl⟩; cases h; rw [e12]
   refine zX rfl (lH (bytes := 1) 0 ab ac rfl (by kernel_rfl) rfl rfl rfl rfl g15 e17) ?_;rintro _ _ ⟨t14, rfl, rfl⟩;refine zS rfl (aA (av := slE _ _ _) rfl) <| za rfl <| ag <| aI ?_;obtain ⟨rfl, rfl⟩ := cQ H;exact And.intro rfl (Exists.intro _ (Exists.intro _ ⟨bc rfl (.tok _ _ _) (.refl _), aG [] rfl, rfl, rfl⟩))
set_option maxRecDepth 100000 in
set_option maxHeartbeats 1000000 in
theorem rL (F : Nat) (a1 : List ((List UInt8) × List UInt8)) (q2 : Option Nat) (r3 : List UInt8) (r4 : Int) (H : jC F a1 = some (r3, r4)) : ACalls Tryz.prog 30 [slE (aV Enc.str Enc.str) a1 q2] [] (fun e A' => ∃ tr0 cr0, e = .ret (.tup [slE Enc.byte r3 (some tr0), i64 r4]) ∧ A' = [cr0] ∧ (cr0 = .tokw tr0 ∨ cr0 = .tok tr0 5)) := by
 unfold jC at H
 refine aw Tryz.func30 rfl rfl ?_;show AW _ _ 20 _ _ _;refine af <| aa ?_;show AR _ _ _ _ _ [0, 1] _;refine za rfl <| za rfl <| ag <| af <| af <| aa ?_;show AR _ _ _ _ _ [0, 1, 2] _;refine zS rfl (aj (av := slE _ _ _) rfl) <| zS rfl (aQ dC rfl) <| zS rfl (cU rfl rfl) <| ag <| ay rfl (fun c5 => ?_) (fun c5 => ?_)
 ·replace H := aZ c5 H;refine af <| aa ?_;show AR _ _ _ _ _ [0, 1] _;refine za rfl <| za rfl <| ag ?_
  refine dY 2 1 5 rfl fun t6 => ?_
  refine aI ?_;obtain ⟨rfl, rfl⟩ := cQ H;exact And.intro rfl (Exists.intro _ (Exists.intro _ ⟨bc rfl (.refl _) (.refl _), aG [0] rfl, t6, _, rfl, rfl, .inr rfl⟩))
 ·replace H := ba c5 H;refine aC <| af ?_;obtain ⟨x7, x8, e9, H⟩ := cF H;refine aa ?_;show AR _ _ _ _ _ [0, 1, 2, 3, 4, 5, 6] _;refine zS rfl (aj (av := slE _ _ _) rfl) <| ao rfl rfl (aD rfl oZ rfl (mz F a1 q2 x7 x8 e9) ?_);refine zS rfl (aj (av := .tup _) rfl) <| zS rfl (aB (av := slE _ _ _) rfl rfl) <| zS rfl (aB (av := .v _) rfl rfl) <| zS rfl (aA (av := slE _ _ _) rfl) <| za rfl <| ag <| af <| af <| aa ?_;show AR _ _ _ _ _ [0, 1] _;refine zm rfl <| zS rfl (cG rfl rfl) <| ag <| ay rfl (fun c10 => ?_) (fun c10 => ?_)
  ·replace H := aZ c10 H;refine af <| aa ?_;show AR _ _ _ _ _ [0, 1, 2] _;refine zm rfl <| za rfl <| za rfl <| ag ?_
   refine dY 2 1 5 rfl fun t11 => ?_
   refine aI ?_;obtain ⟨rfl, rfl⟩ := cQ H;exact And.intro rfl (Exists.intro _ (Exists.intro _ ⟨bc rfl (.refl _) (.refl _), aG [0] rfl, t11, _, rfl, rfl, .inr rfl⟩))
  ·replace H := ba c10 H;refine aC <| af ?_;obtain ⟨g12, H⟩ := ax H;obtain ⟨x13, e14, H⟩ := bf H;obtain ⟨g17, H⟩ := ax H;obtain ⟨x18, e19, H⟩ := bf H;refine aa ?_;show AR _ _ _ _ _ [0, 1, 2, 3, 4] _;refine zS rfl (aj (av := slE _ _ _) rfl) <| ao rfl rfl (bC [] rfl oY rfl (kA x7 none g12) rfl (fun c A' h => by obtain ⟨_, h, _⟩ := h; cases h) ?_)
   rintro av A' ⟨t15, h, rfl⟩; cases h; rw [e14]
   refine zX rfl (lH (bytes := 1) 0 ab ac rfl (by kernel_rfl) rfl rfl rfl rfl g17 e19) ?_;rintro _ _ ⟨t16, rfl, rfl⟩;refine zS rfl (aA (av := slE _ _ _) rfl) <| za rfl <| ag <| aI ?_;obtain ⟨rfl, rfl⟩ := cQ H;exact And.intro rfl (Exists.intro _ (Exists.intro _ ⟨bc rfl (.refl _) (.refl _), aG [0] rfl, t16, _, rfl, rfl, .inl rfl⟩))
end Go.Proofs.YtjegcifofddgbaaGreatDoor
namespace Go.Pv
def sU : List UInt8 := [97, 98, 99, 100, 101, 102, 103, 104, 105, 106, 107, 108, 109, 110, 111, 112, 113, 114, 115, 116, 117, 118, 119, 120, 121, 122, 48, 49, 50, 51, 52, 53, 54, 55, 56, 57, 47, 45, 61, 59, 32]
def mK : List UInt8 := [67, 111, 110, 116, 101, 110, 116, 45, 84, 114, 97, 110, 115, 102, 101, 114, 45, 69, 110, 99, 111, 100, 105, 110, 103]
def nl (F : Nat) (a1 : List UInt8) (a4 : List UInt8) : Option Bool :=
grd (bu a4.length) <|
grd (okS a1.length) <|
grd (decide (2 ≤ a4.length)) <|
grd (okS a4.length) <|
lt (Go.Lib.contains a1 a4) fun x11 =>
some x11
def fj : Option Int :=
some (-1)
def ii (F : Nat) (a1 : List (List UInt8)) (a4 : List UInt8) (rec7 : Int → Option Int) (y6 : Int) : Option Int :=
bif decide (y6 < (a1.length : Int)) then
  grd (cu y6 a1.length) <|
  lt (at_ a1 y6) fun x11 =>
  bnd (nl F x11 a4) fun x13 =>
  bif x13 then
    some y6
  else
    grd (okI (y6 + 1)) <|
    rec7 (y6 + 1)
else
  fj
def ig (F : Nat) (a1 : List (List UInt8)) (a4 : List UInt8) (n : Nat) : Int → Option Int :=
  loop (fun rec x => ii F a1 a4 rec x) n
def kK (F : Nat) (a1 : List (List UInt8)) (a4 : List UInt8) : Option Int :=
ig F a1 a4 F 0
def ik (F : Nat) (a1 : List (List UInt8)) (a4 : List UInt8) : Option Bool :=
bnd (kK F a1 a4) fun x6 =>
some (decide (0 ≤ x6))
def fH (F : Nat) (a1 : List (List UInt8)) (rec5 : Int → Option ((List UInt8))) (y4 : Int) : Option ((List UInt8)) :=
grd (okI y4) <|
lt (Go.Lib.itoa y4) fun x8 =>
grd (bu (([61, 95] : List UInt8).length + x8.length)) <|
lt (([61, 95] : List UInt8) ++ x8) fun x11 =>
bnd (ik F a1 x11) fun x14 =>
bif !x14 then
  some x11
else
  grd (okI (y4 + 1)) <|
  rec5 (y4 + 1)
def fG (F : Nat) (a1 : List (List UInt8)) (n : Nat) : Int → Option ((List UInt8)) :=
  loop (fun rec x => fH F a1 rec x) n
def jk (F : Nat) (a1 : List (List UInt8)) : Option ((List UInt8)) :=
fG F a1 F 0
def gK (a1 : List UInt8) : Option Bool :=
gD ((!decide (a1 = ([] : List UInt8))) && (decide ((a1.length : Int) ≤ 60))) (okS a1.length) <|
lt (Go.Lib.trimB a1 32) fun x18 =>
gD (((!decide (a1 = ([] : List UInt8))) && (decide ((a1.length : Int) ≤ 60))) && (decide (x18 = a1))) (okS a1.length) <|
lt (Go.Lib.contains a1 ([32, 32] : List UInt8)) fun x22 =>
some ((((!decide (a1 = ([] : List UInt8))) && (decide ((a1.length : Int) ≤ 60))) && (decide (x18 = a1))) && (!x22))
def jI (a1 : List UInt8) (rec4 : Int → Option Bool) (y3 : Int) : Option Bool :=
bif decide (y3 < (a1.length : Int)) then
  grd (cu y3 a1.length) <|
  lt (at_ a1 y3) fun x8 =>
  lt (Go.Lib.indexByte sU x8) fun x10 =>
  bif decide (x10 < 0) then
    some false
  else
    grd (okI (y3 + 1)) <|
    rec4 (y3 + 1)
else
  gK a1
def jH (a1 : List UInt8) (n : Nat) : Int → Option Bool :=
  loop (fun rec x => jI a1 rec x) n
def nk (F : Nat) (a1 : List UInt8) : Option Bool :=
jH a1 F 0
def nj (F : Nat) (a1 : List UInt8) : Option Bool :=
bnd (nk F a1) fun x3 =>
some (!x3)
def fi : Option Int :=
some (-1)
def ie (F : Nat) (a1 : List (List UInt8)) (rec5 : Int → Option Int) (y4 : Int) : Option Int :=
bif decide (y4 < (a1.length : Int)) then
  grd (cu y4 a1.length) <|
  lt (at_ a1 y4) fun x9 =>
  bnd (nj F x9) fun x11 =>
  bif x11 then
    some y4
  else
    grd (okI (y4 + 1)) <|
    rec5 (y4 + 1)
else
  fi
def ic (F : Nat) (a1 : List (List UInt8)) (n : Nat) : Int → Option Int :=
  loop (fun rec x => ie F a1 rec x) n
def kJ (F : Nat) (a1 : List (List UInt8)) : Option Int :=
ic F a1 F 0
def ij (F : Nat) (a1 : List (List UInt8)) : Option Bool :=
bnd (kJ F a1) fun x4 =>
some (decide (0 ≤ x4))
def iU (a6 : List UInt8) (x10 : List UInt8) (y24 : List UInt8) : Option ((List UInt8)) :=
grd (bu (y24.length + x10.length)) <|
lt (y24 ++ x10) fun x29 =>
grd (bu (x29.length + a6.length)) <|
lt (x29 ++ a6) fun x33 =>
grd (bu (x33.length + ([13, 10] : List UInt8).length)) <|
lt (x33 ++ ([13, 10] : List UInt8)) fun x37 =>
some x37
def pm (F : Nat) (a2 : List UInt8) (a4 : List UInt8) (a5 : List UInt8) (a6 : List UInt8) : Option ((List UInt8)) :=
fe (jC F ([(([67, 111, 110, 116, 101, 110, 116, 45, 84, 121, 112, 101] : List UInt8), a5), (mK, ([113, 117, 111, 116, 101, 100, 45, 112, 114, 105, 110, 116, 97, 98, 108, 101] : List UInt8))] : List ((List UInt8) × List UInt8))) fun x10 x11 =>
grd (bu (([45, 45] : List UInt8).length + a4.length)) <|
lt (([45, 45] : List UInt8) ++ a4) fun x14 =>
grd (bu (x14.length + ([13, 10] : List UInt8).length)) <|
lt (x14 ++ ([13, 10] : List UInt8)) fun x17 =>
grd (bu (a2.length + x17.length)) <|
lt (a2 ++ x17) fun x21 =>
iU a6 x10 x21
def gM (x34 : List UInt8) (y54 : List UInt8) : Option ((List UInt8) × (List UInt8) × Int) :=
grd (bu (([45, 45] : List UInt8).length + x34.length)) <|
lt (([45, 45] : List UInt8) ++ x34) fun x58 =>
grd (bu (x58.length + ([45, 45] : List UInt8).length)) <|
lt (x58 ++ ([45, 45] : List UInt8)) fun x61 =>
grd (bu (x61.length + ([13, 10] : List UInt8).length)) <|
lt (x61 ++ ([13, 10] : List UInt8)) fun x64 =>
grd (bu (y54.length + x64.length)) <|
lt (y54 ++ x64) fun x68 =>
some (x68, x34, 0)
def jM (F : Nat) (a1 : List (List UInt8)) (y31 : List (List UInt8)) (x34 : List UInt8) (rec41 : (Int × (List UInt8)) → Option ((List UInt8) × (List UInt8) × Int)) (y38 : Int) (y39 : List UInt8) : Option ((List UInt8) × (List UInt8) × Int) :=
bif decide (y38 < (y31.length : Int)) then
  grd (cu y38 y31.length) <|
  lt (at_ y31 y38) fun x45 =>
  grd (cu y38 a1.length) <|
  lt (at_ a1 y38) fun x48 =>
  bnd (pm F y39 x34 x48 x45) fun x50 =>
  grd (okI (y38 + 1)) <|
  rec41 (y38 + 1, x50)
else
  gM x34 y39
def jK (F : Nat) (a1 : List (List UInt8)) (y31 : List (List UInt8)) (x34 : List UInt8) (n : Nat) : (Int × (List UInt8)) → Option ((List UInt8) × (List UInt8) × Int) :=
  loop (fun rec x => jM F a1 y31 x34 rec x.1 x.2) n
def gL (F : Nat) (a1 : List (List UInt8)) (y31 : List (List UInt8)) : Option ((List UInt8) × (List UInt8) × Int) :=
bnd (jk F y31) fun x34 =>
jK F a1 y31 x34 F (0, [])
def jL (F : Nat) (a1 : List (List UInt8)) (a3 : List (List UInt8)) (rec18 : ((List (List UInt8)) × Int) → Option ((List UInt8) × (List UInt8) × Int)) (y15 : List (List UInt8)) (y17 : Int) : Option ((List UInt8) × (List UInt8) × Int) :=
bif decide (y17 < (a3.length : Int)) then
  grd (cu y17 a3.length) <|
  lt (at_ a3 y17) fun x22 =>
  bnd (nh F x22) fun x24 =>
  grd (bu (y15.length + ([x24] : List (List UInt8)).length)) <|
  lt (y15 ++ ([x24] : List (List UInt8))) fun x28 =>
  grd (okI (y17 + 1)) <|
  rec18 (x28, y17 + 1)
else
  gL F a1 y15
def jJ (F : Nat) (a1 : List (List UInt8)) (a3 : List (List UInt8)) (n : Nat) : ((List (List UInt8)) × Int) → Option ((List UInt8) × (List UInt8) × Int) :=
  loop (fun rec x => jL F a1 a3 rec x.1 x.2) n
def np (F : Nat) (a1 : List (List UInt8)) (a3 : List (List UInt8)) : Option ((List UInt8) × (List UInt8) × Int) :=
jD (!(((!decide ((a1.length : Int) = (a3.length : Int))) || (decide ((a3.length : Int) = 0))) || (decide (8 < (a3.length : Int))))) (ij F a1) fun x11 =>
bif (((!decide ((a1.length : Int) = (a3.length : Int))) || (decide ((a3.length : Int) = 0))) || (decide (8 < (a3.length : Int)))) || x11 then
  some ([], ([] : List UInt8), 1)
else
  jJ F a1 a3 F ([], 0)
end Go.Pv
namespace Go.Proofs.YtjegcifofddgbaaGreatDoor
open Go.RowKit Go.Av Go.Pv
theorem uk : ∀ (args : Array Value) (w : World), (callFunc 30 args).run Tryz.prog w = .ok (.enter 30 args) w := fun _ _ => by kernel_rfl
theorem uj : ∀ (args : Array Value) (w : World), (callFunc 58 args).run Tryz.prog w = .ok (.enter 58 args) w := fun _ _ => by kernel_rfl
theorem ui : ∀ (args : Array Value) (w : World), (callFunc 64 args).run Tryz.prog w = .ok (.enter 64 args) w := fun _ _ => by kernel_rfl
theorem uh : ∀ (args : Array Value) (w : World), (callFunc 65 args).run Tryz.prog w = .ok (.enter 65 args) w := fun _ _ => by kernel_rfl
theorem uc : ∀ (args : Array Value) (w : World), (callFunc 72 args).run Tryz.prog w = .ok (.enter 72 args) w := fun _ _ => by kernel_rfl
theorem ub : ∀ (args : Array Value) (w : World), (callFunc 73 args).run Tryz.prog w = .ok (.enter 73 args) w := fun _ _ => by kernel_rfl
theorem ua : ∀ (args : Array Value) (w : World), (callFunc 74 args).run Tryz.prog w = .ok (.enter 74 args) w := fun _ _ => by kernel_rfl
theorem tZ : ∀ (args : Array Value) (w : World), (callFunc 75 args).run Tryz.prog w = .ok (.enter 75 args) w := fun _ _ => by kernel_rfl
theorem tY : ∀ (args : Array Value) (w : World), (callFunc 76 args).run Tryz.prog w = .ok (.enter 76 args) w := fun _ _ => by kernel_rfl
theorem tX : ∀ (args : Array Value) (w : World), (callFunc 77 args).run Tryz.prog w = .ok (.enter 77 args) w := fun _ _ => by kernel_rfl
theorem sK : ∀ (args : Array Value) (w : World), (callFunc 122 args).run Tryz.prog w = .ok (.enter 122 args) w := fun _ _ => by kernel_rfl
theorem sI : ∀ (args : Array Value) (w : World), (callFunc 123 args).run Tryz.prog w = .ok (.enter 123 args) w := fun _ _ => by kernel_rfl
theorem sH : ∀ (args : Array Value) (w : World), (callFunc 126 args).run Tryz.prog w = .ok (.enter 126 args) w := fun _ _ => by kernel_rfl
theorem sG : ∀ (args : Array Value) (w : World), (callFunc 127 args).run Tryz.prog w = .ok (.enter 127 args) w := fun _ _ => by kernel_rfl
theorem sF : ∀ (args : Array Value) (w : World), (callFunc 128 args).run Tryz.prog w = .ok (.enter 128 args) w := fun _ _ => by kernel_rfl
theorem sC : ∀ (args : Array Value) (w : World), (callFunc 178 args).run Tryz.prog w = .ok (.enter 178 args) w := fun _ _ => by kernel_rfl
set_option maxRecDepth 100000 in
set_option maxHeartbeats 1000000 in
theorem rG (F : Nat) (a1 : List UInt8) (q2 : Option Nat) (o3 : Nat) (a4 : List UInt8) (r5 : Bool) (H : nl F a1 a4 = some r5) : ACalls Tryz.prog 127 [slE Enc.byte a1 q2, .pt o3 0] [.obj o3 [S a4]] (fun e A' => e = .ret (B r5) ∧ A' = [.obj o3 [S a4]]) := by
 unfold nl at H
 refine aw Tryz.func127 rfl rfl ?_;show AW _ _ 8 _ _ _;refine af <| aa ?_;show AR _ _ _ _ _ [0] _;refine za rfl <| ag <| af ?_;obtain ⟨g6, H⟩ := ax H;obtain ⟨g8, H⟩ := ax H;obtain ⟨g9, H⟩ := ax H;obtain ⟨g10, H⟩ := ax H;obtain ⟨x11, e12, H⟩ := bf H;refine aa ?_;show AR _ _ _ _ _ [0, 1, 2, 3, 4] _;refine zS rfl (aj (av := slE _ _ _) rfl) <| zR rfl (am (i := 0) ac rfl rfl rfl rfl) <| zX rfl (ck (bytes := 1) ac ab aW rfl g6) ?_;rintro _ _ ⟨t7, rfl, rfl⟩;refine ao rfl rfl (aD rfl sF rfl (show ACalls _ _ _ [] (Ret (B x11) []) from by subst e12; exact mx a1 a4 q2 (some t7) (fC g8) (of_decide_eq_true g9) (fC g10)) ?_);refine za rfl <| ag <| aI ?_;obtain rfl := ap H;exact And.intro rfl (Exists.intro _ (Exists.intro _ ⟨aH rfl (.refl _), aG [1] rfl, rfl, rfl⟩))
set_option maxRecDepth 100000 in
set_option maxHeartbeats 1000000 in
theorem pF (F : Nat) (a1 : List (List UInt8)) (q2 : Option Nat) (o3 : Nat) (a4 : List UInt8) (r5 : Int) (H : kK F a1 a4 = some r5) : ACalls Tryz.prog 178 [slE (Enc.sl Enc.byte) a1 q2, .fn (.func 127) [] [.pt o3 0]] [.obj o3 [S a4]] (fun e A' => e = .ret (i64 r5) ∧ A' = [.obj o3 [S a4]]) := by
 unfold kK at H
 refine aw Tryz.func178 rfl rfl ?_;show AW _ _ 19 _ _ _;refine af <| aa ?_;show AR _ _ _ _ _ [0] _;refine za rfl <| ag <| bj (X := Unit) (fun _ => ⟨[], [], [.obj o3 [S a4]]⟩) (fun _ => fj = some r5) ?_ ?_
 ·refine af <| aa ?_;show AR _ _ _ _ _ [0, 1, 2] _;refine zS rfl (aj (av := slE _ _ _) rfl) <| zS rfl (aQ bD rfl) <| zm rfl <| ag <| aN <| cf (X := Nat × Int) (fun (n8, y6) => ⟨[(0, slE (Enc.sl Enc.byte) a1 q2), (1, .fn (.func 127) [] [.pt o3 0]), (7, i64 (a1.length : Int)), (8, i64 y6)], [], [.obj o3 [S a4]]⟩) (fun (n8, y6) => ig F a1 a4 n8 y6 = some r5) (fun (n8, y6) => n8) (F, 0) H (aO [0] (.cons (.refl _) (.cons (.refl _) (.cons (.refl _) (.cons (.refl _) (.nil _))))) rfl) ?_;rintro ⟨n8, y6⟩ H;obtain ⟨n8, rfl, H⟩ := cE H;replace H : ii F a1 a4 (ig F a1 a4 n8) y6 = some r5 := H
  unfold ii at H
  refine af <| aa ?_;show AR _ _ _ _ _ [0] _;refine zS rfl (bz rfl rfl) <| ag <| af <| ay rfl (fun c9 => ?_) (fun c9 => ?_)
  ·replace H := aZ c9 H;refine aC <| af <| aN <| af <| aa ?_;show AR _ _ _ _ _ [0, 1] _;refine zm rfl <| za rfl <| ag <| af ?_;obtain ⟨g10, H⟩ := ax H;obtain ⟨x11, e12, H⟩ := bf H;obtain ⟨x13, e14, H⟩ := bL H;refine aa ?_;show AR _ _ _ _ _ [0, 1, 2, 3, 4, 5] _;refine zS rfl (aj (av := .fn _ _ _) rfl) <| zS rfl (aj (av := slE _ _ _) rfl) <| zm rfl <| zS rfl (cm (E := (Enc.sl Enc.byte)) bD (by kernel_rfl) rfl rfl g10 e12) <| zS rfl (aJ ab rfl rfl) <| ao rfl rfl (AO.callFAt [0] rfl (.inl rfl) sG rfl (rG F x11 none o3 a4 x13 e14) rfl (fun c A' h => by cases h.1) ?_)
   rintro av A' ⟨h, rfl⟩; cases h
   refine ag <| ay rfl (fun c15 => ?_) (fun c15 => ?_)
   ·replace H := aZ c15 H;refine af <| aa ?_;show AR _ _ _ _ _ [0, 1] _;refine zm rfl <| za rfl <| ag <| aI ?_;obtain rfl := ap H;exact And.intro rfl (Exists.intro _ (Exists.intro _ ⟨aH rfl (.refl _), aG [0] rfl, rfl, rfl⟩))
   ·replace H := ba c15 H;refine aC ?_;obtain ⟨g16, H⟩ := ax H;refine aa ?_;show AR _ _ _ _ _ [0, 1] _;refine zS rfl (bp rfl rfl g16) <| zm rfl <| ag ?_;exact Exists.intro (n8, y6 + 1) ⟨H, Nat.lt_succ_self _, aO [0] (.cons (.refl _) (.cons (.refl _) (.cons (.refl _) (.cons (.refl _) (.nil _))))) rfl⟩
  ·replace H := ba c9 H;refine bS ?_;exact Exists.intro () ⟨H, aO [0] (.nil _) rfl⟩
 rintro _ H;replace H : fj = some r5 := H
 unfold fj at H
 refine af <| aa ?_;show AR _ _ _ _ _ [0] _;refine za rfl <| ag <| aI ?_;obtain rfl := ap H;exact And.intro rfl (Exists.intro _ (Exists.intro _ ⟨aH rfl (.refl _), aG [0] rfl, rfl, rfl⟩))
set_option maxRecDepth 100000 in
set_option maxHeartbeats 1000000 in
theorem na (F : Nat) (a1 : List (List UInt8)) (q2 : Option Nat) (o3 : Nat) (a4 : List UInt8) (r5 : Bool) (H : ik F a1 a4 = some r5) : ACalls Tryz.prog 126 [slE (Enc.sl Enc.byte) a1 q2, .fn (.func 127) [] [.pt o3 0]] [.obj o3 [S a4]] (fun e A' => e = .ret (B r5) ∧ A' = [.obj o3 [S a4]]) := by
 unfold ik at H
 refine aw Tryz.func126 rfl rfl ?_;show AW _ _ 9 _ _ _;refine af <| aa ?_;show AR _ _ _ _ _ [0] _;refine za rfl <| ag <| af ?_;obtain ⟨x6, e7, H⟩ := bL H;refine aa ?_;show AR _ _ _ _ _ [0, 1, 2, 3, 4] _;refine zS rfl (aj (av := slE _ _ _) rfl) <| zS rfl (aj (av := .fn _ _ _) rfl) <| ao rfl rfl (bC [0] rfl sC rfl (pF F a1 q2 o3 a4 x6 e7) rfl (fun c A' h => by cases h.1) ?_)
 rintro av A' ⟨h, rfl⟩; cases h
 refine zS rfl (cY rfl rfl) <| za rfl <| ag <| aI ?_;obtain rfl := ap H;exact And.intro rfl (Exists.intro _ (Exists.intro _ ⟨aH rfl (.refl _), aG [0] rfl, rfl, rfl⟩))
set_option maxRecDepth 100000 in
set_option maxHeartbeats 1000000 in
theorem om (F : Nat) (a1 : List (List UInt8)) (q2 : Option Nat) (r3 : List UInt8) (H : jk F a1 = some r3) : ACalls Tryz.prog 76 [slE (Enc.sl Enc.byte) a1 q2] [] (Ret (S r3) []) := by
 unfold jk at H
 refine aw Tryz.func76 rfl rfl ?_;show AW _ _ 15 _ _ _;refine af <| aa ?_;show AR _ _ _ _ _ [0] _;refine za rfl <| ag <| af <| aa ?_;show AR _ _ _ _ _ [0] _;refine za rfl <| ag <| aN <| cf (X := Nat × Int) (fun (n6, y4) => ⟨[(0, slE (Enc.sl Enc.byte) a1 q2), (3, i64 y4)], [], []⟩) (fun (n6, y4) => fG F a1 n6 y4 = some r3) (fun (n6, y4) => n6) (F, 0) H (aO [] (.cons (.refl _) (.cons (.refl _) (.nil _))) rfl) ?_;rintro ⟨n6, y4⟩ H;obtain ⟨n6, rfl, H⟩ := cE H;replace H : fH F a1 (fG F a1 n6) y4 = some r3 := H
 unfold fH at H
 refine af <| aN <| af ?_;obtain ⟨g7, H⟩ := ax H;obtain ⟨x8, e9, H⟩ := bf H;obtain ⟨g10, H⟩ := ax H;obtain ⟨x11, e12, H⟩ := bf H;refine aa ?_;show AR _ _ _ _ _ [0, 1, 2, 3, 4] _;refine zm rfl <| ao rfl rfl (aD rfl uj rfl (show ACalls _ _ _ [] (Ret (S x8) []) from by subst e9; exact gg y4 (mo g7)) ?_);refine zS rfl (bZ rfl rfl g10 e12) <| zX rfl (dp (zs := [.string ⟨#[]⟩]) (by kernel_rfl)) ?_;rintro _ _ ⟨o13, rfl, rfl⟩;refine s0 rfl rfl (au (i := 0) (c := .v _) (by kernel_rfl) rfl rfl rfl rfl (ai rfl)) <| ag <| af ?_;obtain ⟨x14, e15, H⟩ := bL H;refine aa ?_;show AR _ _ _ _ _ [0, 1, 2, 3] _;refine zS rfl (aj (av := slE _ _ _) rfl) <| zS rfl (gN rfl rfl) <| ao rfl rfl (bC [0] rfl sH rfl (na F a1 q2 o13 x11 x14 e15) rfl (fun c A' h => by cases h.1) ?_)
 rintro av A' ⟨h, rfl⟩; cases h
 refine zS rfl (co rfl) <| ag <| ay rfl (fun c16 => ?_) (fun c16 => ?_)
 ·replace H := aZ c16 H;refine af <| aa ?_;show AR _ _ _ _ _ [0, 1] _;refine zR rfl (am (i := 0) ac rfl rfl rfl rfl) <| za rfl <| ag <| aI ?_;obtain rfl := ap H;exact And.intro rfl (Exists.intro _ (Exists.intro _ ⟨aH rfl (.refl _), aG [] rfl, rfl, rfl⟩))
 ·replace H := ba c16 H;refine aC ?_;obtain ⟨g17, H⟩ := ax H;refine aa ?_;show AR _ _ _ _ _ [0, 1, 2] _;refine zm rfl <| zS rfl (bp rfl rfl g17) <| za rfl <| ag ?_;exact Exists.intro (n6, y4 + 1) ⟨H, Nat.lt_succ_self _, aO [] (.cons (.refl _) (.cons (.refl _) (.nil _))) rfl⟩
set_option maxRecDepth 100000 in
set_option maxHeartbeats 1000000 in
theorem rF (F : Nat) (a1 : List UInt8) (r2 : Bool) (H : nk F a1 = some r2) : ACalls Tryz.prog 74 [S a1] [] (Ret (B r2) []) := by
 unfold nk at H
 refine aw Tryz.func74 rfl rfl ?_;show AW _ _ 33 _ _ _;refine af <| aa ?_;show AR _ _ _ _ _ [0] _;refine za rfl <| ag <| bj (X := Unit) (fun _ => ⟨[(0, S a1)], [], []⟩) (fun _ => gK a1 = some r2) ?_ ?_
 ·refine af <| aa ?_;show AR _ _ _ _ _ [0, 1, 2] _;refine zm rfl <| zS rfl (aX ac rfl) <| zm rfl <| ag <| aN <| cf (X := Nat × Int) (fun (n5, y3) => ⟨[(0, S a1), (5, i64 (a1.length : Int)), (6, i64 y3)], [], []⟩) (fun (n5, y3) => jH a1 n5 y3 = some r2) (fun (n5, y3) => n5) (F, 0) H (aO [] (.cons (.refl _) (.cons (.refl _) (.cons (.refl _) (.nil _)))) rfl) ?_;rintro ⟨n5, y3⟩ H;obtain ⟨n5, rfl, H⟩ := cE H;replace H : jI a1 (jH a1 n5) y3 = some r2 := H
  unfold jI at H
  refine af <| aa ?_;show AR _ _ _ _ _ [0] _;refine zS rfl (bz rfl rfl) <| ag <| af <| ay rfl (fun c6 => ?_) (fun c6 => ?_)
  ·replace H := aZ c6 H;refine aC <| af <| aN <| af <| aa ?_;show AR _ _ _ _ _ [0, 1] _;refine zm rfl <| za rfl <| ag <| af ?_;obtain ⟨g7, H⟩ := ax H;obtain ⟨x8, e9, H⟩ := bf H;obtain ⟨x10, e11, H⟩ := bf H;refine aa ?_;show AR _ _ _ _ _ [0, 1, 2, 3, 4] _;refine zm rfl <| zm rfl <| zS rfl (bi ac rfl rfl g7 e9) <| ao rfl rfl (aD rfl ui rfl (show ACalls _ _ _ [] (Ret (i64 x10) []) from by subst e11; exact cW sU x8) ?_);refine zS rfl (bz rfl rfl) <| ag <| ay rfl (fun c12 => ?_) (fun c12 => ?_)
   ·replace H := aZ c12 H;refine af <| aa ?_;show AR _ _ _ _ _ [0] _;refine za rfl <| ag <| aI ?_;obtain rfl := ap H;exact And.intro rfl (Exists.intro _ (Exists.intro _ ⟨aH rfl (.refl _), aG [] rfl, rfl, rfl⟩))
   ·replace H := ba c12 H;refine aC ?_;obtain ⟨g13, H⟩ := ax H;refine aa ?_;show AR _ _ _ _ _ [0, 1] _;refine zS rfl (bp rfl rfl g13) <| zm rfl <| ag ?_;exact Exists.intro (n5, y3 + 1) ⟨H, Nat.lt_succ_self _, aO [] (.cons (.refl _) (.cons (.refl _) (.cons (.refl _) (.nil _)))) rfl⟩
  ·replace H := ba c6 H;refine bS ?_;exact Exists.intro () ⟨H, aO [] (.cons (.refl _) (.nil _)) rfl⟩
 rintro _ H;replace H : gK a1 = some r2 := H
 unfold gK at H
 refine af ?_;obtain ⟨g17, H⟩ := di H;obtain ⟨x18, e19, H⟩ := bf H;obtain ⟨g21, H⟩ := di H;obtain ⟨x22, e23, H⟩ := bf H;refine aa ?_;show AR _ _ _ _ _ [0, 1, 2, 3, 4, 5, 6, 7, 8, 9, 10, 11, 12, 13, 14, 15, 16, 17, 18] _;refine zm rfl <| zS rfl (gx rfl rfl) <| zm rfl <| aY (l := [7, 8, 9, 10, 11, 12, 13, 14, 15, 16, 17, 18]) 21 (B ((!decide (a1 = ([] : List UInt8))) && (decide ((a1.length : Int) ≤ 60)))) (fun K => ?_) ?_
 ·rcases ak (!decide (a1 = ([] : List UInt8))) with h15 | h15
  ·refine zM h15 rfl <| zU h15 rfl (aX ac rfl) <| zU h15 rfl (df rfl rfl) <| zS rfl (aF (av := .v _) rfl h15 rfl) ?_;exact K _ 3 _ (az (cd h15)) rfl rfl
  ·refine zF h15 rfl <| zF h15 rfl <| zF h15 rfl <| zS rfl (aE (av := .v _) rfl h15 rfl) ?_;exact K _ 3 _ (az (ce h15)) rfl rfl
 refine zm rfl <| aY (l := [13, 14, 15, 16, 17, 18]) 27 (B (((!decide (a1 = ([] : List UInt8))) && (decide ((a1.length : Int) ≤ 60))) && (decide (x18 = a1)))) (fun K => ?_) ?_
 ·rcases ak ((!decide (a1 = ([] : List UInt8))) && (decide ((a1.length : Int) ≤ 60))) with h16 | h16
  ·refine zM h16 rfl <| zT h16 rfl (aD rfl sI rfl (show ACalls _ _ _ [] (Ret (S x18) []) from by subst e19; exact qi a1 32 (by decide) (fC (g17 h16))) ?_);refine zM h16 rfl <| zU h16 rfl (eg rfl rfl) <| zS rfl (aF (av := .v _) rfl h16 rfl) ?_;exact K _ 4 _ (az (cd h16)) rfl rfl
  ·refine zF h16 rfl <| zF h16 rfl <| zF h16 rfl <| zF h16 rfl <| zS rfl (aE (av := .v _) rfl h16 rfl) ?_;exact K _ 4 _ (az (ce h16)) rfl rfl
 refine zm rfl <| aY (l := [18]) 32 (B ((((!decide (a1 = ([] : List UInt8))) && (decide ((a1.length : Int) ≤ 60))) && (decide (x18 = a1))) && (!x22))) (fun K => ?_) ?_
 ·rcases ak (((!decide (a1 = ([] : List UInt8))) && (decide ((a1.length : Int) ≤ 60))) && (decide (x18 = a1))) with h20 | h20
  ·refine zM h20 rfl <| zT h20 rfl (aD rfl uh rfl (show ACalls _ _ _ [] (Ret (B x22) []) from by subst e23; exact gP a1 ([32, 32] : List UInt8) (fC (g21 h20))) ?_);refine zU h20 rfl (co rfl) <| zS rfl (aF (av := .v _) rfl h20 rfl) ?_;exact K _ 3 _ (az (cd h20)) rfl rfl
  ·refine zF h20 rfl <| zF h20 rfl <| zF h20 rfl <| zS rfl (aE (av := .v _) rfl h20 rfl) ?_;exact K _ 3 _ (az (ce h20)) rfl rfl
 refine za rfl <| ag <| aI ?_;obtain rfl := ap H;exact And.intro rfl (Exists.intro _ (Exists.intro _ ⟨aH rfl (.refl _), aG [] rfl, rfl, rfl⟩))
set_option maxRecDepth 100000 in
set_option maxHeartbeats 1000000 in
theorem rE (F : Nat) (a1 : List UInt8) (r2 : Bool) (H : nj F a1 = some r2) : ACalls Tryz.prog 73 [S a1] [] (Ret (B r2) []) := by
 unfold nj at H
 refine aw Tryz.func73 rfl rfl ?_;show AW _ _ 6 _ _ _;refine af <| aa ?_;show AR _ _ _ _ _ [0] _;refine za rfl <| ag <| af ?_;obtain ⟨x3, e4, H⟩ := bL H;refine aa ?_;show AR _ _ _ _ _ [0, 1, 2, 3] _;refine zm rfl <| ao rfl rfl (aD rfl ua rfl (rF F a1 x3 e4) ?_);refine zS rfl (co rfl) <| za rfl <| ag <| aI ?_;obtain rfl := ap H;exact And.intro rfl (Exists.intro _ (Exists.intro _ ⟨aH rfl (.refl _), aG [] rfl, rfl, rfl⟩))
set_option maxRecDepth 100000 in
set_option maxHeartbeats 1000000 in
theorem pE (F : Nat) (a1 : List (List UInt8)) (q2 : Option Nat) (r3 : Int) (H : kJ F a1 = some r3) : ACalls Tryz.prog 122 [slE Enc.str a1 q2, .v (.func (.func 73) #[] #[])] [] (Ret (i64 r3) []) := by
 unfold kJ at H
 refine aw Tryz.func122 rfl rfl ?_;show AW _ _ 19 _ _ _;refine af <| aa ?_;show AR _ _ _ _ _ [0] _;refine za rfl <| ag <| bj (X := Unit) (fun _ => ⟨[], [], []⟩) (fun _ => fi = some r3) ?_ ?_
 ·refine af <| aa ?_;show AR _ _ _ _ _ [0, 1, 2] _;refine zS rfl (aj (av := slE _ _ _) rfl) <| zS rfl (aQ an rfl) <| zm rfl <| ag <| aN <| cf (X := Nat × Int) (fun (n6, y4) => ⟨[(0, slE Enc.str a1 q2), (1, .v (.func (.func 73) #[] #[])), (7, i64 (a1.length : Int)), (8, i64 y4)], [], []⟩) (fun (n6, y4) => ic F a1 n6 y4 = some r3) (fun (n6, y4) => n6) (F, 0) H (aO [] (.cons (.refl _) (.cons (.refl _) (.cons (.refl _) (.cons (.refl _) (.nil _))))) rfl) ?_;rintro ⟨n6, y4⟩ H;obtain ⟨n6, rfl, H⟩ := cE H;replace H : ie F a1 (ic F a1 n6) y4 = some r3 := H
  unfold ie at H
  refine af <| aa ?_;show AR _ _ _ _ _ [0] _;refine zS rfl (bz rfl rfl) <| ag <| af <| ay rfl (fun c7 => ?_) (fun c7 => ?_)
  ·replace H := aZ c7 H;refine aC <| af <| aN <| af <| aa ?_;show AR _ _ _ _ _ [0, 1] _;refine zm rfl <| za rfl <| ag <| af ?_;obtain ⟨g8, H⟩ := ax H;obtain ⟨x9, e10, H⟩ := bf H;obtain ⟨x11, e12, H⟩ := bL H;refine aa ?_;show AR _ _ _ _ _ [0, 1, 2, 3, 4, 5] _;refine zm rfl <| zS rfl (aj (av := slE _ _ _) rfl) <| zm rfl <| zS rfl (cm (E := Enc.str) an (by kernel_rfl) rfl rfl g8 e10) <| zS rfl (aJ ac rfl rfl) <| ao rfl rfl (AO.callFp rfl (.inr ⟨rfl, rfl, rfl⟩) ub rfl (rE F x9 x11 e12) ?_);refine ag <| ay rfl (fun c13 => ?_) (fun c13 => ?_)
   ·replace H := aZ c13 H;refine af <| aa ?_;show AR _ _ _ _ _ [0, 1] _;refine zm rfl <| za rfl <| ag <| aI ?_;obtain rfl := ap H;exact And.intro rfl (Exists.intro _ (Exists.intro _ ⟨aH rfl (.refl _), aG [] rfl, rfl, rfl⟩))
   ·replace H := ba c13 H;refine aC ?_;obtain ⟨g14, H⟩ := ax H;refine aa ?_;show AR _ _ _ _ _ [0, 1] _;refine zS rfl (bp rfl rfl g14) <| zm rfl <| ag ?_;exact Exists.intro (n6, y4 + 1) ⟨H, Nat.lt_succ_self _, aO [] (.cons (.refl _) (.cons (.refl _) (.cons (.refl _) (.cons (.refl _) (.nil _))))) rfl⟩
  ·replace H := ba c7 H;refine bS ?_;exact Exists.intro () ⟨H, aO [] (.nil _) rfl⟩
 rintro _ H;replace H : fi = some r3 := H
 unfold fi at H
 refine af <| aa ?_;show AR _ _ _ _ _ [0] _;refine za rfl <| ag <| aI ?_;obtain rfl := ap H;exact And.intro rfl (Exists.intro _ (Exists.intro _ ⟨aH rfl (.refl _), aG [] rfl, rfl, rfl⟩))
set_option maxRecDepth 100000 in
set_option maxHeartbeats 1000000 in
theorem mZ (F : Nat) (a1 : List (List UInt8)) (q2 : Option Nat) (r3 : Bool) (H : ij F a1 = some r3) : ACalls Tryz.prog 72 [slE Enc.str a1 q2, .v (.func (.func 73) #[] #[])] [] (Ret (B r3) []) := by
 unfold ij at H
 refine aw Tryz.func72 rfl rfl ?_;show AW _ _ 9 _ _ _;refine af <| aa ?_;show AR _ _ _ _ _ [0] _;refine za rfl <| ag <| af ?_;obtain ⟨x4, e5, H⟩ := bL H;refine aa ?_;show AR _ _ _ _ _ [0, 1, 2, 3, 4] _;refine zS rfl (aj (av := slE _ _ _) rfl) <| zm rfl <| ao rfl rfl (aD rfl sK rfl (pE F a1 q2 x4 e5) ?_);refine zS rfl (cY rfl rfl) <| za rfl <| ag <| aI ?_;obtain rfl := ap H;exact And.intro rfl (Exists.intro _ (Exists.intro _ ⟨aH rfl (.refl _), aG [] rfl, rfl, rfl⟩))
set_option maxRecDepth 100000 in
set_option maxHeartbeats 1000000 in
theorem tu (F : Nat) (o1 : Nat) (a2 : List UInt8) (t3 : Nat) (a4 : List UInt8) (a5 : List UInt8) (a6 : List UInt8) (q7 : Option Nat) (r8 : List UInt8) (H : pm F a2 a4 a5 a6 = some r8) : ACalls Tryz.prog 77 [.pt o1 0, S a5, slE Enc.byte a6 q7] [.obj o1 [slE Enc.byte a2 (some t3), S a4], .tok t3 5] (fun e A' => e = .ret (.tup []) ∧ ∃ t9, A' = [.obj o1 [slE Enc.byte r8 (some t9), S a4], .tok t9 5]) := by
 unfold pm at H
 refine aw Tryz.func77 rfl rfl ?_;show AW _ _ 42 _ _ _;refine af ?_;obtain ⟨x10, x11, e12, H⟩ := cF H;refine aa ?_;show AR _ _ _ _ _ [0, 1, 2, 3, 4, 5, 6, 7, 8, 9] _;refine zm rfl <| zS rfl (cZ (zs := [.string ⟨#[]⟩, .string ⟨#[]⟩]) (ps := [(0, 1), (1, 1)]) (cs := [S ([67, 111, 110, 116, 101, 110, 116, 45, 84, 121, 112, 101] : List UInt8), S a5]) (by kernel_rfl) rfl rfl) <| zS rfl (cZ (zs := [.string ⟨#[]⟩, .string ⟨#[]⟩]) (ps := [(0, 1), (1, 1)]) (cs := [S mK, S ([113, 117, 111, 116, 101, 100, 45, 112, 114, 105, 110, 116, 97, 98, 108, 101] : List UInt8)]) (by kernel_rfl) rfl rfl) <| zR rfl (jP (E := (aV Enc.str Enc.str)) (bytes := 32) (zs := [.string ⟨#[]⟩, .string ⟨#[]⟩]) (l := ([(([67, 111, 110, 116, 101, 110, 116, 45, 84, 121, 112, 101] : List UInt8), a5), (mK, ([113, 117, 111, 116, 101, 100, 45, 112, 114, 105, 110, 116, 97, 98, 108, 101] : List UInt8))] : List ((List UInt8) × List UInt8))) dC (by kernel_rfl) (by kernel_rfl) rfl rfl rfl rfl rfl) <| ao rfl rfl (aD rfl uk rfl (tv F ([(([67, 111, 110, 116, 101, 110, 116, 45, 84, 121, 112, 101] : List UInt8), a5), (mK, ([113, 117, 111, 116, 101, 100, 45, 112, 114, 105, 110, 116, 97, 98, 108, 101] : List UInt8))] : List ((List UInt8) × List UInt8)) none x10 x11 e12) ?_)
 refine zS rfl (aj (av := .tup _) rfl) <| zS rfl (aB (av := slE _ _ _) rfl rfl) <| zS rfl (aB (av := .v _) rfl rfl) <| zS rfl (aA (av := slE _ _ _) rfl) <| za rfl <| ag <| bj (X := (List UInt8) × Nat) (fun (y24, t25) => ⟨[(0, .pt o1 0), (2, slE Enc.byte a6 q7), (6, slE Enc.byte x10 none)], [], [.obj o1 [slE Enc.byte y24 (some t25), S a4], .tok t25 5]⟩) (fun (y24, t25) => iU a6 x10 y24 = some r8) ?_ ?_
 ·obtain ⟨g13, H⟩ := ax H;obtain ⟨x14, e15, H⟩ := bf H;obtain ⟨g16, H⟩ := ax H;obtain ⟨x17, e18, H⟩ := bf H;obtain ⟨g20, H⟩ := ax H;obtain ⟨x21, e22, H⟩ := bf H;refine bt (by kernel_rfl) ?_;show AI _ _ _ _ _ 15 (Array.replicate 15 false) _;refine zk 0 rfl (aj (av := .pt _ _) rfl) ?_;show AI _ _ _ _ _ _ #[true, false, false, false, false, false, false, false, false, false, false, false, false, false, false] _;refine zk 1 rfl (aj (av := .pt _ _) rfl) ?_;show AI _ _ _ _ _ _ #[true, true, false, false, false, false, false, false, false, false, false, false, false, false, false] _;refine zk 2 rfl (aq rfl) ?_;show AI _ _ _ _ _ _ #[true, true, true, false, false, false, false, false, false, false, false, false, false, false, false] _;refine zk 3 rfl (al (n := 0) (by kernel_rfl) rfl) ?_;show AI _ _ _ _ _ _ #[true, true, true, true, false, false, false, false, false, false, false, false, false, false, false] _;refine zk 5 rfl (aj (av := .pt _ _) rfl) ?_;show AI _ _ _ _ _ _ #[true, true, true, true, false, true, false, false, false, false, false, false, false, false, false] _;refine zk 6 rfl (aq rfl) ?_;show AI _ _ _ _ _ _ #[true, true, true, true, false, true, true, false, false, false, false, false, false, false, false] _;refine zk 7 rfl (al (n := 1) (by kernel_rfl) rfl) ?_;show AI _ _ _ _ _ _ #[true, true, true, true, false, true, true, true, false, false, false, false, false, false, false] _;refine de (i := 4) (j := 8) (by kernel_rfl) rfl rfl rfl rfl ?_ ?_
  ·refine aR rfl (am (i := 0) ab rfl rfl rfl rfl) ?_;show AI _ _ _ _ _ _ #[true, true, true, true, true, true, true, true, false, false, false, false, false, false, false] _;refine aU (i := 8) (by kernel_rfl) rfl rfl <| aR rfl (am (i := 0) ac rfl rfl rfl rfl) ?_;show AI _ _ _ _ _ _ #[true, true, true, true, true, true, true, true, true, false, false, false, false, false, false] _;refine zk 9 rfl (bZ rfl rfl g13 e15) ?_;show AI _ _ _ _ _ _ #[true, true, true, true, true, true, true, true, true, true, false, false, false, false, false] _;refine zk 10 rfl (bZ rfl rfl g16 e18) ?_;show AI _ _ _ _ _ _ #[true, true, true, true, true, true, true, true, true, true, true, false, false, false, false] _;refine aU (i := 11) (by kernel_rfl) rfl rfl <| bU rfl (bq (bytes := 1) 1 ab ac rfl (by kernel_rfl) rfl rfl rfl rfl g20 e22) ?_;rintro _ _ ⟨t19, rfl, rfl⟩;show AI _ _ _ _ _ _ #[true, true, true, true, true, true, true, true, true, true, true, true, false, false, false] _;refine zk 12 rfl (aq rfl) ?_;show AI _ _ _ _ _ _ #[true, true, true, true, true, true, true, true, true, true, true, true, true, false, false] _;refine zk 13 rfl (al (n := 0) (by kernel_rfl) rfl) ?_;show AI _ _ _ _ _ _ #[true, true, true, true, true, true, true, true, true, true, true, true, true, true, false] _;refine aU (i := 14) (by kernel_rfl) rfl rfl <| cg (au (i := 0) (c := slE _ _ _) (by kernel_rfl) rfl rfl rfl rfl (ai rfl)) ?_
   show AI _ _ _ _ _ _ #[true, true, true, true, true, true, true, true, true, true, true, true, true, true, true] _;refine bx rfl ?_;exact Exists.intro (x21, t19) ⟨H, aO [0, 0] (.cons (.refl _) (.cons (.refl _) (.cons (.refl _) (.nil _)))) rfl⟩
  ·refine aR rfl (am (i := 0) ac rfl rfl rfl rfl) ?_;show AI _ _ _ _ _ _ #[true, true, true, true, false, true, true, true, true, false, false, false, false, false, false] _;refine zk 9 rfl (bZ rfl rfl g13 e15) ?_;show AI _ _ _ _ _ _ #[true, true, true, true, false, true, true, true, true, true, false, false, false, false, false] _;refine zk 10 rfl (bZ rfl rfl g16 e18) ?_;show AI _ _ _ _ _ _ #[true, true, true, true, false, true, true, true, true, true, true, false, false, false, false] _;refine aU (i := 4) (by kernel_rfl) rfl rfl <| aR rfl (am (i := 0) ab rfl rfl rfl rfl) ?_;show AI _ _ _ _ _ _ #[true, true, true, true, true, true, true, true, true, true, true, false, false, false, false] _;refine aU (i := 11) (by kernel_rfl) rfl rfl <| bU rfl (bq (bytes := 1) 1 ab ac rfl (by kernel_rfl) rfl rfl rfl rfl g20 e22) ?_;rintro _ _ ⟨t23, rfl, rfl⟩;show AI _ _ _ _ _ _ #[true, true, true, true, true, true, true, true, true, true, true, true, false, false, false] _;refine zk 12 rfl (aq rfl) ?_;show AI _ _ _ _ _ _ #[true, true, true, true, true, true, true, true, true, true, true, true, true, false, false] _;refine zk 13 rfl (al (n := 0) (by kernel_rfl) rfl) ?_;show AI _ _ _ _ _ _ #[true, true, true, true, true, true, true, true, true, true, true, true, true, true, false] _;refine aU (i := 14) (by kernel_rfl) rfl rfl <| cg (au (i := 0) (c := slE _ _ _) (by kernel_rfl) rfl rfl rfl rfl (ai rfl)) ?_
   show AI _ _ _ _ _ _ #[true, true, true, true, true, true, true, true, true, true, true, true, true, true, true] _;refine bx rfl ?_;exact Exists.intro (x21, t23) ⟨H, aO [0, 0] (.cons (.refl _) (.cons (.refl _) (.cons (.refl _) (.nil _)))) rfl⟩
 rintro ⟨y24, t25⟩ H;replace H : iU a6 x10 y24 = some r8 := H
 unfold iU at H
 obtain ⟨g28, H⟩ := ax H;obtain ⟨x29, e30, H⟩ := bf H;obtain ⟨g32, H⟩ := ax H;obtain ⟨x33, e34, H⟩ := bf H;obtain ⟨g36, H⟩ := ax H;obtain ⟨x37, e38, H⟩ := bf H;refine aa ?_;show AR _ _ _ _ _ [0, 1, 2, 3, 4, 5, 6, 7, 8, 9, 10, 11, 12] _;refine zS rfl (aj (av := .pt _ _) rfl) <| zS rfl (aj (av := .pt _ _) rfl) <| zS rfl (aq rfl) <| zS rfl (al (n := 0) (by kernel_rfl) rfl) <| zR rfl (am (i := 0) ab rfl rfl rfl rfl) <| zS rfl (aj (av := slE _ _ _) rfl) <| zX rfl (cw (E := Enc.byte) (bytes := 1) 1 ab ab rfl (by kernel_rfl) rfl rfl rfl rfl g28 e30) ?_;rintro _ _ ⟨t27, rfl, rfl⟩;refine zS rfl (aj (av := slE _ _ _) rfl) <| zX rfl (cw (E := Enc.byte) (bytes := 1) 1 ab ab rfl (by kernel_rfl) rfl rfl rfl rfl g32 e34) ?_;rintro _ _ ⟨t31, rfl, rfl⟩;refine zX rfl (bq (bytes := 1) 1 ab ac rfl (by kernel_rfl) rfl rfl rfl rfl g36 e38) ?_;rintro _ _ ⟨t35, rfl, rfl⟩;refine zS rfl (aq rfl) <| zS rfl (al (n := 0) (by kernel_rfl) rfl) <| s0 rfl rfl (au (i := 0) (c := slE _ _ _) (by kernel_rfl) rfl rfl rfl rfl (ai rfl)) <| ag ?_;obtain rfl := ap H;exact And.intro rfl (Exists.intro _ (Exists.intro _ ⟨bW rfl, aG [0, 0] rfl, rfl, t35, rfl⟩))
set_option maxRecDepth 100000 in
set_option maxHeartbeats 1000000 in
theorem rH (F : Nat) (a1 : List (List UInt8)) (q2 : Option Nat) (a3 : List (List UInt8)) (q4 : Option Nat) (r5 : List UInt8) (r6 : List UInt8) (r7 : Int) (H : np F a1 a3 = some (r5, r6, r7)) : ACalls Tryz.prog 29 [slE Enc.str a1 q2, slE (Enc.sl Enc.byte) a3 q4] [] (Ret (.tup [slE Enc.byte r5 none, S r6, i64 r7]) []) := by
 unfold np at H
 refine aw Tryz.func29 rfl rfl ?_;show AW _ _ 82 _ _ _;refine af <| aa ?_;show AR _ _ _ _ _ [0, 1, 2] _;refine za rfl <| za rfl <| za rfl <| ag <| af <| af ?_;obtain ⟨x11, e12, H⟩ := ek H;refine aa ?_;show AR _ _ _ _ _ [0, 1, 2, 3, 4, 5, 6, 7, 8, 9, 10, 11, 12, 13, 14, 15, 16, 17, 18] _;refine zS rfl (aj (av := slE _ _ _) rfl) <| zS rfl (aQ an rfl) <| zS rfl (aj (av := slE _ _ _) rfl) <| zS rfl (aQ bD rfl) <| zS rfl (cG rfl rfl) <| zm rfl <| aY (l := [10, 11, 12, 13, 14, 15, 16, 17, 18]) 23 (B ((!decide ((a1.length : Int) = (a3.length : Int))) || (decide ((a3.length : Int) = 0)))) (fun K => ?_) ?_
 ·rcases ak (!decide ((a1.length : Int) = (a3.length : Int))) with h8 | h8
  ·refine zF h8 rfl <| zF h8 rfl <| zF h8 rfl <| zS rfl (aF (av := .v _) rfl h8 rfl) ?_;exact K _ 3 _ (az (fb h8)) rfl rfl
  ·refine zU h8 rfl (aj (av := slE _ _ _) rfl) <| zU h8 rfl (aQ bD rfl) <| zU h8 rfl (cc rfl rfl) <| zS rfl (aE (av := .v _) rfl h8 rfl) ?_;exact K _ 3 _ (az (fc h8)) rfl rfl
 refine zm rfl <| aY (l := [15, 16, 17, 18]) 28 (B (((!decide ((a1.length : Int) = (a3.length : Int))) || (decide ((a3.length : Int) = 0))) || (decide (8 < (a3.length : Int))))) (fun K => ?_) ?_
 ·rcases ak ((!decide ((a1.length : Int) = (a3.length : Int))) || (decide ((a3.length : Int) = 0))) with h9 | h9
  ·refine zF h9 rfl <| zF h9 rfl <| zF h9 rfl <| zS rfl (aF (av := .v _) rfl h9 rfl) ?_;exact K _ 3 _ (az (fb h9)) rfl rfl
  ·refine zU h9 rfl (aj (av := slE _ _ _) rfl) <| zU h9 rfl (aQ bD rfl) <| zU h9 rfl (cU rfl rfl) <| zS rfl (aE (av := .v _) rfl h9 rfl) ?_;exact K _ 3 _ (az (fc h9)) rfl rfl
 refine zm rfl <| aY (l := []) 32 (B ((((!decide ((a1.length : Int) = (a3.length : Int))) || (decide ((a3.length : Int) = 0))) || (decide (8 < (a3.length : Int)))) || x11)) (fun K => ?_) ?_
 ·rcases ak (((!decide ((a1.length : Int) = (a3.length : Int))) || (decide ((a3.length : Int) = 0))) || (decide (8 < (a3.length : Int)))) with h10 | h10
  ·refine zF h10 rfl <| zF h10 rfl <| zS rfl (aF (av := .v _) rfl h10 rfl) ?_;exact K _ 2 _ (az (fb h10)) rfl rfl
  ·refine zU h10 rfl (aj (av := slE _ _ _) rfl) <| zT h10 rfl (aD rfl uc rfl (mZ F a1 q2 x11 (e12 (nf h10))) ?_);refine zS rfl (aE (av := .v _) rfl h10 rfl) ?_;exact K _ 2 _ (az (fc h10)) rfl rfl
 refine ag <| ay rfl (fun c13 => ?_) (fun c13 => ?_)
 ·replace H := aZ c13 H;refine af <| aa ?_;show AR _ _ _ _ _ [0, 1, 2] _;refine za rfl <| za rfl <| za rfl <| ag <| aI ?_;obtain ⟨rfl, rfl, rfl⟩ := pZ H;exact And.intro rfl (Exists.intro _ (Exists.intro _ ⟨cX rfl (.nil _) (.refl _) (.refl _), aG [] rfl, rfl, rfl⟩))
 ·replace H := ba c13 H;refine aC <| af <| aa ?_;show AR _ _ _ _ _ [0] _;refine za rfl <| ag ?_
  refine dY 7 1 32 rfl fun t14 => ?_
  show AW _ _ _ _ _ ⟨(7, slE (Enc.sl Enc.byte) [] (some t14)) :: _, _, _⟩;refine bj (X := (List (List UInt8)) × Nat) (fun (y31, t32) => ⟨[(0, slE Enc.str a1 q2), (7, slE (Enc.sl Enc.byte) y31 (some t32))], [], [.tok t32 32]⟩) (fun (y31, t32) => gL F a1 y31 = some (r5, r6, r7)) ?_ ?_
  ·refine af <| aa ?_;show AR _ _ _ _ _ [0, 1, 2] _;refine zS rfl (aj (av := slE _ _ _) rfl) <| zS rfl (aQ bD rfl) <| zm rfl <| ag <| aN <| cf (X := Nat × (List (List UInt8)) × Nat × Int) (fun (n19, y15, t16, y17) => ⟨[(0, slE Enc.str a1 q2), (7, slE (Enc.sl Enc.byte) y15 (some t16)), (33, slE (Enc.sl Enc.byte) a3 q4), (34, i64 (a3.length : Int)), (35, i64 y17)], [], [.tok t16 32]⟩) (fun (n19, y15, t16, y17) => jJ F a1 a3 n19 (y15, y17) = some (r5, r6, r7)) (fun (n19, y15, t16, y17) => n19) (F, [], t14, 0) H (aO [0] (.cons (.refl _) (.cons (.refl _) (.cons (.refl _) (.cons (.refl _) (.cons (.refl _) (.nil _)))))) rfl) ?_;rintro ⟨n19, y15, t16, y17⟩ H;obtain ⟨n19, rfl, H⟩ := cE H;replace H : jL F a1 a3 (jJ F a1 a3 n19) y15 y17 = some (r5, r6, r7) := H
   unfold jL at H
   refine af <| aa ?_;show AR _ _ _ _ _ [0] _;refine zS rfl (bz rfl rfl) <| ag <| af <| ay rfl (fun c20 => ?_) (fun c20 => ?_)
   ·replace H := aZ c20 H;refine aC <| af <| aN <| af ?_;obtain ⟨g21, H⟩ := ax H;obtain ⟨x22, e23, H⟩ := bf H;refine aa ?_;show AR _ _ _ _ _ [0, 1, 2] _;refine zS rfl (cm (E := (Enc.sl Enc.byte)) bD (by kernel_rfl) rfl rfl g21 e23) <| zS rfl (aJ ab rfl rfl) <| zS rfl (aA (av := slE _ _ _) rfl) <| ag ?_;obtain ⟨x24, e25, H⟩ := bL H;obtain ⟨g27, H⟩ := ax H;obtain ⟨x28, e29, H⟩ := bf H;refine aa ?_;show AR _ _ _ _ _ [0, 1, 2, 3, 4, 5] _;refine zS rfl (aj (av := slE _ _ _) rfl) <| zS rfl (aj (av := slE _ _ _) rfl) <| ao rfl rfl (aD rfl tZ rfl (rD F x22 none x24 e25) ?_);refine zR rfl (bI (E := (Enc.sl Enc.byte)) (bytes := 24) (xs := [.tmp 41]) (l := ([x24] : List (List UInt8))) bD (by kernel_rfl) rfl rfl (by decide) rfl rfl) <| zX rfl (cw (E := (Enc.sl Enc.byte)) (bytes := 24) 0 bD bD rfl (by kernel_rfl) rfl rfl rfl rfl g27 e29) ?_;rintro _ _ ⟨t26, rfl, rfl⟩;refine zS rfl (aA (av := slE _ _ _) rfl) <| ag ?_;obtain ⟨g30, H⟩ := ax H;refine aa ?_;show AR _ _ _ _ _ [0, 1] _;refine zS rfl (bp rfl rfl g30) <| zm rfl <| ag ?_;exact Exists.intro (n19, x28, t26, y17 + 1) ⟨H, Nat.lt_succ_self _, aO [0] (.cons (.refl _) (.cons (.refl _) (.cons (.refl _) (.cons (.refl _) (.cons (.refl _) (.nil _)))))) rfl⟩
   ·replace H := ba c20 H;refine bS ?_;exact Exists.intro (y15, t16) ⟨H, aO [0] (.cons (.refl _) (.cons (.refl _) (.nil _))) rfl⟩
  rintro ⟨y31, t32⟩ H;replace H : gL F a1 y31 = some (r5, r6, r7) := H
  unfold gL at H
  refine af ?_;obtain ⟨x34, e35, H⟩ := bL H;refine aa ?_;show AR _ _ _ _ _ [0, 1, 2, 3, 4] _;refine zS rfl (aj (av := slE _ _ _) rfl) <| ao rfl rfl (aD rfl tY rfl (om F y31 (some t32) x34 e35) ?_);refine zS rfl (cZ (zs := [.slice none 0 0, .string ⟨#[]⟩]) (ps := [(0, 1), (1, 1)]) (cs := [ah, S x34]) (by kernel_rfl) rfl rfl) <| zX rfl (ox rfl (.inr ⟨_, rfl⟩)) ?_;rintro _ _ ⟨o36, rfl, rfl⟩;refine zS rfl (aA (av := .pt _ _) rfl) <| ag ?_
  refine dF 0 0 1 5 rfl rfl fun t37 => ?_
  show AW _ _ _ _ _ ⟨_, _, [.tok t37 5, .obj o36 [slE Enc.byte [] (some t37), S x34], .tok t32 32]⟩;refine af <| aa ?_;show AR _ _ _ _ _ [0, 1, 2] _;refine zS rfl (aj (av := .pt _ _) rfl) <| zS rfl (gN rfl rfl) <| zS rfl (aA (av := .fn _ _ _) rfl) <| ag <| bj (X := (List UInt8) × Nat) (fun (y54, t55) => ⟨[(10, .pt o36 0)], [], [.obj o36 [slE Enc.byte y54 (some t55), S x34], .tok t55 5]⟩) (fun (y54, t55) => gM x34 y54 = some (r5, r6, r7)) ?_ ?_
  ·refine af <| aa ?_;show AR _ _ _ _ _ [0, 1, 2] _;refine zS rfl (aj (av := slE _ _ _) rfl) <| zS rfl (aQ bD rfl) <| zm rfl <| ag <| aN <| cf (X := Nat × Int × (List UInt8) × Nat) (fun (n42, y38, y39, t40) => ⟨[(0, slE Enc.str a1 q2), (10, .pt o36 0), (11, .fn (.func 77) [.pt o36 0] []), (51, slE (Enc.sl Enc.byte) y31 (some t32)), (52, i64 (y31.length : Int)), (53, i64 y38)], [], [.obj o36 [slE Enc.byte y39 (some t40), S x34], .tok t32 32, .tok t40 5]⟩) (fun (n42, y38, y39, t40) => jK F a1 y31 x34 n42 (y38, y39) = some (r5, r6, r7)) (fun (n42, y38, y39, t40) => n42) (F, 0, [], t37) H (aO [1, 1, 0] (.cons (.refl _) (.cons (.refl _) (.cons (.refl _) (.cons (.refl _) (.cons (.refl _) (.cons (.refl _) (.nil _))))))) rfl) ?_;rintro ⟨n42, y38, y39, t40⟩ H;obtain ⟨n42, rfl, H⟩ := cE H;replace H : jM F a1 y31 x34 (jK F a1 y31 x34 n42) y38 y39 = some (r5, r6, r7) := H
   unfold jM at H
   refine af <| aa ?_;show AR _ _ _ _ _ [0] _;refine zS rfl (bz rfl rfl) <| ag <| af <| ay rfl (fun c43 => ?_) (fun c43 => ?_)
   ·replace H := aZ c43 H;refine aC <| af <| aN <| af ?_;obtain ⟨g44, H⟩ := ax H;obtain ⟨x45, e46, H⟩ := bf H;refine aa ?_;show AR _ _ _ _ _ [0, 1, 2, 3, 4] _;refine zm rfl <| zS rfl (cm (E := (Enc.sl Enc.byte)) bD (by kernel_rfl) rfl rfl g44 e46) <| zS rfl (aJ ab rfl rfl) <| za rfl <| zS rfl (aA (av := slE _ _ _) rfl) <| ag ?_;obtain ⟨g47, H⟩ := ax H;obtain ⟨x48, e49, H⟩ := bf H;obtain ⟨x50, e51, H⟩ := bL H;refine aa ?_;show AR _ _ _ _ _ [0, 1, 2, 3, 4, 5, 6] _;refine zS rfl (aj (av := .fn _ _ _) rfl) <| zS rfl (aj (av := slE _ _ _) rfl) <| zm rfl <| zS rfl (cm (E := Enc.str) an (by kernel_rfl) rfl rfl g47 e49) <| zS rfl (aJ ac rfl rfl) <| zS rfl (aj (av := slE _ _ _) rfl) <| ao rfl rfl (AO.callFAt [0, 1] rfl (.inl rfl) tX rfl (tu F o36 y39 t40 x34 x48 x45 none x50 e51) rfl (fun c A' h => by cases h.1) ?_)
    rintro av A' ⟨h, t52, rfl⟩; cases h
    refine ag ?_;obtain ⟨g53, H⟩ := ax H;refine aa ?_;show AR _ _ _ _ _ [0, 1] _;refine zS rfl (bp rfl rfl g53) <| zm rfl <| ag ?_;exact Exists.intro (n42, y38 + 1, x50, t52) ⟨H, Nat.lt_succ_self _, aO [0, 1, 0] (.cons (.refl _) (.cons (.refl _) (.cons (.refl _) (.cons (.refl _) (.cons (.refl _) (.cons (.refl _) (.nil _))))))) rfl⟩
   ·replace H := ba c43 H;refine bS ?_;exact Exists.intro (y39, t40) ⟨H, aO [0, 1] (.cons (.refl _) (.nil _)) rfl⟩
  rintro ⟨y54, t55⟩ H;replace H : gM x34 y54 = some (r5, r6, r7) := H
  unfold gM at H
  refine af ?_;obtain ⟨g57, H⟩ := ax H;obtain ⟨x58, e59, H⟩ := bf H;obtain ⟨g60, H⟩ := ax H;obtain ⟨x61, e62, H⟩ := bf H;obtain ⟨g63, H⟩ := ax H;obtain ⟨x64, e65, H⟩ := bf H;obtain ⟨g67, H⟩ := ax H;obtain ⟨x68, e69, H⟩ := bf H;refine bt (by kernel_rfl) ?_;show AI _ _ _ _ _ 19 (Array.replicate 19 false) _;refine zk 0 rfl (aj (av := .pt _ _) rfl) ?_;show AI _ _ _ _ _ _ #[true, false, false, false, false, false, false, false, false, false, false, false, false, false, false, false, false, false, false] _;refine zk 1 rfl (aq rfl) ?_;show AI _ _ _ _ _ _ #[true, true, false, false, false, false, false, false, false, false, false, false, false, false, false, false, false, false, false] _;refine zk 2 rfl (al (n := 0) (by kernel_rfl) rfl) ?_;show AI _ _ _ _ _ _ #[true, true, true, false, false, false, false, false, false, false, false, false, false, false, false, false, false, false, false] _;refine zk 4 rfl (aj (av := .pt _ _) rfl) ?_;show AI _ _ _ _ _ _ #[true, true, true, false, true, false, false, false, false, false, false, false, false, false, false, false, false, false, false] _;refine zk 5 rfl (aq rfl) ?_;show AI _ _ _ _ _ _ #[true, true, true, false, true, true, false, false, false, false, false, false, false, false, false, false, false, false, false] _;refine zk 6 rfl (al (n := 1) (by kernel_rfl) rfl) ?_;show AI _ _ _ _ _ _ #[true, true, true, false, true, true, true, false, false, false, false, false, false, false, false, false, false, false, false] _
  refine zk 12 rfl (aj (av := .pt _ _) rfl) ?_;show AI _ _ _ _ _ _ #[true, true, true, false, true, true, true, false, false, false, false, false, true, false, false, false, false, false, false] _;refine zk 13 rfl (aq rfl) ?_;show AI _ _ _ _ _ _ #[true, true, true, false, true, true, true, false, false, false, false, false, true, true, false, false, false, false, false] _;refine zk 14 rfl (al (n := 1) (by kernel_rfl) rfl) ?_;show AI _ _ _ _ _ _ #[true, true, true, false, true, true, true, false, false, false, false, false, true, true, true, false, false, false, false] _;refine tj (i := 3) (j := 7) (l := 15) (by kernel_rfl) rfl rfl rfl rfl rfl rfl ?_ ?_ ?_
  ·refine aR rfl (am (i := 0) ab rfl rfl rfl rfl) ?_;show AI _ _ _ _ _ _ #[true, true, true, true, true, true, true, false, false, false, false, false, true, true, true, false, false, false, false] _;refine de (i := 7) (j := 15) (by kernel_rfl) rfl rfl rfl rfl ?_ ?_
   ·refine aR rfl (am (i := 0) ac rfl rfl rfl rfl) ?_;show AI _ _ _ _ _ _ #[true, true, true, true, true, true, true, true, false, false, false, false, true, true, true, false, false, false, false] _;refine zk 8 rfl (bZ rfl rfl g57 e59) ?_;show AI _ _ _ _ _ _ #[true, true, true, true, true, true, true, true, true, false, false, false, true, true, true, false, false, false, false] _;refine zk 9 rfl (bZ rfl rfl g60 e62) ?_;show AI _ _ _ _ _ _ #[true, true, true, true, true, true, true, true, true, true, false, false, true, true, true, false, false, false, false] _;refine zk 10 rfl (bZ rfl rfl g63 e65) ?_;show AI _ _ _ _ _ _ #[true, true, true, true, true, true, true, true, true, true, true, false, true, true, true, false, false, false, false] _;refine de (i := 11) (j := 15) (by kernel_rfl) rfl rfl rfl rfl ?_ ?_
    ·refine bU rfl (bq (bytes := 1) 1 ab ac rfl (by kernel_rfl) rfl rfl rfl rfl g67 e69) ?_;rintro _ _ ⟨t66, rfl, rfl⟩;show AI _ _ _ _ _ _ #[true, true, true, true, true, true, true, true, true, true, true, true, true, true, true, false, false, false, false] _;refine zk 16 rfl (aA (av := slE _ _ _) rfl) ?_;show AI _ _ _ _ _ _ #[true, true, true, true, true, true, true, true, true, true, true, true, true, true, true, false, true, false, false] _;refine aU (i := 15) (by kernel_rfl) rfl rfl <| aR rfl (am (i := 0) ac rfl rfl rfl rfl) ?_;show AI _ _ _ _ _ _ #[true, true, true, true, true, true, true, true, true, true, true, true, true, true, true, true, true, false, false] _;refine zk 17 rfl (asg rfl) ?_;show AI _ _ _ _ _ _ #[true, true, true, true, true, true, true, true, true, true, true, true, true, true, true, true, true, true, false] _;refine zk 18 rfl (asg rfl) ?_;show AI _ _ _ _ _ _ #[true, true, true, true, true, true, true, true, true, true, true, true, true, true, true, true, true, true, true] _;refine bx rfl <| aI ?_;obtain ⟨rfl, rfl, rfl⟩ := pZ H;exact And.intro rfl (Exists.intro _ (Exists.intro _ ⟨cX rfl (.tok _ _ _) (.refl _) (.refl _), aG [] rfl, rfl, rfl⟩))
    ·refine aR rfl (am (i := 0) ac rfl rfl rfl rfl) ?_;show AI _ _ _ _ _ _ #[true, true, true, true, true, true, true, true, true, true, true, false, true, true, true, true, false, false, false] _;refine aU (i := 11) (by kernel_rfl) rfl rfl <| bU rfl (bq (bytes := 1) 1 ab ac rfl (by kernel_rfl) rfl rfl rfl rfl g67 e69) ?_;rintro _ _ ⟨t70, rfl, rfl⟩;show AI _ _ _ _ _ _ #[true, true, true, true, true, true, true, true, true, true, true, true, true, true, true, true, false, false, false] _;refine zk 16 rfl (aA (av := slE _ _ _) rfl) ?_;show AI _ _ _ _ _ _ #[true, true, true, true, true, true, true, true, true, true, true, true, true, true, true, true, true, false, false] _;refine zk 17 rfl (asg rfl) ?_;show AI _ _ _ _ _ _ #[true, true, true, true, true, true, true, true, true, true, true, true, true, true, true, true, true, true, false] _;refine zk 18 rfl (asg rfl) ?_;show AI _ _ _ _ _ _ #[true, true, true, true, true, true, true, true, true, true, true, true, true, true, true, true, true, true, true] _;refine bx rfl <| aI ?_;obtain ⟨rfl, rfl, rfl⟩ := pZ H;exact And.intro rfl (Exists.intro _ (Exists.intro _ ⟨cX rfl (.tok _ _ _) (.refl _) (.refl _), aG [] rfl, rfl, rfl⟩))
   ·refine aR rfl (am (i := 0) ac rfl rfl rfl rfl) ?_;show AI _ _ _ _ _ _ #[true, true, true, true, true, true, true, false, false, false, false, false, true, true, true, true, false, false, false] _;refine aU (i := 7) (by kernel_rfl) rfl rfl <| aR rfl (am (i := 0) ac rfl rfl rfl rfl) ?_;show AI _ _ _ _ _ _ #[true, true, true, true, true, true, true, true, false, false, false, false, true, true, true, true, false, false, false] _;refine zk 8 rfl (bZ rfl rfl g57 e59) ?_;show AI _ _ _ _ _ _ #[true, true, true, true, true, true, true, true, true, false, false, false, true, true, true, true, false, false, false] _;refine zk 9 rfl (bZ rfl rfl g60 e62) ?_;show AI _ _ _ _ _ _ #[true, true, true, true, true, true, true, true, true, true, false, false, true, true, true, true, false, false, false] _;refine zk 10 rfl (bZ rfl rfl g63 e65) ?_;show AI _ _ _ _ _ _ #[true, true, true, true, true, true, true, true, true, true, true, false, true, true, true, true, false, false, false] _;refine aU (i := 11) (by kernel_rfl) rfl rfl <| bU rfl (bq (bytes := 1) 1 ab ac rfl (by kernel_rfl) rfl rfl rfl rfl g67 e69) ?_;rintro _ _ ⟨t71, rfl, rfl⟩;show AI _ _ _ _ _ _ #[true, true, true, true, true, true, true, true, true, true, true, true, true, true, true, true, false, false, false] _;refine zk 16 rfl (aA (av := slE _ _ _) rfl) ?_;show AI _ _ _ _ _ _ #[true, true, true, true, true, true, true, true, true, true, true, true, true, true, true, true, true, false, false] _
    refine zk 17 rfl (asg rfl) ?_;show AI _ _ _ _ _ _ #[true, true, true, true, true, true, true, true, true, true, true, true, true, true, true, true, true, true, false] _;refine zk 18 rfl (asg rfl) ?_;show AI _ _ _ _ _ _ #[true, true, true, true, true, true, true, true, true, true, true, true, true, true, true, true, true, true, true] _;refine bx rfl <| aI ?_;obtain ⟨rfl, rfl, rfl⟩ := pZ H;exact And.intro rfl (Exists.intro _ (Exists.intro _ ⟨cX rfl (.tok _ _ _) (.refl _) (.refl _), aG [] rfl, rfl, rfl⟩))
  ·refine aR rfl (am (i := 0) ac rfl rfl rfl rfl) ?_;show AI _ _ _ _ _ _ #[true, true, true, false, true, true, true, true, false, false, false, false, true, true, true, false, false, false, false] _;refine zk 8 rfl (bZ rfl rfl g57 e59) ?_;show AI _ _ _ _ _ _ #[true, true, true, false, true, true, true, true, true, false, false, false, true, true, true, false, false, false, false] _;refine zk 9 rfl (bZ rfl rfl g60 e62) ?_;show AI _ _ _ _ _ _ #[true, true, true, false, true, true, true, true, true, true, false, false, true, true, true, false, false, false, false] _;refine zk 10 rfl (bZ rfl rfl g63 e65) ?_;show AI _ _ _ _ _ _ #[true, true, true, false, true, true, true, true, true, true, true, false, true, true, true, false, false, false, false] _;refine de (i := 3) (j := 15) (by kernel_rfl) rfl rfl rfl rfl ?_ ?_
   ·refine aR rfl (am (i := 0) ab rfl rfl rfl rfl) ?_;show AI _ _ _ _ _ _ #[true, true, true, true, true, true, true, true, true, true, true, false, true, true, true, false, false, false, false] _;refine de (i := 11) (j := 15) (by kernel_rfl) rfl rfl rfl rfl ?_ ?_
    ·refine bU rfl (bq (bytes := 1) 1 ab ac rfl (by kernel_rfl) rfl rfl rfl rfl g67 e69) ?_;rintro _ _ ⟨t72, rfl, rfl⟩;show AI _ _ _ _ _ _ #[true, true, true, true, true, true, true, true, true, true, true, true, true, true, true, false, false, false, false] _;refine zk 16 rfl (aA (av := slE _ _ _) rfl) ?_;show AI _ _ _ _ _ _ #[true, true, true, true, true, true, true, true, true, true, true, true, true, true, true, false, true, false, false] _;refine aU (i := 15) (by kernel_rfl) rfl rfl <| aR rfl (am (i := 0) ac rfl rfl rfl rfl) ?_;show AI _ _ _ _ _ _ #[true, true, true, true, true, true, true, true, true, true, true, true, true, true, true, true, true, false, false] _;refine zk 17 rfl (asg rfl) ?_;show AI _ _ _ _ _ _ #[true, true, true, true, true, true, true, true, true, true, true, true, true, true, true, true, true, true, false] _;refine zk 18 rfl (asg rfl) ?_;show AI _ _ _ _ _ _ #[true, true, true, true, true, true, true, true, true, true, true, true, true, true, true, true, true, true, true] _;refine bx rfl <| aI ?_;obtain ⟨rfl, rfl, rfl⟩ := pZ H;exact And.intro rfl (Exists.intro _ (Exists.intro _ ⟨cX rfl (.tok _ _ _) (.refl _) (.refl _), aG [] rfl, rfl, rfl⟩))
    ·refine aR rfl (am (i := 0) ac rfl rfl rfl rfl) ?_;show AI _ _ _ _ _ _ #[true, true, true, true, true, true, true, true, true, true, true, false, true, true, true, true, false, false, false] _;refine aU (i := 11) (by kernel_rfl) rfl rfl <| bU rfl (bq (bytes := 1) 1 ab ac rfl (by kernel_rfl) rfl rfl rfl rfl g67 e69) ?_;rintro _ _ ⟨t73, rfl, rfl⟩;show AI _ _ _ _ _ _ #[true, true, true, true, true, true, true, true, true, true, true, true, true, true, true, true, false, false, false] _;refine zk 16 rfl (aA (av := slE _ _ _) rfl) ?_;show AI _ _ _ _ _ _ #[true, true, true, true, true, true, true, true, true, true, true, true, true, true, true, true, true, false, false] _;refine zk 17 rfl (asg rfl) ?_;show AI _ _ _ _ _ _ #[true, true, true, true, true, true, true, true, true, true, true, true, true, true, true, true, true, true, false] _;refine zk 18 rfl (asg rfl) ?_;show AI _ _ _ _ _ _ #[true, true, true, true, true, true, true, true, true, true, true, true, true, true, true, true, true, true, true] _;refine bx rfl <| aI ?_;obtain ⟨rfl, rfl, rfl⟩ := pZ H;exact And.intro rfl (Exists.intro _ (Exists.intro _ ⟨cX rfl (.tok _ _ _) (.refl _) (.refl _), aG [] rfl, rfl, rfl⟩))
   ·refine aR rfl (am (i := 0) ac rfl rfl rfl rfl) ?_;show AI _ _ _ _ _ _ #[true, true, true, false, true, true, true, true, true, true, true, false, true, true, true, true, false, false, false] _;refine aU (i := 3) (by kernel_rfl) rfl rfl <| aR rfl (am (i := 0) ab rfl rfl rfl rfl) ?_;show AI _ _ _ _ _ _ #[true, true, true, true, true, true, true, true, true, true, true, false, true, true, true, true, false, false, false] _;refine aU (i := 11) (by kernel_rfl) rfl rfl <| bU rfl (bq (bytes := 1) 1 ab ac rfl (by kernel_rfl) rfl rfl rfl rfl g67 e69) ?_;rintro _ _ ⟨t74, rfl, rfl⟩;show AI _ _ _ _ _ _ #[true, true, true, true, true, true, true, true, true, true, true, true, true, true, true, true, false, false, false] _;refine zk 16 rfl (aA (av := slE _ _ _) rfl) ?_;show AI _ _ _ _ _ _ #[true, true, true, true, true, true, true, true, true, true, true, true, true, true, true, true, true, false, false] _;refine zk 17 rfl (asg rfl) ?_;show AI _ _ _ _ _ _ #[true, true, true, true, true, true, true, true, true, true, true, true, true, true, true, true, true, true, false] _;refine zk 18 rfl (asg rfl) ?_;show AI _ _ _ _ _ _ #[true, true, true, true, true, true, true, true, true, true, true, true, true, true, true, true, true, true, true] _;refine bx rfl <| aI ?_;obtain ⟨rfl, rfl, rfl⟩ := pZ H;exact And.intro rfl (Exists.intro _ (Exists.intro _ ⟨cX rfl (.tok _ _ _) (.refl _) (.refl _), aG [] rfl, rfl, rfl⟩))
  ·refine aR rfl (am (i := 0) ac rfl rfl rfl rfl) ?_;show AI _ _ _ _ _ _ #[true, true, true, false, true, true, true, false, false, false, false, false, true, true, true, true, false, false, false] _;refine de (i := 3) (j := 7) (by kernel_rfl) rfl rfl rfl rfl ?_ ?_
   ·refine aR rfl (am (i := 0) ab rfl rfl rfl rfl) ?_;show AI _ _ _ _ _ _ #[true, true, true, true, true, true, true, false, false, false, false, false, true, true, true, true, false, false, false] _;refine aU (i := 7) (by kernel_rfl) rfl rfl <| aR rfl (am (i := 0) ac rfl rfl rfl rfl) ?_;show AI _ _ _ _ _ _ #[true, true, true, true, true, true, true, true, false, false, false, false, true, true, true, true, false, false, false] _;refine zk 8 rfl (bZ rfl rfl g57 e59) ?_;show AI _ _ _ _ _ _ #[true, true, true, true, true, true, true, true, true, false, false, false, true, true, true, true, false, false, false] _;refine zk 9 rfl (bZ rfl rfl g60 e62) ?_;show AI _ _ _ _ _ _ #[true, true, true, true, true, true, true, true, true, true, false, false, true, true, true, true, false, false, false] _;refine zk 10 rfl (bZ rfl rfl g63 e65) ?_;show AI _ _ _ _ _ _ #[true, true, true, true, true, true, true, true, true, true, true, false, true, true, true, true, false, false, false] _;refine aU (i := 11) (by kernel_rfl) rfl rfl <| bU rfl (bq (bytes := 1) 1 ab ac rfl (by kernel_rfl) rfl rfl rfl rfl g67 e69) ?_;rintro _ _ ⟨t75, rfl, rfl⟩;show AI _ _ _ _ _ _ #[true, true, true, true, true, true, true, true, true, true, true, true, true, true, true, true, false, false, false] _;refine zk 16 rfl (aA (av := slE _ _ _) rfl) ?_;show AI _ _ _ _ _ _ #[true, true, true, true, true, true, true, true, true, true, true, true, true, true, true, true, true, false, false] _
    refine zk 17 rfl (asg rfl) ?_;show AI _ _ _ _ _ _ #[true, true, true, true, true, true, true, true, true, true, true, true, true, true, true, true, true, true, false] _;refine zk 18 rfl (asg rfl) ?_;show AI _ _ _ _ _ _ #[true, true, true, true, true, true, true, true, true, true, true, true, true, true, true, true, true, true, true] _;refine bx rfl <| aI ?_;obtain ⟨rfl, rfl, rfl⟩ := pZ H;exact And.intro rfl (Exists.intro _ (Exists.intro _ ⟨cX rfl (.tok _ _ _) (.refl _) (.refl _), aG [] rfl, rfl, rfl⟩))
   ·refine aR rfl (am (i := 0) ac rfl rfl rfl rfl) ?_;show AI _ _ _ _ _ _ #[true, true, true, false, true, true, true, true, false, false, false, false, true, true, true, true, false, false, false] _;refine zk 8 rfl (bZ rfl rfl g57 e59) ?_;show AI _ _ _ _ _ _ #[true, true, true, false, true, true, true, true, true, false, false, false, true, true, true, true, false, false, false] _;refine zk 9 rfl (bZ rfl rfl g60 e62) ?_;show AI _ _ _ _ _ _ #[true, true, true, false, true, true, true, true, true, true, false, false, true, true, true, true, false, false, false] _;refine zk 10 rfl (bZ rfl rfl g63 e65) ?_;show AI _ _ _ _ _ _ #[true, true, true, false, true, true, true, true, true, true, true, false, true, true, true, true, false, false, false] _;refine aU (i := 3) (by kernel_rfl) rfl rfl <| aR rfl (am (i := 0) ab rfl rfl rfl rfl) ?_;show AI _ _ _ _ _ _ #[true, true, true, true, true, true, true, true, true, true, true, false, true, true, true, true, false, false, false] _;refine aU (i := 11) (by kernel_rfl) rfl rfl <| bU rfl (bq (bytes := 1) 1 ab ac rfl (by kernel_rfl) rfl rfl rfl rfl g67 e69) ?_;rintro _ _ ⟨t76, rfl, rfl⟩;show AI _ _ _ _ _ _ #[true, true, true, true, true, true, true, true, true, true, true, true, true, true, true, true, false, false, false] _;refine zk 16 rfl (aA (av := slE _ _ _) rfl) ?_;show AI _ _ _ _ _ _ #[true, true, true, true, true, true, true, true, true, true, true, true, true, true, true, true, true, false, false] _
    refine zk 17 rfl (asg rfl) ?_;show AI _ _ _ _ _ _ #[true, true, true, true, true, true, true, true, true, true, true, true, true, true, true, true, true, true, false] _;refine zk 18 rfl (asg rfl) ?_;show AI _ _ _ _ _ _ #[true, true, true, true, true, true, true, true, true, true, true, true, true, true, true, true, true, true, true] _;refine bx rfl <| aI ?_;obtain ⟨rfl, rfl, rfl⟩ := pZ H;exact And.intro rfl (Exists.intro _ (Exists.intro _ ⟨cX rfl (.tok _ _ _) (.refl _) (.refl _), aG [] rfl, rfl, rfl⟩))
end Go.Proofs.YtjegcifofddgbaaGreatDoor
namespace Go.Pv
def rm : List UInt8 := [116, 101, 120, 116, 47, 112, 108, 97, 105, 110, 59, 32, 99, 104, 97, 114, 115, 101, 116, 61, 117, 116, 102, 45, 56]
def rl : List UInt8 := [116, 101, 120, 116, 47, 104, 116, 109, 108, 59, 32, 99, 104, 97, 114, 115, 101, 116, 61, 117, 116, 102, 45, 56]
def digb_k3 : List UInt8 := [109, 117, 108, 116, 105, 112, 97, 114, 116, 47, 97, 108, 116, 101, 114, 110, 97, 116, 105, 118, 101, 59, 32, 98, 111, 117, 110, 100, 97, 114, 121, 61, 34]
def kR (F : Nat) (a1 : Int) (a2 : Int) : Option ((List UInt8)) :=
grd (okI a1) <|
lt (Go.Lib.itoa a1) fun x5 =>
grd (bu (([68, 105, 103, 101, 115, 116, 32] : List UInt8).length + x5.length)) <|
lt (([68, 105, 103, 101, 115, 116, 32] : List UInt8) ++ x5) fun x8 =>
grd (bu (x8.length + ([58, 32] : List UInt8).length)) <|
lt (x8 ++ ([58, 32] : List UInt8)) fun x11 =>
grd (okI a2) <|
lt (Go.Lib.itoa a2) fun x14 =>
grd (bu (x11.length + x14.length)) <|
lt (x11 ++ x14) fun x17 =>
bif decide (a2 = 1) then
  grd (bu (x17.length + ([32, 101, 110, 116, 114, 121] : List UInt8).length)) <|
  lt (x17 ++ ([32, 101, 110, 116, 114, 121] : List UInt8)) fun x21 =>
  some x21
else
  grd (bu (x17.length + ([32, 101, 110, 116, 114, 105, 101, 115] : List UInt8).length)) <|
  lt (x17 ++ ([32, 101, 110, 116, 114, 105, 101, 115] : List UInt8)) fun x24 =>
  some x24
def nE (F : Nat) (a1 : List UInt8) (a2 : Int) (a3 : Int) (a4 : Int) (a5 : Int) (a6 : List (Int × Int × (List UInt8) × (List UInt8) × (List UInt8) × (List UInt8) × Int)) : Option ((List UInt8) × Int) :=
fe (gY F a2 a3) fun x10 x11 =>
bif !decide (x11 = 0) then
  some ([], x11)
else
  bnd (kU F a1) fun x14 =>
  bif !x14 then
    some ([], 1)
  else
    bif decide ((a6.length : Int) = 0) then
      some ([], 3)
    else
      fe (lT F a4 a5) fun x18 x19 =>
      bif !decide (x19 = 0) then
        some ([], x19)
      else
        bnd (mP F a6) fun x22 =>
        grd (bu x22.length) <|
        bnd (mQ F a6) fun x26 =>
        grd (bu x26.length) <|
        bnd3 (np F ([rm, rl] : List (List UInt8)) ([x22, x26] : List (List UInt8))) fun x30 x31 x32 =>
        bif !decide (x32 = 0) then
          some ([], x32)
        else
          bnd (kR F a3 (a6.length : Int)) fun x35 =>
          grd (bu (digb_k3.length + x31.length)) <|
          lt (digb_k3 ++ x31) fun x38 =>
          grd (bu (x38.length + ([34] : List UInt8).length)) <|
          lt (x38 ++ ([34] : List UInt8)) fun x41 =>
          fe (jC F ([(([70, 114, 111, 109] : List UInt8), ([100, 105, 103, 101, 115, 116, 64, 109, 97, 105, 108, 99, 111, 97, 99, 104] : List UInt8)), (([84, 111] : List UInt8), a1), (([83, 117, 98, 106, 101, 99, 116] : List UInt8), x35), (([68, 97, 116, 101] : List UInt8), x18), (([77, 101, 115, 115, 97, 103, 101, 45, 73, 68] : List UInt8), x10), (([77, 73, 77, 69, 45, 86, 101, 114, 115, 105, 111, 110] : List UInt8), ([49, 46, 48] : List UInt8)), (([67, 111, 110, 116, 101, 110, 116, 45, 84, 121, 112, 101] : List UInt8), x41)] : List ((List UInt8) × List UInt8))) fun x43 x44 =>
          grd (bu (x43.length + x30.length)) <|
          lt (x43 ++ x30) fun x50 =>
          some (x50, x44)
end Go.Pv
namespace Go.Proofs.YtjegcifofddgbaaGreatDoor
open Go.RowKit Go.Av Go.Pv
theorem wa : ∀ (args : Array Value) (w : World), (callFunc 11 args).run Tryz.prog w = .ok (.enter 11 args) w := fun _ _ => by kernel_rfl
theorem vW : ∀ (args : Array Value) (w : World), (callFunc 17 args).run Tryz.prog w = .ok (.enter 17 args) w := fun _ _ => by kernel_rfl
theorem vS : ∀ (args : Array Value) (w : World), (callFunc 21 args).run Tryz.prog w = .ok (.enter 21 args) w := fun _ _ => by kernel_rfl
theorem vG : ∀ (args : Array Value) (w : World), (callFunc 27 args).run Tryz.prog w = .ok (.enter 27 args) w := fun _ _ => by kernel_rfl
theorem vF : ∀ (args : Array Value) (w : World), (callFunc 28 args).run Tryz.prog w = .ok (.enter 28 args) w := fun _ _ => by kernel_rfl
theorem vE : ∀ (args : Array Value) (w : World), (callFunc 29 args).run Tryz.prog w = .ok (.enter 29 args) w := fun _ _ => by kernel_rfl
theorem vD : ∀ (args : Array Value) (w : World), (callFunc 30 args).run Tryz.prog w = .ok (.enter 30 args) w := fun _ _ => by kernel_rfl
theorem vC : ∀ (args : Array Value) (w : World), (callFunc 31 args).run Tryz.prog w = .ok (.enter 31 args) w := fun _ _ => by kernel_rfl
theorem qt : ∀ (args : Array Value) (w : World), (callFunc 58 args).run Tryz.prog w = .ok (.enter 58 args) w := fun _ _ => by kernel_rfl
set_option maxRecDepth 100000 in
set_option maxHeartbeats 1000000 in
theorem pK (F : Nat) (a1 : Int) (a2 : Int) (r3 : List UInt8) (H : kR F a1 a2 = some r3) : ACalls Tryz.prog 31 [i64 a1, i64 a2] [] (Ret (S r3) []) := by
 unfold kR at H
 refine aw Tryz.func31 rfl rfl ?_;show AW _ _ 19 _ _ _;refine af <| aa ?_;show AR _ _ _ _ _ [0] _;refine za rfl <| ag <| af ?_;obtain ⟨g4, H⟩ := ax H;obtain ⟨x5, e6, H⟩ := bf H;obtain ⟨g7, H⟩ := ax H;obtain ⟨x8, e9, H⟩ := bf H;obtain ⟨g10, H⟩ := ax H;obtain ⟨x11, e12, H⟩ := bf H;obtain ⟨g13, H⟩ := ax H;obtain ⟨x14, e15, H⟩ := bf H;obtain ⟨g16, H⟩ := ax H;obtain ⟨x17, e18, H⟩ := bf H;refine aa ?_;show AR _ _ _ _ _ [0, 1, 2, 3, 4, 5, 6, 7] _;refine zm rfl <| ao rfl rfl (aD rfl qt rfl (show ACalls _ _ _ [] (Ret (S x5) []) from by subst e6; exact gg a1 (mo g4)) ?_);refine zS rfl (bZ rfl rfl g7 e9) <| zS rfl (bZ rfl rfl g10 e12) <| zm rfl <| ao rfl rfl (aD rfl qt rfl (show ACalls _ _ _ [] (Ret (S x14) []) from by subst e15; exact gg a2 (mo g13)) ?_);refine zS rfl (bZ rfl rfl g16 e18) <| za rfl <| ag <| af <| af <| aa ?_;show AR _ _ _ _ _ [0, 1] _;refine zm rfl <| zS rfl (cc rfl rfl) <| ag <| ay rfl (fun c19 => ?_) (fun c19 => ?_)
 ·replace H := aZ c19 H;refine af ?_;obtain ⟨g20, H⟩ := ax H;obtain ⟨x21, e22, H⟩ := bf H;refine aa ?_;show AR _ _ _ _ _ [0, 1, 2] _;refine zm rfl <| zS rfl (bZ rfl rfl g20 e22) <| za rfl <| ag <| aI ?_;obtain rfl := ap H;exact And.intro rfl (Exists.intro _ (Exists.intro _ ⟨aH rfl (.refl _), aG [] rfl, rfl, rfl⟩))
 ·replace H := ba c19 H;refine aC <| af ?_;obtain ⟨g23, H⟩ := ax H;obtain ⟨x24, e25, H⟩ := bf H;refine aa ?_;show AR _ _ _ _ _ [0, 1, 2] _;refine zm rfl <| zS rfl (bZ rfl rfl g23 e25) <| za rfl <| ag <| aI ?_;obtain rfl := ap H;exact And.intro rfl (Exists.intro _ (Exists.intro _ ⟨aH rfl (.refl _), aG [] rfl, rfl, rfl⟩))
set_option maxRecDepth 100000 in
set_option maxHeartbeats 1000000 in
theorem rS (F : Nat) (a1 : List UInt8) (a2 : Int) (a3 : Int) (a4 : Int) (a5 : Int) (a6 : List (Int × Int × (List UInt8) × (List UInt8) × (List UInt8) × (List UInt8) × Int)) (q7 : Option Nat) (r8 : List UInt8) (r9 : Int) (H : nE F a1 a2 a3 a4 a5 a6 = some (r8, r9)) : ACalls Tryz.prog 13 [S a1, i64 a2, i64 a3, i64 a4, i64 a5, slE (aV Enc.int (aV Enc.int (aV Enc.str (aV Enc.str (aV Enc.str (aV Enc.str Enc.int)))))) a6 q7] [] (Ret (.tup [slE Enc.byte r8 none, i64 r9]) []) := by
 unfold nE at H
 refine aw Tryz.func13 rfl rfl ?_;show AW _ _ 89 _ _ _;refine af <| aa ?_;show AR _ _ _ _ _ [0, 1] _;refine za rfl <| za rfl <| ag <| af ?_;obtain ⟨x10, x11, e12, H⟩ := cF H;refine aa ?_;show AR _ _ _ _ _ [0, 1, 2, 3, 4, 5, 6, 7] _;refine zm rfl <| zm rfl <| ao rfl rfl (aD rfl vS rfl (la F a2 a3 x10 x11 e12) ?_);refine zS rfl (aj (av := .tup _) rfl) <| zS rfl (aB (av := .v _) rfl rfl) <| zS rfl (aB (av := .v _) rfl rfl) <| za rfl <| za rfl <| ag <| af <| aN <| af <| aa ?_;show AR _ _ _ _ _ [0, 1, 2] _;refine zm rfl <| zS rfl (cG rfl rfl) <| za rfl <| ag <| ay rfl (fun c13 => ?_) (fun c13 => ?_)
 ·replace H := aZ c13 H;refine af <| aa ?_;show AR _ _ _ _ _ [0, 1, 2] _;refine zm rfl <| za rfl <| za rfl <| ag <| aI ?_;obtain ⟨rfl, rfl⟩ := cQ H;exact And.intro rfl (Exists.intro _ (Exists.intro _ ⟨bc rfl (.nil _) (.refl _), aG [] rfl, rfl, rfl⟩))
 ·replace H := ba c13 H;refine af ?_;obtain ⟨x14, e15, H⟩ := bL H;refine aa ?_;show AR _ _ _ _ _ [0, 1, 2, 3] _;refine zm rfl <| ao rfl rfl (aD rfl vG rfl (pL F a1 x14 e15) ?_);refine zS rfl (co rfl) <| za rfl <| ag <| ay rfl (fun c16 => ?_) (fun c16 => ?_)
  ·replace H := aZ c16 H;refine af <| aa ?_;show AR _ _ _ _ _ [0, 1] _;refine za rfl <| za rfl <| ag <| aI ?_;obtain ⟨rfl, rfl⟩ := cQ H;exact And.intro rfl (Exists.intro _ (Exists.intro _ ⟨bc rfl (.nil _) (.refl _), aG [] rfl, rfl, rfl⟩))
  ·replace H := ba c16 H;refine af <| aa ?_;show AR _ _ _ _ _ [0, 1, 2, 3] _;refine zS rfl (aj (av := slE _ _ _) rfl) <| zS rfl (aQ da rfl) <| zS rfl (cc rfl rfl) <| za rfl <| ag <| ay rfl (fun c17 => ?_) (fun c17 => ?_)
   ·replace H := aZ c17 H;refine af <| aa ?_;show AR _ _ _ _ _ [0, 1] _;refine za rfl <| za rfl <| ag <| aI ?_;obtain ⟨rfl, rfl⟩ := cQ H;exact And.intro rfl (Exists.intro _ (Exists.intro _ ⟨bc rfl (.nil _) (.refl _), aG [] rfl, rfl, rfl⟩))
   ·replace H := ba c17 H;refine aC <| af ?_;obtain ⟨x18, x19, e20, H⟩ := cF H;refine aa ?_;show AR _ _ _ _ _ [0, 1, 2, 3, 4, 5, 6, 7] _;refine zm rfl <| zm rfl <| ao rfl rfl (aD rfl vF rfl (qK F a4 a5 x18 x19 e20) ?_);refine zS rfl (aj (av := .tup _) rfl) <| zS rfl (aB (av := .v _) rfl rfl) <| zS rfl (aB (av := .v _) rfl rfl) <| za rfl <| za rfl <| ag <| af <| af <| aa ?_;show AR _ _ _ _ _ [0, 1] _;refine zm rfl <| zS rfl (cG rfl rfl) <| ag <| ay rfl (fun c21 => ?_) (fun c21 => ?_)
    ·replace H := aZ c21 H;refine af <| aa ?_;show AR _ _ _ _ _ [0, 1, 2] _;refine zm rfl <| za rfl <| za rfl <| ag <| aI ?_;obtain ⟨rfl, rfl⟩ := cQ H;exact And.intro rfl (Exists.intro _ (Exists.intro _ ⟨bc rfl (.nil _) (.refl _), aG [] rfl, rfl, rfl⟩))
    ·replace H := ba c21 H;refine aC <| af ?_;obtain ⟨x22, e23, H⟩ := bL H;obtain ⟨g24, H⟩ := ax H;obtain ⟨x26, e27, H⟩ := bL H;obtain ⟨g28, H⟩ := ax H;obtain ⟨x30, x31, x32, e33, H⟩ := uG H;refine aa ?_;show AR _ _ _ _ _ [0, 1, 2, 3, 4, 5, 6, 7, 8, 9, 10, 11, 12, 13, 14, 15] _;refine zR rfl (bI (E := Enc.str) (bytes := 16) (xs := [.const _, .const _]) (l := ([rm, rl] : List (List UInt8))) an (by kernel_rfl) rfl rfl (by decide) rfl rfl) <| zS rfl (aj (av := slE _ _ _) rfl) <| ao rfl rfl (aD rfl vW rfl (oS F a6 q7 x22 e23) ?_);refine zX rfl (ck (bytes := 1) ac ab aW rfl g24) ?_;rintro _ _ ⟨t25, rfl, rfl⟩;refine zS rfl (aj (av := slE _ _ _) rfl) <| ao rfl rfl (aD rfl wa rfl (oT F a6 q7 x26 e27) ?_);refine zX rfl (ck (bytes := 1) ac ab aW rfl g28) ?_;rintro _ _ ⟨t29, rfl, rfl⟩;refine zR rfl (qG 51 (.tok _ _ _) <| qG 54 (.tok _ _ _) <| bI (E := (Enc.sl Enc.byte)) (bytes := 24) (xs := [.tmp 51, .tmp 54]) (l := ([x22, x26] : List (List UInt8))) bD (by kernel_rfl) rfl rfl (by decide) rfl rfl) <| ao rfl rfl (aD rfl vE rfl (rH F ([rm, rl] : List (List UInt8)) none ([x22, x26] : List (List UInt8)) none x30 x31 x32 e33) ?_)
     refine zS rfl (aj (av := .tup _) rfl) <| zS rfl (aB (av := slE _ _ _) rfl rfl) <| zS rfl (aB (av := .v _) rfl rfl) <| zS rfl (aB (av := .v _) rfl rfl) <| zS rfl (aA (av := slE _ _ _) rfl) <| za rfl <| za rfl <| ag <| af <| af <| aa ?_;show AR _ _ _ _ _ [0, 1] _;refine zm rfl <| zS rfl (cG rfl rfl) <| ag <| ay rfl (fun c34 => ?_) (fun c34 => ?_)
     ·replace H := aZ c34 H;refine af <| aa ?_;show AR _ _ _ _ _ [0, 1, 2] _;refine zm rfl <| za rfl <| za rfl <| ag <| aI ?_;obtain ⟨rfl, rfl⟩ := cQ H;exact And.intro rfl (Exists.intro _ (Exists.intro _ ⟨bc rfl (.nil _) (.refl _), aG [] rfl, rfl, rfl⟩))
     ·replace H := ba c34 H;refine aC <| af ?_;obtain ⟨x35, e36, H⟩ := bL H;obtain ⟨g37, H⟩ := ax H;obtain ⟨x38, e39, H⟩ := bf H;obtain ⟨g40, H⟩ := ax H;obtain ⟨x41, e42, H⟩ := bf H;obtain ⟨x43, x44, e45, H⟩ := cF H;refine aa ?_;show AR _ _ _ _ _ [0, 1, 2, 3, 4, 5, 6, 7, 8, 9, 10, 11, 12, 13, 14, 15, 16, 17, 18, 19, 20, 21, 22, 23] _;refine zS rfl (cZ (zs := [.string ⟨#[]⟩, .string ⟨#[]⟩]) (ps := [(0, 1), (1, 1)]) (cs := [S ([70, 114, 111, 109] : List UInt8), S ([100, 105, 103, 101, 115, 116, 64, 109, 97, 105, 108, 99, 111, 97, 99, 104] : List UInt8)]) (by kernel_rfl) rfl rfl) <| zm rfl <| zS rfl (cZ (zs := [.string ⟨#[]⟩, .string ⟨#[]⟩]) (ps := [(0, 1), (1, 1)]) (cs := [S ([84, 111] : List UInt8), S a1]) (by kernel_rfl) rfl rfl) <| zm rfl <| zS rfl (aj (av := slE _ _ _) rfl) <| zS rfl (aQ da rfl) <| ao rfl rfl (aD rfl vC rfl (pK F a3 (a6.length : Int) x35 e36) ?_)
      refine zS rfl (cZ (zs := [.string ⟨#[]⟩, .string ⟨#[]⟩]) (ps := [(0, 1), (1, 1)]) (cs := [S ([83, 117, 98, 106, 101, 99, 116] : List UInt8), S x35]) (by kernel_rfl) rfl rfl) <| zm rfl <| zS rfl (cZ (zs := [.string ⟨#[]⟩, .string ⟨#[]⟩]) (ps := [(0, 1), (1, 1)]) (cs := [S ([68, 97, 116, 101] : List UInt8), S x18]) (by kernel_rfl) rfl rfl) <| zm rfl <| zS rfl (cZ (zs := [.string ⟨#[]⟩, .string ⟨#[]⟩]) (ps := [(0, 1), (1, 1)]) (cs := [S ([77, 101, 115, 115, 97, 103, 101, 45, 73, 68] : List UInt8), S x10]) (by kernel_rfl) rfl rfl) <| zS rfl (cZ (zs := [.string ⟨#[]⟩, .string ⟨#[]⟩]) (ps := [(0, 1), (1, 1)]) (cs := [S ([77, 73, 77, 69, 45, 86, 101, 114, 115, 105, 111, 110] : List UInt8), S ([49, 46, 48] : List UInt8)]) (by kernel_rfl) rfl rfl) <| zm rfl <| zS rfl (bZ rfl rfl g37 e39) <| zS rfl (bZ rfl rfl g40 e42) <| zS rfl (cZ (zs := [.string ⟨#[]⟩, .string ⟨#[]⟩]) (ps := [(0, 1), (1, 1)]) (cs := [S ([67, 111, 110, 116, 101, 110, 116, 45, 84, 121, 112, 101] : List UInt8), S x41]) (by kernel_rfl) rfl rfl) <| zR rfl (jP (E := (aV Enc.str Enc.str)) (bytes := 32) (zs := [.string ⟨#[]⟩, .string ⟨#[]⟩]) (l := ([(([70, 114, 111, 109] : List UInt8), ([100, 105, 103, 101, 115, 116, 64, 109, 97, 105, 108, 99, 111, 97, 99, 104] : List UInt8)), (([84, 111] : List UInt8), a1), (([83, 117, 98, 106, 101, 99, 116] : List UInt8), x35), (([68, 97, 116, 101] : List UInt8), x18), (([77, 101, 115, 115, 97, 103, 101, 45, 73, 68] : List UInt8), x10), (([77, 73, 77, 69, 45, 86, 101, 114, 115, 105, 111, 110] : List UInt8), ([49, 46, 48] : List UInt8)), (([67, 111, 110, 116, 101, 110, 116, 45, 84, 121, 112, 101] : List UInt8), x41)] : List ((List UInt8) × List UInt8))) dC (by kernel_rfl) (by kernel_rfl) rfl rfl rfl rfl rfl) <| ao rfl rfl (bC [] rfl vD rfl (rL F ([(([70, 114, 111, 109] : List UInt8), ([100, 105, 103, 101, 115, 116, 64, 109, 97, 105, 108, 99, 111, 97, 99, 104] : List UInt8)), (([84, 111] : List UInt8), a1), (([83, 117, 98, 106, 101, 99, 116] : List UInt8), x35), (([68, 97, 116, 101] : List UInt8), x18), (([77, 101, 115, 115, 97, 103, 101, 45, 73, 68] : List UInt8), x10), (([77, 73, 77, 69, 45, 86, 101, 114, 115, 105, 111, 110] : List UInt8), ([49, 46, 48] : List UInt8)), (([67, 111, 110, 116, 101, 110, 116, 45, 84, 121, 112, 101] : List UInt8), x41)] : List ((List UInt8) × List UInt8)) none x43 x44 e45) rfl (fun c A' h => by obtain ⟨_, _, h, _⟩ := h; cases h) ?_)
      rintro av A' ⟨t46, c47, h, rfl, hc47⟩; cases h
      refine zS rfl (aj (av := .tup _) rfl) <| zS rfl (aB (av := slE _ _ _) rfl rfl) <| zS rfl (aB (av := .v _) rfl rfl) <| zS rfl (aA (av := slE _ _ _) rfl) <| za rfl <| ag <| af ?_;obtain ⟨g49, H⟩ := ax H;obtain ⟨x50, e51, H⟩ := bf H;refine aa ?_;show AR _ _ _ _ _ [0, 1, 2, 3, 4, 5] _;refine zS rfl (aj (av := slE _ _ _) rfl) <| zS rfl (aj (av := slE _ _ _) rfl) <| zX rfl (vl (E := Enc.byte) (bytes := 1) 0 hc47 ab ab rfl (by kernel_rfl) rfl rfl rfl rfl g49 e51) ?_;rintro _ _ ⟨t48, c52, hc52, rfl, rfl⟩;refine zm rfl <| zS rfl (aA (av := slE _ _ _) rfl) <| za rfl <| ag <| aI ?_;obtain ⟨rfl, rfl⟩ := cQ H;exact And.intro rfl (Exists.intro _ (Exists.intro _ ⟨bc rfl (.tok _ _ _) (.refl _), aG [] rfl, rfl, rfl⟩))
end Go.Proofs.YtjegcifofddgbaaGreatDoor
namespace Go.Pv
def uQ : List UInt8 := [60, 117, 108, 62, 10, 60, 108, 105, 62, 60, 97, 32, 104, 114, 101, 102, 61, 34, 117, 34, 62, 84, 60, 47, 97, 62, 60, 47, 108, 105, 62, 10, 60, 47, 117, 108, 62, 10]
def gh (F : Nat) : Option Bool :=
fe (gY F 3 12) fun x2 x3 =>
bnd3 (hZ F ([60, 49, 50, 46, 51, 64, 109, 97, 105, 108, 99, 111, 97, 99, 104, 62] : List UInt8)) fun x5 x6 x7 =>
fe (nE F ([97, 64, 98] : List UInt8) 1 1 0 0 ([(0, 0, (([] : List UInt8), ([84] : List UInt8), ([117] : List UInt8), ([60, 112, 62, 120] : List UInt8), 0))] : List (Int × Int × (List UInt8) × (List UInt8) × (List UInt8) × (List UInt8) × Int))) fun x9 x10 =>
jD ((((((decide (x3 = 0)) && (decide (x7 = 0))) && (decide (x10 = 0))) && (decide (x2 = ([60, 49, 50, 46, 51, 64, 109, 97, 105, 108, 99, 111, 97, 99, 104, 62] : List UInt8)))) && (decide (x5 = 3))) && (decide (x6 = 12))) (mP F ([(0, 0, (([] : List UInt8), ([84] : List UInt8), ([117] : List UInt8), ([60, 112, 62, 120] : List UInt8), 0))] : List (Int × Int × (List UInt8) × (List UInt8) × (List UInt8) × (List UInt8) × Int))) fun x18 =>
jD (((((((decide (x3 = 0)) && (decide (x7 = 0))) && (decide (x10 = 0))) && (decide (x2 = ([60, 49, 50, 46, 51, 64, 109, 97, 105, 108, 99, 111, 97, 99, 104, 62] : List UInt8)))) && (decide (x5 = 3))) && (decide (x6 = 12))) && (decide (x18 = ([84, 10, 117, 10, 120, 10, 10] : List UInt8)))) (mQ F ([(0, 0, (([] : List UInt8), ([84] : List UInt8), ([117] : List UInt8), ([60, 112, 62, 120] : List UInt8), 0))] : List (Int × Int × (List UInt8) × (List UInt8) × (List UInt8) × (List UInt8) × Int))) fun x21 =>
some ((((((((decide (x3 = 0)) && (decide (x7 = 0))) && (decide (x10 = 0))) && (decide (x2 = ([60, 49, 50, 46, 51, 64, 109, 97, 105, 108, 99, 111, 97, 99, 104, 62] : List UInt8)))) && (decide (x5 = 3))) && (decide (x6 = 12))) && (decide (x18 = ([84, 10, 117, 10, 120, 10, 10] : List UInt8)))) && (decide (x21 = uQ)))
end Go.Pv
namespace Go.Proofs.YtjegcifofddgbaaGreatDoor
open Go.RowKit Go.Av Go.Pv
theorem vZ : ∀ (args : Array Value) (w : World), (callFunc 11 args).run Tryz.prog w = .ok (.enter 11 args) w := fun _ _ => by kernel_rfl
theorem vY : ∀ (args : Array Value) (w : World), (callFunc 13 args).run Tryz.prog w = .ok (.enter 13 args) w := fun _ _ => by kernel_rfl
theorem vX : ∀ (args : Array Value) (w : World), (callFunc 15 args).run Tryz.prog w = .ok (.enter 15 args) w := fun _ _ => by kernel_rfl
theorem vV : ∀ (args : Array Value) (w : World), (callFunc 17 args).run Tryz.prog w = .ok (.enter 17 args) w := fun _ _ => by kernel_rfl
theorem vR : ∀ (args : Array Value) (w : World), (callFunc 21 args).run Tryz.prog w = .ok (.enter 21 args) w := fun _ _ => by kernel_rfl
set_option maxRecDepth 100000 in
set_option maxHeartbeats 1000000 in
theorem pG (F : Nat) (r1 : Bool) (H : gh F = some r1) : ACalls Tryz.prog 9 [] [] (Ret (B r1) []) := by
 unfold gh at H
 refine aw Tryz.func9 rfl rfl ?_;show AW _ _ 58 _ _ _;refine af <| aa ?_;show AR _ _ _ _ _ [0] _;refine za rfl <| ag <| af ?_;obtain ⟨x2, x3, e4, H⟩ := cF H;refine aa ?_;show AR _ _ _ _ _ [0, 1, 2, 3, 4, 5] _;refine ao rfl rfl (aD rfl vR rfl (la F 3 12 x2 x3 e4) ?_);refine zS rfl (aj (av := .tup _) rfl) <| zS rfl (aB (av := .v _) rfl rfl) <| zS rfl (aB (av := .v _) rfl rfl) <| za rfl <| za rfl <| ag <| af ?_;obtain ⟨x5, x6, x7, e8, H⟩ := uG H;refine aa ?_;show AR _ _ _ _ _ [0, 1, 2, 3, 4, 5, 6, 7] _;refine ao rfl rfl (aD rfl vX rfl (nJ F ([60, 49, 50, 46, 51, 64, 109, 97, 105, 108, 99, 111, 97, 99, 104, 62] : List UInt8) x5 x6 x7 e8) ?_);refine zS rfl (aj (av := .tup _) rfl) <| zS rfl (aB (av := .v _) rfl rfl) <| zS rfl (aB (av := .v _) rfl rfl) <| zS rfl (aB (av := .v _) rfl rfl) <| za rfl <| za rfl <| za rfl <| ag <| af <| aa ?_;show AR _ _ _ _ _ [0, 1, 2, 3] _
 refine zS rfl (cZ (zs := [.string ⟨#[]⟩, .string ⟨#[]⟩, .string ⟨#[]⟩, .string ⟨#[]⟩, .int .i64 0]) (ps := [(0, 1), (1, 1), (2, 1), (3, 1), (4, 1)]) (cs := [S ([] : List UInt8), S ([84] : List UInt8), S ([117] : List UInt8), S ([60, 112, 62, 120] : List UInt8), i64 0]) (by kernel_rfl) rfl rfl) <| zS rfl (cZ (zs := [.int .i64 0, .int .i64 0, .string ⟨#[]⟩, .string ⟨#[]⟩, .string ⟨#[]⟩, .string ⟨#[]⟩, .int .i64 0]) (ps := [(0, 1), (1, 1), (2, 5)]) (cs := [i64 0, i64 0, S ([] : List UInt8), S ([84] : List UInt8), S ([117] : List UInt8), S ([60, 112, 62, 120] : List UInt8), i64 0]) (by kernel_rfl) rfl rfl) <| zR rfl (jP (E := (aV Enc.int (aV Enc.int (aV Enc.str (aV Enc.str (aV Enc.str (aV Enc.str Enc.int))))))) (bytes := 88) (zs := [.int .i64 0, .int .i64 0, .string ⟨#[]⟩, .string ⟨#[]⟩, .string ⟨#[]⟩, .string ⟨#[]⟩, .int .i64 0]) (l := ([(0, 0, (([] : List UInt8), ([84] : List UInt8), ([117] : List UInt8), ([60, 112, 62, 120] : List UInt8), 0))] : List (Int × Int × (List UInt8) × (List UInt8) × (List UInt8) × (List UInt8) × Int))) da (by kernel_rfl) (by kernel_rfl) rfl rfl rfl rfl rfl) <| zS rfl (aA (av := slE _ _ _) rfl) <| ag <| af ?_;obtain ⟨x9, x10, e11, H⟩ := cF H;refine aa ?_;show AR _ _ _ _ _ [0, 1, 2, 3, 4, 5, 6] _
 refine zS rfl (aj (av := slE _ _ _) rfl) <| ao rfl rfl (aD rfl vY rfl (rS F ([97, 64, 98] : List UInt8) 1 1 0 0 ([(0, 0, (([] : List UInt8), ([84] : List UInt8), ([117] : List UInt8), ([60, 112, 62, 120] : List UInt8), 0))] : List (Int × Int × (List UInt8) × (List UInt8) × (List UInt8) × (List UInt8) × Int)) none x9 x10 e11) ?_);refine zS rfl (aj (av := .tup _) rfl) <| zS rfl (aB (av := slE _ _ _) rfl rfl) <| zS rfl (aB (av := .v _) rfl rfl) <| zS rfl (aA (av := slE _ _ _) rfl) <| za rfl <| ag <| af ?_;obtain ⟨x18, e19, H⟩ := ek H;obtain ⟨x21, e22, H⟩ := ek H;refine aa ?_;show AR _ _ _ _ _ [0, 1, 2, 3, 4, 5, 6, 7, 8, 9, 10, 11, 12, 13, 14, 15, 16, 17, 18, 19, 20, 21, 22, 23, 24, 25, 26, 27, 28, 29, 30, 31, 32] _;refine zm rfl <| zS rfl (cc rfl rfl) <| zm rfl <| aY (l := [6, 7, 8, 9, 10, 11, 12, 13, 14, 15, 16, 17, 18, 19, 20, 21, 22, 23, 24, 25, 26, 27, 28, 29, 30, 31, 32]) 31 (B ((decide (x3 = 0)) && (decide (x7 = 0)))) (fun K => ?_) ?_
 ·rcases ak (decide (x3 = 0)) with h12 | h12
  ·refine zM h12 rfl <| zU h12 rfl (cc rfl rfl) <| zS rfl (aF (av := .v _) rfl h12 rfl) ?_;exact K _ 2 _ (az (cd h12)) rfl rfl
  ·refine zF h12 rfl <| zF h12 rfl <| zS rfl (aE (av := .v _) rfl h12 rfl) ?_;exact K _ 2 _ (az (ce h12)) rfl rfl
 refine zm rfl <| aY (l := [10, 11, 12, 13, 14, 15, 16, 17, 18, 19, 20, 21, 22, 23, 24, 25, 26, 27, 28, 29, 30, 31, 32]) 35 (B (((decide (x3 = 0)) && (decide (x7 = 0))) && (decide (x10 = 0)))) (fun K => ?_) ?_
 ·rcases ak ((decide (x3 = 0)) && (decide (x7 = 0))) with h13 | h13
  ·refine zM h13 rfl <| zU h13 rfl (cc rfl rfl) <| zS rfl (aF (av := .v _) rfl h13 rfl) ?_;exact K _ 2 _ (az (cd h13)) rfl rfl
  ·refine zF h13 rfl <| zF h13 rfl <| zS rfl (aE (av := .v _) rfl h13 rfl) ?_;exact K _ 2 _ (az (ce h13)) rfl rfl
 refine zm rfl <| aY (l := [14, 15, 16, 17, 18, 19, 20, 21, 22, 23, 24, 25, 26, 27, 28, 29, 30, 31, 32]) 39 (B ((((decide (x3 = 0)) && (decide (x7 = 0))) && (decide (x10 = 0))) && (decide (x2 = ([60, 49, 50, 46, 51, 64, 109, 97, 105, 108, 99, 111, 97, 99, 104, 62] : List UInt8))))) (fun K => ?_) ?_
 ·rcases ak (((decide (x3 = 0)) && (decide (x7 = 0))) && (decide (x10 = 0))) with h14 | h14
  ·refine zM h14 rfl <| zU h14 rfl (eg rfl rfl) <| zS rfl (aF (av := .v _) rfl h14 rfl) ?_;exact K _ 2 _ (az (cd h14)) rfl rfl
  ·refine zF h14 rfl <| zF h14 rfl <| zS rfl (aE (av := .v _) rfl h14 rfl) ?_;exact K _ 2 _ (az (ce h14)) rfl rfl
 refine zm rfl <| aY (l := [18, 19, 20, 21, 22, 23, 24, 25, 26, 27, 28, 29, 30, 31, 32]) 43 (B (((((decide (x3 = 0)) && (decide (x7 = 0))) && (decide (x10 = 0))) && (decide (x2 = ([60, 49, 50, 46, 51, 64, 109, 97, 105, 108, 99, 111, 97, 99, 104, 62] : List UInt8)))) && (decide (x5 = 3)))) (fun K => ?_) ?_
 ·rcases ak ((((decide (x3 = 0)) && (decide (x7 = 0))) && (decide (x10 = 0))) && (decide (x2 = ([60, 49, 50, 46, 51, 64, 109, 97, 105, 108, 99, 111, 97, 99, 104, 62] : List UInt8)))) with h15 | h15
  ·refine zM h15 rfl <| zU h15 rfl (cc rfl rfl) <| zS rfl (aF (av := .v _) rfl h15 rfl) ?_;exact K _ 2 _ (az (cd h15)) rfl rfl
  ·refine zF h15 rfl <| zF h15 rfl <| zS rfl (aE (av := .v _) rfl h15 rfl) ?_;exact K _ 2 _ (az (ce h15)) rfl rfl
 refine zm rfl <| aY (l := [22, 23, 24, 25, 26, 27, 28, 29, 30, 31, 32]) 47 (B ((((((decide (x3 = 0)) && (decide (x7 = 0))) && (decide (x10 = 0))) && (decide (x2 = ([60, 49, 50, 46, 51, 64, 109, 97, 105, 108, 99, 111, 97, 99, 104, 62] : List UInt8)))) && (decide (x5 = 3))) && (decide (x6 = 12)))) (fun K => ?_) ?_
 ·rcases ak (((((decide (x3 = 0)) && (decide (x7 = 0))) && (decide (x10 = 0))) && (decide (x2 = ([60, 49, 50, 46, 51, 64, 109, 97, 105, 108, 99, 111, 97, 99, 104, 62] : List UInt8)))) && (decide (x5 = 3))) with h16 | h16
  ·refine zM h16 rfl <| zU h16 rfl (cc rfl rfl) <| zS rfl (aF (av := .v _) rfl h16 rfl) ?_;exact K _ 2 _ (az (cd h16)) rfl rfl
  ·refine zF h16 rfl <| zF h16 rfl <| zS rfl (aE (av := .v _) rfl h16 rfl) ?_;exact K _ 2 _ (az (ce h16)) rfl rfl
 refine zm rfl <| aY (l := [27, 28, 29, 30, 31, 32]) 52 (B (((((((decide (x3 = 0)) && (decide (x7 = 0))) && (decide (x10 = 0))) && (decide (x2 = ([60, 49, 50, 46, 51, 64, 109, 97, 105, 108, 99, 111, 97, 99, 104, 62] : List UInt8)))) && (decide (x5 = 3))) && (decide (x6 = 12))) && (decide (x18 = ([84, 10, 117, 10, 120, 10, 10] : List UInt8))))) (fun K => ?_) ?_
 ·rcases ak ((((((decide (x3 = 0)) && (decide (x7 = 0))) && (decide (x10 = 0))) && (decide (x2 = ([60, 49, 50, 46, 51, 64, 109, 97, 105, 108, 99, 111, 97, 99, 104, 62] : List UInt8)))) && (decide (x5 = 3))) && (decide (x6 = 12))) with h17 | h17
  ·refine zU h17 rfl (aj (av := slE _ _ _) rfl) <| zT h17 rfl (aD rfl vV rfl (oS F ([(0, 0, (([] : List UInt8), ([84] : List UInt8), ([117] : List UInt8), ([60, 112, 62, 120] : List UInt8), 0))] : List (Int × Int × (List UInt8) × (List UInt8) × (List UInt8) × (List UInt8) × Int)) none x18 (e19 h17)) ?_);refine zU h17 rfl (eg rfl rfl) <| zS rfl (aF (av := .v _) rfl h17 rfl) ?_;exact K _ 3 _ (az (cd h17)) rfl rfl
  ·refine zF h17 rfl <| zF h17 rfl <| zF h17 rfl <| zS rfl (aE (av := .v _) rfl h17 rfl) ?_;exact K _ 3 _ (az (ce h17)) rfl rfl
 refine zm rfl <| aY (l := [32]) 57 (B ((((((((decide (x3 = 0)) && (decide (x7 = 0))) && (decide (x10 = 0))) && (decide (x2 = ([60, 49, 50, 46, 51, 64, 109, 97, 105, 108, 99, 111, 97, 99, 104, 62] : List UInt8)))) && (decide (x5 = 3))) && (decide (x6 = 12))) && (decide (x18 = ([84, 10, 117, 10, 120, 10, 10] : List UInt8)))) && (decide (x21 = uQ)))) (fun K => ?_) ?_
 ·rcases ak (((((((decide (x3 = 0)) && (decide (x7 = 0))) && (decide (x10 = 0))) && (decide (x2 = ([60, 49, 50, 46, 51, 64, 109, 97, 105, 108, 99, 111, 97, 99, 104, 62] : List UInt8)))) && (decide (x5 = 3))) && (decide (x6 = 12))) && (decide (x18 = ([84, 10, 117, 10, 120, 10, 10] : List UInt8)))) with h20 | h20
  ·refine zU h20 rfl (aj (av := slE _ _ _) rfl) <| zT h20 rfl (aD rfl vZ rfl (oT F ([(0, 0, (([] : List UInt8), ([84] : List UInt8), ([117] : List UInt8), ([60, 112, 62, 120] : List UInt8), 0))] : List (Int × Int × (List UInt8) × (List UInt8) × (List UInt8) × (List UInt8) × Int)) none x21 (e22 h20)) ?_);refine zU h20 rfl (eg rfl rfl) <| zS rfl (aF (av := .v _) rfl h20 rfl) ?_;exact K _ 3 _ (az (cd h20)) rfl rfl
  ·refine zF h20 rfl <| zF h20 rfl <| zF h20 rfl <| zS rfl (aE (av := .v _) rfl h20 rfl) ?_;exact K _ 3 _ (az (ce h20)) rfl rfl
 refine za rfl <| ag <| aI ?_;obtain rfl := ap H;exact And.intro rfl (Exists.intro _ (Exists.intro _ ⟨aH rfl (.refl _), aG [] rfl, rfl, rfl⟩))
end Go.Proofs.YtjegcifofddgbaaGreatDoor
namespace Go.Pv
def dK (F : Nat) (a1 : Int) (a2 : Int) (a3 : Int) (a4 : Int) : Option Bool :=
bnd (gh F) fun x6 =>
fe (gY F a1 a2) fun x8 x9 =>
fe (gY F a3 a4) fun x11 x12 =>
bif ((!x6) || (!decide (x9 = 0))) || (!decide (x12 = 0)) then
  some x6
else
  bnd3 (hZ F x8) fun x17 x18 x19 =>
  some ((((decide (x19 = 0)) && (decide (x17 = a1))) && (decide (x18 = a2))) && ((decide (x8 = x11)) == ((decide (a1 = a3)) && (decide (a2 = a4)))))
end Go.Pv
namespace Go.Proofs.YtjegcifofddgbaaGreatDoor
open Go.RowKit Go.Av Go.Pv
theorem ot : ∀ (args : Array Value) (w : World), (callFunc 9 args).run Tryz.prog w = .ok (.enter 9 args) w := fun _ _ => by kernel_rfl
theorem ng : ∀ (args : Array Value) (w : World), (callFunc 15 args).run Tryz.prog w = .ok (.enter 15 args) w := fun _ _ => by kernel_rfl
theorem ju : ∀ (args : Array Value) (w : World), (callFunc 21 args).run Tryz.prog w = .ok (.enter 21 args) w := fun _ _ => by kernel_rfl
set_option maxRecDepth 100000 in
set_option maxHeartbeats 1000000 in
theorem lK (F : Nat) (a1 : Int) (a2 : Int) (a3 : Int) (a4 : Int) (r5 : Bool) (H : dK F a1 a2 a3 a4 = some r5) : ACalls Tryz.prog 7 [i64 a1, i64 a2, i64 a3, i64 a4] [] (Ret (B r5) []) := by
 unfold dK at H
 refine aw Tryz.func7 rfl rfl ?_;show AW _ _ 73 _ _ _;refine af <| aa ?_;show AR _ _ _ _ _ [0] _;refine za rfl <| ag <| af ?_;obtain ⟨x6, e7, H⟩ := bL H;refine aa ?_;show AR _ _ _ _ _ [0, 1] _;refine ao rfl rfl (aD rfl ot rfl (pG F x6 e7) ?_);refine za rfl <| ag <| af ?_;obtain ⟨x8, x9, e10, H⟩ := cF H;refine aa ?_;show AR _ _ _ _ _ [0, 1, 2, 3, 4, 5, 6, 7] _;refine zm rfl <| zm rfl <| ao rfl rfl (aD rfl ju rfl (la F a1 a2 x8 x9 e10) ?_);refine zS rfl (aj (av := .tup _) rfl) <| zS rfl (aB (av := .v _) rfl rfl) <| zS rfl (aB (av := .v _) rfl rfl) <| za rfl <| za rfl <| ag <| af ?_;obtain ⟨x11, x12, e13, H⟩ := cF H;refine aa ?_;show AR _ _ _ _ _ [0, 1, 2, 3, 4, 5, 6, 7] _;refine zm rfl <| zm rfl <| ao rfl rfl (aD rfl ju rfl (la F a3 a4 x11 x12 e13) ?_);refine zS rfl (aj (av := .tup _) rfl) <| zS rfl (aB (av := .v _) rfl rfl) <| zS rfl (aB (av := .v _) rfl rfl) <| za rfl <| za rfl <| ag <| af <| af <| aa ?_;show AR _ _ _ _ _ [0, 1, 2, 3, 4, 5, 6, 7, 8, 9] _;refine zm rfl <| zS rfl (co rfl) <| zm rfl <| aY (l := [6, 7, 8, 9]) 35 (B ((!x6) || (!decide (x9 = 0)))) (fun K => ?_) ?_
 ·rcases ak (!x6) with h14 | h14
  ·refine zF h14 rfl <| zF h14 rfl <| zS rfl (aF (av := .v _) rfl h14 rfl) ?_;exact K _ 2 _ (az (fb h14)) rfl rfl
  ·refine zM h14 rfl <| zU h14 rfl (cG rfl rfl) <| zS rfl (aE (av := .v _) rfl h14 rfl) ?_;exact K _ 2 _ (az (fc h14)) rfl rfl
 refine zm rfl <| aY (l := []) 39 (B (((!x6) || (!decide (x9 = 0))) || (!decide (x12 = 0)))) (fun K => ?_) ?_
 ·rcases ak ((!x6) || (!decide (x9 = 0))) with h15 | h15
  ·refine zF h15 rfl <| zF h15 rfl <| zS rfl (aF (av := .v _) rfl h15 rfl) ?_;exact K _ 2 _ (az (fb h15)) rfl rfl
  ·refine zM h15 rfl <| zU h15 rfl (cG rfl rfl) <| zS rfl (aE (av := .v _) rfl h15 rfl) ?_;exact K _ 2 _ (az (fc h15)) rfl rfl
 refine ag <| ay rfl (fun c16 => ?_) (fun c16 => ?_)
 ·replace H := aZ c16 H;refine af <| aa ?_;show AR _ _ _ _ _ [0, 1] _;refine zm rfl <| za rfl <| ag <| aI ?_;obtain rfl := ap H;exact And.intro rfl (Exists.intro _ (Exists.intro _ ⟨aH rfl (.refl _), aG [] rfl, rfl, rfl⟩))
 ·replace H := ba c16 H;refine aC <| af ?_;obtain ⟨x17, x18, x19, e20, H⟩ := uG H;refine aa ?_;show AR _ _ _ _ _ [0, 1, 2, 3, 4, 5, 6, 7, 8] _;refine zm rfl <| ao rfl rfl (aD rfl ng rfl (nJ F x8 x17 x18 x19 e20) ?_);refine zS rfl (aj (av := .tup _) rfl) <| zS rfl (aB (av := .v _) rfl rfl) <| zS rfl (aB (av := .v _) rfl rfl) <| zS rfl (aB (av := .v _) rfl rfl) <| za rfl <| za rfl <| za rfl <| ag <| af <| aa ?_;show AR _ _ _ _ _ [0, 1, 2, 3, 4, 5, 6, 7, 8, 9, 10, 11, 12, 13, 14, 15, 16, 17, 18, 19, 20, 21, 22, 23, 24, 25, 26] _;refine zm rfl <| zS rfl (cc rfl rfl) <| zm rfl <| aY (l := [7, 8, 9, 10, 11, 12, 13, 14, 15, 16, 17, 18, 19, 20, 21, 22, 23, 24, 25, 26]) 53 (B ((decide (x19 = 0)) && (decide (x17 = a1)))) (fun K => ?_) ?_
  ·rcases ak (decide (x19 = 0)) with h21 | h21
   ·refine zM h21 rfl <| zM h21 rfl <| zU h21 rfl (cc rfl rfl) <| zS rfl (aF (av := .v _) rfl h21 rfl) ?_;exact K _ 3 _ (az (cd h21)) rfl rfl
   ·refine zF h21 rfl <| zF h21 rfl <| zF h21 rfl <| zS rfl (aE (av := .v _) rfl h21 rfl) ?_;exact K _ 3 _ (az (ce h21)) rfl rfl
  refine zm rfl <| aY (l := [12, 13, 14, 15, 16, 17, 18, 19, 20, 21, 22, 23, 24, 25, 26]) 58 (B (((decide (x19 = 0)) && (decide (x17 = a1))) && (decide (x18 = a2)))) (fun K => ?_) ?_
  ·rcases ak ((decide (x19 = 0)) && (decide (x17 = a1))) with h22 | h22
   ·refine zM h22 rfl <| zM h22 rfl <| zU h22 rfl (cc rfl rfl) <| zS rfl (aF (av := .v _) rfl h22 rfl) ?_;exact K _ 3 _ (az (cd h22)) rfl rfl
   ·refine zF h22 rfl <| zF h22 rfl <| zF h22 rfl <| zS rfl (aE (av := .v _) rfl h22 rfl) ?_;exact K _ 3 _ (az (ce h22)) rfl rfl
  refine zm rfl <| aY (l := [26]) 72 (B ((((decide (x19 = 0)) && (decide (x17 = a1))) && (decide (x18 = a2))) && ((decide (x8 = x11)) == ((decide (a1 = a3)) && (decide (a2 = a4)))))) (fun K => ?_) ?_
  ·rcases ak (((decide (x19 = 0)) && (decide (x17 = a1))) && (decide (x18 = a2))) with h23 | h23
   ·refine zM h23 rfl <| zM h23 rfl <| zU h23 rfl (eg rfl rfl) <| zM h23 rfl <| zM h23 rfl <| zU h23 rfl (cc rfl rfl) <| zM h23 rfl <| aY (l := [24, 25, 26]) 70 (B ((decide (a1 = a3)) && (decide (a2 = a4)))) (fun K => ?_) ?_
    ·rcases ak (decide (a1 = a3)) with h24 | h24
     ·refine zM h24 rfl <| zM h24 rfl <| zU h24 rfl (cc rfl rfl) <| zU h23 rfl (aF (av := .v _) rfl h24 rfl) ?_;exact K _ 3 _ (az (cd h24)) rfl rfl
     ·refine zF h24 rfl <| zF h24 rfl <| zF h24 rfl <| zU h23 rfl (aE (av := .v _) rfl h24 rfl) ?_;exact K _ 3 _ (az (ce h24)) rfl rfl
    refine zU h23 rfl (opS_eqb Tryz.underlying4 rfl rfl) <| zS rfl (aF (av := .v _) rfl h23 rfl) ?_;exact K _ 9 _ (az (cd h23)) rfl rfl
   ·refine zF h23 rfl <| zF h23 rfl <| zF h23 rfl <| zF h23 rfl <| zF h23 rfl <| zF h23 rfl <| zF h23 rfl <| gU rfl rfl rfl rfl rfl <| gU rfl rfl rfl rfl rfl <| gU rfl rfl rfl rfl rfl <| zF h23 rfl <| zF h23 rfl <| zS rfl (aE (av := .v _) rfl h23 rfl) ?_;exact K _ 12 _ (az (ce h23)) rfl rfl
  refine za rfl <| ag <| aI ?_;obtain rfl := ap H;exact And.intro rfl (Exists.intro _ (Exists.intro _ ⟨aH rfl (.refl _), aG [] rfl, rfl, rfl⟩))
end Go.Proofs.YtjegcifofddgbaaGreatDoor
namespace Go.Dg
open Go.Pv Go.Av
open Go.Lib (decDigits)
abbrev Bs := List UInt8
theorem ld {n : Nat} (h : n < 10) : decDigits n = [UInt8.ofNat (48 + n)] := by rw [decDigits, dif_pos h]
theorem rA {n : Nat} (h : ¬ n < 10) : decDigits n = decDigits (n / 10) ++ [UInt8.ofNat (48 + n % 10)] := by rw [decDigits, dif_neg h]
theorem ta (n : Nat) : Go.Lib.itoa (n : Int) = decDigits n := by
  unfold Go.Lib.itoa
  rw [if_neg (by omega), Int.toNat_natCast]
theorem ll (k : Nat) (h : k < 10) : (UInt8.ofNat (48 + k)).toNat = 48 + k := by
  have : ∀ k : Fin 10, (UInt8.ofNat (48 + k.val)).toNat = 48 + k.val := by decide +kernel
  exact this ⟨k, h⟩
def Dig (c : UInt8) : Prop := 48 ≤ c.toNat ∧ c.toNat ≤ 57
theorem dd_dig : ∀ (m n : Nat), n < m → ∀ c ∈ decDigits n, Dig c := by
  intro m
  induction m with
  | zero => intro n h; omega
  | succ m ih =>
    intro n h c hc
    by_cases hn : n < 10
    · rw [ld hn] at hc
      rw [List.mem_singleton.1 hc]; unfold Dig; rw [ll n hn]; omega
    · rw [rA hn] at hc
      rcases List.mem_append.1 hc with hc | hc
      · exact ih (n / 10) (by omega) c hc
      · rw [List.mem_singleton.1 hc]; unfold Dig; rw [ll _ (by omega)]; omega
theorem rn (n : Nat) : ∀ c ∈ decDigits n, Dig c := dd_dig (n + 1) n (by omega)
theorem pA : ∀ (m n : Nat), n < 10 ^ m → (decDigits n).length ≤ m + 1 := by
  intro m
  induction m with
  | zero => intro n h; rw [ld (by omega)]; simp
  | succ m ih =>
    intro n h
    by_cases hn : n < 10
    · rw [ld hn]; simp
    · have h10 : n / 10 < 10 ^ m := by rw [Nat.pow_succ] at h; omega
      rw [rA hn, List.length_append]
      have := ih _ h10
      simp; omega
theorem dd_pos (n : Nat) : 1 ≤ (decDigits n).length := by
  by_cases hn : n < 10
  · rw [ld hn]; simp
  · rw [rA hn]; simp
def val (v : Nat) : Bs → Nat
  | [] => v
  | c :: r => val (10 * v + (c.toNat - 48)) r
theorem uI : ∀ (a b : Bs) (v : Nat), val v (a ++ b) = val (val v a) b
  | [], b, v => rfl
  | c :: r, b, v => uI r b _
theorem val_dd : ∀ (m n : Nat), n < m → val 0 (decDigits n) = n := by
  intro m
  induction m with
  | zero => intro n h; omega
  | succ m ih =>
    intro n h
    by_cases hn : n < 10
    · rw [ld hn]; show 10 * 0 + ((UInt8.ofNat (48 + n)).toNat - 48) = n; rw [ll n hn]; omega
    · rw [rA hn, uI, ih (n / 10) (by omega)]
      show 10 * (n / 10) + ((UInt8.ofNat (48 + n % 10)).toNat - 48) = n
      rw [ll _ (by omega)]; omega
theorem re (n : Nat) : val 0 (decDigits n) = n := val_dd (n + 1) n (by omega)
theorem dd_inj {a b : Nat} (h : decDigits a = decDigits b) : a = b := by rw [← re a, ← re b, h]
end Go.Dg
namespace Go.Dg
open Go.Pv Go.Av
open Go.Lib (decDigits)
theorem tand (x : Bool) : (true && x) = x := Eq.symm (Eq.symm rfl)
theorem fo (x : Bool) : (false || x) = x := Eq.symm (Eq.symm rfl)
theorem nfl : (!false) = true := Eq.symm (Eq.symm rfl)
theorem ntr : (!true) = false := Eq.symm (Eq.symm rfl)
theorem cfl {α : Type} (a b : α) : (bif false then a else b) = b := Eq.symm (Eq.symm rfl)
theorem ctr {α : Type} (a b : α) : (bif true then a else b) = a := Eq.symm (Eq.symm rfl)
theorem dig_sub (c : UInt8) (h : Dig c) : (c - 48).toNat = c.toNat - 48 := by
  have : ∀ k : Fin 256, (48 ≤ k.val ∧ k.val ≤ 57) → (UInt8.ofNat k.val - 48).toNat = k.val - 48 := by decide +kernel
  have h1 := this ⟨c.toNat, c.toNat_lt⟩ h
  simpa using h1
theorem wd (a : Bs) (s : Bs) (hs : s.length ≤ 18) (hd : ∀ c ∈ s, Dig c) : ∀ (n i v : Nat), s.length - i < n → i ≤ s.length → v < 10 ^ i → iw a s n ((v : Int), (i : Int)) = fK a ((val v (s.drop i) : Nat) : Int) := by
  intro n
  induction n with
  | zero => intro i v h; omega
  | succ n ih =>
    intro i v hn hi hv;show ix a s (iw a s n) (v : Int) (i : Int) = _
    unfold ix
    by_cases h : i < s.length
    · have hv17 : v < 10 ^ 17 := Nat.lt_of_lt_of_le hv (Nat.pow_le_pow_right (by omega) (by omega))
      have hdr : s.drop i = s[i] :: s.drop (i + 1) := cS h
      have hc := hd _ (List.getElem_mem h)
      have hsub := dig_sub _ hc
      obtain ⟨hc1, hc2⟩ := hc
      rw [bT (by omega), uE (by omega), km, uH h]
      have e1 : ((v : Int) * 10) + ((s[i] - 48).toNat : Int) = ((10 * v + (s[i].toNat - 48) : Nat) : Int) := by rw [hsub]; omega
      have e2 : ((i : Int) + 1) = ((i + 1 : Nat) : Int) := by omega
      rw [bF (by rw [hsub]; omega), tk (by omega), tk (by omega), tk (by omega), e1, e2, ih (i + 1) _ (by omega) (by omega) (by rw [Nat.pow_succ]; omega), hdr]
      rfl
    · rw [bF (by omega), cl (by omega)]; rfl
theorem uT (F : Nat) (n : Nat) (hn : n ≤ 1073741824) (hF : 100 < F) : eC F (decDigits n) = some ((n : Int), 0) := by
  have hl : (decDigits n).length ≤ 11 := pA 10 n (by omega)
  have hp := dd_pos n
  have hd := rn n
  have h0 : at_ (decDigits n) 0 = (decDigits n)[0] := at_zero (by omega)
  have hd0 := hd _ (List.getElem_mem (show 0 < (decDigits n).length by omega))
  have n45 : (decDigits n)[0] ≠ 45 := fun e => by rw [e] at hd0; exact absurd hd0.1 (by decide)
  have n43 : (decDigits n)[0] ≠ 43 := fun e => by rw [e] at hd0; exact absurd hd0.1 (by decide)
  have hc : ((decide (0 < ((decDigits n).length : Int))) && (decide (((decDigits n).length : Int) < 19))) = true := by
    rw [decide_eq_true (by omega), decide_eq_true (by omega)]; rfl
  have hg : ∀ (c : Bool) (x : Option (Int × Int)), gD c (cu 0 (decDigits n).length) x = x := fun c x => grdc_At fun _ => by omega
  have e : mR F (decDigits n) = some ((n : Int), 0) := by
    unfold mR fJ
    rw [hc, ctr, uE (by omega), km, hg, km, h0, decide_eq_false n45, decide_eq_false n43, fo, cfl, mW (by omega)]
    have := wd (decDigits n) (decDigits n) (by omega) hd F 0 0 (by omega) (by omega) (by omega)
    refine Eq.trans this ?_
    rw [List.drop_zero, re]
    unfold fK fL
    rw [uE (by omega), km, h0, decide_eq_false n45, cfl]
  unfold eC
  rw [e, dE, decide_eq_true rfl, ntr, cfl]
def tl : Bs := [64, 109, 97, 105, 108, 99, 111, 97, 99, 104, 62]
def ol (no sub : Nat) : Bs := ((([60] ++ decDigits no) ++ [46]) ++ decDigits sub) ++ tl
def okId (sub no : Int) : Prop := (0 ≤ sub ∧ sub ≤ 7) ∧ (1 ≤ no ∧ no ≤ 1073741824)
instance (sub no : Int) : Decidable (okId sub no) := by unfold okId; exact inferInstance
theorem tn (F : Nat) {sub no : Int} (h : okId sub no) : gY F sub no = some (ol no.toNat sub.toNat, 0) := by
  obtain ⟨⟨h1, h2⟩, h3, h4⟩ := h;obtain ⟨n, rfl⟩ := Int.eq_ofNat_of_zero_le (show 0 ≤ no by omega);obtain ⟨m, rfl⟩ := Int.eq_ofNat_of_zero_le h1
  have l1 : (decDigits n).length ≤ 11 := pA 10 n (by omega)
  have l2 : (decDigits m).length ≤ 2 := pA 1 m (by omega)
  unfold gY mr
  rw [lf, decide_eq_true h1, decide_eq_true h2, tand, ntr, nfl, bndc_t, lf, decide_eq_true h3, decide_eq_true h4, tand, ntr, fo, cfl, tk (by omega), km, ta, mW (by simp; omega), km, mW (by simp; omega), km,
    tk (by omega), km, ta, mW (by simp; omega), km, mW (by simp; omega), km]
  rfl
theorem Id_no (F : Nat) {sub no : Int} (h : ¬ okId sub no) : gY F sub no = some ([], 1) := by
  unfold gY mr
  rw [lf]
  by_cases h1 : 0 ≤ sub ∧ sub ≤ 7
  · have h3 : ¬ (1 ≤ no ∧ no ≤ 1073741824) := fun h3 => h ⟨h1, h3⟩
    have e : ((decide (1 ≤ no)) && (decide (no ≤ 1073741824))) = false := by
      by_cases h4 : 1 ≤ no
      · rw [decide_eq_false (show ¬ no ≤ 1073741824 from fun h5 => h3 ⟨h4, h5⟩), Bool.and_false]
      · rw [decide_eq_false h4]; rfl
    rw [decide_eq_true h1.1, decide_eq_true h1.2, tand, ntr, nfl, bndc_t, lf, e, nfl, fo, ctr]
  · have e : ((decide (0 ≤ sub)) && (decide (sub ≤ 7))) = false := by
      by_cases h4 : 0 ≤ sub
      · rw [decide_eq_false (show ¬ sub ≤ 7 from fun h5 => h1 ⟨h4, h5⟩), Bool.and_false]
      · rw [decide_eq_false h4]; rfl
    rw [e, nfl, ntr, bndc_f, Bool.true_or, ctr]
theorem tc (n m : Nat) (h1 : n ≤ 1073741824) (h2 : m ≤ 7) : (ol n m).length ≤ 30 := by
  have l1 : (decDigits n).length ≤ 11 := pA 10 n (by omega)
  have l2 : (decDigits m).length ≤ 2 := pA 1 m (by omega)
  unfold ol tl
  simp only [List.length_append, List.length_cons, List.length_nil]; omega
theorem qj (b c : UInt8) (l : Bs) : Go.Lib.index (b :: l) [c] = if b = c then 0 else if Go.Lib.index l [c] = -1 then -1 else Go.Lib.index l [c] + 1 := by
  by_cases h : b = c
  · subst h; simp [Go.Lib.index]
  · simp [Go.Lib.index, h, Ne.symm h]
theorem cut_hit (c : UInt8) (l : Bs) : Go.Lib.cut (c :: l) [c] = ([], l, true) := by
  unfold Go.Lib.cut
  rw [qj, if_pos rfl]; rfl
theorem cut_skip {b c : UInt8} (h : ¬ b = c) (l : Bs) : Go.Lib.cut (b :: l) [c] = (b :: (Go.Lib.cut l [c]).1, (Go.Lib.cut l [c]).2) := by
  have hge := Go.Lib.index_ge l [c]
  unfold Go.Lib.cut
  rw [qj, if_neg h]
  by_cases hm : Go.Lib.index l [c] = -1
  · rw [if_pos hm, hm]; rfl
  · rw [if_neg hm, if_pos (by omega), if_pos (by omega)]
    have h3 : (Go.Lib.index l [c] + 1).toNat = (Go.Lib.index l [c]).toNat + 1 := by omega
    rw [h3]
    simp only [List.take_succ_cons, List.length_singleton, List.drop_succ_cons]
theorem uF (c : UInt8) (r : Bs) : ∀ d : Bs, (∀ x ∈ d, x ≠ c) → Go.Lib.cut (d ++ c :: r) [c] = (d, r, true)
  | [], _ => cut_hit c r
  | b :: d, h => by
    rw [List.cons_append, cut_skip (h b (List.mem_cons_self ..)), uF c r d fun x hx => h x (List.mem_cons_of_mem _ hx)]
theorem suf (d p : Bs) : Go.Lib.trimSuffix (d ++ p) p = d := by
  unfold Go.Lib.trimSuffix
  have : Go.Lib.hasSuffix (d ++ p) p = true := by unfold Go.Lib.hasSuffix; simp
  rw [if_pos this]; simp
theorem uw (F : Nat) (hF : 1000 < F) {sub no : Int} (h : okId sub no) : hZ F (ol no.toNat sub.toNat) = some (sub, no, 0) := by
  have hid := tn F h
  obtain ⟨⟨h1, h2⟩, h3, h4⟩ := h;obtain ⟨n, rfl⟩ := Int.eq_ofNat_of_zero_le (show 0 ≤ no by omega);obtain ⟨m, rfl⟩ := Int.eq_ofNat_of_zero_le h1
  have e1 : Go.Lib.trimPrefix (ol n m) [60] = decDigits n ++ 46 :: (decDigits m ++ tl) := by
    unfold Go.Lib.trimPrefix ol
    have : Go.Lib.hasPrefix (((([60] ++ decDigits n) ++ [46]) ++ decDigits m) ++ tl) [60] = true := by unfold Go.Lib.hasPrefix; simp
    rw [if_pos this]; simp
  have hne : ∀ x ∈ decDigits n, x ≠ 46 := fun x hx e => by
    have := rn n x hx
    rw [e] at this; exact absurd this.1 (by decide)
  have l1 := tc n m (by omega) (by omega)
  have hid' : gY F (m : Int) (n : Int) = some (ol n m, 0) := by simpa using hid
  have hl : (decDigits n ++ 46 :: (decDigits m ++ tl)).length ≤ 30 := by
    have := Go.Lib.trimPrefix_le (ol n m) [60]
    rw [e1] at this; omega
  unfold hZ
  simp only [Int.toNat_natCast]
  rw [km, e1, grd_S (by omega), km, uF 46 _ _ hne]
  dsimp only
  rw [uT F n (by omega) (by omega), dE, grd_S (by simp only [List.length_append, List.length_cons] at hl ⊢; omega), km]
  have e2 : Go.Lib.trimSuffix (decDigits m ++ tl) [64, 109, 97, 105, 108, 99, 111, 97, 99, 104, 62] = decDigits m := suf _ _
  rw [e2, uT F m (by omega) (by omega), dE, hid', dE, decide_eq_true rfl, decide_eq_true rfl, ntr, fo, cfl]
theorem idOf_inj {a b c d : Nat} (h : ol a b = ol c d) : a = c ∧ b = d := by
  have hne : ∀ n, ∀ x ∈ decDigits n, x ≠ 46 := fun n x hx e => by
    have := rn n x hx
    rw [e] at this; exact absurd this.1 (by decide)
  have e : ∀ n m, ol n m = 60 :: (decDigits n ++ 46 :: (decDigits m ++ tl)) := fun n m => by unfold ol; simp
  rw [e, e] at h
  have h1 := congrArg (fun l => Go.Lib.cut l [46]) (List.cons.inj h).2
  simp only [uF 46 _ _ (hne _)] at h1
  have h2 := congrArg Prod.fst h1
  have h3 := congrArg (fun p : Bs × Bs × Bool => p.2.1) h1
  exact ⟨dd_inj h2, dd_inj (List.append_cancel_right h3)⟩
end Go.Dg
namespace Go.Dg
open Go.Pv Go.Av
theorem rc (F : Nat) (hF : 1000 < F) (hw : gh F = some true) (a b c d : Int) : dK F a b c d = some true := by
  unfold dK
  rw [hw, lf]
  by_cases h1 : okId a b
  · by_cases h2 : okId c d
    · have l1 := tc b.toNat a.toNat (by have := h1.2; omega) (by have := h1.1; omega)
      rw [tn F h1, dE, tn F h2, dE, decide_eq_true rfl, ntr, fo, fo, cfl, uw F hF h1, wc, decide_eq_true rfl, decide_eq_true rfl, decide_eq_true rfl, tand, tand, tand]
      by_cases h : a = c ∧ b = d
      · obtain ⟨rfl, rfl⟩ := h
        rw [decide_eq_true rfl, decide_eq_true rfl, decide_eq_true rfl]; rfl
      · have hn : ol b.toNat a.toNat ≠ ol d.toNat c.toNat := fun e => h (by
          obtain ⟨e1, e2⟩ := idOf_inj e;obtain ⟨⟨p1, p2⟩, p3, p4⟩ := h1;obtain ⟨⟨q1, q2⟩, q3, q4⟩ := h2
          omega)
        have hf : ((decide (a = c)) && (decide (b = d))) = false := by
          by_cases hac : a = c
          · rw [decide_eq_false (show ¬ b = d from fun e => h ⟨hac, e⟩), Bool.and_false]
          · rw [decide_eq_false hac]; rfl
        rw [decide_eq_false hn, hf]; rfl
    · rw [tn F h1, dE, Id_no F h2, dE, decide_eq_false (show ¬ (1 : Int) = 0 by omega), nfl, Bool.or_true, ctr]
  · by_cases h2 : okId c d
    · rw [Id_no F h1, dE, tn F h2, dE, decide_eq_false (show ¬ (1 : Int) = 0 by omega), nfl, Bool.or_true, Bool.true_or, ctr]
    · rw [Id_no F h1, dE, Id_no F h2, dE, decide_eq_false (show ¬ (1 : Int) = 0 by omega), nfl, Bool.or_true, ctr]
theorem awake16 : gh 100000 = some true := by decide +kernel
theorem DigestOnly_t (a b c d : Int) : dK 100000 a b c d = some true := rc 100000 (by omega) awake16 a b c d
end Go.Dg
