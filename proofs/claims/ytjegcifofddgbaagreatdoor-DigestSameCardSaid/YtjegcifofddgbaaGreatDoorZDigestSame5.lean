/-
  Texts in one (only what DigestSame needs): HeadAW, HeadBP, HeadBW, PartAP, PartAW, DigBP, DigBW, DigLP, DigLW, LDigestSameP, LDigestSameW, DgN, DgA, HeadRP, RefEP, PnTrim, PnEnc, PnEncB, DgH, PnSplit, PnPlain, PnMarks, PnLoose, PnLines, PnWraps, PnWrapEq, DgT, DgSame.
-/
import Derived.Test.YtjegcifofddgbaaGreatDoorZDigestSame4
import Derived.Test.YtjegcifofddgbaaGreatDoorShelf
import Derived.Lib.ItoaNum
import Derived.Lib.IndexLaws
import Derived.Test.YtjegcifofddgbaaGreatDoorChecked
import Derived.Lib.SplitLaws
import Derived.Lib.IndexMore
set_option linter.unusedVariables false
set_option linter.unusedSimpArgs false
namespace Go.Proofs.YtjegcifofddgbaaGreatDoor
open Go.RowKit Go.Av Go.Pv
theorem qG : ∀ (args : Array Value) (w : World), (callFunc 65 args).run Tryz.prog w = .ok (.enter 65 args) w := fun _ _ => by kernel_rfl
theorem vS : ∀ (args : Array Value) (w : World), (callFunc 96 args).run Tryz.prog w = .ok (.enter 96 args) w := fun _ _ => by kernel_rfl
theorem uL : ∀ (args : Array Value) (w : World), (callFunc 123 args).run Tryz.prog w = .ok (.enter 123 args) w := fun _ _ => by kernel_rfl
theorem uG : ∀ (args : Array Value) (w : World), (callFunc 129 args).run Tryz.prog w = .ok (.enter 129 args) w := fun _ _ => by kernel_rfl
theorem uF : ∀ (args : Array Value) (w : World), (callFunc 130 args).run Tryz.prog w = .ok (.enter 130 args) w := fun _ _ => by kernel_rfl
theorem pJ : ∀ (args : Array Value) (w : World), (callFunc 179 args).run Tryz.prog w = .ok (.enter 179 args) w := fun _ _ => by kernel_rfl
theorem uD : ∀ (args : Array Value) (w : World), (callFunc 180 args).run Tryz.prog w = .ok (.enter 180 args) w := fun _ _ => by kernel_rfl
theorem uC : ∀ (args : Array Value) (w : World), (callFunc 181 args).run Tryz.prog w = .ok (.enter 181 args) w := fun _ _ => by kernel_rfl
theorem uB : ∀ (args : Array Value) (w : World), (callFunc 182 args).run Tryz.prog w = .ok (.enter 182 args) w := fun _ _ => by kernel_rfl
theorem uA : ∀ (args : Array Value) (w : World), (callFunc 183 args).run Tryz.prog w = .ok (.enter 183 args) w := fun _ _ => by kernel_rfl
theorem uz : ∀ (args : Array Value) (w : World), (callFunc 184 args).run Tryz.prog w = .ok (.enter 184 args) w := fun _ _ => by kernel_rfl
theorem uy : ∀ (args : Array Value) (w : World), (callFunc 223 args).run Tryz.prog w = .ok (.enter 223 args) w := fun _ _ => by kernel_rfl
theorem ux : ∀ (args : Array Value) (w : World), (callFunc 224 args).run Tryz.prog w = .ok (.enter 224 args) w := fun _ _ => by kernel_rfl
set_option maxRecDepth 100000 in
set_option maxHeartbeats 1000000 in
theorem sK (F : Nat) (a1 : UInt8) (r2 : Bool) (H : nF F a1 = some r2) : ACalls Tryz.prog 180 [u8 a1] [] (Ret (B r2) []) := by
 unfold nF at H
 refine ax Tryz.func180 rfl rfl ?_;show AW _ _ 29 _ _ _;refine af <| aa ?_;show AR _ _ _ _ _ [0] _;refine za rfl <| ag <| af <| aa ?_;show AR _ _ _ _ _ [0, 1, 2, 3, 4, 5, 6, 7, 8, 9, 10, 11, 12, 13, 14, 15, 16, 17, 18, 19, 20, 21, 22, 23, 24, 25, 26] _;refine zm rfl <| zS rfl (dz rfl rfl) <| zm rfl <| bb (l := [6, 7, 8, 9, 10, 11, 12, 13, 14, 15, 16, 17, 18, 19, 20, 21, 22, 23, 24, 25, 26]) 8 (B ((decide (97 ≤ (a1.toNat : Int))) && (decide ((a1.toNat : Int) ≤ 122)))) (fun K => ?_) ?_
 ·rcases ak (decide (97 ≤ (a1.toNat : Int))) with h3 | h3
  ·refine zM h3 rfl <| zU h3 rfl (dI rfl rfl) <| zS rfl (aG (av := .v _) rfl h3 rfl) ?_;exact K _ 2 _ (aA (cz h3)) rfl rfl
  ·refine zF h3 rfl <| zF h3 rfl <| zS rfl (aE (av := .v _) rfl h3 rfl) ?_;exact K _ 2 _ (aA (cA h3)) rfl rfl
 refine zm rfl <| bb (l := [14, 15, 16, 17, 18, 19, 20, 21, 22, 23, 24, 25, 26]) 16 (B (((decide (97 ≤ (a1.toNat : Int))) && (decide ((a1.toNat : Int) ≤ 122))) || ((decide (65 ≤ (a1.toNat : Int))) && (decide ((a1.toNat : Int) ≤ 90))))) (fun K => ?_) ?_
 ·rcases ak ((decide (97 ≤ (a1.toNat : Int))) && (decide ((a1.toNat : Int) ≤ 122))) with h4 | h4
  ·refine zF h4 rfl <| zF h4 rfl <| zF h4 rfl <| gU rfl rfl rfl rfl rfl <| gU rfl rfl rfl rfl rfl <| zF h4 rfl <| zS rfl (aG (av := .v _) rfl h4 rfl) ?_;exact K _ 6 _ (aA (fT h4)) rfl rfl
  ·refine zM h4 rfl <| zU h4 rfl (dz rfl rfl) <| zM h4 rfl <| bb (l := [13, 14, 15, 16, 17, 18, 19, 20, 21, 22, 23, 24, 25, 26]) 15 (B ((decide (65 ≤ (a1.toNat : Int))) && (decide ((a1.toNat : Int) ≤ 90)))) (fun K => ?_) ?_
   ·rcases ak (decide (65 ≤ (a1.toNat : Int))) with h5 | h5
    ·refine zM h5 rfl <| zU h5 rfl (dI rfl rfl) <| zU h4 rfl (aG (av := .v _) rfl h5 rfl) ?_;exact K _ 2 _ (aA (cz h5)) rfl rfl
    ·refine zF h5 rfl <| zF h5 rfl <| zU h4 rfl (aE (av := .v _) rfl h5 rfl) ?_;exact K _ 2 _ (aA (cA h5)) rfl rfl
   refine zS rfl (aE (av := .v _) rfl h4 rfl) ?_;exact K _ 4 _ (aA (fU h4)) rfl rfl
 refine zm rfl <| bb (l := [22, 23, 24, 25, 26]) 24 (B ((((decide (97 ≤ (a1.toNat : Int))) && (decide ((a1.toNat : Int) ≤ 122))) || ((decide (65 ≤ (a1.toNat : Int))) && (decide ((a1.toNat : Int) ≤ 90)))) || ((decide (48 ≤ (a1.toNat : Int))) && (decide ((a1.toNat : Int) ≤ 57))))) (fun K => ?_) ?_
 ·rcases ak (((decide (97 ≤ (a1.toNat : Int))) && (decide ((a1.toNat : Int) ≤ 122))) || ((decide (65 ≤ (a1.toNat : Int))) && (decide ((a1.toNat : Int) ≤ 90)))) with h6 | h6
  ·refine zF h6 rfl <| zF h6 rfl <| zF h6 rfl <| gU rfl rfl rfl rfl rfl <| gU rfl rfl rfl rfl rfl <| zF h6 rfl <| zS rfl (aG (av := .v _) rfl h6 rfl) ?_;exact K _ 6 _ (aA (fT h6)) rfl rfl
  ·refine zM h6 rfl <| zU h6 rfl (dz rfl rfl) <| zM h6 rfl <| bb (l := [21, 22, 23, 24, 25, 26]) 23 (B ((decide (48 ≤ (a1.toNat : Int))) && (decide ((a1.toNat : Int) ≤ 57)))) (fun K => ?_) ?_
   ·rcases ak (decide (48 ≤ (a1.toNat : Int))) with h7 | h7
    ·refine zM h7 rfl <| zU h7 rfl (dI rfl rfl) <| zU h6 rfl (aG (av := .v _) rfl h7 rfl) ?_;exact K _ 2 _ (aA (cz h7)) rfl rfl
    ·refine zF h7 rfl <| zF h7 rfl <| zU h6 rfl (aE (av := .v _) rfl h7 rfl) ?_;exact K _ 2 _ (aA (cA h7)) rfl rfl
   refine zS rfl (aE (av := .v _) rfl h6 rfl) ?_;exact K _ 4 _ (aA (fU h6)) rfl rfl
 refine zm rfl <| bb (l := [26]) 28 (B (((((decide (97 ≤ (a1.toNat : Int))) && (decide ((a1.toNat : Int) ≤ 122))) || ((decide (65 ≤ (a1.toNat : Int))) && (decide ((a1.toNat : Int) ≤ 90)))) || ((decide (48 ≤ (a1.toNat : Int))) && (decide ((a1.toNat : Int) ≤ 57)))) || (decide (a1 = 45)))) (fun K => ?_) ?_
 ·rcases ak ((((decide (97 ≤ (a1.toNat : Int))) && (decide ((a1.toNat : Int) ≤ 122))) || ((decide (65 ≤ (a1.toNat : Int))) && (decide ((a1.toNat : Int) ≤ 90)))) || ((decide (48 ≤ (a1.toNat : Int))) && (decide ((a1.toNat : Int) ≤ 57)))) with h8 | h8
  ·refine zF h8 rfl <| zF h8 rfl <| zS rfl (aG (av := .v _) rfl h8 rfl) ?_;exact K _ 2 _ (aA (fT h8)) rfl rfl
  ·refine zM h8 rfl <| zU h8 rfl (fw (a := a1) (b := 45) rfl rfl) <| zS rfl (aE (av := .v _) rfl h8 rfl) ?_;exact K _ 2 _ (aA (fU h8)) rfl rfl
 refine za rfl <| ag <| aL ?_;obtain rfl := ap H;exact And.intro rfl (Exists.intro _ (Exists.intro _ ⟨aH rfl (.refl _), aI [] rfl, rfl, rfl⟩))
set_option maxRecDepth 100000 in
set_option maxHeartbeats 1000000 in
theorem rt (F : Nat) (a1 : UInt8) (r2 : Bool) (H : mj F a1 = some r2) : ACalls Tryz.prog 223 [u8 a1] [] (Ret (B r2) []) := by
 unfold mj at H
 refine ax Tryz.func223 rfl rfl ?_;show AW _ _ 9 _ _ _;refine af <| aa ?_;show AR _ _ _ _ _ [0] _;refine za rfl <| ag <| af <| aa ?_;show AR _ _ _ _ _ [0, 1, 2, 3, 4, 5, 6] _;refine zm rfl <| zS rfl (dz rfl rfl) <| zm rfl <| bb (l := [6]) 8 (B ((decide (32 ≤ (a1.toNat : Int))) && (decide ((a1.toNat : Int) < 127)))) (fun K => ?_) ?_
 ·rcases ak (decide (32 ≤ (a1.toNat : Int))) with h3 | h3
  ·refine zM h3 rfl <| zU h3 rfl (bC rfl rfl) <| zS rfl (aG (av := .v _) rfl h3 rfl) ?_;exact K _ 2 _ (aA (cz h3)) rfl rfl
  ·refine zF h3 rfl <| zF h3 rfl <| zS rfl (aE (av := .v _) rfl h3 rfl) ?_;exact K _ 2 _ (aA (cA h3)) rfl rfl
 refine za rfl <| ag <| aL ?_;obtain rfl := ap H;exact And.intro rfl (Exists.intro _ (Exists.intro _ ⟨aH rfl (.refl _), aI [] rfl, rfl, rfl⟩))
set_option maxRecDepth 100000 in
set_option maxHeartbeats 1000000 in
theorem sJ (F : Nat) (a1 : List UInt8) (r2 : Bool) (H : nE F a1 = some r2) : ACalls Tryz.prog 179 [S a1, .v (.func (.func 180) #[] #[])] [] (Ret (B r2) []) := by
 unfold nE at H
 refine ax Tryz.func179 rfl rfl ?_;show AW _ _ 20 _ _ _;refine af <| aa ?_;show AR _ _ _ _ _ [0] _;refine za rfl <| ag <| bk (X := Unit) (fun _ => ⟨[(0, S a1)], [], []⟩) (fun _ => iu a1 = some r2) ?_ ?_
 ·refine af <| aa ?_;show AR _ _ _ _ _ [0, 1, 2] _;refine zm rfl <| zS rfl (aU ab rfl) <| zm rfl <| ag <| aO <| cl (X := Nat × Int) (fun (n5, y3) => ⟨[(0, S a1), (1, .v (.func (.func 180) #[] #[])), (7, i64 (a1.length : Int)), (8, i64 y3)], [], []⟩) (fun (n5, y3) => kI F a1 n5 y3 = some r2) (fun (n5, y3) => n5) (F, 0) H (aP [] (.cons (.refl _) (.cons (.refl _) (.cons (.refl _) (.cons (.refl _) (.nil _))))) rfl) ?_;rintro ⟨n5, y3⟩ H;obtain ⟨n5, rfl, H⟩ := cO H;replace H : kJ F a1 (kI F a1 n5) y3 = some r2 := H
  unfold kJ at H
  refine af <| aa ?_;show AR _ _ _ _ _ [0] _;refine zS rfl (bC rfl rfl) <| ag <| af <| az rfl (fun c6 => ?_) (fun c6 => ?_)
  ·replace H := aZ c6 H;refine aC <| af <| aO <| af <| aa ?_;show AR _ _ _ _ _ [0, 1] _;refine zm rfl <| za rfl <| ag <| af ?_;obtain ⟨g7, H⟩ := ay H;obtain ⟨x8, e9, H⟩ := bg H;obtain ⟨x10, e11, H⟩ := bK H;refine aa ?_;show AR _ _ _ _ _ [0, 1, 2, 3, 4, 5] _;refine zm rfl <| zm rfl <| zm rfl <| zS rfl (bj ab rfl rfl g7 e9) <| aq rfl rfl (AO.callFp rfl (.inr ⟨rfl, rfl, rfl⟩) uD rfl (sK F x8 x10 e11) ?_);refine zS rfl (cx rfl) <| ag <| az rfl (fun c12 => ?_) (fun c12 => ?_)
   ·replace H := aZ c12 H;refine af <| aa ?_;show AR _ _ _ _ _ [0] _;refine za rfl <| ag <| aL ?_;obtain rfl := ap H;exact And.intro rfl (Exists.intro _ (Exists.intro _ ⟨aH rfl (.refl _), aI [] rfl, rfl, rfl⟩))
   ·replace H := ba c12 H;refine aC ?_;obtain ⟨g13, H⟩ := ay H;refine aa ?_;show AR _ _ _ _ _ [0, 1] _;refine zS rfl (bu rfl rfl g13) <| zm rfl <| ag ?_;exact Exists.intro (n5, y3 + 1) ⟨H, Nat.lt_succ_self _, aP [] (.cons (.refl _) (.cons (.refl _) (.cons (.refl _) (.cons (.refl _) (.nil _))))) rfl⟩
  ·replace H := ba c6 H;refine bZ ?_;exact Exists.intro () ⟨H, aP [] (.cons (.refl _) (.nil _)) rfl⟩
 rintro _ H;replace H : iu a1 = some r2 := H
 unfold iu at H
 refine af <| aa ?_;show AR _ _ _ _ _ [0, 1, 2] _;refine zm rfl <| zS rfl (iV rfl rfl) <| za rfl <| ag <| aL ?_;obtain rfl := ap H;exact And.intro rfl (Exists.intro _ (Exists.intro _ ⟨aH rfl (.refl _), aI [] rfl, rfl, rfl⟩))
set_option maxRecDepth 100000 in
set_option maxHeartbeats 1000000 in
theorem sI (F : Nat) (a1 : List UInt8) (r2 : Bool) (H : nD F a1 = some r2) : ACalls Tryz.prog 179 [S a1, .v (.func (.func 223) #[] #[])] [] (Ret (B r2) []) := by
 unfold nD at H
 refine ax Tryz.func179 rfl rfl ?_;show AW _ _ 20 _ _ _;refine af <| aa ?_;show AR _ _ _ _ _ [0] _;refine za rfl <| ag <| bk (X := Unit) (fun _ => ⟨[(0, S a1)], [], []⟩) (fun _ => ir a1 = some r2) ?_ ?_
 ·refine af <| aa ?_;show AR _ _ _ _ _ [0, 1, 2] _;refine zm rfl <| zS rfl (aU ab rfl) <| zm rfl <| ag <| aO <| cl (X := Nat × Int) (fun (n5, y3) => ⟨[(0, S a1), (1, .v (.func (.func 223) #[] #[])), (7, i64 (a1.length : Int)), (8, i64 y3)], [], []⟩) (fun (n5, y3) => kG F a1 n5 y3 = some r2) (fun (n5, y3) => n5) (F, 0) H (aP [] (.cons (.refl _) (.cons (.refl _) (.cons (.refl _) (.cons (.refl _) (.nil _))))) rfl) ?_;rintro ⟨n5, y3⟩ H;obtain ⟨n5, rfl, H⟩ := cO H;replace H : kH F a1 (kG F a1 n5) y3 = some r2 := H
  unfold kH at H
  refine af <| aa ?_;show AR _ _ _ _ _ [0] _;refine zS rfl (bC rfl rfl) <| ag <| af <| az rfl (fun c6 => ?_) (fun c6 => ?_)
  ·replace H := aZ c6 H;refine aC <| af <| aO <| af <| aa ?_;show AR _ _ _ _ _ [0, 1] _;refine zm rfl <| za rfl <| ag <| af ?_;obtain ⟨g7, H⟩ := ay H;obtain ⟨x8, e9, H⟩ := bg H;obtain ⟨x10, e11, H⟩ := bK H;refine aa ?_;show AR _ _ _ _ _ [0, 1, 2, 3, 4, 5] _;refine zm rfl <| zm rfl <| zm rfl <| zS rfl (bj ab rfl rfl g7 e9) <| aq rfl rfl (AO.callFp rfl (.inr ⟨rfl, rfl, rfl⟩) uy rfl (rt F x8 x10 e11) ?_);refine zS rfl (cx rfl) <| ag <| az rfl (fun c12 => ?_) (fun c12 => ?_)
   ·replace H := aZ c12 H;refine af <| aa ?_;show AR _ _ _ _ _ [0] _;refine za rfl <| ag <| aL ?_;obtain rfl := ap H;exact And.intro rfl (Exists.intro _ (Exists.intro _ ⟨aH rfl (.refl _), aI [] rfl, rfl, rfl⟩))
   ·replace H := ba c12 H;refine aC ?_;obtain ⟨g13, H⟩ := ay H;refine aa ?_;show AR _ _ _ _ _ [0, 1] _;refine zS rfl (bu rfl rfl g13) <| zm rfl <| ag ?_;exact Exists.intro (n5, y3 + 1) ⟨H, Nat.lt_succ_self _, aP [] (.cons (.refl _) (.cons (.refl _) (.cons (.refl _) (.cons (.refl _) (.nil _))))) rfl⟩
  ·replace H := ba c6 H;refine bZ ?_;exact Exists.intro () ⟨H, aP [] (.cons (.refl _) (.nil _)) rfl⟩
 rintro _ H;replace H : ir a1 = some r2 := H
 unfold ir at H
 refine af <| aa ?_;show AR _ _ _ _ _ [0, 1, 2] _;refine zm rfl <| zS rfl (iV rfl rfl) <| za rfl <| ag <| aL ?_;obtain rfl := ap H;exact And.intro rfl (Exists.intro _ (Exists.intro _ ⟨aH rfl (.refl _), aI [] rfl, rfl, rfl⟩))
set_option maxRecDepth 100000 in
set_option maxHeartbeats 1000000 in
theorem tJ (F : Nat) (a1 : List UInt8) (r2 : Bool) (H : pd F a1 = some r2) : ACalls Tryz.prog 129 [S a1] [] (Ret (B r2) []) := by
 unfold pd at H
 refine ax Tryz.func129 rfl rfl ?_;show AW _ _ 10 _ _ _;refine af <| aa ?_;show AR _ _ _ _ _ [0] _;refine za rfl <| ag <| af ?_;obtain ⟨x4, e5, H⟩ := ft H;refine aa ?_;show AR _ _ _ _ _ [0, 1, 2, 3, 4, 5, 6, 7] _;refine zm rfl <| zS rfl (aU ab rfl) <| zS rfl (dI rfl rfl) <| zm rfl <| bb (l := [7]) 9 (B ((decide ((a1.length : Int) ≤ 40)) && x4)) (fun K => ?_) ?_
 ·rcases ak (decide ((a1.length : Int) ≤ 40)) with h3 | h3
  ·refine zM h3 rfl <| zT h3 rfl (aD rfl pJ rfl (sJ F a1 x4 (e5 h3)) ?_);refine zS rfl (aG (av := .v _) rfl h3 rfl) ?_;exact K _ 2 _ (aA (cz h3)) rfl rfl
  ·refine zF h3 rfl <| zF h3 rfl <| zS rfl (aE (av := .v _) rfl h3 rfl) ?_;exact K _ 2 _ (aA (cA h3)) rfl rfl
 refine za rfl <| ag <| aL ?_;obtain rfl := ap H;exact And.intro rfl (Exists.intro _ (Exists.intro _ ⟨aH rfl (.refl _), aI [] rfl, rfl, rfl⟩))
set_option maxRecDepth 100000 in
set_option maxHeartbeats 1000000 in
theorem sL (F : Nat) (a1 : List UInt8) (r2 : Bool) (H : nH F a1 = some r2) : ACalls Tryz.prog 182 [S a1] [] (Ret (B r2) []) := by
 unfold nH at H
 refine ax Tryz.func182 rfl rfl ?_;show AW _ _ 21 _ _ _;refine af <| aa ?_;show AR _ _ _ _ _ [0] _;refine za rfl <| ag <| af ?_;obtain ⟨x3, e4, H⟩ := bK H;obtain ⟨g6, H⟩ := dq H;obtain ⟨x7, e8, H⟩ := bg H;obtain ⟨g10, H⟩ := dq H;obtain ⟨x11, e12, H⟩ := bg H;obtain ⟨g14, H⟩ := dq H;obtain ⟨x15, e16, H⟩ := bg H;refine aa ?_;show AR _ _ _ _ _ [0, 1, 2, 3, 4, 5, 6, 7, 8, 9, 10, 11, 12, 13, 14, 15, 16, 17, 18] _;refine zm rfl <| aq rfl rfl (aD rfl pJ rfl (sI F a1 x3 e4) ?_);refine zm rfl <| bb (l := [8, 9, 10, 11, 12, 13, 14, 15, 16, 17, 18]) 10 (B (x3 && (decide (x7 = a1)))) (fun K => ?_) ?_
 ·rcases ak x3 with h5 | h5
  ·refine zM h5 rfl <| zT h5 rfl (aD rfl uL rfl (show ACalls _ _ _ [] (Ret (S x7) []) from by subst e8; exact sc a1 32 (by decide) (gW (g6 h5))) ?_);refine zM h5 rfl <| zU h5 rfl (eU rfl rfl) <| zS rfl (aG (av := .v _) rfl h5 rfl) ?_;exact K _ 4 _ (aA (cz h5)) rfl rfl
  ·refine zF h5 rfl <| zF h5 rfl <| zF h5 rfl <| zF h5 rfl <| zS rfl (aE (av := .v _) rfl h5 rfl) ?_;exact K _ 4 _ (aA (cA h5)) rfl rfl
 refine zm rfl <| bb (l := [13, 14, 15, 16, 17, 18]) 15 (B ((x3 && (decide (x7 = a1))) && (!x11))) (fun K => ?_) ?_
 ·rcases ak (x3 && (decide (x7 = a1))) with h9 | h9
  ·refine zM h9 rfl <| zT h9 rfl (aD rfl qG rfl (show ACalls _ _ _ [] (Ret (B x11) []) from by subst e12; exact jp a1 ([32, 32] : List UInt8) (gW (g10 h9))) ?_);refine zU h9 rfl (cx rfl) <| zS rfl (aG (av := .v _) rfl h9 rfl) ?_;exact K _ 3 _ (aA (cz h9)) rfl rfl
  ·refine zF h9 rfl <| zF h9 rfl <| zF h9 rfl <| zS rfl (aE (av := .v _) rfl h9 rfl) ?_;exact K _ 3 _ (aA (cA h9)) rfl rfl
 refine zm rfl <| bb (l := [18]) 20 (B (((x3 && (decide (x7 = a1))) && (!x11)) && (!x15))) (fun K => ?_) ?_
 ·rcases ak ((x3 && (decide (x7 = a1))) && (!x11)) with h13 | h13
  ·refine zM h13 rfl <| zT h13 rfl (aD rfl qG rfl (show ACalls _ _ _ [] (Ret (B x15) []) from by subst e16; exact jp a1 ([61, 63] : List UInt8) (gW (g14 h13))) ?_);refine zU h13 rfl (cx rfl) <| zS rfl (aG (av := .v _) rfl h13 rfl) ?_;exact K _ 3 _ (aA (cz h13)) rfl rfl
  ·refine zF h13 rfl <| zF h13 rfl <| zF h13 rfl <| zS rfl (aE (av := .v _) rfl h13 rfl) ?_;exact K _ 3 _ (aA (cA h13)) rfl rfl
 refine za rfl <| ag <| aL ?_;obtain rfl := ap H;exact And.intro rfl (Exists.intro _ (Exists.intro _ ⟨aH rfl (.refl _), aI [] rfl, rfl, rfl⟩))
set_option maxRecDepth 100000 in
set_option maxHeartbeats 1000000 in
theorem ru (F : Nat) (a1 : UInt8) (r2 : Bool) (H : ml F a1 = some r2) : ACalls Tryz.prog 224 [u8 a1] [] (Ret (B r2) []) := by
 unfold ml at H
 refine ax Tryz.func224 rfl rfl ?_;show AW _ _ 6 _ _ _;refine af <| aa ?_;show AR _ _ _ _ _ [0] _;refine za rfl <| ag <| af <| aa ?_;show AR _ _ _ _ _ [0, 1, 2, 3] _;refine zm rfl <| zS rfl (g_shr8 (n := 6) rfl rfl rfl) <| zS rfl (fw (a := Go.Av.shr8 a1 6) (b := 2) rfl rfl) <| za rfl <| ag <| aL ?_;obtain rfl := ap H;exact And.intro rfl (Exists.intro _ (Exists.intro _ ⟨aH rfl (.refl _), aI [] rfl, rfl, rfl⟩))
set_option maxRecDepth 100000 in
set_option maxHeartbeats 1000000 in
theorem tI (F : Nat) (a1 : List UInt8) (r2 : Int) (H : pc F a1 = some r2) : ACalls Tryz.prog 183 [S a1] [] (Ret (i64 r2) []) := by
 unfold pc at H
 refine ax Tryz.func183 rfl rfl ?_;show AW _ _ 22 _ _ _;refine af <| aa ?_;show AR _ _ _ _ _ [0] _;refine za rfl <| ag <| af <| af <| aa ?_;show AR _ _ _ _ _ [0, 1, 2] _;refine zm rfl <| zS rfl (aU ab rfl) <| zS rfl (dI rfl rfl) <| ag <| az rfl (fun c3 => ?_) (fun c3 => ?_)
 ·replace H := aZ c3 H;refine af <| aa ?_;show AR _ _ _ _ _ [0, 1, 2] _;refine zm rfl <| zS rfl (aU ab rfl) <| za rfl <| ag <| aL ?_;obtain rfl := ap H;exact And.intro rfl (Exists.intro _ (Exists.intro _ ⟨aH rfl (.refl _), aI [] rfl, rfl, rfl⟩))
 ·replace H := ba c3 H;refine aC <| af <| aa ?_;show AR _ _ _ _ _ [0] _;refine za rfl <| ag <| bk (X := Int) (fun y15 => ⟨[(3, i64 y15)], [], []⟩) (fun y15 => jq y15 = some r2) ?_ ?_
  ·refine aO <| cl (X := Nat × Int) (fun (n6, y4) => ⟨[(0, S a1), (3, i64 y4)], [], []⟩) (fun (n6, y4) => lx F a1 n6 y4 = some r2) (fun (n6, y4) => n6) (F, 45) H (aP [] (.cons (.refl _) (.cons (.refl _) (.nil _))) rfl) ?_;rintro ⟨n6, y4⟩ H;obtain ⟨n6, rfl, H⟩ := cO H;replace H : ly F a1 (lx F a1 n6) y4 = some r2 := H
   unfold ly at H
   refine af <| af ?_;obtain ⟨g8, H⟩ := dq H;obtain ⟨x9, e10, H⟩ := bg H;obtain ⟨x11, e12, H⟩ := ft H;refine aa ?_;show AR _ _ _ _ _ [0, 1, 2, 3, 4, 5, 6, 7] _;refine zm rfl <| zS rfl (cS rfl rfl) <| zm rfl <| bb (l := []) 16 (B ((decide (41 < y4)) && x11)) (fun K => ?_) ?_
   ·rcases ak (decide (41 < y4)) with h7 | h7
    ·refine zM h7 rfl <| zM h7 rfl <| zU h7 rfl (bj ab rfl rfl (g8 h7) e10) <| zT h7 rfl (aD rfl ux rfl (ru F x9 x11 (e12 h7)) ?_);refine zS rfl (aG (av := .v _) rfl h7 rfl) ?_;exact K _ 4 _ (aA (cz h7)) rfl rfl
    ·refine zF h7 rfl <| zF h7 rfl <| zF h7 rfl <| zF h7 rfl <| zS rfl (aE (av := .v _) rfl h7 rfl) ?_;exact K _ 4 _ (aA (cA h7)) rfl rfl
   refine ag <| az rfl (fun c13 => ?_) (fun c13 => ?_)
   ·replace H := aZ c13 H;refine aC <| aO ?_;obtain ⟨g14, H⟩ := ay H;refine aa ?_;show AR _ _ _ _ _ [0, 1, 2] _;refine zm rfl <| zS rfl (eL rfl rfl g14) <| za rfl <| ag ?_;exact Exists.intro (n6, y4 - 1) ⟨H, Nat.lt_succ_self _, aP [] (.cons (.refl _) (.cons (.refl _) (.nil _))) rfl⟩
   ·replace H := ba c13 H;refine bZ ?_;exact Exists.intro y4 ⟨H, aP [] (.cons (.refl _) (.nil _)) rfl⟩
  rintro y15 H;replace H : jq y15 = some r2 := H
  unfold jq at H
  refine af <| af <| aa ?_;show AR _ _ _ _ _ [0, 1] _;refine zm rfl <| zS rfl (cJ rfl rfl) <| ag <| az rfl (fun c17 => ?_) (fun c17 => ?_)
  ·replace H := aZ c17 H;refine af <| aa ?_;show AR _ _ _ _ _ [0] _;refine za rfl <| ag <| aL ?_;obtain rfl := ap H;exact And.intro rfl (Exists.intro _ (Exists.intro _ ⟨aH rfl (.refl _), aI [] rfl, rfl, rfl⟩))
  ·replace H := ba c17 H;refine aC <| af <| aa ?_;show AR _ _ _ _ _ [0, 1] _;refine zm rfl <| za rfl <| ag <| aL ?_;obtain rfl := ap H;exact And.intro rfl (Exists.intro _ (Exists.intro _ ⟨aH rfl (.refl _), aI [] rfl, rfl, rfl⟩))
set_option maxRecDepth 100000 in
set_option maxHeartbeats 1000000 in
theorem rr (F : Nat) {σ τ : Type} (T : σ → τ → List Chunk) (k : σ → (List UInt8) → Option (σ × Bool)) (o : Nat) (hY : ∀ (s : σ) (t : τ) (x : List UInt8) (rv : σ × Bool), k s x = some rv → mV Tryz.prog o [S x] (T s t) fun ae A' => ∃ t', ae = .ret (.v (.bool rv.2)) ∧ A' = T rv.1 t') (st0 : σ) (tt0 : τ) (o1 : Nat) (a2 : List UInt8) (rs : σ) (r3 : List UInt8) (H : mi F k st0 a2 = some (rs, r3)) : ACalls Tryz.prog 181 [.yl o, .pt o1 0] ([.obj o1 [S a2]] ++ T st0 tt0) (fun e A' => ∃ tz, e = .ret (.tup []) ∧ A' = [.obj o1 [S r3]] ++ T rs tz) := by
 unfold mi at H
 refine ax Tryz.func181 rfl rfl ?_;show AW _ _ 37 _ _ _;refine bk (X := Unit) (fun _ => ⟨[(0, .yl o), (1, .pt o1 0)], [], ([.obj o1 [S a2]] ++ T st0 tt0)⟩) (fun _ => gE F a2 k st0 = some (rs, r3)) ?_ ?_
 ·refine af ?_;obtain ⟨x4, e5, H⟩ := bK H;refine aa ?_;show AR _ _ _ _ _ [0, 1] _;refine zR rfl (am (i := 0) ab rfl rfl rfl rfl) <| aq rfl rfl (aD rfl uB rfl (sL F a2 x4 e5) ?_);refine ag <| az rfl (fun c6 => ?_) (fun c6 => ?_)
  ·replace H := aZ c6 H;refine af <| af ?_;obtain ⟨g7, H⟩ := ay H;obtain ⟨g8, H⟩ := ay H;obtain ⟨x9, e10, H⟩ := bg H;refine aa ?_;show AR _ _ _ _ _ [0, 1, 2, 3] _;refine zR rfl (am (i := 0) ab rfl rfl rfl rfl) <| aq rfl rfl (aD rfl vS rfl (show ACalls _ _ _ [] (Ret (slE Enc.str x9 none) []) from by subst e10; exact pb a2 ([32] : List UInt8) (gW g7) (of_decide_eq_true g8)) ?_);refine zS rfl (aQ ao rfl) <| zm rfl <| ag <| aO <| cl (X := Nat × Int × σ × τ) (fun (n15, y11, y12, t13) => ⟨[(0, .yl o), (9, slE Enc.str x9 none), (10, i64 (x9.length : Int)), (11, i64 y11)], [], ([.obj o1 [S a2]] ++ T y12 t13)⟩) (fun (n15, y11, y12, t13) => jK a2 k x9 n15 (y11, y12) = some (rs, r3)) (fun (n15, y11, y12, t13) => n15) (F, 0, st0, tt0) H (WK.atT 1 [0] (.cons (.refl _) (.cons (.refl _) (.cons (.refl _) (.cons (.refl _) (.nil _))))) rfl) ?_;rintro ⟨n15, y11, y12, t13⟩ H;obtain ⟨n15, rfl, H⟩ := cO H;replace H : jM a2 k x9 (jK a2 k x9 n15) y11 y12 = some (rs, r3) := H
   unfold jM at H
   refine af <| aa ?_;show AR _ _ _ _ _ [0] _;refine zS rfl (bC rfl rfl) <| ag <| af <| az rfl (fun c16 => ?_) (fun c16 => ?_)
   ·replace H := aZ c16 H;refine aC <| af <| aO <| af ?_;obtain ⟨g17, H⟩ := ay H;obtain ⟨x18, e19, H⟩ := bg H;refine aa ?_;show AR _ _ _ _ _ [0, 1, 2] _;refine zS rfl (cn (E := Enc.str) ao (by kernel_rfl) rfl rfl g17 e19) <| zS rfl (aJ ab rfl rfl) <| za rfl <| ag <| af ?_;obtain ⟨x20, x21, e22, H⟩ := cZ H;refine aa ?_;show AR _ _ _ _ _ [0, 1, 2, 3] _;refine zS rfl (aj (av := .yl _) rfl) <| zm rfl <| aq rfl rfl (AO.yieldT (s' := x20) (b := x21) 1 rfl rfl rfl (hY _ _ _ _ e22) fun t23 => ?_);show AR _ _ _ _ _ _ ⟨_, _, ([.obj o1 [S a2]] ++ T x20 t23)⟩;refine zS rfl (cx rfl) <| ag <| az rfl (fun c24 => ?_) (fun c24 => ?_)
    ·replace H := aZ c24 H;refine aL ?_;obtain ⟨rfl, rfl⟩ := dh H;exact And.intro rfl (Exists.intro _ (Exists.intro _ ⟨ck rfl, Sub.atT 1 [0] rfl, t23, rfl, rfl⟩))
    ·replace H := ba c24 H;refine aC ?_;obtain ⟨g25, H⟩ := ay H;refine aa ?_;show AR _ _ _ _ _ [0, 1] _;refine zS rfl (bu rfl rfl g25) <| zm rfl <| ag ?_;exact Exists.intro (n15, y11 + 1, x20, t23) ⟨H, Nat.lt_succ_self _, WK.atT 1 [0] (.cons (.refl _) (.cons (.refl _) (.cons (.refl _) (.cons (.refl _) (.nil _))))) rfl⟩
   ·replace H := ba c16 H;refine bZ <| aL ?_;obtain ⟨rfl, rfl⟩ := dh H;exact And.intro rfl (Exists.intro _ (Exists.intro _ ⟨ck rfl, Sub.atT 1 [0] rfl, t13, rfl, rfl⟩))
  ·replace H := ba c6 H;refine aC ?_;exact Exists.intro () ⟨H, WK.atT 1 [0] (.cons (.refl _) (.cons (.refl _) (.nil _))) rfl⟩
 rintro _ H;replace H : gE F a2 k st0 = some (rs, r3) := H
 unfold gE at H
 refine aO <| cl (X := Nat × (List UInt8) × σ × τ) (fun (n31, y27, y28, t29) => ⟨[(0, .yl o), (1, .pt o1 0)], [], ([.obj o1 [S y27]] ++ T y28 t29)⟩) (fun (n31, y27, y28, t29) => jL F k n31 (y27, y28) = some (rs, r3)) (fun (n31, y27, y28, t29) => n31) (F, a2, st0, tt0) H (WK.atT 1 [0] (.cons (.refl _) (.cons (.refl _) (.nil _))) rfl) ?_;rintro ⟨n31, y27, y28, t29⟩ H;obtain ⟨n31, rfl, H⟩ := cO H;replace H : jN F k (jL F k n31) y27 y28 = some (rs, r3) := H
 unfold jN at H
 refine af <| af <| aa ?_;show AR _ _ _ _ _ [0, 1] _;refine zR rfl (am (i := 0) ab rfl rfl rfl rfl) <| zS rfl (iV rfl rfl) <| ag <| az rfl (fun c32 => ?_) (fun c32 => ?_)
 ·replace H := aZ c32 H;refine aC <| aO <| af ?_;obtain ⟨x33, e34, H⟩ := bK H;refine aa ?_;show AR _ _ _ _ _ [0, 1, 2] _;refine zR rfl (am (i := 0) ab rfl rfl rfl rfl) <| aq rfl rfl (aD rfl uA rfl (tI F y27 x33 e34) ?_);refine za rfl <| ag <| af <| af ?_;obtain ⟨g35, H⟩ := ay H;obtain ⟨x36, e37, H⟩ := bg H;obtain ⟨g38, H⟩ := ay H;obtain ⟨x40, e41, H⟩ := bK H;obtain ⟨g42, H⟩ := ay H;obtain ⟨x43, e44, H⟩ := bg H;obtain ⟨g45, H⟩ := ay H;obtain ⟨x46, e47, H⟩ := bg H;obtain ⟨x48, x49, e50, H⟩ := cZ H;refine aa ?_;show AR _ _ _ _ _ [0, 1, 2, 3, 4, 5, 6, 7, 8, 9] _;refine zS rfl (aj (av := .yl _) rfl) <| zR rfl (am (i := 0) ab rfl rfl rfl rfl) <| zm rfl <| zS rfl (ld ab rfl rfl g35 e37) <| zX rfl (cy (bytes := 1) ab ac aY rfl g38) ?_;rintro _ _ ⟨t39, rfl, rfl⟩;refine aq rfl rfl (aD rfl uz rfl (xb F x36 (some t39) x40 e41) ?_);refine zS rfl (cg rfl rfl g42 e44) <| zS rfl (cg rfl rfl g45 e47) <| aq rfl rfl (AO.yieldT (s' := x48) (b := x49) 2 rfl rfl rfl (hY _ _ _ _ e50) fun t51 => ?_);show AR _ _ _ _ _ _ ⟨_, _, ([.tok t39 5, .obj o1 [S y27]] ++ T x48 t51)⟩;refine zS rfl (cx rfl) <| ag <| az rfl (fun c52 => ?_) (fun c52 => ?_)
  ·replace H := aZ c52 H;refine aL ?_;obtain ⟨rfl, rfl⟩ := dh H;exact And.intro rfl (Exists.intro _ (Exists.intro _ ⟨ck rfl, Sub.atT 2 [1] rfl, t51, rfl, rfl⟩))
  ·replace H := ba c52 H;refine aC ?_;obtain ⟨g53, H⟩ := ay H;obtain ⟨x54, e55, H⟩ := bg H;refine aa ?_;show AR _ _ _ _ _ [0, 1, 2, 3] _;refine zR rfl (am (i := 1) ab rfl rfl rfl rfl) <| zm rfl <| zS rfl (cI ab rfl rfl g53 e55) <| s0 rfl rfl (aw (i := 1) (c := .v _) (by kernel_rfl) rfl rfl rfl rfl (ai rfl)) <| ag ?_;exact Exists.intro (n31, x54, x48, t51) ⟨H, Nat.lt_succ_self _, WK.atT 2 [1] (.cons (.refl _) (.cons (.refl _) (.nil _))) rfl⟩
 ·replace H := ba c32 H;refine bZ ?_;obtain ⟨rfl, rfl⟩ := dh H;exact And.intro rfl (Exists.intro _ (Exists.intro _ ⟨ck rfl, Sub.atT 1 [0] rfl, t29, rfl, rfl⟩))
set_option maxRecDepth 100000 in
set_option maxHeartbeats 1000000 in
theorem sH (F : Nat) (a1 : List UInt8) (H : nC F a1 = some ()) : ACalls Tryz.prog 130 [S a1] [] (fun e A' => ∃ ob1 : Nat, e = .ret (.fn (.func 181) [] [.pt ob1 0]) ∧ A' = [.obj ob1 [S a1]]) := by
 unfold nC at H
 refine ax Tryz.func130 rfl rfl ?_;show AW _ _ 4 _ _ _;refine af <| aa ?_;show AR _ _ _ _ _ [0, 1] _;refine zX rfl (qd rfl (.inl rfl)) ?_;rintro _ _ ⟨o2, rfl, rfl⟩;refine za rfl <| ag <| af <| aa ?_;show AR _ _ _ _ _ [0, 1] _;refine zS rfl (jm rfl rfl) <| zS rfl (aB (av := .fn _ _ _) rfl) <| ag <| aL ?_;exact And.intro rfl (Exists.intro _ (Exists.intro _ ⟨aH rfl (.refl _), aI [0] rfl, o2, rfl, rfl⟩))
set_option maxRecDepth 100000 in
set_option maxHeartbeats 1000000 in
theorem tK (F : Nat) (a1 : List UInt8) (a2 : List UInt8) (r3 : List UInt8) (r4 : Int) (H : pe F a1 a2 = some (r3, r4)) : ACalls Tryz.prog 79 [.agg [S a1, S a2]] [] (Ret (.tup [slE Enc.byte r3 none, i64 r4]) []) := by
 unfold pe at H
 refine pX Tryz.func79 rfl rfl ?_;show AW _ _ 47 _ _ _;refine af <| aa ?_;show AR _ _ _ _ _ [0, 1, 2] _;refine zR rfl (jz rfl (.inr ⟨_, rfl⟩)) <| za rfl <| za rfl <| ag <| af <| af ?_;obtain ⟨x5, e6, H⟩ := bK H;refine aa ?_;show AR _ _ _ _ _ [0, 1, 2, 3, 4, 5, 6, 7, 8, 9] _;refine zS rfl (aV (n := 0) (by kernel_rfl) rfl (ai rfl)) <| zS rfl (aJ ab rfl rfl) <| aq rfl rfl (aD rfl uG rfl (tJ F a1 x5 e6) ?_);refine zS rfl (cx rfl) <| zm rfl <| bb (l := []) 16 (B ((!x5) || (decide (4000 < (a2.length : Int))))) (fun K => ?_) ?_
 ·rcases ak (!x5) with h7 | h7
  ·refine zF h7 rfl <| zF h7 rfl <| zF h7 rfl <| zF h7 rfl <| zS rfl (aG (av := .v _) rfl h7 rfl) ?_;exact K _ 4 _ (aA (fT h7)) rfl rfl
  ·refine zU h7 rfl (aV (n := 1) (by kernel_rfl) rfl (ai rfl)) <| zU h7 rfl (aJ ab rfl rfl) <| zU h7 rfl (aU ab rfl) <| zU h7 rfl (cS rfl rfl) <| zS rfl (aE (av := .v _) rfl h7 rfl) ?_;exact K _ 4 _ (aA (fU h7)) rfl rfl
 refine ag <| az rfl (fun c8 => ?_) (fun c8 => ?_)
 ·replace H := aZ c8 H;refine af <| aa ?_;show AR _ _ _ _ _ [0, 1] _;refine za rfl <| za rfl <| ag <| aL ?_;obtain ⟨rfl, rfl⟩ := dh H;exact Exists.intro _ (And.intro (.nil _) (Exists.intro _ (Exists.intro _ ⟨be rfl (.nil _) (.refl _), aI [] rfl, rfl, rfl⟩)))
 ·replace H := ba c8 H;refine aC <| af ?_;obtain ⟨g9, H⟩ := ay H;obtain ⟨x10, e11, H⟩ := bg H;obtain ⟨g12, H⟩ := ay H;refine aa ?_;show AR _ _ _ _ _ [0, 1, 2, 3, 4, 5] _;refine zS rfl (aV (n := 0) (by kernel_rfl) rfl (ai rfl)) <| zS rfl (aJ ab rfl rfl) <| zS rfl (cg rfl rfl g9 e11) <| zX rfl (cy (bytes := 1) ab ac aY rfl g12) ?_;rintro _ _ ⟨t13, rfl, rfl⟩;refine zX rfl (dF (zs := [.slice none 0 0]) (by kernel_rfl)) ?_;rintro _ _ ⟨o14, rfl, rfl⟩;refine s0 rfl rfl (aw (i := 0) (c := slE _ _ _) (by kernel_rfl) rfl rfl rfl rfl (ai rfl)) <| ag <| af <| aa ?_;show AR _ _ _ _ _ [0, 1, 2, 3] _;refine zR rfl (am (i := 0) ac rfl rfl rfl rfl) <| zS rfl (aQ ac rfl) <| zX rfl (dF (zs := [.int .i64 0]) (by kernel_rfl)) ?_;rintro _ _ ⟨o15, rfl, rfl⟩;refine s0 rfl rfl (aw (i := 0) (c := .v _) (by kernel_rfl) rfl rfl rfl rfl (ai rfl)) <| ag <| bk (X := Nat × (List UInt8) × Nat) (fun (t65, y66, t67) => ⟨[(4, .pt o14 0)], [.mark t65], [.obj o14 [slE Enc.byte y66 (some t67)], .tok t67 5, .db t65]⟩) (fun (t65, y66, t67) => js y66 = some (r3, r4)) ?_ ?_
  ·refine af ?_;obtain ⟨_, e16, H⟩ := bK H;refine aa ?_;show AR _ _ _ _ _ [0, 1, 2] _;refine zS rfl (aV (n := 1) (by kernel_rfl) rfl (ai rfl)) <| zS rfl (aJ ab rfl rfl) <| aq rfl rfl (bI [] rfl uF rfl (sH F a2 e16) rfl (fun c A' h => by obtain ⟨_, h, _⟩ := h; cases h) ?_)
   rintro av A' ⟨o17, h, rfl⟩; cases h
   refine ag <| aO ?_;obtain ⟨x60, x61, e62, H⟩ := cZ H;refine AW.rangeK (α := List UInt8) (σ := Int × (List UInt8)) (τ := Nat) (fun x => [S x]) (fun s t => [.obj o15 [i64 s.1], .obj o14 [slE Enc.byte s.2 (some t)], .tok t 5]) (fun _ => none) (fun s x => jr s.1 s.2 x) ((x10.length : Int), x10) t13 x60 [0] [0, 0, 0] rfl uC (fun _ => rfl) (by decide) rfl rfl rfl (fun o T' hY => rr F T' _ o hY _ _ o17 a2 x60 x61 e62) ?_ ?_
   ·rintro l ⟨y18, y19⟩ t20 x22 rv H;replace H : jr y18 y19 x22 = some rv := H
    unfold jr at H
    refine ⟨rfl, ?_⟩;show AW _ _ _ _ _ ⟨(26, S x22) :: _, [], _⟩;refine aa ?_;show AR _ _ _ _ _ [0] _;refine za rfl <| ag <| aO <| bk (X := Int × (List UInt8) × Nat) (fun (y30, y31, t32) => ⟨[(4, .pt o14 0), (5, .pt o15 0), (6, S x22)], [], [.obj o15 [i64 y30], .obj o14 [slE Enc.byte y31 (some t32)], .tok t32 5]⟩) (fun (y30, y31, t32) => gN x22 y30 y31 = some rv) ?_ ?_
    ·refine af ?_;obtain ⟨g23, H⟩ := ay H;obtain ⟨g24, H⟩ := ay H;refine aa ?_;show AR _ _ _ _ _ [0, 1, 2, 3, 4, 5] _;refine zR rfl (am (i := 0) bf rfl rfl rfl rfl) <| zS rfl (bu rfl rfl g23) <| zm rfl <| zS rfl (aU ab rfl) <| zS rfl (bu rfl rfl g24) <| zS rfl (cS rfl rfl) <| ag <| az rfl (fun c25 => ?_) (fun c25 => ?_)
     ·replace H := aZ c25 H;obtain ⟨g27, H⟩ := ay H;obtain ⟨x28, e29, H⟩ := bg H;refine aa ?_;show AR _ _ _ _ _ [0, 1, 2, 3] _;refine zR rfl (am (i := 1) ac rfl rfl rfl rfl) <| zX rfl (bA (bytes := 1) 2 ac ab rfl (by kernel_rfl) rfl rfl rfl rfl g27 e29) ?_;rintro _ _ ⟨t26, rfl, rfl⟩;refine s0 rfl rfl (aw (i := 1) (c := slE _ _ _) (by kernel_rfl) rfl rfl rfl rfl (ai rfl)) <| s0 rfl rfl (aw (i := 0) (c := .v _) (by kernel_rfl) rfl rfl rfl rfl (ai rfl)) <| ag ?_;exact Exists.intro (0, x28, t26) ⟨H, aP [0, 0, 0] (.cons (.refl _) (.cons (.refl _) (.cons (.refl _) (.nil _)))) rfl⟩
     ·replace H := ba c25 H;refine aC ?_;exact Exists.intro (y18, y19, t20) ⟨H, aP [0, 0, 0] (.cons (.refl _) (.cons (.refl _) (.cons (.refl _) (.nil _)))) rfl⟩
    rintro ⟨y30, y31, t32⟩ H;replace H : gN x22 y30 y31 = some rv := H
    unfold gN at H
    obtain ⟨g35, H⟩ := ay H;obtain ⟨x36, e37, H⟩ := bg H;obtain ⟨g39, H⟩ := ay H;obtain ⟨x40, e41, H⟩ := bg H;obtain ⟨g42, H⟩ := ay H;obtain ⟨g43, H⟩ := ay H;refine pW (by kernel_rfl) (by kernel_rfl) ?_;show AI _ _ _ _ _ 12 (Array.replicate 12 false) _;refine zk 3 rfl (mv rfl) ?_;show AI _ _ _ _ _ _ #[false, false, false, true, false, false, false, false, false, false, false, false] _;refine zk 7 rfl (mv rfl) ?_;show AI _ _ _ _ _ _ #[false, false, false, true, false, false, false, true, false, false, false, false] _;refine zk 8 rfl (aU ab rfl) ?_;show AI _ _ _ _ _ _ #[false, false, false, true, false, false, false, true, true, false, false, false] _;refine vj (i := 0) (j := 1) (l := 5) (by kernel_rfl) rfl rfl rfl rfl rfl rfl ?_ ?_ ?_
    ·refine aW rfl (am (i := 1) ac rfl rfl rfl rfl) ?_;show AI _ _ _ _ _ _ #[true, false, false, true, false, false, false, true, true, false, false, false] _;refine dE (i := 1) (j := 5) (by kernel_rfl) rfl rfl rfl rfl ?_ ?_
     ·refine aW rfl (bQ (E := Enc.byte) (bytes := 1) (xs := [.const _]) (l := ([32] : List UInt8)) ac (by kernel_rfl) rfl rfl (by decide) rfl rfl) ?_;show AI _ _ _ _ _ _ #[true, true, false, true, false, false, false, true, true, false, false, false] _;refine dE (i := 2) (j := 5) (by kernel_rfl) rfl rfl rfl rfl ?_ ?_
      ·refine cf rfl (cE (E := Enc.byte) (bytes := 1) 2 ac ac rfl (by kernel_rfl) rfl rfl rfl rfl g35 e37) ?_;rintro _ _ ⟨t34, rfl, rfl⟩;show AI _ _ _ _ _ _ #[true, true, true, true, false, false, false, true, true, false, false, false] _;refine dE (i := 4) (j := 5) (by kernel_rfl) rfl rfl rfl rfl ?_ ?_
       ·refine cf rfl (bA (bytes := 1) 2 ac ab rfl (by kernel_rfl) rfl rfl rfl rfl g39 e41) ?_;rintro _ _ ⟨t38, rfl, rfl⟩;show AI _ _ _ _ _ _ #[true, true, true, true, true, false, false, true, true, false, false, false] _;refine dE (i := 5) (j := 10) (by kernel_rfl) rfl rfl rfl rfl ?_ ?_
        ·refine aW rfl (am (i := 0) bf rfl rfl rfl rfl) ?_;show AI _ _ _ _ _ _ #[true, true, true, true, true, true, false, true, true, false, false, false] _;refine zk 6 rfl (bu rfl rfl g42) ?_;show AI _ _ _ _ _ _ #[true, true, true, true, true, true, true, true, true, false, false, false] _;refine zk 9 rfl (bu rfl rfl g43) ?_;show AI _ _ _ _ _ _ #[true, true, true, true, true, true, true, true, true, true, false, false] _;refine aX (i := 10) (by kernel_rfl) rfl rfl <| cr (aw (i := 1) (c := slE _ _ _) (by kernel_rfl) rfl rfl rfl rfl (ai rfl)) ?_;show AI _ _ _ _ _ _ #[true, true, true, true, true, true, true, true, true, true, true, false] _;refine aX (i := 11) (by kernel_rfl) rfl rfl <| cr (aw (i := 0) (c := .v _) (by kernel_rfl) rfl rfl rfl rfl (ai rfl)) ?_;show AI _ _ _ _ _ _ #[true, true, true, true, true, true, true, true, true, true, true, true] _;refine bE rfl ?_;obtain rfl := ap H;exact ⟨rfl, rfl, t38, aI [0, 0, 0] rfl⟩
        ·refine cr (aw (i := 1) (c := slE _ _ _) (by kernel_rfl) rfl rfl rfl rfl (ai rfl)) ?_;show AI _ _ _ _ _ _ #[true, true, true, true, true, false, false, true, true, false, true, false] _;refine aX (i := 5) (by kernel_rfl) rfl rfl <| aW rfl (am (i := 0) bf rfl rfl rfl rfl) ?_;show AI _ _ _ _ _ _ #[true, true, true, true, true, true, false, true, true, false, true, false] _;refine zk 6 rfl (bu rfl rfl g42) ?_;show AI _ _ _ _ _ _ #[true, true, true, true, true, true, true, true, true, false, true, false] _;refine zk 9 rfl (bu rfl rfl g43) ?_;show AI _ _ _ _ _ _ #[true, true, true, true, true, true, true, true, true, true, true, false] _;refine aX (i := 11) (by kernel_rfl) rfl rfl <| cr (aw (i := 0) (c := .v _) (by kernel_rfl) rfl rfl rfl rfl (ai rfl)) ?_;show AI _ _ _ _ _ _ #[true, true, true, true, true, true, true, true, true, true, true, true] _;refine bE rfl ?_;obtain rfl := ap H;exact ⟨rfl, rfl, t38, aI [0, 0, 0] rfl⟩
       ·refine aW rfl (am (i := 0) bf rfl rfl rfl rfl) ?_;show AI _ _ _ _ _ _ #[true, true, true, true, false, true, false, true, true, false, false, false] _;refine zk 6 rfl (bu rfl rfl g42) ?_;show AI _ _ _ _ _ _ #[true, true, true, true, false, true, true, true, true, false, false, false] _;refine zk 9 rfl (bu rfl rfl g43) ?_;show AI _ _ _ _ _ _ #[true, true, true, true, false, true, true, true, true, true, false, false] _;refine aX (i := 4) (by kernel_rfl) rfl rfl <| cf rfl (bA (bytes := 1) 2 ac ab rfl (by kernel_rfl) rfl rfl rfl rfl g39 e41) ?_;rintro _ _ ⟨t44, rfl, rfl⟩;show AI _ _ _ _ _ _ #[true, true, true, true, true, true, true, true, true, true, false, false] _;refine aX (i := 10) (by kernel_rfl) rfl rfl <| cr (aw (i := 1) (c := slE _ _ _) (by kernel_rfl) rfl rfl rfl rfl (ai rfl)) ?_;show AI _ _ _ _ _ _ #[true, true, true, true, true, true, true, true, true, true, true, false] _;refine aX (i := 11) (by kernel_rfl) rfl rfl <| cr (aw (i := 0) (c := .v _) (by kernel_rfl) rfl rfl rfl rfl (ai rfl)) ?_;show AI _ _ _ _ _ _ #[true, true, true, true, true, true, true, true, true, true, true, true] _;refine bE rfl ?_;obtain rfl := ap H;exact ⟨rfl, rfl, t44, aI [0, 0, 0] rfl⟩
      ·refine aW rfl (am (i := 0) bf rfl rfl rfl rfl) ?_;show AI _ _ _ _ _ _ #[true, true, false, true, false, true, false, true, true, false, false, false] _;refine zk 6 rfl (bu rfl rfl g42) ?_;show AI _ _ _ _ _ _ #[true, true, false, true, false, true, true, true, true, false, false, false] _;refine zk 9 rfl (bu rfl rfl g43) ?_;show AI _ _ _ _ _ _ #[true, true, false, true, false, true, true, true, true, true, false, false] _;refine aX (i := 2) (by kernel_rfl) rfl rfl <| cf rfl (cE (E := Enc.byte) (bytes := 1) 2 ac ac rfl (by kernel_rfl) rfl rfl rfl rfl g35 e37) ?_;rintro _ _ ⟨t45, rfl, rfl⟩;show AI _ _ _ _ _ _ #[true, true, true, true, false, true, true, true, true, true, false, false] _;refine aX (i := 4) (by kernel_rfl) rfl rfl <| cf rfl (bA (bytes := 1) 2 ac ab rfl (by kernel_rfl) rfl rfl rfl rfl g39 e41) ?_;rintro _ _ ⟨t46, rfl, rfl⟩;show AI _ _ _ _ _ _ #[true, true, true, true, true, true, true, true, true, true, false, false] _;refine aX (i := 10) (by kernel_rfl) rfl rfl <| cr (aw (i := 1) (c := slE _ _ _) (by kernel_rfl) rfl rfl rfl rfl (ai rfl)) ?_;show AI _ _ _ _ _ _ #[true, true, true, true, true, true, true, true, true, true, true, false] _;refine aX (i := 11) (by kernel_rfl) rfl rfl <| cr (aw (i := 0) (c := .v _) (by kernel_rfl) rfl rfl rfl rfl (ai rfl)) ?_;show AI _ _ _ _ _ _ #[true, true, true, true, true, true, true, true, true, true, true, true] _
       refine bE rfl ?_;obtain rfl := ap H;exact ⟨rfl, rfl, t46, aI [0, 0, 0] rfl⟩
     ·refine aW rfl (am (i := 0) bf rfl rfl rfl rfl) ?_;show AI _ _ _ _ _ _ #[true, false, false, true, false, true, false, true, true, false, false, false] _;refine zk 6 rfl (bu rfl rfl g42) ?_;show AI _ _ _ _ _ _ #[true, false, false, true, false, true, true, true, true, false, false, false] _;refine zk 9 rfl (bu rfl rfl g43) ?_;show AI _ _ _ _ _ _ #[true, false, false, true, false, true, true, true, true, true, false, false] _;refine aX (i := 1) (by kernel_rfl) rfl rfl <| aW rfl (bQ (E := Enc.byte) (bytes := 1) (xs := [.const _]) (l := ([32] : List UInt8)) ac (by kernel_rfl) rfl rfl (by decide) rfl rfl) ?_;show AI _ _ _ _ _ _ #[true, true, false, true, false, true, true, true, true, true, false, false] _;refine aX (i := 2) (by kernel_rfl) rfl rfl <| cf rfl (cE (E := Enc.byte) (bytes := 1) 2 ac ac rfl (by kernel_rfl) rfl rfl rfl rfl g35 e37) ?_;rintro _ _ ⟨t47, rfl, rfl⟩;show AI _ _ _ _ _ _ #[true, true, true, true, false, true, true, true, true, true, false, false] _;refine aX (i := 4) (by kernel_rfl) rfl rfl <| cf rfl (bA (bytes := 1) 2 ac ab rfl (by kernel_rfl) rfl rfl rfl rfl g39 e41) ?_;rintro _ _ ⟨t48, rfl, rfl⟩;show AI _ _ _ _ _ _ #[true, true, true, true, true, true, true, true, true, true, false, false] _;refine aX (i := 10) (by kernel_rfl) rfl rfl <| cr (aw (i := 1) (c := slE _ _ _) (by kernel_rfl) rfl rfl rfl rfl (ai rfl)) ?_
      show AI _ _ _ _ _ _ #[true, true, true, true, true, true, true, true, true, true, true, false] _;refine aX (i := 11) (by kernel_rfl) rfl rfl <| cr (aw (i := 0) (c := .v _) (by kernel_rfl) rfl rfl rfl rfl (ai rfl)) ?_;show AI _ _ _ _ _ _ #[true, true, true, true, true, true, true, true, true, true, true, true] _;refine bE rfl ?_;obtain rfl := ap H;exact ⟨rfl, rfl, t48, aI [0, 0, 0] rfl⟩
    ·refine aW rfl (bQ (E := Enc.byte) (bytes := 1) (xs := [.const _]) (l := ([32] : List UInt8)) ac (by kernel_rfl) rfl rfl (by decide) rfl rfl) ?_;show AI _ _ _ _ _ _ #[false, true, false, true, false, false, false, true, true, false, false, false] _;refine dE (i := 0) (j := 5) (by kernel_rfl) rfl rfl rfl rfl ?_ ?_
     ·refine aW rfl (am (i := 1) ac rfl rfl rfl rfl) ?_;show AI _ _ _ _ _ _ #[true, true, false, true, false, false, false, true, true, false, false, false] _;refine dE (i := 2) (j := 5) (by kernel_rfl) rfl rfl rfl rfl ?_ ?_
      ·refine cf rfl (cE (E := Enc.byte) (bytes := 1) 2 ac ac rfl (by kernel_rfl) rfl rfl rfl rfl g35 e37) ?_;rintro _ _ ⟨t49, rfl, rfl⟩;show AI _ _ _ _ _ _ #[true, true, true, true, false, false, false, true, true, false, false, false] _;refine dE (i := 4) (j := 5) (by kernel_rfl) rfl rfl rfl rfl ?_ ?_
       ·refine cf rfl (bA (bytes := 1) 2 ac ab rfl (by kernel_rfl) rfl rfl rfl rfl g39 e41) ?_;rintro _ _ ⟨t50, rfl, rfl⟩;show AI _ _ _ _ _ _ #[true, true, true, true, true, false, false, true, true, false, false, false] _;refine dE (i := 5) (j := 10) (by kernel_rfl) rfl rfl rfl rfl ?_ ?_
        ·refine aW rfl (am (i := 0) bf rfl rfl rfl rfl) ?_;show AI _ _ _ _ _ _ #[true, true, true, true, true, true, false, true, true, false, false, false] _;refine zk 6 rfl (bu rfl rfl g42) ?_;show AI _ _ _ _ _ _ #[true, true, true, true, true, true, true, true, true, false, false, false] _;refine zk 9 rfl (bu rfl rfl g43) ?_;show AI _ _ _ _ _ _ #[true, true, true, true, true, true, true, true, true, true, false, false] _;refine aX (i := 10) (by kernel_rfl) rfl rfl <| cr (aw (i := 1) (c := slE _ _ _) (by kernel_rfl) rfl rfl rfl rfl (ai rfl)) ?_;show AI _ _ _ _ _ _ #[true, true, true, true, true, true, true, true, true, true, true, false] _;refine aX (i := 11) (by kernel_rfl) rfl rfl <| cr (aw (i := 0) (c := .v _) (by kernel_rfl) rfl rfl rfl rfl (ai rfl)) ?_;show AI _ _ _ _ _ _ #[true, true, true, true, true, true, true, true, true, true, true, true] _;refine bE rfl ?_;obtain rfl := ap H;exact ⟨rfl, rfl, t50, aI [0, 0, 0] rfl⟩
        ·refine cr (aw (i := 1) (c := slE _ _ _) (by kernel_rfl) rfl rfl rfl rfl (ai rfl)) ?_;show AI _ _ _ _ _ _ #[true, true, true, true, true, false, false, true, true, false, true, false] _;refine aX (i := 5) (by kernel_rfl) rfl rfl <| aW rfl (am (i := 0) bf rfl rfl rfl rfl) ?_;show AI _ _ _ _ _ _ #[true, true, true, true, true, true, false, true, true, false, true, false] _;refine zk 6 rfl (bu rfl rfl g42) ?_;show AI _ _ _ _ _ _ #[true, true, true, true, true, true, true, true, true, false, true, false] _;refine zk 9 rfl (bu rfl rfl g43) ?_;show AI _ _ _ _ _ _ #[true, true, true, true, true, true, true, true, true, true, true, false] _;refine aX (i := 11) (by kernel_rfl) rfl rfl <| cr (aw (i := 0) (c := .v _) (by kernel_rfl) rfl rfl rfl rfl (ai rfl)) ?_;show AI _ _ _ _ _ _ #[true, true, true, true, true, true, true, true, true, true, true, true] _;refine bE rfl ?_;obtain rfl := ap H;exact ⟨rfl, rfl, t50, aI [0, 0, 0] rfl⟩
       ·refine aW rfl (am (i := 0) bf rfl rfl rfl rfl) ?_;show AI _ _ _ _ _ _ #[true, true, true, true, false, true, false, true, true, false, false, false] _;refine zk 6 rfl (bu rfl rfl g42) ?_;show AI _ _ _ _ _ _ #[true, true, true, true, false, true, true, true, true, false, false, false] _;refine zk 9 rfl (bu rfl rfl g43) ?_;show AI _ _ _ _ _ _ #[true, true, true, true, false, true, true, true, true, true, false, false] _;refine aX (i := 4) (by kernel_rfl) rfl rfl <| cf rfl (bA (bytes := 1) 2 ac ab rfl (by kernel_rfl) rfl rfl rfl rfl g39 e41) ?_;rintro _ _ ⟨t51, rfl, rfl⟩;show AI _ _ _ _ _ _ #[true, true, true, true, true, true, true, true, true, true, false, false] _;refine aX (i := 10) (by kernel_rfl) rfl rfl <| cr (aw (i := 1) (c := slE _ _ _) (by kernel_rfl) rfl rfl rfl rfl (ai rfl)) ?_;show AI _ _ _ _ _ _ #[true, true, true, true, true, true, true, true, true, true, true, false] _;refine aX (i := 11) (by kernel_rfl) rfl rfl <| cr (aw (i := 0) (c := .v _) (by kernel_rfl) rfl rfl rfl rfl (ai rfl)) ?_;show AI _ _ _ _ _ _ #[true, true, true, true, true, true, true, true, true, true, true, true] _;refine bE rfl ?_;obtain rfl := ap H;exact ⟨rfl, rfl, t51, aI [0, 0, 0] rfl⟩
      ·refine aW rfl (am (i := 0) bf rfl rfl rfl rfl) ?_;show AI _ _ _ _ _ _ #[true, true, false, true, false, true, false, true, true, false, false, false] _;refine zk 6 rfl (bu rfl rfl g42) ?_;show AI _ _ _ _ _ _ #[true, true, false, true, false, true, true, true, true, false, false, false] _;refine zk 9 rfl (bu rfl rfl g43) ?_;show AI _ _ _ _ _ _ #[true, true, false, true, false, true, true, true, true, true, false, false] _;refine aX (i := 2) (by kernel_rfl) rfl rfl <| cf rfl (cE (E := Enc.byte) (bytes := 1) 2 ac ac rfl (by kernel_rfl) rfl rfl rfl rfl g35 e37) ?_;rintro _ _ ⟨t52, rfl, rfl⟩;show AI _ _ _ _ _ _ #[true, true, true, true, false, true, true, true, true, true, false, false] _;refine aX (i := 4) (by kernel_rfl) rfl rfl <| cf rfl (bA (bytes := 1) 2 ac ab rfl (by kernel_rfl) rfl rfl rfl rfl g39 e41) ?_;rintro _ _ ⟨t53, rfl, rfl⟩;show AI _ _ _ _ _ _ #[true, true, true, true, true, true, true, true, true, true, false, false] _;refine aX (i := 10) (by kernel_rfl) rfl rfl <| cr (aw (i := 1) (c := slE _ _ _) (by kernel_rfl) rfl rfl rfl rfl (ai rfl)) ?_;show AI _ _ _ _ _ _ #[true, true, true, true, true, true, true, true, true, true, true, false] _;refine aX (i := 11) (by kernel_rfl) rfl rfl <| cr (aw (i := 0) (c := .v _) (by kernel_rfl) rfl rfl rfl rfl (ai rfl)) ?_;show AI _ _ _ _ _ _ #[true, true, true, true, true, true, true, true, true, true, true, true] _
       refine bE rfl ?_;obtain rfl := ap H;exact ⟨rfl, rfl, t53, aI [0, 0, 0] rfl⟩
     ·refine aW rfl (am (i := 0) bf rfl rfl rfl rfl) ?_;show AI _ _ _ _ _ _ #[false, true, false, true, false, true, false, true, true, false, false, false] _;refine zk 6 rfl (bu rfl rfl g42) ?_;show AI _ _ _ _ _ _ #[false, true, false, true, false, true, true, true, true, false, false, false] _;refine zk 9 rfl (bu rfl rfl g43) ?_;show AI _ _ _ _ _ _ #[false, true, false, true, false, true, true, true, true, true, false, false] _;refine aX (i := 0) (by kernel_rfl) rfl rfl <| aW rfl (am (i := 1) ac rfl rfl rfl rfl) ?_;show AI _ _ _ _ _ _ #[true, true, false, true, false, true, true, true, true, true, false, false] _;refine aX (i := 2) (by kernel_rfl) rfl rfl <| cf rfl (cE (E := Enc.byte) (bytes := 1) 2 ac ac rfl (by kernel_rfl) rfl rfl rfl rfl g35 e37) ?_;rintro _ _ ⟨t54, rfl, rfl⟩;show AI _ _ _ _ _ _ #[true, true, true, true, false, true, true, true, true, true, false, false] _;refine aX (i := 4) (by kernel_rfl) rfl rfl <| cf rfl (bA (bytes := 1) 2 ac ab rfl (by kernel_rfl) rfl rfl rfl rfl g39 e41) ?_;rintro _ _ ⟨t55, rfl, rfl⟩;show AI _ _ _ _ _ _ #[true, true, true, true, true, true, true, true, true, true, false, false] _;refine aX (i := 10) (by kernel_rfl) rfl rfl <| cr (aw (i := 1) (c := slE _ _ _) (by kernel_rfl) rfl rfl rfl rfl (ai rfl)) ?_;show AI _ _ _ _ _ _ #[true, true, true, true, true, true, true, true, true, true, true, false] _
      refine aX (i := 11) (by kernel_rfl) rfl rfl <| cr (aw (i := 0) (c := .v _) (by kernel_rfl) rfl rfl rfl rfl (ai rfl)) ?_;show AI _ _ _ _ _ _ #[true, true, true, true, true, true, true, true, true, true, true, true] _;refine bE rfl ?_;obtain rfl := ap H;exact ⟨rfl, rfl, t55, aI [0, 0, 0] rfl⟩
    ·refine aW rfl (am (i := 0) bf rfl rfl rfl rfl) ?_;show AI _ _ _ _ _ _ #[false, false, false, true, false, true, false, true, true, false, false, false] _;refine zk 6 rfl (bu rfl rfl g42) ?_;show AI _ _ _ _ _ _ #[false, false, false, true, false, true, true, true, true, false, false, false] _;refine zk 9 rfl (bu rfl rfl g43) ?_;show AI _ _ _ _ _ _ #[false, false, false, true, false, true, true, true, true, true, false, false] _;refine dE (i := 0) (j := 1) (by kernel_rfl) rfl rfl rfl rfl ?_ ?_
     ·refine aW rfl (am (i := 1) ac rfl rfl rfl rfl) ?_;show AI _ _ _ _ _ _ #[true, false, false, true, false, true, true, true, true, true, false, false] _;refine aX (i := 1) (by kernel_rfl) rfl rfl <| aW rfl (bQ (E := Enc.byte) (bytes := 1) (xs := [.const _]) (l := ([32] : List UInt8)) ac (by kernel_rfl) rfl rfl (by decide) rfl rfl) ?_;show AI _ _ _ _ _ _ #[true, true, false, true, false, true, true, true, true, true, false, false] _;refine aX (i := 2) (by kernel_rfl) rfl rfl <| cf rfl (cE (E := Enc.byte) (bytes := 1) 2 ac ac rfl (by kernel_rfl) rfl rfl rfl rfl g35 e37) ?_;rintro _ _ ⟨t56, rfl, rfl⟩;show AI _ _ _ _ _ _ #[true, true, true, true, false, true, true, true, true, true, false, false] _;refine aX (i := 4) (by kernel_rfl) rfl rfl <| cf rfl (bA (bytes := 1) 2 ac ab rfl (by kernel_rfl) rfl rfl rfl rfl g39 e41) ?_;rintro _ _ ⟨t57, rfl, rfl⟩;show AI _ _ _ _ _ _ #[true, true, true, true, true, true, true, true, true, true, false, false] _;refine aX (i := 10) (by kernel_rfl) rfl rfl <| cr (aw (i := 1) (c := slE _ _ _) (by kernel_rfl) rfl rfl rfl rfl (ai rfl)) ?_;show AI _ _ _ _ _ _ #[true, true, true, true, true, true, true, true, true, true, true, false] _;refine aX (i := 11) (by kernel_rfl) rfl rfl <| cr (aw (i := 0) (c := .v _) (by kernel_rfl) rfl rfl rfl rfl (ai rfl)) ?_
      show AI _ _ _ _ _ _ #[true, true, true, true, true, true, true, true, true, true, true, true] _;refine bE rfl ?_;obtain rfl := ap H;exact ⟨rfl, rfl, t57, aI [0, 0, 0] rfl⟩
     ·refine aW rfl (bQ (E := Enc.byte) (bytes := 1) (xs := [.const _]) (l := ([32] : List UInt8)) ac (by kernel_rfl) rfl rfl (by decide) rfl rfl) ?_;show AI _ _ _ _ _ _ #[false, true, false, true, false, true, true, true, true, true, false, false] _;refine aX (i := 0) (by kernel_rfl) rfl rfl <| aW rfl (am (i := 1) ac rfl rfl rfl rfl) ?_;show AI _ _ _ _ _ _ #[true, true, false, true, false, true, true, true, true, true, false, false] _;refine aX (i := 2) (by kernel_rfl) rfl rfl <| cf rfl (cE (E := Enc.byte) (bytes := 1) 2 ac ac rfl (by kernel_rfl) rfl rfl rfl rfl g35 e37) ?_;rintro _ _ ⟨t58, rfl, rfl⟩;show AI _ _ _ _ _ _ #[true, true, true, true, false, true, true, true, true, true, false, false] _;refine aX (i := 4) (by kernel_rfl) rfl rfl <| cf rfl (bA (bytes := 1) 2 ac ab rfl (by kernel_rfl) rfl rfl rfl rfl g39 e41) ?_;rintro _ _ ⟨t59, rfl, rfl⟩;show AI _ _ _ _ _ _ #[true, true, true, true, true, true, true, true, true, true, false, false] _;refine aX (i := 10) (by kernel_rfl) rfl rfl <| cr (aw (i := 1) (c := slE _ _ _) (by kernel_rfl) rfl rfl rfl rfl (ai rfl)) ?_;show AI _ _ _ _ _ _ #[true, true, true, true, true, true, true, true, true, true, true, false] _;refine aX (i := 11) (by kernel_rfl) rfl rfl <| cr (aw (i := 0) (c := .v _) (by kernel_rfl) rfl rfl rfl rfl (ai rfl)) ?_
      show AI _ _ _ _ _ _ #[true, true, true, true, true, true, true, true, true, true, true, true] _;refine bE rfl ?_;obtain rfl := ap H;exact ⟨rfl, rfl, t59, aI [0, 0, 0] rfl⟩
   rintro o64 t63;exact Exists.intro (o64, x60.2, t63) ⟨H, aP [3, 3, 0] (.cons (.refl _) (.nil _)) rfl⟩
  rintro ⟨t65, y66, t67⟩ H;replace H : js y66 = some (r3, r4) := H
  unfold js at H
  refine af ?_;obtain ⟨g70, H⟩ := ay H;obtain ⟨x71, e72, H⟩ := bg H;refine aa ?_;show AR _ _ _ _ _ [0, 1, 2, 3] _;refine zR rfl (am (i := 0) ac rfl rfl rfl rfl) <| zX rfl (bA (bytes := 1) 1 ac ab rfl (by kernel_rfl) rfl rfl rfl rfl g70 e72) ?_;rintro _ _ ⟨t69, rfl, rfl⟩;refine zS rfl (aB (av := slE _ _ _) rfl) <| za rfl <| ag <| aL ?_;obtain ⟨rfl, rfl⟩ := dh H;exact Exists.intro _ (And.intro (Unmark.at 2 rfl (.nil _)) (Exists.intro _ (Exists.intro _ ⟨be rfl (.tok _ _ _) (.refl _), aI [] rfl, rfl, rfl⟩)))
end Go.Proofs.YtjegcifofddgbaaGreatDoor
namespace Go.Pv
def iv (y25 : List (List UInt8)) : Option ((List (List UInt8)) × Int) :=
some (y25, 0)
def kL (F : Nat) (a1 : List ((List UInt8) × List UInt8)) (rec9 : ((List (List UInt8)) × Int) → Option ((List (List UInt8)) × Int)) (y6 : List (List UInt8)) (y8 : Int) : Option ((List (List UInt8)) × Int) :=
bif decide (y8 < (a1.length : Int)) then
  grd (cD y8 a1.length) <|
  lt (at_ a1 y8) fun x13 =>
  hC (pe F x13.1 x13.2) fun x16 x17 =>
  bif !decide (x17 = 0) then
    some ([], x17)
  else
    grd (bt (y6.length + ([x16] : List (List UInt8)).length)) <|
    lt (y6 ++ ([x16] : List (List UInt8))) fun x22 =>
    grd (okI (y8 + 1)) <|
    rec9 (x22, y8 + 1)
else
  iv y6
def kK (F : Nat) (a1 : List ((List UInt8) × List UInt8)) (n : Nat) : ((List (List UInt8)) × Int) → Option ((List (List UInt8)) × Int) :=
  loop (fun rec x => kL F a1 rec x.1 x.2) n
def nG (F : Nat) (a1 : List ((List UInt8) × List UInt8)) : Option ((List (List UInt8)) × Int) :=
kK F a1 F ([], 0)
def lc (F : Nat) (a1 : List ((List UInt8) × List UInt8)) : Option ((List UInt8) × Int) :=
bif decide (50 < (a1.length : Int)) then
  some ([], 4)
else
  hC (nG F a1) fun x6 x7 =>
  bif !decide (x7 = 0) then
    some ([], x7)
  else
    grd (qf x6) <|
    lt (List.flatten x6) fun x11 =>
    grd (bt (x11.length + ([13, 10] : List UInt8).length)) <|
    lt (x11 ++ ([13, 10] : List UInt8)) fun x16 =>
    some (x16, 0)
end Go.Pv
namespace Go.Proofs.YtjegcifofddgbaaGreatDoor
open Go.RowKit Go.Av Go.Pv
theorem qE : ∀ (args : Array Value) (w : World), (callFunc 78 args).run Tryz.prog w = .ok (.enter 78 args) w := fun _ _ => by kernel_rfl
theorem vT : ∀ (args : Array Value) (w : World), (callFunc 79 args).run Tryz.prog w = .ok (.enter 79 args) w := fun _ _ => by kernel_rfl
theorem qD : ∀ (args : Array Value) (w : World), (callFunc 80 args).run Tryz.prog w = .ok (.enter 80 args) w := fun _ _ => by kernel_rfl
abbrev _root_.Go.Av.ep := @Tryz.underlying36
abbrev _root_.Go.Av.bL := @Tryz.underlying44
set_option maxRecDepth 100000 in
set_option maxHeartbeats 1000000 in
theorem nY (F : Nat) (a1 : List ((List UInt8) × List UInt8)) (q2 : Option Nat) (r3 : List (List UInt8)) (r4 : Int) (H : nG F a1 = some (r3, r4)) : ACalls Tryz.prog 78 [slE (Enc.prod Enc.str Enc.str) a1 q2, .v (.func (.func 79) #[] #[])] [] (Ret (.tup [slE (Enc.sl Enc.byte) r3 none, i64 r4]) []) := by
 unfold nG at H
 refine ax Tryz.func78 rfl rfl ?_;show AW _ _ 32 _ _ _;refine af <| aa ?_;show AR _ _ _ _ _ [0, 1] _;refine za rfl <| za rfl <| ag <| af <| aa ?_;show AR _ _ _ _ _ [0] _;refine za rfl <| ag ?_
 refine ez 6 1 32 rfl fun t5 => ?_
 show AW _ _ _ _ _ ⟨(6, slE (Enc.sl Enc.byte) [] (some t5)) :: _, _, _⟩;refine bk (X := (List (List UInt8)) × Nat) (fun (y25, t26) => ⟨[(6, slE (Enc.sl Enc.byte) y25 (some t26))], [], [.tok t26 32]⟩) (fun (y25, t26) => iv y25 = some (r3, r4)) ?_ ?_
 ·refine af <| aa ?_;show AR _ _ _ _ _ [0, 1, 2] _;refine zS rfl (aj (av := slE _ _ _) rfl) <| zS rfl (aQ ep rfl) <| zm rfl <| ag <| aO <| cl (X := Nat × (List (List UInt8)) × Nat × Int) (fun (n10, y6, t7, y8) => ⟨[(1, .v (.func (.func 79) #[] #[])), (6, slE (Enc.sl Enc.byte) y6 (some t7)), (11, slE (Enc.prod Enc.str Enc.str) a1 q2), (12, i64 (a1.length : Int)), (13, i64 y8)], [], [.tok t7 32]⟩) (fun (n10, y6, t7, y8) => kK F a1 n10 (y6, y8) = some (r3, r4)) (fun (n10, y6, t7, y8) => n10) (F, [], t5, 0) H (aP [0] (.cons (.refl _) (.cons (.refl _) (.cons (.refl _) (.cons (.refl _) (.cons (.refl _) (.nil _)))))) rfl) ?_;rintro ⟨n10, y6, t7, y8⟩ H;obtain ⟨n10, rfl, H⟩ := cO H;replace H : kL F a1 (kK F a1 n10) y6 y8 = some (r3, r4) := H
  unfold kL at H
  refine af <| aa ?_;show AR _ _ _ _ _ [0] _;refine zS rfl (bC rfl rfl) <| ag <| af <| az rfl (fun c11 => ?_) (fun c11 => ?_)
  ·replace H := aZ c11 H;refine aC <| af <| aO <| af ?_;obtain ⟨g12, H⟩ := ay H;obtain ⟨x13, e14, H⟩ := bg H;refine aa ?_;show AR _ _ _ _ _ [0, 1, 2, 3] _;refine zS rfl (cn (E := (Enc.prod Enc.str Enc.str)) ep (by kernel_rfl) rfl rfl g12 e14) <| zS rfl (dC Tryz.underlying40 rfl (n := 2) (by kernel_rfl) rfl (ai rfl)) <| zX rfl (dF (zs := [.string ⟨#[]⟩, .string ⟨#[]⟩]) (by kernel_rfl)) ?_;rintro _ _ ⟨o15, rfl, rfl⟩;refine s0 rfl rfl (cT (i := 0) (vs := [S x13.1, S x13.2]) (by kernel_rfl) rfl rfl (by simp [cP, slE]) rfl (ai rfl)) <| AR.freezeCp 8 0 rfl rfl ?_;show AR _ _ _ _ _ _ ⟨_, _, [.tok t7 32]⟩;refine ag <| af ?_;obtain ⟨x16, x17, e18, H⟩ := cZ H;refine aa ?_;show AR _ _ _ _ _ [0, 1, 2, 3, 4, 5, 6, 7] _;refine zm rfl <| zS rfl (dC Tryz.underlying40 rfl (n := 2) (by kernel_rfl) rfl (ai rfl)) <| aq rfl rfl (AO.callFp rfl (.inr ⟨rfl, rfl, rfl⟩) vT rfl (tK F x13.1 x13.2 x16 x17 e18) ?_);refine zS rfl (aj (av := .tup _) rfl) <| zS rfl (aF (av := slE _ _ _) rfl rfl) <| zS rfl (aF (av := .v _) rfl rfl) <| zS rfl (aB (av := slE _ _ _) rfl) <| za rfl <| ag <| af <| af <| aa ?_;show AR _ _ _ _ _ [0, 1] _;refine zm rfl <| zS rfl (dg rfl rfl) <| ag <| az rfl (fun c19 => ?_) (fun c19 => ?_)
   ·replace H := aZ c19 H;refine af <| aa ?_;show AR _ _ _ _ _ [0, 1, 2] _;refine zm rfl <| za rfl <| za rfl <| ag <| aL ?_;obtain ⟨rfl, rfl⟩ := dh H;exact And.intro rfl (Exists.intro _ (Exists.intro _ ⟨be rfl (.nil _) (.refl _), aI [] rfl, rfl, rfl⟩))
   ·replace H := ba c19 H;refine aC ?_;obtain ⟨g21, H⟩ := ay H;obtain ⟨x22, e23, H⟩ := bg H;refine aa ?_;show AR _ _ _ _ _ [0, 1, 2, 3, 4] _;refine zS rfl (aj (av := slE _ _ _) rfl) <| zS rfl (aj (av := slE _ _ _) rfl) <| zR rfl (bQ (E := (Enc.sl Enc.byte)) (bytes := 24) (xs := [.tmp 27]) (l := ([x16] : List (List UInt8))) bL (by kernel_rfl) rfl rfl (by decide) rfl rfl) <| zX rfl (cE (E := (Enc.sl Enc.byte)) (bytes := 24) 0 bL bL rfl (by kernel_rfl) rfl rfl rfl rfl g21 e23) ?_;rintro _ _ ⟨t20, rfl, rfl⟩;refine zS rfl (aB (av := slE _ _ _) rfl) <| ag ?_;obtain ⟨g24, H⟩ := ay H;refine aa ?_;show AR _ _ _ _ _ [0, 1] _;refine zS rfl (bu rfl rfl g24) <| zm rfl <| ag ?_;exact Exists.intro (n10, x22, t20, y8 + 1) ⟨H, Nat.lt_succ_self _, aP [0] (.cons (.refl _) (.cons (.refl _) (.cons (.refl _) (.cons (.refl _) (.cons (.refl _) (.nil _)))))) rfl⟩
  ·replace H := ba c11 H;refine bZ ?_;exact Exists.intro (y6, t7) ⟨H, aP [0] (.cons (.refl _) (.nil _)) rfl⟩
 rintro ⟨y25, t26⟩ H;replace H : iv y25 = some (r3, r4) := H
 unfold iv at H
 refine af <| aa ?_;show AR _ _ _ _ _ [0, 1, 2] _;refine zS rfl (aj (av := slE _ _ _) rfl) <| zS rfl (aB (av := slE _ _ _) rfl) <| za rfl <| ag <| aL ?_;obtain ⟨rfl, rfl⟩ := dh H;exact And.intro rfl (Exists.intro _ (Exists.intro _ ⟨be rfl (.tok _ _ _) (.refl _), aI [] rfl, rfl, rfl⟩))
set_option maxRecDepth 100000 in
set_option maxHeartbeats 1000000 in
theorem vq (F : Nat) (a1 : List ((List UInt8) × List UInt8)) (q2 : Option Nat) (r3 : List UInt8) (r4 : Int) (H : lc F a1 = some (r3, r4)) : ACalls Tryz.prog 30 [slE (Enc.prod Enc.str Enc.str) a1 q2] [] (Ret (.tup [slE Enc.byte r3 none, i64 r4]) []) := by
 unfold lc at H
 refine ax Tryz.func30 rfl rfl ?_;show AW _ _ 20 _ _ _;refine af <| aa ?_;show AR _ _ _ _ _ [0, 1] _;refine za rfl <| za rfl <| ag <| af <| af <| aa ?_;show AR _ _ _ _ _ [0, 1, 2] _;refine zS rfl (aj (av := slE _ _ _) rfl) <| zS rfl (aQ ep rfl) <| zS rfl (cS rfl rfl) <| ag <| az rfl (fun c5 => ?_) (fun c5 => ?_)
 ·replace H := aZ c5 H;refine af <| aa ?_;show AR _ _ _ _ _ [0, 1] _;refine za rfl <| za rfl <| ag <| aL ?_;obtain ⟨rfl, rfl⟩ := dh H;exact And.intro rfl (Exists.intro _ (Exists.intro _ ⟨be rfl (.nil _) (.refl _), aI [] rfl, rfl, rfl⟩))
 ·replace H := ba c5 H;refine aC <| af ?_;obtain ⟨x6, x7, e8, H⟩ := cZ H;refine aa ?_;show AR _ _ _ _ _ [0, 1, 2, 3, 4, 5, 6] _;refine zS rfl (aj (av := slE _ _ _) rfl) <| aq rfl rfl (aD rfl qE rfl (nY F a1 q2 x6 x7 e8) ?_);refine zS rfl (aj (av := .tup _) rfl) <| zS rfl (aF (av := slE _ _ _) rfl rfl) <| zS rfl (aF (av := .v _) rfl rfl) <| zS rfl (aB (av := slE _ _ _) rfl) <| za rfl <| ag <| af <| af <| aa ?_;show AR _ _ _ _ _ [0, 1] _;refine zm rfl <| zS rfl (dg rfl rfl) <| ag <| az rfl (fun c9 => ?_) (fun c9 => ?_)
  ·replace H := aZ c9 H;refine af <| aa ?_;show AR _ _ _ _ _ [0, 1, 2] _;refine zm rfl <| za rfl <| za rfl <| ag <| aL ?_;obtain ⟨rfl, rfl⟩ := dh H;exact And.intro rfl (Exists.intro _ (Exists.intro _ ⟨be rfl (.nil _) (.refl _), aI [] rfl, rfl, rfl⟩))
  ·replace H := ba c9 H;refine aC <| af ?_;obtain ⟨g10, H⟩ := ay H;obtain ⟨x11, e12, H⟩ := bg H;obtain ⟨g15, H⟩ := ay H;obtain ⟨x16, e17, H⟩ := bg H;refine aa ?_;show AR _ _ _ _ _ [0, 1, 2, 3, 4] _;refine zS rfl (aj (av := slE _ _ _) rfl) <| aq rfl rfl (bI [] rfl qD rfl (lY x6 none g10) rfl (fun c A' h => by obtain ⟨_, h, _⟩ := h; cases h) ?_)
   rintro av A' ⟨t13, h, rfl⟩; cases h; rw [e12]
   refine zX rfl (ne (bytes := 1) 0 ac ab rfl (by kernel_rfl) rfl rfl rfl rfl g15 e17) ?_;rintro _ _ ⟨t14, rfl, rfl⟩;refine zS rfl (aB (av := slE _ _ _) rfl) <| za rfl <| ag <| aL ?_;obtain ⟨rfl, rfl⟩ := dh H;exact And.intro rfl (Exists.intro _ (Exists.intro _ ⟨be rfl (.tok _ _ _) (.refl _), aI [] rfl, rfl, rfl⟩))
set_option maxRecDepth 100000 in
set_option maxHeartbeats 1000000 in
theorem tL (F : Nat) (a1 : List ((List UInt8) × List UInt8)) (q2 : Option Nat) (r3 : List UInt8) (r4 : Int) (H : lc F a1 = some (r3, r4)) : ACalls Tryz.prog 30 [slE (Enc.prod Enc.str Enc.str) a1 q2] [] (fun e A' => ∃ tr0 cr0, e = .ret (.tup [slE Enc.byte r3 (some tr0), i64 r4]) ∧ A' = [cr0] ∧ (cr0 = .tokw tr0 ∨ cr0 = .tok tr0 5)) := by
 unfold lc at H
 refine ax Tryz.func30 rfl rfl ?_;show AW _ _ 20 _ _ _;refine af <| aa ?_;show AR _ _ _ _ _ [0, 1] _;refine za rfl <| za rfl <| ag <| af <| af <| aa ?_;show AR _ _ _ _ _ [0, 1, 2] _;refine zS rfl (aj (av := slE _ _ _) rfl) <| zS rfl (aQ ep rfl) <| zS rfl (cS rfl rfl) <| ag <| az rfl (fun c5 => ?_) (fun c5 => ?_)
 ·replace H := aZ c5 H;refine af <| aa ?_;show AR _ _ _ _ _ [0, 1] _;refine za rfl <| za rfl <| ag ?_
  refine ez 2 1 5 rfl fun t6 => ?_
  refine aL ?_;obtain ⟨rfl, rfl⟩ := dh H;exact And.intro rfl (Exists.intro _ (Exists.intro _ ⟨be rfl (.refl _) (.refl _), aI [0] rfl, t6, _, rfl, rfl, .inr rfl⟩))
 ·replace H := ba c5 H;refine aC <| af ?_;obtain ⟨x7, x8, e9, H⟩ := cZ H;refine aa ?_;show AR _ _ _ _ _ [0, 1, 2, 3, 4, 5, 6] _;refine zS rfl (aj (av := slE _ _ _) rfl) <| aq rfl rfl (aD rfl qE rfl (nY F a1 q2 x7 x8 e9) ?_);refine zS rfl (aj (av := .tup _) rfl) <| zS rfl (aF (av := slE _ _ _) rfl rfl) <| zS rfl (aF (av := .v _) rfl rfl) <| zS rfl (aB (av := slE _ _ _) rfl) <| za rfl <| ag <| af <| af <| aa ?_;show AR _ _ _ _ _ [0, 1] _;refine zm rfl <| zS rfl (dg rfl rfl) <| ag <| az rfl (fun c10 => ?_) (fun c10 => ?_)
  ·replace H := aZ c10 H;refine af <| aa ?_;show AR _ _ _ _ _ [0, 1, 2] _;refine zm rfl <| za rfl <| za rfl <| ag ?_
   refine ez 2 1 5 rfl fun t11 => ?_
   refine aL ?_;obtain ⟨rfl, rfl⟩ := dh H;exact And.intro rfl (Exists.intro _ (Exists.intro _ ⟨be rfl (.refl _) (.refl _), aI [0] rfl, t11, _, rfl, rfl, .inr rfl⟩))
  ·replace H := ba c10 H;refine aC <| af ?_;obtain ⟨g12, H⟩ := ay H;obtain ⟨x13, e14, H⟩ := bg H;obtain ⟨g17, H⟩ := ay H;obtain ⟨x18, e19, H⟩ := bg H;refine aa ?_;show AR _ _ _ _ _ [0, 1, 2, 3, 4] _;refine zS rfl (aj (av := slE _ _ _) rfl) <| aq rfl rfl (bI [] rfl qD rfl (lY x7 none g12) rfl (fun c A' h => by obtain ⟨_, h, _⟩ := h; cases h) ?_)
   rintro av A' ⟨t15, h, rfl⟩; cases h; rw [e14]
   refine zX rfl (ne (bytes := 1) 0 ac ab rfl (by kernel_rfl) rfl rfl rfl rfl g17 e19) ?_;rintro _ _ ⟨t16, rfl, rfl⟩;refine zS rfl (aB (av := slE _ _ _) rfl) <| za rfl <| ag <| aL ?_;obtain ⟨rfl, rfl⟩ := dh H;exact And.intro rfl (Exists.intro _ (Exists.intro _ ⟨be rfl (.refl _) (.refl _), aI [0] rfl, t16, _, rfl, rfl, .inl rfl⟩))
end Go.Proofs.YtjegcifofddgbaaGreatDoor
namespace Go.Pv
def uX : List UInt8 := [97, 98, 99, 100, 101, 102, 103, 104, 105, 106, 107, 108, 109, 110, 111, 112, 113, 114, 115, 116, 117, 118, 119, 120, 121, 122, 48, 49, 50, 51, 52, 53, 54, 55, 56, 57, 47, 45, 61, 59, 32]
def ow : List UInt8 := [67, 111, 110, 116, 101, 110, 116, 45, 84, 114, 97, 110, 115, 102, 101, 114, 45, 69, 110, 99, 111, 100, 105, 110, 103]
def oY (F : Nat) (a1 : List UInt8) (a4 : List UInt8) : Option Bool :=
grd (bt a4.length) <|
grd (okS a1.length) <|
grd (decide (2 ≤ a4.length)) <|
grd (okS a4.length) <|
lt (Go.Lib.contains a1 a4) fun x11 =>
some x11
def gB : Option Int :=
some (-1)
def jG (F : Nat) (a1 : List (List UInt8)) (a4 : List UInt8) (rec7 : Int → Option Int) (y6 : Int) : Option Int :=
bif decide (y6 < (a1.length : Int)) then
  grd (cD y6 a1.length) <|
  lt (at_ a1 y6) fun x11 =>
  bnd (oY F x11 a4) fun x13 =>
  bif x13 then
    some y6
  else
    grd (okI (y6 + 1)) <|
    rec7 (y6 + 1)
else
  gB
def jF (F : Nat) (a1 : List (List UInt8)) (a4 : List UInt8) (n : Nat) : Int → Option Int :=
  loop (fun rec x => jG F a1 a4 rec x) n
def mh (F : Nat) (a1 : List (List UInt8)) (a4 : List UInt8) : Option Int :=
jF F a1 a4 F 0
def jI (F : Nat) (a1 : List (List UInt8)) (a4 : List UInt8) : Option Bool :=
bnd (mh F a1 a4) fun x6 =>
some (decide (0 ≤ x6))
def hU (F : Nat) (a1 : List (List UInt8)) (rec5 : Int → Option ((List UInt8))) (y4 : Int) : Option ((List UInt8)) :=
grd (okI y4) <|
lt (Go.Lib.itoa y4) fun x8 =>
grd (bt (([61, 95] : List UInt8).length + x8.length)) <|
lt (([61, 95] : List UInt8) ++ x8) fun x11 =>
bnd (jI F a1 x11) fun x14 =>
bif !x14 then
  some x11
else
  grd (okI (y4 + 1)) <|
  rec5 (y4 + 1)
def hO (F : Nat) (a1 : List (List UInt8)) (n : Nat) : Int → Option ((List UInt8)) :=
  loop (fun rec x => hU F a1 rec x) n
def kE (F : Nat) (a1 : List (List UInt8)) : Option ((List UInt8)) :=
hO F a1 F 0
def jj (a1 : List UInt8) : Option Bool :=
fV ((!decide (a1 = ([] : List UInt8))) && (decide ((a1.length : Int) ≤ 60))) (okS a1.length) <|
lt (Go.Lib.trimB a1 32) fun x18 =>
fV (((!decide (a1 = ([] : List UInt8))) && (decide ((a1.length : Int) ≤ 60))) && (decide (x18 = a1))) (okS a1.length) <|
lt (Go.Lib.contains a1 ([32, 32] : List UInt8)) fun x22 =>
some ((((!decide (a1 = ([] : List UInt8))) && (decide ((a1.length : Int) ≤ 60))) && (decide (x18 = a1))) && (!x22))
def ll (a1 : List UInt8) (rec4 : Int → Option Bool) (y3 : Int) : Option Bool :=
bif decide (y3 < (a1.length : Int)) then
  grd (cD y3 a1.length) <|
  lt (at_ a1 y3) fun x8 =>
  lt (Go.Lib.indexByte uX x8) fun x10 =>
  bif decide (x10 < 0) then
    some false
  else
    grd (okI (y3 + 1)) <|
    rec4 (y3 + 1)
else
  jj a1
def lk (a1 : List UInt8) (n : Nat) : Int → Option Bool :=
  loop (fun rec x => ll a1 rec x) n
def oX (F : Nat) (a1 : List UInt8) : Option Bool :=
lk a1 F 0
def oW (F : Nat) (a1 : List UInt8) : Option Bool :=
bnd (oX F a1) fun x3 =>
some (!x3)
def gA : Option Int :=
some (-1)
def jE (F : Nat) (a1 : List (List UInt8)) (rec5 : Int → Option Int) (y4 : Int) : Option Int :=
bif decide (y4 < (a1.length : Int)) then
  grd (cD y4 a1.length) <|
  lt (at_ a1 y4) fun x9 =>
  bnd (oW F x9) fun x11 =>
  bif x11 then
    some y4
  else
    grd (okI (y4 + 1)) <|
    rec5 (y4 + 1)
else
  gA
def jD (F : Nat) (a1 : List (List UInt8)) (n : Nat) : Int → Option Int :=
  loop (fun rec x => jE F a1 rec x) n
def mg (F : Nat) (a1 : List (List UInt8)) : Option Int :=
jD F a1 F 0
def jH (F : Nat) (a1 : List (List UInt8)) : Option Bool :=
bnd (mg F a1) fun x4 =>
some (decide (0 ≤ x4))
def kx (a6 : List UInt8) (x10 : List UInt8) (y24 : List UInt8) : Option ((List UInt8)) :=
grd (bt (y24.length + x10.length)) <|
lt (y24 ++ x10) fun x29 =>
grd (bt (x29.length + a6.length)) <|
lt (x29 ++ a6) fun x33 =>
grd (bt (x33.length + ([13, 10] : List UInt8).length)) <|
lt (x33 ++ ([13, 10] : List UInt8)) fun x37 =>
some x37
def qU (F : Nat) (a2 : List UInt8) (a4 : List UInt8) (a5 : List UInt8) (a6 : List UInt8) : Option ((List UInt8)) :=
hC (lc F ([(([67, 111, 110, 116, 101, 110, 116, 45, 84, 121, 112, 101] : List UInt8), a5), (ow, ([113, 117, 111, 116, 101, 100, 45, 112, 114, 105, 110, 116, 97, 98, 108, 101] : List UInt8))] : List ((List UInt8) × List UInt8))) fun x10 x11 =>
grd (bt (([45, 45] : List UInt8).length + a4.length)) <|
lt (([45, 45] : List UInt8) ++ a4) fun x14 =>
grd (bt (x14.length + ([13, 10] : List UInt8).length)) <|
lt (x14 ++ ([13, 10] : List UInt8)) fun x17 =>
grd (bt (a2.length + x17.length)) <|
lt (a2 ++ x17) fun x21 =>
kx a6 x10 x21
def jl (x34 : List UInt8) (y54 : List UInt8) : Option ((List UInt8) × (List UInt8) × Int) :=
grd (bt (([45, 45] : List UInt8).length + x34.length)) <|
lt (([45, 45] : List UInt8) ++ x34) fun x58 =>
grd (bt (x58.length + ([45, 45] : List UInt8).length)) <|
lt (x58 ++ ([45, 45] : List UInt8)) fun x61 =>
grd (bt (x61.length + ([13, 10] : List UInt8).length)) <|
lt (x61 ++ ([13, 10] : List UInt8)) fun x64 =>
grd (bt (y54.length + x64.length)) <|
lt (y54 ++ x64) fun x68 =>
some (x68, x34, 0)
def lr (F : Nat) (a1 : List (List UInt8)) (y31 : List (List UInt8)) (x34 : List UInt8) (rec41 : (Int × (List UInt8)) → Option ((List UInt8) × (List UInt8) × Int)) (y38 : Int) (y39 : List UInt8) : Option ((List UInt8) × (List UInt8) × Int) :=
bif decide (y38 < (y31.length : Int)) then
  grd (cD y38 y31.length) <|
  lt (at_ y31 y38) fun x45 =>
  grd (cD y38 a1.length) <|
  lt (at_ a1 y38) fun x48 =>
  bnd (qU F y39 x34 x48 x45) fun x50 =>
  grd (okI (y38 + 1)) <|
  rec41 (y38 + 1, x50)
else
  jl x34 y39
def ln (F : Nat) (a1 : List (List UInt8)) (y31 : List (List UInt8)) (x34 : List UInt8) (n : Nat) : (Int × (List UInt8)) → Option ((List UInt8) × (List UInt8) × Int) :=
  loop (fun rec x => lr F a1 y31 x34 rec x.1 x.2) n
def jk (F : Nat) (a1 : List (List UInt8)) (y31 : List (List UInt8)) : Option ((List UInt8) × (List UInt8) × Int) :=
bnd (kE F y31) fun x34 =>
ln F a1 y31 x34 F (0, [])
def lq (F : Nat) (a1 : List (List UInt8)) (a3 : List (List UInt8)) (rec18 : ((List (List UInt8)) × Int) → Option ((List UInt8) × (List UInt8) × Int)) (y15 : List (List UInt8)) (y17 : Int) : Option ((List UInt8) × (List UInt8) × Int) :=
bif decide (y17 < (a3.length : Int)) then
  grd (cD y17 a3.length) <|
  lt (at_ a3 y17) fun x22 =>
  bnd (oU F x22) fun x24 =>
  grd (bt (y15.length + ([x24] : List (List UInt8)).length)) <|
  lt (y15 ++ ([x24] : List (List UInt8))) fun x28 =>
  grd (okI (y17 + 1)) <|
  rec18 (x28, y17 + 1)
else
  jk F a1 y15
def lm (F : Nat) (a1 : List (List UInt8)) (a3 : List (List UInt8)) (n : Nat) : ((List (List UInt8)) × Int) → Option ((List UInt8) × (List UInt8) × Int) :=
  loop (fun rec x => lq F a1 a3 rec x.1 x.2) n
def oZ (F : Nat) (a1 : List (List UInt8)) (a3 : List (List UInt8)) : Option ((List UInt8) × (List UInt8) × Int) :=
kN (!(((!decide ((a1.length : Int) = (a3.length : Int))) || (decide ((a3.length : Int) = 0))) || (decide (8 < (a3.length : Int))))) (jH F a1) fun x11 =>
bif (((!decide ((a1.length : Int) = (a3.length : Int))) || (decide ((a3.length : Int) = 0))) || (decide (8 < (a3.length : Int)))) || x11 then
  some ([], ([] : List UInt8), 1)
else
  lm F a1 a3 F ([], 0)
end Go.Pv
namespace Go.Proofs.YtjegcifofddgbaaGreatDoor
open Go.RowKit Go.Av Go.Pv
theorem wi : ∀ (args : Array Value) (w : World), (callFunc 30 args).run Tryz.prog w = .ok (.enter 30 args) w := fun _ _ => by kernel_rfl
theorem wh : ∀ (args : Array Value) (w : World), (callFunc 58 args).run Tryz.prog w = .ok (.enter 58 args) w := fun _ _ => by kernel_rfl
theorem wg : ∀ (args : Array Value) (w : World), (callFunc 64 args).run Tryz.prog w = .ok (.enter 64 args) w := fun _ _ => by kernel_rfl
theorem we : ∀ (args : Array Value) (w : World), (callFunc 65 args).run Tryz.prog w = .ok (.enter 65 args) w := fun _ _ => by kernel_rfl
theorem vZ : ∀ (args : Array Value) (w : World), (callFunc 72 args).run Tryz.prog w = .ok (.enter 72 args) w := fun _ _ => by kernel_rfl
theorem vY : ∀ (args : Array Value) (w : World), (callFunc 73 args).run Tryz.prog w = .ok (.enter 73 args) w := fun _ _ => by kernel_rfl
theorem vX : ∀ (args : Array Value) (w : World), (callFunc 74 args).run Tryz.prog w = .ok (.enter 74 args) w := fun _ _ => by kernel_rfl
theorem vW : ∀ (args : Array Value) (w : World), (callFunc 75 args).run Tryz.prog w = .ok (.enter 75 args) w := fun _ _ => by kernel_rfl
theorem vV : ∀ (args : Array Value) (w : World), (callFunc 76 args).run Tryz.prog w = .ok (.enter 76 args) w := fun _ _ => by kernel_rfl
theorem vU : ∀ (args : Array Value) (w : World), (callFunc 77 args).run Tryz.prog w = .ok (.enter 77 args) w := fun _ _ => by kernel_rfl
theorem uM : ∀ (args : Array Value) (w : World), (callFunc 122 args).run Tryz.prog w = .ok (.enter 122 args) w := fun _ _ => by kernel_rfl
theorem uK : ∀ (args : Array Value) (w : World), (callFunc 123 args).run Tryz.prog w = .ok (.enter 123 args) w := fun _ _ => by kernel_rfl
theorem uJ : ∀ (args : Array Value) (w : World), (callFunc 126 args).run Tryz.prog w = .ok (.enter 126 args) w := fun _ _ => by kernel_rfl
theorem uI : ∀ (args : Array Value) (w : World), (callFunc 127 args).run Tryz.prog w = .ok (.enter 127 args) w := fun _ _ => by kernel_rfl
theorem uH : ∀ (args : Array Value) (w : World), (callFunc 128 args).run Tryz.prog w = .ok (.enter 128 args) w := fun _ _ => by kernel_rfl
theorem uE : ∀ (args : Array Value) (w : World), (callFunc 178 args).run Tryz.prog w = .ok (.enter 178 args) w := fun _ _ => by kernel_rfl
set_option maxRecDepth 100000 in
set_option maxHeartbeats 1000000 in
theorem tG (F : Nat) (a1 : List UInt8) (q2 : Option Nat) (o3 : Nat) (a4 : List UInt8) (r5 : Bool) (H : oY F a1 a4 = some r5) : ACalls Tryz.prog 127 [slE Enc.byte a1 q2, .pt o3 0] [.obj o3 [S a4]] (fun e A' => e = .ret (B r5) ∧ A' = [.obj o3 [S a4]]) := by
 unfold oY at H
 refine ax Tryz.func127 rfl rfl ?_;show AW _ _ 8 _ _ _;refine af <| aa ?_;show AR _ _ _ _ _ [0] _;refine za rfl <| ag <| af ?_;obtain ⟨g6, H⟩ := ay H;obtain ⟨g8, H⟩ := ay H;obtain ⟨g9, H⟩ := ay H;obtain ⟨g10, H⟩ := ay H;obtain ⟨x11, e12, H⟩ := bg H;refine aa ?_;show AR _ _ _ _ _ [0, 1, 2, 3, 4] _;refine zS rfl (aj (av := slE _ _ _) rfl) <| zR rfl (am (i := 0) ab rfl rfl rfl rfl) <| zX rfl (cy (bytes := 1) ab ac aY rfl g6) ?_;rintro _ _ ⟨t7, rfl, rfl⟩;refine aq rfl rfl (aD rfl uH rfl (show ACalls _ _ _ [] (Ret (B x11) []) from by subst e12; exact nW a1 a4 q2 (some t7) (gW g8) (of_decide_eq_true g9) (gW g10)) ?_);refine za rfl <| ag <| aL ?_;obtain rfl := ap H;exact And.intro rfl (Exists.intro _ (Exists.intro _ ⟨aH rfl (.refl _), aI [1] rfl, rfl, rfl⟩))
set_option maxRecDepth 100000 in
set_option maxHeartbeats 1000000 in
theorem rn (F : Nat) (a1 : List (List UInt8)) (q2 : Option Nat) (o3 : Nat) (a4 : List UInt8) (r5 : Int) (H : mh F a1 a4 = some r5) : ACalls Tryz.prog 178 [slE (Enc.sl Enc.byte) a1 q2, .fn (.func 127) [] [.pt o3 0]] [.obj o3 [S a4]] (fun e A' => e = .ret (i64 r5) ∧ A' = [.obj o3 [S a4]]) := by
 unfold mh at H
 refine ax Tryz.func178 rfl rfl ?_;show AW _ _ 19 _ _ _;refine af <| aa ?_;show AR _ _ _ _ _ [0] _;refine za rfl <| ag <| bk (X := Unit) (fun _ => ⟨[], [], [.obj o3 [S a4]]⟩) (fun _ => gB = some r5) ?_ ?_
 ·refine af <| aa ?_;show AR _ _ _ _ _ [0, 1, 2] _;refine zS rfl (aj (av := slE _ _ _) rfl) <| zS rfl (aQ bL rfl) <| zm rfl <| ag <| aO <| cl (X := Nat × Int) (fun (n8, y6) => ⟨[(0, slE (Enc.sl Enc.byte) a1 q2), (1, .fn (.func 127) [] [.pt o3 0]), (7, i64 (a1.length : Int)), (8, i64 y6)], [], [.obj o3 [S a4]]⟩) (fun (n8, y6) => jF F a1 a4 n8 y6 = some r5) (fun (n8, y6) => n8) (F, 0) H (aP [0] (.cons (.refl _) (.cons (.refl _) (.cons (.refl _) (.cons (.refl _) (.nil _))))) rfl) ?_;rintro ⟨n8, y6⟩ H;obtain ⟨n8, rfl, H⟩ := cO H;replace H : jG F a1 a4 (jF F a1 a4 n8) y6 = some r5 := H
  unfold jG at H
  refine af <| aa ?_;show AR _ _ _ _ _ [0] _;refine zS rfl (bC rfl rfl) <| ag <| af <| az rfl (fun c9 => ?_) (fun c9 => ?_)
  ·replace H := aZ c9 H;refine aC <| af <| aO <| af <| aa ?_;show AR _ _ _ _ _ [0, 1] _;refine zm rfl <| za rfl <| ag <| af ?_;obtain ⟨g10, H⟩ := ay H;obtain ⟨x11, e12, H⟩ := bg H;obtain ⟨x13, e14, H⟩ := bK H;refine aa ?_;show AR _ _ _ _ _ [0, 1, 2, 3, 4, 5] _;refine zS rfl (aj (av := .fn _ _ _) rfl) <| zS rfl (aj (av := slE _ _ _) rfl) <| zm rfl <| zS rfl (cn (E := (Enc.sl Enc.byte)) bL (by kernel_rfl) rfl rfl g10 e12) <| zS rfl (aJ ac rfl rfl) <| aq rfl rfl (AO.callFAt [0] rfl (.inl rfl) uI rfl (tG F x11 none o3 a4 x13 e14) rfl (fun c A' h => by cases h.1) ?_)
   rintro av A' ⟨h, rfl⟩; cases h
   refine ag <| az rfl (fun c15 => ?_) (fun c15 => ?_)
   ·replace H := aZ c15 H;refine af <| aa ?_;show AR _ _ _ _ _ [0, 1] _;refine zm rfl <| za rfl <| ag <| aL ?_;obtain rfl := ap H;exact And.intro rfl (Exists.intro _ (Exists.intro _ ⟨aH rfl (.refl _), aI [0] rfl, rfl, rfl⟩))
   ·replace H := ba c15 H;refine aC ?_;obtain ⟨g16, H⟩ := ay H;refine aa ?_;show AR _ _ _ _ _ [0, 1] _;refine zS rfl (bu rfl rfl g16) <| zm rfl <| ag ?_;exact Exists.intro (n8, y6 + 1) ⟨H, Nat.lt_succ_self _, aP [0] (.cons (.refl _) (.cons (.refl _) (.cons (.refl _) (.cons (.refl _) (.nil _))))) rfl⟩
  ·replace H := ba c9 H;refine bZ ?_;exact Exists.intro () ⟨H, aP [0] (.nil _) rfl⟩
 rintro _ H;replace H : gB = some r5 := H
 unfold gB at H
 refine af <| aa ?_;show AR _ _ _ _ _ [0] _;refine za rfl <| ag <| aL ?_;obtain rfl := ap H;exact And.intro rfl (Exists.intro _ (Exists.intro _ ⟨aH rfl (.refl _), aI [0] rfl, rfl, rfl⟩))
set_option maxRecDepth 100000 in
set_option maxHeartbeats 1000000 in
theorem oM (F : Nat) (a1 : List (List UInt8)) (q2 : Option Nat) (o3 : Nat) (a4 : List UInt8) (r5 : Bool) (H : jI F a1 a4 = some r5) : ACalls Tryz.prog 126 [slE (Enc.sl Enc.byte) a1 q2, .fn (.func 127) [] [.pt o3 0]] [.obj o3 [S a4]] (fun e A' => e = .ret (B r5) ∧ A' = [.obj o3 [S a4]]) := by
 unfold jI at H
 refine ax Tryz.func126 rfl rfl ?_;show AW _ _ 9 _ _ _;refine af <| aa ?_;show AR _ _ _ _ _ [0] _;refine za rfl <| ag <| af ?_;obtain ⟨x6, e7, H⟩ := bK H;refine aa ?_;show AR _ _ _ _ _ [0, 1, 2, 3, 4] _;refine zS rfl (aj (av := slE _ _ _) rfl) <| zS rfl (aj (av := .fn _ _ _) rfl) <| aq rfl rfl (bI [0] rfl uE rfl (rn F a1 q2 o3 a4 x6 e7) rfl (fun c A' h => by cases h.1) ?_)
 rintro av A' ⟨h, rfl⟩; cases h
 refine zS rfl (dz rfl rfl) <| za rfl <| ag <| aL ?_;obtain rfl := ap H;exact And.intro rfl (Exists.intro _ (Exists.intro _ ⟨aH rfl (.refl _), aI [0] rfl, rfl, rfl⟩))
set_option maxRecDepth 100000 in
set_option maxHeartbeats 1000000 in
theorem pS (F : Nat) (a1 : List (List UInt8)) (q2 : Option Nat) (r3 : List UInt8) (H : kE F a1 = some r3) : ACalls Tryz.prog 76 [slE (Enc.sl Enc.byte) a1 q2] [] (Ret (S r3) []) := by
 unfold kE at H
 refine ax Tryz.func76 rfl rfl ?_;show AW _ _ 15 _ _ _;refine af <| aa ?_;show AR _ _ _ _ _ [0] _;refine za rfl <| ag <| af <| aa ?_;show AR _ _ _ _ _ [0] _;refine za rfl <| ag <| aO <| cl (X := Nat × Int) (fun (n6, y4) => ⟨[(0, slE (Enc.sl Enc.byte) a1 q2), (3, i64 y4)], [], []⟩) (fun (n6, y4) => hO F a1 n6 y4 = some r3) (fun (n6, y4) => n6) (F, 0) H (aP [] (.cons (.refl _) (.cons (.refl _) (.nil _))) rfl) ?_;rintro ⟨n6, y4⟩ H;obtain ⟨n6, rfl, H⟩ := cO H;replace H : hU F a1 (hO F a1 n6) y4 = some r3 := H
 unfold hU at H
 refine af <| aO <| af ?_;obtain ⟨g7, H⟩ := ay H;obtain ⟨x8, e9, H⟩ := bg H;obtain ⟨g10, H⟩ := ay H;obtain ⟨x11, e12, H⟩ := bg H;refine aa ?_;show AR _ _ _ _ _ [0, 1, 2, 3, 4] _;refine zm rfl <| aq rfl rfl (aD rfl wh rfl (show ACalls _ _ _ [] (Ret (S x8) []) from by subst e9; exact iC y4 (nP g7)) ?_);refine zS rfl (cg rfl rfl g10 e12) <| zX rfl (dF (zs := [.string ⟨#[]⟩]) (by kernel_rfl)) ?_;rintro _ _ ⟨o13, rfl, rfl⟩;refine s0 rfl rfl (aw (i := 0) (c := .v _) (by kernel_rfl) rfl rfl rfl rfl (ai rfl)) <| ag <| af ?_;obtain ⟨x14, e15, H⟩ := bK H;refine aa ?_;show AR _ _ _ _ _ [0, 1, 2, 3] _;refine zS rfl (aj (av := slE _ _ _) rfl) <| zS rfl (jm rfl rfl) <| aq rfl rfl (bI [0] rfl uJ rfl (oM F a1 q2 o13 x11 x14 e15) rfl (fun c A' h => by cases h.1) ?_)
 rintro av A' ⟨h, rfl⟩; cases h
 refine zS rfl (cx rfl) <| ag <| az rfl (fun c16 => ?_) (fun c16 => ?_)
 ·replace H := aZ c16 H;refine af <| aa ?_;show AR _ _ _ _ _ [0, 1] _;refine zR rfl (am (i := 0) ab rfl rfl rfl rfl) <| za rfl <| ag <| aL ?_;obtain rfl := ap H;exact And.intro rfl (Exists.intro _ (Exists.intro _ ⟨aH rfl (.refl _), aI [] rfl, rfl, rfl⟩))
 ·replace H := ba c16 H;refine aC ?_;obtain ⟨g17, H⟩ := ay H;refine aa ?_;show AR _ _ _ _ _ [0, 1, 2] _;refine zm rfl <| zS rfl (bu rfl rfl g17) <| za rfl <| ag ?_;exact Exists.intro (n6, y4 + 1) ⟨H, Nat.lt_succ_self _, aP [] (.cons (.refl _) (.cons (.refl _) (.nil _))) rfl⟩
set_option maxRecDepth 100000 in
set_option maxHeartbeats 1000000 in
theorem tF (F : Nat) (a1 : List UInt8) (r2 : Bool) (H : oX F a1 = some r2) : ACalls Tryz.prog 74 [S a1] [] (Ret (B r2) []) := by
 unfold oX at H
 refine ax Tryz.func74 rfl rfl ?_;show AW _ _ 33 _ _ _;refine af <| aa ?_;show AR _ _ _ _ _ [0] _;refine za rfl <| ag <| bk (X := Unit) (fun _ => ⟨[(0, S a1)], [], []⟩) (fun _ => jj a1 = some r2) ?_ ?_
 ·refine af <| aa ?_;show AR _ _ _ _ _ [0, 1, 2] _;refine zm rfl <| zS rfl (aU ab rfl) <| zm rfl <| ag <| aO <| cl (X := Nat × Int) (fun (n5, y3) => ⟨[(0, S a1), (5, i64 (a1.length : Int)), (6, i64 y3)], [], []⟩) (fun (n5, y3) => lk a1 n5 y3 = some r2) (fun (n5, y3) => n5) (F, 0) H (aP [] (.cons (.refl _) (.cons (.refl _) (.cons (.refl _) (.nil _)))) rfl) ?_;rintro ⟨n5, y3⟩ H;obtain ⟨n5, rfl, H⟩ := cO H;replace H : ll a1 (lk a1 n5) y3 = some r2 := H
  unfold ll at H
  refine af <| aa ?_;show AR _ _ _ _ _ [0] _;refine zS rfl (bC rfl rfl) <| ag <| af <| az rfl (fun c6 => ?_) (fun c6 => ?_)
  ·replace H := aZ c6 H;refine aC <| af <| aO <| af <| aa ?_;show AR _ _ _ _ _ [0, 1] _;refine zm rfl <| za rfl <| ag <| af ?_;obtain ⟨g7, H⟩ := ay H;obtain ⟨x8, e9, H⟩ := bg H;obtain ⟨x10, e11, H⟩ := bg H;refine aa ?_;show AR _ _ _ _ _ [0, 1, 2, 3, 4] _;refine zm rfl <| zm rfl <| zS rfl (bj ab rfl rfl g7 e9) <| aq rfl rfl (aD rfl wg rfl (show ACalls _ _ _ [] (Ret (i64 x10) []) from by subst e11; exact dx uX x8) ?_);refine zS rfl (bC rfl rfl) <| ag <| az rfl (fun c12 => ?_) (fun c12 => ?_)
   ·replace H := aZ c12 H;refine af <| aa ?_;show AR _ _ _ _ _ [0] _;refine za rfl <| ag <| aL ?_;obtain rfl := ap H;exact And.intro rfl (Exists.intro _ (Exists.intro _ ⟨aH rfl (.refl _), aI [] rfl, rfl, rfl⟩))
   ·replace H := ba c12 H;refine aC ?_;obtain ⟨g13, H⟩ := ay H;refine aa ?_;show AR _ _ _ _ _ [0, 1] _;refine zS rfl (bu rfl rfl g13) <| zm rfl <| ag ?_;exact Exists.intro (n5, y3 + 1) ⟨H, Nat.lt_succ_self _, aP [] (.cons (.refl _) (.cons (.refl _) (.cons (.refl _) (.nil _)))) rfl⟩
  ·replace H := ba c6 H;refine bZ ?_;exact Exists.intro () ⟨H, aP [] (.cons (.refl _) (.nil _)) rfl⟩
 rintro _ H;replace H : jj a1 = some r2 := H
 unfold jj at H
 refine af ?_;obtain ⟨g17, H⟩ := dq H;obtain ⟨x18, e19, H⟩ := bg H;obtain ⟨g21, H⟩ := dq H;obtain ⟨x22, e23, H⟩ := bg H;refine aa ?_;show AR _ _ _ _ _ [0, 1, 2, 3, 4, 5, 6, 7, 8, 9, 10, 11, 12, 13, 14, 15, 16, 17, 18] _;refine zm rfl <| zS rfl (iV rfl rfl) <| zm rfl <| bb (l := [7, 8, 9, 10, 11, 12, 13, 14, 15, 16, 17, 18]) 21 (B ((!decide (a1 = ([] : List UInt8))) && (decide ((a1.length : Int) ≤ 60)))) (fun K => ?_) ?_
 ·rcases ak (!decide (a1 = ([] : List UInt8))) with h15 | h15
  ·refine zM h15 rfl <| zU h15 rfl (aU ab rfl) <| zU h15 rfl (dI rfl rfl) <| zS rfl (aG (av := .v _) rfl h15 rfl) ?_;exact K _ 3 _ (aA (cz h15)) rfl rfl
  ·refine zF h15 rfl <| zF h15 rfl <| zF h15 rfl <| zS rfl (aE (av := .v _) rfl h15 rfl) ?_;exact K _ 3 _ (aA (cA h15)) rfl rfl
 refine zm rfl <| bb (l := [13, 14, 15, 16, 17, 18]) 27 (B (((!decide (a1 = ([] : List UInt8))) && (decide ((a1.length : Int) ≤ 60))) && (decide (x18 = a1)))) (fun K => ?_) ?_
 ·rcases ak ((!decide (a1 = ([] : List UInt8))) && (decide ((a1.length : Int) ≤ 60))) with h16 | h16
  ·refine zM h16 rfl <| zT h16 rfl (aD rfl uK rfl (show ACalls _ _ _ [] (Ret (S x18) []) from by subst e19; exact sc a1 32 (by decide) (gW (g17 h16))) ?_);refine zM h16 rfl <| zU h16 rfl (eU rfl rfl) <| zS rfl (aG (av := .v _) rfl h16 rfl) ?_;exact K _ 4 _ (aA (cz h16)) rfl rfl
  ·refine zF h16 rfl <| zF h16 rfl <| zF h16 rfl <| zF h16 rfl <| zS rfl (aE (av := .v _) rfl h16 rfl) ?_;exact K _ 4 _ (aA (cA h16)) rfl rfl
 refine zm rfl <| bb (l := [18]) 32 (B ((((!decide (a1 = ([] : List UInt8))) && (decide ((a1.length : Int) ≤ 60))) && (decide (x18 = a1))) && (!x22))) (fun K => ?_) ?_
 ·rcases ak (((!decide (a1 = ([] : List UInt8))) && (decide ((a1.length : Int) ≤ 60))) && (decide (x18 = a1))) with h20 | h20
  ·refine zM h20 rfl <| zT h20 rfl (aD rfl we rfl (show ACalls _ _ _ [] (Ret (B x22) []) from by subst e23; exact jp a1 ([32, 32] : List UInt8) (gW (g21 h20))) ?_);refine zU h20 rfl (cx rfl) <| zS rfl (aG (av := .v _) rfl h20 rfl) ?_;exact K _ 3 _ (aA (cz h20)) rfl rfl
  ·refine zF h20 rfl <| zF h20 rfl <| zF h20 rfl <| zS rfl (aE (av := .v _) rfl h20 rfl) ?_;exact K _ 3 _ (aA (cA h20)) rfl rfl
 refine za rfl <| ag <| aL ?_;obtain rfl := ap H;exact And.intro rfl (Exists.intro _ (Exists.intro _ ⟨aH rfl (.refl _), aI [] rfl, rfl, rfl⟩))
set_option maxRecDepth 100000 in
set_option maxHeartbeats 1000000 in
theorem tE (F : Nat) (a1 : List UInt8) (r2 : Bool) (H : oW F a1 = some r2) : ACalls Tryz.prog 73 [S a1] [] (Ret (B r2) []) := by
 unfold oW at H
 refine ax Tryz.func73 rfl rfl ?_;show AW _ _ 6 _ _ _;refine af <| aa ?_;show AR _ _ _ _ _ [0] _;refine za rfl <| ag <| af ?_;obtain ⟨x3, e4, H⟩ := bK H;refine aa ?_;show AR _ _ _ _ _ [0, 1, 2, 3] _;refine zm rfl <| aq rfl rfl (aD rfl vX rfl (tF F a1 x3 e4) ?_);refine zS rfl (cx rfl) <| za rfl <| ag <| aL ?_;obtain rfl := ap H;exact And.intro rfl (Exists.intro _ (Exists.intro _ ⟨aH rfl (.refl _), aI [] rfl, rfl, rfl⟩))
set_option maxRecDepth 100000 in
set_option maxHeartbeats 1000000 in
theorem rm (F : Nat) (a1 : List (List UInt8)) (q2 : Option Nat) (r3 : Int) (H : mg F a1 = some r3) : ACalls Tryz.prog 122 [slE Enc.str a1 q2, .v (.func (.func 73) #[] #[])] [] (Ret (i64 r3) []) := by
 unfold mg at H
 refine ax Tryz.func122 rfl rfl ?_;show AW _ _ 19 _ _ _;refine af <| aa ?_;show AR _ _ _ _ _ [0] _;refine za rfl <| ag <| bk (X := Unit) (fun _ => ⟨[], [], []⟩) (fun _ => gA = some r3) ?_ ?_
 ·refine af <| aa ?_;show AR _ _ _ _ _ [0, 1, 2] _;refine zS rfl (aj (av := slE _ _ _) rfl) <| zS rfl (aQ ao rfl) <| zm rfl <| ag <| aO <| cl (X := Nat × Int) (fun (n6, y4) => ⟨[(0, slE Enc.str a1 q2), (1, .v (.func (.func 73) #[] #[])), (7, i64 (a1.length : Int)), (8, i64 y4)], [], []⟩) (fun (n6, y4) => jD F a1 n6 y4 = some r3) (fun (n6, y4) => n6) (F, 0) H (aP [] (.cons (.refl _) (.cons (.refl _) (.cons (.refl _) (.cons (.refl _) (.nil _))))) rfl) ?_;rintro ⟨n6, y4⟩ H;obtain ⟨n6, rfl, H⟩ := cO H;replace H : jE F a1 (jD F a1 n6) y4 = some r3 := H
  unfold jE at H
  refine af <| aa ?_;show AR _ _ _ _ _ [0] _;refine zS rfl (bC rfl rfl) <| ag <| af <| az rfl (fun c7 => ?_) (fun c7 => ?_)
  ·replace H := aZ c7 H;refine aC <| af <| aO <| af <| aa ?_;show AR _ _ _ _ _ [0, 1] _;refine zm rfl <| za rfl <| ag <| af ?_;obtain ⟨g8, H⟩ := ay H;obtain ⟨x9, e10, H⟩ := bg H;obtain ⟨x11, e12, H⟩ := bK H;refine aa ?_;show AR _ _ _ _ _ [0, 1, 2, 3, 4, 5] _;refine zm rfl <| zS rfl (aj (av := slE _ _ _) rfl) <| zm rfl <| zS rfl (cn (E := Enc.str) ao (by kernel_rfl) rfl rfl g8 e10) <| zS rfl (aJ ab rfl rfl) <| aq rfl rfl (AO.callFp rfl (.inr ⟨rfl, rfl, rfl⟩) vY rfl (tE F x9 x11 e12) ?_);refine ag <| az rfl (fun c13 => ?_) (fun c13 => ?_)
   ·replace H := aZ c13 H;refine af <| aa ?_;show AR _ _ _ _ _ [0, 1] _;refine zm rfl <| za rfl <| ag <| aL ?_;obtain rfl := ap H;exact And.intro rfl (Exists.intro _ (Exists.intro _ ⟨aH rfl (.refl _), aI [] rfl, rfl, rfl⟩))
   ·replace H := ba c13 H;refine aC ?_;obtain ⟨g14, H⟩ := ay H;refine aa ?_;show AR _ _ _ _ _ [0, 1] _;refine zS rfl (bu rfl rfl g14) <| zm rfl <| ag ?_;exact Exists.intro (n6, y4 + 1) ⟨H, Nat.lt_succ_self _, aP [] (.cons (.refl _) (.cons (.refl _) (.cons (.refl _) (.cons (.refl _) (.nil _))))) rfl⟩
  ·replace H := ba c7 H;refine bZ ?_;exact Exists.intro () ⟨H, aP [] (.nil _) rfl⟩
 rintro _ H;replace H : gA = some r3 := H
 unfold gA at H
 refine af <| aa ?_;show AR _ _ _ _ _ [0] _;refine za rfl <| ag <| aL ?_;obtain rfl := ap H;exact And.intro rfl (Exists.intro _ (Exists.intro _ ⟨aH rfl (.refl _), aI [] rfl, rfl, rfl⟩))
set_option maxRecDepth 100000 in
set_option maxHeartbeats 1000000 in
theorem oL (F : Nat) (a1 : List (List UInt8)) (q2 : Option Nat) (r3 : Bool) (H : jH F a1 = some r3) : ACalls Tryz.prog 72 [slE Enc.str a1 q2, .v (.func (.func 73) #[] #[])] [] (Ret (B r3) []) := by
 unfold jH at H
 refine ax Tryz.func72 rfl rfl ?_;show AW _ _ 9 _ _ _;refine af <| aa ?_;show AR _ _ _ _ _ [0] _;refine za rfl <| ag <| af ?_;obtain ⟨x4, e5, H⟩ := bK H;refine aa ?_;show AR _ _ _ _ _ [0, 1, 2, 3, 4] _;refine zS rfl (aj (av := slE _ _ _) rfl) <| zm rfl <| aq rfl rfl (aD rfl uM rfl (rm F a1 q2 x4 e5) ?_);refine zS rfl (dz rfl rfl) <| za rfl <| ag <| aL ?_;obtain rfl := ap H;exact And.intro rfl (Exists.intro _ (Exists.intro _ ⟨aH rfl (.refl _), aI [] rfl, rfl, rfl⟩))
set_option maxRecDepth 100000 in
set_option maxHeartbeats 1000000 in
theorem vp (F : Nat) (o1 : Nat) (a2 : List UInt8) (t3 : Nat) (a4 : List UInt8) (a5 : List UInt8) (a6 : List UInt8) (q7 : Option Nat) (r8 : List UInt8) (H : qU F a2 a4 a5 a6 = some r8) : ACalls Tryz.prog 77 [.pt o1 0, S a5, slE Enc.byte a6 q7] [.obj o1 [slE Enc.byte a2 (some t3), S a4], .tok t3 5] (fun e A' => e = .ret (.tup []) ∧ ∃ t9, A' = [.obj o1 [slE Enc.byte r8 (some t9), S a4], .tok t9 5]) := by
 unfold qU at H
 refine ax Tryz.func77 rfl rfl ?_;show AW _ _ 42 _ _ _;refine af ?_;obtain ⟨x10, x11, e12, H⟩ := cZ H;refine aa ?_;show AR _ _ _ _ _ [0, 1, 2, 3, 4, 5, 6, 7, 8, 9] _;refine zm rfl <| zS rfl (du (zs := [.string ⟨#[]⟩, .string ⟨#[]⟩]) (ps := [(0, 1), (1, 1)]) (cs := [S ([67, 111, 110, 116, 101, 110, 116, 45, 84, 121, 112, 101] : List UInt8), S a5]) (by kernel_rfl) rfl rfl) <| zS rfl (du (zs := [.string ⟨#[]⟩, .string ⟨#[]⟩]) (ps := [(0, 1), (1, 1)]) (cs := [S ow, S ([113, 117, 111, 116, 101, 100, 45, 112, 114, 105, 110, 116, 97, 98, 108, 101] : List UInt8)]) (by kernel_rfl) rfl rfl) <| zR rfl (jo (E := (Enc.prod Enc.str Enc.str)) (bytes := 32) (zs := [.string ⟨#[]⟩, .string ⟨#[]⟩]) (l := ([(([67, 111, 110, 116, 101, 110, 116, 45, 84, 121, 112, 101] : List UInt8), a5), (ow, ([113, 117, 111, 116, 101, 100, 45, 112, 114, 105, 110, 116, 97, 98, 108, 101] : List UInt8))] : List ((List UInt8) × List UInt8))) ep (by kernel_rfl) (by kernel_rfl) rfl rfl rfl rfl rfl) <| aq rfl rfl (aD rfl wi rfl (vq F ([(([67, 111, 110, 116, 101, 110, 116, 45, 84, 121, 112, 101] : List UInt8), a5), (ow, ([113, 117, 111, 116, 101, 100, 45, 112, 114, 105, 110, 116, 97, 98, 108, 101] : List UInt8))] : List ((List UInt8) × List UInt8)) none x10 x11 e12) ?_)
 refine zS rfl (aj (av := .tup _) rfl) <| zS rfl (aF (av := slE _ _ _) rfl rfl) <| zS rfl (aF (av := .v _) rfl rfl) <| zS rfl (aB (av := slE _ _ _) rfl) <| za rfl <| ag <| bk (X := (List UInt8) × Nat) (fun (y24, t25) => ⟨[(0, .pt o1 0), (2, slE Enc.byte a6 q7), (6, slE Enc.byte x10 none)], [], [.obj o1 [slE Enc.byte y24 (some t25), S a4], .tok t25 5]⟩) (fun (y24, t25) => kx a6 x10 y24 = some r8) ?_ ?_
 ·obtain ⟨g13, H⟩ := ay H;obtain ⟨x14, e15, H⟩ := bg H;obtain ⟨g16, H⟩ := ay H;obtain ⟨x17, e18, H⟩ := bg H;obtain ⟨g20, H⟩ := ay H;obtain ⟨x21, e22, H⟩ := bg H;refine bz (by kernel_rfl) ?_;show AI _ _ _ _ _ 15 (Array.replicate 15 false) _;refine zk 0 rfl (aj (av := .pt _ _) rfl) ?_;show AI _ _ _ _ _ _ #[true, false, false, false, false, false, false, false, false, false, false, false, false, false, false] _;refine zk 1 rfl (aj (av := .pt _ _) rfl) ?_;show AI _ _ _ _ _ _ #[true, true, false, false, false, false, false, false, false, false, false, false, false, false, false] _;refine zk 2 rfl (ar rfl) ?_;show AI _ _ _ _ _ _ #[true, true, true, false, false, false, false, false, false, false, false, false, false, false, false] _;refine zk 3 rfl (al (n := 0) (by kernel_rfl) rfl) ?_;show AI _ _ _ _ _ _ #[true, true, true, true, false, false, false, false, false, false, false, false, false, false, false] _;refine zk 5 rfl (aj (av := .pt _ _) rfl) ?_;show AI _ _ _ _ _ _ #[true, true, true, true, false, true, false, false, false, false, false, false, false, false, false] _;refine zk 6 rfl (ar rfl) ?_;show AI _ _ _ _ _ _ #[true, true, true, true, false, true, true, false, false, false, false, false, false, false, false] _;refine zk 7 rfl (al (n := 1) (by kernel_rfl) rfl) ?_;show AI _ _ _ _ _ _ #[true, true, true, true, false, true, true, true, false, false, false, false, false, false, false] _;refine dE (i := 4) (j := 8) (by kernel_rfl) rfl rfl rfl rfl ?_ ?_
  ·refine aW rfl (am (i := 0) ac rfl rfl rfl rfl) ?_;show AI _ _ _ _ _ _ #[true, true, true, true, true, true, true, true, false, false, false, false, false, false, false] _;refine aX (i := 8) (by kernel_rfl) rfl rfl <| aW rfl (am (i := 0) ab rfl rfl rfl rfl) ?_;show AI _ _ _ _ _ _ #[true, true, true, true, true, true, true, true, true, false, false, false, false, false, false] _;refine zk 9 rfl (cg rfl rfl g13 e15) ?_;show AI _ _ _ _ _ _ #[true, true, true, true, true, true, true, true, true, true, false, false, false, false, false] _;refine zk 10 rfl (cg rfl rfl g16 e18) ?_;show AI _ _ _ _ _ _ #[true, true, true, true, true, true, true, true, true, true, true, false, false, false, false] _;refine aX (i := 11) (by kernel_rfl) rfl rfl <| cf rfl (bA (bytes := 1) 1 ac ab rfl (by kernel_rfl) rfl rfl rfl rfl g20 e22) ?_;rintro _ _ ⟨t19, rfl, rfl⟩;show AI _ _ _ _ _ _ #[true, true, true, true, true, true, true, true, true, true, true, true, false, false, false] _;refine zk 12 rfl (ar rfl) ?_;show AI _ _ _ _ _ _ #[true, true, true, true, true, true, true, true, true, true, true, true, true, false, false] _;refine zk 13 rfl (al (n := 0) (by kernel_rfl) rfl) ?_;show AI _ _ _ _ _ _ #[true, true, true, true, true, true, true, true, true, true, true, true, true, true, false] _;refine aX (i := 14) (by kernel_rfl) rfl rfl <| cr (aw (i := 0) (c := slE _ _ _) (by kernel_rfl) rfl rfl rfl rfl (ai rfl)) ?_
   show AI _ _ _ _ _ _ #[true, true, true, true, true, true, true, true, true, true, true, true, true, true, true] _;refine bE rfl ?_;exact Exists.intro (x21, t19) ⟨H, aP [0, 0] (.cons (.refl _) (.cons (.refl _) (.cons (.refl _) (.nil _)))) rfl⟩
  ·refine aW rfl (am (i := 0) ab rfl rfl rfl rfl) ?_;show AI _ _ _ _ _ _ #[true, true, true, true, false, true, true, true, true, false, false, false, false, false, false] _;refine zk 9 rfl (cg rfl rfl g13 e15) ?_;show AI _ _ _ _ _ _ #[true, true, true, true, false, true, true, true, true, true, false, false, false, false, false] _;refine zk 10 rfl (cg rfl rfl g16 e18) ?_;show AI _ _ _ _ _ _ #[true, true, true, true, false, true, true, true, true, true, true, false, false, false, false] _;refine aX (i := 4) (by kernel_rfl) rfl rfl <| aW rfl (am (i := 0) ac rfl rfl rfl rfl) ?_;show AI _ _ _ _ _ _ #[true, true, true, true, true, true, true, true, true, true, true, false, false, false, false] _;refine aX (i := 11) (by kernel_rfl) rfl rfl <| cf rfl (bA (bytes := 1) 1 ac ab rfl (by kernel_rfl) rfl rfl rfl rfl g20 e22) ?_;rintro _ _ ⟨t23, rfl, rfl⟩;show AI _ _ _ _ _ _ #[true, true, true, true, true, true, true, true, true, true, true, true, false, false, false] _;refine zk 12 rfl (ar rfl) ?_;show AI _ _ _ _ _ _ #[true, true, true, true, true, true, true, true, true, true, true, true, true, false, false] _;refine zk 13 rfl (al (n := 0) (by kernel_rfl) rfl) ?_;show AI _ _ _ _ _ _ #[true, true, true, true, true, true, true, true, true, true, true, true, true, true, false] _;refine aX (i := 14) (by kernel_rfl) rfl rfl <| cr (aw (i := 0) (c := slE _ _ _) (by kernel_rfl) rfl rfl rfl rfl (ai rfl)) ?_
   show AI _ _ _ _ _ _ #[true, true, true, true, true, true, true, true, true, true, true, true, true, true, true] _;refine bE rfl ?_;exact Exists.intro (x21, t23) ⟨H, aP [0, 0] (.cons (.refl _) (.cons (.refl _) (.cons (.refl _) (.nil _)))) rfl⟩
 rintro ⟨y24, t25⟩ H;replace H : kx a6 x10 y24 = some r8 := H
 unfold kx at H
 obtain ⟨g28, H⟩ := ay H;obtain ⟨x29, e30, H⟩ := bg H;obtain ⟨g32, H⟩ := ay H;obtain ⟨x33, e34, H⟩ := bg H;obtain ⟨g36, H⟩ := ay H;obtain ⟨x37, e38, H⟩ := bg H;refine aa ?_;show AR _ _ _ _ _ [0, 1, 2, 3, 4, 5, 6, 7, 8, 9, 10, 11, 12] _;refine zS rfl (aj (av := .pt _ _) rfl) <| zS rfl (aj (av := .pt _ _) rfl) <| zS rfl (ar rfl) <| zS rfl (al (n := 0) (by kernel_rfl) rfl) <| zR rfl (am (i := 0) ac rfl rfl rfl rfl) <| zS rfl (aj (av := slE _ _ _) rfl) <| zX rfl (cE (E := Enc.byte) (bytes := 1) 1 ac ac rfl (by kernel_rfl) rfl rfl rfl rfl g28 e30) ?_;rintro _ _ ⟨t27, rfl, rfl⟩;refine zS rfl (aj (av := slE _ _ _) rfl) <| zX rfl (cE (E := Enc.byte) (bytes := 1) 1 ac ac rfl (by kernel_rfl) rfl rfl rfl rfl g32 e34) ?_;rintro _ _ ⟨t31, rfl, rfl⟩;refine zX rfl (bA (bytes := 1) 1 ac ab rfl (by kernel_rfl) rfl rfl rfl rfl g36 e38) ?_;rintro _ _ ⟨t35, rfl, rfl⟩;refine zS rfl (ar rfl) <| zS rfl (al (n := 0) (by kernel_rfl) rfl) <| s0 rfl rfl (aw (i := 0) (c := slE _ _ _) (by kernel_rfl) rfl rfl rfl rfl (ai rfl)) <| ag ?_;obtain rfl := ap H;exact And.intro rfl (Exists.intro _ (Exists.intro _ ⟨ck rfl, aI [0, 0] rfl, rfl, t35, rfl⟩))
set_option maxRecDepth 100000 in
set_option maxHeartbeats 1000000 in
theorem tH (F : Nat) (a1 : List (List UInt8)) (q2 : Option Nat) (a3 : List (List UInt8)) (q4 : Option Nat) (r5 : List UInt8) (r6 : List UInt8) (r7 : Int) (H : oZ F a1 a3 = some (r5, r6, r7)) : ACalls Tryz.prog 29 [slE Enc.str a1 q2, slE (Enc.sl Enc.byte) a3 q4] [] (Ret (.tup [slE Enc.byte r5 none, S r6, i64 r7]) []) := by
 unfold oZ at H
 refine ax Tryz.func29 rfl rfl ?_;show AW _ _ 82 _ _ _;refine af <| aa ?_;show AR _ _ _ _ _ [0, 1, 2] _;refine za rfl <| za rfl <| za rfl <| ag <| af <| af ?_;obtain ⟨x11, e12, H⟩ := ft H;refine aa ?_;show AR _ _ _ _ _ [0, 1, 2, 3, 4, 5, 6, 7, 8, 9, 10, 11, 12, 13, 14, 15, 16, 17, 18] _;refine zS rfl (aj (av := slE _ _ _) rfl) <| zS rfl (aQ ao rfl) <| zS rfl (aj (av := slE _ _ _) rfl) <| zS rfl (aQ bL rfl) <| zS rfl (dg rfl rfl) <| zm rfl <| bb (l := [10, 11, 12, 13, 14, 15, 16, 17, 18]) 23 (B ((!decide ((a1.length : Int) = (a3.length : Int))) || (decide ((a3.length : Int) = 0)))) (fun K => ?_) ?_
 ·rcases ak (!decide ((a1.length : Int) = (a3.length : Int))) with h8 | h8
  ·refine zF h8 rfl <| zF h8 rfl <| zF h8 rfl <| zS rfl (aG (av := .v _) rfl h8 rfl) ?_;exact K _ 3 _ (aA (fT h8)) rfl rfl
  ·refine zU h8 rfl (aj (av := slE _ _ _) rfl) <| zU h8 rfl (aQ bL rfl) <| zU h8 rfl (cJ rfl rfl) <| zS rfl (aE (av := .v _) rfl h8 rfl) ?_;exact K _ 3 _ (aA (fU h8)) rfl rfl
 refine zm rfl <| bb (l := [15, 16, 17, 18]) 28 (B (((!decide ((a1.length : Int) = (a3.length : Int))) || (decide ((a3.length : Int) = 0))) || (decide (8 < (a3.length : Int))))) (fun K => ?_) ?_
 ·rcases ak ((!decide ((a1.length : Int) = (a3.length : Int))) || (decide ((a3.length : Int) = 0))) with h9 | h9
  ·refine zF h9 rfl <| zF h9 rfl <| zF h9 rfl <| zS rfl (aG (av := .v _) rfl h9 rfl) ?_;exact K _ 3 _ (aA (fT h9)) rfl rfl
  ·refine zU h9 rfl (aj (av := slE _ _ _) rfl) <| zU h9 rfl (aQ bL rfl) <| zU h9 rfl (cS rfl rfl) <| zS rfl (aE (av := .v _) rfl h9 rfl) ?_;exact K _ 3 _ (aA (fU h9)) rfl rfl
 refine zm rfl <| bb (l := []) 32 (B ((((!decide ((a1.length : Int) = (a3.length : Int))) || (decide ((a3.length : Int) = 0))) || (decide (8 < (a3.length : Int)))) || x11)) (fun K => ?_) ?_
 ·rcases ak (((!decide ((a1.length : Int) = (a3.length : Int))) || (decide ((a3.length : Int) = 0))) || (decide (8 < (a3.length : Int)))) with h10 | h10
  ·refine zF h10 rfl <| zF h10 rfl <| zS rfl (aG (av := .v _) rfl h10 rfl) ?_;exact K _ 2 _ (aA (fT h10)) rfl rfl
  ·refine zU h10 rfl (aj (av := slE _ _ _) rfl) <| zT h10 rfl (aD rfl vZ rfl (oL F a1 q2 x11 (e12 (nf h10))) ?_);refine zS rfl (aE (av := .v _) rfl h10 rfl) ?_;exact K _ 2 _ (aA (fU h10)) rfl rfl
 refine ag <| az rfl (fun c13 => ?_) (fun c13 => ?_)
 ·replace H := aZ c13 H;refine af <| aa ?_;show AR _ _ _ _ _ [0, 1, 2] _;refine za rfl <| za rfl <| za rfl <| ag <| aL ?_;obtain ⟨rfl, rfl, rfl⟩ := rN H;exact And.intro rfl (Exists.intro _ (Exists.intro _ ⟨dy rfl (.nil _) (.refl _) (.refl _), aI [] rfl, rfl, rfl⟩))
 ·replace H := ba c13 H;refine aC <| af <| aa ?_;show AR _ _ _ _ _ [0] _;refine za rfl <| ag ?_
  refine ez 7 1 32 rfl fun t14 => ?_
  show AW _ _ _ _ _ ⟨(7, slE (Enc.sl Enc.byte) [] (some t14)) :: _, _, _⟩;refine bk (X := (List (List UInt8)) × Nat) (fun (y31, t32) => ⟨[(0, slE Enc.str a1 q2), (7, slE (Enc.sl Enc.byte) y31 (some t32))], [], [.tok t32 32]⟩) (fun (y31, t32) => jk F a1 y31 = some (r5, r6, r7)) ?_ ?_
  ·refine af <| aa ?_;show AR _ _ _ _ _ [0, 1, 2] _;refine zS rfl (aj (av := slE _ _ _) rfl) <| zS rfl (aQ bL rfl) <| zm rfl <| ag <| aO <| cl (X := Nat × (List (List UInt8)) × Nat × Int) (fun (n19, y15, t16, y17) => ⟨[(0, slE Enc.str a1 q2), (7, slE (Enc.sl Enc.byte) y15 (some t16)), (33, slE (Enc.sl Enc.byte) a3 q4), (34, i64 (a3.length : Int)), (35, i64 y17)], [], [.tok t16 32]⟩) (fun (n19, y15, t16, y17) => lm F a1 a3 n19 (y15, y17) = some (r5, r6, r7)) (fun (n19, y15, t16, y17) => n19) (F, [], t14, 0) H (aP [0] (.cons (.refl _) (.cons (.refl _) (.cons (.refl _) (.cons (.refl _) (.cons (.refl _) (.nil _)))))) rfl) ?_;rintro ⟨n19, y15, t16, y17⟩ H;obtain ⟨n19, rfl, H⟩ := cO H;replace H : lq F a1 a3 (lm F a1 a3 n19) y15 y17 = some (r5, r6, r7) := H
   unfold lq at H
   refine af <| aa ?_;show AR _ _ _ _ _ [0] _;refine zS rfl (bC rfl rfl) <| ag <| af <| az rfl (fun c20 => ?_) (fun c20 => ?_)
   ·replace H := aZ c20 H;refine aC <| af <| aO <| af ?_;obtain ⟨g21, H⟩ := ay H;obtain ⟨x22, e23, H⟩ := bg H;refine aa ?_;show AR _ _ _ _ _ [0, 1, 2] _;refine zS rfl (cn (E := (Enc.sl Enc.byte)) bL (by kernel_rfl) rfl rfl g21 e23) <| zS rfl (aJ ac rfl rfl) <| zS rfl (aB (av := slE _ _ _) rfl) <| ag ?_;obtain ⟨x24, e25, H⟩ := bK H;obtain ⟨g27, H⟩ := ay H;obtain ⟨x28, e29, H⟩ := bg H;refine aa ?_;show AR _ _ _ _ _ [0, 1, 2, 3, 4, 5] _;refine zS rfl (aj (av := slE _ _ _) rfl) <| zS rfl (aj (av := slE _ _ _) rfl) <| aq rfl rfl (aD rfl vW rfl (tD F x22 none x24 e25) ?_);refine zR rfl (bQ (E := (Enc.sl Enc.byte)) (bytes := 24) (xs := [.tmp 41]) (l := ([x24] : List (List UInt8))) bL (by kernel_rfl) rfl rfl (by decide) rfl rfl) <| zX rfl (cE (E := (Enc.sl Enc.byte)) (bytes := 24) 0 bL bL rfl (by kernel_rfl) rfl rfl rfl rfl g27 e29) ?_;rintro _ _ ⟨t26, rfl, rfl⟩;refine zS rfl (aB (av := slE _ _ _) rfl) <| ag ?_;obtain ⟨g30, H⟩ := ay H;refine aa ?_;show AR _ _ _ _ _ [0, 1] _;refine zS rfl (bu rfl rfl g30) <| zm rfl <| ag ?_;exact Exists.intro (n19, x28, t26, y17 + 1) ⟨H, Nat.lt_succ_self _, aP [0] (.cons (.refl _) (.cons (.refl _) (.cons (.refl _) (.cons (.refl _) (.cons (.refl _) (.nil _)))))) rfl⟩
   ·replace H := ba c20 H;refine bZ ?_;exact Exists.intro (y15, t16) ⟨H, aP [0] (.cons (.refl _) (.cons (.refl _) (.nil _))) rfl⟩
  rintro ⟨y31, t32⟩ H;replace H : jk F a1 y31 = some (r5, r6, r7) := H
  unfold jk at H
  refine af ?_;obtain ⟨x34, e35, H⟩ := bK H;refine aa ?_;show AR _ _ _ _ _ [0, 1, 2, 3, 4] _;refine zS rfl (aj (av := slE _ _ _) rfl) <| aq rfl rfl (aD rfl vV rfl (pS F y31 (some t32) x34 e35) ?_);refine zS rfl (du (zs := [.slice none 0 0, .string ⟨#[]⟩]) (ps := [(0, 1), (1, 1)]) (cs := [ah, S x34]) (by kernel_rfl) rfl rfl) <| zX rfl (qd rfl (.inr ⟨_, rfl⟩)) ?_;rintro _ _ ⟨o36, rfl, rfl⟩;refine zS rfl (aB (av := .pt _ _) rfl) <| ag ?_
  refine eB 0 0 1 5 rfl rfl fun t37 => ?_
  show AW _ _ _ _ _ ⟨_, _, [.tok t37 5, .obj o36 [slE Enc.byte [] (some t37), S x34], .tok t32 32]⟩;refine af <| aa ?_;show AR _ _ _ _ _ [0, 1, 2] _;refine zS rfl (aj (av := .pt _ _) rfl) <| zS rfl (jm rfl rfl) <| zS rfl (aB (av := .fn _ _ _) rfl) <| ag <| bk (X := (List UInt8) × Nat) (fun (y54, t55) => ⟨[(10, .pt o36 0)], [], [.obj o36 [slE Enc.byte y54 (some t55), S x34], .tok t55 5]⟩) (fun (y54, t55) => jl x34 y54 = some (r5, r6, r7)) ?_ ?_
  ·refine af <| aa ?_;show AR _ _ _ _ _ [0, 1, 2] _;refine zS rfl (aj (av := slE _ _ _) rfl) <| zS rfl (aQ bL rfl) <| zm rfl <| ag <| aO <| cl (X := Nat × Int × (List UInt8) × Nat) (fun (n42, y38, y39, t40) => ⟨[(0, slE Enc.str a1 q2), (10, .pt o36 0), (11, .fn (.func 77) [.pt o36 0] []), (51, slE (Enc.sl Enc.byte) y31 (some t32)), (52, i64 (y31.length : Int)), (53, i64 y38)], [], [.obj o36 [slE Enc.byte y39 (some t40), S x34], .tok t32 32, .tok t40 5]⟩) (fun (n42, y38, y39, t40) => ln F a1 y31 x34 n42 (y38, y39) = some (r5, r6, r7)) (fun (n42, y38, y39, t40) => n42) (F, 0, [], t37) H (aP [1, 1, 0] (.cons (.refl _) (.cons (.refl _) (.cons (.refl _) (.cons (.refl _) (.cons (.refl _) (.cons (.refl _) (.nil _))))))) rfl) ?_;rintro ⟨n42, y38, y39, t40⟩ H;obtain ⟨n42, rfl, H⟩ := cO H;replace H : lr F a1 y31 x34 (ln F a1 y31 x34 n42) y38 y39 = some (r5, r6, r7) := H
   unfold lr at H
   refine af <| aa ?_;show AR _ _ _ _ _ [0] _;refine zS rfl (bC rfl rfl) <| ag <| af <| az rfl (fun c43 => ?_) (fun c43 => ?_)
   ·replace H := aZ c43 H;refine aC <| af <| aO <| af ?_;obtain ⟨g44, H⟩ := ay H;obtain ⟨x45, e46, H⟩ := bg H;refine aa ?_;show AR _ _ _ _ _ [0, 1, 2, 3, 4] _;refine zm rfl <| zS rfl (cn (E := (Enc.sl Enc.byte)) bL (by kernel_rfl) rfl rfl g44 e46) <| zS rfl (aJ ac rfl rfl) <| za rfl <| zS rfl (aB (av := slE _ _ _) rfl) <| ag ?_;obtain ⟨g47, H⟩ := ay H;obtain ⟨x48, e49, H⟩ := bg H;obtain ⟨x50, e51, H⟩ := bK H;refine aa ?_;show AR _ _ _ _ _ [0, 1, 2, 3, 4, 5, 6] _;refine zS rfl (aj (av := .fn _ _ _) rfl) <| zS rfl (aj (av := slE _ _ _) rfl) <| zm rfl <| zS rfl (cn (E := Enc.str) ao (by kernel_rfl) rfl rfl g47 e49) <| zS rfl (aJ ab rfl rfl) <| zS rfl (aj (av := slE _ _ _) rfl) <| aq rfl rfl (AO.callFAt [0, 1] rfl (.inl rfl) vU rfl (vp F o36 y39 t40 x34 x48 x45 none x50 e51) rfl (fun c A' h => by cases h.1) ?_)
    rintro av A' ⟨h, t52, rfl⟩; cases h
    refine ag ?_;obtain ⟨g53, H⟩ := ay H;refine aa ?_;show AR _ _ _ _ _ [0, 1] _;refine zS rfl (bu rfl rfl g53) <| zm rfl <| ag ?_;exact Exists.intro (n42, y38 + 1, x50, t52) ⟨H, Nat.lt_succ_self _, aP [0, 1, 0] (.cons (.refl _) (.cons (.refl _) (.cons (.refl _) (.cons (.refl _) (.cons (.refl _) (.cons (.refl _) (.nil _))))))) rfl⟩
   ·replace H := ba c43 H;refine bZ ?_;exact Exists.intro (y39, t40) ⟨H, aP [0, 1] (.cons (.refl _) (.nil _)) rfl⟩
  rintro ⟨y54, t55⟩ H;replace H : jl x34 y54 = some (r5, r6, r7) := H
  unfold jl at H
  refine af ?_;obtain ⟨g57, H⟩ := ay H;obtain ⟨x58, e59, H⟩ := bg H;obtain ⟨g60, H⟩ := ay H;obtain ⟨x61, e62, H⟩ := bg H;obtain ⟨g63, H⟩ := ay H;obtain ⟨x64, e65, H⟩ := bg H;obtain ⟨g67, H⟩ := ay H;obtain ⟨x68, e69, H⟩ := bg H;refine bz (by kernel_rfl) ?_;show AI _ _ _ _ _ 19 (Array.replicate 19 false) _;refine zk 0 rfl (aj (av := .pt _ _) rfl) ?_;show AI _ _ _ _ _ _ #[true, false, false, false, false, false, false, false, false, false, false, false, false, false, false, false, false, false, false] _;refine zk 1 rfl (ar rfl) ?_;show AI _ _ _ _ _ _ #[true, true, false, false, false, false, false, false, false, false, false, false, false, false, false, false, false, false, false] _;refine zk 2 rfl (al (n := 0) (by kernel_rfl) rfl) ?_;show AI _ _ _ _ _ _ #[true, true, true, false, false, false, false, false, false, false, false, false, false, false, false, false, false, false, false] _;refine zk 4 rfl (aj (av := .pt _ _) rfl) ?_;show AI _ _ _ _ _ _ #[true, true, true, false, true, false, false, false, false, false, false, false, false, false, false, false, false, false, false] _;refine zk 5 rfl (ar rfl) ?_;show AI _ _ _ _ _ _ #[true, true, true, false, true, true, false, false, false, false, false, false, false, false, false, false, false, false, false] _;refine zk 6 rfl (al (n := 1) (by kernel_rfl) rfl) ?_;show AI _ _ _ _ _ _ #[true, true, true, false, true, true, true, false, false, false, false, false, false, false, false, false, false, false, false] _
  refine zk 12 rfl (aj (av := .pt _ _) rfl) ?_;show AI _ _ _ _ _ _ #[true, true, true, false, true, true, true, false, false, false, false, false, true, false, false, false, false, false, false] _;refine zk 13 rfl (ar rfl) ?_;show AI _ _ _ _ _ _ #[true, true, true, false, true, true, true, false, false, false, false, false, true, true, false, false, false, false, false] _;refine zk 14 rfl (al (n := 1) (by kernel_rfl) rfl) ?_;show AI _ _ _ _ _ _ #[true, true, true, false, true, true, true, false, false, false, false, false, true, true, true, false, false, false, false] _;refine vj (i := 3) (j := 7) (l := 15) (by kernel_rfl) rfl rfl rfl rfl rfl rfl ?_ ?_ ?_
  ·refine aW rfl (am (i := 0) ac rfl rfl rfl rfl) ?_;show AI _ _ _ _ _ _ #[true, true, true, true, true, true, true, false, false, false, false, false, true, true, true, false, false, false, false] _;refine dE (i := 7) (j := 15) (by kernel_rfl) rfl rfl rfl rfl ?_ ?_
   ·refine aW rfl (am (i := 0) ab rfl rfl rfl rfl) ?_;show AI _ _ _ _ _ _ #[true, true, true, true, true, true, true, true, false, false, false, false, true, true, true, false, false, false, false] _;refine zk 8 rfl (cg rfl rfl g57 e59) ?_;show AI _ _ _ _ _ _ #[true, true, true, true, true, true, true, true, true, false, false, false, true, true, true, false, false, false, false] _;refine zk 9 rfl (cg rfl rfl g60 e62) ?_;show AI _ _ _ _ _ _ #[true, true, true, true, true, true, true, true, true, true, false, false, true, true, true, false, false, false, false] _;refine zk 10 rfl (cg rfl rfl g63 e65) ?_;show AI _ _ _ _ _ _ #[true, true, true, true, true, true, true, true, true, true, true, false, true, true, true, false, false, false, false] _;refine dE (i := 11) (j := 15) (by kernel_rfl) rfl rfl rfl rfl ?_ ?_
    ·refine cf rfl (bA (bytes := 1) 1 ac ab rfl (by kernel_rfl) rfl rfl rfl rfl g67 e69) ?_;rintro _ _ ⟨t66, rfl, rfl⟩;show AI _ _ _ _ _ _ #[true, true, true, true, true, true, true, true, true, true, true, true, true, true, true, false, false, false, false] _;refine zk 16 rfl (aB (av := slE _ _ _) rfl) ?_;show AI _ _ _ _ _ _ #[true, true, true, true, true, true, true, true, true, true, true, true, true, true, true, false, true, false, false] _;refine aX (i := 15) (by kernel_rfl) rfl rfl <| aW rfl (am (i := 0) ab rfl rfl rfl rfl) ?_;show AI _ _ _ _ _ _ #[true, true, true, true, true, true, true, true, true, true, true, true, true, true, true, true, true, false, false] _;refine zk 17 rfl (asg rfl) ?_;show AI _ _ _ _ _ _ #[true, true, true, true, true, true, true, true, true, true, true, true, true, true, true, true, true, true, false] _;refine zk 18 rfl (asg rfl) ?_;show AI _ _ _ _ _ _ #[true, true, true, true, true, true, true, true, true, true, true, true, true, true, true, true, true, true, true] _;refine bE rfl <| aL ?_;obtain ⟨rfl, rfl, rfl⟩ := rN H;exact And.intro rfl (Exists.intro _ (Exists.intro _ ⟨dy rfl (.tok _ _ _) (.refl _) (.refl _), aI [] rfl, rfl, rfl⟩))
    ·refine aW rfl (am (i := 0) ab rfl rfl rfl rfl) ?_;show AI _ _ _ _ _ _ #[true, true, true, true, true, true, true, true, true, true, true, false, true, true, true, true, false, false, false] _;refine aX (i := 11) (by kernel_rfl) rfl rfl <| cf rfl (bA (bytes := 1) 1 ac ab rfl (by kernel_rfl) rfl rfl rfl rfl g67 e69) ?_;rintro _ _ ⟨t70, rfl, rfl⟩;show AI _ _ _ _ _ _ #[true, true, true, true, true, true, true, true, true, true, true, true, true, true, true, true, false, false, false] _;refine zk 16 rfl (aB (av := slE _ _ _) rfl) ?_;show AI _ _ _ _ _ _ #[true, true, true, true, true, true, true, true, true, true, true, true, true, true, true, true, true, false, false] _;refine zk 17 rfl (asg rfl) ?_;show AI _ _ _ _ _ _ #[true, true, true, true, true, true, true, true, true, true, true, true, true, true, true, true, true, true, false] _;refine zk 18 rfl (asg rfl) ?_;show AI _ _ _ _ _ _ #[true, true, true, true, true, true, true, true, true, true, true, true, true, true, true, true, true, true, true] _;refine bE rfl <| aL ?_;obtain ⟨rfl, rfl, rfl⟩ := rN H;exact And.intro rfl (Exists.intro _ (Exists.intro _ ⟨dy rfl (.tok _ _ _) (.refl _) (.refl _), aI [] rfl, rfl, rfl⟩))
   ·refine aW rfl (am (i := 0) ab rfl rfl rfl rfl) ?_;show AI _ _ _ _ _ _ #[true, true, true, true, true, true, true, false, false, false, false, false, true, true, true, true, false, false, false] _;refine aX (i := 7) (by kernel_rfl) rfl rfl <| aW rfl (am (i := 0) ab rfl rfl rfl rfl) ?_;show AI _ _ _ _ _ _ #[true, true, true, true, true, true, true, true, false, false, false, false, true, true, true, true, false, false, false] _;refine zk 8 rfl (cg rfl rfl g57 e59) ?_;show AI _ _ _ _ _ _ #[true, true, true, true, true, true, true, true, true, false, false, false, true, true, true, true, false, false, false] _;refine zk 9 rfl (cg rfl rfl g60 e62) ?_;show AI _ _ _ _ _ _ #[true, true, true, true, true, true, true, true, true, true, false, false, true, true, true, true, false, false, false] _;refine zk 10 rfl (cg rfl rfl g63 e65) ?_;show AI _ _ _ _ _ _ #[true, true, true, true, true, true, true, true, true, true, true, false, true, true, true, true, false, false, false] _;refine aX (i := 11) (by kernel_rfl) rfl rfl <| cf rfl (bA (bytes := 1) 1 ac ab rfl (by kernel_rfl) rfl rfl rfl rfl g67 e69) ?_;rintro _ _ ⟨t71, rfl, rfl⟩;show AI _ _ _ _ _ _ #[true, true, true, true, true, true, true, true, true, true, true, true, true, true, true, true, false, false, false] _;refine zk 16 rfl (aB (av := slE _ _ _) rfl) ?_;show AI _ _ _ _ _ _ #[true, true, true, true, true, true, true, true, true, true, true, true, true, true, true, true, true, false, false] _
    refine zk 17 rfl (asg rfl) ?_;show AI _ _ _ _ _ _ #[true, true, true, true, true, true, true, true, true, true, true, true, true, true, true, true, true, true, false] _;refine zk 18 rfl (asg rfl) ?_;show AI _ _ _ _ _ _ #[true, true, true, true, true, true, true, true, true, true, true, true, true, true, true, true, true, true, true] _;refine bE rfl <| aL ?_;obtain ⟨rfl, rfl, rfl⟩ := rN H;exact And.intro rfl (Exists.intro _ (Exists.intro _ ⟨dy rfl (.tok _ _ _) (.refl _) (.refl _), aI [] rfl, rfl, rfl⟩))
  ·refine aW rfl (am (i := 0) ab rfl rfl rfl rfl) ?_;show AI _ _ _ _ _ _ #[true, true, true, false, true, true, true, true, false, false, false, false, true, true, true, false, false, false, false] _;refine zk 8 rfl (cg rfl rfl g57 e59) ?_;show AI _ _ _ _ _ _ #[true, true, true, false, true, true, true, true, true, false, false, false, true, true, true, false, false, false, false] _;refine zk 9 rfl (cg rfl rfl g60 e62) ?_;show AI _ _ _ _ _ _ #[true, true, true, false, true, true, true, true, true, true, false, false, true, true, true, false, false, false, false] _;refine zk 10 rfl (cg rfl rfl g63 e65) ?_;show AI _ _ _ _ _ _ #[true, true, true, false, true, true, true, true, true, true, true, false, true, true, true, false, false, false, false] _;refine dE (i := 3) (j := 15) (by kernel_rfl) rfl rfl rfl rfl ?_ ?_
   ·refine aW rfl (am (i := 0) ac rfl rfl rfl rfl) ?_;show AI _ _ _ _ _ _ #[true, true, true, true, true, true, true, true, true, true, true, false, true, true, true, false, false, false, false] _;refine dE (i := 11) (j := 15) (by kernel_rfl) rfl rfl rfl rfl ?_ ?_
    ·refine cf rfl (bA (bytes := 1) 1 ac ab rfl (by kernel_rfl) rfl rfl rfl rfl g67 e69) ?_;rintro _ _ ⟨t72, rfl, rfl⟩;show AI _ _ _ _ _ _ #[true, true, true, true, true, true, true, true, true, true, true, true, true, true, true, false, false, false, false] _;refine zk 16 rfl (aB (av := slE _ _ _) rfl) ?_;show AI _ _ _ _ _ _ #[true, true, true, true, true, true, true, true, true, true, true, true, true, true, true, false, true, false, false] _;refine aX (i := 15) (by kernel_rfl) rfl rfl <| aW rfl (am (i := 0) ab rfl rfl rfl rfl) ?_;show AI _ _ _ _ _ _ #[true, true, true, true, true, true, true, true, true, true, true, true, true, true, true, true, true, false, false] _;refine zk 17 rfl (asg rfl) ?_;show AI _ _ _ _ _ _ #[true, true, true, true, true, true, true, true, true, true, true, true, true, true, true, true, true, true, false] _;refine zk 18 rfl (asg rfl) ?_;show AI _ _ _ _ _ _ #[true, true, true, true, true, true, true, true, true, true, true, true, true, true, true, true, true, true, true] _;refine bE rfl <| aL ?_;obtain ⟨rfl, rfl, rfl⟩ := rN H;exact And.intro rfl (Exists.intro _ (Exists.intro _ ⟨dy rfl (.tok _ _ _) (.refl _) (.refl _), aI [] rfl, rfl, rfl⟩))
    ·refine aW rfl (am (i := 0) ab rfl rfl rfl rfl) ?_;show AI _ _ _ _ _ _ #[true, true, true, true, true, true, true, true, true, true, true, false, true, true, true, true, false, false, false] _;refine aX (i := 11) (by kernel_rfl) rfl rfl <| cf rfl (bA (bytes := 1) 1 ac ab rfl (by kernel_rfl) rfl rfl rfl rfl g67 e69) ?_;rintro _ _ ⟨t73, rfl, rfl⟩;show AI _ _ _ _ _ _ #[true, true, true, true, true, true, true, true, true, true, true, true, true, true, true, true, false, false, false] _;refine zk 16 rfl (aB (av := slE _ _ _) rfl) ?_;show AI _ _ _ _ _ _ #[true, true, true, true, true, true, true, true, true, true, true, true, true, true, true, true, true, false, false] _;refine zk 17 rfl (asg rfl) ?_;show AI _ _ _ _ _ _ #[true, true, true, true, true, true, true, true, true, true, true, true, true, true, true, true, true, true, false] _;refine zk 18 rfl (asg rfl) ?_;show AI _ _ _ _ _ _ #[true, true, true, true, true, true, true, true, true, true, true, true, true, true, true, true, true, true, true] _;refine bE rfl <| aL ?_;obtain ⟨rfl, rfl, rfl⟩ := rN H;exact And.intro rfl (Exists.intro _ (Exists.intro _ ⟨dy rfl (.tok _ _ _) (.refl _) (.refl _), aI [] rfl, rfl, rfl⟩))
   ·refine aW rfl (am (i := 0) ab rfl rfl rfl rfl) ?_;show AI _ _ _ _ _ _ #[true, true, true, false, true, true, true, true, true, true, true, false, true, true, true, true, false, false, false] _;refine aX (i := 3) (by kernel_rfl) rfl rfl <| aW rfl (am (i := 0) ac rfl rfl rfl rfl) ?_;show AI _ _ _ _ _ _ #[true, true, true, true, true, true, true, true, true, true, true, false, true, true, true, true, false, false, false] _;refine aX (i := 11) (by kernel_rfl) rfl rfl <| cf rfl (bA (bytes := 1) 1 ac ab rfl (by kernel_rfl) rfl rfl rfl rfl g67 e69) ?_;rintro _ _ ⟨t74, rfl, rfl⟩;show AI _ _ _ _ _ _ #[true, true, true, true, true, true, true, true, true, true, true, true, true, true, true, true, false, false, false] _;refine zk 16 rfl (aB (av := slE _ _ _) rfl) ?_;show AI _ _ _ _ _ _ #[true, true, true, true, true, true, true, true, true, true, true, true, true, true, true, true, true, false, false] _;refine zk 17 rfl (asg rfl) ?_;show AI _ _ _ _ _ _ #[true, true, true, true, true, true, true, true, true, true, true, true, true, true, true, true, true, true, false] _;refine zk 18 rfl (asg rfl) ?_;show AI _ _ _ _ _ _ #[true, true, true, true, true, true, true, true, true, true, true, true, true, true, true, true, true, true, true] _;refine bE rfl <| aL ?_;obtain ⟨rfl, rfl, rfl⟩ := rN H;exact And.intro rfl (Exists.intro _ (Exists.intro _ ⟨dy rfl (.tok _ _ _) (.refl _) (.refl _), aI [] rfl, rfl, rfl⟩))
  ·refine aW rfl (am (i := 0) ab rfl rfl rfl rfl) ?_;show AI _ _ _ _ _ _ #[true, true, true, false, true, true, true, false, false, false, false, false, true, true, true, true, false, false, false] _;refine dE (i := 3) (j := 7) (by kernel_rfl) rfl rfl rfl rfl ?_ ?_
   ·refine aW rfl (am (i := 0) ac rfl rfl rfl rfl) ?_;show AI _ _ _ _ _ _ #[true, true, true, true, true, true, true, false, false, false, false, false, true, true, true, true, false, false, false] _;refine aX (i := 7) (by kernel_rfl) rfl rfl <| aW rfl (am (i := 0) ab rfl rfl rfl rfl) ?_;show AI _ _ _ _ _ _ #[true, true, true, true, true, true, true, true, false, false, false, false, true, true, true, true, false, false, false] _;refine zk 8 rfl (cg rfl rfl g57 e59) ?_;show AI _ _ _ _ _ _ #[true, true, true, true, true, true, true, true, true, false, false, false, true, true, true, true, false, false, false] _;refine zk 9 rfl (cg rfl rfl g60 e62) ?_;show AI _ _ _ _ _ _ #[true, true, true, true, true, true, true, true, true, true, false, false, true, true, true, true, false, false, false] _;refine zk 10 rfl (cg rfl rfl g63 e65) ?_;show AI _ _ _ _ _ _ #[true, true, true, true, true, true, true, true, true, true, true, false, true, true, true, true, false, false, false] _;refine aX (i := 11) (by kernel_rfl) rfl rfl <| cf rfl (bA (bytes := 1) 1 ac ab rfl (by kernel_rfl) rfl rfl rfl rfl g67 e69) ?_;rintro _ _ ⟨t75, rfl, rfl⟩;show AI _ _ _ _ _ _ #[true, true, true, true, true, true, true, true, true, true, true, true, true, true, true, true, false, false, false] _;refine zk 16 rfl (aB (av := slE _ _ _) rfl) ?_;show AI _ _ _ _ _ _ #[true, true, true, true, true, true, true, true, true, true, true, true, true, true, true, true, true, false, false] _
    refine zk 17 rfl (asg rfl) ?_;show AI _ _ _ _ _ _ #[true, true, true, true, true, true, true, true, true, true, true, true, true, true, true, true, true, true, false] _;refine zk 18 rfl (asg rfl) ?_;show AI _ _ _ _ _ _ #[true, true, true, true, true, true, true, true, true, true, true, true, true, true, true, true, true, true, true] _;refine bE rfl <| aL ?_;obtain ⟨rfl, rfl, rfl⟩ := rN H;exact And.intro rfl (Exists.intro _ (Exists.intro _ ⟨dy rfl (.tok _ _ _) (.refl _) (.refl _), aI [] rfl, rfl, rfl⟩))
   ·refine aW rfl (am (i := 0) ab rfl rfl rfl rfl) ?_;show AI _ _ _ _ _ _ #[true, true, true, false, true, true, true, true, false, false, false, false, true, true, true, true, false, false, false] _;refine zk 8 rfl (cg rfl rfl g57 e59) ?_;show AI _ _ _ _ _ _ #[true, true, true, false, true, true, true, true, true, false, false, false, true, true, true, true, false, false, false] _;refine zk 9 rfl (cg rfl rfl g60 e62) ?_;show AI _ _ _ _ _ _ #[true, true, true, false, true, true, true, true, true, true, false, false, true, true, true, true, false, false, false] _;refine zk 10 rfl (cg rfl rfl g63 e65) ?_;show AI _ _ _ _ _ _ #[true, true, true, false, true, true, true, true, true, true, true, false, true, true, true, true, false, false, false] _;refine aX (i := 3) (by kernel_rfl) rfl rfl <| aW rfl (am (i := 0) ac rfl rfl rfl rfl) ?_;show AI _ _ _ _ _ _ #[true, true, true, true, true, true, true, true, true, true, true, false, true, true, true, true, false, false, false] _;refine aX (i := 11) (by kernel_rfl) rfl rfl <| cf rfl (bA (bytes := 1) 1 ac ab rfl (by kernel_rfl) rfl rfl rfl rfl g67 e69) ?_;rintro _ _ ⟨t76, rfl, rfl⟩;show AI _ _ _ _ _ _ #[true, true, true, true, true, true, true, true, true, true, true, true, true, true, true, true, false, false, false] _;refine zk 16 rfl (aB (av := slE _ _ _) rfl) ?_;show AI _ _ _ _ _ _ #[true, true, true, true, true, true, true, true, true, true, true, true, true, true, true, true, true, false, false] _
    refine zk 17 rfl (asg rfl) ?_;show AI _ _ _ _ _ _ #[true, true, true, true, true, true, true, true, true, true, true, true, true, true, true, true, true, true, false] _;refine zk 18 rfl (asg rfl) ?_;show AI _ _ _ _ _ _ #[true, true, true, true, true, true, true, true, true, true, true, true, true, true, true, true, true, true, true] _;refine bE rfl <| aL ?_;obtain ⟨rfl, rfl, rfl⟩ := rN H;exact And.intro rfl (Exists.intro _ (Exists.intro _ ⟨dy rfl (.tok _ _ _) (.refl _) (.refl _), aI [] rfl, rfl, rfl⟩))
end Go.Proofs.YtjegcifofddgbaaGreatDoor
namespace Go.Pv
def tq : List UInt8 := [116, 101, 120, 116, 47, 112, 108, 97, 105, 110, 59, 32, 99, 104, 97, 114, 115, 101, 116, 61, 117, 116, 102, 45, 56]
def tp : List UInt8 := [116, 101, 120, 116, 47, 104, 116, 109, 108, 59, 32, 99, 104, 97, 114, 115, 101, 116, 61, 117, 116, 102, 45, 56]
def digb_k3 : List UInt8 := [109, 117, 108, 116, 105, 112, 97, 114, 116, 47, 97, 108, 116, 101, 114, 110, 97, 116, 105, 118, 101, 59, 32, 98, 111, 117, 110, 100, 97, 114, 121, 61, 34]
def mn (F : Nat) (a1 : Int) (a2 : Int) : Option ((List UInt8)) :=
grd (okI a1) <|
lt (Go.Lib.itoa a1) fun x5 =>
grd (bt (([68, 105, 103, 101, 115, 116, 32] : List UInt8).length + x5.length)) <|
lt (([68, 105, 103, 101, 115, 116, 32] : List UInt8) ++ x5) fun x8 =>
grd (bt (x8.length + ([58, 32] : List UInt8).length)) <|
lt (x8 ++ ([58, 32] : List UInt8)) fun x11 =>
grd (okI a2) <|
lt (Go.Lib.itoa a2) fun x14 =>
grd (bt (x11.length + x14.length)) <|
lt (x11 ++ x14) fun x17 =>
bif decide (a2 = 1) then
  grd (bt (x17.length + ([32, 101, 110, 116, 114, 121] : List UInt8).length)) <|
  lt (x17 ++ ([32, 101, 110, 116, 114, 121] : List UInt8)) fun x21 =>
  some x21
else
  grd (bt (x17.length + ([32, 101, 110, 116, 114, 105, 101, 115] : List UInt8).length)) <|
  lt (x17 ++ ([32, 101, 110, 116, 114, 105, 101, 115] : List UInt8)) fun x24 =>
  some x24
def pk (F : Nat) (a1 : List UInt8) (a2 : Int) (a3 : Int) (a4 : Int) (a5 : Int) (a6 : List (Int × Int × (List UInt8) × (List UInt8) × (List UInt8) × (List UInt8) × Int)) : Option ((List UInt8) × Int) :=
hC (rf F a2 a3) fun x10 x11 =>
bif !decide (x11 = 0) then
  some ([], x11)
else
  bnd (mo F a1) fun x14 =>
  bif !x14 then
    some ([], 1)
  else
    bif decide ((a6.length : Int) = 0) then
      some ([], 3)
    else
      hC (nu F a4 a5) fun x18 x19 =>
      bif !decide (x19 = 0) then
        some ([], x19)
      else
        bnd (gS F a6) fun x22 =>
        grd (bt x22.length) <|
        bnd (gV F a6) fun x26 =>
        grd (bt x26.length) <|
        bnd3 (oZ F ([tq, tp] : List (List UInt8)) ([x22, x26] : List (List UInt8))) fun x30 x31 x32 =>
        bif !decide (x32 = 0) then
          some ([], x32)
        else
          bnd (mn F a3 (a6.length : Int)) fun x35 =>
          grd (bt (digb_k3.length + x31.length)) <|
          lt (digb_k3 ++ x31) fun x38 =>
          grd (bt (x38.length + ([34] : List UInt8).length)) <|
          lt (x38 ++ ([34] : List UInt8)) fun x41 =>
          hC (lc F ([(([70, 114, 111, 109] : List UInt8), ([100, 105, 103, 101, 115, 116, 64, 109, 97, 105, 108, 99, 111, 97, 99, 104] : List UInt8)), (([84, 111] : List UInt8), a1), (([83, 117, 98, 106, 101, 99, 116] : List UInt8), x35), (([68, 97, 116, 101] : List UInt8), x18), (([77, 101, 115, 115, 97, 103, 101, 45, 73, 68] : List UInt8), x10), (([77, 73, 77, 69, 45, 86, 101, 114, 115, 105, 111, 110] : List UInt8), ([49, 46, 48] : List UInt8)), (([67, 111, 110, 116, 101, 110, 116, 45, 84, 121, 112, 101] : List UInt8), x41)] : List ((List UInt8) × List UInt8))) fun x43 x44 =>
          grd (bt (x43.length + x30.length)) <|
          lt (x43 ++ x30) fun x50 =>
          some (x50, x44)
end Go.Pv
namespace Go.Proofs.YtjegcifofddgbaaGreatDoor
open Go.RowKit Go.Av Go.Pv
theorem yf : ∀ (args : Array Value) (w : World), (callFunc 11 args).run Tryz.prog w = .ok (.enter 11 args) w := fun _ _ => by kernel_rfl
theorem yb : ∀ (args : Array Value) (w : World), (callFunc 17 args).run Tryz.prog w = .ok (.enter 17 args) w := fun _ _ => by kernel_rfl
theorem xX : ∀ (args : Array Value) (w : World), (callFunc 21 args).run Tryz.prog w = .ok (.enter 21 args) w := fun _ _ => by kernel_rfl
theorem xL : ∀ (args : Array Value) (w : World), (callFunc 27 args).run Tryz.prog w = .ok (.enter 27 args) w := fun _ _ => by kernel_rfl
theorem xK : ∀ (args : Array Value) (w : World), (callFunc 28 args).run Tryz.prog w = .ok (.enter 28 args) w := fun _ _ => by kernel_rfl
theorem xJ : ∀ (args : Array Value) (w : World), (callFunc 29 args).run Tryz.prog w = .ok (.enter 29 args) w := fun _ _ => by kernel_rfl
theorem xI : ∀ (args : Array Value) (w : World), (callFunc 30 args).run Tryz.prog w = .ok (.enter 30 args) w := fun _ _ => by kernel_rfl
theorem xH : ∀ (args : Array Value) (w : World), (callFunc 31 args).run Tryz.prog w = .ok (.enter 31 args) w := fun _ _ => by kernel_rfl
theorem sn : ∀ (args : Array Value) (w : World), (callFunc 58 args).run Tryz.prog w = .ok (.enter 58 args) w := fun _ _ => by kernel_rfl
set_option maxRecDepth 100000 in
set_option maxHeartbeats 1000000 in
theorem rz (F : Nat) (a1 : Int) (a2 : Int) (r3 : List UInt8) (H : mn F a1 a2 = some r3) : ACalls Tryz.prog 31 [i64 a1, i64 a2] [] (Ret (S r3) []) := by
 unfold mn at H
 refine ax Tryz.func31 rfl rfl ?_;show AW _ _ 19 _ _ _;refine af <| aa ?_;show AR _ _ _ _ _ [0] _;refine za rfl <| ag <| af ?_;obtain ⟨g4, H⟩ := ay H;obtain ⟨x5, e6, H⟩ := bg H;obtain ⟨g7, H⟩ := ay H;obtain ⟨x8, e9, H⟩ := bg H;obtain ⟨g10, H⟩ := ay H;obtain ⟨x11, e12, H⟩ := bg H;obtain ⟨g13, H⟩ := ay H;obtain ⟨x14, e15, H⟩ := bg H;obtain ⟨g16, H⟩ := ay H;obtain ⟨x17, e18, H⟩ := bg H;refine aa ?_;show AR _ _ _ _ _ [0, 1, 2, 3, 4, 5, 6, 7] _;refine zm rfl <| aq rfl rfl (aD rfl sn rfl (show ACalls _ _ _ [] (Ret (S x5) []) from by subst e6; exact iC a1 (nP g4)) ?_);refine zS rfl (cg rfl rfl g7 e9) <| zS rfl (cg rfl rfl g10 e12) <| zm rfl <| aq rfl rfl (aD rfl sn rfl (show ACalls _ _ _ [] (Ret (S x14) []) from by subst e15; exact iC a2 (nP g13)) ?_);refine zS rfl (cg rfl rfl g16 e18) <| za rfl <| ag <| af <| af <| aa ?_;show AR _ _ _ _ _ [0, 1] _;refine zm rfl <| zS rfl (cJ rfl rfl) <| ag <| az rfl (fun c19 => ?_) (fun c19 => ?_)
 ·replace H := aZ c19 H;refine af ?_;obtain ⟨g20, H⟩ := ay H;obtain ⟨x21, e22, H⟩ := bg H;refine aa ?_;show AR _ _ _ _ _ [0, 1, 2] _;refine zm rfl <| zS rfl (cg rfl rfl g20 e22) <| za rfl <| ag <| aL ?_;obtain rfl := ap H;exact And.intro rfl (Exists.intro _ (Exists.intro _ ⟨aH rfl (.refl _), aI [] rfl, rfl, rfl⟩))
 ·replace H := ba c19 H;refine aC <| af ?_;obtain ⟨g23, H⟩ := ay H;obtain ⟨x24, e25, H⟩ := bg H;refine aa ?_;show AR _ _ _ _ _ [0, 1, 2] _;refine zm rfl <| zS rfl (cg rfl rfl g23 e25) <| za rfl <| ag <| aL ?_;obtain rfl := ap H;exact And.intro rfl (Exists.intro _ (Exists.intro _ ⟨aH rfl (.refl _), aI [] rfl, rfl, rfl⟩))
set_option maxRecDepth 100000 in
set_option maxHeartbeats 1000000 in
theorem tU (F : Nat) (a1 : List UInt8) (a2 : Int) (a3 : Int) (a4 : Int) (a5 : Int) (a6 : List (Int × Int × (List UInt8) × (List UInt8) × (List UInt8) × (List UInt8) × Int)) (q7 : Option Nat) (r8 : List UInt8) (r9 : Int) (H : pk F a1 a2 a3 a4 a5 a6 = some (r8, r9)) : ACalls Tryz.prog 13 [S a1, i64 a2, i64 a3, i64 a4, i64 a5, slE (Enc.prod Enc.int (Enc.prod Enc.int (Enc.prod Enc.str (Enc.prod Enc.str (Enc.prod Enc.str (Enc.prod Enc.str Enc.int)))))) a6 q7] [] (Ret (.tup [slE Enc.byte r8 none, i64 r9]) []) := by
 unfold pk at H
 refine ax Tryz.func13 rfl rfl ?_;show AW _ _ 89 _ _ _;refine af <| aa ?_;show AR _ _ _ _ _ [0, 1] _;refine za rfl <| za rfl <| ag <| af ?_;obtain ⟨x10, x11, e12, H⟩ := cZ H;refine aa ?_;show AR _ _ _ _ _ [0, 1, 2, 3, 4, 5, 6, 7] _;refine zm rfl <| zm rfl <| aq rfl rfl (aD rfl xX rfl (qO F a2 a3 x10 x11 e12) ?_);refine zS rfl (aj (av := .tup _) rfl) <| zS rfl (aF (av := .v _) rfl rfl) <| zS rfl (aF (av := .v _) rfl rfl) <| za rfl <| za rfl <| ag <| af <| aO <| af <| aa ?_;show AR _ _ _ _ _ [0, 1, 2] _;refine zm rfl <| zS rfl (dg rfl rfl) <| za rfl <| ag <| az rfl (fun c13 => ?_) (fun c13 => ?_)
 ·replace H := aZ c13 H;refine af <| aa ?_;show AR _ _ _ _ _ [0, 1, 2] _;refine zm rfl <| za rfl <| za rfl <| ag <| aL ?_;obtain ⟨rfl, rfl⟩ := dh H;exact And.intro rfl (Exists.intro _ (Exists.intro _ ⟨be rfl (.nil _) (.refl _), aI [] rfl, rfl, rfl⟩))
 ·replace H := ba c13 H;refine af ?_;obtain ⟨x14, e15, H⟩ := bK H;refine aa ?_;show AR _ _ _ _ _ [0, 1, 2, 3] _;refine zm rfl <| aq rfl rfl (aD rfl xL rfl (rA F a1 x14 e15) ?_);refine zS rfl (cx rfl) <| za rfl <| ag <| az rfl (fun c16 => ?_) (fun c16 => ?_)
  ·replace H := aZ c16 H;refine af <| aa ?_;show AR _ _ _ _ _ [0, 1] _;refine za rfl <| za rfl <| ag <| aL ?_;obtain ⟨rfl, rfl⟩ := dh H;exact And.intro rfl (Exists.intro _ (Exists.intro _ ⟨be rfl (.nil _) (.refl _), aI [] rfl, rfl, rfl⟩))
  ·replace H := ba c16 H;refine af <| aa ?_;show AR _ _ _ _ _ [0, 1, 2, 3] _;refine zS rfl (aj (av := slE _ _ _) rfl) <| zS rfl (aQ bm rfl) <| zS rfl (cJ rfl rfl) <| za rfl <| ag <| az rfl (fun c17 => ?_) (fun c17 => ?_)
   ·replace H := aZ c17 H;refine af <| aa ?_;show AR _ _ _ _ _ [0, 1] _;refine za rfl <| za rfl <| ag <| aL ?_;obtain ⟨rfl, rfl⟩ := dh H;exact And.intro rfl (Exists.intro _ (Exists.intro _ ⟨be rfl (.nil _) (.refl _), aI [] rfl, rfl, rfl⟩))
   ·replace H := ba c17 H;refine aC <| af ?_;obtain ⟨x18, x19, e20, H⟩ := cZ H;refine aa ?_;show AR _ _ _ _ _ [0, 1, 2, 3, 4, 5, 6, 7] _;refine zm rfl <| zm rfl <| aq rfl rfl (aD rfl xK rfl (sF F a4 a5 x18 x19 e20) ?_);refine zS rfl (aj (av := .tup _) rfl) <| zS rfl (aF (av := .v _) rfl rfl) <| zS rfl (aF (av := .v _) rfl rfl) <| za rfl <| za rfl <| ag <| af <| af <| aa ?_;show AR _ _ _ _ _ [0, 1] _;refine zm rfl <| zS rfl (dg rfl rfl) <| ag <| az rfl (fun c21 => ?_) (fun c21 => ?_)
    ·replace H := aZ c21 H;refine af <| aa ?_;show AR _ _ _ _ _ [0, 1, 2] _;refine zm rfl <| za rfl <| za rfl <| ag <| aL ?_;obtain ⟨rfl, rfl⟩ := dh H;exact And.intro rfl (Exists.intro _ (Exists.intro _ ⟨be rfl (.nil _) (.refl _), aI [] rfl, rfl, rfl⟩))
    ·replace H := ba c21 H;refine aC <| af ?_;obtain ⟨x22, e23, H⟩ := bK H;obtain ⟨g24, H⟩ := ay H;obtain ⟨x26, e27, H⟩ := bK H;obtain ⟨g28, H⟩ := ay H;obtain ⟨x30, x31, x32, e33, H⟩ := bnd3_s H;refine aa ?_;show AR _ _ _ _ _ [0, 1, 2, 3, 4, 5, 6, 7, 8, 9, 10, 11, 12, 13, 14, 15] _;refine zR rfl (bQ (E := Enc.str) (bytes := 16) (xs := [.const _, .const _]) (l := ([tq, tp] : List (List UInt8))) ao (by kernel_rfl) rfl rfl (by decide) rfl rfl) <| zS rfl (aj (av := slE _ _ _) rfl) <| aq rfl rfl (aD rfl yb rfl (jQ F a6 q7 x22 e23) ?_);refine zX rfl (cy (bytes := 1) ab ac aY rfl g24) ?_;rintro _ _ ⟨t25, rfl, rfl⟩;refine zS rfl (aj (av := slE _ _ _) rfl) <| aq rfl rfl (aD rfl yf rfl (jR F a6 q7 x26 e27) ?_);refine zX rfl (cy (bytes := 1) ab ac aY rfl g28) ?_;rintro _ _ ⟨t29, rfl, rfl⟩;refine zR rfl (sC 51 (.tok _ _ _) <| sC 54 (.tok _ _ _) <| bQ (E := (Enc.sl Enc.byte)) (bytes := 24) (xs := [.tmp 51, .tmp 54]) (l := ([x22, x26] : List (List UInt8))) bL (by kernel_rfl) rfl rfl (by decide) rfl rfl) <| aq rfl rfl (aD rfl xJ rfl (tH F ([tq, tp] : List (List UInt8)) none ([x22, x26] : List (List UInt8)) none x30 x31 x32 e33) ?_)
     refine zS rfl (aj (av := .tup _) rfl) <| zS rfl (aF (av := slE _ _ _) rfl rfl) <| zS rfl (aF (av := .v _) rfl rfl) <| zS rfl (aF (av := .v _) rfl rfl) <| zS rfl (aB (av := slE _ _ _) rfl) <| za rfl <| za rfl <| ag <| af <| af <| aa ?_;show AR _ _ _ _ _ [0, 1] _;refine zm rfl <| zS rfl (dg rfl rfl) <| ag <| az rfl (fun c34 => ?_) (fun c34 => ?_)
     ·replace H := aZ c34 H;refine af <| aa ?_;show AR _ _ _ _ _ [0, 1, 2] _;refine zm rfl <| za rfl <| za rfl <| ag <| aL ?_;obtain ⟨rfl, rfl⟩ := dh H;exact And.intro rfl (Exists.intro _ (Exists.intro _ ⟨be rfl (.nil _) (.refl _), aI [] rfl, rfl, rfl⟩))
     ·replace H := ba c34 H;refine aC <| af ?_;obtain ⟨x35, e36, H⟩ := bK H;obtain ⟨g37, H⟩ := ay H;obtain ⟨x38, e39, H⟩ := bg H;obtain ⟨g40, H⟩ := ay H;obtain ⟨x41, e42, H⟩ := bg H;obtain ⟨x43, x44, e45, H⟩ := cZ H;refine aa ?_;show AR _ _ _ _ _ [0, 1, 2, 3, 4, 5, 6, 7, 8, 9, 10, 11, 12, 13, 14, 15, 16, 17, 18, 19, 20, 21, 22, 23] _;refine zS rfl (du (zs := [.string ⟨#[]⟩, .string ⟨#[]⟩]) (ps := [(0, 1), (1, 1)]) (cs := [S ([70, 114, 111, 109] : List UInt8), S ([100, 105, 103, 101, 115, 116, 64, 109, 97, 105, 108, 99, 111, 97, 99, 104] : List UInt8)]) (by kernel_rfl) rfl rfl) <| zm rfl <| zS rfl (du (zs := [.string ⟨#[]⟩, .string ⟨#[]⟩]) (ps := [(0, 1), (1, 1)]) (cs := [S ([84, 111] : List UInt8), S a1]) (by kernel_rfl) rfl rfl) <| zm rfl <| zS rfl (aj (av := slE _ _ _) rfl) <| zS rfl (aQ bm rfl) <| aq rfl rfl (aD rfl xH rfl (rz F a3 (a6.length : Int) x35 e36) ?_)
      refine zS rfl (du (zs := [.string ⟨#[]⟩, .string ⟨#[]⟩]) (ps := [(0, 1), (1, 1)]) (cs := [S ([83, 117, 98, 106, 101, 99, 116] : List UInt8), S x35]) (by kernel_rfl) rfl rfl) <| zm rfl <| zS rfl (du (zs := [.string ⟨#[]⟩, .string ⟨#[]⟩]) (ps := [(0, 1), (1, 1)]) (cs := [S ([68, 97, 116, 101] : List UInt8), S x18]) (by kernel_rfl) rfl rfl) <| zm rfl <| zS rfl (du (zs := [.string ⟨#[]⟩, .string ⟨#[]⟩]) (ps := [(0, 1), (1, 1)]) (cs := [S ([77, 101, 115, 115, 97, 103, 101, 45, 73, 68] : List UInt8), S x10]) (by kernel_rfl) rfl rfl) <| zS rfl (du (zs := [.string ⟨#[]⟩, .string ⟨#[]⟩]) (ps := [(0, 1), (1, 1)]) (cs := [S ([77, 73, 77, 69, 45, 86, 101, 114, 115, 105, 111, 110] : List UInt8), S ([49, 46, 48] : List UInt8)]) (by kernel_rfl) rfl rfl) <| zm rfl <| zS rfl (cg rfl rfl g37 e39) <| zS rfl (cg rfl rfl g40 e42) <| zS rfl (du (zs := [.string ⟨#[]⟩, .string ⟨#[]⟩]) (ps := [(0, 1), (1, 1)]) (cs := [S ([67, 111, 110, 116, 101, 110, 116, 45, 84, 121, 112, 101] : List UInt8), S x41]) (by kernel_rfl) rfl rfl) <| zR rfl (jo (E := (Enc.prod Enc.str Enc.str)) (bytes := 32) (zs := [.string ⟨#[]⟩, .string ⟨#[]⟩]) (l := ([(([70, 114, 111, 109] : List UInt8), ([100, 105, 103, 101, 115, 116, 64, 109, 97, 105, 108, 99, 111, 97, 99, 104] : List UInt8)), (([84, 111] : List UInt8), a1), (([83, 117, 98, 106, 101, 99, 116] : List UInt8), x35), (([68, 97, 116, 101] : List UInt8), x18), (([77, 101, 115, 115, 97, 103, 101, 45, 73, 68] : List UInt8), x10), (([77, 73, 77, 69, 45, 86, 101, 114, 115, 105, 111, 110] : List UInt8), ([49, 46, 48] : List UInt8)), (([67, 111, 110, 116, 101, 110, 116, 45, 84, 121, 112, 101] : List UInt8), x41)] : List ((List UInt8) × List UInt8))) ep (by kernel_rfl) (by kernel_rfl) rfl rfl rfl rfl rfl) <| aq rfl rfl (bI [] rfl xI rfl (tL F ([(([70, 114, 111, 109] : List UInt8), ([100, 105, 103, 101, 115, 116, 64, 109, 97, 105, 108, 99, 111, 97, 99, 104] : List UInt8)), (([84, 111] : List UInt8), a1), (([83, 117, 98, 106, 101, 99, 116] : List UInt8), x35), (([68, 97, 116, 101] : List UInt8), x18), (([77, 101, 115, 115, 97, 103, 101, 45, 73, 68] : List UInt8), x10), (([77, 73, 77, 69, 45, 86, 101, 114, 115, 105, 111, 110] : List UInt8), ([49, 46, 48] : List UInt8)), (([67, 111, 110, 116, 101, 110, 116, 45, 84, 121, 112, 101] : List UInt8), x41)] : List ((List UInt8) × List UInt8)) none x43 x44 e45) rfl (fun c A' h => by obtain ⟨_, _, h, _⟩ := h; cases h) ?_)
      rintro av A' ⟨t46, c47, h, rfl, hc47⟩; cases h
      refine zS rfl (aj (av := .tup _) rfl) <| zS rfl (aF (av := slE _ _ _) rfl rfl) <| zS rfl (aF (av := .v _) rfl rfl) <| zS rfl (aB (av := slE _ _ _) rfl) <| za rfl <| ag <| af ?_;obtain ⟨g49, H⟩ := ay H;obtain ⟨x50, e51, H⟩ := bg H;refine aa ?_;show AR _ _ _ _ _ [0, 1, 2, 3, 4, 5] _;refine zS rfl (aj (av := slE _ _ _) rfl) <| zS rfl (aj (av := slE _ _ _) rfl) <| zX rfl (xq (E := Enc.byte) (bytes := 1) 0 hc47 ac ac rfl (by kernel_rfl) rfl rfl rfl rfl g49 e51) ?_;rintro _ _ ⟨t48, c52, hc52, rfl, rfl⟩;refine zm rfl <| zS rfl (aB (av := slE _ _ _) rfl) <| za rfl <| ag <| aL ?_;obtain ⟨rfl, rfl⟩ := dh H;exact And.intro rfl (Exists.intro _ (Exists.intro _ ⟨be rfl (.tok _ _ _) (.refl _), aI [] rfl, rfl, rfl⟩))
end Go.Proofs.YtjegcifofddgbaaGreatDoor
namespace Go.Pv
def wQ : List UInt8 := [60, 117, 108, 62, 10, 60, 108, 105, 62, 60, 97, 32, 104, 114, 101, 102, 61, 34, 117, 34, 62, 84, 60, 47, 97, 62, 60, 47, 108, 105, 62, 10, 60, 47, 117, 108, 62, 10]
def iD (F : Nat) : Option Bool :=
hC (rf F 3 12) fun x2 x3 =>
bnd3 (pj F ([60, 49, 50, 46, 51, 64, 109, 97, 105, 108, 99, 111, 97, 99, 104, 62] : List UInt8)) fun x5 x6 x7 =>
hC (pk F ([97, 64, 98] : List UInt8) 1 1 0 0 ([(0, 0, (([] : List UInt8), ([84] : List UInt8), ([117] : List UInt8), ([60, 112, 62, 120] : List UInt8), 0))] : List (Int × Int × (List UInt8) × (List UInt8) × (List UInt8) × (List UInt8) × Int))) fun x9 x10 =>
kN ((((((decide (x3 = 0)) && (decide (x7 = 0))) && (decide (x10 = 0))) && (decide (x2 = ([60, 49, 50, 46, 51, 64, 109, 97, 105, 108, 99, 111, 97, 99, 104, 62] : List UInt8)))) && (decide (x5 = 3))) && (decide (x6 = 12))) (gS F ([(0, 0, (([] : List UInt8), ([84] : List UInt8), ([117] : List UInt8), ([60, 112, 62, 120] : List UInt8), 0))] : List (Int × Int × (List UInt8) × (List UInt8) × (List UInt8) × (List UInt8) × Int))) fun x18 =>
kN (((((((decide (x3 = 0)) && (decide (x7 = 0))) && (decide (x10 = 0))) && (decide (x2 = ([60, 49, 50, 46, 51, 64, 109, 97, 105, 108, 99, 111, 97, 99, 104, 62] : List UInt8)))) && (decide (x5 = 3))) && (decide (x6 = 12))) && (decide (x18 = ([84, 10, 117, 10, 120, 10, 10] : List UInt8)))) (gV F ([(0, 0, (([] : List UInt8), ([84] : List UInt8), ([117] : List UInt8), ([60, 112, 62, 120] : List UInt8), 0))] : List (Int × Int × (List UInt8) × (List UInt8) × (List UInt8) × (List UInt8) × Int))) fun x21 =>
some ((((((((decide (x3 = 0)) && (decide (x7 = 0))) && (decide (x10 = 0))) && (decide (x2 = ([60, 49, 50, 46, 51, 64, 109, 97, 105, 108, 99, 111, 97, 99, 104, 62] : List UInt8)))) && (decide (x5 = 3))) && (decide (x6 = 12))) && (decide (x18 = ([84, 10, 117, 10, 120, 10, 10] : List UInt8)))) && (decide (x21 = wQ)))
def jh : Option Bool :=
some true
def gK (a1 : List (Int × Int × (List UInt8) × (List UInt8) × (List UInt8) × (List UInt8) × Int)) (rec7 : Int → Option Bool) (y6 : Int) : Option Bool :=
bif decide (y6 < (a1.length : Int)) then
  grd (cD y6 a1.length) <|
  lt (at_ a1 y6) fun x11 =>
  bif (((decide (300 < (x11.2.2.1.length : Int))) || (decide (300 < (x11.2.2.2.1.length : Int)))) || (decide (300 < (x11.2.2.2.2.1.length : Int)))) || (decide (300 < (x11.2.2.2.2.2.1.length : Int))) then
    some false
  else
    grd (okI (y6 + 1)) <|
    rec7 (y6 + 1)
else
  jh
def gJ (a1 : List (Int × Int × (List UInt8) × (List UInt8) × (List UInt8) × (List UInt8) × Int)) (n : Nat) : Int → Option Bool :=
  loop (fun rec x => gK a1 rec x) n
def gw (F : Nat) (a1 : List (Int × Int × (List UInt8) × (List UInt8) × (List UInt8) × (List UInt8) × Int)) (a3 : Int) : Option Bool :=
bif decide (a3 < (a1.length : Int)) then
  some false
else
  gJ a1 F 0
end Go.Pv
namespace Go.Proofs.YtjegcifofddgbaaGreatDoor
open Go.RowKit Go.Av Go.Pv
theorem ye : ∀ (args : Array Value) (w : World), (callFunc 11 args).run Tryz.prog w = .ok (.enter 11 args) w := fun _ _ => by kernel_rfl
theorem yd : ∀ (args : Array Value) (w : World), (callFunc 13 args).run Tryz.prog w = .ok (.enter 13 args) w := fun _ _ => by kernel_rfl
theorem yc : ∀ (args : Array Value) (w : World), (callFunc 15 args).run Tryz.prog w = .ok (.enter 15 args) w := fun _ _ => by kernel_rfl
theorem ya : ∀ (args : Array Value) (w : World), (callFunc 17 args).run Tryz.prog w = .ok (.enter 17 args) w := fun _ _ => by kernel_rfl
theorem xW : ∀ (args : Array Value) (w : World), (callFunc 21 args).run Tryz.prog w = .ok (.enter 21 args) w := fun _ _ => by kernel_rfl
set_option maxRecDepth 100000 in
set_option maxHeartbeats 1000000 in
theorem rq (F : Nat) (r1 : Bool) (H : iD F = some r1) : ACalls Tryz.prog 9 [] [] (Ret (B r1) []) := by
 unfold iD at H
 refine ax Tryz.func9 rfl rfl ?_;show AW _ _ 58 _ _ _;refine af <| aa ?_;show AR _ _ _ _ _ [0] _;refine za rfl <| ag <| af ?_;obtain ⟨x2, x3, e4, H⟩ := cZ H;refine aa ?_;show AR _ _ _ _ _ [0, 1, 2, 3, 4, 5] _;refine aq rfl rfl (aD rfl xW rfl (qO F 3 12 x2 x3 e4) ?_);refine zS rfl (aj (av := .tup _) rfl) <| zS rfl (aF (av := .v _) rfl rfl) <| zS rfl (aF (av := .v _) rfl rfl) <| za rfl <| za rfl <| ag <| af ?_;obtain ⟨x5, x6, x7, e8, H⟩ := bnd3_s H;refine aa ?_;show AR _ _ _ _ _ [0, 1, 2, 3, 4, 5, 6, 7] _;refine aq rfl rfl (aD rfl yc rfl (tS F ([60, 49, 50, 46, 51, 64, 109, 97, 105, 108, 99, 111, 97, 99, 104, 62] : List UInt8) x5 x6 x7 e8) ?_);refine zS rfl (aj (av := .tup _) rfl) <| zS rfl (aF (av := .v _) rfl rfl) <| zS rfl (aF (av := .v _) rfl rfl) <| zS rfl (aF (av := .v _) rfl rfl) <| za rfl <| za rfl <| za rfl <| ag <| af <| aa ?_;show AR _ _ _ _ _ [0, 1, 2, 3] _
 refine zS rfl (du (zs := [.string ⟨#[]⟩, .string ⟨#[]⟩, .string ⟨#[]⟩, .string ⟨#[]⟩, .int .i64 0]) (ps := [(0, 1), (1, 1), (2, 1), (3, 1), (4, 1)]) (cs := [S ([] : List UInt8), S ([84] : List UInt8), S ([117] : List UInt8), S ([60, 112, 62, 120] : List UInt8), i64 0]) (by kernel_rfl) rfl rfl) <| zS rfl (du (zs := [.int .i64 0, .int .i64 0, .string ⟨#[]⟩, .string ⟨#[]⟩, .string ⟨#[]⟩, .string ⟨#[]⟩, .int .i64 0]) (ps := [(0, 1), (1, 1), (2, 5)]) (cs := [i64 0, i64 0, S ([] : List UInt8), S ([84] : List UInt8), S ([117] : List UInt8), S ([60, 112, 62, 120] : List UInt8), i64 0]) (by kernel_rfl) rfl rfl) <| zR rfl (jo (E := (Enc.prod Enc.int (Enc.prod Enc.int (Enc.prod Enc.str (Enc.prod Enc.str (Enc.prod Enc.str (Enc.prod Enc.str Enc.int))))))) (bytes := 88) (zs := [.int .i64 0, .int .i64 0, .string ⟨#[]⟩, .string ⟨#[]⟩, .string ⟨#[]⟩, .string ⟨#[]⟩, .int .i64 0]) (l := ([(0, 0, (([] : List UInt8), ([84] : List UInt8), ([117] : List UInt8), ([60, 112, 62, 120] : List UInt8), 0))] : List (Int × Int × (List UInt8) × (List UInt8) × (List UInt8) × (List UInt8) × Int))) bm (by kernel_rfl) (by kernel_rfl) rfl rfl rfl rfl rfl) <| zS rfl (aB (av := slE _ _ _) rfl) <| ag <| af ?_;obtain ⟨x9, x10, e11, H⟩ := cZ H;refine aa ?_;show AR _ _ _ _ _ [0, 1, 2, 3, 4, 5, 6] _
 refine zS rfl (aj (av := slE _ _ _) rfl) <| aq rfl rfl (aD rfl yd rfl (tU F ([97, 64, 98] : List UInt8) 1 1 0 0 ([(0, 0, (([] : List UInt8), ([84] : List UInt8), ([117] : List UInt8), ([60, 112, 62, 120] : List UInt8), 0))] : List (Int × Int × (List UInt8) × (List UInt8) × (List UInt8) × (List UInt8) × Int)) none x9 x10 e11) ?_);refine zS rfl (aj (av := .tup _) rfl) <| zS rfl (aF (av := slE _ _ _) rfl rfl) <| zS rfl (aF (av := .v _) rfl rfl) <| zS rfl (aB (av := slE _ _ _) rfl) <| za rfl <| ag <| af ?_;obtain ⟨x18, e19, H⟩ := ft H;obtain ⟨x21, e22, H⟩ := ft H;refine aa ?_;show AR _ _ _ _ _ [0, 1, 2, 3, 4, 5, 6, 7, 8, 9, 10, 11, 12, 13, 14, 15, 16, 17, 18, 19, 20, 21, 22, 23, 24, 25, 26, 27, 28, 29, 30, 31, 32] _;refine zm rfl <| zS rfl (cJ rfl rfl) <| zm rfl <| bb (l := [6, 7, 8, 9, 10, 11, 12, 13, 14, 15, 16, 17, 18, 19, 20, 21, 22, 23, 24, 25, 26, 27, 28, 29, 30, 31, 32]) 31 (B ((decide (x3 = 0)) && (decide (x7 = 0)))) (fun K => ?_) ?_
 ·rcases ak (decide (x3 = 0)) with h12 | h12
  ·refine zM h12 rfl <| zU h12 rfl (cJ rfl rfl) <| zS rfl (aG (av := .v _) rfl h12 rfl) ?_;exact K _ 2 _ (aA (cz h12)) rfl rfl
  ·refine zF h12 rfl <| zF h12 rfl <| zS rfl (aE (av := .v _) rfl h12 rfl) ?_;exact K _ 2 _ (aA (cA h12)) rfl rfl
 refine zm rfl <| bb (l := [10, 11, 12, 13, 14, 15, 16, 17, 18, 19, 20, 21, 22, 23, 24, 25, 26, 27, 28, 29, 30, 31, 32]) 35 (B (((decide (x3 = 0)) && (decide (x7 = 0))) && (decide (x10 = 0)))) (fun K => ?_) ?_
 ·rcases ak ((decide (x3 = 0)) && (decide (x7 = 0))) with h13 | h13
  ·refine zM h13 rfl <| zU h13 rfl (cJ rfl rfl) <| zS rfl (aG (av := .v _) rfl h13 rfl) ?_;exact K _ 2 _ (aA (cz h13)) rfl rfl
  ·refine zF h13 rfl <| zF h13 rfl <| zS rfl (aE (av := .v _) rfl h13 rfl) ?_;exact K _ 2 _ (aA (cA h13)) rfl rfl
 refine zm rfl <| bb (l := [14, 15, 16, 17, 18, 19, 20, 21, 22, 23, 24, 25, 26, 27, 28, 29, 30, 31, 32]) 39 (B ((((decide (x3 = 0)) && (decide (x7 = 0))) && (decide (x10 = 0))) && (decide (x2 = ([60, 49, 50, 46, 51, 64, 109, 97, 105, 108, 99, 111, 97, 99, 104, 62] : List UInt8))))) (fun K => ?_) ?_
 ·rcases ak (((decide (x3 = 0)) && (decide (x7 = 0))) && (decide (x10 = 0))) with h14 | h14
  ·refine zM h14 rfl <| zU h14 rfl (eU rfl rfl) <| zS rfl (aG (av := .v _) rfl h14 rfl) ?_;exact K _ 2 _ (aA (cz h14)) rfl rfl
  ·refine zF h14 rfl <| zF h14 rfl <| zS rfl (aE (av := .v _) rfl h14 rfl) ?_;exact K _ 2 _ (aA (cA h14)) rfl rfl
 refine zm rfl <| bb (l := [18, 19, 20, 21, 22, 23, 24, 25, 26, 27, 28, 29, 30, 31, 32]) 43 (B (((((decide (x3 = 0)) && (decide (x7 = 0))) && (decide (x10 = 0))) && (decide (x2 = ([60, 49, 50, 46, 51, 64, 109, 97, 105, 108, 99, 111, 97, 99, 104, 62] : List UInt8)))) && (decide (x5 = 3)))) (fun K => ?_) ?_
 ·rcases ak ((((decide (x3 = 0)) && (decide (x7 = 0))) && (decide (x10 = 0))) && (decide (x2 = ([60, 49, 50, 46, 51, 64, 109, 97, 105, 108, 99, 111, 97, 99, 104, 62] : List UInt8)))) with h15 | h15
  ·refine zM h15 rfl <| zU h15 rfl (cJ rfl rfl) <| zS rfl (aG (av := .v _) rfl h15 rfl) ?_;exact K _ 2 _ (aA (cz h15)) rfl rfl
  ·refine zF h15 rfl <| zF h15 rfl <| zS rfl (aE (av := .v _) rfl h15 rfl) ?_;exact K _ 2 _ (aA (cA h15)) rfl rfl
 refine zm rfl <| bb (l := [22, 23, 24, 25, 26, 27, 28, 29, 30, 31, 32]) 47 (B ((((((decide (x3 = 0)) && (decide (x7 = 0))) && (decide (x10 = 0))) && (decide (x2 = ([60, 49, 50, 46, 51, 64, 109, 97, 105, 108, 99, 111, 97, 99, 104, 62] : List UInt8)))) && (decide (x5 = 3))) && (decide (x6 = 12)))) (fun K => ?_) ?_
 ·rcases ak (((((decide (x3 = 0)) && (decide (x7 = 0))) && (decide (x10 = 0))) && (decide (x2 = ([60, 49, 50, 46, 51, 64, 109, 97, 105, 108, 99, 111, 97, 99, 104, 62] : List UInt8)))) && (decide (x5 = 3))) with h16 | h16
  ·refine zM h16 rfl <| zU h16 rfl (cJ rfl rfl) <| zS rfl (aG (av := .v _) rfl h16 rfl) ?_;exact K _ 2 _ (aA (cz h16)) rfl rfl
  ·refine zF h16 rfl <| zF h16 rfl <| zS rfl (aE (av := .v _) rfl h16 rfl) ?_;exact K _ 2 _ (aA (cA h16)) rfl rfl
 refine zm rfl <| bb (l := [27, 28, 29, 30, 31, 32]) 52 (B (((((((decide (x3 = 0)) && (decide (x7 = 0))) && (decide (x10 = 0))) && (decide (x2 = ([60, 49, 50, 46, 51, 64, 109, 97, 105, 108, 99, 111, 97, 99, 104, 62] : List UInt8)))) && (decide (x5 = 3))) && (decide (x6 = 12))) && (decide (x18 = ([84, 10, 117, 10, 120, 10, 10] : List UInt8))))) (fun K => ?_) ?_
 ·rcases ak ((((((decide (x3 = 0)) && (decide (x7 = 0))) && (decide (x10 = 0))) && (decide (x2 = ([60, 49, 50, 46, 51, 64, 109, 97, 105, 108, 99, 111, 97, 99, 104, 62] : List UInt8)))) && (decide (x5 = 3))) && (decide (x6 = 12))) with h17 | h17
  ·refine zU h17 rfl (aj (av := slE _ _ _) rfl) <| zT h17 rfl (aD rfl ya rfl (jQ F ([(0, 0, (([] : List UInt8), ([84] : List UInt8), ([117] : List UInt8), ([60, 112, 62, 120] : List UInt8), 0))] : List (Int × Int × (List UInt8) × (List UInt8) × (List UInt8) × (List UInt8) × Int)) none x18 (e19 h17)) ?_);refine zU h17 rfl (eU rfl rfl) <| zS rfl (aG (av := .v _) rfl h17 rfl) ?_;exact K _ 3 _ (aA (cz h17)) rfl rfl
  ·refine zF h17 rfl <| zF h17 rfl <| zF h17 rfl <| zS rfl (aE (av := .v _) rfl h17 rfl) ?_;exact K _ 3 _ (aA (cA h17)) rfl rfl
 refine zm rfl <| bb (l := [32]) 57 (B ((((((((decide (x3 = 0)) && (decide (x7 = 0))) && (decide (x10 = 0))) && (decide (x2 = ([60, 49, 50, 46, 51, 64, 109, 97, 105, 108, 99, 111, 97, 99, 104, 62] : List UInt8)))) && (decide (x5 = 3))) && (decide (x6 = 12))) && (decide (x18 = ([84, 10, 117, 10, 120, 10, 10] : List UInt8)))) && (decide (x21 = wQ)))) (fun K => ?_) ?_
 ·rcases ak (((((((decide (x3 = 0)) && (decide (x7 = 0))) && (decide (x10 = 0))) && (decide (x2 = ([60, 49, 50, 46, 51, 64, 109, 97, 105, 108, 99, 111, 97, 99, 104, 62] : List UInt8)))) && (decide (x5 = 3))) && (decide (x6 = 12))) && (decide (x18 = ([84, 10, 117, 10, 120, 10, 10] : List UInt8)))) with h20 | h20
  ·refine zU h20 rfl (aj (av := slE _ _ _) rfl) <| zT h20 rfl (aD rfl ye rfl (jR F ([(0, 0, (([] : List UInt8), ([84] : List UInt8), ([117] : List UInt8), ([60, 112, 62, 120] : List UInt8), 0))] : List (Int × Int × (List UInt8) × (List UInt8) × (List UInt8) × (List UInt8) × Int)) none x21 (e22 h20)) ?_);refine zU h20 rfl (eU rfl rfl) <| zS rfl (aG (av := .v _) rfl h20 rfl) ?_;exact K _ 3 _ (aA (cz h20)) rfl rfl
  ·refine zF h20 rfl <| zF h20 rfl <| zF h20 rfl <| zS rfl (aE (av := .v _) rfl h20 rfl) ?_;exact K _ 3 _ (aA (cA h20)) rfl rfl
 refine za rfl <| ag <| aL ?_;obtain rfl := ap H;exact And.intro rfl (Exists.intro _ (Exists.intro _ ⟨aH rfl (.refl _), aI [] rfl, rfl, rfl⟩))
set_option maxRecDepth 100000 in
set_option maxHeartbeats 1000000 in
theorem po (F : Nat) (a1 : List (Int × Int × (List UInt8) × (List UInt8) × (List UInt8) × (List UInt8) × Int)) (q2 : Option Nat) (a3 : Int) (r4 : Bool) (H : gw F a1 a3 = some r4) : ACalls Tryz.prog 10 [slE (Enc.prod Enc.int (Enc.prod Enc.int (Enc.prod Enc.str (Enc.prod Enc.str (Enc.prod Enc.str (Enc.prod Enc.str Enc.int)))))) a1 q2, i64 a3] [] (Ret (B r4) []) := by
 unfold gw at H
 refine ax Tryz.func10 rfl rfl ?_;show AW _ _ 44 _ _ _;refine af <| aa ?_;show AR _ _ _ _ _ [0] _;refine za rfl <| ag <| af <| af <| aa ?_;show AR _ _ _ _ _ [0, 1, 2, 3] _;refine zS rfl (aj (av := slE _ _ _) rfl) <| zS rfl (aQ bm rfl) <| zm rfl <| zS rfl (cS rfl rfl) <| ag <| az rfl (fun c5 => ?_) (fun c5 => ?_)
 ·replace H := aZ c5 H;refine af <| aa ?_;show AR _ _ _ _ _ [0] _;refine za rfl <| ag <| aL ?_;obtain rfl := ap H;exact And.intro rfl (Exists.intro _ (Exists.intro _ ⟨aH rfl (.refl _), aI [] rfl, rfl, rfl⟩))
 ·replace H := ba c5 H;refine aC <| bk (X := Unit) (fun _ => ⟨[], [], []⟩) (fun _ => jh = some r4) ?_ ?_
  ·refine af <| aa ?_;show AR _ _ _ _ _ [0] _;refine za rfl <| ag <| aO <| cl (X := Nat × Int) (fun (n8, y6) => ⟨[(0, slE (Enc.prod Enc.int (Enc.prod Enc.int (Enc.prod Enc.str (Enc.prod Enc.str (Enc.prod Enc.str (Enc.prod Enc.str Enc.int)))))) a1 q2), (5, i64 y6)], [], []⟩) (fun (n8, y6) => gJ a1 n8 y6 = some r4) (fun (n8, y6) => n8) (F, 0) H (aP [] (.cons (.refl _) (.cons (.refl _) (.nil _))) rfl) ?_;rintro ⟨n8, y6⟩ H;obtain ⟨n8, rfl, H⟩ := cO H;replace H : gK a1 (gJ a1 n8) y6 = some r4 := H
   unfold gK at H
   refine af <| af <| aa ?_;show AR _ _ _ _ _ [0, 1, 2, 3] _;refine zm rfl <| zS rfl (aj (av := slE _ _ _) rfl) <| zS rfl (aQ bm rfl) <| zS rfl (bC rfl rfl) <| ag <| az rfl (fun c9 => ?_) (fun c9 => ?_)
   ·replace H := aZ c9 H;refine aC <| af <| aO <| af ?_;obtain ⟨g10, H⟩ := ay H;obtain ⟨x11, e12, H⟩ := bg H;refine aa ?_;show AR _ _ _ _ _ [0, 1, 2, 3, 4, 5, 6] _;refine zS rfl (aj (av := slE _ _ _) rfl) <| zm rfl <| zS rfl (cn (E := (Enc.prod Enc.int (Enc.prod Enc.int (Enc.prod Enc.str (Enc.prod Enc.str (Enc.prod Enc.str (Enc.prod Enc.str Enc.int))))))) bm (by kernel_rfl) rfl rfl g10 e12) <| zS rfl (aV (n := 2) (by kernel_rfl) rfl (ai rfl)) <| zS rfl (dC er rfl (n := 5) (by kernel_rfl) rfl (ai rfl)) <| zX rfl (dF (zs := [.string ⟨#[]⟩, .string ⟨#[]⟩, .string ⟨#[]⟩, .string ⟨#[]⟩, .int .i64 0]) (by kernel_rfl)) ?_;rintro _ _ ⟨o13, rfl, rfl⟩;refine s0 rfl rfl (cT (i := 0) (vs := [S x11.2.2.1, S x11.2.2.2.1, S x11.2.2.2.2.1, S x11.2.2.2.2.2.1, i64 x11.2.2.2.2.2.2]) (by kernel_rfl) rfl rfl (by simp [cP, slE]) rfl (ai rfl)) <| AR.freezeCp 6 0 rfl rfl ?_;show AR _ _ _ _ _ _ ⟨_, _, []⟩;refine ag <| af <| aa ?_;show AR _ _ _ _ _ [0, 1, 2, 3, 4, 5, 6, 7, 8, 9, 10, 11, 12, 13, 14, 15, 16, 17, 18, 19, 20, 21] _
    refine zS rfl (aV (n := 0) (by kernel_rfl) rfl (ai rfl)) <| zS rfl (aJ ab rfl rfl) <| zS rfl (aU ab rfl) <| zS rfl (cS rfl rfl) <| zm rfl <| bb (l := [10, 11, 12, 13, 14, 15, 16, 17, 18, 19, 20, 21]) 31 (B ((decide (300 < (x11.2.2.1.length : Int))) || (decide (300 < (x11.2.2.2.1.length : Int))))) (fun K => ?_) ?_
    ·rcases ak (decide (300 < (x11.2.2.1.length : Int))) with h14 | h14
     ·refine zF h14 rfl <| zF h14 rfl <| zF h14 rfl <| zF h14 rfl <| zS rfl (aG (av := .v _) rfl h14 rfl) ?_;exact K _ 4 _ (aA (fT h14)) rfl rfl
     ·refine zU h14 rfl (aV (n := 1) (by kernel_rfl) rfl (ai rfl)) <| zU h14 rfl (aJ ab rfl rfl) <| zU h14 rfl (aU ab rfl) <| zU h14 rfl (cS rfl rfl) <| zS rfl (aE (av := .v _) rfl h14 rfl) ?_;exact K _ 4 _ (aA (fU h14)) rfl rfl
    refine zm rfl <| bb (l := [16, 17, 18, 19, 20, 21]) 37 (B (((decide (300 < (x11.2.2.1.length : Int))) || (decide (300 < (x11.2.2.2.1.length : Int)))) || (decide (300 < (x11.2.2.2.2.1.length : Int))))) (fun K => ?_) ?_
    ·rcases ak ((decide (300 < (x11.2.2.1.length : Int))) || (decide (300 < (x11.2.2.2.1.length : Int)))) with h15 | h15
     ·refine zF h15 rfl <| zF h15 rfl <| zF h15 rfl <| zF h15 rfl <| zS rfl (aG (av := .v _) rfl h15 rfl) ?_;exact K _ 4 _ (aA (fT h15)) rfl rfl
     ·refine zU h15 rfl (aV (n := 2) (by kernel_rfl) rfl (ai rfl)) <| zU h15 rfl (aJ ab rfl rfl) <| zU h15 rfl (aU ab rfl) <| zU h15 rfl (cS rfl rfl) <| zS rfl (aE (av := .v _) rfl h15 rfl) ?_;exact K _ 4 _ (aA (fU h15)) rfl rfl
    refine zm rfl <| bb (l := []) 43 (B ((((decide (300 < (x11.2.2.1.length : Int))) || (decide (300 < (x11.2.2.2.1.length : Int)))) || (decide (300 < (x11.2.2.2.2.1.length : Int)))) || (decide (300 < (x11.2.2.2.2.2.1.length : Int))))) (fun K => ?_) ?_
    ·rcases ak (((decide (300 < (x11.2.2.1.length : Int))) || (decide (300 < (x11.2.2.2.1.length : Int)))) || (decide (300 < (x11.2.2.2.2.1.length : Int)))) with h16 | h16
     ·refine zF h16 rfl <| zF h16 rfl <| zF h16 rfl <| zF h16 rfl <| zS rfl (aG (av := .v _) rfl h16 rfl) ?_;exact K _ 4 _ (aA (fT h16)) rfl rfl
     ·refine zU h16 rfl (aV (n := 3) (by kernel_rfl) rfl (ai rfl)) <| zU h16 rfl (aJ ab rfl rfl) <| zU h16 rfl (aU ab rfl) <| zU h16 rfl (cS rfl rfl) <| zS rfl (aE (av := .v _) rfl h16 rfl) ?_;exact K _ 4 _ (aA (fU h16)) rfl rfl
    refine ag <| az rfl (fun c17 => ?_) (fun c17 => ?_)
    ·replace H := aZ c17 H;refine af <| aa ?_;show AR _ _ _ _ _ [0] _;refine za rfl <| ag <| aL ?_;obtain rfl := ap H;exact And.intro rfl (Exists.intro _ (Exists.intro _ ⟨aH rfl (.refl _), aI [] rfl, rfl, rfl⟩))
    ·replace H := ba c17 H;refine aC ?_;obtain ⟨g18, H⟩ := ay H;refine aa ?_;show AR _ _ _ _ _ [0, 1, 2] _;refine zm rfl <| zS rfl (bu rfl rfl g18) <| za rfl <| ag ?_;exact Exists.intro (n8, y6 + 1) ⟨H, Nat.lt_succ_self _, aP [] (.cons (.refl _) (.cons (.refl _) (.nil _))) rfl⟩
   ·replace H := ba c9 H;refine bZ ?_;exact Exists.intro () ⟨H, aP [] (.nil _) rfl⟩
  rintro _ H;replace H : jh = some r4 := H
  unfold jh at H
  refine af <| aa ?_;show AR _ _ _ _ _ [0] _;refine za rfl <| ag <| aL ?_;obtain rfl := ap H;exact And.intro rfl (Exists.intro _ (Exists.intro _ ⟨aH rfl (.refl _), aI [] rfl, rfl, rfl⟩))
end Go.Proofs.YtjegcifofddgbaaGreatDoor
namespace Go.Pv
def dj (F : Nat) (a1 : List (Int × Int × (List UInt8) × (List UInt8) × (List UInt8) × (List UInt8) × Int)) (a3 : List (Int × Int × (List UInt8) × (List UInt8) × (List UInt8) × (List UInt8) × Int)) (y30 : List (Int × Int × (List UInt8) × (List UInt8) × (List UInt8) × (List UInt8) × Int)) : Option Bool :=
grd (bt y30.length) <|
grd (bt (y30.length + a3.length)) <|
lt (y30 ++ a3) fun x37 =>
bnd (gV F a1) fun x39 =>
bnd (gV F a3) fun x41 =>
bnd (gV F x37) fun x43 =>
bif (decide ((x39.length : Int) < 11)) || (decide ((x41.length : Int) < 11)) then
  some false
else
  bnd (gS F x37) fun x47 =>
  bnd (gS F a1) fun x49 =>
  bnd (gS F a3) fun x51 =>
  grd (bt (x49.length + x51.length)) <|
  lt (x49 ++ x51) fun x54 =>
  fV (decide (x47 = x54)) (okI ((x39.length : Int) - 6)) <|
  fV (decide (x47 = x54)) (gZ ((x39.length : Int) - 6) x39.length) <|
  lt (to_ x39 ((x39.length : Int) - 6)) fun x59 =>
  fV (decide (x47 = x54)) (gZ 5 x41.length) <|
  lt (cB x41 5) fun x62 =>
  fV (decide (x47 = x54)) (bt (x59.length + x62.length)) <|
  lt (x59 ++ x62) fun x65 =>
  some ((decide (x47 = x54)) && (decide (x43 = x65)))
def dH (F : Nat) (a1 : List (Int × Int × (List UInt8) × (List UInt8) × (List UInt8) × (List UInt8) × Int)) (a3 : List (Int × Int × (List UInt8) × (List UInt8) × (List UInt8) × (List UInt8) × Int)) (rec19 : ((List (Int × Int × (List UInt8) × (List UInt8) × (List UInt8) × (List UInt8) × Int)) × Int) → Option Bool) (y16 : List (Int × Int × (List UInt8) × (List UInt8) × (List UInt8) × (List UInt8) × Int)) (y18 : Int) : Option Bool :=
bif decide (y18 < (a1.length : Int)) then
  grd (cD y18 a1.length) <|
  lt (at_ a1 y18) fun x23 =>
  grd (bt (y16.length + ([(0, 0, (x23.2.2.1, x23.2.2.2.1, x23.2.2.2.2.1, x23.2.2.2.2.2.1, x23.2.2.2.2.2.2))] : List (Int × Int × (List UInt8) × (List UInt8) × (List UInt8) × (List UInt8) × Int)).length)) <|
  lt (y16 ++ ([(0, 0, (x23.2.2.1, x23.2.2.2.1, x23.2.2.2.2.1, x23.2.2.2.2.2.1, x23.2.2.2.2.2.2))] : List (Int × Int × (List UInt8) × (List UInt8) × (List UInt8) × (List UInt8) × Int))) fun x27 =>
  grd (okI (y18 + 1)) <|
  rec19 (x27, y18 + 1)
else
  dj F a1 a3 y16
def dG (F : Nat) (a1 : List (Int × Int × (List UInt8) × (List UInt8) × (List UInt8) × (List UInt8) × Int)) (a3 : List (Int × Int × (List UInt8) × (List UInt8) × (List UInt8) × (List UInt8) × Int)) (n : Nat) : ((List (Int × Int × (List UInt8) × (List UInt8) × (List UInt8) × (List UInt8) × Int)) × Int) → Option Bool :=
  loop (fun rec x => dH F a1 a3 rec x.1 x.2) n
def eN (F : Nat) (a1 : List (Int × Int × (List UInt8) × (List UInt8) × (List UInt8) × (List UInt8) × Int)) (a3 : List (Int × Int × (List UInt8) × (List UInt8) × (List UInt8) × (List UInt8) × Int)) : Option Bool :=
bnd (iD F) fun x6 =>
bnd (gw F a1 6) fun x8 =>
bnd (gw F a3 6) fun x10 =>
bif ((!x6) || (!x8)) || (!x10) then
  some x6
else
  dG F a1 a3 F ([], 0)
end Go.Pv
namespace Go.Proofs.YtjegcifofddgbaaGreatDoor
open Go.RowKit Go.Av Go.Pv
theorem pV : ∀ (args : Array Value) (w : World), (callFunc 9 args).run Tryz.prog w = .ok (.enter 9 args) w := fun _ _ => by kernel_rfl
theorem kQ : ∀ (args : Array Value) (w : World), (callFunc 10 args).run Tryz.prog w = .ok (.enter 10 args) w := fun _ _ => by kernel_rfl
theorem ia : ∀ (args : Array Value) (w : World), (callFunc 11 args).run Tryz.prog w = .ok (.enter 11 args) w := fun _ _ => by kernel_rfl
theorem hZ : ∀ (args : Array Value) (w : World), (callFunc 17 args).run Tryz.prog w = .ok (.enter 17 args) w := fun _ _ => by kernel_rfl
set_option maxRecDepth 100000 in
set_option maxHeartbeats 1000000 in
theorem ni (F : Nat) (a1 : List (Int × Int × (List UInt8) × (List UInt8) × (List UInt8) × (List UInt8) × Int)) (q2 : Option Nat) (a3 : List (Int × Int × (List UInt8) × (List UInt8) × (List UInt8) × (List UInt8) × Int)) (q4 : Option Nat) (r5 : Bool) (H : eN F a1 a3 = some r5) : ACalls Tryz.prog 8 [slE (Enc.prod Enc.int (Enc.prod Enc.int (Enc.prod Enc.str (Enc.prod Enc.str (Enc.prod Enc.str (Enc.prod Enc.str Enc.int)))))) a1 q2, slE (Enc.prod Enc.int (Enc.prod Enc.int (Enc.prod Enc.str (Enc.prod Enc.str (Enc.prod Enc.str (Enc.prod Enc.str Enc.int)))))) a3 q4] [] (Ret (B r5) []) := by
 unfold eN at H
 refine ax Tryz.func8 rfl rfl ?_;show AW _ _ 83 _ _ _;refine af <| aa ?_;show AR _ _ _ _ _ [0] _;refine za rfl <| ag <| af ?_;obtain ⟨x6, e7, H⟩ := bK H;refine aa ?_;show AR _ _ _ _ _ [0, 1] _;refine aq rfl rfl (aD rfl pV rfl (rq F x6 e7) ?_);refine za rfl <| ag <| af ?_;obtain ⟨x8, e9, H⟩ := bK H;refine aa ?_;show AR _ _ _ _ _ [0, 1, 2] _;refine zS rfl (aj (av := slE _ _ _) rfl) <| aq rfl rfl (aD rfl kQ rfl (po F a1 q2 6 x8 e9) ?_);refine za rfl <| ag <| af ?_;obtain ⟨x10, e11, H⟩ := bK H;refine aa ?_;show AR _ _ _ _ _ [0, 1, 2] _;refine zS rfl (aj (av := slE _ _ _) rfl) <| aq rfl rfl (aD rfl kQ rfl (po F a3 q4 6 x10 e11) ?_);refine za rfl <| ag <| af <| af <| aa ?_;show AR _ _ _ _ _ [0, 1, 2, 3, 4, 5, 6, 7, 8, 9] _;refine zm rfl <| zS rfl (cx rfl) <| zm rfl <| bb (l := [6, 7, 8, 9]) 24 (B ((!x6) || (!x8))) (fun K => ?_) ?_
 ·rcases ak (!x6) with h12 | h12
  ·refine zF h12 rfl <| zF h12 rfl <| zS rfl (aG (av := .v _) rfl h12 rfl) ?_;exact K _ 2 _ (aA (fT h12)) rfl rfl
  ·refine zM h12 rfl <| zU h12 rfl (cx rfl) <| zS rfl (aE (av := .v _) rfl h12 rfl) ?_;exact K _ 2 _ (aA (fU h12)) rfl rfl
 refine zm rfl <| bb (l := []) 28 (B (((!x6) || (!x8)) || (!x10))) (fun K => ?_) ?_
 ·rcases ak ((!x6) || (!x8)) with h13 | h13
  ·refine zF h13 rfl <| zF h13 rfl <| zS rfl (aG (av := .v _) rfl h13 rfl) ?_;exact K _ 2 _ (aA (fT h13)) rfl rfl
  ·refine zM h13 rfl <| zU h13 rfl (cx rfl) <| zS rfl (aE (av := .v _) rfl h13 rfl) ?_;exact K _ 2 _ (aA (fU h13)) rfl rfl
 refine ag <| az rfl (fun c14 => ?_) (fun c14 => ?_)
 ·replace H := aZ c14 H;refine af <| aa ?_;show AR _ _ _ _ _ [0, 1] _;refine zm rfl <| za rfl <| ag <| aL ?_;obtain rfl := ap H;exact And.intro rfl (Exists.intro _ (Exists.intro _ ⟨aH rfl (.refl _), aI [] rfl, rfl, rfl⟩))
 ·replace H := ba c14 H;refine aC <| af <| aa ?_;show AR _ _ _ _ _ [0] _;refine za rfl <| ag ?_
  refine ez 8 7 29 rfl fun t15 => ?_
  show AW _ _ _ _ _ ⟨(8, slE (Enc.prod Enc.int (Enc.prod Enc.int (Enc.prod Enc.str (Enc.prod Enc.str (Enc.prod Enc.str (Enc.prod Enc.str Enc.int)))))) [] (some t15)) :: _, _, _⟩;refine bk (X := (List (Int × Int × (List UInt8) × (List UInt8) × (List UInt8) × (List UInt8) × Int)) × Nat) (fun (y30, t31) => ⟨[(0, slE (Enc.prod Enc.int (Enc.prod Enc.int (Enc.prod Enc.str (Enc.prod Enc.str (Enc.prod Enc.str (Enc.prod Enc.str Enc.int)))))) a1 q2), (1, slE (Enc.prod Enc.int (Enc.prod Enc.int (Enc.prod Enc.str (Enc.prod Enc.str (Enc.prod Enc.str (Enc.prod Enc.str Enc.int)))))) a3 q4), (8, slE (Enc.prod Enc.int (Enc.prod Enc.int (Enc.prod Enc.str (Enc.prod Enc.str (Enc.prod Enc.str (Enc.prod Enc.str Enc.int)))))) y30 (some t31))], [], [.tok t31 29]⟩) (fun (y30, t31) => dj F a1 a3 y30 = some r5) ?_ ?_
  ·refine af <| aa ?_;show AR _ _ _ _ _ [0] _;refine za rfl <| ag <| aO <| cl (X := Nat × (List (Int × Int × (List UInt8) × (List UInt8) × (List UInt8) × (List UInt8) × Int)) × Nat × Int) (fun (n20, y16, t17, y18) => ⟨[(0, slE (Enc.prod Enc.int (Enc.prod Enc.int (Enc.prod Enc.str (Enc.prod Enc.str (Enc.prod Enc.str (Enc.prod Enc.str Enc.int)))))) a1 q2), (1, slE (Enc.prod Enc.int (Enc.prod Enc.int (Enc.prod Enc.str (Enc.prod Enc.str (Enc.prod Enc.str (Enc.prod Enc.str Enc.int)))))) a3 q4), (8, slE (Enc.prod Enc.int (Enc.prod Enc.int (Enc.prod Enc.str (Enc.prod Enc.str (Enc.prod Enc.str (Enc.prod Enc.str Enc.int)))))) y16 (some t17)), (9, i64 y18)], [], [.tok t17 29]⟩) (fun (n20, y16, t17, y18) => dG F a1 a3 n20 (y16, y18) = some r5) (fun (n20, y16, t17, y18) => n20) (F, [], t15, 0) H (aP [0] (.cons (.refl _) (.cons (.refl _) (.cons (.refl _) (.cons (.refl _) (.nil _))))) rfl) ?_;rintro ⟨n20, y16, t17, y18⟩ H;obtain ⟨n20, rfl, H⟩ := cO H;replace H : dH F a1 a3 (dG F a1 a3 n20) y16 y18 = some r5 := H
   unfold dH at H
   refine af <| af <| aa ?_;show AR _ _ _ _ _ [0, 1, 2, 3] _;refine zm rfl <| zS rfl (aj (av := slE _ _ _) rfl) <| zS rfl (aQ bm rfl) <| zS rfl (bC rfl rfl) <| ag <| az rfl (fun c21 => ?_) (fun c21 => ?_)
   ·replace H := aZ c21 H;refine aC <| af <| aO ?_;obtain ⟨g22, H⟩ := ay H;obtain ⟨x23, e24, H⟩ := bg H;obtain ⟨g26, H⟩ := ay H;obtain ⟨x27, e28, H⟩ := bg H;refine aa ?_;show AR _ _ _ _ _ [0, 1, 2, 3, 4, 5, 6, 7, 8, 9] _
    refine zS rfl (aj (av := slE _ _ _) rfl) <| zS rfl (aj (av := slE _ _ _) rfl) <| zm rfl <| zS rfl (cn (E := (Enc.prod Enc.int (Enc.prod Enc.int (Enc.prod Enc.str (Enc.prod Enc.str (Enc.prod Enc.str (Enc.prod Enc.str Enc.int))))))) bm (by kernel_rfl) rfl rfl g22 e24) <| zS rfl (aV (n := 2) (by kernel_rfl) rfl (ai rfl)) <| zS rfl (dC er rfl (n := 5) (by kernel_rfl) rfl (ai rfl)) <| zS rfl (du (zs := [.int .i64 0, .int .i64 0, .string ⟨#[]⟩, .string ⟨#[]⟩, .string ⟨#[]⟩, .string ⟨#[]⟩, .int .i64 0]) (ps := [(0, 1), (1, 1), (2, 5)]) (cs := [i64 0, i64 0, S x23.2.2.1, S x23.2.2.2.1, S x23.2.2.2.2.1, S x23.2.2.2.2.2.1, i64 x23.2.2.2.2.2.2]) (by kernel_rfl) rfl rfl) <| zR rfl (jo (E := (Enc.prod Enc.int (Enc.prod Enc.int (Enc.prod Enc.str (Enc.prod Enc.str (Enc.prod Enc.str (Enc.prod Enc.str Enc.int))))))) (bytes := 88) (zs := [.int .i64 0, .int .i64 0, .string ⟨#[]⟩, .string ⟨#[]⟩, .string ⟨#[]⟩, .string ⟨#[]⟩, .int .i64 0]) (l := ([(0, 0, (x23.2.2.1, x23.2.2.2.1, x23.2.2.2.2.1, x23.2.2.2.2.2.1, x23.2.2.2.2.2.2))] : List (Int × Int × (List UInt8) × (List UInt8) × (List UInt8) × (List UInt8) × Int))) bm (by kernel_rfl) (by kernel_rfl) rfl rfl rfl rfl rfl) <| zX rfl (cE (E := (Enc.prod Enc.int (Enc.prod Enc.int (Enc.prod Enc.str (Enc.prod Enc.str (Enc.prod Enc.str (Enc.prod Enc.str Enc.int))))))) (bytes := 88) 0 bm bm rfl (by kernel_rfl) rfl rfl rfl rfl g26 e28) ?_;rintro _ _ ⟨t25, rfl, rfl⟩
    refine zS rfl (aB (av := slE _ _ _) rfl) <| ag ?_;obtain ⟨g29, H⟩ := ay H;refine aa ?_;show AR _ _ _ _ _ [0, 1, 2] _;refine zm rfl <| zS rfl (bu rfl rfl g29) <| za rfl <| ag ?_;exact Exists.intro (n20, x27, t25, y18 + 1) ⟨H, Nat.lt_succ_self _, aP [0] (.cons (.refl _) (.cons (.refl _) (.cons (.refl _) (.cons (.refl _) (.nil _))))) rfl⟩
   ·replace H := ba c21 H;refine bZ ?_;exact Exists.intro (y16, t17) ⟨H, aP [0] (.cons (.refl _) (.cons (.refl _) (.cons (.refl _) (.nil _)))) rfl⟩
  rintro ⟨y30, t31⟩ H;replace H : dj F a1 a3 y30 = some r5 := H
  unfold dj at H
  refine af ?_;obtain ⟨g34, H⟩ := ay H;obtain ⟨g36, H⟩ := ay H;obtain ⟨x37, e38, H⟩ := bg H;refine aa ?_;show AR _ _ _ _ _ [0, 1, 2, 3, 4] _;refine zS rfl (aj (av := slE _ _ _) rfl) <| zX rfl (oh (E := (Enc.prod Enc.int (Enc.prod Enc.int (Enc.prod Enc.str (Enc.prod Enc.str (Enc.prod Enc.str (Enc.prod Enc.str Enc.int))))))) (bytes := 88) bm bm rfl (by kernel_rfl) rfl rfl rfl g34) ?_;rintro _ _ ⟨t33, rfl, rfl⟩;refine zS rfl (aj (av := slE _ _ _) rfl) <| zX rfl (cE (E := (Enc.prod Enc.int (Enc.prod Enc.int (Enc.prod Enc.str (Enc.prod Enc.str (Enc.prod Enc.str (Enc.prod Enc.str Enc.int))))))) (bytes := 88) 0 bm bm rfl (by kernel_rfl) rfl rfl rfl rfl g36 e38) ?_;rintro _ _ ⟨t35, rfl, rfl⟩;refine zS rfl (aB (av := slE _ _ _) rfl) <| ag <| af ?_;obtain ⟨x39, e40, H⟩ := bK H;refine aa ?_;show AR _ _ _ _ _ [0, 1, 2] _;refine zS rfl (aj (av := slE _ _ _) rfl) <| aq rfl rfl (aD rfl ia rfl (jR F a1 q2 x39 e40) ?_);refine za rfl <| ag <| af ?_;obtain ⟨x41, e42, H⟩ := bK H;refine aa ?_;show AR _ _ _ _ _ [0, 1, 2] _;refine zS rfl (aj (av := slE _ _ _) rfl) <| aq rfl rfl (aD rfl ia rfl (jR F a3 q4 x41 e42) ?_);refine za rfl <| ag <| af ?_;obtain ⟨x43, e44, H⟩ := bK H;refine aa ?_;show AR _ _ _ _ _ [0, 1, 2] _;refine zS rfl (aj (av := slE _ _ _) rfl) <| aq rfl rfl (aD rfl ia rfl (jR F x37 (some t35) x43 e44) ?_)
  refine za rfl <| ag <| af <| af <| aa ?_;show AR _ _ _ _ _ [0, 1, 2, 3, 4, 5, 6, 7] _;refine zm rfl <| zS rfl (aU ab rfl) <| zS rfl (bC rfl rfl) <| zm rfl <| bb (l := []) 62 (B ((decide ((x39.length : Int) < 11)) || (decide ((x41.length : Int) < 11)))) (fun K => ?_) ?_
  ·rcases ak (decide ((x39.length : Int) < 11)) with h45 | h45
   ·refine zF h45 rfl <| zF h45 rfl <| zF h45 rfl <| zS rfl (aG (av := .v _) rfl h45 rfl) ?_;exact K _ 3 _ (aA (fT h45)) rfl rfl
   ·refine zM h45 rfl <| zU h45 rfl (aU ab rfl) <| zU h45 rfl (bC rfl rfl) <| zS rfl (aE (av := .v _) rfl h45 rfl) ?_;exact K _ 3 _ (aA (fU h45)) rfl rfl
  refine ag <| az rfl (fun c46 => ?_) (fun c46 => ?_)
  ·replace H := aZ c46 H;refine af <| aa ?_;show AR _ _ _ _ _ [0] _;refine za rfl <| ag <| aL ?_;obtain rfl := ap H;exact And.intro rfl (Exists.intro _ (Exists.intro _ ⟨aH rfl (.refl _), aI [] rfl, rfl, rfl⟩))
  ·replace H := ba c46 H;refine aC <| af ?_;obtain ⟨x47, e48, H⟩ := bK H;obtain ⟨x49, e50, H⟩ := bK H;obtain ⟨x51, e52, H⟩ := bK H;obtain ⟨g53, H⟩ := ay H;obtain ⟨x54, e55, H⟩ := bg H;obtain ⟨g57, H⟩ := dq H;obtain ⟨g58, H⟩ := dq H;obtain ⟨x59, e60, H⟩ := bg H;obtain ⟨g61, H⟩ := dq H;obtain ⟨x62, e63, H⟩ := bg H;obtain ⟨g64, H⟩ := dq H;obtain ⟨x65, e66, H⟩ := bg H;refine bz (by kernel_rfl) ?_;show AI _ _ _ _ _ 21 (Array.replicate 21 false) _;refine zk 0 rfl (aj (av := slE _ _ _) rfl) ?_;show AI _ _ _ _ _ _ #[true, false, false, false, false, false, false, false, false, false, false, false, false, false, false, false, false, false, false, false, false] _;refine zk 2 rfl (aj (av := slE _ _ _) rfl) ?_;show AI _ _ _ _ _ _ #[true, false, true, false, false, false, false, false, false, false, false, false, false, false, false, false, false, false, false, false, false] _;refine zk 4 rfl (aj (av := slE _ _ _) rfl) ?_;show AI _ _ _ _ _ _ #[true, false, true, false, true, false, false, false, false, false, false, false, false, false, false, false, false, false, false, false, false] _;refine aX (i := 1) (by kernel_rfl) rfl rfl <| dp rfl hZ rfl (jQ F x37 (some t35) x47 e48) ?_;show AI _ _ _ _ _ _ #[true, true, true, false, true, false, false, false, false, false, false, false, false, false, false, false, false, false, false, false, false] _;refine aX (i := 3) (by kernel_rfl) rfl rfl <| dp rfl hZ rfl (jQ F a1 q2 x49 e50) ?_
   show AI _ _ _ _ _ _ #[true, true, true, true, true, false, false, false, false, false, false, false, false, false, false, false, false, false, false, false, false] _;refine aX (i := 5) (by kernel_rfl) rfl rfl <| dp rfl hZ rfl (jQ F a3 q4 x51 e52) ?_;show AI _ _ _ _ _ _ #[true, true, true, true, true, true, false, false, false, false, false, false, false, false, false, false, false, false, false, false, false] _;refine zk 6 rfl (cg rfl rfl g53 e55) ?_;show AI _ _ _ _ _ _ #[true, true, true, true, true, true, true, false, false, false, false, false, false, false, false, false, false, false, false, false, false] _;refine zk 7 rfl (eU rfl rfl) ?_;show AI _ _ _ _ _ _ #[true, true, true, true, true, true, true, true, false, false, false, false, false, false, false, false, false, false, false, false, false] _;refine zk 8 rfl (mv rfl) ?_;show AI _ _ _ _ _ _ #[true, true, true, true, true, true, true, true, true, false, false, false, false, false, false, false, false, false, false, false, false] _;refine AI.meet 1 #[true, true, true, true, true, true, true, true, true, true, true, true, true, true, true, true, true, true, true, true, false] 82 (B ((decide (x47 = x54)) && (decide (x43 = x65)))) (fun K19 => ?_) ?_
   ·refine yk (t := 71) rfl (fun h56 => ?_) (fun h56 => ?_)
    ·refine gj (i := 9) rfl rfl (by kernel_rfl) (by kernel_rfl) (by kernel_rfl) rfl rfl rfl (fun _ _ h => h) h56 (mv rfl) ?_;show AI _ _ _ _ _ _ #[true, true, true, true, true, true, true, true, true, true, false, false, false, false, false, false, false, false, false, false, false] _;refine gj (i := 10) rfl rfl (by kernel_rfl) (by kernel_rfl) (by kernel_rfl) rfl rfl rfl (fun _ _ h => h) h56 (mv rfl) ?_;show AI _ _ _ _ _ _ #[true, true, true, true, true, true, true, true, true, true, true, false, false, false, false, false, false, false, false, false, false] _;refine gj (i := 11) rfl rfl (by kernel_rfl) (by kernel_rfl) (by kernel_rfl) rfl rfl rfl (fun _ _ h => h) h56 (mv rfl) ?_;show AI _ _ _ _ _ _ #[true, true, true, true, true, true, true, true, true, true, true, true, false, false, false, false, false, false, false, false, false] _;refine gj (i := 12) rfl rfl (by kernel_rfl) (by kernel_rfl) (by kernel_rfl) rfl rfl rfl (fun _ _ h => h) h56 (aU ab rfl) ?_;show AI _ _ _ _ _ _ #[true, true, true, true, true, true, true, true, true, true, true, true, true, false, false, false, false, false, false, false, false] _;refine gj (i := 13) rfl rfl (by kernel_rfl) (by kernel_rfl) (by kernel_rfl) rfl rfl rfl (fun _ _ h => h) h56 (eL rfl rfl (g57 h56)) ?_;show AI _ _ _ _ _ _ #[true, true, true, true, true, true, true, true, true, true, true, true, true, true, false, false, false, false, false, false, false] _
     refine gj (i := 14) rfl rfl (by kernel_rfl) (by kernel_rfl) (by kernel_rfl) rfl rfl rfl (fun _ _ h => h) h56 (ld ab rfl rfl (g58 h56) e60) ?_;show AI _ _ _ _ _ _ #[true, true, true, true, true, true, true, true, true, true, true, true, true, true, true, false, false, false, false, false, false] _;refine gj (i := 15) rfl rfl (by kernel_rfl) (by kernel_rfl) (by kernel_rfl) rfl rfl rfl (fun _ _ h => h) h56 (mv rfl) ?_;show AI _ _ _ _ _ _ #[true, true, true, true, true, true, true, true, true, true, true, true, true, true, true, true, false, false, false, false, false] _;refine gj (i := 16) rfl rfl (by kernel_rfl) (by kernel_rfl) (by kernel_rfl) rfl rfl rfl (fun _ _ h => h) h56 (cI ab rfl rfl (g61 h56) e63) ?_;show AI _ _ _ _ _ _ #[true, true, true, true, true, true, true, true, true, true, true, true, true, true, true, true, true, false, false, false, false] _;refine gj (i := 17) rfl rfl (by kernel_rfl) (by kernel_rfl) (by kernel_rfl) rfl rfl rfl (fun _ _ h => h) h56 (cg rfl rfl (g64 h56) e66) ?_;show AI _ _ _ _ _ _ #[true, true, true, true, true, true, true, true, true, true, true, true, true, true, true, true, true, true, false, false, false] _;refine gj (i := 18) rfl rfl (by kernel_rfl) (by kernel_rfl) (by kernel_rfl) rfl rfl rfl (fun _ _ h => h) h56 (eU rfl rfl) ?_;show AI _ _ _ _ _ _ #[true, true, true, true, true, true, true, true, true, true, true, true, true, true, true, true, true, true, true, false, false] _
     refine zk 19 rfl (bo (av' := B ((decide (x47 = x54)) && (decide (x43 = x65)))) (aG (av := .v _) rfl h56 rfl) (aA (cz h56))) ?_;show AI _ _ _ _ _ _ #[true, true, true, true, true, true, true, true, true, true, true, true, true, true, true, true, true, true, true, true, false] _;exact K19 _ 10 rfl rfl
    ·refine gk (i := 9) rfl rfl (by kernel_rfl) (by kernel_rfl) (by kernel_rfl) rfl rfl rfl (fun _ _ h => h) h56 ?_;show AI _ _ _ _ _ _ #[true, true, true, true, true, true, true, true, true, true, false, false, false, false, false, false, false, false, false, false, false] _;refine gk (i := 10) rfl rfl (by kernel_rfl) (by kernel_rfl) (by kernel_rfl) rfl rfl rfl (fun _ _ h => h) h56 ?_;show AI _ _ _ _ _ _ #[true, true, true, true, true, true, true, true, true, true, true, false, false, false, false, false, false, false, false, false, false] _;refine gk (i := 11) rfl rfl (by kernel_rfl) (by kernel_rfl) (by kernel_rfl) rfl rfl rfl (fun _ _ h => h) h56 ?_;show AI _ _ _ _ _ _ #[true, true, true, true, true, true, true, true, true, true, true, true, false, false, false, false, false, false, false, false, false] _;refine gk (i := 12) rfl rfl (by kernel_rfl) (by kernel_rfl) (by kernel_rfl) rfl rfl rfl (fun _ _ h => h) h56 ?_;show AI _ _ _ _ _ _ #[true, true, true, true, true, true, true, true, true, true, true, true, true, false, false, false, false, false, false, false, false] _;refine gk (i := 13) rfl rfl (by kernel_rfl) (by kernel_rfl) (by kernel_rfl) rfl rfl rfl (fun _ _ h => h) h56 ?_;show AI _ _ _ _ _ _ #[true, true, true, true, true, true, true, true, true, true, true, true, true, true, false, false, false, false, false, false, false] _;refine gk (i := 14) rfl rfl (by kernel_rfl) (by kernel_rfl) (by kernel_rfl) rfl rfl rfl (fun _ _ h => h) h56 ?_
     show AI _ _ _ _ _ _ #[true, true, true, true, true, true, true, true, true, true, true, true, true, true, true, false, false, false, false, false, false] _;refine gk (i := 15) rfl rfl (by kernel_rfl) (by kernel_rfl) (by kernel_rfl) rfl rfl rfl (fun _ _ h => h) h56 ?_;show AI _ _ _ _ _ _ #[true, true, true, true, true, true, true, true, true, true, true, true, true, true, true, true, false, false, false, false, false] _;refine gk (i := 16) rfl rfl (by kernel_rfl) (by kernel_rfl) (by kernel_rfl) rfl rfl rfl (fun _ _ h => h) h56 ?_;show AI _ _ _ _ _ _ #[true, true, true, true, true, true, true, true, true, true, true, true, true, true, true, true, true, false, false, false, false] _;refine gk (i := 17) rfl rfl (by kernel_rfl) (by kernel_rfl) (by kernel_rfl) rfl rfl rfl (fun _ _ h => h) h56 ?_;show AI _ _ _ _ _ _ #[true, true, true, true, true, true, true, true, true, true, true, true, true, true, true, true, true, true, false, false, false] _;refine gk (i := 18) rfl rfl (by kernel_rfl) (by kernel_rfl) (by kernel_rfl) rfl rfl rfl (fun _ _ h => h) h56 ?_;show AI _ _ _ _ _ _ #[true, true, true, true, true, true, true, true, true, true, true, true, true, true, true, true, true, true, true, false, false] _;refine zk 19 rfl (bo (av' := B ((decide (x47 = x54)) && (decide (x43 = x65)))) (aE (av := .v _) rfl h56 rfl) (aA (cA h56))) ?_;show AI _ _ _ _ _ _ #[true, true, true, true, true, true, true, true, true, true, true, true, true, true, true, true, true, true, true, true, false] _;exact K19 _ 10 rfl rfl
   refine zk 20 rfl (asg rfl) ?_;show AI _ _ _ _ _ _ #[true, true, true, true, true, true, true, true, true, true, true, true, true, true, true, true, true, true, true, true, true] _;refine bE rfl <| aL ?_;obtain rfl := ap H;exact And.intro rfl (Exists.intro _ (Exists.intro _ ⟨aH rfl (.refl _), aI [] rfl, rfl, rfl⟩))
end Go.Proofs.YtjegcifofddgbaaGreatDoor
namespace Go.Dg
open Go.Pv Go.Av
open Go.Lib (decDigits)
abbrev Bs := List UInt8
def val (v : Nat) : Bs → Nat
  | [] => v
  | c :: r => val (10 * v + (c.toNat - 48)) r
end Go.Dg
namespace Go.Dg
open Go.Pv Go.Av
open Go.Lib (decDigits)
theorem tand (x : Bool) : (true && x) = x := Eq.symm (Eq.symm rfl)
theorem fand (x : Bool) : (false && x) = false := Eq.symm (Eq.symm rfl)
theorem fo (x : Bool) : (false || x) = x := Eq.symm (Eq.symm rfl)
theorem nfl : (!false) = true := Eq.symm (Eq.symm rfl)
theorem ntr : (!true) = false := Eq.symm (Eq.symm rfl)
theorem cfl {α : Type} (a b : α) : (bif false then a else b) = b := Eq.symm (Eq.symm rfl)
theorem ctr {α : Type} (a b : α) : (bif true then a else b) = a := Eq.symm (Eq.symm rfl)
def Tot (o : Option (Int × Int)) : Prop := ∃ x k, o = some (x, k) ∧ (k = 0 ∨ k = 1 ∨ k = 2)
theorem Tot.z (x : Int) : Tot (some (x, 0)) := ⟨x, 0, rfl, .inl rfl⟩
theorem Tot.o (x : Int) : Tot (some (x, 1)) := ⟨x, 1, rfl, .inr (.inl rfl)⟩
theorem Tot.t (x : Int) : Tot (some (x, 2)) := ⟨x, 2, rfl, .inr (.inr rfl)⟩
theorem gX {c : Bool} {a b : Option (Int × Int)} (ha : Tot a) (hb : Tot b) : Tot (bif c then a else b) := by cases c <;> assumption
theorem tot_bndc {c : Bool} {v : UInt8} {f : UInt8 → Option (Int × Int)} (h : ∀ x, Tot (f x)) : Tot (kN c (some v) f) := by
  cases c
  · exact h _
  · exact h _
theorem j3_tot (y17 : Int) (y23 y24 : Int) (rec : (Bool × Int × Int) → Option (Int × Int)) (y43 : UInt8) (h : ∀ v, Tot (rec (false, v, y24 + 1))) (hb : -9223372036854775808 ≤ y24 + 1 ∧ y24 + 1 ≤ 9223372036854775807) :
    Tot (cU 10 y17 false y23 y24 rec y43) := by
  unfold cU dA
  refine gX (.t _) (gX (.o _) (gX (.o _) ?_))
  rw [cV hb]
  exact h _
theorem uint_loop (F : Nat) (s : Bs) (c : Int) (hs : s.length ≤ 1000) : ∀ (n i : Nat) (v : Int), s.length - i < n → i ≤ s.length → Tot (cj F s 10 c n (false, v, (i : Int))) := by
  intro n
  induction n with
  | zero => intro i v h; omega
  | succ n ih =>
    intro i v hn hi;show Tot (dB F s 10 c (cj F s 10 c n) false v (i : Int))
    unfold dB
    by_cases h : i < s.length
    · have e : ((i : Int) + 1) = ((i + 1 : Nat) : Int) := by omega
      have hr : ∀ v, Tot (cj F s 10 c n (false, v, (i : Int) + 1)) := fun v => by rw [e]; exact ih (i + 1) v (by omega) (by omega)
      have h10 : decide ((10 : Int) = 0) = false := by decide
      rw [bT (by omega), dr (by omega), bJ, h10, Bool.and_false, cfl]
      refine gX (j3_tot _ _ _ _ _ hr (by omega)) ?_
      unfold eW
      rw [bP]
      refine tot_bndc fun x38 => gX ?_ (.t _)
      rw [bP]
      exact j3_tot _ _ _ _ _ hr (by omega)
    · rw [bF (by omega)]
      unfold ek
      rw [rg, fand, cfl]
      exact .z _
theorem uint_tot (F : Nat) (s : Bs) (hs : s.length ≤ 1000) (hF : s.length < F) : Tot (ew F s 10 0) := by
  unfold ew
  refine gX (.t _) ?_
  have h1 : ((decide ((2 : Int) ≤ 10)) && (decide ((10 : Int) ≤ 36))) = true := by decide
  rw [h1, nQ]
  unfold ei ej
  rw [jd rfl, bT rfl]
  unfold dk
  have h2 : decide (0 ≤ IntKind.u64.wrap 64) = true := by decide +kernel
  rw [h2, nQ, cF (by omega)]
  exact uint_loop F s _ hs F 0 0 (by omega) (by omega)
theorem vG (b : Bool) (x : Int) : Tot (el b x) := by
  unfold el em
  have h2 : decide (0 ≤ IntKind.u64.wrap 63) = true := by decide +kernel
  rw [h2, nQ]
  exact gX (.o _) (gX (.o _) (gX (.z _) (.z _)))
theorem nB (F : Nat) (s : Bs) (b : Bool) (hs : s.length ≤ 1000) (hF : s.length < F) : Tot (dm F 10 0 s b) := by
  unfold dm
  obtain ⟨x, k, e, hk⟩ := uint_tot F s hs hF
  rw [e, eS]
  by_cases h2 : k = 2
  · subst h2
    have : ((!decide ((2 : Int) = 0)) && (!decide ((2 : Int) = 1))) = true := by decide
    rw [this, ctr]
    exact .t _
  · have : ((!decide (k = 0)) && (!decide (k = 1))) = false := by
      rcases hk with rfl | rfl | rfl
      · decide
      · decide
      · exact absurd rfl h2
    rw [this, cfl, jd rfl]
    exact vG _ _
theorem int_tot (F : Nat) (s : Bs) (hs : s.length ≤ 1000) (hF : s.length < F) : Tot (gH F s 10 0) := by
  unfold gH
  by_cases h : s = []
  · rw [bT h]; exact .t _
  · have hp : 0 < s.length := List.length_pos_iff.2 h
    have hf : (cB s 1).length ≤ s.length := by unfold cB; simp
    rw [bF h, dr (by omega), bJ]
    refine gX ?_ (gX ?_ (nB F s _ hs hF))
    · rw [hH (by omega), bJ]; exact nB F _ _ (by omega) (by omega)
    · rw [hH (by omega), bJ]; exact nB F _ _ (by omega) (by omega)
def tl : Bs := [64, 109, 97, 105, 108, 99, 111, 97, 99, 104, 62]
def okId (sub no : Int) : Prop := (0 ≤ sub ∧ sub ≤ 7) ∧ (1 ≤ no ∧ no ≤ 1073741824)
instance (sub no : Int) : Decidable (okId sub no) := by unfold okId; exact inferInstance
end Go.Dg
namespace Go.Pv
def lJ (y44 : List UInt8) : Option ((List UInt8)) :=
some y44
def eo (y6 : Int) (rec7 : ((List UInt8) × Int) → Option ((List UInt8))) (y40 : List UInt8) : Option ((List UInt8)) :=
grd (okI (y6 + 1)) <|
rec7 (y40, y6 + 1)
def iX (a1 : List UInt8) (rec7 : ((List UInt8) × Int) → Option ((List UInt8))) (y4 : List UInt8) (y6 : Int) : Option ((List UInt8)) :=
bif decide (y6 < (a1.length : Int)) then
  grd (cD y6 a1.length) <|
  lt (at_ a1 y6) fun x11 =>
  bif decide (x11 = 38) then
    grd (bt (y4.length + ([38, 97, 109, 112, 59] : List UInt8).length)) <|
    lt (y4 ++ ([38, 97, 109, 112, 59] : List UInt8)) fun x16 =>
    eo y6 rec7 x16
  else
    bif decide (x11 = 60) then
      grd (bt (y4.length + ([38, 108, 116, 59] : List UInt8).length)) <|
      lt (y4 ++ ([38, 108, 116, 59] : List UInt8)) fun x21 =>
      eo y6 rec7 x21
    else
      bif decide (x11 = 62) then
        grd (bt (y4.length + ([38, 103, 116, 59] : List UInt8).length)) <|
        lt (y4 ++ ([38, 103, 116, 59] : List UInt8)) fun x26 =>
        eo y6 rec7 x26
      else
        bif decide (x11 = 34) then
          grd (bt (y4.length + ([38, 113, 117, 111, 116, 59] : List UInt8).length)) <|
          lt (y4 ++ ([38, 113, 117, 111, 116, 59] : List UInt8)) fun x31 =>
          eo y6 rec7 x31
        else
          grd (cD y6 a1.length) <|
          lt (at_ a1 y6) fun x34 =>
          grd (bt (y4.length + ([x34] : List UInt8).length)) <|
          lt (y4 ++ ([x34] : List UInt8)) fun x38 =>
          eo y6 rec7 x38
else
  lJ y4
def gg (a1 : List UInt8) (n : Nat) : ((List UInt8) × Int) → Option ((List UInt8)) :=
  loop (fun rec x => iX a1 rec x.1 x.2) n
def oc (F : Nat) (a1 : List UInt8) : Option ((List UInt8)) :=
gg a1 F ([], 0)
end Go.Pv
namespace Go.Pn
open Go.Pv Go.Av
abbrev Bs := List UInt8
def bl (c : UInt8) : Bool := (((decide (c = 9)) || (decide (c = 10))) || (decide (c = 13))) || (decide (c = 32))
mutual
/-- Behind a sign. -/
def T1 : Bs → Bs
  | [] => []
  | c :: r => bif bl c then T2 r else c :: T1 r
/-- In a gap behind a sign. -/
def T2 : Bs → Bs
  | [] => []
  | c :: r => bif bl c then T2 r else 32 :: c :: T1 r
end
def kM : Bs → Bs
  | [] => []
  | c :: r => bif bl c then kM r else c :: T1 r
def tl (out : Bs) (gap : Bool) (r : Bs) : Bs := if out = [] then kM r else bif gap then T2 r else T1 r
def wgo (cur : Bs) : Bs → List Bs
  | [] => if cur = [] then [] else [cur]
  | c :: r => bif bl c then (if cur = [] then wgo [] r else cur :: wgo [] r) else wgo (cur ++ [c]) r
theorem rest_wgo (s : Bs) : (∀ cur : Bs, cur ≠ [] → Str.join [32] (wgo cur s) = cur ++ T1 s) ∧ Str.join [32] (wgo [] s) = kM s ∧ Str.rest [32] (wgo [] s) = T2 s := by
  induction s with
  | nil => exact ⟨fun cur h => by simp [wgo, h, Str.join, Str.rest, T1], by simp [wgo, Str.join, kM], by simp [wgo, Str.rest, T2]⟩
  | cons c r ih =>
    obtain ⟨h1, h2, h3⟩ := ih
    cases hb : bl c with
    | true =>
      refine ⟨fun cur h => ?_, ?_, ?_⟩
      · simp [wgo, hb, h, Str.join, T1, h3]
      · simp [wgo, hb, kM, h2]
      · simp [wgo, hb, T2, h3]
    | false =>
      have h4 := h1 [c] (by simp)
      refine ⟨fun cur h => ?_, ?_, ?_⟩
      · simp only [wgo, hb, cond_false, T1]
        rw [h1 _ (by simp)]; simp
      · simp only [wgo, hb, cond_false, kM, List.nil_append]
        rw [h4]; rfl
      · simp only [wgo, hb, cond_false, T2, List.nil_append]
        have : Str.rest [32] (wgo [c] r) = 32 :: Str.join [32] (wgo [c] r) := by
          cases hw : wgo [c] r with
          | nil => rw [hw] at h4; simp [Str.join] at h4
          | cons w ws => simp [Str.rest, Str.join]
        rw [this, h4]; rfl
theorem join_wgo (s : Bs) : Str.join [32] (wgo [] s) = kM s := (rest_wgo s).2.1
theorem wV (s : Bs) : ∀ cur : Bs, Str.total (wgo cur s) + (wgo cur s).length ≤ cur.length + s.length + 1 := by
  induction s with
  | nil => intro cur; by_cases h : cur = [] <;> simp [wgo, h, Str.total]
  | cons c r ih =>
    intro cur
    cases hb : bl c with
    | true =>
      have := ih []
      by_cases h : cur = []
      · simp [wgo, hb, h] at this ⊢; omega
      · simp [wgo, hb, h, Str.total] at this ⊢; omega
    | false =>
      have := ih (cur ++ [c])
      simp [wgo, hb] at this ⊢; omega
theorem oo (F : Nat) (c : UInt8) : kY F c = some (bl c) := by
  have : ∀ n : Nat, n < 256 → decide (0 ≤ Go.Lib.indexByte ([9, 10, 13, 32] : List UInt8) (UInt8.ofNat n)) = bl (UInt8.ofNat n) := by decide +kernel
  have h := this c.toNat c.toNat_lt
  rw [UInt8.ofNat_toNat] at h
  unfold kY
  simp only [bJ]
  rw [h]
theorem ent_end (F : Nat) (s : Bs) (hs : s.length ≤ 1000000) (n : Nat) (l : List Bs) (hl : l.length + Str.total l ≤ 100000000) (hn1 : n ≥ 1) : dN F s n (l, (-1), ((s.length + 1 : Nat) : Int)) = some (Str.join [32] l) := by
  obtain ⟨m, rfl⟩ : ∃ m, n = m + 1 := ⟨n - 1, by omega⟩;show fG F s (dN F s m) l (-1) ((s.length + 1 : Nat) : Int) = _
  unfold fG iI
  have h1 : ¬ (((s.length + 1 : Nat) : Int) ≤ (s.length : Int)) := by omega
  rw [bF h1, qY (by simp; omega), bJ]
theorem ent_loop (F : Nat) (s : Bs) (hs : s.length ≤ 1000000) : ∀ (n : Nat) (l : List Bs) (fr : Int) (cur : Bs) (i : Nat), s.length + 1 - i < n → i ≤ s.length → l.length ≤ i →
    ((fr = -1 ∧ cur = []) ∨ ∃ f : Nat, fr = (f : Int) ∧ f < i ∧ cur = (s.take i).drop f) → (l ++ wgo cur (s.drop i)).length + Str.total (l ++ wgo cur (s.drop i)) ≤ 100000000 →
    dN F s n (l, fr, (i : Int)) = some (Str.join [32] (l ++ wgo cur (s.drop i))) := by
  intro n
  induction n with
  | zero => intro l fr cur i h; omega
  | succ n ih =>
    intro l fr cur i hn hi hl hf hJ;show fG F s (dN F s n) l fr (i : Int) = _
    unfold fG fF
    have hend : ∀ l : List Bs, l.length + Str.total l ≤ 100000000 → n ≥ 1 → dN F s n (l, (-1), ((s.length + 1 : Nat) : Int)) = some (Str.join [32] l) := ent_end F s hs n
    by_cases h : i < s.length
    · have hd : s.drop i = s[i] :: s.drop (i + 1) := bh h
      have hne : decide ((i : Int) = (s.length : Int)) = false := decide_eq_false (by omega)
      simp (disch := omega) only [bT, hne, Bool.not_false, rd, dr, bJ, gz h, oo, bndc_t, bP, Bool.false_or]
      rw [hd] at hJ ⊢
      cases hb : bl s[i] with
      | true =>
        simp only [wgo, hb, cond_true] at hJ ⊢
        rcases hf with ⟨rfl, rfl⟩ | ⟨f, rfl, hfi, rfl⟩
        · simp only [if_true] at hJ ⊢
          simp (disch := omega) only [Bool.not_true, Bool.false_and, cond_false, Bool.true_and, bF, cV, cd]
          exact ih l (-1) [] (i + 1) (by omega) (by omega) (by omega) (.inl ⟨rfl, rfl⟩) hJ
        · have hc : (s.take i).drop f ≠ [] := by
            intro h2; have := congrArg List.length h2; simp at this; omega
          simp only [hc, if_false] at hJ ⊢
          simp (disch := (first | omega | (simp; omega))) only [Bool.not_true, Bool.false_and, cond_false, Bool.true_and, bT, tm, cF, wG, cV, cd]
          rw [ih (l ++ [(s.take i).drop f]) (-1) [] (i + 1) (by omega) (by omega) (by simp; omega) (.inl ⟨rfl, rfl⟩) (by simpa using hJ)]
          simp
      | false =>
        simp only [wgo, hb, cond_false] at hJ ⊢
        rcases hf with ⟨rfl, rfl⟩ | ⟨f, rfl, hfi, rfl⟩
        · simp (disch := omega) only [Bool.not_false, Bool.true_and, bT, cV, cd]
          have hc : ([] : Bs) ++ [s[i]] = (s.take (i + 1)).drop i := by
            rw [List.take_succ_eq_append_getElem h, List.drop_append_of_le_length (by simp; omega), bn (by simp; omega)]
          rw [hc] at hJ ⊢
          exact ih l (i : Int) _ (i + 1) (by omega) (by omega) (by omega) (.inr ⟨i, rfl, by omega, rfl⟩) hJ
        · simp (disch := omega) only [Bool.not_false, Bool.true_and, bF, Bool.false_and, cond_false, cV, cd]
          have hc : (s.take i).drop f ++ [s[i]] = (s.take (i + 1)).drop f := by
            rw [List.take_succ_eq_append_getElem h, List.drop_append_of_le_length (by simp; omega)]
          rw [hc] at hJ ⊢
          exact ih l (f : Int) _ (i + 1) (by omega) (by omega) (by omega) (.inr ⟨f, rfl, by omega, rfl⟩) hJ
    · have hi2 : i = s.length := by omega
      subst hi2
      have hyes : decide ((s.length : Int) = (s.length : Int)) = true := decide_eq_true rfl
      simp (disch := omega) only [bT, hyes, Bool.not_true, mP, bJ, oo, rg, Bool.true_or, List.drop_length] at hJ ⊢
      rcases hf with ⟨rfl, rfl⟩ | ⟨f, rfl, hfi, rfl⟩
      · simp (disch := omega) only [Bool.false_and, cond_false, Bool.true_and, bF, cV, cd]
        rw [hend l (by simpa [wgo] using hJ) (by omega)]
        simp [wgo, mP, rg]
      · have hc : (s.take s.length).drop f ≠ [] := by
          intro h2; have := congrArg List.length h2; simp at this; omega
        simp only [wgo, hc, if_false] at hJ ⊢
        simp (disch := (first | omega | (simp; omega))) only [Bool.false_and, cond_false, Bool.true_and, bT, tm, cF, wG, cV, cd]
        exact hend _ hJ (by omega)
theorem pG (F : Nat) (s : Bs) (hs : s.length ≤ 1000000) (hF : s.length + 1 < F) : kg F s = some (kM s) := by
  have h1 := wV s []
  have := ent_loop F s hs F [] (-1) [] 0 (by omega) (by omega) (by simp) (.inl ⟨rfl, rfl⟩) (by simp at h1 ⊢; omega)
  rw [← join_wgo]
  simpa [kg] using this
end Go.Pn
namespace Go.Pn
open Go.Pv Go.Av
def lg (c : UInt8) : Option Bs := if c = 38 then some [38, 97, 109, 112, 59] else if c = 60 then some [38, 108, 116, 59] else if c = 62 then some [38, 103, 116, 59] else if c = 34 then some [38, 113, 117, 111, 116, 59] else none
def e1 (c : UInt8) : Bs := (lg c).getD [c]
def enc (s : Bs) : Bs := s.flatMap e1
theorem tj (p : UInt8 → Bool) (h : ∀ k : Fin 256, p (UInt8.ofNat k.val) = true) (b : UInt8) : p b = true := by
  have := h ⟨b.toNat, b.toNat_lt⟩
  simpa using this
theorem wy (c : UInt8) : at_ iR (c.toNat : Int) = lg c := by
  have := tj (fun c => at_ iR (c.toNat : Int) == lg c) (by decide +kernel) c
  simpa using this
theorem tab_ne (c : UInt8) : decide (lg c ≠ some []) = true := by
  have := tj (fun c => decide (lg c ≠ some [])) (by decide +kernel) c
  exact this
theorem td (c : UInt8) : 1 ≤ (e1 c).length ∧ (e1 c).length ≤ 6 := by
  have := tj (fun c => decide (1 ≤ (e1 c).length ∧ (e1 c).length ≤ 6)) (by decide +kernel) c
  exact of_decide_eq_true this
theorem uS {c : UInt8} (h : (lg c).isNone = false) : (lg c).getD [] = e1 c := by
  unfold e1
  cases hc : lg c with
  | none => rw [hc] at h; cases h
  | some l => rfl
theorem qP {c : UInt8} (h : (lg c).isNone = true) : e1 c = [c] := by
  unfold e1
  cases hc : lg c with
  | none => rfl
  | some l => rw [hc] at h; cases h
def dl (s : Bs) : Int := ((enc s).length : Int) - s.length
def sps (s : Bs) : Bool := s.any fun c => !(lg c).isNone
theorem lf (c : UInt8) (r : Bs) : enc (c :: r) = e1 c ++ enc r := rfl
theorem mT (s : Bs) : s.length ≤ (enc s).length ∧ (enc s).length ≤ 6 * s.length := by
  induction s with
  | nil => simp [enc]
  | cons c r ih =>
    have := td c
    rw [lf]
    simp only [List.length_append, List.length_cons]
    omega
theorem enc_no {s : Bs} (h : sps s = false) : enc s = s := by
  induction s with
  | nil => rfl
  | cons c r ih =>
    simp only [sps, List.any_cons, Bool.or_eq_false_iff, Bool.not_eq_false'] at h
    rw [lf, qP h.1, ih h.2]; rfl
theorem qS (c : UInt8) (r : Bs) : sps (c :: r) = (!(lg c).isNone || sps r) := rfl
theorem lay_loop (s : Bs) (hs : s.length ≤ 1000) (n : Int) (hn : 0 ≤ n ∧ n ≤ 10000) : ∀ (k i : Nat) (done buf : Bs), s.length - i < k → i ≤ s.length → (buf.length : Int) = n → buf.take done.length = done → (done.length : Int) + (enc (s.drop i)).length = n →
    eD s n k ((done.length : Int), (i : Int), buf) = some (done ++ enc (s.drop i)) := by
  intro k
  induction k with
  | zero => intro i done buf h; omega
  | succ k ih =>
    intro i done buf hk hi hb ht hl;show fZ s n (eD s n k) (done.length : Int) (i : Int) buf = _
    unfold fZ fX fp
    have hnn : (n.toNat : Int) = n := Int.toNat_of_nonneg hn.1
    by_cases h : i < s.length
    · have hd : s.drop i = s[i] :: s.drop (i + 1) := bh h
      have h8 := s[i].toNat_lt
      have htl := td s[i]
      have hd1 : (done.length : Int).toNat = done.length := Int.toNat_natCast _
      rw [hd, lf] at hl ⊢
      simp only [List.length_append] at hl
      have hgA : ∀ q : Option Bs, grd (cD (s[i].toNat : Int) 256) q = q := fun q => dr (by omega)
      rw [bT (by omega), dr (by omega), bJ, gz h, hgA, bJ, wy, tab_ne, nQ]
      cases hc : (lg s[i]).isNone with
      | false =>
        have e := uS hc
        simp only [Bool.not_false, cond_true]
        rw [jd (by omega), hgA, bJ, e, hd1]
        rw [jd (by omega), jd (by omega), bJ, cV (by omega), cV (by omega), ht]
        have hlen : (done ++ e1 s[i]).length = done.length + (e1 s[i]).length := by simp
        have ec : (done.length : Int) + ((e1 s[i]).length : Int) = ((done ++ e1 s[i]).length : Int) := by rw [hlen]; omega
        rw [ec, cd, ih (i + 1) (done ++ e1 s[i]) _ (by omega) (by omega) (by simp; omega) (by rw [List.take_append_of_le_length (Nat.le_refl _), List.take_length]) (by rw [hlen]; omega)]
        simp
      | true =>
        have e := qP hc
        rw [e] at hl ⊢
        simp only [List.length_singleton] at hl
        simp only [Bool.not_true, cond_false]
        rw [dr (by omega), dr (by omega), bJ, cV (by omega), cV (by omega), hd1]
        have ec : (done.length : Int) + 1 = ((done ++ [s[i]]).length : Int) := by simp
        have hlt : done.length < buf.length := by omega
        have et : (buf.set done.length s[i]).take (done ++ [s[i]]).length = done ++ [s[i]] := by
          rw [List.length_append, List.length_singleton, List.take_succ_eq_append_getElem (by simpa using hlt), List.take_set_of_le (Nat.le_refl _), ht]
          simp
        rw [ec, cd, ih (i + 1) (done ++ [s[i]]) _ (by omega) (by omega) (by simpa using hb) et (by simp; omega)]
        simp
    · have hi2 : s.drop i = [] := bn (by omega)
      rw [hi2] at hl ⊢
      rw [bF (by omega), jd (by omega)]
      have hbl : buf.length = done.length := by simp [enc] at hl; omega
      rw [← hbl, List.take_length] at ht
      rw [ht]; simp [enc]
theorem j3_eq (F : Nat) (s : Bs) (hs : s.length ≤ 1000) (hF : 1000 < F) : dw F s ((s.length : Int) + dl s) (sps s) = some (enc s) := by
  have hl := mT s
  unfold dw dl
  have e : (s.length : Int) + (((enc s).length : Int) - s.length) = (enc s).length := by omega
  rw [e]
  cases h : sps s with
  | false => rw [enc_no h, Bool.not_false, cond_true]
  | true =>
    rw [Bool.not_true, cond_false, dr (by omega)]
    have := lay_loop s hs ((enc s).length : Int) (by omega) F 0 [] (List.replicate (Int.toNat ((enc s).length : Int)) 0) (by omega) (by omega) (by simp) (by simp) (by simp)
    simpa using this
theorem wP (c : UInt8) (r : Bs) : dl (c :: r) = ((e1 c).length : Int) - 1 + dl r := by
  unfold dl; rw [lf]; simp; omega
theorem vB (F : Nat) (hF : 1000 < F) (s : Bs) (hs : s.length ≤ 1000) : ∀ (k i : Nat) (n : Int) (an : Bool), s.length - i < k → i ≤ s.length → 0 ≤ n ∧ n ≤ 1000 + 6 * i →
    eC F s k (n, an, (i : Int)) = dw F s (n + dl (s.drop i)) (an || sps (s.drop i)) := by
  intro k
  induction k with
  | zero => intro i n an h; omega
  | succ k ih =>
    intro i n an hk hi hn;show fY F s (eC F s k) n an (i : Int) = _
    unfold fY fk
    by_cases h : i < s.length
    · have hd : s.drop i = s[i] :: s.drop (i + 1) := bh h
      have h8 := s[i].toNat_lt
      have htl := td s[i]
      have hgA : ∀ q : Option Bs, grd (cD (s[i].toNat : Int) 256) q = q := fun q => dr (by omega)
      rw [bT (by omega), dr (by omega), bJ, gz h, hgA, bJ, wy, tab_ne, nQ, hd, wP]
      cases hc : (lg s[i]).isNone with
      | false =>
        have e := uS hc
        have es := qS s[i] (s.drop (i + 1))
        rw [hc, Bool.not_false, Bool.true_or] at es
        rw [Bool.not_false, cond_true, hgA, bJ, e, cV (by omega), cV (by omega), cV (by omega), cd, ih (i + 1) _ _ (by omega) (by omega) (by omega), es, Bool.true_or, Bool.or_true]
        congr 1; omega
      | true =>
        have e := qP hc
        have es := qS s[i] (s.drop (i + 1))
        rw [hc, Bool.not_true, Bool.false_or] at es
        rw [Bool.not_true, cond_false, cV (by omega), cd, ih (i + 1) _ _ (by omega) (by omega) (by omega), es, e]
        congr 1; simp
    · have hi2 : s.drop i = [] := bn (by omega)
      rw [bF (by omega), hi2]
      have : dl [] = 0 := rfl
      rw [this]; simp [sps]
end Go.Pn
namespace Go.Pn
open Go.Pv Go.Av
def ct (c : UInt8) (s : Bs) : Nat := s.count c
theorem qg (a c : UInt8) (s : Bs) : ct a (c :: s) = ct a s + if c = a then 1 else 0 := by
  unfold ct
  rw [List.count_cons]
  by_cases h : c = a <;> simp [h]
theorem tab_no {c : UInt8} (h1 : c ≠ 38) (h2 : c ≠ 60) (h3 : c ≠ 62) (h4 : c ≠ 34) : lg c = none := by
  unfold lg
  rw [if_neg h1, if_neg h2, if_neg h3, if_neg h4]
theorem tots (s : Bs) : dl s = (ct 34 s : Int) * 5 + (ct 62 s : Int) * 3 + (ct 60 s : Int) * 3 + (ct 38 s : Int) * 4 ∧ sps s = decide (0 < ct 34 s + ct 62 s + ct 60 s + ct 38 s) := by
  induction s with
  | nil => exact ⟨rfl, rfl⟩
  | cons c r ih =>
    obtain ⟨i1, i2⟩ := ih
    rw [wP, qS, i1, i2, qg 34, qg 62, qg 60, qg 38]
    by_cases h1 : c = 38
    · have e : (e1 c).length = 5 := by rw [h1]; rfl
      have f : (lg c).isNone = false := by rw [h1]; rfl
      rw [e, f, Bool.not_false, Bool.true_or, if_neg (show ¬ c = 34 by rw [h1]; decide), if_neg (show ¬ c = 62 by rw [h1]; decide), if_neg (show ¬ c = 60 by rw [h1]; decide), if_pos h1]
      exact ⟨by omega, Eq.symm (decide_eq_true (by omega))⟩
    by_cases h2 : c = 60
    · have e : (e1 c).length = 4 := by rw [h2]; rfl
      have f : (lg c).isNone = false := by rw [h2]; rfl
      rw [e, f, Bool.not_false, Bool.true_or, if_neg (show ¬ c = 34 by rw [h2]; decide), if_neg (show ¬ c = 62 by rw [h2]; decide), if_pos h2, if_neg h1]
      exact ⟨by omega, Eq.symm (decide_eq_true (by omega))⟩
    by_cases h3 : c = 62
    · have e : (e1 c).length = 4 := by rw [h3]; rfl
      have f : (lg c).isNone = false := by rw [h3]; rfl
      rw [e, f, Bool.not_false, Bool.true_or, if_neg (show ¬ c = 34 by rw [h3]; decide), if_pos h3, if_neg h2, if_neg h1]
      exact ⟨by omega, Eq.symm (decide_eq_true (by omega))⟩
    by_cases h4 : c = 34
    · have e : (e1 c).length = 6 := by rw [h4]; rfl
      have f : (lg c).isNone = false := by rw [h4]; rfl
      rw [e, f, Bool.not_false, Bool.true_or, if_pos h4, if_neg h3, if_neg h2, if_neg h1]
      exact ⟨by omega, Eq.symm (decide_eq_true (by omega))⟩
    · have f := tab_no h1 h2 h3 h4
      have e : (e1 c).length = 1 := by unfold e1; rw [f]; rfl
      have f' : (lg c).isNone = true := by rw [f]; rfl
      rw [e, f', Bool.not_true, Bool.false_or, if_neg h1, if_neg h2, if_neg h3, if_neg h4]
      exact ⟨by omega, rfl⟩
theorem mI (F : Nat) (s : Bs) (hs : s.length ≤ 1000) (k i : Nat) (c : UInt8) (l : Bs) (n : Int) (an : Bool) (hi : i < 4) (he : at_ entRep (i : Int) = [c]) (ht : lg c = some l) (hl : 1 ≤ l.length ∧ l.length ≤ 6) (hn : 0 ≤ n ∧ n ≤ 1000000) :
    cM F s (k + 1) (n, an, (i : Int)) = cM F s k (n + (ct c s : Int) * ((l.length : Int) - 1), an || decide (0 < ct c s), ((i + 1 : Nat) : Int)) := by
  show eE F s (cM F s k) n an (i : Int) = _
  unfold eE fm
  have hc : ct c s ≤ s.length := List.count_le_length
  have h8 := c.toNat_lt
  have hcb : Go.Lib.countByte s (at_ [c] 0) = ct c s := rfl
  have h4 : entRep.length = 4 := rfl
  rw [bT (by omega), dr (by omega), bJ, he, jd (by simp), bJ, hcb]
  generalize ct c s = q at hc ⊢
  have hm : 0 ≤ (q : Int) * ((l.length : Int) - 1) ∧ (q : Int) * ((l.length : Int) - 1) ≤ 1000 * 5 := by
    refine ⟨Int.mul_nonneg (by omega) (by omega), ?_⟩;exact Int.mul_le_mul (by omega) (by omega) (by omega) (by omega)
  by_cases h0 : q = 0
  · rw [h0, decide_eq_true (show ((0 : Nat) : Int) = 0 from rfl), Bool.not_true, cond_false, cV (by omega), cd]
    rw [decide_eq_false (show ¬ 0 < 0 by omega), Bool.or_false]
    have : n + ((0 : Nat) : Int) * ((l.length : Int) - 1) = n := by simp
    rw [this]
  · have a0 : at_ [c] 0 = c := rfl
    rw [decide_eq_false (show ¬ ((q : Int) = 0) by omega), Bool.not_false, cond_true, dr (by simp), bJ, a0, dr (by omega), bJ, wy, ht]
    have e : (Option.getD (some l) [] : Bs) = l := rfl
    rw [e, cV (by omega), cV (by omega), cV (by omega), cV (by omega), cd, decide_eq_true (show 0 < q by omega), Bool.or_true]
theorem long_end (F : Nat) (s : Bs) (k : Nat) (n : Int) (an : Bool) : cM F s (k + 1) (n, an, ((4 : Nat) : Int)) = dw F s n an := by
  show eE F s (cM F s k) n an ((4 : Nat) : Int) = _
  unfold eE
  have h4 : entRep.length = 4 := rfl
  rw [bF (by omega)]
theorem wA (F : Nat) (hF : 1000 < F) (s : Bs) (hs : s.length ≤ 1000) : fK F s = some (enc s) := by
  have h4 : entRep.length = 4 := rfl
  unfold fK
  rw [cV (by omega)]
  by_cases hL : (entRep.length : Int) * 8 ≤ (s.length : Int)
  · rw [bT hL]
    obtain ⟨k, hk⟩ : ∃ k, F = k + 1 + 1 + 1 + 1 + 1 := ⟨F - 5, by omega⟩
    have c1 : ct 34 s ≤ s.length := List.count_le_length
    have c2 : ct 62 s ≤ s.length := List.count_le_length
    have c3 : ct 60 s ≤ s.length := List.count_le_length
    have e0 : cM F s F ((s.length : Int), false, 0) = cM F s (k + 1 + 1 + 1 + 1 + 1) ((s.length : Int), false, ((0 : Nat) : Int)) := by rw [← hk]; rfl
    rw [e0, mI F s hs _ 0 34 [38, 113, 117, 111, 116, 59] _ _ (by omega) rfl rfl (by decide) (by omega), mI F s hs _ 1 62 [38, 103, 116, 59] _ _ (by omega) rfl rfl (by decide) (by simp; omega),
      mI F s hs _ 2 60 [38, 108, 116, 59] _ _ (by omega) rfl rfl (by decide) (by simp; omega), mI F s hs _ 3 38 [38, 97, 109, 112, 59] _ _ (by omega) rfl rfl (by decide) (by simp; omega)]
    refine (long_end F s k _ _).trans ?_;obtain ⟨t1, t2⟩ := tots s
    have := j3_eq F s hs hF
    rw [t1, t2] at this
    rw [← this]
    have ea : ((((false || decide (0 < ct 34 s)) || decide (0 < ct 62 s)) || decide (0 < ct 60 s)) || decide (0 < ct 38 s)) = decide (0 < ct 34 s + ct 62 s + ct 60 s + ct 38 s) := by
      rw [Bool.eq_iff_iff]
      simp only [Bool.false_or, Bool.or_eq_true, decide_eq_true_iff]
      omega
    rw [ea]
    congr 1
    simp
    omega
  · rw [bF hL]
    have := vB F hF s hs F 0 (s.length : Int) false (by omega) (by omega) (by omega)
    refine Eq.trans this ?_
    rw [List.drop_zero, Bool.false_or]
    exact j3_eq F s hs hF
theorem xe (s : Bs) (hs : s.length ≤ 1000) : ∀ (k i : Nat) (out : Bs), s.length - i < k → i ≤ s.length → out.length ≤ 6 * i →
    gg s k (out, (i : Int)) = some (out ++ enc (s.drop i)) := by
  intro k
  induction k with
  | zero => intro i out h; omega
  | succ k ih =>
    intro i out hk hi ho;show iX s (gg s k) out (i : Int) = _
    unfold iX lJ eo
    by_cases h : i < s.length
    · have hd : s.drop i = s[i] :: s.drop (i + 1) := bh h
      have go : ∀ w : Bs, e1 s[i] = w → w.length ≤ 6 → gg s k (out ++ w, ((i + 1 : Nat) : Int)) = some (out ++ enc (s.drop i)) := by
        intro w hw hl
        rw [ih (i + 1) (out ++ w) (by omega) (by omega) (by simp; omega), hd, lf, hw]; simp
      rw [bT (by omega), dr (by omega), bJ, gz h]
      by_cases h1 : s[i] = 38
      · rw [bT h1, cF (by simp; omega), bJ, cV (by omega), cd]
        exact go _ (by rw [h1]; rfl) (by decide)
      rw [bF h1]
      by_cases h2 : s[i] = 60
      · rw [bT h2, cF (by simp; omega), bJ, cV (by omega), cd]
        exact go _ (by rw [h2]; rfl) (by decide)
      rw [bF h2]
      by_cases h3 : s[i] = 62
      · rw [bT h3, cF (by simp; omega), bJ, cV (by omega), cd]
        exact go _ (by rw [h3]; rfl) (by decide)
      rw [bF h3]
      by_cases h4 : s[i] = 34
      · rw [bT h4, cF (by simp; omega), bJ, cV (by omega), cd]
        exact go _ (by rw [h4]; rfl) (by decide)
      rw [bF h4, dr (by omega), bJ, cF (by simp; omega), bJ, cV (by omega), cd]
      exact go [s[i]] (by unfold e1; rw [tab_no h1 h2 h3 h4]; rfl) (by simp)
    · have hd : s.drop i = [] := bn (by omega)
      rw [bF (by omega), hd]; simp [enc]
theorem renc_eq (F : Nat) (hF : 1000 < F) (s : Bs) (hs : s.length ≤ 1000) : oc F s = some (enc s) := by
  have := xe s hs F 0 [] (by omega) (by omega) (by simp)
  unfold oc
  simpa using this
end Go.Pn
namespace Go.Dg
open Go.Pv Go.Av
open Go.Pn (enc e1 lf mT wA renc_eq)
abbrev It := Int × Int × (List UInt8) × (List UInt8) × (List UInt8) × (List UInt8) × Int
def unt : Bs := [40, 117, 110, 116, 105, 116, 108, 101, 100, 41]
def ttl (t : Bs) : Bs := if t = [] then unt else t
def h1 : Bs := [60, 108, 105, 62, 60, 97, 32, 104, 114, 101, 102, 61, 34]
def h2 : Bs := [34, 62]
def h3 : Bs := [60, 47, 97, 62, 60, 47, 108, 105, 62, 10]
def U : Bs := [60, 117, 108, 62, 10]
def V : Bs := [60, 47, 117, 108, 62, 10]
def hOf (x : It) : Bs := (((h1 ++ enc x.2.2.2.2.1) ++ h2) ++ enc (ttl x.2.2.2.1)) ++ h3
def Ok (x : It) : Prop := x.2.2.1.length ≤ 300 ∧ x.2.2.2.1.length ≤ 300 ∧ x.2.2.2.2.1.length ≤ 300 ∧ x.2.2.2.2.2.1.length ≤ 300
theorem tc {t : Bs} (h : t.length ≤ 300) : (ttl t).length ≤ 300 := by
  unfold ttl unt
  split
  · simp
  · exact h
theorem HtmlC_eq (F : Nat) (hF : 1000 < F) (a1 a2 a3 a4 : Bs) (a5 : Int) (q2 : a2.length ≤ 300) (q3 : a3.length ≤ 300) : kZ F a1 a2 a3 a4 a5 = some ((((h1 ++ enc a3) ++ h2) ++ enc a2) ++ h3) := by
  have l2 := mT a2
  have l3 := mT a3
  unfold kZ h1 h2 h3
  rw [wA F hF a3 (by omega), bP, cF (by simp; omega), bJ, cF (by simp; omega), bJ, wA F hF a2 (by omega), bP, cF (by simp; omega), bJ, cF (by simp; omega), bJ]
theorem wK {x : It} (h : Ok x) : (hOf x).length = 25 + (enc x.2.2.2.2.1).length + (enc (ttl x.2.2.2.1)).length ∧ (hOf x).length ≤ 5000 := by
  obtain ⟨_, q2, q3, _⟩ := h
  have l2 := mT (ttl x.2.2.2.1)
  have l3 := mT x.2.2.2.2.1
  have := tc q2
  unfold hOf h1 h2 h3
  simp only [List.length_append, List.length_cons, List.length_nil]
  omega
theorem yi (F : Nat) (hF : 1000 < F) (a2 : Bs) (l : List It) (h2 : a2.length ≤ 100) (hl : l.length ≤ 100) (hok : ∀ x ∈ l, Ok x) : ∀ (n i : Nat) (out : Bs), l.length - i < n → i ≤ l.length → out.length ≤ 5000 * i + 100 →
    dP F a2 l n ((i : Int), out) = some ((out ++ (l.drop i).flatMap hOf) ++ a2) := by
  intro n
  induction n with
  | zero => intro i out h; omega
  | succ n ih =>
    intro i out hn hi ho;show iM F a2 l (dP F a2 l n) (i : Int) out = _
    unfold iM
    by_cases h : i < l.length
    · have hd : l.drop i = l[i] :: l.drop (i + 1) := bh h
      have hx := hok _ (List.getElem_mem h)
      have hlen := wK hx
      obtain ⟨q1, q2, q3, q4⟩ := hx
      have key : ∀ t : Bs, t = ttl l[i].2.2.2.1 → fI F (i : Int) out l[i] (dP F a2 l n) t = some ((out ++ (l.drop i).flatMap hOf) ++ a2) := fun t ht => by
        subst ht
        unfold fI
        rw [HtmlC_eq F hF _ _ _ _ _ (tc q2) q3, bP]
        show grd (okW out (hOf l[i])) _ = _
        rw [ke (by omega), bJ, cV (by omega), cd]
        show dP F a2 l n (((i + 1 : Nat) : Int), out ++ hOf l[i]) = _
        rw [ih (i + 1) _ (by omega) (by omega) (by simp only [List.length_append]; omega), hd, List.flatMap_cons, List.append_assoc]
        simp only [List.append_assoc]
      rw [bT (by omega), dr (by omega), bJ, gz h]
      by_cases he : l[i].2.2.2.1 = []
      · rw [bT he]; exact key _ (by unfold ttl; rw [if_pos he]; rfl)
      · rw [bF he]; exact key _ (by unfold ttl; rw [if_neg he])
    · rw [bF (by omega), bn (by omega)]
      unfold iL
      rw [ke (by omega), bJ, ke (by simp only [List.length_append, List.length_nil]; omega), List.flatMap_nil, List.append_nil]
theorem tu (F : Nat) (hF : 1000 < F) (l : List It) (hl : l.length ≤ 100) (hok : ∀ x ∈ l, Ok x) : gV F l = some ((U ++ l.flatMap hOf) ++ V) := by
  unfold gV oC
  rw [ke (by simp), bJ]
  have := yi F hF V l (by unfold V; simp) hl hok F 0 U (by omega) (by omega) (by unfold U; simp)
  rw [List.drop_zero] at this
  have e : dP F [60, 47, 117, 108, 62, 10] l F (0, [] ++ [60, 117, 108, 62, 10]) = some ((U ++ l.flatMap hOf) ++ V) := this
  rw [e, bP]
theorem few_loop (l : List It) (hl : l.length ≤ 100) : ∀ (n i : Nat), l.length - i < n → i ≤ l.length → ∃ b, gJ l n (i : Int) = some b ∧ (b = true → ∀ x ∈ l.drop i, Ok x) := by
  intro n
  induction n with
  | zero => intro i h; omega
  | succ n ih =>
    intro i hn hi;show ∃ b, gK l (gJ l n) (i : Int) = some b ∧ _
    unfold gK
    by_cases h : i < l.length
    · have hd : l.drop i = l[i] :: l.drop (i + 1) := bh h
      rw [bT (by omega), dr (by omega), bJ, gz h]
      cases hc : ((((decide (300 < (l[i].2.2.1.length : Int))) || (decide (300 < (l[i].2.2.2.1.length : Int)))) || (decide (300 < (l[i].2.2.2.2.1.length : Int)))) || (decide (300 < (l[i].2.2.2.2.2.1.length : Int)))) with
      | true => exact ⟨false, by rw [ctr], fun h => by cases h⟩
      | false =>
        obtain ⟨b, e, hb⟩ := ih (i + 1) (by omega) (by omega);refine ⟨b, by rw [cfl, cV (by omega), cd]; exact e, fun ht x hx => ?_⟩
        rw [hd] at hx
        rcases List.mem_cons.1 hx with rfl | hx
        · simp only [Bool.or_eq_false_iff, decide_eq_false_iff_not] at hc
          exact ⟨by omega, by omega, by omega, by omega⟩
        · exact hb ht x hx
    · rw [bF (by omega)]
      exact ⟨true, rfl, fun _ x hx => by rw [bn (by omega)] at hx; cases hx⟩
theorem Few_eq (F : Nat) (hF : 1000 < F) (l : List It) (m : Nat) (hm : m ≤ 100) : ∃ b, gw F l (m : Int) = some b ∧ (b = true → l.length ≤ m ∧ ∀ x ∈ l, Ok x) := by
  unfold gw
  by_cases h : m < l.length
  · rw [bT (by omega)]; exact ⟨false, rfl, fun h => by cases h⟩
  · rw [bF (by omega)]
    obtain ⟨b, e, hb⟩ := few_loop l (by omega) F 0 (by omega) (by omega);exact ⟨b, e, fun ht => ⟨by omega, by simpa using hb ht⟩⟩
theorem tn : ∀ l : List It, (∀ x ∈ l, Ok x) → (l.flatMap hOf).length ≤ 5000 * l.length
  | [], _ => by simp
  | x :: l, h => by
    have := (wK (h x (List.mem_cons_self ..))).2
    have := tn l fun y hy => h y (List.mem_cons_of_mem _ hy)
    rw [List.flatMap_cons, List.length_append, List.length_cons]; omega
end Go.Dg
namespace Go.Pn
open Go.Pv Go.Av
def sp (c : UInt8) : Bs → List Bs
  | [] => [[]]
  | b :: r => if b = c then [] :: sp c r else match sp c r with
    | [] => [[b]]
    | p :: ps => (b :: p) :: ps
theorem sp_ne (c : UInt8) (s : Bs) : sp c s ≠ [] := by
  cases s with
  | nil => simp [sp]
  | cons b r => unfold sp; split; simp; split <;> simp
theorem ql (b c : UInt8) (l : Bs) : Go.Lib.index (b :: l) [c] = if b = c then 0 else if Go.Lib.index l [c] = -1 then -1 else Go.Lib.index l [c] + 1 := by
  by_cases h : b = c
  · subst h; simp [Go.Lib.index]
  · simp [Go.Lib.index, h, Ne.symm h]
def prep (cur : Bs) : List Bs → List Bs
  | [] => [cur]
  | p :: ps => (cur ++ p) :: ps
theorem nv {b c : UInt8} (h : ¬ b = c) (r : Bs) : sp c (b :: r) = prep [b] (sp c r) := by
  simp only [sp, h, if_false]
  cases sp c r <;> rfl
theorem nw (c : UInt8) (r : Bs) : sp c (c :: r) = [] :: sp c r := by simp [sp]
theorem rU (c : UInt8) : ∀ (s : Bs), Go.Lib.splitK [c] 0 (s.count c) s = sp c s
  | [] => rfl
  | b :: l => by
    have ih := rU c l
    have hi := ql b c l
    have hge := Go.Lib.index_ge l [c]
    by_cases h : b = c
    · subst h
      rw [List.count_cons_self, nw, Go.Lib.splitK, hi]
      simp [ih]
    · rw [List.count_cons_of_ne h, nv h, ← ih]
      cases hk : l.count c with
      | zero => simp [Go.Lib.splitK, prep]
      | succ k =>
        rw [Go.Lib.splitK, Go.Lib.splitK, hi]
        simp only [h, if_false]
        by_cases hm : Go.Lib.index l [c] = -1
        · simp [hm, prep]
        · obtain ⟨j, hj⟩ := Int.eq_ofNat_of_zero_le (show 0 ≤ Go.Lib.index l [c] by omega)
          have h2 : ¬ (Go.Lib.index l [c] + 1 = -1) := by omega
          have h3 : (Go.Lib.index l [c] + 1).toNat = j + 1 := by omega
          have h4 : (Go.Lib.index l [c]).toNat = j := by omega
          simp [hm, h2, h3, h4, prep]
theorem oT (s : Bs) (c : UInt8) : Go.Lib.split s [c] = sp c s := by
  unfold Go.Lib.split
  rw [Go.Lib.count_one, rU]
theorem mC (c : UInt8) (s : Bs) : (sp c s).length ≤ s.length + 1 := by
  induction s with
  | nil => simp [sp]
  | cons b r ih =>
    by_cases h : b = c
    · subst h; rw [nw]; simp; omega
    · rw [nv h]
      cases hs : sp c r with
      | nil => simp [prep]
      | cons p ps => rw [hs] at ih; simp [prep] at ih ⊢; omega
theorem mu (c : UInt8) (s : Bs) : Str.total (sp c s) + (sp c s).length = s.length + 1 := by
  induction s with
  | nil => simp [sp, Str.total]
  | cons b r ih =>
    by_cases h : b = c
    · subst h; rw [nw]; simp [Str.total]; omega
    · rw [nv h]
      cases hs : sp c r with
      | nil => exact absurd hs (sp_ne c r)
      | cons p ps => rw [hs] at ih; simp [prep, Str.total] at ih ⊢; omega
end Go.Pn
namespace Go.Pn
open Go.Pv Go.Av
def dU : List Bs → List Bs
  | [] => []
  | p :: r => if kM p = [] then dU r else kM p :: dU r
theorem of_loop (F : Nat) (ps : List Bs) (qs : List Bs) (hF : 2000000 < F ∨ ∀ q ∈ qs, q.length + 1 < F) (hq : qs.length = ps.length) (hp : ps.length ≤ 1000000) (hl : ∀ (i : Nat) (h : i < ps.length), dW F ps[i] = some (qs[i]'(by omega)))
    (hb : ∀ q ∈ qs, q.length ≤ 1000000) (hJ : (dU qs).length + Str.total (dU qs) ≤ 100000000) : ∀ (n : Nat) (i : Nat) (out : List Bs), ps.length - i < n → i ≤ ps.length → out.length ≤ i → out ++ dU (qs.drop i) = dU qs →
    fD F ps n (out, (i : Int)) = some (Str.join [10] (dU qs)) := by
  intro n
  induction n with
  | zero => intro i out h; omega
  | succ n ih =>
    intro i out hn hi ho hout;show iB F ps (fD F ps n) out (i : Int) = _
    unfold iB gn iA
    by_cases h : i < ps.length
    · have h' : i < qs.length := by omega
      have hd : qs.drop i = qs[i] :: qs.drop (i + 1) := bh h'
      have htr : kg F qs[i] = some (kM qs[i]) := pG F _ (hb _ (List.getElem_mem h')) (by
        have h1 := hb _ (List.getElem_mem h')
        rcases hF with hF | hF
        · omega
        · exact hF _ (List.getElem_mem h'))
      simp (disch := omega) only [bT, dr, bJ, gz h, hl i h, bP, htr, cV, cd]
      rw [hd] at hout
      by_cases h0 : kM qs[i] = []
      · simp only [h0, decide_true, Bool.not_true, cond_false]
        exact ih _ _ (by omega) (by omega) (by omega) (by simpa [dU, h0] using hout)
      · simp (disch := (first | omega | (simp; done) | (simp; omega))) only [h0, decide_false, Bool.not_false, cond_true, cF]
        exact ih _ _ (by omega) (by omega) (by simp; omega) (by simpa [dU, h0] using hout)
    · have hi2 : i = ps.length := by omega
      subst hi2
      rw [← hq, List.drop_length] at hout
      simp only [dU, List.append_nil] at hout
      subst hout
      simp (disch := (first | omega | (simp; done) | (simp; omega))) only [bF, qY, bJ]
theorem mt (s : Bs) : (kM s).length ≤ s.length := by
  have h : ∀ s : Bs, (kM s).length ≤ s.length ∧ (T1 s).length ≤ s.length ∧ (T2 s).length ≤ s.length + 1 ∧ (s ≠ [] → (T2 s).length ≤ s.length + 1) := by
    intro s
    induction s with
    | nil => simp [kM, T1, T2]
    | cons c r ih =>
      obtain ⟨h1, h2, h3, _⟩ := ih
      cases hb : bl c <;> simp [kM, T1, T2, hb] <;> omega
  exact (h s).1
end Go.Pn
namespace Go.Pn
open Go.Pv Go.Av
def low (c : UInt8) : UInt8 := bif (decide (65 ≤ (c.toNat : Int))) && (decide ((c.toNat : Int) ≤ 90)) then (c + 97) - 65 else c
theorem vA (s : Bs) (hs : s.length ≤ 1000000) : ∀ (n i : Nat), s.length - i < n → i ≤ s.length →
    dY s n ((i : Int), (s.take i).map low ++ s.drop i) = some (s.map low) := by
  intro n
  induction n with
  | zero => intro i h; omega
  | succ n ih =>
    intro i hn hi;show fA s (dY s n) (i : Int) ((s.take i).map low ++ s.drop i) = _
    unfold fA eP fy
    have hl : ((s.take i).map low ++ s.drop i).length = s.length := by simp; omega
    by_cases h : i < s.length
    · have hg : ((s.take i).map low ++ s.drop i)[i]'(by omega) = s[i] := by
        rw [List.getElem_append_right (by simp; omega)]
        simp [show min i s.length = i by omega]
      have hset : ∀ x, ((s.take i).map low ++ s.drop i).set i x = (s.take i).map low ++ x :: s.drop (i + 1) := by
        intro x
        rw [List.set_append_right _ _ (by simp; omega), bh h]
        have : i - (List.map low (List.take i s)).length = 0 := by simp; omega
        rw [this]; rfl
      have hnx : ((s.take (i + 1)).map low ++ s.drop (i + 1)) = (s.take i).map low ++ low s[i] :: s.drop (i + 1) := by
        rw [List.take_succ_eq_append_getElem h, List.map_append, List.append_assoc]; rfl
      have hsame : (s.take i).map low ++ s.drop i = (s.take i).map low ++ s[i] :: s.drop (i + 1) := by rw [bh h]
      simp (disch := omega) only [bT, dr, bJ, gz (show i < ((s.take i).map low ++ s.drop i).length by omega), hg, cV, cd, Int.toNat_natCast, hset]
      have := ih (i + 1) (by omega) (by omega)
      rw [hnx] at this
      cases hc : ((decide (65 ≤ ((s[i]).toNat : Int))) && (decide (((s[i]).toNat : Int) ≤ 90))) with
      | true =>
        have e : low s[i] = s[i] + 97 - 65 := by unfold low; rw [hc]; rfl
        rw [e] at this
        simpa using this
      | false =>
        have e : low s[i] = s[i] := by unfold low; rw [hc]; rfl
        rw [e] at this
        rw [hsame]
        simpa using this
    · have hi2 : i = s.length := by omega
      subst hi2
      simp (disch := (first | omega | (simp; done) | (simp; omega))) only [bF, jd, List.take_length, List.drop_length, List.append_nil]
theorem uU (F : Nat) (s : Bs) (hs : s.length ≤ 1000000) (hF : s.length < F) : gm F s = some (s.map low) := by
  unfold gm
  rw [cF (by omega)]
  simpa using vA s hs F 0 (by omega) (by omega)
theorem one_in (F : Nat) (l k : Bs) (i : Nat) (h : i < l.length) : gx F l (i : Int) k = some (decide (0 ≤ Go.Lib.indexByte k l[i])) := by
  unfold gx
  have h' : (i : Int) < (l.length : Int) := by omega
  simp (disch := omega) only [bJ, gz h, grdc_dAt]
  simp [h']
end Go.Pn
namespace Go.Pn
open Go.Pv Go.Av
theorem decR_pos (s : Bs) (p : Nat) : 1 ≤ (pR s p).2 := by
  unfold pR Utf8.decode
  simp only
  repeat' split
  all_goals simp
theorem md (n : Int) : (eI n).length ≤ 4 := by
  unfold eI Utf8.encode
  simp only
  repeat' split
  all_goals simp
theorem tY (n : Int) (h : 128 ≤ n) : 2 ≤ (eI n).length ∧ ((eI n).length = 2 → ¬ (59 : UInt8) = at_ (eI n) 1) := by
  have hc : ¬ (if Utf8.valid n = true then n.toNat else Utf8.runeError) < 128 := by
    split
    · omega
    · decide
  unfold eI Utf8.encode
  simp only
  generalize (if Utf8.valid n = true then n.toNat else Utf8.runeError) = c at hc ⊢
  rw [if_neg hc]
  by_cases h2 : c < 2048
  · rw [if_pos h2]
    refine ⟨by simp, fun _ => ?_⟩;show ¬ (59 : UInt8) = UInt8.ofNat (128 + c % 64);intro e
    have := congrArg UInt8.toNat e
    rw [UInt8.toNat_ofNat'] at this
    have e59 : (59 : UInt8).toNat = 59 := rfl
    omega
  · rw [if_neg h2]
    split <;> simp
theorem ui (F : Nat) (hF : 5 ≤ F) (r : Int) : ∃ j, lP F [38, 59] r = some j := by
  unfold lP
  by_cases h1 : 0 ≤ r ∧ r < 128
  · simp only [h1, decide_true, Bool.and_self, cond_true]; exact ⟨_, rfl⟩
  · have hf : ((decide (0 ≤ r)) && (decide (r < 128))) = false := by
      cases h : (decide (0 ≤ r)) && (decide (r < 128)) with
      | false => rfl
      | true => exact absurd (by simpa using h) h1
    rw [hf, cond_false]
    by_cases h2 : r = 65533
    · rw [bT h2]
      obtain ⟨m, rfl⟩ : ∃ m, F = m + 3 := ⟨F - 3, by omega⟩
      have e0 : pR [38, 59] 0 = (38, 1) := by decide +kernel
      have e1 : pR [38, 59] 1 = (59, 1) := by decide +kernel
      refine ⟨-1, ?_⟩;show gl [38, 59] (jX [38, 59] (m + 2)) 0 = _
      unfold gl
      simp only [e0]
      show gl [38, 59] (jX [38, 59] (m + 1)) 1 = _
      unfold gl
      simp only [e1]
      rfl
    · rw [bF h2]
      have hv : ∃ b, la F r = some b ∧ (b = true → 0 ≤ r) := by
        unfold la
        by_cases ha : 0 ≤ r ∧ r < 55296
        · refine ⟨true, ?_, fun _ => ha.1⟩; simp [ha]
        · by_cases hb : 57343 < r ∧ r ≤ 1114111
          · refine ⟨true, ?_, fun _ => by omega⟩; simp [hb]
          · refine ⟨false, ?_, fun h => by cases h⟩
            have e1 : ((decide (0 ≤ r)) && (decide (r < 55296))) = false := by
              cases h : (decide (0 ≤ r)) && (decide (r < 55296)) with
              | false => rfl
              | true => exact absurd (by simpa using h) ha
            have e2 : ((decide (57343 < r)) && (decide (r ≤ 1114111))) = false := by
              cases h : (decide (57343 < r)) && (decide (r ≤ 1114111)) with
              | false => rfl
              | true => exact absurd (by simpa using h) hb
            rw [e1, e2]; rfl
      obtain ⟨b, hb, hp⟩ := hv
      rw [hb, bP]
      cases b with
      | false => exact ⟨-1, rfl⟩
      | true =>
        have hr : 128 ≤ r := by have := hp rfl; omega
        obtain ⟨k1, k2⟩ := tY r hr
        have k3 := md r
        obtain ⟨m, rfl⟩ : ∃ m, F = m + 1 := ⟨F - 1, by omega⟩;refine ⟨-1, ?_⟩
        simp (disch := omega) only [Bool.not_true, cond_false, bJ, cV]
        show jY [38, 59] (eI r) (lD [38, 59] (eI r) m) = _
        unfold jY jW
        by_cases h3 : (eI r).length = 2
        · have e1 : ((eI r).length : Int) - 1 = 1 := by omega
          have e2 : at_ ([38, 59] : Bs) 1 = 59 := rfl
          have e3 : cB ([38, 59] : Bs) (1 + 1) = [] := rfl
          rw [e1]
          simp (disch := (first | omega | (simp; done) | (simp; omega))) only [bT, dr, bJ, e2, decide_eq_false (k2 h3), Bool.not_false, nQ, cV, hH, e3]
          rfl
        · have : ¬ ((eI r).length : Int) - 1 < (([38, 59] : Bs).length : Int) := by simp; omega
          rw [bF this]
theorem pD (s : Bs) (c : UInt8) : -1 ≤ Go.Lib.indexByte s c ∧ Go.Lib.indexByte s c < s.length := by
  induction s with
  | nil => simp [Go.Lib.indexByte]
  | cons b r ih =>
    unfold Go.Lib.indexByte
    split
    · first | (simp; done) | (simp; omega)
    · split
      · first | (simp; done) | (simp; omega)
      · rename_i h
        have h' : ¬ Go.Lib.indexByte r c = -1 := by simpa using h
        simp; omega
theorem vH (s cs : Bs) : -1 ≤ Go.Lib.indexAny s cs ∧ Go.Lib.indexAny s cs < s.length := by
  induction s with
  | nil => simp [Go.Lib.indexAny]
  | cons b r ih =>
    unfold Go.Lib.indexAny
    split
    · first | (simp; done) | (simp; omega)
    · split
      · first | (simp; done) | (simp; omega)
      · rename_i h
        have h' : ¬ Go.Lib.indexAny r cs = -1 := by simpa using h
        simp; omega
theorem sQ (F : Nat) (hF : 5 ≤ F) (s : Bs) : ∀ (n y : Nat), s.length - y < n → ∃ j, kb F s [38, 59] n y = some j ∧ -1 ≤ j ∧ j < s.length := by
  intro n
  induction n with
  | zero => intro y h; omega
  | succ n ih =>
    intro y hy;show ∃ j, kc F s [38, 59] (kb F s [38, 59] n) y = some j ∧ _
    unfold kc ka
    by_cases h : y < s.length
    · rw [bT h]
      obtain ⟨j, hj⟩ := ui F hF ((pR s y).1 : Int)
      rw [hj, bP]
      by_cases h0 : 0 ≤ j
      · rw [bT h0]; exact ⟨_, rfl, by omega, by omega⟩
      · rw [bF h0]
        have := decR_pos s y
        exact ih _ (by omega)
    · rw [bF h]; exact ⟨-1, rfl, by omega, by omega⟩
theorem vI (F : Nat) (s : Bs) (hF : 20 ≤ F) : ∃ j, nS F s [38, 59] = some j ∧ -1 ≤ j ∧ j < s.length := by
  unfold nS
  by_cases h : 8 < s.length
  · obtain ⟨h1, h2⟩ := vH s [38, 59]
    refine ⟨Go.Lib.indexAny s [38, 59], ?_, h1, h2⟩
    simp [h]
  · have e : ((decide (8 < s.length)) && (decide (2 ≤ ([38, 59] : Bs).length))) = false := by simp [h]
    rw [e, cond_false]
    unfold oH tv jZ
    have e3 : decide ((8 : Int) < (s.length : Int)) = false := decide_eq_false (by omega)
    simp (disch := (first | omega | (simp; done) | (simp; omega))) only [bF, bP, e3, Bool.not_false, nQ]
    exact sQ F (by omega) s F 0 (by omega)
theorem sY (F : Nat) (s : Bs) (hs : s.length ≤ 1000) : ∃ b, iQ F s [95] = some b := by
  unfold iQ nS oH ic lP
  have e : ((decide (8 < s.length)) && (decide (2 ≤ ([95] : Bs).length))) = false := by simp
  have e2 : at_ ([95] : Bs) 0 = 95 := rfl
  have e3 : pQ [95] = true := by decide
  have e4 : ((95 : UInt8).toNat : Int) = 95 := rfl
  rw [e, cond_false]
  simp (disch := (first | omega | (simp; done) | (simp; omega))) only [e3, nQ, qb, bF, bT, dr, bJ, e2, e4, grd_J]
  exact ⟨_, rfl⟩
theorem qc (x : Int) : 0 ≤ IntKind.u64.wrap x := by
  have : IntKind.u64.wrap x = x % 18446744073709551616 := rfl
  rw [this]; omega
def Ok3 (r : Option (Int × Int)) : Prop := ∃ v e, r = some (v, e) ∧ 0 ≤ v ∧ (e = 0 ∨ e = 1 ∨ e = 2)
theorem uint_loop (F : Nat) (s : Bs) (b c : Int) (hb : b = 10 ∨ b = 16) (hs : s.length ≤ 1000) : ∀ (n i : Nat) (v : Int), s.length - i < n → 0 ≤ v → Ok3 (cj F s b c n (false, v, (i : Int))) := by
  intro n
  induction n with
  | zero => intro i v h; omega
  | succ n ih =>
    intro i v hn hv;show Ok3 (dB F s b c (cj F s b c n) false v (i : Int))
    unfold dB ek eW
    by_cases h : i < s.length
    · have key : ∀ d : UInt8, Ok3 (cU b c false v (i : Int) (cj F s b c n) d) := by
        intro d
        unfold cU dA
        cases decide (((Go.Av.toB b).toNat : Int) ≤ (d.toNat : Int)) with
        | true => exact ⟨0, 2, rfl, by omega, by omega⟩
        | false =>
          rw [cond_false]
          cases decide (c ≤ v) with
          | true => exact ⟨_, 1, rfl, qc _, by omega⟩
          | false =>
            rw [cond_false]
            generalize ((decide (IntKind.u64.wrap ((IntKind.u64.wrap (v * (IntKind.u64.wrap b))) + (IntKind.u64.wrap (d.toNat : Int))) < IntKind.u64.wrap (v * (IntKind.u64.wrap b)))) || (decide (IntKind.u64.wrap ((IntKind.u64.wrap (1 * 2 ^ min (Int.toNat (IntKind.u64.wrap 64)) IntKind.u64.bits)) - 1) < IntKind.u64.wrap ((IntKind.u64.wrap (v * (IntKind.u64.wrap b))) + (IntKind.u64.wrap (d.toNat : Int)))))) = q
            cases q with
            | true => exact ⟨_, 1, rfl, qc _, by omega⟩
            | false =>
              rw [cond_false, cV (by omega), cd]
              exact ih _ _ (by omega) (qc _)
      have hb0 : decide (b = 0) = false := decide_eq_false (by omega)
      simp (disch := omega) only [bT, dr, bJ, gz h, hb0, Bool.and_false, cond_false, bP, pl]
      generalize ((decide (48 ≤ ((s[i]).toNat : Int))) && (decide (((s[i]).toNat : Int) ≤ 57))) = q1
      cases q1 with
      | true => exact key _
      | false =>
        rw [cond_false]
        generalize ((decide (97 ≤ ((s[i] ||| 32).toNat : Int))) && (decide ((((bif decide (97 ≤ ((s[i] ||| 32).toNat : Int)) then (s[i] ||| 32) else default) : UInt8).toNat : Int) ≤ 122))) = q2
        cases q2 with
        | true => exact key _
        | false => exact ⟨0, 2, rfl, by omega, by omega⟩
    · rw [bF (by omega), rg]
      exact ⟨v, 0, rfl, hv, by omega⟩
theorem uint_tot (F : Nat) (s : Bs) (b : Int) (hb : b = 10 ∨ b = 16) (hs : s.length ≤ 1000) (hF : s.length < F) : Ok3 (ew F s b 0) := by
  unfold ew ei ej dk
  by_cases h0 : s = []
  · rw [bT h0]; exact ⟨0, 2, rfl, by omega, by omega⟩
  · rw [bF h0]
    have h2 : ((decide (2 ≤ b)) && (decide (b ≤ 36))) = true := by rcases hb with rfl | rfl <;> rfl
    have hw := qc 64
    rw [h2, nQ, jd rfl]
    have go := fun c => uint_loop F s b c hb hs F 0 0 (by omega) (by omega)
    rcases hb with rfl | rfl
    · rw [bT rfl, jd hw, cF (by omega)]; exact go _
    · rw [bF (by omega), bT rfl, jd hw, cF (by omega)]; exact go _
theorem int_tot (F : Nat) (s : Bs) (b : Int) (hb : b = 10 ∨ b = 16) (hs : s.length ≤ 1000) (hF : s.length < F) (h43 : at_ s 0 ≠ 43) (h45 : at_ s 0 ≠ 45) : ∃ v e, eM F s b 0 = some (v, e) := by
  have hi : ∃ v e, iz F s b 0 = some (v, e) ∧ (e = 0 ∨ e = 1 ∨ e = 2) := by
    unfold iz dX fx eO
    by_cases h0 : s = []
    · rw [bT h0]; exact ⟨0, 2, rfl, by omega⟩
    · have hp : 0 < s.length := List.length_pos_iff.2 h0
      obtain ⟨v, e, hv, hv0, he⟩ := uint_tot F s b hb hs hF
      have e1 : IntKind.u64.wrap (1 * 2 ^ min (Int.toNat (IntKind.u64.wrap 63)) IntKind.u64.bits) = 9223372036854775808 := by decide +kernel
      have e2 : (0 : Int) ≤ IntKind.u64.wrap 63 := by decide +kernel
      have e3 : IntKind.u64.wrap (9223372036854775808 - 1) = 9223372036854775807 := by decide +kernel
      simp (disch := omega) only [bF, dr, bJ, hv, eS, e1, e3, jd e2, cV, jd, Bool.not_false, Bool.true_and, Bool.false_and, cond_false]
      rcases he with rfl | rfl | rfl
      · rw [show ((!decide ((0 : Int) = 0)) && (!decide ((0 : Int) = 1))) = false by rfl, cond_false]
        by_cases hb : (9223372036854775808 : Int) ≤ v
        · rw [bT hb]; exact ⟨_, 1, rfl, by omega⟩
        · rw [bF hb, cV (by omega)]; exact ⟨_, 0, rfl, by omega⟩
      · rw [show ((!decide ((1 : Int) = 0)) && (!decide ((1 : Int) = 1))) = false by rfl, cond_false]
        by_cases hb : (9223372036854775808 : Int) ≤ v
        · rw [bT hb]; exact ⟨_, 1, rfl, by omega⟩
        · rw [bF hb, cV (by omega)]; exact ⟨_, 0, rfl, by omega⟩
      · rw [show ((!decide ((2 : Int) = 0)) && (!decide ((2 : Int) = 1))) = true by rfl, cond_true]
        exact ⟨_, 2, rfl, by omega⟩
  obtain ⟨v, e, hv, he⟩ := hi
  unfold eM
  rw [hv, eS]
  rcases he with rfl | rfl | rfl
  · exact ⟨_, _, rfl⟩
  · rw [show (!decide ((1 : Int) = 0)) = true by rfl, cond_true, qb (by omega), jd (by omega)]; exact ⟨_, _, rfl⟩
  · rw [show (!decide ((2 : Int) = 0)) = true by rfl, cond_true, qb (by omega), jd (by omega)]; exact ⟨_, _, rfl⟩
theorem rune_tot (F : Nat) (r : Int) : ∃ o b, mz F r = some (o, b) ∧ o.length ≤ 4 := by
  have fin : -2147483648 ≤ r ∧ r ≤ 2147483647 → ∃ o b, grd (okJ r) (lt (eI r) fun x17 => some (x17, true)) = some (o, b) ∧ o.length ≤ 4 := by
    intro h; rw [grd_J h]; exact ⟨_, _, rfl, md r⟩
  unfold mz mQ
  simp only [pl]
  cases hA : ((decide (r = 9)) || (decide (r = 10))) || (decide (r = 13)) with
  | true =>
    have : r = 9 ∨ r = 10 ∨ r = 13 := by simpa [or_assoc] using hA
    simp only [Bool.not_true, Bool.false_and, cond_false]
    exact fin (by omega)
  | false =>
    simp only [Bool.not_false, Bool.true_and, cond_true]
    cases h7 : (decide (32 ≤ r)) && (decide (r ≤ 55295)) with
    | true =>
      have : 32 ≤ r ∧ r ≤ 55295 := by simpa using h7
      simp only [Bool.not_true, Bool.false_and, cond_false]
      exact fin (by omega)
    | false =>
      simp only [Bool.not_false, Bool.true_and, cond_true]
      cases h10 : (decide (57344 ≤ r)) && (decide (r ≤ 65533)) with
      | true =>
        have : 57344 ≤ r ∧ r ≤ 65533 := by simpa using h10
        simp only [Bool.not_true, Bool.false_and, cond_false]
        exact fin (by omega)
      | false =>
        simp only [Bool.not_false, Bool.true_and, cond_true]
        cases h13 : (decide (65536 ≤ r)) && (decide (r ≤ 1114111)) with
        | true =>
          have : 65536 ≤ r ∧ r ≤ 1114111 := by simpa using h13
          simp only [Bool.not_true, Bool.false_and, cond_false]
          exact fin (by omega)
        | false => exact ⟨[], false, rfl, by simp⟩
theorem qA (F : Nat) (s : Bs) (b : Int) (hb : b = 10 ∨ b = 16) (hs : s.length ≤ 1000) (hF : s.length < F) : ∃ o k, ie F s b = some (o, k) ∧ o.length ≤ 4 := by
  obtain ⟨cb, hcb⟩ := sY F s hs
  have no : ∃ o k, (some (([] : Bs), false) : Option (Bs × Bool)) = some (o, k) ∧ o.length ≤ 4 := ⟨[], false, rfl, by simp⟩
  unfold ie
  cases s with
  | nil => simp [mP, bJ, rg]
  | cons c r =>
    have h0 : decide ((c :: r) = []) = false := decide_eq_false (by simp)
    have ha : at_ (c :: r) 0 = c := rfl
    have hg : ∀ (q : Bool) (k : Option (Bs × Bool)), fV q (cD 0 (c :: r).length) k = k := fun q k => wL (fun _ => by simp)
    simp only [hg, h0, bJ, ha, hcb, pl, Bool.false_or]
    by_cases h1 : c = 43
    · simp [h1]
    · by_cases h2 : c = 45
      · simp [h2]
      · by_cases h3 : c = 95
        · simp [h3]
        · simp only [h1, h2, h3, decide_false, Bool.or_self, Bool.false_or, Bool.not_false, cond_true]
          cases cb with
          | true => exact no
          | false =>
            obtain ⟨v, e, hv⟩ := int_tot F (c :: r) b hb hs hF (by rw [ha]; exact h1) (by rw [ha]; exact h2)
            rw [cond_false, hv, eS]
            cases hz : (!decide (e = 0)) with
            | true => exact no
            | false =>
              obtain ⟨o, k, ho, hl⟩ := rune_tot F v
              rw [cond_false, ho, eS]
              exact ⟨o, k, rfl, hl⟩
theorem sign_tot (F : Nat) (s : Bs) (hs : s.length ≤ 1000) (hF : s.length < F) : ∃ o k, my F s = some (o, k) ∧ o.length ≤ 4 := by
  have htp : ∀ p, (Go.Lib.trimPrefix s p).length ≤ s.length := by
    intro p; unfold Go.Lib.trimPrefix; split <;> simp
  unfold my mJ
  simp only [bP, bJ]
  generalize ([(([97, 109, 112] : List UInt8), (38 : Int)), (([108, 116] : List UInt8), 60), (([103, 116] : List UInt8), 62), (([113, 117, 111, 116] : List UInt8), 34), (([97, 112, 111, 115] : List UInt8), 39)] : List (List UInt8 × Int)) = m
  cases Go.Av.mhas m s with
  | true => exact ⟨_, _, rfl, md _⟩
  | false =>
    rw [cond_false]
    cases Go.Lib.hasPrefix s [35, 120] with
    | true =>
      have := htp [35, 120]
      obtain ⟨o, k, ho, hl⟩ := qA F (Go.Lib.trimPrefix s [35, 120]) 16 (.inr rfl) (by omega) (by omega)
      rw [cond_true, ho, eS]; exact ⟨o, k, rfl, hl⟩
    | false =>
      rw [cond_false]
      cases Go.Lib.hasPrefix s [35] with
      | true =>
        have := htp [35]
        obtain ⟨o, k, ho, hl⟩ := qA F (Go.Lib.trimPrefix s [35]) 10 (.inl rfl) (by omega) (by omega)
        rw [cond_true, ho, eS]; exact ⟨o, k, rfl, hl⟩
      | false => exact ⟨[], false, rfl, by simp⟩
theorem xt (F : Nat) (s : Bs) (h1 : 1 ≤ s.length) (hs : s.length ≤ 1000) (hF : s.length + 20 < F) : ∃ o k, kX F s = some (o, k) ∧ (k = 0 ∨ (3 ≤ k ∧ k ≤ s.length ∧ o.length ≤ 4)) := by
  have no : ∃ o k, (some (([] : Bs), (0 : Int)) : Option (Bs × Int)) = some (o, k) ∧ (k = 0 ∨ (3 ≤ k ∧ k ≤ s.length ∧ o.length ≤ 4)) := ⟨[], 0, rfl, .inl rfl⟩
  have hl : (cB s 1).length = s.length - 1 := by simp [cB]
  obtain ⟨j, hj, hj1, hj2⟩ := vI F (cB s 1) (by omega)
  have ha : pQ [38, 59] = true := by decide
  unfold kX mQ
  simp (disch := (first | omega | (simp; done) | (simp; omega))) only [hH, bJ, ha, nQ, qb, hj, bP]
  by_cases h : 1 ≤ j ∧ j ≤ 10
  · have hx : ((decide (1 ≤ j)) && (decide (j ≤ 10))) = true := by simp [h]
    simp (disch := (first | omega | (simp; done) | (simp; omega))) only [hx, Bool.not_true, Bool.not_false, rd, cV, dr, Bool.false_or]
    cases decide (at_ s (j + 1) = 38) with
    | true => exact no
    | false =>
      have hsub : (sub s 1 (j + 1)).length ≤ s.length := by simp [sub]; omega
      obtain ⟨o, k, ho, hol⟩ := sign_tot F (sub s 1 (j + 1)) (by omega) (by omega)
      simp (disch := (first | omega | (simp; done) | (simp; omega))) only [cond_false, tm, bJ, ho, eS]
      cases k with
      | false => exact no
      | true =>
        simp (disch := (first | omega | (simp; done) | (simp; omega))) only [Bool.not_true, cond_false, cV]
        exact ⟨o, j + 2, rfl, .inr ⟨by omega, by omega, hol⟩⟩
  · have hx : ((decide (1 ≤ j)) && (decide (j ≤ 10))) = false := by
      cases hq : (decide (1 ≤ j)) && (decide (j ≤ 10)) with
      | false => rfl
      | true => exact absurd (by simpa using hq) h
    simp only [hx, Bool.not_false, Bool.not_true, mP, Bool.true_or, cond_true]
    exact no
theorem gone_tot (F : Nat) : ∀ (n : Nat) (s : Bs) (ok : Bool) (acc : Bs), s.length < n → s.length ≤ 1000 → s.length + 20 < F → acc.length + 2 * s.length ≤ 10000 → ∃ o k, fE F n (s, ok, acc) = some (o, k) ∧ o.length ≤ acc.length + 2 * s.length := by
  intro n
  induction n with
  | zero => intro s ok acc h; omega
  | succ n ih =>
    intro s ok acc hn hs hF ha;show ∃ o k, iH F (fE F n) s ok acc = some (o, k) ∧ _
    unfold iH gq
    obtain ⟨hi1, hi2⟩ := pD s 38
    by_cases h : Go.Lib.indexByte s 38 < 0
    · simp (disch := (first | omega | (simp; done) | (simp; omega))) only [bJ, bT, ke]
      exact ⟨_, _, rfl, by simp; omega⟩
    · obtain ⟨i, hi⟩ : ∃ i : Nat, Go.Lib.indexByte s 38 = i := ⟨(Go.Lib.indexByte s 38).toNat, by omega⟩
      have il : i < s.length := by omega
      have l1 : (to_ s (i : Int)).length = i := by simp [wx]; omega
      have l2 : (cB s (i : Int)).length = s.length - i := by simp [vf]
      obtain ⟨o, k, ho, hk⟩ := xt F (cB s (i : Int)) (by omega) (by omega) (by omega)
      simp (disch := (first | omega | (simp; done) | (simp; omega))) only [bJ, hi, bF, hH, ke, ho, eS]
      rcases hk with rfl | ⟨k3, kl, ol⟩
      · have l3 : (cB (cB s (i : Int)) 1).length = s.length - i - 1 := by simp [cB, l2]; omega
        simp (disch := (first | omega | (simp; done) | (simp; omega))) only [decide_true, cond_true, ke, bJ, hH]
        obtain ⟨o', k', e1, e2⟩ := ih (cB (cB s (i : Int)) 1) false (acc ++ to_ s (i : Int) ++ [38]) (by omega) (by omega) (by omega) (by simp; omega);exact ⟨o', k', e1, by simp at e2; omega⟩
      · have l3 : (cB (cB s (i : Int)) k).length = s.length - i - k.toNat := by simp [cB]; omega
        simp (disch := (first | omega | (simp; done) | (simp; omega))) only [bF, ke, bJ, hH]
        obtain ⟨o', k', e1, e2⟩ := ih (cB (cB s (i : Int)) k) ok (acc ++ to_ s (i : Int) ++ o) (by omega) (by omega) (by omega) (by simp; omega);exact ⟨o', k', e1, by simp at e2; omega⟩
theorem xl (F : Nat) (s : Bs) (hs : s.length ≤ 1000) (hF : s.length + 20 < F) : ∃ q, dW F s = some q ∧ q.length ≤ 2 * s.length := by
  obtain ⟨o, k, h1, h2⟩ := gone_tot F F s true [] (by omega) hs hF (by simp; omega)
  unfold dW oA
  rw [h1, eS]
  exact ⟨o, rfl, by simpa using h2⟩
end Go.Pn
namespace Go.Pn
open Go.Pv Go.Av
theorem wI (F : Nat) (l k : Bs) (i : Nat) : ∃ b, gx F l (i : Int) k = some b ∧ (b = true → i < l.length) := by
  by_cases h : i < l.length
  · exact ⟨_, one_in F l k i h, fun _ => h⟩
  · refine ⟨false, ?_, fun h => by cases h⟩
    unfold gx
    have hd : decide ((i : Int) < (l.length : Int)) = false := decide_eq_false (by omega)
    simp only [hd, mP, bJ, Bool.false_and]
theorem index_up (s u : Bs) : Go.Lib.index s u ≤ s.length := by
  induction s with
  | nil => unfold Go.Lib.index; split <;> simp
  | cons b r ih =>
    unfold Go.Lib.index
    split
    · simp; omega
    · split
      · simp; omega
      · simp; omega
theorem cut_rest (x u : Bs) (hx : 1 ≤ x.length) (hu : 1 ≤ u.length) : (Go.Lib.cut x u).2.1.length + 1 ≤ x.length := by
  unfold Go.Lib.cut
  split
  · simp; omega
  · simpa using hx
theorem j3_tot (F : Nat) (x l : Bs) (i : Nat) (hx : 1 ≤ x.length) (hs : x.length ≤ 1000) (hF : x.length < F) (hl : l.length ≤ 1000) (hlF : l.length < F) (hi : i ≤ l.length) : ∃ nm q, gt F x l (i : Int) = some (nm, q) ∧ q.length + 1 ≤ x.length := by
  have hc := cut_rest x [62] hx (by simp)
  have ht : (to_ l (i : Int)).length ≤ l.length := by simp [wx]; omega
  unfold gt fJ
  simp (disch := (first | omega | (simp; done) | (simp; omega))) only [hH, bJ, uU F (to_ l (i : Int)) (by omega) (by omega), bP, qb]
  generalize hg : (to_ l (i : Int)).map low = nm
  have hnm : nm.length ≤ l.length := by rw [← hg]; simp; omega
  generalize ((!(decide ((l.length : Int) < (x.length : Int) - 1))) && ((decide (nm = ([115, 99, 114, 105, 112, 116] : List UInt8))) || (decide (nm = ([115, 116, 121, 108, 101] : List UInt8))))) = cnd
  cases cnd with
  | false => exact ⟨nm, _, rfl, hc⟩
  | true =>
    have hm : ((Go.Lib.cut x [62]).2.1.map low).length = (Go.Lib.cut x [62]).2.1.length := by simp
    simp (disch := (first | omega | (simp; done) | (simp; omega))) only [cond_true, uU F (Go.Lib.cut x [62]).2.1 (by omega) (by omega), bP, cF, bJ, qb, hm]
    have h1 := index_up ((Go.Lib.cut x [62]).2.1.map low) ([60, 47] ++ nm)
    have h2 := Go.Lib.index_ge ((Go.Lib.cut x [62]).2.1.map low) ([60, 47] ++ nm)
    generalize Go.Lib.index ((Go.Lib.cut x [62]).2.1.map low) ([60, 47] ++ nm) = j at h1 h2 ⊢
    unfold gu fJ
    by_cases hj : j < 0
    · rw [bT hj, hH (by omega), bJ]
      exact ⟨nm, _, rfl, by simp [cB]; omega⟩
    · rw [bF hj, hH (by omega), bJ]
      exact ⟨nm, _, rfl, by simp [cB]; omega⟩
theorem mark_tot (F : Nat) (x : Bs) (ys : List Bs) (sb : Bs) (hx : 1 ≤ x.length) (hs : x.length ≤ 1000) (hF : x.length < F) : ∃ nm q, mA F x ys sb = some (nm, q) ∧ q.length + 1 ≤ x.length := by
  have h1 : (cB x 1).length = x.length - 1 := by simp [cB]
  have h2 : (Go.Lib.trimPrefix (cB x 1) [47]).length ≤ x.length - 1 := by
    unfold Go.Lib.trimPrefix; split <;> first | omega | (simp; omega)
  unfold mA
  simp (disch := (first | omega | (simp; done) | (simp; omega))) only [hH, bJ, cV]
  generalize Go.Lib.trimPrefix (cB x 1) [47] = l at h2 ⊢
  have key : ∀ (n i : Nat), l.length - i < n → i ≤ l.length → ∃ nm q, iO F x l n (i : Int) = some (nm, q) ∧ q.length + 1 ≤ x.length := by
    intro n
    induction n with
    | zero => intro i h; omega
    | succ n ih =>
      intro i hn hi;show ∃ nm q, iP F x l (iO F x l n) (i : Int) = some (nm, q) ∧ _
      unfold iP
      obtain ⟨b, hb, hlt⟩ := wI F l oV i
      rw [hb, bP]
      cases b with
      | true =>
        have := hlt rfl
        rw [cond_true, cV (by omega), cd]
        exact ih _ (by omega) (by omega)
      | false => exact j3_tot F x l i hx hs hF (by omega) (by omega) hi
  exact key F 0 (by omega) (by omega)
theorem rR (a b : List Bs) : Str.total (a ++ b) = Str.total a + Str.total b := by
  induction a with
  | nil => simp [Str.total]
  | cons x r ih => simp [Str.total, ih]; omega
theorem end_eq (F : Nat) (p : Bs) (ys : List Bs) (sb : Bs) (h1 : sb.length ≤ 100000) (h2 : ys.length ≤ 100000) : mU F p ys sb = some (ys ++ [sb]) := by
  unfold mU kd
  simp (disch := (first | omega | (simp; done) | (simp; omega))) only [ke, cF, bJ]
theorem all_tot (F : Nat) (br : List (List UInt8 × Int)) : ∀ (n : Nat) (s : Bs) (ys : List Bs) (acc : Bs), s.length < n → s.length ≤ 1000 → s.length < F → ys.length + s.length ≤ 2000 → acc.length + s.length ≤ 2000 →
    ∃ ps, ig F n (br, s, ys, acc) = some ps ∧ Str.total ps ≤ Str.total ys + acc.length + s.length ∧ ps.length ≤ ys.length + s.length + 1 := by
  intro n
  induction n with
  | zero => intro s ys acc h; omega
  | succ n ih =>
    intro s ys acc hn hs hF hy ha;show ∃ ps, fM F (ig F n) br s ys acc = some ps ∧ _
    unfold fM
    obtain ⟨hi1, hi2⟩ := pD s 60
    by_cases h : Go.Lib.indexByte s 60 < 0
    · simp (disch := (first | omega | (simp; done) | (simp; omega))) only [bJ, bT, ke, end_eq, bP]
      refine ⟨_, rfl, ?_, by simp⟩
      rw [rR]; simp [Str.total]; omega
    · obtain ⟨i, hi⟩ : ∃ i : Nat, Go.Lib.indexByte s 60 = i := ⟨(Go.Lib.indexByte s 60).toNat, by omega⟩
      have il : i < s.length := by omega
      have l1 : (to_ s (i : Int)).length = i := by simp [wx]; omega
      have l2 : (cB s (i : Int)).length = s.length - i := by simp [vf]
      have l3 : (acc ++ to_ s (i : Int)).length = acc.length + i := by simp [l1]
      obtain ⟨b, hb, _⟩ := wI F (cB s (i : Int)) mF 1
      rw [show ((1 : Nat) : Int) = 1 from rfl] at hb
      simp (disch := (first | omega | (simp; done) | (simp; omega))) only [bJ, hi, bF, hH, ke, hb, bP]
      cases b with
      | false =>
        have l4 : (cB (cB s (i : Int)) 1).length = s.length - i - 1 := by first | (simp [cB, l2]; done) | (simp [cB, l2]; omega)
        have l5 : (acc ++ to_ s (i : Int) ++ [60]).length = acc.length + i + 1 := by first | (simp [l1]; done) | (simp [l1]; omega)
        simp (disch := (first | omega | (simp; done) | (simp; omega))) only [Bool.not_false, cond_true, ke, bJ, hH]
        obtain ⟨ps, e1, e2, e3⟩ := ih (cB (cB s (i : Int)) 1) ys (acc ++ to_ s (i : Int) ++ [60]) (by omega) (by omega) (by omega) (by omega) (by omega);exact ⟨ps, e1, by omega, by omega⟩
      | true =>
        obtain ⟨nm, q, hm, hq⟩ := mark_tot F (cB s (i : Int)) ys (acc ++ to_ s (i : Int)) (by omega) (by omega) (by omega)
        simp (disch := (first | omega | (simp; done) | (simp; omega))) only [Bool.not_true, cond_false, hm, eS, end_eq, bP]
        cases decide (0 < Go.Av.mget br nm) with
        | true =>
          have l6 : (ys ++ [acc ++ to_ s (i : Int)]).length = ys.length + 1 := by simp
          have l7 : Str.total (ys ++ [acc ++ to_ s (i : Int)]) = Str.total ys + (acc.length + i) := by rw [rR]; simp [Str.total, l1]
          obtain ⟨ps, e1, e2, e3⟩ := ih q (ys ++ [acc ++ to_ s (i : Int)]) [] (by omega) (by omega) (by omega) (by omega) (by simp; omega)
          simp only [List.length_nil] at e2
          exact ⟨ps, e1, by omega, by omega⟩
        | false =>
          obtain ⟨ps, e1, e2, e3⟩ := ih q ys (acc ++ to_ s (i : Int)) (by omega) (by omega) (by omega) (by omega) (by omega);exact ⟨ps, e1, by omega, by omega⟩
theorem uh (qs : List Bs) : Str.total (dU qs) ≤ Str.total qs ∧ (dU qs).length ≤ qs.length := by
  induction qs with
  | nil => simp [dU, Str.total]
  | cons q r ih =>
    have := mt q
    unfold dU
    split <;> simp [Str.total] <;> omega
def brsL : List (List UInt8 × Int) := (fB 100000).getD []
theorem brsL_eq : fB 100000 = some brsL := rfl
theorem of_tot (s : Bs) (hs : s.length ≤ 1000) : ∃ qs, mw 100000 s = some (Str.join [10] (dU qs)) ∧ (Str.join [10] (dU qs)).length ≤ 4000 := by
  obtain ⟨ps, hps, ht, hn⟩ := all_tot 100000 brsL (100000 + 1) s [] [] (by omega) hs (by omega) (by simp; omega) (by simp; omega)
  simp only [Str.total, List.length_nil] at ht hn
  have hall : oI 100000 s [] [] = some ps := by
    unfold oI
    rw [brsL_eq, bP]
    exact hps
  have hmem : ∀ p ∈ ps, p.length ≤ 1000 := fun p hp => by
    have : ∀ l : List Bs, p ∈ l → p.length ≤ Str.total l := by
      intro l
      induction l with
      | nil => intro h; cases h
      | cons x r ih =>
        intro h
        rcases List.mem_cons.1 h with rfl | h
        · simp [Str.total]
        · have := ih h; simp [Str.total]; omega
    have := this ps hp; omega
  have hlo : ∀ p ∈ ps, dW 100000 p = some ((dW 100000 p).getD []) ∧ ((dW 100000 p).getD []).length ≤ 2 * p.length := fun p hp => by
    obtain ⟨q, h1, h2⟩ := xl 100000 p (hmem p hp) (by have := hmem p hp; omega)
    rw [h1]; exact ⟨rfl, h2⟩
  have htq : Str.total (ps.map fun p => (dW 100000 p).getD []) ≤ 2 * Str.total ps := by
    have : ∀ l : List Bs, (∀ p ∈ l, ((dW 100000 p).getD []).length ≤ 2 * p.length) → Str.total (l.map fun p => (dW 100000 p).getD []) ≤ 2 * Str.total l := by
      intro l
      induction l with
      | nil => intro _; simp [Str.total]
      | cons x r ih =>
        intro h
        have h1 := h x (by simp)
        have h2 := ih (fun p hp => h p (by simp [hp]))
        simp only [List.map_cons, Str.total]; omega
    exact this ps (fun p hp => (hlo p hp).2)
  generalize hqs : (ps.map fun p => (dW 100000 p).getD []) = qs at htq
  have hlen : qs.length = ps.length := by rw [← hqs]; simp
  have hq : ∀ q ∈ qs, q.length ≤ 2000 := fun q hq => by
    rw [← hqs] at hq
    obtain ⟨p, hp, rfl⟩ := List.mem_map.1 hq
    have h1 := (hlo p hp).2
    have h2 := hmem p hp
    omega
  obtain ⟨hL1, hL2⟩ := uh qs;refine ⟨qs, ?_, ?_⟩
  · unfold mw
    rw [hall, bP]
    have := of_loop 100000 ps qs (.inr (fun q h => by have := hq q h; omega)) hlen (by omega) (fun i hi => by
      subst hqs
      rw [List.getElem_map]
      exact (hlo _ (List.getElem_mem hi)).1) (fun q h => by have := hq q h; omega) (by omega) 100000 0 [] (by omega) (by omega) (by simp) (by simp)
    exact this
  · cases hL : dU qs with
    | nil => simp [Str.join]
    | cons x r =>
      rw [hL] at hL1 hL2
      have : (Str.rest [10] r).length = Str.total r + r.length := by
        clear hL hL1 hL2
        induction r with
        | nil => rfl
        | cons y r ih => simp [Str.rest, Str.total, ih]; omega
      simp only [Str.total, List.length_cons] at hL1 hL2
      simp only [Str.join, List.length_append, this]; omega
end Go.Pn
namespace Go.Pn
open Go.Pv Go.Av
def wr (n : Nat) (l : Bs) : List Bs → List Bs
  | [] => [l]
  | w :: r => if l.length + 1 + w.length ≤ n then wr n (l ++ ([32] ++ w)) r else l :: wr n w r
theorem xj {L : List Bs} {l : Bs} (h : l ∈ L) : l.length ≤ Str.total L := by
  induction L with
  | nil => cases h
  | cons x r ih =>
    rcases List.mem_cons.1 h with rfl | h
    · simp [Str.total]
    · have := ih h; simp [Str.total]; omega
end Go.Pn
namespace Go.Pn
open Go.Pv Go.Av
theorem oS (k : Nat) : ∀ (ws : List Bs) (l : Bs), (wr k l ws).length ≤ ws.length + 1
  | [], l => by simp [wr]
  | w :: r, l => by
    unfold wr
    split
    · have := oS k r (l ++ ([32] ++ w)); simp only [List.length_cons]; omega
    · have := oS k r w; simp; omega
def lw (k : Nat) (l : Bs) : List Bs := match sp 32 (kM l) with | [] => [] | w :: ws => wr k w ws
theorem pa (k : Nat) (l : Bs) : (lw k l).length ≤ l.length + 2 := by
  unfold lw
  have h1 := mC 32 (kM l)
  have h2 := mt l
  split
  · simp
  · rename_i w ws h
    rw [h] at h1
    have := oS k ws w
    simp at h1; omega
theorem wrapG (a2 : Int) (k : Nat) (hk : a2 = k) (y : Int) (W : List Bs) (rec : ((List Bs) × Int) → Option (List Bs)) : ∀ (n i : Nat) (out : List Bs) (line : Bs), W.length - i < n → i ≤ W.length → out.length + (W.length - i) ≤ 100000000 → line.length + Str.total (W.drop i) + (W.length - i) ≤ 500000 → W.length ≤ 500000 →
    dM a2 y W rec n (out, line, false, (i : Int)) = fq y rec (out ++ wr k line (W.drop i)) := by
  subst hk;intro n
  induction n with
  | zero => intro i out line h; omega
  | succ n ih =>
    intro i out line hn hi ho hB hW;show eF (k : Int) y W rec (dM (k : Int) y W rec n) out line false (i : Int) = _
    unfold eF dL ga
    by_cases h : i < W.length
    · have hd : W.drop i = W[i] :: W.drop (i + 1) := bh h
      have ht := Str.total_drop W i h
      simp (disch := (first | omega | (simp; done) | (simp; omega))) only [bT, dr, bJ, gz h, cond_false, cV, cF, cd]
      rw [hd]
      by_cases hc : line.length + 1 + W[i].length ≤ k
      · have hc' : ((line.length + 1 : Nat) : Int) + (W[i].length : Int) ≤ (k : Int) := by omega
        rw [bT hc', ih (i + 1) out _ (by omega) (by omega) (by omega) (by simp; omega) hW]
        simp only [wr]; rw [if_pos hc]
      · have hc' : ¬ ((line.length + 1 : Nat) : Int) + (W[i].length : Int) ≤ (k : Int) := by omega
        rw [bF hc', ih (i + 1) _ _ (by omega) (by omega) (by simp; omega) (by omega) hW]
        simp only [wr]; rw [if_neg hc]; simp
    · have hi2 : i = W.length := by omega
      subst hi2
      simp (disch := (first | omega | (simp; done) | (simp; omega))) only [bF, cF, bJ, List.drop_length, wr]
def lws (k : Nat) (ls : List Bs) : List Bs := ls.flatMap (lw k)
theorem qX (k : Nat) (l : Bs) (r : List Bs) : lws k (l :: r) = lw k l ++ lws k r := by simp [lws]
theorem px (F : Nat) (a2 : Int) (k : Nat) (hk : a2 = k) (hF : 15000 < F) (ls : List Bs) (hl : ∀ l ∈ ls, l.length ≤ 5000) (hn : ls.length ≤ 5001) : ∀ (n i : Nat) (out : List Bs), ls.length - i < n → i ≤ ls.length → out.length ≤ 10000 * i →
    ce F a2 ls n (out, (i : Int)) = some (out ++ lws k (ls.drop i)) := by
  intro n
  induction n with
  | zero => intro i out h; omega
  | succ n ih =>
    intro i out hni hi ho;show gc F a2 ls (ce F a2 ls n) out (i : Int) = _
    unfold gc gb
    by_cases h : i < ls.length
    · have hd : ls.drop i = ls[i] :: ls.drop (i + 1) := bh h
      have h6 := hl _ (List.getElem_mem h)
      have htl := mt ls[i]
      have hln := mC 32 (kM ls[i])
      have htt := mu 32 (kM ls[i])
      have hlw := pa k ls[i]
      cases he : sp 32 (kM ls[i]) with
      | nil => exact absurd he (sp_ne _ _)
      | cons w ws =>
        rw [he] at hln htt
        simp only [Str.total, List.length_cons] at hln htt
        have elw : lw k ls[i] = wr k w ws := by unfold lw; rw [he]
        have e32 : Go.Lib.split (kM ls[i]) [32] = w :: ws := by rw [oT, he]
        simp (disch := (first | omega | (simp; done) | (simp; omega))) only [bT, dr, bJ, gz h, pG F ls[i] (by omega) (by omega), bP, qb, jd, e32]
        obtain ⟨F', rfl⟩ : ∃ F', F = F' + 1 := ⟨F - 1, by omega⟩;show eF a2 (i : Int) (w :: ws) (ce (F' + 1) a2 ls n) (dM a2 (i : Int) (w :: ws) (ce (F' + 1) a2 ls n) F') out [] true 0 = _
        unfold eF dL
        have e1 : at_ (w :: ws) 0 = w := rfl
        simp (disch := (first | omega | (simp; done) | (simp; omega))) only [bT, dr, bJ, e1, cond_true, cV]
        rw [show (0 : Int) + 1 = ((1 : Nat) : Int) from rfl, wrapG a2 k hk (i : Int) (w :: ws) _ F' 1 out w (by simp; omega) (by simp) (by simp; omega) (by simp; omega) (by simp; omega)]
        unfold fq
        simp only [List.drop_succ_cons, List.drop_zero]
        rw [cV (by omega), cd, ← elw, ih (i + 1) (out ++ lw k ls[i]) (by omega) (by omega) (by simp; omega), hd, qX, List.append_assoc]
    · rw [bF (by omega), bn (by omega)]
      simp [lws]
theorem sp_mem (c : UInt8) (s : Bs) : ∀ l ∈ sp c s, l.length ≤ s.length := by
  intro l hl
  have h1 := mu c s
  have h2 := sp_ne c s
  have h3 : 0 < (sp c s).length := List.length_pos_iff.2 h2
  have := xj hl
  omega
end Go.Pn
namespace Go.Dg
open Go.Pv Go.Av
open Go.Pn (wr lw lws sp kM qX mu mC mt oT sp_mem px pa of_tot dU)
theorem qM (k : Nat) : ∀ (ws : List Bs) (l : Bs), Str.total (wr k l ws) ≤ l.length + Str.total ws + ws.length
  | [], l => by simp [wr, Str.total]
  | w :: r, l => by
    unfold wr
    split
    · have := qM k r (l ++ ([32] ++ w))
      simp only [List.length_append, List.length_cons, List.length_nil, Str.total] at this ⊢; omega
    · have := qM k r w
      simp only [List.length_cons, Str.total] at this ⊢; omega
theorem lw_total (k : Nat) (l : Bs) : Str.total (lw k l) ≤ l.length + 1 := by
  unfold lw
  have h1 := mu 32 (kM l)
  have h2 := mt l
  split
  · simp [Str.total]
  · rename_i w ws h
    rw [h] at h1
    have := qM k ws w
    simp only [Str.total, List.length_cons] at h1; omega
theorem tot_app (a b : List Bs) : Str.total (a ++ b) = Str.total a + Str.total b := by
  induction a with
  | nil => simp [Str.total]
  | cons x r ih => simp only [List.cons_append, Str.total, ih]; omega
theorem rZ (k : Nat) : ∀ ls : List Bs, Str.total (lws k ls) ≤ Str.total ls + ls.length ∧ (lws k ls).length ≤ Str.total ls + 2 * ls.length
  | [] => by simp [lws, Str.total]
  | l :: r => by
    have h1 := lw_total k l
    have h2 := pa k l
    have h3 := rZ k r
    rw [qX, tot_app, List.length_append]
    simp only [Str.total, List.length_cons]; omega
theorem uQ (F : Nat) (hF : 15000 < F) (s : Bs) (hs : s.length ≤ 5000) : ∃ L, ib F s 72 = some L ∧ Str.total L ≤ s.length + 1 ∧ L.length ≤ 2 * s.length + 2 := by
  have e10 : Go.Lib.split s [10] = sp 10 s := oT s 10
  have hln := mC 10 s
  have hst := mu 10 s
  have hm : ∀ l ∈ sp 10 s, l.length ≤ 5000 := fun l hl => by have := sp_mem 10 s l hl; omega
  have ht := rZ 72 (sp 10 s)
  refine ⟨lws 72 (sp 10 s), ?_, by omega, by omega⟩
  unfold ib
  simp (disch := (first | omega | (simp; done) | (simp; omega))) only [bF, qb, jd, bJ, e10]
  have := px F 72 72 rfl hF (sp 10 s) hm (by omega) F 0 [] (by omega) (by omega) (by simp)
  exact this
theorem join_le (L : List Bs) : (Str.join [10] L).length ≤ Str.total L + L.length := by
  cases L with
  | nil => simp [Str.join]
  | cons x r =>
    have : (Str.rest [10] r).length = Str.total r + r.length := by
      induction r with
      | nil => rfl
      | cons y r ih => simp [Str.rest, Str.total, ih]; omega
    simp only [Str.join, List.length_append, this, Str.total, List.length_cons]; omega
theorem sa (F : Nat) (L : List Bs) (h : Str.total L + 2 * L.length ≤ 100000) : ∃ t, jC F L = some t ∧ t.length ≤ Str.total L + L.length + 1 := by
  unfold jC
  have := join_le L
  by_cases h0 : L.length = 0
  · rw [bT (by omega)]; exact ⟨[], rfl, by simp⟩
  · rw [bF (by omega), qY (by simp; omega), bJ, cF (by simp; omega), bJ]
    exact ⟨_, rfl, by simp; omega⟩
theorem yj (a1 a2 a3 a4 : Bs) (a5 : Int) (q2 : a2.length ≤ 300) (q3 : a3.length ≤ 300) (q4 : a4.length ≤ 300) : ∃ t, ij 100000 a1 a2 a3 a4 a5 = some t ∧ t.length ≤ 100000 := by
  obtain ⟨L, e, hL1, hL2⟩ := uQ 100000 (by omega) a2 (by omega);obtain ⟨t, e2, ht⟩ := sa 100000 L (by omega);obtain ⟨qs, e3, hq⟩ := of_tot a4 (by omega);obtain ⟨o, ho⟩ : ∃ o, o = Str.join [10] (dU qs) := ⟨_, rfl⟩
  rw [← ho] at e3 hq
  obtain ⟨M, e4, hM1, hM2⟩ := uQ 100000 (by omega) o (by omega);obtain ⟨u, e5, hu⟩ := sa 100000 M (by omega)
  have j2 : ∀ y : Bs, y.length ≤ 2000 → ∃ t, fe 100000 a4 y = some t ∧ t.length ≤ 100000 := fun y hy => by
    unfold fe fP
    rw [e3, bP]
    by_cases h : o = []
    · rw [decide_eq_true h, ntr, cfl, cF (by simp; omega), bJ]; exact ⟨_, rfl, by simp; omega⟩
    · rw [decide_eq_false h, nfl, ctr, e4, bP, e5, bP, cF (by omega), bJ, cF (by simp; omega), bJ]; exact ⟨_, rfl, by simp; omega⟩
  unfold ij
  rw [e, bP, e2, bP]
  by_cases h : a3 = []
  · rw [decide_eq_true h, ntr, cfl]; exact j2 t (by omega)
  · rw [decide_eq_false h, nfl, ctr, cF (by simp; omega), bJ, cF (by simp; omega), bJ]
    exact j2 _ (by simp; omega)
def tOf (x : It) : Bs := (ij 100000 x.2.2.1 (ttl x.2.2.2.1) x.2.2.2.2.1 x.2.2.2.2.2.1 x.2.2.2.2.2.2).getD []
theorem tOf_eq {x : It} (h : Ok x) : ij 100000 x.2.2.1 (ttl x.2.2.2.1) x.2.2.2.2.1 x.2.2.2.2.2.1 x.2.2.2.2.2.2 = some (tOf x) ∧ (tOf x).length ≤ 100000 := by
  obtain ⟨_, q2, q3, q4⟩ := h;obtain ⟨t, e, ht⟩ := yj x.2.2.1 (ttl x.2.2.2.1) x.2.2.2.2.1 x.2.2.2.2.2.1 x.2.2.2.2.2.2 (tc q2) q3 q4
  unfold tOf
  rw [e]; exact ⟨rfl, ht⟩
theorem yh (l : List It) (hl : l.length ≤ 100) (hok : ∀ x ∈ l, Ok x) : ∀ (n i : Nat) (out : Bs), l.length - i < n → i ≤ l.length → out.length ≤ 100000 * i →
    eA 100000 [] l n ((i : Int), out) = some (out ++ (l.drop i).flatMap tOf) := by
  intro n
  induction n with
  | zero => intro i out h; omega
  | succ n ih =>
    intro i out hn hi ho;show iK 100000 [] l (eA 100000 [] l n) (i : Int) out = _
    unfold iK
    by_cases h : i < l.length
    · have hd : l.drop i = l[i] :: l.drop (i + 1) := bh h
      obtain ⟨e, ht⟩ := tOf_eq (hok _ (List.getElem_mem h))
      have key : ∀ t : Bs, t = ttl l[i].2.2.2.1 → fH 100000 (i : Int) out l[i] (eA 100000 [] l n) t = some (out ++ (l.drop i).flatMap tOf) := fun t ht2 => by
        subst ht2
        unfold fH
        rw [e, bP, ke (by omega), bJ, cV (by omega), cd, ih (i + 1) _ (by omega) (by omega) (by simp only [List.length_append]; omega), hd, List.flatMap_cons, List.append_assoc]
      rw [bT (by omega), dr (by omega), bJ, gz h]
      by_cases he : l[i].2.2.2.1 = []
      · rw [bT he]; exact key _ (by unfold ttl; rw [if_pos he]; rfl)
      · rw [bF he]; exact key _ (by unfold ttl; rw [if_neg he])
    · rw [bF (by omega), bn (by omega)]
      unfold iJ
      rw [ke (by simp; omega), bJ, ke (by simp; omega), List.flatMap_nil]
theorem tt (l : List It) (hl : l.length ≤ 100) (hok : ∀ x ∈ l, Ok x) : gS 100000 l = some (l.flatMap tOf) := by
  unfold gS oB
  rw [ke (by simp), bJ]
  have := yh l hl hok 100000 0 [] (by omega) (by omega) (by simp)
  rw [List.drop_zero, List.nil_append] at this
  have e : eA 100000 [] l 100000 (0, [] ++ []) = some (l.flatMap tOf) := this
  rw [e, bP]
theorem qZ : ∀ l : List It, (∀ x ∈ l, Ok x) → (l.flatMap tOf).length ≤ 100000 * l.length
  | [], _ => by simp
  | x :: l, h => by
    have := (tOf_eq (h x (List.mem_cons_self ..))).2
    have := qZ l fun y hy => h y (List.mem_cons_of_mem _ hy)
    rw [List.flatMap_cons, List.length_append, List.length_cons]; omega
end Go.Dg
namespace Go.Dg
open Go.Pv Go.Av
def pZ (x : It) : It := (0, 0, (x.2.2.1, x.2.2.2.1, x.2.2.2.2.1, x.2.2.2.2.2.1, x.2.2.2.2.2.2))
theorem strip_h (x : It) : hOf (pZ x) = hOf x := rfl
theorem strip_t (x : It) : tOf (pZ x) = tOf x := rfl
theorem nJ {f : It → Bs} (hf : ∀ x, f (pZ x) = f x) : ∀ l : List It, (l.map pZ).flatMap f = l.flatMap f
  | [] => rfl
  | x :: l => by rw [List.map_cons, List.flatMap_cons, List.flatMap_cons, hf, nJ hf l]
theorem xc (F : Nat) (a b : List It) (ha : a.length ≤ 100) : ∀ (n i : Nat) (out : List It), a.length - i < n → i ≤ a.length → out.length ≤ i →
    dG F a b n (out, (i : Int)) = dj F a b (out ++ (a.drop i).map pZ) := by
  intro n
  induction n with
  | zero => intro i out h; omega
  | succ n ih =>
    intro i out hn hi ho;show dH F a b (dG F a b n) out (i : Int) = _
    unfold dH
    by_cases h : i < a.length
    · have hd : a.drop i = a[i] :: a.drop (i + 1) := bh h
      rw [bT (by omega), dr (by omega), bJ, gz h, cF (by simp; omega), bJ, cV (by omega), cd, ih (i + 1) _ (by omega) (by omega) (by simp; omega), hd, List.map_cons, List.append_assoc]
      rfl
    · rw [bF (by omega), bn (by omega), List.map_nil, List.append_nil]
theorem ta (hw : iD 100000 = some true) (a b : List It) : eN 100000 a b = some true := by
  unfold eN
  obtain ⟨p, e, hp⟩ := Few_eq 100000 (by omega) a 6 (by omega);obtain ⟨q, e2, hq⟩ := Few_eq 100000 (by omega) b 6 (by omega)
  have e' : gw 100000 a 6 = some p := e
  have e2' : gw 100000 b 6 = some q := e2
  rw [hw, bP, e', bP, e2', bP]
  cases p with
  | false => rw [nfl, Bool.or_true, Bool.true_or, ctr]
  | true =>
    cases q with
    | false => rw [nfl, Bool.or_true, ctr]
    | true =>
      obtain ⟨hla, hoa⟩ := hp rfl;obtain ⟨hlb, hob⟩ := hq rfl
      have hlall : (a.map pZ ++ b).length ≤ 100 := by rw [List.length_append, List.length_map]; omega
      have hoall : ∀ x ∈ a.map pZ ++ b, Ok x := fun x hx => by
        rcases List.mem_append.1 hx with h | h
        · obtain ⟨y, hy, rfl⟩ := List.mem_map.1 h; exact hoa y hy
        · exact hob x h
      have c1 := xc 100000 a b (by omega) 100000 0 [] (by omega) (by omega) (by simp)
      rw [ntr, fo, fo, cfl]
      refine Eq.trans c1 ?_
      rw [List.drop_zero, List.nil_append]
      unfold dj
      have hml : (a.map pZ).length = a.length := List.length_map _
      have HA := tu 100000 (by omega) a (by omega) hoa
      have HB := tu 100000 (by omega) b (by omega) hob
      have HC := tu 100000 (by omega) _ hlall hoall
      have TA := tt a (by omega) hoa
      have TB := tt b (by omega) hob
      have TC := tt _ hlall hoall
      rw [List.flatMap_append, nJ strip_h] at HC
      rw [List.flatMap_append, nJ strip_t] at TC
      have l1 := tn a hoa
      have l2 := tn b hob
      have l3 := qZ a hoa
      have l4 := qZ b hob
      have hUl : U.length = 5 := rfl
      have hVl : V.length = 6 := rfl
      have n1 : ((U ++ a.flatMap hOf) ++ V).length = 11 + (a.flatMap hOf).length := by rw [List.length_append, List.length_append, hUl, hVl]; omega
      have n2 : ((U ++ b.flatMap hOf) ++ V).length = 11 + (b.flatMap hOf).length := by rw [List.length_append, List.length_append, hUl, hVl]; omega
      have t1 : to_ ((U ++ a.flatMap hOf) ++ V) ((((U ++ a.flatMap hOf) ++ V).length : Int) - 6) = U ++ a.flatMap hOf := by
        unfold to_
        have : ((((U ++ a.flatMap hOf) ++ V).length : Int) - 6).toNat = (U ++ a.flatMap hOf).length := by rw [n1, List.length_append, hUl]; omega
        rw [this, List.take_left]
      have t2 : cB ((U ++ b.flatMap hOf) ++ V) 5 = b.flatMap hOf ++ V := by
        unfold cB
        show List.drop U.length _ = _
        rw [List.append_assoc, List.drop_left]
      have gI : ∀ (c : Bool) (n : Int) (x : Option Bool), -1000000000 ≤ n ∧ n ≤ 1000000000 → fV c (okI n) x = x := fun c n x h => by
        cases c with
        | false => exact mP
        | true => rw [rd, cV (by omega)]
      have gT : ∀ (c : Bool) (n : Int) (m : Nat) (x : Option Bool), 0 ≤ n ∧ n ≤ m → fV c (gZ n m) x = x := fun c n m x h => by
        cases c with
        | false => exact mP
        | true => rw [rd, hH h]
      have gC : ∀ (c : Bool) (m : Nat) (x : Option Bool), m ≤ 1000000000 → fV c (bt m) x = x := fun c m x h => by
        cases c with
        | false => exact mP
        | true => rw [rd, cF (by omega)]
      rw [cF (by omega), cF (by omega), bJ, HA, bP, HB, bP, HC, bP, decide_eq_false (show ¬ (((U ++ a.flatMap hOf) ++ V).length : Int) < 11 by omega), decide_eq_false (show ¬ (((U ++ b.flatMap hOf) ++ V).length : Int) < 11 by omega), fo, cfl,
        TC, bP, TA, bP, TB, bP, cF (by omega), bJ, gI _ _ _ (by omega), gT _ _ _ _ (by omega), bJ, gT _ _ _ _ (by omega), bJ, t1, t2, gC _ _ _ (by simp only [List.length_append]; omega), bJ, decide_eq_true rfl, tand]
      have : (U ++ (a.flatMap hOf ++ b.flatMap hOf)) ++ V = (U ++ a.flatMap hOf) ++ (b.flatMap hOf ++ V) := by simp only [List.append_assoc]
      rw [decide_eq_true this]
theorem awake16 : iD 100000 = some true := by decide +kernel
theorem DigestSame_h (a b : List It) : eN 100000 a b = some true := ta awake16 a b
end Go.Dg
