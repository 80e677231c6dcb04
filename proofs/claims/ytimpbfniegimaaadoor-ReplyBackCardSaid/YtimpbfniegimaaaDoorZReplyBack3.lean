/-
  Texts in one (only what ReplyBack needs): RepAW, RepLP, RepLW, LReplyBackP, LReplyBackW, DgN, RpA, RpC, RepRP, RpB, RpSp, RpM, RpW, RpL, RpI, RpT, RpBack, AvOpen, AvOpen3.
-/
import Derived.Test.YtimpbfniegimaaaDoorZReplyBack2
import Derived.Test.YtimpbfniegimaaaDoorShelf
import Derived.Lib.ItoaNum
import Derived.Lib.IndexLaws
import Derived.Test.YtimpbfniegimaaaDoorChecked
import Derived.Laws.RangeAny
import Derived.Lib.IndexAny
import Derived.Lib.SplitLaws
import Derived.Lib.IndexBytes
import Derived.RowKit
import Derived.OpenShut
import Derived.ChangeSlices
import Derived.SliceStrings
set_option linter.unusedVariables false
set_option linter.unusedSimpArgs false
namespace Go.Proofs.YtimpbfniegimaaaDoor
open Go.RowKit Go.Av Go.Pv
theorem en9_repa : ∀ (args : Array Value) (w : World), (callFunc 9 args).run Tryd.prog w = .ok (.enter 9 args) w := fun _ _ => by kernel_rfl
theorem oa : ∀ (args : Array Value) (w : World), (callFunc 10 args).run Tryd.prog w = .ok (.enter 10 args) w := fun _ _ => by kernel_rfl
theorem nZ : ∀ (args : Array Value) (w : World), (callFunc 13 args).run Tryd.prog w = .ok (.enter 13 args) w := fun _ _ => by kernel_rfl
theorem nX : ∀ (args : Array Value) (w : World), (callFunc 14 args).run Tryd.prog w = .ok (.enter 14 args) w := fun _ _ => by kernel_rfl
theorem nV : ∀ (args : Array Value) (w : World), (callFunc 21 args).run Tryd.prog w = .ok (.enter 21 args) w := fun _ _ => by kernel_rfl
theorem kL : ∀ (args : Array Value) (w : World), (callFunc 22 args).run Tryd.prog w = .ok (.enter 22 args) w := fun _ _ => by kernel_rfl
theorem bS : ∀ (args : Array Value) (w : World), (callFunc 23 args).run Tryd.prog w = .ok (.enter 23 args) w := fun _ _ => by kernel_rfl
theorem kK : ∀ (args : Array Value) (w : World), (callFunc 24 args).run Tryd.prog w = .ok (.enter 24 args) w := fun _ _ => by kernel_rfl
theorem nT : ∀ (args : Array Value) (w : World), (callFunc 25 args).run Tryd.prog w = .ok (.enter 25 args) w := fun _ _ => by kernel_rfl
theorem kJ : ∀ (args : Array Value) (w : World), (callFunc 27 args).run Tryd.prog w = .ok (.enter 27 args) w := fun _ _ => by kernel_rfl
theorem nR : ∀ (args : Array Value) (w : World), (callFunc 32 args).run Tryd.prog w = .ok (.enter 32 args) w := fun _ _ => by kernel_rfl
theorem kI : ∀ (args : Array Value) (w : World), (callFunc 33 args).run Tryd.prog w = .ok (.enter 33 args) w := fun _ _ => by kernel_rfl
theorem nQ : ∀ (args : Array Value) (w : World), (callFunc 34 args).run Tryd.prog w = .ok (.enter 34 args) w := fun _ _ => by kernel_rfl
theorem dz : ∀ (args : Array Value) (w : World), (callFunc 35 args).run Tryd.prog w = .ok (.enter 35 args) w := fun _ _ => by kernel_rfl
theorem kH : ∀ (args : Array Value) (w : World), (callFunc 36 args).run Tryd.prog w = .ok (.enter 36 args) w := fun _ _ => by kernel_rfl
theorem nN : ∀ (args : Array Value) (w : World), (callFunc 43 args).run Tryd.prog w = .ok (.enter 43 args) w := fun _ _ => by kernel_rfl
theorem nM : ∀ (args : Array Value) (w : World), (callFunc 44 args).run Tryd.prog w = .ok (.enter 44 args) w := fun _ _ => by kernel_rfl
theorem nL : ∀ (args : Array Value) (w : World), (callFunc 45 args).run Tryd.prog w = .ok (.enter 45 args) w := fun _ _ => by kernel_rfl
theorem iy : ∀ (args : Array Value) (w : World), (callFunc 46 args).run Tryd.prog w = .ok (.enter 46 args) w := fun _ _ => by kernel_rfl
theorem nK : ∀ (args : Array Value) (w : World), (callFunc 47 args).run Tryd.prog w = .ok (.enter 47 args) w := fun _ _ => by kernel_rfl
set_option maxRecDepth 100000 in
set_option maxHeartbeats 1000000 in
theorem dB (F : Nat) (a1 : List UInt8) (q2 : Option Nat) (a3 : UInt8) (r4 : Int) (H : cQ F a1 a3 = some r4) : ACalls Tryd.prog 46 [slE Enc.byte a1 q2, u8 a3] [] (Ret (i64 r4) []) := by
 unfold cQ at H
 refine az Tryd.func46 rfl rfl ?_;show AW _ _ 8 _ _ _;refine af <| aa ?_;show AR _ _ _ _ _ [0] _;refine za rfl <| ag <| af ?_;obtain ⟨x5, e6, H⟩ := bK H;refine aa ?_;show AR _ _ _ _ _ [0, 1, 2, 3] _;refine zS rfl (ax (av := slE _ _ _) rfl) <| zm rfl <| zR rfl (show OpR _ _ _ _ (i64 x5) _ from by subst e6; exact kn ⟨Tryd.func57, by kernel_rfl, by kernel_rfl, by kernel_rfl, by kernel_rfl⟩ rfl rfl) <| za rfl <| ag <| aL ?_;obtain rfl := aj H;exact And.intro rfl (Exists.intro _ (Exists.intro _ ⟨aH rfl (.refl _), aD [] rfl, rfl, rfl⟩))
set_option maxRecDepth 100000 in
set_option maxHeartbeats 1000000 in
theorem hM (F : Nat) (a1 : List UInt8) (r2 : Int) (r3 : Bool) (H : dT F a1 = some (r2, r3)) : ACalls Tryd.prog 36 [S a1] [] (Ret (.tup [i64 r2, B r3]) []) := by
 unfold dT at H
 refine az Tryd.func36 rfl rfl ?_;show AW _ _ 29 _ _ _;refine af <| aa ?_;show AR _ _ _ _ _ [0, 1] _;refine za rfl <| za rfl <| ag <| af ?_;obtain ⟨x4, x5, e6, H⟩ := fw H;refine aa ?_;show AR _ _ _ _ _ [0, 1, 2, 3, 4, 5, 6] _;refine zm rfl <| bc rfl rfl (aM rfl nK rfl (ju F a1 x4 x5 e6) ?_);refine zS rfl (ax (av := .tup _) rfl) <| zS rfl (aG (av := .v _) rfl rfl) <| zS rfl (aG (av := eAny _ _) rfl rfl) <| za rfl <| zS rfl (aK (av := eAny _ _) rfl) <| ag <| af ?_;obtain ⟨g9, H⟩ := cY H;obtain ⟨x10, e11, H⟩ := bK H;refine aa ?_;show AR _ _ _ _ _ [0, 1, 2, 3, 4, 5, 6, 7, 8, 9, 10, 11, 12, 13, 14, 15, 16, 17, 18, 19] _;refine zm rfl <| zS rfl (ax (av := eAny _ _) rfl) <| zS rfl (mJ cx rfl rfl) <| zm rfl <| aF (l := [8, 9, 10, 11, 12, 13, 14, 15, 16, 17, 18, 19]) 18 (B ((decide (x5 = 0)) && (decide ((a1.length : Int) ≤ 3)))) (fun K => ?_) ?_
 ·rcases ac (decide (x5 = 0)) with h7 | h7
  ·refine zM h7 rfl <| zU h7 rfl (bt ai rfl) <| zU h7 rfl (dn rfl rfl) <| zS rfl (aq (av := .v _) rfl h7 rfl) ?_;exact K _ 3 _ (an (bH h7)) rfl rfl
  ·refine zF h7 rfl <| zF h7 rfl <| zF h7 rfl <| zS rfl (ap (av := .v _) rfl h7 rfl) ?_;exact K _ 3 _ (an (bI h7)) rfl rfl
 refine zm rfl <| aF (l := [14, 15, 16, 17, 18, 19]) 24 (B (((decide (x5 = 0)) && (decide ((a1.length : Int) ≤ 3))) && (decide (x10 = a1)))) (fun K => ?_) ?_
 ·rcases ac ((decide (x5 = 0)) && (decide ((a1.length : Int) ≤ 3))) with h8 | h8
  ·refine zM h8 rfl <| zT h8 rfl (aM rfl kJ rfl (show ACalls _ _ _ [] (Ret (S x10) []) from by subst e11; exact iI x4 (lb (g9 h8))) ?_);refine zM h8 rfl <| zU h8 rfl (jo rfl rfl) <| zS rfl (aq (av := .v _) rfl h8 rfl) ?_;exact K _ 4 _ (an (bH h8)) rfl rfl
  ·refine zF h8 rfl <| zF h8 rfl <| zF h8 rfl <| zF h8 rfl <| zS rfl (ap (av := .v _) rfl h8 rfl) ?_;exact K _ 4 _ (an (bI h8)) rfl rfl
 refine zm rfl <| aF (l := [18, 19]) 28 (B ((((decide (x5 = 0)) && (decide ((a1.length : Int) ≤ 3))) && (decide (x10 = a1))) && (decide (0 ≤ x4)))) (fun K => ?_) ?_
 ·rcases ac (((decide (x5 = 0)) && (decide ((a1.length : Int) ≤ 3))) && (decide (x10 = a1))) with h12 | h12
  ·refine zM h12 rfl <| zU h12 rfl (ei rfl rfl) <| zS rfl (aq (av := .v _) rfl h12 rfl) ?_;exact K _ 2 _ (an (bH h12)) rfl rfl
  ·refine zF h12 rfl <| zF h12 rfl <| zS rfl (ap (av := .v _) rfl h12 rfl) ?_;exact K _ 2 _ (an (bI h12)) rfl rfl
 refine za rfl <| za rfl <| ag <| aL ?_;obtain ⟨rfl, rfl⟩ := fi H;exact And.intro rfl (Exists.intro _ (Exists.intro _ ⟨bj rfl (.refl _) (.refl _), aD [] rfl, rfl, rfl⟩))
abbrev _root_.Go.Av.ak := @Tryd.underlying35
abbrev _root_.Go.Av.aJ := @Tryd.underlying36
set_option maxRecDepth 100000 in
set_option maxHeartbeats 1000000 in
theorem jD (F : Nat) (a1 : Int) (a2 : List UInt8) (r3 : Int) (r4 : Int) (r5 : Int) (H : eZ F a1 a2 = some (r3, r4, r5)) : ACalls Tryd.prog 33 [i64 a1, S a2] [] (Ret (.agg [i64 r3, i64 r4, i64 r5]) []) := by
 unfold eZ at H
 refine az Tryd.func33 rfl rfl ?_;show AW _ _ 57 _ _ _;refine af <| aa ?_;show AR _ _ _ _ _ [0] _;refine zX rfl (dW (zs := [.int .i64 0, .int .i64 0, .int .i64 0]) (by kernel_rfl)) ?_;rintro _ _ ⟨o6, rfl, rfl⟩;refine ag <| af ?_;obtain ⟨g7, H⟩ := aN H;obtain ⟨x8, e9, H⟩ := bK H;refine aa ?_;show AR _ _ _ _ _ [0, 1, 2, 3, 4, 5, 6, 7, 8] _;refine zm rfl <| bc rfl rfl (aM rfl nN rfl (show ACalls _ _ _ [] (Ret (.tup [S x8.1, S x8.2.1, B x8.2.2]) []) from by subst e9; exact lib_Cut a2 ([32] : List UInt8) (dK g7)) ?_);refine zS rfl (ax (av := .tup _) rfl) <| zS rfl (aG (av := .v _) rfl rfl) <| zS rfl (aG (av := .v _) rfl rfl) <| zS rfl (aG (av := .v _) rfl rfl) <| za rfl <| za rfl <| za rfl <| ag <| af ?_;obtain ⟨g10, H⟩ := aN H;obtain ⟨g11, H⟩ := aN H;obtain ⟨x12, e13, H⟩ := bK H;refine aa ?_;show AR _ _ _ _ _ [0, 1, 2] _;refine zm rfl <| bc rfl rfl (aM rfl nM rfl (show ACalls _ _ _ [] (Ret (slE Enc.str x12 none) []) from by subst e13; exact nD x8.1 ([46] : List UInt8) (dK g10) (of_decide_eq_true g11)) ?_);refine zS rfl (aK (av := slE _ _ _) rfl) <| ag <| af <| af ?_;obtain ⟨g15, H⟩ := cY H;refine aa ?_;show AR _ _ _ _ _ [0, 1, 2, 3, 4, 5, 6, 7] _;refine zS rfl (ax (av := slE _ _ _) rfl) <| zS rfl (aP ak rfl) <| zS rfl (fS rfl rfl) <| zm rfl <| aF (l := []) 28 (B ((!decide ((x12.length : Int) = 3)) || (decide (a1 / 100 = 3)))) (fun K => ?_) ?_
 ·rcases ac (!decide ((x12.length : Int) = 3)) with h14 | h14
  ·refine zF h14 rfl <| zF h14 rfl <| zF h14 rfl <| zS rfl (aq (av := .v _) rfl h14 rfl) ?_;exact K _ 3 _ (an (gc h14)) rfl rfl
  ·refine zM h14 rfl <| zU h14 rfl (g_quo rfl rfl (g15 (nf h14))) <| zU h14 rfl (bx rfl rfl) <| zS rfl (ap (av := .v _) rfl h14 rfl) ?_;exact K _ 3 _ (an (gd h14)) rfl rfl
 refine ag <| aw rfl (fun c16 => ?_) (fun c16 => ?_)
 ·replace H := aZ c16 H;refine af <| aa ?_;show AR _ _ _ _ _ [0, 1] _;refine zR rfl (dG (i := 0) (n := 3) aJ rfl (by kernel_rfl) rfl rfl (ab rfl)) <| s0 rfl rfl (cA (i := 0) (vs := [i64 0, i64 0, i64 0]) (by kernel_rfl) rfl rfl (by simp [bD, slE]) rfl (ab rfl)) <| ag <| aL ?_;obtain ⟨rfl, rfl, rfl⟩ := jl H;exact And.intro rfl (Exists.intro _ (Exists.intro _ ⟨iz (dy rfl (CellV.agg (off := 0) (cs := [i64 0, i64 0, i64 0]) (n := 3) 0 aJ rfl (by kernel_rfl) rfl rfl (ab rfl))), aD [] rfl, rfl, rfl⟩))
 ·replace H := ba c16 H;refine aE <| af <| aa ?_;show AR _ _ _ _ _ [0] _;refine zX rfl (dW (zs := [.int .i64 0, .int .i64 0, .int .i64 0]) (by kernel_rfl)) ?_;rintro _ _ ⟨o17, rfl, rfl⟩;refine ag <| bB (X := Int × Int × Int) (fun (y39, y40, y41) => ⟨[(0, i64 a1), (4, .pt o6 0), (9, .pt o17 0)], [], [.obj o17 [i64 y39, i64 y40, i64 y41], .obj o6 [i64 0, i64 0, i64 0]]⟩) (fun (y39, y40, y41) => ee a1 y39 y40 y41 = some (r3, r4, r5)) ?_ ?_
  ·refine af <| aa ?_;show AR _ _ _ _ _ [0, 1, 2] _;refine zS rfl (ax (av := slE _ _ _) rfl) <| zS rfl (aP ak rfl) <| zm rfl <| ag <| bb <| AW.loop (X := Nat × Int × Int × Int × Int) (fun (n25, y20, y21, y22, y23) => ⟨[(0, i64 a1), (4, .pt o6 0), (8, slE Enc.str x12 none), (9, .pt o17 0), (31, i64 (x12.length : Int)), (32, i64 y20)], [], [.obj o17 [i64 y21, i64 y22, i64 y23], .obj o6 [i64 0, i64 0, i64 0]]⟩) (fun (n25, y20, y21, y22, y23) => ce F a1 x12 n25 (y20, y21, y22, y23) = some (r3, r4, r5)) (fun (n25, y20, y21, y22, y23) => n25) (F, 0, 0, 0, 0) H (aW [0, 0] (.cons (.refl _) (.cons (.refl _) (.cons (.refl _) (.cons (.refl _) (.cons (.refl _) (.cons (.refl _) (.nil _))))))) rfl) ?_;rintro ⟨n25, y20, y21, y22, y23⟩ H;obtain ⟨n25, rfl, H⟩ := dN H;replace H : cE F a1 x12 (ce F a1 x12 n25) y20 y21 y22 y23 = some (r3, r4, r5) := H
   unfold cE at H
   refine af <| aa ?_;show AR _ _ _ _ _ [0] _;refine zS rfl (bW rfl rfl) <| ag <| af <| aw rfl (fun c26 => ?_) (fun c26 => ?_)
   ·replace H := aZ c26 H;refine aE <| af <| bb <| af <| aa ?_;show AR _ _ _ _ _ [0, 1] _;refine zm rfl <| za rfl <| ag <| af ?_;obtain ⟨g27, H⟩ := aN H;obtain ⟨x28, e29, H⟩ := bK H;obtain ⟨x30, x31, e32, H⟩ := fw H;refine aa ?_;show AR _ _ _ _ _ [0, 1, 2, 3, 4, 5, 6, 7, 8, 9] _;refine zS rfl (ax (av := slE _ _ _) rfl) <| zm rfl <| zS rfl (bl (E := Enc.str) ak (by kernel_rfl) rfl rfl g27 e29) <| zS rfl (aI ai rfl rfl) <| bc rfl rfl (aM rfl kH rfl (hM F x28 x30 x31 e32) ?_);refine zS rfl (ax (av := .tup _) rfl) <| zS rfl (aG (av := .v _) rfl rfl) <| zS rfl (aG (av := .v _) rfl rfl) <| za rfl <| za rfl <| ag <| af <| af <| aa ?_;show AR _ _ _ _ _ [0, 1] _;refine zm rfl <| zS rfl (dv rfl) <| ag <| aw rfl (fun c33 => ?_) (fun c33 => ?_)
    ·replace H := aZ c33 H;refine af <| aa ?_;show AR _ _ _ _ _ [0, 1] _;refine zR rfl (dG (i := 1) (n := 3) aJ rfl (by kernel_rfl) rfl rfl (ab rfl)) <| s0 rfl rfl (cA (i := 1) (vs := [i64 0, i64 0, i64 0]) (by kernel_rfl) rfl rfl (by simp [bD, slE]) rfl (ab rfl)) <| ag <| aL ?_;obtain ⟨rfl, rfl, rfl⟩ := jl H;exact And.intro rfl (Exists.intro _ (Exists.intro _ ⟨iz (dy rfl (CellV.agg (off := 0) (cs := [i64 0, i64 0, i64 0]) (n := 3) 1 aJ rfl (by kernel_rfl) rfl rfl (ab rfl))), aD [] rfl, rfl, rfl⟩))
    ·replace H := ba c33 H;refine aE ?_;obtain ⟨g34, H⟩ := aN H;obtain ⟨g35, H⟩ := aN H;obtain ⟨x36, e37, H⟩ := bK H;refine aa ?_;show AR _ _ _ _ _ [0, 1, 2, 3] _;refine zm rfl <| zm rfl <| zS rfl (gI aJ (by kernel_rfl) rfl rfl g34) <| s0 rfl rfl (lP (pre := []) (post := []) (l := ([y21, y22, y23] : List Int)) (vs := [i64 (x36.getD 0 0), i64 (x36.getD 1 0), i64 (x36.getD 2 0)]) (n := 3) (k := 0) (by kernel_rfl) rfl rfl rfl rfl rfl g35 e37 rfl) <| ag ?_;obtain ⟨g38, H⟩ := aN H;refine aa ?_;show AR _ _ _ _ _ [0, 1] _;refine zS rfl (eY rfl rfl g38) <| zm rfl <| ag ?_;exact Exists.intro (n25, y20 + 1, x36.getD 0 0, x36.getD 1 0, x36.getD 2 0) ⟨H, Nat.lt_succ_self _, aW [0, 0] (.cons (.refl _) (.cons (.refl _) (.cons (.refl _) (.cons (.refl _) (.cons (.refl _) (.cons (.refl _) (.nil _))))))) rfl⟩
   ·replace H := ba c26 H;refine cF ?_;exact Exists.intro (y21, y22, y23) ⟨H, aW [0, 0] (.cons (.refl _) (.cons (.refl _) (.cons (.refl _) (.nil _)))) rfl⟩
  rintro ⟨y39, y40, y41⟩ H;replace H : ee a1 y39 y40 y41 = some (r3, r4, r5) := H
  unfold ee at H
  refine bB (X := Int × Int × Int) (fun (y45, y46, y47) => ⟨[(4, .pt o6 0)], [], [.obj o6 [i64 y45, i64 y46, i64 y47]]⟩) (fun (y45, y46, y47) => dw y45 y46 y47 = some (r3, r4, r5)) ?_ ?_
  ·refine af ?_;obtain ⟨g43, H⟩ := aN H;refine aa ?_;show AR _ _ _ _ _ [0, 1, 2, 3, 4] _;refine zS rfl (fg (Ar := 0) (k := 1) (m := 0) aJ (by kernel_rfl) rfl rfl rfl (by decide)) <| zR rfl (al (i := 0) ay rfl rfl rfl rfl) <| zm rfl <| zS rfl (g_quo rfl rfl g43) <| zS rfl (bx rfl rfl) <| ag <| aw rfl (fun c44 => ?_) (fun c44 => ?_)
   ·replace H := aZ c44 H;refine aa ?_;show AR _ _ _ _ _ [0, 1] _;refine zR rfl (dG (i := 0) (n := 3) aJ rfl (by kernel_rfl) rfl rfl (ab rfl)) <| s0 rfl rfl (cA (i := 1) (vs := [i64 y39, i64 y40, i64 y41]) (by kernel_rfl) rfl rfl (by simp [bD, slE]) rfl (ab rfl)) <| ag ?_;exact Exists.intro (y39, y40, y41) ⟨H, aW [1] (.cons (.refl _) (.nil _)) rfl⟩
   ·replace H := ba c44 H;refine aE ?_;exact Exists.intro (0, 0, 0) ⟨H, aW [1] (.cons (.refl _) (.nil _)) rfl⟩
  rintro ⟨y45, y46, y47⟩ H;replace H : dw y45 y46 y47 = some (r3, r4, r5) := H
  unfold dw at H
  refine af <| aa ?_;show AR _ _ _ _ _ [0, 1] _;refine zR rfl (dG (i := 0) (n := 3) aJ rfl (by kernel_rfl) rfl rfl (ab rfl)) <| s0 rfl rfl (cA (i := 0) (vs := [i64 y45, i64 y46, i64 y47]) (by kernel_rfl) rfl rfl (by simp [bD, slE]) rfl (ab rfl)) <| ag <| aL ?_;obtain ⟨rfl, rfl, rfl⟩ := jl H;exact And.intro rfl (Exists.intro _ (Exists.intro _ ⟨iz (dy rfl (CellV.agg (off := 0) (cs := [i64 y45, i64 y46, i64 y47]) (n := 3) 0 aJ rfl (by kernel_rfl) rfl rfl (ab rfl))), aD [] rfl, rfl, rfl⟩))
set_option maxRecDepth 100000 in
set_option maxHeartbeats 1000000 in
theorem kv (F : Nat) (a1 : Int) (a2 : List (List UInt8)) (a3 : Int) (a4 : Int) (a5 : Int) (r6 : Bool) (H : gm F a1 a2 a3 a4 a5 = some r6) : ACalls Tryd.prog 21 [.agg [i64 a1, slE Enc.str a2 none, i64 a3, i64 a4, i64 a5]] [] (Ret (B r6) []) := by
 unfold gm at H
 refine az Tryd.func21 rfl rfl ?_;show AW _ _ 54 _ _ _;refine af <| aa ?_;show AR _ _ _ _ _ [0, 1] _;refine zR rfl (dX rfl (.inr ⟨_, rfl⟩)) <| za rfl <| ag <| af <| af <| aa ?_;show AR _ _ _ _ _ [0, 1, 2, 3, 4, 5, 6, 7, 8, 9, 10, 11, 12, 13, 14, 15, 16, 17, 18, 19] _;refine zS rfl (aB (n := 0) (by kernel_rfl) rfl (ab rfl)) <| zS rfl (aI ay rfl rfl) <| zS rfl (bW rfl rfl) <| zm rfl <| aF (l := [8, 9, 10, 11, 12, 13, 14, 15, 16, 17, 18, 19]) 12 (B ((decide (a1 < 200)) || (decide (599 < a1)))) (fun K => ?_) ?_
 ·rcases ac (decide (a1 < 200)) with h7 | h7
  ·refine zF h7 rfl <| zF h7 rfl <| zF h7 rfl <| zS rfl (aq (av := .v _) rfl h7 rfl) ?_;exact K _ 3 _ (an (gc h7)) rfl rfl
  ·refine zU h7 rfl (aB (n := 0) (by kernel_rfl) rfl (ab rfl)) <| zU h7 rfl (aI ay rfl rfl) <| zU h7 rfl (eh rfl rfl) <| zS rfl (ap (av := .v _) rfl h7 rfl) ?_;exact K _ 3 _ (an (gd h7)) rfl rfl
 refine zm rfl <| aF (l := [14, 15, 16, 17, 18, 19]) 18 (B (((decide (a1 < 200)) || (decide (599 < a1))) || (decide ((a2.length : Int) = 0)))) (fun K => ?_) ?_
 ·rcases ac ((decide (a1 < 200)) || (decide (599 < a1))) with h8 | h8
  ·refine zF h8 rfl <| zF h8 rfl <| zF h8 rfl <| zF h8 rfl <| zS rfl (aq (av := .v _) rfl h8 rfl) ?_;exact K _ 4 _ (an (gc h8)) rfl rfl
  ·refine zU h8 rfl (aB (n := 1) (by kernel_rfl) rfl (ab rfl)) <| zU h8 rfl (aI ak rfl rfl) <| zU h8 rfl (aP ak rfl) <| zU h8 rfl (bx rfl rfl) <| zS rfl (ap (av := .v _) rfl h8 rfl) ?_;exact K _ 4 _ (an (gd h8)) rfl rfl
 refine zm rfl <| aF (l := []) 24 (B ((((decide (a1 < 200)) || (decide (599 < a1))) || (decide ((a2.length : Int) = 0))) || (decide (100 < (a2.length : Int))))) (fun K => ?_) ?_
 ·rcases ac (((decide (a1 < 200)) || (decide (599 < a1))) || (decide ((a2.length : Int) = 0))) with h9 | h9
  ·refine zF h9 rfl <| zF h9 rfl <| zF h9 rfl <| zF h9 rfl <| zS rfl (aq (av := .v _) rfl h9 rfl) ?_;exact K _ 4 _ (an (gc h9)) rfl rfl
  ·refine zU h9 rfl (aB (n := 1) (by kernel_rfl) rfl (ab rfl)) <| zU h9 rfl (aI ak rfl rfl) <| zU h9 rfl (aP ak rfl) <| zU h9 rfl (eh rfl rfl) <| zS rfl (ap (av := .v _) rfl h9 rfl) ?_;exact K _ 4 _ (an (gd h9)) rfl rfl
 refine ag <| aw rfl (fun c10 => ?_) (fun c10 => ?_)
 ·replace H := aZ c10 H;refine af <| aa ?_;show AR _ _ _ _ _ [0] _;refine za rfl <| ag <| aL ?_;obtain rfl := aj H;exact And.intro rfl (Exists.intro _ (Exists.intro _ ⟨aH rfl (.refl _), aD [] rfl, rfl, rfl⟩))
 ·replace H := ba c10 H;refine aE <| bB (X := Unit) (fun _ => ⟨[(1, .cp [i64 a1, slE Enc.str a2 none, i64 a3, i64 a4, i64 a5])], [], []⟩) (fun _ => eK F a1 a2 a3 a4 a5 = some r6) ?_ ?_
  ·refine af <| aa ?_;show AR _ _ _ _ _ [0, 1, 2, 3] _;refine zS rfl (aB (n := 1) (by kernel_rfl) rfl (ab rfl)) <| zS rfl (aI ak rfl rfl) <| zS rfl (aP ak rfl) <| zm rfl <| ag <| bb <| AW.loop (X := Nat × Int) (fun (n13, y11) => ⟨[(1, .cp [i64 a1, slE Enc.str a2 none, i64 a3, i64 a4, i64 a5]), (26, slE Enc.str a2 none), (27, i64 (a2.length : Int)), (28, i64 y11)], [], []⟩) (fun (n13, y11) => eL F a1 a2 a3 a4 a5 n13 y11 = some r6) (fun (n13, y11) => n13) (F, 0) H (aW [] (.cons (.refl _) (.cons (.refl _) (.cons (.refl _) (.cons (.refl _) (.nil _))))) rfl) ?_;rintro ⟨n13, y11⟩ H;obtain ⟨n13, rfl, H⟩ := dN H;replace H : eM F a1 a2 a3 a4 a5 (eL F a1 a2 a3 a4 a5 n13) y11 = some r6 := H
   unfold eM at H
   refine af <| aa ?_;show AR _ _ _ _ _ [0] _;refine zS rfl (bW rfl rfl) <| ag <| af <| aw rfl (fun c14 => ?_) (fun c14 => ?_)
   ·replace H := aZ c14 H;refine aE <| af <| bb <| af ?_;obtain ⟨g15, H⟩ := aN H;obtain ⟨x16, e17, H⟩ := bK H;refine aa ?_;show AR _ _ _ _ _ [0, 1, 2] _;refine zS rfl (bl (E := Enc.str) ak (by kernel_rfl) rfl rfl g15 e17) <| zS rfl (aI ai rfl rfl) <| za rfl <| ag <| af ?_;obtain ⟨x19, e20, H⟩ := eB H;refine aa ?_;show AR _ _ _ _ _ [0, 1, 2, 3, 4, 5, 6] _;refine zm rfl <| zS rfl (bt ai rfl) <| zS rfl (eh rfl rfl) <| zm rfl <| aF (l := []) 38 (B ((decide (506 < (x16.length : Int))) || x19)) (fun K => ?_) ?_
    ·rcases ac (decide (506 < (x16.length : Int))) with h18 | h18
     ·refine zF h18 rfl <| zF h18 rfl <| zS rfl (aq (av := .v _) rfl h18 rfl) ?_;exact K _ 2 _ (an (gc h18)) rfl rfl
     ·refine zM h18 rfl <| zT h18 rfl (aM rfl nR rfl (ke F x16 ([13, 10] : List UInt8) x19 (e20 (nf h18))) ?_);refine zS rfl (ap (av := .v _) rfl h18 rfl) ?_;exact K _ 2 _ (an (gd h18)) rfl rfl
    refine ag <| aw rfl (fun c21 => ?_) (fun c21 => ?_)
    ·replace H := aZ c21 H;refine af <| aa ?_;show AR _ _ _ _ _ [0] _;refine za rfl <| ag <| aL ?_;obtain rfl := aj H;exact And.intro rfl (Exists.intro _ (Exists.intro _ ⟨aH rfl (.refl _), aD [] rfl, rfl, rfl⟩))
    ·replace H := ba c21 H;refine aE ?_;obtain ⟨g22, H⟩ := aN H;refine aa ?_;show AR _ _ _ _ _ [0, 1] _;refine zS rfl (eY rfl rfl g22) <| zm rfl <| ag ?_;exact Exists.intro (n13, y11 + 1) ⟨H, Nat.lt_succ_self _, aW [] (.cons (.refl _) (.cons (.refl _) (.cons (.refl _) (.cons (.refl _) (.nil _))))) rfl⟩
   ·replace H := ba c14 H;refine cF ?_;exact Exists.intro () ⟨H, aW [] (.cons (.refl _) (.nil _)) rfl⟩
  rintro _ H;replace H : eK F a1 a2 a3 a4 a5 = some r6 := H
  unfold eK at H
  refine af ?_;obtain ⟨g24, H⟩ := aN H;obtain ⟨g25, H⟩ := aN H;obtain ⟨x26, e27, H⟩ := bK H;obtain ⟨x28, x29, x30, e31, H⟩ := jW H;refine cq (by kernel_rfl) ?_;show AI _ _ _ _ _ 15 (Array.replicate 15 false) _;refine zk 0 rfl (aB (n := 2) (by kernel_rfl) rfl (ab rfl)) ?_;show AI _ _ _ _ _ _ #[true, false, false, false, false, false, false, false, false, false, false, false, false, false, false] _;refine zk 1 rfl (bn aJ rfl (n := 3) (by kernel_rfl) rfl (ab rfl)) ?_;show AI _ _ _ _ _ _ #[true, true, false, false, false, false, false, false, false, false, false, false, false, false, false] _;refine zk 2 rfl (aB (n := 0) (by kernel_rfl) rfl (ab rfl)) ?_;show AI _ _ _ _ _ _ #[true, true, true, false, false, false, false, false, false, false, false, false, false, false, false] _;refine zk 3 rfl (aI ay rfl rfl) ?_;show AI _ _ _ _ _ _ #[true, true, true, true, false, false, false, false, false, false, false, false, false, false, false] _;refine zk 4 rfl (aB (n := 1) (by kernel_rfl) rfl (ab rfl)) ?_;show AI _ _ _ _ _ _ #[true, true, true, true, true, false, false, false, false, false, false, false, false, false, false] _;refine zk 5 rfl (aI ak rfl rfl) ?_;show AI _ _ _ _ _ _ #[true, true, true, true, true, true, false, false, false, false, false, false, false, false, false] _
  refine zk 6 rfl (aB (n := 1) (by kernel_rfl) rfl (ab rfl)) ?_;show AI _ _ _ _ _ _ #[true, true, true, true, true, true, true, false, false, false, false, false, false, false, false] _;refine zk 7 rfl (aI ak rfl rfl) ?_;show AI _ _ _ _ _ _ #[true, true, true, true, true, true, true, true, false, false, false, false, false, false, false] _;refine zk 8 rfl (aP ak rfl) ?_;show AI _ _ _ _ _ _ #[true, true, true, true, true, true, true, true, true, false, false, false, false, false, false] _;refine zk 9 rfl (ka rfl rfl g24) ?_;show AI _ _ _ _ _ _ #[true, true, true, true, true, true, true, true, true, true, false, false, false, false, false] _;refine zk 10 rfl (bl (E := Enc.str) ak (by kernel_rfl) rfl rfl g25 e27) ?_;show AI _ _ _ _ _ _ #[true, true, true, true, true, true, true, true, true, true, true, false, false, false, false] _;refine zk 11 rfl (aI ai rfl rfl) ?_;show AI _ _ _ _ _ _ #[true, true, true, true, true, true, true, true, true, true, true, true, false, false, false] _;refine aQ (i := 12) (by kernel_rfl) rfl rfl <| AIO.callp rfl kI rfl (jD F a1 x26 x28 x29 x30 e31) ?_;show AI _ _ _ _ _ _ #[true, true, true, true, true, true, true, true, true, true, true, true, true, false, false] _;refine zk 13 rfl (gP (r := (a3 == x28) && ((a4 == x29) && ((a5 == x30) && true))) (.inl rfl) aJ ay rfl (by kernel_rfl) (by kernel_rfl) rfl rfl rfl rfl) ?_
  show AI _ _ _ _ _ _ #[true, true, true, true, true, true, true, true, true, true, true, true, true, true, false] _;refine zk 14 rfl (asg rfl) ?_;show AI _ _ _ _ _ _ #[true, true, true, true, true, true, true, true, true, true, true, true, true, true, true] _;refine bA rfl <| aL ?_;obtain rfl := aj H;exact And.intro rfl (Exists.intro _ (Exists.intro _ ⟨aH rfl (.refl _), aD [] rfl, rfl, rfl⟩))
abbrev _root_.Go.Av.bu := @Tryd.underlying38
set_option maxRecDepth 100000 in
set_option maxHeartbeats 1000000 in
theorem lz (F : Nat) (a1 : Int) (a2 : List (List UInt8)) (a3 : Int) (a4 : Int) (a5 : Int) (r6 : List UInt8) (r7 : Int) (H : fx F a1 a2 a3 a4 a5 = some (r6, r7)) : ACalls Tryd.prog 16 [.agg [i64 a1, slE Enc.str a2 none, i64 a3, i64 a4, i64 a5]] [] (Ret (.tup [slE Enc.byte r6 none, i64 r7]) []) := by
 unfold fx at H
 refine az Tryd.func16 rfl rfl ?_;show AW _ _ 37 _ _ _;refine af <| aa ?_;show AR _ _ _ _ _ [0, 1, 2] _;refine zR rfl (dX rfl (.inr ⟨_, rfl⟩)) <| za rfl <| za rfl <| ag <| af <| af ?_;obtain ⟨x8, e9, H⟩ := dA H;refine aa ?_;show AR _ _ _ _ _ [0, 1, 2] _;refine zS rfl (bn bu rfl (n := 5) (by kernel_rfl) rfl (ab rfl)) <| bc rfl rfl (aM rfl nV rfl (kv F a1 a2 a3 a4 a5 x8 e9) ?_);refine zS rfl (dv rfl) <| ag <| aw rfl (fun c10 => ?_) (fun c10 => ?_)
 ·replace H := aZ c10 H;refine af <| aa ?_;show AR _ _ _ _ _ [0, 1] _;refine za rfl <| za rfl <| ag <| aL ?_;obtain ⟨rfl, rfl⟩ := fi H;exact And.intro rfl (Exists.intro _ (Exists.intro _ ⟨bj rfl (.nil _) (.refl _), aD [] rfl, rfl, rfl⟩))
 ·replace H := ba c10 H;refine aE <| af <| aa ?_;show AR _ _ _ _ _ [0] _;refine za rfl <| ag ?_
  refine hU 4 1 5 rfl fun t11 => ?_
  show AW _ _ _ _ _ ⟨(4, slE Enc.byte [] (some t11)) :: _, _, _⟩;refine bB (X := (List UInt8) × Nat) (fun (y42, t43) => ⟨[(4, slE Enc.byte y42 (some t43))], [], [.tok t43 5]⟩) (fun (y42, t43) => ew y42 = some (r6, r7)) ?_ ?_
  ·refine af <| aa ?_;show AR _ _ _ _ _ [0, 1, 2, 3] _;refine zS rfl (aB (n := 1) (by kernel_rfl) rfl (ab rfl)) <| zS rfl (aI ak rfl rfl) <| zS rfl (aP ak rfl) <| zm rfl <| ag <| bb <| AW.loop (X := Nat × (List UInt8) × Nat × Int) (fun (n16, y12, t13, y14) => ⟨[(1, .cp [i64 a1, slE Enc.str a2 none, i64 a3, i64 a4, i64 a5]), (4, slE Enc.byte y12 (some t13)), (12, slE Enc.str a2 none), (13, i64 (a2.length : Int)), (14, i64 y14)], [], [.tok t13 5]⟩) (fun (n16, y12, t13, y14) => cy a1 a2 n16 (y12, y14) = some (r6, r7)) (fun (n16, y12, t13, y14) => n16) (F, [], t11, 0) H (aW [0] (.cons (.refl _) (.cons (.refl _) (.cons (.refl _) (.cons (.refl _) (.cons (.refl _) (.nil _)))))) rfl) ?_;rintro ⟨n16, y12, t13, y14⟩ H;obtain ⟨n16, rfl, H⟩ := dN H;replace H : dF a1 a2 (cy a1 a2 n16) y12 y14 = some (r6, r7) := H
   unfold dF at H
   refine af <| aa ?_;show AR _ _ _ _ _ [0] _;refine zS rfl (bW rfl rfl) <| ag <| af <| aw rfl (fun c17 => ?_) (fun c17 => ?_)
   ·replace H := aZ c17 H;refine aE <| af <| bb <| af ?_;obtain ⟨g18, H⟩ := aN H;obtain ⟨x19, e20, H⟩ := bK H;refine aa ?_;show AR _ _ _ _ _ [0, 1, 2, 3, 4] _;refine zm rfl <| zS rfl (bl (E := Enc.str) ak (by kernel_rfl) rfl rfl g18 e20) <| zS rfl (aI ai rfl rfl) <| za rfl <| za rfl <| ag <| af <| aa ?_;show AR _ _ _ _ _ [0] _;refine za rfl <| ag <| bB (X := (List UInt8)) (fun y23 => ⟨[(1, .cp [i64 a1, slE Enc.str a2 none, i64 a3, i64 a4, i64 a5]), (4, slE Enc.byte y12 (some t13)), (6, S x19), (7, S y23), (12, slE Enc.str a2 none), (13, i64 (a2.length : Int)), (14, i64 y14)], [], [.tok t13 5]⟩) (fun y23 => cG a1 y12 y14 x19 (cy a1 a2 n16) y23 = some (r6, r7)) ?_ ?_
    ·refine af ?_;obtain ⟨g21, H⟩ := aN H;refine aa ?_;show AR _ _ _ _ _ [0, 1, 2, 3, 4, 5] _;refine zm rfl <| zS rfl (eY rfl rfl g21) <| zS rfl (aB (n := 1) (by kernel_rfl) rfl (ab rfl)) <| zS rfl (aI ak rfl rfl) <| zS rfl (aP ak rfl) <| zS rfl (bx rfl rfl) <| ag <| aw rfl (fun c22 => ?_) (fun c22 => ?_)
     ·replace H := aZ c22 H;refine aa ?_;show AR _ _ _ _ _ [0] _;refine za rfl <| ag ?_;exact Exists.intro ([32] : List UInt8) ⟨H, aW [0] (.cons (.refl _) (.cons (.refl _) (.cons (.refl _) (.cons (.refl _) (.cons (.refl _) (.cons (.refl _) (.cons (.refl _) (.nil _)))))))) rfl⟩
     ·replace H := ba c22 H;refine aE ?_;exact Exists.intro ([45] : List UInt8) ⟨H, aW [0] (.cons (.refl _) (.cons (.refl _) (.cons (.refl _) (.cons (.refl _) (.cons (.refl _) (.cons (.refl _) (.cons (.refl _) (.nil _)))))))) rfl⟩
    rintro y23 H;replace H : cG a1 y12 y14 x19 (cy a1 a2 n16) y23 = some (r6, r7) := H
    unfold cG at H
    obtain ⟨g25, H⟩ := aN H;obtain ⟨x26, e27, H⟩ := bK H;obtain ⟨g28, H⟩ := aN H;obtain ⟨x29, e30, H⟩ := bK H;obtain ⟨g31, H⟩ := aN H;obtain ⟨x32, e33, H⟩ := bK H;obtain ⟨g34, H⟩ := aN H;obtain ⟨x35, e36, H⟩ := bK H;obtain ⟨g38, H⟩ := aN H;obtain ⟨x39, e40, H⟩ := bK H;refine aa ?_;show AR _ _ _ _ _ [0, 1, 2, 3, 4, 5, 6, 7, 8, 9, 10] _;refine zS rfl (ax (av := slE _ _ _) rfl) <| zS rfl (aB (n := 0) (by kernel_rfl) rfl (ab rfl)) <| zS rfl (aI ay rfl rfl) <| bc rfl rfl (aM rfl kJ rfl (show ACalls _ _ _ [] (Ret (S x26) []) from by subst e27; exact iI a1 (lb g25)) ?_);refine zm rfl <| zS rfl (g_cat rfl rfl g28 e30) <| zm rfl <| zS rfl (g_cat rfl rfl g31 e33) <| zS rfl (g_cat rfl rfl g34 e36) <| zX rfl (kX (bytes := 1) 0 ah ai rfl (by kernel_rfl) rfl rfl rfl rfl g38 e40) ?_;rintro _ _ ⟨t37, rfl, rfl⟩;refine zS rfl (aK (av := slE _ _ _) rfl) <| ag ?_;obtain ⟨g41, H⟩ := aN H;refine aa ?_;show AR _ _ _ _ _ [0, 1] _;refine zS rfl (eY rfl rfl g41) <| zm rfl <| ag ?_;exact Exists.intro (n16, x39, t37, y14 + 1) ⟨H, Nat.lt_succ_self _, aW [0] (.cons (.refl _) (.cons (.refl _) (.cons (.refl _) (.cons (.refl _) (.cons (.refl _) (.nil _)))))) rfl⟩
   ·replace H := ba c17 H;refine cF ?_;exact Exists.intro (y12, t13) ⟨H, aW [0] (.cons (.refl _) (.nil _)) rfl⟩
  rintro ⟨y42, t43⟩ H;replace H : ew y42 = some (r6, r7) := H
  unfold ew at H
  refine af <| aa ?_;show AR _ _ _ _ _ [0, 1, 2] _;refine zS rfl (ax (av := slE _ _ _) rfl) <| zS rfl (aK (av := slE _ _ _) rfl) <| za rfl <| ag <| aL ?_;obtain ⟨rfl, rfl⟩ := fi H;exact And.intro rfl (Exists.intro _ (Exists.intro _ ⟨bj rfl (.tok _ _ _) (.refl _), aD [] rfl, rfl, rfl⟩))
set_option maxRecDepth 100000 in
set_option maxHeartbeats 1000000 in
theorem hH (F : Nat) (a1 : Bool) (rv : Res Unit) (H : cK F a1 = some rv) : ACalls Tryd.prog 35 [B a1] [] (PanOr (fun (r : Unit) => (Ret (.tup []) [])) (fun e => iX (.iface 51 (.agg #[]))) rv) := by
 unfold cK at H
 refine az Tryd.func35 rfl rfl ?_;show AW _ _ 6 _ _ _;refine af <| aa ?_;show AR _ _ _ _ _ [0, 1] _;refine zm rfl <| zS rfl (dv rfl) <| ag <| aw rfl (fun c2 => ?_) (fun c2 => ?_)
 ·replace H := aZ c2 H;obtain rfl := aj H;refine aa ?_;show AR _ _ _ _ _ [0, 1, 2] _;refine zS rfl (lj (zs := []) (ps := []) (cs := []) (by kernel_rfl) rfl rfl) <| zS rfl (aV (a := .agg _) Tryd.underlying51 rfl rfl) <| bc rfl rfl (AO.panicT (c := iX (.iface 51 (.agg #[]))) rfl rfl ?_);exact And.intro rfl (Exists.intro [] ⟨Sub.nil _, rfl, rfl⟩)
 ·replace H := ba c2 H;refine aE ?_;obtain rfl := aj H;exact And.intro rfl (Exists.intro _ (Exists.intro _ ⟨bg rfl, aD [] rfl, rfl, rfl⟩))
theorem dm (F : Nat) (a1 : Bool) (H : cK F a1 = some (Res.ok ())) : ACalls Tryd.prog 35 [B a1] [] (Ret (.tup []) []) := hH F a1 _ H
theorem dg (F : Nat) (a1 : Bool) (e : Int) (H : cK F a1 = some (Res.pan e)) : ACalls Tryd.prog 35 [B a1] [] (fun ae A' => ae = .pan ((fun e => iX (.iface 51 (.agg #[]))) e) ∧ A' = []) := hH F a1 _ H
set_option maxRecDepth 100000 in
set_option maxHeartbeats 1000000 in
theorem kN (F : Nat) {σ τ : Type} (T : σ → τ → List Chunk) (Tp : σ → τ → List Chunk) (k : σ → (List UInt8) → Option (σ × Option Bool)) (o : Nat) (hY : ∀ (s : σ) (t : τ) (x : List UInt8) (rv : σ × Option Bool), k s x = some rv → fp Tryd.prog o [S x] (T s t) fun ae A' => ∃ t', ae = outc (iX (.iface 51 (.agg #[]))) rv.2 ∧ A' = outT T Tp rv t') (st0 : σ) (tt0 : τ) (o1 : Nat) (a2 : List UInt8) (rs : σ) (rb : Bool) (r3 : List UInt8) (H : fH F k st0 a2 = some (rs, rb, r3)) : ACalls Tryd.prog 45 [.yl o, .pt o1 0] ([.obj o1 [slE Enc.byte a2 none]] ++ T st0 tt0) (fun e A' => ∃ tz, (rb = false ∧ e = .ret (.tup []) ∧ A' = [.obj o1 [slE Enc.byte r3 none]] ++ T rs tz) ∨ (rb = true ∧ e = .pan (iX (.iface 51 (.agg #[]))) ∧ (A' = T rs tz ∨ A' = Tp rs tz))) := by
 unfold fH at H
 refine az Tryd.func45 rfl rfl ?_;show AW _ _ 38 _ _ _;refine bb <| AW.loop (X := Nat × (List UInt8) × σ × τ) (fun (n8, y4, y5, t6) => ⟨[(0, .yl o), (1, .pt o1 0)], [], ([.obj o1 [slE Enc.byte y4 none]] ++ T y5 t6)⟩) (fun (n8, y4, y5, t6) => cU F k n8 (y4, y5) = some (rs, rb, r3)) (fun (n8, y4, y5, t6) => n8) (F, a2, st0, tt0) H (WK.atT 1 [0] (.cons (.refl _) (.cons (.refl _) (.nil _))) rfl) ?_;rintro ⟨n8, y4, y5, t6⟩ H;obtain ⟨n8, rfl, H⟩ := dN H;replace H : cV F k (cU F k n8) y4 y5 = some (rs, rb, r3) := H
 unfold cV at H
 refine bb <| af ?_;obtain ⟨x9, e10, H⟩ := dA H;refine aa ?_;show AR _ _ _ _ _ [0, 1, 2] _;refine zR rfl (al (i := 0) ah rfl rfl rfl rfl) <| bc rfl rfl (aM rfl iy rfl (dB F y4 none 10 x9 e10) ?_);refine za rfl <| ag <| af <| af <| aa ?_;show AR _ _ _ _ _ [0, 1] _;refine zm rfl <| zS rfl (bW rfl rfl) <| ag <| aw rfl (fun c11 => ?_) (fun c11 => ?_)
 ·replace H := aZ c11 H;refine af ?_
  rcases Or.symm (lv H) with ⟨p14, e13, H⟩ | ⟨x12, e13, H⟩
  ·obtain ⟨rfl, rfl, rfl⟩ := jl H;refine aa ?_;show AR _ _ _ _ _ [0, 1, 2, 3] _;refine zR rfl (al (i := 0) ah rfl rfl rfl rfl) <| zS rfl (aP ah rfl) <| zS rfl (bW rfl rfl) <| bc rfl rfl (AO.callPan (c := iX (.iface 51 (.agg #[]))) [] rfl dz rfl (dg F (decide ((y4.length : Int) < 512)) p14 e13) rfl ?_);exact And.intro rfl (Exists.intro _ ⟨Sub.atT 1 [] rfl, t6, .inr ⟨rfl, rfl, .inl rfl⟩⟩)
  refine aa ?_;show AR _ _ _ _ _ [0, 1, 2, 3] _;refine zR rfl (al (i := 0) ah rfl rfl rfl rfl) <| zS rfl (aP ah rfl) <| zS rfl (bW rfl rfl) <| bc rfl rfl (aM rfl dz rfl (dm F (decide ((y4.length : Int) < 512)) e13) ?_);refine ag <| aL ?_;obtain ⟨rfl, rfl, rfl⟩ := jl H;exact And.intro rfl (Exists.intro _ (Exists.intro _ ⟨bg rfl, Sub.atT 1 [0] rfl, t6, .inl ⟨rfl, rfl, rfl⟩⟩))
 ·replace H := ba c11 H;refine aE <| af ?_;obtain ⟨x17, e18, H⟩ := eB H;obtain ⟨g19, H⟩ := cY H
  rcases Or.symm (lv H) with ⟨p22, e21, H⟩ | ⟨x20, e21, H⟩
  ·obtain ⟨rfl, rfl, rfl⟩ := jl H;refine aa ?_;show AR _ _ _ _ _ [0, 1, 2, 3, 4, 5, 6, 7, 8, 9, 10, 11, 12, 13] _;refine zm rfl <| zS rfl (bW rfl rfl) <| zm rfl <| aF (l := [6, 7, 8, 9, 10, 11, 12, 13]) 17 (B ((decide (x9 < 512)) && (decide (0 < x9)))) (fun K => ?_) ?_
   ·rcases ac (decide (x9 < 512)) with h15 | h15
    ·refine zM h15 rfl <| zU h15 rfl (eh rfl rfl) <| zS rfl (aq (av := .v _) rfl h15 rfl) ?_;exact K _ 2 _ (an (bH h15)) rfl rfl
    ·refine zF h15 rfl <| zF h15 rfl <| zS rfl (ap (av := .v _) rfl h15 rfl) ?_;exact K _ 2 _ (an (bI h15)) rfl rfl
   refine zm rfl <| aF (l := [13]) 24 (B (((decide (x9 < 512)) && (decide (0 < x9))) && (decide (x17 = x9 - 1)))) (fun K => ?_) ?_
   ·rcases ac ((decide (x9 < 512)) && (decide (0 < x9))) with h16 | h16
    ·refine zT h16 rfl (AO.op rfl rfl (al (i := 0) ah rfl rfl rfl rfl) ?_);refine zT h16 rfl (aM rfl iy rfl (dB F y4 none 13 x17 (e18 h16)) ?_);refine zM h16 rfl <| zU h16 rfl (ka rfl rfl (g19 h16)) <| zU h16 rfl (bx rfl rfl) <| zS rfl (aq (av := .v _) rfl h16 rfl) ?_;exact K _ 5 _ (an (bH h16)) rfl rfl
    ·refine zF h16 rfl <| zF h16 rfl <| zF h16 rfl <| zF h16 rfl <| zF h16 rfl <| zS rfl (ap (av := .v _) rfl h16 rfl) ?_;exact K _ 5 _ (an (bI h16)) rfl rfl
   refine bc rfl rfl (AO.callPan (c := iX (.iface 51 (.agg #[]))) [] rfl dz rfl (dg F (((decide (x9 < 512)) && (decide (0 < x9))) && (decide (x17 = x9 - 1))) p22 e21) rfl ?_);exact And.intro rfl (Exists.intro _ ⟨Sub.atT 1 [] rfl, t6, .inr ⟨rfl, rfl, .inl rfl⟩⟩)
  refine aa ?_;show AR _ _ _ _ _ [0, 1, 2, 3, 4, 5, 6, 7, 8, 9, 10, 11, 12, 13] _;refine zm rfl <| zS rfl (bW rfl rfl) <| zm rfl <| aF (l := [6, 7, 8, 9, 10, 11, 12, 13]) 17 (B ((decide (x9 < 512)) && (decide (0 < x9)))) (fun K => ?_) ?_
  ·rcases ac (decide (x9 < 512)) with h15 | h15
   ·refine zM h15 rfl <| zU h15 rfl (eh rfl rfl) <| zS rfl (aq (av := .v _) rfl h15 rfl) ?_;exact K _ 2 _ (an (bH h15)) rfl rfl
   ·refine zF h15 rfl <| zF h15 rfl <| zS rfl (ap (av := .v _) rfl h15 rfl) ?_;exact K _ 2 _ (an (bI h15)) rfl rfl
  refine zm rfl <| aF (l := [13]) 24 (B (((decide (x9 < 512)) && (decide (0 < x9))) && (decide (x17 = x9 - 1)))) (fun K => ?_) ?_
  ·rcases ac ((decide (x9 < 512)) && (decide (0 < x9))) with h16 | h16
   ·refine zT h16 rfl (AO.op rfl rfl (al (i := 0) ah rfl rfl rfl rfl) ?_);refine zT h16 rfl (aM rfl iy rfl (dB F y4 none 13 x17 (e18 h16)) ?_);refine zM h16 rfl <| zU h16 rfl (ka rfl rfl (g19 h16)) <| zU h16 rfl (bx rfl rfl) <| zS rfl (aq (av := .v _) rfl h16 rfl) ?_;exact K _ 5 _ (an (bH h16)) rfl rfl
   ·refine zF h16 rfl <| zF h16 rfl <| zF h16 rfl <| zF h16 rfl <| zF h16 rfl <| zS rfl (ap (av := .v _) rfl h16 rfl) ?_;exact K _ 5 _ (an (bI h16)) rfl rfl
  refine bc rfl rfl (aM rfl dz rfl (dm F (((decide (x9 < 512)) && (decide (0 < x9))) && (decide (x17 = x9 - 1))) e21) ?_);refine ag <| af <| af ?_;obtain ⟨g23, H⟩ := aN H;obtain ⟨g24, H⟩ := aN H;obtain ⟨x25, e26, H⟩ := bK H;obtain ⟨x27, e28, H⟩ := dA H
  rcases bndo_s H with ⟨h30, H⟩ | ⟨x29, h30, H⟩
  ·obtain ⟨rfl, rfl, rfl⟩ := jl H;refine aa ?_;show AR _ _ _ _ _ [0, 1, 2, 3, 4, 5, 6, 7] _;refine zS rfl (ax (av := .yl _) rfl) <| zR rfl (al (i := 0) ah rfl rfl rfl rfl) <| zm rfl <| zS rfl (ka rfl rfl g23) <| zS rfl (ne (E := Enc.byte) ah (by kernel_rfl) rfl rfl g24 e26) <| zS rfl (eC ah bC ai rfl) <| bc rfl rfl (AO.yieldPan 1 rfl rfl rfl (hY _ _ _ _ e28) h30 fun t32 => ?_);exact And.intro rfl (Exists.intro _ ⟨Sub.atT 1 [] rfl, t32, .inr ⟨rfl, rfl, .inr rfl⟩⟩)
  refine aa ?_;show AR _ _ _ _ _ [0, 1, 2, 3, 4, 5, 6, 7] _;refine zS rfl (ax (av := .yl _) rfl) <| zR rfl (al (i := 0) ah rfl rfl rfl rfl) <| zm rfl <| zS rfl (ka rfl rfl g23) <| zS rfl (ne (E := Enc.byte) ah (by kernel_rfl) rfl rfl g24 e26) <| zS rfl (eC ah bC ai rfl) <| bc rfl rfl (AO.yieldOk (b := x29) 1 rfl rfl rfl (hY _ _ _ _ e28) h30 fun t31 => ?_);show AR _ _ _ _ _ _ ⟨_, _, ([.obj o1 [slE Enc.byte y4 none]] ++ T x27.1 t31)⟩;refine zS rfl (dv rfl) <| ag <| aw rfl (fun c33 => ?_) (fun c33 => ?_)
  ·replace H := aZ c33 H;refine aL ?_;obtain ⟨rfl, rfl, rfl⟩ := jl H;exact And.intro rfl (Exists.intro _ (Exists.intro _ ⟨bg rfl, Sub.atT 1 [0] rfl, t31, .inl ⟨rfl, rfl, rfl⟩⟩))
  ·replace H := ba c33 H;refine aE ?_;obtain ⟨g34, H⟩ := aN H;obtain ⟨g35, H⟩ := aN H;obtain ⟨x36, e37, H⟩ := bK H;refine aa ?_;show AR _ _ _ _ _ [0, 1, 2, 3, 4] _;refine zR rfl (al (i := 0) ah rfl rfl rfl rfl) <| zm rfl <| zS rfl (eY rfl rfl g34) <| zS rfl (co (E := Enc.byte) ah (by kernel_rfl) rfl rfl g35 e37) <| s0 rfl rfl (aC (i := 0) (c := slE _ _ _) (by kernel_rfl) rfl rfl rfl rfl (ab rfl)) <| ag ?_;exact Exists.intro (n8, x36, x27.1, t31) ⟨H, Nat.lt_succ_self _, WK.atT 1 [0] (.cons (.refl _) (.cons (.refl _) (.nil _))) rfl⟩
set_option maxRecDepth 100000 in
set_option maxHeartbeats 1000000 in
theorem ly (F : Nat) (a1 : List UInt8) (H : gg F a1 = some ()) : ACalls Tryd.prog 34 [slE Enc.byte a1 none] [] (fun e A' => ∃ ob1 : Nat, e = .ret (.fn (.func 45) [] [.pt ob1 0]) ∧ A' = [.obj ob1 [slE Enc.byte a1 none]]) := by
 unfold gg at H
 refine az Tryd.func34 rfl rfl ?_;show AW _ _ 4 _ _ _;refine af <| aa ?_;show AR _ _ _ _ _ [0, 1] _;refine zX rfl (lh rfl (.inl rfl)) ?_;rintro _ _ ⟨o2, rfl, rfl⟩;refine za rfl <| ag <| af <| aa ?_;show AR _ _ _ _ _ [0, 1] _;refine zS rfl (ey rfl rfl) <| zS rfl (aK (av := .fn _ _ _) rfl) <| ag <| aL ?_;exact And.intro rfl (Exists.intro _ (Exists.intro _ ⟨aH rfl (.refl _), aD [0] rfl, o2, rfl, rfl⟩))
abbrev _root_.Go.Av.aA := @Tryd.underlying27
set_option maxRecDepth 100000 in
set_option maxHeartbeats 1000000 in
theorem mx (F : Nat) (a1 : Int) (a2 : List (List UInt8)) (a3 : Int) (a4 : Int) (a5 : Int) (a6 : Int) (o7 : Nat) (a8 : List (Int × (List (List UInt8)) × Int × Int × Int)) (t9 : Nat) (o10 : Nat) (a11 : Int) (r12 : List (Int × (List (List UInt8)) × Int × Int × Int)) (r14 : Int) (H : ia F a1 a2 a3 a4 a5 a6 a8 a11 = some (r12, r14)) : ACalls Tryd.prog 25 [.agg [i64 a1, slE Enc.str a2 none, i64 a3, i64 a4, i64 a5], i64 a6, .pt o7 0, .pt o10 0] [.obj o7 [slE (Enc.prod Enc.int (Enc.prod (Enc.sl Enc.str) (Enc.prod Enc.int (Enc.prod Enc.int Enc.int)))) a8 (some t9)], .tok t9 38, .obj o10 [i64 a11]] (fun e A' => e = .ret (.tup []) ∧ ∃ t13, A' = [.obj o7 [slE (Enc.prod Enc.int (Enc.prod (Enc.sl Enc.str) (Enc.prod Enc.int (Enc.prod Enc.int Enc.int)))) r12 (some t13)], .tok t13 38, .obj o10 [i64 r14]]) := by
 unfold ia at H
 refine az Tryd.func25 rfl rfl ?_;show AW _ _ 11 _ _ _;refine af <| aa ?_;show AR _ _ _ _ _ [0] _;refine zR rfl (dX rfl (.inr ⟨_, rfl⟩)) <| ag ?_;obtain ⟨g16, H⟩ := aN H;obtain ⟨x17, e18, H⟩ := bK H;refine aa ?_;show AR _ _ _ _ _ [0, 1, 2, 3, 4, 5, 6] _;refine zR rfl (al (i := 0) aA rfl rfl rfl rfl) <| zS rfl (bn bu rfl (n := 5) (by kernel_rfl) rfl (ab rfl)) <| zR rfl (kU (E := (Enc.prod Enc.int (Enc.prod (Enc.sl Enc.str) (Enc.prod Enc.int (Enc.prod Enc.int Enc.int))))) (bytes := 56) (zs := [.int .i64 0, .slice none 0 0, .int .i64 0, .int .i64 0, .int .i64 0]) (l := ([(a1, a2, (a3, a4, a5))] : List (Int × (List (List UInt8)) × Int × Int × Int))) aA (by kernel_rfl) (by kernel_rfl) rfl rfl rfl rfl rfl) <| zX rfl (ek (E := (Enc.prod Enc.int (Enc.prod (Enc.sl Enc.str) (Enc.prod Enc.int (Enc.prod Enc.int Enc.int))))) (bytes := 56) 1 aA aA rfl (by kernel_rfl) rfl rfl rfl rfl g16 e18) ?_;rintro _ _ ⟨t15, rfl, rfl⟩;refine zm rfl <| s0 rfl rfl (aC (i := 0) (c := slE _ _ _) (by kernel_rfl) rfl rfl rfl rfl (ab rfl)) <| s0 rfl rfl (aC (i := 2) (c := .v _) (by kernel_rfl) rfl rfl rfl rfl (ab rfl)) <| ag ?_;obtain ⟨rfl, rfl⟩ := fi H;exact And.intro rfl (Exists.intro _ (Exists.intro _ ⟨bg rfl, aD [0, 0, 0] rfl, rfl, t15, rfl⟩))
set_option maxRecDepth 100000 in
set_option maxHeartbeats 1000000 in
theorem kt (F : Nat) (a1 : List UInt8) (q2 : Option Nat) (o3 : Nat) (a4 : List (Int × (List (List UInt8)) × Int × Int × Int)) (t5 : Nat) (o6 : Nat) (a7 : Int) (r8 : List (Int × (List (List UInt8)) × Int × Int × Int)) (r10 : Int) (rb : Bool) (H : fQ F a1 a4 a7 = some (r8, r10, rb)) : ACalls Tryd.prog 24 [slE Enc.byte a1 q2, .fn (.func 25) [] [.pt o3 0, .pt o6 0]] [.obj o3 [slE (Enc.prod Enc.int (Enc.prod (Enc.sl Enc.str) (Enc.prod Enc.int (Enc.prod Enc.int Enc.int)))) a4 (some t5)], .tok t5 38, .obj o6 [i64 a7]] (fun e A' => ∃ t9, A' = [.obj o3 [slE (Enc.prod Enc.int (Enc.prod (Enc.sl Enc.str) (Enc.prod Enc.int (Enc.prod Enc.int Enc.int)))) r8 (some t9)], .tok t9 38, .obj o6 [i64 r10]] ∧ ((rb = false ∧ e = .ret (.tup [])) ∨ (rb = true ∧ e = .pan (iX (.iface 51 (.agg #[])))))) := by
 unfold fQ at H
 refine iu Tryd.func24 rfl rfl ?_;show AWV _ 87 _ _ _;refine AWV.seq <| AWV.of <| aa ?_;show AR _ _ _ _ _ [0] _;refine zR rfl (dX rfl (.inl rfl)) <| ag ?_;show AWV _ _ _ _ _;refine AWV.seq <| AWV.of <| aa ?_;show AR _ _ _ _ _ [0] _;refine zX rfl (dW (zs := [.int .i64 0, .slice none 0 0, .int .i64 0, .int .i64 0, .int .i64 0]) (by kernel_rfl)) ?_;rintro _ _ ⟨o11, rfl, rfl⟩;refine ag ?_;show AWV _ _ _ _ _
 refine AWV.nil_objAt 0 1 1 9 rfl rfl fun t12 => ?_
 show AWV _ _ _ _ ⟨_, _, [.tok t12 9, .obj o11 [i64 0, slE Enc.str [] (some t12), i64 0, i64 0, i64 0], .obj o3 [slE (Enc.prod Enc.int (Enc.prod (Enc.sl Enc.str) (Enc.prod Enc.int (Enc.prod Enc.int Enc.int)))) a4 (some t5)], .tok t5 38, .obj o6 [i64 a7]]⟩;refine AWV.seq <| AWV.of <| aa ?_;show AR _ _ _ _ _ [0, 1] _;refine zX rfl (dW (zs := [.int .i64 0]) (by kernel_rfl)) ?_;rintro _ _ ⟨o13, rfl, rfl⟩;refine s0 rfl rfl (aC (i := 0) (c := .v _) (by kernel_rfl) rfl rfl rfl rfl (ab rfl)) <| ag ?_;show AWV _ _ _ _ _;refine AWV.seq <| AWV.of ?_;obtain ⟨_, e14, H⟩ := dA H;refine aa ?_;show AR _ _ _ _ _ [0, 1] _;refine zS rfl (ax (av := slE _ _ _) rfl) <| bc rfl rfl (AO.callAt [] rfl nQ rfl (la (.cons (.tok _ _ _) (.nil)) (ly F a1 e14)) rfl (fun c A' h => by obtain ⟨_, h, _⟩ := h; cases h) ?_)
 rintro av A' ⟨o15, h, rfl⟩; cases h
 refine ag ?_;show AWV _ _ _ _ _;refine AWV.block ?_;obtain ⟨x79, x80, x81, e82, H⟩ := jW H;refine mb (α := List UInt8) (σ := Int × Int × (List (List UInt8)) × (List (Int × (List (List UInt8)) × Int × Int × Int)) × Int) (τ := Nat × Nat) (iX (.iface 51 (.agg #[]))) (fun x => [S x]) (fun s t => [.obj o13 [i64 s.1], .obj o11 [i64 s.2.1, slE Enc.str s.2.2.1 (some t.1), i64 0, i64 0, i64 0], .obj o3 [slE (Enc.prod Enc.int (Enc.prod (Enc.sl Enc.str) (Enc.prod Enc.int (Enc.prod Enc.int Enc.int)))) s.2.2.2.1 (some t.2)], .obj o6 [i64 s.2.2.2.2], .tok t.1 9, .tok t.2 38]) (fun _ => none) (fun s x => dr F s.1 s.2.1 s.2.2.1 s.2.2.2.1 s.2.2.2.2 x) (0, 0, [], a4, a7) (t12, t5) x79 x80 [0] [0, 1, 1, 2, 0, 0] rfl nL (fun _ => rfl) (by decide) rfl rfl rfl (fun o T' Tp hY => kN F T' Tp _ o hY _ _ o15 a1 x79 x80 x81 e82) ?_ ?_ ?_
 ·rintro l ⟨y16, y17, y18, y20, y22⟩ ⟨t19, t21⟩ x24 rv H;replace H : dr F y16 y17 y18 y20 y22 x24 = some rv := H
  unfold dr at H
  refine ⟨rfl, ?_⟩;show AW _ _ _ _ _ ⟨(11, S x24) :: _, [], _⟩;refine aa ?_;show AR _ _ _ _ _ [0] _;refine za rfl <| ag <| bb <| af ?_;obtain ⟨g26, H⟩ := cY H;obtain ⟨x27, e28, H⟩ := bK H;obtain ⟨g30, H⟩ := cY H;obtain ⟨x31, e32, H⟩ := bK H
  rcases Or.symm (lv H) with ⟨p36, e35, H⟩ | ⟨x34, e35, H⟩
  ·obtain rfl := aj H;refine aa ?_;show AR _ _ _ _ _ [0, 1, 2, 3, 4, 5, 6, 7, 8, 9, 10, 11, 12, 13, 14, 15, 16, 17, 18, 19] _;refine zm rfl <| zS rfl (bt ai rfl) <| zS rfl (ei rfl rfl) <| zm rfl <| aF (l := [13, 14, 15, 16, 17, 18, 19]) 24 (B ((decide (4 ≤ (x24.length : Int))) && ((decide (x27 = 45)) || (decide (x31 = 32))))) (fun K => ?_) ?_
   ·rcases ac (decide (4 ≤ (x24.length : Int))) with h25 | h25
    ·refine zM h25 rfl <| zU h25 rfl (aR ai rfl rfl (g26 h25) e28) <| zU h25 rfl (dR (a := x27) (b := 45) rfl rfl) <| zM h25 rfl <| aF (l := [12, 13, 14, 15, 16, 17, 18, 19]) 23 (B ((decide (x27 = 45)) || (decide (x31 = 32)))) (fun K => ?_) ?_
     ·rcases ac (decide (x27 = 45)) with h29 | h29
      ·refine zF h29 rfl <| zF h29 rfl <| zF h29 rfl <| zU h25 rfl (aq (av := .v _) rfl h29 rfl) ?_;exact K _ 3 _ (an (gc h29)) rfl rfl
      ·refine zM h29 rfl <| zU h29 rfl (aR ai rfl rfl (g30 (ff h25 (nf h29))) e32) <| zU h29 rfl (dR (a := x31) (b := 32) rfl rfl) <| zU h25 rfl (ap (av := .v _) rfl h29 rfl) ?_;exact K _ 3 _ (an (gd h29)) rfl rfl
     refine zS rfl (aq (av := .v _) rfl h25 rfl) ?_;exact K _ 5 _ (an (bH h25)) rfl rfl
    ·refine zF h25 rfl <| zF h25 rfl <| zF h25 rfl <| zF h25 rfl <| gU rfl rfl rfl rfl rfl <| gU rfl rfl rfl rfl rfl <| gU rfl rfl rfl rfl rfl <| zF h25 rfl <| zS rfl (ap (av := .v _) rfl h25 rfl) ?_;exact K _ 8 _ (an (bI h25)) rfl rfl
   refine zm rfl <| aF (l := [19]) 30 (B (((decide (4 ≤ (x24.length : Int))) && ((decide (x27 = 45)) || (decide (x31 = 32)))) && (decide ((y18.length : Int) < 100)))) (fun K => ?_) ?_
   ·rcases ac ((decide (4 ≤ (x24.length : Int))) && ((decide (x27 = 45)) || (decide (x31 = 32)))) with h33 | h33
    ·refine zU h33 rfl (am (n := 1) (by kernel_rfl) rfl) <| zT h33 rfl (AO.op rfl rfl (al (i := 1) ak rfl rfl rfl rfl) ?_);refine zU h33 rfl (aP ak rfl) <| zU h33 rfl (bW rfl rfl) <| zS rfl (aq (av := .v _) rfl h33 rfl) ?_;exact K _ 4 _ (an (bH h33)) rfl rfl
    ·refine zF h33 rfl <| zF h33 rfl <| zF h33 rfl <| zF h33 rfl <| zS rfl (ap (av := .v _) rfl h33 rfl) ?_;exact K _ 4 _ (an (bI h33)) rfl rfl
   refine bc rfl rfl (AO.callPan (c := iX (.iface 51 (.agg #[]))) [] rfl dz rfl (dg F (((decide (4 ≤ (x24.length : Int))) && ((decide (x27 = 45)) || (decide (x31 = 32)))) && (decide ((y18.length : Int) < 100))) p36 e35) rfl ?_);exact ⟨rfl, rfl, rfl, (t19, t21), aD [0, 0, 0, 0, 0, 0] rfl⟩
  refine aa ?_;show AR _ _ _ _ _ [0, 1, 2, 3, 4, 5, 6, 7, 8, 9, 10, 11, 12, 13, 14, 15, 16, 17, 18, 19] _;refine zm rfl <| zS rfl (bt ai rfl) <| zS rfl (ei rfl rfl) <| zm rfl <| aF (l := [13, 14, 15, 16, 17, 18, 19]) 24 (B ((decide (4 ≤ (x24.length : Int))) && ((decide (x27 = 45)) || (decide (x31 = 32))))) (fun K => ?_) ?_
  ·rcases ac (decide (4 ≤ (x24.length : Int))) with h25 | h25
   ·refine zM h25 rfl <| zU h25 rfl (aR ai rfl rfl (g26 h25) e28) <| zU h25 rfl (dR (a := x27) (b := 45) rfl rfl) <| zM h25 rfl <| aF (l := [12, 13, 14, 15, 16, 17, 18, 19]) 23 (B ((decide (x27 = 45)) || (decide (x31 = 32)))) (fun K => ?_) ?_
    ·rcases ac (decide (x27 = 45)) with h29 | h29
     ·refine zF h29 rfl <| zF h29 rfl <| zF h29 rfl <| zU h25 rfl (aq (av := .v _) rfl h29 rfl) ?_;exact K _ 3 _ (an (gc h29)) rfl rfl
     ·refine zM h29 rfl <| zU h29 rfl (aR ai rfl rfl (g30 (ff h25 (nf h29))) e32) <| zU h29 rfl (dR (a := x31) (b := 32) rfl rfl) <| zU h25 rfl (ap (av := .v _) rfl h29 rfl) ?_;exact K _ 3 _ (an (gd h29)) rfl rfl
    refine zS rfl (aq (av := .v _) rfl h25 rfl) ?_;exact K _ 5 _ (an (bH h25)) rfl rfl
   ·refine zF h25 rfl <| zF h25 rfl <| zF h25 rfl <| zF h25 rfl <| gU rfl rfl rfl rfl rfl <| gU rfl rfl rfl rfl rfl <| gU rfl rfl rfl rfl rfl <| zF h25 rfl <| zS rfl (ap (av := .v _) rfl h25 rfl) ?_;exact K _ 8 _ (an (bI h25)) rfl rfl
  refine zm rfl <| aF (l := [19]) 30 (B (((decide (4 ≤ (x24.length : Int))) && ((decide (x27 = 45)) || (decide (x31 = 32)))) && (decide ((y18.length : Int) < 100)))) (fun K => ?_) ?_
  ·rcases ac ((decide (4 ≤ (x24.length : Int))) && ((decide (x27 = 45)) || (decide (x31 = 32)))) with h33 | h33
   ·refine zU h33 rfl (am (n := 1) (by kernel_rfl) rfl) <| zT h33 rfl (AO.op rfl rfl (al (i := 1) ak rfl rfl rfl rfl) ?_);refine zU h33 rfl (aP ak rfl) <| zU h33 rfl (bW rfl rfl) <| zS rfl (aq (av := .v _) rfl h33 rfl) ?_;exact K _ 4 _ (an (bH h33)) rfl rfl
   ·refine zF h33 rfl <| zF h33 rfl <| zF h33 rfl <| zF h33 rfl <| zS rfl (ap (av := .v _) rfl h33 rfl) ?_;exact K _ 4 _ (an (bI h33)) rfl rfl
  refine bc rfl rfl (aM rfl dz rfl (dm F (((decide (4 ≤ (x24.length : Int))) && ((decide (x27 = 45)) || (decide (x31 = 32)))) && (decide ((y18.length : Int) < 100))) e35) ?_);refine ag <| af ?_;obtain ⟨g37, H⟩ := aN H;obtain ⟨x38, e39, H⟩ := bK H;obtain ⟨x40, x41, e42, H⟩ := fw H;refine aa ?_;show AR _ _ _ _ _ [0, 1, 2, 3, 4, 5, 6, 7] _;refine zm rfl <| zS rfl (g_to_str ai rfl rfl g37 e39) <| bc rfl rfl (aM rfl kH rfl (hM F x38 x40 x41 e42) ?_);refine zS rfl (ax (av := .tup _) rfl) <| zS rfl (aG (av := .v _) rfl rfl) <| zS rfl (aG (av := .v _) rfl rfl) <| za rfl <| za rfl <| ag <| af ?_
  rcases Or.symm (lv H) with ⟨p49, e48, H⟩ | ⟨x47, e48, H⟩
  ·obtain rfl := aj H;refine aa ?_;show AR _ _ _ _ _ [0, 1, 2, 3, 4, 5, 6, 7, 8, 9, 10, 11, 12, 13, 14, 15, 16, 17, 18, 19, 20, 21] _;refine zm rfl <| zm rfl <| aF (l := [5, 6, 7, 8, 9, 10, 11, 12, 13, 14, 15, 16, 17, 18, 19, 20, 21]) 42 (B (x41 && (decide (200 ≤ x40)))) (fun K => ?_) ?_
   ·rcases ac x41 with h43 | h43
    ·refine zM h43 rfl <| zU h43 rfl (ei rfl rfl) <| zS rfl (aq (av := .v _) rfl h43 rfl) ?_;exact K _ 2 _ (an (bH h43)) rfl rfl
    ·refine zF h43 rfl <| zF h43 rfl <| zS rfl (ap (av := .v _) rfl h43 rfl) ?_;exact K _ 2 _ (an (bI h43)) rfl rfl
   refine zm rfl <| aF (l := [9, 10, 11, 12, 13, 14, 15, 16, 17, 18, 19, 20, 21]) 46 (B ((x41 && (decide (200 ≤ x40))) && (decide (x40 ≤ 599)))) (fun K => ?_) ?_
   ·rcases ac (x41 && (decide (200 ≤ x40))) with h44 | h44
    ·refine zM h44 rfl <| zU h44 rfl (dn rfl rfl) <| zS rfl (aq (av := .v _) rfl h44 rfl) ?_;exact K _ 2 _ (an (bH h44)) rfl rfl
    ·refine zF h44 rfl <| zF h44 rfl <| zS rfl (ap (av := .v _) rfl h44 rfl) ?_;exact K _ 2 _ (an (bI h44)) rfl rfl
   refine zm rfl <| aF (l := [21]) 58 (B (((x41 && (decide (200 ≤ x40))) && (decide (x40 ≤ 599))) && ((decide ((y18.length : Int) = 0)) || (decide (x40 = y17))))) (fun K => ?_) ?_
   ·rcases ac ((x41 && (decide (200 ≤ x40))) && (decide (x40 ≤ 599))) with h45 | h45
    ·refine zU h45 rfl (am (n := 1) (by kernel_rfl) rfl) <| zT h45 rfl (AO.op rfl rfl (al (i := 1) ak rfl rfl rfl rfl) ?_);refine zU h45 rfl (aP ak rfl) <| zU h45 rfl (bx rfl rfl) <| zM h45 rfl <| aF (l := [20, 21]) 57 (B ((decide ((y18.length : Int) = 0)) || (decide (x40 = y17)))) (fun K => ?_) ?_
     ·rcases ac (decide ((y18.length : Int) = 0)) with h46 | h46
      ·refine zF h46 rfl <| zF h46 rfl <| zF h46 rfl <| zF h46 rfl <| zU h45 rfl (aq (av := .v _) rfl h46 rfl) ?_;exact K _ 4 _ (an (gc h46)) rfl rfl
      ·refine zM h46 rfl <| zU h46 rfl (am (n := 0) (by kernel_rfl) rfl) <| zT h46 rfl (AO.op rfl rfl (al (i := 1) ay rfl rfl rfl rfl) ?_);refine zU h46 rfl (bx rfl rfl) <| zU h45 rfl (ap (av := .v _) rfl h46 rfl) ?_;exact K _ 4 _ (an (gd h46)) rfl rfl
     refine zS rfl (aq (av := .v _) rfl h45 rfl) ?_;exact K _ 6 _ (an (bH h45)) rfl rfl
    ·refine zF h45 rfl <| zF h45 rfl <| zF h45 rfl <| zF h45 rfl <| zF h45 rfl <| gU rfl rfl rfl rfl rfl <| gU rfl rfl rfl rfl rfl <| gU rfl rfl rfl rfl rfl <| gU rfl rfl rfl rfl rfl <| zF h45 rfl <| zS rfl (ap (av := .v _) rfl h45 rfl) ?_;exact K _ 10 _ (an (bI h45)) rfl rfl
   refine bc rfl rfl (AO.callPan (c := iX (.iface 51 (.agg #[]))) [] rfl dz rfl (dg F (((x41 && (decide (200 ≤ x40))) && (decide (x40 ≤ 599))) && ((decide ((y18.length : Int) = 0)) || (decide (x40 = y17)))) p49 e48) rfl ?_);exact ⟨rfl, rfl, rfl, (t19, t21), aD [0, 0, 0, 0, 0, 0] rfl⟩
  refine aa ?_;show AR _ _ _ _ _ [0, 1, 2, 3, 4, 5, 6, 7, 8, 9, 10, 11, 12, 13, 14, 15, 16, 17, 18, 19, 20, 21] _;refine zm rfl <| zm rfl <| aF (l := [5, 6, 7, 8, 9, 10, 11, 12, 13, 14, 15, 16, 17, 18, 19, 20, 21]) 42 (B (x41 && (decide (200 ≤ x40)))) (fun K => ?_) ?_
  ·rcases ac x41 with h43 | h43
   ·refine zM h43 rfl <| zU h43 rfl (ei rfl rfl) <| zS rfl (aq (av := .v _) rfl h43 rfl) ?_;exact K _ 2 _ (an (bH h43)) rfl rfl
   ·refine zF h43 rfl <| zF h43 rfl <| zS rfl (ap (av := .v _) rfl h43 rfl) ?_;exact K _ 2 _ (an (bI h43)) rfl rfl
  refine zm rfl <| aF (l := [9, 10, 11, 12, 13, 14, 15, 16, 17, 18, 19, 20, 21]) 46 (B ((x41 && (decide (200 ≤ x40))) && (decide (x40 ≤ 599)))) (fun K => ?_) ?_
  ·rcases ac (x41 && (decide (200 ≤ x40))) with h44 | h44
   ·refine zM h44 rfl <| zU h44 rfl (dn rfl rfl) <| zS rfl (aq (av := .v _) rfl h44 rfl) ?_;exact K _ 2 _ (an (bH h44)) rfl rfl
   ·refine zF h44 rfl <| zF h44 rfl <| zS rfl (ap (av := .v _) rfl h44 rfl) ?_;exact K _ 2 _ (an (bI h44)) rfl rfl
  refine zm rfl <| aF (l := [21]) 58 (B (((x41 && (decide (200 ≤ x40))) && (decide (x40 ≤ 599))) && ((decide ((y18.length : Int) = 0)) || (decide (x40 = y17))))) (fun K => ?_) ?_
  ·rcases ac ((x41 && (decide (200 ≤ x40))) && (decide (x40 ≤ 599))) with h45 | h45
   ·refine zU h45 rfl (am (n := 1) (by kernel_rfl) rfl) <| zT h45 rfl (AO.op rfl rfl (al (i := 1) ak rfl rfl rfl rfl) ?_);refine zU h45 rfl (aP ak rfl) <| zU h45 rfl (bx rfl rfl) <| zM h45 rfl <| aF (l := [20, 21]) 57 (B ((decide ((y18.length : Int) = 0)) || (decide (x40 = y17)))) (fun K => ?_) ?_
    ·rcases ac (decide ((y18.length : Int) = 0)) with h46 | h46
     ·refine zF h46 rfl <| zF h46 rfl <| zF h46 rfl <| zF h46 rfl <| zU h45 rfl (aq (av := .v _) rfl h46 rfl) ?_;exact K _ 4 _ (an (gc h46)) rfl rfl
     ·refine zM h46 rfl <| zU h46 rfl (am (n := 0) (by kernel_rfl) rfl) <| zT h46 rfl (AO.op rfl rfl (al (i := 1) ay rfl rfl rfl rfl) ?_);refine zU h46 rfl (bx rfl rfl) <| zU h45 rfl (ap (av := .v _) rfl h46 rfl) ?_;exact K _ 4 _ (an (gd h46)) rfl rfl
    refine zS rfl (aq (av := .v _) rfl h45 rfl) ?_;exact K _ 6 _ (an (bH h45)) rfl rfl
   ·refine zF h45 rfl <| zF h45 rfl <| zF h45 rfl <| zF h45 rfl <| zF h45 rfl <| gU rfl rfl rfl rfl rfl <| gU rfl rfl rfl rfl rfl <| gU rfl rfl rfl rfl rfl <| gU rfl rfl rfl rfl rfl <| zF h45 rfl <| zS rfl (ap (av := .v _) rfl h45 rfl) ?_;exact K _ 10 _ (an (bI h45)) rfl rfl
  refine bc rfl rfl (aM rfl dz rfl (dm F (((x41 && (decide (200 ≤ x40))) && (decide (x40 ≤ 599))) && ((decide ((y18.length : Int) = 0)) || (decide (x40 = y17)))) e48) ?_);refine ag <| bB (X := (List (List UInt8)) × Nat) (fun (y58, t59) => ⟨[(3, .cp [.fn (.func 25) [] [.pt o3 0, .pt o6 0]]), (4, .pt o11 0), (5, .pt o13 0), (6, S x24), (7, i64 x40)], [], [.obj o13 [i64 y16], .obj o11 [i64 x40, slE Enc.str y58 (some t59), i64 0, i64 0, i64 0], .obj o3 [slE (Enc.prod Enc.int (Enc.prod (Enc.sl Enc.str) (Enc.prod Enc.int (Enc.prod Enc.int Enc.int)))) y20 (some t21)], .obj o6 [i64 y22], .tok t59 9, .tok t21 38]⟩) (fun (y58, t59) => eI F y16 y20 y22 x24 x40 y58 = some rv) ?_ ?_
  ·obtain ⟨g50, H⟩ := aN H;obtain ⟨x51, e52, H⟩ := bK H;obtain ⟨g54, H⟩ := aN H;obtain ⟨x55, e56, H⟩ := bK H;refine jh (by kernel_rfl) (by kernel_rfl) ?_;show AI _ _ _ _ _ 11 (Array.replicate 11 false) _;refine zk 0 rfl (mv rfl) ?_;show AI _ _ _ _ _ _ #[true, false, false, false, false, false, false, false, false, false, false] _;refine zk 1 rfl (am (n := 1) (by kernel_rfl) rfl) ?_;show AI _ _ _ _ _ _ #[true, true, false, false, false, false, false, false, false, false, false] _;refine zk 3 rfl (mv rfl) ?_;show AI _ _ _ _ _ _ #[true, true, false, true, false, false, false, false, false, false, false] _;refine zk 4 rfl (du ai rfl rfl g50 e52) ?_;show AI _ _ _ _ _ _ #[true, true, false, true, true, false, false, false, false, false, false] _;refine dQ (i := 2) (j := 5) (by kernel_rfl) rfl rfl rfl rfl ?_ ?_
   ·refine be rfl (al (i := 1) ak rfl rfl rfl rfl) ?_;show AI _ _ _ _ _ _ #[true, true, true, true, true, false, false, false, false, false, false] _;refine zk 7 rfl (am (n := 0) (by kernel_rfl) rfl) ?_;show AI _ _ _ _ _ _ #[true, true, true, true, true, false, false, true, false, false, false] _;refine aQ (i := 5) (by kernel_rfl) rfl rfl <| be rfl (jG (E := Enc.str) (bytes := 16) (xs := [.tmp 64]) (l := ([x51] : List (List UInt8))) ak (by kernel_rfl) rfl rfl (by decide) rfl rfl) ?_;show AI _ _ _ _ _ _ #[true, true, true, true, true, true, false, true, false, false, false] _;refine aQ (i := 6) (by kernel_rfl) rfl rfl <| AIO.opx rfl (ek (E := Enc.str) (bytes := 16) 4 ak ak rfl (by kernel_rfl) rfl rfl rfl rfl g54 e56) ?_;rintro _ _ ⟨t53, rfl, rfl⟩;show AI _ _ _ _ _ _ #[true, true, true, true, true, true, true, true, false, false, false] _;refine aQ (i := 8) (by kernel_rfl) rfl rfl <| bN (aC (i := 1) (c := .v _) (by kernel_rfl) rfl rfl rfl rfl (ab rfl)) ?_;show AI _ _ _ _ _ _ #[true, true, true, true, true, true, true, true, true, false, false] _;refine zk 9 rfl (am (n := 1) (by kernel_rfl) rfl) ?_;show AI _ _ _ _ _ _ #[true, true, true, true, true, true, true, true, true, true, false] _;refine aQ (i := 10) (by kernel_rfl) rfl rfl <| bN (aC (i := 1) (c := slE _ _ _) (by kernel_rfl) rfl rfl rfl rfl (ab rfl)) ?_
    show AI _ _ _ _ _ _ #[true, true, true, true, true, true, true, true, true, true, true] _;refine bA rfl ?_;exact Exists.intro (x55, t53) ⟨H, aW [0, 0, 0, 0, 0, 0] (.cons (.refl _) (.cons (.refl _) (.cons (.refl _) (.cons (.refl _) (.cons (.refl _) (.nil _)))))) rfl⟩
   ·refine be rfl (jG (E := Enc.str) (bytes := 16) (xs := [.tmp 64]) (l := ([x51] : List (List UInt8))) ak (by kernel_rfl) rfl rfl (by decide) rfl rfl) ?_;show AI _ _ _ _ _ _ #[true, true, false, true, true, true, false, false, false, false, false] _;refine aQ (i := 2) (by kernel_rfl) rfl rfl <| be rfl (al (i := 1) ak rfl rfl rfl rfl) ?_;show AI _ _ _ _ _ _ #[true, true, true, true, true, true, false, false, false, false, false] _;refine zk 7 rfl (am (n := 0) (by kernel_rfl) rfl) ?_;show AI _ _ _ _ _ _ #[true, true, true, true, true, true, false, true, false, false, false] _;refine aQ (i := 6) (by kernel_rfl) rfl rfl <| AIO.opx rfl (ek (E := Enc.str) (bytes := 16) 4 ak ak rfl (by kernel_rfl) rfl rfl rfl rfl g54 e56) ?_;rintro _ _ ⟨t57, rfl, rfl⟩;show AI _ _ _ _ _ _ #[true, true, true, true, true, true, true, true, false, false, false] _;refine aQ (i := 8) (by kernel_rfl) rfl rfl <| bN (aC (i := 1) (c := .v _) (by kernel_rfl) rfl rfl rfl rfl (ab rfl)) ?_;show AI _ _ _ _ _ _ #[true, true, true, true, true, true, true, true, true, false, false] _;refine zk 9 rfl (am (n := 1) (by kernel_rfl) rfl) ?_;show AI _ _ _ _ _ _ #[true, true, true, true, true, true, true, true, true, true, false] _;refine aQ (i := 10) (by kernel_rfl) rfl rfl <| bN (aC (i := 1) (c := slE _ _ _) (by kernel_rfl) rfl rfl rfl rfl (ab rfl)) ?_
    show AI _ _ _ _ _ _ #[true, true, true, true, true, true, true, true, true, true, true] _;refine bA rfl ?_;exact Exists.intro (x55, t57) ⟨H, aW [0, 0, 0, 0, 0, 0] (.cons (.refl _) (.cons (.refl _) (.cons (.refl _) (.cons (.refl _) (.cons (.refl _) (.nil _)))))) rfl⟩
  rintro ⟨y58, t59⟩ H;replace H : eI F y16 y20 y22 x24 x40 y58 = some rv := H
  unfold eI at H
  refine af ?_;obtain ⟨g61, H⟩ := aN H;obtain ⟨g62, H⟩ := aN H;refine aa ?_;show AR _ _ _ _ _ [0, 1, 2, 3, 4, 5] _;refine zR rfl (al (i := 0) ay rfl rfl rfl rfl) <| zm rfl <| zS rfl (bt ai rfl) <| zS rfl (eY rfl rfl g61) <| zS rfl (eY rfl rfl g62) <| s0 rfl rfl (aC (i := 0) (c := .v _) (by kernel_rfl) rfl rfl rfl rfl (ab rfl)) <| ag <| af ?_;obtain ⟨g63, H⟩ := aN H;obtain ⟨x64, e65, H⟩ := bK H;refine aa ?_;show AR _ _ _ _ _ [0, 1, 2] _;refine zm rfl <| zS rfl (aR ai rfl rfl g63 e65) <| zS rfl (dR (a := x64) (b := 32) rfl rfl) <| ag <| aw rfl (fun c66 => ?_) (fun c66 => ?_)
  ·replace H := aZ c66 H;refine af ?_;obtain ⟨g67, H⟩ := aN H;obtain ⟨x68, e69, H⟩ := bK H;obtain ⟨x70, x71, x72, e73, H⟩ := jW H;refine aa ?_;show AR _ _ _ _ _ [0, 1, 2, 3, 4, 5] _;refine zm rfl <| zm rfl <| zS rfl (du ai rfl rfl g67 e69) <| bc rfl rfl (aM rfl kI rfl (jD F x40 x68 x70 x71 x72 e73) ?_);refine zS rfl (am (n := 2) (by kernel_rfl) rfl) <| s0 rfl rfl (cA (i := 1) (vs := [i64 x70, i64 x71, i64 x72]) (by kernel_rfl) rfl rfl (by simp [bD, slE]) rfl (ab rfl)) <| ag <| af ?_;obtain ⟨x74, x75, e76, H⟩ := fw H;refine aa ?_;show AR _ _ _ _ _ [0, 1, 2, 3] _;refine zS rfl (aI Tryd.underlying55 rfl rfl) <| zR rfl (kZ (cs := [i64 x40, slE Enc.str y58 (some t59), i64 x70, i64 x71, i64 x72]) (dG (i := 1) (n := 5) bu rfl (by kernel_rfl) rfl rfl (ab rfl)) (.cons (.refl _) (.cons (.tok _ _ _) (.cons (.refl _) (.cons (.refl _) (.cons (.refl _) (.nil))))))) <| zR rfl (al (i := 0) ay rfl rfl rfl rfl) <| bc rfl rfl (AO.callFAt [2, 4, 2] rfl (.inl rfl) nT rfl (mx F x40 y58 x70 x71 x72 (y16 + ((x24.length : Int) + 2)) o3 y20 t21 o6 y22 x74 x75 e76) rfl (fun c A' h => by cases h.1) ?_)
   rintro av A' ⟨h, t77, rfl⟩; cases h
   refine ag <| aa ?_;show AR _ _ _ _ _ [0, 1] _;refine zS rfl (lj (zs := [.int .i64 0, .slice none 0 0, .int .i64 0, .int .i64 0, .int .i64 0]) (ps := [(0, 1), (1, 1), (2, 3)]) (cs := [i64 0, nilS, i64 0, i64 0, i64 0]) (by kernel_rfl) rfl rfl) <| s0 rfl rfl (cA (i := 4) (vs := [i64 0, nilS, i64 0, i64 0, i64 0]) (by kernel_rfl) rfl rfl (by simp [bD, slE]) rfl (ab rfl)) ?_
   refine AR.nil_objAt 4 1 1 9 rfl rfl fun t78 => ?_
   show AR _ _ _ _ _ _ ⟨_, _, [.tok t78 9, .obj o3 [slE (Enc.prod Enc.int (Enc.prod (Enc.sl Enc.str) (Enc.prod Enc.int (Enc.prod Enc.int Enc.int)))) x74 (some t77)], .tok t77 38, .obj o6 [i64 x75], .obj o13 [i64 (y16 + ((x24.length : Int) + 2))], .obj o11 [i64 0, slE Enc.str [] (some t78), i64 0, i64 0, i64 0], .tok t59 9]⟩;refine ag ?_;obtain rfl := aj H;exact ⟨rfl, rfl, (t78, t77), aD [4, 4, 1, 2, 0, 0] rfl⟩
  ·replace H := ba c66 H;refine aE ?_;obtain rfl := aj H;exact ⟨rfl, rfl, (t59, t21), aD [0, 0, 0, 0, 0, 0] rfl⟩
 ·rintro h89 o88 ⟨t86, t87⟩;replace H := aZ h89 H;obtain ⟨rfl, rfl, rfl⟩ := jl H;exact Exists.intro _ (And.intro (Unmark.at 0 rfl (.nil _)) (Exists.intro _ ⟨aD [2, 4, 2] rfl, t87, rfl, .inr ⟨rfl, rfl⟩⟩))
 rintro h89 o85 ⟨t83, t84⟩;replace H := ba h89 H;obtain ⟨rfl, rfl, rfl⟩ := jl H;exact Exists.intro _ (And.intro (Unmark.at 0 rfl (.nil _)) (Exists.intro _ (Exists.intro _ ⟨bg rfl, aD [3, 5, 3] rfl, t84, rfl, .inl ⟨rfl, rfl⟩⟩)))
theorem kO (F : Nat) (a1 : List UInt8) (q2 : Option Nat) (o3 : Nat) (a4 : List (Int × (List (List UInt8)) × Int × Int × Int)) (t5 : Nat) (o6 : Nat) (a7 : Int) (r8 : List (Int × (List (List UInt8)) × Int × Int × Int)) (r10 : Int) (H : fQ F a1 a4 a7 = some (r8, r10, false)) : ACalls Tryd.prog 24 [slE Enc.byte a1 q2, .fn (.func 25) [] [.pt o3 0, .pt o6 0]] [.obj o3 [slE (Enc.prod Enc.int (Enc.prod (Enc.sl Enc.str) (Enc.prod Enc.int (Enc.prod Enc.int Enc.int)))) a4 (some t5)], .tok t5 38, .obj o6 [i64 a7]] (fun e A' => e = .ret (.tup []) ∧ ∃ t9, A' = [.obj o3 [slE (Enc.prod Enc.int (Enc.prod (Enc.sl Enc.str) (Enc.prod Enc.int (Enc.prod Enc.int Enc.int)))) r8 (some t9)], .tok t9 38, .obj o6 [i64 r10]]) :=
 (kt F a1 q2 o3 a4 t5 o6 a7 r8 r10 false H).mono fun e A' h => by obtain ⟨t9, h, ⟨h1, h2⟩ | ⟨h1, h2⟩⟩ := h <;> first | exact ⟨h2, t9, h⟩ | cases h1
theorem kc (F : Nat) (a1 : List UInt8) (q2 : Option Nat) (o3 : Nat) (a4 : List (Int × (List (List UInt8)) × Int × Int × Int)) (t5 : Nat) (o6 : Nat) (a7 : Int) (r8 : List (Int × (List (List UInt8)) × Int × Int × Int)) (r10 : Int) (H : fQ F a1 a4 a7 = some (r8, r10, true)) : ACalls Tryd.prog 24 [slE Enc.byte a1 q2, .fn (.func 25) [] [.pt o3 0, .pt o6 0]] [.obj o3 [slE (Enc.prod Enc.int (Enc.prod (Enc.sl Enc.str) (Enc.prod Enc.int (Enc.prod Enc.int Enc.int)))) a4 (some t5)], .tok t5 38, .obj o6 [i64 a7]] (fun e A' => e = .pan (iX (.iface 51 (.agg #[]))) ∧ ∃ t9, A' = [.obj o3 [slE (Enc.prod Enc.int (Enc.prod (Enc.sl Enc.str) (Enc.prod Enc.int (Enc.prod Enc.int Enc.int)))) r8 (some t9)], .tok t9 38, .obj o6 [i64 r10]]) :=
 (kt F a1 q2 o3 a4 t5 o6 a7 r8 r10 true H).mono fun e A' h => by obtain ⟨t9, h, ⟨h1, h2⟩ | ⟨h1, h2⟩⟩ := h <;> first | exact ⟨h2, t9, h⟩ | cases h1
set_option maxRecDepth 100000 in
set_option maxHeartbeats 1000000 in
theorem ku (F : Nat) (H : il F = some ()) : ACalls Tryd.prog 9 [] [] (fun e A' => ∃ ob1 : Nat, e = .ret (.pt ob1 0) ∧ A' = [.obj ob1 [nilS, B false]]) := by
 unfold il at H
 refine az Tryd.func9 rfl rfl ?_;show AW _ _ 3 _ _ _;refine af <| aa ?_;show AR _ _ _ _ _ [0] _;refine za rfl <| ag <| af <| aa ?_;show AR _ _ _ _ _ [0, 1, 2] _;refine zS rfl (lj (zs := [.slice none 0 0, .bool false]) (ps := [(0, 1), (1, 1)]) (cs := [nilS, B false]) (by kernel_rfl) rfl rfl) <| zX rfl (lh rfl (.inr ⟨_, rfl⟩)) ?_;rintro _ _ ⟨o1, rfl, rfl⟩;refine zS rfl (aK (av := .pt _ _) rfl) <| ag <| aL ?_;exact And.intro rfl (Exists.intro _ (Exists.intro _ ⟨aH rfl (.refl _), aD [0] rfl, o1, rfl, rfl⟩))
abbrev _root_.Go.Av.ar := @Tryd.underlying25
set_option maxRecDepth 100000 in
set_option maxHeartbeats 1000000 in
theorem kw (F : Nat) (o1 : Nat) (a2 : List UInt8) (t3 : Nat) (a4 : Bool) (r5 : Bool) (H : im F a2 a4 = some r5) : ACalls Tryd.prog 13 [.pt o1 0] [.obj o1 [slE Enc.byte a2 (some t3), B a4], .tok t3 5] (fun e A' => e = .ret (B r5) ∧ A' = [.obj o1 [slE Enc.byte a2 (some t3), B a4], .tok t3 5]) := by
 unfold im at H
 refine az Tryd.func13 rfl rfl ?_;show AW _ _ 11 _ _ _;refine af <| aa ?_;show AR _ _ _ _ _ [0] _;refine za rfl <| ag <| af <| aa ?_;show AR _ _ _ _ _ [0, 1, 2, 3, 4, 5, 6, 7, 8] _;refine zS rfl (ax (av := .pt _ _) rfl) <| zS rfl (fG ar rfl rfl) <| zm rfl <| zU rfl rfl (ax (av := .pt _ _) rfl) <| zU rfl rfl (au rfl) <| zU rfl rfl (am (n := 1) (by kernel_rfl) rfl) <| zT rfl rfl (AO.op rfl rfl (al (i := 0) Tryd.underlying4 rfl rfl rfl rfl) ?_);refine zS rfl (ap (av := .v _) rfl rfl rfl) <| za rfl <| ag <| aL ?_;obtain rfl := aj H;exact And.intro rfl (Exists.intro _ (Exists.intro _ ⟨aH rfl (.refl _), aD [0, 0] rfl, rfl, rfl⟩))
set_option maxRecDepth 100000 in
set_option maxHeartbeats 1000000 in
theorem my (F : Nat) (o1 : Nat) (a2 : List UInt8) (t3 : Nat) (a4 : Bool) (r5 : Int) (H : ib F a2 a4 = some r5) : ACalls Tryd.prog 14 [.pt o1 0] [.obj o1 [slE Enc.byte a2 (some t3), B a4], .tok t3 5] (fun e A' => e = .ret (i64 r5) ∧ A' = [.obj o1 [slE Enc.byte a2 (some t3), B a4], .tok t3 5]) := by
 unfold ib at H
 refine az Tryd.func14 rfl rfl ?_;show AW _ _ 10 _ _ _;refine af <| aa ?_;show AR _ _ _ _ _ [0] _;refine za rfl <| ag <| af <| af <| aa ?_;show AR _ _ _ _ _ [0, 1] _;refine zS rfl (ax (av := .pt _ _) rfl) <| zS rfl (fG ar rfl rfl) <| ag <| aw rfl (fun hx => cT hx rfl) (fun _ => ?_);refine aE <| af <| aa ?_;show AR _ _ _ _ _ [0, 1, 2, 3, 4, 5] _;refine zS rfl (ax (av := .pt _ _) rfl) <| zS rfl (au rfl) <| zS rfl (am (n := 0) (by kernel_rfl) rfl) <| zR rfl (al (i := 0) ah rfl rfl rfl rfl) <| zS rfl (aP ah rfl) <| za rfl <| ag <| aL ?_;obtain rfl := aj H;exact And.intro rfl (Exists.intro _ (Exists.intro _ ⟨aH rfl (.refl _), aD [0, 0] rfl, rfl, rfl⟩))
set_option maxRecDepth 100000 in
set_option maxHeartbeats 1000000 in
theorem nq (F : Nat) (o1 : Nat) (a2 : List UInt8) (t3 : Nat) (a4 : Bool) (a5 : List UInt8) (q6 : Option Nat) (r7 : List (Int × (List (List UInt8)) × Int × Int × Int)) (r8 : List UInt8) (r10 : Bool) (H : ik F a2 a4 a5 = some (r7, r8, r10)) : ACalls Tryd.prog 10 [.pt o1 0, slE Enc.byte a5 q6] [.obj o1 [slE Enc.byte a2 (some t3), B a4], .tok t3 5] (fun e A' => e = .ret (slE (Enc.prod Enc.int (Enc.prod (Enc.sl Enc.str) (Enc.prod Enc.int (Enc.prod Enc.int Enc.int)))) r7 none) ∧ ∃ t9, A' = [.obj o1 [slE Enc.byte r8 (some t9), B r10], .tok t9 5]) := by
 unfold ik at H
 refine jj [4] Tryd.func10 rfl rfl ?_;show AW _ _ 31 _ _ _;refine af <| aa ?_;show AR _ _ _ _ _ [0, 1] _;refine zX rfl (lh rfl (.inl rfl)) ?_;rintro _ _ ⟨o11, rfl, rfl⟩;refine zX rfl (dW (zs := [.slice none 0 0]) (by kernel_rfl)) ?_;rintro _ _ ⟨o12, rfl, rfl⟩;refine ag <| af <| af <| aa ?_;show AR _ _ _ _ _ [0, 1, 2, 3, 4, 5, 6, 7] _;refine zR rfl (al (i := 1) ar rfl rfl rfl rfl) <| zS rfl (fG ar rfl rfl) <| zm rfl <| zT rfl rfl (AO.op rfl rfl (al (i := 1) ar rfl rfl rfl rfl) ?_);refine zU rfl rfl (au rfl) <| zU rfl rfl (am (n := 1) (by kernel_rfl) rfl) <| zT rfl rfl (AO.op rfl rfl (al (i := 2) Tryd.underlying4 rfl rfl rfl rfl) ?_);refine zS rfl (ap (av := .v _) rfl rfl rfl) <| ag <| aw rfl (fun c13 => ?_) (fun c13 => ?_)
 ·replace H := aZ c13 H;refine af <| aa ?_;show AR _ _ _ _ _ [0] _;refine s0 rfl rfl (aC (i := 0) (c := .v _) (by kernel_rfl) rfl rfl rfl rfl (ab rfl)) <| ag <| aL ?_;obtain ⟨rfl, rfl, rfl⟩ := jl H;exact Exists.intro _ (Exists.intro _ ⟨dy rfl ((CellV.one (c := .v _) 0 aA rfl rfl rfl rfl).oneW (.nil _)), aD [2, 2] rfl, rfl, t3, rfl⟩)
 ·replace H := ba c13 H;refine aE <| bB (X := (List UInt8) × Nat) (fun (y21, t22) => ⟨[(2, .pt o11 0), (4, .pt o12 0)], [], [.obj o12 [nilS], .obj o11 [.pt o1 0], .obj o1 [slE Enc.byte y21 (some t22), B a4], .tok t22 5]⟩) (fun (y21, t22) => eJ F a4 y21 = some (r7, r8, r10)) ?_ ?_
  ·obtain ⟨g15, H⟩ := aN H;obtain ⟨x16, e17, H⟩ := bK H;refine cq (by kernel_rfl) ?_;show AI _ _ _ _ _ 10 (Array.replicate 10 false) _;refine AI.take (i := 5) rfl rfl (by kernel_rfl) (by kernel_rfl) (by kernel_rfl) (fun _ _ h => bo rfl h) (ax (av := slE _ _ _) rfl) ?_;show AI _ _ _ _ _ _ #[false, false, false, false, false, true, false, false, false, false] _;refine dQ (i := 0) (j := 1) (by kernel_rfl) rfl rfl rfl rfl ?_ ?_
   ·refine be rfl (al (i := 1) ar rfl rfl rfl rfl) ?_;show AI _ _ _ _ _ _ #[true, false, false, false, false, true, false, false, false, false] _;refine aQ (i := 1) (by kernel_rfl) rfl rfl <| be rfl (al (i := 1) ar rfl rfl rfl rfl) ?_;show AI _ _ _ _ _ _ #[true, true, false, false, false, true, false, false, false, false] _;refine AI.take (i := 2) rfl rfl (by kernel_rfl) (by kernel_rfl) (by kernel_rfl) (fun _ _ h => bo rfl h) (au rfl) ?_;show AI _ _ _ _ _ _ #[true, true, true, false, false, true, false, false, false, false] _;refine AI.take (i := 3) rfl rfl (by kernel_rfl) (by kernel_rfl) (by kernel_rfl) (fun _ _ h => bo rfl h) (am (n := 0) (by kernel_rfl) rfl) ?_;show AI _ _ _ _ _ _ #[true, true, true, true, false, true, false, false, false, false] _;refine aQ (i := 4) (by kernel_rfl) rfl rfl <| be rfl (al (i := 2) ah rfl rfl rfl rfl) ?_;show AI _ _ _ _ _ _ #[true, true, true, true, true, true, false, false, false, false] _;refine aQ (i := 6) (by kernel_rfl) rfl rfl <| AIO.opx rfl (ek (E := Enc.byte) (bytes := 1) 3 ah ah rfl (by kernel_rfl) rfl rfl rfl rfl g15 e17) ?_;rintro _ _ ⟨t14, rfl, rfl⟩;show AI _ _ _ _ _ _ #[true, true, true, true, true, true, true, false, false, false] _;refine AI.take (i := 7) rfl rfl (by kernel_rfl) (by kernel_rfl) (by kernel_rfl) (fun _ _ h => bo rfl h) (au rfl) ?_
    show AI _ _ _ _ _ _ #[true, true, true, true, true, true, true, true, false, false] _;refine AI.take (i := 8) rfl rfl (by kernel_rfl) (by kernel_rfl) (by kernel_rfl) (fun _ _ h => bo rfl h) (am (n := 0) (by kernel_rfl) rfl) ?_;show AI _ _ _ _ _ _ #[true, true, true, true, true, true, true, true, true, false] _;refine aQ (i := 9) (by kernel_rfl) rfl rfl <| bN (aC (i := 2) (c := slE _ _ _) (by kernel_rfl) rfl rfl rfl rfl (ab rfl)) ?_;show AI _ _ _ _ _ _ #[true, true, true, true, true, true, true, true, true, true] _;refine bA rfl ?_;exact Exists.intro (x16, t14) ⟨H, aW [0, 0, 0, 0] (.cons (.refl _) (.cons (.refl _) (.nil _))) rfl⟩
   ·refine be rfl (al (i := 1) ar rfl rfl rfl rfl) ?_;show AI _ _ _ _ _ _ #[false, true, false, false, false, true, false, false, false, false] _;refine AI.take (i := 2) rfl rfl (by kernel_rfl) (by kernel_rfl) (by kernel_rfl) (fun _ _ h => bo rfl h) (au rfl) ?_;show AI _ _ _ _ _ _ #[false, true, true, false, false, true, false, false, false, false] _;refine AI.take (i := 3) rfl rfl (by kernel_rfl) (by kernel_rfl) (by kernel_rfl) (fun _ _ h => bo rfl h) (am (n := 0) (by kernel_rfl) rfl) ?_;show AI _ _ _ _ _ _ #[false, true, true, true, false, true, false, false, false, false] _;refine dQ (i := 0) (j := 4) (by kernel_rfl) rfl rfl rfl rfl ?_ ?_
    ·refine be rfl (al (i := 1) ar rfl rfl rfl rfl) ?_;show AI _ _ _ _ _ _ #[true, true, true, true, false, true, false, false, false, false] _;refine aQ (i := 4) (by kernel_rfl) rfl rfl <| be rfl (al (i := 2) ah rfl rfl rfl rfl) ?_;show AI _ _ _ _ _ _ #[true, true, true, true, true, true, false, false, false, false] _;refine aQ (i := 6) (by kernel_rfl) rfl rfl <| AIO.opx rfl (ek (E := Enc.byte) (bytes := 1) 3 ah ah rfl (by kernel_rfl) rfl rfl rfl rfl g15 e17) ?_;rintro _ _ ⟨t18, rfl, rfl⟩;show AI _ _ _ _ _ _ #[true, true, true, true, true, true, true, false, false, false] _;refine AI.take (i := 7) rfl rfl (by kernel_rfl) (by kernel_rfl) (by kernel_rfl) (fun _ _ h => bo rfl h) (au rfl) ?_;show AI _ _ _ _ _ _ #[true, true, true, true, true, true, true, true, false, false] _;refine AI.take (i := 8) rfl rfl (by kernel_rfl) (by kernel_rfl) (by kernel_rfl) (fun _ _ h => bo rfl h) (am (n := 0) (by kernel_rfl) rfl) ?_;show AI _ _ _ _ _ _ #[true, true, true, true, true, true, true, true, true, false] _;refine aQ (i := 9) (by kernel_rfl) rfl rfl <| bN (aC (i := 2) (c := slE _ _ _) (by kernel_rfl) rfl rfl rfl rfl (ab rfl)) ?_;show AI _ _ _ _ _ _ #[true, true, true, true, true, true, true, true, true, true] _;refine bA rfl ?_;exact Exists.intro (x16, t18) ⟨H, aW [0, 0, 0, 0] (.cons (.refl _) (.cons (.refl _) (.nil _))) rfl⟩
    ·refine be rfl (al (i := 2) ah rfl rfl rfl rfl) ?_;show AI _ _ _ _ _ _ #[false, true, true, true, true, true, false, false, false, false] _;refine dQ (i := 0) (j := 6) (by kernel_rfl) rfl rfl rfl rfl ?_ ?_
     ·refine be rfl (al (i := 1) ar rfl rfl rfl rfl) ?_;show AI _ _ _ _ _ _ #[true, true, true, true, true, true, false, false, false, false] _;refine aQ (i := 6) (by kernel_rfl) rfl rfl <| AIO.opx rfl (ek (E := Enc.byte) (bytes := 1) 3 ah ah rfl (by kernel_rfl) rfl rfl rfl rfl g15 e17) ?_;rintro _ _ ⟨t19, rfl, rfl⟩;show AI _ _ _ _ _ _ #[true, true, true, true, true, true, true, false, false, false] _;refine AI.take (i := 7) rfl rfl (by kernel_rfl) (by kernel_rfl) (by kernel_rfl) (fun _ _ h => bo rfl h) (au rfl) ?_;show AI _ _ _ _ _ _ #[true, true, true, true, true, true, true, true, false, false] _;refine AI.take (i := 8) rfl rfl (by kernel_rfl) (by kernel_rfl) (by kernel_rfl) (fun _ _ h => bo rfl h) (am (n := 0) (by kernel_rfl) rfl) ?_;show AI _ _ _ _ _ _ #[true, true, true, true, true, true, true, true, true, false] _;refine aQ (i := 9) (by kernel_rfl) rfl rfl <| bN (aC (i := 2) (c := slE _ _ _) (by kernel_rfl) rfl rfl rfl rfl (ab rfl)) ?_;show AI _ _ _ _ _ _ #[true, true, true, true, true, true, true, true, true, true] _;refine bA rfl ?_;exact Exists.intro (x16, t19) ⟨H, aW [0, 0, 0, 0] (.cons (.refl _) (.cons (.refl _) (.nil _))) rfl⟩
     ·refine AIO.opx rfl (ek (E := Enc.byte) (bytes := 1) 3 ah ah rfl (by kernel_rfl) rfl rfl rfl rfl g15 e17) ?_;rintro _ _ ⟨t20, rfl, rfl⟩;show AI _ _ _ _ _ _ #[false, true, true, true, true, true, true, false, false, false] _;refine aQ (i := 0) (by kernel_rfl) rfl rfl <| be rfl (al (i := 1) ar rfl rfl rfl rfl) ?_;show AI _ _ _ _ _ _ #[true, true, true, true, true, true, true, false, false, false] _;refine AI.take (i := 7) rfl rfl (by kernel_rfl) (by kernel_rfl) (by kernel_rfl) (fun _ _ h => bo rfl h) (au rfl) ?_;show AI _ _ _ _ _ _ #[true, true, true, true, true, true, true, true, false, false] _;refine AI.take (i := 8) rfl rfl (by kernel_rfl) (by kernel_rfl) (by kernel_rfl) (fun _ _ h => bo rfl h) (am (n := 0) (by kernel_rfl) rfl) ?_;show AI _ _ _ _ _ _ #[true, true, true, true, true, true, true, true, true, false] _;refine aQ (i := 9) (by kernel_rfl) rfl rfl <| bN (aC (i := 2) (c := slE _ _ _) (by kernel_rfl) rfl rfl rfl rfl (ab rfl)) ?_;show AI _ _ _ _ _ _ #[true, true, true, true, true, true, true, true, true, true] _;refine bA rfl ?_;exact Exists.intro (x16, t20) ⟨H, aW [0, 0, 0, 0] (.cons (.refl _) (.cons (.refl _) (.nil _))) rfl⟩
  rintro ⟨y21, t22⟩ H;replace H : eJ F a4 y21 = some (r7, r8, r10) := H
  unfold eJ at H
  refine af <| aa ?_;show AR _ _ _ _ _ [0, 1] _;refine zX rfl (dW (zs := [.int .i64 0]) (by kernel_rfl)) ?_;rintro _ _ ⟨o24, rfl, rfl⟩;refine s0 rfl rfl (aC (i := 0) (c := .v _) (by kernel_rfl) rfl rfl rfl rfl (ab rfl)) <| ag <| af <| aa ?_;show AR _ _ _ _ _ [0, 1] _;refine zS rfl (ey rfl rfl) <| bc rfl rfl (AO.defer rfl ?_);show AR _ _ _ _ _ _ ⟨_, [.call (.func 22) [.pt o11 0, .pt o24 0] []], _⟩;refine ag <| af ?_;obtain ⟨x26, x27, x28, e29, H⟩ := jW H
  rcases ac x28 with rfl | rfl
  ·replace H := aZ rfl H;refine aa ?_;show AR _ _ _ _ _ [0, 1, 2, 3, 4, 5] _;refine zR rfl (al (i := 2) ar rfl rfl rfl rfl) <| zS rfl (au rfl) <| zS rfl (am (n := 0) (by kernel_rfl) rfl) <| zR rfl (al (i := 3) ah rfl rfl rfl rfl) <| zS rfl (ey rfl rfl) ?_
   refine AR.nil_objAt 1 0 5 38 rfl rfl fun t25 => ?_
   show AR _ _ _ _ _ _ ⟨_, _, [.tok t25 38, .obj o24 [i64 0], .obj o12 [slE (Enc.prod Enc.int (Enc.prod (Enc.sl Enc.str) (Enc.prod Enc.int (Enc.prod Enc.int Enc.int)))) [] (some t25)], .obj o11 [.pt o1 0], .obj o1 [slE Enc.byte y21 (some t22), B a4], .tok t22 5]⟩;refine bc rfl rfl (AO.callPanR [2, 0, 0] rfl kK rfl (kc F y21 (some t22) o12 [] t25 o24 0 x26 x27 e29) rfl (fun av A' h => by cases h.1) ?_);rintro c A' ⟨h, t30, rfl⟩
   cases h
   refine Exists.intro [(4, .pt o12 0)] ⟨by simp, .cons (.refl _) (.nil _), ?_⟩;show ALeaves _ _ _ _ _ [.call (.func 22) [.pt o11 0, .pt o24 0] []] _ [.obj o12 [slE (Enc.prod Enc.int (Enc.prod (Enc.sl Enc.str) (Enc.prod Enc.int (Enc.prod Enc.int Enc.int)))) x26 (some t30)], .tok t30 38, .obj o24 [i64 x27], .obj o11 [.pt o1 0], .obj o1 [slE Enc.byte y21 (some t22), B a4], .tok t22 5];refine fY (v := .tup []) (u1 := (.panicking [{ v := (.iface 51 (.agg #[])), recovered := true }])) (A2 := (fun t32 => [.tok t32 5, .obj o24 [i64 x27], .obj o11 [.pt o1 0], .obj o1 [slE Enc.byte [] (some t32), B true]])) [2, 2, 2] (fun h => by cases h) kL rfl ?_ ?_
   ·show ADCalls _ _ [.pt o11 0, .pt o24 0] [.obj o24 [i64 x27], .obj o11 [.pt o1 0], .obj o1 [slE Enc.byte y21 (some t22), B a4]] _ _;refine ADCalls.grow (A2 := [.obj o24 [i64 x27], .obj o11 [.pt o1 0], .obj o1 [nilS, B true]]) 2 0 1 5 rfl rfl (fun _ => rfl) <| er (av := .ifc 51 (.agg [])) (l := [1]) Tryd.func22 rfl rfl rfl rfl rfl Recovers.pan rfl (fun cs => ?_);refine ASR.op rfl rfl ((aK (av := .ifc _ _) rfl).opR _) <| ASR.nil <| af <| aa ?_;show AR _ _ _ _ _ [0, 1] _;refine zS rfl (ax (av := .ifc _ _) rfl) <| zS rfl (lJ (ms := []) (.inr rfl) Tryd.underlying20 rfl rfl) <| ag <| aw rfl (fun _ => ?_) (fun hx => cT rfl hx);refine af <| af <| aa ?_;show AR _ _ _ _ _ [0, 1, 2, 3, 4, 5, 6, 7] _;refine zS rfl (ax (av := .ifc _ _) rfl) <| zS rfl (jb Tryd.underlying51 rfl rfl) <| zS rfl (ax (av := .tup _) rfl) <| zS rfl (aG (av := .agg _) rfl rfl) <| zS rfl (aG (av := .v _) rfl rfl) <| zX rfl (dW (zs := []) (by kernel_rfl)) ?_;rintro _ _ ⟨o31, rfl, rfl⟩;refine s0 rfl rfl (cA (i := 0) (vs := []) (by kernel_rfl) rfl rfl (by simp [bD, slE]) rfl (ab rfl)) <| za rfl <| ag <| af <| aa ?_;show AR _ _ _ _ _ [0, 1] _;refine zm rfl <| zS rfl (dv rfl) <| ag <| aw rfl (fun hx => cT hx rfl) (fun _ => ?_);refine aE <| af <| aa ?_;show AR _ _ _ _ _ [0, 1, 2, 3, 4, 5, 6, 7] _
    refine zR rfl (al (i := 2) ar rfl rfl rfl rfl) <| zR rfl (al (i := 2) ar rfl rfl rfl rfl) <| zS rfl (au rfl) <| zS rfl (am (n := 0) (by kernel_rfl) rfl) <| s0 rfl rfl (aC (i := 3) (c := .v _) (by kernel_rfl) rfl rfl rfl rfl (ab rfl)) <| zS rfl (au rfl) <| zS rfl (am (n := 1) (by kernel_rfl) rfl) <| s0 rfl rfl (aC (i := 3) (c := .v _) (by kernel_rfl) rfl rfl rfl rfl (ab rfl)) <| ag <| aL ?_;exact And.intro rfl (Exists.intro _ (Exists.intro _ ⟨bg rfl, aD [1, 1, 1] rfl, rfl, rfl, rfl⟩))
   intro t32;show ALeaves _ _ _ _ _ [] .returning [.tok t32 5, .obj o24 [i64 x27], .obj o11 [.pt o1 0], .obj o1 [slE Enc.byte [] (some t32), B true], .obj o12 [slE (Enc.prod Enc.int (Enc.prod (Enc.sl Enc.str) (Enc.prod Enc.int (Enc.prod Enc.int Enc.int)))) x26 (some t30)], .tok t30 38, .tok t22 5];obtain ⟨rfl, rfl, rfl⟩ := jl H;exact Exists.intro _ (Exists.intro _ ⟨dy rfl ((CellV.one (c := slE _ _ _) 4 aA rfl rfl rfl rfl).oneW (.tok _ _ _)), aD [3, 0] rfl, rfl, t32, rfl⟩)
  replace H := ba rfl H;refine aa ?_;show AR _ _ _ _ _ [0, 1, 2, 3, 4, 5] _;refine zR rfl (al (i := 2) ar rfl rfl rfl rfl) <| zS rfl (au rfl) <| zS rfl (am (n := 0) (by kernel_rfl) rfl) <| zR rfl (al (i := 3) ah rfl rfl rfl rfl) <| zS rfl (ey rfl rfl) ?_
  refine AR.nil_objAt 1 0 5 38 rfl rfl fun t25 => ?_
  show AR _ _ _ _ _ _ ⟨_, _, [.tok t25 38, .obj o24 [i64 0], .obj o12 [slE (Enc.prod Enc.int (Enc.prod (Enc.sl Enc.str) (Enc.prod Enc.int (Enc.prod Enc.int Enc.int)))) [] (some t25)], .obj o11 [.pt o1 0], .obj o1 [slE Enc.byte y21 (some t22), B a4], .tok t22 5]⟩;refine bc rfl rfl (AO.callAt [2, 0, 0] rfl kK rfl (kO F y21 (some t22) o12 [] t25 o24 0 x26 x27 e29) rfl (fun c A' h => by cases h.1) ?_)
  rintro av A' ⟨h, t33, rfl⟩; cases h
  refine ag <| af <| aa ?_;show AR _ _ _ _ _ [0, 1] _;refine zR rfl (al (i := 0) aA rfl rfl rfl rfl) <| s0 rfl rfl (aC (i := 0) (c := slE _ _ _) (by kernel_rfl) rfl rfl rfl rfl (ab rfl)) <| ag <| aL ?_;obtain ⟨g34, H⟩ := aN H;obtain ⟨x35, e36, H⟩ := bK H;obtain ⟨g37, H⟩ := aN H;show ALeaves _ _ _ _ _ [.call (.func 22) [.pt o11 0, .pt o24 0] []] _ [.obj o12 [slE (Enc.prod Enc.int (Enc.prod (Enc.sl Enc.str) (Enc.prod Enc.int (Enc.prod Enc.int Enc.int)))) x26 (some t33)], .tok t33 38, .obj o24 [i64 x27], .obj o11 [.pt o1 0], .obj o1 [slE Enc.byte y21 (some t22), B a4], .tok t22 5];refine fY (v := .tup []) (u1 := .returning) (A2 := (fun t38 => [.tok t38 5, .obj o24 [i64 x27], .obj o11 [.pt o1 0], .obj o1 [slE Enc.byte x35 (some t38), B a4]])) [2, 2, 2] (fun h => by cases h) kL rfl ?_ ?_
  ·show ADCalls _ _ [.pt o11 0, .pt o24 0] [.obj o24 [i64 x27], .obj o11 [.pt o1 0], .obj o1 [slE Enc.byte y21 (some t22), B a4]] _ _;refine er (av := .v .nilIface) (l := [1]) Tryd.func22 rfl rfl rfl rfl rfl Recovers.ret rfl (fun cs => ?_);refine ASR.op rfl rfl ((asg rfl).opR _) <| ASR.nil <| af <| aa ?_;show AR _ _ _ _ _ [0, 1] _;refine zm rfl <| zS rfl (gR (n := 0) (t := 0) (k := .i64) Tryd.underlying20 rfl rfl) <| ag <| aw rfl (fun hx => cT hx rfl) (fun _ => ?_);refine aE <| cq (by kernel_rfl) ?_;show AI _ _ _ _ _ 11 (Array.replicate 11 false) _;refine mt (i := 0) (j := 1) (l := 5) (by kernel_rfl) rfl rfl rfl rfl rfl rfl ?_ ?_ ?_
   ·refine be rfl (al (i := 1) ar rfl rfl rfl rfl) ?_;show AI _ _ _ _ _ _ #[true, false, false, false, false, false, false, false, false, false, false] _;refine dQ (i := 1) (j := 5) (by kernel_rfl) rfl rfl rfl rfl ?_ ?_
    ·refine be rfl (al (i := 1) ar rfl rfl rfl rfl) ?_;show AI _ _ _ _ _ _ #[true, true, false, false, false, false, false, false, false, false, false] _;refine zk 2 rfl (au rfl) ?_;show AI _ _ _ _ _ _ #[true, true, true, false, false, false, false, false, false, false, false] _;refine zk 3 rfl (am (n := 0) (by kernel_rfl) rfl) ?_;show AI _ _ _ _ _ _ #[true, true, true, true, false, false, false, false, false, false, false] _;refine dQ (i := 4) (j := 5) (by kernel_rfl) rfl rfl rfl rfl ?_ ?_
     ·refine be rfl (al (i := 2) ah rfl rfl rfl rfl) ?_;show AI _ _ _ _ _ _ #[true, true, true, true, true, false, false, false, false, false, false] _;refine aQ (i := 5) (by kernel_rfl) rfl rfl <| be rfl (al (i := 0) ay rfl rfl rfl rfl) ?_;show AI _ _ _ _ _ _ #[true, true, true, true, true, true, false, false, false, false, false] _;refine zk 6 rfl (co (E := Enc.byte) ah (by kernel_rfl) rfl rfl g34 e36) ?_;show AI _ _ _ _ _ _ #[true, true, true, true, true, true, true, false, false, false, false] _;refine aQ (i := 7) (by kernel_rfl) rfl rfl <| bG [] rfl bS rfl (aX x35 none (dK g37)) rfl (fun c A' h => by obtain ⟨_, h, _⟩ := h; cases h) ?_
      rintro av A' ⟨t38, h, rfl⟩; cases h
      show AI _ _ _ _ _ _ #[true, true, true, true, true, true, true, true, false, false, false] _;refine zk 8 rfl (au rfl) ?_;show AI _ _ _ _ _ _ #[true, true, true, true, true, true, true, true, true, false, false] _;refine zk 9 rfl (am (n := 0) (by kernel_rfl) rfl) ?_;show AI _ _ _ _ _ _ #[true, true, true, true, true, true, true, true, true, true, false] _;refine aQ (i := 10) (by kernel_rfl) rfl rfl <| bN (aC (i := 3) (c := slE _ _ _) (by kernel_rfl) rfl rfl rfl rfl (ab rfl)) ?_;show AI _ _ _ _ _ _ #[true, true, true, true, true, true, true, true, true, true, true] _;refine bA rfl ?_;exact And.intro rfl (Exists.intro _ (Exists.intro _ ⟨bg rfl, aD [0, 0, 0, 0] rfl, rfl, rfl, t38, rfl⟩))
     ·refine be rfl (al (i := 0) ay rfl rfl rfl rfl) ?_;show AI _ _ _ _ _ _ #[true, true, true, true, false, true, false, false, false, false, false] _;refine aQ (i := 4) (by kernel_rfl) rfl rfl <| be rfl (al (i := 2) ah rfl rfl rfl rfl) ?_;show AI _ _ _ _ _ _ #[true, true, true, true, true, true, false, false, false, false, false] _;refine zk 6 rfl (co (E := Enc.byte) ah (by kernel_rfl) rfl rfl g34 e36) ?_;show AI _ _ _ _ _ _ #[true, true, true, true, true, true, true, false, false, false, false] _;refine aQ (i := 7) (by kernel_rfl) rfl rfl <| bG [] rfl bS rfl (aX x35 none (dK g37)) rfl (fun c A' h => by obtain ⟨_, h, _⟩ := h; cases h) ?_
      rintro av A' ⟨t39, h, rfl⟩; cases h
      show AI _ _ _ _ _ _ #[true, true, true, true, true, true, true, true, false, false, false] _;refine zk 8 rfl (au rfl) ?_;show AI _ _ _ _ _ _ #[true, true, true, true, true, true, true, true, true, false, false] _;refine zk 9 rfl (am (n := 0) (by kernel_rfl) rfl) ?_;show AI _ _ _ _ _ _ #[true, true, true, true, true, true, true, true, true, true, false] _;refine aQ (i := 10) (by kernel_rfl) rfl rfl <| bN (aC (i := 3) (c := slE _ _ _) (by kernel_rfl) rfl rfl rfl rfl (ab rfl)) ?_;show AI _ _ _ _ _ _ #[true, true, true, true, true, true, true, true, true, true, true] _;refine bA rfl ?_;exact And.intro rfl (Exists.intro _ (Exists.intro _ ⟨bg rfl, aD [0, 0, 0, 0] rfl, rfl, rfl, t39, rfl⟩))
    ·refine be rfl (al (i := 0) ay rfl rfl rfl rfl) ?_;show AI _ _ _ _ _ _ #[true, false, false, false, false, true, false, false, false, false, false] _;refine aQ (i := 1) (by kernel_rfl) rfl rfl <| be rfl (al (i := 1) ar rfl rfl rfl rfl) ?_;show AI _ _ _ _ _ _ #[true, true, false, false, false, true, false, false, false, false, false] _;refine zk 2 rfl (au rfl) ?_;show AI _ _ _ _ _ _ #[true, true, true, false, false, true, false, false, false, false, false] _;refine zk 3 rfl (am (n := 0) (by kernel_rfl) rfl) ?_;show AI _ _ _ _ _ _ #[true, true, true, true, false, true, false, false, false, false, false] _;refine aQ (i := 4) (by kernel_rfl) rfl rfl <| be rfl (al (i := 2) ah rfl rfl rfl rfl) ?_;show AI _ _ _ _ _ _ #[true, true, true, true, true, true, false, false, false, false, false] _;refine zk 6 rfl (co (E := Enc.byte) ah (by kernel_rfl) rfl rfl g34 e36) ?_;show AI _ _ _ _ _ _ #[true, true, true, true, true, true, true, false, false, false, false] _;refine aQ (i := 7) (by kernel_rfl) rfl rfl <| bG [] rfl bS rfl (aX x35 none (dK g37)) rfl (fun c A' h => by obtain ⟨_, h, _⟩ := h; cases h) ?_
     rintro av A' ⟨t40, h, rfl⟩; cases h
     show AI _ _ _ _ _ _ #[true, true, true, true, true, true, true, true, false, false, false] _;refine zk 8 rfl (au rfl) ?_;show AI _ _ _ _ _ _ #[true, true, true, true, true, true, true, true, true, false, false] _;refine zk 9 rfl (am (n := 0) (by kernel_rfl) rfl) ?_;show AI _ _ _ _ _ _ #[true, true, true, true, true, true, true, true, true, true, false] _;refine aQ (i := 10) (by kernel_rfl) rfl rfl <| bN (aC (i := 3) (c := slE _ _ _) (by kernel_rfl) rfl rfl rfl rfl (ab rfl)) ?_;show AI _ _ _ _ _ _ #[true, true, true, true, true, true, true, true, true, true, true] _;refine bA rfl ?_;exact And.intro rfl (Exists.intro _ (Exists.intro _ ⟨bg rfl, aD [0, 0, 0, 0] rfl, rfl, rfl, t40, rfl⟩))
   ·refine be rfl (al (i := 1) ar rfl rfl rfl rfl) ?_;show AI _ _ _ _ _ _ #[false, true, false, false, false, false, false, false, false, false, false] _;refine zk 2 rfl (au rfl) ?_;show AI _ _ _ _ _ _ #[false, true, true, false, false, false, false, false, false, false, false] _;refine zk 3 rfl (am (n := 0) (by kernel_rfl) rfl) ?_;show AI _ _ _ _ _ _ #[false, true, true, true, false, false, false, false, false, false, false] _;refine mt (i := 0) (j := 4) (l := 5) (by kernel_rfl) rfl rfl rfl rfl rfl rfl ?_ ?_ ?_
    ·refine be rfl (al (i := 1) ar rfl rfl rfl rfl) ?_;show AI _ _ _ _ _ _ #[true, true, true, true, false, false, false, false, false, false, false] _;refine dQ (i := 4) (j := 5) (by kernel_rfl) rfl rfl rfl rfl ?_ ?_
     ·refine be rfl (al (i := 2) ah rfl rfl rfl rfl) ?_;show AI _ _ _ _ _ _ #[true, true, true, true, true, false, false, false, false, false, false] _;refine aQ (i := 5) (by kernel_rfl) rfl rfl <| be rfl (al (i := 0) ay rfl rfl rfl rfl) ?_;show AI _ _ _ _ _ _ #[true, true, true, true, true, true, false, false, false, false, false] _;refine zk 6 rfl (co (E := Enc.byte) ah (by kernel_rfl) rfl rfl g34 e36) ?_;show AI _ _ _ _ _ _ #[true, true, true, true, true, true, true, false, false, false, false] _;refine aQ (i := 7) (by kernel_rfl) rfl rfl <| bG [] rfl bS rfl (aX x35 none (dK g37)) rfl (fun c A' h => by obtain ⟨_, h, _⟩ := h; cases h) ?_
      rintro av A' ⟨t41, h, rfl⟩; cases h
      show AI _ _ _ _ _ _ #[true, true, true, true, true, true, true, true, false, false, false] _;refine zk 8 rfl (au rfl) ?_;show AI _ _ _ _ _ _ #[true, true, true, true, true, true, true, true, true, false, false] _;refine zk 9 rfl (am (n := 0) (by kernel_rfl) rfl) ?_;show AI _ _ _ _ _ _ #[true, true, true, true, true, true, true, true, true, true, false] _;refine aQ (i := 10) (by kernel_rfl) rfl rfl <| bN (aC (i := 3) (c := slE _ _ _) (by kernel_rfl) rfl rfl rfl rfl (ab rfl)) ?_;show AI _ _ _ _ _ _ #[true, true, true, true, true, true, true, true, true, true, true] _;refine bA rfl ?_;exact And.intro rfl (Exists.intro _ (Exists.intro _ ⟨bg rfl, aD [0, 0, 0, 0] rfl, rfl, rfl, t41, rfl⟩))
     ·refine be rfl (al (i := 0) ay rfl rfl rfl rfl) ?_;show AI _ _ _ _ _ _ #[true, true, true, true, false, true, false, false, false, false, false] _;refine aQ (i := 4) (by kernel_rfl) rfl rfl <| be rfl (al (i := 2) ah rfl rfl rfl rfl) ?_;show AI _ _ _ _ _ _ #[true, true, true, true, true, true, false, false, false, false, false] _;refine zk 6 rfl (co (E := Enc.byte) ah (by kernel_rfl) rfl rfl g34 e36) ?_;show AI _ _ _ _ _ _ #[true, true, true, true, true, true, true, false, false, false, false] _;refine aQ (i := 7) (by kernel_rfl) rfl rfl <| bG [] rfl bS rfl (aX x35 none (dK g37)) rfl (fun c A' h => by obtain ⟨_, h, _⟩ := h; cases h) ?_
      rintro av A' ⟨t42, h, rfl⟩; cases h
      show AI _ _ _ _ _ _ #[true, true, true, true, true, true, true, true, false, false, false] _;refine zk 8 rfl (au rfl) ?_;show AI _ _ _ _ _ _ #[true, true, true, true, true, true, true, true, true, false, false] _;refine zk 9 rfl (am (n := 0) (by kernel_rfl) rfl) ?_;show AI _ _ _ _ _ _ #[true, true, true, true, true, true, true, true, true, true, false] _;refine aQ (i := 10) (by kernel_rfl) rfl rfl <| bN (aC (i := 3) (c := slE _ _ _) (by kernel_rfl) rfl rfl rfl rfl (ab rfl)) ?_;show AI _ _ _ _ _ _ #[true, true, true, true, true, true, true, true, true, true, true] _;refine bA rfl ?_;exact And.intro rfl (Exists.intro _ (Exists.intro _ ⟨bg rfl, aD [0, 0, 0, 0] rfl, rfl, rfl, t42, rfl⟩))
    ·refine be rfl (al (i := 2) ah rfl rfl rfl rfl) ?_;show AI _ _ _ _ _ _ #[false, true, true, true, true, false, false, false, false, false, false] _;refine dQ (i := 0) (j := 5) (by kernel_rfl) rfl rfl rfl rfl ?_ ?_
     ·refine be rfl (al (i := 1) ar rfl rfl rfl rfl) ?_;show AI _ _ _ _ _ _ #[true, true, true, true, true, false, false, false, false, false, false] _;refine aQ (i := 5) (by kernel_rfl) rfl rfl <| be rfl (al (i := 0) ay rfl rfl rfl rfl) ?_;show AI _ _ _ _ _ _ #[true, true, true, true, true, true, false, false, false, false, false] _;refine zk 6 rfl (co (E := Enc.byte) ah (by kernel_rfl) rfl rfl g34 e36) ?_;show AI _ _ _ _ _ _ #[true, true, true, true, true, true, true, false, false, false, false] _;refine aQ (i := 7) (by kernel_rfl) rfl rfl <| bG [] rfl bS rfl (aX x35 none (dK g37)) rfl (fun c A' h => by obtain ⟨_, h, _⟩ := h; cases h) ?_
      rintro av A' ⟨t43, h, rfl⟩; cases h
      show AI _ _ _ _ _ _ #[true, true, true, true, true, true, true, true, false, false, false] _;refine zk 8 rfl (au rfl) ?_;show AI _ _ _ _ _ _ #[true, true, true, true, true, true, true, true, true, false, false] _;refine zk 9 rfl (am (n := 0) (by kernel_rfl) rfl) ?_;show AI _ _ _ _ _ _ #[true, true, true, true, true, true, true, true, true, true, false] _;refine aQ (i := 10) (by kernel_rfl) rfl rfl <| bN (aC (i := 3) (c := slE _ _ _) (by kernel_rfl) rfl rfl rfl rfl (ab rfl)) ?_;show AI _ _ _ _ _ _ #[true, true, true, true, true, true, true, true, true, true, true] _;refine bA rfl ?_;exact And.intro rfl (Exists.intro _ (Exists.intro _ ⟨bg rfl, aD [0, 0, 0, 0] rfl, rfl, rfl, t43, rfl⟩))
     ·refine be rfl (al (i := 0) ay rfl rfl rfl rfl) ?_;show AI _ _ _ _ _ _ #[false, true, true, true, true, true, false, false, false, false, false] _;refine zk 6 rfl (co (E := Enc.byte) ah (by kernel_rfl) rfl rfl g34 e36) ?_;show AI _ _ _ _ _ _ #[false, true, true, true, true, true, true, false, false, false, false] _;refine dQ (i := 0) (j := 7) (by kernel_rfl) rfl rfl rfl rfl ?_ ?_
      ·refine be rfl (al (i := 1) ar rfl rfl rfl rfl) ?_;show AI _ _ _ _ _ _ #[true, true, true, true, true, true, true, false, false, false, false] _;refine aQ (i := 7) (by kernel_rfl) rfl rfl <| bG [] rfl bS rfl (aX x35 none (dK g37)) rfl (fun c A' h => by obtain ⟨_, h, _⟩ := h; cases h) ?_
       rintro av A' ⟨t44, h, rfl⟩; cases h
       show AI _ _ _ _ _ _ #[true, true, true, true, true, true, true, true, false, false, false] _;refine zk 8 rfl (au rfl) ?_;show AI _ _ _ _ _ _ #[true, true, true, true, true, true, true, true, true, false, false] _;refine zk 9 rfl (am (n := 0) (by kernel_rfl) rfl) ?_;show AI _ _ _ _ _ _ #[true, true, true, true, true, true, true, true, true, true, false] _;refine aQ (i := 10) (by kernel_rfl) rfl rfl <| bN (aC (i := 3) (c := slE _ _ _) (by kernel_rfl) rfl rfl rfl rfl (ab rfl)) ?_;show AI _ _ _ _ _ _ #[true, true, true, true, true, true, true, true, true, true, true] _;refine bA rfl ?_;exact And.intro rfl (Exists.intro _ (Exists.intro _ ⟨bg rfl, aD [0, 0, 0, 0] rfl, rfl, rfl, t44, rfl⟩))
      ·refine bG [] rfl bS rfl (aX x35 none (dK g37)) rfl (fun c A' h => by obtain ⟨_, h, _⟩ := h; cases h) ?_
       rintro av A' ⟨t45, h, rfl⟩; cases h
       show AI _ _ _ _ _ _ #[false, true, true, true, true, true, true, true, false, false, false] _;refine aQ (i := 0) (by kernel_rfl) rfl rfl <| be rfl (al (i := 2) ar rfl rfl rfl rfl) ?_;show AI _ _ _ _ _ _ #[true, true, true, true, true, true, true, true, false, false, false] _;refine zk 8 rfl (au rfl) ?_;show AI _ _ _ _ _ _ #[true, true, true, true, true, true, true, true, true, false, false] _;refine zk 9 rfl (am (n := 0) (by kernel_rfl) rfl) ?_;show AI _ _ _ _ _ _ #[true, true, true, true, true, true, true, true, true, true, false] _;refine aQ (i := 10) (by kernel_rfl) rfl rfl <| bN (aC (i := 3) (c := slE _ _ _) (by kernel_rfl) rfl rfl rfl rfl (ab rfl)) ?_;show AI _ _ _ _ _ _ #[true, true, true, true, true, true, true, true, true, true, true] _;refine bA rfl ?_;exact And.intro rfl (Exists.intro _ (Exists.intro _ ⟨bg rfl, aD [0, 0, 0, 0] rfl, rfl, rfl, t45, rfl⟩))
    ·refine be rfl (al (i := 0) ay rfl rfl rfl rfl) ?_;show AI _ _ _ _ _ _ #[false, true, true, true, false, true, false, false, false, false, false] _;refine dQ (i := 0) (j := 4) (by kernel_rfl) rfl rfl rfl rfl ?_ ?_
     ·refine be rfl (al (i := 1) ar rfl rfl rfl rfl) ?_;show AI _ _ _ _ _ _ #[true, true, true, true, false, true, false, false, false, false, false] _;refine aQ (i := 4) (by kernel_rfl) rfl rfl <| be rfl (al (i := 2) ah rfl rfl rfl rfl) ?_;show AI _ _ _ _ _ _ #[true, true, true, true, true, true, false, false, false, false, false] _;refine zk 6 rfl (co (E := Enc.byte) ah (by kernel_rfl) rfl rfl g34 e36) ?_;show AI _ _ _ _ _ _ #[true, true, true, true, true, true, true, false, false, false, false] _;refine aQ (i := 7) (by kernel_rfl) rfl rfl <| bG [] rfl bS rfl (aX x35 none (dK g37)) rfl (fun c A' h => by obtain ⟨_, h, _⟩ := h; cases h) ?_
      rintro av A' ⟨t46, h, rfl⟩; cases h
      show AI _ _ _ _ _ _ #[true, true, true, true, true, true, true, true, false, false, false] _;refine zk 8 rfl (au rfl) ?_;show AI _ _ _ _ _ _ #[true, true, true, true, true, true, true, true, true, false, false] _;refine zk 9 rfl (am (n := 0) (by kernel_rfl) rfl) ?_;show AI _ _ _ _ _ _ #[true, true, true, true, true, true, true, true, true, true, false] _;refine aQ (i := 10) (by kernel_rfl) rfl rfl <| bN (aC (i := 3) (c := slE _ _ _) (by kernel_rfl) rfl rfl rfl rfl (ab rfl)) ?_;show AI _ _ _ _ _ _ #[true, true, true, true, true, true, true, true, true, true, true] _;refine bA rfl ?_;exact And.intro rfl (Exists.intro _ (Exists.intro _ ⟨bg rfl, aD [0, 0, 0, 0] rfl, rfl, rfl, t46, rfl⟩))
     ·refine be rfl (al (i := 2) ah rfl rfl rfl rfl) ?_;show AI _ _ _ _ _ _ #[false, true, true, true, true, true, false, false, false, false, false] _;refine zk 6 rfl (co (E := Enc.byte) ah (by kernel_rfl) rfl rfl g34 e36) ?_;show AI _ _ _ _ _ _ #[false, true, true, true, true, true, true, false, false, false, false] _;refine dQ (i := 0) (j := 7) (by kernel_rfl) rfl rfl rfl rfl ?_ ?_
      ·refine be rfl (al (i := 1) ar rfl rfl rfl rfl) ?_;show AI _ _ _ _ _ _ #[true, true, true, true, true, true, true, false, false, false, false] _;refine aQ (i := 7) (by kernel_rfl) rfl rfl <| bG [] rfl bS rfl (aX x35 none (dK g37)) rfl (fun c A' h => by obtain ⟨_, h, _⟩ := h; cases h) ?_
       rintro av A' ⟨t47, h, rfl⟩; cases h
       show AI _ _ _ _ _ _ #[true, true, true, true, true, true, true, true, false, false, false] _;refine zk 8 rfl (au rfl) ?_;show AI _ _ _ _ _ _ #[true, true, true, true, true, true, true, true, true, false, false] _;refine zk 9 rfl (am (n := 0) (by kernel_rfl) rfl) ?_;show AI _ _ _ _ _ _ #[true, true, true, true, true, true, true, true, true, true, false] _;refine aQ (i := 10) (by kernel_rfl) rfl rfl <| bN (aC (i := 3) (c := slE _ _ _) (by kernel_rfl) rfl rfl rfl rfl (ab rfl)) ?_;show AI _ _ _ _ _ _ #[true, true, true, true, true, true, true, true, true, true, true] _;refine bA rfl ?_;exact And.intro rfl (Exists.intro _ (Exists.intro _ ⟨bg rfl, aD [0, 0, 0, 0] rfl, rfl, rfl, t47, rfl⟩))
      ·refine bG [] rfl bS rfl (aX x35 none (dK g37)) rfl (fun c A' h => by obtain ⟨_, h, _⟩ := h; cases h) ?_
       rintro av A' ⟨t48, h, rfl⟩; cases h
       show AI _ _ _ _ _ _ #[false, true, true, true, true, true, true, true, false, false, false] _;refine aQ (i := 0) (by kernel_rfl) rfl rfl <| be rfl (al (i := 2) ar rfl rfl rfl rfl) ?_;show AI _ _ _ _ _ _ #[true, true, true, true, true, true, true, true, false, false, false] _;refine zk 8 rfl (au rfl) ?_;show AI _ _ _ _ _ _ #[true, true, true, true, true, true, true, true, true, false, false] _;refine zk 9 rfl (am (n := 0) (by kernel_rfl) rfl) ?_;show AI _ _ _ _ _ _ #[true, true, true, true, true, true, true, true, true, true, false] _;refine aQ (i := 10) (by kernel_rfl) rfl rfl <| bN (aC (i := 3) (c := slE _ _ _) (by kernel_rfl) rfl rfl rfl rfl (ab rfl)) ?_;show AI _ _ _ _ _ _ #[true, true, true, true, true, true, true, true, true, true, true] _;refine bA rfl ?_;exact And.intro rfl (Exists.intro _ (Exists.intro _ ⟨bg rfl, aD [0, 0, 0, 0] rfl, rfl, rfl, t48, rfl⟩))
   ·refine be rfl (al (i := 0) ay rfl rfl rfl rfl) ?_;show AI _ _ _ _ _ _ #[false, false, false, false, false, true, false, false, false, false, false] _;refine dQ (i := 0) (j := 1) (by kernel_rfl) rfl rfl rfl rfl ?_ ?_
    ·refine be rfl (al (i := 1) ar rfl rfl rfl rfl) ?_;show AI _ _ _ _ _ _ #[true, false, false, false, false, true, false, false, false, false, false] _;refine aQ (i := 1) (by kernel_rfl) rfl rfl <| be rfl (al (i := 1) ar rfl rfl rfl rfl) ?_;show AI _ _ _ _ _ _ #[true, true, false, false, false, true, false, false, false, false, false] _;refine zk 2 rfl (au rfl) ?_;show AI _ _ _ _ _ _ #[true, true, true, false, false, true, false, false, false, false, false] _;refine zk 3 rfl (am (n := 0) (by kernel_rfl) rfl) ?_;show AI _ _ _ _ _ _ #[true, true, true, true, false, true, false, false, false, false, false] _;refine aQ (i := 4) (by kernel_rfl) rfl rfl <| be rfl (al (i := 2) ah rfl rfl rfl rfl) ?_;show AI _ _ _ _ _ _ #[true, true, true, true, true, true, false, false, false, false, false] _;refine zk 6 rfl (co (E := Enc.byte) ah (by kernel_rfl) rfl rfl g34 e36) ?_;show AI _ _ _ _ _ _ #[true, true, true, true, true, true, true, false, false, false, false] _;refine aQ (i := 7) (by kernel_rfl) rfl rfl <| bG [] rfl bS rfl (aX x35 none (dK g37)) rfl (fun c A' h => by obtain ⟨_, h, _⟩ := h; cases h) ?_
     rintro av A' ⟨t49, h, rfl⟩; cases h
     show AI _ _ _ _ _ _ #[true, true, true, true, true, true, true, true, false, false, false] _;refine zk 8 rfl (au rfl) ?_;show AI _ _ _ _ _ _ #[true, true, true, true, true, true, true, true, true, false, false] _;refine zk 9 rfl (am (n := 0) (by kernel_rfl) rfl) ?_;show AI _ _ _ _ _ _ #[true, true, true, true, true, true, true, true, true, true, false] _;refine aQ (i := 10) (by kernel_rfl) rfl rfl <| bN (aC (i := 3) (c := slE _ _ _) (by kernel_rfl) rfl rfl rfl rfl (ab rfl)) ?_;show AI _ _ _ _ _ _ #[true, true, true, true, true, true, true, true, true, true, true] _;refine bA rfl ?_;exact And.intro rfl (Exists.intro _ (Exists.intro _ ⟨bg rfl, aD [0, 0, 0, 0] rfl, rfl, rfl, t49, rfl⟩))
    ·refine be rfl (al (i := 1) ar rfl rfl rfl rfl) ?_;show AI _ _ _ _ _ _ #[false, true, false, false, false, true, false, false, false, false, false] _;refine zk 2 rfl (au rfl) ?_;show AI _ _ _ _ _ _ #[false, true, true, false, false, true, false, false, false, false, false] _;refine zk 3 rfl (am (n := 0) (by kernel_rfl) rfl) ?_;show AI _ _ _ _ _ _ #[false, true, true, true, false, true, false, false, false, false, false] _;refine dQ (i := 0) (j := 4) (by kernel_rfl) rfl rfl rfl rfl ?_ ?_
     ·refine be rfl (al (i := 1) ar rfl rfl rfl rfl) ?_;show AI _ _ _ _ _ _ #[true, true, true, true, false, true, false, false, false, false, false] _;refine aQ (i := 4) (by kernel_rfl) rfl rfl <| be rfl (al (i := 2) ah rfl rfl rfl rfl) ?_;show AI _ _ _ _ _ _ #[true, true, true, true, true, true, false, false, false, false, false] _;refine zk 6 rfl (co (E := Enc.byte) ah (by kernel_rfl) rfl rfl g34 e36) ?_;show AI _ _ _ _ _ _ #[true, true, true, true, true, true, true, false, false, false, false] _;refine aQ (i := 7) (by kernel_rfl) rfl rfl <| bG [] rfl bS rfl (aX x35 none (dK g37)) rfl (fun c A' h => by obtain ⟨_, h, _⟩ := h; cases h) ?_
      rintro av A' ⟨t50, h, rfl⟩; cases h
      show AI _ _ _ _ _ _ #[true, true, true, true, true, true, true, true, false, false, false] _;refine zk 8 rfl (au rfl) ?_;show AI _ _ _ _ _ _ #[true, true, true, true, true, true, true, true, true, false, false] _;refine zk 9 rfl (am (n := 0) (by kernel_rfl) rfl) ?_;show AI _ _ _ _ _ _ #[true, true, true, true, true, true, true, true, true, true, false] _;refine aQ (i := 10) (by kernel_rfl) rfl rfl <| bN (aC (i := 3) (c := slE _ _ _) (by kernel_rfl) rfl rfl rfl rfl (ab rfl)) ?_;show AI _ _ _ _ _ _ #[true, true, true, true, true, true, true, true, true, true, true] _;refine bA rfl ?_;exact And.intro rfl (Exists.intro _ (Exists.intro _ ⟨bg rfl, aD [0, 0, 0, 0] rfl, rfl, rfl, t50, rfl⟩))
     ·refine be rfl (al (i := 2) ah rfl rfl rfl rfl) ?_;show AI _ _ _ _ _ _ #[false, true, true, true, true, true, false, false, false, false, false] _;refine zk 6 rfl (co (E := Enc.byte) ah (by kernel_rfl) rfl rfl g34 e36) ?_;show AI _ _ _ _ _ _ #[false, true, true, true, true, true, true, false, false, false, false] _;refine dQ (i := 0) (j := 7) (by kernel_rfl) rfl rfl rfl rfl ?_ ?_
      ·refine be rfl (al (i := 1) ar rfl rfl rfl rfl) ?_;show AI _ _ _ _ _ _ #[true, true, true, true, true, true, true, false, false, false, false] _;refine aQ (i := 7) (by kernel_rfl) rfl rfl <| bG [] rfl bS rfl (aX x35 none (dK g37)) rfl (fun c A' h => by obtain ⟨_, h, _⟩ := h; cases h) ?_
       rintro av A' ⟨t51, h, rfl⟩; cases h
       show AI _ _ _ _ _ _ #[true, true, true, true, true, true, true, true, false, false, false] _;refine zk 8 rfl (au rfl) ?_;show AI _ _ _ _ _ _ #[true, true, true, true, true, true, true, true, true, false, false] _;refine zk 9 rfl (am (n := 0) (by kernel_rfl) rfl) ?_;show AI _ _ _ _ _ _ #[true, true, true, true, true, true, true, true, true, true, false] _;refine aQ (i := 10) (by kernel_rfl) rfl rfl <| bN (aC (i := 3) (c := slE _ _ _) (by kernel_rfl) rfl rfl rfl rfl (ab rfl)) ?_;show AI _ _ _ _ _ _ #[true, true, true, true, true, true, true, true, true, true, true] _;refine bA rfl ?_;exact And.intro rfl (Exists.intro _ (Exists.intro _ ⟨bg rfl, aD [0, 0, 0, 0] rfl, rfl, rfl, t51, rfl⟩))
      ·refine bG [] rfl bS rfl (aX x35 none (dK g37)) rfl (fun c A' h => by obtain ⟨_, h, _⟩ := h; cases h) ?_
       rintro av A' ⟨t52, h, rfl⟩; cases h
       show AI _ _ _ _ _ _ #[false, true, true, true, true, true, true, true, false, false, false] _;refine aQ (i := 0) (by kernel_rfl) rfl rfl <| be rfl (al (i := 2) ar rfl rfl rfl rfl) ?_;show AI _ _ _ _ _ _ #[true, true, true, true, true, true, true, true, false, false, false] _;refine zk 8 rfl (au rfl) ?_;show AI _ _ _ _ _ _ #[true, true, true, true, true, true, true, true, true, false, false] _;refine zk 9 rfl (am (n := 0) (by kernel_rfl) rfl) ?_;show AI _ _ _ _ _ _ #[true, true, true, true, true, true, true, true, true, true, false] _;refine aQ (i := 10) (by kernel_rfl) rfl rfl <| bN (aC (i := 3) (c := slE _ _ _) (by kernel_rfl) rfl rfl rfl rfl (ab rfl)) ?_;show AI _ _ _ _ _ _ #[true, true, true, true, true, true, true, true, true, true, true] _;refine bA rfl ?_;exact And.intro rfl (Exists.intro _ (Exists.intro _ ⟨bg rfl, aD [0, 0, 0, 0] rfl, rfl, rfl, t52, rfl⟩))
  intro t38;show ALeaves _ _ _ _ _ [] .returning [.tok t38 5, .obj o24 [i64 x27], .obj o11 [.pt o1 0], .obj o1 [slE Enc.byte x35 (some t38), B a4], .obj o12 [slE (Enc.prod Enc.int (Enc.prod (Enc.sl Enc.str) (Enc.prod Enc.int (Enc.prod Enc.int Enc.int)))) x26 (some t33)], .tok t33 38, .tok t22 5];obtain ⟨rfl, rfl, rfl⟩ := jl H;exact Exists.intro _ (Exists.intro _ ⟨dy rfl ((CellV.one (c := slE _ _ _) 4 aA rfl rfl rfl rfl).oneW (.tok _ _ _)), aD [3, 0] rfl, rfl, t38, rfl⟩)
set_option maxRecDepth 100000 in
set_option maxHeartbeats 1000000 in
theorem jE (F : Nat) (a1 : List UInt8) (q2 : Option Nat) (r3 : List (Int × (List (List UInt8)) × Int × Int × Int)) (r4 : Int) (H : fE F a1 = some (r3, r4)) : ACalls Tryd.prog 18 [slE Enc.byte a1 q2] [] (Ret (.tup [slE (Enc.prod Enc.int (Enc.prod (Enc.sl Enc.str) (Enc.prod Enc.int (Enc.prod Enc.int Enc.int)))) r3 none, i64 r4]) []) := by
 unfold fE at H
 refine az Tryd.func18 rfl rfl ?_;show AW _ _ 18 _ _ _;refine af <| aa ?_;show AR _ _ _ _ _ [0, 1] _;refine za rfl <| za rfl <| ag <| af ?_;obtain ⟨_, e5, H⟩ := dA H;refine aa ?_;show AR _ _ _ _ _ [0, 1] _;refine bc rfl rfl (AO.callAt [] rfl en9_repa rfl (ku F e5) rfl (fun c A' h => by obtain ⟨_, h, _⟩ := h; cases h) ?_)
 rintro av A' ⟨o6, h, rfl⟩; cases h
 refine zS rfl (aK (av := .pt _ _) rfl) <| ag <| af ?_;obtain ⟨x8, x9, x10, e11, H⟩ := jW H;refine aa ?_;show AR _ _ _ _ _ [0, 1, 2, 3] _;refine zS rfl (ax (av := .pt _ _) rfl) <| zS rfl (ax (av := slE _ _ _) rfl) ?_
 refine AR.nil_objAt 0 0 1 5 rfl rfl fun t7 => ?_
 show AR _ _ _ _ _ _ ⟨_, _, [.tok t7 5, .obj o6 [slE Enc.byte [] (some t7), B false]]⟩;refine bc rfl rfl (AO.callAt [1, 0] rfl oa rfl (nq F o6 [] t7 false a1 q2 x8 x9 x10 e11) rfl (fun c A' h => by cases h.1) ?_)
 rintro av A' ⟨h, t12, rfl⟩; cases h
 refine zS rfl (aK (av := slE _ _ _) rfl) <| ag <| af <| af ?_;obtain ⟨x13, e14, H⟩ := dA H;obtain ⟨x16, e17, H⟩ := eB H;refine aa ?_;show AR _ _ _ _ _ [0, 1, 2, 3, 4, 5, 6] _;refine zS rfl (ax (av := .pt _ _) rfl) <| bc rfl rfl (AO.callAt [0, 0] rfl nZ rfl (kw F o6 x9 t12 x10 x13 e14) rfl (fun c A' h => by cases h.1) ?_)
 rintro av A' ⟨h, rfl⟩; cases h
 refine zm rfl <| aF (l := []) 16 (B (x13 || (decide (0 < x16)))) (fun K => ?_) ?_
 ·rcases ac x13 with h15 | h15
  ·refine zF h15 rfl <| zF h15 rfl <| zF h15 rfl <| zS rfl (aq (av := .v _) rfl h15 rfl) ?_;exact K _ 3 _ (an (gc h15)) rfl rfl
  ·refine zU h15 rfl (ax (av := .pt _ _) rfl) <| zT h15 rfl (AO.callAt [0, 0] rfl nX rfl (my F o6 x9 t12 x10 x16 (e17 (nf h15))) rfl (fun c A' h => by cases h.1) ?_)
   rintro av A' ⟨h, rfl⟩; cases h
   refine zU h15 rfl (eh rfl rfl) <| zS rfl (ap (av := .v _) rfl h15 rfl) ?_;exact K _ 3 _ (an (gd h15)) rfl rfl
 refine ag <| aw rfl (fun c18 => ?_) (fun c18 => ?_)
 ·replace H := aZ c18 H;refine af <| aa ?_;show AR _ _ _ _ _ [0, 1] _;refine za rfl <| za rfl <| ag <| aL ?_;obtain ⟨rfl, rfl⟩ := fi H;exact And.intro rfl (Exists.intro _ (Exists.intro _ ⟨bj rfl (.nil _) (.refl _), aD [] rfl, rfl, rfl⟩))
 ·replace H := ba c18 H;refine aE <| af <| aa ?_;show AR _ _ _ _ _ [0, 1, 2] _;refine zS rfl (ax (av := slE _ _ _) rfl) <| zS rfl (aK (av := slE _ _ _) rfl) <| za rfl <| ag <| aL ?_;obtain ⟨rfl, rfl⟩ := fi H;exact And.intro rfl (Exists.intro _ (Exists.intro _ ⟨bj rfl (.refl _) (.refl _), aD [] rfl, rfl, rfl⟩))
end Go.Proofs.YtimpbfniegimaaaDoor
namespace Go.Pv
def dZ : Option Bool :=
some true
def dl (a1 : List (List UInt8)) (a3 : List (List UInt8)) (rec8 : Int → Option Bool) (y7 : Int) : Option Bool :=
bif decide (y7 < (a1.length : Int)) then
  grd (cf y7 a1.length) <|
  lt (at_ a1 y7) fun x12 =>
  grd (cf y7 a3.length) <|
  lt (at_ a3 y7) fun x15 =>
  bif !decide (x12 = x15) then
    some false
  else
    grd (okI (y7 + 1)) <|
    rec8 (y7 + 1)
else
  dZ
def dk (a1 : List (List UInt8)) (a3 : List (List UInt8)) (n : Nat) : Int → Option Bool :=
  loop (fun rec x => dl a1 a3 rec x) n
def eO (F : Nat) (a1 : List (List UInt8)) (a3 : List (List UInt8)) : Option Bool :=
bif !decide ((a1.length : Int) = (a3.length : Int)) then
  some false
else
  dk a1 a3 F 0
def fI (F : Nat) (a1 : Int) (a2 : List (List UInt8)) (a3 : Int) (a4 : Int) (a5 : Int) (a6 : Int) (a7 : List (List UInt8)) (a8 : Int) (a9 : Int) (a10 : Int) : Option Bool :=
bnd (eO F a2 a7) fun x12 =>
some ((x12 && (decide (a1 = a6))) && ((a3 == a8) && ((a4 == a9) && ((a5 == a10) && true))))
def dY : Option Bool :=
some true
def dj (F : Nat) (a1 : List (Int × (List (List UInt8)) × Int × Int × Int)) (a3 : List (Int × (List (List UInt8)) × Int × Int × Int)) (rec8 : Int → Option Bool) (y7 : Int) : Option Bool :=
bif decide (y7 < (a1.length : Int)) then
  grd (cf y7 a1.length) <|
  lt (at_ a1 y7) fun x12 =>
  grd (cf y7 a3.length) <|
  lt (at_ a3 y7) fun x15 =>
  bnd (fI F x12.1 x12.2.1 x12.2.2.1 x12.2.2.2.1 x12.2.2.2.2 x15.1 x15.2.1 x15.2.2.1 x15.2.2.2.1 x15.2.2.2.2) fun x17 =>
  bif !x17 then
    some false
  else
    grd (okI (y7 + 1)) <|
    rec8 (y7 + 1)
else
  dY
def di (F : Nat) (a1 : List (Int × (List (List UInt8)) × Int × Int × Int)) (a3 : List (Int × (List (List UInt8)) × Int × Int × Int)) (n : Nat) : Int → Option Bool :=
  loop (fun rec x => dj F a1 a3 rec x) n
def eN (F : Nat) (a1 : List (Int × (List (List UInt8)) × Int × Int × Int)) (a3 : List (Int × (List (List UInt8)) × Int × Int × Int)) : Option Bool :=
bif !decide ((a1.length : Int) = (a3.length : Int)) then
  some false
else
  di F a1 a3 F 0
def ef (F : Nat) : Option Bool :=
jX (fE F ([50, 53, 48, 45, 97, 13, 10, 50, 53, 48, 32, 50, 46, 48, 46, 48, 32, 98, 13, 10] : List UInt8)) fun x3 x4 =>
bnd (il F) fun _ =>
et ((decide (x4 = 0)) && (decide ((x3.length : Int) = 1))) (cf 0 x3.length) <|
lt (at_ x3 0) fun x12 =>
et (((decide (x4 = 0)) && (decide ((x3.length : Int) = 1))) && (decide (x12.1 = 250))) (cf 0 x3.length) <|
lt (at_ x3 0) fun x16 =>
et ((((decide (x4 = 0)) && (decide ((x3.length : Int) = 1))) && (decide (x12.1 = 250))) && (decide ((x16.2.1.length : Int) = 2))) (cf 0 x3.length) <|
lt (at_ x3 0) fun x20 =>
et (((((decide (x4 = 0)) && (decide ((x3.length : Int) = 1))) && (decide (x12.1 = 250))) && (decide ((x16.2.1.length : Int) = 2))) && ((x20.2.2.1 == 2) && ((x20.2.2.2.1 == 0) && ((x20.2.2.2.2 == 0) && true)))) (cf 0 x3.length) <|
lt (at_ x3 0) fun x24 =>
hZ (((((decide (x4 = 0)) && (decide ((x3.length : Int) = 1))) && (decide (x12.1 = 250))) && (decide ((x16.2.1.length : Int) = 2))) && ((x20.2.2.1 == 2) && ((x20.2.2.2.1 == 0) && ((x20.2.2.2.2 == 0) && true)))) (gm F x24.1 x24.2.1 x24.2.2.1 x24.2.2.2.1 x24.2.2.2.2) fun x26 =>
hZ (((((((decide (x4 = 0)) && (decide ((x3.length : Int) = 1))) && (decide (x12.1 = 250))) && (decide ((x16.2.1.length : Int) = 2))) && ((x20.2.2.1 == 2) && ((x20.2.2.2.1 == 0) && ((x20.2.2.2.2 == 0) && true)))) && x26) || false) (im F [] false) fun x30 =>
some ((((((((decide (x4 = 0)) && (decide ((x3.length : Int) = 1))) && (decide (x12.1 = 250))) && (decide ((x16.2.1.length : Int) = 2))) && ((x20.2.2.1 == 2) && ((x20.2.2.2.1 == 0) && ((x20.2.2.2.2 == 0) && true)))) && x26) || false) && (!x30))
def ez : Option Bool :=
some true
def dI (a2 : List (List UInt8)) (rec9 : Int → Option Bool) (y8 : Int) : Option Bool :=
bif decide (y8 < (a2.length : Int)) then
  grd (cf y8 a2.length) <|
  lt (at_ a2 y8) fun x13 =>
  bif decide (600 < (x13.length : Int)) then
    some false
  else
    grd (okI (y8 + 1)) <|
    rec9 (y8 + 1)
else
  ez
def dH (a2 : List (List UInt8)) (n : Nat) : Int → Option Bool :=
  loop (fun rec x => dI a2 rec x) n
def fB (F : Nat) (a1 : Int) (a2 : List (List UInt8)) (a3 : Int) (a4 : Int) (a5 : Int) : Option Bool :=
bif decide (120 < (a2.length : Int)) then
  some false
else
  dH a2 F 0
end Go.Pv
namespace Go.Proofs.YtimpbfniegimaaaDoor
open Go.RowKit Go.Av Go.Pv
theorem en9_repl : ∀ (args : Array Value) (w : World), (callFunc 9 args).run Tryd.prog w = .ok (.enter 9 args) w := fun _ _ => by kernel_rfl
theorem nY : ∀ (args : Array Value) (w : World), (callFunc 13 args).run Tryd.prog w = .ok (.enter 13 args) w := fun _ _ => by kernel_rfl
theorem nW : ∀ (args : Array Value) (w : World), (callFunc 18 args).run Tryd.prog w = .ok (.enter 18 args) w := fun _ _ => by kernel_rfl
theorem nU : ∀ (args : Array Value) (w : World), (callFunc 21 args).run Tryd.prog w = .ok (.enter 21 args) w := fun _ _ => by kernel_rfl
theorem nS : ∀ (args : Array Value) (w : World), (callFunc 26 args).run Tryd.prog w = .ok (.enter 26 args) w := fun _ _ => by kernel_rfl
theorem nP : ∀ (args : Array Value) (w : World), (callFunc 37 args).run Tryd.prog w = .ok (.enter 37 args) w := fun _ _ => by kernel_rfl
set_option maxRecDepth 100000 in
set_option maxHeartbeats 1000000 in
theorem kR (F : Nat) (a1 : List (List UInt8)) (q2 : Option Nat) (a3 : List (List UInt8)) (q4 : Option Nat) (r5 : Bool) (H : eO F a1 a3 = some r5) : ACalls Tryd.prog 37 [slE Enc.str a1 q2, slE Enc.str a3 q4] [] (Ret (B r5) []) := by
 unfold eO at H
 refine az Tryd.func37 rfl rfl ?_;show AW _ _ 26 _ _ _;refine af <| aa ?_;show AR _ _ _ _ _ [0] _;refine za rfl <| ag <| af <| af <| aa ?_;show AR _ _ _ _ _ [0, 1, 2, 3, 4] _;refine zS rfl (ax (av := slE _ _ _) rfl) <| zS rfl (aP ak rfl) <| zS rfl (ax (av := slE _ _ _) rfl) <| zS rfl (aP ak rfl) <| zS rfl (fS rfl rfl) <| ag <| aw rfl (fun c6 => ?_) (fun c6 => ?_)
 ·replace H := aZ c6 H;refine af <| aa ?_;show AR _ _ _ _ _ [0] _;refine za rfl <| ag <| aL ?_;obtain rfl := aj H;exact And.intro rfl (Exists.intro _ (Exists.intro _ ⟨aH rfl (.refl _), aD [] rfl, rfl, rfl⟩))
 ·replace H := ba c6 H;refine aE <| bB (X := Unit) (fun _ => ⟨[], [], []⟩) (fun _ => dZ = some r5) ?_ ?_
  ·refine af <| aa ?_;show AR _ _ _ _ _ [0] _;refine za rfl <| ag <| bb <| AW.loop (X := Nat × Int) (fun (n9, y7) => ⟨[(0, slE Enc.str a1 q2), (1, slE Enc.str a3 q4), (5, i64 y7)], [], []⟩) (fun (n9, y7) => dk a1 a3 n9 y7 = some r5) (fun (n9, y7) => n9) (F, 0) H (aW [] (.cons (.refl _) (.cons (.refl _) (.cons (.refl _) (.nil _)))) rfl) ?_;rintro ⟨n9, y7⟩ H;obtain ⟨n9, rfl, H⟩ := dN H;replace H : dl a1 a3 (dk a1 a3 n9) y7 = some r5 := H
   unfold dl at H
   refine af <| af <| aa ?_;show AR _ _ _ _ _ [0, 1, 2, 3] _;refine zm rfl <| zS rfl (ax (av := slE _ _ _) rfl) <| zS rfl (aP ak rfl) <| zS rfl (bW rfl rfl) <| ag <| aw rfl (fun c10 => ?_) (fun c10 => ?_)
   ·replace H := aZ c10 H;refine aE <| af <| bb <| af ?_;obtain ⟨g11, H⟩ := aN H;obtain ⟨x12, e13, H⟩ := bK H;obtain ⟨g14, H⟩ := aN H;obtain ⟨x15, e16, H⟩ := bK H;refine cq (by kernel_rfl) ?_;show AI _ _ _ _ _ 9 (Array.replicate 9 false) _;refine zk 0 rfl (ax (av := slE _ _ _) rfl) ?_;show AI _ _ _ _ _ _ #[true, false, false, false, false, false, false, false, false] _;refine zk 1 rfl (mv rfl) ?_;show AI _ _ _ _ _ _ #[true, true, false, false, false, false, false, false, false] _;refine zk 2 rfl (bl (E := Enc.str) ak (by kernel_rfl) rfl rfl g11 e13) ?_;show AI _ _ _ _ _ _ #[true, true, true, false, false, false, false, false, false] _;refine zk 3 rfl (aI ai rfl rfl) ?_;show AI _ _ _ _ _ _ #[true, true, true, true, false, false, false, false, false] _;refine zk 4 rfl (ax (av := slE _ _ _) rfl) ?_;show AI _ _ _ _ _ _ #[true, true, true, true, true, false, false, false, false] _;refine zk 5 rfl (mv rfl) ?_;show AI _ _ _ _ _ _ #[true, true, true, true, true, true, false, false, false] _;refine zk 6 rfl (bl (E := Enc.str) ak (by kernel_rfl) rfl rfl g14 e16) ?_;show AI _ _ _ _ _ _ #[true, true, true, true, true, true, true, false, false] _;refine zk 7 rfl (aI ai rfl rfl) ?_;show AI _ _ _ _ _ _ #[true, true, true, true, true, true, true, true, false] _;refine zk 8 rfl (opS_nes rfl rfl) ?_;show AI _ _ _ _ _ _ #[true, true, true, true, true, true, true, true, true] _;refine bA rfl <| aw rfl (fun c17 => ?_) (fun c17 => ?_)
    ·replace H := aZ c17 H;refine af <| aa ?_;show AR _ _ _ _ _ [0] _;refine za rfl <| ag <| aL ?_;obtain rfl := aj H;exact And.intro rfl (Exists.intro _ (Exists.intro _ ⟨aH rfl (.refl _), aD [] rfl, rfl, rfl⟩))
    ·replace H := ba c17 H;refine aE ?_;obtain ⟨g18, H⟩ := aN H;refine aa ?_;show AR _ _ _ _ _ [0, 1, 2] _;refine zm rfl <| zS rfl (eY rfl rfl g18) <| za rfl <| ag ?_;exact Exists.intro (n9, y7 + 1) ⟨H, Nat.lt_succ_self _, aW [] (.cons (.refl _) (.cons (.refl _) (.cons (.refl _) (.nil _)))) rfl⟩
   ·replace H := ba c10 H;refine cF ?_;exact Exists.intro () ⟨H, aW [] (.nil _) rfl⟩
  rintro _ H;replace H : dZ = some r5 := H
  unfold dZ at H
  refine af <| aa ?_;show AR _ _ _ _ _ [0] _;refine za rfl <| ag <| aL ?_;obtain rfl := aj H;exact And.intro rfl (Exists.intro _ (Exists.intro _ ⟨aH rfl (.refl _), aD [] rfl, rfl, rfl⟩))
set_option maxRecDepth 100000 in
set_option maxHeartbeats 1000000 in
theorem kP (F : Nat) (a1 : Int) (a2 : List (List UInt8)) (a3 : Int) (a4 : Int) (a5 : Int) (a6 : Int) (a7 : List (List UInt8)) (a8 : Int) (a9 : Int) (a10 : Int) (r11 : Bool) (H : fI F a1 a2 a3 a4 a5 a6 a7 a8 a9 a10 = some r11) : ACalls Tryd.prog 26 [.agg [i64 a1, slE Enc.str a2 none, i64 a3, i64 a4, i64 a5], .agg [i64 a6, slE Enc.str a7 none, i64 a8, i64 a9, i64 a10]] [] (Ret (B r11) []) := by
 unfold fI at H
 refine az Tryd.func26 rfl rfl ?_;show AW _ _ 26 _ _ _;refine af <| aa ?_;show AR _ _ _ _ _ [0, 1, 2] _;refine zR rfl (dX rfl (.inr ⟨_, rfl⟩)) <| zR rfl (dX rfl (.inr ⟨_, rfl⟩)) <| za rfl <| ag <| af ?_;obtain ⟨x12, e13, H⟩ := dA H;refine aa ?_;show AR _ _ _ _ _ [0, 1, 2, 3, 4, 5] _;refine zS rfl (aB (n := 1) (by kernel_rfl) rfl (ab rfl)) <| zS rfl (aI ak rfl rfl) <| zS rfl (aB (n := 1) (by kernel_rfl) rfl (ab rfl)) <| zS rfl (aI ak rfl rfl) <| bc rfl rfl (aM rfl nP rfl (kR F a2 none a7 none x12 e13) ?_);refine za rfl <| ag <| af <| aa ?_;show AR _ _ _ _ _ [0, 1, 2, 3, 4, 5, 6, 7, 8, 9, 10, 11, 12, 13, 14, 15] _;refine zm rfl <| zm rfl <| aF (l := [8, 9, 10, 11, 12, 13, 14, 15]) 18 (B (x12 && (decide (a1 = a6)))) (fun K => ?_) ?_
 ·rcases ac x12 with h14 | h14
  ·refine zU h14 rfl (aB (n := 0) (by kernel_rfl) rfl (ab rfl)) <| zU h14 rfl (aI ay rfl rfl) <| zU h14 rfl (aB (n := 0) (by kernel_rfl) rfl (ab rfl)) <| zU h14 rfl (aI ay rfl rfl) <| zU h14 rfl (bx rfl rfl) <| zS rfl (aq (av := .v _) rfl h14 rfl) ?_;exact K _ 5 _ (an (bH h14)) rfl rfl
  ·refine zF h14 rfl <| zF h14 rfl <| zF h14 rfl <| zF h14 rfl <| zF h14 rfl <| zS rfl (ap (av := .v _) rfl h14 rfl) ?_;exact K _ 5 _ (an (bI h14)) rfl rfl
 refine zm rfl <| aF (l := [15]) 25 (B ((x12 && (decide (a1 = a6))) && ((a3 == a8) && ((a4 == a9) && ((a5 == a10) && true))))) (fun K => ?_) ?_
 ·rcases ac (x12 && (decide (a1 = a6))) with h15 | h15
  ·refine zU h15 rfl (aB (n := 2) (by kernel_rfl) rfl (ab rfl)) <| zU h15 rfl (bn aJ rfl (n := 3) (by kernel_rfl) rfl (ab rfl)) <| zU h15 rfl (aB (n := 2) (by kernel_rfl) rfl (ab rfl)) <| zU h15 rfl (bn aJ rfl (n := 3) (by kernel_rfl) rfl (ab rfl)) <| zU h15 rfl (gP (r := (a3 == a8) && ((a4 == a9) && ((a5 == a10) && true))) (.inl rfl) aJ ay rfl (by kernel_rfl) (by kernel_rfl) rfl rfl rfl rfl) <| zS rfl (aq (av := .v _) rfl h15 rfl) ?_;exact K _ 5 _ (an (bH h15)) rfl rfl
  ·refine zF h15 rfl <| zF h15 rfl <| zF h15 rfl <| zF h15 rfl <| zF h15 rfl <| zS rfl (ap (av := .v _) rfl h15 rfl) ?_;exact K _ 5 _ (an (bI h15)) rfl rfl
 refine za rfl <| ag <| aL ?_;obtain rfl := aj H;exact And.intro rfl (Exists.intro _ (Exists.intro _ ⟨aH rfl (.refl _), aD [] rfl, rfl, rfl⟩))
set_option maxRecDepth 100000 in
set_option maxHeartbeats 1000000 in
theorem kQ (F : Nat) (a1 : List (Int × (List (List UInt8)) × Int × Int × Int)) (q2 : Option Nat) (a3 : List (Int × (List (List UInt8)) × Int × Int × Int)) (q4 : Option Nat) (r5 : Bool) (H : eN F a1 a3 = some r5) : ACalls Tryd.prog 12 [slE (Enc.prod Enc.int (Enc.prod (Enc.sl Enc.str) (Enc.prod Enc.int (Enc.prod Enc.int Enc.int)))) a1 q2, slE (Enc.prod Enc.int (Enc.prod (Enc.sl Enc.str) (Enc.prod Enc.int (Enc.prod Enc.int Enc.int)))) a3 q4] [] (Ret (B r5) []) := by
 unfold eN at H
 refine az Tryd.func12 rfl rfl ?_;show AW _ _ 29 _ _ _;refine af <| aa ?_;show AR _ _ _ _ _ [0] _;refine za rfl <| ag <| af <| af <| aa ?_;show AR _ _ _ _ _ [0, 1, 2, 3, 4] _;refine zS rfl (ax (av := slE _ _ _) rfl) <| zS rfl (aP aA rfl) <| zS rfl (ax (av := slE _ _ _) rfl) <| zS rfl (aP aA rfl) <| zS rfl (fS rfl rfl) <| ag <| aw rfl (fun c6 => ?_) (fun c6 => ?_)
 ·replace H := aZ c6 H;refine af <| aa ?_;show AR _ _ _ _ _ [0] _;refine za rfl <| ag <| aL ?_;obtain rfl := aj H;exact And.intro rfl (Exists.intro _ (Exists.intro _ ⟨aH rfl (.refl _), aD [] rfl, rfl, rfl⟩))
 ·replace H := ba c6 H;refine aE <| bB (X := Unit) (fun _ => ⟨[], [], []⟩) (fun _ => dY = some r5) ?_ ?_
  ·refine af <| aa ?_;show AR _ _ _ _ _ [0] _;refine za rfl <| ag <| bb <| AW.loop (X := Nat × Int) (fun (n9, y7) => ⟨[(0, slE (Enc.prod Enc.int (Enc.prod (Enc.sl Enc.str) (Enc.prod Enc.int (Enc.prod Enc.int Enc.int)))) a1 q2), (1, slE (Enc.prod Enc.int (Enc.prod (Enc.sl Enc.str) (Enc.prod Enc.int (Enc.prod Enc.int Enc.int)))) a3 q4), (5, i64 y7)], [], []⟩) (fun (n9, y7) => di F a1 a3 n9 y7 = some r5) (fun (n9, y7) => n9) (F, 0) H (aW [] (.cons (.refl _) (.cons (.refl _) (.cons (.refl _) (.nil _)))) rfl) ?_;rintro ⟨n9, y7⟩ H;obtain ⟨n9, rfl, H⟩ := dN H;replace H : dj F a1 a3 (di F a1 a3 n9) y7 = some r5 := H
   unfold dj at H
   refine af <| af <| aa ?_;show AR _ _ _ _ _ [0, 1, 2, 3] _;refine zm rfl <| zS rfl (ax (av := slE _ _ _) rfl) <| zS rfl (aP aA rfl) <| zS rfl (bW rfl rfl) <| ag <| aw rfl (fun c10 => ?_) (fun c10 => ?_)
   ·replace H := aZ c10 H;refine aE <| af <| bb <| af ?_;obtain ⟨g11, H⟩ := aN H;obtain ⟨x12, e13, H⟩ := bK H;obtain ⟨g14, H⟩ := aN H;obtain ⟨x15, e16, H⟩ := bK H;obtain ⟨x17, e18, H⟩ := dA H;refine cq (by kernel_rfl) ?_;show AI _ _ _ _ _ 10 (Array.replicate 10 false) _;refine zk 0 rfl (ax (av := slE _ _ _) rfl) ?_;show AI _ _ _ _ _ _ #[true, false, false, false, false, false, false, false, false, false] _;refine zk 1 rfl (mv rfl) ?_;show AI _ _ _ _ _ _ #[true, true, false, false, false, false, false, false, false, false] _;refine zk 2 rfl (bl (E := (Enc.prod Enc.int (Enc.prod (Enc.sl Enc.str) (Enc.prod Enc.int (Enc.prod Enc.int Enc.int))))) aA (by kernel_rfl) rfl rfl g11 e13) ?_;show AI _ _ _ _ _ _ #[true, true, true, false, false, false, false, false, false, false] _;refine zk 3 rfl (bn bu rfl (n := 5) (by kernel_rfl) rfl (ab rfl)) ?_;show AI _ _ _ _ _ _ #[true, true, true, true, false, false, false, false, false, false] _;refine zk 4 rfl (ax (av := slE _ _ _) rfl) ?_;show AI _ _ _ _ _ _ #[true, true, true, true, true, false, false, false, false, false] _;refine zk 5 rfl (mv rfl) ?_;show AI _ _ _ _ _ _ #[true, true, true, true, true, true, false, false, false, false] _;refine zk 6 rfl (bl (E := (Enc.prod Enc.int (Enc.prod (Enc.sl Enc.str) (Enc.prod Enc.int (Enc.prod Enc.int Enc.int))))) aA (by kernel_rfl) rfl rfl g14 e16) ?_;show AI _ _ _ _ _ _ #[true, true, true, true, true, true, true, false, false, false] _
    refine zk 7 rfl (bn bu rfl (n := 5) (by kernel_rfl) rfl (ab rfl)) ?_;show AI _ _ _ _ _ _ #[true, true, true, true, true, true, true, true, false, false] _;refine aQ (i := 8) (by kernel_rfl) rfl rfl <| AIO.callp rfl nS rfl (kP F x12.1 x12.2.1 x12.2.2.1 x12.2.2.2.1 x12.2.2.2.2 x15.1 x15.2.1 x15.2.2.1 x15.2.2.2.1 x15.2.2.2.2 x17 e18) ?_;show AI _ _ _ _ _ _ #[true, true, true, true, true, true, true, true, true, false] _;refine zk 9 rfl (asg rfl) ?_;show AI _ _ _ _ _ _ #[true, true, true, true, true, true, true, true, true, true] _;refine bA rfl <| af <| aa ?_;show AR _ _ _ _ _ [0, 1] _;refine zm rfl <| zS rfl (dv rfl) <| ag <| aw rfl (fun c19 => ?_) (fun c19 => ?_)
    ·replace H := aZ c19 H;refine af <| aa ?_;show AR _ _ _ _ _ [0] _;refine za rfl <| ag <| aL ?_;obtain rfl := aj H;exact And.intro rfl (Exists.intro _ (Exists.intro _ ⟨aH rfl (.refl _), aD [] rfl, rfl, rfl⟩))
    ·replace H := ba c19 H;refine aE ?_;obtain ⟨g20, H⟩ := aN H;refine aa ?_;show AR _ _ _ _ _ [0, 1, 2] _;refine zm rfl <| zS rfl (eY rfl rfl g20) <| za rfl <| ag ?_;exact Exists.intro (n9, y7 + 1) ⟨H, Nat.lt_succ_self _, aW [] (.cons (.refl _) (.cons (.refl _) (.cons (.refl _) (.nil _)))) rfl⟩
   ·replace H := ba c10 H;refine cF ?_;exact Exists.intro () ⟨H, aW [] (.nil _) rfl⟩
  rintro _ H;replace H : dY = some r5 := H
  unfold dY at H
  refine af <| aa ?_;show AR _ _ _ _ _ [0] _;refine za rfl <| ag <| aL ?_;obtain rfl := aj H;exact And.intro rfl (Exists.intro _ (Exists.intro _ ⟨aH rfl (.refl _), aD [] rfl, rfl, rfl⟩))
set_option maxRecDepth 100000 in
set_option maxHeartbeats 1000000 in
theorem kd (F : Nat) (r1 : Bool) (H : ef F = some r1) : ACalls Tryd.prog 8 [] [] (Ret (B r1) []) := by
 unfold ef at H
 refine az Tryd.func8 rfl rfl ?_;show AW _ _ 56 _ _ _;refine af <| aa ?_;show AR _ _ _ _ _ [0] _;refine za rfl <| ag <| af ?_;obtain ⟨x3, x4, e5, H⟩ := fw H;refine aa ?_;show AR _ _ _ _ _ [0, 1, 2, 3, 4, 5, 6, 7] _;refine zX rfl (mC (E := Enc.byte) (bytes := 1) (xs := [.const _, .const _, .const _, .const _, .const _, .const _, .const _, .const _, .const _, .const _, .const _, .const _, .const _, .const _, .const _, .const _, .const _, .const _, .const _, .const _]) (l := ([50, 53, 48, 45, 97, 13, 10, 50, 53, 48, 32, 50, 46, 48, 46, 48, 32, 98, 13, 10] : List UInt8)) ah (by kernel_rfl) rfl rfl (by decide) rfl rfl) ?_;rintro _ _ ⟨t2, rfl, rfl⟩;refine zR rfl (ko 0 ah bC rfl (by simp) rfl) <| bc rfl rfl (aM rfl nW rfl (jE F ([50, 53, 48, 45, 97, 13, 10, 50, 53, 48, 32, 50, 46, 48, 46, 48, 32, 98, 13, 10] : List UInt8) (some t2) x3 x4 e5) ?_);refine zS rfl (ax (av := .tup _) rfl) <| zS rfl (aG (av := slE _ _ _) rfl rfl) <| zS rfl (aG (av := .v _) rfl rfl) <| zS rfl (aK (av := slE _ _ _) rfl) <| za rfl <| ag <| af ?_;obtain ⟨_, e6, H⟩ := dA H;refine aa ?_;show AR _ _ _ _ _ [0, 1] _;refine bc rfl rfl (AO.callAt [] rfl en9_repl rfl (ku F e6) rfl (fun c A' h => by obtain ⟨_, h, _⟩ := h; cases h) ?_)
 rintro av A' ⟨o7, h, rfl⟩; cases h
 refine zS rfl (aK (av := .pt _ _) rfl) ?_
 refine ji 0 0 1 5 rfl rfl fun t8 => ?_
 show AR _ _ _ _ _ _ ⟨_, _, [.obj o7 [slE Enc.byte [] (some t8), B false], .tok t8 5, .tok t2 5]⟩;refine ag <| af ?_;obtain ⟨g11, H⟩ := cY H;obtain ⟨x12, e13, H⟩ := bK H;obtain ⟨g15, H⟩ := cY H;obtain ⟨x16, e17, H⟩ := bK H;obtain ⟨g19, H⟩ := cY H;obtain ⟨x20, e21, H⟩ := bK H;obtain ⟨g23, H⟩ := cY H;obtain ⟨x24, e25, H⟩ := bK H;obtain ⟨x26, e27, H⟩ := eB H;obtain ⟨x30, e31, H⟩ := eB H;refine aa ?_;show AR _ _ _ _ _ [0, 1, 2, 3, 4, 5, 6, 7, 8, 9, 10, 11, 12, 13, 14, 15, 16, 17, 18, 19, 20, 21, 22, 23, 24, 25, 26, 27, 28, 29, 30, 31, 32, 33, 34, 35, 36, 37, 38, 39, 40, 41, 42, 43, 44, 45] _;refine zm rfl <| zS rfl (bx rfl rfl) <| zm rfl <| aF (l := [7, 8, 9, 10, 11, 12, 13, 14, 15, 16, 17, 18, 19, 20, 21, 22, 23, 24, 25, 26, 27, 28, 29, 30, 31, 32, 33, 34, 35, 36, 37, 38, 39, 40, 41, 42, 43, 44, 45]) 17 (B ((decide (x4 = 0)) && (decide ((x3.length : Int) = 1)))) (fun K => ?_) ?_
 ·rcases ac (decide (x4 = 0)) with h9 | h9
  ·refine zU h9 rfl (ax (av := slE _ _ _) rfl) <| zU h9 rfl (aP aA rfl) <| zU h9 rfl (bx rfl rfl) <| zS rfl (aq (av := .v _) rfl h9 rfl) ?_;exact K _ 3 _ (an (bH h9)) rfl rfl
  ·refine zF h9 rfl <| zF h9 rfl <| zF h9 rfl <| zS rfl (ap (av := .v _) rfl h9 rfl) ?_;exact K _ 3 _ (an (bI h9)) rfl rfl
 refine zm rfl <| aF (l := [14, 15, 16, 17, 18, 19, 20, 21, 22, 23, 24, 25, 26, 27, 28, 29, 30, 31, 32, 33, 34, 35, 36, 37, 38, 39, 40, 41, 42, 43, 44, 45]) 24 (B (((decide (x4 = 0)) && (decide ((x3.length : Int) = 1))) && (decide (x12.1 = 250)))) (fun K => ?_) ?_
 ·rcases ac ((decide (x4 = 0)) && (decide ((x3.length : Int) = 1))) with h10 | h10
  ·refine zU h10 rfl (ax (av := slE _ _ _) rfl) <| zU h10 rfl (bl (E := (Enc.prod Enc.int (Enc.prod (Enc.sl Enc.str) (Enc.prod Enc.int (Enc.prod Enc.int Enc.int))))) aA (by kernel_rfl) rfl rfl (g11 h10) e13) <| zU h10 rfl (aB (n := 0) (by kernel_rfl) rfl (ab rfl)) <| zU h10 rfl (aI ay rfl rfl) <| zU h10 rfl (bx rfl rfl) <| zS rfl (aq (av := .v _) rfl h10 rfl) ?_;exact K _ 5 _ (an (bH h10)) rfl rfl
  ·refine zF h10 rfl <| zF h10 rfl <| zF h10 rfl <| zF h10 rfl <| zF h10 rfl <| zS rfl (ap (av := .v _) rfl h10 rfl) ?_;exact K _ 5 _ (an (bI h10)) rfl rfl
 refine zm rfl <| aF (l := [22, 23, 24, 25, 26, 27, 28, 29, 30, 31, 32, 33, 34, 35, 36, 37, 38, 39, 40, 41, 42, 43, 44, 45]) 32 (B ((((decide (x4 = 0)) && (decide ((x3.length : Int) = 1))) && (decide (x12.1 = 250))) && (decide ((x16.2.1.length : Int) = 2)))) (fun K => ?_) ?_
 ·rcases ac (((decide (x4 = 0)) && (decide ((x3.length : Int) = 1))) && (decide (x12.1 = 250))) with h14 | h14
  ·refine zU h14 rfl (ax (av := slE _ _ _) rfl) <| zU h14 rfl (bl (E := (Enc.prod Enc.int (Enc.prod (Enc.sl Enc.str) (Enc.prod Enc.int (Enc.prod Enc.int Enc.int))))) aA (by kernel_rfl) rfl rfl (g15 h14) e17) <| zU h14 rfl (aB (n := 1) (by kernel_rfl) rfl (ab rfl)) <| zU h14 rfl (aI ak rfl rfl) <| zU h14 rfl (aP ak rfl) <| zU h14 rfl (bx rfl rfl) <| zS rfl (aq (av := .v _) rfl h14 rfl) ?_;exact K _ 6 _ (an (bH h14)) rfl rfl
  ·refine zF h14 rfl <| zF h14 rfl <| zF h14 rfl <| zF h14 rfl <| zF h14 rfl <| zF h14 rfl <| zS rfl (ap (av := .v _) rfl h14 rfl) ?_;exact K _ 6 _ (an (bI h14)) rfl rfl
 refine zm rfl <| aF (l := [30, 31, 32, 33, 34, 35, 36, 37, 38, 39, 40, 41, 42, 43, 44, 45]) 40 (B (((((decide (x4 = 0)) && (decide ((x3.length : Int) = 1))) && (decide (x12.1 = 250))) && (decide ((x16.2.1.length : Int) = 2))) && ((x20.2.2.1 == 2) && ((x20.2.2.2.1 == 0) && ((x20.2.2.2.2 == 0) && true))))) (fun K => ?_) ?_
 ·rcases ac ((((decide (x4 = 0)) && (decide ((x3.length : Int) = 1))) && (decide (x12.1 = 250))) && (decide ((x16.2.1.length : Int) = 2))) with h18 | h18
  ·refine zU h18 rfl (ax (av := slE _ _ _) rfl) <| zU h18 rfl (bl (E := (Enc.prod Enc.int (Enc.prod (Enc.sl Enc.str) (Enc.prod Enc.int (Enc.prod Enc.int Enc.int))))) aA (by kernel_rfl) rfl rfl (g19 h18) e21) <| zU h18 rfl (aB (n := 2) (by kernel_rfl) rfl (ab rfl)) <| zU h18 rfl (bn aJ rfl (n := 3) (by kernel_rfl) rfl (ab rfl)) <| zU h18 rfl (mK (zs := [.int .i64 0, .int .i64 0, .int .i64 0]) (k := 1) (cs := [i64 2, i64 0, i64 0]) aJ (by kernel_rfl) (by kernel_rfl) rfl rfl (by kernel_rfl)) <| zU h18 rfl (gP (r := (x20.2.2.1 == 2) && ((x20.2.2.2.1 == 0) && ((x20.2.2.2.2 == 0) && true))) (.inl rfl) aJ ay rfl (by kernel_rfl) (by kernel_rfl) rfl rfl rfl rfl) <| zS rfl (aq (av := .v _) rfl h18 rfl) ?_;exact K _ 6 _ (an (bH h18)) rfl rfl
  ·refine zF h18 rfl <| zF h18 rfl <| zF h18 rfl <| zF h18 rfl <| zF h18 rfl <| zF h18 rfl <| zS rfl (ap (av := .v _) rfl h18 rfl) ?_;exact K _ 6 _ (an (bI h18)) rfl rfl
 refine zm rfl <| aF (l := [36, 37, 38, 39, 40, 41, 42, 43, 44, 45]) 46 (B ((((((decide (x4 = 0)) && (decide ((x3.length : Int) = 1))) && (decide (x12.1 = 250))) && (decide ((x16.2.1.length : Int) = 2))) && ((x20.2.2.1 == 2) && ((x20.2.2.2.1 == 0) && ((x20.2.2.2.2 == 0) && true)))) && x26)) (fun K => ?_) ?_
 ·rcases ac (((((decide (x4 = 0)) && (decide ((x3.length : Int) = 1))) && (decide (x12.1 = 250))) && (decide ((x16.2.1.length : Int) = 2))) && ((x20.2.2.1 == 2) && ((x20.2.2.2.1 == 0) && ((x20.2.2.2.2 == 0) && true)))) with h22 | h22
  ·refine zU h22 rfl (ax (av := slE _ _ _) rfl) <| zU h22 rfl (bl (E := (Enc.prod Enc.int (Enc.prod (Enc.sl Enc.str) (Enc.prod Enc.int (Enc.prod Enc.int Enc.int))))) aA (by kernel_rfl) rfl rfl (g23 h22) e25) <| zU h22 rfl (bn bu rfl (n := 5) (by kernel_rfl) rfl (ab rfl)) <| zT h22 rfl (aM rfl nU rfl (kv F x24.1 x24.2.1 x24.2.2.1 x24.2.2.2.1 x24.2.2.2.2 x26 (e27 h22)) ?_);refine zS rfl (aq (av := .v _) rfl h22 rfl) ?_;exact K _ 4 _ (an (bH h22)) rfl rfl
  ·refine zF h22 rfl <| zF h22 rfl <| zF h22 rfl <| zF h22 rfl <| zS rfl (ap (av := .v _) rfl h22 rfl) ?_;exact K _ 4 _ (an (bI h22)) rfl rfl
 refine zm rfl <| aF (l := [40, 41, 42, 43, 44, 45]) 50 (B (((((((decide (x4 = 0)) && (decide ((x3.length : Int) = 1))) && (decide (x12.1 = 250))) && (decide ((x16.2.1.length : Int) = 2))) && ((x20.2.2.1 == 2) && ((x20.2.2.2.1 == 0) && ((x20.2.2.2.2 == 0) && true)))) && x26) || false)) (fun K => ?_) ?_
 ·rcases ac ((((((decide (x4 = 0)) && (decide ((x3.length : Int) = 1))) && (decide (x12.1 = 250))) && (decide ((x16.2.1.length : Int) = 2))) && ((x20.2.2.1 == 2) && ((x20.2.2.2.1 == 0) && ((x20.2.2.2.2 == 0) && true)))) && x26) with h28 | h28
  ·refine zU h28 rfl (ax (av := .pt _ _) rfl) <| zU h28 rfl (kT ar rfl rfl) <| zS rfl (aq (av := .v _) rfl h28 rfl) ?_;exact K _ 2 _ (an (gc h28)) rfl rfl
  ·refine zF h28 rfl <| zF h28 rfl <| zS rfl (ap (av := .v _) rfl h28 rfl) ?_;exact K _ 2 _ (an (gd h28)) rfl rfl
 refine zm rfl <| aF (l := [45]) 55 (B ((((((((decide (x4 = 0)) && (decide ((x3.length : Int) = 1))) && (decide (x12.1 = 250))) && (decide ((x16.2.1.length : Int) = 2))) && ((x20.2.2.1 == 2) && ((x20.2.2.2.1 == 0) && ((x20.2.2.2.2 == 0) && true)))) && x26) || false) && (!x30))) (fun K => ?_) ?_
 ·rcases ac (((((((decide (x4 = 0)) && (decide ((x3.length : Int) = 1))) && (decide (x12.1 = 250))) && (decide ((x16.2.1.length : Int) = 2))) && ((x20.2.2.1 == 2) && ((x20.2.2.2.1 == 0) && ((x20.2.2.2.2 == 0) && true)))) && x26) || false) with h29 | h29
  ·refine zU h29 rfl (ax (av := .pt _ _) rfl) <| zT h29 rfl (AO.callAt [0, 0] rfl nY rfl (kw F o7 [] t8 false x30 (e31 h29)) rfl (fun c A' h => by cases h.1) ?_)
   rintro av A' ⟨h, rfl⟩; cases h
   refine zU h29 rfl (dv rfl) <| zS rfl (aq (av := .v _) rfl h29 rfl) ?_;exact K _ 3 _ (an (bH h29)) rfl rfl
  ·refine zF h29 rfl <| zF h29 rfl <| zF h29 rfl <| zS rfl (ap (av := .v _) rfl h29 rfl) ?_;exact K _ 3 _ (an (bI h29)) rfl rfl
 refine za rfl <| ag <| aL ?_;obtain rfl := aj H;exact And.intro rfl (Exists.intro _ (Exists.intro _ ⟨aH rfl (.refl _), aD [] rfl, rfl, rfl⟩))
set_option maxRecDepth 100000 in
set_option maxHeartbeats 1000000 in
theorem lA (F : Nat) (a1 : Int) (a2 : List (List UInt8)) (a3 : Int) (a4 : Int) (a5 : Int) (r6 : Bool) (H : fB F a1 a2 a3 a4 a5 = some r6) : ACalls Tryd.prog 15 [.agg [i64 a1, slE Enc.str a2 none, i64 a3, i64 a4, i64 a5]] [] (Ret (B r6) []) := by
 unfold fB at H
 refine az Tryd.func15 rfl rfl ?_;show AW _ _ 22 _ _ _;refine af <| aa ?_;show AR _ _ _ _ _ [0, 1] _;refine zR rfl (dX rfl (.inr ⟨_, rfl⟩)) <| za rfl <| ag <| af <| af <| aa ?_;show AR _ _ _ _ _ [0, 1, 2, 3] _;refine zS rfl (aB (n := 1) (by kernel_rfl) rfl (ab rfl)) <| zS rfl (aI ak rfl rfl) <| zS rfl (aP ak rfl) <| zS rfl (eh rfl rfl) <| ag <| aw rfl (fun c7 => ?_) (fun c7 => ?_)
 ·replace H := aZ c7 H;refine af <| aa ?_;show AR _ _ _ _ _ [0] _;refine za rfl <| ag <| aL ?_;obtain rfl := aj H;exact And.intro rfl (Exists.intro _ (Exists.intro _ ⟨aH rfl (.refl _), aD [] rfl, rfl, rfl⟩))
 ·replace H := ba c7 H;refine aE <| bB (X := Unit) (fun _ => ⟨[], [], []⟩) (fun _ => ez = some r6) ?_ ?_
  ·refine af <| aa ?_;show AR _ _ _ _ _ [0] _;refine za rfl <| ag <| bb <| AW.loop (X := Nat × Int) (fun (n10, y8) => ⟨[(1, .cp [i64 a1, slE Enc.str a2 none, i64 a3, i64 a4, i64 a5]), (3, i64 y8)], [], []⟩) (fun (n10, y8) => dH a2 n10 y8 = some r6) (fun (n10, y8) => n10) (F, 0) H (aW [] (.cons (.refl _) (.cons (.refl _) (.nil _))) rfl) ?_;rintro ⟨n10, y8⟩ H;obtain ⟨n10, rfl, H⟩ := dN H;replace H : dI a2 (dH a2 n10) y8 = some r6 := H
   unfold dI at H
   refine af <| af <| aa ?_;show AR _ _ _ _ _ [0, 1, 2, 3, 4] _;refine zm rfl <| zS rfl (aB (n := 1) (by kernel_rfl) rfl (ab rfl)) <| zS rfl (aI ak rfl rfl) <| zS rfl (aP ak rfl) <| zS rfl (bW rfl rfl) <| ag <| aw rfl (fun c11 => ?_) (fun c11 => ?_)
   ·replace H := aZ c11 H;refine aE <| af <| bb <| af ?_;obtain ⟨g12, H⟩ := aN H;obtain ⟨x13, e14, H⟩ := bK H;refine aa ?_;show AR _ _ _ _ _ [0, 1, 2, 3, 4, 5, 6] _;refine zS rfl (aB (n := 1) (by kernel_rfl) rfl (ab rfl)) <| zS rfl (aI ak rfl rfl) <| zm rfl <| zS rfl (bl (E := Enc.str) ak (by kernel_rfl) rfl rfl g12 e14) <| zS rfl (aI ai rfl rfl) <| zS rfl (bt ai rfl) <| zS rfl (eh rfl rfl) <| ag <| aw rfl (fun c15 => ?_) (fun c15 => ?_)
    ·replace H := aZ c15 H;refine af <| aa ?_;show AR _ _ _ _ _ [0] _;refine za rfl <| ag <| aL ?_;obtain rfl := aj H;exact And.intro rfl (Exists.intro _ (Exists.intro _ ⟨aH rfl (.refl _), aD [] rfl, rfl, rfl⟩))
    ·replace H := ba c15 H;refine aE ?_;obtain ⟨g16, H⟩ := aN H;refine aa ?_;show AR _ _ _ _ _ [0, 1, 2] _;refine zm rfl <| zS rfl (eY rfl rfl g16) <| za rfl <| ag ?_;exact Exists.intro (n10, y8 + 1) ⟨H, Nat.lt_succ_self _, aW [] (.cons (.refl _) (.cons (.refl _) (.nil _))) rfl⟩
   ·replace H := ba c11 H;refine cF ?_;exact Exists.intro () ⟨H, aW [] (.nil _) rfl⟩
  rintro _ H;replace H : ez = some r6 := H
  unfold ez at H
  refine af <| aa ?_;show AR _ _ _ _ _ [0] _;refine za rfl <| ag <| aL ?_;obtain rfl := aj H;exact And.intro rfl (Exists.intro _ (Exists.intro _ ⟨aH rfl (.refl _), aD [] rfl, rfl, rfl⟩))
end Go.Proofs.YtimpbfniegimaaaDoor
namespace Go.Pv
def ck (F : Nat) (a1 : List (Int × (List (List UInt8)) × Int × Int × Int)) (y33 : List UInt8) : Option Bool :=
jX (fE F y33) fun x36 x37 =>
bnd (eN F a1 x36) fun x39 =>
some ((decide (x37 = 0)) && x39)
def cm (F : Nat) (a1 : List (Int × (List (List UInt8)) × Int × Int × Int)) (rec12 : ((List UInt8) × Int) → Option Bool) (y9 : List UInt8) (y11 : Int) : Option Bool :=
bif decide (y11 < (a1.length : Int)) then
  grd (cf y11 a1.length) <|
  lt (at_ a1 y11) fun x16 =>
  bnd (fB F x16.1 x16.2.1 x16.2.2.1 x16.2.2.2.1 x16.2.2.2.2) fun x18 =>
  grd (cf y11 a1.length) <|
  lt (at_ a1 y11) fun x21 =>
  jX (fx F x21.1 x21.2.1 x21.2.2.1 x21.2.2.2.1 x21.2.2.2.2) fun x23 x24 =>
  bif (!x18) || (!decide (x24 = 0)) then
    some true
  else
    grd (eu (y9.length + x23.length)) <|
    lt (y9 ++ x23) fun x30 =>
    grd (okI (y11 + 1)) <|
    rec12 (x30, y11 + 1)
else
  ck F a1 y9
def cl (F : Nat) (a1 : List (Int × (List (List UInt8)) × Int × Int × Int)) (n : Nat) : ((List UInt8) × Int) → Option Bool :=
  loop (fun rec x => cm F a1 rec x.1 x.2) n
def cP (F : Nat) (a1 : List (Int × (List (List UInt8)) × Int × Int × Int)) : Option Bool :=
bnd (ef F) fun x4 =>
bif (!x4) || (decide (6 < (a1.length : Int))) then
  some x4
else
  cl F a1 F ([], 0)
end Go.Pv
namespace Go.Proofs.YtimpbfniegimaaaDoor
open Go.RowKit Go.Av Go.Pv
theorem jB : ∀ (args : Array Value) (w : World), (callFunc 8 args).run Tryd.prog w = .ok (.enter 8 args) w := fun _ _ => by kernel_rfl
theorem jg : ∀ (args : Array Value) (w : World), (callFunc 12 args).run Tryd.prog w = .ok (.enter 12 args) w := fun _ _ => by kernel_rfl
theorem jf : ∀ (args : Array Value) (w : World), (callFunc 15 args).run Tryd.prog w = .ok (.enter 15 args) w := fun _ _ => by kernel_rfl
theorem je : ∀ (args : Array Value) (w : World), (callFunc 16 args).run Tryd.prog w = .ok (.enter 16 args) w := fun _ _ => by kernel_rfl
theorem jd : ∀ (args : Array Value) (w : World), (callFunc 18 args).run Tryd.prog w = .ok (.enter 18 args) w := fun _ _ => by kernel_rfl
set_option maxRecDepth 100000 in
set_option maxHeartbeats 1000000 in
theorem gZ (F : Nat) (a1 : List (Int × (List (List UInt8)) × Int × Int × Int)) (q2 : Option Nat) (r3 : Bool) (H : cP F a1 = some r3) : ACalls Tryd.prog 6 [slE (Enc.prod Enc.int (Enc.prod (Enc.sl Enc.str) (Enc.prod Enc.int (Enc.prod Enc.int Enc.int)))) a1 q2] [] (Ret (B r3) []) := by
 unfold cP at H
 refine az Tryd.func6 rfl rfl ?_;show AW _ _ 62 _ _ _;refine af <| aa ?_;show AR _ _ _ _ _ [0] _;refine za rfl <| ag <| af ?_;obtain ⟨x4, e5, H⟩ := dA H;refine aa ?_;show AR _ _ _ _ _ [0, 1] _;refine bc rfl rfl (aM rfl jB rfl (kd F x4 e5) ?_);refine za rfl <| ag <| af <| af <| aa ?_;show AR _ _ _ _ _ [0, 1, 2, 3, 4, 5, 6] _;refine zm rfl <| zS rfl (dv rfl) <| zm rfl <| aF (l := []) 19 (B ((!x4) || (decide (6 < (a1.length : Int))))) (fun K => ?_) ?_
 ·rcases ac (!x4) with h6 | h6
  ·refine zF h6 rfl <| zF h6 rfl <| zF h6 rfl <| zS rfl (aq (av := .v _) rfl h6 rfl) ?_;exact K _ 3 _ (an (gc h6)) rfl rfl
  ·refine zU h6 rfl (ax (av := slE _ _ _) rfl) <| zU h6 rfl (aP aA rfl) <| zU h6 rfl (eh rfl rfl) <| zS rfl (ap (av := .v _) rfl h6 rfl) ?_;exact K _ 3 _ (an (gd h6)) rfl rfl
 refine ag <| aw rfl (fun c7 => ?_) (fun c7 => ?_)
 ·replace H := aZ c7 H;refine af <| aa ?_;show AR _ _ _ _ _ [0, 1] _;refine zm rfl <| za rfl <| ag <| aL ?_;obtain rfl := aj H;exact And.intro rfl (Exists.intro _ (Exists.intro _ ⟨aH rfl (.refl _), aD [] rfl, rfl, rfl⟩))
 ·replace H := ba c7 H;refine aE <| af <| aa ?_;show AR _ _ _ _ _ [0] _;refine za rfl <| ag ?_
  refine hU 4 1 5 rfl fun t8 => ?_
  show AW _ _ _ _ _ ⟨(4, slE Enc.byte [] (some t8)) :: _, _, _⟩;refine bB (X := (List UInt8) × Nat) (fun (y33, t34) => ⟨[(0, slE (Enc.prod Enc.int (Enc.prod (Enc.sl Enc.str) (Enc.prod Enc.int (Enc.prod Enc.int Enc.int)))) a1 q2), (4, slE Enc.byte y33 (some t34))], [], [.tok t34 5]⟩) (fun (y33, t34) => ck F a1 y33 = some r3) ?_ ?_
  ·refine af <| aa ?_;show AR _ _ _ _ _ [0] _;refine za rfl <| ag <| bb <| AW.loop (X := Nat × (List UInt8) × Nat × Int) (fun (n13, y9, t10, y11) => ⟨[(0, slE (Enc.prod Enc.int (Enc.prod (Enc.sl Enc.str) (Enc.prod Enc.int (Enc.prod Enc.int Enc.int)))) a1 q2), (4, slE Enc.byte y9 (some t10)), (5, i64 y11)], [], [.tok t10 5]⟩) (fun (n13, y9, t10, y11) => cl F a1 n13 (y9, y11) = some r3) (fun (n13, y9, t10, y11) => n13) (F, [], t8, 0) H (aW [0] (.cons (.refl _) (.cons (.refl _) (.cons (.refl _) (.nil _)))) rfl) ?_;rintro ⟨n13, y9, t10, y11⟩ H;obtain ⟨n13, rfl, H⟩ := dN H;replace H : cm F a1 (cl F a1 n13) y9 y11 = some r3 := H
   unfold cm at H
   refine af <| af <| aa ?_;show AR _ _ _ _ _ [0, 1, 2, 3] _;refine zm rfl <| zS rfl (ax (av := slE _ _ _) rfl) <| zS rfl (aP aA rfl) <| zS rfl (bW rfl rfl) <| ag <| aw rfl (fun c14 => ?_) (fun c14 => ?_)
   ·replace H := aZ c14 H;refine aE <| af <| bb <| af ?_;obtain ⟨g15, H⟩ := aN H;obtain ⟨x16, e17, H⟩ := bK H;obtain ⟨x18, e19, H⟩ := dA H;refine aa ?_;show AR _ _ _ _ _ [0, 1, 2, 3, 4, 5] _;refine zS rfl (ax (av := slE _ _ _) rfl) <| zm rfl <| zS rfl (bl (E := (Enc.prod Enc.int (Enc.prod (Enc.sl Enc.str) (Enc.prod Enc.int (Enc.prod Enc.int Enc.int))))) aA (by kernel_rfl) rfl rfl g15 e17) <| zS rfl (bn bu rfl (n := 5) (by kernel_rfl) rfl (ab rfl)) <| bc rfl rfl (aM rfl jf rfl (lA F x16.1 x16.2.1 x16.2.2.1 x16.2.2.2.1 x16.2.2.2.2 x18 e19) ?_);refine za rfl <| ag <| af ?_;obtain ⟨g20, H⟩ := aN H;obtain ⟨x21, e22, H⟩ := bK H;obtain ⟨x23, x24, e25, H⟩ := fw H;refine aa ?_;show AR _ _ _ _ _ [0, 1, 2, 3, 4, 5, 6, 7, 8, 9] _;refine zS rfl (ax (av := slE _ _ _) rfl) <| zm rfl <| zS rfl (bl (E := (Enc.prod Enc.int (Enc.prod (Enc.sl Enc.str) (Enc.prod Enc.int (Enc.prod Enc.int Enc.int))))) aA (by kernel_rfl) rfl rfl g20 e22) <| zS rfl (bn bu rfl (n := 5) (by kernel_rfl) rfl (ab rfl)) <| bc rfl rfl (aM rfl je rfl (lz F x21.1 x21.2.1 x21.2.2.1 x21.2.2.2.1 x21.2.2.2.2 x23 x24 e25) ?_)
    refine zS rfl (ax (av := .tup _) rfl) <| zS rfl (aG (av := slE _ _ _) rfl rfl) <| zS rfl (aG (av := .v _) rfl rfl) <| zS rfl (aK (av := slE _ _ _) rfl) <| za rfl <| ag <| af <| af <| aa ?_;show AR _ _ _ _ _ [0, 1, 2, 3, 4, 5] _;refine zm rfl <| zS rfl (dv rfl) <| zm rfl <| aF (l := []) 45 (B ((!x18) || (!decide (x24 = 0)))) (fun K => ?_) ?_
    ·rcases ac (!x18) with h26 | h26
     ·refine zF h26 rfl <| zF h26 rfl <| zS rfl (aq (av := .v _) rfl h26 rfl) ?_;exact K _ 2 _ (an (gc h26)) rfl rfl
     ·refine zM h26 rfl <| zU h26 rfl (fS rfl rfl) <| zS rfl (ap (av := .v _) rfl h26 rfl) ?_;exact K _ 2 _ (an (gd h26)) rfl rfl
    refine ag <| aw rfl (fun c27 => ?_) (fun c27 => ?_)
    ·replace H := aZ c27 H;refine af <| aa ?_;show AR _ _ _ _ _ [0] _;refine za rfl <| ag <| aL ?_;obtain rfl := aj H;exact And.intro rfl (Exists.intro _ (Exists.intro _ ⟨aH rfl (.refl _), aD [] rfl, rfl, rfl⟩))
    ·replace H := ba c27 H;refine aE ?_;obtain ⟨g29, H⟩ := aN H;obtain ⟨x30, e31, H⟩ := bK H;refine aa ?_;show AR _ _ _ _ _ [0, 1, 2, 3] _;refine zS rfl (ax (av := slE _ _ _) rfl) <| zS rfl (ax (av := slE _ _ _) rfl) <| zX rfl (ek (E := Enc.byte) (bytes := 1) 0 ah ah rfl (by kernel_rfl) rfl rfl rfl rfl g29 e31) ?_;rintro _ _ ⟨t28, rfl, rfl⟩;refine zS rfl (aK (av := slE _ _ _) rfl) <| ag ?_;obtain ⟨g32, H⟩ := aN H;refine aa ?_;show AR _ _ _ _ _ [0, 1, 2] _;refine zm rfl <| zS rfl (eY rfl rfl g32) <| za rfl <| ag ?_;exact Exists.intro (n13, x30, t28, y11 + 1) ⟨H, Nat.lt_succ_self _, aW [0] (.cons (.refl _) (.cons (.refl _) (.cons (.refl _) (.nil _)))) rfl⟩
   ·replace H := ba c14 H;refine cF ?_;exact Exists.intro (y9, t10) ⟨H, aW [0] (.cons (.refl _) (.cons (.refl _) (.nil _))) rfl⟩
  rintro ⟨y33, t34⟩ H;replace H : ck F a1 y33 = some r3 := H
  unfold ck at H
  refine af ?_;obtain ⟨x36, x37, e38, H⟩ := fw H;refine aa ?_;show AR _ _ _ _ _ [0, 1, 2, 3, 4, 5, 6] _;refine zS rfl (ax (av := slE _ _ _) rfl) <| bc rfl rfl (aM rfl jd rfl (jE F y33 (some t34) x36 x37 e38) ?_);refine zS rfl (ax (av := .tup _) rfl) <| zS rfl (aG (av := slE _ _ _) rfl rfl) <| zS rfl (aG (av := .v _) rfl rfl) <| zS rfl (aK (av := slE _ _ _) rfl) <| za rfl <| ag <| af ?_;obtain ⟨x39, e40, H⟩ := dA H;refine aa ?_;show AR _ _ _ _ _ [0, 1, 2, 3] _;refine zS rfl (ax (av := slE _ _ _) rfl) <| zS rfl (ax (av := slE _ _ _) rfl) <| bc rfl rfl (aM rfl jg rfl (kQ F a1 q2 x36 none x39 e40) ?_);refine za rfl <| ag <| af <| aa ?_;show AR _ _ _ _ _ [0, 1, 2, 3, 4, 5] _;refine zm rfl <| zS rfl (bx rfl rfl) <| zm rfl <| aF (l := [5]) 61 (B ((decide (x37 = 0)) && x39)) (fun K => ?_) ?_
  ·rcases ac (decide (x37 = 0)) with h41 | h41
   ·refine zM h41 rfl <| zS rfl (aq (av := .v _) rfl h41 rfl) ?_;exact K _ 1 _ (an (bH h41)) rfl rfl
   ·refine zF h41 rfl <| zS rfl (ap (av := .v _) rfl h41 rfl) ?_;exact K _ 1 _ (an (bI h41)) rfl rfl
  refine za rfl <| ag <| aL ?_;obtain rfl := aj H;exact And.intro rfl (Exists.intro _ (Exists.intro _ ⟨aH rfl (.refl _), aD [] rfl, rfl, rfl⟩))
end Go.Proofs.YtimpbfniegimaaaDoor
namespace Go.Dg
open Go.Pv Go.Av
open Go.Lib (decDigits)
abbrev Bs := List UInt8
theorem cX {n : Nat} (h : n < 10) : decDigits n = [UInt8.ofNat (48 + n)] := by rw [decDigits, dif_pos h]
theorem eA {n : Nat} (h : ¬ n < 10) : decDigits n = decDigits (n / 10) ++ [UInt8.ofNat (48 + n % 10)] := by rw [decDigits, dif_neg h]
theorem fa (n : Nat) : Go.Lib.itoa (n : Int) = decDigits n := by
  unfold Go.Lib.itoa
  rw [if_neg (by omega), Int.toNat_natCast]
theorem eF (k : Nat) (h : k < 10) : (UInt8.ofNat (48 + k)).toNat = 48 + k := by
  have : ∀ k : Fin 10, (UInt8.ofNat (48 + k.val)).toNat = 48 + k.val := by decide +kernel
  exact this ⟨k, h⟩
def Dig (c : UInt8) : Prop := 48 ≤ c.toNat ∧ c.toNat ≤ 57
theorem dd_dig : ∀ (m n : Nat), n < m → ∀ c ∈ decDigits n, Dig c := by
  intro m
  induction m with
  | zero => intro n h; omega
  | succ m ih =>
    intro n h c hc
    by_cases hn : n < 10
    · rw [cX hn] at hc
      rw [List.mem_singleton.1 hc]; unfold Dig; rw [eF n hn]; omega
    · rw [eA hn] at hc
      rcases List.mem_append.1 hc with hc | hc
      · exact ih (n / 10) (by omega) c hc
      · rw [List.mem_singleton.1 hc]; unfold Dig; rw [eF _ (by omega)]; omega
theorem iq (n : Nat) : ∀ c ∈ decDigits n, Dig c := dd_dig (n + 1) n (by omega)
theorem jV : ∀ (m n : Nat), n < 10 ^ m → (decDigits n).length ≤ m + 1 := by
  intro m
  induction m with
  | zero => intro n h; rw [cX (by omega)]; simp
  | succ m ih =>
    intro n h
    by_cases hn : n < 10
    · rw [cX hn]; simp
    · have h10 : n / 10 < 10 ^ m := by rw [Nat.pow_succ] at h; omega
      rw [eA hn, List.length_append]
      have := ih _ h10
      simp; omega
theorem jU (n : Nat) : 1 ≤ (decDigits n).length := by
  by_cases hn : n < 10
  · rw [cX hn]; simp
  · rw [eA hn]; simp
def val (v : Nat) : Bs → Nat
  | [] => v
  | c :: r => val (10 * v + (c.toNat - 48)) r
theorem mW : ∀ (a b : Bs) (v : Nat), val v (a ++ b) = val (val v a) b
  | [], b, v => rfl
  | c :: r, b, v => mW r b _
theorem val_dd : ∀ (m n : Nat), n < m → val 0 (decDigits n) = n := by
  intro m
  induction m with
  | zero => intro n h; omega
  | succ m ih =>
    intro n h
    by_cases hn : n < 10
    · rw [cX hn]; show 10 * 0 + ((UInt8.ofNat (48 + n)).toNat - 48) = n; rw [eF n hn]; omega
    · rw [eA hn, mW, ih (n / 10) (by omega)]
      show 10 * (n / 10) + ((UInt8.ofNat (48 + n % 10)).toNat - 48) = n
      rw [eF _ (by omega)]; omega
theorem lg (n : Nat) : val 0 (decDigits n) = n := val_dd (n + 1) n (by omega)
end Go.Dg
namespace Go.Dg
open Go.Pv Go.Av
open Go.Lib (decDigits)
theorem gr (x : Bool) : (true && x) = x := Eq.symm (Eq.symm rfl)
theorem gX (x : Bool) : (false && x) = false := Eq.symm (Eq.symm rfl)
theorem fo (x : Bool) : (false || x) = x := Eq.symm (Eq.symm rfl)
theorem nfl : (!false) = true := Eq.symm (Eq.symm rfl)
theorem ntr : (!true) = false := Eq.symm (Eq.symm rfl)
theorem cfl {α : Type} (a b : α) : (bif false then a else b) = b := Eq.symm (Eq.symm rfl)
theorem ctr {α : Type} (a b : α) : (bif true then a else b) = a := Eq.symm (Eq.symm rfl)
def Tot (o : Option (Int × Int)) : Prop := ∃ x k, o = some (x, k) ∧ (k = 0 ∨ k = 1 ∨ k = 2)
theorem Tot.z (x : Int) : Tot (some (x, 0)) := ⟨x, 0, rfl, .inl rfl⟩
theorem Tot.o (x : Int) : Tot (some (x, 1)) := ⟨x, 1, rfl, .inr (.inl rfl)⟩
theorem Tot.t (x : Int) : Tot (some (x, 2)) := ⟨x, 2, rfl, .inr (.inr rfl)⟩
theorem cZ {c : Bool} {a b : Option (Int × Int)} (ha : Tot a) (hb : Tot b) : Tot (bif c then a else b) := by cases c <;> assumption
theorem tot_bndc {c : Bool} {v : UInt8} {f : UInt8 → Option (Int × Int)} (h : ∀ x, Tot (f x)) : Tot (hZ c (some v) f) := by
  cases c
  · exact h _
  · exact h _
theorem j3_tot (y17 : Int) (y23 y24 : Int) (rec : (Bool × Int × Int) → Option (Int × Int)) (y43 : UInt8) (h : ∀ v, Tot (rec (false, v, y24 + 1))) (hb : -9223372036854775808 ≤ y24 + 1 ∧ y24 + 1 ≤ 9223372036854775807) :
    Tot (bZ 10 y17 false y23 y24 rec y43) := by
  unfold bZ ct
  refine cZ (.t _) (cZ (.o _) (cZ (.o _) ?_))
  rw [cr hb]
  exact h _
theorem ns (F : Nat) (s : Bs) (c : Int) (hs : s.length ≤ 1000) : ∀ (n i : Nat) (v : Int), s.length - i < n → i ≤ s.length → Tot (br F s 10 c n (false, v, (i : Int))) := by
  intro n
  induction n with
  | zero => intro i v h; omega
  | succ n ih =>
    intro i v hn hi;show Tot (cO F s 10 c (br F s 10 c n) false v (i : Int))
    unfold cO
    by_cases h : i < s.length
    · have e : ((i : Int) + 1) = ((i + 1 : Nat) : Int) := by omega
      have hr : ∀ v, Tot (br F s 10 c n (false, v, (i : Int) + 1)) := fun v => by rw [e]; exact ih (i + 1) v (by omega) (by omega)
      have h10 : decide ((10 : Int) = 0) = false := by decide
      rw [bT (by omega), bE (by omega), bh, h10, Bool.and_false, cfl]
      refine cZ (j3_tot _ _ _ _ _ hr (by omega)) ?_
      unfold cW
      rw [bz]
      refine tot_bndc fun x38 => cZ ?_ (.t _)
      rw [bz]
      exact j3_tot _ _ _ _ _ hr (by omega)
    · rw [bF (by omega)]
      unfold cN
      rw [mU, gX, cfl]
      exact .z _
theorem uint_tot (F : Nat) (s : Bs) (hs : s.length ≤ 1000) (hF : s.length < F) : Tot (dD F s 10 0) := by
  unfold dD
  refine cZ (.t _) ?_
  have h1 : ((decide ((2 : Int) ≤ 10)) && (decide ((10 : Int) ≤ 36))) = true := by decide
  rw [h1, lc]
  unfold cL cM
  rw [grd_D rfl, bT rfl]
  unfold bX
  have h2 : decide (0 ≤ IntKind.u64.wrap 64) = true := by decide +kernel
  rw [h2, lc, dc (by omega)]
  exact ns F s _ hs F 0 0 (by omega) (by omega)
theorem mF (b : Bool) (x : Int) : Tot (cu b x) := by
  unfold cu cw
  have h2 : decide (0 ≤ IntKind.u64.wrap 63) = true := by decide +kernel
  rw [h2, lc]
  exact cZ (.o _) (cZ (.o _) (cZ (.z _) (.z _)))
theorem gQ (F : Nat) (s : Bs) (b : Bool) (hs : s.length ≤ 1000) (hF : s.length < F) : Tot (bM F 10 0 s b) := by
  unfold bM
  obtain ⟨x, k, e, hk⟩ := uint_tot F s hs hF
  rw [e, ca]
  by_cases h2 : k = 2
  · subst h2
    have : ((!decide ((2 : Int) = 0)) && (!decide ((2 : Int) = 1))) = true := by decide
    rw [this, ctr]
    exact .t _
  · have : ((!decide (k = 0)) && (!decide (k = 1))) = false := by
      rcases hk with rfl | rfl | rfl
      · decide
      · decide
      · exact absurd rfl h2
    rw [this, cfl, grd_D rfl]
    exact mF _ _
theorem int_tot (F : Nat) (s : Bs) (hs : s.length ≤ 1000) (hF : s.length < F) : Tot (dE F s 10 0) := by
  unfold dE
  by_cases h : s = []
  · rw [bT h]; exact .t _
  · have hp : 0 < s.length := List.length_pos_iff.2 h
    have hf : (dh s 1).length ≤ s.length := by unfold dh; simp
    rw [bF h, bE (by omega), bh]
    refine cZ ?_ (cZ ?_ (gQ F s _ hs hF))
    · rw [fc (by omega), bh]; exact gQ F _ _ (by omega) (by omega)
    · rw [fc (by omega), bh]; exact gQ F _ _ (by omega) (by omega)
theorem gE (a s : Bs) (ha : a ≠ []) (hs : s.length ≤ 18) : ∀ (n i v : Nat), s.length - i < n → i ≤ s.length → v < 10 ^ i → Tot (cI a s n ((v : Int), (i : Int))) := by
  intro n
  induction n with
  | zero => intro i v h; omega
  | succ n ih =>
    intro i v hn hi hv;show Tot (cJ a s (cI a s n) (v : Int) (i : Int))
    unfold cJ
    have hv18 : v < 10 ^ 18 := Nat.lt_of_lt_of_le hv (Nat.pow_le_pow_right (by omega) (by omega))
    by_cases h : i < s.length
    · have hv17 : v < 10 ^ 17 := Nat.lt_of_lt_of_le hv (Nat.pow_le_pow_right (by omega) (by omega))
      rw [bT (by omega), bE (by omega), bh]
      obtain ⟨c, hc⟩ : ∃ c, c = at_ s (i : Int) := ⟨_, rfl⟩
      rw [← hc]
      by_cases h9 : 9 < (c - 48).toNat
      · rw [bT (by omega)]; exact .t _
      · have e1 : ((v : Int) * 10) + ((c - 48).toNat : Int) = ((v * 10 + (c - 48).toNat : Nat) : Int) := by omega
        have e2 : ((i : Int) + 1) = ((i + 1 : Nat) : Int) := by omega
        rw [bF (by omega), cr (by omega), cr (by omega), cr (by omega), e1, e2]
        refine ih (i + 1) _ (by omega) (by omega) ?_
        rw [Nat.pow_succ]; omega
    · rw [bF (by omega)]
      unfold de df
      have hp : 0 < a.length := List.length_pos_iff.2 ha
      rw [bE (by omega), bh]
      refine cZ ?_ (.z _)
      rw [cr (by omega)]; exact .z _
theorem atoi_tot (F : Nat) (s : Bs) (hs : s.length ≤ 1000) (hF : s.length < F) : Tot (eE F s) := by
  unfold eE dd dS
  by_cases h : 0 < s.length ∧ s.length < 19
  · have hc : ((decide (0 < (s.length : Int))) && (decide ((s.length : Int) < 19))) = true := by
      rw [decide_eq_true (by omega), decide_eq_true (by omega)]; rfl
    have hne : s ≠ [] := List.length_pos_iff.1 h.1
    have hf : (dh s 1).length ≤ s.length := by unfold dh; simp
    rw [hc, ctr, bE (by omega), bh]
    have hg : ∀ (c : Bool) (x : Option (Int × Int)), et c (cf 0 s.length) x = x := fun c x => js fun _ => by omega
    rw [hg, bh]
    refine cZ ?_ ?_
    · rw [fc (by omega), bh]
      refine cZ (.t _) ?_
      rw [dc (by omega)]
      exact gE s _ hne (by omega) F 0 0 (by omega) (by omega) (by omega)
    · rw [dc (by omega)]
      exact gE s _ hne (by omega) F 0 0 (by omega) (by omega) (by omega)
  · have hc : ((decide (0 < (s.length : Int))) && (decide ((s.length : Int) < 19))) = false := by
      by_cases h0 : 0 < s.length
      · rw [decide_eq_false (show ¬ ((s.length : Int) < 19) by omega), Bool.and_false]
      · rw [decide_eq_false (show ¬ (0 < (s.length : Int)) by omega)]; rfl
    rw [hc, cfl]
    obtain ⟨x, k, e, hk⟩ := int_tot F s hs hF
    rw [e, ca]
    exact ⟨x, k, rfl, hk⟩
theorem jQ (F : Nat) (s : Bs) (hs : s.length ≤ 1000) (hF : s.length < F) : ∃ x k, cb F s = some (x, k) := by
  unfold cb
  obtain ⟨x, k, e, hk⟩ := atoi_tot F s hs hF
  rw [e, ca]
  by_cases h0 : k = 0
  · subst h0; exact ⟨x, 0, by rw [decide_eq_true rfl, ntr, cfl]⟩
  · refine ⟨x, 1, ?_⟩
    rw [decide_eq_false h0, nfl, ctr, ld (by omega), grd_D (by omega)]
theorem ng (c : UInt8) (h : Dig c) : (c - 48).toNat = c.toNat - 48 := by
  have : ∀ k : Fin 256, (48 ≤ k.val ∧ k.val ≤ 57) → (UInt8.ofNat k.val - 48).toNat = k.val - 48 := by decide +kernel
  have h1 := this ⟨c.toNat, c.toNat_lt⟩ h
  simpa using h1
theorem og (a : Bs) (s : Bs) (hs : s.length ≤ 18) (hd : ∀ c ∈ s, Dig c) : ∀ (n i v : Nat), s.length - i < n → i ≤ s.length → v < 10 ^ i → cI a s n ((v : Int), (i : Int)) = de a ((val v (s.drop i) : Nat) : Int) := by
  intro n
  induction n with
  | zero => intro i v h; omega
  | succ n ih =>
    intro i v hn hi hv;show cJ a s (cI a s n) (v : Int) (i : Int) = _
    unfold cJ
    by_cases h : i < s.length
    · have hv17 : v < 10 ^ 17 := Nat.lt_of_lt_of_le hv (Nat.pow_le_pow_right (by omega) (by omega))
      have hdr : s.drop i = s[i] :: s.drop (i + 1) := aU h
      have hc := hd _ (List.getElem_mem h)
      have hsub := ng _ hc
      obtain ⟨hc1, hc2⟩ := hc
      rw [bT (by omega), bE (by omega), bh, dP h]
      have e1 : ((v : Int) * 10) + ((s[i] - 48).toNat : Int) = ((10 * v + (s[i].toNat - 48) : Nat) : Int) := by rw [hsub]; omega
      have e2 : ((i : Int) + 1) = ((i + 1 : Nat) : Int) := by omega
      rw [bF (by rw [hsub]; omega), cr (by omega), cr (by omega), cr (by omega), e1, e2, ih (i + 1) _ (by omega) (by omega) (by rw [Nat.pow_succ]; omega), hdr]
      rfl
    · rw [bF (by omega), aO (by omega)]; rfl
theorem ni (F : Nat) (n : Nat) (hn : n ≤ 1073741824) (hF : 100 < F) : cb F (decDigits n) = some ((n : Int), 0) := by
  have hl : (decDigits n).length ≤ 11 := jV 10 n (by omega)
  have hp := jU n
  have hd := iq n
  have h0 : at_ (decDigits n) 0 = (decDigits n)[0] := at_zero (by omega)
  have hd0 := hd _ (List.getElem_mem (show 0 < (decDigits n).length by omega))
  have n45 : (decDigits n)[0] ≠ 45 := fun e => by rw [e] at hd0; exact absurd hd0.1 (by decide)
  have n43 : (decDigits n)[0] ≠ 43 := fun e => by rw [e] at hd0; exact absurd hd0.1 (by decide)
  have hc : ((decide (0 < ((decDigits n).length : Int))) && (decide (((decDigits n).length : Int) < 19))) = true := by
    rw [decide_eq_true (by omega), decide_eq_true (by omega)]; rfl
  have hg : ∀ (c : Bool) (x : Option (Int × Int)), et c (cf 0 (decDigits n).length) x = x := fun c x => js fun _ => by omega
  have e : eE F (decDigits n) = some ((n : Int), 0) := by
    unfold eE dd
    rw [hc, ctr, bE (by omega), bh, hg, bh, h0, decide_eq_false n45, decide_eq_false n43, fo, cfl, dc (by omega)]
    have := og (decDigits n) (decDigits n) (by omega) hd F 0 0 (by omega) (by omega) (by omega)
    refine Eq.trans this ?_
    rw [List.drop_zero, lg]
    unfold de df
    rw [bE (by omega), bh, h0, decide_eq_false n45, cfl]
  unfold cb
  rw [e, ca, decide_eq_true rfl, ntr, cfl]
end Go.Dg
namespace Go.Rp
open Go.Pv Go.Av
abbrev Bs := List UInt8
theorem kW {c : UInt8} {s : Bs} (h : ∀ b ∈ s, b ≠ c) : Go.Lib.indexByte s c = -1 := by
  induction s with
  | nil => rfl
  | cons b r ih =>
    have h1 : (b == c) = false := by simpa using h b (by simp)
    have h2 := ih fun x hx => h x (by simp [hx])
    unfold Go.Lib.indexByte
    rw [h1, h2]; rfl
theorem toB_nat (n : Int) (c : Nat) (h : n = c) : toB n = UInt8.ofNat c := by
  subst h
  unfold toB
  apply UInt8.toNat.inj
  rw [UInt8.toNat_ofNat', UInt8.toNat_ofNat']
  omega
theorem decR_pos (s : Bs) (p : Nat) : 1 ≤ (gw s p).2 := by
  unfold gw Utf8.decode
  simp only
  repeat' split
  all_goals simp
theorem lD (n : Int) : (da n).length ≤ 4 := by
  unfold da Utf8.encode
  simp only
  repeat' split
  all_goals simp
theorem lC (n : Int) (h : 128 ≤ n) : 2 ≤ (da n).length ∧ ((da n).length = 2 → ¬ (10 : UInt8) = at_ (da n) 1) := by
  have hc : ¬ (if Utf8.valid n = true then n.toNat else Utf8.runeError) < 128 := by
    split
    · omega
    · decide
  unfold da Utf8.encode
  simp only
  generalize (if Utf8.valid n = true then n.toNat else Utf8.runeError) = c at hc ⊢
  rw [if_neg hc]
  by_cases h2 : c < 2048
  · rw [if_pos h2]
    refine ⟨by simp, fun _ => ?_⟩;show ¬ (10 : UInt8) = UInt8.ofNat (128 + c % 64);intro e
    have := congrArg UInt8.toNat e
    rw [UInt8.toNat_ofNat'] at this
    have e10 : (10 : UInt8).toNat = 10 := rfl
    omega
  · rw [if_neg h2]
    split <;> simp
theorem lO (s : Bs) (c : UInt8) : -1 ≤ Go.Lib.indexByte s c ∧ Go.Lib.indexByte s c < s.length := by
  induction s with
  | nil => simp [Go.Lib.indexByte]
  | cons b r ih =>
    unfold Go.Lib.indexByte
    split
    · first | (simp; done) | (simp; omega)
    · split
      · first | (simp; done) | (simp; omega)
      · rename_i h
        have h' : ¬ Go.Lib.indexByte r c = -1 := by simpa using h
        simp; omega
theorem jH (s cs : Bs) : -1 ≤ Go.Lib.indexAny s cs ∧ Go.Lib.indexAny s cs < s.length := by
  induction s with
  | nil => simp [Go.Lib.indexAny]
  | cons b r ih =>
    unfold Go.Lib.indexAny
    split
    · first | (simp; done) | (simp; omega)
    · split
      · first | (simp; done) | (simp; omega)
      · rename_i h
        have h' : ¬ Go.Lib.indexAny r cs = -1 := by simpa using h
        simp; omega
theorem getD_at (s : Bs) (k : Nat) (h : k < s.length) : (⟨s.toArray⟩ : ByteArray).get! k = s[k] := by
  show (s.toArray)[k]! = _
  simp [h]
theorem oc (s : Bs) (p m : Nat) (hm : 0 < m) (hk : m < (gw s p).2) : ∃ h : p + m < s.length, 128 ≤ (s[p + m]).toNat := by
  have key : ∀ k, (decide (p + k < (⟨s.toArray⟩ : ByteArray).size) && ((⟨s.toArray⟩ : ByteArray).get! (p + k)).toNat / 64 == 2) = true → ∃ h : p + k < s.length, 128 ≤ (s[p + k]).toNat := by
    intro k hk
    simp only [Bool.and_eq_true, decide_eq_true_eq, beq_iff_eq] at hk
    obtain ⟨h1, h2⟩ := hk
    have h1' : p + k < s.length := h1
    rw [getD_at s (p + k) h1'] at h2
    exact ⟨h1', by omega⟩
  unfold gw Utf8.decode at hk
  simp only at hk
  split at hk
  · simp at hk; omega
  · split at hk
    · rename_i h2
      simp only [Bool.and_eq_true] at h2
      split at hk
      · have : m = 1 := by simp at hk; omega
        subst this;exact key 1 (by simpa using h2.2)
      · simp at hk; omega
    · split at hk
      · rename_i h2
        simp only [Bool.and_eq_true] at h2
        split at hk
        · have : m = 1 ∨ m = 2 := by simp at hk; omega
          rcases this with rfl | rfl
          · exact key 1 (by simpa using h2.1.2)
          · exact key 2 (by simpa using h2.2)
        · simp at hk; omega
      · split at hk
        · rename_i h2
          simp only [Bool.and_eq_true] at h2
          split at hk
          · have : m = 1 ∨ m = 2 ∨ m = 3 := by simp at hk; omega
            rcases this with rfl | rfl | rfl
            · exact key 1 (by simpa using h2.1.1.2)
            · exact key 2 (by simpa using h2.1.2)
            · exact key 3 (by simpa using h2.2)
          · simp at hk; omega
        · simp at hk; omega
theorem decR_low (s : Bs) (p : Nat) (h : p < s.length) (hb : (s[p]).toNat < 128) : gw s p = ((s[p]).toNat, 1) := decode_ascii (⟨s.toArray⟩ : ByteArray) p h hb
theorem od (s : Bs) (p : Nat) (h : p < s.length) (hb : 128 ≤ (s[p]).toNat) : 128 ≤ (gw s p).1 := (decode_high (⟨s.toArray⟩ : ByteArray) p h hb).1
theorem mG (F : Nat) (hF : 5 ≤ F) (r : Int) (hr : 128 ≤ r) : fm F [13, 10] r = some (-1) := by
  obtain ⟨k1, k2⟩ := lC r hr
  have k3 := lD r
  unfold fm
  have hf : ((decide (0 ≤ r)) && (decide (r < 128))) = false := by rw [decide_eq_false (by omega : ¬ r < 128), Bool.and_false]
  rw [hf, cond_false]
  by_cases h2 : r = 65533
  · rw [bT h2]
    obtain ⟨m, rfl⟩ : ∃ m, F = m + 3 := ⟨F - 3, by omega⟩
    have e0 : gw [13, 10] 0 = (13, 1) := by decide +kernel
    have e1 : gw [13, 10] 1 = (10, 1) := by decide +kernel
    show dt [13, 10] (eQ [13, 10] (m + 2)) 0 = _
    unfold dt
    simp only [e0]
    show dt [13, 10] (eQ [13, 10] (m + 1)) 1 = _
    unfold dt
    simp only [e1]
    rfl
  · rw [bF h2]
    have hv : ∃ b, fD F r = some b := by
      unfold fD
      cases (decide (0 ≤ r)) && (decide (r < 55296)) with
      | true => exact ⟨true, rfl⟩
      | false =>
        rw [cond_false]
        cases (decide (57343 < r)) && (decide (r ≤ 1114111)) with
        | true => exact ⟨true, rfl⟩
        | false => exact ⟨false, rfl⟩
    obtain ⟨b, hb⟩ := hv
    rw [hb, bz]
    cases b with
    | false => rfl
    | true =>
      obtain ⟨m, rfl⟩ : ∃ m, F = m + 1 := ⟨F - 1, by omega⟩
      simp (disch := omega) only [Bool.not_true, cond_false, bh, cr]
      show eR [13, 10] (da r) (fL [13, 10] (da r) m) = _
      unfold eR eP
      by_cases h3 : (da r).length = 2
      · have e1 : ((da r).length : Int) - 1 = 1 := by omega
        have e2 : at_ ([13, 10] : Bs) 1 = 10 := rfl
        have e3 : dh ([13, 10] : Bs) (1 + 1) = [] := rfl
        rw [e1]
        simp (disch := (first | omega | (simp; done) | (simp; omega))) only [bT, bE, bh, e2, decide_eq_false (k2 h3), Bool.not_false, lc, cr, fc, e3]
        rfl
      · have : ¬ ((da r).length : Int) - 1 < (([13, 10] : Bs).length : Int) := by simp; omega
        rw [bF this]
def nxt (s : Bs) (y : Nat) : Int := if Go.Lib.indexAny (s.drop y) [13, 10] = -1 then -1 else (y : Int) + Go.Lib.indexAny (s.drop y) [13, 10]
theorem mf (s : Bs) (y : Nat) (h : y < s.length) (hc : ([13, 10] : Bs).contains s[y] = false) : nxt s (y + 1) = nxt s y := by
  unfold nxt
  rw [aU h]
  simp only [Go.Lib.indexAny, hc]
  have := (jH (s.drop (y + 1)) [13, 10]).1
  by_cases e : Go.Lib.indexAny (s.drop (y + 1)) [13, 10] = -1
  · simp [e]
  · have e2 : (Go.Lib.indexAny (s.drop (y + 1)) [13, 10] == -1) = false := by simpa using e
    have e3 : ¬ Go.Lib.indexAny (s.drop (y + 1)) [13, 10] + 1 = -1 := by omega
    simp [e, e2, e3]; omega
theorem nxt_hi (s : Bs) (y : Nat) (h : y < s.length) (hb : 128 ≤ (s[y]).toNat) : nxt s (y + 1) = nxt s y := by
  refine mf s y h ?_
  have h1 : s[y] ≠ 13 := by intro e; rw [e] at hb; revert hb; decide
  have h2 : s[y] ≠ 10 := by intro e; rw [e] at hb; revert hb; decide
  simp [h1, h2]
theorem nxt_skip (s : Bs) (y : Nat) : ∀ k, (∀ m, m < k → ∃ h : y + m < s.length, 128 ≤ (s[y + m]).toNat) → nxt s (y + k) = nxt s y := by
  intro k
  induction k with
  | zero => intro _; rfl
  | succ k ih =>
    intro h;obtain ⟨h1, h2⟩ := h k (by omega)
    rw [show y + (k + 1) = y + k + 1 by omega, nxt_hi s (y + k) h1 h2]
    exact ih (fun m hm => h m (by omega))
theorem mH (F : Nat) (hF : 5 ≤ F) (s : Bs) : ∀ (n y : Nat), s.length - y < n → eV F s [13, 10] n y = some (nxt s y) := by
  intro n
  induction n with
  | zero => intro y h; omega
  | succ n ih =>
    intro y hy;show eW F s [13, 10] (eV F s [13, 10] n) y = _
    unfold eW eT
    by_cases h : y < s.length
    · rw [bT h]
      by_cases hb : (s[y]).toNat < 128
      · rw [decR_low s y h hb]
        have hi : fm F [13, 10] ((s[y]).toNat : Int) = some (Go.Lib.indexByte [13, 10] s[y]) := by
          unfold fm
          have e : ((decide ((0 : Int) ≤ ((s[y]).toNat : Int))) && (decide (((s[y]).toNat : Int) < 128))) = true := by
            rw [decide_eq_true (by omega : (0 : Int) ≤ ((s[y]).toNat : Int)), decide_eq_true (by omega : ((s[y]).toNat : Int) < 128)]; rfl
          rw [e, cond_true, bh, toB_nat _ (s[y]).toNat rfl, UInt8.ofNat_toNat]
        simp only [hi, bz]
        by_cases hc : ([13, 10] : Bs).contains s[y] = true
        · have h0 : 0 ≤ Go.Lib.indexByte [13, 10] s[y] := by
            have : s[y] = 13 ∨ s[y] = 10 := by simpa using hc
            rcases this with e | e <;> rw [e] <;> decide
          rw [bT h0]
          unfold nxt
          rw [aU h]
          simp only [Go.Lib.indexAny, hc, if_true]
          simp
        · have hc' : ([13, 10] : Bs).contains s[y] = false := by simpa using hc
          have h0 : ¬ 0 ≤ Go.Lib.indexByte [13, 10] s[y] := by
            have hne : ¬ s[y] = 13 ∧ ¬ s[y] = 10 := by simpa using hc'
            have := kW (c := s[y]) (s := [13, 10]) (fun b hb e => by
              simp at hb
              rcases hb with rfl | rfl
              · exact hne.1 e.symm
              · exact hne.2 e.symm)
            omega
          rw [bF h0, ih (y + 1) (by omega), mf s y h hc']
      · have hh := od s y h (by omega)
        have hp := decR_pos s y
        rw [mG F hF _ (by omega), bz, bF (by omega), ih _ (by omega)]
        rw [nxt_skip s y (gw s y).2 (fun m hm => by
          cases m with
          | zero => exact ⟨h, by simpa using hb⟩
          | succ m => exact oc s y (m + 1) (by omega) hm)]
    · rw [bF h]
      unfold nxt
      rw [aO (by omega)]
      rfl
theorem nE (F : Nat) (s : Bs) (hF : 20 ≤ F) : jR F s [13, 10] = some (Go.Lib.indexAny s [13, 10]) := by
  unfold jR
  by_cases h : 8 < s.length
  · simp [h]
  · have e : ((decide (8 < s.length)) && (decide (2 ≤ ([13, 10] : Bs).length))) = false := by simp [h]
    rw [e, cond_false]
    unfold jr ln eS
    have e3 : decide ((8 : Int) < (s.length : Int)) = false := decide_eq_false (by omega)
    simp (disch := (first | omega | (simp; done) | (simp; omega))) only [bF, bz, e3, Bool.not_false, lc]
    rw [mH F (by omega) s F 0 (by omega)]
    unfold nxt
    rw [List.drop_zero]
    split
    · rename_i e; rw [e]
    · simp
def iY (b : UInt8) : Bool := decide (b = 13) || decide (b = 10)
theorem iJ : ∀ s : Bs, decide (0 ≤ Go.Lib.indexAny s [13, 10]) = s.any iY
  | [] => rfl
  | b :: r => by
    have ih := iJ r
    have hr := (jH r [13, 10]).1
    unfold Go.Lib.indexAny
    rw [List.any_cons, ← ih]
    have e : ([13, 10] : Bs).contains b = iY b := by
      unfold iY
      rw [List.contains_cons, List.contains_cons, List.contains_nil, Bool.or_false]
      by_cases h : b = 13
      · subst h; rfl
      · by_cases g : b = 10
        · subst g; rfl
        · rw [decide_eq_false h, decide_eq_false g]
          have h1 : (b == 13) = false := by simpa using h
          have g1 : (b == 10) = false := by simpa using g
          rw [h1, g1]
    rw [e]
    cases iY b with
    | true => rfl
    | false =>
      by_cases h : Go.Lib.indexAny r [13, 10] = -1
      · rw [h]; rfl
      · have h2 : (Go.Lib.indexAny r [13, 10] == -1) = false := by simpa using h
        rw [h2]
        simp only [if_false, Bool.false_or, Bool.false_eq_true]
        rw [decide_eq_true (by omega), decide_eq_true (by omega)]
theorem lU (F : Nat) (s : Bs) (hs : s.length ≤ 1000) (hF : 20 ≤ F) : eg F s [13, 10] = some (s.any iY) := by
  unfold eg
  have e3 : lw [13, 10] = true := by decide
  rw [e3, lc, ld (by omega), ld (by decide), nE F s hF, bz, iJ]
end Go.Rp
namespace Go.Rp
open Go.Pv Go.Av
open Go.Lib (decDigits)
open Go.Dg (val cX eA iq jU jV lg Dig ng eF fa jQ ni cfl ctr gr gX fo nfl ntr)
def dgB (c : UInt8) : Bool := decide (48 ≤ c.toNat) && decide (c.toNat ≤ 57)
theorem lf {c : UInt8} (h : dgB c = true) : Dig c := by
  unfold dgB at h
  show 48 ≤ c.toNat ∧ c.toNat ≤ 57
  simpa using h
theorem dgB_of {c : UInt8} (h : Dig c) : dgB c = true := by
  unfold dgB
  rw [decide_eq_true h.1, decide_eq_true h.2]; rfl
def okN (s : Bs) : Bool := ((decide (1 ≤ s.length) && decide (s.length ≤ 3)) && s.all dgB) && !(decide (s.head? = some 48) && decide (1 < s.length))
def fj (s : Bs) : Option Nat := if okN s = true then some (val 0 s) else none
theorem fF (c : UInt8) (h : Dig c) (n : Nat) (hn : n = c.toNat - 48) : UInt8.ofNat (48 + n) = c := by
  obtain ⟨h1, h2⟩ := h;subst hn
  rw [show 48 + (c.toNat - 48) = c.toNat by omega, UInt8.ofNat_toNat]
theorem dd2 {n : Nat} (h : 10 ≤ n) (h2 : n < 100) : decDigits n = [UInt8.ofNat (48 + n / 10), UInt8.ofNat (48 + n % 10)] := by
  rw [eA (by omega), cX (by omega)]; rfl
theorem dd3 {n : Nat} (h : 100 ≤ n) (h2 : n < 1000) : decDigits n = [UInt8.ofNat (48 + n / 10 / 10), UInt8.ofNat (48 + n / 10 % 10), UInt8.ofNat (48 + n % 10)] := by
  rw [eA (by omega), dd2 (by omega) (by omega)]; rfl
theorem dd_lt {n : Nat} (h : (decDigits n).length ≤ 3) : n < 1000 := by
  by_cases h1 : n < 1000
  · exact h1
  · rw [eA (by omega), eA (n := n / 10) (by omega), eA (n := n / 10 / 10) (by omega)] at h
    have := jU (n / 10 / 10 / 10)
    simp only [List.length_append, List.length_cons, List.length_nil] at h
    omega
theorem num_dd {s : Bs} {n : Nat} (h : fj s = some n) : s = decDigits n ∧ n < 1000 := by
  unfold fj at h
  by_cases hk : okN s = true
  · rw [if_pos hk] at h
    have hn : val 0 s = n := aj h
    unfold okN at hk
    simp only [Bool.and_eq_true, decide_eq_true_eq, Bool.not_eq_true', Bool.and_eq_false_iff, decide_eq_false_iff_not] at hk
    obtain ⟨⟨⟨h1, h2⟩, h3⟩, h4⟩ := hk
    match s, h1, h2, h3, h4, hn with
    | [a], _, _, h3, h4, hn =>
      have ha := lf (List.all_eq_true.1 h3 a (by simp))
      have hv : val 0 [a] = a.toNat - 48 := by show 10 * 0 + (a.toNat - 48) = _; omega
      have ha' := ha; obtain ⟨ha1, ha2⟩ := ha'
      refine ⟨?_, by omega⟩
      rw [← hn, hv, cX (by omega), fF a ha _ rfl]
    | [a, b], _, _, h3, h4, hn =>
      have ha := lf (List.all_eq_true.1 h3 a (by simp))
      have hb := lf (List.all_eq_true.1 h3 b (by simp))
      have hv : val 0 [a, b] = 10 * (a.toNat - 48) + (b.toNat - 48) := by show 10 * (10 * 0 + (a.toNat - 48)) + (b.toNat - 48) = _; omega
      have ha' := ha; obtain ⟨ha1, ha2⟩ := ha'
      have hb' := hb; obtain ⟨hb1, hb2⟩ := hb'
      have hne : a.toNat ≠ 48 := by
        intro e
        have : a = 48 := UInt8.toNat.inj e
        rcases h4 with h4 | h4
        · exact h4 (by rw [this]; rfl)
        · exact h4 (by simp)
      refine ⟨?_, by omega⟩
      rw [← hn, hv, dd2 (by omega) (by omega), fF a ha _ (by omega), fF b hb _ (by omega)]
    | [a, b, c], _, _, h3, h4, hn =>
      have ha := lf (List.all_eq_true.1 h3 a (by simp))
      have hb := lf (List.all_eq_true.1 h3 b (by simp))
      have hc := lf (List.all_eq_true.1 h3 c (by simp))
      have hv : val 0 [a, b, c] = 100 * (a.toNat - 48) + 10 * (b.toNat - 48) + (c.toNat - 48) := by show 10 * (10 * (10 * 0 + (a.toNat - 48)) + (b.toNat - 48)) + (c.toNat - 48) = _; omega
      have ha' := ha; obtain ⟨ha1, ha2⟩ := ha'
      have hb' := hb; obtain ⟨hb1, hb2⟩ := hb'
      have hc' := hc; obtain ⟨hc1, hc2⟩ := hc'
      have hne : a.toNat ≠ 48 := by
        intro e
        have : a = 48 := UInt8.toNat.inj e
        rcases h4 with h4 | h4
        · exact h4 (by rw [this]; rfl)
        · exact h4 (by simp)
      refine ⟨?_, by omega⟩
      rw [← hn, hv, dd3 (by omega) (by omega), fF a ha _ (by omega), fF b hb _ (by omega), fF c hc _ (by omega)]
    | [], h1, _, _, _, _ => simp at h1
    | a :: b :: c :: d :: r, _, h2, _, _, _ => simp at h2
  · rw [if_neg hk] at h; cases h
theorem dd_head {n : Nat} (h : n < 1000) : ¬ ((decDigits n).head? = some 48 ∧ 1 < (decDigits n).length) := by
  rintro ⟨h1, h2⟩
  by_cases h10 : n < 10
  · rw [cX h10] at h2; simp at h2
  · have key : ∀ k, k < 10 → 1 ≤ k → UInt8.ofNat (48 + k) ≠ 48 := by
      intro k hk h1 e
      have := congrArg UInt8.toNat e
      rw [eF k hk] at this
      have e48 : (48 : UInt8).toNat = 48 := rfl
      omega
    by_cases h100 : n < 100
    · rw [dd2 (by omega) h100] at h1
      exact key (n / 10) (by omega) (by omega) (aj h1)
    · rw [dd3 (by omega) h] at h1
      exact key (n / 10 / 10) (by omega) (by omega) (aj h1)
theorem dd_num {n : Nat} (h : n < 1000) : fj (decDigits n) = some n := by
  have h3 : (decDigits n).length ≤ 3 := by
    by_cases h10 : n < 10
    · rw [cX h10]; simp
    · by_cases h100 : n < 100
      · rw [dd2 (by omega) h100]; simp
      · rw [dd3 (by omega) h]; simp
  have hk : okN (decDigits n) = true := by
    unfold okN
    rw [decide_eq_true (jU n), decide_eq_true h3, List.all_eq_true.2 fun c hc => dgB_of (iq n c hc)]
    have := dd_head h
    by_cases g : (decDigits n).head? = some 48
    · rw [decide_eq_false (p := 1 < (decDigits n).length) fun q => this ⟨g, q⟩, Bool.and_false]; rfl
    · rw [decide_eq_false g]; rfl
  unfold fj
  rw [if_pos hk, lg]
def kb (o : Option (Int × Int)) : Prop := ∃ x k, o = some (x, k) ∧ -9223372036854775808 ≤ x ∧ x ≤ 9223372036854775807
theorem iw {c : Bool} {a b : Option (Int × Int)} (ha : kb a) (hb : kb b) : kb (bif c then a else b) := by cases c <;> assumption
theorem iR (a s : Bs) (ha : a ≠ []) (hs : s.length ≤ 18) : ∀ (n i v : Nat), s.length - i < n → i ≤ s.length → v < 10 ^ i → kb (cI a s n ((v : Int), (i : Int))) := by
  intro n
  induction n with
  | zero => intro i v h; omega
  | succ n ih =>
    intro i v hn hi hv;show kb (cJ a s (cI a s n) (v : Int) (i : Int))
    unfold cJ
    have hv18 : v < 10 ^ 18 := Nat.lt_of_lt_of_le hv (Nat.pow_le_pow_right (by omega) (by omega))
    by_cases h : i < s.length
    · have hv17 : v < 10 ^ 17 := Nat.lt_of_lt_of_le hv (Nat.pow_le_pow_right (by omega) (by omega))
      rw [bT (by omega), bE (by omega), bh]
      obtain ⟨c, hc⟩ : ∃ c, c = at_ s (i : Int) := ⟨_, rfl⟩
      rw [← hc]
      by_cases h9 : 9 < (c - 48).toNat
      · rw [bT (by omega)]; exact ⟨0, 2, rfl, by omega, by omega⟩
      · have e1 : ((v : Int) * 10) + ((c - 48).toNat : Int) = ((v * 10 + (c - 48).toNat : Nat) : Int) := by omega
        have e2 : ((i : Int) + 1) = ((i + 1 : Nat) : Int) := by omega
        rw [bF (by omega), cr (by omega), cr (by omega), cr (by omega), e1, e2]
        refine ih (i + 1) _ (by omega) (by omega) ?_
        rw [Nat.pow_succ]; omega
    · rw [bF (by omega)]
      unfold de df
      have hp : 0 < a.length := List.length_pos_iff.2 ha
      rw [bE (by omega), bh]
      refine iw ?_ ⟨_, 0, rfl, by omega, by omega⟩
      rw [cr (by omega)]; exact ⟨_, 0, rfl, by omega, by omega⟩
theorem atoi_b (F : Nat) (s : Bs) (hs : s.length ≤ 3) (hF : 10 < F) : kb (cb F s) := by
  have key : kb (eE F s) := by
    unfold eE dd dS
    by_cases h : 0 < s.length
    · have hc : ((decide (0 < (s.length : Int))) && (decide ((s.length : Int) < 19))) = true := by
        rw [decide_eq_true (by omega), decide_eq_true (by omega)]; rfl
      have hne : s ≠ [] := List.length_pos_iff.1 h
      have hf : (dh s 1).length ≤ s.length := by unfold dh; simp
      rw [hc, ctr, bE (by omega), bh]
      have hg : ∀ (c : Bool) (x : Option (Int × Int)), et c (cf 0 s.length) x = x := fun c x => js fun _ => by omega
      rw [hg, bh]
      refine iw ?_ ?_
      · rw [fc (by omega), bh]
        refine iw ⟨0, 2, rfl, by omega, by omega⟩ ?_
        rw [dc (by omega)]
        exact iR s _ hne (by omega) F 0 0 (by omega) (by omega) (by omega)
      · rw [dc (by omega)]
        exact iR s _ hne (by omega) F 0 0 (by omega) (by omega) (by omega)
    · have e : s = [] := List.eq_nil_of_length_eq_zero (by omega)
      subst e;exact ⟨0, 2, rfl, by omega, by omega⟩
  obtain ⟨x, k, e, h1, h2⟩ := key;obtain ⟨x2, k2, e2⟩ := jQ F s (by omega) (by omega);refine ⟨x2, k2, e2, ?_⟩
  unfold cb at e2
  rw [e, ca] at e2
  have : x2 = x := by
    by_cases h0 : k = 0
    · subst h0; rw [decide_eq_true rfl, ntr, cfl] at e2; cases e2; rfl
    · rw [decide_eq_false h0, nfl, ctr] at e2
      obtain ⟨_, e2⟩ := aN e2;obtain ⟨_, e2⟩ := aN e2
      cases e2; rfl
  rw [this]; exact ⟨h1, h2⟩
theorem gh (F : Nat) (s : Bs) (hs : s.length ≤ 1000) (hF : 2000 < F) : ∃ x : Int, dT F s = some (x, (fj s).isSome) ∧ ∀ n, fj s = some n → x = n := by
  obtain ⟨x, k, e⟩ := jQ F s hs (by omega)
  have hdd : ∀ n, fj s = some n → x = (n : Int) ∧ k = 0 ∧ s.length ≤ 3 ∧ s = decDigits n := by
    intro n hn;obtain ⟨h1, h2⟩ := num_dd hn
    have h3 : s.length ≤ 3 := by
      unfold fj at hn
      by_cases hk : okN s = true
      · unfold okN at hk
        simp only [Bool.and_eq_true, decide_eq_true_eq] at hk
        exact hk.1.1.2
      · rw [if_neg hk] at hn; cases hn
    have := ni F n (by omega) (by omega)
    rw [← h1, e] at this
    cases this
    exact ⟨rfl, rfl, h3, h1⟩
  unfold dT
  rw [e, ca]
  by_cases hc : k = 0 ∧ s.length ≤ 3
  · obtain ⟨rfl, h3⟩ := hc
    obtain ⟨x', k', e', hb⟩ := atoi_b F s h3 (by omega)
    rw [e] at e'; cases e'
    have hcc : ((decide ((0 : Int) = 0)) && (decide ((s.length : Int) ≤ 3))) = true := by
      rw [decide_eq_true (by omega : (s.length : Int) ≤ 3)]; rfl
    rw [hcc, mQ, cr hb, bh]
    refine ⟨x, ?_, fun n hn => (hdd n hn).1⟩
    congr 2
    cases hn : fj s with
    | some n =>
      obtain ⟨h1, _, _, h4⟩ := hdd n hn
      rw [h1, fa, decide_eq_true h4.symm, decide_eq_true (Int.natCast_nonneg n)]; rfl
    | none =>
      by_cases h0 : 0 ≤ x
      · have h1 : ¬ Go.Lib.itoa x = s := by
          intro g
          have e2 : x = ((x.toNat : Nat) : Int) := by omega
          rw [e2, fa] at g
          rw [← g, dd_num (dd_lt (by rw [g]; exact h3))] at hn
          cases hn
        rw [decide_eq_false h1]; rfl
      · rw [decide_eq_false h0, Bool.and_false]; rfl
  · have hcc : ((decide (k = 0)) && (decide ((s.length : Int) ≤ 3))) = false := by
      by_cases h0 : k = 0
      · rw [decide_eq_false (p := (s.length : Int) ≤ 3) (by omega), Bool.and_false]
      · rw [decide_eq_false h0]; rfl
    rw [hcc, jS, bh]
    refine ⟨x, ?_, fun n hn => (hdd n hn).1⟩
    congr 2
    cases hn : fj s with
    | some n => obtain ⟨_, h2, h3, _⟩ := hdd n hn; exact absurd ⟨h2, h3⟩ hc
    | none => rfl
end Go.Rp
namespace Go.Rp
open Go.Pv Go.Av
def sp (c : UInt8) : Bs → List Bs
  | [] => [[]]
  | b :: r => if b = c then [] :: sp c r else match sp c r with
    | [] => [[b]]
    | p :: ps => (b :: p) :: ps
theorem sp_ne (c : UInt8) (s : Bs) : sp c s ≠ [] := by
  cases s with
  | nil => simp [sp]
  | cons b r => unfold sp; split; simp; split <;> simp
theorem eH (b c : UInt8) (l : Bs) : Go.Lib.index (b :: l) [c] = if b = c then 0 else if Go.Lib.index l [c] = -1 then -1 else Go.Lib.index l [c] + 1 := by
  by_cases h : b = c
  · subst h; simp [Go.Lib.index]
  · simp [Go.Lib.index, h, Ne.symm h]
def prep (cur : Bs) : List Bs → List Bs
  | [] => [cur]
  | p :: ps => (cur ++ p) :: ps
theorem gM {b c : UInt8} (h : ¬ b = c) (r : Bs) : sp c (b :: r) = prep [b] (sp c r) := by
  simp only [sp, h, if_false]
  cases sp c r <;> rfl
theorem gN (c : UInt8) (r : Bs) : sp c (c :: r) = [] :: sp c r := by simp [sp]
theorem kz (c : UInt8) : ∀ (s : Bs), Go.Lib.splitK [c] 0 (s.count c) s = sp c s
  | [] => rfl
  | b :: l => by
    have ih := kz c l
    have hi := eH b c l
    have hge := Go.Lib.index_ge l [c]
    by_cases h : b = c
    · subst h
      rw [List.count_cons_self, gN, Go.Lib.splitK, hi]
      simp [ih]
    · rw [List.count_cons_of_ne h, gM h, ← ih]
      cases hk : l.count c with
      | zero => simp [Go.Lib.splitK, prep]
      | succ k =>
        rw [Go.Lib.splitK, Go.Lib.splitK, hi]
        simp only [h, if_false]
        by_cases hm : Go.Lib.index l [c] = -1
        · simp [hm, prep]
        · obtain ⟨j, hj⟩ := Int.eq_ofNat_of_zero_le (show 0 ≤ Go.Lib.index l [c] by omega)
          have h2 : ¬ (Go.Lib.index l [c] + 1 = -1) := by omega
          have h3 : (Go.Lib.index l [c] + 1).toNat = j + 1 := by omega
          have h4 : (Go.Lib.index l [c]).toNat = j := by omega
          simp [hm, h2, h3, h4, prep]
theorem nt (s : Bs) (c : UInt8) : Go.Lib.split s [c] = sp c s := by
  unfold Go.Lib.split
  rw [Go.Lib.count_one, kz]
end Go.Rp
namespace Go.Rp
open Go.Pv Go.Av
open Go.Lib (decDigits)
open Go.Dg (fa cfl ctr gr gX fo nfl ntr)
abbrev M3 := Int × Int × Int
def more3 (c : Int) : List Bs → M3
  | [a, b, d] => if c / 100 = 3 then (0, 0, 0) else match fj a, fj b, fj d with
    | some x, some y, some z => if (x : Int) = c / 100 then ((x : Int), (y : Int), (z : Int)) else (0, 0, 0)
    | _, _, _ => (0, 0, 0)
  | _ => (0, 0, 0)
theorem lL (c : Int) (a b d : Bs) : more3 c [a, b, d] = if c / 100 = 3 then (0, 0, 0) else match fj a, fj b, fj d with
    | some x, some y, some z => if (x : Int) = c / 100 then ((x : Int), (y : Int), (z : Int)) else (0, 0, 0)
    | _, _, _ => (0, 0, 0) := rfl
def dL (c : Int) (s : Bs) : M3 := more3 c (sp 46 ((sp 32 s).headD []))
theorem jP : ∀ s : Bs, (Go.Lib.cut s [32]).1 = (sp 32 s).headD []
  | [] => rfl
  | b :: r => by
    have ih := jP r
    by_cases h : b = 32
    · subst h
      rw [gN]
      unfold Go.Lib.cut
      rw [eH, if_pos rfl]
      rfl
    · rw [gM h]
      cases hs : sp 32 r with
      | nil => exact absurd hs (sp_ne 32 r)
      | cons p ps =>
        rw [hs] at ih
        show (Go.Lib.cut (b :: r) [32]).1 = b :: p
        have ih' : (Go.Lib.cut r [32]).1 = p := ih
        rw [← ih']
        unfold Go.Lib.cut
        rw [eH, if_neg h]
        by_cases hn : Go.Lib.index r [32] = -1
        · rw [if_pos hn, if_neg (by omega), if_neg (by rw [hn]; omega)]
        · rw [if_neg hn]
          by_cases h0 : 0 ≤ Go.Lib.index r [32]
          · rw [if_pos (by omega), if_pos h0, show (Go.Lib.index r [32] + 1).toNat = (Go.Lib.index r [32]).toNat + 1 by omega]; rfl
          · have : Go.Lib.index r [32] = -1 := by
              have := Go.Lib.index_one r 32
              have h2 := Go.Lib.indexByte_ge r 32
              omega
            exact absurd this hn
theorem head_len (s : Bs) : ((sp 32 s).headD []).length ≤ s.length := by
  rw [← jP]
  unfold Go.Lib.cut
  split <;> simp
  exact Nat.min_le_right _ _
theorem jm (c : UInt8) : ∀ s : Bs, ∀ w ∈ sp c s, w.length ≤ s.length
  | [], w, h => by
    have : w = [] := by simpa [sp] using h
    rw [this]; simp
  | b :: r, w, h => by
    by_cases hb : b = c
    · subst hb
      rw [gN] at h
      rcases List.mem_cons.1 h with rfl | h
      · simp
      · have := jm b r w h; simp; omega
    · rw [gM hb] at h
      cases hs : sp c r with
      | nil => exact absurd hs (sp_ne c r)
      | cons p ps =>
        rw [hs] at h
        rcases List.mem_cons.1 h with rfl | h
        · have := jm c r p (by rw [hs]; simp)
          simp; omega
        · have := jm c r w (by rw [hs]; simp [h])
          simp; omega
theorem na (F : Nat) (hF : 2000 < F) (c : Nat) (s : Bs) (hs : s.length ≤ 900) : eZ F (c : Int) s = some (dL (c : Int) s) ∨ 1000000 < c := by
  by_cases hc : 1000000 < c
  · exact .inr hc
  refine .inl ?_
  have hl := head_len s
  unfold eZ dL
  rw [ld (by omega), bh, jP, ld (by omega), grd_D (by decide), bh, nt]
  generalize hw : sp 46 ((sp 32 s).headD []) = w
  have hlens : ∀ x ∈ w, x.length ≤ 1000 := fun x hx => by
    have := jm 46 ((sp 32 s).headD []) x (by rw [hw]; exact hx)
    omega
  have hg : ∀ (b : Bool) (x : Option M3), et b (jZ (c : Int) 100) x = x := by
    intro b x
    cases b
    · exact jS
    · rw [mQ, nd (by omega)]
  rw [hg]
  match w, hlens with
  | [], _ => rfl
  | [a], _ => rfl
  | [a, b], _ => rfl
  | a :: b :: d :: e :: r, _ =>
    have : decide (((a :: b :: d :: e :: r).length : Int) = 3) = false := decide_eq_false (by simp; omega)
    rw [this, nfl, Bool.true_or, ctr]; rfl
  | [a, b, d], hlens =>
    have e3 : decide ((([a, b, d] : List Bs).length : Int) = 3) = true := rfl
    rw [e3, ntr, fo]
    rw [lL]
    by_cases h3 : (c : Int) / 100 = 3
    · rw [bT h3, if_pos h3]
    · rw [bF h3, if_neg h3]
      obtain ⟨xa, ea, ha⟩ := gh F a (hlens a (by simp)) hF;obtain ⟨xb, eb, hb⟩ := gh F b (hlens b (by simp)) hF;obtain ⟨xd, ed, hd⟩ := gh F d (hlens d (by simp)) hF;obtain ⟨G, hG⟩ : ∃ G, F = G + 4 := ⟨F - 4, by omega⟩
      have step : ∀ (n : Nat) (i : Int) (u v w : Int), ce F (c : Int) [a, b, d] (n + 1) (i, u, v, w) = cE F (c : Int) [a, b, d] (ce F (c : Int) [a, b, d] n) i u v w := fun _ _ _ _ _ => rfl
      have lF : ∀ x, ce F (c : Int) [a, b, d] F x = ce F (c : Int) [a, b, d] (G + 3 + 1) x := fun x => by rw [hG]
      rw [lF, step]
      unfold cE
      have a0 : at_ [a, b, d] 0 = a := rfl
      have a1 : at_ [a, b, d] (0 + 1) = b := rfl
      have a2 : at_ [a, b, d] (0 + 1 + 1) = d := rfl
      rw [bT (by simp), bE (by simp), bh, a0, ea, ca]
      cases hna : fj a with
      | none => rfl
      | some x =>
        rw [show (some x).isSome = true from rfl, ntr, cfl, bE (by simp), bE (by simp), bh, cr (by omega), ha x hna]
        show ce F (c : Int) [a, b, d] (G + 2 + 1) (0 + 1, (x : Int), 0, 0) = _
        rw [step]
        unfold cE
        rw [bT (by simp), bE (by simp), bh, a1, eb, ca]
        cases hnb : fj b with
        | none => rfl
        | some y =>
          rw [show (some y).isSome = true from rfl, ntr, cfl, bE (by simp), bE (by simp), bh, cr (by omega), hb y hnb]
          show ce F (c : Int) [a, b, d] (G + 1 + 1) (0 + 1 + 1, (x : Int), (y : Int), 0) = _
          rw [step]
          unfold cE
          rw [bT (by simp), bE (by simp), bh, a2, ed, ca]
          cases hnd : fj d with
          | none => rfl
          | some z =>
            rw [show (some z).isSome = true from rfl, ntr, cfl, bE (by simp), bE (by simp), bh, cr (by omega), hd z hnd]
            show ce F (c : Int) [a, b, d] (G + 1) (0 + 1 + 1 + 1, (x : Int), (y : Int), (z : Int)) = _
            rw [step]
            unfold cE ee dw
            rw [bF (by simp), nd (by omega)]
            by_cases hx : (x : Int) = (c : Int) / 100
            · rw [bT hx]; simp only [if_pos hx]
            · rw [bF hx]; simp only [if_neg hx]
end Go.Rp
namespace Go.Rp
open Go.Pv Go.Av
open Go.Lib (decDigits)
open Go.Dg (fa cfl ctr gr gX fo nfl ntr cX eA jV)
def gW (s : Bs) : Bool := !(s.any iY) && decide (s.length ≤ 506)
def lst (ls : List Bs) : Bs := at_ ls ((ls.length : Int) - 1)
def mayB (c : Int) (ls : List Bs) (m : M3) : Bool := (((decide (200 ≤ c) && decide (c ≤ 599)) && (decide (1 ≤ ls.length) && decide (ls.length ≤ 100))) && ls.all gW) && decide (m = dL c (lst ls))
theorem m3_eq (a b d x y z : Int) : ((a == x) && ((b == y) && ((d == z) && true))) = decide ((a, b, d) = (x, y, z)) := by
  by_cases h1 : a = x
  · by_cases h2 : b = y
    · by_cases h3 : d = z
      · subst h1; subst h2; subst h3; simp
      · simp [h3]
    · simp [h2]
  · simp [h1]
theorem lst_in {ls : List Bs} (h : 1 ≤ ls.length) : lst ls ∈ ls := by
  unfold lst
  have e : ((ls.length : Int) - 1) = ((ls.length - 1 : Nat) : Int) := by omega
  rw [e, dP (by omega)]
  exact List.getElem_mem _
theorem may_out {α : Type} (c : Int) (ls : List Bs) (m : M3) (b : Bool) (X : Option Bool) (hb : b = ((((decide (c < 200)) || (decide (599 < c))) || (!decide (1 ≤ ls.length))) || (decide (100 < (ls.length : Int)))))
    (h : 200 ≤ c → c ≤ 599 → 1 ≤ ls.length → ls.length ≤ 100 → X = some (ls.all gW && decide (m = dL c (lst ls)))) : (bif b then some false else X) = some (mayB c ls m) := by
  subst hb
  unfold mayB
  by_cases h1 : 200 ≤ c
  · by_cases h2 : c ≤ 599
    · by_cases h3 : 1 ≤ ls.length
      · by_cases h4 : ls.length ≤ 100
        · rw [h h1 h2 h3 h4, decide_eq_false (p := c < 200) (by omega), decide_eq_false (p := 599 < c) (by omega), decide_eq_true h3, decide_eq_false (p := 100 < (ls.length : Int)) (by omega), decide_eq_true h1, decide_eq_true h2, decide_eq_true h4]; rfl
        · rw [decide_eq_true (p := 100 < (ls.length : Int)) (by omega), decide_eq_false h4]; simp
      · rw [decide_eq_false h3]; simp
    · rw [decide_eq_true (p := 599 < c) (by omega), decide_eq_false h2]; simp
  · rw [decide_eq_true (p := c < 200) (by omega), decide_eq_false h1]; simp
theorem may_loop (F : Nat) (hF : 2000 < F) (c : Nat) (hc : c ≤ 1000) (ls : List Bs) (h1 : 1 ≤ ls.length) (h2 : ls.length ≤ 100) (m0 m1 m2 : Int) : ∀ (n i : Nat), ls.length - i < n → i ≤ ls.length → (ls.take i).all gW = true →
    eL F (c : Int) ls m0 m1 m2 n (i : Int) = some ((ls.drop i).all gW && decide ((m0, m1, m2) = dL (c : Int) (lst ls))) := by
  intro n
  induction n with
  | zero => intro i h; omega
  | succ n ih =>
    intro i hn hi ht;show eM F (c : Int) ls m0 m1 m2 (eL F (c : Int) ls m0 m1 m2 n) (i : Int) = _
    unfold eM
    by_cases h : i < ls.length
    · have hdr : ls.drop i = ls[i] :: ls.drop (i + 1) := aU h
      rw [bT (by omega), bE (by omega), bh, dP h, hdr, List.all_cons]
      by_cases hl : 506 < (ls[i]).length
      · have e : gW ls[i] = false := by unfold gW; rw [decide_eq_false (by omega), Bool.and_false]
        rw [decide_eq_true (p := 506 < ((ls[i]).length : Int)) (by omega), ntr, mU, Bool.true_or, ctr, e, gX]; rfl
      · rw [decide_eq_false (p := 506 < ((ls[i]).length : Int)) (by omega), nfl, mT, lU F _ (by omega) (by omega), bz, fo]
        have e : gW ls[i] = !(ls[i]).any iY := by unfold gW; rw [decide_eq_true (by omega), Bool.and_true]
        rw [e]
        cases hq : (ls[i]).any iY with
        | true => rfl
        | false =>
          rw [cfl, cr (by omega), eG, ih (i + 1) (by omega) (by omega) ?_, nfl, gr]
          rw [List.take_succ_eq_append_getElem h, List.all_append, ht, gr]
          simp [e, hq]
    · have hi' : i = ls.length := by omega
      subst hi'
      rw [bF (by omega), List.drop_length]
      unfold eK
      have hls : (lst ls).length ≤ 900 := by
        rw [List.take_length] at ht
        have := List.all_eq_true.1 ht _ (lst_in h1)
        unfold gW at this
        simp only [Bool.and_eq_true, decide_eq_true_eq] at this
        omega
      rw [cr (by omega), bE (by omega), bh]
      show bnd3 (eZ F (c : Int) (lst ls)) _ = _
      rcases na F hF c (lst ls) hls with e | e
      · rw [e, show dL (c : Int) (lst ls) = ((dL (c : Int) (lst ls)).1, (dL (c : Int) (lst ls)).2.1, (dL (c : Int) (lst ls)).2.2) from rfl, fC, m3_eq]
        rfl
      · omega
theorem may_eq (F : Nat) (hF : 2000 < F) (c : Int) (ls : List Bs) (m0 m1 m2 : Int) : gm F c ls m0 m1 m2 = some (mayB c ls (m0, m1, m2)) := by
  unfold gm
  refine may_out (α := Unit) c ls _ _ _ ?_ fun h1 h2 h3 h4 => ?_
  · by_cases h : 1 ≤ ls.length
    · rw [decide_eq_false (p := (ls.length : Int) = 0) (by omega), decide_eq_true h]; rfl
    · rw [decide_eq_true (p := (ls.length : Int) = 0) (by omega), decide_eq_false h]; rfl
  · obtain ⟨k, rfl⟩ := Int.eq_ofNat_of_zero_le (show 0 ≤ c by omega)
    have := may_loop F hF k (by omega) ls h3 h4 m0 m1 m2 F 0 (by omega) (by omega) rfl
    rw [List.drop_zero] at this
    exact this
def lnW (d : Bs) (g : UInt8) (s : Bs) : Bs := d ++ g :: (s ++ [13, 10])
def wrL (d : Bs) : List Bs → Bs
  | [] => []
  | s :: r => lnW d (if r = [] then 32 else 45) s ++ wrL d r
def wrA (c : Int) (ls : List Bs) : Bs := wrL (decDigits c.toNat) ls
theorem dd4 (c : Nat) (h : c ≤ 599) : (decDigits c).length ≤ 4 := jV 3 c (by omega)
theorem sgn_eq {ls : List Bs} {i : Nat} (h : i < ls.length) : (if ls.drop (i + 1) = [] then (32 : UInt8) else 45) = if i + 1 = ls.length then 32 else 45 := by
  by_cases e : i + 1 = ls.length
  · rw [if_pos e, if_pos (aO (by omega))]
  · rw [if_neg e, if_neg (fun g => by have := congrArg List.length g; simp at this; omega)]
theorem mu (c : Nat) (hc : c ≤ 599) (ls : List Bs) (h2 : ls.length ≤ 100) (hl : ∀ s ∈ ls, s.length ≤ 506) : ∀ (n i : Nat) (y : Bs), ls.length - i < n → i ≤ ls.length → y.length ≤ 1000 * i →
    cy (c : Int) ls n (y, (i : Int)) = some (y ++ wrL (decDigits c) (ls.drop i), 0) := by
  intro n
  induction n with
  | zero => intro i y h; omega
  | succ n ih =>
    intro i y hn hi hy;show dF (c : Int) ls (cy (c : Int) ls n) y (i : Int) = _
    unfold dF
    have hd := dd4 c hc
    by_cases h : i < ls.length
    · have hdr : ls.drop i = ls[i] :: ls.drop (i + 1) := aU h
      have hli := hl _ (List.getElem_mem h)
      have key : ∀ g : UInt8, cG (c : Int) y (i : Int) ls[i] (cy (c : Int) ls n) [g] = some (y ++ (lnW (decDigits c) g ls[i] ++ wrL (decDigits c) (ls.drop (i + 1))), 0) := by
        intro g
        unfold cG
        rw [cr (by omega), bh, fa, dc (by simp; omega), bh, dc (by simp; omega), bh, dc (by simp; omega), bh, dc (by simp; omega), bh, cr (by omega), eG,
          ih (i + 1) _ (by omega) (by omega) (by simp; omega)]
        unfold lnW
        simp only [List.append_assoc, List.singleton_append, List.cons_append, List.nil_append]
      rw [bT (by omega), bE (by omega), bh, dP h, cr (by omega), hdr]
      show _ = some (y ++ (lnW (decDigits c) (if ls.drop (i + 1) = [] then 32 else 45) ls[i] ++ wrL (decDigits c) (ls.drop (i + 1))), 0)
      rw [sgn_eq h]
      by_cases e : i + 1 = ls.length
      · rw [bT (by omega), if_pos e]; exact key 32
      · rw [bF (by omega), if_neg e]; exact key 45
    · rw [bF (by omega), aO (by omega)]
      show some (y, 0) = some (y ++ [], 0)
      rw [List.append_nil]
theorem may_s {c : Int} {ls : List Bs} {m : M3} (h : mayB c ls m = true) : (200 ≤ c ∧ c ≤ 599) ∧ (1 ≤ ls.length ∧ ls.length ≤ 100) ∧ (∀ s ∈ ls, gW s = true) ∧ m = dL c (lst ls) := by
  unfold mayB at h
  simp only [Bool.and_eq_true, decide_eq_true_eq] at h
  exact ⟨h.1.1.1, h.1.1.2, fun s hs => List.all_eq_true.1 h.1.2 s hs, h.2⟩
theorem lk {s : Bs} (h : gW s = true) : s.length ≤ 506 := by
  unfold gW at h
  simp only [Bool.and_eq_true, decide_eq_true_eq] at h
  exact h.2
theorem write_eq (F : Nat) (hF : 2000 < F) (c : Int) (ls : List Bs) (m0 m1 m2 : Int) : fx F c ls m0 m1 m2 = some (if mayB c ls (m0, m1, m2) = true then (wrA c ls, 0) else ([], 1)) := by
  unfold fx
  rw [may_eq F hF, bz]
  cases hm : mayB c ls (m0, m1, m2) with
  | false => rfl
  | true =>
    obtain ⟨⟨h1, h2⟩, ⟨h3, h4⟩, h5, _⟩ := may_s hm;obtain ⟨k, rfl⟩ := Int.eq_ofNat_of_zero_le (show 0 ≤ c by omega)
    rw [ntr, cfl, if_pos rfl]
    have := mu k (by omega) ls h4 (fun s hs => lk (h5 s hs)) F 0 [] (by omega) (by omega) (by simp)
    exact this
end Go.Rp
namespace Go.Rp
open Go.Pv Go.Av
open Go.Lib (decDigits indexByte)
open Go.Dg (val Dig fa cfl ctr gr gX fo nfl ntr cX eA jV iq jU)
theorem ib_ge (b : Bs) (c : UInt8) : -1 ≤ indexByte b c := Go.Lib.indexByte_ge b c
theorem ib_lt (b : Bs) (c : UInt8) : indexByte b c < b.length := (lO b c).2
theorem ib_at (p q : Bs) (c : UInt8) (h : ∀ b ∈ p, b ≠ c) : indexByte (p ++ c :: q) c = (p.length : Int) := by
  induction p with
  | nil => simp [Go.Lib.indexByte]
  | cons a p ih =>
    have e : ¬ (a == c) = true := by simpa using h a (by simp)
    have ih' := ih fun b hb => h b (by simp [hb])
    show indexByte (a :: (p ++ c :: q)) c = _
    unfold Go.Lib.indexByte
    rw [if_neg e, ih']
    have e3 : (((p.length : Nat) : Int) == -1) = false := by
      simp
    rw [e3]
    simp
theorem mj {b : Bs} {c : UInt8} {i : Nat} (h : indexByte b c = (i : Int)) : ∃ p q, b = p ++ c :: q ∧ p.length = i ∧ ∀ x ∈ p, x ≠ c := by
  induction b generalizing i with
  | nil => have : (-1 : Int) = (i : Int) := h; omega
  | cons a b ih =>
    unfold Go.Lib.indexByte at h
    by_cases e : (a == c) = true
    · rw [if_pos e] at h
      refine ⟨[], b, ?_, by simp only [List.length_nil]; omega, by simp⟩
      rw [show a = c by simpa using e]; rfl
    · rw [if_neg e] at h
      by_cases e2 : indexByte b c = -1
      · rw [e2] at h
        have : (-1 : Int) = (i : Int) := h
        omega
      · have e3 : (indexByte b c == -1) = false := by simpa using e2
        rw [e3] at h
        simp only [Bool.false_eq_true, if_false] at h
        have hg := ib_ge b c
        obtain ⟨p, q, h1, h2, h3⟩ := ih (i := i - 1) (by omega);refine ⟨a :: p, q, by rw [h1]; rfl, by simp; omega, fun x hx => ?_⟩
        rcases List.mem_cons.1 hx with rfl | hx
        · intro e4; exact e (by simp [e4])
        · exact h3 x hx
inductive Ln | wait | bad | ok (s : Bs)
def gV (b : Bs) : Ln :=
  if indexByte b 10 < 0 then (if b.length < 512 then .wait else .bad)
  else if indexByte b 10 < 512 ∧ 0 < indexByte b 10 ∧ indexByte b 13 = indexByte b 10 - 1 then .ok (b.take (indexByte b 10 - 1).toNat) else .bad
theorem ln_ok {b s : Bs} (h : gV b = .ok s) : ∃ t, b = s ++ 13 :: 10 :: t ∧ (∀ x ∈ s, iY x = false) ∧ s.length ≤ 510 := by
  unfold gV at h
  by_cases h0 : indexByte b 10 < 0
  · rw [if_pos h0] at h
    split at h <;> cases h
  · rw [if_neg h0] at h
    split at h
    · rename_i hc
      obtain ⟨h1, h2, h3⟩ := hc
      have hs : b.take (indexByte b 10 - 1).toNat = s := by injection h
      obtain ⟨p, q, e1, e2, e3⟩ := mj (b := b) (c := 10) (i := (indexByte b 10).toNat) (by omega);obtain ⟨p', q', g1, g2, g3⟩ := mj (b := b) (c := 13) (i := (indexByte b 10 - 1).toNat) (by omega)
      have hp' : p' = s := by rw [← hs, ← g2, g1, List.take_left' rfl]
      have hp : p = p' ++ [13] := by
        have a1 : b.take (indexByte b 10).toNat = p := by rw [← e2, e1, List.take_left' rfl]
        have a2 : b.take (indexByte b 10).toNat = p' ++ [13] := by
          have l : (indexByte b 10).toNat = (p' ++ [13]).length := by simp; omega
          rw [l, g1, show p' ++ 13 :: q' = (p' ++ [13]) ++ q' by simp, List.take_left' rfl]
        rw [← a1, a2]
      refine ⟨q, by rw [← hp', e1, hp]; simp, fun x hx => ?_, by rw [← hp']; omega⟩
      unfold iY
      rw [← hp'] at hx
      rw [decide_eq_false (g3 x hx), decide_eq_false (e3 x (by rw [hp]; simp [hx]))]; rfl
    · cases h
theorem ln_of (s t : Bs) (h : ∀ x ∈ s, iY x = false) (hl : s.length ≤ 510) : gV (s ++ 13 :: 10 :: t) = .ok s := by
  have h13 : ∀ x ∈ s, x ≠ 13 := fun x hx e => by have := h x hx; rw [e] at this; revert this; decide
  have h10 : ∀ x ∈ s ++ [13], x ≠ 10 := fun x hx e => by
    rcases List.mem_append.1 hx with hx | hx
    · have := h x hx; rw [e] at this; revert this; decide
    · rw [List.mem_singleton.1 hx] at e; revert e; decide
  have e1 := ib_at s (10 :: t) 13 h13
  have e2 := ib_at (s ++ [13]) t 10 h10
  rw [show (s ++ [13]) ++ 10 :: t = s ++ 13 :: 10 :: t by simp] at e2
  have e2' : indexByte (s ++ 13 :: 10 :: t) 10 = (s.length : Int) + 1 := by rw [e2]; simp
  unfold gV
  rw [e1, e2', if_neg (by omega), if_pos (by omega), show ((s.length : Int) + 1 - 1).toNat = s.length by omega, List.take_left']
  rfl
theorem ln_len {b s : Bs} (h : gV b = .ok s) : s.length + 2 ≤ b.length := by
  obtain ⟨t, rfl, _, _⟩ := ln_ok h
  simp
def fP (s : Bs) : Option Nat :=
  if 4 ≤ s.length ∧ (at_ s 3 = 45 ∨ at_ s 3 = 32) then
    match fj (s.take 3) with
    | some n => if 200 ≤ n ∧ n ≤ 599 then some n else none
    | none => none
  else none
theorem code_s {s : Bs} {n : Nat} (h : fP s = some n) : 4 ≤ s.length ∧ (at_ s 3 = 45 ∨ at_ s 3 = 32) ∧ (200 ≤ n ∧ n ≤ 599) ∧ fj (s.take 3) = some n := by
  unfold fP at h
  split at h
  · rename_i hc
    cases hn : fj (s.take 3) with
    | none => rw [hn] at h; cases h
    | some k =>
      rw [hn] at h
      simp only at h
      split at h
      · cases h; rename_i hk; exact ⟨hc.1, hc.2, hk, rfl⟩
      · cases h
  · cases h
abbrev Rp := Int × List Bs × M3
inductive One | wait | bad | ok (x : Rp) (n : Nat)
def gt : Nat → Int → List Bs → Nat → Bs → One
  | 0, _, _, _, b => match gV b with
    | .wait => .wait
    | _ => .bad
  | k + 1, c, ls, at', b => match gV b with
    | .wait => .wait
    | .bad => .bad
    | .ok s => match fP s with
      | none => .bad
      | some n => if ls ≠ [] ∧ (n : Int) ≠ c then .bad else
        if at_ s 3 = 32 then .ok ((n : Int), ls ++ [s.drop 4], dL (n : Int) (s.drop 4)) (at' + (s.length + 2))
        else gt k (n : Int) (ls ++ [s.drop 4]) (at' + (s.length + 2)) (b.drop (s.length + 2))
def one (b : Bs) : One := gt 100 0 [] 0 b
theorem mZ : ∀ (k : Nat) (c : Int) (ls : List Bs) (a : Nat) (b : Bs) (x : Rp) (n : Nat), gt k c ls a b = .ok x n →
    ∃ (d : Nat) (l2 : List Bs), x = ((d : Int), ls ++ l2, dL (d : Int) (lst l2)) ∧ l2 ≠ [] ∧ l2.length ≤ k ∧ (∀ s ∈ l2, gW s = true) ∧ (200 ≤ d ∧ d ≤ 599) ∧ (ls ≠ [] → (d : Int) = c) ∧ a < n ∧ n ≤ a + b.length ∧ b.take (n - a) = wrL (decDigits d) l2
  | 0, c, ls, a, b, x, n, h => by
    unfold gt at h
    split at h <;> cases h
  | k + 1, c, ls, a, b, x, n, h => by
    unfold gt at h
    cases hb : gV b with
    | wait => rw [hb] at h; cases h
    | bad => rw [hb] at h; cases h
    | ok s =>
      rw [hb] at h
      simp only at h
      cases hc : fP s with
      | none => rw [hc] at h; cases h
      | some m =>
        rw [hc] at h
        simp only at h
        by_cases h1 : ls ≠ [] ∧ (m : Int) ≠ c
        · rw [if_pos h1] at h; cases h
        rw [if_neg h1] at h
        have hcode : ls ≠ [] → (m : Int) = c := fun g => by
          by_cases e : (m : Int) = c
          · exact e
          · exact absurd ⟨g, e⟩ h1
        obtain ⟨t, ht, hs, hl⟩ := ln_ok hb;obtain ⟨c1, c2, c3, c4⟩ := code_s hc;obtain ⟨d1, d2⟩ := num_dd c4
        have hlen := ln_len hb
        have hfit : gW (s.drop 4) = true := by
          unfold gW
          rw [decide_eq_true (p := (s.drop 4).length ≤ 506) (by simp; omega), Bool.and_true]
          have : (s.drop 4).any iY = false := by
            rw [List.any_eq_false]
            intro y hy
            rw [hs y (List.mem_of_mem_drop hy)]; simp
          rw [this]; rfl
        have hsplit : s = decDigits m ++ at_ s 3 :: s.drop 4 := by
          have e3 : at_ s 3 = s[3] := dP (i := 3) (by omega)
          rw [← d1, e3]
          have := aU (l := s) (i := 3) (by omega)
          conv => lhs; rw [← List.take_append_drop 3 s, this]
        have hln : b.take (s.length + 2) = lnW (decDigits m) (at_ s 3) (s.drop 4) := by
          conv => lhs; rw [ht]
          rw [show s ++ 13 :: 10 :: t = (s ++ [13, 10]) ++ t by simp, show s.length + 2 = (s ++ [13, 10]).length by simp, List.take_left' rfl]
          unfold lnW
          conv => lhs; rw [hsplit]
          simp
        by_cases h2 : at_ s 3 = 32
        · rw [if_pos h2] at h
          injection h with hx hn
          subst hx; subst hn
          refine ⟨m, [s.drop 4], rfl, by simp, by simp, fun y hy => ?_, c3, hcode, by omega, by omega, ?_⟩
          · rw [List.mem_singleton.1 hy]; exact hfit
          · rw [show a + (s.length + 2) - a = s.length + 2 by omega, hln, h2]
            unfold wrL
            rw [if_pos rfl]; unfold wrL; simp
        · rw [if_neg h2] at h
          obtain ⟨d, l2, e1, e2, e3, e4, e5, e6, e7, e8, e9⟩ := mZ k _ _ _ _ x n h
          have hd : (d : Int) = (m : Int) := e6 (by simp)
          have hdm : d = m := by omega
          subst hdm;refine ⟨d, s.drop 4 :: l2, ?_, by simp, by simp; omega, fun y hy => ?_, e5, hcode, by omega, by simp at e8; omega, ?_⟩
          · rw [e1]
            have : lst (s.drop 4 :: l2) = lst l2 := by
              have hp : 0 < l2.length := List.length_pos_iff.2 e2
              unfold lst
              rw [show (((s.drop 4 :: l2).length : Int) - 1) = ((l2.length - 1 + 1 : Nat) : Int) by simp; omega, show ((l2.length : Int) - 1) = ((l2.length - 1 : Nat) : Int) by omega, dP (by simp only [List.length_cons]; omega), dP (by omega)]
              rfl
            rw [this, List.append_assoc]; rfl
          · rcases List.mem_cons.1 hy with rfl | hy
            · exact hfit
            · exact e4 y hy
          · have g3 : at_ s 3 = 45 := by
              rcases c2 with g | g
              · exact g
              · exact absurd g h2
            have hle : s.length + 2 ≤ n - a := by omega
            have : b.take (n - a) = b.take (s.length + 2) ++ (b.drop (s.length + 2)).take (n - (a + (s.length + 2))) := by
              rw [show n - a = (s.length + 2) + (n - (a + (s.length + 2))) by omega, List.take_add]
            rw [this, e9, hln, g3]
            show _ = lnW (decDigits d) (if l2 = [] then 32 else 45) (s.drop 4) ++ wrL (decDigits d) l2
            rw [if_neg e2]
theorem dd_three {c : Nat} (h1 : 200 ≤ c) (h2 : c ≤ 599) : (decDigits c).length = 3 := by
  rw [dd3 (by omega) (by omega)]; rfl
theorem dd_nocr (c : Nat) : ∀ x ∈ decDigits c, iY x = false := fun x hx => by
  obtain ⟨h1, h2⟩ := iq c x hx
  unfold iY
  have a : ¬ x = 13 := fun e => by rw [e] at h1; revert h1; decide
  have b : ¬ x = 10 := fun e => by rw [e] at h1; revert h1; decide
  rw [decide_eq_false a, decide_eq_false b]; rfl
theorem mY (c : Nat) (h1 : 200 ≤ c) (h2 : c ≤ 599) (r : Bs) : ∀ (rest : List Bs) (k : Nat) (c' : Int) (ls : List Bs) (a : Nat), rest ≠ [] → rest.length ≤ k → (∀ s ∈ rest, gW s = true) → (ls ≠ [] → c' = (c : Int)) →
    gt k c' ls a (wrL (decDigits c) rest ++ r) = .ok ((c : Int), ls ++ rest, dL (c : Int) (lst rest)) (a + (wrL (decDigits c) rest).length)
  | [], k, c', ls, a, h, _, _, _ => absurd rfl h
  | s :: rest, 0, c', ls, a, _, h, _, _ => by simp at h
  | s :: rest, k + 1, c', ls, a, _, hk, hf, hc => by
    have h3 := dd_three h1 h2
    obtain ⟨g, hg⟩ : ∃ g : UInt8, g = if rest = [] then 32 else 45 := ⟨_, rfl⟩
    have hw : wrL (decDigits c) (s :: rest) = lnW (decDigits c) g s ++ wrL (decDigits c) rest := by rw [hg]; rfl
    have hg2 : g = 45 ∨ g = 32 := by rw [hg]; split <;> simp
    have hfs := hf s (by simp)
    have hls := lk hfs
    have hln : gV (lnW (decDigits c) g s ++ (wrL (decDigits c) rest ++ r)) = .ok (decDigits c ++ g :: s) := by
      unfold lnW
      rw [show decDigits c ++ g :: (s ++ [13, 10]) ++ (wrL (decDigits c) rest ++ r) = (decDigits c ++ g :: s) ++ 13 :: 10 :: (wrL (decDigits c) rest ++ r) by simp]
      refine ln_of _ _ (fun x hx => ?_) (by simp; omega)
      rcases List.mem_append.1 hx with hx | hx
      · exact dd_nocr c x hx
      · rcases List.mem_cons.1 hx with rfl | hx
        · rcases hg2 with e | e <;> rw [e] <;> decide
        · unfold gW at hfs
          simp only [Bool.and_eq_true, Bool.not_eq_true', List.any_eq_false] at hfs
          have := hfs.1 x hx
          simpa using this
    have hat : at_ (decDigits c ++ g :: s) 3 = g := by
      have : at_ (decDigits c ++ g :: s) ((3 : Nat) : Int) = (decDigits c ++ g :: s)[3]'(by simp; omega) := dP _
      refine Eq.trans this ?_
      rw [List.getElem_append_right (by omega)]
      simp [h3]
    have hdr : (decDigits c ++ g :: s).drop 4 = s := by
      rw [show decDigits c ++ g :: s = (decDigits c ++ [g]) ++ s by simp, show 4 = (decDigits c ++ [g]).length by simp [h3], List.drop_left' rfl]
    have htk : (decDigits c ++ g :: s).take 3 = decDigits c := by rw [show 3 = (decDigits c).length from h3.symm, List.take_left' rfl]
    have hcode : fP (decDigits c ++ g :: s) = some c := by
      unfold fP
      rw [if_pos ⟨by simp; omega, by rw [hat]; exact hg2⟩, htk, dd_num (by omega)]
      simp only
      rw [if_pos ⟨h1, h2⟩]
    have hlw : (lnW (decDigits c) g s).length = (decDigits c ++ g :: s).length + 2 := by unfold lnW; simp; omega
    rw [hw, List.append_assoc]
    unfold gt
    rw [hln]
    simp only
    rw [hcode]
    simp only
    have hno : ¬ (ls ≠ [] ∧ ((c : Nat) : Int) ≠ c') := fun ⟨p, q⟩ => q (hc p).symm
    rw [if_neg hno, hat, hdr]
    by_cases he : rest = []
    · subst he
      rw [if_pos rfl] at hg
      rw [if_pos hg]
      have : lst [s] = s := rfl
      rw [this]
      congr 1
      show a + ((decDigits c ++ g :: s).length + 2) = a + (lnW (decDigits c) g s ++ []).length
      rw [List.append_nil, hlw]
    · rw [if_neg he] at hg
      rw [if_neg (by rw [hg]; decide), ← hlw, List.drop_left' rfl, mY c h1 h2 r rest k _ _ _ he (by simp at hk; omega) (fun y hy => hf y (by simp [hy])) (fun _ => rfl)]
      have hlst : lst (s :: rest) = lst rest := by
        have hp : 0 < rest.length := List.length_pos_iff.2 he
        unfold lst
        rw [show (((s :: rest).length : Int) - 1) = ((rest.length - 1 + 1 : Nat) : Int) by simp; omega, show ((rest.length : Int) - 1) = ((rest.length - 1 : Nat) : Int) by omega, dP (by simp only [List.length_cons]; omega), dP (by omega)]
        rfl
      rw [hlst, List.append_assoc, List.length_append, Nat.add_assoc]; rfl
inductive All : Bs → List Rp → Nat → Bool → Prop
  | wait {b : Bs} : one b = .wait → All b [] 0 false
  | bad {b : Bs} : one b = .bad → All b [] 0 true
  | ok {b : Bs} {x : Rp} {n : Nat} {l : List Rp} {u : Nat} {bd : Bool} : one b = .ok x n → All (b.drop n) l u bd → All b (x :: l) (n + u) bd
theorem one_pos {b : Bs} {x : Rp} {n : Nat} (h : one b = .ok x n) : 0 < n ∧ n ≤ b.length := by
  obtain ⟨d, l2, _, _, _, _, _, _, h7, h8, _⟩ := mZ 100 0 [] 0 b x n h
  omega
theorem All.le {b : Bs} {l : List Rp} {u : Nat} {bd : Bool} (h : All b l u bd) : u ≤ b.length ∧ l.length ≤ u := by
  induction h with
  | wait e => simp
  | bad e => simp
  | ok e _ ih =>
    have := one_pos e
    simp at ih ⊢
    omega
def wrX (x : Rp) : Bs := wrA x.1 x.2.1
def mayX (x : Rp) : Bool := mayB x.1 x.2.1 x.2.2
theorem one_wr {x : Rp} (h : mayX x = true) (r : Bs) : one (wrX x ++ r) = .ok x (wrX x).length := by
  obtain ⟨c, ls, m⟩ := x;obtain ⟨⟨h1, h2⟩, ⟨h3, h4⟩, h5, h6⟩ := may_s h;obtain ⟨k, rfl⟩ := Int.eq_ofNat_of_zero_le (show 0 ≤ c by omega)
  have := mY k (by omega) (by omega) r ls 100 0 [] 0 (by intro e; subst e; simp at h3) h4 h5 (fun g => absurd rfl g)
  rw [Nat.zero_add] at this
  have h6' : m = dL (k : Int) (lst ls) := h6
  subst h6';exact this
theorem one_nil : one [] = .wait := rfl
theorem All.wr : ∀ l : List Rp, (∀ x ∈ l, mayX x = true) → All (l.map wrX).flatten l ((l.map wrX).flatten).length false
  | [], _ => .wait one_nil
  | x :: l, h => by
    have h1 := one_wr (h x (by simp)) (l.map wrX).flatten
    have h2 := All.wr l fun y hy => h y (by simp [hy])
    rw [List.map_cons, List.flatten_cons, List.length_append]
    exact .ok h1 (by rw [List.drop_left' rfl]; exact h2)
end Go.Rp
namespace Go.Rp
open Go.Pv Go.Av
open Go.Lib (decDigits indexByte)
open Go.Dg (cfl ctr gr gX fo nfl ntr)
theorem iv (F : Nat) (b : Bool) : cK F b = some (bif b then Res.ok () else Res.pan 0) := by cases b <;> rfl
theorem mi (F : Nat) (b : Bs) (c : UInt8) : cQ F b c = some (indexByte b c) := rfl
section
variable {σ : Type}
theorem mE (F : Nat) (k : σ → Bs → Option (σ × Option Bool)) (rec : (Bs × σ) → Option (σ × Bool × Bs)) (b : Bs) (st : σ) (hb : b.length ≤ 2000000) :
    cV F k rec b st = match gV b with
      | .wait => some (st, false, b)
      | .bad => some (st, true, [])
      | .ok s => bnd (k st s) fun x => bndo x.2 (some (x.1, true, [])) fun g => bif !g then some (x.1, false, b) else rec (b.drop (s.length + 2), x.1) := by
  have g10 := ib_ge b 10
  have g13 := ib_ge b 13
  have l10 := ib_lt b 10
  have l13 := ib_lt b 13
  unfold cV gV
  rw [mi, bz, mi]
  simp only [iv]
  by_cases h0 : indexByte b 10 < 0
  · rw [bT h0, if_pos h0]
    by_cases hl : b.length < 512
    · rw [decide_eq_true (p := (b.length : Int) < 512) (by omega), if_pos hl]; rfl
    · rw [decide_eq_false (p := (b.length : Int) < 512) (by omega), if_neg hl]; rfl
  · rw [bF h0, if_neg h0]
    by_cases h1 : indexByte b 10 < 512 ∧ 0 < indexByte b 10
    · obtain ⟨h1, h2⟩ := h1
      rw [decide_eq_true h1, decide_eq_true h2, gr, mT, bz, mQ, cr (by omega), gr]
      by_cases h3 : indexByte b 13 = indexByte b 10 - 1
      · rw [decide_eq_true h3, ctr, lm, cr (by omega), fc (by omega), bh, if_pos ⟨h1, h2, h3⟩]
        have e1 : to_ b (indexByte b 10 - 1) = b.take (indexByte b 10 - 1).toNat := rfl
        have e2 : dh b (indexByte b 10 + 1) = b.drop ((b.take (indexByte b 10 - 1).toNat).length + 2) := by
          unfold dh
          congr 1
          rw [List.length_take]; omega
        have hI : -9223372036854775808 ≤ indexByte b 10 + 1 ∧ indexByte b 10 + 1 ≤ 9223372036854775807 := by omega
        have hT : 0 ≤ indexByte b 10 + 1 ∧ indexByte b 10 + 1 ≤ b.length := by omega
        rw [e1]
        simp only [cr hI, fc hT, bh, e2]
      · rw [decide_eq_false h3, cfl, fb, if_neg (fun g => h3 g.2.2)]
    · have e : ((decide (indexByte b 10 < 512)) && (decide (0 < indexByte b 10))) = false := by
        by_cases q : indexByte b 10 < 512
        · rw [decide_eq_false (p := 0 < indexByte b 10) (fun r => h1 ⟨q, r⟩), Bool.and_false]
        · rw [decide_eq_false q]; rfl
      rw [e, mU, jS, gX, cfl, fb, if_neg (fun g => h1 ⟨g.1, g.2.1⟩)]
end
abbrev S5 := Int × Int × List Bs × List Rp × Int
def kk (F : Nat) (s : S5) (x : Bs) : Option (S5 × Option Bool) := dr F s.1 s.2.1 s.2.2.1 s.2.2.2.1 s.2.2.2.2 x
def lineR (a : Nat) (c : Int) (ls : List Bs) (l : List Rp) (u : Int) (s : Bs) : S5 × Option Bool :=
  match fP s with
  | none => (((a : Int), c, ls, l, u), none)
  | some n => if ls.length < 100 ∧ ¬ (ls ≠ [] ∧ (n : Int) ≠ c) then
      (if at_ s 3 = 32 then (((a + (s.length + 2) : Nat) : Int), 0, [], l ++ [((n : Int), ls ++ [s.drop 4], dL (n : Int) (s.drop 4))], ((a + (s.length + 2) : Nat) : Int))
       else (((a + (s.length + 2) : Nat) : Int), (n : Int), ls ++ [s.drop 4], l, u), some true)
    else (((a : Int), c, ls, l, u), none)
theorem kk_eq (F : Nat) (hF : 2000 < F) (a : Nat) (c : Int) (ls : List Bs) (l : List Rp) (u : Int) (s : Bs) (hs : s.length ≤ 510) (ha : a ≤ 2000000) (hls : ls.length ≤ 100) (hl : l.length ≤ 2000000) :
    kk F ((a : Int), c, ls, l, u) s = some (lineR a c ls l u s) := by
  unfold kk dr lineR fP
  simp only
  by_cases h4 : 4 ≤ s.length
  · have hd4 : decide ((4 : Int) ≤ (s.length : Int)) = true := decide_eq_true (by omega)
    have hg : ∀ (b : Bool) (x : Option (S5 × Option Bool)), et b (cf 3 s.length) x = x := fun b x => js fun _ => by omega
    rw [hd4, hg, bh, hg, bh, gr]
    simp only [iv]
    obtain ⟨g, hgd⟩ : ∃ g, g = at_ s 3 := ⟨_, rfl⟩
    rw [← hgd]
    by_cases hsg : g = 45 ∨ g = 32
    · have esg : ((decide (g = 45)) || (decide (g = 32))) = true := by
        rcases hsg with e | e <;> rw [e] <;> decide
      rw [if_pos ⟨h4, hsg⟩, esg, gr]
      by_cases h100 : ls.length < 100
      · rw [decide_eq_true (p := (ls.length : Int) < 100) (by omega), ctr, lm, fc (by omega), bh]
        have e3 : to_ s 3 = s.take 3 := rfl
        have e4 : dh s 4 = s.drop 4 := rfl
        obtain ⟨x, ex, hx⟩ := gh F (s.take 3) (by simp; omega) hF
        rw [e3, ex, ca]
        cases hn : fj (s.take 3) with
        | none => rfl
        | some n =>
          rw [hx n hn, show (some n).isSome = true from rfl, gr]
          simp only
          by_cases hr : 200 ≤ n ∧ n ≤ 599
          · rw [if_pos hr, decide_eq_true (p := (200 : Int) ≤ (n : Int)) (by omega), decide_eq_true (p := (n : Int) ≤ 599) (by omega), gr, gr]
            simp only
            by_cases hc : ls ≠ [] ∧ (n : Int) ≠ c
            · have e : ((decide ((ls.length : Int) = 0)) || (decide ((n : Int) = c))) = false := by
                rw [decide_eq_false hc.2, Bool.or_false]
                refine decide_eq_false fun g => hc.1 (List.length_eq_zero_iff.1 (by omega))
              rw [e, cfl, fb, if_neg (fun g => g.2 hc)]
            · have e : ((decide ((ls.length : Int) = 0)) || (decide ((n : Int) = c))) = true := by
                by_cases q : (n : Int) = c
                · rw [decide_eq_true q, Bool.or_true]
                · have : ls = [] := by
                    by_cases q2 : ls = []
                    · exact q2
                    · exact absurd ⟨q2, q⟩ hc
                  rw [this]; rfl
              rw [e, ctr, lm, fc (by omega), bh, e4, dc (by simp; omega), bh, if_pos ⟨h100, hc⟩]
              unfold eI
              have ea : (a : Int) + ((s.length : Int) + 2) = ((a + (s.length + 2) : Nat) : Int) := by omega
              rw [cr (by omega), cr (by omega), bE (by omega), bh, ← hgd, ea]
              by_cases h32 : g = 32
              · rw [bT h32, if_pos h32, fc (by omega), bh, e4]
                rcases na F hF n (s.drop 4) (by simp; omega) with em | em
                · rw [em, show dL (n : Int) (s.drop 4) = ((dL (n : Int) (s.drop 4)).1, (dL (n : Int) (s.drop 4)).2.1, (dL (n : Int) (s.drop 4)).2.2) from rfl, fC]
                  unfold ia
                  rw [dc (by simp; omega), bh, ca]
                · omega
              · rw [bF h32, if_neg h32]
          · have e : (((decide ((200 : Int) ≤ (n : Int))) && (decide ((n : Int) ≤ 599))) && ((decide ((ls.length : Int) = 0)) || (decide ((n : Int) = c)))) = false := by
              by_cases q : 200 ≤ n
              · rw [decide_eq_false (p := (n : Int) ≤ 599) (by omega), Bool.and_false, gX]
              · rw [decide_eq_false (p := (200 : Int) ≤ (n : Int)) (by omega), gX, gX]
            rw [e, cfl, fb, if_neg hr]
      · rw [decide_eq_false (p := (ls.length : Int) < 100) (by omega), cfl, fb]
        cases hn : fj (s.take 3) with
        | none => rfl
        | some n =>
          simp only
          by_cases hr : 200 ≤ n ∧ n ≤ 599
          · rw [if_pos hr]; simp only; rw [if_neg (fun q => h100 q.1)]
          · rw [if_neg hr]
    · have esg : ((decide (g = 45)) || (decide (g = 32))) = false := by
        rw [decide_eq_false (fun e => hsg (.inl e)), decide_eq_false (fun e => hsg (.inr e))]; rfl
      rw [if_neg (fun q => hsg q.2), esg, gX, cfl, fb]
  · have hd4 : decide ((4 : Int) ≤ (s.length : Int)) = false := decide_eq_false (by omega)
    rw [hd4, jS, bh, gX, jS, bh, gX, gX, iv, cfl, fb, if_neg (fun q => h4 q.1)]
theorem fJ (d : Nat) : ∀ (k : Nat) (c : Int) (ls : List Bs) (a : Nat) (b : Bs), gt k c ls (a + d) b = match gt k c ls a b with | .ok x n => .ok x (n + d) | y => y
  | 0, c, ls, a, b => by
    unfold gt
    cases gV b <;> rfl
  | k + 1, c, ls, a, b => by
    unfold gt
    cases gV b with
    | wait => rfl
    | bad => rfl
    | ok s =>
      simp only
      cases fP s with
      | none => rfl
      | some n =>
        simp only
        by_cases h1 : ls ≠ [] ∧ (n : Int) ≠ c
        · rw [if_pos h1, if_pos h1]
        · rw [if_neg h1, if_neg h1]
          by_cases h2 : at_ s 3 = 32
          · rw [if_pos h2, if_pos h2]
            simp only
            rw [show a + d + (s.length + 2) = a + (s.length + 2) + d by omega]
          · rw [if_neg h2, if_neg h2, show a + d + (s.length + 2) = a + (s.length + 2) + d by omega]
            exact fJ d k _ _ _ _
abbrev LL (F : Nat) (m : Nat) (b : Bs) (st : S5) : Option (S5 × Bool × Bs) := cU F (kk F) m (b, st)
theorem nc (F : Nat) (hF : 2000 < F) (m : Nat) (b : Bs) (a : Nat) (c : Int) (ls : List Bs) (l : List Rp) (u : Int) (hb : b.length ≤ 1000000) (ha : a ≤ 1000000) (hls : ls.length ≤ 100) (hl : l.length ≤ 1000000) :
    LL F (m + 1) b ((a : Int), c, ls, l, u) = match gV b with
      | .wait => some (((a : Int), c, ls, l, u), false, b)
      | .bad => some (((a : Int), c, ls, l, u), true, [])
      | .ok s => match fP s with
        | none => some (((a : Int), c, ls, l, u), true, [])
        | some n => if ls.length < 100 ∧ ¬ (ls ≠ [] ∧ (n : Int) ≠ c) then
            (if at_ s 3 = 32 then LL F m (b.drop (s.length + 2)) (((a + (s.length + 2) : Nat) : Int), 0, [], l ++ [((n : Int), ls ++ [s.drop 4], dL (n : Int) (s.drop 4))], ((a + (s.length + 2) : Nat) : Int))
             else LL F m (b.drop (s.length + 2)) (((a + (s.length + 2) : Nat) : Int), (n : Int), ls ++ [s.drop 4], l, u))
          else some (((a : Int), c, ls, l, u), true, []) := by
  have e : LL F (m + 1) b ((a : Int), c, ls, l, u) = cV F (kk F) (cU F (kk F) m) b ((a : Int), c, ls, l, u) := rfl
  rw [e, mE F _ _ b _ (by omega)]
  cases hb : gV b with
  | wait => rfl
  | bad => rfl
  | ok s =>
    simp only
    obtain ⟨t, _, _, hsl⟩ := ln_ok hb
    rw [kk_eq F hF a c ls l u s hsl (by omega) (by omega) (by omega), bz]
    unfold lineR
    cases fP s with
    | none => rfl
    | some n =>
      simp only
      by_cases h1 : ls.length < 100 ∧ ¬ (ls ≠ [] ∧ (n : Int) ≠ c)
      · simp only [if_pos h1]
        by_cases h2 : at_ s 3 = 32
        · simp only [if_pos h2]; rfl
        · simp only [if_neg h2]; rfl
      · simp only [if_neg h1]; rfl
theorem gj (F : Nat) (hF : 2000 < F) (l : List Rp) (u : Int) (hl : l.length ≤ 1000000) : ∀ (j m : Nat) (b : Bs) (a : Nat) (c : Int) (ls : List Bs), ls.length + j = 100 → b.length < m → a + b.length ≤ 1000000 →
    match gt j c ls a b with
    | .wait => ∃ st b', LL F m b ((a : Int), c, ls, l, u) = some (st, false, b') ∧ st.2.2.2.1 = l ∧ st.2.2.2.2 = u
    | .bad => ∃ st b', LL F m b ((a : Int), c, ls, l, u) = some (st, true, b') ∧ st.2.2.2.1 = l ∧ st.2.2.2.2 = u
    | .ok x n => ∃ m', (b.drop (n - a)).length < m' ∧ a < n ∧ LL F m b ((a : Int), c, ls, l, u) = LL F m' (b.drop (n - a)) ((n : Int), 0, [], l ++ [x], (n : Int))
  | j, 0, b, a, c, ls, hj, hm, ha => by omega
  | 0, m + 1, b, a, c, ls, hj, hm, ha => by
    rw [nc F hF m b a c ls l u (by omega) (by omega) (by omega) hl]
    unfold gt
    cases hb : gV b with
    | wait => exact ⟨_, _, rfl, rfl, rfl⟩
    | bad => exact ⟨_, _, rfl, rfl, rfl⟩
    | ok s =>
      simp only
      cases fP s with
      | none => exact ⟨_, _, rfl, rfl, rfl⟩
      | some n =>
        simp only
        rw [if_neg (fun q => by omega)]
        exact ⟨_, _, rfl, rfl, rfl⟩
  | j + 1, m + 1, b, a, c, ls, hj, hm, ha => by
    rw [nc F hF m b a c ls l u (by omega) (by omega) (by omega) hl]
    unfold gt
    cases hb : gV b with
    | wait => exact ⟨_, _, rfl, rfl, rfl⟩
    | bad => exact ⟨_, _, rfl, rfl, rfl⟩
    | ok s =>
      have hln := ln_len hb
      simp only
      cases fP s with
      | none => exact ⟨_, _, rfl, rfl, rfl⟩
      | some n =>
        simp only
        by_cases h1 : ls ≠ [] ∧ (n : Int) ≠ c
        · have h1' : ¬ (ls.length < 100 ∧ ¬ (ls ≠ [] ∧ (n : Int) ≠ c)) := fun q => q.2 h1
          simp only [if_pos h1, if_neg h1']
          exact ⟨_, _, rfl, rfl, rfl⟩
        · have h1' : ls.length < 100 ∧ ¬ (ls ≠ [] ∧ (n : Int) ≠ c) := ⟨by omega, h1⟩
          simp only [if_neg h1, if_pos h1']
          by_cases h2 : at_ s 3 = 32
          · simp only [if_pos h2]
            refine ⟨m, ?_, by omega, ?_⟩
            · rw [List.length_drop]; omega
            · rw [show a + (s.length + 2) - a = s.length + 2 by omega]
          · simp only [if_neg h2]
            have ih := gj F hF l u hl j m (b.drop (s.length + 2)) (a + (s.length + 2)) (n : Int) (ls ++ [s.drop 4]) (by simp; omega) (by rw [List.length_drop]; omega) (by rw [List.length_drop]; omega)
            cases hq : gt j (n : Int) (ls ++ [s.drop 4]) (a + (s.length + 2)) (b.drop (s.length + 2)) with
            | wait => rw [hq] at ih; exact ih
            | bad => rw [hq] at ih; exact ih
            | ok x n' =>
              rw [hq] at ih
              simp only at ih ⊢
              obtain ⟨m', i1, i2, i3⟩ := ih
              have ed : (b.drop (s.length + 2)).drop (n' - (a + (s.length + 2))) = b.drop (n' - a) := by
                rw [List.drop_drop]; congr 1; omega
              rw [ed] at i1 i3
              exact ⟨m', i1, by omega, i3⟩
theorem nC (F : Nat) (hF : 2000 < F) {b : Bs} {l2 : List Rp} {u : Nat} {bd : Bool} (h : All b l2 u bd) : ∀ (m a : Nat) (l : List Rp), b.length < m → a + b.length ≤ 1000000 → l.length ≤ a →
    ∃ st b', LL F m b ((a : Int), 0, [], l, (a : Int)) = some (st, bd, b') ∧ st.2.2.2.1 = l ++ l2 ∧ st.2.2.2.2 = ((a + u : Nat) : Int) := by
  induction h with
  | @wait b e =>
    intro m a l hm ha hl
    have := gj F hF l (a : Int) (by omega) 100 m b a 0 [] rfl hm ha
    have sh := fJ a 100 0 [] 0 b
    rw [Nat.zero_add, show gt 100 0 [] 0 b = .wait from e] at sh
    rw [sh] at this
    obtain ⟨st, b', h1, h2, h3⟩ := this;exact ⟨st, b', h1, by rw [h2, List.append_nil], by rw [h3]; rfl⟩
  | @bad b e =>
    intro m a l hm ha hl
    have := gj F hF l (a : Int) (by omega) 100 m b a 0 [] rfl hm ha
    have sh := fJ a 100 0 [] 0 b
    rw [Nat.zero_add, show gt 100 0 [] 0 b = .bad from e] at sh
    rw [sh] at this
    obtain ⟨st, b', h1, h2, h3⟩ := this;exact ⟨st, b', h1, by rw [h2, List.append_nil], by rw [h3]; rfl⟩
  | @ok b x n l2 u bd e hr ih =>
    intro m a l hm ha hl
    have hp := one_pos e
    have := gj F hF l (a : Int) (by omega) 100 m b a 0 [] rfl hm ha
    have sh := fJ a 100 0 [] 0 b
    rw [Nat.zero_add, show gt 100 0 [] 0 b = .ok x n from e] at sh
    rw [sh] at this
    simp only at this
    obtain ⟨m', h1, h2, h3⟩ := this
    rw [show n + a - a = n by omega] at h1 h3
    obtain ⟨st, b', g1, g2, g3⟩ := ih m' (n + a) (l ++ [x]) h1 (by rw [List.length_drop]; omega) (by simp; omega);refine ⟨st, b', by rw [h3]; exact g1, by rw [g2, List.append_assoc]; rfl, by rw [g3]; congr 1; omega⟩
theorem all_eq (F : Nat) (hF : 2000 < F) {b : Bs} {l : List Rp} {u : Nat} {bd : Bool} (h : All b l u bd) (hb : b.length ≤ 1000000) (hbF : b.length < F) : fQ F b [] 0 = some (l, (u : Int), bd) := by
  obtain ⟨st, b', h1, h2, h3⟩ := nC F hF h F 0 [] hbF (by omega) (by simp)
  unfold fQ gg fH
  rw [bz]
  have e : cU F (fun (s : S5) x => dr F s.1 s.2.1 s.2.2.1 s.2.2.2.1 s.2.2.2.2 x) F (b, (0, 0, [], [], 0)) = some (st, bd, b') := h1
  rw [e, fC, h2, h3, Nat.zero_add]
  cases bd <;> rfl
theorem put_eq (F : Nat) (hF : 2000 < F) (B b : Bs) {l : List Rp} {u : Nat} {bd : Bool} (h : All (B ++ b) l u bd) (hb : (B ++ b).length ≤ 1000000) (hbF : (B ++ b).length < F) : ik F B false b = some (l, if bd = true then [] else (B ++ b).drop u, bd) := by
  have hle := h.le
  rw [List.length_append] at hb
  unfold ik eJ
  rw [cfl, dc (by omega), bh, all_eq F hF h (by rw [List.length_append]; omega) hbF, fC]
  cases bd with
  | true => rfl
  | false =>
    rw [cfl, fc (by rw [List.length_append]; rw [List.length_append] at hle; omega), bh, from_nat, ld (by rw [List.length_drop, List.length_append]; omega)]
    rfl
theorem read_eq (F : Nat) (hF : 2000 < F) (b : Bs) {l : List Rp} {u : Nat} {bd : Bool} (h : All b l u bd) (hb : b.length ≤ 1000000) (hbF : b.length < F) : fE F b = some (if bd = true ∨ u < b.length then ([], 2) else (l, 0)) := by
  have hle := h.le
  have hp := put_eq F hF [] b h hb hbF
  unfold fE il im ib
  rw [bz, hp, fC, bz]
  cases bd with
  | true => rfl
  | false =>
    rw [nfl, mT, bz, fo]
    simp only [Bool.false_eq_true, if_false, false_or]
    by_cases hu : u < b.length
    · rw [bT (by rw [List.nil_append, List.length_drop]; omega), if_pos hu]
    · rw [bF (by rw [List.nil_append, List.length_drop]; omega), if_neg hu]
end Go.Rp
namespace Go.Rp
open Go.Pv Go.Av
open Go.Dg (cfl ctr gr gX fo nfl ntr)
theorem nv (a : List Bs) (ha : a.length ≤ 1000000) : ∀ (n i : Nat), a.length - i < n → i ≤ a.length → dk a a n (i : Int) = some true := by
  intro n
  induction n with
  | zero => intro i h; omega
  | succ n ih =>
    intro i hn hi;show dl a a (dk a a n) (i : Int) = _
    unfold dl
    by_cases h : i < a.length
    · rw [bT (by omega), bE (by omega), bh, bE (by omega), bh, decide_eq_true rfl, ntr, cfl, cr (by omega), eG]
      exact ih (i + 1) (by omega) (by omega)
    · rw [bF (by omega)]; rfl
theorem nu (F : Nat) (a : List Bs) (ha : a.length ≤ 1000000) (hF : a.length < F) : eO F a a = some true := by
  unfold eO
  rw [decide_eq_true rfl, ntr, cfl]
  exact nv a ha F 0 (by omega) (by omega)
theorem nB (F : Nat) (hF : 2000 < F) (l : List Rp) (hl : l.length ≤ 1000000) (h : ∀ x ∈ l, x.2.1.length ≤ 1000) : ∀ (n i : Nat), l.length - i < n → i ≤ l.length → di F l l n (i : Int) = some true := by
  intro n
  induction n with
  | zero => intro i h; omega
  | succ n ih =>
    intro i hn hi;show dj F l l (di F l l n) (i : Int) = _
    unfold dj
    by_cases hlt : i < l.length
    · have hm := h _ (List.getElem_mem hlt)
      rw [bT (by omega), bE (by omega), bh, bE (by omega), bh, dP hlt]
      unfold fI
      rw [nu F _ (by omega) (by omega), bz, bz, m3_eq, decide_eq_true rfl, decide_eq_true rfl, gr, gr, ntr, cfl, cr (by omega), eG]
      exact ih (i + 1) (by omega) (by omega)
    · rw [bF (by omega)]; rfl
theorem nA (F : Nat) (hF : 2000 < F) (l : List Rp) (hl : l.length ≤ 1000000) (hlF : l.length < F) (h : ∀ x ∈ l, x.2.1.length ≤ 1000) : eN F l l = some true := by
  unfold eN
  rw [decide_eq_true rfl, ntr, cfl]
  exact nB F hF l hl h F 0 (by omega) (by omega)
theorem nz {x : Rp} (h : mayX x = true) : x.2.1.length ≤ 100 := (may_s h).2.1.2
theorem few_loop (ls : List Bs) (h : ls.length ≤ 120) : ∀ (n i : Nat), ls.length - i < n → i ≤ ls.length → ∃ f, dH ls n (i : Int) = some f ∧ (f = true → ∀ s ∈ ls.drop i, s.length ≤ 600) := by
  intro n
  induction n with
  | zero => intro i h; omega
  | succ n ih =>
    intro i hn hi;show ∃ f, dI ls (dH ls n) (i : Int) = some f ∧ _
    unfold dI
    by_cases hlt : i < ls.length
    · rw [bT (by omega), bE (by omega), bh, dP hlt]
      by_cases h6 : 600 < (ls[i]).length
      · rw [bT (by omega)]; exact ⟨false, rfl, fun g => by cases g⟩
      · rw [bF (by omega), cr (by omega), eG]
        obtain ⟨f, h1, h2⟩ := ih (i + 1) (by omega) (by omega);refine ⟨f, h1, fun g s hs => ?_⟩
        rw [aU hlt] at hs
        rcases List.mem_cons.1 hs with rfl | hs
        · omega
        · exact h2 g s hs
    · rw [bF (by omega), aO (by omega)]; exact ⟨true, rfl, fun _ s hs => by cases hs⟩
theorem few_eq (F : Nat) (hF : 2000 < F) (c : Int) (ls : List Bs) (m0 m1 m2 : Int) : ∃ f, fB F c ls m0 m1 m2 = some f ∧ (f = true → ls.length ≤ 120 ∧ ∀ s ∈ ls, s.length ≤ 600) := by
  unfold fB
  by_cases h : 120 < ls.length
  · rw [bT (by omega)]; exact ⟨false, rfl, fun g => by cases g⟩
  · rw [bF (by omega)]
    obtain ⟨f, h1, h2⟩ := few_loop ls (by omega) F 0 (by omega) (by omega);exact ⟨f, h1, fun g => ⟨by omega, h2 g⟩⟩
theorem awake_eq : ef 2000000 = some true := by decide +kernel
theorem wr_len (d : Bs) (hd : d.length ≤ 4) : ∀ ls : List Bs, (∀ s ∈ ls, s.length ≤ 506) → (wrL d ls).length ≤ 513 * ls.length
  | [], _ => by simp [wrL]
  | s :: r, h => by
    have h1 := h s (by simp)
    have h2 := wr_len d hd r fun x hx => h x (by simp [hx])
    unfold wrL lnW
    simp; omega
theorem mV {x : Rp} (h : mayX x = true) : (wrX x).length ≤ 51300 := by
  obtain ⟨⟨h1, h2⟩, ⟨h3, h4⟩, h5, _⟩ := may_s h
  have := wr_len (Go.Lib.decDigits x.1.toNat) (dd4 _ (by omega)) x.2.1 fun s hs => lk (h5 s hs)
  show (wrL _ _).length ≤ _
  omega
end Go.Rp
namespace Go.Rp
open Go.Pv Go.Av
open Go.Dg (cfl ctr gr gX fo nfl ntr)
theorem mn : ∀ l : List Rp, (∀ x ∈ l, mayX x = true) → (l.map wrX).flatten.length ≤ 51300 * l.length
  | [], _ => by simp
  | x :: l, h => by
    have h1 := mV (h x (by simp))
    have h2 := mn l fun y hy => h y (by simp [hy])
    rw [List.map_cons, List.flatten_cons, List.length_append, List.length_cons]; omega
theorem om (F : Nat) (hF : 1000000 < F) (l : List Rp) (hl : l.length ≤ 6) : ∀ (n i : Nat), l.length - i < n → i ≤ l.length → (∀ x ∈ l.take i, mayX x = true) →
    cl F l n (((l.take i).map wrX).flatten, (i : Int)) = some true := by
  intro n
  induction n with
  | zero => intro i h; omega
  | succ n ih =>
    intro i hn hi hm;show cm F l (cl F l n) ((l.take i).map wrX).flatten (i : Int) = _
    unfold cm
    have hfl := mn _ hm
    have htl : (l.take i).length ≤ 6 := by rw [List.length_take]; omega
    by_cases h : i < l.length
    · rw [bT (by omega), bE (by omega), bh, dP h]
      obtain ⟨f, hf, _⟩ := few_eq F (by omega) (l[i]).1 (l[i]).2.1 (l[i]).2.2.1 (l[i]).2.2.2.1 (l[i]).2.2.2.2
      rw [hf, bz, bE (by omega), bh, write_eq F (by omega)]
      cases hq : mayB (l[i]).1 (l[i]).2.1 ((l[i]).2.2.1, (l[i]).2.2.2.1, (l[i]).2.2.2.2) with
      | false =>
        rw [if_neg (by decide), ca, show decide ((1 : Int) = 0) = false from rfl, nfl, Bool.or_true, ctr]
      | true =>
        rw [if_pos rfl, ca, show decide ((0 : Int) = 0) = true from rfl, ntr, Bool.or_false]
        cases f with
        | false => rfl
        | true =>
          have hx := mV (x := l[i]) hq
          have hx' : (wrA (l[i]).1 (l[i]).2.1).length ≤ 51300 := hx
          rw [ntr, cfl, dc (by omega), bh, cr (by omega), eG]
          have ht : l.take (i + 1) = l.take i ++ [l[i]] := List.take_succ_eq_append_getElem h
          have := ih (i + 1) (by omega) (by omega) (fun x hxm => by
            rw [ht] at hxm
            rcases List.mem_append.1 hxm with g | g
            · exact hm x g
            · rw [List.mem_singleton.1 g]; exact hq)
          rw [ht, List.map_append, List.flatten_append] at this
          simpa [wrX] using this
    · have hi' : i = l.length := by omega
      subst hi'
      rw [List.take_length] at hm hfl ⊢
      rw [bF (by omega)]
      unfold ck
      have hA := All.wr l hm
      rw [read_eq F (by omega) _ hA (by omega) (by omega), if_neg (by simp), ca, nA F (by omega) l (by omega) (by omega) (fun x hx => by have := nz (hm x hx); omega), bz]
      rfl
theorem lY (F : Nat) (hF : 1000000 < F) (hw : ef F = some true) (l : List Rp) : cP F l = some true := by
  unfold cP
  rw [hw, bz, ntr, fo]
  by_cases h : 6 < l.length
  · rw [bT (by omega)]
  · rw [bF (by omega)]
    have := om F hF l (by omega) F 0 (by omega) (by omega) (by simp)
    exact this
theorem ReplyBack_t (l : List Rp) : cP 2000000 l = some true := lY 2000000 (by omega) awake_eq l
end Go.Rp
namespace Go.Av
open Go.RowKit Go.ChangeShapes Go.WideShapes
section
variable {H : Type} {enc : TypeId × Value → H} {P : Program} {w : World}
def gq {H : Type} (enc : TypeId × Value → H) (P : Program) (w : World) (t : TypeId) {α : Type} (E : α → List AV) (p : α → Prop) : Prop :=
  ∀ fuel cs d, DataW.trod enc P w 0 (fun _ => true) true fuel t cs = some d → ∃ x, p x ∧ RelL (Info.start w) w (E x) cs
theorem opens_int {t : TypeId} {k : IntKind} (ht : P.underlying t = some (.int k)) : gq enc P w t (fun n : Int => [.v (.int k n)]) (fun n => (Lit.int k n).wf = true) := by
  intro fuel cs d h;obtain ⟨n, rfl, _, hw⟩ := DataW.trod_int ht h;exact ⟨n, hw, .cons (.v _) .nil⟩
theorem opens_strs {t e : TypeId} (ht : P.underlying t = some (.slice e)) (he : P.underlying e = some .string) (hc : P.cellsOf e = 1) :
    gq enc P w t (fun l : List (List UInt8) => [slE Enc.str l none]) (fun l => l.length ≤ maxLen ∧ ∀ s ∈ l, s.length ≤ maxLen) := by
  intro fuel cs d h
  rcases open_strings ht he hc h with ⟨rfl, _⟩ | ⟨x, len, cap, zs, rfl, _, hl, hm, hz, _, hcell, hw⟩
  · exact ⟨[], ⟨by simp, by simp⟩, .cons (.slz _ _ _) .nil⟩
  · simp only [if_true] at hz
    have hll : ((zs.take len).map fun s => s.data.toList).length = len := by simp; omega
    refine ⟨(zs.take len).map fun s => s.data.toList, ⟨by rw [hll]; omega, fun n hn => ?_⟩, .cons ?_ .nil⟩
    · obtain ⟨s, hs, rfl⟩ := List.mem_map.1 hn
      simpa using hw s (List.mem_of_mem_take hs)
    have := rel_row (w := w) Enc.str (fun s => .string ⟨s.toArray⟩) (fun _ => rfl) ((zs.take len).map fun s => s.data.toList) x cap (by omega) (fun i hi => by
      rw [hll] at hi
      rw [hcell i (by omega)]
      simp [List.getD, show i < zs.length by omega])
    rw [hll] at this
    exact this
theorem add_add (a : Addr) (m r : Nat) : (a.add m).add r = a.add (m + r) := by
  unfold Addr.add
  by_cases hm : m = 0
  · subst hm; simp
  · by_cases hr : r = 0
    · subst hr; simp
    · simp [hm, hr, Nat.add_assoc]
theorem opens_slice {t e : TypeId} {α β : Type} {E : α → List AV} {p : α → Prop} (G : Enc β) (g : α → β) (ht : P.underlying t = some (.slice e)) (hc : P.cellsOf e = G.k)
    (h : gq enc P w e E p) (hg : ∀ x, E x = G.f (g x)) : gq enc P w t (fun l : List β => [slE G l none]) (fun l => l.length ≤ maxLen ∧ ∀ y ∈ l, ∃ x, g x = y ∧ p x) := by
  intro fuel cs d hd
  rcases DataW.trod_slice ht hd with ⟨rfl, _⟩ | ⟨a, len, cap, elems, rest, n, _, rfl, _, _, hl, hm, hlen, hel, _, _⟩
  · exact ⟨[], ⟨by simp, by simp⟩, .cons (.slz _ _ _) .nil⟩
  · have go : ∀ r i, i + r = len → ∃ (l : List β) (vs : List Value), (l.length = r ∧ ∀ y ∈ l, ∃ x, g x = y ∧ p x) ∧ RelL (Info.start w) w (G.fl l) vs ∧ ∀ j, j < vs.length → w.cell? (a.add (i * G.k + j)) = vs[j]? := by
      intro r
      induction r with
      | zero => intro i hi; exact ⟨[], [], ⟨rfl, by simp⟩, .nil, fun j hj => by simp at hj⟩
      | succ r ih =>
        intro i hi
        have hb := hel i (by omega)
        rw [ao (by omega), Option.bind_eq_some_iff] at hb
        obtain ⟨cs', hcs, hy⟩ := hb
        rw [hc] at hcs
        obtain ⟨_, hcl, hce⟩ := World.cells?_some hcs;obtain ⟨x, hx, rx⟩ := h _ _ _ hy
        rw [hg] at rx
        obtain ⟨l, vs, ⟨l1, l2⟩, rl, hv⟩ := ih (i + 1) (by omega);refine ⟨g x :: l, cs' ++ vs, ⟨by simp [l1], fun y hy => ?_⟩, by rw [G.fl_cons]; exact rx.append rl, fun j hj => ?_⟩
        · rcases List.mem_cons.1 hy with rfl | hy
          · exact ⟨x, rfl, hx⟩
          · exact l2 y hy
        · by_cases hjk : j < G.k
          · have := hce j hjk
            rw [add_add] at this
            rw [this, List.getElem?_append_left (by omega)]
          · have := hv (j - G.k) (by simp at hj; omega)
            rw [List.getElem?_append_right (by omega), hcl, ← this, Nat.succ_mul]
            congr 2; omega
    obtain ⟨l, vs, ⟨l1, l2⟩, rl, hv⟩ := go len 0 (by omega);refine ⟨l, ⟨by omega, l2⟩, .cons ?_ .nil⟩
    by_cases h0 : l = []
    · subst h0
      simp at l1
      subst l1;exact .slz _ _ _
    · have hlp := List.length_pos_iff.2 h0
      have hvl : vs.length = len * G.k := by rw [rl.1, G.fl_length, l1]
      have hpos := G.pos
      have hv0 : 0 < vs.length := by rw [hvl]; exact Nat.mul_pos (by omega) hpos
      have hx0 := hv 0 hv0
      rw [ao hv0, Nat.zero_mul] at hx0
      obtain ⟨hb, hs⟩ := ll hx0
      have hx : a = ⟨a.block, a.off, none⟩ := by
        have : a.add (0 + 0) = a := rfl
        rw [this] at hs
        cases a; simp at hs; subst hs; rfl
      have hb' : a.block < w.heap.size := hb
      rw [hx]
      have hadd : ∀ i, w.cell? ⟨a.block, a.off + i, none⟩ = w.cell? (a.add i) := fun i => by
        unfold Addr.add
        by_cases h : i = 0
        · rw [if_pos h]; subst h; rw [Nat.add_zero, ← hx]
        · rw [if_neg h]
      unfold slE
      have hfl : (G.fl l).length = vs.length := rl.1.symm
      refine .sl G.k (G.fl l) none a.block a.off len cap (fun j => vs.getD j undef) G.pos (by rw [hfl, hvl]) hl (gL hb') ?_ ?_ (fun _ h => by cases h)
      · intro j hj
        have := hv j (by omega)
        rw [Nat.zero_mul, Nat.zero_add] at this
        rw [hadd j, this, ao (by omega)]
        simp [List.getD, show j < vs.length by omega]
      · intro j hj
        have := rl.2 j hj
        simpa [List.getD, show j < vs.length by omega] using this
def lx {H : Type} (enc : TypeId × Value → H) (P : Program) (w : World) (tot off : Nat) (fs : List Field) {α : Type} (E : α → List AV) (p : α → Prop) : Prop :=
  ∀ (n : Nat) (cs : List Value), cs.length = tot → (∀ f ∈ fs, ∃ d, DataW.trod enc P w 0 (fun _ => true) true n f.type ((cs.drop f.offset).take (P.cellsOf f.type)) = some d) → ∃ x, p x ∧ RelL (Info.start w) w (E x) (cs.drop off)
theorem opensF_nil {tot : Nat} : lx enc P w tot tot [] (fun _ : Unit => []) (fun _ => True) := fun n cs hl _ => ⟨(), trivial, by rw [aO (by omega)]; exact .nil⟩
theorem opensF_cons {tot off k : Nat} {f : Field} {fs : List Field} {α β : Type} {E : α → List AV} {p : α → Prop} {F : β → List AV} {q : β → Prop} (ho : f.offset = off) (hk : P.cellsOf f.type = k)
    (h : gq enc P w f.type E p) (g : lx enc P w tot (off + k) fs F q) : lx enc P w tot off (f :: fs) (fun x : α × β => E x.1 ++ F x.2) (fun x => p x.1 ∧ q x.2) := by
  intro n cs hl H;obtain ⟨d, hd⟩ := H f (by simp);obtain ⟨x, hx, rx⟩ := h _ _ _ hd
  obtain ⟨y, hy, ry⟩ := g n cs hl fun f' hf' => H f' (by simp [hf'])
  refine ⟨(x, y), ⟨hx, hy⟩, ?_⟩
  rw [ho, hk] at rx
  have := rx.append ry
  rwa [← List.drop_drop, List.take_append_drop] at this
theorem opens_struct {t : TypeId} {fs : Array Field} {tot : Nat} {α : Type} {E : α → List AV} {p : α → Prop} (ht : P.underlying t = some (.struct fs)) (hc : P.cellsOf t = tot) (h : lx enc P w tot 0 fs.toList E p) :
    gq enc P w t E p := by
  intro fuel cs d hd;obtain ⟨xs, n, _, _, hl, hlen, each⟩ := DataW.trod_struct ht hd
  obtain ⟨x, hx, rx⟩ := h n cs (by omega) fun f hf => by
    obtain ⟨i, hi, rfl⟩ := List.getElem_of_mem hf
    have hi' : i < fs.size := by simpa using hi
    rw [each i _ (by simp [hi'])]
    exact ⟨xs[i]'(by omega), ao _⟩
  exact ⟨x, hx, by simpa using rx⟩
theorem lI {t e : TypeId} {m c : Nat} {α : Type} {E : α → List AV} {p : α → Prop} (ht : P.underlying t = some (.array m e)) (hc : P.cellsOf e = c) (ht' : P.cellsOf t = m * c) (h : gq enc P w e E p) :
    gq enc P w t (fun l : List α => l.flatMap E) (fun l => l.length = m ∧ ∀ x ∈ l, p x) := by
  intro fuel cs d hd;obtain ⟨xs, n, _, _, hl, hlen, each⟩ := DataW.trod_array ht hd
  have go : ∀ r i, i + r = m → ∃ l : List α, (l.length = r ∧ ∀ x ∈ l, p x) ∧ RelL (Info.start w) w (l.flatMap E) (cs.drop (i * c)) := by
    intro r
    induction r with
    | zero => intro i hi; exact ⟨[], ⟨rfl, by simp⟩, by rw [aO (by rw [hl, ht', show i = m by omega]; exact Nat.le_refl _)]; exact .nil⟩
    | succ r ih =>
      intro i hi
      have hd := each i (by omega)
      rw [ao (by omega), hc] at hd
      obtain ⟨x, hx, rx⟩ := h _ _ _ hd;obtain ⟨l, ⟨hl1, hl2⟩, rl⟩ := ih (i + 1) (by omega);refine ⟨x :: l, ⟨by simp [hl1], by simpa using ⟨hx, hl2⟩⟩, ?_⟩
      have := rx.append rl
      rw [Nat.succ_mul, ← List.drop_drop, List.take_append_drop] at this
      simpa using this
  obtain ⟨l, hl', rl⟩ := go m 0 (by omega);exact ⟨l, hl', by simpa using rl⟩
theorem one_of {t : TypeId} {v : Value} {d : DataW H} {ps : List MemPlace} {α : Type} {E : α → AV} {p : α → Prop} (hv : v.cells = #[v]) (hd : DataW.Trod enc P w 0 (fun _ => true) true t v d ps) (h : gq enc P w t (fun x => [E x]) p) :
    ∃ x, p x ∧ Rel (Info.start w) w (E x) v := by
  obtain ⟨fuel, hf⟩ := hd;obtain ⟨x, hx, rx⟩ := h _ _ _ hf
  rw [hv] at rx
  exact ⟨x, hx, rx.head⟩
theorem jO {α : Type} {l : List α} {n : Nat} (h : l.length = n + 1) : ∃ a l', l = a :: l' ∧ l'.length = n := by
  cases l with
  | nil => simp at h
  | cons a l => exact ⟨a, l, rfl, by simpa using h⟩
theorem len_nil {α : Type} {l : List α} (h : l.length = 0) : l = [] := List.eq_nil_of_length_eq_zero h
end
end Go.Av
namespace Go.Av
open Go.RowKit Go.ChangeShapes Go.WideShapes
theorem opens_array3 {H : Type} {enc : TypeId × Value → H} {P : Program} {w : World} {t e : TypeId} {c : Nat} {α : Type} {E : α → List AV} {p : α → Prop} (ht : P.underlying t = some (.array 3 e)) (hc : P.cellsOf e = c) (ht' : P.cellsOf t = 3 * c) (h : gq enc P w e E p) :
    gq enc P w t (fun x : α × α × α × Unit => E x.1 ++ (E x.2.1 ++ (E x.2.2.1 ++ []))) (fun x => p x.1 ∧ p x.2.1 ∧ p x.2.2.1 ∧ True) := by
  intro fuel cs d hd;obtain ⟨l, ⟨hl, hp⟩, r⟩ := lI (m := 3) ht hc ht' h fuel cs d hd;obtain ⟨a, l1, rfl, h1⟩ := jO hl;obtain ⟨b, l2, rfl, h2⟩ := jO h1;obtain ⟨c', l3, rfl, h3⟩ := jO h2;obtain rfl := len_nil h3;exact ⟨(a, b, c', ()), ⟨hp a (by simp), hp b (by simp), hp c' (by simp), trivial⟩, r⟩
end Go.Av
