/-
  Texts in one (only what ReplyCuts needs): RepAW, RepLP, RepLW, LReplyCutsP, LReplyCutsW, DgN, RpA, RpC, RepRP, RpB, RpSp, RpM, RpW, RpL, RpI, RpT, RpCuts, AvOpen.
-/
import Derived.Test.YtimpbfniegimaaaDoorZReplyCuts2
import Derived.Test.YtimpbfniegimaaaDoorShelf
import Derived.Lib.ItoaNum
import Derived.Lib.IndexLaws
import Derived.Test.YtimpbfniegimaaaDoorChecked
import Derived.Laws.RangeAny
import Derived.Lib.IndexAny
import Derived.Lib.SplitLaws
import Derived.Lib.IndexBytes
import Derived.RowKit
import Derived.OpenShut
import Derived.ChangeSlices
import Derived.SliceStrings
set_option linter.unusedVariables false
set_option linter.unusedSimpArgs false
namespace Go.Proofs.YtimpbfniegimaaaDoor
open Go.RowKit Go.Av Go.Pv
theorem en9_repa : ∀ (args : Array Value) (w : World), (callFunc 9 args).run Tryd.prog w = .ok (.enter 9 args) w := fun _ _ => by kernel_rfl
theorem nL : ∀ (args : Array Value) (w : World), (callFunc 10 args).run Tryd.prog w = .ok (.enter 10 args) w := fun _ _ => by kernel_rfl
theorem nK : ∀ (args : Array Value) (w : World), (callFunc 13 args).run Tryd.prog w = .ok (.enter 13 args) w := fun _ _ => by kernel_rfl
theorem nI : ∀ (args : Array Value) (w : World), (callFunc 14 args).run Tryd.prog w = .ok (.enter 14 args) w := fun _ _ => by kernel_rfl
theorem kB : ∀ (args : Array Value) (w : World), (callFunc 22 args).run Tryd.prog w = .ok (.enter 22 args) w := fun _ _ => by kernel_rfl
theorem bU : ∀ (args : Array Value) (w : World), (callFunc 23 args).run Tryd.prog w = .ok (.enter 23 args) w := fun _ _ => by kernel_rfl
theorem kA : ∀ (args : Array Value) (w : World), (callFunc 24 args).run Tryd.prog w = .ok (.enter 24 args) w := fun _ _ => by kernel_rfl
theorem nF : ∀ (args : Array Value) (w : World), (callFunc 25 args).run Tryd.prog w = .ok (.enter 25 args) w := fun _ _ => by kernel_rfl
theorem nD : ∀ (args : Array Value) (w : World), (callFunc 27 args).run Tryd.prog w = .ok (.enter 27 args) w := fun _ _ => by kernel_rfl
theorem nC : ∀ (args : Array Value) (w : World), (callFunc 32 args).run Tryd.prog w = .ok (.enter 32 args) w := fun _ _ => by kernel_rfl
theorem kz : ∀ (args : Array Value) (w : World), (callFunc 33 args).run Tryd.prog w = .ok (.enter 33 args) w := fun _ _ => by kernel_rfl
theorem nB : ∀ (args : Array Value) (w : World), (callFunc 34 args).run Tryd.prog w = .ok (.enter 34 args) w := fun _ _ => by kernel_rfl
theorem dA : ∀ (args : Array Value) (w : World), (callFunc 35 args).run Tryd.prog w = .ok (.enter 35 args) w := fun _ _ => by kernel_rfl
theorem ky : ∀ (args : Array Value) (w : World), (callFunc 36 args).run Tryd.prog w = .ok (.enter 36 args) w := fun _ _ => by kernel_rfl
theorem nz : ∀ (args : Array Value) (w : World), (callFunc 43 args).run Tryd.prog w = .ok (.enter 43 args) w := fun _ _ => by kernel_rfl
theorem ny : ∀ (args : Array Value) (w : World), (callFunc 44 args).run Tryd.prog w = .ok (.enter 44 args) w := fun _ _ => by kernel_rfl
theorem nx : ∀ (args : Array Value) (w : World), (callFunc 45 args).run Tryd.prog w = .ok (.enter 45 args) w := fun _ _ => by kernel_rfl
theorem iw : ∀ (args : Array Value) (w : World), (callFunc 46 args).run Tryd.prog w = .ok (.enter 46 args) w := fun _ _ => by kernel_rfl
theorem nw : ∀ (args : Array Value) (w : World), (callFunc 47 args).run Tryd.prog w = .ok (.enter 47 args) w := fun _ _ => by kernel_rfl
set_option maxRecDepth 100000 in
set_option maxHeartbeats 1000000 in
theorem dB (F : Nat) (a1 : List UInt8) (q2 : Option Nat) (a3 : UInt8) (r4 : Int) (H : cQ F a1 a3 = some r4) : ACalls Tryd.prog 46 [slE Enc.byte a1 q2, u8 a3] [] (Ret (i64 r4) []) := by
 unfold cQ at H
 refine aA Tryd.func46 rfl rfl ?_;show AW _ _ 8 _ _ _;refine af <| aa ?_;show AR _ _ _ _ _ [0] _;refine za rfl <| ah <| af ?_;obtain ⟨x5, e6, H⟩ := bM H;refine aa ?_;show AR _ _ _ _ _ [0, 1, 2, 3] _;refine zS rfl (au (av := slE _ _ _) rfl) <| zm rfl <| zR rfl (show OpR _ _ _ _ (i64 x5) _ from by subst e6; exact ke ⟨Tryd.func57, by kernel_rfl, by kernel_rfl, by kernel_rfl, by kernel_rfl⟩ rfl rfl) <| za rfl <| ah <| aM ?_;obtain rfl := ak H;exact And.intro rfl (Exists.intro _ (Exists.intro _ ⟨aI rfl (.refl _), aC [] rfl, rfl, rfl⟩))
set_option maxRecDepth 100000 in
set_option maxHeartbeats 1000000 in
theorem hH (F : Nat) (a1 : List UInt8) (r2 : Int) (r3 : Bool) (H : dQ F a1 = some (r2, r3)) : ACalls Tryd.prog 36 [S a1] [] (Ret (.tup [i64 r2, B r3]) []) := by
 unfold dQ at H
 refine aA Tryd.func36 rfl rfl ?_;show AW _ _ 29 _ _ _;refine af <| aa ?_;show AR _ _ _ _ _ [0, 1] _;refine za rfl <| za rfl <| ah <| af ?_;obtain ⟨x4, x5, e6, H⟩ := gi H;refine aa ?_;show AR _ _ _ _ _ [0, 1, 2, 3, 4, 5, 6] _;refine zm rfl <| aX rfl rfl (aO rfl nw rfl (jp F a1 x4 x5 e6) ?_);refine zS rfl (au (av := .tup _) rfl) <| zS rfl (aK (av := .v _) rfl rfl) <| zS rfl (aK (av := eAny _ _) rfl rfl) <| za rfl <| zS rfl (aG (av := eAny _ _) rfl) <| ah <| af ?_;obtain ⟨g9, H⟩ := cZ H;obtain ⟨x10, e11, H⟩ := bM H;refine aa ?_;show AR _ _ _ _ _ [0, 1, 2, 3, 4, 5, 6, 7, 8, 9, 10, 11, 12, 13, 14, 15, 16, 17, 18, 19] _;refine zm rfl <| zS rfl (au (av := eAny _ _) rfl) <| zS rfl (mw cy rfl rfl) <| zm rfl <| aD (l := [8, 9, 10, 11, 12, 13, 14, 15, 16, 17, 18, 19]) 18 (B ((decide (x5 = 0)) && (decide ((a1.length : Int) ≤ 3)))) (fun K => ?_) ?_
 ·rcases ac (decide (x5 = 0)) with h7 | h7
  ·refine zM h7 rfl <| zU h7 rfl (br aj rfl) <| zU h7 rfl (dn rfl rfl) <| zS rfl (aq (av := .v _) rfl h7 rfl) ?_;exact K _ 3 _ (an (bu h7)) rfl rfl
  ·refine zF h7 rfl <| zF h7 rfl <| zF h7 rfl <| zS rfl (ap (av := .v _) rfl h7 rfl) ?_;exact K _ 3 _ (an (bw h7)) rfl rfl
 refine zm rfl <| aD (l := [14, 15, 16, 17, 18, 19]) 24 (B (((decide (x5 = 0)) && (decide ((a1.length : Int) ≤ 3))) && (decide (x10 = a1)))) (fun K => ?_) ?_
 ·rcases ac ((decide (x5 = 0)) && (decide ((a1.length : Int) ≤ 3))) with h8 | h8
  ·refine zM h8 rfl <| zT h8 rfl (aO rfl nD rfl (show ACalls _ _ _ [] (Ret (S x10) []) from by subst e11; exact lA x4 (mg (g9 h8))) ?_);refine zM h8 rfl <| zU h8 rfl (jj rfl rfl) <| zS rfl (aq (av := .v _) rfl h8 rfl) ?_;exact K _ 4 _ (an (bu h8)) rfl rfl
  ·refine zF h8 rfl <| zF h8 rfl <| zF h8 rfl <| zF h8 rfl <| zS rfl (ap (av := .v _) rfl h8 rfl) ?_;exact K _ 4 _ (an (bw h8)) rfl rfl
 refine zm rfl <| aD (l := [18, 19]) 28 (B ((((decide (x5 = 0)) && (decide ((a1.length : Int) ≤ 3))) && (decide (x10 = a1))) && (decide (0 ≤ x4)))) (fun K => ?_) ?_
 ·rcases ac (((decide (x5 = 0)) && (decide ((a1.length : Int) ≤ 3))) && (decide (x10 = a1))) with h12 | h12
  ·refine zM h12 rfl <| zU h12 rfl (dY rfl rfl) <| zS rfl (aq (av := .v _) rfl h12 rfl) ?_;exact K _ 2 _ (an (bu h12)) rfl rfl
  ·refine zF h12 rfl <| zF h12 rfl <| zS rfl (ap (av := .v _) rfl h12 rfl) ?_;exact K _ 2 _ (an (bw h12)) rfl rfl
 refine za rfl <| za rfl <| ah <| aM ?_;obtain ⟨rfl, rfl⟩ := ff H;exact And.intro rfl (Exists.intro _ (Exists.intro _ ⟨bm rfl (.refl _) (.refl _), aC [] rfl, rfl, rfl⟩))
abbrev _root_.Go.Av.ao := @Tryd.underlying35
abbrev _root_.Go.Av.aJ := @Tryd.underlying36
set_option maxRecDepth 100000 in
set_option maxHeartbeats 1000000 in
theorem jy (F : Nat) (a1 : Int) (a2 : List UInt8) (r3 : Int) (r4 : Int) (r5 : Int) (H : fa F a1 a2 = some (r3, r4, r5)) : ACalls Tryd.prog 33 [i64 a1, S a2] [] (Ret (.agg [i64 r3, i64 r4, i64 r5]) []) := by
 unfold fa at H
 refine aA Tryd.func33 rfl rfl ?_;show AW _ _ 57 _ _ _;refine af <| aa ?_;show AR _ _ _ _ _ [0] _;refine zX rfl (dS (zs := [.int .i64 0, .int .i64 0, .int .i64 0]) (by kernel_rfl)) ?_;rintro _ _ ⟨o6, rfl, rfl⟩;refine ah <| af ?_;obtain ⟨g7, H⟩ := aL H;obtain ⟨x8, e9, H⟩ := bM H;refine aa ?_;show AR _ _ _ _ _ [0, 1, 2, 3, 4, 5, 6, 7, 8] _;refine zm rfl <| aX rfl rfl (aO rfl nz rfl (show ACalls _ _ _ [] (Ret (.tup [S x8.1, S x8.2.1, B x8.2.2]) []) from by subst e9; exact lib_Cut a2 ([32] : List UInt8) (dJ g7)) ?_);refine zS rfl (au (av := .tup _) rfl) <| zS rfl (aK (av := .v _) rfl rfl) <| zS rfl (aK (av := .v _) rfl rfl) <| zS rfl (aK (av := .v _) rfl rfl) <| za rfl <| za rfl <| za rfl <| ah <| af ?_;obtain ⟨g10, H⟩ := aL H;obtain ⟨g11, H⟩ := aL H;obtain ⟨x12, e13, H⟩ := bM H;refine aa ?_;show AR _ _ _ _ _ [0, 1, 2] _;refine zm rfl <| aX rfl rfl (aO rfl ny rfl (show ACalls _ _ _ [] (Ret (slE Enc.str x12 none) []) from by subst e13; exact nq x8.1 ([46] : List UInt8) (dJ g10) (of_decide_eq_true g11)) ?_);refine zS rfl (aG (av := slE _ _ _) rfl) <| ah <| af <| af ?_;obtain ⟨g15, H⟩ := cZ H;refine aa ?_;show AR _ _ _ _ _ [0, 1, 2, 3, 4, 5, 6, 7] _;refine zS rfl (au (av := slE _ _ _) rfl) <| zS rfl (aN ao rfl) <| zS rfl (gj rfl rfl) <| zm rfl <| aD (l := []) 28 (B ((!decide ((x12.length : Int) = 3)) || (decide (a1 / 100 = 3)))) (fun K => ?_) ?_
 ·rcases ac (!decide ((x12.length : Int) = 3)) with h14 | h14
  ·refine zF h14 rfl <| zF h14 rfl <| zF h14 rfl <| zS rfl (aq (av := .v _) rfl h14 rfl) ?_;exact K _ 3 _ (an (fI h14)) rfl rfl
  ·refine zM h14 rfl <| zU h14 rfl (g_quo rfl rfl (g15 (nf h14))) <| zU h14 rfl (bz rfl rfl) <| zS rfl (ap (av := .v _) rfl h14 rfl) ?_;exact K _ 3 _ (an (fJ h14)) rfl rfl
 refine ah <| ay rfl (fun c16 => ?_) (fun c16 => ?_)
 ·replace H := ba c16 H;refine af <| aa ?_;show AR _ _ _ _ _ [0, 1] _;refine zR rfl (dF (i := 0) (n := 3) aJ rfl (by kernel_rfl) rfl rfl (ab rfl)) <| s0 rfl rfl (cA (i := 0) (vs := [i64 0, i64 0, i64 0]) (by kernel_rfl) rfl rfl (by simp [bA, slE]) rfl (ab rfl)) <| ah <| aM ?_;obtain ⟨rfl, rfl, rfl⟩ := jh H;exact And.intro rfl (Exists.intro _ (Exists.intro _ ⟨iy (dz rfl (CellV.agg (off := 0) (cs := [i64 0, i64 0, i64 0]) (n := 3) 0 aJ rfl (by kernel_rfl) rfl rfl (ab rfl))), aC [] rfl, rfl, rfl⟩))
 ·replace H := bb c16 H;refine aE <| af <| aa ?_;show AR _ _ _ _ _ [0] _;refine zX rfl (dS (zs := [.int .i64 0, .int .i64 0, .int .i64 0]) (by kernel_rfl)) ?_;rintro _ _ ⟨o17, rfl, rfl⟩;refine ah <| bD (X := Int × Int × Int) (fun (y39, y40, y41) => ⟨[(0, i64 a1), (4, .pt o6 0), (9, .pt o17 0)], [], [.obj o17 [i64 y39, i64 y40, i64 y41], .obj o6 [i64 0, i64 0, i64 0]]⟩) (fun (y39, y40, y41) => dW a1 y39 y40 y41 = some (r3, r4, r5)) ?_ ?_
  ·refine af <| aa ?_;show AR _ _ _ _ _ [0, 1, 2] _;refine zS rfl (au (av := slE _ _ _) rfl) <| zS rfl (aN ao rfl) <| zm rfl <| ah <| aZ <| AW.loop (X := Nat × Int × Int × Int × Int) (fun (n25, y20, y21, y22, y23) => ⟨[(0, i64 a1), (4, .pt o6 0), (8, slE Enc.str x12 none), (9, .pt o17 0), (31, i64 (x12.length : Int)), (32, i64 y20)], [], [.obj o17 [i64 y21, i64 y22, i64 y23], .obj o6 [i64 0, i64 0, i64 0]]⟩) (fun (n25, y20, y21, y22, y23) => cg F a1 x12 n25 (y20, y21, y22, y23) = some (r3, r4, r5)) (fun (n25, y20, y21, y22, y23) => n25) (F, 0, 0, 0, 0) H (aY [0, 0] (.cons (.refl _) (.cons (.refl _) (.cons (.refl _) (.cons (.refl _) (.cons (.refl _) (.cons (.refl _) (.nil _))))))) rfl) ?_;rintro ⟨n25, y20, y21, y22, y23⟩ H;obtain ⟨n25, rfl, H⟩ := dZ H;replace H : cF F a1 x12 (cg F a1 x12 n25) y20 y21 y22 y23 = some (r3, r4, r5) := H
   unfold cF at H
   refine af <| aa ?_;show AR _ _ _ _ _ [0] _;refine zS rfl (bW rfl rfl) <| ah <| af <| ay rfl (fun c26 => ?_) (fun c26 => ?_)
   ·replace H := ba c26 H;refine aE <| af <| aZ <| af <| aa ?_;show AR _ _ _ _ _ [0, 1] _;refine zm rfl <| za rfl <| ah <| af ?_;obtain ⟨g27, H⟩ := aL H;obtain ⟨x28, e29, H⟩ := bM H;obtain ⟨x30, x31, e32, H⟩ := gi H;refine aa ?_;show AR _ _ _ _ _ [0, 1, 2, 3, 4, 5, 6, 7, 8, 9] _;refine zS rfl (au (av := slE _ _ _) rfl) <| zm rfl <| zS rfl (bp (E := Enc.str) ao (by kernel_rfl) rfl rfl g27 e29) <| zS rfl (aR aj rfl rfl) <| aX rfl rfl (aO rfl ky rfl (hH F x28 x30 x31 e32) ?_);refine zS rfl (au (av := .tup _) rfl) <| zS rfl (aK (av := .v _) rfl rfl) <| zS rfl (aK (av := .v _) rfl rfl) <| za rfl <| za rfl <| ah <| af <| af <| aa ?_;show AR _ _ _ _ _ [0, 1] _;refine zm rfl <| zS rfl (ec rfl) <| ah <| ay rfl (fun c33 => ?_) (fun c33 => ?_)
    ·replace H := ba c33 H;refine af <| aa ?_;show AR _ _ _ _ _ [0, 1] _;refine zR rfl (dF (i := 1) (n := 3) aJ rfl (by kernel_rfl) rfl rfl (ab rfl)) <| s0 rfl rfl (cA (i := 1) (vs := [i64 0, i64 0, i64 0]) (by kernel_rfl) rfl rfl (by simp [bA, slE]) rfl (ab rfl)) <| ah <| aM ?_;obtain ⟨rfl, rfl, rfl⟩ := jh H;exact And.intro rfl (Exists.intro _ (Exists.intro _ ⟨iy (dz rfl (CellV.agg (off := 0) (cs := [i64 0, i64 0, i64 0]) (n := 3) 1 aJ rfl (by kernel_rfl) rfl rfl (ab rfl))), aC [] rfl, rfl, rfl⟩))
    ·replace H := bb c33 H;refine aE ?_;obtain ⟨g34, H⟩ := aL H;obtain ⟨g35, H⟩ := aL H;obtain ⟨x36, e37, H⟩ := bM H;refine aa ?_;show AR _ _ _ _ _ [0, 1, 2, 3] _;refine zm rfl <| zm rfl <| zS rfl (gA aJ (by kernel_rfl) rfl rfl g34) <| s0 rfl rfl (lD (pre := []) (post := []) (l := ([y21, y22, y23] : List Int)) (vs := [i64 (x36.getD 0 0), i64 (x36.getD 1 0), i64 (x36.getD 2 0)]) (n := 3) (k := 0) (by kernel_rfl) rfl rfl rfl rfl rfl g35 e37 rfl) <| ah ?_;obtain ⟨g38, H⟩ := aL H;refine aa ?_;show AR _ _ _ _ _ [0, 1] _;refine zS rfl (eV rfl rfl g38) <| zm rfl <| ah ?_;exact Exists.intro (n25, y20 + 1, x36.getD 0 0, x36.getD 1 0, x36.getD 2 0) ⟨H, Nat.lt_succ_self _, aY [0, 0] (.cons (.refl _) (.cons (.refl _) (.cons (.refl _) (.cons (.refl _) (.cons (.refl _) (.cons (.refl _) (.nil _))))))) rfl⟩
   ·replace H := bb c26 H;refine AW.exit ?_;exact Exists.intro (y21, y22, y23) ⟨H, aY [0, 0] (.cons (.refl _) (.cons (.refl _) (.cons (.refl _) (.nil _)))) rfl⟩
  rintro ⟨y39, y40, y41⟩ H;replace H : dW a1 y39 y40 y41 = some (r3, r4, r5) := H
  unfold dW at H
  refine bD (X := Int × Int × Int) (fun (y45, y46, y47) => ⟨[(4, .pt o6 0)], [], [.obj o6 [i64 y45, i64 y46, i64 y47]]⟩) (fun (y45, y46, y47) => dx y45 y46 y47 = some (r3, r4, r5)) ?_ ?_
  ·refine af ?_;obtain ⟨g43, H⟩ := aL H;refine aa ?_;show AR _ _ _ _ _ [0, 1, 2, 3, 4] _;refine zS rfl (eK (Ar := 0) (k := 1) (m := 0) aJ (by kernel_rfl) rfl rfl rfl (by decide)) <| zR rfl (al (i := 0) az rfl rfl rfl rfl) <| zm rfl <| zS rfl (g_quo rfl rfl g43) <| zS rfl (bz rfl rfl) <| ah <| ay rfl (fun c44 => ?_) (fun c44 => ?_)
   ·replace H := ba c44 H;refine aa ?_;show AR _ _ _ _ _ [0, 1] _;refine zR rfl (dF (i := 0) (n := 3) aJ rfl (by kernel_rfl) rfl rfl (ab rfl)) <| s0 rfl rfl (cA (i := 1) (vs := [i64 y39, i64 y40, i64 y41]) (by kernel_rfl) rfl rfl (by simp [bA, slE]) rfl (ab rfl)) <| ah ?_;exact Exists.intro (y39, y40, y41) ⟨H, aY [1] (.cons (.refl _) (.nil _)) rfl⟩
   ·replace H := bb c44 H;refine aE ?_;exact Exists.intro (0, 0, 0) ⟨H, aY [1] (.cons (.refl _) (.nil _)) rfl⟩
  rintro ⟨y45, y46, y47⟩ H;replace H : dx y45 y46 y47 = some (r3, r4, r5) := H
  unfold dx at H
  refine af <| aa ?_;show AR _ _ _ _ _ [0, 1] _;refine zR rfl (dF (i := 0) (n := 3) aJ rfl (by kernel_rfl) rfl rfl (ab rfl)) <| s0 rfl rfl (cA (i := 0) (vs := [i64 y45, i64 y46, i64 y47]) (by kernel_rfl) rfl rfl (by simp [bA, slE]) rfl (ab rfl)) <| ah <| aM ?_;obtain ⟨rfl, rfl, rfl⟩ := jh H;exact And.intro rfl (Exists.intro _ (Exists.intro _ ⟨iy (dz rfl (CellV.agg (off := 0) (cs := [i64 y45, i64 y46, i64 y47]) (n := 3) 0 aJ rfl (by kernel_rfl) rfl rfl (ab rfl))), aC [] rfl, rfl, rfl⟩))
set_option maxRecDepth 100000 in
set_option maxHeartbeats 1000000 in
theorem mY (F : Nat) (a1 : Int) (a2 : List (List UInt8)) (a3 : Int) (a4 : Int) (a5 : Int) (r6 : Bool) (H : kU F a1 a2 a3 a4 a5 = some r6) : ACalls Tryd.prog 21 [.agg [i64 a1, slE Enc.str a2 none, i64 a3, i64 a4, i64 a5]] [] (Ret (B r6) []) := by
 unfold kU at H
 refine aA Tryd.func21 rfl rfl ?_;show AW _ _ 54 _ _ _;refine af <| aa ?_;show AR _ _ _ _ _ [0, 1] _;refine zR rfl (eY rfl (.inr ⟨_, rfl⟩)) <| za rfl <| ah <| af <| af <| aa ?_;show AR _ _ _ _ _ [0, 1, 2, 3, 4, 5, 6, 7, 8, 9, 10, 11, 12, 13, 14, 15, 16, 17, 18, 19] _;refine zS rfl (aH (n := 0) (by kernel_rfl) rfl (ab rfl)) <| zS rfl (aR az rfl rfl) <| zS rfl (bW rfl rfl) <| zm rfl <| aD (l := [8, 9, 10, 11, 12, 13, 14, 15, 16, 17, 18, 19]) 12 (B ((decide (a1 < 200)) || (decide (599 < a1)))) (fun K => ?_) ?_
 ·rcases ac (decide (a1 < 200)) with h7 | h7
  ·refine zF h7 rfl <| zF h7 rfl <| zF h7 rfl <| zS rfl (aq (av := .v _) rfl h7 rfl) ?_;exact K _ 3 _ (an (fI h7)) rfl rfl
  ·refine zU h7 rfl (aH (n := 0) (by kernel_rfl) rfl (ab rfl)) <| zU h7 rfl (aR az rfl rfl) <| zU h7 rfl (dL rfl rfl) <| zS rfl (ap (av := .v _) rfl h7 rfl) ?_;exact K _ 3 _ (an (fJ h7)) rfl rfl
 refine zm rfl <| aD (l := [14, 15, 16, 17, 18, 19]) 18 (B (((decide (a1 < 200)) || (decide (599 < a1))) || (decide ((a2.length : Int) = 0)))) (fun K => ?_) ?_
 ·rcases ac ((decide (a1 < 200)) || (decide (599 < a1))) with h8 | h8
  ·refine zF h8 rfl <| zF h8 rfl <| zF h8 rfl <| zF h8 rfl <| zS rfl (aq (av := .v _) rfl h8 rfl) ?_;exact K _ 4 _ (an (fI h8)) rfl rfl
  ·refine zU h8 rfl (aH (n := 1) (by kernel_rfl) rfl (ab rfl)) <| zU h8 rfl (aR ao rfl rfl) <| zU h8 rfl (aN ao rfl) <| zU h8 rfl (bz rfl rfl) <| zS rfl (ap (av := .v _) rfl h8 rfl) ?_;exact K _ 4 _ (an (fJ h8)) rfl rfl
 refine zm rfl <| aD (l := []) 24 (B ((((decide (a1 < 200)) || (decide (599 < a1))) || (decide ((a2.length : Int) = 0))) || (decide (100 < (a2.length : Int))))) (fun K => ?_) ?_
 ·rcases ac (((decide (a1 < 200)) || (decide (599 < a1))) || (decide ((a2.length : Int) = 0))) with h9 | h9
  ·refine zF h9 rfl <| zF h9 rfl <| zF h9 rfl <| zF h9 rfl <| zS rfl (aq (av := .v _) rfl h9 rfl) ?_;exact K _ 4 _ (an (fI h9)) rfl rfl
  ·refine zU h9 rfl (aH (n := 1) (by kernel_rfl) rfl (ab rfl)) <| zU h9 rfl (aR ao rfl rfl) <| zU h9 rfl (aN ao rfl) <| zU h9 rfl (dL rfl rfl) <| zS rfl (ap (av := .v _) rfl h9 rfl) ?_;exact K _ 4 _ (an (fJ h9)) rfl rfl
 refine ah <| ay rfl (fun c10 => ?_) (fun c10 => ?_)
 ·replace H := ba c10 H;refine af <| aa ?_;show AR _ _ _ _ _ [0] _;refine za rfl <| ah <| aM ?_;obtain rfl := ak H;exact And.intro rfl (Exists.intro _ (Exists.intro _ ⟨aI rfl (.refl _), aC [] rfl, rfl, rfl⟩))
 ·replace H := bb c10 H;refine aE <| bD (X := Unit) (fun _ => ⟨[(1, .cp [i64 a1, slE Enc.str a2 none, i64 a3, i64 a4, i64 a5])], [], []⟩) (fun _ => fi F a1 a2 a3 a4 a5 = some r6) ?_ ?_
  ·refine af <| aa ?_;show AR _ _ _ _ _ [0, 1, 2, 3] _;refine zS rfl (aH (n := 1) (by kernel_rfl) rfl (ab rfl)) <| zS rfl (aR ao rfl rfl) <| zS rfl (aN ao rfl) <| zm rfl <| ah <| aZ <| AW.loop (X := Nat × Int) (fun (n13, y11) => ⟨[(1, .cp [i64 a1, slE Enc.str a2 none, i64 a3, i64 a4, i64 a5]), (26, slE Enc.str a2 none), (27, i64 (a2.length : Int)), (28, i64 y11)], [], []⟩) (fun (n13, y11) => gH F a1 a2 a3 a4 a5 n13 y11 = some r6) (fun (n13, y11) => n13) (F, 0) H (aY [] (.cons (.refl _) (.cons (.refl _) (.cons (.refl _) (.cons (.refl _) (.nil _))))) rfl) ?_;rintro ⟨n13, y11⟩ H;obtain ⟨n13, rfl, H⟩ := dZ H;replace H : gI F a1 a2 a3 a4 a5 (gH F a1 a2 a3 a4 a5 n13) y11 = some r6 := H
   unfold gI at H
   refine af <| aa ?_;show AR _ _ _ _ _ [0] _;refine zS rfl (bW rfl rfl) <| ah <| af <| ay rfl (fun c14 => ?_) (fun c14 => ?_)
   ·replace H := ba c14 H;refine aE <| af <| aZ <| af ?_;obtain ⟨g15, H⟩ := aL H;obtain ⟨x16, e17, H⟩ := bM H;refine aa ?_;show AR _ _ _ _ _ [0, 1, 2] _;refine zS rfl (bp (E := Enc.str) ao (by kernel_rfl) rfl rfl g15 e17) <| zS rfl (aR aj rfl rfl) <| za rfl <| ah <| af ?_;obtain ⟨x19, e20, H⟩ := dp H;refine aa ?_;show AR _ _ _ _ _ [0, 1, 2, 3, 4, 5, 6] _;refine zm rfl <| zS rfl (br aj rfl) <| zS rfl (dL rfl rfl) <| zm rfl <| aD (l := []) 38 (B ((decide (506 < (x16.length : Int))) || x19)) (fun K => ?_) ?_
    ·rcases ac (decide (506 < (x16.length : Int))) with h18 | h18
     ·refine zF h18 rfl <| zF h18 rfl <| zS rfl (aq (av := .v _) rfl h18 rfl) ?_;exact K _ 2 _ (an (fI h18)) rfl rfl
     ·refine zM h18 rfl <| zT h18 rfl (aO rfl nC rfl (jV F x16 ([13, 10] : List UInt8) x19 (e20 (nf h18))) ?_);refine zS rfl (ap (av := .v _) rfl h18 rfl) ?_;exact K _ 2 _ (an (fJ h18)) rfl rfl
    refine ah <| ay rfl (fun c21 => ?_) (fun c21 => ?_)
    ·replace H := ba c21 H;refine af <| aa ?_;show AR _ _ _ _ _ [0] _;refine za rfl <| ah <| aM ?_;obtain rfl := ak H;exact And.intro rfl (Exists.intro _ (Exists.intro _ ⟨aI rfl (.refl _), aC [] rfl, rfl, rfl⟩))
    ·replace H := bb c21 H;refine aE ?_;obtain ⟨g22, H⟩ := aL H;refine aa ?_;show AR _ _ _ _ _ [0, 1] _;refine zS rfl (eV rfl rfl g22) <| zm rfl <| ah ?_;exact Exists.intro (n13, y11 + 1) ⟨H, Nat.lt_succ_self _, aY [] (.cons (.refl _) (.cons (.refl _) (.cons (.refl _) (.cons (.refl _) (.nil _))))) rfl⟩
   ·replace H := bb c14 H;refine AW.exit ?_;exact Exists.intro () ⟨H, aY [] (.cons (.refl _) (.nil _)) rfl⟩
  rintro _ H;replace H : fi F a1 a2 a3 a4 a5 = some r6 := H
  unfold fi at H
  refine af ?_;obtain ⟨g24, H⟩ := aL H;obtain ⟨g25, H⟩ := aL H;obtain ⟨x26, e27, H⟩ := bM H;obtain ⟨x28, x29, x30, e31, H⟩ := gV H;refine cq (by kernel_rfl) ?_;show AI _ _ _ _ _ 15 (Array.replicate 15 false) _;refine zk 0 rfl (aH (n := 2) (by kernel_rfl) rfl (ab rfl)) ?_;show AI _ _ _ _ _ _ #[true, false, false, false, false, false, false, false, false, false, false, false, false, false, false] _;refine zk 1 rfl (bK aJ rfl (n := 3) (by kernel_rfl) rfl (ab rfl)) ?_;show AI _ _ _ _ _ _ #[true, true, false, false, false, false, false, false, false, false, false, false, false, false, false] _;refine zk 2 rfl (aH (n := 0) (by kernel_rfl) rfl (ab rfl)) ?_;show AI _ _ _ _ _ _ #[true, true, true, false, false, false, false, false, false, false, false, false, false, false, false] _;refine zk 3 rfl (aR az rfl rfl) ?_;show AI _ _ _ _ _ _ #[true, true, true, true, false, false, false, false, false, false, false, false, false, false, false] _;refine zk 4 rfl (aH (n := 1) (by kernel_rfl) rfl (ab rfl)) ?_;show AI _ _ _ _ _ _ #[true, true, true, true, true, false, false, false, false, false, false, false, false, false, false] _;refine zk 5 rfl (aR ao rfl rfl) ?_;show AI _ _ _ _ _ _ #[true, true, true, true, true, true, false, false, false, false, false, false, false, false, false] _
  refine zk 6 rfl (aH (n := 1) (by kernel_rfl) rfl (ab rfl)) ?_;show AI _ _ _ _ _ _ #[true, true, true, true, true, true, true, false, false, false, false, false, false, false, false] _;refine zk 7 rfl (aR ao rfl rfl) ?_;show AI _ _ _ _ _ _ #[true, true, true, true, true, true, true, true, false, false, false, false, false, false, false] _;refine zk 8 rfl (aN ao rfl) ?_;show AI _ _ _ _ _ _ #[true, true, true, true, true, true, true, true, true, false, false, false, false, false, false] _;refine zk 9 rfl (jR rfl rfl g24) ?_;show AI _ _ _ _ _ _ #[true, true, true, true, true, true, true, true, true, true, false, false, false, false, false] _;refine zk 10 rfl (bp (E := Enc.str) ao (by kernel_rfl) rfl rfl g25 e27) ?_;show AI _ _ _ _ _ _ #[true, true, true, true, true, true, true, true, true, true, true, false, false, false, false] _;refine zk 11 rfl (aR aj rfl rfl) ?_;show AI _ _ _ _ _ _ #[true, true, true, true, true, true, true, true, true, true, true, true, false, false, false] _;refine aP (i := 12) (by kernel_rfl) rfl rfl <| AIO.callp rfl kz rfl (jy F a1 x26 x28 x29 x30 e31) ?_;show AI _ _ _ _ _ _ #[true, true, true, true, true, true, true, true, true, true, true, true, true, false, false] _;refine zk 13 rfl (gK (r := (a3 == x28) && ((a4 == x29) && ((a5 == x30) && true))) (.inl rfl) aJ az rfl (by kernel_rfl) (by kernel_rfl) rfl rfl rfl rfl) ?_
  show AI _ _ _ _ _ _ #[true, true, true, true, true, true, true, true, true, true, true, true, true, true, false] _;refine zk 14 rfl (asg rfl) ?_;show AI _ _ _ _ _ _ #[true, true, true, true, true, true, true, true, true, true, true, true, true, true, true] _;refine bx rfl <| aM ?_;obtain rfl := ak H;exact And.intro rfl (Exists.intro _ (Exists.intro _ ⟨aI rfl (.refl _), aC [] rfl, rfl, rfl⟩))
set_option maxRecDepth 100000 in
set_option maxHeartbeats 1000000 in
theorem hC (F : Nat) (a1 : Bool) (rv : Res Unit) (H : cK F a1 = some rv) : ACalls Tryd.prog 35 [B a1] [] (PanOr (fun (r : Unit) => (Ret (.tup []) [])) (fun e => iV (.iface 51 (.agg #[]))) rv) := by
 unfold cK at H
 refine aA Tryd.func35 rfl rfl ?_;show AW _ _ 6 _ _ _;refine af <| aa ?_;show AR _ _ _ _ _ [0, 1] _;refine zm rfl <| zS rfl (ec rfl) <| ah <| ay rfl (fun c2 => ?_) (fun c2 => ?_)
 ·replace H := ba c2 H;obtain rfl := ak H;refine aa ?_;show AR _ _ _ _ _ [0, 1, 2] _;refine zS rfl (lc (zs := []) (ps := []) (cs := []) (by kernel_rfl) rfl rfl) <| zS rfl (aU (a := .agg _) Tryd.underlying51 rfl rfl) <| aX rfl rfl (AO.panicT (c := iV (.iface 51 (.agg #[]))) rfl rfl ?_);exact And.intro rfl (Exists.intro [] ⟨Sub.nil _, rfl, rfl⟩)
 ·replace H := bb c2 H;refine aE ?_;obtain rfl := ak H;exact And.intro rfl (Exists.intro _ (Exists.intro _ ⟨bf rfl, aC [] rfl, rfl, rfl⟩))
theorem dm (F : Nat) (a1 : Bool) (H : cK F a1 = some (Res.ok ())) : ACalls Tryd.prog 35 [B a1] [] (Ret (.tup []) []) := hC F a1 _ H
theorem dg (F : Nat) (a1 : Bool) (e : Int) (H : cK F a1 = some (Res.pan e)) : ACalls Tryd.prog 35 [B a1] [] (fun ae A' => ae = .pan ((fun e => iV (.iface 51 (.agg #[]))) e) ∧ A' = []) := hC F a1 _ H
set_option maxRecDepth 100000 in
set_option maxHeartbeats 1000000 in
theorem kE (F : Nat) {σ τ : Type} (T : σ → τ → List Chunk) (Tp : σ → τ → List Chunk) (k : σ → (List UInt8) → Option (σ × Option Bool)) (o : Nat) (hY : ∀ (s : σ) (t : τ) (x : List UInt8) (rv : σ × Option Bool), k s x = some rv → eP Tryd.prog o [S x] (T s t) fun ae A' => ∃ t', ae = outc (iV (.iface 51 (.agg #[]))) rv.2 ∧ A' = outT T Tp rv t') (st0 : σ) (tt0 : τ) (o1 : Nat) (a2 : List UInt8) (rs : σ) (rb : Bool) (r3 : List UInt8) (H : fh F k st0 a2 = some (rs, rb, r3)) : ACalls Tryd.prog 45 [.yl o, .pt o1 0] ([.obj o1 [slE Enc.byte a2 none]] ++ T st0 tt0) (fun e A' => ∃ tz, (rb = false ∧ e = .ret (.tup []) ∧ A' = [.obj o1 [slE Enc.byte r3 none]] ++ T rs tz) ∨ (rb = true ∧ e = .pan (iV (.iface 51 (.agg #[]))) ∧ (A' = T rs tz ∨ A' = Tp rs tz))) := by
 unfold fh at H
 refine aA Tryd.func45 rfl rfl ?_;show AW _ _ 38 _ _ _;refine aZ <| AW.loop (X := Nat × (List UInt8) × σ × τ) (fun (n8, y4, y5, t6) => ⟨[(0, .yl o), (1, .pt o1 0)], [], ([.obj o1 [slE Enc.byte y4 none]] ++ T y5 t6)⟩) (fun (n8, y4, y5, t6) => cV F k n8 (y4, y5) = some (rs, rb, r3)) (fun (n8, y4, y5, t6) => n8) (F, a2, st0, tt0) H (WK.atT 1 [0] (.cons (.refl _) (.cons (.refl _) (.nil _))) rfl) ?_;rintro ⟨n8, y4, y5, t6⟩ H;obtain ⟨n8, rfl, H⟩ := dZ H;replace H : cW F k (cV F k n8) y4 y5 = some (rs, rb, r3) := H
 unfold cW at H
 refine aZ <| af ?_;obtain ⟨x9, e10, H⟩ := du H;refine aa ?_;show AR _ _ _ _ _ [0, 1, 2] _;refine zR rfl (al (i := 0) ag rfl rfl rfl rfl) <| aX rfl rfl (aO rfl iw rfl (dB F y4 none 10 x9 e10) ?_);refine za rfl <| ah <| af <| af <| aa ?_;show AR _ _ _ _ _ [0, 1] _;refine zm rfl <| zS rfl (bW rfl rfl) <| ah <| ay rfl (fun c11 => ?_) (fun c11 => ?_)
 ·replace H := ba c11 H;refine af ?_
  rcases Or.symm (lj H) with ⟨p14, e13, H⟩ | ⟨x12, e13, H⟩
  ·obtain ⟨rfl, rfl, rfl⟩ := jh H;refine aa ?_;show AR _ _ _ _ _ [0, 1, 2, 3] _;refine zR rfl (al (i := 0) ag rfl rfl rfl rfl) <| zS rfl (aN ag rfl) <| zS rfl (bW rfl rfl) <| aX rfl rfl (AO.callPan (c := iV (.iface 51 (.agg #[]))) [] rfl dA rfl (dg F (decide ((y4.length : Int) < 512)) p14 e13) rfl ?_);exact And.intro rfl (Exists.intro _ ⟨Sub.atT 1 [] rfl, t6, .inr ⟨rfl, rfl, .inl rfl⟩⟩)
  refine aa ?_;show AR _ _ _ _ _ [0, 1, 2, 3] _;refine zR rfl (al (i := 0) ag rfl rfl rfl rfl) <| zS rfl (aN ag rfl) <| zS rfl (bW rfl rfl) <| aX rfl rfl (aO rfl dA rfl (dm F (decide ((y4.length : Int) < 512)) e13) ?_);refine ah <| aM ?_;obtain ⟨rfl, rfl, rfl⟩ := jh H;exact And.intro rfl (Exists.intro _ (Exists.intro _ ⟨bf rfl, Sub.atT 1 [0] rfl, t6, .inl ⟨rfl, rfl, rfl⟩⟩))
 ·replace H := bb c11 H;refine aE <| af ?_;obtain ⟨x17, e18, H⟩ := dp H;obtain ⟨g19, H⟩ := cZ H
  rcases Or.symm (lj H) with ⟨p22, e21, H⟩ | ⟨x20, e21, H⟩
  ·obtain ⟨rfl, rfl, rfl⟩ := jh H;refine aa ?_;show AR _ _ _ _ _ [0, 1, 2, 3, 4, 5, 6, 7, 8, 9, 10, 11, 12, 13] _;refine zm rfl <| zS rfl (bW rfl rfl) <| zm rfl <| aD (l := [6, 7, 8, 9, 10, 11, 12, 13]) 17 (B ((decide (x9 < 512)) && (decide (0 < x9)))) (fun K => ?_) ?_
   ·rcases ac (decide (x9 < 512)) with h15 | h15
    ·refine zM h15 rfl <| zU h15 rfl (dL rfl rfl) <| zS rfl (aq (av := .v _) rfl h15 rfl) ?_;exact K _ 2 _ (an (bu h15)) rfl rfl
    ·refine zF h15 rfl <| zF h15 rfl <| zS rfl (ap (av := .v _) rfl h15 rfl) ?_;exact K _ 2 _ (an (bw h15)) rfl rfl
   refine zm rfl <| aD (l := [13]) 24 (B (((decide (x9 < 512)) && (decide (0 < x9))) && (decide (x17 = x9 - 1)))) (fun K => ?_) ?_
   ·rcases ac ((decide (x9 < 512)) && (decide (0 < x9))) with h16 | h16
    ·refine zT h16 rfl (AO.op rfl rfl (al (i := 0) ag rfl rfl rfl rfl) ?_);refine zT h16 rfl (aO rfl iw rfl (dB F y4 none 13 x17 (e18 h16)) ?_);refine zM h16 rfl <| zU h16 rfl (jR rfl rfl (g19 h16)) <| zU h16 rfl (bz rfl rfl) <| zS rfl (aq (av := .v _) rfl h16 rfl) ?_;exact K _ 5 _ (an (bu h16)) rfl rfl
    ·refine zF h16 rfl <| zF h16 rfl <| zF h16 rfl <| zF h16 rfl <| zF h16 rfl <| zS rfl (ap (av := .v _) rfl h16 rfl) ?_;exact K _ 5 _ (an (bw h16)) rfl rfl
   refine aX rfl rfl (AO.callPan (c := iV (.iface 51 (.agg #[]))) [] rfl dA rfl (dg F (((decide (x9 < 512)) && (decide (0 < x9))) && (decide (x17 = x9 - 1))) p22 e21) rfl ?_);exact And.intro rfl (Exists.intro _ ⟨Sub.atT 1 [] rfl, t6, .inr ⟨rfl, rfl, .inl rfl⟩⟩)
  refine aa ?_;show AR _ _ _ _ _ [0, 1, 2, 3, 4, 5, 6, 7, 8, 9, 10, 11, 12, 13] _;refine zm rfl <| zS rfl (bW rfl rfl) <| zm rfl <| aD (l := [6, 7, 8, 9, 10, 11, 12, 13]) 17 (B ((decide (x9 < 512)) && (decide (0 < x9)))) (fun K => ?_) ?_
  ·rcases ac (decide (x9 < 512)) with h15 | h15
   ·refine zM h15 rfl <| zU h15 rfl (dL rfl rfl) <| zS rfl (aq (av := .v _) rfl h15 rfl) ?_;exact K _ 2 _ (an (bu h15)) rfl rfl
   ·refine zF h15 rfl <| zF h15 rfl <| zS rfl (ap (av := .v _) rfl h15 rfl) ?_;exact K _ 2 _ (an (bw h15)) rfl rfl
  refine zm rfl <| aD (l := [13]) 24 (B (((decide (x9 < 512)) && (decide (0 < x9))) && (decide (x17 = x9 - 1)))) (fun K => ?_) ?_
  ·rcases ac ((decide (x9 < 512)) && (decide (0 < x9))) with h16 | h16
   ·refine zT h16 rfl (AO.op rfl rfl (al (i := 0) ag rfl rfl rfl rfl) ?_);refine zT h16 rfl (aO rfl iw rfl (dB F y4 none 13 x17 (e18 h16)) ?_);refine zM h16 rfl <| zU h16 rfl (jR rfl rfl (g19 h16)) <| zU h16 rfl (bz rfl rfl) <| zS rfl (aq (av := .v _) rfl h16 rfl) ?_;exact K _ 5 _ (an (bu h16)) rfl rfl
   ·refine zF h16 rfl <| zF h16 rfl <| zF h16 rfl <| zF h16 rfl <| zF h16 rfl <| zS rfl (ap (av := .v _) rfl h16 rfl) ?_;exact K _ 5 _ (an (bw h16)) rfl rfl
  refine aX rfl rfl (aO rfl dA rfl (dm F (((decide (x9 < 512)) && (decide (0 < x9))) && (decide (x17 = x9 - 1))) e21) ?_);refine ah <| af <| af ?_;obtain ⟨g23, H⟩ := aL H;obtain ⟨g24, H⟩ := aL H;obtain ⟨x25, e26, H⟩ := bM H;obtain ⟨x27, e28, H⟩ := du H
  rcases bndo_s H with ⟨h30, H⟩ | ⟨x29, h30, H⟩
  ·obtain ⟨rfl, rfl, rfl⟩ := jh H;refine aa ?_;show AR _ _ _ _ _ [0, 1, 2, 3, 4, 5, 6, 7] _;refine zS rfl (au (av := .yl _) rfl) <| zR rfl (al (i := 0) ag rfl rfl rfl rfl) <| zm rfl <| zS rfl (jR rfl rfl g23) <| zS rfl (lb (E := Enc.byte) ag (by kernel_rfl) rfl rfl g24 e26) <| zS rfl (er ag bq aj rfl) <| aX rfl rfl (AO.yieldPan 1 rfl rfl rfl (hY _ _ _ _ e28) h30 fun t32 => ?_);exact And.intro rfl (Exists.intro _ ⟨Sub.atT 1 [] rfl, t32, .inr ⟨rfl, rfl, .inr rfl⟩⟩)
  refine aa ?_;show AR _ _ _ _ _ [0, 1, 2, 3, 4, 5, 6, 7] _;refine zS rfl (au (av := .yl _) rfl) <| zR rfl (al (i := 0) ag rfl rfl rfl rfl) <| zm rfl <| zS rfl (jR rfl rfl g23) <| zS rfl (lb (E := Enc.byte) ag (by kernel_rfl) rfl rfl g24 e26) <| zS rfl (er ag bq aj rfl) <| aX rfl rfl (AO.yieldOk (b := x29) 1 rfl rfl rfl (hY _ _ _ _ e28) h30 fun t31 => ?_);show AR _ _ _ _ _ _ ⟨_, _, ([.obj o1 [slE Enc.byte y4 none]] ++ T x27.1 t31)⟩;refine zS rfl (ec rfl) <| ah <| ay rfl (fun c33 => ?_) (fun c33 => ?_)
  ·replace H := ba c33 H;refine aM ?_;obtain ⟨rfl, rfl, rfl⟩ := jh H;exact And.intro rfl (Exists.intro _ (Exists.intro _ ⟨bf rfl, Sub.atT 1 [0] rfl, t31, .inl ⟨rfl, rfl, rfl⟩⟩))
  ·replace H := bb c33 H;refine aE ?_;obtain ⟨g34, H⟩ := aL H;obtain ⟨g35, H⟩ := aL H;obtain ⟨x36, e37, H⟩ := bM H;refine aa ?_;show AR _ _ _ _ _ [0, 1, 2, 3, 4] _;refine zR rfl (al (i := 0) ag rfl rfl rfl rfl) <| zm rfl <| zS rfl (eV rfl rfl g34) <| zS rfl (cc (E := Enc.byte) ag (by kernel_rfl) rfl rfl g35 e37) <| s0 rfl rfl (aB (i := 0) (c := slE _ _ _) (by kernel_rfl) rfl rfl rfl rfl (ab rfl)) <| ah ?_;exact Exists.intro (n8, x36, x27.1, t31) ⟨H, Nat.lt_succ_self _, WK.atT 1 [0] (.cons (.refl _) (.cons (.refl _) (.nil _))) rfl⟩
set_option maxRecDepth 100000 in
set_option maxHeartbeats 1000000 in
theorem lk (F : Nat) (a1 : List UInt8) (H : ga F a1 = some ()) : ACalls Tryd.prog 34 [slE Enc.byte a1 none] [] (fun e A' => ∃ ob1 : Nat, e = .ret (.fn (.func 45) [] [.pt ob1 0]) ∧ A' = [.obj ob1 [slE Enc.byte a1 none]]) := by
 unfold ga at H
 refine aA Tryd.func34 rfl rfl ?_;show AW _ _ 4 _ _ _;refine af <| aa ?_;show AR _ _ _ _ _ [0, 1] _;refine zX rfl (kV rfl (.inl rfl)) ?_;rintro _ _ ⟨o2, rfl, rfl⟩;refine za rfl <| ah <| af <| aa ?_;show AR _ _ _ _ _ [0, 1] _;refine zS rfl (el rfl rfl) <| zS rfl (aG (av := .fn _ _ _) rfl) <| ah <| aM ?_;exact And.intro rfl (Exists.intro _ (Exists.intro _ ⟨aI rfl (.refl _), aC [0] rfl, o2, rfl, rfl⟩))
abbrev _root_.Go.Av.aF := @Tryd.underlying27
set_option maxRecDepth 100000 in
set_option maxHeartbeats 1000000 in
theorem mi (F : Nat) (a1 : Int) (a2 : List (List UInt8)) (a3 : Int) (a4 : Int) (a5 : Int) (a6 : Int) (o7 : Nat) (a8 : List (Int × (List (List UInt8)) × Int × Int × Int)) (t9 : Nat) (o10 : Nat) (a11 : Int) (r12 : List (Int × (List (List UInt8)) × Int × Int × Int)) (r14 : Int) (H : ia F a1 a2 a3 a4 a5 a6 a8 a11 = some (r12, r14)) : ACalls Tryd.prog 25 [.agg [i64 a1, slE Enc.str a2 none, i64 a3, i64 a4, i64 a5], i64 a6, .pt o7 0, .pt o10 0] [.obj o7 [slE (ai Enc.int (ai (Enc.sl Enc.str) (ai Enc.int (ai Enc.int Enc.int)))) a8 (some t9)], .tok t9 38, .obj o10 [i64 a11]] (fun e A' => e = .ret (.tup []) ∧ ∃ t13, A' = [.obj o7 [slE (ai Enc.int (ai (Enc.sl Enc.str) (ai Enc.int (ai Enc.int Enc.int)))) r12 (some t13)], .tok t13 38, .obj o10 [i64 r14]]) := by
 unfold ia at H
 refine aA Tryd.func25 rfl rfl ?_;show AW _ _ 11 _ _ _;refine af <| aa ?_;show AR _ _ _ _ _ [0] _;refine zR rfl (eY rfl (.inr ⟨_, rfl⟩)) <| ah ?_;obtain ⟨g16, H⟩ := aL H;obtain ⟨x17, e18, H⟩ := bM H;refine aa ?_;show AR _ _ _ _ _ [0, 1, 2, 3, 4, 5, 6] _;refine zR rfl (al (i := 0) aF rfl rfl rfl rfl) <| zS rfl (bK Tryd.underlying38 rfl (n := 5) (by kernel_rfl) rfl (ab rfl)) <| zR rfl (kL (E := (ai Enc.int (ai (Enc.sl Enc.str) (ai Enc.int (ai Enc.int Enc.int))))) (bytes := 56) (zs := [.int .i64 0, .slice none 0 0, .int .i64 0, .int .i64 0, .int .i64 0]) (l := ([(a1, a2, (a3, a4, a5))] : List (Int × (List (List UInt8)) × Int × Int × Int))) aF (by kernel_rfl) (by kernel_rfl) rfl rfl rfl rfl rfl) <| zX rfl (dr (E := (ai Enc.int (ai (Enc.sl Enc.str) (ai Enc.int (ai Enc.int Enc.int))))) (bytes := 56) 1 aF aF rfl (by kernel_rfl) rfl rfl rfl rfl g16 e18) ?_;rintro _ _ ⟨t15, rfl, rfl⟩;refine zm rfl <| s0 rfl rfl (aB (i := 0) (c := slE _ _ _) (by kernel_rfl) rfl rfl rfl rfl (ab rfl)) <| s0 rfl rfl (aB (i := 2) (c := .v _) (by kernel_rfl) rfl rfl rfl rfl (ab rfl)) <| ah ?_;obtain ⟨rfl, rfl⟩ := ff H;exact And.intro rfl (Exists.intro _ (Exists.intro _ ⟨bf rfl, aC [0, 0, 0] rfl, rfl, t15, rfl⟩))
set_option maxRecDepth 100000 in
set_option maxHeartbeats 1000000 in
theorem ki (F : Nat) (a1 : List UInt8) (q2 : Option Nat) (o3 : Nat) (a4 : List (Int × (List (List UInt8)) × Int × Int × Int)) (t5 : Nat) (o6 : Nat) (a7 : Int) (r8 : List (Int × (List (List UInt8)) × Int × Int × Int)) (r10 : Int) (rb : Bool) (H : fC F a1 a4 a7 = some (r8, r10, rb)) : ACalls Tryd.prog 24 [slE Enc.byte a1 q2, .fn (.func 25) [] [.pt o3 0, .pt o6 0]] [.obj o3 [slE (ai Enc.int (ai (Enc.sl Enc.str) (ai Enc.int (ai Enc.int Enc.int)))) a4 (some t5)], .tok t5 38, .obj o6 [i64 a7]] (fun e A' => ∃ t9, A' = [.obj o3 [slE (ai Enc.int (ai (Enc.sl Enc.str) (ai Enc.int (ai Enc.int Enc.int)))) r8 (some t9)], .tok t9 38, .obj o6 [i64 r10]] ∧ ((rb = false ∧ e = .ret (.tup [])) ∨ (rb = true ∧ e = .pan (iV (.iface 51 (.agg #[])))))) := by
 unfold fC at H
 refine ip Tryd.func24 rfl rfl ?_;show AWV _ 87 _ _ _;refine AWV.seq <| AWV.of <| aa ?_;show AR _ _ _ _ _ [0] _;refine zR rfl (eY rfl (.inl rfl)) <| ah ?_;show AWV _ _ _ _ _;refine AWV.seq <| AWV.of <| aa ?_;show AR _ _ _ _ _ [0] _;refine zX rfl (dS (zs := [.int .i64 0, .slice none 0 0, .int .i64 0, .int .i64 0, .int .i64 0]) (by kernel_rfl)) ?_;rintro _ _ ⟨o11, rfl, rfl⟩;refine ah ?_;show AWV _ _ _ _ _
 refine AWV.nil_objAt 0 1 1 9 rfl rfl fun t12 => ?_
 show AWV _ _ _ _ ⟨_, _, [.tok t12 9, .obj o11 [i64 0, slE Enc.str [] (some t12), i64 0, i64 0, i64 0], .obj o3 [slE (ai Enc.int (ai (Enc.sl Enc.str) (ai Enc.int (ai Enc.int Enc.int)))) a4 (some t5)], .tok t5 38, .obj o6 [i64 a7]]⟩;refine AWV.seq <| AWV.of <| aa ?_;show AR _ _ _ _ _ [0, 1] _;refine zX rfl (dS (zs := [.int .i64 0]) (by kernel_rfl)) ?_;rintro _ _ ⟨o13, rfl, rfl⟩;refine s0 rfl rfl (aB (i := 0) (c := .v _) (by kernel_rfl) rfl rfl rfl rfl (ab rfl)) <| ah ?_;show AWV _ _ _ _ _;refine AWV.seq <| AWV.of ?_;obtain ⟨_, e14, H⟩ := du H;refine aa ?_;show AR _ _ _ _ _ [0, 1] _;refine zS rfl (au (av := slE _ _ _) rfl) <| aX rfl rfl (bN [] rfl nB rfl (kQ (.cons (.tok _ _ _) (.nil)) (lk F a1 e14)) rfl (fun c A' h => by obtain ⟨_, h, _⟩ := h; cases h) ?_)
 rintro av A' ⟨o15, h, rfl⟩; cases h
 refine ah ?_;show AWV _ _ _ _ _;refine AWV.block ?_;obtain ⟨x79, x80, x81, e82, H⟩ := gV H;refine lP (α := List UInt8) (σ := Int × Int × (List (List UInt8)) × (List (Int × (List (List UInt8)) × Int × Int × Int)) × Int) (τ := Nat × Nat) (iV (.iface 51 (.agg #[]))) (fun x => [S x]) (fun s t => [.obj o13 [i64 s.1], .obj o11 [i64 s.2.1, slE Enc.str s.2.2.1 (some t.1), i64 0, i64 0, i64 0], .obj o3 [slE (ai Enc.int (ai (Enc.sl Enc.str) (ai Enc.int (ai Enc.int Enc.int)))) s.2.2.2.1 (some t.2)], .obj o6 [i64 s.2.2.2.2], .tok t.1 9, .tok t.2 38]) (fun _ => none) (fun s x => dv F s.1 s.2.1 s.2.2.1 s.2.2.2.1 s.2.2.2.2 x) (0, 0, [], a4, a7) (t12, t5) x79 x80 [0] [0, 1, 1, 2, 0, 0] rfl nx (fun _ => rfl) (by decide) rfl rfl rfl (fun o T' Tp hY => kE F T' Tp _ o hY _ _ o15 a1 x79 x80 x81 e82) ?_ ?_ ?_
 ·rintro l ⟨y16, y17, y18, y20, y22⟩ ⟨t19, t21⟩ x24 rv H;replace H : dv F y16 y17 y18 y20 y22 x24 = some rv := H
  unfold dv at H
  refine ⟨rfl, ?_⟩;show AW _ _ _ _ _ ⟨(11, S x24) :: _, [], _⟩;refine aa ?_;show AR _ _ _ _ _ [0] _;refine za rfl <| ah <| aZ <| af ?_;obtain ⟨g26, H⟩ := cZ H;obtain ⟨x27, e28, H⟩ := bM H;obtain ⟨g30, H⟩ := cZ H;obtain ⟨x31, e32, H⟩ := bM H
  rcases Or.symm (lj H) with ⟨p36, e35, H⟩ | ⟨x34, e35, H⟩
  ·obtain rfl := ak H;refine aa ?_;show AR _ _ _ _ _ [0, 1, 2, 3, 4, 5, 6, 7, 8, 9, 10, 11, 12, 13, 14, 15, 16, 17, 18, 19] _;refine zm rfl <| zS rfl (br aj rfl) <| zS rfl (dY rfl rfl) <| zm rfl <| aD (l := [13, 14, 15, 16, 17, 18, 19]) 24 (B ((decide (4 ≤ (x24.length : Int))) && ((decide (x27 = 45)) || (decide (x31 = 32))))) (fun K => ?_) ?_
   ·rcases ac (decide (4 ≤ (x24.length : Int))) with h25 | h25
    ·refine zM h25 rfl <| zU h25 rfl (aQ aj rfl rfl (g26 h25) e28) <| zU h25 rfl (dN (a := x27) (b := 45) rfl rfl) <| zM h25 rfl <| aD (l := [12, 13, 14, 15, 16, 17, 18, 19]) 23 (B ((decide (x27 = 45)) || (decide (x31 = 32)))) (fun K => ?_) ?_
     ·rcases ac (decide (x27 = 45)) with h29 | h29
      ·refine zF h29 rfl <| zF h29 rfl <| zF h29 rfl <| zU h25 rfl (aq (av := .v _) rfl h29 rfl) ?_;exact K _ 3 _ (an (fI h29)) rfl rfl
      ·refine zM h29 rfl <| zU h29 rfl (aQ aj rfl rfl (g30 (eJ h25 (nf h29))) e32) <| zU h29 rfl (dN (a := x31) (b := 32) rfl rfl) <| zU h25 rfl (ap (av := .v _) rfl h29 rfl) ?_;exact K _ 3 _ (an (fJ h29)) rfl rfl
     refine zS rfl (aq (av := .v _) rfl h25 rfl) ?_;exact K _ 5 _ (an (bu h25)) rfl rfl
    ·refine zF h25 rfl <| zF h25 rfl <| zF h25 rfl <| zF h25 rfl <| gU rfl rfl rfl rfl rfl <| gU rfl rfl rfl rfl rfl <| gU rfl rfl rfl rfl rfl <| zF h25 rfl <| zS rfl (ap (av := .v _) rfl h25 rfl) ?_;exact K _ 8 _ (an (bw h25)) rfl rfl
   refine zm rfl <| aD (l := [19]) 30 (B (((decide (4 ≤ (x24.length : Int))) && ((decide (x27 = 45)) || (decide (x31 = 32)))) && (decide ((y18.length : Int) < 100)))) (fun K => ?_) ?_
   ·rcases ac ((decide (4 ≤ (x24.length : Int))) && ((decide (x27 = 45)) || (decide (x31 = 32)))) with h33 | h33
    ·refine zU h33 rfl (am (n := 1) (by kernel_rfl) rfl) <| zT h33 rfl (AO.op rfl rfl (al (i := 1) ao rfl rfl rfl rfl) ?_);refine zU h33 rfl (aN ao rfl) <| zU h33 rfl (bW rfl rfl) <| zS rfl (aq (av := .v _) rfl h33 rfl) ?_;exact K _ 4 _ (an (bu h33)) rfl rfl
    ·refine zF h33 rfl <| zF h33 rfl <| zF h33 rfl <| zF h33 rfl <| zS rfl (ap (av := .v _) rfl h33 rfl) ?_;exact K _ 4 _ (an (bw h33)) rfl rfl
   refine aX rfl rfl (AO.callPan (c := iV (.iface 51 (.agg #[]))) [] rfl dA rfl (dg F (((decide (4 ≤ (x24.length : Int))) && ((decide (x27 = 45)) || (decide (x31 = 32)))) && (decide ((y18.length : Int) < 100))) p36 e35) rfl ?_);exact ⟨rfl, rfl, rfl, (t19, t21), aC [0, 0, 0, 0, 0, 0] rfl⟩
  refine aa ?_;show AR _ _ _ _ _ [0, 1, 2, 3, 4, 5, 6, 7, 8, 9, 10, 11, 12, 13, 14, 15, 16, 17, 18, 19] _;refine zm rfl <| zS rfl (br aj rfl) <| zS rfl (dY rfl rfl) <| zm rfl <| aD (l := [13, 14, 15, 16, 17, 18, 19]) 24 (B ((decide (4 ≤ (x24.length : Int))) && ((decide (x27 = 45)) || (decide (x31 = 32))))) (fun K => ?_) ?_
  ·rcases ac (decide (4 ≤ (x24.length : Int))) with h25 | h25
   ·refine zM h25 rfl <| zU h25 rfl (aQ aj rfl rfl (g26 h25) e28) <| zU h25 rfl (dN (a := x27) (b := 45) rfl rfl) <| zM h25 rfl <| aD (l := [12, 13, 14, 15, 16, 17, 18, 19]) 23 (B ((decide (x27 = 45)) || (decide (x31 = 32)))) (fun K => ?_) ?_
    ·rcases ac (decide (x27 = 45)) with h29 | h29
     ·refine zF h29 rfl <| zF h29 rfl <| zF h29 rfl <| zU h25 rfl (aq (av := .v _) rfl h29 rfl) ?_;exact K _ 3 _ (an (fI h29)) rfl rfl
     ·refine zM h29 rfl <| zU h29 rfl (aQ aj rfl rfl (g30 (eJ h25 (nf h29))) e32) <| zU h29 rfl (dN (a := x31) (b := 32) rfl rfl) <| zU h25 rfl (ap (av := .v _) rfl h29 rfl) ?_;exact K _ 3 _ (an (fJ h29)) rfl rfl
    refine zS rfl (aq (av := .v _) rfl h25 rfl) ?_;exact K _ 5 _ (an (bu h25)) rfl rfl
   ·refine zF h25 rfl <| zF h25 rfl <| zF h25 rfl <| zF h25 rfl <| gU rfl rfl rfl rfl rfl <| gU rfl rfl rfl rfl rfl <| gU rfl rfl rfl rfl rfl <| zF h25 rfl <| zS rfl (ap (av := .v _) rfl h25 rfl) ?_;exact K _ 8 _ (an (bw h25)) rfl rfl
  refine zm rfl <| aD (l := [19]) 30 (B (((decide (4 ≤ (x24.length : Int))) && ((decide (x27 = 45)) || (decide (x31 = 32)))) && (decide ((y18.length : Int) < 100)))) (fun K => ?_) ?_
  ·rcases ac ((decide (4 ≤ (x24.length : Int))) && ((decide (x27 = 45)) || (decide (x31 = 32)))) with h33 | h33
   ·refine zU h33 rfl (am (n := 1) (by kernel_rfl) rfl) <| zT h33 rfl (AO.op rfl rfl (al (i := 1) ao rfl rfl rfl rfl) ?_);refine zU h33 rfl (aN ao rfl) <| zU h33 rfl (bW rfl rfl) <| zS rfl (aq (av := .v _) rfl h33 rfl) ?_;exact K _ 4 _ (an (bu h33)) rfl rfl
   ·refine zF h33 rfl <| zF h33 rfl <| zF h33 rfl <| zF h33 rfl <| zS rfl (ap (av := .v _) rfl h33 rfl) ?_;exact K _ 4 _ (an (bw h33)) rfl rfl
  refine aX rfl rfl (aO rfl dA rfl (dm F (((decide (4 ≤ (x24.length : Int))) && ((decide (x27 = 45)) || (decide (x31 = 32)))) && (decide ((y18.length : Int) < 100))) e35) ?_);refine ah <| af ?_;obtain ⟨g37, H⟩ := aL H;obtain ⟨x38, e39, H⟩ := bM H;obtain ⟨x40, x41, e42, H⟩ := gi H;refine aa ?_;show AR _ _ _ _ _ [0, 1, 2, 3, 4, 5, 6, 7] _;refine zm rfl <| zS rfl (g_to_str aj rfl rfl g37 e39) <| aX rfl rfl (aO rfl ky rfl (hH F x38 x40 x41 e42) ?_);refine zS rfl (au (av := .tup _) rfl) <| zS rfl (aK (av := .v _) rfl rfl) <| zS rfl (aK (av := .v _) rfl rfl) <| za rfl <| za rfl <| ah <| af ?_
  rcases Or.symm (lj H) with ⟨p49, e48, H⟩ | ⟨x47, e48, H⟩
  ·obtain rfl := ak H;refine aa ?_;show AR _ _ _ _ _ [0, 1, 2, 3, 4, 5, 6, 7, 8, 9, 10, 11, 12, 13, 14, 15, 16, 17, 18, 19, 20, 21] _;refine zm rfl <| zm rfl <| aD (l := [5, 6, 7, 8, 9, 10, 11, 12, 13, 14, 15, 16, 17, 18, 19, 20, 21]) 42 (B (x41 && (decide (200 ≤ x40)))) (fun K => ?_) ?_
   ·rcases ac x41 with h43 | h43
    ·refine zM h43 rfl <| zU h43 rfl (dY rfl rfl) <| zS rfl (aq (av := .v _) rfl h43 rfl) ?_;exact K _ 2 _ (an (bu h43)) rfl rfl
    ·refine zF h43 rfl <| zF h43 rfl <| zS rfl (ap (av := .v _) rfl h43 rfl) ?_;exact K _ 2 _ (an (bw h43)) rfl rfl
   refine zm rfl <| aD (l := [9, 10, 11, 12, 13, 14, 15, 16, 17, 18, 19, 20, 21]) 46 (B ((x41 && (decide (200 ≤ x40))) && (decide (x40 ≤ 599)))) (fun K => ?_) ?_
   ·rcases ac (x41 && (decide (200 ≤ x40))) with h44 | h44
    ·refine zM h44 rfl <| zU h44 rfl (dn rfl rfl) <| zS rfl (aq (av := .v _) rfl h44 rfl) ?_;exact K _ 2 _ (an (bu h44)) rfl rfl
    ·refine zF h44 rfl <| zF h44 rfl <| zS rfl (ap (av := .v _) rfl h44 rfl) ?_;exact K _ 2 _ (an (bw h44)) rfl rfl
   refine zm rfl <| aD (l := [21]) 58 (B (((x41 && (decide (200 ≤ x40))) && (decide (x40 ≤ 599))) && ((decide ((y18.length : Int) = 0)) || (decide (x40 = y17))))) (fun K => ?_) ?_
   ·rcases ac ((x41 && (decide (200 ≤ x40))) && (decide (x40 ≤ 599))) with h45 | h45
    ·refine zU h45 rfl (am (n := 1) (by kernel_rfl) rfl) <| zT h45 rfl (AO.op rfl rfl (al (i := 1) ao rfl rfl rfl rfl) ?_);refine zU h45 rfl (aN ao rfl) <| zU h45 rfl (bz rfl rfl) <| zM h45 rfl <| aD (l := [20, 21]) 57 (B ((decide ((y18.length : Int) = 0)) || (decide (x40 = y17)))) (fun K => ?_) ?_
     ·rcases ac (decide ((y18.length : Int) = 0)) with h46 | h46
      ·refine zF h46 rfl <| zF h46 rfl <| zF h46 rfl <| zF h46 rfl <| zU h45 rfl (aq (av := .v _) rfl h46 rfl) ?_;exact K _ 4 _ (an (fI h46)) rfl rfl
      ·refine zM h46 rfl <| zU h46 rfl (am (n := 0) (by kernel_rfl) rfl) <| zT h46 rfl (AO.op rfl rfl (al (i := 1) az rfl rfl rfl rfl) ?_);refine zU h46 rfl (bz rfl rfl) <| zU h45 rfl (ap (av := .v _) rfl h46 rfl) ?_;exact K _ 4 _ (an (fJ h46)) rfl rfl
     refine zS rfl (aq (av := .v _) rfl h45 rfl) ?_;exact K _ 6 _ (an (bu h45)) rfl rfl
    ·refine zF h45 rfl <| zF h45 rfl <| zF h45 rfl <| zF h45 rfl <| zF h45 rfl <| gU rfl rfl rfl rfl rfl <| gU rfl rfl rfl rfl rfl <| gU rfl rfl rfl rfl rfl <| gU rfl rfl rfl rfl rfl <| zF h45 rfl <| zS rfl (ap (av := .v _) rfl h45 rfl) ?_;exact K _ 10 _ (an (bw h45)) rfl rfl
   refine aX rfl rfl (AO.callPan (c := iV (.iface 51 (.agg #[]))) [] rfl dA rfl (dg F (((x41 && (decide (200 ≤ x40))) && (decide (x40 ≤ 599))) && ((decide ((y18.length : Int) = 0)) || (decide (x40 = y17)))) p49 e48) rfl ?_);exact ⟨rfl, rfl, rfl, (t19, t21), aC [0, 0, 0, 0, 0, 0] rfl⟩
  refine aa ?_;show AR _ _ _ _ _ [0, 1, 2, 3, 4, 5, 6, 7, 8, 9, 10, 11, 12, 13, 14, 15, 16, 17, 18, 19, 20, 21] _;refine zm rfl <| zm rfl <| aD (l := [5, 6, 7, 8, 9, 10, 11, 12, 13, 14, 15, 16, 17, 18, 19, 20, 21]) 42 (B (x41 && (decide (200 ≤ x40)))) (fun K => ?_) ?_
  ·rcases ac x41 with h43 | h43
   ·refine zM h43 rfl <| zU h43 rfl (dY rfl rfl) <| zS rfl (aq (av := .v _) rfl h43 rfl) ?_;exact K _ 2 _ (an (bu h43)) rfl rfl
   ·refine zF h43 rfl <| zF h43 rfl <| zS rfl (ap (av := .v _) rfl h43 rfl) ?_;exact K _ 2 _ (an (bw h43)) rfl rfl
  refine zm rfl <| aD (l := [9, 10, 11, 12, 13, 14, 15, 16, 17, 18, 19, 20, 21]) 46 (B ((x41 && (decide (200 ≤ x40))) && (decide (x40 ≤ 599)))) (fun K => ?_) ?_
  ·rcases ac (x41 && (decide (200 ≤ x40))) with h44 | h44
   ·refine zM h44 rfl <| zU h44 rfl (dn rfl rfl) <| zS rfl (aq (av := .v _) rfl h44 rfl) ?_;exact K _ 2 _ (an (bu h44)) rfl rfl
   ·refine zF h44 rfl <| zF h44 rfl <| zS rfl (ap (av := .v _) rfl h44 rfl) ?_;exact K _ 2 _ (an (bw h44)) rfl rfl
  refine zm rfl <| aD (l := [21]) 58 (B (((x41 && (decide (200 ≤ x40))) && (decide (x40 ≤ 599))) && ((decide ((y18.length : Int) = 0)) || (decide (x40 = y17))))) (fun K => ?_) ?_
  ·rcases ac ((x41 && (decide (200 ≤ x40))) && (decide (x40 ≤ 599))) with h45 | h45
   ·refine zU h45 rfl (am (n := 1) (by kernel_rfl) rfl) <| zT h45 rfl (AO.op rfl rfl (al (i := 1) ao rfl rfl rfl rfl) ?_);refine zU h45 rfl (aN ao rfl) <| zU h45 rfl (bz rfl rfl) <| zM h45 rfl <| aD (l := [20, 21]) 57 (B ((decide ((y18.length : Int) = 0)) || (decide (x40 = y17)))) (fun K => ?_) ?_
    ·rcases ac (decide ((y18.length : Int) = 0)) with h46 | h46
     ·refine zF h46 rfl <| zF h46 rfl <| zF h46 rfl <| zF h46 rfl <| zU h45 rfl (aq (av := .v _) rfl h46 rfl) ?_;exact K _ 4 _ (an (fI h46)) rfl rfl
     ·refine zM h46 rfl <| zU h46 rfl (am (n := 0) (by kernel_rfl) rfl) <| zT h46 rfl (AO.op rfl rfl (al (i := 1) az rfl rfl rfl rfl) ?_);refine zU h46 rfl (bz rfl rfl) <| zU h45 rfl (ap (av := .v _) rfl h46 rfl) ?_;exact K _ 4 _ (an (fJ h46)) rfl rfl
    refine zS rfl (aq (av := .v _) rfl h45 rfl) ?_;exact K _ 6 _ (an (bu h45)) rfl rfl
   ·refine zF h45 rfl <| zF h45 rfl <| zF h45 rfl <| zF h45 rfl <| zF h45 rfl <| gU rfl rfl rfl rfl rfl <| gU rfl rfl rfl rfl rfl <| gU rfl rfl rfl rfl rfl <| gU rfl rfl rfl rfl rfl <| zF h45 rfl <| zS rfl (ap (av := .v _) rfl h45 rfl) ?_;exact K _ 10 _ (an (bw h45)) rfl rfl
  refine aX rfl rfl (aO rfl dA rfl (dm F (((x41 && (decide (200 ≤ x40))) && (decide (x40 ≤ 599))) && ((decide ((y18.length : Int) = 0)) || (decide (x40 = y17)))) e48) ?_);refine ah <| bD (X := (List (List UInt8)) × Nat) (fun (y58, t59) => ⟨[(3, .cp [.fn (.func 25) [] [.pt o3 0, .pt o6 0]]), (4, .pt o11 0), (5, .pt o13 0), (6, S x24), (7, i64 x40)], [], [.obj o13 [i64 y16], .obj o11 [i64 x40, slE Enc.str y58 (some t59), i64 0, i64 0, i64 0], .obj o3 [slE (ai Enc.int (ai (Enc.sl Enc.str) (ai Enc.int (ai Enc.int Enc.int)))) y20 (some t21)], .obj o6 [i64 y22], .tok t59 9, .tok t21 38]⟩) (fun (y58, t59) => eA F y16 y20 y22 x24 x40 y58 = some rv) ?_ ?_
  ·obtain ⟨g50, H⟩ := aL H;obtain ⟨x51, e52, H⟩ := bM H;obtain ⟨g54, H⟩ := aL H;obtain ⟨x55, e56, H⟩ := bM H;refine jc (by kernel_rfl) (by kernel_rfl) ?_;show AI _ _ _ _ _ 11 (Array.replicate 11 false) _;refine zk 0 rfl (mv rfl) ?_;show AI _ _ _ _ _ _ #[true, false, false, false, false, false, false, false, false, false, false] _;refine zk 1 rfl (am (n := 1) (by kernel_rfl) rfl) ?_;show AI _ _ _ _ _ _ #[true, true, false, false, false, false, false, false, false, false, false] _;refine zk 3 rfl (mv rfl) ?_;show AI _ _ _ _ _ _ #[true, true, false, true, false, false, false, false, false, false, false] _;refine zk 4 rfl (dw aj rfl rfl g50 e52) ?_;show AI _ _ _ _ _ _ #[true, true, false, true, true, false, false, false, false, false, false] _;refine dM (i := 2) (j := 5) (by kernel_rfl) rfl rfl rfl rfl ?_ ?_
   ·refine bc rfl (al (i := 1) ao rfl rfl rfl rfl) ?_;show AI _ _ _ _ _ _ #[true, true, true, true, true, false, false, false, false, false, false] _;refine zk 7 rfl (am (n := 0) (by kernel_rfl) rfl) ?_;show AI _ _ _ _ _ _ #[true, true, true, true, true, false, false, true, false, false, false] _;refine aP (i := 5) (by kernel_rfl) rfl rfl <| bc rfl (fk (E := Enc.str) (bytes := 16) (xs := [.tmp 64]) (l := ([x51] : List (List UInt8))) ao (by kernel_rfl) rfl rfl (by decide) rfl rfl) ?_;show AI _ _ _ _ _ _ #[true, true, true, true, true, true, false, true, false, false, false] _;refine aP (i := 6) (by kernel_rfl) rfl rfl <| AIO.opx rfl (dr (E := Enc.str) (bytes := 16) 4 ao ao rfl (by kernel_rfl) rfl rfl rfl rfl g54 e56) ?_;rintro _ _ ⟨t53, rfl, rfl⟩;show AI _ _ _ _ _ _ #[true, true, true, true, true, true, true, true, false, false, false] _;refine aP (i := 8) (by kernel_rfl) rfl rfl <| bP (aB (i := 1) (c := .v _) (by kernel_rfl) rfl rfl rfl rfl (ab rfl)) ?_;show AI _ _ _ _ _ _ #[true, true, true, true, true, true, true, true, true, false, false] _;refine zk 9 rfl (am (n := 1) (by kernel_rfl) rfl) ?_;show AI _ _ _ _ _ _ #[true, true, true, true, true, true, true, true, true, true, false] _;refine aP (i := 10) (by kernel_rfl) rfl rfl <| bP (aB (i := 1) (c := slE _ _ _) (by kernel_rfl) rfl rfl rfl rfl (ab rfl)) ?_
    show AI _ _ _ _ _ _ #[true, true, true, true, true, true, true, true, true, true, true] _;refine bx rfl ?_;exact Exists.intro (x55, t53) ⟨H, aY [0, 0, 0, 0, 0, 0] (.cons (.refl _) (.cons (.refl _) (.cons (.refl _) (.cons (.refl _) (.cons (.refl _) (.nil _)))))) rfl⟩
   ·refine bc rfl (fk (E := Enc.str) (bytes := 16) (xs := [.tmp 64]) (l := ([x51] : List (List UInt8))) ao (by kernel_rfl) rfl rfl (by decide) rfl rfl) ?_;show AI _ _ _ _ _ _ #[true, true, false, true, true, true, false, false, false, false, false] _;refine aP (i := 2) (by kernel_rfl) rfl rfl <| bc rfl (al (i := 1) ao rfl rfl rfl rfl) ?_;show AI _ _ _ _ _ _ #[true, true, true, true, true, true, false, false, false, false, false] _;refine zk 7 rfl (am (n := 0) (by kernel_rfl) rfl) ?_;show AI _ _ _ _ _ _ #[true, true, true, true, true, true, false, true, false, false, false] _;refine aP (i := 6) (by kernel_rfl) rfl rfl <| AIO.opx rfl (dr (E := Enc.str) (bytes := 16) 4 ao ao rfl (by kernel_rfl) rfl rfl rfl rfl g54 e56) ?_;rintro _ _ ⟨t57, rfl, rfl⟩;show AI _ _ _ _ _ _ #[true, true, true, true, true, true, true, true, false, false, false] _;refine aP (i := 8) (by kernel_rfl) rfl rfl <| bP (aB (i := 1) (c := .v _) (by kernel_rfl) rfl rfl rfl rfl (ab rfl)) ?_;show AI _ _ _ _ _ _ #[true, true, true, true, true, true, true, true, true, false, false] _;refine zk 9 rfl (am (n := 1) (by kernel_rfl) rfl) ?_;show AI _ _ _ _ _ _ #[true, true, true, true, true, true, true, true, true, true, false] _;refine aP (i := 10) (by kernel_rfl) rfl rfl <| bP (aB (i := 1) (c := slE _ _ _) (by kernel_rfl) rfl rfl rfl rfl (ab rfl)) ?_
    show AI _ _ _ _ _ _ #[true, true, true, true, true, true, true, true, true, true, true] _;refine bx rfl ?_;exact Exists.intro (x55, t57) ⟨H, aY [0, 0, 0, 0, 0, 0] (.cons (.refl _) (.cons (.refl _) (.cons (.refl _) (.cons (.refl _) (.cons (.refl _) (.nil _)))))) rfl⟩
  rintro ⟨y58, t59⟩ H;replace H : eA F y16 y20 y22 x24 x40 y58 = some rv := H
  unfold eA at H
  refine af ?_;obtain ⟨g61, H⟩ := aL H;obtain ⟨g62, H⟩ := aL H;refine aa ?_;show AR _ _ _ _ _ [0, 1, 2, 3, 4, 5] _;refine zR rfl (al (i := 0) az rfl rfl rfl rfl) <| zm rfl <| zS rfl (br aj rfl) <| zS rfl (eV rfl rfl g61) <| zS rfl (eV rfl rfl g62) <| s0 rfl rfl (aB (i := 0) (c := .v _) (by kernel_rfl) rfl rfl rfl rfl (ab rfl)) <| ah <| af ?_;obtain ⟨g63, H⟩ := aL H;obtain ⟨x64, e65, H⟩ := bM H;refine aa ?_;show AR _ _ _ _ _ [0, 1, 2] _;refine zm rfl <| zS rfl (aQ aj rfl rfl g63 e65) <| zS rfl (dN (a := x64) (b := 32) rfl rfl) <| ah <| ay rfl (fun c66 => ?_) (fun c66 => ?_)
  ·replace H := ba c66 H;refine af ?_;obtain ⟨g67, H⟩ := aL H;obtain ⟨x68, e69, H⟩ := bM H;obtain ⟨x70, x71, x72, e73, H⟩ := gV H;refine aa ?_;show AR _ _ _ _ _ [0, 1, 2, 3, 4, 5] _;refine zm rfl <| zm rfl <| zS rfl (dw aj rfl rfl g67 e69) <| aX rfl rfl (aO rfl kz rfl (jy F x40 x68 x70 x71 x72 e73) ?_);refine zS rfl (am (n := 2) (by kernel_rfl) rfl) <| s0 rfl rfl (cA (i := 1) (vs := [i64 x70, i64 x71, i64 x72]) (by kernel_rfl) rfl rfl (by simp [bA, slE]) rfl (ab rfl)) <| ah <| af ?_;obtain ⟨x74, x75, e76, H⟩ := gi H;refine aa ?_;show AR _ _ _ _ _ [0, 1, 2, 3] _;refine zS rfl (aR Tryd.underlying55 rfl rfl) <| zR rfl (kP (cs := [i64 x40, slE Enc.str y58 (some t59), i64 x70, i64 x71, i64 x72]) (dF (i := 1) (n := 5) Tryd.underlying38 rfl (by kernel_rfl) rfl rfl (ab rfl)) (.cons (.refl _) (.cons (.tok _ _ _) (.cons (.refl _) (.cons (.refl _) (.cons (.refl _) (.nil))))))) <| zR rfl (al (i := 0) az rfl rfl rfl rfl) <| aX rfl rfl (AO.callFAt [2, 4, 2] rfl (.inl rfl) nF rfl (mi F x40 y58 x70 x71 x72 (y16 + ((x24.length : Int) + 2)) o3 y20 t21 o6 y22 x74 x75 e76) rfl (fun c A' h => by cases h.1) ?_)
   rintro av A' ⟨h, t77, rfl⟩; cases h
   refine ah <| aa ?_;show AR _ _ _ _ _ [0, 1] _;refine zS rfl (lc (zs := [.int .i64 0, .slice none 0 0, .int .i64 0, .int .i64 0, .int .i64 0]) (ps := [(0, 1), (1, 1), (2, 3)]) (cs := [i64 0, nilS, i64 0, i64 0, i64 0]) (by kernel_rfl) rfl rfl) <| s0 rfl rfl (cA (i := 4) (vs := [i64 0, nilS, i64 0, i64 0, i64 0]) (by kernel_rfl) rfl rfl (by simp [bA, slE]) rfl (ab rfl)) ?_
   refine AR.nil_objAt 4 1 1 9 rfl rfl fun t78 => ?_
   show AR _ _ _ _ _ _ ⟨_, _, [.tok t78 9, .obj o3 [slE (ai Enc.int (ai (Enc.sl Enc.str) (ai Enc.int (ai Enc.int Enc.int)))) x74 (some t77)], .tok t77 38, .obj o6 [i64 x75], .obj o13 [i64 (y16 + ((x24.length : Int) + 2))], .obj o11 [i64 0, slE Enc.str [] (some t78), i64 0, i64 0, i64 0], .tok t59 9]⟩;refine ah ?_;obtain rfl := ak H;exact ⟨rfl, rfl, (t78, t77), aC [4, 4, 1, 2, 0, 0] rfl⟩
  ·replace H := bb c66 H;refine aE ?_;obtain rfl := ak H;exact ⟨rfl, rfl, (t59, t21), aC [0, 0, 0, 0, 0, 0] rfl⟩
 ·rintro h89 o88 ⟨t86, t87⟩;replace H := ba h89 H;obtain ⟨rfl, rfl, rfl⟩ := jh H;exact Exists.intro _ (And.intro (Unmark.at 0 rfl (.nil _)) (Exists.intro _ ⟨aC [2, 4, 2] rfl, t87, rfl, .inr ⟨rfl, rfl⟩⟩))
 rintro h89 o85 ⟨t83, t84⟩;replace H := bb h89 H;obtain ⟨rfl, rfl, rfl⟩ := jh H;exact Exists.intro _ (And.intro (Unmark.at 0 rfl (.nil _)) (Exists.intro _ (Exists.intro _ ⟨bf rfl, aC [3, 5, 3] rfl, t84, rfl, .inl ⟨rfl, rfl⟩⟩)))
theorem kF (F : Nat) (a1 : List UInt8) (q2 : Option Nat) (o3 : Nat) (a4 : List (Int × (List (List UInt8)) × Int × Int × Int)) (t5 : Nat) (o6 : Nat) (a7 : Int) (r8 : List (Int × (List (List UInt8)) × Int × Int × Int)) (r10 : Int) (H : fC F a1 a4 a7 = some (r8, r10, false)) : ACalls Tryd.prog 24 [slE Enc.byte a1 q2, .fn (.func 25) [] [.pt o3 0, .pt o6 0]] [.obj o3 [slE (ai Enc.int (ai (Enc.sl Enc.str) (ai Enc.int (ai Enc.int Enc.int)))) a4 (some t5)], .tok t5 38, .obj o6 [i64 a7]] (fun e A' => e = .ret (.tup []) ∧ ∃ t9, A' = [.obj o3 [slE (ai Enc.int (ai (Enc.sl Enc.str) (ai Enc.int (ai Enc.int Enc.int)))) r8 (some t9)], .tok t9 38, .obj o6 [i64 r10]]) :=
 (ki F a1 q2 o3 a4 t5 o6 a7 r8 r10 false H).mono fun e A' h => by obtain ⟨t9, h, ⟨h1, h2⟩ | ⟨h1, h2⟩⟩ := h <;> first | exact ⟨h2, t9, h⟩ | cases h1
theorem jT (F : Nat) (a1 : List UInt8) (q2 : Option Nat) (o3 : Nat) (a4 : List (Int × (List (List UInt8)) × Int × Int × Int)) (t5 : Nat) (o6 : Nat) (a7 : Int) (r8 : List (Int × (List (List UInt8)) × Int × Int × Int)) (r10 : Int) (H : fC F a1 a4 a7 = some (r8, r10, true)) : ACalls Tryd.prog 24 [slE Enc.byte a1 q2, .fn (.func 25) [] [.pt o3 0, .pt o6 0]] [.obj o3 [slE (ai Enc.int (ai (Enc.sl Enc.str) (ai Enc.int (ai Enc.int Enc.int)))) a4 (some t5)], .tok t5 38, .obj o6 [i64 a7]] (fun e A' => e = .pan (iV (.iface 51 (.agg #[]))) ∧ ∃ t9, A' = [.obj o3 [slE (ai Enc.int (ai (Enc.sl Enc.str) (ai Enc.int (ai Enc.int Enc.int)))) r8 (some t9)], .tok t9 38, .obj o6 [i64 r10]]) :=
 (ki F a1 q2 o3 a4 t5 o6 a7 r8 r10 true H).mono fun e A' h => by obtain ⟨t9, h, ⟨h1, h2⟩ | ⟨h1, h2⟩⟩ := h <;> first | exact ⟨h2, t9, h⟩ | cases h1
set_option maxRecDepth 100000 in
set_option maxHeartbeats 1000000 in
theorem fX (F : Nat) (H : fD F = some ()) : ACalls Tryd.prog 9 [] [] (fun e A' => ∃ ob1 : Nat, e = .ret (.pt ob1 0) ∧ A' = [.obj ob1 [nilS, B false]]) := by
 unfold fD at H
 refine aA Tryd.func9 rfl rfl ?_;show AW _ _ 3 _ _ _;refine af <| aa ?_;show AR _ _ _ _ _ [0] _;refine za rfl <| ah <| af <| aa ?_;show AR _ _ _ _ _ [0, 1, 2] _;refine zS rfl (lc (zs := [.slice none 0 0, .bool false]) (ps := [(0, 1), (1, 1)]) (cs := [nilS, B false]) (by kernel_rfl) rfl rfl) <| zX rfl (kV rfl (.inr ⟨_, rfl⟩)) ?_;rintro _ _ ⟨o1, rfl, rfl⟩;refine zS rfl (aG (av := .pt _ _) rfl) <| ah <| aM ?_;exact And.intro rfl (Exists.intro _ (Exists.intro _ ⟨aI rfl (.refl _), aC [0] rfl, o1, rfl, rfl⟩))
abbrev _root_.Go.Av.ar := @Tryd.underlying25
set_option maxRecDepth 100000 in
set_option maxHeartbeats 1000000 in
theorem fY (F : Nat) (o1 : Nat) (a2 : List UInt8) (t3 : Nat) (a4 : Bool) (r5 : Bool) (H : fE F a2 a4 = some r5) : ACalls Tryd.prog 13 [.pt o1 0] [.obj o1 [slE Enc.byte a2 (some t3), B a4], .tok t3 5] (fun e A' => e = .ret (B r5) ∧ A' = [.obj o1 [slE Enc.byte a2 (some t3), B a4], .tok t3 5]) := by
 unfold fE at H
 refine aA Tryd.func13 rfl rfl ?_;show AW _ _ 11 _ _ _;refine af <| aa ?_;show AR _ _ _ _ _ [0] _;refine za rfl <| ah <| af <| aa ?_;show AR _ _ _ _ _ [0, 1, 2, 3, 4, 5, 6, 7, 8] _;refine zS rfl (au (av := .pt _ _) rfl) <| zS rfl (fg ar rfl rfl) <| zm rfl <| zU rfl rfl (au (av := .pt _ _) rfl) <| zU rfl rfl (ax rfl) <| zU rfl rfl (am (n := 1) (by kernel_rfl) rfl) <| zT rfl rfl (AO.op rfl rfl (al (i := 0) Tryd.underlying4 rfl rfl rfl rfl) ?_);refine zS rfl (ap (av := .v _) rfl rfl rfl) <| za rfl <| ah <| aM ?_;obtain rfl := ak H;exact And.intro rfl (Exists.intro _ (Exists.intro _ ⟨aI rfl (.refl _), aC [0, 0] rfl, rfl, rfl⟩))
set_option maxRecDepth 100000 in
set_option maxHeartbeats 1000000 in
theorem gC (F : Nat) (o1 : Nat) (a2 : List UInt8) (t3 : Nat) (a4 : Bool) (r5 : Int) (H : fb F a2 a4 = some r5) : ACalls Tryd.prog 14 [.pt o1 0] [.obj o1 [slE Enc.byte a2 (some t3), B a4], .tok t3 5] (fun e A' => e = .ret (i64 r5) ∧ A' = [.obj o1 [slE Enc.byte a2 (some t3), B a4], .tok t3 5]) := by
 unfold fb at H
 refine aA Tryd.func14 rfl rfl ?_;show AW _ _ 10 _ _ _;refine af <| aa ?_;show AR _ _ _ _ _ [0] _;refine za rfl <| ah <| af <| af <| aa ?_;show AR _ _ _ _ _ [0, 1] _;refine zS rfl (au (av := .pt _ _) rfl) <| zS rfl (fg ar rfl rfl) <| ah <| ay rfl (fun hx => cU hx rfl) (fun _ => ?_);refine aE <| af <| aa ?_;show AR _ _ _ _ _ [0, 1, 2, 3, 4, 5] _;refine zS rfl (au (av := .pt _ _) rfl) <| zS rfl (ax rfl) <| zS rfl (am (n := 0) (by kernel_rfl) rfl) <| zR rfl (al (i := 0) ag rfl rfl rfl rfl) <| zS rfl (aN ag rfl) <| za rfl <| ah <| aM ?_;obtain rfl := ak H;exact And.intro rfl (Exists.intro _ (Exists.intro _ ⟨aI rfl (.refl _), aC [0, 0] rfl, rfl, rfl⟩))
set_option maxRecDepth 100000 in
set_option maxHeartbeats 1000000 in
theorem iq (F : Nat) (o1 : Nat) (a2 : List UInt8) (t3 : Nat) (a4 : Bool) (a5 : List UInt8) (q6 : Option Nat) (r7 : List (Int × (List (List UInt8)) × Int × Int × Int)) (r8 : List UInt8) (r10 : Bool) (H : eO F a2 a4 a5 = some (r7, r8, r10)) : ACalls Tryd.prog 10 [.pt o1 0, slE Enc.byte a5 q6] [.obj o1 [slE Enc.byte a2 (some t3), B a4], .tok t3 5] (fun e A' => e = .ret (slE (ai Enc.int (ai (Enc.sl Enc.str) (ai Enc.int (ai Enc.int Enc.int)))) r7 none) ∧ ∃ t9, A' = [.obj o1 [slE Enc.byte r8 (some t9), B r10], .tok t9 5]) := by
 unfold eO at H
 refine je [4] Tryd.func10 rfl rfl ?_;show AW _ _ 31 _ _ _;refine af <| aa ?_;show AR _ _ _ _ _ [0, 1] _;refine zX rfl (kV rfl (.inl rfl)) ?_;rintro _ _ ⟨o11, rfl, rfl⟩;refine zX rfl (dS (zs := [.slice none 0 0]) (by kernel_rfl)) ?_;rintro _ _ ⟨o12, rfl, rfl⟩;refine ah <| af <| af <| aa ?_;show AR _ _ _ _ _ [0, 1, 2, 3, 4, 5, 6, 7] _;refine zR rfl (al (i := 1) ar rfl rfl rfl rfl) <| zS rfl (fg ar rfl rfl) <| zm rfl <| zT rfl rfl (AO.op rfl rfl (al (i := 1) ar rfl rfl rfl rfl) ?_);refine zU rfl rfl (ax rfl) <| zU rfl rfl (am (n := 1) (by kernel_rfl) rfl) <| zT rfl rfl (AO.op rfl rfl (al (i := 2) Tryd.underlying4 rfl rfl rfl rfl) ?_);refine zS rfl (ap (av := .v _) rfl rfl rfl) <| ah <| ay rfl (fun c13 => ?_) (fun c13 => ?_)
 ·replace H := ba c13 H;refine af <| aa ?_;show AR _ _ _ _ _ [0] _;refine s0 rfl rfl (aB (i := 0) (c := .v _) (by kernel_rfl) rfl rfl rfl rfl (ab rfl)) <| ah <| aM ?_;obtain ⟨rfl, rfl, rfl⟩ := jh H;exact Exists.intro _ (Exists.intro _ ⟨dz rfl ((CellV.one (c := .v _) 0 aF rfl rfl rfl rfl).oneW (.nil _)), aC [2, 2] rfl, rfl, t3, rfl⟩)
 ·replace H := bb c13 H;refine aE <| bD (X := (List UInt8) × Nat) (fun (y21, t22) => ⟨[(2, .pt o11 0), (4, .pt o12 0)], [], [.obj o12 [nilS], .obj o11 [.pt o1 0], .obj o1 [slE Enc.byte y21 (some t22), B a4], .tok t22 5]⟩) (fun (y21, t22) => eB F a4 y21 = some (r7, r8, r10)) ?_ ?_
  ·obtain ⟨g15, H⟩ := aL H;obtain ⟨x16, e17, H⟩ := bM H;refine cq (by kernel_rfl) ?_;show AI _ _ _ _ _ 10 (Array.replicate 10 false) _;refine AI.take (i := 5) rfl rfl (by kernel_rfl) (by kernel_rfl) (by kernel_rfl) (fun _ _ h => bl rfl h) (au (av := slE _ _ _) rfl) ?_;show AI _ _ _ _ _ _ #[false, false, false, false, false, true, false, false, false, false] _;refine dM (i := 0) (j := 1) (by kernel_rfl) rfl rfl rfl rfl ?_ ?_
   ·refine bc rfl (al (i := 1) ar rfl rfl rfl rfl) ?_;show AI _ _ _ _ _ _ #[true, false, false, false, false, true, false, false, false, false] _;refine aP (i := 1) (by kernel_rfl) rfl rfl <| bc rfl (al (i := 1) ar rfl rfl rfl rfl) ?_;show AI _ _ _ _ _ _ #[true, true, false, false, false, true, false, false, false, false] _;refine AI.take (i := 2) rfl rfl (by kernel_rfl) (by kernel_rfl) (by kernel_rfl) (fun _ _ h => bl rfl h) (ax rfl) ?_;show AI _ _ _ _ _ _ #[true, true, true, false, false, true, false, false, false, false] _;refine AI.take (i := 3) rfl rfl (by kernel_rfl) (by kernel_rfl) (by kernel_rfl) (fun _ _ h => bl rfl h) (am (n := 0) (by kernel_rfl) rfl) ?_;show AI _ _ _ _ _ _ #[true, true, true, true, false, true, false, false, false, false] _;refine aP (i := 4) (by kernel_rfl) rfl rfl <| bc rfl (al (i := 2) ag rfl rfl rfl rfl) ?_;show AI _ _ _ _ _ _ #[true, true, true, true, true, true, false, false, false, false] _;refine aP (i := 6) (by kernel_rfl) rfl rfl <| AIO.opx rfl (dr (E := Enc.byte) (bytes := 1) 3 ag ag rfl (by kernel_rfl) rfl rfl rfl rfl g15 e17) ?_;rintro _ _ ⟨t14, rfl, rfl⟩;show AI _ _ _ _ _ _ #[true, true, true, true, true, true, true, false, false, false] _;refine AI.take (i := 7) rfl rfl (by kernel_rfl) (by kernel_rfl) (by kernel_rfl) (fun _ _ h => bl rfl h) (ax rfl) ?_
    show AI _ _ _ _ _ _ #[true, true, true, true, true, true, true, true, false, false] _;refine AI.take (i := 8) rfl rfl (by kernel_rfl) (by kernel_rfl) (by kernel_rfl) (fun _ _ h => bl rfl h) (am (n := 0) (by kernel_rfl) rfl) ?_;show AI _ _ _ _ _ _ #[true, true, true, true, true, true, true, true, true, false] _;refine aP (i := 9) (by kernel_rfl) rfl rfl <| bP (aB (i := 2) (c := slE _ _ _) (by kernel_rfl) rfl rfl rfl rfl (ab rfl)) ?_;show AI _ _ _ _ _ _ #[true, true, true, true, true, true, true, true, true, true] _;refine bx rfl ?_;exact Exists.intro (x16, t14) ⟨H, aY [0, 0, 0, 0] (.cons (.refl _) (.cons (.refl _) (.nil _))) rfl⟩
   ·refine bc rfl (al (i := 1) ar rfl rfl rfl rfl) ?_;show AI _ _ _ _ _ _ #[false, true, false, false, false, true, false, false, false, false] _;refine AI.take (i := 2) rfl rfl (by kernel_rfl) (by kernel_rfl) (by kernel_rfl) (fun _ _ h => bl rfl h) (ax rfl) ?_;show AI _ _ _ _ _ _ #[false, true, true, false, false, true, false, false, false, false] _;refine AI.take (i := 3) rfl rfl (by kernel_rfl) (by kernel_rfl) (by kernel_rfl) (fun _ _ h => bl rfl h) (am (n := 0) (by kernel_rfl) rfl) ?_;show AI _ _ _ _ _ _ #[false, true, true, true, false, true, false, false, false, false] _;refine dM (i := 0) (j := 4) (by kernel_rfl) rfl rfl rfl rfl ?_ ?_
    ·refine bc rfl (al (i := 1) ar rfl rfl rfl rfl) ?_;show AI _ _ _ _ _ _ #[true, true, true, true, false, true, false, false, false, false] _;refine aP (i := 4) (by kernel_rfl) rfl rfl <| bc rfl (al (i := 2) ag rfl rfl rfl rfl) ?_;show AI _ _ _ _ _ _ #[true, true, true, true, true, true, false, false, false, false] _;refine aP (i := 6) (by kernel_rfl) rfl rfl <| AIO.opx rfl (dr (E := Enc.byte) (bytes := 1) 3 ag ag rfl (by kernel_rfl) rfl rfl rfl rfl g15 e17) ?_;rintro _ _ ⟨t18, rfl, rfl⟩;show AI _ _ _ _ _ _ #[true, true, true, true, true, true, true, false, false, false] _;refine AI.take (i := 7) rfl rfl (by kernel_rfl) (by kernel_rfl) (by kernel_rfl) (fun _ _ h => bl rfl h) (ax rfl) ?_;show AI _ _ _ _ _ _ #[true, true, true, true, true, true, true, true, false, false] _;refine AI.take (i := 8) rfl rfl (by kernel_rfl) (by kernel_rfl) (by kernel_rfl) (fun _ _ h => bl rfl h) (am (n := 0) (by kernel_rfl) rfl) ?_;show AI _ _ _ _ _ _ #[true, true, true, true, true, true, true, true, true, false] _;refine aP (i := 9) (by kernel_rfl) rfl rfl <| bP (aB (i := 2) (c := slE _ _ _) (by kernel_rfl) rfl rfl rfl rfl (ab rfl)) ?_;show AI _ _ _ _ _ _ #[true, true, true, true, true, true, true, true, true, true] _;refine bx rfl ?_;exact Exists.intro (x16, t18) ⟨H, aY [0, 0, 0, 0] (.cons (.refl _) (.cons (.refl _) (.nil _))) rfl⟩
    ·refine bc rfl (al (i := 2) ag rfl rfl rfl rfl) ?_;show AI _ _ _ _ _ _ #[false, true, true, true, true, true, false, false, false, false] _;refine dM (i := 0) (j := 6) (by kernel_rfl) rfl rfl rfl rfl ?_ ?_
     ·refine bc rfl (al (i := 1) ar rfl rfl rfl rfl) ?_;show AI _ _ _ _ _ _ #[true, true, true, true, true, true, false, false, false, false] _;refine aP (i := 6) (by kernel_rfl) rfl rfl <| AIO.opx rfl (dr (E := Enc.byte) (bytes := 1) 3 ag ag rfl (by kernel_rfl) rfl rfl rfl rfl g15 e17) ?_;rintro _ _ ⟨t19, rfl, rfl⟩;show AI _ _ _ _ _ _ #[true, true, true, true, true, true, true, false, false, false] _;refine AI.take (i := 7) rfl rfl (by kernel_rfl) (by kernel_rfl) (by kernel_rfl) (fun _ _ h => bl rfl h) (ax rfl) ?_;show AI _ _ _ _ _ _ #[true, true, true, true, true, true, true, true, false, false] _;refine AI.take (i := 8) rfl rfl (by kernel_rfl) (by kernel_rfl) (by kernel_rfl) (fun _ _ h => bl rfl h) (am (n := 0) (by kernel_rfl) rfl) ?_;show AI _ _ _ _ _ _ #[true, true, true, true, true, true, true, true, true, false] _;refine aP (i := 9) (by kernel_rfl) rfl rfl <| bP (aB (i := 2) (c := slE _ _ _) (by kernel_rfl) rfl rfl rfl rfl (ab rfl)) ?_;show AI _ _ _ _ _ _ #[true, true, true, true, true, true, true, true, true, true] _;refine bx rfl ?_;exact Exists.intro (x16, t19) ⟨H, aY [0, 0, 0, 0] (.cons (.refl _) (.cons (.refl _) (.nil _))) rfl⟩
     ·refine AIO.opx rfl (dr (E := Enc.byte) (bytes := 1) 3 ag ag rfl (by kernel_rfl) rfl rfl rfl rfl g15 e17) ?_;rintro _ _ ⟨t20, rfl, rfl⟩;show AI _ _ _ _ _ _ #[false, true, true, true, true, true, true, false, false, false] _;refine aP (i := 0) (by kernel_rfl) rfl rfl <| bc rfl (al (i := 1) ar rfl rfl rfl rfl) ?_;show AI _ _ _ _ _ _ #[true, true, true, true, true, true, true, false, false, false] _;refine AI.take (i := 7) rfl rfl (by kernel_rfl) (by kernel_rfl) (by kernel_rfl) (fun _ _ h => bl rfl h) (ax rfl) ?_;show AI _ _ _ _ _ _ #[true, true, true, true, true, true, true, true, false, false] _;refine AI.take (i := 8) rfl rfl (by kernel_rfl) (by kernel_rfl) (by kernel_rfl) (fun _ _ h => bl rfl h) (am (n := 0) (by kernel_rfl) rfl) ?_;show AI _ _ _ _ _ _ #[true, true, true, true, true, true, true, true, true, false] _;refine aP (i := 9) (by kernel_rfl) rfl rfl <| bP (aB (i := 2) (c := slE _ _ _) (by kernel_rfl) rfl rfl rfl rfl (ab rfl)) ?_;show AI _ _ _ _ _ _ #[true, true, true, true, true, true, true, true, true, true] _;refine bx rfl ?_;exact Exists.intro (x16, t20) ⟨H, aY [0, 0, 0, 0] (.cons (.refl _) (.cons (.refl _) (.nil _))) rfl⟩
  rintro ⟨y21, t22⟩ H;replace H : eB F a4 y21 = some (r7, r8, r10) := H
  unfold eB at H
  refine af <| aa ?_;show AR _ _ _ _ _ [0, 1] _;refine zX rfl (dS (zs := [.int .i64 0]) (by kernel_rfl)) ?_;rintro _ _ ⟨o24, rfl, rfl⟩;refine s0 rfl rfl (aB (i := 0) (c := .v _) (by kernel_rfl) rfl rfl rfl rfl (ab rfl)) <| ah <| af <| aa ?_;show AR _ _ _ _ _ [0, 1] _;refine zS rfl (el rfl rfl) <| aX rfl rfl (AO.defer rfl ?_);show AR _ _ _ _ _ _ ⟨_, [.call (.func 22) [.pt o11 0, .pt o24 0] []], _⟩;refine ah <| af ?_;obtain ⟨x26, x27, x28, e29, H⟩ := gV H
  rcases ac x28 with rfl | rfl
  ·replace H := ba rfl H;refine aa ?_;show AR _ _ _ _ _ [0, 1, 2, 3, 4, 5] _;refine zR rfl (al (i := 2) ar rfl rfl rfl rfl) <| zS rfl (ax rfl) <| zS rfl (am (n := 0) (by kernel_rfl) rfl) <| zR rfl (al (i := 3) ag rfl rfl rfl rfl) <| zS rfl (el rfl rfl) ?_
   refine AR.nil_objAt 1 0 5 38 rfl rfl fun t25 => ?_
   show AR _ _ _ _ _ _ ⟨_, _, [.tok t25 38, .obj o24 [i64 0], .obj o12 [slE (ai Enc.int (ai (Enc.sl Enc.str) (ai Enc.int (ai Enc.int Enc.int)))) [] (some t25)], .obj o11 [.pt o1 0], .obj o1 [slE Enc.byte y21 (some t22), B a4], .tok t22 5]⟩;refine aX rfl rfl (AO.callPanR [2, 0, 0] rfl kA rfl (jT F y21 (some t22) o12 [] t25 o24 0 x26 x27 e29) rfl (fun av A' h => by cases h.1) ?_);rintro c A' ⟨h, t30, rfl⟩
   cases h
   refine Exists.intro [(4, .pt o12 0)] ⟨by simp, .cons (.refl _) (.nil _), ?_⟩;show ALeaves _ _ _ _ _ [.call (.func 22) [.pt o11 0, .pt o24 0] []] _ [.obj o12 [slE (ai Enc.int (ai (Enc.sl Enc.str) (ai Enc.int (ai Enc.int Enc.int)))) x26 (some t30)], .tok t30 38, .obj o24 [i64 x27], .obj o11 [.pt o1 0], .obj o1 [slE Enc.byte y21 (some t22), B a4], .tok t22 5];refine fT (v := .tup []) (u1 := (.panicking [{ v := (.iface 51 (.agg #[])), recovered := true }])) (A2 := (fun t32 => [.tok t32 5, .obj o24 [i64 x27], .obj o11 [.pt o1 0], .obj o1 [slE Enc.byte [] (some t32), B true]])) [2, 2, 2] (fun h => by cases h) kB rfl ?_ ?_
   ·show ADCalls _ _ [.pt o11 0, .pt o24 0] [.obj o24 [i64 x27], .obj o11 [.pt o1 0], .obj o1 [slE Enc.byte y21 (some t22), B a4]] _ _;refine ADCalls.grow (A2 := [.obj o24 [i64 x27], .obj o11 [.pt o1 0], .obj o1 [nilS, B true]]) 2 0 1 5 rfl rfl (fun _ => rfl) <| ei (av := .ifc 51 (.agg [])) (l := [1]) Tryd.func22 rfl rfl rfl rfl rfl Recovers.pan rfl (fun cs => ?_);refine ASR.op rfl rfl ((aG (av := .ifc _ _) rfl).opR _) <| ASR.nil <| af <| aa ?_;show AR _ _ _ _ _ [0, 1] _;refine zS rfl (au (av := .ifc _ _) rfl) <| zS rfl (lv (ms := []) (.inr rfl) Tryd.underlying20 rfl rfl) <| ah <| ay rfl (fun _ => ?_) (fun hx => cU rfl hx);refine af <| af <| aa ?_;show AR _ _ _ _ _ [0, 1, 2, 3, 4, 5, 6, 7] _;refine zS rfl (au (av := .ifc _ _) rfl) <| zS rfl (iY Tryd.underlying51 rfl rfl) <| zS rfl (au (av := .tup _) rfl) <| zS rfl (aK (av := .agg _) rfl rfl) <| zS rfl (aK (av := .v _) rfl rfl) <| zX rfl (dS (zs := []) (by kernel_rfl)) ?_;rintro _ _ ⟨o31, rfl, rfl⟩;refine s0 rfl rfl (cA (i := 0) (vs := []) (by kernel_rfl) rfl rfl (by simp [bA, slE]) rfl (ab rfl)) <| za rfl <| ah <| af <| aa ?_;show AR _ _ _ _ _ [0, 1] _;refine zm rfl <| zS rfl (ec rfl) <| ah <| ay rfl (fun hx => cU hx rfl) (fun _ => ?_);refine aE <| af <| aa ?_;show AR _ _ _ _ _ [0, 1, 2, 3, 4, 5, 6, 7] _
    refine zR rfl (al (i := 2) ar rfl rfl rfl rfl) <| zR rfl (al (i := 2) ar rfl rfl rfl rfl) <| zS rfl (ax rfl) <| zS rfl (am (n := 0) (by kernel_rfl) rfl) <| s0 rfl rfl (aB (i := 3) (c := .v _) (by kernel_rfl) rfl rfl rfl rfl (ab rfl)) <| zS rfl (ax rfl) <| zS rfl (am (n := 1) (by kernel_rfl) rfl) <| s0 rfl rfl (aB (i := 3) (c := .v _) (by kernel_rfl) rfl rfl rfl rfl (ab rfl)) <| ah <| aM ?_;exact And.intro rfl (Exists.intro _ (Exists.intro _ ⟨bf rfl, aC [1, 1, 1] rfl, rfl, rfl, rfl⟩))
   intro t32;show ALeaves _ _ _ _ _ [] .returning [.tok t32 5, .obj o24 [i64 x27], .obj o11 [.pt o1 0], .obj o1 [slE Enc.byte [] (some t32), B true], .obj o12 [slE (ai Enc.int (ai (Enc.sl Enc.str) (ai Enc.int (ai Enc.int Enc.int)))) x26 (some t30)], .tok t30 38, .tok t22 5];obtain ⟨rfl, rfl, rfl⟩ := jh H;exact Exists.intro _ (Exists.intro _ ⟨dz rfl ((CellV.one (c := slE _ _ _) 4 aF rfl rfl rfl rfl).oneW (.tok _ _ _)), aC [3, 0] rfl, rfl, t32, rfl⟩)
  replace H := bb rfl H;refine aa ?_;show AR _ _ _ _ _ [0, 1, 2, 3, 4, 5] _;refine zR rfl (al (i := 2) ar rfl rfl rfl rfl) <| zS rfl (ax rfl) <| zS rfl (am (n := 0) (by kernel_rfl) rfl) <| zR rfl (al (i := 3) ag rfl rfl rfl rfl) <| zS rfl (el rfl rfl) ?_
  refine AR.nil_objAt 1 0 5 38 rfl rfl fun t25 => ?_
  show AR _ _ _ _ _ _ ⟨_, _, [.tok t25 38, .obj o24 [i64 0], .obj o12 [slE (ai Enc.int (ai (Enc.sl Enc.str) (ai Enc.int (ai Enc.int Enc.int)))) [] (some t25)], .obj o11 [.pt o1 0], .obj o1 [slE Enc.byte y21 (some t22), B a4], .tok t22 5]⟩;refine aX rfl rfl (bN [2, 0, 0] rfl kA rfl (kF F y21 (some t22) o12 [] t25 o24 0 x26 x27 e29) rfl (fun c A' h => by cases h.1) ?_)
  rintro av A' ⟨h, t33, rfl⟩; cases h
  refine ah <| af <| aa ?_;show AR _ _ _ _ _ [0, 1] _;refine zR rfl (al (i := 0) aF rfl rfl rfl rfl) <| s0 rfl rfl (aB (i := 0) (c := slE _ _ _) (by kernel_rfl) rfl rfl rfl rfl (ab rfl)) <| ah <| aM ?_;obtain ⟨g34, H⟩ := aL H;obtain ⟨x35, e36, H⟩ := bM H;obtain ⟨g37, H⟩ := aL H;show ALeaves _ _ _ _ _ [.call (.func 22) [.pt o11 0, .pt o24 0] []] _ [.obj o12 [slE (ai Enc.int (ai (Enc.sl Enc.str) (ai Enc.int (ai Enc.int Enc.int)))) x26 (some t33)], .tok t33 38, .obj o24 [i64 x27], .obj o11 [.pt o1 0], .obj o1 [slE Enc.byte y21 (some t22), B a4], .tok t22 5];refine fT (v := .tup []) (u1 := .returning) (A2 := (fun t38 => [.tok t38 5, .obj o24 [i64 x27], .obj o11 [.pt o1 0], .obj o1 [slE Enc.byte x35 (some t38), B a4]])) [2, 2, 2] (fun h => by cases h) kB rfl ?_ ?_
  ·show ADCalls _ _ [.pt o11 0, .pt o24 0] [.obj o24 [i64 x27], .obj o11 [.pt o1 0], .obj o1 [slE Enc.byte y21 (some t22), B a4]] _ _;refine ei (av := .v .nilIface) (l := [1]) Tryd.func22 rfl rfl rfl rfl rfl Recovers.ret rfl (fun cs => ?_);refine ASR.op rfl rfl ((asg rfl).opR _) <| ASR.nil <| af <| aa ?_;show AR _ _ _ _ _ [0, 1] _;refine zm rfl <| zS rfl (gS (n := 0) (t := 0) (k := .i64) Tryd.underlying20 rfl rfl) <| ah <| ay rfl (fun hx => cU hx rfl) (fun _ => ?_);refine aE <| cq (by kernel_rfl) ?_;show AI _ _ _ _ _ 11 (Array.replicate 11 false) _;refine mf (i := 0) (j := 1) (l := 5) (by kernel_rfl) rfl rfl rfl rfl rfl rfl ?_ ?_ ?_
   ·refine bc rfl (al (i := 1) ar rfl rfl rfl rfl) ?_;show AI _ _ _ _ _ _ #[true, false, false, false, false, false, false, false, false, false, false] _;refine dM (i := 1) (j := 5) (by kernel_rfl) rfl rfl rfl rfl ?_ ?_
    ·refine bc rfl (al (i := 1) ar rfl rfl rfl rfl) ?_;show AI _ _ _ _ _ _ #[true, true, false, false, false, false, false, false, false, false, false] _;refine zk 2 rfl (ax rfl) ?_;show AI _ _ _ _ _ _ #[true, true, true, false, false, false, false, false, false, false, false] _;refine zk 3 rfl (am (n := 0) (by kernel_rfl) rfl) ?_;show AI _ _ _ _ _ _ #[true, true, true, true, false, false, false, false, false, false, false] _;refine dM (i := 4) (j := 5) (by kernel_rfl) rfl rfl rfl rfl ?_ ?_
     ·refine bc rfl (al (i := 2) ag rfl rfl rfl rfl) ?_;show AI _ _ _ _ _ _ #[true, true, true, true, true, false, false, false, false, false, false] _;refine aP (i := 5) (by kernel_rfl) rfl rfl <| bc rfl (al (i := 0) az rfl rfl rfl rfl) ?_;show AI _ _ _ _ _ _ #[true, true, true, true, true, true, false, false, false, false, false] _;refine zk 6 rfl (cc (E := Enc.byte) ag (by kernel_rfl) rfl rfl g34 e36) ?_;show AI _ _ _ _ _ _ #[true, true, true, true, true, true, true, false, false, false, false] _;refine aP (i := 7) (by kernel_rfl) rfl rfl <| bB [] rfl bU rfl (aV x35 none (dJ g37)) rfl (fun c A' h => by obtain ⟨_, h, _⟩ := h; cases h) ?_
      rintro av A' ⟨t38, h, rfl⟩; cases h
      show AI _ _ _ _ _ _ #[true, true, true, true, true, true, true, true, false, false, false] _;refine zk 8 rfl (ax rfl) ?_;show AI _ _ _ _ _ _ #[true, true, true, true, true, true, true, true, true, false, false] _;refine zk 9 rfl (am (n := 0) (by kernel_rfl) rfl) ?_;show AI _ _ _ _ _ _ #[true, true, true, true, true, true, true, true, true, true, false] _;refine aP (i := 10) (by kernel_rfl) rfl rfl <| bP (aB (i := 3) (c := slE _ _ _) (by kernel_rfl) rfl rfl rfl rfl (ab rfl)) ?_;show AI _ _ _ _ _ _ #[true, true, true, true, true, true, true, true, true, true, true] _;refine bx rfl ?_;exact And.intro rfl (Exists.intro _ (Exists.intro _ ⟨bf rfl, aC [0, 0, 0, 0] rfl, rfl, rfl, t38, rfl⟩))
     ·refine bc rfl (al (i := 0) az rfl rfl rfl rfl) ?_;show AI _ _ _ _ _ _ #[true, true, true, true, false, true, false, false, false, false, false] _;refine aP (i := 4) (by kernel_rfl) rfl rfl <| bc rfl (al (i := 2) ag rfl rfl rfl rfl) ?_;show AI _ _ _ _ _ _ #[true, true, true, true, true, true, false, false, false, false, false] _;refine zk 6 rfl (cc (E := Enc.byte) ag (by kernel_rfl) rfl rfl g34 e36) ?_;show AI _ _ _ _ _ _ #[true, true, true, true, true, true, true, false, false, false, false] _;refine aP (i := 7) (by kernel_rfl) rfl rfl <| bB [] rfl bU rfl (aV x35 none (dJ g37)) rfl (fun c A' h => by obtain ⟨_, h, _⟩ := h; cases h) ?_
      rintro av A' ⟨t39, h, rfl⟩; cases h
      show AI _ _ _ _ _ _ #[true, true, true, true, true, true, true, true, false, false, false] _;refine zk 8 rfl (ax rfl) ?_;show AI _ _ _ _ _ _ #[true, true, true, true, true, true, true, true, true, false, false] _;refine zk 9 rfl (am (n := 0) (by kernel_rfl) rfl) ?_;show AI _ _ _ _ _ _ #[true, true, true, true, true, true, true, true, true, true, false] _;refine aP (i := 10) (by kernel_rfl) rfl rfl <| bP (aB (i := 3) (c := slE _ _ _) (by kernel_rfl) rfl rfl rfl rfl (ab rfl)) ?_;show AI _ _ _ _ _ _ #[true, true, true, true, true, true, true, true, true, true, true] _;refine bx rfl ?_;exact And.intro rfl (Exists.intro _ (Exists.intro _ ⟨bf rfl, aC [0, 0, 0, 0] rfl, rfl, rfl, t39, rfl⟩))
    ·refine bc rfl (al (i := 0) az rfl rfl rfl rfl) ?_;show AI _ _ _ _ _ _ #[true, false, false, false, false, true, false, false, false, false, false] _;refine aP (i := 1) (by kernel_rfl) rfl rfl <| bc rfl (al (i := 1) ar rfl rfl rfl rfl) ?_;show AI _ _ _ _ _ _ #[true, true, false, false, false, true, false, false, false, false, false] _;refine zk 2 rfl (ax rfl) ?_;show AI _ _ _ _ _ _ #[true, true, true, false, false, true, false, false, false, false, false] _;refine zk 3 rfl (am (n := 0) (by kernel_rfl) rfl) ?_;show AI _ _ _ _ _ _ #[true, true, true, true, false, true, false, false, false, false, false] _;refine aP (i := 4) (by kernel_rfl) rfl rfl <| bc rfl (al (i := 2) ag rfl rfl rfl rfl) ?_;show AI _ _ _ _ _ _ #[true, true, true, true, true, true, false, false, false, false, false] _;refine zk 6 rfl (cc (E := Enc.byte) ag (by kernel_rfl) rfl rfl g34 e36) ?_;show AI _ _ _ _ _ _ #[true, true, true, true, true, true, true, false, false, false, false] _;refine aP (i := 7) (by kernel_rfl) rfl rfl <| bB [] rfl bU rfl (aV x35 none (dJ g37)) rfl (fun c A' h => by obtain ⟨_, h, _⟩ := h; cases h) ?_
     rintro av A' ⟨t40, h, rfl⟩; cases h
     show AI _ _ _ _ _ _ #[true, true, true, true, true, true, true, true, false, false, false] _;refine zk 8 rfl (ax rfl) ?_;show AI _ _ _ _ _ _ #[true, true, true, true, true, true, true, true, true, false, false] _;refine zk 9 rfl (am (n := 0) (by kernel_rfl) rfl) ?_;show AI _ _ _ _ _ _ #[true, true, true, true, true, true, true, true, true, true, false] _;refine aP (i := 10) (by kernel_rfl) rfl rfl <| bP (aB (i := 3) (c := slE _ _ _) (by kernel_rfl) rfl rfl rfl rfl (ab rfl)) ?_;show AI _ _ _ _ _ _ #[true, true, true, true, true, true, true, true, true, true, true] _;refine bx rfl ?_;exact And.intro rfl (Exists.intro _ (Exists.intro _ ⟨bf rfl, aC [0, 0, 0, 0] rfl, rfl, rfl, t40, rfl⟩))
   ·refine bc rfl (al (i := 1) ar rfl rfl rfl rfl) ?_;show AI _ _ _ _ _ _ #[false, true, false, false, false, false, false, false, false, false, false] _;refine zk 2 rfl (ax rfl) ?_;show AI _ _ _ _ _ _ #[false, true, true, false, false, false, false, false, false, false, false] _;refine zk 3 rfl (am (n := 0) (by kernel_rfl) rfl) ?_;show AI _ _ _ _ _ _ #[false, true, true, true, false, false, false, false, false, false, false] _;refine mf (i := 0) (j := 4) (l := 5) (by kernel_rfl) rfl rfl rfl rfl rfl rfl ?_ ?_ ?_
    ·refine bc rfl (al (i := 1) ar rfl rfl rfl rfl) ?_;show AI _ _ _ _ _ _ #[true, true, true, true, false, false, false, false, false, false, false] _;refine dM (i := 4) (j := 5) (by kernel_rfl) rfl rfl rfl rfl ?_ ?_
     ·refine bc rfl (al (i := 2) ag rfl rfl rfl rfl) ?_;show AI _ _ _ _ _ _ #[true, true, true, true, true, false, false, false, false, false, false] _;refine aP (i := 5) (by kernel_rfl) rfl rfl <| bc rfl (al (i := 0) az rfl rfl rfl rfl) ?_;show AI _ _ _ _ _ _ #[true, true, true, true, true, true, false, false, false, false, false] _;refine zk 6 rfl (cc (E := Enc.byte) ag (by kernel_rfl) rfl rfl g34 e36) ?_;show AI _ _ _ _ _ _ #[true, true, true, true, true, true, true, false, false, false, false] _;refine aP (i := 7) (by kernel_rfl) rfl rfl <| bB [] rfl bU rfl (aV x35 none (dJ g37)) rfl (fun c A' h => by obtain ⟨_, h, _⟩ := h; cases h) ?_
      rintro av A' ⟨t41, h, rfl⟩; cases h
      show AI _ _ _ _ _ _ #[true, true, true, true, true, true, true, true, false, false, false] _;refine zk 8 rfl (ax rfl) ?_;show AI _ _ _ _ _ _ #[true, true, true, true, true, true, true, true, true, false, false] _;refine zk 9 rfl (am (n := 0) (by kernel_rfl) rfl) ?_;show AI _ _ _ _ _ _ #[true, true, true, true, true, true, true, true, true, true, false] _;refine aP (i := 10) (by kernel_rfl) rfl rfl <| bP (aB (i := 3) (c := slE _ _ _) (by kernel_rfl) rfl rfl rfl rfl (ab rfl)) ?_;show AI _ _ _ _ _ _ #[true, true, true, true, true, true, true, true, true, true, true] _;refine bx rfl ?_;exact And.intro rfl (Exists.intro _ (Exists.intro _ ⟨bf rfl, aC [0, 0, 0, 0] rfl, rfl, rfl, t41, rfl⟩))
     ·refine bc rfl (al (i := 0) az rfl rfl rfl rfl) ?_;show AI _ _ _ _ _ _ #[true, true, true, true, false, true, false, false, false, false, false] _;refine aP (i := 4) (by kernel_rfl) rfl rfl <| bc rfl (al (i := 2) ag rfl rfl rfl rfl) ?_;show AI _ _ _ _ _ _ #[true, true, true, true, true, true, false, false, false, false, false] _;refine zk 6 rfl (cc (E := Enc.byte) ag (by kernel_rfl) rfl rfl g34 e36) ?_;show AI _ _ _ _ _ _ #[true, true, true, true, true, true, true, false, false, false, false] _;refine aP (i := 7) (by kernel_rfl) rfl rfl <| bB [] rfl bU rfl (aV x35 none (dJ g37)) rfl (fun c A' h => by obtain ⟨_, h, _⟩ := h; cases h) ?_
      rintro av A' ⟨t42, h, rfl⟩; cases h
      show AI _ _ _ _ _ _ #[true, true, true, true, true, true, true, true, false, false, false] _;refine zk 8 rfl (ax rfl) ?_;show AI _ _ _ _ _ _ #[true, true, true, true, true, true, true, true, true, false, false] _;refine zk 9 rfl (am (n := 0) (by kernel_rfl) rfl) ?_;show AI _ _ _ _ _ _ #[true, true, true, true, true, true, true, true, true, true, false] _;refine aP (i := 10) (by kernel_rfl) rfl rfl <| bP (aB (i := 3) (c := slE _ _ _) (by kernel_rfl) rfl rfl rfl rfl (ab rfl)) ?_;show AI _ _ _ _ _ _ #[true, true, true, true, true, true, true, true, true, true, true] _;refine bx rfl ?_;exact And.intro rfl (Exists.intro _ (Exists.intro _ ⟨bf rfl, aC [0, 0, 0, 0] rfl, rfl, rfl, t42, rfl⟩))
    ·refine bc rfl (al (i := 2) ag rfl rfl rfl rfl) ?_;show AI _ _ _ _ _ _ #[false, true, true, true, true, false, false, false, false, false, false] _;refine dM (i := 0) (j := 5) (by kernel_rfl) rfl rfl rfl rfl ?_ ?_
     ·refine bc rfl (al (i := 1) ar rfl rfl rfl rfl) ?_;show AI _ _ _ _ _ _ #[true, true, true, true, true, false, false, false, false, false, false] _;refine aP (i := 5) (by kernel_rfl) rfl rfl <| bc rfl (al (i := 0) az rfl rfl rfl rfl) ?_;show AI _ _ _ _ _ _ #[true, true, true, true, true, true, false, false, false, false, false] _;refine zk 6 rfl (cc (E := Enc.byte) ag (by kernel_rfl) rfl rfl g34 e36) ?_;show AI _ _ _ _ _ _ #[true, true, true, true, true, true, true, false, false, false, false] _;refine aP (i := 7) (by kernel_rfl) rfl rfl <| bB [] rfl bU rfl (aV x35 none (dJ g37)) rfl (fun c A' h => by obtain ⟨_, h, _⟩ := h; cases h) ?_
      rintro av A' ⟨t43, h, rfl⟩; cases h
      show AI _ _ _ _ _ _ #[true, true, true, true, true, true, true, true, false, false, false] _;refine zk 8 rfl (ax rfl) ?_;show AI _ _ _ _ _ _ #[true, true, true, true, true, true, true, true, true, false, false] _;refine zk 9 rfl (am (n := 0) (by kernel_rfl) rfl) ?_;show AI _ _ _ _ _ _ #[true, true, true, true, true, true, true, true, true, true, false] _;refine aP (i := 10) (by kernel_rfl) rfl rfl <| bP (aB (i := 3) (c := slE _ _ _) (by kernel_rfl) rfl rfl rfl rfl (ab rfl)) ?_;show AI _ _ _ _ _ _ #[true, true, true, true, true, true, true, true, true, true, true] _;refine bx rfl ?_;exact And.intro rfl (Exists.intro _ (Exists.intro _ ⟨bf rfl, aC [0, 0, 0, 0] rfl, rfl, rfl, t43, rfl⟩))
     ·refine bc rfl (al (i := 0) az rfl rfl rfl rfl) ?_;show AI _ _ _ _ _ _ #[false, true, true, true, true, true, false, false, false, false, false] _;refine zk 6 rfl (cc (E := Enc.byte) ag (by kernel_rfl) rfl rfl g34 e36) ?_;show AI _ _ _ _ _ _ #[false, true, true, true, true, true, true, false, false, false, false] _;refine dM (i := 0) (j := 7) (by kernel_rfl) rfl rfl rfl rfl ?_ ?_
      ·refine bc rfl (al (i := 1) ar rfl rfl rfl rfl) ?_;show AI _ _ _ _ _ _ #[true, true, true, true, true, true, true, false, false, false, false] _;refine aP (i := 7) (by kernel_rfl) rfl rfl <| bB [] rfl bU rfl (aV x35 none (dJ g37)) rfl (fun c A' h => by obtain ⟨_, h, _⟩ := h; cases h) ?_
       rintro av A' ⟨t44, h, rfl⟩; cases h
       show AI _ _ _ _ _ _ #[true, true, true, true, true, true, true, true, false, false, false] _;refine zk 8 rfl (ax rfl) ?_;show AI _ _ _ _ _ _ #[true, true, true, true, true, true, true, true, true, false, false] _;refine zk 9 rfl (am (n := 0) (by kernel_rfl) rfl) ?_;show AI _ _ _ _ _ _ #[true, true, true, true, true, true, true, true, true, true, false] _;refine aP (i := 10) (by kernel_rfl) rfl rfl <| bP (aB (i := 3) (c := slE _ _ _) (by kernel_rfl) rfl rfl rfl rfl (ab rfl)) ?_;show AI _ _ _ _ _ _ #[true, true, true, true, true, true, true, true, true, true, true] _;refine bx rfl ?_;exact And.intro rfl (Exists.intro _ (Exists.intro _ ⟨bf rfl, aC [0, 0, 0, 0] rfl, rfl, rfl, t44, rfl⟩))
      ·refine bB [] rfl bU rfl (aV x35 none (dJ g37)) rfl (fun c A' h => by obtain ⟨_, h, _⟩ := h; cases h) ?_
       rintro av A' ⟨t45, h, rfl⟩; cases h
       show AI _ _ _ _ _ _ #[false, true, true, true, true, true, true, true, false, false, false] _;refine aP (i := 0) (by kernel_rfl) rfl rfl <| bc rfl (al (i := 2) ar rfl rfl rfl rfl) ?_;show AI _ _ _ _ _ _ #[true, true, true, true, true, true, true, true, false, false, false] _;refine zk 8 rfl (ax rfl) ?_;show AI _ _ _ _ _ _ #[true, true, true, true, true, true, true, true, true, false, false] _;refine zk 9 rfl (am (n := 0) (by kernel_rfl) rfl) ?_;show AI _ _ _ _ _ _ #[true, true, true, true, true, true, true, true, true, true, false] _;refine aP (i := 10) (by kernel_rfl) rfl rfl <| bP (aB (i := 3) (c := slE _ _ _) (by kernel_rfl) rfl rfl rfl rfl (ab rfl)) ?_;show AI _ _ _ _ _ _ #[true, true, true, true, true, true, true, true, true, true, true] _;refine bx rfl ?_;exact And.intro rfl (Exists.intro _ (Exists.intro _ ⟨bf rfl, aC [0, 0, 0, 0] rfl, rfl, rfl, t45, rfl⟩))
    ·refine bc rfl (al (i := 0) az rfl rfl rfl rfl) ?_;show AI _ _ _ _ _ _ #[false, true, true, true, false, true, false, false, false, false, false] _;refine dM (i := 0) (j := 4) (by kernel_rfl) rfl rfl rfl rfl ?_ ?_
     ·refine bc rfl (al (i := 1) ar rfl rfl rfl rfl) ?_;show AI _ _ _ _ _ _ #[true, true, true, true, false, true, false, false, false, false, false] _;refine aP (i := 4) (by kernel_rfl) rfl rfl <| bc rfl (al (i := 2) ag rfl rfl rfl rfl) ?_;show AI _ _ _ _ _ _ #[true, true, true, true, true, true, false, false, false, false, false] _;refine zk 6 rfl (cc (E := Enc.byte) ag (by kernel_rfl) rfl rfl g34 e36) ?_;show AI _ _ _ _ _ _ #[true, true, true, true, true, true, true, false, false, false, false] _;refine aP (i := 7) (by kernel_rfl) rfl rfl <| bB [] rfl bU rfl (aV x35 none (dJ g37)) rfl (fun c A' h => by obtain ⟨_, h, _⟩ := h; cases h) ?_
      rintro av A' ⟨t46, h, rfl⟩; cases h
      show AI _ _ _ _ _ _ #[true, true, true, true, true, true, true, true, false, false, false] _;refine zk 8 rfl (ax rfl) ?_;show AI _ _ _ _ _ _ #[true, true, true, true, true, true, true, true, true, false, false] _;refine zk 9 rfl (am (n := 0) (by kernel_rfl) rfl) ?_;show AI _ _ _ _ _ _ #[true, true, true, true, true, true, true, true, true, true, false] _;refine aP (i := 10) (by kernel_rfl) rfl rfl <| bP (aB (i := 3) (c := slE _ _ _) (by kernel_rfl) rfl rfl rfl rfl (ab rfl)) ?_;show AI _ _ _ _ _ _ #[true, true, true, true, true, true, true, true, true, true, true] _;refine bx rfl ?_;exact And.intro rfl (Exists.intro _ (Exists.intro _ ⟨bf rfl, aC [0, 0, 0, 0] rfl, rfl, rfl, t46, rfl⟩))
     ·refine bc rfl (al (i := 2) ag rfl rfl rfl rfl) ?_;show AI _ _ _ _ _ _ #[false, true, true, true, true, true, false, false, false, false, false] _;refine zk 6 rfl (cc (E := Enc.byte) ag (by kernel_rfl) rfl rfl g34 e36) ?_;show AI _ _ _ _ _ _ #[false, true, true, true, true, true, true, false, false, false, false] _;refine dM (i := 0) (j := 7) (by kernel_rfl) rfl rfl rfl rfl ?_ ?_
      ·refine bc rfl (al (i := 1) ar rfl rfl rfl rfl) ?_;show AI _ _ _ _ _ _ #[true, true, true, true, true, true, true, false, false, false, false] _;refine aP (i := 7) (by kernel_rfl) rfl rfl <| bB [] rfl bU rfl (aV x35 none (dJ g37)) rfl (fun c A' h => by obtain ⟨_, h, _⟩ := h; cases h) ?_
       rintro av A' ⟨t47, h, rfl⟩; cases h
       show AI _ _ _ _ _ _ #[true, true, true, true, true, true, true, true, false, false, false] _;refine zk 8 rfl (ax rfl) ?_;show AI _ _ _ _ _ _ #[true, true, true, true, true, true, true, true, true, false, false] _;refine zk 9 rfl (am (n := 0) (by kernel_rfl) rfl) ?_;show AI _ _ _ _ _ _ #[true, true, true, true, true, true, true, true, true, true, false] _;refine aP (i := 10) (by kernel_rfl) rfl rfl <| bP (aB (i := 3) (c := slE _ _ _) (by kernel_rfl) rfl rfl rfl rfl (ab rfl)) ?_;show AI _ _ _ _ _ _ #[true, true, true, true, true, true, true, true, true, true, true] _;refine bx rfl ?_;exact And.intro rfl (Exists.intro _ (Exists.intro _ ⟨bf rfl, aC [0, 0, 0, 0] rfl, rfl, rfl, t47, rfl⟩))
      ·refine bB [] rfl bU rfl (aV x35 none (dJ g37)) rfl (fun c A' h => by obtain ⟨_, h, _⟩ := h; cases h) ?_
       rintro av A' ⟨t48, h, rfl⟩; cases h
       show AI _ _ _ _ _ _ #[false, true, true, true, true, true, true, true, false, false, false] _;refine aP (i := 0) (by kernel_rfl) rfl rfl <| bc rfl (al (i := 2) ar rfl rfl rfl rfl) ?_;show AI _ _ _ _ _ _ #[true, true, true, true, true, true, true, true, false, false, false] _;refine zk 8 rfl (ax rfl) ?_;show AI _ _ _ _ _ _ #[true, true, true, true, true, true, true, true, true, false, false] _;refine zk 9 rfl (am (n := 0) (by kernel_rfl) rfl) ?_;show AI _ _ _ _ _ _ #[true, true, true, true, true, true, true, true, true, true, false] _;refine aP (i := 10) (by kernel_rfl) rfl rfl <| bP (aB (i := 3) (c := slE _ _ _) (by kernel_rfl) rfl rfl rfl rfl (ab rfl)) ?_;show AI _ _ _ _ _ _ #[true, true, true, true, true, true, true, true, true, true, true] _;refine bx rfl ?_;exact And.intro rfl (Exists.intro _ (Exists.intro _ ⟨bf rfl, aC [0, 0, 0, 0] rfl, rfl, rfl, t48, rfl⟩))
   ·refine bc rfl (al (i := 0) az rfl rfl rfl rfl) ?_;show AI _ _ _ _ _ _ #[false, false, false, false, false, true, false, false, false, false, false] _;refine dM (i := 0) (j := 1) (by kernel_rfl) rfl rfl rfl rfl ?_ ?_
    ·refine bc rfl (al (i := 1) ar rfl rfl rfl rfl) ?_;show AI _ _ _ _ _ _ #[true, false, false, false, false, true, false, false, false, false, false] _;refine aP (i := 1) (by kernel_rfl) rfl rfl <| bc rfl (al (i := 1) ar rfl rfl rfl rfl) ?_;show AI _ _ _ _ _ _ #[true, true, false, false, false, true, false, false, false, false, false] _;refine zk 2 rfl (ax rfl) ?_;show AI _ _ _ _ _ _ #[true, true, true, false, false, true, false, false, false, false, false] _;refine zk 3 rfl (am (n := 0) (by kernel_rfl) rfl) ?_;show AI _ _ _ _ _ _ #[true, true, true, true, false, true, false, false, false, false, false] _;refine aP (i := 4) (by kernel_rfl) rfl rfl <| bc rfl (al (i := 2) ag rfl rfl rfl rfl) ?_;show AI _ _ _ _ _ _ #[true, true, true, true, true, true, false, false, false, false, false] _;refine zk 6 rfl (cc (E := Enc.byte) ag (by kernel_rfl) rfl rfl g34 e36) ?_;show AI _ _ _ _ _ _ #[true, true, true, true, true, true, true, false, false, false, false] _;refine aP (i := 7) (by kernel_rfl) rfl rfl <| bB [] rfl bU rfl (aV x35 none (dJ g37)) rfl (fun c A' h => by obtain ⟨_, h, _⟩ := h; cases h) ?_
     rintro av A' ⟨t49, h, rfl⟩; cases h
     show AI _ _ _ _ _ _ #[true, true, true, true, true, true, true, true, false, false, false] _;refine zk 8 rfl (ax rfl) ?_;show AI _ _ _ _ _ _ #[true, true, true, true, true, true, true, true, true, false, false] _;refine zk 9 rfl (am (n := 0) (by kernel_rfl) rfl) ?_;show AI _ _ _ _ _ _ #[true, true, true, true, true, true, true, true, true, true, false] _;refine aP (i := 10) (by kernel_rfl) rfl rfl <| bP (aB (i := 3) (c := slE _ _ _) (by kernel_rfl) rfl rfl rfl rfl (ab rfl)) ?_;show AI _ _ _ _ _ _ #[true, true, true, true, true, true, true, true, true, true, true] _;refine bx rfl ?_;exact And.intro rfl (Exists.intro _ (Exists.intro _ ⟨bf rfl, aC [0, 0, 0, 0] rfl, rfl, rfl, t49, rfl⟩))
    ·refine bc rfl (al (i := 1) ar rfl rfl rfl rfl) ?_;show AI _ _ _ _ _ _ #[false, true, false, false, false, true, false, false, false, false, false] _;refine zk 2 rfl (ax rfl) ?_;show AI _ _ _ _ _ _ #[false, true, true, false, false, true, false, false, false, false, false] _;refine zk 3 rfl (am (n := 0) (by kernel_rfl) rfl) ?_;show AI _ _ _ _ _ _ #[false, true, true, true, false, true, false, false, false, false, false] _;refine dM (i := 0) (j := 4) (by kernel_rfl) rfl rfl rfl rfl ?_ ?_
     ·refine bc rfl (al (i := 1) ar rfl rfl rfl rfl) ?_;show AI _ _ _ _ _ _ #[true, true, true, true, false, true, false, false, false, false, false] _;refine aP (i := 4) (by kernel_rfl) rfl rfl <| bc rfl (al (i := 2) ag rfl rfl rfl rfl) ?_;show AI _ _ _ _ _ _ #[true, true, true, true, true, true, false, false, false, false, false] _;refine zk 6 rfl (cc (E := Enc.byte) ag (by kernel_rfl) rfl rfl g34 e36) ?_;show AI _ _ _ _ _ _ #[true, true, true, true, true, true, true, false, false, false, false] _;refine aP (i := 7) (by kernel_rfl) rfl rfl <| bB [] rfl bU rfl (aV x35 none (dJ g37)) rfl (fun c A' h => by obtain ⟨_, h, _⟩ := h; cases h) ?_
      rintro av A' ⟨t50, h, rfl⟩; cases h
      show AI _ _ _ _ _ _ #[true, true, true, true, true, true, true, true, false, false, false] _;refine zk 8 rfl (ax rfl) ?_;show AI _ _ _ _ _ _ #[true, true, true, true, true, true, true, true, true, false, false] _;refine zk 9 rfl (am (n := 0) (by kernel_rfl) rfl) ?_;show AI _ _ _ _ _ _ #[true, true, true, true, true, true, true, true, true, true, false] _;refine aP (i := 10) (by kernel_rfl) rfl rfl <| bP (aB (i := 3) (c := slE _ _ _) (by kernel_rfl) rfl rfl rfl rfl (ab rfl)) ?_;show AI _ _ _ _ _ _ #[true, true, true, true, true, true, true, true, true, true, true] _;refine bx rfl ?_;exact And.intro rfl (Exists.intro _ (Exists.intro _ ⟨bf rfl, aC [0, 0, 0, 0] rfl, rfl, rfl, t50, rfl⟩))
     ·refine bc rfl (al (i := 2) ag rfl rfl rfl rfl) ?_;show AI _ _ _ _ _ _ #[false, true, true, true, true, true, false, false, false, false, false] _;refine zk 6 rfl (cc (E := Enc.byte) ag (by kernel_rfl) rfl rfl g34 e36) ?_;show AI _ _ _ _ _ _ #[false, true, true, true, true, true, true, false, false, false, false] _;refine dM (i := 0) (j := 7) (by kernel_rfl) rfl rfl rfl rfl ?_ ?_
      ·refine bc rfl (al (i := 1) ar rfl rfl rfl rfl) ?_;show AI _ _ _ _ _ _ #[true, true, true, true, true, true, true, false, false, false, false] _;refine aP (i := 7) (by kernel_rfl) rfl rfl <| bB [] rfl bU rfl (aV x35 none (dJ g37)) rfl (fun c A' h => by obtain ⟨_, h, _⟩ := h; cases h) ?_
       rintro av A' ⟨t51, h, rfl⟩; cases h
       show AI _ _ _ _ _ _ #[true, true, true, true, true, true, true, true, false, false, false] _;refine zk 8 rfl (ax rfl) ?_;show AI _ _ _ _ _ _ #[true, true, true, true, true, true, true, true, true, false, false] _;refine zk 9 rfl (am (n := 0) (by kernel_rfl) rfl) ?_;show AI _ _ _ _ _ _ #[true, true, true, true, true, true, true, true, true, true, false] _;refine aP (i := 10) (by kernel_rfl) rfl rfl <| bP (aB (i := 3) (c := slE _ _ _) (by kernel_rfl) rfl rfl rfl rfl (ab rfl)) ?_;show AI _ _ _ _ _ _ #[true, true, true, true, true, true, true, true, true, true, true] _;refine bx rfl ?_;exact And.intro rfl (Exists.intro _ (Exists.intro _ ⟨bf rfl, aC [0, 0, 0, 0] rfl, rfl, rfl, t51, rfl⟩))
      ·refine bB [] rfl bU rfl (aV x35 none (dJ g37)) rfl (fun c A' h => by obtain ⟨_, h, _⟩ := h; cases h) ?_
       rintro av A' ⟨t52, h, rfl⟩; cases h
       show AI _ _ _ _ _ _ #[false, true, true, true, true, true, true, true, false, false, false] _;refine aP (i := 0) (by kernel_rfl) rfl rfl <| bc rfl (al (i := 2) ar rfl rfl rfl rfl) ?_;show AI _ _ _ _ _ _ #[true, true, true, true, true, true, true, true, false, false, false] _;refine zk 8 rfl (ax rfl) ?_;show AI _ _ _ _ _ _ #[true, true, true, true, true, true, true, true, true, false, false] _;refine zk 9 rfl (am (n := 0) (by kernel_rfl) rfl) ?_;show AI _ _ _ _ _ _ #[true, true, true, true, true, true, true, true, true, true, false] _;refine aP (i := 10) (by kernel_rfl) rfl rfl <| bP (aB (i := 3) (c := slE _ _ _) (by kernel_rfl) rfl rfl rfl rfl (ab rfl)) ?_;show AI _ _ _ _ _ _ #[true, true, true, true, true, true, true, true, true, true, true] _;refine bx rfl ?_;exact And.intro rfl (Exists.intro _ (Exists.intro _ ⟨bf rfl, aC [0, 0, 0, 0] rfl, rfl, rfl, t52, rfl⟩))
  intro t38;show ALeaves _ _ _ _ _ [] .returning [.tok t38 5, .obj o24 [i64 x27], .obj o11 [.pt o1 0], .obj o1 [slE Enc.byte x35 (some t38), B a4], .obj o12 [slE (ai Enc.int (ai (Enc.sl Enc.str) (ai Enc.int (ai Enc.int Enc.int)))) x26 (some t33)], .tok t33 38, .tok t22 5];obtain ⟨rfl, rfl, rfl⟩ := jh H;exact Exists.intro _ (Exists.intro _ ⟨dz rfl ((CellV.one (c := slE _ _ _) 4 aF rfl rfl rfl rfl).oneW (.tok _ _ _)), aC [3, 0] rfl, rfl, t38, rfl⟩)
set_option maxRecDepth 100000 in
set_option maxHeartbeats 1000000 in
theorem mj (F : Nat) (a1 : List UInt8) (q2 : Option Nat) (r3 : List (Int × (List (List UInt8)) × Int × Int × Int)) (r4 : Int) (H : jG F a1 = some (r3, r4)) : ACalls Tryd.prog 18 [slE Enc.byte a1 q2] [] (Ret (.tup [slE (ai Enc.int (ai (Enc.sl Enc.str) (ai Enc.int (ai Enc.int Enc.int)))) r3 none, i64 r4]) []) := by
 unfold jG at H
 refine aA Tryd.func18 rfl rfl ?_;show AW _ _ 18 _ _ _;refine af <| aa ?_;show AR _ _ _ _ _ [0, 1] _;refine za rfl <| za rfl <| ah <| af ?_;obtain ⟨_, e5, H⟩ := du H;refine aa ?_;show AR _ _ _ _ _ [0, 1] _;refine aX rfl rfl (bN [] rfl en9_repa rfl (fX F e5) rfl (fun c A' h => by obtain ⟨_, h, _⟩ := h; cases h) ?_)
 rintro av A' ⟨o6, h, rfl⟩; cases h
 refine zS rfl (aG (av := .pt _ _) rfl) <| ah <| af ?_;obtain ⟨x8, x9, x10, e11, H⟩ := gV H;refine aa ?_;show AR _ _ _ _ _ [0, 1, 2, 3] _;refine zS rfl (au (av := .pt _ _) rfl) <| zS rfl (au (av := slE _ _ _) rfl) ?_
 refine AR.nil_objAt 0 0 1 5 rfl rfl fun t7 => ?_
 show AR _ _ _ _ _ _ ⟨_, _, [.tok t7 5, .obj o6 [slE Enc.byte [] (some t7), B false]]⟩;refine aX rfl rfl (bN [1, 0] rfl nL rfl (iq F o6 [] t7 false a1 q2 x8 x9 x10 e11) rfl (fun c A' h => by cases h.1) ?_)
 rintro av A' ⟨h, t12, rfl⟩; cases h
 refine zS rfl (aG (av := slE _ _ _) rfl) <| ah <| af <| af ?_;obtain ⟨x13, e14, H⟩ := du H;obtain ⟨x16, e17, H⟩ := dp H;refine aa ?_;show AR _ _ _ _ _ [0, 1, 2, 3, 4, 5, 6] _;refine zS rfl (au (av := .pt _ _) rfl) <| aX rfl rfl (bN [0, 0] rfl nK rfl (fY F o6 x9 t12 x10 x13 e14) rfl (fun c A' h => by cases h.1) ?_)
 rintro av A' ⟨h, rfl⟩; cases h
 refine zm rfl <| aD (l := []) 16 (B (x13 || (decide (0 < x16)))) (fun K => ?_) ?_
 ·rcases ac x13 with h15 | h15
  ·refine zF h15 rfl <| zF h15 rfl <| zF h15 rfl <| zS rfl (aq (av := .v _) rfl h15 rfl) ?_;exact K _ 3 _ (an (fI h15)) rfl rfl
  ·refine zU h15 rfl (au (av := .pt _ _) rfl) <| zT h15 rfl (bN [0, 0] rfl nI rfl (gC F o6 x9 t12 x10 x16 (e17 (nf h15))) rfl (fun c A' h => by cases h.1) ?_)
   rintro av A' ⟨h, rfl⟩; cases h
   refine zU h15 rfl (dL rfl rfl) <| zS rfl (ap (av := .v _) rfl h15 rfl) ?_;exact K _ 3 _ (an (fJ h15)) rfl rfl
 refine ah <| ay rfl (fun c18 => ?_) (fun c18 => ?_)
 ·replace H := ba c18 H;refine af <| aa ?_;show AR _ _ _ _ _ [0, 1] _;refine za rfl <| za rfl <| ah <| aM ?_;obtain ⟨rfl, rfl⟩ := ff H;exact And.intro rfl (Exists.intro _ (Exists.intro _ ⟨bm rfl (.nil _) (.refl _), aC [] rfl, rfl, rfl⟩))
 ·replace H := bb c18 H;refine aE <| af <| aa ?_;show AR _ _ _ _ _ [0, 1, 2] _;refine zS rfl (au (av := slE _ _ _) rfl) <| zS rfl (aG (av := slE _ _ _) rfl) <| za rfl <| ah <| aM ?_;obtain ⟨rfl, rfl⟩ := ff H;exact And.intro rfl (Exists.intro _ (Exists.intro _ ⟨bm rfl (.refl _) (.refl _), aC [] rfl, rfl, rfl⟩))
end Go.Proofs.YtimpbfniegimaaaDoor
namespace Go.Pv
def dU : Option Bool :=
some true
def dl (a1 : List (List UInt8)) (a3 : List (List UInt8)) (rec8 : Int → Option Bool) (y7 : Int) : Option Bool :=
bif decide (y7 < (a1.length : Int)) then
  grd (cr y7 a1.length) <|
  lt (at_ a1 y7) fun x12 =>
  grd (cr y7 a3.length) <|
  lt (at_ a3 y7) fun x15 =>
  bif !decide (x12 = x15) then
    some false
  else
    grd (okI (y7 + 1)) <|
    rec8 (y7 + 1)
else
  dU
def dk (a1 : List (List UInt8)) (a3 : List (List UInt8)) (n : Nat) : Int → Option Bool :=
  loop (fun rec x => dl a1 a3 rec x) n
def eD (F : Nat) (a1 : List (List UInt8)) (a3 : List (List UInt8)) : Option Bool :=
bif !decide ((a1.length : Int) = (a3.length : Int)) then
  some false
else
  dk a1 a3 F 0
def fj (F : Nat) (a1 : Int) (a2 : List (List UInt8)) (a3 : Int) (a4 : Int) (a5 : Int) (a6 : Int) (a7 : List (List UInt8)) (a8 : Int) (a9 : Int) (a10 : Int) : Option Bool :=
bnd (eD F a2 a7) fun x12 =>
some ((x12 && (decide (a1 = a6))) && ((a3 == a8) && ((a4 == a9) && ((a5 == a10) && true))))
def dT : Option Bool :=
some true
def dj (F : Nat) (a1 : List (Int × (List (List UInt8)) × Int × Int × Int)) (a3 : List (Int × (List (List UInt8)) × Int × Int × Int)) (rec8 : Int → Option Bool) (y7 : Int) : Option Bool :=
bif decide (y7 < (a1.length : Int)) then
  grd (cr y7 a1.length) <|
  lt (at_ a1 y7) fun x12 =>
  grd (cr y7 a3.length) <|
  lt (at_ a3 y7) fun x15 =>
  bnd (fj F x12.1 x12.2.1 x12.2.2.1 x12.2.2.2.1 x12.2.2.2.2 x15.1 x15.2.1 x15.2.2.1 x15.2.2.2.1 x15.2.2.2.2) fun x17 =>
  bif !x17 then
    some false
  else
    grd (okI (y7 + 1)) <|
    rec8 (y7 + 1)
else
  dT
def di (F : Nat) (a1 : List (Int × (List (List UInt8)) × Int × Int × Int)) (a3 : List (Int × (List (List UInt8)) × Int × Int × Int)) (n : Nat) : Int → Option Bool :=
  loop (fun rec x => dj F a1 a3 rec x) n
def eC (F : Nat) (a1 : List (Int × (List (List UInt8)) × Int × Int × Int)) (a3 : List (Int × (List (List UInt8)) × Int × Int × Int)) : Option Bool :=
bif !decide ((a1.length : Int) = (a3.length : Int)) then
  some false
else
  di F a1 a3 F 0
def dX (F : Nat) : Option Bool :=
bnd2 (jG F ([50, 53, 48, 45, 97, 13, 10, 50, 53, 48, 32, 50, 46, 48, 46, 48, 32, 98, 13, 10] : List UInt8)) fun x3 x4 =>
bnd (fD F) fun _ =>
ej ((decide (x4 = 0)) && (decide ((x3.length : Int) = 1))) (cr 0 x3.length) <|
lt (at_ x3 0) fun x12 =>
ej (((decide (x4 = 0)) && (decide ((x3.length : Int) = 1))) && (decide (x12.1 = 250))) (cr 0 x3.length) <|
lt (at_ x3 0) fun x16 =>
ej ((((decide (x4 = 0)) && (decide ((x3.length : Int) = 1))) && (decide (x12.1 = 250))) && (decide ((x16.2.1.length : Int) = 2))) (cr 0 x3.length) <|
lt (at_ x3 0) fun x20 =>
ej (((((decide (x4 = 0)) && (decide ((x3.length : Int) = 1))) && (decide (x12.1 = 250))) && (decide ((x16.2.1.length : Int) = 2))) && ((x20.2.2.1 == 2) && ((x20.2.2.2.1 == 0) && ((x20.2.2.2.2 == 0) && true)))) (cr 0 x3.length) <|
lt (at_ x3 0) fun x24 =>
fL (((((decide (x4 = 0)) && (decide ((x3.length : Int) = 1))) && (decide (x12.1 = 250))) && (decide ((x16.2.1.length : Int) = 2))) && ((x20.2.2.1 == 2) && ((x20.2.2.2.1 == 0) && ((x20.2.2.2.2 == 0) && true)))) (kU F x24.1 x24.2.1 x24.2.2.1 x24.2.2.2.1 x24.2.2.2.2) fun x26 =>
fL (((((((decide (x4 = 0)) && (decide ((x3.length : Int) = 1))) && (decide (x12.1 = 250))) && (decide ((x16.2.1.length : Int) = 2))) && ((x20.2.2.1 == 2) && ((x20.2.2.2.1 == 0) && ((x20.2.2.2.2 == 0) && true)))) && x26) || false) (fE F [] false) fun x30 =>
some ((((((((decide (x4 = 0)) && (decide ((x3.length : Int) = 1))) && (decide (x12.1 = 250))) && (decide ((x16.2.1.length : Int) = 2))) && ((x20.2.2.1 == 2) && ((x20.2.2.2.1 == 0) && ((x20.2.2.2.2 == 0) && true)))) && x26) || false) && (!x30))
def dG (y35 : List UInt8) (y36 : List (List UInt8)) : Option ((List (List UInt8))) :=
grd (eG y35.length) <|
grd (eG (y36.length + ([y35] : List (List UInt8)).length)) <|
lt (y36 ++ ([y35] : List (List UInt8))) fun x43 =>
some x43
def cG (y7 : List UInt8) (y8 : List (List UInt8)) (y10 : Int) (rec11 : ((List UInt8) × (List (List UInt8)) × Int) → Option ((List (List UInt8)))) (y20 : Int) : Option ((List (List UInt8))) :=
grd (fK y20 y7.length) <|
lt (to_ y7 y20) fun x23 =>
grd (eG x23.length) <|
grd (eG (y8.length + ([x23] : List (List UInt8)).length)) <|
lt (y8 ++ ([x23] : List (List UInt8))) fun x29 =>
grd (fK y20 y7.length) <|
lt (dh y7 y20) fun x32 =>
grd (okI (y10 + 1)) <|
rec11 (x32, x29, y10 + 1)
def dH (a3 : List Int) (rec11 : ((List UInt8) × (List (List UInt8)) × Int) → Option ((List (List UInt8)))) (y7 : List UInt8) (y8 : List (List UInt8)) (y10 : Int) : Option ((List (List UInt8))) :=
bif (decide (0 < (y7.length : Int))) && (decide (y10 < (a3.length : Int))) then
  grd (cr y10 a3.length) <|
  lt (at_ a3 y10) fun x16 =>
  bif (decide (x16 < 0)) || (decide ((y7.length : Int) < x16)) then
    cG y7 y8 y10 rec11 (y7.length : Int)
  else
    cG y7 y8 y10 rec11 x16
else
  dG y7 y8
def cz (a3 : List Int) (n : Nat) : ((List UInt8) × (List (List UInt8)) × Int) → Option ((List (List UInt8))) :=
  loop (fun rec x => dH a3 rec x.1 x.2.1 x.2.2) n
def ge (F : Nat) (a1 : List UInt8) (a3 : List Int) : Option ((List (List UInt8))) :=
cz a3 F (a1, [], 0)
end Go.Pv
namespace Go.Proofs.YtimpbfniegimaaaDoor
open Go.RowKit Go.Av Go.Pv
theorem en9_repl : ∀ (args : Array Value) (w : World), (callFunc 9 args).run Tryd.prog w = .ok (.enter 9 args) w := fun _ _ => by kernel_rfl
theorem nJ : ∀ (args : Array Value) (w : World), (callFunc 13 args).run Tryd.prog w = .ok (.enter 13 args) w := fun _ _ => by kernel_rfl
theorem nH : ∀ (args : Array Value) (w : World), (callFunc 18 args).run Tryd.prog w = .ok (.enter 18 args) w := fun _ _ => by kernel_rfl
theorem nG : ∀ (args : Array Value) (w : World), (callFunc 21 args).run Tryd.prog w = .ok (.enter 21 args) w := fun _ _ => by kernel_rfl
theorem nE : ∀ (args : Array Value) (w : World), (callFunc 26 args).run Tryd.prog w = .ok (.enter 26 args) w := fun _ _ => by kernel_rfl
theorem nA : ∀ (args : Array Value) (w : World), (callFunc 37 args).run Tryd.prog w = .ok (.enter 37 args) w := fun _ _ => by kernel_rfl
set_option maxRecDepth 100000 in
set_option maxHeartbeats 1000000 in
theorem kI (F : Nat) (a1 : List (List UInt8)) (q2 : Option Nat) (a3 : List (List UInt8)) (q4 : Option Nat) (r5 : Bool) (H : eD F a1 a3 = some r5) : ACalls Tryd.prog 37 [slE Enc.str a1 q2, slE Enc.str a3 q4] [] (Ret (B r5) []) := by
 unfold eD at H
 refine aA Tryd.func37 rfl rfl ?_;show AW _ _ 26 _ _ _;refine af <| aa ?_;show AR _ _ _ _ _ [0] _;refine za rfl <| ah <| af <| af <| aa ?_;show AR _ _ _ _ _ [0, 1, 2, 3, 4] _;refine zS rfl (au (av := slE _ _ _) rfl) <| zS rfl (aN ao rfl) <| zS rfl (au (av := slE _ _ _) rfl) <| zS rfl (aN ao rfl) <| zS rfl (gj rfl rfl) <| ah <| ay rfl (fun c6 => ?_) (fun c6 => ?_)
 ·replace H := ba c6 H;refine af <| aa ?_;show AR _ _ _ _ _ [0] _;refine za rfl <| ah <| aM ?_;obtain rfl := ak H;exact And.intro rfl (Exists.intro _ (Exists.intro _ ⟨aI rfl (.refl _), aC [] rfl, rfl, rfl⟩))
 ·replace H := bb c6 H;refine aE <| bD (X := Unit) (fun _ => ⟨[], [], []⟩) (fun _ => dU = some r5) ?_ ?_
  ·refine af <| aa ?_;show AR _ _ _ _ _ [0] _;refine za rfl <| ah <| aZ <| AW.loop (X := Nat × Int) (fun (n9, y7) => ⟨[(0, slE Enc.str a1 q2), (1, slE Enc.str a3 q4), (5, i64 y7)], [], []⟩) (fun (n9, y7) => dk a1 a3 n9 y7 = some r5) (fun (n9, y7) => n9) (F, 0) H (aY [] (.cons (.refl _) (.cons (.refl _) (.cons (.refl _) (.nil _)))) rfl) ?_;rintro ⟨n9, y7⟩ H;obtain ⟨n9, rfl, H⟩ := dZ H;replace H : dl a1 a3 (dk a1 a3 n9) y7 = some r5 := H
   unfold dl at H
   refine af <| af <| aa ?_;show AR _ _ _ _ _ [0, 1, 2, 3] _;refine zm rfl <| zS rfl (au (av := slE _ _ _) rfl) <| zS rfl (aN ao rfl) <| zS rfl (bW rfl rfl) <| ah <| ay rfl (fun c10 => ?_) (fun c10 => ?_)
   ·replace H := ba c10 H;refine aE <| af <| aZ <| af ?_;obtain ⟨g11, H⟩ := aL H;obtain ⟨x12, e13, H⟩ := bM H;obtain ⟨g14, H⟩ := aL H;obtain ⟨x15, e16, H⟩ := bM H;refine cq (by kernel_rfl) ?_;show AI _ _ _ _ _ 9 (Array.replicate 9 false) _;refine zk 0 rfl (au (av := slE _ _ _) rfl) ?_;show AI _ _ _ _ _ _ #[true, false, false, false, false, false, false, false, false] _;refine zk 1 rfl (mv rfl) ?_;show AI _ _ _ _ _ _ #[true, true, false, false, false, false, false, false, false] _;refine zk 2 rfl (bp (E := Enc.str) ao (by kernel_rfl) rfl rfl g11 e13) ?_;show AI _ _ _ _ _ _ #[true, true, true, false, false, false, false, false, false] _;refine zk 3 rfl (aR aj rfl rfl) ?_;show AI _ _ _ _ _ _ #[true, true, true, true, false, false, false, false, false] _;refine zk 4 rfl (au (av := slE _ _ _) rfl) ?_;show AI _ _ _ _ _ _ #[true, true, true, true, true, false, false, false, false] _;refine zk 5 rfl (mv rfl) ?_;show AI _ _ _ _ _ _ #[true, true, true, true, true, true, false, false, false] _;refine zk 6 rfl (bp (E := Enc.str) ao (by kernel_rfl) rfl rfl g14 e16) ?_;show AI _ _ _ _ _ _ #[true, true, true, true, true, true, true, false, false] _;refine zk 7 rfl (aR aj rfl rfl) ?_;show AI _ _ _ _ _ _ #[true, true, true, true, true, true, true, true, false] _;refine zk 8 rfl (opS_nes rfl rfl) ?_;show AI _ _ _ _ _ _ #[true, true, true, true, true, true, true, true, true] _;refine bx rfl <| ay rfl (fun c17 => ?_) (fun c17 => ?_)
    ·replace H := ba c17 H;refine af <| aa ?_;show AR _ _ _ _ _ [0] _;refine za rfl <| ah <| aM ?_;obtain rfl := ak H;exact And.intro rfl (Exists.intro _ (Exists.intro _ ⟨aI rfl (.refl _), aC [] rfl, rfl, rfl⟩))
    ·replace H := bb c17 H;refine aE ?_;obtain ⟨g18, H⟩ := aL H;refine aa ?_;show AR _ _ _ _ _ [0, 1, 2] _;refine zm rfl <| zS rfl (eV rfl rfl g18) <| za rfl <| ah ?_;exact Exists.intro (n9, y7 + 1) ⟨H, Nat.lt_succ_self _, aY [] (.cons (.refl _) (.cons (.refl _) (.cons (.refl _) (.nil _)))) rfl⟩
   ·replace H := bb c10 H;refine AW.exit ?_;exact Exists.intro () ⟨H, aY [] (.nil _) rfl⟩
  rintro _ H;replace H : dU = some r5 := H
  unfold dU at H
  refine af <| aa ?_;show AR _ _ _ _ _ [0] _;refine za rfl <| ah <| aM ?_;obtain rfl := ak H;exact And.intro rfl (Exists.intro _ (Exists.intro _ ⟨aI rfl (.refl _), aC [] rfl, rfl, rfl⟩))
set_option maxRecDepth 100000 in
set_option maxHeartbeats 1000000 in
theorem kG (F : Nat) (a1 : Int) (a2 : List (List UInt8)) (a3 : Int) (a4 : Int) (a5 : Int) (a6 : Int) (a7 : List (List UInt8)) (a8 : Int) (a9 : Int) (a10 : Int) (r11 : Bool) (H : fj F a1 a2 a3 a4 a5 a6 a7 a8 a9 a10 = some r11) : ACalls Tryd.prog 26 [.agg [i64 a1, slE Enc.str a2 none, i64 a3, i64 a4, i64 a5], .agg [i64 a6, slE Enc.str a7 none, i64 a8, i64 a9, i64 a10]] [] (Ret (B r11) []) := by
 unfold fj at H
 refine aA Tryd.func26 rfl rfl ?_;show AW _ _ 26 _ _ _;refine af <| aa ?_;show AR _ _ _ _ _ [0, 1, 2] _;refine zR rfl (eY rfl (.inr ⟨_, rfl⟩)) <| zR rfl (eY rfl (.inr ⟨_, rfl⟩)) <| za rfl <| ah <| af ?_;obtain ⟨x12, e13, H⟩ := du H;refine aa ?_;show AR _ _ _ _ _ [0, 1, 2, 3, 4, 5] _;refine zS rfl (aH (n := 1) (by kernel_rfl) rfl (ab rfl)) <| zS rfl (aR ao rfl rfl) <| zS rfl (aH (n := 1) (by kernel_rfl) rfl (ab rfl)) <| zS rfl (aR ao rfl rfl) <| aX rfl rfl (aO rfl nA rfl (kI F a2 none a7 none x12 e13) ?_);refine za rfl <| ah <| af <| aa ?_;show AR _ _ _ _ _ [0, 1, 2, 3, 4, 5, 6, 7, 8, 9, 10, 11, 12, 13, 14, 15] _;refine zm rfl <| zm rfl <| aD (l := [8, 9, 10, 11, 12, 13, 14, 15]) 18 (B (x12 && (decide (a1 = a6)))) (fun K => ?_) ?_
 ·rcases ac x12 with h14 | h14
  ·refine zU h14 rfl (aH (n := 0) (by kernel_rfl) rfl (ab rfl)) <| zU h14 rfl (aR az rfl rfl) <| zU h14 rfl (aH (n := 0) (by kernel_rfl) rfl (ab rfl)) <| zU h14 rfl (aR az rfl rfl) <| zU h14 rfl (bz rfl rfl) <| zS rfl (aq (av := .v _) rfl h14 rfl) ?_;exact K _ 5 _ (an (bu h14)) rfl rfl
  ·refine zF h14 rfl <| zF h14 rfl <| zF h14 rfl <| zF h14 rfl <| zF h14 rfl <| zS rfl (ap (av := .v _) rfl h14 rfl) ?_;exact K _ 5 _ (an (bw h14)) rfl rfl
 refine zm rfl <| aD (l := [15]) 25 (B ((x12 && (decide (a1 = a6))) && ((a3 == a8) && ((a4 == a9) && ((a5 == a10) && true))))) (fun K => ?_) ?_
 ·rcases ac (x12 && (decide (a1 = a6))) with h15 | h15
  ·refine zU h15 rfl (aH (n := 2) (by kernel_rfl) rfl (ab rfl)) <| zU h15 rfl (bK aJ rfl (n := 3) (by kernel_rfl) rfl (ab rfl)) <| zU h15 rfl (aH (n := 2) (by kernel_rfl) rfl (ab rfl)) <| zU h15 rfl (bK aJ rfl (n := 3) (by kernel_rfl) rfl (ab rfl)) <| zU h15 rfl (gK (r := (a3 == a8) && ((a4 == a9) && ((a5 == a10) && true))) (.inl rfl) aJ az rfl (by kernel_rfl) (by kernel_rfl) rfl rfl rfl rfl) <| zS rfl (aq (av := .v _) rfl h15 rfl) ?_;exact K _ 5 _ (an (bu h15)) rfl rfl
  ·refine zF h15 rfl <| zF h15 rfl <| zF h15 rfl <| zF h15 rfl <| zF h15 rfl <| zS rfl (ap (av := .v _) rfl h15 rfl) ?_;exact K _ 5 _ (an (bw h15)) rfl rfl
 refine za rfl <| ah <| aM ?_;obtain rfl := ak H;exact And.intro rfl (Exists.intro _ (Exists.intro _ ⟨aI rfl (.refl _), aC [] rfl, rfl, rfl⟩))
set_option maxRecDepth 100000 in
set_option maxHeartbeats 1000000 in
theorem kH (F : Nat) (a1 : List (Int × (List (List UInt8)) × Int × Int × Int)) (q2 : Option Nat) (a3 : List (Int × (List (List UInt8)) × Int × Int × Int)) (q4 : Option Nat) (r5 : Bool) (H : eC F a1 a3 = some r5) : ACalls Tryd.prog 12 [slE (ai Enc.int (ai (Enc.sl Enc.str) (ai Enc.int (ai Enc.int Enc.int)))) a1 q2, slE (ai Enc.int (ai (Enc.sl Enc.str) (ai Enc.int (ai Enc.int Enc.int)))) a3 q4] [] (Ret (B r5) []) := by
 unfold eC at H
 refine aA Tryd.func12 rfl rfl ?_;show AW _ _ 29 _ _ _;refine af <| aa ?_;show AR _ _ _ _ _ [0] _;refine za rfl <| ah <| af <| af <| aa ?_;show AR _ _ _ _ _ [0, 1, 2, 3, 4] _;refine zS rfl (au (av := slE _ _ _) rfl) <| zS rfl (aN aF rfl) <| zS rfl (au (av := slE _ _ _) rfl) <| zS rfl (aN aF rfl) <| zS rfl (gj rfl rfl) <| ah <| ay rfl (fun c6 => ?_) (fun c6 => ?_)
 ·replace H := ba c6 H;refine af <| aa ?_;show AR _ _ _ _ _ [0] _;refine za rfl <| ah <| aM ?_;obtain rfl := ak H;exact And.intro rfl (Exists.intro _ (Exists.intro _ ⟨aI rfl (.refl _), aC [] rfl, rfl, rfl⟩))
 ·replace H := bb c6 H;refine aE <| bD (X := Unit) (fun _ => ⟨[], [], []⟩) (fun _ => dT = some r5) ?_ ?_
  ·refine af <| aa ?_;show AR _ _ _ _ _ [0] _;refine za rfl <| ah <| aZ <| AW.loop (X := Nat × Int) (fun (n9, y7) => ⟨[(0, slE (ai Enc.int (ai (Enc.sl Enc.str) (ai Enc.int (ai Enc.int Enc.int)))) a1 q2), (1, slE (ai Enc.int (ai (Enc.sl Enc.str) (ai Enc.int (ai Enc.int Enc.int)))) a3 q4), (5, i64 y7)], [], []⟩) (fun (n9, y7) => di F a1 a3 n9 y7 = some r5) (fun (n9, y7) => n9) (F, 0) H (aY [] (.cons (.refl _) (.cons (.refl _) (.cons (.refl _) (.nil _)))) rfl) ?_;rintro ⟨n9, y7⟩ H;obtain ⟨n9, rfl, H⟩ := dZ H;replace H : dj F a1 a3 (di F a1 a3 n9) y7 = some r5 := H
   unfold dj at H
   refine af <| af <| aa ?_;show AR _ _ _ _ _ [0, 1, 2, 3] _;refine zm rfl <| zS rfl (au (av := slE _ _ _) rfl) <| zS rfl (aN aF rfl) <| zS rfl (bW rfl rfl) <| ah <| ay rfl (fun c10 => ?_) (fun c10 => ?_)
   ·replace H := ba c10 H;refine aE <| af <| aZ <| af ?_;obtain ⟨g11, H⟩ := aL H;obtain ⟨x12, e13, H⟩ := bM H;obtain ⟨g14, H⟩ := aL H;obtain ⟨x15, e16, H⟩ := bM H;obtain ⟨x17, e18, H⟩ := du H;refine cq (by kernel_rfl) ?_;show AI _ _ _ _ _ 10 (Array.replicate 10 false) _;refine zk 0 rfl (au (av := slE _ _ _) rfl) ?_;show AI _ _ _ _ _ _ #[true, false, false, false, false, false, false, false, false, false] _;refine zk 1 rfl (mv rfl) ?_;show AI _ _ _ _ _ _ #[true, true, false, false, false, false, false, false, false, false] _;refine zk 2 rfl (bp (E := (ai Enc.int (ai (Enc.sl Enc.str) (ai Enc.int (ai Enc.int Enc.int))))) aF (by kernel_rfl) rfl rfl g11 e13) ?_;show AI _ _ _ _ _ _ #[true, true, true, false, false, false, false, false, false, false] _;refine zk 3 rfl (bK Tryd.underlying38 rfl (n := 5) (by kernel_rfl) rfl (ab rfl)) ?_;show AI _ _ _ _ _ _ #[true, true, true, true, false, false, false, false, false, false] _;refine zk 4 rfl (au (av := slE _ _ _) rfl) ?_;show AI _ _ _ _ _ _ #[true, true, true, true, true, false, false, false, false, false] _;refine zk 5 rfl (mv rfl) ?_;show AI _ _ _ _ _ _ #[true, true, true, true, true, true, false, false, false, false] _;refine zk 6 rfl (bp (E := (ai Enc.int (ai (Enc.sl Enc.str) (ai Enc.int (ai Enc.int Enc.int))))) aF (by kernel_rfl) rfl rfl g14 e16) ?_;show AI _ _ _ _ _ _ #[true, true, true, true, true, true, true, false, false, false] _
    refine zk 7 rfl (bK Tryd.underlying38 rfl (n := 5) (by kernel_rfl) rfl (ab rfl)) ?_;show AI _ _ _ _ _ _ #[true, true, true, true, true, true, true, true, false, false] _;refine aP (i := 8) (by kernel_rfl) rfl rfl <| AIO.callp rfl nE rfl (kG F x12.1 x12.2.1 x12.2.2.1 x12.2.2.2.1 x12.2.2.2.2 x15.1 x15.2.1 x15.2.2.1 x15.2.2.2.1 x15.2.2.2.2 x17 e18) ?_;show AI _ _ _ _ _ _ #[true, true, true, true, true, true, true, true, true, false] _;refine zk 9 rfl (asg rfl) ?_;show AI _ _ _ _ _ _ #[true, true, true, true, true, true, true, true, true, true] _;refine bx rfl <| af <| aa ?_;show AR _ _ _ _ _ [0, 1] _;refine zm rfl <| zS rfl (ec rfl) <| ah <| ay rfl (fun c19 => ?_) (fun c19 => ?_)
    ·replace H := ba c19 H;refine af <| aa ?_;show AR _ _ _ _ _ [0] _;refine za rfl <| ah <| aM ?_;obtain rfl := ak H;exact And.intro rfl (Exists.intro _ (Exists.intro _ ⟨aI rfl (.refl _), aC [] rfl, rfl, rfl⟩))
    ·replace H := bb c19 H;refine aE ?_;obtain ⟨g20, H⟩ := aL H;refine aa ?_;show AR _ _ _ _ _ [0, 1, 2] _;refine zm rfl <| zS rfl (eV rfl rfl g20) <| za rfl <| ah ?_;exact Exists.intro (n9, y7 + 1) ⟨H, Nat.lt_succ_self _, aY [] (.cons (.refl _) (.cons (.refl _) (.cons (.refl _) (.nil _)))) rfl⟩
   ·replace H := bb c10 H;refine AW.exit ?_;exact Exists.intro () ⟨H, aY [] (.nil _) rfl⟩
  rintro _ H;replace H : dT = some r5 := H
  unfold dT at H
  refine af <| aa ?_;show AR _ _ _ _ _ [0] _;refine za rfl <| ah <| aM ?_;obtain rfl := ak H;exact And.intro rfl (Exists.intro _ (Exists.intro _ ⟨aI rfl (.refl _), aC [] rfl, rfl, rfl⟩))
set_option maxRecDepth 100000 in
set_option maxHeartbeats 1000000 in
theorem jU (F : Nat) (r1 : Bool) (H : dX F = some r1) : ACalls Tryd.prog 8 [] [] (Ret (B r1) []) := by
 unfold dX at H
 refine aA Tryd.func8 rfl rfl ?_;show AW _ _ 56 _ _ _;refine af <| aa ?_;show AR _ _ _ _ _ [0] _;refine za rfl <| ah <| af ?_;obtain ⟨x3, x4, e5, H⟩ := gi H;refine aa ?_;show AR _ _ _ _ _ [0, 1, 2, 3, 4, 5, 6, 7] _;refine zX rfl (mo (E := Enc.byte) (bytes := 1) (xs := [.const _, .const _, .const _, .const _, .const _, .const _, .const _, .const _, .const _, .const _, .const _, .const _, .const _, .const _, .const _, .const _, .const _, .const _, .const _, .const _]) (l := ([50, 53, 48, 45, 97, 13, 10, 50, 53, 48, 32, 50, 46, 48, 46, 48, 32, 98, 13, 10] : List UInt8)) ag (by kernel_rfl) rfl rfl (by decide) rfl rfl) ?_;rintro _ _ ⟨t2, rfl, rfl⟩;refine zR rfl (kf 0 ag bq rfl (by simp) rfl) <| aX rfl rfl (aO rfl nH rfl (mj F ([50, 53, 48, 45, 97, 13, 10, 50, 53, 48, 32, 50, 46, 48, 46, 48, 32, 98, 13, 10] : List UInt8) (some t2) x3 x4 e5) ?_);refine zS rfl (au (av := .tup _) rfl) <| zS rfl (aK (av := slE _ _ _) rfl rfl) <| zS rfl (aK (av := .v _) rfl rfl) <| zS rfl (aG (av := slE _ _ _) rfl) <| za rfl <| ah <| af ?_;obtain ⟨_, e6, H⟩ := du H;refine aa ?_;show AR _ _ _ _ _ [0, 1] _;refine aX rfl rfl (bN [] rfl en9_repl rfl (fX F e6) rfl (fun c A' h => by obtain ⟨_, h, _⟩ := h; cases h) ?_)
 rintro av A' ⟨o7, h, rfl⟩; cases h
 refine zS rfl (aG (av := .pt _ _) rfl) ?_
 refine jd 0 0 1 5 rfl rfl fun t8 => ?_
 show AR _ _ _ _ _ _ ⟨_, _, [.obj o7 [slE Enc.byte [] (some t8), B false], .tok t8 5, .tok t2 5]⟩;refine ah <| af ?_;obtain ⟨g11, H⟩ := cZ H;obtain ⟨x12, e13, H⟩ := bM H;obtain ⟨g15, H⟩ := cZ H;obtain ⟨x16, e17, H⟩ := bM H;obtain ⟨g19, H⟩ := cZ H;obtain ⟨x20, e21, H⟩ := bM H;obtain ⟨g23, H⟩ := cZ H;obtain ⟨x24, e25, H⟩ := bM H;obtain ⟨x26, e27, H⟩ := dp H;obtain ⟨x30, e31, H⟩ := dp H;refine aa ?_;show AR _ _ _ _ _ [0, 1, 2, 3, 4, 5, 6, 7, 8, 9, 10, 11, 12, 13, 14, 15, 16, 17, 18, 19, 20, 21, 22, 23, 24, 25, 26, 27, 28, 29, 30, 31, 32, 33, 34, 35, 36, 37, 38, 39, 40, 41, 42, 43, 44, 45] _;refine zm rfl <| zS rfl (bz rfl rfl) <| zm rfl <| aD (l := [7, 8, 9, 10, 11, 12, 13, 14, 15, 16, 17, 18, 19, 20, 21, 22, 23, 24, 25, 26, 27, 28, 29, 30, 31, 32, 33, 34, 35, 36, 37, 38, 39, 40, 41, 42, 43, 44, 45]) 17 (B ((decide (x4 = 0)) && (decide ((x3.length : Int) = 1)))) (fun K => ?_) ?_
 ·rcases ac (decide (x4 = 0)) with h9 | h9
  ·refine zU h9 rfl (au (av := slE _ _ _) rfl) <| zU h9 rfl (aN aF rfl) <| zU h9 rfl (bz rfl rfl) <| zS rfl (aq (av := .v _) rfl h9 rfl) ?_;exact K _ 3 _ (an (bu h9)) rfl rfl
  ·refine zF h9 rfl <| zF h9 rfl <| zF h9 rfl <| zS rfl (ap (av := .v _) rfl h9 rfl) ?_;exact K _ 3 _ (an (bw h9)) rfl rfl
 refine zm rfl <| aD (l := [14, 15, 16, 17, 18, 19, 20, 21, 22, 23, 24, 25, 26, 27, 28, 29, 30, 31, 32, 33, 34, 35, 36, 37, 38, 39, 40, 41, 42, 43, 44, 45]) 24 (B (((decide (x4 = 0)) && (decide ((x3.length : Int) = 1))) && (decide (x12.1 = 250)))) (fun K => ?_) ?_
 ·rcases ac ((decide (x4 = 0)) && (decide ((x3.length : Int) = 1))) with h10 | h10
  ·refine zU h10 rfl (au (av := slE _ _ _) rfl) <| zU h10 rfl (bp (E := (ai Enc.int (ai (Enc.sl Enc.str) (ai Enc.int (ai Enc.int Enc.int))))) aF (by kernel_rfl) rfl rfl (g11 h10) e13) <| zU h10 rfl (aH (n := 0) (by kernel_rfl) rfl (ab rfl)) <| zU h10 rfl (aR az rfl rfl) <| zU h10 rfl (bz rfl rfl) <| zS rfl (aq (av := .v _) rfl h10 rfl) ?_;exact K _ 5 _ (an (bu h10)) rfl rfl
  ·refine zF h10 rfl <| zF h10 rfl <| zF h10 rfl <| zF h10 rfl <| zF h10 rfl <| zS rfl (ap (av := .v _) rfl h10 rfl) ?_;exact K _ 5 _ (an (bw h10)) rfl rfl
 refine zm rfl <| aD (l := [22, 23, 24, 25, 26, 27, 28, 29, 30, 31, 32, 33, 34, 35, 36, 37, 38, 39, 40, 41, 42, 43, 44, 45]) 32 (B ((((decide (x4 = 0)) && (decide ((x3.length : Int) = 1))) && (decide (x12.1 = 250))) && (decide ((x16.2.1.length : Int) = 2)))) (fun K => ?_) ?_
 ·rcases ac (((decide (x4 = 0)) && (decide ((x3.length : Int) = 1))) && (decide (x12.1 = 250))) with h14 | h14
  ·refine zU h14 rfl (au (av := slE _ _ _) rfl) <| zU h14 rfl (bp (E := (ai Enc.int (ai (Enc.sl Enc.str) (ai Enc.int (ai Enc.int Enc.int))))) aF (by kernel_rfl) rfl rfl (g15 h14) e17) <| zU h14 rfl (aH (n := 1) (by kernel_rfl) rfl (ab rfl)) <| zU h14 rfl (aR ao rfl rfl) <| zU h14 rfl (aN ao rfl) <| zU h14 rfl (bz rfl rfl) <| zS rfl (aq (av := .v _) rfl h14 rfl) ?_;exact K _ 6 _ (an (bu h14)) rfl rfl
  ·refine zF h14 rfl <| zF h14 rfl <| zF h14 rfl <| zF h14 rfl <| zF h14 rfl <| zF h14 rfl <| zS rfl (ap (av := .v _) rfl h14 rfl) ?_;exact K _ 6 _ (an (bw h14)) rfl rfl
 refine zm rfl <| aD (l := [30, 31, 32, 33, 34, 35, 36, 37, 38, 39, 40, 41, 42, 43, 44, 45]) 40 (B (((((decide (x4 = 0)) && (decide ((x3.length : Int) = 1))) && (decide (x12.1 = 250))) && (decide ((x16.2.1.length : Int) = 2))) && ((x20.2.2.1 == 2) && ((x20.2.2.2.1 == 0) && ((x20.2.2.2.2 == 0) && true))))) (fun K => ?_) ?_
 ·rcases ac ((((decide (x4 = 0)) && (decide ((x3.length : Int) = 1))) && (decide (x12.1 = 250))) && (decide ((x16.2.1.length : Int) = 2))) with h18 | h18
  ·refine zU h18 rfl (au (av := slE _ _ _) rfl) <| zU h18 rfl (bp (E := (ai Enc.int (ai (Enc.sl Enc.str) (ai Enc.int (ai Enc.int Enc.int))))) aF (by kernel_rfl) rfl rfl (g19 h18) e21) <| zU h18 rfl (aH (n := 2) (by kernel_rfl) rfl (ab rfl)) <| zU h18 rfl (bK aJ rfl (n := 3) (by kernel_rfl) rfl (ab rfl)) <| zU h18 rfl (mx (zs := [.int .i64 0, .int .i64 0, .int .i64 0]) (k := 1) (cs := [i64 2, i64 0, i64 0]) aJ (by kernel_rfl) (by kernel_rfl) rfl rfl (by kernel_rfl)) <| zU h18 rfl (gK (r := (x20.2.2.1 == 2) && ((x20.2.2.2.1 == 0) && ((x20.2.2.2.2 == 0) && true))) (.inl rfl) aJ az rfl (by kernel_rfl) (by kernel_rfl) rfl rfl rfl rfl) <| zS rfl (aq (av := .v _) rfl h18 rfl) ?_;exact K _ 6 _ (an (bu h18)) rfl rfl
  ·refine zF h18 rfl <| zF h18 rfl <| zF h18 rfl <| zF h18 rfl <| zF h18 rfl <| zF h18 rfl <| zS rfl (ap (av := .v _) rfl h18 rfl) ?_;exact K _ 6 _ (an (bw h18)) rfl rfl
 refine zm rfl <| aD (l := [36, 37, 38, 39, 40, 41, 42, 43, 44, 45]) 46 (B ((((((decide (x4 = 0)) && (decide ((x3.length : Int) = 1))) && (decide (x12.1 = 250))) && (decide ((x16.2.1.length : Int) = 2))) && ((x20.2.2.1 == 2) && ((x20.2.2.2.1 == 0) && ((x20.2.2.2.2 == 0) && true)))) && x26)) (fun K => ?_) ?_
 ·rcases ac (((((decide (x4 = 0)) && (decide ((x3.length : Int) = 1))) && (decide (x12.1 = 250))) && (decide ((x16.2.1.length : Int) = 2))) && ((x20.2.2.1 == 2) && ((x20.2.2.2.1 == 0) && ((x20.2.2.2.2 == 0) && true)))) with h22 | h22
  ·refine zU h22 rfl (au (av := slE _ _ _) rfl) <| zU h22 rfl (bp (E := (ai Enc.int (ai (Enc.sl Enc.str) (ai Enc.int (ai Enc.int Enc.int))))) aF (by kernel_rfl) rfl rfl (g23 h22) e25) <| zU h22 rfl (bK Tryd.underlying38 rfl (n := 5) (by kernel_rfl) rfl (ab rfl)) <| zT h22 rfl (aO rfl nG rfl (mY F x24.1 x24.2.1 x24.2.2.1 x24.2.2.2.1 x24.2.2.2.2 x26 (e27 h22)) ?_);refine zS rfl (aq (av := .v _) rfl h22 rfl) ?_;exact K _ 4 _ (an (bu h22)) rfl rfl
  ·refine zF h22 rfl <| zF h22 rfl <| zF h22 rfl <| zF h22 rfl <| zS rfl (ap (av := .v _) rfl h22 rfl) ?_;exact K _ 4 _ (an (bw h22)) rfl rfl
 refine zm rfl <| aD (l := [40, 41, 42, 43, 44, 45]) 50 (B (((((((decide (x4 = 0)) && (decide ((x3.length : Int) = 1))) && (decide (x12.1 = 250))) && (decide ((x16.2.1.length : Int) = 2))) && ((x20.2.2.1 == 2) && ((x20.2.2.2.1 == 0) && ((x20.2.2.2.2 == 0) && true)))) && x26) || false)) (fun K => ?_) ?_
 ·rcases ac ((((((decide (x4 = 0)) && (decide ((x3.length : Int) = 1))) && (decide (x12.1 = 250))) && (decide ((x16.2.1.length : Int) = 2))) && ((x20.2.2.1 == 2) && ((x20.2.2.2.1 == 0) && ((x20.2.2.2.2 == 0) && true)))) && x26) with h28 | h28
  ·refine zU h28 rfl (au (av := .pt _ _) rfl) <| zU h28 rfl (kK ar rfl rfl) <| zS rfl (aq (av := .v _) rfl h28 rfl) ?_;exact K _ 2 _ (an (fI h28)) rfl rfl
  ·refine zF h28 rfl <| zF h28 rfl <| zS rfl (ap (av := .v _) rfl h28 rfl) ?_;exact K _ 2 _ (an (fJ h28)) rfl rfl
 refine zm rfl <| aD (l := [45]) 55 (B ((((((((decide (x4 = 0)) && (decide ((x3.length : Int) = 1))) && (decide (x12.1 = 250))) && (decide ((x16.2.1.length : Int) = 2))) && ((x20.2.2.1 == 2) && ((x20.2.2.2.1 == 0) && ((x20.2.2.2.2 == 0) && true)))) && x26) || false) && (!x30))) (fun K => ?_) ?_
 ·rcases ac (((((((decide (x4 = 0)) && (decide ((x3.length : Int) = 1))) && (decide (x12.1 = 250))) && (decide ((x16.2.1.length : Int) = 2))) && ((x20.2.2.1 == 2) && ((x20.2.2.2.1 == 0) && ((x20.2.2.2.2 == 0) && true)))) && x26) || false) with h29 | h29
  ·refine zU h29 rfl (au (av := .pt _ _) rfl) <| zT h29 rfl (bN [0, 0] rfl nJ rfl (fY F o7 [] t8 false x30 (e31 h29)) rfl (fun c A' h => by cases h.1) ?_)
   rintro av A' ⟨h, rfl⟩; cases h
   refine zU h29 rfl (ec rfl) <| zS rfl (aq (av := .v _) rfl h29 rfl) ?_;exact K _ 3 _ (an (bu h29)) rfl rfl
  ·refine zF h29 rfl <| zF h29 rfl <| zF h29 rfl <| zS rfl (ap (av := .v _) rfl h29 rfl) ?_;exact K _ 3 _ (an (bw h29)) rfl rfl
 refine za rfl <| ah <| aM ?_;obtain rfl := ak H;exact And.intro rfl (Exists.intro _ (Exists.intro _ ⟨aI rfl (.refl _), aC [] rfl, rfl, rfl⟩))
abbrev _root_.Go.Av.bG := @Tryd.underlying29
set_option maxRecDepth 100000 in
set_option maxHeartbeats 1000000 in
theorem ll (F : Nat) (a1 : List UInt8) (q2 : Option Nat) (a3 : List Int) (q4 : Option Nat) (r5 : List (List UInt8)) (H : ge F a1 a3 = some r5) : ACalls Tryd.prog 11 [slE Enc.byte a1 q2, slE Enc.int a3 q4] [] (Ret (slE (Enc.sl Enc.byte) r5 none) []) := by
 unfold ge at H
 refine aA Tryd.func11 rfl rfl ?_;show AW _ _ 48 _ _ _;refine af <| aa ?_;show AR _ _ _ _ _ [0] _;refine za rfl <| ah <| af <| aa ?_;show AR _ _ _ _ _ [0] _;refine za rfl <| ah ?_
 refine hU 5 1 22 rfl fun t6 => ?_
 show AW _ _ _ _ _ ⟨(5, slE (Enc.sl Enc.byte) [] (some t6)) :: _, _, _⟩;refine bD (X := (List UInt8) × (List (List UInt8)) × Nat) (fun (y35, y36, t37) => ⟨[(0, slE Enc.byte y35 none), (5, slE (Enc.sl Enc.byte) y36 (some t37))], [], [.tok t37 22]⟩) (fun (y35, y36, t37) => dG y35 y36 = some r5) ?_ ?_
 ·refine af <| aa ?_;show AR _ _ _ _ _ [0] _;refine za rfl <| ah <| aZ <| AW.loop (X := Nat × (List UInt8) × (List (List UInt8)) × Nat × Int) (fun (n12, y7, y8, t9, y10) => ⟨[(0, slE Enc.byte y7 none), (1, slE Enc.int a3 q4), (5, slE (Enc.sl Enc.byte) y8 (some t9)), (6, i64 y10)], [], [.tok t9 22]⟩) (fun (n12, y7, y8, t9, y10) => cz a3 n12 (y7, y8, y10) = some r5) (fun (n12, y7, y8, t9, y10) => n12) (F, a1, [], t6, 0) H (aY [0] (.cons (.tok _ _ _) (.cons (.refl _) (.cons (.refl _) (.cons (.refl _) (.nil _))))) rfl) ?_;rintro ⟨n12, y7, y8, t9, y10⟩ H;obtain ⟨n12, rfl, H⟩ := dZ H;replace H : dH a3 (cz a3 n12) y7 y8 y10 = some r5 := H
  unfold dH at H
  refine af <| af <| aa ?_;show AR _ _ _ _ _ [0, 1, 2, 3, 4, 5, 6, 7, 8] _;refine zS rfl (au (av := slE _ _ _) rfl) <| zS rfl (aN ag rfl) <| zS rfl (dL rfl rfl) <| zm rfl <| aD (l := []) 16 (B ((decide (0 < (y7.length : Int))) && (decide (y10 < (a3.length : Int))))) (fun K => ?_) ?_
  ·rcases ac (decide (0 < (y7.length : Int))) with h13 | h13
   ·refine zM h13 rfl <| zU h13 rfl (au (av := slE _ _ _) rfl) <| zU h13 rfl (aN Tryd.underlying23 rfl) <| zU h13 rfl (bW rfl rfl) <| zS rfl (aq (av := .v _) rfl h13 rfl) ?_;exact K _ 4 _ (an (bu h13)) rfl rfl
   ·refine zF h13 rfl <| zF h13 rfl <| zF h13 rfl <| zF h13 rfl <| zS rfl (ap (av := .v _) rfl h13 rfl) ?_;exact K _ 4 _ (an (bw h13)) rfl rfl
  refine ah <| ay rfl (fun c14 => ?_) (fun c14 => ?_)
  ·replace H := ba c14 H;refine aE <| af <| aZ <| af ?_;obtain ⟨g15, H⟩ := aL H;obtain ⟨x16, e17, H⟩ := bM H;refine aa ?_;show AR _ _ _ _ _ [0, 1, 2, 3, 4] _;refine zS rfl (au (av := slE _ _ _) rfl) <| zm rfl <| zS rfl (bp (E := Enc.int) Tryd.underlying23 (by kernel_rfl) rfl rfl g15 e17) <| zS rfl (aR az rfl rfl) <| za rfl <| ah <| bD (X := Int) (fun y20 => ⟨[(0, slE Enc.byte y7 none), (1, slE Enc.int a3 q4), (5, slE (Enc.sl Enc.byte) y8 (some t9)), (6, i64 y10), (7, i64 y20)], [], [.tok t9 22]⟩) (fun y20 => cG y7 y8 y10 (cz a3 n12) y20 = some r5) ?_ ?_
   ·refine af <| aa ?_;show AR _ _ _ _ _ [0, 1, 2, 3, 4, 5, 6, 7] _;refine zm rfl <| zS rfl (bW rfl rfl) <| zm rfl <| aD (l := []) 30 (B ((decide (x16 < 0)) || (decide ((y7.length : Int) < x16)))) (fun K => ?_) ?_
    ·rcases ac (decide (x16 < 0)) with h18 | h18
     ·refine zF h18 rfl <| zF h18 rfl <| zF h18 rfl <| zF h18 rfl <| zS rfl (aq (av := .v _) rfl h18 rfl) ?_;exact K _ 4 _ (an (fI h18)) rfl rfl
     ·refine zM h18 rfl <| zU h18 rfl (au (av := slE _ _ _) rfl) <| zU h18 rfl (aN ag rfl) <| zU h18 rfl (dL rfl rfl) <| zS rfl (ap (av := .v _) rfl h18 rfl) ?_;exact K _ 4 _ (an (fJ h18)) rfl rfl
    refine ah <| ay rfl (fun c19 => ?_) (fun c19 => ?_)
    ·replace H := ba c19 H;refine aa ?_;show AR _ _ _ _ _ [0, 1, 2] _;refine zS rfl (au (av := slE _ _ _) rfl) <| zS rfl (aN ag rfl) <| za rfl <| ah ?_;exact Exists.intro (y7.length : Int) ⟨H, aY [0] (.cons (.refl _) (.cons (.refl _) (.cons (.refl _) (.cons (.refl _) (.cons (.refl _) (.nil _)))))) rfl⟩
    ·replace H := bb c19 H;refine aE ?_;exact Exists.intro x16 ⟨H, aY [0] (.cons (.refl _) (.cons (.refl _) (.cons (.refl _) (.cons (.refl _) (.cons (.refl _) (.nil _)))))) rfl⟩
   rintro y20 H;replace H : cG y7 y8 y10 (cz a3 n12) y20 = some r5 := H
   unfold cG at H
   refine af ?_;obtain ⟨g22, H⟩ := aL H;obtain ⟨x23, e24, H⟩ := bM H;obtain ⟨g26, H⟩ := aL H;obtain ⟨g28, H⟩ := aL H;obtain ⟨x29, e30, H⟩ := bM H;refine aa ?_;show AR _ _ _ _ _ [0, 1, 2, 3, 4, 5, 6, 7] _;refine zS rfl (au (av := slE _ _ _) rfl) <| zS rfl (au (av := slE _ _ _) rfl) <| zm rfl <| zS rfl (lb (E := Enc.byte) ag (by kernel_rfl) rfl rfl g22 e24) <| zX rfl (hP (E := Enc.byte) (bytes := 1) ag ag rfl (by kernel_rfl) rfl rfl rfl g26) ?_;rintro _ _ ⟨t25, rfl, rfl⟩;refine zR rfl (kC 37 (.tok _ _ _) <| fk (E := (Enc.sl Enc.byte)) (bytes := 24) (xs := [.tmp 37]) (l := ([x23] : List (List UInt8))) bG (by kernel_rfl) rfl rfl (by decide) rfl rfl) <| zX rfl (dr (E := (Enc.sl Enc.byte)) (bytes := 24) 1 bG bG rfl (by kernel_rfl) rfl rfl rfl rfl g28 e30) ?_;rintro _ _ ⟨t27, rfl, rfl⟩;refine zS rfl (aG (av := slE _ _ _) rfl) <| ah ?_;obtain ⟨g31, H⟩ := aL H;obtain ⟨x32, e33, H⟩ := bM H;refine aa ?_;show AR _ _ _ _ _ [0, 1, 2, 3] _;refine zS rfl (au (av := slE _ _ _) rfl) <| zm rfl <| zS rfl (cc (E := Enc.byte) ag (by kernel_rfl) rfl rfl g31 e33) <| zS rfl (aG (av := slE _ _ _) rfl) <| ah ?_;obtain ⟨g34, H⟩ := aL H;refine aa ?_;show AR _ _ _ _ _ [0, 1, 2] _;refine zm rfl <| zS rfl (eV rfl rfl g34) <| za rfl <| ah ?_
   exact Exists.intro (n12, x32, x29, t27, y10 + 1) ⟨H, Nat.lt_succ_self _, aY [1] (.cons (.refl _) (.cons (.refl _) (.cons (.refl _) (.cons (.refl _) (.nil _))))) rfl⟩
  ·replace H := bb c14 H;refine AW.exit ?_;exact Exists.intro (y7, y8, t9) ⟨H, aY [0] (.cons (.refl _) (.cons (.refl _) (.nil _))) rfl⟩
 rintro ⟨y35, y36, t37⟩ H;replace H : dG y35 y36 = some r5 := H
 unfold dG at H
 refine af ?_;obtain ⟨g40, H⟩ := aL H;obtain ⟨g42, H⟩ := aL H;obtain ⟨x43, e44, H⟩ := bM H;refine aa ?_;show AR _ _ _ _ _ [0, 1, 2, 3, 4, 5] _;refine zS rfl (au (av := slE _ _ _) rfl) <| zS rfl (au (av := slE _ _ _) rfl) <| zX rfl (hP (E := Enc.byte) (bytes := 1) ag ag rfl (by kernel_rfl) rfl rfl rfl g40) ?_;rintro _ _ ⟨t39, rfl, rfl⟩;refine zR rfl (kC 45 (.tok _ _ _) <| fk (E := (Enc.sl Enc.byte)) (bytes := 24) (xs := [.tmp 45]) (l := ([y35] : List (List UInt8))) bG (by kernel_rfl) rfl rfl (by decide) rfl rfl) <| zX rfl (dr (E := (Enc.sl Enc.byte)) (bytes := 24) 1 bG bG rfl (by kernel_rfl) rfl rfl rfl rfl g42 e44) ?_;rintro _ _ ⟨t41, rfl, rfl⟩;refine zS rfl (aG (av := slE _ _ _) rfl) <| ah <| aM ?_;obtain rfl := ak H;exact And.intro rfl (Exists.intro _ (Exists.intro _ ⟨aI rfl (.tok _ _ _), aC [] rfl, rfl, rfl⟩))
end Go.Proofs.YtimpbfniegimaaaDoor
namespace Go.Pv
def cl (F : Nat) (x14 : List (Int × (List (List UInt8)) × Int × Int × Int)) (x15 : List UInt8) (x16 : Bool) (y47 : List (Int × (List (List UInt8)) × Int × Int × Int)) (y49 : List UInt8) (y51 : Bool) : Option Bool :=
bnd (eC F x14 y47) fun x53 =>
fL x53 (fE F x15 x16) fun x56 =>
fL x53 (fE F y49 y51) fun x58 =>
fL (x53 && (x56 == x58)) (fb F x15 x16) fun x61 =>
fL (x53 && (x56 == x58)) (fb F y49 y51) fun x63 =>
some ((x53 && (x56 == x58)) && (decide (x61 = x63)))
def cn (F : Nat) (x14 : List (Int × (List (List UInt8)) × Int × Int × Int)) (x15 : List UInt8) (x16 : Bool) (x23 : List (List UInt8)) (rec31 : ((List (Int × (List (List UInt8)) × Int × Int × Int)) × Int × (List UInt8) × Bool) → Option Bool) (y25 : List (Int × (List (List UInt8)) × Int × Int × Int)) (y27 : Int) (y28 : List UInt8) (y30 : Bool) : Option Bool :=
bif decide (y27 < (x23.length : Int)) then
  grd (cr y27 x23.length) <|
  lt (at_ x23 y27) fun x35 =>
  bnd3 (eO F y28 y30 x35) fun x37 x38 x39 =>
  grd (eG (y25.length + x37.length)) <|
  lt (y25 ++ x37) fun x44 =>
  grd (okI (y27 + 1)) <|
  rec31 (x44, y27 + 1, x38, x39)
else
  cl F x14 x15 x16 y25 y28 y30
def cm (F : Nat) (x14 : List (Int × (List (List UInt8)) × Int × Int × Int)) (x15 : List UInt8) (x16 : Bool) (x23 : List (List UInt8)) (n : Nat) : ((List (Int × (List (List UInt8)) × Int × Int × Int)) × Int × (List UInt8) × Bool) → Option Bool :=
  loop (fun rec x => cn F x14 x15 x16 x23 rec x.1 x.2.1 x.2.2.1 x.2.2.2) n
def cP (F : Nat) (a1 : List UInt8) (a3 : List Int) : Option Bool :=
bnd (dX F) fun x6 =>
bif ((!x6) || (decide (3000 < (a1.length : Int)))) || (decide (40 < (a3.length : Int))) then
  some x6
else
  bnd (fD F) fun _ =>
  bnd3 (eO F [] false a1) fun x14 x15 x16 =>
  bnd (fD F) fun _ =>
  bnd (ge F a1 a3) fun x23 =>
  cm F x14 x15 x16 x23 F ([], 0, [], false)
end Go.Pv
namespace Go.Proofs.YtimpbfniegimaaaDoor
open Go.RowKit Go.Av Go.Pv
theorem jw : ∀ (args : Array Value) (w : World), (callFunc 8 args).run Tryd.prog w = .ok (.enter 8 args) w := fun _ _ => by kernel_rfl
theorem fS : ∀ (args : Array Value) (w : World), (callFunc 9 args).run Tryd.prog w = .ok (.enter 9 args) w := fun _ _ => by kernel_rfl
theorem fA : ∀ (args : Array Value) (w : World), (callFunc 10 args).run Tryd.prog w = .ok (.enter 10 args) w := fun _ _ => by kernel_rfl
theorem jb : ∀ (args : Array Value) (w : World), (callFunc 11 args).run Tryd.prog w = .ok (.enter 11 args) w := fun _ _ => by kernel_rfl
theorem ja : ∀ (args : Array Value) (w : World), (callFunc 12 args).run Tryd.prog w = .ok (.enter 12 args) w := fun _ _ => by kernel_rfl
theorem fy : ∀ (args : Array Value) (w : World), (callFunc 13 args).run Tryd.prog w = .ok (.enter 13 args) w := fun _ _ => by kernel_rfl
theorem fx : ∀ (args : Array Value) (w : World), (callFunc 14 args).run Tryd.prog w = .ok (.enter 14 args) w := fun _ _ => by kernel_rfl
set_option maxRecDepth 100000 in
set_option maxHeartbeats 1000000 in
theorem gY (F : Nat) (a1 : List UInt8) (q2 : Option Nat) (a3 : List Int) (q4 : Option Nat) (r5 : Bool) (H : cP F a1 a3 = some r5) : ACalls Tryd.prog 3 [slE Enc.byte a1 q2, slE Enc.int a3 q4] [] (Ret (B r5) []) := by
 unfold cP at H
 refine aA Tryd.func3 rfl rfl ?_;show AW _ _ 67 _ _ _;refine af <| aa ?_;show AR _ _ _ _ _ [0] _;refine za rfl <| ah <| af ?_;obtain ⟨x6, e7, H⟩ := du H;refine aa ?_;show AR _ _ _ _ _ [0, 1] _;refine aX rfl rfl (aO rfl jw rfl (jU F x6 e7) ?_);refine za rfl <| ah <| af <| af <| aa ?_;show AR _ _ _ _ _ [0, 1, 2, 3, 4, 5, 6, 7, 8, 9, 10, 11] _;refine zm rfl <| zS rfl (ec rfl) <| zm rfl <| aD (l := [7, 8, 9, 10, 11]) 20 (B ((!x6) || (decide (3000 < (a1.length : Int))))) (fun K => ?_) ?_
 ·rcases ac (!x6) with h8 | h8
  ·refine zF h8 rfl <| zF h8 rfl <| zF h8 rfl <| zS rfl (aq (av := .v _) rfl h8 rfl) ?_;exact K _ 3 _ (an (fI h8)) rfl rfl
  ·refine zU h8 rfl (au (av := slE _ _ _) rfl) <| zU h8 rfl (aN ag rfl) <| zU h8 rfl (dL rfl rfl) <| zS rfl (ap (av := .v _) rfl h8 rfl) ?_;exact K _ 3 _ (an (fJ h8)) rfl rfl
 refine zm rfl <| aD (l := []) 25 (B (((!x6) || (decide (3000 < (a1.length : Int)))) || (decide (40 < (a3.length : Int))))) (fun K => ?_) ?_
 ·rcases ac ((!x6) || (decide (3000 < (a1.length : Int)))) with h9 | h9
  ·refine zF h9 rfl <| zF h9 rfl <| zF h9 rfl <| zS rfl (aq (av := .v _) rfl h9 rfl) ?_;exact K _ 3 _ (an (fI h9)) rfl rfl
  ·refine zU h9 rfl (au (av := slE _ _ _) rfl) <| zU h9 rfl (aN Tryd.underlying23 rfl) <| zU h9 rfl (dL rfl rfl) <| zS rfl (ap (av := .v _) rfl h9 rfl) ?_;exact K _ 3 _ (an (fJ h9)) rfl rfl
 refine ah <| ay rfl (fun c10 => ?_) (fun c10 => ?_)
 ·replace H := ba c10 H;refine af <| aa ?_;show AR _ _ _ _ _ [0, 1] _;refine zm rfl <| za rfl <| ah <| aM ?_;obtain rfl := ak H;exact And.intro rfl (Exists.intro _ (Exists.intro _ ⟨aI rfl (.refl _), aC [] rfl, rfl, rfl⟩))
 ·replace H := bb c10 H;refine aE <| af ?_;obtain ⟨_, e11, H⟩ := du H;refine aa ?_;show AR _ _ _ _ _ [0, 1] _;refine aX rfl rfl (bN [] rfl fS rfl (fX F e11) rfl (fun c A' h => by obtain ⟨_, h, _⟩ := h; cases h) ?_)
  rintro av A' ⟨o12, h, rfl⟩; cases h
  refine zS rfl (aG (av := .pt _ _) rfl) <| ah <| af ?_;obtain ⟨x14, x15, x16, e17, H⟩ := gV H;refine aa ?_;show AR _ _ _ _ _ [0, 1, 2, 3] _;refine zS rfl (au (av := .pt _ _) rfl) <| zS rfl (au (av := slE _ _ _) rfl) ?_
  refine AR.nil_objAt 0 0 1 5 rfl rfl fun t13 => ?_
  show AR _ _ _ _ _ _ ⟨_, _, [.tok t13 5, .obj o12 [slE Enc.byte [] (some t13), B false]]⟩;refine aX rfl rfl (bN [1, 0] rfl fA rfl (iq F o12 [] t13 false a1 q2 x14 x15 x16 e17) rfl (fun c A' h => by cases h.1) ?_)
  rintro av A' ⟨h, t18, rfl⟩; cases h
  refine zS rfl (aG (av := slE _ _ _) rfl) <| ah <| af ?_;obtain ⟨_, e19, H⟩ := du H;refine aa ?_;show AR _ _ _ _ _ [0, 1] _;refine aX rfl rfl (bN [] rfl fS rfl (fX F e19) rfl (fun c A' h => by obtain ⟨_, h, _⟩ := h; cases h) ?_)
  rintro av A' ⟨o20, h, rfl⟩; cases h
  refine zS rfl (aG (av := .pt _ _) rfl) <| ah ?_
  refine AW.nil_objAt 0 0 1 5 rfl rfl fun t21 => ?_
  show AW _ _ _ _ _ ⟨_, _, [.tok t21 5, .obj o20 [slE Enc.byte [] (some t21), B false], .obj o12 [slE Enc.byte x15 (some t18), B x16], .tok t18 5]⟩;refine af <| aa ?_;show AR _ _ _ _ _ [0] _;refine za rfl <| ah ?_
  refine hU 9 5 38 rfl fun t22 => ?_
  show AW _ _ _ _ _ ⟨(9, slE (ai Enc.int (ai (Enc.sl Enc.str) (ai Enc.int (ai Enc.int Enc.int)))) [] (some t22)) :: _, _, _⟩;refine af ?_;obtain ⟨x23, e24, H⟩ := du H;refine aa ?_;show AR _ _ _ _ _ [0, 1, 2, 3] _;refine zS rfl (au (av := slE _ _ _) rfl) <| zS rfl (au (av := slE _ _ _) rfl) <| aX rfl rfl (aO rfl jb rfl (ll F a1 q2 a3 q4 x23 e24) ?_);refine zS rfl (aG (av := slE _ _ _) rfl) <| ah <| bD (X := (List (Int × (List (List UInt8)) × Int × Int × Int)) × Nat × (List UInt8) × Nat × Bool) (fun (y47, t48, y49, t50, y51) => ⟨[(6, .pt o12 0), (7, slE (ai Enc.int (ai (Enc.sl Enc.str) (ai Enc.int (ai Enc.int Enc.int)))) x14 none), (8, .pt o20 0), (9, slE (ai Enc.int (ai (Enc.sl Enc.str) (ai Enc.int (ai Enc.int Enc.int)))) y47 (some t48))], [], [.obj o20 [slE Enc.byte y49 (some t50), B y51], .obj o12 [slE Enc.byte x15 (some t18), B x16], .tok t48 38, .tok t50 5, .tok t18 5]⟩) (fun (y47, t48, y49, t50, y51) => cl F x14 x15 x16 y47 y49 y51 = some r5) ?_ ?_
  ·refine af <| aa ?_;show AR _ _ _ _ _ [0] _;refine za rfl <| ah <| aZ <| AW.loop (X := Nat × (List (Int × (List (List UInt8)) × Int × Int × Int)) × Nat × Int × (List UInt8) × Nat × Bool) (fun (n32, y25, t26, y27, y28, t29, y30) => ⟨[(6, .pt o12 0), (7, slE (ai Enc.int (ai (Enc.sl Enc.str) (ai Enc.int (ai Enc.int Enc.int)))) x14 none), (8, .pt o20 0), (9, slE (ai Enc.int (ai (Enc.sl Enc.str) (ai Enc.int (ai Enc.int Enc.int)))) y25 (some t26)), (10, slE (Enc.sl Enc.byte) x23 none), (11, i64 y27)], [], [.obj o20 [slE Enc.byte y28 (some t29), B y30], .obj o12 [slE Enc.byte x15 (some t18), B x16], .tok t26 38, .tok t29 5, .tok t18 5]⟩) (fun (n32, y25, t26, y27, y28, t29, y30) => cm F x14 x15 x16 x23 n32 (y25, y27, y28, y30) = some r5) (fun (n32, y25, t26, y27, y28, t29, y30) => n32) (F, [], t22, 0, [], t21, false) H (aY [2, 2, 0, 0, 0] (.cons (.refl _) (.cons (.refl _) (.cons (.refl _) (.cons (.refl _) (.cons (.refl _) (.cons (.refl _) (.nil _))))))) rfl) ?_;rintro ⟨n32, y25, t26, y27, y28, t29, y30⟩ H;obtain ⟨n32, rfl, H⟩ := dZ H;replace H : cn F x14 x15 x16 x23 (cm F x14 x15 x16 x23 n32) y25 y27 y28 y30 = some r5 := H
   unfold cn at H
   refine af <| af <| aa ?_;show AR _ _ _ _ _ [0, 1, 2, 3] _;refine zm rfl <| zS rfl (au (av := slE _ _ _) rfl) <| zS rfl (aN bG rfl) <| zS rfl (bW rfl rfl) <| ah <| ay rfl (fun c33 => ?_) (fun c33 => ?_)
   ·replace H := ba c33 H;refine aE <| af <| aZ ?_;obtain ⟨g34, H⟩ := aL H;obtain ⟨x35, e36, H⟩ := bM H;obtain ⟨x37, x38, x39, e40, H⟩ := gV H;obtain ⟨g43, H⟩ := aL H;obtain ⟨x44, e45, H⟩ := bM H;refine aa ?_;show AR _ _ _ _ _ [0, 1, 2, 3, 4, 5, 6, 7, 8] _;refine zS rfl (au (av := slE _ _ _) rfl) <| zS rfl (au (av := .pt _ _) rfl) <| zS rfl (au (av := slE _ _ _) rfl) <| zm rfl <| zS rfl (bp (E := (Enc.sl Enc.byte)) bG (by kernel_rfl) rfl rfl g34 e36) <| zS rfl (aR ag rfl rfl) <| aX rfl rfl (bN [0, 2] rfl fA rfl (iq F o20 y28 t29 y30 x35 none x37 x38 x39 e40) rfl (fun c A' h => by cases h.1) ?_)
    rintro av A' ⟨h, t41, rfl⟩; cases h
    refine zX rfl (dr (E := (ai Enc.int (ai (Enc.sl Enc.str) (ai Enc.int (ai Enc.int Enc.int))))) (bytes := 56) 3 aF aF rfl (by kernel_rfl) rfl rfl rfl rfl g43 e45) ?_;rintro _ _ ⟨t42, rfl, rfl⟩;refine zS rfl (aG (av := slE _ _ _) rfl) <| ah ?_;obtain ⟨g46, H⟩ := aL H;refine aa ?_;show AR _ _ _ _ _ [0, 1, 2] _;refine zm rfl <| zS rfl (eV rfl rfl g46) <| za rfl <| ah ?_;exact Exists.intro (n32, x44, t42, y27 + 1, x38, t41, x39) ⟨H, Nat.lt_succ_self _, aY [0, 1, 1, 0, 0] (.cons (.refl _) (.cons (.refl _) (.cons (.refl _) (.cons (.refl _) (.cons (.refl _) (.cons (.refl _) (.nil _))))))) rfl⟩
   ·replace H := bb c33 H;refine AW.exit ?_;exact Exists.intro (y25, t26, y28, t29, y30) ⟨H, aY [0, 0, 0, 0, 0] (.cons (.refl _) (.cons (.refl _) (.cons (.refl _) (.cons (.refl _) (.nil _))))) rfl⟩
  rintro ⟨y47, t48, y49, t50, y51⟩ H;replace H : cl F x14 x15 x16 y47 y49 y51 = some r5 := H
  unfold cl at H
  refine af ?_;obtain ⟨x53, e54, H⟩ := du H;refine aa ?_;show AR _ _ _ _ _ [0, 1, 2, 3] _;refine zS rfl (au (av := slE _ _ _) rfl) <| zS rfl (au (av := slE _ _ _) rfl) <| aX rfl rfl (aO rfl ja rfl (kH F x14 none y47 (some t48) x53 e54) ?_);refine za rfl <| ah <| af ?_;obtain ⟨x56, e57, H⟩ := dp H;obtain ⟨x58, e59, H⟩ := dp H;obtain ⟨x61, e62, H⟩ := dp H;obtain ⟨x63, e64, H⟩ := dp H;refine aa ?_;show AR _ _ _ _ _ [0, 1, 2, 3, 4, 5, 6, 7, 8, 9, 10, 11, 12, 13, 14, 15] _;refine zm rfl <| zm rfl <| aD (l := [8, 9, 10, 11, 12, 13, 14, 15]) 59 (B (x53 && (x56 == x58))) (fun K => ?_) ?_
  ·rcases ac x53 with h55 | h55
   ·refine zU h55 rfl (au (av := .pt _ _) rfl) <| zT h55 rfl (bN [1, 3] rfl fy rfl (fY F o12 x15 t18 x16 x56 (e57 h55)) rfl (fun c A' h => by cases h.1) ?_)
    rintro av A' ⟨h, rfl⟩; cases h
    refine zU h55 rfl (au (av := .pt _ _) rfl) <| zT h55 rfl (bN [2, 3] rfl fy rfl (fY F o20 y49 t50 y51 x58 (e59 h55)) rfl (fun c A' h => by cases h.1) ?_)
    rintro av A' ⟨h, rfl⟩; cases h
    refine zU h55 rfl (opS_eqb Tryd.underlying4 rfl rfl) <| me [0, 1, 2, 0, 0] rfl ?_;show AR _ _ _ _ _ _ ⟨_, _, [.obj o20 [slE Enc.byte y49 (some t50), B y51], .obj o12 [slE Enc.byte x15 (some t18), B x16], .tok t48 38, .tok t50 5, .tok t18 5]⟩;refine zS rfl (aq (av := .v _) rfl h55 rfl) ?_;exact K _ 5 _ (an (bu h55)) rfl rfl
   ·refine zF h55 rfl <| zF h55 rfl <| zF h55 rfl <| zF h55 rfl <| zF h55 rfl <| zS rfl (ap (av := .v _) rfl h55 rfl) ?_;exact K _ 5 _ (an (bw h55)) rfl rfl
  refine zm rfl <| aD (l := [15]) 66 (B ((x53 && (x56 == x58)) && (decide (x61 = x63)))) (fun K => ?_) ?_
  ·rcases ac (x53 && (x56 == x58)) with h60 | h60
   ·refine zU h60 rfl (au (av := .pt _ _) rfl) <| zT h60 rfl (bN [1, 3] rfl fx rfl (gC F o12 x15 t18 x16 x61 (e62 h60)) rfl (fun c A' h => by cases h.1) ?_)
    rintro av A' ⟨h, rfl⟩; cases h
    refine zU h60 rfl (au (av := .pt _ _) rfl) <| zT h60 rfl (bN [2, 3] rfl fx rfl (gC F o20 y49 t50 y51 x63 (e64 h60)) rfl (fun c A' h => by cases h.1) ?_)
    rintro av A' ⟨h, rfl⟩; cases h
    refine zU h60 rfl (bz rfl rfl) <| me [0, 1, 2, 0, 0] rfl ?_;show AR _ _ _ _ _ _ ⟨_, _, [.obj o20 [slE Enc.byte y49 (some t50), B y51], .obj o12 [slE Enc.byte x15 (some t18), B x16], .tok t48 38, .tok t50 5, .tok t18 5]⟩;refine zS rfl (aq (av := .v _) rfl h60 rfl) ?_;exact K _ 5 _ (an (bu h60)) rfl rfl
   ·refine zF h60 rfl <| zF h60 rfl <| zF h60 rfl <| zF h60 rfl <| zF h60 rfl <| zS rfl (ap (av := .v _) rfl h60 rfl) ?_;exact K _ 5 _ (an (bw h60)) rfl rfl
  refine za rfl <| ah <| aM ?_;obtain rfl := ak H;exact And.intro rfl (Exists.intro _ (Exists.intro _ ⟨aI rfl (.refl _), aC [] rfl, rfl, rfl⟩))
end Go.Proofs.YtimpbfniegimaaaDoor
namespace Go.Dg
open Go.Pv Go.Av
open Go.Lib (decDigits)
abbrev Bs := List UInt8
theorem cY {n : Nat} (h : n < 10) : decDigits n = [UInt8.ofNat (48 + n)] := by rw [decDigits, dif_pos h]
theorem ep {n : Nat} (h : ¬ n < 10) : decDigits n = decDigits (n / 10) ++ [UInt8.ofNat (48 + n % 10)] := by rw [decDigits, dif_neg h]
theorem fc (n : Nat) : Go.Lib.itoa (n : Int) = decDigits n := by
  unfold Go.Lib.itoa
  rw [if_neg (by omega), Int.toNat_natCast]
theorem ew (k : Nat) (h : k < 10) : (UInt8.ofNat (48 + k)).toNat = 48 + k := by
  have : ∀ k : Fin 10, (UInt8.ofNat (48 + k.val)).toNat = 48 + k.val := by decide +kernel
  exact this ⟨k, h⟩
def Dig (c : UInt8) : Prop := 48 ≤ c.toNat ∧ c.toNat ≤ 57
theorem dd_dig : ∀ (m n : Nat), n < m → ∀ c ∈ decDigits n, Dig c := by
  intro m
  induction m with
  | zero => intro n h; omega
  | succ m ih =>
    intro n h c hc
    by_cases hn : n < 10
    · rw [cY hn] at hc
      rw [List.mem_singleton.1 hc]; unfold Dig; rw [ew n hn]; omega
    · rw [ep hn] at hc
      rcases List.mem_append.1 hc with hc | hc
      · exact ih (n / 10) (by omega) c hc
      · rw [List.mem_singleton.1 hc]; unfold Dig; rw [ew _ (by omega)]; omega
theorem jn (n : Nat) : ∀ c ∈ decDigits n, Dig c := dd_dig (n + 1) n (by omega)
theorem li : ∀ (m n : Nat), n < 10 ^ m → (decDigits n).length ≤ m + 1 := by
  intro m
  induction m with
  | zero => intro n h; rw [cY (by omega)]; simp
  | succ m ih =>
    intro n h
    by_cases hn : n < 10
    · rw [cY hn]; simp
    · have h10 : n / 10 < 10 ^ m := by rw [Nat.pow_succ] at h; omega
      rw [ep hn, List.length_append]
      have := ih _ h10
      simp; omega
theorem jN (n : Nat) : 1 ≤ (decDigits n).length := by
  by_cases hn : n < 10
  · rw [cY hn]; simp
  · rw [ep hn]; simp
def val (v : Nat) : Bs → Nat
  | [] => v
  | c :: r => val (10 * v + (c.toNat - 48)) r
theorem mL : ∀ (a b : Bs) (v : Nat), val v (a ++ b) = val (val v a) b
  | [], b, v => rfl
  | c :: r, b, v => mL r b _
theorem val_dd : ∀ (m n : Nat), n < m → val 0 (decDigits n) = n := by
  intro m
  induction m with
  | zero => intro n h; omega
  | succ m ih =>
    intro n h
    by_cases hn : n < 10
    · rw [cY hn]; show 10 * 0 + ((UInt8.ofNat (48 + n)).toNat - 48) = n; rw [ew n hn]; omega
    · rw [ep hn, mL, ih (n / 10) (by omega)]
      show 10 * (n / 10) + ((UInt8.ofNat (48 + n % 10)).toNat - 48) = n
      rw [ew _ (by omega)]; omega
theorem kS (n : Nat) : val 0 (decDigits n) = n := val_dd (n + 1) n (by omega)
end Go.Dg
namespace Go.Dg
open Go.Pv Go.Av
open Go.Lib (decDigits)
theorem gm (x : Bool) : (true && x) = x := Eq.symm (Eq.symm rfl)
theorem hZ (x : Bool) : (false && x) = false := Eq.symm (Eq.symm rfl)
theorem fo (x : Bool) : (false || x) = x := Eq.symm (Eq.symm rfl)
theorem nfl : (!false) = true := Eq.symm (Eq.symm rfl)
theorem ntr : (!true) = false := Eq.symm (Eq.symm rfl)
theorem cfl {α : Type} (a b : α) : (bif false then a else b) = b := Eq.symm (Eq.symm rfl)
theorem ctr {α : Type} (a b : α) : (bif true then a else b) = a := Eq.symm (Eq.symm rfl)
def Tot (o : Option (Int × Int)) : Prop := ∃ x k, o = some (x, k) ∧ (k = 0 ∨ k = 1 ∨ k = 2)
theorem Tot.z (x : Int) : Tot (some (x, 0)) := ⟨x, 0, rfl, .inl rfl⟩
theorem Tot.o (x : Int) : Tot (some (x, 1)) := ⟨x, 1, rfl, .inr (.inl rfl)⟩
theorem Tot.t (x : Int) : Tot (some (x, 2)) := ⟨x, 2, rfl, .inr (.inr rfl)⟩
theorem dc {c : Bool} {a b : Option (Int × Int)} (ha : Tot a) (hb : Tot b) : Tot (bif c then a else b) := by cases c <;> assumption
theorem tot_bndc {c : Bool} {v : UInt8} {f : UInt8 → Option (Int × Int)} (h : ∀ x, Tot (f x)) : Tot (fL c (some v) f) := by
  cases c
  · exact h _
  · exact h _
theorem j3_tot (y17 : Int) (y23 y24 : Int) (rec : (Bool × Int × Int) → Option (Int × Int)) (y43 : UInt8) (h : ∀ v, Tot (rec (false, v, y24 + 1))) (hb : -9223372036854775808 ≤ y24 + 1 ∧ y24 + 1 ≤ 9223372036854775807) :
    Tot (cb 10 y17 false y23 y24 rec y43) := by
  unfold cb ct
  refine dc (.t _) (dc (.o _) (dc (.o _) ?_))
  rw [da hb]
  exact h _
theorem na (F : Nat) (s : Bs) (c : Int) (hs : s.length ≤ 1000) : ∀ (n i : Nat) (v : Int), s.length - i < n → i ≤ s.length → Tot (bo F s 10 c n (false, v, (i : Int))) := by
  intro n
  induction n with
  | zero => intro i v h; omega
  | succ n ih =>
    intro i v hn hi;show Tot (cO F s 10 c (bo F s 10 c n) false v (i : Int))
    unfold cO
    by_cases h : i < s.length
    · have e : ((i : Int) + 1) = ((i + 1 : Nat) : Int) := by omega
      have hr : ∀ v, Tot (bo F s 10 c n (false, v, (i : Int) + 1)) := fun v => by rw [e]; exact ih (i + 1) v (by omega) (by omega)
      have h10 : decide ((10 : Int) = 0) = false := by decide
      rw [bT (by omega), bX (by omega), bk, h10, Bool.and_false, cfl]
      refine dc (j3_tot _ _ _ _ _ hr (by omega)) ?_
      unfold cX
      rw [bZ]
      refine tot_bndc fun x38 => dc ?_ (.t _)
      rw [bZ]
      exact j3_tot _ _ _ _ _ hr (by omega)
    · rw [bF (by omega)]
      unfold cN
      rw [bndc_f, hZ, cfl]
      exact .z _
theorem uint_tot (F : Nat) (s : Bs) (hs : s.length ≤ 1000) (hF : s.length < F) : Tot (dD F s 10 0) := by
  unfold dD
  refine dc (.t _) ?_
  have h1 : ((decide ((2 : Int) ≤ 10)) && (decide ((10 : Int) ≤ 36))) = true := by decide
  rw [h1, grd_t]
  unfold cL cM
  rw [grd_D rfl, bT rfl]
  unfold ca
  have h2 : decide (0 ≤ IntKind.u64.wrap 64) = true := by decide +kernel
  rw [h2, grd_t, cT (by omega)]
  exact na F s _ hs F 0 0 (by omega) (by omega)
theorem mt (b : Bool) (x : Int) : Tot (cu b x) := by
  unfold cu cw
  have h2 : decide (0 ≤ IntKind.u64.wrap 63) = true := by decide +kernel
  rw [h2, grd_t]
  exact dc (.o _) (dc (.o _) (dc (.z _) (.z _)))
theorem gL (F : Nat) (s : Bs) (b : Bool) (hs : s.length ≤ 1000) (hF : s.length < F) : Tot (bJ F 10 0 s b) := by
  unfold bJ
  obtain ⟨x, k, e, hk⟩ := uint_tot F s hs hF
  rw [e, cC]
  by_cases h2 : k = 2
  · subst h2
    have : ((!decide ((2 : Int) = 0)) && (!decide ((2 : Int) = 1))) = true := by decide
    rw [this, ctr]
    exact .t _
  · have : ((!decide (k = 0)) && (!decide (k = 1))) = false := by
      rcases hk with rfl | rfl | rfl
      · decide
      · decide
      · exact absurd rfl h2
    rw [this, cfl, grd_D rfl]
    exact mt _ _
theorem int_tot (F : Nat) (s : Bs) (hs : s.length ≤ 1000) (hF : s.length < F) : Tot (dE F s 10 0) := by
  unfold dE
  by_cases h : s = []
  · rw [bT h]; exact .t _
  · have hp : 0 < s.length := List.length_pos_iff.2 h
    have hf : (dh s 1).length ≤ s.length := by unfold dh; simp
    rw [bF h, bX (by omega), bk]
    refine dc ?_ (dc ?_ (gL F s _ hs hF))
    · rw [eo (by omega), bk]; exact gL F _ _ (by omega) (by omega)
    · rw [eo (by omega), bk]; exact gL F _ _ (by omega) (by omega)
theorem gx (a s : Bs) (ha : a ≠ []) (hs : s.length ≤ 18) : ∀ (n i v : Nat), s.length - i < n → i ≤ s.length → v < 10 ^ i → Tot (cI a s n ((v : Int), (i : Int))) := by
  intro n
  induction n with
  | zero => intro i v h; omega
  | succ n ih =>
    intro i v hn hi hv;show Tot (cJ a s (cI a s n) (v : Int) (i : Int))
    unfold cJ
    have hv18 : v < 10 ^ 18 := Nat.lt_of_lt_of_le hv (Nat.pow_le_pow_right (by omega) (by omega))
    by_cases h : i < s.length
    · have hv17 : v < 10 ^ 17 := Nat.lt_of_lt_of_le hv (Nat.pow_le_pow_right (by omega) (by omega))
      rw [bT (by omega), bX (by omega), bk]
      obtain ⟨c, hc⟩ : ∃ c, c = at_ s (i : Int) := ⟨_, rfl⟩
      rw [← hc]
      by_cases h9 : 9 < (c - 48).toNat
      · rw [bT (by omega)]; exact .t _
      · have e1 : ((v : Int) * 10) + ((c - 48).toNat : Int) = ((v * 10 + (c - 48).toNat : Nat) : Int) := by omega
        have e2 : ((i : Int) + 1) = ((i + 1 : Nat) : Int) := by omega
        rw [bF (by omega), da (by omega), da (by omega), da (by omega), e1, e2]
        refine ih (i + 1) _ (by omega) (by omega) ?_
        rw [Nat.pow_succ]; omega
    · rw [bF (by omega)]
      unfold de df
      have hp : 0 < a.length := List.length_pos_iff.2 ha
      rw [bX (by omega), bk]
      refine dc ?_ (.z _)
      rw [da (by omega)]; exact .z _
theorem atoi_tot (F : Nat) (s : Bs) (hs : s.length ≤ 1000) (hF : s.length < F) : Tot (eu F s) := by
  unfold eu dd dP
  by_cases h : 0 < s.length ∧ s.length < 19
  · have hc : ((decide (0 < (s.length : Int))) && (decide ((s.length : Int) < 19))) = true := by
      rw [decide_eq_true (by omega), decide_eq_true (by omega)]; rfl
    have hne : s ≠ [] := List.length_pos_iff.1 h.1
    have hf : (dh s 1).length ≤ s.length := by unfold dh; simp
    rw [hc, ctr, bX (by omega), bk]
    have hg : ∀ (c : Bool) (x : Option (Int × Int)), ej c (cr 0 s.length) x = x := fun c x => jm fun _ => by omega
    rw [hg, bk]
    refine dc ?_ ?_
    · rw [eo (by omega), bk]
      refine dc (.t _) ?_
      rw [cT (by omega)]
      exact gx s _ hne (by omega) F 0 0 (by omega) (by omega) (by omega)
    · rw [cT (by omega)]
      exact gx s _ hne (by omega) F 0 0 (by omega) (by omega) (by omega)
  · have hc : ((decide (0 < (s.length : Int))) && (decide ((s.length : Int) < 19))) = false := by
      by_cases h0 : 0 < s.length
      · rw [decide_eq_false (show ¬ ((s.length : Int) < 19) by omega), Bool.and_false]
      · rw [decide_eq_false (show ¬ (0 < (s.length : Int)) by omega)]; rfl
    rw [hc, cfl]
    obtain ⟨x, k, e, hk⟩ := int_tot F s hs hF
    rw [e, cC]
    exact ⟨x, k, rfl, hk⟩
theorem jK (F : Nat) (s : Bs) (hs : s.length ≤ 1000) (hF : s.length < F) : ∃ x k, cd F s = some (x, k) := by
  unfold cd
  obtain ⟨x, k, e, hk⟩ := atoi_tot F s hs hF
  rw [e, cC]
  by_cases h0 : k = 0
  · subst h0; exact ⟨x, 0, by rw [decide_eq_true rfl, ntr, cfl]⟩
  · refine ⟨x, 1, ?_⟩
    rw [decide_eq_false h0, nfl, ctr, grd_S (by omega), grd_D (by omega)]
theorem mQ (c : UInt8) (h : Dig c) : (c - 48).toNat = c.toNat - 48 := by
  have : ∀ k : Fin 256, (48 ≤ k.val ∧ k.val ≤ 57) → (UInt8.ofNat k.val - 48).toNat = k.val - 48 := by decide +kernel
  have h1 := this ⟨c.toNat, c.toNat_lt⟩ h
  simpa using h1
theorem nN (a : Bs) (s : Bs) (hs : s.length ≤ 18) (hd : ∀ c ∈ s, Dig c) : ∀ (n i v : Nat), s.length - i < n → i ≤ s.length → v < 10 ^ i → cI a s n ((v : Int), (i : Int)) = de a ((val v (s.drop i) : Nat) : Int) := by
  intro n
  induction n with
  | zero => intro i v h; omega
  | succ n ih =>
    intro i v hn hi hv;show cJ a s (cI a s n) (v : Int) (i : Int) = _
    unfold cJ
    by_cases h : i < s.length
    · have hv17 : v < 10 ^ 17 := Nat.lt_of_lt_of_le hv (Nat.pow_le_pow_right (by omega) (by omega))
      have hdr : s.drop i = s[i] :: s.drop (i + 1) := bL h
      have hc := hd _ (List.getElem_mem h)
      have hsub := mQ _ hc
      obtain ⟨hc1, hc2⟩ := hc
      rw [bT (by omega), bX (by omega), bk, gW h]
      have e1 : ((v : Int) * 10) + ((s[i] - 48).toNat : Int) = ((10 * v + (s[i].toNat - 48) : Nat) : Int) := by rw [hsub]; omega
      have e2 : ((i : Int) + 1) = ((i + 1 : Nat) : Int) := by omega
      rw [bF (by rw [hsub]; omega), da (by omega), da (by omega), da (by omega), e1, e2, ih (i + 1) _ (by omega) (by omega) (by rw [Nat.pow_succ]; omega), hdr]
      rfl
    · rw [bF (by omega), bE (by omega)]; rfl
theorem mT (F : Nat) (n : Nat) (hn : n ≤ 1073741824) (hF : 100 < F) : cd F (decDigits n) = some ((n : Int), 0) := by
  have hl : (decDigits n).length ≤ 11 := li 10 n (by omega)
  have hp := jN n
  have hd := jn n
  have h0 : at_ (decDigits n) 0 = (decDigits n)[0] := at_zero (by omega)
  have hd0 := hd _ (List.getElem_mem (show 0 < (decDigits n).length by omega))
  have n45 : (decDigits n)[0] ≠ 45 := fun e => by rw [e] at hd0; exact absurd hd0.1 (by decide)
  have n43 : (decDigits n)[0] ≠ 43 := fun e => by rw [e] at hd0; exact absurd hd0.1 (by decide)
  have hc : ((decide (0 < ((decDigits n).length : Int))) && (decide (((decDigits n).length : Int) < 19))) = true := by
    rw [decide_eq_true (by omega), decide_eq_true (by omega)]; rfl
  have hg : ∀ (c : Bool) (x : Option (Int × Int)), ej c (cr 0 (decDigits n).length) x = x := fun c x => jm fun _ => by omega
  have e : eu F (decDigits n) = some ((n : Int), 0) := by
    unfold eu dd
    rw [hc, ctr, bX (by omega), bk, hg, bk, h0, decide_eq_false n45, decide_eq_false n43, fo, cfl, cT (by omega)]
    have := nN (decDigits n) (decDigits n) (by omega) hd F 0 0 (by omega) (by omega) (by omega)
    refine Eq.trans this ?_
    rw [List.drop_zero, kS]
    unfold de df
    rw [bX (by omega), bk, h0, decide_eq_false n45, cfl]
  unfold cd
  rw [e, cC, decide_eq_true rfl, ntr, cfl]
end Go.Dg
namespace Go.Rp
open Go.Pv Go.Av
abbrev Bs := List UInt8
theorem lC (s : Bs) (c : UInt8) : -1 ≤ Go.Lib.indexByte s c ∧ Go.Lib.indexByte s c < s.length := by
  induction s with
  | nil => simp [Go.Lib.indexByte]
  | cons b r ih =>
    unfold Go.Lib.indexByte
    split
    · first | (simp; done) | (simp; omega)
    · split
      · first | (simp; done) | (simp; omega)
      · rename_i h
        have h' : ¬ Go.Lib.indexByte r c = -1 := by simpa using h
        simp; omega
theorem getD_at (s : Bs) (k : Nat) (h : k < s.length) : (⟨s.toArray⟩ : ByteArray).get! k = s[k] := by
  show (s.toArray)[k]! = _
  simp [h]
def crlf (b : UInt8) : Bool := decide (b = 13) || decide (b = 10)
end Go.Rp
namespace Go.Rp
open Go.Pv Go.Av
open Go.Lib (decDigits)
open Go.Dg (val cY ep jn jN li kS Dig mQ ew fc jK mT cfl ctr gm hZ fo nfl ntr)
def dgB (c : UInt8) : Bool := decide (48 ≤ c.toNat) && decide (c.toNat ≤ 57)
theorem kR {c : UInt8} (h : dgB c = true) : Dig c := by
  unfold dgB at h
  show 48 ≤ c.toNat ∧ c.toNat ≤ 57
  simpa using h
theorem dgB_of {c : UInt8} (h : Dig c) : dgB c = true := by
  unfold dgB
  rw [decide_eq_true h.1, decide_eq_true h.2]; rfl
def okN (s : Bs) : Bool := ((decide (1 ≤ s.length) && decide (s.length ≤ 3)) && s.all dgB) && !(decide (s.head? = some 48) && decide (1 < s.length))
def eM (s : Bs) : Option Nat := if okN s = true then some (val 0 s) else none
theorem fe (c : UInt8) (h : Dig c) (n : Nat) (hn : n = c.toNat - 48) : UInt8.ofNat (48 + n) = c := by
  obtain ⟨h1, h2⟩ := h;subst hn
  rw [show 48 + (c.toNat - 48) = c.toNat by omega, UInt8.ofNat_toNat]
theorem dd2 {n : Nat} (h : 10 ≤ n) (h2 : n < 100) : decDigits n = [UInt8.ofNat (48 + n / 10), UInt8.ofNat (48 + n % 10)] := by
  rw [ep (by omega), cY (by omega)]; rfl
theorem dd3 {n : Nat} (h : 100 ≤ n) (h2 : n < 1000) : decDigits n = [UInt8.ofNat (48 + n / 10 / 10), UInt8.ofNat (48 + n / 10 % 10), UInt8.ofNat (48 + n % 10)] := by
  rw [ep (by omega), dd2 (by omega) (by omega)]; rfl
theorem dd_lt {n : Nat} (h : (decDigits n).length ≤ 3) : n < 1000 := by
  by_cases h1 : n < 1000
  · exact h1
  · rw [ep (by omega), ep (n := n / 10) (by omega), ep (n := n / 10 / 10) (by omega)] at h
    have := jN (n / 10 / 10 / 10)
    simp only [List.length_append, List.length_cons, List.length_nil] at h
    omega
theorem num_dd {s : Bs} {n : Nat} (h : eM s = some n) : s = decDigits n ∧ n < 1000 := by
  unfold eM at h
  by_cases hk : okN s = true
  · rw [if_pos hk] at h
    have hn : val 0 s = n := ak h
    unfold okN at hk
    simp only [Bool.and_eq_true, decide_eq_true_eq, Bool.not_eq_true', Bool.and_eq_false_iff, decide_eq_false_iff_not] at hk
    obtain ⟨⟨⟨h1, h2⟩, h3⟩, h4⟩ := hk
    match s, h1, h2, h3, h4, hn with
    | [a], _, _, h3, h4, hn =>
      have ha := kR (List.all_eq_true.1 h3 a (by simp))
      have hv : val 0 [a] = a.toNat - 48 := by show 10 * 0 + (a.toNat - 48) = _; omega
      have ha' := ha; obtain ⟨ha1, ha2⟩ := ha'
      refine ⟨?_, by omega⟩
      rw [← hn, hv, cY (by omega), fe a ha _ rfl]
    | [a, b], _, _, h3, h4, hn =>
      have ha := kR (List.all_eq_true.1 h3 a (by simp))
      have hb := kR (List.all_eq_true.1 h3 b (by simp))
      have hv : val 0 [a, b] = 10 * (a.toNat - 48) + (b.toNat - 48) := by show 10 * (10 * 0 + (a.toNat - 48)) + (b.toNat - 48) = _; omega
      have ha' := ha; obtain ⟨ha1, ha2⟩ := ha'
      have hb' := hb; obtain ⟨hb1, hb2⟩ := hb'
      have hne : a.toNat ≠ 48 := by
        intro e
        have : a = 48 := UInt8.toNat.inj e
        rcases h4 with h4 | h4
        · exact h4 (by rw [this]; rfl)
        · exact h4 (by simp)
      refine ⟨?_, by omega⟩
      rw [← hn, hv, dd2 (by omega) (by omega), fe a ha _ (by omega), fe b hb _ (by omega)]
    | [a, b, c], _, _, h3, h4, hn =>
      have ha := kR (List.all_eq_true.1 h3 a (by simp))
      have hb := kR (List.all_eq_true.1 h3 b (by simp))
      have hc := kR (List.all_eq_true.1 h3 c (by simp))
      have hv : val 0 [a, b, c] = 100 * (a.toNat - 48) + 10 * (b.toNat - 48) + (c.toNat - 48) := by show 10 * (10 * (10 * 0 + (a.toNat - 48)) + (b.toNat - 48)) + (c.toNat - 48) = _; omega
      have ha' := ha; obtain ⟨ha1, ha2⟩ := ha'
      have hb' := hb; obtain ⟨hb1, hb2⟩ := hb'
      have hc' := hc; obtain ⟨hc1, hc2⟩ := hc'
      have hne : a.toNat ≠ 48 := by
        intro e
        have : a = 48 := UInt8.toNat.inj e
        rcases h4 with h4 | h4
        · exact h4 (by rw [this]; rfl)
        · exact h4 (by simp)
      refine ⟨?_, by omega⟩
      rw [← hn, hv, dd3 (by omega) (by omega), fe a ha _ (by omega), fe b hb _ (by omega), fe c hc _ (by omega)]
    | [], h1, _, _, _, _ => simp at h1
    | a :: b :: c :: d :: r, _, h2, _, _, _ => simp at h2
  · rw [if_neg hk] at h; cases h
theorem dd_head {n : Nat} (h : n < 1000) : ¬ ((decDigits n).head? = some 48 ∧ 1 < (decDigits n).length) := by
  rintro ⟨h1, h2⟩
  by_cases h10 : n < 10
  · rw [cY h10] at h2; simp at h2
  · have key : ∀ k, k < 10 → 1 ≤ k → UInt8.ofNat (48 + k) ≠ 48 := by
      intro k hk h1 e
      have := congrArg UInt8.toNat e
      rw [ew k hk] at this
      have e48 : (48 : UInt8).toNat = 48 := rfl
      omega
    by_cases h100 : n < 100
    · rw [dd2 (by omega) h100] at h1
      exact key (n / 10) (by omega) (by omega) (ak h1)
    · rw [dd3 (by omega) h] at h1
      exact key (n / 10 / 10) (by omega) (by omega) (ak h1)
theorem dd_num {n : Nat} (h : n < 1000) : eM (decDigits n) = some n := by
  have h3 : (decDigits n).length ≤ 3 := by
    by_cases h10 : n < 10
    · rw [cY h10]; simp
    · by_cases h100 : n < 100
      · rw [dd2 (by omega) h100]; simp
      · rw [dd3 (by omega) h]; simp
  have hk : okN (decDigits n) = true := by
    unfold okN
    rw [decide_eq_true (jN n), decide_eq_true h3, List.all_eq_true.2 fun c hc => dgB_of (jn n c hc)]
    have := dd_head h
    by_cases g : (decDigits n).head? = some 48
    · rw [decide_eq_false (p := 1 < (decDigits n).length) fun q => this ⟨g, q⟩, Bool.and_false]; rfl
    · rw [decide_eq_false g]; rfl
  unfold eM
  rw [if_pos hk, kS]
def jS (o : Option (Int × Int)) : Prop := ∃ x k, o = some (x, k) ∧ -9223372036854775808 ≤ x ∧ x ≤ 9223372036854775807
theorem iu {c : Bool} {a b : Option (Int × Int)} (ha : jS a) (hb : jS b) : jS (bif c then a else b) := by cases c <;> assumption
theorem iP (a s : Bs) (ha : a ≠ []) (hs : s.length ≤ 18) : ∀ (n i v : Nat), s.length - i < n → i ≤ s.length → v < 10 ^ i → jS (cI a s n ((v : Int), (i : Int))) := by
  intro n
  induction n with
  | zero => intro i v h; omega
  | succ n ih =>
    intro i v hn hi hv;show jS (cJ a s (cI a s n) (v : Int) (i : Int))
    unfold cJ
    have hv18 : v < 10 ^ 18 := Nat.lt_of_lt_of_le hv (Nat.pow_le_pow_right (by omega) (by omega))
    by_cases h : i < s.length
    · have hv17 : v < 10 ^ 17 := Nat.lt_of_lt_of_le hv (Nat.pow_le_pow_right (by omega) (by omega))
      rw [bT (by omega), bX (by omega), bk]
      obtain ⟨c, hc⟩ : ∃ c, c = at_ s (i : Int) := ⟨_, rfl⟩
      rw [← hc]
      by_cases h9 : 9 < (c - 48).toNat
      · rw [bT (by omega)]; exact ⟨0, 2, rfl, by omega, by omega⟩
      · have e1 : ((v : Int) * 10) + ((c - 48).toNat : Int) = ((v * 10 + (c - 48).toNat : Nat) : Int) := by omega
        have e2 : ((i : Int) + 1) = ((i + 1 : Nat) : Int) := by omega
        rw [bF (by omega), da (by omega), da (by omega), da (by omega), e1, e2]
        refine ih (i + 1) _ (by omega) (by omega) ?_
        rw [Nat.pow_succ]; omega
    · rw [bF (by omega)]
      unfold de df
      have hp : 0 < a.length := List.length_pos_iff.2 ha
      rw [bX (by omega), bk]
      refine iu ?_ ⟨_, 0, rfl, by omega, by omega⟩
      rw [da (by omega)]; exact ⟨_, 0, rfl, by omega, by omega⟩
theorem atoi_b (F : Nat) (s : Bs) (hs : s.length ≤ 3) (hF : 10 < F) : jS (cd F s) := by
  have key : jS (eu F s) := by
    unfold eu dd dP
    by_cases h : 0 < s.length
    · have hc : ((decide (0 < (s.length : Int))) && (decide ((s.length : Int) < 19))) = true := by
        rw [decide_eq_true (by omega), decide_eq_true (by omega)]; rfl
      have hne : s ≠ [] := List.length_pos_iff.1 h
      have hf : (dh s 1).length ≤ s.length := by unfold dh; simp
      rw [hc, ctr, bX (by omega), bk]
      have hg : ∀ (c : Bool) (x : Option (Int × Int)), ej c (cr 0 s.length) x = x := fun c x => jm fun _ => by omega
      rw [hg, bk]
      refine iu ?_ ?_
      · rw [eo (by omega), bk]
        refine iu ⟨0, 2, rfl, by omega, by omega⟩ ?_
        rw [cT (by omega)]
        exact iP s _ hne (by omega) F 0 0 (by omega) (by omega) (by omega)
      · rw [cT (by omega)]
        exact iP s _ hne (by omega) F 0 0 (by omega) (by omega) (by omega)
    · have e : s = [] := List.eq_nil_of_length_eq_zero (by omega)
      subst e;exact ⟨0, 2, rfl, by omega, by omega⟩
  obtain ⟨x, k, e, h1, h2⟩ := key;obtain ⟨x2, k2, e2⟩ := jK F s (by omega) (by omega);refine ⟨x2, k2, e2, ?_⟩
  unfold cd at e2
  rw [e, cC] at e2
  have : x2 = x := by
    by_cases h0 : k = 0
    · subst h0; rw [decide_eq_true rfl, ntr, cfl] at e2; cases e2; rfl
    · rw [decide_eq_false h0, nfl, ctr] at e2
      obtain ⟨_, e2⟩ := aL e2;obtain ⟨_, e2⟩ := aL e2
      cases e2; rfl
  rw [this]; exact ⟨h1, h2⟩
theorem gb (F : Nat) (s : Bs) (hs : s.length ≤ 1000) (hF : 2000 < F) : ∃ x : Int, dQ F s = some (x, (eM s).isSome) ∧ ∀ n, eM s = some n → x = n := by
  obtain ⟨x, k, e⟩ := jK F s hs (by omega)
  have hdd : ∀ n, eM s = some n → x = (n : Int) ∧ k = 0 ∧ s.length ≤ 3 ∧ s = decDigits n := by
    intro n hn;obtain ⟨h1, h2⟩ := num_dd hn
    have h3 : s.length ≤ 3 := by
      unfold eM at hn
      by_cases hk : okN s = true
      · unfold okN at hk
        simp only [Bool.and_eq_true, decide_eq_true_eq] at hk
        exact hk.1.1.2
      · rw [if_neg hk] at hn; cases hn
    have := mT F n (by omega) (by omega)
    rw [← h1, e] at this
    cases this
    exact ⟨rfl, rfl, h3, h1⟩
  unfold dQ
  rw [e, cC]
  by_cases hc : k = 0 ∧ s.length ≤ 3
  · obtain ⟨rfl, h3⟩ := hc
    obtain ⟨x', k', e', hb⟩ := atoi_b F s h3 (by omega)
    rw [e] at e'; cases e'
    have hcc : ((decide ((0 : Int) = 0)) && (decide ((s.length : Int) ≤ 3))) = true := by
      rw [decide_eq_true (by omega : (s.length : Int) ≤ 3)]; rfl
    rw [hcc, mH, da hb, bk]
    refine ⟨x, ?_, fun n hn => (hdd n hn).1⟩
    congr 2
    cases hn : eM s with
    | some n =>
      obtain ⟨h1, _, _, h4⟩ := hdd n hn
      rw [h1, fc, decide_eq_true h4.symm, decide_eq_true (Int.natCast_nonneg n)]; rfl
    | none =>
      by_cases h0 : 0 ≤ x
      · have h1 : ¬ Go.Lib.itoa x = s := by
          intro g
          have e2 : x = ((x.toNat : Nat) : Int) := by omega
          rw [e2, fc] at g
          rw [← g, dd_num (dd_lt (by rw [g]; exact h3))] at hn
          cases hn
        rw [decide_eq_false h1]; rfl
      · rw [decide_eq_false h0, Bool.and_false]; rfl
  · have hcc : ((decide (k = 0)) && (decide ((s.length : Int) ≤ 3))) = false := by
      by_cases h0 : k = 0
      · rw [decide_eq_false (p := (s.length : Int) ≤ 3) (by omega), Bool.and_false]
      · rw [decide_eq_false h0]; rfl
    rw [hcc, jL, bk]
    refine ⟨x, ?_, fun n hn => (hdd n hn).1⟩
    congr 2
    cases hn : eM s with
    | some n => obtain ⟨_, h2, h3, _⟩ := hdd n hn; exact absurd ⟨h2, h3⟩ hc
    | none => rfl
end Go.Rp
namespace Go.Rp
open Go.Pv Go.Av
def sp (c : UInt8) : Bs → List Bs
  | [] => [[]]
  | b :: r => if b = c then [] :: sp c r else match sp c r with
    | [] => [[b]]
    | p :: ps => (b :: p) :: ps
theorem sp_ne (c : UInt8) (s : Bs) : sp c s ≠ [] := by
  cases s with
  | nil => simp [sp]
  | cons b r => unfold sp; split; simp; split <;> simp
theorem ez (b c : UInt8) (l : Bs) : Go.Lib.index (b :: l) [c] = if b = c then 0 else if Go.Lib.index l [c] = -1 then -1 else Go.Lib.index l [c] + 1 := by
  by_cases h : b = c
  · subst h; simp [Go.Lib.index]
  · simp [Go.Lib.index, h, Ne.symm h]
def prep (cur : Bs) : List Bs → List Bs
  | [] => [cur]
  | p :: ps => (cur ++ p) :: ps
theorem gE {b c : UInt8} (h : ¬ b = c) (r : Bs) : sp c (b :: r) = prep [b] (sp c r) := by
  simp only [sp, h, if_false]
  cases sp c r <;> rfl
theorem gG (c : UInt8) (r : Bs) : sp c (c :: r) = [] :: sp c r := by simp [sp]
theorem km (c : UInt8) : ∀ (s : Bs), Go.Lib.splitK [c] 0 (s.count c) s = sp c s
  | [] => rfl
  | b :: l => by
    have ih := km c l
    have hi := ez b c l
    have hge := Go.Lib.index_ge l [c]
    by_cases h : b = c
    · subst h
      rw [List.count_cons_self, gG, Go.Lib.splitK, hi]
      simp [ih]
    · rw [List.count_cons_of_ne h, gE h, ← ih]
      cases hk : l.count c with
      | zero => simp [Go.Lib.splitK, prep]
      | succ k =>
        rw [Go.Lib.splitK, Go.Lib.splitK, hi]
        simp only [h, if_false]
        by_cases hm : Go.Lib.index l [c] = -1
        · simp [hm, prep]
        · obtain ⟨j, hj⟩ := Int.eq_ofNat_of_zero_le (show 0 ≤ Go.Lib.index l [c] by omega)
          have h2 : ¬ (Go.Lib.index l [c] + 1 = -1) := by omega
          have h3 : (Go.Lib.index l [c] + 1).toNat = j + 1 := by omega
          have h4 : (Go.Lib.index l [c]).toNat = j := by omega
          simp [hm, h2, h3, h4, prep]
theorem nc (s : Bs) (c : UInt8) : Go.Lib.split s [c] = sp c s := by
  unfold Go.Lib.split
  rw [Go.Lib.count_one, km]
end Go.Rp
namespace Go.Rp
open Go.Pv Go.Av
open Go.Lib (decDigits)
open Go.Dg (fc cfl ctr gm hZ fo nfl ntr)
abbrev M3 := Int × Int × Int
def more3 (c : Int) : List Bs → M3
  | [a, b, d] => if c / 100 = 3 then (0, 0, 0) else match eM a, eM b, eM d with
    | some x, some y, some z => if (x : Int) = c / 100 then ((x : Int), (y : Int), (z : Int)) else (0, 0, 0)
    | _, _, _ => (0, 0, 0)
  | _ => (0, 0, 0)
theorem lx (c : Int) (a b d : Bs) : more3 c [a, b, d] = if c / 100 = 3 then (0, 0, 0) else match eM a, eM b, eM d with
    | some x, some y, some z => if (x : Int) = c / 100 then ((x : Int), (y : Int), (z : Int)) else (0, 0, 0)
    | _, _, _ => (0, 0, 0) := rfl
def fM (c : Int) (s : Bs) : M3 := more3 c (sp 46 ((sp 32 s).headD []))
theorem jJ : ∀ s : Bs, (Go.Lib.cut s [32]).1 = (sp 32 s).headD []
  | [] => rfl
  | b :: r => by
    have ih := jJ r
    by_cases h : b = 32
    · subst h
      rw [gG]
      unfold Go.Lib.cut
      rw [ez, if_pos rfl]
      rfl
    · rw [gE h]
      cases hs : sp 32 r with
      | nil => exact absurd hs (sp_ne 32 r)
      | cons p ps =>
        rw [hs] at ih
        show (Go.Lib.cut (b :: r) [32]).1 = b :: p
        have ih' : (Go.Lib.cut r [32]).1 = p := ih
        rw [← ih']
        unfold Go.Lib.cut
        rw [ez, if_neg h]
        by_cases hn : Go.Lib.index r [32] = -1
        · rw [if_pos hn, if_neg (by omega), if_neg (by rw [hn]; omega)]
        · rw [if_neg hn]
          by_cases h0 : 0 ≤ Go.Lib.index r [32]
          · rw [if_pos (by omega), if_pos h0, show (Go.Lib.index r [32] + 1).toNat = (Go.Lib.index r [32]).toNat + 1 by omega]; rfl
          · have : Go.Lib.index r [32] = -1 := by
              have := Go.Lib.index_one r 32
              have h2 := Go.Lib.indexByte_ge r 32
              omega
            exact absurd this hn
theorem head_len (s : Bs) : ((sp 32 s).headD []).length ≤ s.length := by
  rw [← jJ]
  unfold Go.Lib.cut
  split <;> simp
  exact Nat.min_le_right _ _
theorem ji (c : UInt8) : ∀ s : Bs, ∀ w ∈ sp c s, w.length ≤ s.length
  | [], w, h => by
    have : w = [] := by simpa [sp] using h
    rw [this]; simp
  | b :: r, w, h => by
    by_cases hb : b = c
    · subst hb
      rw [gG] at h
      rcases List.mem_cons.1 h with rfl | h
      · simp
      · have := ji b r w h; simp; omega
    · rw [gE hb] at h
      cases hs : sp c r with
      | nil => exact absurd hs (sp_ne c r)
      | cons p ps =>
        rw [hs] at h
        rcases List.mem_cons.1 h with rfl | h
        · have := ji c r p (by rw [hs]; simp)
          simp; omega
        · have := ji c r w (by rw [hs]; simp [h])
          simp; omega
theorem more_eq (F : Nat) (hF : 2000 < F) (c : Nat) (s : Bs) (hs : s.length ≤ 900) : fa F (c : Int) s = some (fM (c : Int) s) ∨ 1000000 < c := by
  by_cases hc : 1000000 < c
  · exact .inr hc
  refine .inl ?_
  have hl := head_len s
  unfold fa fM
  rw [grd_S (by omega), bk, jJ, grd_S (by omega), grd_D (by decide), bk, nc]
  generalize hw : sp 46 ((sp 32 s).headD []) = w
  have hlens : ∀ x ∈ w, x.length ≤ 1000 := fun x hx => by
    have := ji 46 ((sp 32 s).headD []) x (by rw [hw]; exact hx)
    omega
  have hg : ∀ (b : Bool) (x : Option M3), ej b (jQ (c : Int) 100) x = x := by
    intro b x
    cases b
    · exact jL
    · rw [mH, mP (by omega)]
  rw [hg]
  match w, hlens with
  | [], _ => rfl
  | [a], _ => rfl
  | [a, b], _ => rfl
  | a :: b :: d :: e :: r, _ =>
    have : decide (((a :: b :: d :: e :: r).length : Int) = 3) = false := decide_eq_false (by simp; omega)
    rw [this, nfl, Bool.true_or, ctr]; rfl
  | [a, b, d], hlens =>
    have e3 : decide ((([a, b, d] : List Bs).length : Int) = 3) = true := rfl
    rw [e3, ntr, fo]
    rw [lx]
    by_cases h3 : (c : Int) / 100 = 3
    · rw [bT h3, if_pos h3]
    · rw [bF h3, if_neg h3]
      obtain ⟨xa, ea, ha⟩ := gb F a (hlens a (by simp)) hF;obtain ⟨xb, eb, hb⟩ := gb F b (hlens b (by simp)) hF;obtain ⟨xd, ed, hd⟩ := gb F d (hlens d (by simp)) hF;obtain ⟨G, hG⟩ : ∃ G, F = G + 4 := ⟨F - 4, by omega⟩
      have step : ∀ (n : Nat) (i : Int) (u v w : Int), cg F (c : Int) [a, b, d] (n + 1) (i, u, v, w) = cF F (c : Int) [a, b, d] (cg F (c : Int) [a, b, d] n) i u v w := fun _ _ _ _ _ => rfl
      have lF : ∀ x, cg F (c : Int) [a, b, d] F x = cg F (c : Int) [a, b, d] (G + 3 + 1) x := fun x => by rw [hG]
      rw [lF, step]
      unfold cF
      have a0 : at_ [a, b, d] 0 = a := rfl
      have a1 : at_ [a, b, d] (0 + 1) = b := rfl
      have a2 : at_ [a, b, d] (0 + 1 + 1) = d := rfl
      rw [bT (by simp), bX (by simp), bk, a0, ea, cC]
      cases hna : eM a with
      | none => rfl
      | some x =>
        rw [show (some x).isSome = true from rfl, ntr, cfl, bX (by simp), bX (by simp), bk, da (by omega), ha x hna]
        show cg F (c : Int) [a, b, d] (G + 2 + 1) (0 + 1, (x : Int), 0, 0) = _
        rw [step]
        unfold cF
        rw [bT (by simp), bX (by simp), bk, a1, eb, cC]
        cases hnb : eM b with
        | none => rfl
        | some y =>
          rw [show (some y).isSome = true from rfl, ntr, cfl, bX (by simp), bX (by simp), bk, da (by omega), hb y hnb]
          show cg F (c : Int) [a, b, d] (G + 1 + 1) (0 + 1 + 1, (x : Int), (y : Int), 0) = _
          rw [step]
          unfold cF
          rw [bT (by simp), bX (by simp), bk, a2, ed, cC]
          cases hnd : eM d with
          | none => rfl
          | some z =>
            rw [show (some z).isSome = true from rfl, ntr, cfl, bX (by simp), bX (by simp), bk, da (by omega), hd z hnd]
            show cg F (c : Int) [a, b, d] (G + 1) (0 + 1 + 1 + 1, (x : Int), (y : Int), (z : Int)) = _
            rw [step]
            unfold cF dW dx
            rw [bF (by simp), mP (by omega)]
            by_cases hx : (x : Int) = (c : Int) / 100
            · rw [bT hx]; simp only [if_pos hx]
            · rw [bF hx]; simp only [if_neg hx]
end Go.Rp
namespace Go.Rp
open Go.Pv Go.Av
open Go.Lib (decDigits)
open Go.Dg (fc cfl ctr gm hZ fo nfl ntr cY ep li)
def fitB (s : Bs) : Bool := !(s.any crlf) && decide (s.length ≤ 506)
def lst (ls : List Bs) : Bs := at_ ls ((ls.length : Int) - 1)
def mayB (c : Int) (ls : List Bs) (m : M3) : Bool := (((decide (200 ≤ c) && decide (c ≤ 599)) && (decide (1 ≤ ls.length) && decide (ls.length ≤ 100))) && ls.all fitB) && decide (m = fM c (lst ls))
theorem m3_eq (a b d x y z : Int) : ((a == x) && ((b == y) && ((d == z) && true))) = decide ((a, b, d) = (x, y, z)) := by
  by_cases h1 : a = x
  · by_cases h2 : b = y
    · by_cases h3 : d = z
      · subst h1; subst h2; subst h3; simp
      · simp [h3]
    · simp [h2]
  · simp [h1]
def lnW (d : Bs) (g : UInt8) (s : Bs) : Bs := d ++ g :: (s ++ [13, 10])
def wrL (d : Bs) : List Bs → Bs
  | [] => []
  | s :: r => lnW d (if r = [] then 32 else 45) s ++ wrL d r
def wrA (c : Int) (ls : List Bs) : Bs := wrL (decDigits c.toNat) ls
theorem may_s {c : Int} {ls : List Bs} {m : M3} (h : mayB c ls m = true) : (200 ≤ c ∧ c ≤ 599) ∧ (1 ≤ ls.length ∧ ls.length ≤ 100) ∧ (∀ s ∈ ls, fitB s = true) ∧ m = fM c (lst ls) := by
  unfold mayB at h
  simp only [Bool.and_eq_true, decide_eq_true_eq] at h
  exact ⟨h.1.1.1, h.1.1.2, fun s hs => List.all_eq_true.1 h.1.2 s hs, h.2⟩
end Go.Rp
namespace Go.Rp
open Go.Pv Go.Av
open Go.Lib (decDigits indexByte)
open Go.Dg (val Dig fc cfl ctr gm hZ fo nfl ntr cY ep li jn jN)
theorem jf (b : Bs) (c : UInt8) : -1 ≤ indexByte b c := Go.Lib.indexByte_ge b c
theorem ib_lt (b : Bs) (c : UInt8) : indexByte b c < b.length := (lC b c).2
theorem ib_app {b : Bs} {c : UInt8} (h : 0 ≤ indexByte b c) (r : Bs) : indexByte (b ++ r) c = indexByte b c := by
  induction b with
  | nil => exact absurd (show (0 : Int) ≤ -1 from h) (by decide)
  | cons a b ih =>
    have hg := jf b c
    unfold Go.Lib.indexByte at h
    show indexByte (a :: (b ++ r)) c = indexByte (a :: b) c
    unfold Go.Lib.indexByte
    by_cases e : (a == c) = true
    · rw [if_pos e, if_pos e]
    · rw [if_neg e] at h
      rw [if_neg e, if_neg e]
      by_cases e2 : indexByte b c = -1
      · rw [e2] at h; exact absurd h (by decide)
      · rw [ih (by omega)]
theorem kt {b : Bs} {c : UInt8} (h : indexByte b c = -1) (r : Bs) : indexByte (b ++ r) c = -1 ∨ (b.length : Int) ≤ indexByte (b ++ r) c := by
  induction b with
  | nil =>
    have hg := jf r c
    show indexByte r c = -1 ∨ (0 : Int) ≤ indexByte r c
    omega
  | cons a b ih =>
    unfold Go.Lib.indexByte at h
    show indexByte (a :: (b ++ r)) c = -1 ∨ ((a :: b).length : Int) ≤ indexByte (a :: (b ++ r)) c
    by_cases e : (a == c) = true
    · rw [if_pos e] at h; exact absurd h (by decide)
    · rw [if_neg e] at h
      have hb : indexByte b c = -1 := by
        by_cases e2 : indexByte b c = -1
        · exact e2
        · have hg := jf b c
          have e3 : (indexByte b c == -1) = false := by simpa using e2
          rw [e3] at h
          simp only [Bool.false_eq_true, if_false] at h
          omega
      unfold Go.Lib.indexByte
      rw [if_neg e]
      rcases ih hb with g | g
      · rw [g]; exact .inl rfl
      · have e3 : (indexByte (b ++ r) c == -1) = false := by
          have : ¬ indexByte (b ++ r) c = -1 := by omega
          simpa using this
        rw [e3]
        simp only [Bool.false_eq_true, if_false]
        right; simp; omega
theorem ib_at (p q : Bs) (c : UInt8) (h : ∀ b ∈ p, b ≠ c) : indexByte (p ++ c :: q) c = (p.length : Int) := by
  induction p with
  | nil => simp [Go.Lib.indexByte]
  | cons a p ih =>
    have e : ¬ (a == c) = true := by simpa using h a (by simp)
    have ih' := ih fun b hb => h b (by simp [hb])
    show indexByte (a :: (p ++ c :: q)) c = _
    unfold Go.Lib.indexByte
    rw [if_neg e, ih']
    have e3 : (((p.length : Nat) : Int) == -1) = false := by
      simp
    rw [e3]
    simp
theorem lX {b : Bs} {c : UInt8} {i : Nat} (h : indexByte b c = (i : Int)) : ∃ p q, b = p ++ c :: q ∧ p.length = i ∧ ∀ x ∈ p, x ≠ c := by
  induction b generalizing i with
  | nil => have : (-1 : Int) = (i : Int) := h; omega
  | cons a b ih =>
    unfold Go.Lib.indexByte at h
    by_cases e : (a == c) = true
    · rw [if_pos e] at h
      refine ⟨[], b, ?_, by simp only [List.length_nil]; omega, by simp⟩
      rw [show a = c by simpa using e]; rfl
    · rw [if_neg e] at h
      by_cases e2 : indexByte b c = -1
      · rw [e2] at h
        have : (-1 : Int) = (i : Int) := h
        omega
      · have e3 : (indexByte b c == -1) = false := by simpa using e2
        rw [e3] at h
        simp only [Bool.false_eq_true, if_false] at h
        have hg := jf b c
        obtain ⟨p, q, h1, h2, h3⟩ := ih (i := i - 1) (by omega);refine ⟨a :: p, q, by rw [h1]; rfl, by simp; omega, fun x hx => ?_⟩
        rcases List.mem_cons.1 hx with rfl | hx
        · intro e4; exact e (by simp [e4])
        · exact h3 x hx
inductive Ln | wait | bad | ok (s : Bs)
def eT (b : Bs) : Ln :=
  if indexByte b 10 < 0 then (if b.length < 512 then .wait else .bad)
  else if indexByte b 10 < 512 ∧ 0 < indexByte b 10 ∧ indexByte b 13 = indexByte b 10 - 1 then .ok (b.take (indexByte b 10 - 1).toNat) else .bad
theorem ln_ok {b s : Bs} (h : eT b = .ok s) : ∃ t, b = s ++ 13 :: 10 :: t ∧ (∀ x ∈ s, crlf x = false) ∧ s.length ≤ 510 := by
  unfold eT at h
  by_cases h0 : indexByte b 10 < 0
  · rw [if_pos h0] at h
    split at h <;> cases h
  · rw [if_neg h0] at h
    split at h
    · rename_i hc
      obtain ⟨h1, h2, h3⟩ := hc
      have hs : b.take (indexByte b 10 - 1).toNat = s := by injection h
      obtain ⟨p, q, e1, e2, e3⟩ := lX (b := b) (c := 10) (i := (indexByte b 10).toNat) (by omega);obtain ⟨p', q', g1, g2, g3⟩ := lX (b := b) (c := 13) (i := (indexByte b 10 - 1).toNat) (by omega)
      have hp' : p' = s := by rw [← hs, ← g2, g1, List.take_left' rfl]
      have hp : p = p' ++ [13] := by
        have a1 : b.take (indexByte b 10).toNat = p := by rw [← e2, e1, List.take_left' rfl]
        have a2 : b.take (indexByte b 10).toNat = p' ++ [13] := by
          have l : (indexByte b 10).toNat = (p' ++ [13]).length := by simp; omega
          rw [l, g1, show p' ++ 13 :: q' = (p' ++ [13]) ++ q' by simp, List.take_left' rfl]
        rw [← a1, a2]
      refine ⟨q, by rw [← hp', e1, hp]; simp, fun x hx => ?_, by rw [← hp']; omega⟩
      unfold crlf
      rw [← hp'] at hx
      rw [decide_eq_false (g3 x hx), decide_eq_false (e3 x (by rw [hp]; simp [hx]))]; rfl
    · cases h
theorem ln_of (s t : Bs) (h : ∀ x ∈ s, crlf x = false) (hl : s.length ≤ 510) : eT (s ++ 13 :: 10 :: t) = .ok s := by
  have h13 : ∀ x ∈ s, x ≠ 13 := fun x hx e => by have := h x hx; rw [e] at this; revert this; decide
  have h10 : ∀ x ∈ s ++ [13], x ≠ 10 := fun x hx e => by
    rcases List.mem_append.1 hx with hx | hx
    · have := h x hx; rw [e] at this; revert this; decide
    · rw [List.mem_singleton.1 hx] at e; revert e; decide
  have e1 := ib_at s (10 :: t) 13 h13
  have e2 := ib_at (s ++ [13]) t 10 h10
  rw [show (s ++ [13]) ++ 10 :: t = s ++ 13 :: 10 :: t by simp] at e2
  have e2' : indexByte (s ++ 13 :: 10 :: t) 10 = (s.length : Int) + 1 := by rw [e2]; simp
  unfold eT
  rw [e1, e2', if_neg (by omega), if_pos (by omega), show ((s.length : Int) + 1 - 1).toNat = s.length by omega, List.take_left']
  rfl
theorem kr {b s : Bs} (h : eT b = .ok s) (r : Bs) : eT (b ++ r) = .ok s := by
  obtain ⟨t, rfl, h1, h2⟩ := ln_ok h
  rw [show (s ++ 13 :: 10 :: t) ++ r = s ++ 13 :: 10 :: (t ++ r) by simp]
  exact ln_of s _ h1 h2
theorem jB {b : Bs} (h : eT b = .bad) (r : Bs) : eT (b ++ r) = .bad := by
  have hl : (b ++ r).length = b.length + r.length := List.length_append
  unfold eT at h ⊢
  have g10 := jf b 10
  have g13 := jf b 13
  by_cases h0 : indexByte b 10 < 0
  · rw [if_pos h0] at h
    have hb : ¬ b.length < 512 := by
      intro g; rw [if_pos g] at h; cases h
    rcases kt (show indexByte b 10 = -1 by omega) r with g | g
    · rw [g, if_pos (by omega), if_neg (by omega)]
    · rw [if_neg (by omega), if_neg (by omega)]
  · rw [if_neg h0] at h
    have hb : ¬ (indexByte b 10 < 512 ∧ 0 < indexByte b 10 ∧ indexByte b 13 = indexByte b 10 - 1) := by
      intro g; rw [if_pos g] at h; cases h
    have hlt := ib_lt b 10
    rw [ib_app (by omega) r, if_neg h0]
    by_cases h13 : 0 ≤ indexByte b 13
    · rw [ib_app h13 r, if_neg hb]
    · rcases kt (show indexByte b 13 = -1 by omega) r with g | g
      · rw [g, if_neg (by omega)]
      · rw [if_neg (by omega)]
theorem mF {b s : Bs} (h : eT b = .ok s) : s.length + 2 ≤ b.length := by
  obtain ⟨t, rfl, _, _⟩ := ln_ok h
  simp
def fN (s : Bs) : Option Nat :=
  if 4 ≤ s.length ∧ (at_ s 3 = 45 ∨ at_ s 3 = 32) then
    match eM (s.take 3) with
    | some n => if 200 ≤ n ∧ n ≤ 599 then some n else none
    | none => none
  else none
theorem code_s {s : Bs} {n : Nat} (h : fN s = some n) : 4 ≤ s.length ∧ (at_ s 3 = 45 ∨ at_ s 3 = 32) ∧ (200 ≤ n ∧ n ≤ 599) ∧ eM (s.take 3) = some n := by
  unfold fN at h
  split at h
  · rename_i hc
    cases hn : eM (s.take 3) with
    | none => rw [hn] at h; cases h
    | some k =>
      rw [hn] at h
      simp only at h
      split at h
      · cases h; rename_i hk; exact ⟨hc.1, hc.2, hk, rfl⟩
      · cases h
  · cases h
abbrev Rp := Int × List Bs × M3
inductive One | wait | bad | ok (x : Rp) (n : Nat)
def fH : Nat → Int → List Bs → Nat → Bs → One
  | 0, _, _, _, b => match eT b with
    | .wait => .wait
    | _ => .bad
  | k + 1, c, ls, at', b => match eT b with
    | .wait => .wait
    | .bad => .bad
    | .ok s => match fN s with
      | none => .bad
      | some n => if ls ≠ [] ∧ (n : Int) ≠ c then .bad else
        if at_ s 3 = 32 then .ok ((n : Int), ls ++ [s.drop 4], fM (n : Int) (s.drop 4)) (at' + (s.length + 2))
        else fH k (n : Int) (ls ++ [s.drop 4]) (at' + (s.length + 2)) (b.drop (s.length + 2))
def one (b : Bs) : One := fH 100 0 [] 0 b
theorem lS (r : Bs) : ∀ (k : Nat) (c : Int) (ls : List Bs) (a : Nat) (b : Bs), fH k c ls a b ≠ .wait → fH k c ls a (b ++ r) = fH k c ls a b
  | 0, c, ls, a, b, h => by
    unfold fH at h ⊢
    cases hb : eT b with
    | wait => rw [hb] at h; exact absurd rfl h
    | bad => rw [jB hb r]
    | ok s => rw [kr hb r]
  | k + 1, c, ls, a, b, h => by
    unfold fH at h ⊢
    cases hb : eT b with
    | wait => rw [hb] at h; exact absurd rfl h
    | bad => rw [jB hb r]
    | ok s =>
      rw [hb] at h
      rw [kr hb r]
      simp only at h ⊢
      cases hc : fN s with
      | none => rfl
      | some n =>
        rw [hc] at h
        simp only at h ⊢
        by_cases h1 : ls ≠ [] ∧ (n : Int) ≠ c
        · rw [if_pos h1, if_pos h1]
        · rw [if_neg h1] at h
          rw [if_neg h1, if_neg h1]
          by_cases h2 : at_ s 3 = 32
          · rw [if_pos h2, if_pos h2]
          · rw [if_neg h2] at h
            rw [if_neg h2, if_neg h2, List.drop_append_of_le_length (mF hb)]
            exact lS r k _ _ _ _ h
theorem kX : ∀ (k : Nat) (c : Int) (ls : List Bs) (a : Nat) (b : Bs) (x : Rp) (n : Nat), fH k c ls a b = .ok x n →
    ∃ (d : Nat) (l2 : List Bs), x = ((d : Int), ls ++ l2, fM (d : Int) (lst l2)) ∧ l2 ≠ [] ∧ l2.length ≤ k ∧ (∀ s ∈ l2, fitB s = true) ∧ (200 ≤ d ∧ d ≤ 599) ∧ (ls ≠ [] → (d : Int) = c) ∧ a < n ∧ n ≤ a + b.length ∧ b.take (n - a) = wrL (decDigits d) l2
  | 0, c, ls, a, b, x, n, h => by
    unfold fH at h
    split at h <;> cases h
  | k + 1, c, ls, a, b, x, n, h => by
    unfold fH at h
    cases hb : eT b with
    | wait => rw [hb] at h; cases h
    | bad => rw [hb] at h; cases h
    | ok s =>
      rw [hb] at h
      simp only at h
      cases hc : fN s with
      | none => rw [hc] at h; cases h
      | some m =>
        rw [hc] at h
        simp only at h
        by_cases h1 : ls ≠ [] ∧ (m : Int) ≠ c
        · rw [if_pos h1] at h; cases h
        rw [if_neg h1] at h
        have hcode : ls ≠ [] → (m : Int) = c := fun g => by
          by_cases e : (m : Int) = c
          · exact e
          · exact absurd ⟨g, e⟩ h1
        obtain ⟨t, ht, hs, hl⟩ := ln_ok hb;obtain ⟨c1, c2, c3, c4⟩ := code_s hc;obtain ⟨d1, d2⟩ := num_dd c4
        have hlen := mF hb
        have hfit : fitB (s.drop 4) = true := by
          unfold fitB
          rw [decide_eq_true (p := (s.drop 4).length ≤ 506) (by simp; omega), Bool.and_true]
          have : (s.drop 4).any crlf = false := by
            rw [List.any_eq_false]
            intro y hy
            rw [hs y (List.mem_of_mem_drop hy)]; simp
          rw [this]; rfl
        have hsplit : s = decDigits m ++ at_ s 3 :: s.drop 4 := by
          have e3 : at_ s 3 = s[3] := gW (i := 3) (by omega)
          rw [← d1, e3]
          have := bL (l := s) (i := 3) (by omega)
          conv => lhs; rw [← List.take_append_drop 3 s, this]
        have hln : b.take (s.length + 2) = lnW (decDigits m) (at_ s 3) (s.drop 4) := by
          conv => lhs; rw [ht]
          rw [show s ++ 13 :: 10 :: t = (s ++ [13, 10]) ++ t by simp, show s.length + 2 = (s ++ [13, 10]).length by simp, List.take_left' rfl]
          unfold lnW
          conv => lhs; rw [hsplit]
          simp
        by_cases h2 : at_ s 3 = 32
        · rw [if_pos h2] at h
          injection h with hx hn
          subst hx; subst hn
          refine ⟨m, [s.drop 4], rfl, by simp, by simp, fun y hy => ?_, c3, hcode, by omega, by omega, ?_⟩
          · rw [List.mem_singleton.1 hy]; exact hfit
          · rw [show a + (s.length + 2) - a = s.length + 2 by omega, hln, h2]
            unfold wrL
            rw [if_pos rfl]; unfold wrL; simp
        · rw [if_neg h2] at h
          obtain ⟨d, l2, e1, e2, e3, e4, e5, e6, e7, e8, e9⟩ := kX k _ _ _ _ x n h
          have hd : (d : Int) = (m : Int) := e6 (by simp)
          have hdm : d = m := by omega
          subst hdm;refine ⟨d, s.drop 4 :: l2, ?_, by simp, by simp; omega, fun y hy => ?_, e5, hcode, by omega, by simp at e8; omega, ?_⟩
          · rw [e1]
            have : lst (s.drop 4 :: l2) = lst l2 := by
              have hp : 0 < l2.length := List.length_pos_iff.2 e2
              unfold lst
              rw [show (((s.drop 4 :: l2).length : Int) - 1) = ((l2.length - 1 + 1 : Nat) : Int) by simp; omega, show ((l2.length : Int) - 1) = ((l2.length - 1 : Nat) : Int) by omega, gW (by simp only [List.length_cons]; omega), gW (by omega)]
              rfl
            rw [this, List.append_assoc]; rfl
          · rcases List.mem_cons.1 hy with rfl | hy
            · exact hfit
            · exact e4 y hy
          · have g3 : at_ s 3 = 45 := by
              rcases c2 with g | g
              · exact g
              · exact absurd g h2
            have hle : s.length + 2 ≤ n - a := by omega
            have : b.take (n - a) = b.take (s.length + 2) ++ (b.drop (s.length + 2)).take (n - (a + (s.length + 2))) := by
              rw [show n - a = (s.length + 2) + (n - (a + (s.length + 2))) by omega, List.take_add]
            rw [this, e9, hln, g3]
            show _ = lnW (decDigits d) (if l2 = [] then 32 else 45) (s.drop 4) ++ wrL (decDigits d) l2
            rw [if_neg e2]
inductive All : Bs → List Rp → Nat → Bool → Prop
  | wait {b : Bs} : one b = .wait → All b [] 0 false
  | bad {b : Bs} : one b = .bad → All b [] 0 true
  | ok {b : Bs} {x : Rp} {n : Nat} {l : List Rp} {u : Nat} {bd : Bool} : one b = .ok x n → All (b.drop n) l u bd → All b (x :: l) (n + u) bd
theorem one_pos {b : Bs} {x : Rp} {n : Nat} (h : one b = .ok x n) : 0 < n ∧ n ≤ b.length := by
  obtain ⟨d, l2, _, _, _, _, _, _, h7, h8, _⟩ := kX 100 0 [] 0 b x n h
  omega
theorem All.ex : ∀ (m : Nat) (b : Bs), b.length < m → ∃ l u bd, All b l u bd
  | 0, b, h => by omega
  | m + 1, b, h => by
    cases hb : one b with
    | wait => exact ⟨_, _, _, .wait hb⟩
    | bad => exact ⟨_, _, _, .bad hb⟩
    | ok x n =>
      obtain ⟨h1, h2⟩ := one_pos hb;obtain ⟨l, u, bd, hh⟩ := All.ex m (b.drop n) (by simp; omega);exact ⟨_, _, _, .ok hb hh⟩
theorem All.uniq {b : Bs} {l l' : List Rp} {u u' : Nat} {bd bd' : Bool} (h : All b l u bd) (h' : All b l' u' bd') : l = l' ∧ u = u' ∧ bd = bd' := by
  induction h generalizing l' u' bd' with
  | wait e => cases h' with
    | wait e' => exact ⟨rfl, rfl, rfl⟩
    | bad e' => rw [e] at e'; cases e'
    | ok e' _ => rw [e] at e'; cases e'
  | bad e => cases h' with
    | wait e' => rw [e] at e'; cases e'
    | bad e' => exact ⟨rfl, rfl, rfl⟩
    | ok e' _ => rw [e] at e'; cases e'
  | ok e _ ih => cases h' with
    | wait e' => rw [e] at e'; cases e'
    | bad e' => rw [e] at e'; cases e'
    | ok e' h2 =>
      rw [e] at e'; cases e'
      obtain ⟨rfl, rfl, rfl⟩ := ih h2;exact ⟨rfl, rfl, rfl⟩
theorem All.le {b : Bs} {l : List Rp} {u : Nat} {bd : Bool} (h : All b l u bd) : u ≤ b.length ∧ l.length ≤ u := by
  induction h with
  | wait e => simp
  | bad e => simp
  | ok e _ ih =>
    have := one_pos e
    simp at ih ⊢
    omega
theorem kW {b : Bs} (r : Bs) (h : one b ≠ .wait) : one (b ++ r) = one b := lS r 100 0 [] 0 b h
theorem All.app {b : Bs} {l : List Rp} {u : Nat} (h : All b l u false) {c : Bs} {l' : List Rp} {u' : Nat} {bd' : Bool} (h' : All (b.drop u ++ c) l' u' bd') : All (b ++ c) (l ++ l') (u + u') bd' := by
  generalize hq : false = q at h
  induction h with
  | wait e => simpa using h'
  | bad e => cases hq
  | @ok b x n l u bd e hr ih =>
    have hp := one_pos e
    have h2 := ih (by rw [List.drop_drop]; exact h') hq
    have := All.ok (b := b ++ c) (x := x) (n := n) (l := l ++ l') (u := u + u') (bd := bd') (by rw [kW c (by rw [e]; intro g; cases g), e]) (by rw [List.drop_append_of_le_length hp.2]; exact h2)
    rw [Nat.add_assoc]
    exact this
theorem All.app_bad {b : Bs} {l : List Rp} {u : Nat} (h : All b l u true) (c : Bs) : All (b ++ c) l u true := by
  generalize hq : true = q at h
  induction h with
  | wait e => cases hq
  | bad e => exact .bad (by rw [kW c (by rw [e]; intro g; cases g), e])
  | @ok b x n l u bd e hr ih =>
    have hp := one_pos e
    exact .ok (by rw [kW c (by rw [e]; intro g; cases g), e]) (by rw [List.drop_append_of_le_length hp.2]; exact ih hq)
def wrX (x : Rp) : Bs := wrA x.1 x.2.1
def mayX (x : Rp) : Bool := mayB x.1 x.2.1 x.2.2
theorem ly (l : List Bs) : ([] : List Bs) ++ l = l := rfl
theorem one_may {b : Bs} {x : Rp} {n : Nat} (h : one b = .ok x n) : mayX x = true ∧ wrX x = b.take n := by
  obtain ⟨d, l2, h1, h2, h3, h4, h5, _, _, _, h9⟩ := kX 100 0 [] 0 b x n h;subst h1
  have hp : 1 ≤ l2.length := List.length_pos_iff.2 h2
  refine ⟨?_, ?_⟩
  · unfold mayX mayB
    simp only [Bool.and_eq_true, decide_eq_true_eq, ly]
    exact ⟨⟨⟨⟨by omega, by omega⟩, hp, h3⟩, List.all_eq_true.2 h4⟩, trivial⟩
  · rw [Nat.sub_zero] at h9
    rw [h9]; rfl
theorem All.may {b : Bs} {l : List Rp} {u : Nat} {bd : Bool} (h : All b l u bd) : (∀ x ∈ l, mayX x = true) ∧ (l.map wrX).flatten = b.take u := by
  induction h with
  | wait e => exact ⟨by simp, by simp⟩
  | bad e => exact ⟨by simp, by simp⟩
  | ok e _ ih =>
    obtain ⟨h1, h2⟩ := one_may e;refine ⟨fun y hy => ?_, ?_⟩
    · rcases List.mem_cons.1 hy with rfl | hy
      · exact h1
      · exact ih.1 y hy
    · rw [List.map_cons, List.flatten_cons, h2, ih.2, List.take_add]
theorem one_nil : one [] = .wait := rfl
end Go.Rp
namespace Go.Rp
open Go.Pv Go.Av
open Go.Lib (decDigits indexByte)
open Go.Dg (cfl ctr gm hZ fo nfl ntr)
theorem ir (F : Nat) (b : Bool) : cK F b = some (bif b then Res.ok () else Res.pan 0) := by cases b <;> rfl
theorem lW (F : Nat) (b : Bs) (c : UInt8) : cQ F b c = some (indexByte b c) := rfl
section
variable {σ : Type}
theorem mr (F : Nat) (k : σ → Bs → Option (σ × Option Bool)) (rec : (Bs × σ) → Option (σ × Bool × Bs)) (b : Bs) (st : σ) (hb : b.length ≤ 2000000) :
    cW F k rec b st = match eT b with
      | .wait => some (st, false, b)
      | .bad => some (st, true, [])
      | .ok s => bnd (k st s) fun x => bndo x.2 (some (x.1, true, [])) fun g => bif !g then some (x.1, false, b) else rec (b.drop (s.length + 2), x.1) := by
  have g10 := jf b 10
  have g13 := jf b 13
  have l10 := ib_lt b 10
  have l13 := ib_lt b 13
  unfold cW eT
  rw [lW, bZ, lW]
  simp only [ir]
  by_cases h0 : indexByte b 10 < 0
  · rw [bT h0, if_pos h0]
    by_cases hl : b.length < 512
    · rw [decide_eq_true (p := (b.length : Int) < 512) (by omega), if_pos hl]; rfl
    · rw [decide_eq_false (p := (b.length : Int) < 512) (by omega), if_neg hl]; rfl
  · rw [bF h0, if_neg h0]
    by_cases h1 : indexByte b 10 < 512 ∧ 0 < indexByte b 10
    · obtain ⟨h1, h2⟩ := h1
      rw [decide_eq_true h1, decide_eq_true h2, gm, jO, bZ, mH, da (by omega), gm]
      by_cases h3 : indexByte b 13 = indexByte b 10 - 1
      · rw [decide_eq_true h3, ctr, ld, da (by omega), eo (by omega), bk, if_pos ⟨h1, h2, h3⟩]
        have e1 : to_ b (indexByte b 10 - 1) = b.take (indexByte b 10 - 1).toNat := rfl
        have e2 : dh b (indexByte b 10 + 1) = b.drop ((b.take (indexByte b 10 - 1).toNat).length + 2) := by
          unfold dh
          congr 1
          rw [List.length_take]; omega
        have hI : -9223372036854775808 ≤ indexByte b 10 + 1 ∧ indexByte b 10 + 1 ≤ 9223372036854775807 := by omega
        have hT : 0 ≤ indexByte b 10 + 1 ∧ indexByte b 10 + 1 ≤ b.length := by omega
        rw [e1]
        simp only [da hI, eo hT, bk, e2]
      · rw [decide_eq_false h3, cfl, eH, if_neg (fun g => h3 g.2.2)]
    · have e : ((decide (indexByte b 10 < 512)) && (decide (0 < indexByte b 10))) = false := by
        by_cases q : indexByte b 10 < 512
        · rw [decide_eq_false (p := 0 < indexByte b 10) (fun r => h1 ⟨q, r⟩), Bool.and_false]
        · rw [decide_eq_false q]; rfl
      rw [e, bndc_f, jL, hZ, cfl, eH, if_neg (fun g => h1 ⟨g.1, g.2.1⟩)]
end
abbrev S5 := Int × Int × List Bs × List Rp × Int
def kk (F : Nat) (s : S5) (x : Bs) : Option (S5 × Option Bool) := dv F s.1 s.2.1 s.2.2.1 s.2.2.2.1 s.2.2.2.2 x
def lineR (a : Nat) (c : Int) (ls : List Bs) (l : List Rp) (u : Int) (s : Bs) : S5 × Option Bool :=
  match fN s with
  | none => (((a : Int), c, ls, l, u), none)
  | some n => if ls.length < 100 ∧ ¬ (ls ≠ [] ∧ (n : Int) ≠ c) then
      (if at_ s 3 = 32 then (((a + (s.length + 2) : Nat) : Int), 0, [], l ++ [((n : Int), ls ++ [s.drop 4], fM (n : Int) (s.drop 4))], ((a + (s.length + 2) : Nat) : Int))
       else (((a + (s.length + 2) : Nat) : Int), (n : Int), ls ++ [s.drop 4], l, u), some true)
    else (((a : Int), c, ls, l, u), none)
theorem kk_eq (F : Nat) (hF : 2000 < F) (a : Nat) (c : Int) (ls : List Bs) (l : List Rp) (u : Int) (s : Bs) (hs : s.length ≤ 510) (ha : a ≤ 2000000) (hls : ls.length ≤ 100) (hl : l.length ≤ 2000000) :
    kk F ((a : Int), c, ls, l, u) s = some (lineR a c ls l u s) := by
  unfold kk dv lineR fN
  simp only
  by_cases h4 : 4 ≤ s.length
  · have hd4 : decide ((4 : Int) ≤ (s.length : Int)) = true := decide_eq_true (by omega)
    have hg : ∀ (b : Bool) (x : Option (S5 × Option Bool)), ej b (cr 3 s.length) x = x := fun b x => jm fun _ => by omega
    rw [hd4, hg, bk, hg, bk, gm]
    simp only [ir]
    obtain ⟨g, hgd⟩ : ∃ g, g = at_ s 3 := ⟨_, rfl⟩
    rw [← hgd]
    by_cases hsg : g = 45 ∨ g = 32
    · have esg : ((decide (g = 45)) || (decide (g = 32))) = true := by
        rcases hsg with e | e <;> rw [e] <;> decide
      rw [if_pos ⟨h4, hsg⟩, esg, gm]
      by_cases h100 : ls.length < 100
      · rw [decide_eq_true (p := (ls.length : Int) < 100) (by omega), ctr, ld, eo (by omega), bk]
        have e3 : to_ s 3 = s.take 3 := rfl
        have e4 : dh s 4 = s.drop 4 := rfl
        obtain ⟨x, ex, hx⟩ := gb F (s.take 3) (by simp; omega) hF
        rw [e3, ex, cC]
        cases hn : eM (s.take 3) with
        | none => rfl
        | some n =>
          rw [hx n hn, show (some n).isSome = true from rfl, gm]
          simp only
          by_cases hr : 200 ≤ n ∧ n ≤ 599
          · rw [if_pos hr, decide_eq_true (p := (200 : Int) ≤ (n : Int)) (by omega), decide_eq_true (p := (n : Int) ≤ 599) (by omega), gm, gm]
            simp only
            by_cases hc : ls ≠ [] ∧ (n : Int) ≠ c
            · have e : ((decide ((ls.length : Int) = 0)) || (decide ((n : Int) = c))) = false := by
                rw [decide_eq_false hc.2, Bool.or_false]
                refine decide_eq_false fun g => hc.1 (List.length_eq_zero_iff.1 (by omega))
              rw [e, cfl, eH, if_neg (fun g => g.2 hc)]
            · have e : ((decide ((ls.length : Int) = 0)) || (decide ((n : Int) = c))) = true := by
                by_cases q : (n : Int) = c
                · rw [decide_eq_true q, Bool.or_true]
                · have : ls = [] := by
                    by_cases q2 : ls = []
                    · exact q2
                    · exact absurd ⟨q2, q⟩ hc
                  rw [this]; rfl
              rw [e, ctr, ld, eo (by omega), bk, e4, cT (by simp; omega), bk, if_pos ⟨h100, hc⟩]
              unfold eA
              have ea : (a : Int) + ((s.length : Int) + 2) = ((a + (s.length + 2) : Nat) : Int) := by omega
              rw [da (by omega), da (by omega), bX (by omega), bk, ← hgd, ea]
              by_cases h32 : g = 32
              · rw [bT h32, if_pos h32, eo (by omega), bk, e4]
                rcases more_eq F hF n (s.drop 4) (by simp; omega) with em | em
                · rw [em, show fM (n : Int) (s.drop 4) = ((fM (n : Int) (s.drop 4)).1, (fM (n : Int) (s.drop 4)).2.1, (fM (n : Int) (s.drop 4)).2.2) from rfl, ey]
                  unfold ia
                  rw [cT (by simp; omega), bk, cC]
                · omega
              · rw [bF h32, if_neg h32]
          · have e : (((decide ((200 : Int) ≤ (n : Int))) && (decide ((n : Int) ≤ 599))) && ((decide ((ls.length : Int) = 0)) || (decide ((n : Int) = c)))) = false := by
              by_cases q : 200 ≤ n
              · rw [decide_eq_false (p := (n : Int) ≤ 599) (by omega), Bool.and_false, hZ]
              · rw [decide_eq_false (p := (200 : Int) ≤ (n : Int)) (by omega), hZ, hZ]
            rw [e, cfl, eH, if_neg hr]
      · rw [decide_eq_false (p := (ls.length : Int) < 100) (by omega), cfl, eH]
        cases hn : eM (s.take 3) with
        | none => rfl
        | some n =>
          simp only
          by_cases hr : 200 ≤ n ∧ n ≤ 599
          · rw [if_pos hr]; simp only; rw [if_neg (fun q => h100 q.1)]
          · rw [if_neg hr]
    · have esg : ((decide (g = 45)) || (decide (g = 32))) = false := by
        rw [decide_eq_false (fun e => hsg (.inl e)), decide_eq_false (fun e => hsg (.inr e))]; rfl
      rw [if_neg (fun q => hsg q.2), esg, hZ, cfl, eH]
  · have hd4 : decide ((4 : Int) ≤ (s.length : Int)) = false := decide_eq_false (by omega)
    rw [hd4, jL, bk, hZ, jL, bk, hZ, hZ, ir, cfl, eH, if_neg (fun q => h4 q.1)]
theorem fm (d : Nat) : ∀ (k : Nat) (c : Int) (ls : List Bs) (a : Nat) (b : Bs), fH k c ls (a + d) b = match fH k c ls a b with | .ok x n => .ok x (n + d) | y => y
  | 0, c, ls, a, b => by
    unfold fH
    cases eT b <;> rfl
  | k + 1, c, ls, a, b => by
    unfold fH
    cases eT b with
    | wait => rfl
    | bad => rfl
    | ok s =>
      simp only
      cases fN s with
      | none => rfl
      | some n =>
        simp only
        by_cases h1 : ls ≠ [] ∧ (n : Int) ≠ c
        · rw [if_pos h1, if_pos h1]
        · rw [if_neg h1, if_neg h1]
          by_cases h2 : at_ s 3 = 32
          · rw [if_pos h2, if_pos h2]
            simp only
            rw [show a + d + (s.length + 2) = a + (s.length + 2) + d by omega]
          · rw [if_neg h2, if_neg h2, show a + d + (s.length + 2) = a + (s.length + 2) + d by omega]
            exact fm d k _ _ _ _
abbrev LL (F : Nat) (m : Nat) (b : Bs) (st : S5) : Option (S5 × Bool × Bs) := cV F (kk F) m (b, st)
theorem mO (F : Nat) (hF : 2000 < F) (m : Nat) (b : Bs) (a : Nat) (c : Int) (ls : List Bs) (l : List Rp) (u : Int) (hb : b.length ≤ 1000000) (ha : a ≤ 1000000) (hls : ls.length ≤ 100) (hl : l.length ≤ 1000000) :
    LL F (m + 1) b ((a : Int), c, ls, l, u) = match eT b with
      | .wait => some (((a : Int), c, ls, l, u), false, b)
      | .bad => some (((a : Int), c, ls, l, u), true, [])
      | .ok s => match fN s with
        | none => some (((a : Int), c, ls, l, u), true, [])
        | some n => if ls.length < 100 ∧ ¬ (ls ≠ [] ∧ (n : Int) ≠ c) then
            (if at_ s 3 = 32 then LL F m (b.drop (s.length + 2)) (((a + (s.length + 2) : Nat) : Int), 0, [], l ++ [((n : Int), ls ++ [s.drop 4], fM (n : Int) (s.drop 4))], ((a + (s.length + 2) : Nat) : Int))
             else LL F m (b.drop (s.length + 2)) (((a + (s.length + 2) : Nat) : Int), (n : Int), ls ++ [s.drop 4], l, u))
          else some (((a : Int), c, ls, l, u), true, []) := by
  have e : LL F (m + 1) b ((a : Int), c, ls, l, u) = cW F (kk F) (cV F (kk F) m) b ((a : Int), c, ls, l, u) := rfl
  rw [e, mr F _ _ b _ (by omega)]
  cases hb : eT b with
  | wait => rfl
  | bad => rfl
  | ok s =>
    simp only
    obtain ⟨t, _, _, hsl⟩ := ln_ok hb
    rw [kk_eq F hF a c ls l u s hsl (by omega) (by omega) (by omega), bZ]
    unfold lineR
    cases fN s with
    | none => rfl
    | some n =>
      simp only
      by_cases h1 : ls.length < 100 ∧ ¬ (ls ≠ [] ∧ (n : Int) ≠ c)
      · simp only [if_pos h1]
        by_cases h2 : at_ s 3 = 32
        · simp only [if_pos h2]; rfl
        · simp only [if_neg h2]; rfl
      · simp only [if_neg h1]; rfl
theorem gd (F : Nat) (hF : 2000 < F) (l : List Rp) (u : Int) (hl : l.length ≤ 1000000) : ∀ (j m : Nat) (b : Bs) (a : Nat) (c : Int) (ls : List Bs), ls.length + j = 100 → b.length < m → a + b.length ≤ 1000000 →
    match fH j c ls a b with
    | .wait => ∃ st b', LL F m b ((a : Int), c, ls, l, u) = some (st, false, b') ∧ st.2.2.2.1 = l ∧ st.2.2.2.2 = u
    | .bad => ∃ st b', LL F m b ((a : Int), c, ls, l, u) = some (st, true, b') ∧ st.2.2.2.1 = l ∧ st.2.2.2.2 = u
    | .ok x n => ∃ m', (b.drop (n - a)).length < m' ∧ a < n ∧ LL F m b ((a : Int), c, ls, l, u) = LL F m' (b.drop (n - a)) ((n : Int), 0, [], l ++ [x], (n : Int))
  | j, 0, b, a, c, ls, hj, hm, ha => by omega
  | 0, m + 1, b, a, c, ls, hj, hm, ha => by
    rw [mO F hF m b a c ls l u (by omega) (by omega) (by omega) hl]
    unfold fH
    cases hb : eT b with
    | wait => exact ⟨_, _, rfl, rfl, rfl⟩
    | bad => exact ⟨_, _, rfl, rfl, rfl⟩
    | ok s =>
      simp only
      cases fN s with
      | none => exact ⟨_, _, rfl, rfl, rfl⟩
      | some n =>
        simp only
        rw [if_neg (fun q => by omega)]
        exact ⟨_, _, rfl, rfl, rfl⟩
  | j + 1, m + 1, b, a, c, ls, hj, hm, ha => by
    rw [mO F hF m b a c ls l u (by omega) (by omega) (by omega) hl]
    unfold fH
    cases hb : eT b with
    | wait => exact ⟨_, _, rfl, rfl, rfl⟩
    | bad => exact ⟨_, _, rfl, rfl, rfl⟩
    | ok s =>
      have hln := mF hb
      simp only
      cases fN s with
      | none => exact ⟨_, _, rfl, rfl, rfl⟩
      | some n =>
        simp only
        by_cases h1 : ls ≠ [] ∧ (n : Int) ≠ c
        · have h1' : ¬ (ls.length < 100 ∧ ¬ (ls ≠ [] ∧ (n : Int) ≠ c)) := fun q => q.2 h1
          simp only [if_pos h1, if_neg h1']
          exact ⟨_, _, rfl, rfl, rfl⟩
        · have h1' : ls.length < 100 ∧ ¬ (ls ≠ [] ∧ (n : Int) ≠ c) := ⟨by omega, h1⟩
          simp only [if_neg h1, if_pos h1']
          by_cases h2 : at_ s 3 = 32
          · simp only [if_pos h2]
            refine ⟨m, ?_, by omega, ?_⟩
            · rw [List.length_drop]; omega
            · rw [show a + (s.length + 2) - a = s.length + 2 by omega]
          · simp only [if_neg h2]
            have ih := gd F hF l u hl j m (b.drop (s.length + 2)) (a + (s.length + 2)) (n : Int) (ls ++ [s.drop 4]) (by simp; omega) (by rw [List.length_drop]; omega) (by rw [List.length_drop]; omega)
            cases hq : fH j (n : Int) (ls ++ [s.drop 4]) (a + (s.length + 2)) (b.drop (s.length + 2)) with
            | wait => rw [hq] at ih; exact ih
            | bad => rw [hq] at ih; exact ih
            | ok x n' =>
              rw [hq] at ih
              simp only at ih ⊢
              obtain ⟨m', i1, i2, i3⟩ := ih
              have ed : (b.drop (s.length + 2)).drop (n' - (a + (s.length + 2))) = b.drop (n' - a) := by
                rw [List.drop_drop]; congr 1; omega
              rw [ed] at i1 i3
              exact ⟨m', i1, by omega, i3⟩
theorem np (F : Nat) (hF : 2000 < F) {b : Bs} {l2 : List Rp} {u : Nat} {bd : Bool} (h : All b l2 u bd) : ∀ (m a : Nat) (l : List Rp), b.length < m → a + b.length ≤ 1000000 → l.length ≤ a →
    ∃ st b', LL F m b ((a : Int), 0, [], l, (a : Int)) = some (st, bd, b') ∧ st.2.2.2.1 = l ++ l2 ∧ st.2.2.2.2 = ((a + u : Nat) : Int) := by
  induction h with
  | @wait b e =>
    intro m a l hm ha hl
    have := gd F hF l (a : Int) (by omega) 100 m b a 0 [] rfl hm ha
    have sh := fm a 100 0 [] 0 b
    rw [Nat.zero_add, show fH 100 0 [] 0 b = .wait from e] at sh
    rw [sh] at this
    obtain ⟨st, b', h1, h2, h3⟩ := this;exact ⟨st, b', h1, by rw [h2, List.append_nil], by rw [h3]; rfl⟩
  | @bad b e =>
    intro m a l hm ha hl
    have := gd F hF l (a : Int) (by omega) 100 m b a 0 [] rfl hm ha
    have sh := fm a 100 0 [] 0 b
    rw [Nat.zero_add, show fH 100 0 [] 0 b = .bad from e] at sh
    rw [sh] at this
    obtain ⟨st, b', h1, h2, h3⟩ := this;exact ⟨st, b', h1, by rw [h2, List.append_nil], by rw [h3]; rfl⟩
  | @ok b x n l2 u bd e hr ih =>
    intro m a l hm ha hl
    have hp := one_pos e
    have := gd F hF l (a : Int) (by omega) 100 m b a 0 [] rfl hm ha
    have sh := fm a 100 0 [] 0 b
    rw [Nat.zero_add, show fH 100 0 [] 0 b = .ok x n from e] at sh
    rw [sh] at this
    simp only at this
    obtain ⟨m', h1, h2, h3⟩ := this
    rw [show n + a - a = n by omega] at h1 h3
    obtain ⟨st, b', g1, g2, g3⟩ := ih m' (n + a) (l ++ [x]) h1 (by rw [List.length_drop]; omega) (by simp; omega);refine ⟨st, b', by rw [h3]; exact g1, by rw [g2, List.append_assoc]; rfl, by rw [g3]; congr 1; omega⟩
theorem all_eq (F : Nat) (hF : 2000 < F) {b : Bs} {l : List Rp} {u : Nat} {bd : Bool} (h : All b l u bd) (hb : b.length ≤ 1000000) (hbF : b.length < F) : fC F b [] 0 = some (l, (u : Int), bd) := by
  obtain ⟨st, b', h1, h2, h3⟩ := np F hF h F 0 [] hbF (by omega) (by simp)
  unfold fC ga fh
  rw [bZ]
  have e : cV F (fun (s : S5) x => dv F s.1 s.2.1 s.2.2.1 s.2.2.2.1 s.2.2.2.2 x) F (b, (0, 0, [], [], 0)) = some (st, bd, b') := h1
  rw [e, ey, h2, h3, Nat.zero_add]
  cases bd <;> rfl
theorem put_bad (F : Nat) (B b : Bs) : eO F B true b = some ([], B, true) := rfl
theorem put_eq (F : Nat) (hF : 2000 < F) (B b : Bs) {l : List Rp} {u : Nat} {bd : Bool} (h : All (B ++ b) l u bd) (hb : (B ++ b).length ≤ 1000000) (hbF : (B ++ b).length < F) : eO F B false b = some (l, if bd = true then [] else (B ++ b).drop u, bd) := by
  have hle := h.le
  rw [List.length_append] at hb
  unfold eO eB
  rw [cfl, cT (by omega), bk, all_eq F hF h (by rw [List.length_append]; omega) hbF, ey]
  cases bd with
  | true => rfl
  | false =>
    rw [cfl, eo (by rw [List.length_append]; rw [List.length_append] at hle; omega), bk, ma, grd_S (by rw [List.length_drop, List.length_append]; omega)]
    rfl
end Go.Rp
namespace Go.Rp
open Go.Pv Go.Av
open Go.Dg (cfl ctr gm hZ fo nfl ntr)
theorem ne (a : List Bs) (ha : a.length ≤ 1000000) : ∀ (n i : Nat), a.length - i < n → i ≤ a.length → dk a a n (i : Int) = some true := by
  intro n
  induction n with
  | zero => intro i h; omega
  | succ n ih =>
    intro i hn hi;show dl a a (dk a a n) (i : Int) = _
    unfold dl
    by_cases h : i < a.length
    · rw [bT (by omega), bX (by omega), bk, bX (by omega), bk, decide_eq_true rfl, ntr, cfl, da (by omega), eZ]
      exact ih (i + 1) (by omega) (by omega)
    · rw [bF (by omega)]; rfl
theorem nd (F : Nat) (a : List Bs) (ha : a.length ≤ 1000000) (hF : a.length < F) : eD F a a = some true := by
  unfold eD
  rw [decide_eq_true rfl, ntr, cfl]
  exact ne a ha F 0 (by omega) (by omega)
theorem nl (F : Nat) (hF : 2000 < F) (l : List Rp) (hl : l.length ≤ 1000000) (h : ∀ x ∈ l, x.2.1.length ≤ 1000) : ∀ (n i : Nat), l.length - i < n → i ≤ l.length → di F l l n (i : Int) = some true := by
  intro n
  induction n with
  | zero => intro i h; omega
  | succ n ih =>
    intro i hn hi;show dj F l l (di F l l n) (i : Int) = _
    unfold dj
    by_cases hlt : i < l.length
    · have hm := h _ (List.getElem_mem hlt)
      rw [bT (by omega), bX (by omega), bk, bX (by omega), bk, gW hlt]
      unfold fj
      rw [nd F _ (by omega) (by omega), bZ, bZ, m3_eq, decide_eq_true rfl, decide_eq_true rfl, gm, gm, ntr, cfl, da (by omega), eZ]
      exact ih (i + 1) (by omega) (by omega)
    · rw [bF (by omega)]; rfl
theorem nk (F : Nat) (hF : 2000 < F) (l : List Rp) (hl : l.length ≤ 1000000) (hlF : l.length < F) (h : ∀ x ∈ l, x.2.1.length ≤ 1000) : eC F l l = some true := by
  unfold eC
  rw [decide_eq_true rfl, ntr, cfl]
  exact nl F hF l hl h F 0 (by omega) (by omega)
theorem nj {x : Rp} (h : mayX x = true) : x.2.1.length ≤ 100 := (may_s h).2.1.2
theorem cut_loop (sz : List Int) (hsz : sz.length ≤ 40) : ∀ (n i : Nat) (y : Bs) (acc : List Bs), sz.length - i < n → i ≤ sz.length → y.length ≤ 1000000 → acc.length ≤ i →
    ∃ ps, cz sz n (y, acc, (i : Int)) = some (acc ++ ps) ∧ ps.flatten = y ∧ ps.length ≤ sz.length - i + 1 := by
  intro n
  induction n with
  | zero => intro i y acc h; omega
  | succ n ih =>
    intro i y acc hn hi hy ha;show ∃ ps, dH sz (cz sz n) y acc (i : Int) = some (acc ++ ps) ∧ _
    unfold dH
    by_cases h : 0 < y.length ∧ i < sz.length
    · obtain ⟨h1, h2⟩ := h
      rw [decide_eq_true (p := 0 < (y.length : Int)) (by omega), decide_eq_true (p := (i : Int) < (sz.length : Int)) (by omega), gm, ctr, bX (by omega), bk]
      have key : ∀ k : Nat, k ≤ y.length → ∃ ps, cG y acc (i : Int) (cz sz n) (k : Int) = some (acc ++ ps) ∧ ps.flatten = y ∧ ps.length ≤ sz.length - i + 1 := by
        intro k hk
        unfold cG
        rw [eo (by omega), bk, to_nat, cT (by rw [List.length_take]; omega), cT (by simp; omega), bk, eo (by omega), bk, ma, da (by omega), eZ]
        obtain ⟨ps, e1, e2, e3⟩ := ih (i + 1) (y.drop k) (acc ++ [y.take k]) (by omega) (by omega) (by rw [List.length_drop]; omega) (by simp; omega);refine ⟨y.take k :: ps, by rw [e1, List.append_assoc]; rfl, by rw [List.flatten_cons, e2, List.take_append_drop], by simp; omega⟩
      by_cases hb : at_ sz (i : Int) < 0 ∨ (y.length : Int) < at_ sz (i : Int)
      · have e : ((decide (at_ sz (i : Int) < 0)) || (decide ((y.length : Int) < at_ sz (i : Int)))) = true := by
          rcases hb with q | q
          · rw [decide_eq_true q]; rfl
          · rw [decide_eq_true q, Bool.or_true]
        rw [e, ctr]
        exact key y.length (by omega)
      · have e : ((decide (at_ sz (i : Int) < 0)) || (decide ((y.length : Int) < at_ sz (i : Int)))) = false := by
          rw [decide_eq_false (fun q => hb (.inl q)), decide_eq_false (fun q => hb (.inr q))]; rfl
        rw [e, cfl]
        obtain ⟨k, hk⟩ := Int.eq_ofNat_of_zero_le (show 0 ≤ at_ sz (i : Int) by omega)
        rw [hk]
        exact key k (by omega)
    · have e : ((decide (0 < (y.length : Int))) && (decide ((i : Int) < (sz.length : Int)))) = false := by
        by_cases q : 0 < y.length
        · rw [decide_eq_false (p := (i : Int) < (sz.length : Int)) (by omega), Bool.and_false]
        · rw [decide_eq_false (p := 0 < (y.length : Int)) (by omega)]; rfl
      rw [e, cfl]
      unfold dG
      rw [cT (by omega), cT (by simp; omega), bk]
      exact ⟨[y], rfl, by simp, by simp⟩
theorem cut_eq (F : Nat) (hF : 2000 < F) (b : Bs) (sz : List Int) (hb : b.length ≤ 1000000) (hsz : sz.length ≤ 40) : ∃ ps, ge F b sz = some ps ∧ ps.flatten = b ∧ ps.length ≤ 41 := by
  obtain ⟨ps, h1, h2, h3⟩ := cut_loop sz hsz F 0 b [] (by omega) (by omega) hb (by simp);exact ⟨ps, h1, h2, by omega⟩
theorem awake_eq : dX 2000000 = some true := by decide +kernel
end Go.Rp
namespace Go.Rp
open Go.Pv Go.Av
open Go.Dg (cfl ctr gm hZ fo nfl ntr)
theorem beq_self (b : Bool) : (b == b) = true := by cases b <;> rfl
theorem nR (F : Nat) (hF : 20000 < F) (x14 : List Rp) (x15 : Bs) (x16 : Bool) (ps : List Bs) (hps : ps.flatten.length ≤ 3000) (hpl : ps.length ≤ 41)
    (hend : ∀ l u bd, All ps.flatten l u bd → x14 = l ∧ x15 = (if bd = true then [] else ps.flatten.drop u) ∧ x16 = bd) : ∀ (n i : Nat) (l : List Rp) (u : Nat) (bd : Bool), ps.length - i < n → i ≤ ps.length → All (ps.take i).flatten l u bd →
    cm F x14 x15 x16 ps n (l, (i : Int), (if bd = true then [] else (ps.take i).flatten.drop u), bd) = some true := by
  intro n
  induction n with
  | zero => intro i l u bd h; omega
  | succ n ih =>
    intro i l u bd hn hi hA;show cn F x14 x15 x16 ps (cm F x14 x15 x16 ps n) l (i : Int) (if bd = true then [] else (ps.take i).flatten.drop u) bd = _
    unfold cn
    have htl : (ps.take i).flatten.length ≤ 3000 := by
      have : ps.flatten = (ps.take i).flatten ++ (ps.drop i).flatten := by rw [← List.flatten_append, List.take_append_drop]
      rw [this, List.length_append] at hps; omega
    have hle := hA.le
    by_cases h : i < ps.length
    · have hnx : (ps.take (i + 1)).flatten = (ps.take i).flatten ++ ps[i] := by
        rw [List.take_succ_eq_append_getElem h, List.flatten_append]; simp
      have htl2 : (ps.take (i + 1)).flatten.length ≤ 3000 := by
        have : ps.flatten = (ps.take (i + 1)).flatten ++ (ps.drop (i + 1)).flatten := by rw [← List.flatten_append, List.take_append_drop]
        rw [this, List.length_append] at hps; omega
      have hln : (ps.take i).flatten.length + (ps[i]).length ≤ 3000 := by rw [hnx, List.length_append] at htl2; omega
      rw [bT (by omega), bX (by omega), bk, gW h]
      cases bd with
      | true =>
        rw [if_pos rfl, put_bad, ey, cT (by simp; omega), bk, da (by omega), eZ, List.append_nil]
        have := ih (i + 1) l u true (by omega) (by omega) (by rw [hnx]; exact hA.app_bad _)
        rw [if_pos rfl] at this
        exact this
      | false =>
        rw [if_neg (by decide)]
        obtain ⟨l', u', bd', hA'⟩ := All.ex _ ((ps.take i).flatten.drop u ++ ps[i]) (Nat.lt_succ_self _)
        have hcat := hA.app hA'
        have hl3 : ((ps.take i).flatten.drop u ++ ps[i]).length ≤ 3000 := by rw [List.length_append, List.length_drop]; omega
        have hle' := hA'.le
        rw [put_eq F (by omega) _ _ hA' (by omega) (by omega), ey, cT (by omega), bk, da (by omega), eZ]
        have := ih (i + 1) (l ++ l') (u + u') bd' (by omega) (by omega) (by rw [hnx]; exact hcat)
        rw [hnx, show u + u' = u + u' from rfl, ← List.drop_drop, List.drop_append_of_le_length (by omega)] at this
        exact this
    · have hi' : i = ps.length := by omega
      subst hi'
      rw [List.take_length] at hA hle htl
      obtain ⟨rfl, e15, rfl⟩ := hend l u bd hA
      rw [bF (by omega), List.take_length, ← e15]
      unfold cl fE fb
      rw [nk F (by omega) x14 (by omega) (by omega) (fun x hx => by have := nj (hA.may.1 x hx); omega), bZ, jO, bZ, jO, bZ, gm, beq_self, jO, bZ, jO, bZ, decide_eq_true rfl]
      rfl
theorem lM (F : Nat) (hF : 20000 < F) (hw : dX F = some true) (b : Bs) (sz : List Int) : cP F b sz = some true := by
  unfold cP fD
  rw [hw, bZ]
  by_cases h : b.length ≤ 3000 ∧ sz.length ≤ 40
  · obtain ⟨h1, h2⟩ := h
    have e : (((!true) || (decide (3000 < (b.length : Int)))) || (decide (40 < (sz.length : Int)))) = false := by
      rw [decide_eq_false (by omega), decide_eq_false (by omega)]; rfl
    obtain ⟨l, u, bd, hA⟩ := All.ex _ b (Nat.lt_succ_self _);obtain ⟨ps, e1, e2, e3⟩ := cut_eq F (by omega) b sz (by omega) h2
    have hp := put_eq F (by omega) [] b hA (by rw [List.nil_append]; omega) (by rw [List.nil_append]; omega)
    rw [List.nil_append] at hp
    rw [e, cfl, bZ, hp, ey, bZ, e1, bZ]
    have := nR F hF l (if bd = true then [] else b.drop u) bd ps (by rw [e2]; exact h1) e3 (fun l' u' bd' h' => by
      rw [e2] at h' ⊢
      obtain ⟨rfl, rfl, rfl⟩ := hA.uniq h'
      exact ⟨rfl, rfl, rfl⟩) F 0 [] 0 false (by omega) (by omega) (by rw [List.take_zero]; exact .wait one_nil)
    exact this
  · have e : (((!true) || (decide (3000 < (b.length : Int)))) || (decide (40 < (sz.length : Int)))) = true := by
      by_cases q : b.length ≤ 3000
      · rw [decide_eq_true (p := 40 < (sz.length : Int)) (by omega), Bool.or_true]
      · rw [decide_eq_true (p := 3000 < (b.length : Int)) (by omega), Bool.or_true]; rfl
    rw [e, ctr]
theorem ReplyCuts_t (b : Bs) (sz : List Int) : cP 2000000 b sz = some true := lM 2000000 (by omega) awake_eq b sz
end Go.Rp
namespace Go.Av
open Go.RowKit Go.ChangeShapes Go.WideShapes
section
variable {H : Type} {enc : TypeId × Value → H} {P : Program} {w : World}
def Opens {H : Type} (enc : TypeId × Value → H) (P : Program) (w : World) (t : TypeId) {α : Type} (E : α → List AV) (p : α → Prop) : Prop :=
  ∀ fuel cs d, DataW.trod enc P w 0 (fun _ => true) true fuel t cs = some d → ∃ x, p x ∧ RelL (Info.start w) w (E x) cs
theorem opens_ints {t e : TypeId} (ht : P.underlying t = some (.slice e)) (he : P.underlying e = some (.int .i64)) (hc : P.cellsOf e = 1) :
    Opens enc P w t (fun l : List Int => [slE Enc.int l none]) (fun l => l.length ≤ maxLen ∧ ∀ n ∈ l, (Lit.int .i64 n).wf = true) := by
  intro fuel cs d h
  rcases open_ints ht he hc h with ⟨rfl, _⟩ | ⟨x, len, cap, zs, rfl, _, hl, hm, hz, _, hcell, hw⟩
  · exact ⟨[], ⟨by simp, by simp⟩, .cons (.slz _ _ _) .nil⟩
  · simp only [if_true] at hz
    have hll : (zs.take len).length = len := by simp; omega
    refine ⟨zs.take len, ⟨by rw [hll]; omega, fun n hn => hw n (List.mem_of_mem_take hn)⟩, .cons ?_ .nil⟩
    have := mM (w := w) Enc.int (fun n => .int .i64 n) (fun _ => rfl) (zs.take len) x cap (by omega) (fun i hi => by
      rw [hll] at hi
      rw [hcell i (by omega)]
      simp [List.getD, show i < zs.length by omega])
    rw [hll] at this
    exact this
theorem one_of {t : TypeId} {v : Value} {d : DataW H} {ps : List MemPlace} {α : Type} {E : α → AV} {p : α → Prop} (hv : v.cells = #[v]) (hd : DataW.Trod enc P w 0 (fun _ => true) true t v d ps) (h : Opens enc P w t (fun x => [E x]) p) :
    ∃ x, p x ∧ Rel (Info.start w) w (E x) v := by
  obtain ⟨fuel, hf⟩ := hd;obtain ⟨x, hx, rx⟩ := h _ _ _ hf
  rw [hv] at rx
  exact ⟨x, hx, rx.head⟩
end
end Go.Av
