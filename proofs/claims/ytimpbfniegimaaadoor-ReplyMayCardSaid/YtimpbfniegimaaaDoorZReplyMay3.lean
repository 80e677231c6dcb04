/-
  Texts in one (only what ReplyMay needs): RepAW, RepLP, RepLW, LReplyMayP, LReplyMayW, DgN, RpA, RpC, RepRP, RpB, RpSp, RpM, RpW, RpL, RpI, RpT, RpMay.
-/
import Derived.Test.YtimpbfniegimaaaDoorZReplyMay2
import Derived.Test.YtimpbfniegimaaaDoorShelf
import Derived.Lib.ItoaNum
import Derived.Lib.IndexLaws
import Derived.Test.YtimpbfniegimaaaDoorChecked
import Derived.Laws.RangeAny
import Derived.Lib.IndexAny
import Derived.Lib.SplitLaws
import Derived.Lib.IndexBytes
set_option linter.unusedVariables false
set_option linter.unusedSimpArgs false
namespace Go.Proofs.YtimpbfniegimaaaDoor
open Go.RowKit Go.Av Go.Pv
theorem en9_repa : ∀ (args : Array Value) (w : World), (callFunc 9 args).run Tryd.prog w = .ok (.enter 9 args) w := fun _ _ => by kernel_rfl
theorem nu : ∀ (args : Array Value) (w : World), (callFunc 10 args).run Tryd.prog w = .ok (.enter 10 args) w := fun _ _ => by kernel_rfl
theorem nt : ∀ (args : Array Value) (w : World), (callFunc 13 args).run Tryd.prog w = .ok (.enter 13 args) w := fun _ _ => by kernel_rfl
theorem nr : ∀ (args : Array Value) (w : World), (callFunc 14 args).run Tryd.prog w = .ok (.enter 14 args) w := fun _ _ => by kernel_rfl
theorem np : ∀ (args : Array Value) (w : World), (callFunc 21 args).run Tryd.prog w = .ok (.enter 21 args) w := fun _ _ => by kernel_rfl
theorem ku : ∀ (args : Array Value) (w : World), (callFunc 22 args).run Tryd.prog w = .ok (.enter 22 args) w := fun _ _ => by kernel_rfl
theorem bQ : ∀ (args : Array Value) (w : World), (callFunc 23 args).run Tryd.prog w = .ok (.enter 23 args) w := fun _ _ => by kernel_rfl
theorem kt : ∀ (args : Array Value) (w : World), (callFunc 24 args).run Tryd.prog w = .ok (.enter 24 args) w := fun _ _ => by kernel_rfl
theorem nk : ∀ (args : Array Value) (w : World), (callFunc 25 args).run Tryd.prog w = .ok (.enter 25 args) w := fun _ _ => by kernel_rfl
theorem kr : ∀ (args : Array Value) (w : World), (callFunc 27 args).run Tryd.prog w = .ok (.enter 27 args) w := fun _ _ => by kernel_rfl
theorem nj : ∀ (args : Array Value) (w : World), (callFunc 32 args).run Tryd.prog w = .ok (.enter 32 args) w := fun _ _ => by kernel_rfl
theorem kq : ∀ (args : Array Value) (w : World), (callFunc 33 args).run Tryd.prog w = .ok (.enter 33 args) w := fun _ _ => by kernel_rfl
theorem ni : ∀ (args : Array Value) (w : World), (callFunc 34 args).run Tryd.prog w = .ok (.enter 34 args) w := fun _ _ => by kernel_rfl
theorem dv : ∀ (args : Array Value) (w : World), (callFunc 35 args).run Tryd.prog w = .ok (.enter 35 args) w := fun _ _ => by kernel_rfl
theorem ko : ∀ (args : Array Value) (w : World), (callFunc 36 args).run Tryd.prog w = .ok (.enter 36 args) w := fun _ _ => by kernel_rfl
theorem nh : ∀ (args : Array Value) (w : World), (callFunc 43 args).run Tryd.prog w = .ok (.enter 43 args) w := fun _ _ => by kernel_rfl
theorem ng : ∀ (args : Array Value) (w : World), (callFunc 44 args).run Tryd.prog w = .ok (.enter 44 args) w := fun _ _ => by kernel_rfl
theorem ne : ∀ (args : Array Value) (w : World), (callFunc 45 args).run Tryd.prog w = .ok (.enter 45 args) w := fun _ _ => by kernel_rfl
theorem ia : ∀ (args : Array Value) (w : World), (callFunc 46 args).run Tryd.prog w = .ok (.enter 46 args) w := fun _ _ => by kernel_rfl
theorem nd : ∀ (args : Array Value) (w : World), (callFunc 47 args).run Tryd.prog w = .ok (.enter 47 args) w := fun _ _ => by kernel_rfl
set_option maxRecDepth 100000 in
set_option maxHeartbeats 1000000 in
theorem dw (F : Nat) (a1 : List UInt8) (q2 : Option Nat) (a3 : UInt8) (r4 : Int) (H : cQ F a1 a3 = some r4) : ACalls Tryd.prog 46 [slE Enc.byte a1 q2, u8 a3] [] (Ret (i64 r4) []) := by
 unfold cQ at H
 refine aA Tryd.func46 rfl rfl ?_;show AW _ _ 8 _ _ _;refine af <| aa ?_;show AR _ _ _ _ _ [0] _;refine za rfl <| ah <| af ?_;obtain ⟨x5, e6, H⟩ := bL H;refine aa ?_;show AR _ _ _ _ _ [0, 1, 2, 3] _;refine zS rfl (az (av := slE _ _ _) rfl) <| zm rfl <| zR rfl (show OpR _ _ _ _ (i64 x5) _ from by subst e6; exact jV ⟨Tryd.func57, by kernel_rfl, by kernel_rfl, by kernel_rfl, by kernel_rfl⟩ rfl rfl) <| za rfl <| ah <| aK ?_;obtain rfl := al H;exact And.intro rfl (Exists.intro _ (Exists.intro _ ⟨aO rfl (.refl _), aC [] rfl, rfl, rfl⟩))
set_option maxRecDepth 100000 in
set_option maxHeartbeats 1000000 in
theorem gG (F : Nat) (a1 : List UInt8) (r2 : Int) (r3 : Bool) (H : dJ F a1 = some (r2, r3)) : ACalls Tryd.prog 36 [S a1] [] (Ret (.tup [i64 r2, B r3]) []) := by
 unfold dJ at H
 refine aA Tryd.func36 rfl rfl ?_;show AW _ _ 29 _ _ _;refine af <| aa ?_;show AR _ _ _ _ _ [0, 1] _;refine za rfl <| za rfl <| ah <| af ?_;obtain ⟨x4, x5, e6, H⟩ := fc H;refine aa ?_;show AR _ _ _ _ _ [0, 1, 2, 3, 4, 5, 6] _;refine zm rfl <| aW rfl rfl (aI rfl nd rfl (jb F a1 x4 x5 e6) ?_);refine zS rfl (az (av := .tup _) rfl) <| zS rfl (aF (av := .v _) rfl rfl) <| zS rfl (aF (av := eAny _ _) rfl rfl) <| za rfl <| zS rfl (aG (av := eAny _ _) rfl) <| ah <| af ?_;obtain ⟨g9, H⟩ := cG H;obtain ⟨x10, e11, H⟩ := bL H;refine aa ?_;show AR _ _ _ _ _ [0, 1, 2, 3, 4, 5, 6, 7, 8, 9, 10, 11, 12, 13, 14, 15, 16, 17, 18, 19] _;refine zm rfl <| zS rfl (az (av := eAny _ _) rfl) <| zS rfl (mi ct rfl rfl) <| zm rfl <| aD (l := [8, 9, 10, 11, 12, 13, 14, 15, 16, 17, 18, 19]) 18 (B ((decide (x5 = 0)) && (decide ((a1.length : Int) ≤ 3)))) (fun K => ?_) ?_
 ·rcases ac (decide (x5 = 0)) with h7 | h7
  ·refine zM h7 rfl <| zU h7 rfl (bt ai rfl) <| zU h7 rfl (dk rfl rfl) <| zS rfl (aq (av := .v _) rfl h7 rfl) ?_;exact K _ 3 _ (an (bC h7)) rfl rfl
  ·refine zF h7 rfl <| zF h7 rfl <| zF h7 rfl <| zS rfl (ap (av := .v _) rfl h7 rfl) ?_;exact K _ 3 _ (an (bD h7)) rfl rfl
 refine zm rfl <| aD (l := [14, 15, 16, 17, 18, 19]) 24 (B (((decide (x5 = 0)) && (decide ((a1.length : Int) ≤ 3))) && (decide (x10 = a1)))) (fun K => ?_) ?_
 ·rcases ac ((decide (x5 = 0)) && (decide ((a1.length : Int) ≤ 3))) with h8 | h8
  ·refine zM h8 rfl <| zT h8 rfl (aI rfl kr rfl (show ACalls _ _ _ [] (Ret (S x10) []) from by subst e11; exact ip x4 (kH (g9 h8))) ?_);refine zM h8 rfl <| zU h8 rfl (gY rfl rfl) <| zS rfl (aq (av := .v _) rfl h8 rfl) ?_;exact K _ 4 _ (an (bC h8)) rfl rfl
  ·refine zF h8 rfl <| zF h8 rfl <| zF h8 rfl <| zF h8 rfl <| zS rfl (ap (av := .v _) rfl h8 rfl) ?_;exact K _ 4 _ (an (bD h8)) rfl rfl
 refine zm rfl <| aD (l := [18, 19]) 28 (B ((((decide (x5 = 0)) && (decide ((a1.length : Int) ≤ 3))) && (decide (x10 = a1))) && (decide (0 ≤ x4)))) (fun K => ?_) ?_
 ·rcases ac (((decide (x5 = 0)) && (decide ((a1.length : Int) ≤ 3))) && (decide (x10 = a1))) with h12 | h12
  ·refine zM h12 rfl <| zU h12 rfl (dS rfl rfl) <| zS rfl (aq (av := .v _) rfl h12 rfl) ?_;exact K _ 2 _ (an (bC h12)) rfl rfl
  ·refine zF h12 rfl <| zF h12 rfl <| zS rfl (ap (av := .v _) rfl h12 rfl) ?_;exact K _ 2 _ (an (bD h12)) rfl rfl
 refine za rfl <| za rfl <| ah <| aK ?_;obtain ⟨rfl, rfl⟩ := eT H;exact And.intro rfl (Exists.intro _ (Exists.intro _ ⟨bk rfl (.refl _) (.refl _), aC [] rfl, rfl, rfl⟩))
abbrev _root_.Go.Av.ao := @Tryd.underlying35
abbrev _root_.Go.Av.aQ := @Tryd.underlying36
set_option maxRecDepth 100000 in
set_option maxHeartbeats 1000000 in
theorem jm (F : Nat) (a1 : Int) (a2 : List UInt8) (r3 : Int) (r4 : Int) (r5 : Int) (H : eJ F a1 a2 = some (r3, r4, r5)) : ACalls Tryd.prog 33 [i64 a1, S a2] [] (Ret (.agg [i64 r3, i64 r4, i64 r5]) []) := by
 unfold eJ at H
 refine aA Tryd.func33 rfl rfl ?_;show AW _ _ 57 _ _ _;refine af <| aa ?_;show AR _ _ _ _ _ [0] _;refine zX rfl (dM (zs := [.int .i64 0, .int .i64 0, .int .i64 0]) (by kernel_rfl)) ?_;rintro _ _ ⟨o6, rfl, rfl⟩;refine ah <| af ?_;obtain ⟨g7, H⟩ := aJ H;obtain ⟨x8, e9, H⟩ := bL H;refine aa ?_;show AR _ _ _ _ _ [0, 1, 2, 3, 4, 5, 6, 7, 8] _;refine zm rfl <| aW rfl rfl (aI rfl nh rfl (show ACalls _ _ _ [] (Ret (.tup [S x8.1, S x8.2.1, B x8.2.2]) []) from by subst e9; exact lib_Cut a2 ([32] : List UInt8) (dD g7)) ?_);refine zS rfl (az (av := .tup _) rfl) <| zS rfl (aF (av := .v _) rfl rfl) <| zS rfl (aF (av := .v _) rfl rfl) <| zS rfl (aF (av := .v _) rfl rfl) <| za rfl <| za rfl <| za rfl <| ah <| af ?_;obtain ⟨g10, H⟩ := aJ H;obtain ⟨g11, H⟩ := aJ H;obtain ⟨x12, e13, H⟩ := bL H;refine aa ?_;show AR _ _ _ _ _ [0, 1, 2] _;refine zm rfl <| aW rfl rfl (aI rfl ng rfl (show ACalls _ _ _ [] (Ret (slE Enc.str x12 none) []) from by subst e13; exact mV x8.1 ([46] : List UInt8) (dD g10) (of_decide_eq_true g11)) ?_);refine zS rfl (aG (av := slE _ _ _) rfl) <| ah <| af <| af ?_;obtain ⟨g15, H⟩ := cG H;refine aa ?_;show AR _ _ _ _ _ [0, 1, 2, 3, 4, 5, 6, 7] _;refine zS rfl (az (av := slE _ _ _) rfl) <| zS rfl (bc ao rfl) <| zS rfl (fW rfl rfl) <| zm rfl <| aD (l := []) 28 (B ((!decide ((x12.length : Int) = 3)) || (decide (a1 / 100 = 3)))) (fun K => ?_) ?_
 ·rcases ac (!decide ((x12.length : Int) = 3)) with h14 | h14
  ·refine zF h14 rfl <| zF h14 rfl <| zF h14 rfl <| zS rfl (aq (av := .v _) rfl h14 rfl) ?_;exact K _ 3 _ (an (fM h14)) rfl rfl
  ·refine zM h14 rfl <| zU h14 rfl (g_quo rfl rfl (g15 (nf h14))) <| zU h14 rfl (bw rfl rfl) <| zS rfl (ap (av := .v _) rfl h14 rfl) ?_;exact K _ 3 _ (an (fN h14)) rfl rfl
 refine ah <| ax rfl (fun c16 => ?_) (fun c16 => ?_)
 ·replace H := ba c16 H;refine af <| aa ?_;show AR _ _ _ _ _ [0, 1] _;refine zR rfl (dB (i := 0) (n := 3) aQ rfl (by kernel_rfl) rfl rfl (ab rfl)) <| s0 rfl rfl (cz (i := 0) (vs := [i64 0, i64 0, i64 0]) (by kernel_rfl) rfl rfl (by simp [bx, slE]) rfl (ab rfl)) <| ah <| aK ?_;obtain ⟨rfl, rfl, rfl⟩ := iQ H;exact And.intro rfl (Exists.intro _ (Exists.intro _ ⟨ic (du rfl (CellV.agg (off := 0) (cs := [i64 0, i64 0, i64 0]) (n := 3) 0 aQ rfl (by kernel_rfl) rfl rfl (ab rfl))), aC [] rfl, rfl, rfl⟩))
 ·replace H := bb c16 H;refine aE <| af <| aa ?_;show AR _ _ _ _ _ [0] _;refine zX rfl (dM (zs := [.int .i64 0, .int .i64 0, .int .i64 0]) (by kernel_rfl)) ?_;rintro _ _ ⟨o17, rfl, rfl⟩;refine ah <| bI (X := Int × Int × Int) (fun (y39, y40, y41) => ⟨[(0, i64 a1), (4, .pt o6 0), (9, .pt o17 0)], [], [.obj o17 [i64 y39, i64 y40, i64 y41], .obj o6 [i64 0, i64 0, i64 0]]⟩) (fun (y39, y40, y41) => dP a1 y39 y40 y41 = some (r3, r4, r5)) ?_ ?_
  ·refine af <| aa ?_;show AR _ _ _ _ _ [0, 1, 2] _;refine zS rfl (az (av := slE _ _ _) rfl) <| zS rfl (bc ao rfl) <| zm rfl <| ah <| bh <| AW.loop (X := Nat × Int × Int × Int × Int) (fun (n25, y20, y21, y22, y23) => ⟨[(0, i64 a1), (4, .pt o6 0), (8, slE Enc.str x12 none), (9, .pt o17 0), (31, i64 (x12.length : Int)), (32, i64 y20)], [], [.obj o17 [i64 y21, i64 y22, i64 y23], .obj o6 [i64 0, i64 0, i64 0]]⟩) (fun (n25, y20, y21, y22, y23) => cd F a1 x12 n25 (y20, y21, y22, y23) = some (r3, r4, r5)) (fun (n25, y20, y21, y22, y23) => n25) (F, 0, 0, 0, 0) H (aZ [0, 0] (.cons (.refl _) (.cons (.refl _) (.cons (.refl _) (.cons (.refl _) (.cons (.refl _) (.cons (.refl _) (.nil _))))))) rfl) ?_;rintro ⟨n25, y20, y21, y22, y23⟩ H;obtain ⟨n25, rfl, H⟩ := eN H;replace H : cF F a1 x12 (cd F a1 x12 n25) y20 y21 y22 y23 = some (r3, r4, r5) := H
   unfold cF at H
   refine af <| aa ?_;show AR _ _ _ _ _ [0] _;refine zS rfl (ck rfl rfl) <| ah <| af <| ax rfl (fun c26 => ?_) (fun c26 => ?_)
   ·replace H := ba c26 H;refine aE <| af <| bh <| af <| aa ?_;show AR _ _ _ _ _ [0, 1] _;refine zm rfl <| za rfl <| ah <| af ?_;obtain ⟨g27, H⟩ := aJ H;obtain ⟨x28, e29, H⟩ := bL H;obtain ⟨x30, x31, e32, H⟩ := fc H;refine aa ?_;show AR _ _ _ _ _ [0, 1, 2, 3, 4, 5, 6, 7, 8, 9] _;refine zS rfl (az (av := slE _ _ _) rfl) <| zm rfl <| zS rfl (bH (E := Enc.str) ao (by kernel_rfl) rfl rfl g27 e29) <| zS rfl (aY ai rfl rfl) <| aW rfl rfl (aI rfl ko rfl (gG F x28 x30 x31 e32) ?_);refine zS rfl (az (av := .tup _) rfl) <| zS rfl (aF (av := .v _) rfl rfl) <| zS rfl (aF (av := .v _) rfl rfl) <| za rfl <| za rfl <| ah <| af <| af <| aa ?_;show AR _ _ _ _ _ [0, 1] _;refine zm rfl <| zS rfl (dE rfl) <| ah <| ax rfl (fun c33 => ?_) (fun c33 => ?_)
    ·replace H := ba c33 H;refine af <| aa ?_;show AR _ _ _ _ _ [0, 1] _;refine zR rfl (dB (i := 1) (n := 3) aQ rfl (by kernel_rfl) rfl rfl (ab rfl)) <| s0 rfl rfl (cz (i := 1) (vs := [i64 0, i64 0, i64 0]) (by kernel_rfl) rfl rfl (by simp [bx, slE]) rfl (ab rfl)) <| ah <| aK ?_;obtain ⟨rfl, rfl, rfl⟩ := iQ H;exact And.intro rfl (Exists.intro _ (Exists.intro _ ⟨ic (du rfl (CellV.agg (off := 0) (cs := [i64 0, i64 0, i64 0]) (n := 3) 1 aQ rfl (by kernel_rfl) rfl rfl (ab rfl))), aC [] rfl, rfl, rfl⟩))
    ·replace H := bb c33 H;refine aE ?_;obtain ⟨g34, H⟩ := aJ H;obtain ⟨g35, H⟩ := aJ H;obtain ⟨x36, e37, H⟩ := bL H;refine aa ?_;show AR _ _ _ _ _ [0, 1, 2, 3] _;refine zm rfl <| zm rfl <| zS rfl (gn aQ (by kernel_rfl) rfl rfl g34) <| s0 rfl rfl (lr (pre := []) (post := []) (l := ([y21, y22, y23] : List Int)) (vs := [i64 (x36.getD 0 0), i64 (x36.getD 1 0), i64 (x36.getD 2 0)]) (n := 3) (k := 0) (by kernel_rfl) rfl rfl rfl rfl rfl g35 e37 rfl) <| ah ?_;obtain ⟨g38, H⟩ := aJ H;refine aa ?_;show AR _ _ _ _ _ [0, 1] _;refine zS rfl (fy rfl rfl g38) <| zm rfl <| ah ?_;exact Exists.intro (n25, y20 + 1, x36.getD 0 0, x36.getD 1 0, x36.getD 2 0) ⟨H, Nat.lt_succ_self _, aZ [0, 0] (.cons (.refl _) (.cons (.refl _) (.cons (.refl _) (.cons (.refl _) (.cons (.refl _) (.cons (.refl _) (.nil _))))))) rfl⟩
   ·replace H := bb c26 H;refine AW.exit ?_;exact Exists.intro (y21, y22, y23) ⟨H, aZ [0, 0] (.cons (.refl _) (.cons (.refl _) (.cons (.refl _) (.nil _)))) rfl⟩
  rintro ⟨y39, y40, y41⟩ H;replace H : dP a1 y39 y40 y41 = some (r3, r4, r5) := H
  unfold dP at H
  refine bI (X := Int × Int × Int) (fun (y45, y46, y47) => ⟨[(4, .pt o6 0)], [], [.obj o6 [i64 y45, i64 y46, i64 y47]]⟩) (fun (y45, y46, y47) => dr y45 y46 y47 = some (r3, r4, r5)) ?_ ?_
  ·refine af ?_;obtain ⟨g43, H⟩ := aJ H;refine aa ?_;show AR _ _ _ _ _ [0, 1, 2, 3, 4] _;refine zS rfl (eR (Ar := 0) (k := 1) (m := 0) aQ (by kernel_rfl) rfl rfl rfl (by decide)) <| zR rfl (aj (i := 0) aB rfl rfl rfl rfl) <| zm rfl <| zS rfl (g_quo rfl rfl g43) <| zS rfl (bw rfl rfl) <| ah <| ax rfl (fun c44 => ?_) (fun c44 => ?_)
   ·replace H := ba c44 H;refine aa ?_;show AR _ _ _ _ _ [0, 1] _;refine zR rfl (dB (i := 0) (n := 3) aQ rfl (by kernel_rfl) rfl rfl (ab rfl)) <| s0 rfl rfl (cz (i := 1) (vs := [i64 y39, i64 y40, i64 y41]) (by kernel_rfl) rfl rfl (by simp [bx, slE]) rfl (ab rfl)) <| ah ?_;exact Exists.intro (y39, y40, y41) ⟨H, aZ [1] (.cons (.refl _) (.nil _)) rfl⟩
   ·replace H := bb c44 H;refine aE ?_;exact Exists.intro (0, 0, 0) ⟨H, aZ [1] (.cons (.refl _) (.nil _)) rfl⟩
  rintro ⟨y45, y46, y47⟩ H;replace H : dr y45 y46 y47 = some (r3, r4, r5) := H
  unfold dr at H
  refine af <| aa ?_;show AR _ _ _ _ _ [0, 1] _;refine zR rfl (dB (i := 0) (n := 3) aQ rfl (by kernel_rfl) rfl rfl (ab rfl)) <| s0 rfl rfl (cz (i := 0) (vs := [i64 y45, i64 y46, i64 y47]) (by kernel_rfl) rfl rfl (by simp [bx, slE]) rfl (ab rfl)) <| ah <| aK ?_;obtain ⟨rfl, rfl, rfl⟩ := iQ H;exact And.intro rfl (Exists.intro _ (Exists.intro _ ⟨ic (du rfl (CellV.agg (off := 0) (cs := [i64 y45, i64 y46, i64 y47]) (n := 3) 0 aQ rfl (by kernel_rfl) rfl rfl (ab rfl))), aC [] rfl, rfl, rfl⟩))
set_option maxRecDepth 100000 in
set_option maxHeartbeats 1000000 in
theorem hO (F : Nat) (a1 : Int) (a2 : List (List UInt8)) (a3 : Int) (a4 : Int) (a5 : Int) (r6 : Bool) (H : fB F a1 a2 a3 a4 a5 = some r6) : ACalls Tryd.prog 21 [.agg [i64 a1, slE Enc.str a2 none, i64 a3, i64 a4, i64 a5]] [] (Ret (B r6) []) := by
 unfold fB at H
 refine aA Tryd.func21 rfl rfl ?_;show AW _ _ 54 _ _ _;refine af <| aa ?_;show AR _ _ _ _ _ [0, 1] _;refine zR rfl (fQ rfl (.inr ⟨_, rfl⟩)) <| za rfl <| ah <| af <| af <| aa ?_;show AR _ _ _ _ _ [0, 1, 2, 3, 4, 5, 6, 7, 8, 9, 10, 11, 12, 13, 14, 15, 16, 17, 18, 19] _;refine zS rfl (aN (n := 0) (by kernel_rfl) rfl (ab rfl)) <| zS rfl (aY aB rfl rfl) <| zS rfl (ck rfl rfl) <| zm rfl <| aD (l := [8, 9, 10, 11, 12, 13, 14, 15, 16, 17, 18, 19]) 12 (B ((decide (a1 < 200)) || (decide (599 < a1)))) (fun K => ?_) ?_
 ·rcases ac (decide (a1 < 200)) with h7 | h7
  ·refine zF h7 rfl <| zF h7 rfl <| zF h7 rfl <| zS rfl (aq (av := .v _) rfl h7 rfl) ?_;exact K _ 3 _ (an (fM h7)) rfl rfl
  ·refine zU h7 rfl (aN (n := 0) (by kernel_rfl) rfl (ab rfl)) <| zU h7 rfl (aY aB rfl rfl) <| zU h7 rfl (eM rfl rfl) <| zS rfl (ap (av := .v _) rfl h7 rfl) ?_;exact K _ 3 _ (an (fN h7)) rfl rfl
 refine zm rfl <| aD (l := [14, 15, 16, 17, 18, 19]) 18 (B (((decide (a1 < 200)) || (decide (599 < a1))) || (decide ((a2.length : Int) = 0)))) (fun K => ?_) ?_
 ·rcases ac ((decide (a1 < 200)) || (decide (599 < a1))) with h8 | h8
  ·refine zF h8 rfl <| zF h8 rfl <| zF h8 rfl <| zF h8 rfl <| zS rfl (aq (av := .v _) rfl h8 rfl) ?_;exact K _ 4 _ (an (fM h8)) rfl rfl
  ·refine zU h8 rfl (aN (n := 1) (by kernel_rfl) rfl (ab rfl)) <| zU h8 rfl (aY ao rfl rfl) <| zU h8 rfl (bc ao rfl) <| zU h8 rfl (bw rfl rfl) <| zS rfl (ap (av := .v _) rfl h8 rfl) ?_;exact K _ 4 _ (an (fN h8)) rfl rfl
 refine zm rfl <| aD (l := []) 24 (B ((((decide (a1 < 200)) || (decide (599 < a1))) || (decide ((a2.length : Int) = 0))) || (decide (100 < (a2.length : Int))))) (fun K => ?_) ?_
 ·rcases ac (((decide (a1 < 200)) || (decide (599 < a1))) || (decide ((a2.length : Int) = 0))) with h9 | h9
  ·refine zF h9 rfl <| zF h9 rfl <| zF h9 rfl <| zF h9 rfl <| zS rfl (aq (av := .v _) rfl h9 rfl) ?_;exact K _ 4 _ (an (fM h9)) rfl rfl
  ·refine zU h9 rfl (aN (n := 1) (by kernel_rfl) rfl (ab rfl)) <| zU h9 rfl (aY ao rfl rfl) <| zU h9 rfl (bc ao rfl) <| zU h9 rfl (eM rfl rfl) <| zS rfl (ap (av := .v _) rfl h9 rfl) ?_;exact K _ 4 _ (an (fN h9)) rfl rfl
 refine ah <| ax rfl (fun c10 => ?_) (fun c10 => ?_)
 ·replace H := ba c10 H;refine af <| aa ?_;show AR _ _ _ _ _ [0] _;refine za rfl <| ah <| aK ?_;obtain rfl := al H;exact And.intro rfl (Exists.intro _ (Exists.intro _ ⟨aO rfl (.refl _), aC [] rfl, rfl, rfl⟩))
 ·replace H := bb c10 H;refine aE <| bI (X := Unit) (fun _ => ⟨[(1, .cp [i64 a1, slE Enc.str a2 none, i64 a3, i64 a4, i64 a5])], [], []⟩) (fun _ => ew F a1 a2 a3 a4 a5 = some r6) ?_ ?_
  ·refine af <| aa ?_;show AR _ _ _ _ _ [0, 1, 2, 3] _;refine zS rfl (aN (n := 1) (by kernel_rfl) rfl (ab rfl)) <| zS rfl (aY ao rfl rfl) <| zS rfl (bc ao rfl) <| zm rfl <| ah <| bh <| AW.loop (X := Nat × Int) (fun (n13, y11) => ⟨[(1, .cp [i64 a1, slE Enc.str a2 none, i64 a3, i64 a4, i64 a5]), (26, slE Enc.str a2 none), (27, i64 (a2.length : Int)), (28, i64 y11)], [], []⟩) (fun (n13, y11) => ey F a1 a2 a3 a4 a5 n13 y11 = some r6) (fun (n13, y11) => n13) (F, 0) H (aZ [] (.cons (.refl _) (.cons (.refl _) (.cons (.refl _) (.cons (.refl _) (.nil _))))) rfl) ?_;rintro ⟨n13, y11⟩ H;obtain ⟨n13, rfl, H⟩ := eN H;replace H : ez F a1 a2 a3 a4 a5 (ey F a1 a2 a3 a4 a5 n13) y11 = some r6 := H
   unfold ez at H
   refine af <| aa ?_;show AR _ _ _ _ _ [0] _;refine zS rfl (ck rfl rfl) <| ah <| af <| ax rfl (fun c14 => ?_) (fun c14 => ?_)
   ·replace H := ba c14 H;refine aE <| af <| bh <| af ?_;obtain ⟨g15, H⟩ := aJ H;obtain ⟨x16, e17, H⟩ := bL H;refine aa ?_;show AR _ _ _ _ _ [0, 1, 2] _;refine zS rfl (bH (E := Enc.str) ao (by kernel_rfl) rfl rfl g15 e17) <| zS rfl (aY ai rfl rfl) <| za rfl <| ah <| af ?_;obtain ⟨x19, e20, H⟩ := dT H;refine aa ?_;show AR _ _ _ _ _ [0, 1, 2, 3, 4, 5, 6] _;refine zm rfl <| zS rfl (bt ai rfl) <| zS rfl (eM rfl rfl) <| zm rfl <| aD (l := []) 38 (B ((decide (506 < (x16.length : Int))) || x19)) (fun K => ?_) ?_
    ·rcases ac (decide (506 < (x16.length : Int))) with h18 | h18
     ·refine zF h18 rfl <| zF h18 rfl <| zS rfl (aq (av := .v _) rfl h18 rfl) ?_;exact K _ 2 _ (an (fM h18)) rfl rfl
     ·refine zM h18 rfl <| zT h18 rfl (aI rfl nj rfl (jN F x16 ([13, 10] : List UInt8) x19 (e20 (nf h18))) ?_);refine zS rfl (ap (av := .v _) rfl h18 rfl) ?_;exact K _ 2 _ (an (fN h18)) rfl rfl
    refine ah <| ax rfl (fun c21 => ?_) (fun c21 => ?_)
    ·replace H := ba c21 H;refine af <| aa ?_;show AR _ _ _ _ _ [0] _;refine za rfl <| ah <| aK ?_;obtain rfl := al H;exact And.intro rfl (Exists.intro _ (Exists.intro _ ⟨aO rfl (.refl _), aC [] rfl, rfl, rfl⟩))
    ·replace H := bb c21 H;refine aE ?_;obtain ⟨g22, H⟩ := aJ H;refine aa ?_;show AR _ _ _ _ _ [0, 1] _;refine zS rfl (fy rfl rfl g22) <| zm rfl <| ah ?_;exact Exists.intro (n13, y11 + 1) ⟨H, Nat.lt_succ_self _, aZ [] (.cons (.refl _) (.cons (.refl _) (.cons (.refl _) (.cons (.refl _) (.nil _))))) rfl⟩
   ·replace H := bb c14 H;refine AW.exit ?_;exact Exists.intro () ⟨H, aZ [] (.cons (.refl _) (.nil _)) rfl⟩
  rintro _ H;replace H : ew F a1 a2 a3 a4 a5 = some r6 := H
  unfold ew at H
  refine af ?_;obtain ⟨g24, H⟩ := aJ H;obtain ⟨g25, H⟩ := aJ H;obtain ⟨x26, e27, H⟩ := bL H;obtain ⟨x28, x29, x30, e31, H⟩ := jF H;refine dd (by kernel_rfl) ?_;show AI _ _ _ _ _ 15 (Array.replicate 15 false) _;refine zk 0 rfl (aN (n := 2) (by kernel_rfl) rfl (ab rfl)) ?_;show AI _ _ _ _ _ _ #[true, false, false, false, false, false, false, false, false, false, false, false, false, false, false] _;refine zk 1 rfl (bX aQ rfl (n := 3) (by kernel_rfl) rfl (ab rfl)) ?_;show AI _ _ _ _ _ _ #[true, true, false, false, false, false, false, false, false, false, false, false, false, false, false] _;refine zk 2 rfl (aN (n := 0) (by kernel_rfl) rfl (ab rfl)) ?_;show AI _ _ _ _ _ _ #[true, true, true, false, false, false, false, false, false, false, false, false, false, false, false] _;refine zk 3 rfl (aY aB rfl rfl) ?_;show AI _ _ _ _ _ _ #[true, true, true, true, false, false, false, false, false, false, false, false, false, false, false] _;refine zk 4 rfl (aN (n := 1) (by kernel_rfl) rfl (ab rfl)) ?_;show AI _ _ _ _ _ _ #[true, true, true, true, true, false, false, false, false, false, false, false, false, false, false] _;refine zk 5 rfl (aY ao rfl rfl) ?_;show AI _ _ _ _ _ _ #[true, true, true, true, true, true, false, false, false, false, false, false, false, false, false] _
  refine zk 6 rfl (aN (n := 1) (by kernel_rfl) rfl (ab rfl)) ?_;show AI _ _ _ _ _ _ #[true, true, true, true, true, true, true, false, false, false, false, false, false, false, false] _;refine zk 7 rfl (aY ao rfl rfl) ?_;show AI _ _ _ _ _ _ #[true, true, true, true, true, true, true, true, false, false, false, false, false, false, false] _;refine zk 8 rfl (bc ao rfl) ?_;show AI _ _ _ _ _ _ #[true, true, true, true, true, true, true, true, true, false, false, false, false, false, false] _;refine zk 9 rfl (jJ rfl rfl g24) ?_;show AI _ _ _ _ _ _ #[true, true, true, true, true, true, true, true, true, true, false, false, false, false, false] _;refine zk 10 rfl (bH (E := Enc.str) ao (by kernel_rfl) rfl rfl g25 e27) ?_;show AI _ _ _ _ _ _ #[true, true, true, true, true, true, true, true, true, true, true, false, false, false, false] _;refine zk 11 rfl (aY ai rfl rfl) ?_;show AI _ _ _ _ _ _ #[true, true, true, true, true, true, true, true, true, true, true, true, false, false, false] _;refine aL (i := 12) (by kernel_rfl) rfl rfl <| AIO.callp rfl kq rfl (jm F a1 x26 x28 x29 x30 e31) ?_;show AI _ _ _ _ _ _ #[true, true, true, true, true, true, true, true, true, true, true, true, true, false, false] _;refine zk 13 rfl (jq (r := (a3 == x28) && ((a4 == x29) && ((a5 == x30) && true))) (.inl rfl) aQ aB rfl (by kernel_rfl) (by kernel_rfl) rfl rfl rfl rfl) ?_
  show AI _ _ _ _ _ _ #[true, true, true, true, true, true, true, true, true, true, true, true, true, true, false] _;refine zk 14 rfl (asg rfl) ?_;show AI _ _ _ _ _ _ #[true, true, true, true, true, true, true, true, true, true, true, true, true, true, true] _;refine bE rfl <| aK ?_;obtain rfl := al H;exact And.intro rfl (Exists.intro _ (Exists.intro _ ⟨aO rfl (.refl _), aC [] rfl, rfl, rfl⟩))
abbrev _root_.Go.Av.cu := @Tryd.underlying38
set_option maxRecDepth 100000 in
set_option maxHeartbeats 1000000 in
theorem la (F : Nat) (a1 : Int) (a2 : List (List UInt8)) (a3 : Int) (a4 : Int) (a5 : Int) (r6 : List UInt8) (r7 : Int) (H : fe F a1 a2 a3 a4 a5 = some (r6, r7)) : ACalls Tryd.prog 16 [.agg [i64 a1, slE Enc.str a2 none, i64 a3, i64 a4, i64 a5]] [] (Ret (.tup [slE Enc.byte r6 none, i64 r7]) []) := by
 unfold fe at H
 refine aA Tryd.func16 rfl rfl ?_;show AW _ _ 37 _ _ _;refine af <| aa ?_;show AR _ _ _ _ _ [0, 1, 2] _;refine zR rfl (fQ rfl (.inr ⟨_, rfl⟩)) <| za rfl <| za rfl <| ah <| af <| af ?_;obtain ⟨x8, e9, H⟩ := eh H;refine aa ?_;show AR _ _ _ _ _ [0, 1, 2] _;refine zS rfl (bX cu rfl (n := 5) (by kernel_rfl) rfl (ab rfl)) <| aW rfl rfl (aI rfl np rfl (hO F a1 a2 a3 a4 a5 x8 e9) ?_);refine zS rfl (dE rfl) <| ah <| ax rfl (fun c10 => ?_) (fun c10 => ?_)
 ·replace H := ba c10 H;refine af <| aa ?_;show AR _ _ _ _ _ [0, 1] _;refine za rfl <| za rfl <| ah <| aK ?_;obtain ⟨rfl, rfl⟩ := eT H;exact And.intro rfl (Exists.intro _ (Exists.intro _ ⟨bk rfl (.nil _) (.refl _), aC [] rfl, rfl, rfl⟩))
 ·replace H := bb c10 H;refine aE <| af <| aa ?_;show AR _ _ _ _ _ [0] _;refine za rfl <| ah ?_
  refine gJ 4 1 5 rfl fun t11 => ?_
  show AW _ _ _ _ _ ⟨(4, slE Enc.byte [] (some t11)) :: _, _, _⟩;refine bI (X := (List UInt8) × Nat) (fun (y42, t43) => ⟨[(4, slE Enc.byte y42 (some t43))], [], [.tok t43 5]⟩) (fun (y42, t43) => ei y42 = some (r6, r7)) ?_ ?_
  ·refine af <| aa ?_;show AR _ _ _ _ _ [0, 1, 2, 3] _;refine zS rfl (aN (n := 1) (by kernel_rfl) rfl (ab rfl)) <| zS rfl (aY ao rfl rfl) <| zS rfl (bc ao rfl) <| zm rfl <| ah <| bh <| AW.loop (X := Nat × (List UInt8) × Nat × Int) (fun (n16, y12, t13, y14) => ⟨[(1, .cp [i64 a1, slE Enc.str a2 none, i64 a3, i64 a4, i64 a5]), (4, slE Enc.byte y12 (some t13)), (12, slE Enc.str a2 none), (13, i64 (a2.length : Int)), (14, i64 y14)], [], [.tok t13 5]⟩) (fun (n16, y12, t13, y14) => cw a1 a2 n16 (y12, y14) = some (r6, r7)) (fun (n16, y12, t13, y14) => n16) (F, [], t11, 0) H (aZ [0] (.cons (.refl _) (.cons (.refl _) (.cons (.refl _) (.cons (.refl _) (.cons (.refl _) (.nil _)))))) rfl) ?_;rintro ⟨n16, y12, t13, y14⟩ H;obtain ⟨n16, rfl, H⟩ := eN H;replace H : dA a1 a2 (cw a1 a2 n16) y12 y14 = some (r6, r7) := H
   unfold dA at H
   refine af <| aa ?_;show AR _ _ _ _ _ [0] _;refine zS rfl (ck rfl rfl) <| ah <| af <| ax rfl (fun c17 => ?_) (fun c17 => ?_)
   ·replace H := ba c17 H;refine aE <| af <| bh <| af ?_;obtain ⟨g18, H⟩ := aJ H;obtain ⟨x19, e20, H⟩ := bL H;refine aa ?_;show AR _ _ _ _ _ [0, 1, 2, 3, 4] _;refine zm rfl <| zS rfl (bH (E := Enc.str) ao (by kernel_rfl) rfl rfl g18 e20) <| zS rfl (aY ai rfl rfl) <| za rfl <| za rfl <| ah <| af <| aa ?_;show AR _ _ _ _ _ [0] _;refine za rfl <| ah <| bI (X := (List UInt8)) (fun y23 => ⟨[(1, .cp [i64 a1, slE Enc.str a2 none, i64 a3, i64 a4, i64 a5]), (4, slE Enc.byte y12 (some t13)), (6, S x19), (7, S y23), (12, slE Enc.str a2 none), (13, i64 (a2.length : Int)), (14, i64 y14)], [], [.tok t13 5]⟩) (fun y23 => cH a1 y12 y14 x19 (cw a1 a2 n16) y23 = some (r6, r7)) ?_ ?_
    ·refine af ?_;obtain ⟨g21, H⟩ := aJ H;refine aa ?_;show AR _ _ _ _ _ [0, 1, 2, 3, 4, 5] _;refine zm rfl <| zS rfl (fy rfl rfl g21) <| zS rfl (aN (n := 1) (by kernel_rfl) rfl (ab rfl)) <| zS rfl (aY ao rfl rfl) <| zS rfl (bc ao rfl) <| zS rfl (bw rfl rfl) <| ah <| ax rfl (fun c22 => ?_) (fun c22 => ?_)
     ·replace H := ba c22 H;refine aa ?_;show AR _ _ _ _ _ [0] _;refine za rfl <| ah ?_;exact Exists.intro ([32] : List UInt8) ⟨H, aZ [0] (.cons (.refl _) (.cons (.refl _) (.cons (.refl _) (.cons (.refl _) (.cons (.refl _) (.cons (.refl _) (.cons (.refl _) (.nil _)))))))) rfl⟩
     ·replace H := bb c22 H;refine aE ?_;exact Exists.intro ([45] : List UInt8) ⟨H, aZ [0] (.cons (.refl _) (.cons (.refl _) (.cons (.refl _) (.cons (.refl _) (.cons (.refl _) (.cons (.refl _) (.cons (.refl _) (.nil _)))))))) rfl⟩
    rintro y23 H;replace H : cH a1 y12 y14 x19 (cw a1 a2 n16) y23 = some (r6, r7) := H
    unfold cH at H
    obtain ⟨g25, H⟩ := aJ H;obtain ⟨x26, e27, H⟩ := bL H;obtain ⟨g28, H⟩ := aJ H;obtain ⟨x29, e30, H⟩ := bL H;obtain ⟨g31, H⟩ := aJ H;obtain ⟨x32, e33, H⟩ := bL H;obtain ⟨g34, H⟩ := aJ H;obtain ⟨x35, e36, H⟩ := bL H;obtain ⟨g38, H⟩ := aJ H;obtain ⟨x39, e40, H⟩ := bL H;refine aa ?_;show AR _ _ _ _ _ [0, 1, 2, 3, 4, 5, 6, 7, 8, 9, 10] _;refine zS rfl (az (av := slE _ _ _) rfl) <| zS rfl (aN (n := 0) (by kernel_rfl) rfl (ab rfl)) <| zS rfl (aY aB rfl rfl) <| aW rfl rfl (aI rfl kr rfl (show ACalls _ _ _ [] (Ret (S x26) []) from by subst e27; exact ip a1 (kH g25)) ?_);refine zm rfl <| zS rfl (g_cat rfl rfl g28 e30) <| zm rfl <| zS rfl (g_cat rfl rfl g31 e33) <| zS rfl (g_cat rfl rfl g34 e36) <| zX rfl (kD (bytes := 1) 0 ag ai rfl (by kernel_rfl) rfl rfl rfl rfl g38 e40) ?_;rintro _ _ ⟨t37, rfl, rfl⟩;refine zS rfl (aG (av := slE _ _ _) rfl) <| ah ?_;obtain ⟨g41, H⟩ := aJ H;refine aa ?_;show AR _ _ _ _ _ [0, 1] _;refine zS rfl (fy rfl rfl g41) <| zm rfl <| ah ?_;exact Exists.intro (n16, x39, t37, y14 + 1) ⟨H, Nat.lt_succ_self _, aZ [0] (.cons (.refl _) (.cons (.refl _) (.cons (.refl _) (.cons (.refl _) (.cons (.refl _) (.nil _)))))) rfl⟩
   ·replace H := bb c17 H;refine AW.exit ?_;exact Exists.intro (y12, t13) ⟨H, aZ [0] (.cons (.refl _) (.nil _)) rfl⟩
  rintro ⟨y42, t43⟩ H;replace H : ei y42 = some (r6, r7) := H
  unfold ei at H
  refine af <| aa ?_;show AR _ _ _ _ _ [0, 1, 2] _;refine zS rfl (az (av := slE _ _ _) rfl) <| zS rfl (aG (av := slE _ _ _) rfl) <| za rfl <| ah <| aK ?_;obtain ⟨rfl, rfl⟩ := eT H;exact And.intro rfl (Exists.intro _ (Exists.intro _ ⟨bk rfl (.tok _ _ _) (.refl _), aC [] rfl, rfl, rfl⟩))
set_option maxRecDepth 100000 in
set_option maxHeartbeats 1000000 in
theorem gE (F : Nat) (a1 : Bool) (rv : Res Unit) (H : cL F a1 = some rv) : ACalls Tryd.prog 35 [B a1] [] (PanOr (fun (r : Unit) => (Ret (.tup []) [])) (fun e => iE (.iface 51 (.agg #[]))) rv) := by
 unfold cL at H
 refine aA Tryd.func35 rfl rfl ?_;show AW _ _ 6 _ _ _;refine af <| aa ?_;show AR _ _ _ _ _ [0, 1] _;refine zm rfl <| zS rfl (dE rfl) <| ah <| ax rfl (fun c2 => ?_) (fun c2 => ?_)
 ·replace H := ba c2 H;obtain rfl := al H;refine aa ?_;show AR _ _ _ _ _ [0, 1, 2] _;refine zS rfl (kP (zs := []) (ps := []) (cs := []) (by kernel_rfl) rfl rfl) <| zS rfl (aP (a := .agg _) Tryd.underlying51 rfl rfl) <| aW rfl rfl (AO.panicT (c := iE (.iface 51 (.agg #[]))) rfl rfl ?_);exact And.intro rfl (Exists.intro [] ⟨Sub.nil _, rfl, rfl⟩)
 ·replace H := bb c2 H;refine aE ?_;obtain rfl := al H;exact And.intro rfl (Exists.intro _ (Exists.intro _ ⟨bg rfl, aC [] rfl, rfl, rfl⟩))
theorem dj (F : Nat) (a1 : Bool) (H : cL F a1 = some (Res.ok ())) : ACalls Tryd.prog 35 [B a1] [] (Ret (.tup []) []) := gE F a1 _ H
theorem dh (F : Nat) (a1 : Bool) (e : Int) (H : cL F a1 = some (Res.pan e)) : ACalls Tryd.prog 35 [B a1] [] (fun ae A' => ae = .pan ((fun e => iE (.iface 51 (.agg #[]))) e) ∧ A' = []) := gE F a1 _ H
set_option maxRecDepth 100000 in
set_option maxHeartbeats 1000000 in
theorem kw (F : Nat) {σ τ : Type} (T : σ → τ → List Chunk) (Tp : σ → τ → List Chunk) (k : σ → (List UInt8) → Option (σ × Option Bool)) (o : Nat) (hY : ∀ (s : σ) (t : τ) (x : List UInt8) (rv : σ × Option Bool), k s x = some rv → eX Tryd.prog o [S x] (T s t) fun ae A' => ∃ t', ae = outc (iE (.iface 51 (.agg #[]))) rv.2 ∧ A' = outT T Tp rv t') (st0 : σ) (tt0 : τ) (o1 : Nat) (a2 : List UInt8) (rs : σ) (rb : Bool) (r3 : List UInt8) (H : fp F k st0 a2 = some (rs, rb, r3)) : ACalls Tryd.prog 45 [.yl o, .pt o1 0] ([.obj o1 [slE Enc.byte a2 none]] ++ T st0 tt0) (fun e A' => ∃ tz, (rb = false ∧ e = .ret (.tup []) ∧ A' = [.obj o1 [slE Enc.byte r3 none]] ++ T rs tz) ∨ (rb = true ∧ e = .pan (iE (.iface 51 (.agg #[]))) ∧ (A' = T rs tz ∨ A' = Tp rs tz))) := by
 unfold fp at H
 refine aA Tryd.func45 rfl rfl ?_;show AW _ _ 38 _ _ _;refine bh <| AW.loop (X := Nat × (List UInt8) × σ × τ) (fun (n8, y4, y5, t6) => ⟨[(0, .yl o), (1, .pt o1 0)], [], ([.obj o1 [slE Enc.byte y4 none]] ++ T y5 t6)⟩) (fun (n8, y4, y5, t6) => cT F k n8 (y4, y5) = some (rs, rb, r3)) (fun (n8, y4, y5, t6) => n8) (F, a2, st0, tt0) H (WK.atT 1 [0] (.cons (.refl _) (.cons (.refl _) (.nil _))) rfl) ?_;rintro ⟨n8, y4, y5, t6⟩ H;obtain ⟨n8, rfl, H⟩ := eN H;replace H : cU F k (cT F k n8) y4 y5 = some (rs, rb, r3) := H
 unfold cU at H
 refine bh <| af ?_;obtain ⟨x9, e10, H⟩ := eh H;refine aa ?_;show AR _ _ _ _ _ [0, 1, 2] _;refine zR rfl (aj (i := 0) ag rfl rfl rfl rfl) <| aW rfl rfl (aI rfl ia rfl (dw F y4 none 10 x9 e10) ?_);refine za rfl <| ah <| af <| af <| aa ?_;show AR _ _ _ _ _ [0, 1] _;refine zm rfl <| zS rfl (ck rfl rfl) <| ah <| ax rfl (fun c11 => ?_) (fun c11 => ?_)
 ·replace H := ba c11 H;refine af ?_
  rcases Or.symm (kW H) with ⟨p14, e13, H⟩ | ⟨x12, e13, H⟩
  ·obtain ⟨rfl, rfl, rfl⟩ := iQ H;refine aa ?_;show AR _ _ _ _ _ [0, 1, 2, 3] _;refine zR rfl (aj (i := 0) ag rfl rfl rfl rfl) <| zS rfl (bc ag rfl) <| zS rfl (ck rfl rfl) <| aW rfl rfl (AO.callPan (c := iE (.iface 51 (.agg #[]))) [] rfl dv rfl (dh F (decide ((y4.length : Int) < 512)) p14 e13) rfl ?_);exact And.intro rfl (Exists.intro _ ⟨Sub.atT 1 [] rfl, t6, .inr ⟨rfl, rfl, .inl rfl⟩⟩)
  refine aa ?_;show AR _ _ _ _ _ [0, 1, 2, 3] _;refine zR rfl (aj (i := 0) ag rfl rfl rfl rfl) <| zS rfl (bc ag rfl) <| zS rfl (ck rfl rfl) <| aW rfl rfl (aI rfl dv rfl (dj F (decide ((y4.length : Int) < 512)) e13) ?_);refine ah <| aK ?_;obtain ⟨rfl, rfl, rfl⟩ := iQ H;exact And.intro rfl (Exists.intro _ (Exists.intro _ ⟨bg rfl, Sub.atT 1 [0] rfl, t6, .inl ⟨rfl, rfl, rfl⟩⟩))
 ·replace H := bb c11 H;refine aE <| af ?_;obtain ⟨x17, e18, H⟩ := dT H;obtain ⟨g19, H⟩ := cG H
  rcases Or.symm (kW H) with ⟨p22, e21, H⟩ | ⟨x20, e21, H⟩
  ·obtain ⟨rfl, rfl, rfl⟩ := iQ H;refine aa ?_;show AR _ _ _ _ _ [0, 1, 2, 3, 4, 5, 6, 7, 8, 9, 10, 11, 12, 13] _;refine zm rfl <| zS rfl (ck rfl rfl) <| zm rfl <| aD (l := [6, 7, 8, 9, 10, 11, 12, 13]) 17 (B ((decide (x9 < 512)) && (decide (0 < x9)))) (fun K => ?_) ?_
   ·rcases ac (decide (x9 < 512)) with h15 | h15
    ·refine zM h15 rfl <| zU h15 rfl (eM rfl rfl) <| zS rfl (aq (av := .v _) rfl h15 rfl) ?_;exact K _ 2 _ (an (bC h15)) rfl rfl
    ·refine zF h15 rfl <| zF h15 rfl <| zS rfl (ap (av := .v _) rfl h15 rfl) ?_;exact K _ 2 _ (an (bD h15)) rfl rfl
   refine zm rfl <| aD (l := [13]) 24 (B (((decide (x9 < 512)) && (decide (0 < x9))) && (decide (x17 = x9 - 1)))) (fun K => ?_) ?_
   ·rcases ac ((decide (x9 < 512)) && (decide (0 < x9))) with h16 | h16
    ·refine zT h16 rfl (AO.op rfl rfl (aj (i := 0) ag rfl rfl rfl rfl) ?_);refine zT h16 rfl (aI rfl ia rfl (dw F y4 none 13 x17 (e18 h16)) ?_);refine zM h16 rfl <| zU h16 rfl (jJ rfl rfl (g19 h16)) <| zU h16 rfl (bw rfl rfl) <| zS rfl (aq (av := .v _) rfl h16 rfl) ?_;exact K _ 5 _ (an (bC h16)) rfl rfl
    ·refine zF h16 rfl <| zF h16 rfl <| zF h16 rfl <| zF h16 rfl <| zF h16 rfl <| zS rfl (ap (av := .v _) rfl h16 rfl) ?_;exact K _ 5 _ (an (bD h16)) rfl rfl
   refine aW rfl rfl (AO.callPan (c := iE (.iface 51 (.agg #[]))) [] rfl dv rfl (dh F (((decide (x9 < 512)) && (decide (0 < x9))) && (decide (x17 = x9 - 1))) p22 e21) rfl ?_);exact And.intro rfl (Exists.intro _ ⟨Sub.atT 1 [] rfl, t6, .inr ⟨rfl, rfl, .inl rfl⟩⟩)
  refine aa ?_;show AR _ _ _ _ _ [0, 1, 2, 3, 4, 5, 6, 7, 8, 9, 10, 11, 12, 13] _;refine zm rfl <| zS rfl (ck rfl rfl) <| zm rfl <| aD (l := [6, 7, 8, 9, 10, 11, 12, 13]) 17 (B ((decide (x9 < 512)) && (decide (0 < x9)))) (fun K => ?_) ?_
  ·rcases ac (decide (x9 < 512)) with h15 | h15
   ·refine zM h15 rfl <| zU h15 rfl (eM rfl rfl) <| zS rfl (aq (av := .v _) rfl h15 rfl) ?_;exact K _ 2 _ (an (bC h15)) rfl rfl
   ·refine zF h15 rfl <| zF h15 rfl <| zS rfl (ap (av := .v _) rfl h15 rfl) ?_;exact K _ 2 _ (an (bD h15)) rfl rfl
  refine zm rfl <| aD (l := [13]) 24 (B (((decide (x9 < 512)) && (decide (0 < x9))) && (decide (x17 = x9 - 1)))) (fun K => ?_) ?_
  ·rcases ac ((decide (x9 < 512)) && (decide (0 < x9))) with h16 | h16
   ·refine zT h16 rfl (AO.op rfl rfl (aj (i := 0) ag rfl rfl rfl rfl) ?_);refine zT h16 rfl (aI rfl ia rfl (dw F y4 none 13 x17 (e18 h16)) ?_);refine zM h16 rfl <| zU h16 rfl (jJ rfl rfl (g19 h16)) <| zU h16 rfl (bw rfl rfl) <| zS rfl (aq (av := .v _) rfl h16 rfl) ?_;exact K _ 5 _ (an (bC h16)) rfl rfl
   ·refine zF h16 rfl <| zF h16 rfl <| zF h16 rfl <| zF h16 rfl <| zF h16 rfl <| zS rfl (ap (av := .v _) rfl h16 rfl) ?_;exact K _ 5 _ (an (bD h16)) rfl rfl
  refine aW rfl rfl (aI rfl dv rfl (dj F (((decide (x9 < 512)) && (decide (0 < x9))) && (decide (x17 = x9 - 1))) e21) ?_);refine ah <| af <| af ?_;obtain ⟨g23, H⟩ := aJ H;obtain ⟨g24, H⟩ := aJ H;obtain ⟨x25, e26, H⟩ := bL H;obtain ⟨x27, e28, H⟩ := eh H
  rcases bndo_s H with ⟨h30, H⟩ | ⟨x29, h30, H⟩
  ·obtain ⟨rfl, rfl, rfl⟩ := iQ H;refine aa ?_;show AR _ _ _ _ _ [0, 1, 2, 3, 4, 5, 6, 7] _;refine zS rfl (az (av := .yl _) rfl) <| zR rfl (aj (i := 0) ag rfl rfl rfl rfl) <| zm rfl <| zS rfl (jJ rfl rfl g23) <| zS rfl (mD (E := Enc.byte) ag (by kernel_rfl) rfl rfl g24 e26) <| zS rfl (cE ag bi ai rfl) <| aW rfl rfl (AO.yieldPan 1 rfl rfl rfl (hY _ _ _ _ e28) h30 fun t32 => ?_);exact And.intro rfl (Exists.intro _ ⟨Sub.atT 1 [] rfl, t32, .inr ⟨rfl, rfl, .inr rfl⟩⟩)
  refine aa ?_;show AR _ _ _ _ _ [0, 1, 2, 3, 4, 5, 6, 7] _;refine zS rfl (az (av := .yl _) rfl) <| zR rfl (aj (i := 0) ag rfl rfl rfl rfl) <| zm rfl <| zS rfl (jJ rfl rfl g23) <| zS rfl (mD (E := Enc.byte) ag (by kernel_rfl) rfl rfl g24 e26) <| zS rfl (cE ag bi ai rfl) <| aW rfl rfl (AO.yieldOk (b := x29) 1 rfl rfl rfl (hY _ _ _ _ e28) h30 fun t31 => ?_);show AR _ _ _ _ _ _ ⟨_, _, ([.obj o1 [slE Enc.byte y4 none]] ++ T x27.1 t31)⟩;refine zS rfl (dE rfl) <| ah <| ax rfl (fun c33 => ?_) (fun c33 => ?_)
  ·replace H := ba c33 H;refine aK ?_;obtain ⟨rfl, rfl, rfl⟩ := iQ H;exact And.intro rfl (Exists.intro _ (Exists.intro _ ⟨bg rfl, Sub.atT 1 [0] rfl, t31, .inl ⟨rfl, rfl, rfl⟩⟩))
  ·replace H := bb c33 H;refine aE ?_;obtain ⟨g34, H⟩ := aJ H;obtain ⟨g35, H⟩ := aJ H;obtain ⟨x36, e37, H⟩ := bL H;refine aa ?_;show AR _ _ _ _ _ [0, 1, 2, 3, 4] _;refine zR rfl (aj (i := 0) ag rfl rfl rfl rfl) <| zm rfl <| zS rfl (fy rfl rfl g34) <| zS rfl (cj (E := Enc.byte) ag (by kernel_rfl) rfl rfl g35 e37) <| s0 rfl rfl (ay (i := 0) (c := slE _ _ _) (by kernel_rfl) rfl rfl rfl rfl (ab rfl)) <| ah ?_;exact Exists.intro (n8, x36, x27.1, t31) ⟨H, Nat.lt_succ_self _, WK.atT 1 [0] (.cons (.refl _) (.cons (.refl _) (.nil _))) rfl⟩
set_option maxRecDepth 100000 in
set_option maxHeartbeats 1000000 in
theorem kZ (F : Nat) (a1 : List UInt8) (H : fP F a1 = some ()) : ACalls Tryd.prog 34 [slE Enc.byte a1 none] [] (fun e A' => ∃ ob1 : Nat, e = .ret (.fn (.func 45) [] [.pt ob1 0]) ∧ A' = [.obj ob1 [slE Enc.byte a1 none]]) := by
 unfold fP at H
 refine aA Tryd.func34 rfl rfl ?_;show AW _ _ 4 _ _ _;refine af <| aa ?_;show AR _ _ _ _ _ [0, 1] _;refine zX rfl (kM rfl (.inl rfl)) ?_;rintro _ _ ⟨o2, rfl, rfl⟩;refine za rfl <| ah <| af <| aa ?_;show AR _ _ _ _ _ [0, 1] _;refine zS rfl (ej rfl rfl) <| zS rfl (aG (av := .fn _ _ _) rfl) <| ah <| aK ?_;exact And.intro rfl (Exists.intro _ (Exists.intro _ ⟨aO rfl (.refl _), aC [0] rfl, o2, rfl, rfl⟩))
abbrev _root_.Go.Av.aH := @Tryd.underlying27
set_option maxRecDepth 100000 in
set_option maxHeartbeats 1000000 in
theorem lW (F : Nat) (a1 : Int) (a2 : List (List UInt8)) (a3 : Int) (a4 : Int) (a5 : Int) (a6 : Int) (o7 : Nat) (a8 : List (Int × (List (List UInt8)) × Int × Int × Int)) (t9 : Nat) (o10 : Nat) (a11 : Int) (r12 : List (Int × (List (List UInt8)) × Int × Int × Int)) (r14 : Int) (H : gM F a1 a2 a3 a4 a5 a6 a8 a11 = some (r12, r14)) : ACalls Tryd.prog 25 [.agg [i64 a1, slE Enc.str a2 none, i64 a3, i64 a4, i64 a5], i64 a6, .pt o7 0, .pt o10 0] [.obj o7 [slE (ak Enc.int (ak (Enc.sl Enc.str) (ak Enc.int (ak Enc.int Enc.int)))) a8 (some t9)], .tok t9 38, .obj o10 [i64 a11]] (fun e A' => e = .ret (.tup []) ∧ ∃ t13, A' = [.obj o7 [slE (ak Enc.int (ak (Enc.sl Enc.str) (ak Enc.int (ak Enc.int Enc.int)))) r12 (some t13)], .tok t13 38, .obj o10 [i64 r14]]) := by
 unfold gM at H
 refine aA Tryd.func25 rfl rfl ?_;show AW _ _ 11 _ _ _;refine af <| aa ?_;show AR _ _ _ _ _ [0] _;refine zR rfl (fQ rfl (.inr ⟨_, rfl⟩)) <| ah ?_;obtain ⟨g16, H⟩ := aJ H;obtain ⟨x17, e18, H⟩ := bL H;refine aa ?_;show AR _ _ _ _ _ [0, 1, 2, 3, 4, 5, 6] _;refine zR rfl (aj (i := 0) aH rfl rfl rfl rfl) <| zS rfl (bX cu rfl (n := 5) (by kernel_rfl) rfl (ab rfl)) <| zR rfl (kA (E := (ak Enc.int (ak (Enc.sl Enc.str) (ak Enc.int (ak Enc.int Enc.int))))) (bytes := 56) (zs := [.int .i64 0, .slice none 0 0, .int .i64 0, .int .i64 0, .int .i64 0]) (l := ([(a1, a2, (a3, a4, a5))] : List (Int × (List (List UInt8)) × Int × Int × Int))) aH (by kernel_rfl) (by kernel_rfl) rfl rfl rfl rfl rfl) <| zX rfl (dX (E := (ak Enc.int (ak (Enc.sl Enc.str) (ak Enc.int (ak Enc.int Enc.int))))) (bytes := 56) 1 aH aH rfl (by kernel_rfl) rfl rfl rfl rfl g16 e18) ?_;rintro _ _ ⟨t15, rfl, rfl⟩;refine zm rfl <| s0 rfl rfl (ay (i := 0) (c := slE _ _ _) (by kernel_rfl) rfl rfl rfl rfl (ab rfl)) <| s0 rfl rfl (ay (i := 2) (c := .v _) (by kernel_rfl) rfl rfl rfl rfl (ab rfl)) <| ah ?_;obtain ⟨rfl, rfl⟩ := eT H;exact And.intro rfl (Exists.intro _ (Exists.intro _ ⟨bg rfl, aC [0, 0, 0] rfl, rfl, t15, rfl⟩))
set_option maxRecDepth 100000 in
set_option maxHeartbeats 1000000 in
theorem kb (F : Nat) (a1 : List UInt8) (q2 : Option Nat) (o3 : Nat) (a4 : List (Int × (List (List UInt8)) × Int × Int × Int)) (t5 : Nat) (o6 : Nat) (a7 : Int) (r8 : List (Int × (List (List UInt8)) × Int × Int × Int)) (r10 : Int) (rb : Bool) (H : fA F a1 a4 a7 = some (r8, r10, rb)) : ACalls Tryd.prog 24 [slE Enc.byte a1 q2, .fn (.func 25) [] [.pt o3 0, .pt o6 0]] [.obj o3 [slE (ak Enc.int (ak (Enc.sl Enc.str) (ak Enc.int (ak Enc.int Enc.int)))) a4 (some t5)], .tok t5 38, .obj o6 [i64 a7]] (fun e A' => ∃ t9, A' = [.obj o3 [slE (ak Enc.int (ak (Enc.sl Enc.str) (ak Enc.int (ak Enc.int Enc.int)))) r8 (some t9)], .tok t9 38, .obj o6 [i64 r10]] ∧ ((rb = false ∧ e = .ret (.tup [])) ∨ (rb = true ∧ e = .pan (iE (.iface 51 (.agg #[])))))) := by
 unfold fA at H
 refine hH Tryd.func24 rfl rfl ?_;show AWV _ 87 _ _ _;refine AWV.seq <| AWV.of <| aa ?_;show AR _ _ _ _ _ [0] _;refine zR rfl (fQ rfl (.inl rfl)) <| ah ?_;show AWV _ _ _ _ _;refine AWV.seq <| AWV.of <| aa ?_;show AR _ _ _ _ _ [0] _;refine zX rfl (dM (zs := [.int .i64 0, .slice none 0 0, .int .i64 0, .int .i64 0, .int .i64 0]) (by kernel_rfl)) ?_;rintro _ _ ⟨o11, rfl, rfl⟩;refine ah ?_;show AWV _ _ _ _ _
 refine AWV.nil_objAt 0 1 1 9 rfl rfl fun t12 => ?_
 show AWV _ _ _ _ ⟨_, _, [.tok t12 9, .obj o11 [i64 0, slE Enc.str [] (some t12), i64 0, i64 0, i64 0], .obj o3 [slE (ak Enc.int (ak (Enc.sl Enc.str) (ak Enc.int (ak Enc.int Enc.int)))) a4 (some t5)], .tok t5 38, .obj o6 [i64 a7]]⟩;refine AWV.seq <| AWV.of <| aa ?_;show AR _ _ _ _ _ [0, 1] _;refine zX rfl (dM (zs := [.int .i64 0]) (by kernel_rfl)) ?_;rintro _ _ ⟨o13, rfl, rfl⟩;refine s0 rfl rfl (ay (i := 0) (c := .v _) (by kernel_rfl) rfl rfl rfl rfl (ab rfl)) <| ah ?_;show AWV _ _ _ _ _;refine AWV.seq <| AWV.of ?_;obtain ⟨_, e14, H⟩ := eh H;refine aa ?_;show AR _ _ _ _ _ [0, 1] _;refine zS rfl (az (av := slE _ _ _) rfl) <| aW rfl rfl (AO.callAt [] rfl ni rfl (kG (.cons (.tok _ _ _) (.nil)) (kZ F a1 e14)) rfl (fun c A' h => by obtain ⟨_, h, _⟩ := h; cases h) ?_)
 rintro av A' ⟨o15, h, rfl⟩; cases h
 refine ah ?_;show AWV _ _ _ _ _;refine AWV.block ?_;obtain ⟨x79, x80, x81, e82, H⟩ := jF H;refine lE (α := List UInt8) (σ := Int × Int × (List (List UInt8)) × (List (Int × (List (List UInt8)) × Int × Int × Int)) × Int) (τ := Nat × Nat) (iE (.iface 51 (.agg #[]))) (fun x => [S x]) (fun s t => [.obj o13 [i64 s.1], .obj o11 [i64 s.2.1, slE Enc.str s.2.2.1 (some t.1), i64 0, i64 0, i64 0], .obj o3 [slE (ak Enc.int (ak (Enc.sl Enc.str) (ak Enc.int (ak Enc.int Enc.int)))) s.2.2.2.1 (some t.2)], .obj o6 [i64 s.2.2.2.2], .tok t.1 9, .tok t.2 38]) (fun _ => none) (fun s x => dn F s.1 s.2.1 s.2.2.1 s.2.2.2.1 s.2.2.2.2 x) (0, 0, [], a4, a7) (t12, t5) x79 x80 [0] [0, 1, 1, 2, 0, 0] rfl ne (fun _ => rfl) (by decide) rfl rfl rfl (fun o T' Tp hY => kw F T' Tp _ o hY _ _ o15 a1 x79 x80 x81 e82) ?_ ?_ ?_
 ·rintro l ⟨y16, y17, y18, y20, y22⟩ ⟨t19, t21⟩ x24 rv H;replace H : dn F y16 y17 y18 y20 y22 x24 = some rv := H
  unfold dn at H
  refine ⟨rfl, ?_⟩;show AW _ _ _ _ _ ⟨(11, S x24) :: _, [], _⟩;refine aa ?_;show AR _ _ _ _ _ [0] _;refine za rfl <| ah <| bh <| af ?_;obtain ⟨g26, H⟩ := cG H;obtain ⟨x27, e28, H⟩ := bL H;obtain ⟨g30, H⟩ := cG H;obtain ⟨x31, e32, H⟩ := bL H
  rcases Or.symm (kW H) with ⟨p36, e35, H⟩ | ⟨x34, e35, H⟩
  ·obtain rfl := al H;refine aa ?_;show AR _ _ _ _ _ [0, 1, 2, 3, 4, 5, 6, 7, 8, 9, 10, 11, 12, 13, 14, 15, 16, 17, 18, 19] _;refine zm rfl <| zS rfl (bt ai rfl) <| zS rfl (dS rfl rfl) <| zm rfl <| aD (l := [13, 14, 15, 16, 17, 18, 19]) 24 (B ((decide (4 ≤ (x24.length : Int))) && ((decide (x27 = 45)) || (decide (x31 = 32))))) (fun K => ?_) ?_
   ·rcases ac (decide (4 ≤ (x24.length : Int))) with h25 | h25
    ·refine zM h25 rfl <| zU h25 rfl (aM ai rfl rfl (g26 h25) e28) <| zU h25 rfl (dH (a := x27) (b := 45) rfl rfl) <| zM h25 rfl <| aD (l := [12, 13, 14, 15, 16, 17, 18, 19]) 23 (B ((decide (x27 = 45)) || (decide (x31 = 32)))) (fun K => ?_) ?_
     ·rcases ac (decide (x27 = 45)) with h29 | h29
      ·refine zF h29 rfl <| zF h29 rfl <| zF h29 rfl <| zU h25 rfl (aq (av := .v _) rfl h29 rfl) ?_;exact K _ 3 _ (an (fM h29)) rfl rfl
      ·refine zM h29 rfl <| zU h29 rfl (aM ai rfl rfl (g30 (eQ h25 (nf h29))) e32) <| zU h29 rfl (dH (a := x31) (b := 32) rfl rfl) <| zU h25 rfl (ap (av := .v _) rfl h29 rfl) ?_;exact K _ 3 _ (an (fN h29)) rfl rfl
     refine zS rfl (aq (av := .v _) rfl h25 rfl) ?_;exact K _ 5 _ (an (bC h25)) rfl rfl
    ·refine zF h25 rfl <| zF h25 rfl <| zF h25 rfl <| zF h25 rfl <| gU rfl rfl rfl rfl rfl <| gU rfl rfl rfl rfl rfl <| gU rfl rfl rfl rfl rfl <| zF h25 rfl <| zS rfl (ap (av := .v _) rfl h25 rfl) ?_;exact K _ 8 _ (an (bD h25)) rfl rfl
   refine zm rfl <| aD (l := [19]) 30 (B (((decide (4 ≤ (x24.length : Int))) && ((decide (x27 = 45)) || (decide (x31 = 32)))) && (decide ((y18.length : Int) < 100)))) (fun K => ?_) ?_
   ·rcases ac ((decide (4 ≤ (x24.length : Int))) && ((decide (x27 = 45)) || (decide (x31 = 32)))) with h33 | h33
    ·refine zU h33 rfl (am (n := 1) (by kernel_rfl) rfl) <| zT h33 rfl (AO.op rfl rfl (aj (i := 1) ao rfl rfl rfl rfl) ?_);refine zU h33 rfl (bc ao rfl) <| zU h33 rfl (ck rfl rfl) <| zS rfl (aq (av := .v _) rfl h33 rfl) ?_;exact K _ 4 _ (an (bC h33)) rfl rfl
    ·refine zF h33 rfl <| zF h33 rfl <| zF h33 rfl <| zF h33 rfl <| zS rfl (ap (av := .v _) rfl h33 rfl) ?_;exact K _ 4 _ (an (bD h33)) rfl rfl
   refine aW rfl rfl (AO.callPan (c := iE (.iface 51 (.agg #[]))) [] rfl dv rfl (dh F (((decide (4 ≤ (x24.length : Int))) && ((decide (x27 = 45)) || (decide (x31 = 32)))) && (decide ((y18.length : Int) < 100))) p36 e35) rfl ?_);exact ⟨rfl, rfl, rfl, (t19, t21), aC [0, 0, 0, 0, 0, 0] rfl⟩
  refine aa ?_;show AR _ _ _ _ _ [0, 1, 2, 3, 4, 5, 6, 7, 8, 9, 10, 11, 12, 13, 14, 15, 16, 17, 18, 19] _;refine zm rfl <| zS rfl (bt ai rfl) <| zS rfl (dS rfl rfl) <| zm rfl <| aD (l := [13, 14, 15, 16, 17, 18, 19]) 24 (B ((decide (4 ≤ (x24.length : Int))) && ((decide (x27 = 45)) || (decide (x31 = 32))))) (fun K => ?_) ?_
  ·rcases ac (decide (4 ≤ (x24.length : Int))) with h25 | h25
   ·refine zM h25 rfl <| zU h25 rfl (aM ai rfl rfl (g26 h25) e28) <| zU h25 rfl (dH (a := x27) (b := 45) rfl rfl) <| zM h25 rfl <| aD (l := [12, 13, 14, 15, 16, 17, 18, 19]) 23 (B ((decide (x27 = 45)) || (decide (x31 = 32)))) (fun K => ?_) ?_
    ·rcases ac (decide (x27 = 45)) with h29 | h29
     ·refine zF h29 rfl <| zF h29 rfl <| zF h29 rfl <| zU h25 rfl (aq (av := .v _) rfl h29 rfl) ?_;exact K _ 3 _ (an (fM h29)) rfl rfl
     ·refine zM h29 rfl <| zU h29 rfl (aM ai rfl rfl (g30 (eQ h25 (nf h29))) e32) <| zU h29 rfl (dH (a := x31) (b := 32) rfl rfl) <| zU h25 rfl (ap (av := .v _) rfl h29 rfl) ?_;exact K _ 3 _ (an (fN h29)) rfl rfl
    refine zS rfl (aq (av := .v _) rfl h25 rfl) ?_;exact K _ 5 _ (an (bC h25)) rfl rfl
   ·refine zF h25 rfl <| zF h25 rfl <| zF h25 rfl <| zF h25 rfl <| gU rfl rfl rfl rfl rfl <| gU rfl rfl rfl rfl rfl <| gU rfl rfl rfl rfl rfl <| zF h25 rfl <| zS rfl (ap (av := .v _) rfl h25 rfl) ?_;exact K _ 8 _ (an (bD h25)) rfl rfl
  refine zm rfl <| aD (l := [19]) 30 (B (((decide (4 ≤ (x24.length : Int))) && ((decide (x27 = 45)) || (decide (x31 = 32)))) && (decide ((y18.length : Int) < 100)))) (fun K => ?_) ?_
  ·rcases ac ((decide (4 ≤ (x24.length : Int))) && ((decide (x27 = 45)) || (decide (x31 = 32)))) with h33 | h33
   ·refine zU h33 rfl (am (n := 1) (by kernel_rfl) rfl) <| zT h33 rfl (AO.op rfl rfl (aj (i := 1) ao rfl rfl rfl rfl) ?_);refine zU h33 rfl (bc ao rfl) <| zU h33 rfl (ck rfl rfl) <| zS rfl (aq (av := .v _) rfl h33 rfl) ?_;exact K _ 4 _ (an (bC h33)) rfl rfl
   ·refine zF h33 rfl <| zF h33 rfl <| zF h33 rfl <| zF h33 rfl <| zS rfl (ap (av := .v _) rfl h33 rfl) ?_;exact K _ 4 _ (an (bD h33)) rfl rfl
  refine aW rfl rfl (aI rfl dv rfl (dj F (((decide (4 ≤ (x24.length : Int))) && ((decide (x27 = 45)) || (decide (x31 = 32)))) && (decide ((y18.length : Int) < 100))) e35) ?_);refine ah <| af ?_;obtain ⟨g37, H⟩ := aJ H;obtain ⟨x38, e39, H⟩ := bL H;obtain ⟨x40, x41, e42, H⟩ := fc H;refine aa ?_;show AR _ _ _ _ _ [0, 1, 2, 3, 4, 5, 6, 7] _;refine zm rfl <| zS rfl (g_to_str ai rfl rfl g37 e39) <| aW rfl rfl (aI rfl ko rfl (gG F x38 x40 x41 e42) ?_);refine zS rfl (az (av := .tup _) rfl) <| zS rfl (aF (av := .v _) rfl rfl) <| zS rfl (aF (av := .v _) rfl rfl) <| za rfl <| za rfl <| ah <| af ?_
  rcases Or.symm (kW H) with ⟨p49, e48, H⟩ | ⟨x47, e48, H⟩
  ·obtain rfl := al H;refine aa ?_;show AR _ _ _ _ _ [0, 1, 2, 3, 4, 5, 6, 7, 8, 9, 10, 11, 12, 13, 14, 15, 16, 17, 18, 19, 20, 21] _;refine zm rfl <| zm rfl <| aD (l := [5, 6, 7, 8, 9, 10, 11, 12, 13, 14, 15, 16, 17, 18, 19, 20, 21]) 42 (B (x41 && (decide (200 ≤ x40)))) (fun K => ?_) ?_
   ·rcases ac x41 with h43 | h43
    ·refine zM h43 rfl <| zU h43 rfl (dS rfl rfl) <| zS rfl (aq (av := .v _) rfl h43 rfl) ?_;exact K _ 2 _ (an (bC h43)) rfl rfl
    ·refine zF h43 rfl <| zF h43 rfl <| zS rfl (ap (av := .v _) rfl h43 rfl) ?_;exact K _ 2 _ (an (bD h43)) rfl rfl
   refine zm rfl <| aD (l := [9, 10, 11, 12, 13, 14, 15, 16, 17, 18, 19, 20, 21]) 46 (B ((x41 && (decide (200 ≤ x40))) && (decide (x40 ≤ 599)))) (fun K => ?_) ?_
   ·rcases ac (x41 && (decide (200 ≤ x40))) with h44 | h44
    ·refine zM h44 rfl <| zU h44 rfl (dk rfl rfl) <| zS rfl (aq (av := .v _) rfl h44 rfl) ?_;exact K _ 2 _ (an (bC h44)) rfl rfl
    ·refine zF h44 rfl <| zF h44 rfl <| zS rfl (ap (av := .v _) rfl h44 rfl) ?_;exact K _ 2 _ (an (bD h44)) rfl rfl
   refine zm rfl <| aD (l := [21]) 58 (B (((x41 && (decide (200 ≤ x40))) && (decide (x40 ≤ 599))) && ((decide ((y18.length : Int) = 0)) || (decide (x40 = y17))))) (fun K => ?_) ?_
   ·rcases ac ((x41 && (decide (200 ≤ x40))) && (decide (x40 ≤ 599))) with h45 | h45
    ·refine zU h45 rfl (am (n := 1) (by kernel_rfl) rfl) <| zT h45 rfl (AO.op rfl rfl (aj (i := 1) ao rfl rfl rfl rfl) ?_);refine zU h45 rfl (bc ao rfl) <| zU h45 rfl (bw rfl rfl) <| zM h45 rfl <| aD (l := [20, 21]) 57 (B ((decide ((y18.length : Int) = 0)) || (decide (x40 = y17)))) (fun K => ?_) ?_
     ·rcases ac (decide ((y18.length : Int) = 0)) with h46 | h46
      ·refine zF h46 rfl <| zF h46 rfl <| zF h46 rfl <| zF h46 rfl <| zU h45 rfl (aq (av := .v _) rfl h46 rfl) ?_;exact K _ 4 _ (an (fM h46)) rfl rfl
      ·refine zM h46 rfl <| zU h46 rfl (am (n := 0) (by kernel_rfl) rfl) <| zT h46 rfl (AO.op rfl rfl (aj (i := 1) aB rfl rfl rfl rfl) ?_);refine zU h46 rfl (bw rfl rfl) <| zU h45 rfl (ap (av := .v _) rfl h46 rfl) ?_;exact K _ 4 _ (an (fN h46)) rfl rfl
     refine zS rfl (aq (av := .v _) rfl h45 rfl) ?_;exact K _ 6 _ (an (bC h45)) rfl rfl
    ·refine zF h45 rfl <| zF h45 rfl <| zF h45 rfl <| zF h45 rfl <| zF h45 rfl <| gU rfl rfl rfl rfl rfl <| gU rfl rfl rfl rfl rfl <| gU rfl rfl rfl rfl rfl <| gU rfl rfl rfl rfl rfl <| zF h45 rfl <| zS rfl (ap (av := .v _) rfl h45 rfl) ?_;exact K _ 10 _ (an (bD h45)) rfl rfl
   refine aW rfl rfl (AO.callPan (c := iE (.iface 51 (.agg #[]))) [] rfl dv rfl (dh F (((x41 && (decide (200 ≤ x40))) && (decide (x40 ≤ 599))) && ((decide ((y18.length : Int) = 0)) || (decide (x40 = y17)))) p49 e48) rfl ?_);exact ⟨rfl, rfl, rfl, (t19, t21), aC [0, 0, 0, 0, 0, 0] rfl⟩
  refine aa ?_;show AR _ _ _ _ _ [0, 1, 2, 3, 4, 5, 6, 7, 8, 9, 10, 11, 12, 13, 14, 15, 16, 17, 18, 19, 20, 21] _;refine zm rfl <| zm rfl <| aD (l := [5, 6, 7, 8, 9, 10, 11, 12, 13, 14, 15, 16, 17, 18, 19, 20, 21]) 42 (B (x41 && (decide (200 ≤ x40)))) (fun K => ?_) ?_
  ·rcases ac x41 with h43 | h43
   ·refine zM h43 rfl <| zU h43 rfl (dS rfl rfl) <| zS rfl (aq (av := .v _) rfl h43 rfl) ?_;exact K _ 2 _ (an (bC h43)) rfl rfl
   ·refine zF h43 rfl <| zF h43 rfl <| zS rfl (ap (av := .v _) rfl h43 rfl) ?_;exact K _ 2 _ (an (bD h43)) rfl rfl
  refine zm rfl <| aD (l := [9, 10, 11, 12, 13, 14, 15, 16, 17, 18, 19, 20, 21]) 46 (B ((x41 && (decide (200 ≤ x40))) && (decide (x40 ≤ 599)))) (fun K => ?_) ?_
  ·rcases ac (x41 && (decide (200 ≤ x40))) with h44 | h44
   ·refine zM h44 rfl <| zU h44 rfl (dk rfl rfl) <| zS rfl (aq (av := .v _) rfl h44 rfl) ?_;exact K _ 2 _ (an (bC h44)) rfl rfl
   ·refine zF h44 rfl <| zF h44 rfl <| zS rfl (ap (av := .v _) rfl h44 rfl) ?_;exact K _ 2 _ (an (bD h44)) rfl rfl
  refine zm rfl <| aD (l := [21]) 58 (B (((x41 && (decide (200 ≤ x40))) && (decide (x40 ≤ 599))) && ((decide ((y18.length : Int) = 0)) || (decide (x40 = y17))))) (fun K => ?_) ?_
  ·rcases ac ((x41 && (decide (200 ≤ x40))) && (decide (x40 ≤ 599))) with h45 | h45
   ·refine zU h45 rfl (am (n := 1) (by kernel_rfl) rfl) <| zT h45 rfl (AO.op rfl rfl (aj (i := 1) ao rfl rfl rfl rfl) ?_);refine zU h45 rfl (bc ao rfl) <| zU h45 rfl (bw rfl rfl) <| zM h45 rfl <| aD (l := [20, 21]) 57 (B ((decide ((y18.length : Int) = 0)) || (decide (x40 = y17)))) (fun K => ?_) ?_
    ·rcases ac (decide ((y18.length : Int) = 0)) with h46 | h46
     ·refine zF h46 rfl <| zF h46 rfl <| zF h46 rfl <| zF h46 rfl <| zU h45 rfl (aq (av := .v _) rfl h46 rfl) ?_;exact K _ 4 _ (an (fM h46)) rfl rfl
     ·refine zM h46 rfl <| zU h46 rfl (am (n := 0) (by kernel_rfl) rfl) <| zT h46 rfl (AO.op rfl rfl (aj (i := 1) aB rfl rfl rfl rfl) ?_);refine zU h46 rfl (bw rfl rfl) <| zU h45 rfl (ap (av := .v _) rfl h46 rfl) ?_;exact K _ 4 _ (an (fN h46)) rfl rfl
    refine zS rfl (aq (av := .v _) rfl h45 rfl) ?_;exact K _ 6 _ (an (bC h45)) rfl rfl
   ·refine zF h45 rfl <| zF h45 rfl <| zF h45 rfl <| zF h45 rfl <| zF h45 rfl <| gU rfl rfl rfl rfl rfl <| gU rfl rfl rfl rfl rfl <| gU rfl rfl rfl rfl rfl <| gU rfl rfl rfl rfl rfl <| zF h45 rfl <| zS rfl (ap (av := .v _) rfl h45 rfl) ?_;exact K _ 10 _ (an (bD h45)) rfl rfl
  refine aW rfl rfl (aI rfl dv rfl (dj F (((x41 && (decide (200 ≤ x40))) && (decide (x40 ≤ 599))) && ((decide ((y18.length : Int) = 0)) || (decide (x40 = y17)))) e48) ?_);refine ah <| bI (X := (List (List UInt8)) × Nat) (fun (y58, t59) => ⟨[(3, .cp [.fn (.func 25) [] [.pt o3 0, .pt o6 0]]), (4, .pt o11 0), (5, .pt o13 0), (6, S x24), (7, i64 x40)], [], [.obj o13 [i64 y16], .obj o11 [i64 x40, slE Enc.str y58 (some t59), i64 0, i64 0, i64 0], .obj o3 [slE (ak Enc.int (ak (Enc.sl Enc.str) (ak Enc.int (ak Enc.int Enc.int)))) y20 (some t21)], .obj o6 [i64 y22], .tok t59 9, .tok t21 38]⟩) (fun (y58, t59) => et F y16 y20 y22 x24 x40 y58 = some rv) ?_ ?_
  ·obtain ⟨g50, H⟩ := aJ H;obtain ⟨x51, e52, H⟩ := bL H;obtain ⟨g54, H⟩ := aJ H;obtain ⟨x55, e56, H⟩ := bL H;refine iL (by kernel_rfl) (by kernel_rfl) ?_;show AI _ _ _ _ _ 11 (Array.replicate 11 false) _;refine zk 0 rfl (mv rfl) ?_;show AI _ _ _ _ _ _ #[true, false, false, false, false, false, false, false, false, false, false] _;refine zk 1 rfl (am (n := 1) (by kernel_rfl) rfl) ?_;show AI _ _ _ _ _ _ #[true, true, false, false, false, false, false, false, false, false, false] _;refine zk 3 rfl (mv rfl) ?_;show AI _ _ _ _ _ _ #[true, true, false, true, false, false, false, false, false, false, false] _;refine zk 4 rfl (dq ai rfl rfl g50 e52) ?_;show AI _ _ _ _ _ _ #[true, true, false, true, true, false, false, false, false, false, false] _;refine dG (i := 2) (j := 5) (by kernel_rfl) rfl rfl rfl rfl ?_ ?_
   ·refine aX rfl (aj (i := 1) ao rfl rfl rfl rfl) ?_;show AI _ _ _ _ _ _ #[true, true, true, true, true, false, false, false, false, false, false] _;refine zk 7 rfl (am (n := 0) (by kernel_rfl) rfl) ?_;show AI _ _ _ _ _ _ #[true, true, true, true, true, false, false, true, false, false, false] _;refine aL (i := 5) (by kernel_rfl) rfl rfl <| aX rfl (jr (E := Enc.str) (bytes := 16) (xs := [.tmp 64]) (l := ([x51] : List (List UInt8))) ao (by kernel_rfl) rfl rfl (by decide) rfl rfl) ?_;show AI _ _ _ _ _ _ #[true, true, true, true, true, true, false, true, false, false, false] _;refine aL (i := 6) (by kernel_rfl) rfl rfl <| AIO.opx rfl (dX (E := Enc.str) (bytes := 16) 4 ao ao rfl (by kernel_rfl) rfl rfl rfl rfl g54 e56) ?_;rintro _ _ ⟨t53, rfl, rfl⟩;show AI _ _ _ _ _ _ #[true, true, true, true, true, true, true, true, false, false, false] _;refine aL (i := 8) (by kernel_rfl) rfl rfl <| bJ (ay (i := 1) (c := .v _) (by kernel_rfl) rfl rfl rfl rfl (ab rfl)) ?_;show AI _ _ _ _ _ _ #[true, true, true, true, true, true, true, true, true, false, false] _;refine zk 9 rfl (am (n := 1) (by kernel_rfl) rfl) ?_;show AI _ _ _ _ _ _ #[true, true, true, true, true, true, true, true, true, true, false] _;refine aL (i := 10) (by kernel_rfl) rfl rfl <| bJ (ay (i := 1) (c := slE _ _ _) (by kernel_rfl) rfl rfl rfl rfl (ab rfl)) ?_
    show AI _ _ _ _ _ _ #[true, true, true, true, true, true, true, true, true, true, true] _;refine bE rfl ?_;exact Exists.intro (x55, t53) ⟨H, aZ [0, 0, 0, 0, 0, 0] (.cons (.refl _) (.cons (.refl _) (.cons (.refl _) (.cons (.refl _) (.cons (.refl _) (.nil _)))))) rfl⟩
   ·refine aX rfl (jr (E := Enc.str) (bytes := 16) (xs := [.tmp 64]) (l := ([x51] : List (List UInt8))) ao (by kernel_rfl) rfl rfl (by decide) rfl rfl) ?_;show AI _ _ _ _ _ _ #[true, true, false, true, true, true, false, false, false, false, false] _;refine aL (i := 2) (by kernel_rfl) rfl rfl <| aX rfl (aj (i := 1) ao rfl rfl rfl rfl) ?_;show AI _ _ _ _ _ _ #[true, true, true, true, true, true, false, false, false, false, false] _;refine zk 7 rfl (am (n := 0) (by kernel_rfl) rfl) ?_;show AI _ _ _ _ _ _ #[true, true, true, true, true, true, false, true, false, false, false] _;refine aL (i := 6) (by kernel_rfl) rfl rfl <| AIO.opx rfl (dX (E := Enc.str) (bytes := 16) 4 ao ao rfl (by kernel_rfl) rfl rfl rfl rfl g54 e56) ?_;rintro _ _ ⟨t57, rfl, rfl⟩;show AI _ _ _ _ _ _ #[true, true, true, true, true, true, true, true, false, false, false] _;refine aL (i := 8) (by kernel_rfl) rfl rfl <| bJ (ay (i := 1) (c := .v _) (by kernel_rfl) rfl rfl rfl rfl (ab rfl)) ?_;show AI _ _ _ _ _ _ #[true, true, true, true, true, true, true, true, true, false, false] _;refine zk 9 rfl (am (n := 1) (by kernel_rfl) rfl) ?_;show AI _ _ _ _ _ _ #[true, true, true, true, true, true, true, true, true, true, false] _;refine aL (i := 10) (by kernel_rfl) rfl rfl <| bJ (ay (i := 1) (c := slE _ _ _) (by kernel_rfl) rfl rfl rfl rfl (ab rfl)) ?_
    show AI _ _ _ _ _ _ #[true, true, true, true, true, true, true, true, true, true, true] _;refine bE rfl ?_;exact Exists.intro (x55, t57) ⟨H, aZ [0, 0, 0, 0, 0, 0] (.cons (.refl _) (.cons (.refl _) (.cons (.refl _) (.cons (.refl _) (.cons (.refl _) (.nil _)))))) rfl⟩
  rintro ⟨y58, t59⟩ H;replace H : et F y16 y20 y22 x24 x40 y58 = some rv := H
  unfold et at H
  refine af ?_;obtain ⟨g61, H⟩ := aJ H;obtain ⟨g62, H⟩ := aJ H;refine aa ?_;show AR _ _ _ _ _ [0, 1, 2, 3, 4, 5] _;refine zR rfl (aj (i := 0) aB rfl rfl rfl rfl) <| zm rfl <| zS rfl (bt ai rfl) <| zS rfl (fy rfl rfl g61) <| zS rfl (fy rfl rfl g62) <| s0 rfl rfl (ay (i := 0) (c := .v _) (by kernel_rfl) rfl rfl rfl rfl (ab rfl)) <| ah <| af ?_;obtain ⟨g63, H⟩ := aJ H;obtain ⟨x64, e65, H⟩ := bL H;refine aa ?_;show AR _ _ _ _ _ [0, 1, 2] _;refine zm rfl <| zS rfl (aM ai rfl rfl g63 e65) <| zS rfl (dH (a := x64) (b := 32) rfl rfl) <| ah <| ax rfl (fun c66 => ?_) (fun c66 => ?_)
  ·replace H := ba c66 H;refine af ?_;obtain ⟨g67, H⟩ := aJ H;obtain ⟨x68, e69, H⟩ := bL H;obtain ⟨x70, x71, x72, e73, H⟩ := jF H;refine aa ?_;show AR _ _ _ _ _ [0, 1, 2, 3, 4, 5] _;refine zm rfl <| zm rfl <| zS rfl (dq ai rfl rfl g67 e69) <| aW rfl rfl (aI rfl kq rfl (jm F x40 x68 x70 x71 x72 e73) ?_);refine zS rfl (am (n := 2) (by kernel_rfl) rfl) <| s0 rfl rfl (cz (i := 1) (vs := [i64 x70, i64 x71, i64 x72]) (by kernel_rfl) rfl rfl (by simp [bx, slE]) rfl (ab rfl)) <| ah <| af ?_;obtain ⟨x74, x75, e76, H⟩ := fc H;refine aa ?_;show AR _ _ _ _ _ [0, 1, 2, 3] _;refine zS rfl (aY Tryd.underlying55 rfl rfl) <| zR rfl (kF (cs := [i64 x40, slE Enc.str y58 (some t59), i64 x70, i64 x71, i64 x72]) (dB (i := 1) (n := 5) cu rfl (by kernel_rfl) rfl rfl (ab rfl)) (.cons (.refl _) (.cons (.tok _ _ _) (.cons (.refl _) (.cons (.refl _) (.cons (.refl _) (.nil))))))) <| zR rfl (aj (i := 0) aB rfl rfl rfl rfl) <| aW rfl rfl (AO.callFAt [2, 4, 2] rfl (.inl rfl) nk rfl (lW F x40 y58 x70 x71 x72 (y16 + ((x24.length : Int) + 2)) o3 y20 t21 o6 y22 x74 x75 e76) rfl (fun c A' h => by cases h.1) ?_)
   rintro av A' ⟨h, t77, rfl⟩; cases h
   refine ah <| aa ?_;show AR _ _ _ _ _ [0, 1] _;refine zS rfl (kP (zs := [.int .i64 0, .slice none 0 0, .int .i64 0, .int .i64 0, .int .i64 0]) (ps := [(0, 1), (1, 1), (2, 3)]) (cs := [i64 0, nilS, i64 0, i64 0, i64 0]) (by kernel_rfl) rfl rfl) <| s0 rfl rfl (cz (i := 4) (vs := [i64 0, nilS, i64 0, i64 0, i64 0]) (by kernel_rfl) rfl rfl (by simp [bx, slE]) rfl (ab rfl)) ?_
   refine AR.nil_objAt 4 1 1 9 rfl rfl fun t78 => ?_
   show AR _ _ _ _ _ _ ⟨_, _, [.tok t78 9, .obj o3 [slE (ak Enc.int (ak (Enc.sl Enc.str) (ak Enc.int (ak Enc.int Enc.int)))) x74 (some t77)], .tok t77 38, .obj o6 [i64 x75], .obj o13 [i64 (y16 + ((x24.length : Int) + 2))], .obj o11 [i64 0, slE Enc.str [] (some t78), i64 0, i64 0, i64 0], .tok t59 9]⟩;refine ah ?_;obtain rfl := al H;exact ⟨rfl, rfl, (t78, t77), aC [4, 4, 1, 2, 0, 0] rfl⟩
  ·replace H := bb c66 H;refine aE ?_;obtain rfl := al H;exact ⟨rfl, rfl, (t59, t21), aC [0, 0, 0, 0, 0, 0] rfl⟩
 ·rintro h89 o88 ⟨t86, t87⟩;replace H := ba h89 H;obtain ⟨rfl, rfl, rfl⟩ := iQ H;exact Exists.intro _ (And.intro (Unmark.at 0 rfl (.nil _)) (Exists.intro _ ⟨aC [2, 4, 2] rfl, t87, rfl, .inr ⟨rfl, rfl⟩⟩))
 rintro h89 o85 ⟨t83, t84⟩;replace H := bb h89 H;obtain ⟨rfl, rfl, rfl⟩ := iQ H;exact Exists.intro _ (And.intro (Unmark.at 0 rfl (.nil _)) (Exists.intro _ (Exists.intro _ ⟨bg rfl, aC [3, 5, 3] rfl, t84, rfl, .inl ⟨rfl, rfl⟩⟩)))
theorem kx (F : Nat) (a1 : List UInt8) (q2 : Option Nat) (o3 : Nat) (a4 : List (Int × (List (List UInt8)) × Int × Int × Int)) (t5 : Nat) (o6 : Nat) (a7 : Int) (r8 : List (Int × (List (List UInt8)) × Int × Int × Int)) (r10 : Int) (H : fA F a1 a4 a7 = some (r8, r10, false)) : ACalls Tryd.prog 24 [slE Enc.byte a1 q2, .fn (.func 25) [] [.pt o3 0, .pt o6 0]] [.obj o3 [slE (ak Enc.int (ak (Enc.sl Enc.str) (ak Enc.int (ak Enc.int Enc.int)))) a4 (some t5)], .tok t5 38, .obj o6 [i64 a7]] (fun e A' => e = .ret (.tup []) ∧ ∃ t9, A' = [.obj o3 [slE (ak Enc.int (ak (Enc.sl Enc.str) (ak Enc.int (ak Enc.int Enc.int)))) r8 (some t9)], .tok t9 38, .obj o6 [i64 r10]]) :=
 (kb F a1 q2 o3 a4 t5 o6 a7 r8 r10 false H).mono fun e A' h => by obtain ⟨t9, h, ⟨h1, h2⟩ | ⟨h1, h2⟩⟩ := h <;> first | exact ⟨h2, t9, h⟩ | cases h1
theorem jL (F : Nat) (a1 : List UInt8) (q2 : Option Nat) (o3 : Nat) (a4 : List (Int × (List (List UInt8)) × Int × Int × Int)) (t5 : Nat) (o6 : Nat) (a7 : Int) (r8 : List (Int × (List (List UInt8)) × Int × Int × Int)) (r10 : Int) (H : fA F a1 a4 a7 = some (r8, r10, true)) : ACalls Tryd.prog 24 [slE Enc.byte a1 q2, .fn (.func 25) [] [.pt o3 0, .pt o6 0]] [.obj o3 [slE (ak Enc.int (ak (Enc.sl Enc.str) (ak Enc.int (ak Enc.int Enc.int)))) a4 (some t5)], .tok t5 38, .obj o6 [i64 a7]] (fun e A' => e = .pan (iE (.iface 51 (.agg #[]))) ∧ ∃ t9, A' = [.obj o3 [slE (ak Enc.int (ak (Enc.sl Enc.str) (ak Enc.int (ak Enc.int Enc.int)))) r8 (some t9)], .tok t9 38, .obj o6 [i64 r10]]) :=
 (kb F a1 q2 o3 a4 t5 o6 a7 r8 r10 true H).mono fun e A' h => by obtain ⟨t9, h, ⟨h1, h2⟩ | ⟨h1, h2⟩⟩ := h <;> first | exact ⟨h2, t9, h⟩ | cases h1
set_option maxRecDepth 100000 in
set_option maxHeartbeats 1000000 in
theorem kc (F : Nat) (H : gW F = some ()) : ACalls Tryd.prog 9 [] [] (fun e A' => ∃ ob1 : Nat, e = .ret (.pt ob1 0) ∧ A' = [.obj ob1 [nilS, B false]]) := by
 unfold gW at H
 refine aA Tryd.func9 rfl rfl ?_;show AW _ _ 3 _ _ _;refine af <| aa ?_;show AR _ _ _ _ _ [0] _;refine za rfl <| ah <| af <| aa ?_;show AR _ _ _ _ _ [0, 1, 2] _;refine zS rfl (kP (zs := [.slice none 0 0, .bool false]) (ps := [(0, 1), (1, 1)]) (cs := [nilS, B false]) (by kernel_rfl) rfl rfl) <| zX rfl (kM rfl (.inr ⟨_, rfl⟩)) ?_;rintro _ _ ⟨o1, rfl, rfl⟩;refine zS rfl (aG (av := .pt _ _) rfl) <| ah <| aK ?_;exact And.intro rfl (Exists.intro _ (Exists.intro _ ⟨aO rfl (.refl _), aC [0] rfl, o1, rfl, rfl⟩))
abbrev _root_.Go.Av.ar := @Tryd.underlying25
set_option maxRecDepth 100000 in
set_option maxHeartbeats 1000000 in
theorem kd (F : Nat) (o1 : Nat) (a2 : List UInt8) (t3 : Nat) (a4 : Bool) (r5 : Bool) (H : gX F a2 a4 = some r5) : ACalls Tryd.prog 13 [.pt o1 0] [.obj o1 [slE Enc.byte a2 (some t3), B a4], .tok t3 5] (fun e A' => e = .ret (B r5) ∧ A' = [.obj o1 [slE Enc.byte a2 (some t3), B a4], .tok t3 5]) := by
 unfold gX at H
 refine aA Tryd.func13 rfl rfl ?_;show AW _ _ 11 _ _ _;refine af <| aa ?_;show AR _ _ _ _ _ [0] _;refine za rfl <| ah <| af <| aa ?_;show AR _ _ _ _ _ [0, 1, 2, 3, 4, 5, 6, 7, 8] _;refine zS rfl (az (av := .pt _ _) rfl) <| zS rfl (fm ar rfl rfl) <| zm rfl <| zU rfl rfl (az (av := .pt _ _) rfl) <| zU rfl rfl (aw rfl) <| zU rfl rfl (am (n := 1) (by kernel_rfl) rfl) <| zT rfl rfl (AO.op rfl rfl (aj (i := 0) Tryd.underlying4 rfl rfl rfl rfl) ?_);refine zS rfl (ap (av := .v _) rfl rfl rfl) <| za rfl <| ah <| aK ?_;obtain rfl := al H;exact And.intro rfl (Exists.intro _ (Exists.intro _ ⟨aO rfl (.refl _), aC [0, 0] rfl, rfl, rfl⟩))
set_option maxRecDepth 100000 in
set_option maxHeartbeats 1000000 in
theorem lX (F : Nat) (o1 : Nat) (a2 : List UInt8) (t3 : Nat) (a4 : Bool) (r5 : Int) (H : gN F a2 a4 = some r5) : ACalls Tryd.prog 14 [.pt o1 0] [.obj o1 [slE Enc.byte a2 (some t3), B a4], .tok t3 5] (fun e A' => e = .ret (i64 r5) ∧ A' = [.obj o1 [slE Enc.byte a2 (some t3), B a4], .tok t3 5]) := by
 unfold gN at H
 refine aA Tryd.func14 rfl rfl ?_;show AW _ _ 10 _ _ _;refine af <| aa ?_;show AR _ _ _ _ _ [0] _;refine za rfl <| ah <| af <| af <| aa ?_;show AR _ _ _ _ _ [0, 1] _;refine zS rfl (az (av := .pt _ _) rfl) <| zS rfl (fm ar rfl rfl) <| ah <| ax rfl (fun hx => cS hx rfl) (fun _ => ?_);refine aE <| af <| aa ?_;show AR _ _ _ _ _ [0, 1, 2, 3, 4, 5] _;refine zS rfl (az (av := .pt _ _) rfl) <| zS rfl (aw rfl) <| zS rfl (am (n := 0) (by kernel_rfl) rfl) <| zR rfl (aj (i := 0) ag rfl rfl rfl rfl) <| zS rfl (bc ag rfl) <| za rfl <| ah <| aK ?_;obtain rfl := al H;exact And.intro rfl (Exists.intro _ (Exists.intro _ ⟨aO rfl (.refl _), aC [0, 0] rfl, rfl, rfl⟩))
set_option maxRecDepth 100000 in
set_option maxHeartbeats 1000000 in
theorem mM (F : Nat) (o1 : Nat) (a2 : List UInt8) (t3 : Nat) (a4 : Bool) (a5 : List UInt8) (q6 : Option Nat) (r7 : List (Int × (List (List UInt8)) × Int × Int × Int)) (r8 : List UInt8) (r10 : Bool) (H : gV F a2 a4 a5 = some (r7, r8, r10)) : ACalls Tryd.prog 10 [.pt o1 0, slE Enc.byte a5 q6] [.obj o1 [slE Enc.byte a2 (some t3), B a4], .tok t3 5] (fun e A' => e = .ret (slE (ak Enc.int (ak (Enc.sl Enc.str) (ak Enc.int (ak Enc.int Enc.int)))) r7 none) ∧ ∃ t9, A' = [.obj o1 [slE Enc.byte r8 (some t9), B r10], .tok t9 5]) := by
 unfold gV at H
 refine iO [4] Tryd.func10 rfl rfl ?_;show AW _ _ 31 _ _ _;refine af <| aa ?_;show AR _ _ _ _ _ [0, 1] _;refine zX rfl (kM rfl (.inl rfl)) ?_;rintro _ _ ⟨o11, rfl, rfl⟩;refine zX rfl (dM (zs := [.slice none 0 0]) (by kernel_rfl)) ?_;rintro _ _ ⟨o12, rfl, rfl⟩;refine ah <| af <| af <| aa ?_;show AR _ _ _ _ _ [0, 1, 2, 3, 4, 5, 6, 7] _;refine zR rfl (aj (i := 1) ar rfl rfl rfl rfl) <| zS rfl (fm ar rfl rfl) <| zm rfl <| zT rfl rfl (AO.op rfl rfl (aj (i := 1) ar rfl rfl rfl rfl) ?_);refine zU rfl rfl (aw rfl) <| zU rfl rfl (am (n := 1) (by kernel_rfl) rfl) <| zT rfl rfl (AO.op rfl rfl (aj (i := 2) Tryd.underlying4 rfl rfl rfl rfl) ?_);refine zS rfl (ap (av := .v _) rfl rfl rfl) <| ah <| ax rfl (fun c13 => ?_) (fun c13 => ?_)
 ·replace H := ba c13 H;refine af <| aa ?_;show AR _ _ _ _ _ [0] _;refine s0 rfl rfl (ay (i := 0) (c := .v _) (by kernel_rfl) rfl rfl rfl rfl (ab rfl)) <| ah <| aK ?_;obtain ⟨rfl, rfl, rfl⟩ := iQ H;exact Exists.intro _ (Exists.intro _ ⟨du rfl ((CellV.one (c := .v _) 0 aH rfl rfl rfl rfl).oneW (.nil _)), aC [2, 2] rfl, rfl, t3, rfl⟩)
 ·replace H := bb c13 H;refine aE <| bI (X := (List UInt8) × Nat) (fun (y21, t22) => ⟨[(2, .pt o11 0), (4, .pt o12 0)], [], [.obj o12 [nilS], .obj o11 [.pt o1 0], .obj o1 [slE Enc.byte y21 (some t22), B a4], .tok t22 5]⟩) (fun (y21, t22) => eu F a4 y21 = some (r7, r8, r10)) ?_ ?_
  ·obtain ⟨g15, H⟩ := aJ H;obtain ⟨x16, e17, H⟩ := bL H;refine dd (by kernel_rfl) ?_;show AI _ _ _ _ _ 10 (Array.replicate 10 false) _;refine AI.take (i := 5) rfl rfl (by kernel_rfl) (by kernel_rfl) (by kernel_rfl) (fun _ _ h => bo rfl h) (az (av := slE _ _ _) rfl) ?_;show AI _ _ _ _ _ _ #[false, false, false, false, false, true, false, false, false, false] _;refine dG (i := 0) (j := 1) (by kernel_rfl) rfl rfl rfl rfl ?_ ?_
   ·refine aX rfl (aj (i := 1) ar rfl rfl rfl rfl) ?_;show AI _ _ _ _ _ _ #[true, false, false, false, false, true, false, false, false, false] _;refine aL (i := 1) (by kernel_rfl) rfl rfl <| aX rfl (aj (i := 1) ar rfl rfl rfl rfl) ?_;show AI _ _ _ _ _ _ #[true, true, false, false, false, true, false, false, false, false] _;refine AI.take (i := 2) rfl rfl (by kernel_rfl) (by kernel_rfl) (by kernel_rfl) (fun _ _ h => bo rfl h) (aw rfl) ?_;show AI _ _ _ _ _ _ #[true, true, true, false, false, true, false, false, false, false] _;refine AI.take (i := 3) rfl rfl (by kernel_rfl) (by kernel_rfl) (by kernel_rfl) (fun _ _ h => bo rfl h) (am (n := 0) (by kernel_rfl) rfl) ?_;show AI _ _ _ _ _ _ #[true, true, true, true, false, true, false, false, false, false] _;refine aL (i := 4) (by kernel_rfl) rfl rfl <| aX rfl (aj (i := 2) ag rfl rfl rfl rfl) ?_;show AI _ _ _ _ _ _ #[true, true, true, true, true, true, false, false, false, false] _;refine aL (i := 6) (by kernel_rfl) rfl rfl <| AIO.opx rfl (dX (E := Enc.byte) (bytes := 1) 3 ag ag rfl (by kernel_rfl) rfl rfl rfl rfl g15 e17) ?_;rintro _ _ ⟨t14, rfl, rfl⟩;show AI _ _ _ _ _ _ #[true, true, true, true, true, true, true, false, false, false] _;refine AI.take (i := 7) rfl rfl (by kernel_rfl) (by kernel_rfl) (by kernel_rfl) (fun _ _ h => bo rfl h) (aw rfl) ?_
    show AI _ _ _ _ _ _ #[true, true, true, true, true, true, true, true, false, false] _;refine AI.take (i := 8) rfl rfl (by kernel_rfl) (by kernel_rfl) (by kernel_rfl) (fun _ _ h => bo rfl h) (am (n := 0) (by kernel_rfl) rfl) ?_;show AI _ _ _ _ _ _ #[true, true, true, true, true, true, true, true, true, false] _;refine aL (i := 9) (by kernel_rfl) rfl rfl <| bJ (ay (i := 2) (c := slE _ _ _) (by kernel_rfl) rfl rfl rfl rfl (ab rfl)) ?_;show AI _ _ _ _ _ _ #[true, true, true, true, true, true, true, true, true, true] _;refine bE rfl ?_;exact Exists.intro (x16, t14) ⟨H, aZ [0, 0, 0, 0] (.cons (.refl _) (.cons (.refl _) (.nil _))) rfl⟩
   ·refine aX rfl (aj (i := 1) ar rfl rfl rfl rfl) ?_;show AI _ _ _ _ _ _ #[false, true, false, false, false, true, false, false, false, false] _;refine AI.take (i := 2) rfl rfl (by kernel_rfl) (by kernel_rfl) (by kernel_rfl) (fun _ _ h => bo rfl h) (aw rfl) ?_;show AI _ _ _ _ _ _ #[false, true, true, false, false, true, false, false, false, false] _;refine AI.take (i := 3) rfl rfl (by kernel_rfl) (by kernel_rfl) (by kernel_rfl) (fun _ _ h => bo rfl h) (am (n := 0) (by kernel_rfl) rfl) ?_;show AI _ _ _ _ _ _ #[false, true, true, true, false, true, false, false, false, false] _;refine dG (i := 0) (j := 4) (by kernel_rfl) rfl rfl rfl rfl ?_ ?_
    ·refine aX rfl (aj (i := 1) ar rfl rfl rfl rfl) ?_;show AI _ _ _ _ _ _ #[true, true, true, true, false, true, false, false, false, false] _;refine aL (i := 4) (by kernel_rfl) rfl rfl <| aX rfl (aj (i := 2) ag rfl rfl rfl rfl) ?_;show AI _ _ _ _ _ _ #[true, true, true, true, true, true, false, false, false, false] _;refine aL (i := 6) (by kernel_rfl) rfl rfl <| AIO.opx rfl (dX (E := Enc.byte) (bytes := 1) 3 ag ag rfl (by kernel_rfl) rfl rfl rfl rfl g15 e17) ?_;rintro _ _ ⟨t18, rfl, rfl⟩;show AI _ _ _ _ _ _ #[true, true, true, true, true, true, true, false, false, false] _;refine AI.take (i := 7) rfl rfl (by kernel_rfl) (by kernel_rfl) (by kernel_rfl) (fun _ _ h => bo rfl h) (aw rfl) ?_;show AI _ _ _ _ _ _ #[true, true, true, true, true, true, true, true, false, false] _;refine AI.take (i := 8) rfl rfl (by kernel_rfl) (by kernel_rfl) (by kernel_rfl) (fun _ _ h => bo rfl h) (am (n := 0) (by kernel_rfl) rfl) ?_;show AI _ _ _ _ _ _ #[true, true, true, true, true, true, true, true, true, false] _;refine aL (i := 9) (by kernel_rfl) rfl rfl <| bJ (ay (i := 2) (c := slE _ _ _) (by kernel_rfl) rfl rfl rfl rfl (ab rfl)) ?_;show AI _ _ _ _ _ _ #[true, true, true, true, true, true, true, true, true, true] _;refine bE rfl ?_;exact Exists.intro (x16, t18) ⟨H, aZ [0, 0, 0, 0] (.cons (.refl _) (.cons (.refl _) (.nil _))) rfl⟩
    ·refine aX rfl (aj (i := 2) ag rfl rfl rfl rfl) ?_;show AI _ _ _ _ _ _ #[false, true, true, true, true, true, false, false, false, false] _;refine dG (i := 0) (j := 6) (by kernel_rfl) rfl rfl rfl rfl ?_ ?_
     ·refine aX rfl (aj (i := 1) ar rfl rfl rfl rfl) ?_;show AI _ _ _ _ _ _ #[true, true, true, true, true, true, false, false, false, false] _;refine aL (i := 6) (by kernel_rfl) rfl rfl <| AIO.opx rfl (dX (E := Enc.byte) (bytes := 1) 3 ag ag rfl (by kernel_rfl) rfl rfl rfl rfl g15 e17) ?_;rintro _ _ ⟨t19, rfl, rfl⟩;show AI _ _ _ _ _ _ #[true, true, true, true, true, true, true, false, false, false] _;refine AI.take (i := 7) rfl rfl (by kernel_rfl) (by kernel_rfl) (by kernel_rfl) (fun _ _ h => bo rfl h) (aw rfl) ?_;show AI _ _ _ _ _ _ #[true, true, true, true, true, true, true, true, false, false] _;refine AI.take (i := 8) rfl rfl (by kernel_rfl) (by kernel_rfl) (by kernel_rfl) (fun _ _ h => bo rfl h) (am (n := 0) (by kernel_rfl) rfl) ?_;show AI _ _ _ _ _ _ #[true, true, true, true, true, true, true, true, true, false] _;refine aL (i := 9) (by kernel_rfl) rfl rfl <| bJ (ay (i := 2) (c := slE _ _ _) (by kernel_rfl) rfl rfl rfl rfl (ab rfl)) ?_;show AI _ _ _ _ _ _ #[true, true, true, true, true, true, true, true, true, true] _;refine bE rfl ?_;exact Exists.intro (x16, t19) ⟨H, aZ [0, 0, 0, 0] (.cons (.refl _) (.cons (.refl _) (.nil _))) rfl⟩
     ·refine AIO.opx rfl (dX (E := Enc.byte) (bytes := 1) 3 ag ag rfl (by kernel_rfl) rfl rfl rfl rfl g15 e17) ?_;rintro _ _ ⟨t20, rfl, rfl⟩;show AI _ _ _ _ _ _ #[false, true, true, true, true, true, true, false, false, false] _;refine aL (i := 0) (by kernel_rfl) rfl rfl <| aX rfl (aj (i := 1) ar rfl rfl rfl rfl) ?_;show AI _ _ _ _ _ _ #[true, true, true, true, true, true, true, false, false, false] _;refine AI.take (i := 7) rfl rfl (by kernel_rfl) (by kernel_rfl) (by kernel_rfl) (fun _ _ h => bo rfl h) (aw rfl) ?_;show AI _ _ _ _ _ _ #[true, true, true, true, true, true, true, true, false, false] _;refine AI.take (i := 8) rfl rfl (by kernel_rfl) (by kernel_rfl) (by kernel_rfl) (fun _ _ h => bo rfl h) (am (n := 0) (by kernel_rfl) rfl) ?_;show AI _ _ _ _ _ _ #[true, true, true, true, true, true, true, true, true, false] _;refine aL (i := 9) (by kernel_rfl) rfl rfl <| bJ (ay (i := 2) (c := slE _ _ _) (by kernel_rfl) rfl rfl rfl rfl (ab rfl)) ?_;show AI _ _ _ _ _ _ #[true, true, true, true, true, true, true, true, true, true] _;refine bE rfl ?_;exact Exists.intro (x16, t20) ⟨H, aZ [0, 0, 0, 0] (.cons (.refl _) (.cons (.refl _) (.nil _))) rfl⟩
  rintro ⟨y21, t22⟩ H;replace H : eu F a4 y21 = some (r7, r8, r10) := H
  unfold eu at H
  refine af <| aa ?_;show AR _ _ _ _ _ [0, 1] _;refine zX rfl (dM (zs := [.int .i64 0]) (by kernel_rfl)) ?_;rintro _ _ ⟨o24, rfl, rfl⟩;refine s0 rfl rfl (ay (i := 0) (c := .v _) (by kernel_rfl) rfl rfl rfl rfl (ab rfl)) <| ah <| af <| aa ?_;show AR _ _ _ _ _ [0, 1] _;refine zS rfl (ej rfl rfl) <| aW rfl rfl (AO.defer rfl ?_);show AR _ _ _ _ _ _ ⟨_, [.call (.func 22) [.pt o11 0, .pt o24 0] []], _⟩;refine ah <| af ?_;obtain ⟨x26, x27, x28, e29, H⟩ := jF H
  rcases ac x28 with rfl | rfl
  ·replace H := ba rfl H;refine aa ?_;show AR _ _ _ _ _ [0, 1, 2, 3, 4, 5] _;refine zR rfl (aj (i := 2) ar rfl rfl rfl rfl) <| zS rfl (aw rfl) <| zS rfl (am (n := 0) (by kernel_rfl) rfl) <| zR rfl (aj (i := 3) ag rfl rfl rfl rfl) <| zS rfl (ej rfl rfl) ?_
   refine AR.nil_objAt 1 0 5 38 rfl rfl fun t25 => ?_
   show AR _ _ _ _ _ _ ⟨_, _, [.tok t25 38, .obj o24 [i64 0], .obj o12 [slE (ak Enc.int (ak (Enc.sl Enc.str) (ak Enc.int (ak Enc.int Enc.int)))) [] (some t25)], .obj o11 [.pt o1 0], .obj o1 [slE Enc.byte y21 (some t22), B a4], .tok t22 5]⟩;refine aW rfl rfl (AO.callPanR [2, 0, 0] rfl kt rfl (jL F y21 (some t22) o12 [] t25 o24 0 x26 x27 e29) rfl (fun av A' h => by cases h.1) ?_);rintro c A' ⟨h, t30, rfl⟩
   cases h
   refine Exists.intro [(4, .pt o12 0)] ⟨by simp, .cons (.refl _) (.nil _), ?_⟩;show ALeaves _ _ _ _ _ [.call (.func 22) [.pt o11 0, .pt o24 0] []] _ [.obj o12 [slE (ak Enc.int (ak (Enc.sl Enc.str) (ak Enc.int (ak Enc.int Enc.int)))) x26 (some t30)], .tok t30 38, .obj o24 [i64 x27], .obj o11 [.pt o1 0], .obj o1 [slE Enc.byte y21 (some t22), B a4], .tok t22 5];refine fJ (v := .tup []) (u1 := (.panicking [{ v := (.iface 51 (.agg #[])), recovered := true }])) (A2 := (fun t32 => [.tok t32 5, .obj o24 [i64 x27], .obj o11 [.pt o1 0], .obj o1 [slE Enc.byte [] (some t32), B true]])) [2, 2, 2] (fun h => by cases h) ku rfl ?_ ?_
   ·show ADCalls _ _ [.pt o11 0, .pt o24 0] [.obj o24 [i64 x27], .obj o11 [.pt o1 0], .obj o1 [slE Enc.byte y21 (some t22), B a4]] _ _;refine ADCalls.grow (A2 := [.obj o24 [i64 x27], .obj o11 [.pt o1 0], .obj o1 [nilS, B true]]) 2 0 1 5 rfl rfl (fun _ => rfl) <| ef (av := .ifc 51 (.agg [])) (l := [1]) Tryd.func22 rfl rfl rfl rfl rfl Recovers.pan rfl (fun cs => ?_);refine ASR.op rfl rfl ((aG (av := .ifc _ _) rfl).opR _) <| ASR.nil <| af <| aa ?_;show AR _ _ _ _ _ [0, 1] _;refine zS rfl (az (av := .ifc _ _) rfl) <| zS rfl (li (ms := []) (.inr rfl) Tryd.underlying20 rfl rfl) <| ah <| ax rfl (fun _ => ?_) (fun hx => cS rfl hx);refine af <| af <| aa ?_;show AR _ _ _ _ _ [0, 1, 2, 3, 4, 5, 6, 7] _;refine zS rfl (az (av := .ifc _ _) rfl) <| zS rfl (iJ Tryd.underlying51 rfl rfl) <| zS rfl (az (av := .tup _) rfl) <| zS rfl (aF (av := .agg _) rfl rfl) <| zS rfl (aF (av := .v _) rfl rfl) <| zX rfl (dM (zs := []) (by kernel_rfl)) ?_;rintro _ _ ⟨o31, rfl, rfl⟩;refine s0 rfl rfl (cz (i := 0) (vs := []) (by kernel_rfl) rfl rfl (by simp [bx, slE]) rfl (ab rfl)) <| za rfl <| ah <| af <| aa ?_;show AR _ _ _ _ _ [0, 1] _;refine zm rfl <| zS rfl (dE rfl) <| ah <| ax rfl (fun hx => cS hx rfl) (fun _ => ?_);refine aE <| af <| aa ?_;show AR _ _ _ _ _ [0, 1, 2, 3, 4, 5, 6, 7] _
    refine zR rfl (aj (i := 2) ar rfl rfl rfl rfl) <| zR rfl (aj (i := 2) ar rfl rfl rfl rfl) <| zS rfl (aw rfl) <| zS rfl (am (n := 0) (by kernel_rfl) rfl) <| s0 rfl rfl (ay (i := 3) (c := .v _) (by kernel_rfl) rfl rfl rfl rfl (ab rfl)) <| zS rfl (aw rfl) <| zS rfl (am (n := 1) (by kernel_rfl) rfl) <| s0 rfl rfl (ay (i := 3) (c := .v _) (by kernel_rfl) rfl rfl rfl rfl (ab rfl)) <| ah <| aK ?_;exact And.intro rfl (Exists.intro _ (Exists.intro _ ⟨bg rfl, aC [1, 1, 1] rfl, rfl, rfl, rfl⟩))
   intro t32;show ALeaves _ _ _ _ _ [] .returning [.tok t32 5, .obj o24 [i64 x27], .obj o11 [.pt o1 0], .obj o1 [slE Enc.byte [] (some t32), B true], .obj o12 [slE (ak Enc.int (ak (Enc.sl Enc.str) (ak Enc.int (ak Enc.int Enc.int)))) x26 (some t30)], .tok t30 38, .tok t22 5];obtain ⟨rfl, rfl, rfl⟩ := iQ H;exact Exists.intro _ (Exists.intro _ ⟨du rfl ((CellV.one (c := slE _ _ _) 4 aH rfl rfl rfl rfl).oneW (.tok _ _ _)), aC [3, 0] rfl, rfl, t32, rfl⟩)
  replace H := bb rfl H;refine aa ?_;show AR _ _ _ _ _ [0, 1, 2, 3, 4, 5] _;refine zR rfl (aj (i := 2) ar rfl rfl rfl rfl) <| zS rfl (aw rfl) <| zS rfl (am (n := 0) (by kernel_rfl) rfl) <| zR rfl (aj (i := 3) ag rfl rfl rfl rfl) <| zS rfl (ej rfl rfl) ?_
  refine AR.nil_objAt 1 0 5 38 rfl rfl fun t25 => ?_
  show AR _ _ _ _ _ _ ⟨_, _, [.tok t25 38, .obj o24 [i64 0], .obj o12 [slE (ak Enc.int (ak (Enc.sl Enc.str) (ak Enc.int (ak Enc.int Enc.int)))) [] (some t25)], .obj o11 [.pt o1 0], .obj o1 [slE Enc.byte y21 (some t22), B a4], .tok t22 5]⟩;refine aW rfl rfl (AO.callAt [2, 0, 0] rfl kt rfl (kx F y21 (some t22) o12 [] t25 o24 0 x26 x27 e29) rfl (fun c A' h => by cases h.1) ?_)
  rintro av A' ⟨h, t33, rfl⟩; cases h
  refine ah <| af <| aa ?_;show AR _ _ _ _ _ [0, 1] _;refine zR rfl (aj (i := 0) aH rfl rfl rfl rfl) <| s0 rfl rfl (ay (i := 0) (c := slE _ _ _) (by kernel_rfl) rfl rfl rfl rfl (ab rfl)) <| ah <| aK ?_;obtain ⟨g34, H⟩ := aJ H;obtain ⟨x35, e36, H⟩ := bL H;obtain ⟨g37, H⟩ := aJ H;show ALeaves _ _ _ _ _ [.call (.func 22) [.pt o11 0, .pt o24 0] []] _ [.obj o12 [slE (ak Enc.int (ak (Enc.sl Enc.str) (ak Enc.int (ak Enc.int Enc.int)))) x26 (some t33)], .tok t33 38, .obj o24 [i64 x27], .obj o11 [.pt o1 0], .obj o1 [slE Enc.byte y21 (some t22), B a4], .tok t22 5];refine fJ (v := .tup []) (u1 := .returning) (A2 := (fun t38 => [.tok t38 5, .obj o24 [i64 x27], .obj o11 [.pt o1 0], .obj o1 [slE Enc.byte x35 (some t38), B a4]])) [2, 2, 2] (fun h => by cases h) ku rfl ?_ ?_
  ·show ADCalls _ _ [.pt o11 0, .pt o24 0] [.obj o24 [i64 x27], .obj o11 [.pt o1 0], .obj o1 [slE Enc.byte y21 (some t22), B a4]] _ _;refine ef (av := .v .nilIface) (l := [1]) Tryd.func22 rfl rfl rfl rfl rfl Recovers.ret rfl (fun cs => ?_);refine ASR.op rfl rfl ((asg rfl).opR _) <| ASR.nil <| af <| aa ?_;show AR _ _ _ _ _ [0, 1] _;refine zm rfl <| zS rfl (gx (n := 0) (t := 0) (k := .i64) Tryd.underlying20 rfl rfl) <| ah <| ax rfl (fun hx => cS hx rfl) (fun _ => ?_);refine aE <| dd (by kernel_rfl) ?_;show AI _ _ _ _ _ 11 (Array.replicate 11 false) _;refine lT (i := 0) (j := 1) (l := 5) (by kernel_rfl) rfl rfl rfl rfl rfl rfl ?_ ?_ ?_
   ·refine aX rfl (aj (i := 1) ar rfl rfl rfl rfl) ?_;show AI _ _ _ _ _ _ #[true, false, false, false, false, false, false, false, false, false, false] _;refine dG (i := 1) (j := 5) (by kernel_rfl) rfl rfl rfl rfl ?_ ?_
    ·refine aX rfl (aj (i := 1) ar rfl rfl rfl rfl) ?_;show AI _ _ _ _ _ _ #[true, true, false, false, false, false, false, false, false, false, false] _;refine zk 2 rfl (aw rfl) ?_;show AI _ _ _ _ _ _ #[true, true, true, false, false, false, false, false, false, false, false] _;refine zk 3 rfl (am (n := 0) (by kernel_rfl) rfl) ?_;show AI _ _ _ _ _ _ #[true, true, true, true, false, false, false, false, false, false, false] _;refine dG (i := 4) (j := 5) (by kernel_rfl) rfl rfl rfl rfl ?_ ?_
     ·refine aX rfl (aj (i := 2) ag rfl rfl rfl rfl) ?_;show AI _ _ _ _ _ _ #[true, true, true, true, true, false, false, false, false, false, false] _;refine aL (i := 5) (by kernel_rfl) rfl rfl <| aX rfl (aj (i := 0) aB rfl rfl rfl rfl) ?_;show AI _ _ _ _ _ _ #[true, true, true, true, true, true, false, false, false, false, false] _;refine zk 6 rfl (cj (E := Enc.byte) ag (by kernel_rfl) rfl rfl g34 e36) ?_;show AI _ _ _ _ _ _ #[true, true, true, true, true, true, true, false, false, false, false] _;refine aL (i := 7) (by kernel_rfl) rfl rfl <| bz [] rfl bQ rfl (aU x35 none (dD g37)) rfl (fun c A' h => by obtain ⟨_, h, _⟩ := h; cases h) ?_
      rintro av A' ⟨t38, h, rfl⟩; cases h
      show AI _ _ _ _ _ _ #[true, true, true, true, true, true, true, true, false, false, false] _;refine zk 8 rfl (aw rfl) ?_;show AI _ _ _ _ _ _ #[true, true, true, true, true, true, true, true, true, false, false] _;refine zk 9 rfl (am (n := 0) (by kernel_rfl) rfl) ?_;show AI _ _ _ _ _ _ #[true, true, true, true, true, true, true, true, true, true, false] _;refine aL (i := 10) (by kernel_rfl) rfl rfl <| bJ (ay (i := 3) (c := slE _ _ _) (by kernel_rfl) rfl rfl rfl rfl (ab rfl)) ?_;show AI _ _ _ _ _ _ #[true, true, true, true, true, true, true, true, true, true, true] _;refine bE rfl ?_;exact And.intro rfl (Exists.intro _ (Exists.intro _ ⟨bg rfl, aC [0, 0, 0, 0] rfl, rfl, rfl, t38, rfl⟩))
     ·refine aX rfl (aj (i := 0) aB rfl rfl rfl rfl) ?_;show AI _ _ _ _ _ _ #[true, true, true, true, false, true, false, false, false, false, false] _;refine aL (i := 4) (by kernel_rfl) rfl rfl <| aX rfl (aj (i := 2) ag rfl rfl rfl rfl) ?_;show AI _ _ _ _ _ _ #[true, true, true, true, true, true, false, false, false, false, false] _;refine zk 6 rfl (cj (E := Enc.byte) ag (by kernel_rfl) rfl rfl g34 e36) ?_;show AI _ _ _ _ _ _ #[true, true, true, true, true, true, true, false, false, false, false] _;refine aL (i := 7) (by kernel_rfl) rfl rfl <| bz [] rfl bQ rfl (aU x35 none (dD g37)) rfl (fun c A' h => by obtain ⟨_, h, _⟩ := h; cases h) ?_
      rintro av A' ⟨t39, h, rfl⟩; cases h
      show AI _ _ _ _ _ _ #[true, true, true, true, true, true, true, true, false, false, false] _;refine zk 8 rfl (aw rfl) ?_;show AI _ _ _ _ _ _ #[true, true, true, true, true, true, true, true, true, false, false] _;refine zk 9 rfl (am (n := 0) (by kernel_rfl) rfl) ?_;show AI _ _ _ _ _ _ #[true, true, true, true, true, true, true, true, true, true, false] _;refine aL (i := 10) (by kernel_rfl) rfl rfl <| bJ (ay (i := 3) (c := slE _ _ _) (by kernel_rfl) rfl rfl rfl rfl (ab rfl)) ?_;show AI _ _ _ _ _ _ #[true, true, true, true, true, true, true, true, true, true, true] _;refine bE rfl ?_;exact And.intro rfl (Exists.intro _ (Exists.intro _ ⟨bg rfl, aC [0, 0, 0, 0] rfl, rfl, rfl, t39, rfl⟩))
    ·refine aX rfl (aj (i := 0) aB rfl rfl rfl rfl) ?_;show AI _ _ _ _ _ _ #[true, false, false, false, false, true, false, false, false, false, false] _;refine aL (i := 1) (by kernel_rfl) rfl rfl <| aX rfl (aj (i := 1) ar rfl rfl rfl rfl) ?_;show AI _ _ _ _ _ _ #[true, true, false, false, false, true, false, false, false, false, false] _;refine zk 2 rfl (aw rfl) ?_;show AI _ _ _ _ _ _ #[true, true, true, false, false, true, false, false, false, false, false] _;refine zk 3 rfl (am (n := 0) (by kernel_rfl) rfl) ?_;show AI _ _ _ _ _ _ #[true, true, true, true, false, true, false, false, false, false, false] _;refine aL (i := 4) (by kernel_rfl) rfl rfl <| aX rfl (aj (i := 2) ag rfl rfl rfl rfl) ?_;show AI _ _ _ _ _ _ #[true, true, true, true, true, true, false, false, false, false, false] _;refine zk 6 rfl (cj (E := Enc.byte) ag (by kernel_rfl) rfl rfl g34 e36) ?_;show AI _ _ _ _ _ _ #[true, true, true, true, true, true, true, false, false, false, false] _;refine aL (i := 7) (by kernel_rfl) rfl rfl <| bz [] rfl bQ rfl (aU x35 none (dD g37)) rfl (fun c A' h => by obtain ⟨_, h, _⟩ := h; cases h) ?_
     rintro av A' ⟨t40, h, rfl⟩; cases h
     show AI _ _ _ _ _ _ #[true, true, true, true, true, true, true, true, false, false, false] _;refine zk 8 rfl (aw rfl) ?_;show AI _ _ _ _ _ _ #[true, true, true, true, true, true, true, true, true, false, false] _;refine zk 9 rfl (am (n := 0) (by kernel_rfl) rfl) ?_;show AI _ _ _ _ _ _ #[true, true, true, true, true, true, true, true, true, true, false] _;refine aL (i := 10) (by kernel_rfl) rfl rfl <| bJ (ay (i := 3) (c := slE _ _ _) (by kernel_rfl) rfl rfl rfl rfl (ab rfl)) ?_;show AI _ _ _ _ _ _ #[true, true, true, true, true, true, true, true, true, true, true] _;refine bE rfl ?_;exact And.intro rfl (Exists.intro _ (Exists.intro _ ⟨bg rfl, aC [0, 0, 0, 0] rfl, rfl, rfl, t40, rfl⟩))
   ·refine aX rfl (aj (i := 1) ar rfl rfl rfl rfl) ?_;show AI _ _ _ _ _ _ #[false, true, false, false, false, false, false, false, false, false, false] _;refine zk 2 rfl (aw rfl) ?_;show AI _ _ _ _ _ _ #[false, true, true, false, false, false, false, false, false, false, false] _;refine zk 3 rfl (am (n := 0) (by kernel_rfl) rfl) ?_;show AI _ _ _ _ _ _ #[false, true, true, true, false, false, false, false, false, false, false] _;refine lT (i := 0) (j := 4) (l := 5) (by kernel_rfl) rfl rfl rfl rfl rfl rfl ?_ ?_ ?_
    ·refine aX rfl (aj (i := 1) ar rfl rfl rfl rfl) ?_;show AI _ _ _ _ _ _ #[true, true, true, true, false, false, false, false, false, false, false] _;refine dG (i := 4) (j := 5) (by kernel_rfl) rfl rfl rfl rfl ?_ ?_
     ·refine aX rfl (aj (i := 2) ag rfl rfl rfl rfl) ?_;show AI _ _ _ _ _ _ #[true, true, true, true, true, false, false, false, false, false, false] _;refine aL (i := 5) (by kernel_rfl) rfl rfl <| aX rfl (aj (i := 0) aB rfl rfl rfl rfl) ?_;show AI _ _ _ _ _ _ #[true, true, true, true, true, true, false, false, false, false, false] _;refine zk 6 rfl (cj (E := Enc.byte) ag (by kernel_rfl) rfl rfl g34 e36) ?_;show AI _ _ _ _ _ _ #[true, true, true, true, true, true, true, false, false, false, false] _;refine aL (i := 7) (by kernel_rfl) rfl rfl <| bz [] rfl bQ rfl (aU x35 none (dD g37)) rfl (fun c A' h => by obtain ⟨_, h, _⟩ := h; cases h) ?_
      rintro av A' ⟨t41, h, rfl⟩; cases h
      show AI _ _ _ _ _ _ #[true, true, true, true, true, true, true, true, false, false, false] _;refine zk 8 rfl (aw rfl) ?_;show AI _ _ _ _ _ _ #[true, true, true, true, true, true, true, true, true, false, false] _;refine zk 9 rfl (am (n := 0) (by kernel_rfl) rfl) ?_;show AI _ _ _ _ _ _ #[true, true, true, true, true, true, true, true, true, true, false] _;refine aL (i := 10) (by kernel_rfl) rfl rfl <| bJ (ay (i := 3) (c := slE _ _ _) (by kernel_rfl) rfl rfl rfl rfl (ab rfl)) ?_;show AI _ _ _ _ _ _ #[true, true, true, true, true, true, true, true, true, true, true] _;refine bE rfl ?_;exact And.intro rfl (Exists.intro _ (Exists.intro _ ⟨bg rfl, aC [0, 0, 0, 0] rfl, rfl, rfl, t41, rfl⟩))
     ·refine aX rfl (aj (i := 0) aB rfl rfl rfl rfl) ?_;show AI _ _ _ _ _ _ #[true, true, true, true, false, true, false, false, false, false, false] _;refine aL (i := 4) (by kernel_rfl) rfl rfl <| aX rfl (aj (i := 2) ag rfl rfl rfl rfl) ?_;show AI _ _ _ _ _ _ #[true, true, true, true, true, true, false, false, false, false, false] _;refine zk 6 rfl (cj (E := Enc.byte) ag (by kernel_rfl) rfl rfl g34 e36) ?_;show AI _ _ _ _ _ _ #[true, true, true, true, true, true, true, false, false, false, false] _;refine aL (i := 7) (by kernel_rfl) rfl rfl <| bz [] rfl bQ rfl (aU x35 none (dD g37)) rfl (fun c A' h => by obtain ⟨_, h, _⟩ := h; cases h) ?_
      rintro av A' ⟨t42, h, rfl⟩; cases h
      show AI _ _ _ _ _ _ #[true, true, true, true, true, true, true, true, false, false, false] _;refine zk 8 rfl (aw rfl) ?_;show AI _ _ _ _ _ _ #[true, true, true, true, true, true, true, true, true, false, false] _;refine zk 9 rfl (am (n := 0) (by kernel_rfl) rfl) ?_;show AI _ _ _ _ _ _ #[true, true, true, true, true, true, true, true, true, true, false] _;refine aL (i := 10) (by kernel_rfl) rfl rfl <| bJ (ay (i := 3) (c := slE _ _ _) (by kernel_rfl) rfl rfl rfl rfl (ab rfl)) ?_;show AI _ _ _ _ _ _ #[true, true, true, true, true, true, true, true, true, true, true] _;refine bE rfl ?_;exact And.intro rfl (Exists.intro _ (Exists.intro _ ⟨bg rfl, aC [0, 0, 0, 0] rfl, rfl, rfl, t42, rfl⟩))
    ·refine aX rfl (aj (i := 2) ag rfl rfl rfl rfl) ?_;show AI _ _ _ _ _ _ #[false, true, true, true, true, false, false, false, false, false, false] _;refine dG (i := 0) (j := 5) (by kernel_rfl) rfl rfl rfl rfl ?_ ?_
     ·refine aX rfl (aj (i := 1) ar rfl rfl rfl rfl) ?_;show AI _ _ _ _ _ _ #[true, true, true, true, true, false, false, false, false, false, false] _;refine aL (i := 5) (by kernel_rfl) rfl rfl <| aX rfl (aj (i := 0) aB rfl rfl rfl rfl) ?_;show AI _ _ _ _ _ _ #[true, true, true, true, true, true, false, false, false, false, false] _;refine zk 6 rfl (cj (E := Enc.byte) ag (by kernel_rfl) rfl rfl g34 e36) ?_;show AI _ _ _ _ _ _ #[true, true, true, true, true, true, true, false, false, false, false] _;refine aL (i := 7) (by kernel_rfl) rfl rfl <| bz [] rfl bQ rfl (aU x35 none (dD g37)) rfl (fun c A' h => by obtain ⟨_, h, _⟩ := h; cases h) ?_
      rintro av A' ⟨t43, h, rfl⟩; cases h
      show AI _ _ _ _ _ _ #[true, true, true, true, true, true, true, true, false, false, false] _;refine zk 8 rfl (aw rfl) ?_;show AI _ _ _ _ _ _ #[true, true, true, true, true, true, true, true, true, false, false] _;refine zk 9 rfl (am (n := 0) (by kernel_rfl) rfl) ?_;show AI _ _ _ _ _ _ #[true, true, true, true, true, true, true, true, true, true, false] _;refine aL (i := 10) (by kernel_rfl) rfl rfl <| bJ (ay (i := 3) (c := slE _ _ _) (by kernel_rfl) rfl rfl rfl rfl (ab rfl)) ?_;show AI _ _ _ _ _ _ #[true, true, true, true, true, true, true, true, true, true, true] _;refine bE rfl ?_;exact And.intro rfl (Exists.intro _ (Exists.intro _ ⟨bg rfl, aC [0, 0, 0, 0] rfl, rfl, rfl, t43, rfl⟩))
     ·refine aX rfl (aj (i := 0) aB rfl rfl rfl rfl) ?_;show AI _ _ _ _ _ _ #[false, true, true, true, true, true, false, false, false, false, false] _;refine zk 6 rfl (cj (E := Enc.byte) ag (by kernel_rfl) rfl rfl g34 e36) ?_;show AI _ _ _ _ _ _ #[false, true, true, true, true, true, true, false, false, false, false] _;refine dG (i := 0) (j := 7) (by kernel_rfl) rfl rfl rfl rfl ?_ ?_
      ·refine aX rfl (aj (i := 1) ar rfl rfl rfl rfl) ?_;show AI _ _ _ _ _ _ #[true, true, true, true, true, true, true, false, false, false, false] _;refine aL (i := 7) (by kernel_rfl) rfl rfl <| bz [] rfl bQ rfl (aU x35 none (dD g37)) rfl (fun c A' h => by obtain ⟨_, h, _⟩ := h; cases h) ?_
       rintro av A' ⟨t44, h, rfl⟩; cases h
       show AI _ _ _ _ _ _ #[true, true, true, true, true, true, true, true, false, false, false] _;refine zk 8 rfl (aw rfl) ?_;show AI _ _ _ _ _ _ #[true, true, true, true, true, true, true, true, true, false, false] _;refine zk 9 rfl (am (n := 0) (by kernel_rfl) rfl) ?_;show AI _ _ _ _ _ _ #[true, true, true, true, true, true, true, true, true, true, false] _;refine aL (i := 10) (by kernel_rfl) rfl rfl <| bJ (ay (i := 3) (c := slE _ _ _) (by kernel_rfl) rfl rfl rfl rfl (ab rfl)) ?_;show AI _ _ _ _ _ _ #[true, true, true, true, true, true, true, true, true, true, true] _;refine bE rfl ?_;exact And.intro rfl (Exists.intro _ (Exists.intro _ ⟨bg rfl, aC [0, 0, 0, 0] rfl, rfl, rfl, t44, rfl⟩))
      ·refine bz [] rfl bQ rfl (aU x35 none (dD g37)) rfl (fun c A' h => by obtain ⟨_, h, _⟩ := h; cases h) ?_
       rintro av A' ⟨t45, h, rfl⟩; cases h
       show AI _ _ _ _ _ _ #[false, true, true, true, true, true, true, true, false, false, false] _;refine aL (i := 0) (by kernel_rfl) rfl rfl <| aX rfl (aj (i := 2) ar rfl rfl rfl rfl) ?_;show AI _ _ _ _ _ _ #[true, true, true, true, true, true, true, true, false, false, false] _;refine zk 8 rfl (aw rfl) ?_;show AI _ _ _ _ _ _ #[true, true, true, true, true, true, true, true, true, false, false] _;refine zk 9 rfl (am (n := 0) (by kernel_rfl) rfl) ?_;show AI _ _ _ _ _ _ #[true, true, true, true, true, true, true, true, true, true, false] _;refine aL (i := 10) (by kernel_rfl) rfl rfl <| bJ (ay (i := 3) (c := slE _ _ _) (by kernel_rfl) rfl rfl rfl rfl (ab rfl)) ?_;show AI _ _ _ _ _ _ #[true, true, true, true, true, true, true, true, true, true, true] _;refine bE rfl ?_;exact And.intro rfl (Exists.intro _ (Exists.intro _ ⟨bg rfl, aC [0, 0, 0, 0] rfl, rfl, rfl, t45, rfl⟩))
    ·refine aX rfl (aj (i := 0) aB rfl rfl rfl rfl) ?_;show AI _ _ _ _ _ _ #[false, true, true, true, false, true, false, false, false, false, false] _;refine dG (i := 0) (j := 4) (by kernel_rfl) rfl rfl rfl rfl ?_ ?_
     ·refine aX rfl (aj (i := 1) ar rfl rfl rfl rfl) ?_;show AI _ _ _ _ _ _ #[true, true, true, true, false, true, false, false, false, false, false] _;refine aL (i := 4) (by kernel_rfl) rfl rfl <| aX rfl (aj (i := 2) ag rfl rfl rfl rfl) ?_;show AI _ _ _ _ _ _ #[true, true, true, true, true, true, false, false, false, false, false] _;refine zk 6 rfl (cj (E := Enc.byte) ag (by kernel_rfl) rfl rfl g34 e36) ?_;show AI _ _ _ _ _ _ #[true, true, true, true, true, true, true, false, false, false, false] _;refine aL (i := 7) (by kernel_rfl) rfl rfl <| bz [] rfl bQ rfl (aU x35 none (dD g37)) rfl (fun c A' h => by obtain ⟨_, h, _⟩ := h; cases h) ?_
      rintro av A' ⟨t46, h, rfl⟩; cases h
      show AI _ _ _ _ _ _ #[true, true, true, true, true, true, true, true, false, false, false] _;refine zk 8 rfl (aw rfl) ?_;show AI _ _ _ _ _ _ #[true, true, true, true, true, true, true, true, true, false, false] _;refine zk 9 rfl (am (n := 0) (by kernel_rfl) rfl) ?_;show AI _ _ _ _ _ _ #[true, true, true, true, true, true, true, true, true, true, false] _;refine aL (i := 10) (by kernel_rfl) rfl rfl <| bJ (ay (i := 3) (c := slE _ _ _) (by kernel_rfl) rfl rfl rfl rfl (ab rfl)) ?_;show AI _ _ _ _ _ _ #[true, true, true, true, true, true, true, true, true, true, true] _;refine bE rfl ?_;exact And.intro rfl (Exists.intro _ (Exists.intro _ ⟨bg rfl, aC [0, 0, 0, 0] rfl, rfl, rfl, t46, rfl⟩))
     ·refine aX rfl (aj (i := 2) ag rfl rfl rfl rfl) ?_;show AI _ _ _ _ _ _ #[false, true, true, true, true, true, false, false, false, false, false] _;refine zk 6 rfl (cj (E := Enc.byte) ag (by kernel_rfl) rfl rfl g34 e36) ?_;show AI _ _ _ _ _ _ #[false, true, true, true, true, true, true, false, false, false, false] _;refine dG (i := 0) (j := 7) (by kernel_rfl) rfl rfl rfl rfl ?_ ?_
      ·refine aX rfl (aj (i := 1) ar rfl rfl rfl rfl) ?_;show AI _ _ _ _ _ _ #[true, true, true, true, true, true, true, false, false, false, false] _;refine aL (i := 7) (by kernel_rfl) rfl rfl <| bz [] rfl bQ rfl (aU x35 none (dD g37)) rfl (fun c A' h => by obtain ⟨_, h, _⟩ := h; cases h) ?_
       rintro av A' ⟨t47, h, rfl⟩; cases h
       show AI _ _ _ _ _ _ #[true, true, true, true, true, true, true, true, false, false, false] _;refine zk 8 rfl (aw rfl) ?_;show AI _ _ _ _ _ _ #[true, true, true, true, true, true, true, true, true, false, false] _;refine zk 9 rfl (am (n := 0) (by kernel_rfl) rfl) ?_;show AI _ _ _ _ _ _ #[true, true, true, true, true, true, true, true, true, true, false] _;refine aL (i := 10) (by kernel_rfl) rfl rfl <| bJ (ay (i := 3) (c := slE _ _ _) (by kernel_rfl) rfl rfl rfl rfl (ab rfl)) ?_;show AI _ _ _ _ _ _ #[true, true, true, true, true, true, true, true, true, true, true] _;refine bE rfl ?_;exact And.intro rfl (Exists.intro _ (Exists.intro _ ⟨bg rfl, aC [0, 0, 0, 0] rfl, rfl, rfl, t47, rfl⟩))
      ·refine bz [] rfl bQ rfl (aU x35 none (dD g37)) rfl (fun c A' h => by obtain ⟨_, h, _⟩ := h; cases h) ?_
       rintro av A' ⟨t48, h, rfl⟩; cases h
       show AI _ _ _ _ _ _ #[false, true, true, true, true, true, true, true, false, false, false] _;refine aL (i := 0) (by kernel_rfl) rfl rfl <| aX rfl (aj (i := 2) ar rfl rfl rfl rfl) ?_;show AI _ _ _ _ _ _ #[true, true, true, true, true, true, true, true, false, false, false] _;refine zk 8 rfl (aw rfl) ?_;show AI _ _ _ _ _ _ #[true, true, true, true, true, true, true, true, true, false, false] _;refine zk 9 rfl (am (n := 0) (by kernel_rfl) rfl) ?_;show AI _ _ _ _ _ _ #[true, true, true, true, true, true, true, true, true, true, false] _;refine aL (i := 10) (by kernel_rfl) rfl rfl <| bJ (ay (i := 3) (c := slE _ _ _) (by kernel_rfl) rfl rfl rfl rfl (ab rfl)) ?_;show AI _ _ _ _ _ _ #[true, true, true, true, true, true, true, true, true, true, true] _;refine bE rfl ?_;exact And.intro rfl (Exists.intro _ (Exists.intro _ ⟨bg rfl, aC [0, 0, 0, 0] rfl, rfl, rfl, t48, rfl⟩))
   ·refine aX rfl (aj (i := 0) aB rfl rfl rfl rfl) ?_;show AI _ _ _ _ _ _ #[false, false, false, false, false, true, false, false, false, false, false] _;refine dG (i := 0) (j := 1) (by kernel_rfl) rfl rfl rfl rfl ?_ ?_
    ·refine aX rfl (aj (i := 1) ar rfl rfl rfl rfl) ?_;show AI _ _ _ _ _ _ #[true, false, false, false, false, true, false, false, false, false, false] _;refine aL (i := 1) (by kernel_rfl) rfl rfl <| aX rfl (aj (i := 1) ar rfl rfl rfl rfl) ?_;show AI _ _ _ _ _ _ #[true, true, false, false, false, true, false, false, false, false, false] _;refine zk 2 rfl (aw rfl) ?_;show AI _ _ _ _ _ _ #[true, true, true, false, false, true, false, false, false, false, false] _;refine zk 3 rfl (am (n := 0) (by kernel_rfl) rfl) ?_;show AI _ _ _ _ _ _ #[true, true, true, true, false, true, false, false, false, false, false] _;refine aL (i := 4) (by kernel_rfl) rfl rfl <| aX rfl (aj (i := 2) ag rfl rfl rfl rfl) ?_;show AI _ _ _ _ _ _ #[true, true, true, true, true, true, false, false, false, false, false] _;refine zk 6 rfl (cj (E := Enc.byte) ag (by kernel_rfl) rfl rfl g34 e36) ?_;show AI _ _ _ _ _ _ #[true, true, true, true, true, true, true, false, false, false, false] _;refine aL (i := 7) (by kernel_rfl) rfl rfl <| bz [] rfl bQ rfl (aU x35 none (dD g37)) rfl (fun c A' h => by obtain ⟨_, h, _⟩ := h; cases h) ?_
     rintro av A' ⟨t49, h, rfl⟩; cases h
     show AI _ _ _ _ _ _ #[true, true, true, true, true, true, true, true, false, false, false] _;refine zk 8 rfl (aw rfl) ?_;show AI _ _ _ _ _ _ #[true, true, true, true, true, true, true, true, true, false, false] _;refine zk 9 rfl (am (n := 0) (by kernel_rfl) rfl) ?_;show AI _ _ _ _ _ _ #[true, true, true, true, true, true, true, true, true, true, false] _;refine aL (i := 10) (by kernel_rfl) rfl rfl <| bJ (ay (i := 3) (c := slE _ _ _) (by kernel_rfl) rfl rfl rfl rfl (ab rfl)) ?_;show AI _ _ _ _ _ _ #[true, true, true, true, true, true, true, true, true, true, true] _;refine bE rfl ?_;exact And.intro rfl (Exists.intro _ (Exists.intro _ ⟨bg rfl, aC [0, 0, 0, 0] rfl, rfl, rfl, t49, rfl⟩))
    ·refine aX rfl (aj (i := 1) ar rfl rfl rfl rfl) ?_;show AI _ _ _ _ _ _ #[false, true, false, false, false, true, false, false, false, false, false] _;refine zk 2 rfl (aw rfl) ?_;show AI _ _ _ _ _ _ #[false, true, true, false, false, true, false, false, false, false, false] _;refine zk 3 rfl (am (n := 0) (by kernel_rfl) rfl) ?_;show AI _ _ _ _ _ _ #[false, true, true, true, false, true, false, false, false, false, false] _;refine dG (i := 0) (j := 4) (by kernel_rfl) rfl rfl rfl rfl ?_ ?_
     ·refine aX rfl (aj (i := 1) ar rfl rfl rfl rfl) ?_;show AI _ _ _ _ _ _ #[true, true, true, true, false, true, false, false, false, false, false] _;refine aL (i := 4) (by kernel_rfl) rfl rfl <| aX rfl (aj (i := 2) ag rfl rfl rfl rfl) ?_;show AI _ _ _ _ _ _ #[true, true, true, true, true, true, false, false, false, false, false] _;refine zk 6 rfl (cj (E := Enc.byte) ag (by kernel_rfl) rfl rfl g34 e36) ?_;show AI _ _ _ _ _ _ #[true, true, true, true, true, true, true, false, false, false, false] _;refine aL (i := 7) (by kernel_rfl) rfl rfl <| bz [] rfl bQ rfl (aU x35 none (dD g37)) rfl (fun c A' h => by obtain ⟨_, h, _⟩ := h; cases h) ?_
      rintro av A' ⟨t50, h, rfl⟩; cases h
      show AI _ _ _ _ _ _ #[true, true, true, true, true, true, true, true, false, false, false] _;refine zk 8 rfl (aw rfl) ?_;show AI _ _ _ _ _ _ #[true, true, true, true, true, true, true, true, true, false, false] _;refine zk 9 rfl (am (n := 0) (by kernel_rfl) rfl) ?_;show AI _ _ _ _ _ _ #[true, true, true, true, true, true, true, true, true, true, false] _;refine aL (i := 10) (by kernel_rfl) rfl rfl <| bJ (ay (i := 3) (c := slE _ _ _) (by kernel_rfl) rfl rfl rfl rfl (ab rfl)) ?_;show AI _ _ _ _ _ _ #[true, true, true, true, true, true, true, true, true, true, true] _;refine bE rfl ?_;exact And.intro rfl (Exists.intro _ (Exists.intro _ ⟨bg rfl, aC [0, 0, 0, 0] rfl, rfl, rfl, t50, rfl⟩))
     ·refine aX rfl (aj (i := 2) ag rfl rfl rfl rfl) ?_;show AI _ _ _ _ _ _ #[false, true, true, true, true, true, false, false, false, false, false] _;refine zk 6 rfl (cj (E := Enc.byte) ag (by kernel_rfl) rfl rfl g34 e36) ?_;show AI _ _ _ _ _ _ #[false, true, true, true, true, true, true, false, false, false, false] _;refine dG (i := 0) (j := 7) (by kernel_rfl) rfl rfl rfl rfl ?_ ?_
      ·refine aX rfl (aj (i := 1) ar rfl rfl rfl rfl) ?_;show AI _ _ _ _ _ _ #[true, true, true, true, true, true, true, false, false, false, false] _;refine aL (i := 7) (by kernel_rfl) rfl rfl <| bz [] rfl bQ rfl (aU x35 none (dD g37)) rfl (fun c A' h => by obtain ⟨_, h, _⟩ := h; cases h) ?_
       rintro av A' ⟨t51, h, rfl⟩; cases h
       show AI _ _ _ _ _ _ #[true, true, true, true, true, true, true, true, false, false, false] _;refine zk 8 rfl (aw rfl) ?_;show AI _ _ _ _ _ _ #[true, true, true, true, true, true, true, true, true, false, false] _;refine zk 9 rfl (am (n := 0) (by kernel_rfl) rfl) ?_;show AI _ _ _ _ _ _ #[true, true, true, true, true, true, true, true, true, true, false] _;refine aL (i := 10) (by kernel_rfl) rfl rfl <| bJ (ay (i := 3) (c := slE _ _ _) (by kernel_rfl) rfl rfl rfl rfl (ab rfl)) ?_;show AI _ _ _ _ _ _ #[true, true, true, true, true, true, true, true, true, true, true] _;refine bE rfl ?_;exact And.intro rfl (Exists.intro _ (Exists.intro _ ⟨bg rfl, aC [0, 0, 0, 0] rfl, rfl, rfl, t51, rfl⟩))
      ·refine bz [] rfl bQ rfl (aU x35 none (dD g37)) rfl (fun c A' h => by obtain ⟨_, h, _⟩ := h; cases h) ?_
       rintro av A' ⟨t52, h, rfl⟩; cases h
       show AI _ _ _ _ _ _ #[false, true, true, true, true, true, true, true, false, false, false] _;refine aL (i := 0) (by kernel_rfl) rfl rfl <| aX rfl (aj (i := 2) ar rfl rfl rfl rfl) ?_;show AI _ _ _ _ _ _ #[true, true, true, true, true, true, true, true, false, false, false] _;refine zk 8 rfl (aw rfl) ?_;show AI _ _ _ _ _ _ #[true, true, true, true, true, true, true, true, true, false, false] _;refine zk 9 rfl (am (n := 0) (by kernel_rfl) rfl) ?_;show AI _ _ _ _ _ _ #[true, true, true, true, true, true, true, true, true, true, false] _;refine aL (i := 10) (by kernel_rfl) rfl rfl <| bJ (ay (i := 3) (c := slE _ _ _) (by kernel_rfl) rfl rfl rfl rfl (ab rfl)) ?_;show AI _ _ _ _ _ _ #[true, true, true, true, true, true, true, true, true, true, true] _;refine bE rfl ?_;exact And.intro rfl (Exists.intro _ (Exists.intro _ ⟨bg rfl, aC [0, 0, 0, 0] rfl, rfl, rfl, t52, rfl⟩))
  intro t38;show ALeaves _ _ _ _ _ [] .returning [.tok t38 5, .obj o24 [i64 x27], .obj o11 [.pt o1 0], .obj o1 [slE Enc.byte x35 (some t38), B a4], .obj o12 [slE (ak Enc.int (ak (Enc.sl Enc.str) (ak Enc.int (ak Enc.int Enc.int)))) x26 (some t33)], .tok t33 38, .tok t22 5];obtain ⟨rfl, rfl, rfl⟩ := iQ H;exact Exists.intro _ (Exists.intro _ ⟨du rfl ((CellV.one (c := slE _ _ _) 4 aH rfl rfl rfl rfl).oneW (.tok _ _ _)), aC [3, 0] rfl, rfl, t38, rfl⟩)
set_option maxRecDepth 100000 in
set_option maxHeartbeats 1000000 in
theorem jn (F : Nat) (a1 : List UInt8) (q2 : Option Nat) (r3 : List (Int × (List (List UInt8)) × Int × Int × Int)) (r4 : Int) (H : fj F a1 = some (r3, r4)) : ACalls Tryd.prog 18 [slE Enc.byte a1 q2] [] (Ret (.tup [slE (ak Enc.int (ak (Enc.sl Enc.str) (ak Enc.int (ak Enc.int Enc.int)))) r3 none, i64 r4]) []) := by
 unfold fj at H
 refine aA Tryd.func18 rfl rfl ?_;show AW _ _ 18 _ _ _;refine af <| aa ?_;show AR _ _ _ _ _ [0, 1] _;refine za rfl <| za rfl <| ah <| af ?_;obtain ⟨_, e5, H⟩ := eh H;refine aa ?_;show AR _ _ _ _ _ [0, 1] _;refine aW rfl rfl (AO.callAt [] rfl en9_repa rfl (kc F e5) rfl (fun c A' h => by obtain ⟨_, h, _⟩ := h; cases h) ?_)
 rintro av A' ⟨o6, h, rfl⟩; cases h
 refine zS rfl (aG (av := .pt _ _) rfl) <| ah <| af ?_;obtain ⟨x8, x9, x10, e11, H⟩ := jF H;refine aa ?_;show AR _ _ _ _ _ [0, 1, 2, 3] _;refine zS rfl (az (av := .pt _ _) rfl) <| zS rfl (az (av := slE _ _ _) rfl) ?_
 refine AR.nil_objAt 0 0 1 5 rfl rfl fun t7 => ?_
 show AR _ _ _ _ _ _ ⟨_, _, [.tok t7 5, .obj o6 [slE Enc.byte [] (some t7), B false]]⟩;refine aW rfl rfl (AO.callAt [1, 0] rfl nu rfl (mM F o6 [] t7 false a1 q2 x8 x9 x10 e11) rfl (fun c A' h => by cases h.1) ?_)
 rintro av A' ⟨h, t12, rfl⟩; cases h
 refine zS rfl (aG (av := slE _ _ _) rfl) <| ah <| af <| af ?_;obtain ⟨x13, e14, H⟩ := eh H;obtain ⟨x16, e17, H⟩ := dT H;refine aa ?_;show AR _ _ _ _ _ [0, 1, 2, 3, 4, 5, 6] _;refine zS rfl (az (av := .pt _ _) rfl) <| aW rfl rfl (AO.callAt [0, 0] rfl nt rfl (kd F o6 x9 t12 x10 x13 e14) rfl (fun c A' h => by cases h.1) ?_)
 rintro av A' ⟨h, rfl⟩; cases h
 refine zm rfl <| aD (l := []) 16 (B (x13 || (decide (0 < x16)))) (fun K => ?_) ?_
 ·rcases ac x13 with h15 | h15
  ·refine zF h15 rfl <| zF h15 rfl <| zF h15 rfl <| zS rfl (aq (av := .v _) rfl h15 rfl) ?_;exact K _ 3 _ (an (fM h15)) rfl rfl
  ·refine zU h15 rfl (az (av := .pt _ _) rfl) <| zT h15 rfl (AO.callAt [0, 0] rfl nr rfl (lX F o6 x9 t12 x10 x16 (e17 (nf h15))) rfl (fun c A' h => by cases h.1) ?_)
   rintro av A' ⟨h, rfl⟩; cases h
   refine zU h15 rfl (eM rfl rfl) <| zS rfl (ap (av := .v _) rfl h15 rfl) ?_;exact K _ 3 _ (an (fN h15)) rfl rfl
 refine ah <| ax rfl (fun c18 => ?_) (fun c18 => ?_)
 ·replace H := ba c18 H;refine af <| aa ?_;show AR _ _ _ _ _ [0, 1] _;refine za rfl <| za rfl <| ah <| aK ?_;obtain ⟨rfl, rfl⟩ := eT H;exact And.intro rfl (Exists.intro _ (Exists.intro _ ⟨bk rfl (.nil _) (.refl _), aC [] rfl, rfl, rfl⟩))
 ·replace H := bb c18 H;refine aE <| af <| aa ?_;show AR _ _ _ _ _ [0, 1, 2] _;refine zS rfl (az (av := slE _ _ _) rfl) <| zS rfl (aG (av := slE _ _ _) rfl) <| za rfl <| ah <| aK ?_;obtain ⟨rfl, rfl⟩ := eT H;exact And.intro rfl (Exists.intro _ (Exists.intro _ ⟨bk rfl (.refl _) (.refl _), aC [] rfl, rfl, rfl⟩))
end Go.Proofs.YtimpbfniegimaaaDoor
namespace Go.Pv
def dQ (F : Nat) : Option Bool :=
jG (fj F ([50, 53, 48, 45, 97, 13, 10, 50, 53, 48, 32, 50, 46, 48, 46, 48, 32, 98, 13, 10] : List UInt8)) fun x3 x4 =>
bnd (gW F) fun _ =>
dY ((decide (x4 = 0)) && (decide ((x3.length : Int) = 1))) (cx 0 x3.length) <|
lt (at_ x3 0) fun x12 =>
dY (((decide (x4 = 0)) && (decide ((x3.length : Int) = 1))) && (decide (x12.1 = 250))) (cx 0 x3.length) <|
lt (at_ x3 0) fun x16 =>
dY ((((decide (x4 = 0)) && (decide ((x3.length : Int) = 1))) && (decide (x12.1 = 250))) && (decide ((x16.2.1.length : Int) = 2))) (cx 0 x3.length) <|
lt (at_ x3 0) fun x20 =>
dY (((((decide (x4 = 0)) && (decide ((x3.length : Int) = 1))) && (decide (x12.1 = 250))) && (decide ((x16.2.1.length : Int) = 2))) && ((x20.2.2.1 == 2) && ((x20.2.2.2.1 == 0) && ((x20.2.2.2.2 == 0) && true)))) (cx 0 x3.length) <|
lt (at_ x3 0) fun x24 =>
gA (((((decide (x4 = 0)) && (decide ((x3.length : Int) = 1))) && (decide (x12.1 = 250))) && (decide ((x16.2.1.length : Int) = 2))) && ((x20.2.2.1 == 2) && ((x20.2.2.2.1 == 0) && ((x20.2.2.2.2 == 0) && true)))) (fB F x24.1 x24.2.1 x24.2.2.1 x24.2.2.2.1 x24.2.2.2.2) fun x26 =>
gA (((((((decide (x4 = 0)) && (decide ((x3.length : Int) = 1))) && (decide (x12.1 = 250))) && (decide ((x16.2.1.length : Int) = 2))) && ((x20.2.2.1 == 2) && ((x20.2.2.2.1 == 0) && ((x20.2.2.2.2 == 0) && true)))) && x26) || false) (gX F [] false) fun x30 =>
some ((((((((decide (x4 = 0)) && (decide ((x3.length : Int) = 1))) && (decide (x12.1 = 250))) && (decide ((x16.2.1.length : Int) = 2))) && ((x20.2.2.1 == 2) && ((x20.2.2.2.1 == 0) && ((x20.2.2.2.2 == 0) && true)))) && x26) || false) && (!x30))
end Go.Pv
namespace Go.Proofs.YtimpbfniegimaaaDoor
open Go.RowKit Go.Av Go.Pv
theorem en9_repl : ∀ (args : Array Value) (w : World), (callFunc 9 args).run Tryd.prog w = .ok (.enter 9 args) w := fun _ _ => by kernel_rfl
theorem ns : ∀ (args : Array Value) (w : World), (callFunc 13 args).run Tryd.prog w = .ok (.enter 13 args) w := fun _ _ => by kernel_rfl
theorem nq : ∀ (args : Array Value) (w : World), (callFunc 18 args).run Tryd.prog w = .ok (.enter 18 args) w := fun _ _ => by kernel_rfl
theorem nl : ∀ (args : Array Value) (w : World), (callFunc 21 args).run Tryd.prog w = .ok (.enter 21 args) w := fun _ _ => by kernel_rfl
set_option maxRecDepth 100000 in
set_option maxHeartbeats 1000000 in
theorem jM (F : Nat) (r1 : Bool) (H : dQ F = some r1) : ACalls Tryd.prog 8 [] [] (Ret (B r1) []) := by
 unfold dQ at H
 refine aA Tryd.func8 rfl rfl ?_;show AW _ _ 56 _ _ _;refine af <| aa ?_;show AR _ _ _ _ _ [0] _;refine za rfl <| ah <| af ?_;obtain ⟨x3, x4, e5, H⟩ := fc H;refine aa ?_;show AR _ _ _ _ _ [0, 1, 2, 3, 4, 5, 6, 7] _;refine zX rfl (mb (E := Enc.byte) (bytes := 1) (xs := [.const _, .const _, .const _, .const _, .const _, .const _, .const _, .const _, .const _, .const _, .const _, .const _, .const _, .const _, .const _, .const _, .const _, .const _, .const _, .const _]) (l := ([50, 53, 48, 45, 97, 13, 10, 50, 53, 48, 32, 50, 46, 48, 46, 48, 32, 98, 13, 10] : List UInt8)) ag (by kernel_rfl) rfl rfl (by decide) rfl rfl) ?_;rintro _ _ ⟨t2, rfl, rfl⟩;refine zR rfl (jW 0 ag bi rfl (by simp) rfl) <| aW rfl rfl (aI rfl nq rfl (jn F ([50, 53, 48, 45, 97, 13, 10, 50, 53, 48, 32, 50, 46, 48, 46, 48, 32, 98, 13, 10] : List UInt8) (some t2) x3 x4 e5) ?_);refine zS rfl (az (av := .tup _) rfl) <| zS rfl (aF (av := slE _ _ _) rfl rfl) <| zS rfl (aF (av := .v _) rfl rfl) <| zS rfl (aG (av := slE _ _ _) rfl) <| za rfl <| ah <| af ?_;obtain ⟨_, e6, H⟩ := eh H;refine aa ?_;show AR _ _ _ _ _ [0, 1] _;refine aW rfl rfl (AO.callAt [] rfl en9_repl rfl (kc F e6) rfl (fun c A' h => by obtain ⟨_, h, _⟩ := h; cases h) ?_)
 rintro av A' ⟨o7, h, rfl⟩; cases h
 refine zS rfl (aG (av := .pt _ _) rfl) ?_
 refine iM 0 0 1 5 rfl rfl fun t8 => ?_
 show AR _ _ _ _ _ _ ⟨_, _, [.obj o7 [slE Enc.byte [] (some t8), B false], .tok t8 5, .tok t2 5]⟩;refine ah <| af ?_;obtain ⟨g11, H⟩ := cG H;obtain ⟨x12, e13, H⟩ := bL H;obtain ⟨g15, H⟩ := cG H;obtain ⟨x16, e17, H⟩ := bL H;obtain ⟨g19, H⟩ := cG H;obtain ⟨x20, e21, H⟩ := bL H;obtain ⟨g23, H⟩ := cG H;obtain ⟨x24, e25, H⟩ := bL H;obtain ⟨x26, e27, H⟩ := dT H;obtain ⟨x30, e31, H⟩ := dT H;refine aa ?_;show AR _ _ _ _ _ [0, 1, 2, 3, 4, 5, 6, 7, 8, 9, 10, 11, 12, 13, 14, 15, 16, 17, 18, 19, 20, 21, 22, 23, 24, 25, 26, 27, 28, 29, 30, 31, 32, 33, 34, 35, 36, 37, 38, 39, 40, 41, 42, 43, 44, 45] _;refine zm rfl <| zS rfl (bw rfl rfl) <| zm rfl <| aD (l := [7, 8, 9, 10, 11, 12, 13, 14, 15, 16, 17, 18, 19, 20, 21, 22, 23, 24, 25, 26, 27, 28, 29, 30, 31, 32, 33, 34, 35, 36, 37, 38, 39, 40, 41, 42, 43, 44, 45]) 17 (B ((decide (x4 = 0)) && (decide ((x3.length : Int) = 1)))) (fun K => ?_) ?_
 ·rcases ac (decide (x4 = 0)) with h9 | h9
  ·refine zU h9 rfl (az (av := slE _ _ _) rfl) <| zU h9 rfl (bc aH rfl) <| zU h9 rfl (bw rfl rfl) <| zS rfl (aq (av := .v _) rfl h9 rfl) ?_;exact K _ 3 _ (an (bC h9)) rfl rfl
  ·refine zF h9 rfl <| zF h9 rfl <| zF h9 rfl <| zS rfl (ap (av := .v _) rfl h9 rfl) ?_;exact K _ 3 _ (an (bD h9)) rfl rfl
 refine zm rfl <| aD (l := [14, 15, 16, 17, 18, 19, 20, 21, 22, 23, 24, 25, 26, 27, 28, 29, 30, 31, 32, 33, 34, 35, 36, 37, 38, 39, 40, 41, 42, 43, 44, 45]) 24 (B (((decide (x4 = 0)) && (decide ((x3.length : Int) = 1))) && (decide (x12.1 = 250)))) (fun K => ?_) ?_
 ·rcases ac ((decide (x4 = 0)) && (decide ((x3.length : Int) = 1))) with h10 | h10
  ·refine zU h10 rfl (az (av := slE _ _ _) rfl) <| zU h10 rfl (bH (E := (ak Enc.int (ak (Enc.sl Enc.str) (ak Enc.int (ak Enc.int Enc.int))))) aH (by kernel_rfl) rfl rfl (g11 h10) e13) <| zU h10 rfl (aN (n := 0) (by kernel_rfl) rfl (ab rfl)) <| zU h10 rfl (aY aB rfl rfl) <| zU h10 rfl (bw rfl rfl) <| zS rfl (aq (av := .v _) rfl h10 rfl) ?_;exact K _ 5 _ (an (bC h10)) rfl rfl
  ·refine zF h10 rfl <| zF h10 rfl <| zF h10 rfl <| zF h10 rfl <| zF h10 rfl <| zS rfl (ap (av := .v _) rfl h10 rfl) ?_;exact K _ 5 _ (an (bD h10)) rfl rfl
 refine zm rfl <| aD (l := [22, 23, 24, 25, 26, 27, 28, 29, 30, 31, 32, 33, 34, 35, 36, 37, 38, 39, 40, 41, 42, 43, 44, 45]) 32 (B ((((decide (x4 = 0)) && (decide ((x3.length : Int) = 1))) && (decide (x12.1 = 250))) && (decide ((x16.2.1.length : Int) = 2)))) (fun K => ?_) ?_
 ·rcases ac (((decide (x4 = 0)) && (decide ((x3.length : Int) = 1))) && (decide (x12.1 = 250))) with h14 | h14
  ·refine zU h14 rfl (az (av := slE _ _ _) rfl) <| zU h14 rfl (bH (E := (ak Enc.int (ak (Enc.sl Enc.str) (ak Enc.int (ak Enc.int Enc.int))))) aH (by kernel_rfl) rfl rfl (g15 h14) e17) <| zU h14 rfl (aN (n := 1) (by kernel_rfl) rfl (ab rfl)) <| zU h14 rfl (aY ao rfl rfl) <| zU h14 rfl (bc ao rfl) <| zU h14 rfl (bw rfl rfl) <| zS rfl (aq (av := .v _) rfl h14 rfl) ?_;exact K _ 6 _ (an (bC h14)) rfl rfl
  ·refine zF h14 rfl <| zF h14 rfl <| zF h14 rfl <| zF h14 rfl <| zF h14 rfl <| zF h14 rfl <| zS rfl (ap (av := .v _) rfl h14 rfl) ?_;exact K _ 6 _ (an (bD h14)) rfl rfl
 refine zm rfl <| aD (l := [30, 31, 32, 33, 34, 35, 36, 37, 38, 39, 40, 41, 42, 43, 44, 45]) 40 (B (((((decide (x4 = 0)) && (decide ((x3.length : Int) = 1))) && (decide (x12.1 = 250))) && (decide ((x16.2.1.length : Int) = 2))) && ((x20.2.2.1 == 2) && ((x20.2.2.2.1 == 0) && ((x20.2.2.2.2 == 0) && true))))) (fun K => ?_) ?_
 ·rcases ac ((((decide (x4 = 0)) && (decide ((x3.length : Int) = 1))) && (decide (x12.1 = 250))) && (decide ((x16.2.1.length : Int) = 2))) with h18 | h18
  ·refine zU h18 rfl (az (av := slE _ _ _) rfl) <| zU h18 rfl (bH (E := (ak Enc.int (ak (Enc.sl Enc.str) (ak Enc.int (ak Enc.int Enc.int))))) aH (by kernel_rfl) rfl rfl (g19 h18) e21) <| zU h18 rfl (aN (n := 2) (by kernel_rfl) rfl (ab rfl)) <| zU h18 rfl (bX aQ rfl (n := 3) (by kernel_rfl) rfl (ab rfl)) <| zU h18 rfl (mj (zs := [.int .i64 0, .int .i64 0, .int .i64 0]) (k := 1) (cs := [i64 2, i64 0, i64 0]) aQ (by kernel_rfl) (by kernel_rfl) rfl rfl (by kernel_rfl)) <| zU h18 rfl (jq (r := (x20.2.2.1 == 2) && ((x20.2.2.2.1 == 0) && ((x20.2.2.2.2 == 0) && true))) (.inl rfl) aQ aB rfl (by kernel_rfl) (by kernel_rfl) rfl rfl rfl rfl) <| zS rfl (aq (av := .v _) rfl h18 rfl) ?_;exact K _ 6 _ (an (bC h18)) rfl rfl
  ·refine zF h18 rfl <| zF h18 rfl <| zF h18 rfl <| zF h18 rfl <| zF h18 rfl <| zF h18 rfl <| zS rfl (ap (av := .v _) rfl h18 rfl) ?_;exact K _ 6 _ (an (bD h18)) rfl rfl
 refine zm rfl <| aD (l := [36, 37, 38, 39, 40, 41, 42, 43, 44, 45]) 46 (B ((((((decide (x4 = 0)) && (decide ((x3.length : Int) = 1))) && (decide (x12.1 = 250))) && (decide ((x16.2.1.length : Int) = 2))) && ((x20.2.2.1 == 2) && ((x20.2.2.2.1 == 0) && ((x20.2.2.2.2 == 0) && true)))) && x26)) (fun K => ?_) ?_
 ·rcases ac (((((decide (x4 = 0)) && (decide ((x3.length : Int) = 1))) && (decide (x12.1 = 250))) && (decide ((x16.2.1.length : Int) = 2))) && ((x20.2.2.1 == 2) && ((x20.2.2.2.1 == 0) && ((x20.2.2.2.2 == 0) && true)))) with h22 | h22
  ·refine zU h22 rfl (az (av := slE _ _ _) rfl) <| zU h22 rfl (bH (E := (ak Enc.int (ak (Enc.sl Enc.str) (ak Enc.int (ak Enc.int Enc.int))))) aH (by kernel_rfl) rfl rfl (g23 h22) e25) <| zU h22 rfl (bX cu rfl (n := 5) (by kernel_rfl) rfl (ab rfl)) <| zT h22 rfl (aI rfl nl rfl (hO F x24.1 x24.2.1 x24.2.2.1 x24.2.2.2.1 x24.2.2.2.2 x26 (e27 h22)) ?_);refine zS rfl (aq (av := .v _) rfl h22 rfl) ?_;exact K _ 4 _ (an (bC h22)) rfl rfl
  ·refine zF h22 rfl <| zF h22 rfl <| zF h22 rfl <| zF h22 rfl <| zS rfl (ap (av := .v _) rfl h22 rfl) ?_;exact K _ 4 _ (an (bD h22)) rfl rfl
 refine zm rfl <| aD (l := [40, 41, 42, 43, 44, 45]) 50 (B (((((((decide (x4 = 0)) && (decide ((x3.length : Int) = 1))) && (decide (x12.1 = 250))) && (decide ((x16.2.1.length : Int) = 2))) && ((x20.2.2.1 == 2) && ((x20.2.2.2.1 == 0) && ((x20.2.2.2.2 == 0) && true)))) && x26) || false)) (fun K => ?_) ?_
 ·rcases ac ((((((decide (x4 = 0)) && (decide ((x3.length : Int) = 1))) && (decide (x12.1 = 250))) && (decide ((x16.2.1.length : Int) = 2))) && ((x20.2.2.1 == 2) && ((x20.2.2.2.1 == 0) && ((x20.2.2.2.2 == 0) && true)))) && x26) with h28 | h28
  ·refine zU h28 rfl (az (av := .pt _ _) rfl) <| zU h28 rfl (kz ar rfl rfl) <| zS rfl (aq (av := .v _) rfl h28 rfl) ?_;exact K _ 2 _ (an (fM h28)) rfl rfl
  ·refine zF h28 rfl <| zF h28 rfl <| zS rfl (ap (av := .v _) rfl h28 rfl) ?_;exact K _ 2 _ (an (fN h28)) rfl rfl
 refine zm rfl <| aD (l := [45]) 55 (B ((((((((decide (x4 = 0)) && (decide ((x3.length : Int) = 1))) && (decide (x12.1 = 250))) && (decide ((x16.2.1.length : Int) = 2))) && ((x20.2.2.1 == 2) && ((x20.2.2.2.1 == 0) && ((x20.2.2.2.2 == 0) && true)))) && x26) || false) && (!x30))) (fun K => ?_) ?_
 ·rcases ac (((((((decide (x4 = 0)) && (decide ((x3.length : Int) = 1))) && (decide (x12.1 = 250))) && (decide ((x16.2.1.length : Int) = 2))) && ((x20.2.2.1 == 2) && ((x20.2.2.2.1 == 0) && ((x20.2.2.2.2 == 0) && true)))) && x26) || false) with h29 | h29
  ·refine zU h29 rfl (az (av := .pt _ _) rfl) <| zT h29 rfl (AO.callAt [0, 0] rfl ns rfl (kd F o7 [] t8 false x30 (e31 h29)) rfl (fun c A' h => by cases h.1) ?_)
   rintro av A' ⟨h, rfl⟩; cases h
   refine zU h29 rfl (dE rfl) <| zS rfl (aq (av := .v _) rfl h29 rfl) ?_;exact K _ 3 _ (an (bC h29)) rfl rfl
  ·refine zF h29 rfl <| zF h29 rfl <| zF h29 rfl <| zS rfl (ap (av := .v _) rfl h29 rfl) ?_;exact K _ 3 _ (an (bD h29)) rfl rfl
 refine za rfl <| ah <| aK ?_;obtain rfl := al H;exact And.intro rfl (Exists.intro _ (Exists.intro _ ⟨aO rfl (.refl _), aC [] rfl, rfl, rfl⟩))
end Go.Proofs.YtimpbfniegimaaaDoor
namespace Go.Pv
def co (a1 : List UInt8) (y38 : List UInt8) : Option Bool :=
some (decide (y38 = a1))
def cr (F : Nat) (a1 : List UInt8) (x8 : List (Int × (List (List UInt8)) × Int × Int × Int)) (rec17 : ((List UInt8) × Int) → Option Bool) (y14 : List UInt8) (y16 : Int) : Option Bool :=
bif decide (y16 < (x8.length : Int)) then
  grd (cx y16 x8.length) <|
  lt (at_ x8 y16) fun x21 =>
  jG (fe F x21.1 x21.2.1 x21.2.2.1 x21.2.2.2.1 x21.2.2.2.2) fun x23 x24 =>
  dY (!(!decide (x24 = 0))) (cx y16 x8.length) <|
  lt (at_ x8 y16) fun x28 =>
  gA (!(!decide (x24 = 0))) (fB F x28.1 x28.2.1 x28.2.2.1 x28.2.2.2.1 x28.2.2.2.2) fun x30 =>
  bif (!decide (x24 = 0)) || (!x30) then
    some false
  else
    grd (eg (y14.length + x23.length)) <|
    lt (y14 ++ x23) fun x35 =>
    grd (okI (y16 + 1)) <|
    rec17 (x35, y16 + 1)
else
  co a1 y14
def cq (F : Nat) (a1 : List UInt8) (x8 : List (Int × (List (List UInt8)) × Int × Int × Int)) (n : Nat) : ((List UInt8) × Int) → Option Bool :=
  loop (fun rec x => cr F a1 x8 rec x.1 x.2) n
def dc (F : Nat) (a1 : List UInt8) : Option Bool :=
bnd (dQ F) fun x4 =>
bif (!x4) || (decide (3000 < (a1.length : Int))) then
  some x4
else
  jG (fj F a1) fun x8 x9 =>
  bif !decide (x9 = 0) then
    some ((decide ((x8.length : Int) = 0)) && (decide (x9 = 2)))
  else
    cq F a1 x8 F ([], 0)
end Go.Pv
namespace Go.Proofs.YtimpbfniegimaaaDoor
open Go.RowKit Go.Av Go.Pv
theorem jZ : ∀ (args : Array Value) (w : World), (callFunc 8 args).run Tryd.prog w = .ok (.enter 8 args) w := fun _ _ => by kernel_rfl
theorem jk : ∀ (args : Array Value) (w : World), (callFunc 16 args).run Tryd.prog w = .ok (.enter 16 args) w := fun _ _ => by kernel_rfl
theorem jj : ∀ (args : Array Value) (w : World), (callFunc 18 args).run Tryd.prog w = .ok (.enter 18 args) w := fun _ _ => by kernel_rfl
theorem ji : ∀ (args : Array Value) (w : World), (callFunc 21 args).run Tryd.prog w = .ok (.enter 21 args) w := fun _ _ => by kernel_rfl
set_option maxRecDepth 100000 in
set_option maxHeartbeats 1000000 in
theorem hB (F : Nat) (a1 : List UInt8) (q2 : Option Nat) (r3 : Bool) (H : dc F a1 = some r3) : ACalls Tryd.prog 7 [slE Enc.byte a1 q2] [] (Ret (B r3) []) := by
 unfold dc at H
 refine aA Tryd.func7 rfl rfl ?_;show AW _ _ 65 _ _ _;refine af <| aa ?_;show AR _ _ _ _ _ [0] _;refine za rfl <| ah <| af ?_;obtain ⟨x4, e5, H⟩ := eh H;refine aa ?_;show AR _ _ _ _ _ [0, 1] _;refine aW rfl rfl (aI rfl jZ rfl (jM F x4 e5) ?_);refine za rfl <| ah <| af <| af <| aa ?_;show AR _ _ _ _ _ [0, 1, 2, 3, 4, 5, 6] _;refine zm rfl <| zS rfl (dE rfl) <| zm rfl <| aD (l := []) 17 (B ((!x4) || (decide (3000 < (a1.length : Int))))) (fun K => ?_) ?_
 ·rcases ac (!x4) with h6 | h6
  ·refine zF h6 rfl <| zF h6 rfl <| zF h6 rfl <| zS rfl (aq (av := .v _) rfl h6 rfl) ?_;exact K _ 3 _ (an (fM h6)) rfl rfl
  ·refine zU h6 rfl (az (av := slE _ _ _) rfl) <| zU h6 rfl (bc ag rfl) <| zU h6 rfl (eM rfl rfl) <| zS rfl (ap (av := .v _) rfl h6 rfl) ?_;exact K _ 3 _ (an (fN h6)) rfl rfl
 refine ah <| ax rfl (fun c7 => ?_) (fun c7 => ?_)
 ·replace H := ba c7 H;refine af <| aa ?_;show AR _ _ _ _ _ [0, 1] _;refine zm rfl <| za rfl <| ah <| aK ?_;obtain rfl := al H;exact And.intro rfl (Exists.intro _ (Exists.intro _ ⟨aO rfl (.refl _), aC [] rfl, rfl, rfl⟩))
 ·replace H := bb c7 H;refine aE <| af ?_;obtain ⟨x8, x9, e10, H⟩ := fc H;refine aa ?_;show AR _ _ _ _ _ [0, 1, 2, 3, 4, 5, 6] _;refine zS rfl (az (av := slE _ _ _) rfl) <| aW rfl rfl (aI rfl jj rfl (jn F a1 q2 x8 x9 e10) ?_);refine zS rfl (az (av := .tup _) rfl) <| zS rfl (aF (av := slE _ _ _) rfl rfl) <| zS rfl (aF (av := .v _) rfl rfl) <| zS rfl (aG (av := slE _ _ _) rfl) <| za rfl <| ah <| af <| af <| aa ?_;show AR _ _ _ _ _ [0, 1] _;refine zm rfl <| zS rfl (fW rfl rfl) <| ah <| ax rfl (fun c11 => ?_) (fun c11 => ?_)
  ·replace H := ba c11 H;refine af <| aa ?_;show AR _ _ _ _ _ [0, 1, 2, 3, 4, 5, 6, 7] _;refine zS rfl (az (av := slE _ _ _) rfl) <| zS rfl (bc aH rfl) <| zS rfl (bw rfl rfl) <| zm rfl <| aD (l := [7]) 32 (B ((decide ((x8.length : Int) = 0)) && (decide (x9 = 2)))) (fun K => ?_) ?_
   ·rcases ac (decide ((x8.length : Int) = 0)) with h12 | h12
    ·refine zM h12 rfl <| zU h12 rfl (bw rfl rfl) <| zS rfl (aq (av := .v _) rfl h12 rfl) ?_;exact K _ 2 _ (an (bC h12)) rfl rfl
    ·refine zF h12 rfl <| zF h12 rfl <| zS rfl (ap (av := .v _) rfl h12 rfl) ?_;exact K _ 2 _ (an (bD h12)) rfl rfl
   refine za rfl <| ah <| aK ?_;obtain rfl := al H;exact And.intro rfl (Exists.intro _ (Exists.intro _ ⟨aO rfl (.refl _), aC [] rfl, rfl, rfl⟩))
  ·replace H := bb c11 H;refine aE <| af <| aa ?_;show AR _ _ _ _ _ [0] _;refine za rfl <| ah ?_
   refine gJ 6 1 5 rfl fun t13 => ?_
   show AW _ _ _ _ _ ⟨(6, slE Enc.byte [] (some t13)) :: _, _, _⟩;refine bI (X := (List UInt8) × Nat) (fun (y38, t39) => ⟨[(0, slE Enc.byte a1 q2), (6, slE Enc.byte y38 (some t39))], [], [.tok t39 5]⟩) (fun (y38, t39) => co a1 y38 = some r3) ?_ ?_
   ·refine af <| aa ?_;show AR _ _ _ _ _ [0] _;refine za rfl <| ah <| bh <| AW.loop (X := Nat × (List UInt8) × Nat × Int) (fun (n18, y14, t15, y16) => ⟨[(0, slE Enc.byte a1 q2), (4, slE (ak Enc.int (ak (Enc.sl Enc.str) (ak Enc.int (ak Enc.int Enc.int)))) x8 none), (6, slE Enc.byte y14 (some t15)), (7, i64 y16)], [], [.tok t15 5]⟩) (fun (n18, y14, t15, y16) => cq F a1 x8 n18 (y14, y16) = some r3) (fun (n18, y14, t15, y16) => n18) (F, [], t13, 0) H (aZ [0] (.cons (.refl _) (.cons (.refl _) (.cons (.refl _) (.cons (.refl _) (.nil _))))) rfl) ?_;rintro ⟨n18, y14, t15, y16⟩ H;obtain ⟨n18, rfl, H⟩ := eN H;replace H : cr F a1 x8 (cq F a1 x8 n18) y14 y16 = some r3 := H
    unfold cr at H
    refine af <| af <| aa ?_;show AR _ _ _ _ _ [0, 1, 2, 3] _;refine zm rfl <| zS rfl (az (av := slE _ _ _) rfl) <| zS rfl (bc aH rfl) <| zS rfl (ck rfl rfl) <| ah <| ax rfl (fun c19 => ?_) (fun c19 => ?_)
    ·replace H := ba c19 H;refine aE <| af <| bh <| af ?_;obtain ⟨g20, H⟩ := aJ H;obtain ⟨x21, e22, H⟩ := bL H;obtain ⟨x23, x24, e25, H⟩ := fc H;refine aa ?_;show AR _ _ _ _ _ [0, 1, 2, 3, 4, 5, 6, 7, 8, 9] _;refine zS rfl (az (av := slE _ _ _) rfl) <| zm rfl <| zS rfl (bH (E := (ak Enc.int (ak (Enc.sl Enc.str) (ak Enc.int (ak Enc.int Enc.int))))) aH (by kernel_rfl) rfl rfl g20 e22) <| zS rfl (bX cu rfl (n := 5) (by kernel_rfl) rfl (ab rfl)) <| aW rfl rfl (aI rfl jk rfl (la F x21.1 x21.2.1 x21.2.2.1 x21.2.2.2.1 x21.2.2.2.2 x23 x24 e25) ?_);refine zS rfl (az (av := .tup _) rfl) <| zS rfl (aF (av := slE _ _ _) rfl rfl) <| zS rfl (aF (av := .v _) rfl rfl) <| zS rfl (aG (av := slE _ _ _) rfl) <| za rfl <| ah <| af <| af ?_;obtain ⟨g27, H⟩ := cG H;obtain ⟨x28, e29, H⟩ := bL H;obtain ⟨x30, e31, H⟩ := dT H;refine aa ?_;show AR _ _ _ _ _ [0, 1, 2, 3, 4, 5, 6, 7, 8, 9] _;refine zm rfl <| zS rfl (fW rfl rfl) <| zm rfl <| aD (l := []) 56 (B ((!decide (x24 = 0)) || (!x30))) (fun K => ?_) ?_
     ·rcases ac (!decide (x24 = 0)) with h26 | h26
      ·refine zF h26 rfl <| zF h26 rfl <| zF h26 rfl <| zF h26 rfl <| zF h26 rfl <| zF h26 rfl <| zS rfl (aq (av := .v _) rfl h26 rfl) ?_;exact K _ 6 _ (an (fM h26)) rfl rfl
      ·refine zU h26 rfl (az (av := slE _ _ _) rfl) <| zM h26 rfl <| zU h26 rfl (bH (E := (ak Enc.int (ak (Enc.sl Enc.str) (ak Enc.int (ak Enc.int Enc.int))))) aH (by kernel_rfl) rfl rfl (g27 (nf h26)) e29) <| zU h26 rfl (bX cu rfl (n := 5) (by kernel_rfl) rfl (ab rfl)) <| zT h26 rfl (aI rfl ji rfl (hO F x28.1 x28.2.1 x28.2.2.1 x28.2.2.2.1 x28.2.2.2.2 x30 (e31 (nf h26))) ?_);refine zU h26 rfl (dE rfl) <| zS rfl (ap (av := .v _) rfl h26 rfl) ?_;exact K _ 6 _ (an (fN h26)) rfl rfl
     refine ah <| ax rfl (fun c32 => ?_) (fun c32 => ?_)
     ·replace H := ba c32 H;refine af <| aa ?_;show AR _ _ _ _ _ [0] _;refine za rfl <| ah <| aK ?_;obtain rfl := al H;exact And.intro rfl (Exists.intro _ (Exists.intro _ ⟨aO rfl (.refl _), aC [] rfl, rfl, rfl⟩))
     ·replace H := bb c32 H;refine aE ?_;obtain ⟨g34, H⟩ := aJ H;obtain ⟨x35, e36, H⟩ := bL H;refine aa ?_;show AR _ _ _ _ _ [0, 1, 2, 3] _;refine zS rfl (az (av := slE _ _ _) rfl) <| zS rfl (az (av := slE _ _ _) rfl) <| zX rfl (dX (E := Enc.byte) (bytes := 1) 0 ag ag rfl (by kernel_rfl) rfl rfl rfl rfl g34 e36) ?_;rintro _ _ ⟨t33, rfl, rfl⟩;refine zS rfl (aG (av := slE _ _ _) rfl) <| ah ?_;obtain ⟨g37, H⟩ := aJ H;refine aa ?_;show AR _ _ _ _ _ [0, 1, 2] _;refine zm rfl <| zS rfl (fy rfl rfl g37) <| za rfl <| ah ?_;exact Exists.intro (n18, x35, t33, y16 + 1) ⟨H, Nat.lt_succ_self _, aZ [0] (.cons (.refl _) (.cons (.refl _) (.cons (.refl _) (.cons (.refl _) (.nil _))))) rfl⟩
    ·replace H := bb c19 H;refine AW.exit ?_;exact Exists.intro (y14, t15) ⟨H, aZ [0] (.cons (.refl _) (.cons (.refl _) (.nil _))) rfl⟩
   rintro ⟨y38, t39⟩ H;replace H : co a1 y38 = some r3 := H
   unfold co at H
   refine af <| aa ?_;show AR _ _ _ _ _ [0, 1, 2, 3, 4, 5] _;refine zS rfl (az (av := slE _ _ _) rfl) <| zS rfl (cE ag bi ai rfl) <| zS rfl (az (av := slE _ _ _) rfl) <| zS rfl (cE ag bi ai rfl) <| zS rfl (gY rfl rfl) <| za rfl <| ah <| aK ?_;obtain rfl := al H;exact And.intro rfl (Exists.intro _ (Exists.intro _ ⟨aO rfl (.refl _), aC [] rfl, rfl, rfl⟩))
end Go.Proofs.YtimpbfniegimaaaDoor
namespace Go.Dg
open Go.Pv Go.Av
open Go.Lib (decDigits)
abbrev Bs := List UInt8
theorem cW {n : Nat} (h : n < 10) : decDigits n = [UInt8.ofNat (48 + n)] := by rw [decDigits, dif_pos h]
theorem ek {n : Nat} (h : ¬ n < 10) : decDigits n = decDigits (n / 10) ++ [UInt8.ofNat (48 + n % 10)] := by rw [decDigits, dif_neg h]
theorem eK (n : Nat) : Go.Lib.itoa (n : Int) = decDigits n := by
  unfold Go.Lib.itoa
  rw [if_neg (by omega), Int.toNat_natCast]
theorem ep (k : Nat) (h : k < 10) : (UInt8.ofNat (48 + k)).toNat = 48 + k := by
  have : ∀ k : Fin 10, (UInt8.ofNat (48 + k.val)).toNat = 48 + k.val := by decide +kernel
  exact this ⟨k, h⟩
def Dig (c : UInt8) : Prop := 48 ≤ c.toNat ∧ c.toNat ≤ 57
theorem dd_dig : ∀ (m n : Nat), n < m → ∀ c ∈ decDigits n, Dig c := by
  intro m
  induction m with
  | zero => intro n h; omega
  | succ m ih =>
    intro n h c hc
    by_cases hn : n < 10
    · rw [cW hn] at hc
      rw [List.mem_singleton.1 hc]; unfold Dig; rw [ep n hn]; omega
    · rw [ek hn] at hc
      rcases List.mem_append.1 hc with hc | hc
      · exact ih (n / 10) (by omega) c hc
      · rw [List.mem_singleton.1 hc]; unfold Dig; rw [ep _ (by omega)]; omega
theorem iZ (n : Nat) : ∀ c ∈ decDigits n, Dig c := dd_dig (n + 1) n (by omega)
theorem jE : ∀ (m n : Nat), n < 10 ^ m → (decDigits n).length ≤ m + 1 := by
  intro m
  induction m with
  | zero => intro n h; rw [cW (by omega)]; simp
  | succ m ih =>
    intro n h
    by_cases hn : n < 10
    · rw [cW hn]; simp
    · have h10 : n / 10 < 10 ^ m := by rw [Nat.pow_succ] at h; omega
      rw [ek hn, List.length_append]
      have := ih _ h10
      simp; omega
theorem jD (n : Nat) : 1 ≤ (decDigits n).length := by
  by_cases hn : n < 10
  · rw [cW hn]; simp
  · rw [ek hn]; simp
def val (v : Nat) : Bs → Nat
  | [] => v
  | c :: r => val (10 * v + (c.toNat - 48)) r
theorem my : ∀ (a b : Bs) (v : Nat), val v (a ++ b) = val (val v a) b
  | [], b, v => rfl
  | c :: r, b, v => my r b _
theorem val_dd : ∀ (m n : Nat), n < m → val 0 (decDigits n) = n := by
  intro m
  induction m with
  | zero => intro n h; omega
  | succ m ih =>
    intro n h
    by_cases hn : n < 10
    · rw [cW hn]; show 10 * 0 + ((UInt8.ofNat (48 + n)).toNat - 48) = n; rw [ep n hn]; omega
    · rw [ek hn, my, ih (n / 10) (by omega)]
      show 10 * (n / 10) + ((UInt8.ofNat (48 + n % 10)).toNat - 48) = n
      rw [ep _ (by omega)]; omega
theorem kL (n : Nat) : val 0 (decDigits n) = n := val_dd (n + 1) n (by omega)
end Go.Dg
namespace Go.Dg
open Go.Pv Go.Av
open Go.Lib (decDigits)
theorem gK (x : Bool) : (true && x) = x := Eq.symm (Eq.symm rfl)
theorem gz (x : Bool) : (false && x) = false := Eq.symm (Eq.symm rfl)
theorem fo (x : Bool) : (false || x) = x := Eq.symm (Eq.symm rfl)
theorem nfl : (!false) = true := Eq.symm (Eq.symm rfl)
theorem ntr : (!true) = false := Eq.symm (Eq.symm rfl)
theorem cfl {α : Type} (a b : α) : (bif false then a else b) = b := Eq.symm (Eq.symm rfl)
theorem ctr {α : Type} (a b : α) : (bif true then a else b) = a := Eq.symm (Eq.symm rfl)
def Tot (o : Option (Int × Int)) : Prop := ∃ x k, o = some (x, k) ∧ (k = 0 ∨ k = 1 ∨ k = 2)
theorem Tot.z (x : Int) : Tot (some (x, 0)) := ⟨x, 0, rfl, .inl rfl⟩
theorem Tot.o (x : Int) : Tot (some (x, 1)) := ⟨x, 1, rfl, .inr (.inl rfl)⟩
theorem Tot.t (x : Int) : Tot (some (x, 2)) := ⟨x, 2, rfl, .inr (.inr rfl)⟩
theorem cX {c : Bool} {a b : Option (Int × Int)} (ha : Tot a) (hb : Tot b) : Tot (bif c then a else b) := by cases c <;> assumption
theorem tot_bndc {c : Bool} {v : UInt8} {f : UInt8 → Option (Int × Int)} (h : ∀ x, Tot (f x)) : Tot (gA c (some v) f) := by
  cases c
  · exact h _
  · exact h _
theorem j3_tot (y17 : Int) (y23 y24 : Int) (rec : (Bool × Int × Int) → Option (Int × Int)) (y43 : UInt8) (h : ∀ v, Tot (rec (false, v, y24 + 1))) (hb : -9223372036854775808 ≤ y24 + 1 ∧ y24 + 1 ≤ 9223372036854775807) :
    Tot (bW 10 y17 false y23 y24 rec y43) := by
  unfold bW cl
  refine cX (.t _) (cX (.o _) (cX (.o _) ?_))
  rw [cB hb]
  exact h _
theorem mO (F : Nat) (s : Bs) (c : Int) (hs : s.length ≤ 1000) : ∀ (n i : Nat) (v : Int), s.length - i < n → i ≤ s.length → Tot (br F s 10 c n (false, v, (i : Int))) := by
  intro n
  induction n with
  | zero => intro i v h; omega
  | succ n ih =>
    intro i v hn hi;show Tot (cP F s 10 c (br F s 10 c n) false v (i : Int))
    unfold cP
    by_cases h : i < s.length
    · have e : ((i : Int) + 1) = ((i + 1 : Nat) : Int) := by omega
      have hr : ∀ v, Tot (br F s 10 c n (false, v, (i : Int) + 1)) := fun v => by rw [e]; exact ih (i + 1) v (by omega) (by omega)
      have h10 : decide ((10 : Int) = 0) = false := by decide
      rw [bT (by omega), bU (by omega), bn, h10, Bool.and_false, cfl]
      refine cX (j3_tot _ _ _ _ _ hr (by omega)) ?_
      unfold cV
      rw [bN]
      refine tot_bndc fun x38 => cX ?_ (.t _)
      rw [bN]
      exact j3_tot _ _ _ _ _ hr (by omega)
    · rw [bF (by omega)]
      unfold cO
      rw [mx, gz, cfl]
      exact .z _
theorem uint_tot (F : Nat) (s : Bs) (hs : s.length ≤ 1000) (hF : s.length < F) : Tot (dy F s 10 0) := by
  unfold dy
  refine cX (.t _) ?_
  have h1 : ((decide ((2 : Int) ≤ 10)) && (decide ((10 : Int) ≤ 36))) = true := by decide
  rw [h1, kI]
  unfold cM cN
  rw [grd_D rfl, bT rfl]
  unfold bV
  have h2 : decide (0 ≤ IntKind.u64.wrap 64) = true := by decide +kernel
  rw [h2, kI, da (by omega)]
  exact mO F s _ hs F 0 0 (by omega) (by omega)
theorem me (b : Bool) (x : Int) : Tot (cm b x) := by
  unfold cm cn
  have h2 : decide (0 ≤ IntKind.u64.wrap 63) = true := by decide +kernel
  rw [h2, kI]
  exact cX (.o _) (cX (.o _) (cX (.z _) (.z _)))
theorem gw (F : Nat) (s : Bs) (b : Bool) (hs : s.length ≤ 1000) (hF : s.length < F) : Tot (bG F 10 0 s b) := by
  unfold bG
  obtain ⟨x, k, e, hk⟩ := uint_tot F s hs hF
  rw [e, bZ]
  by_cases h2 : k = 2
  · subst h2
    have : ((!decide ((2 : Int) = 0)) && (!decide ((2 : Int) = 1))) = true := by decide
    rw [this, ctr]
    exact .t _
  · have : ((!decide (k = 0)) && (!decide (k = 1))) = false := by
      rcases hk with rfl | rfl | rfl
      · decide
      · decide
      · exact absurd rfl h2
    rw [this, cfl, grd_D rfl]
    exact me _ _
theorem int_tot (F : Nat) (s : Bs) (hs : s.length ≤ 1000) (hF : s.length < F) : Tot (dz F s 10 0) := by
  unfold dz
  by_cases h : s = []
  · rw [bT h]; exact .t _
  · have hp : 0 < s.length := List.length_pos_iff.2 h
    have hf : (di s 1).length ≤ s.length := by unfold di; simp
    rw [bF h, bU (by omega), bn]
    refine cX ?_ (cX ?_ (gw F s _ hs hF))
    · rw [eO (by omega), bn]; exact gw F _ _ (by omega) (by omega)
    · rw [eO (by omega), bn]; exact gw F _ _ (by omega) (by omega)
theorem gk (a s : Bs) (ha : a ≠ []) (hs : s.length ≤ 18) : ∀ (n i v : Nat), s.length - i < n → i ≤ s.length → v < 10 ^ i → Tot (cJ a s n ((v : Int), (i : Int))) := by
  intro n
  induction n with
  | zero => intro i v h; omega
  | succ n ih =>
    intro i v hn hi hv;show Tot (cK a s (cJ a s n) (v : Int) (i : Int))
    unfold cK
    have hv18 : v < 10 ^ 18 := Nat.lt_of_lt_of_le hv (Nat.pow_le_pow_right (by omega) (by omega))
    by_cases h : i < s.length
    · have hv17 : v < 10 ^ 17 := Nat.lt_of_lt_of_le hv (Nat.pow_le_pow_right (by omega) (by omega))
      rw [bT (by omega), bU (by omega), bn]
      obtain ⟨c, hc⟩ : ∃ c, c = at_ s (i : Int) := ⟨_, rfl⟩
      rw [← hc]
      by_cases h9 : 9 < (c - 48).toNat
      · rw [bT (by omega)]; exact .t _
      · have e1 : ((v : Int) * 10) + ((c - 48).toNat : Int) = ((v * 10 + (c - 48).toNat : Nat) : Int) := by omega
        have e2 : ((i : Int) + 1) = ((i + 1 : Nat) : Int) := by omega
        rw [bF (by omega), cB (by omega), cB (by omega), cB (by omega), e1, e2]
        refine ih (i + 1) _ (by omega) (by omega) ?_
        rw [Nat.pow_succ]; omega
    · rw [bF (by omega)]
      unfold df dg
      have hp : 0 < a.length := List.length_pos_iff.2 ha
      rw [bU (by omega), bn]
      refine cX ?_ (.z _)
      rw [cB (by omega)]; exact .z _
theorem atoi_tot (F : Nat) (s : Bs) (hs : s.length ≤ 1000) (hF : s.length < F) : Tot (eo F s) := by
  unfold eo de dI
  by_cases h : 0 < s.length ∧ s.length < 19
  · have hc : ((decide (0 < (s.length : Int))) && (decide ((s.length : Int) < 19))) = true := by
      rw [decide_eq_true (by omega), decide_eq_true (by omega)]; rfl
    have hne : s ≠ [] := List.length_pos_iff.1 h.1
    have hf : (di s 1).length ≤ s.length := by unfold di; simp
    rw [hc, ctr, bU (by omega), bn]
    have hg : ∀ (c : Bool) (x : Option (Int × Int)), dY c (cx 0 s.length) x = x := fun c x => iY fun _ => by omega
    rw [hg, bn]
    refine cX ?_ ?_
    · rw [eO (by omega), bn]
      refine cX (.t _) ?_
      rw [da (by omega)]
      exact gk s _ hne (by omega) F 0 0 (by omega) (by omega) (by omega)
    · rw [da (by omega)]
      exact gk s _ hne (by omega) F 0 0 (by omega) (by omega) (by omega)
  · have hc : ((decide (0 < (s.length : Int))) && (decide ((s.length : Int) < 19))) = false := by
      by_cases h0 : 0 < s.length
      · rw [decide_eq_false (show ¬ ((s.length : Int) < 19) by omega), Bool.and_false]
      · rw [decide_eq_false (show ¬ (0 < (s.length : Int)) by omega)]; rfl
    rw [hc, cfl]
    obtain ⟨x, k, e, hk⟩ := int_tot F s hs hF
    rw [e, bZ]
    exact ⟨x, k, rfl, hk⟩
theorem jz (F : Nat) (s : Bs) (hs : s.length ≤ 1000) (hF : s.length < F) : ∃ x k, ca F s = some (x, k) := by
  unfold ca
  obtain ⟨x, k, e, hk⟩ := atoi_tot F s hs hF
  rw [e, bZ]
  by_cases h0 : k = 0
  · subst h0; exact ⟨x, 0, by rw [decide_eq_true rfl, ntr, cfl]⟩
  · refine ⟨x, 1, ?_⟩
    rw [decide_eq_false h0, nfl, ctr, kJ (by omega), grd_D (by omega)]
theorem mE (c : UInt8) (h : Dig c) : (c - 48).toNat = c.toNat - 48 := by
  have : ∀ k : Fin 256, (48 ≤ k.val ∧ k.val ≤ 57) → (UInt8.ofNat k.val - 48).toNat = k.val - 48 := by decide +kernel
  have h1 := this ⟨c.toNat, c.toNat_lt⟩ h
  simpa using h1
theorem ny (a : Bs) (s : Bs) (hs : s.length ≤ 18) (hd : ∀ c ∈ s, Dig c) : ∀ (n i v : Nat), s.length - i < n → i ≤ s.length → v < 10 ^ i → cJ a s n ((v : Int), (i : Int)) = df a ((val v (s.drop i) : Nat) : Int) := by
  intro n
  induction n with
  | zero => intro i v h; omega
  | succ n ih =>
    intro i v hn hi hv;show cK a s (cJ a s n) (v : Int) (i : Int) = _
    unfold cK
    by_cases h : i < s.length
    · have hv17 : v < 10 ^ 17 := Nat.lt_of_lt_of_le hv (Nat.pow_le_pow_right (by omega) (by omega))
      have hdr : s.drop i = s[i] :: s.drop (i + 1) := aR h
      have hc := hd _ (List.getElem_mem h)
      have hsub := mE _ hc
      obtain ⟨hc1, hc2⟩ := hc
      rw [bT (by omega), bU (by omega), bn, fE h]
      have e1 : ((v : Int) * 10) + ((s[i] - 48).toNat : Int) = ((10 * v + (s[i].toNat - 48) : Nat) : Int) := by rw [hsub]; omega
      have e2 : ((i : Int) + 1) = ((i + 1 : Nat) : Int) := by omega
      rw [bF (by rw [hsub]; omega), cB (by omega), cB (by omega), cB (by omega), e1, e2, ih (i + 1) _ (by omega) (by omega) (by rw [Nat.pow_succ]; omega), hdr]
      rfl
    · rw [bF (by omega), be (by omega)]; rfl
theorem mH (F : Nat) (n : Nat) (hn : n ≤ 1073741824) (hF : 100 < F) : ca F (decDigits n) = some ((n : Int), 0) := by
  have hl : (decDigits n).length ≤ 11 := jE 10 n (by omega)
  have hp := jD n
  have hd := iZ n
  have h0 : at_ (decDigits n) 0 = (decDigits n)[0] := at_zero (by omega)
  have hd0 := hd _ (List.getElem_mem (show 0 < (decDigits n).length by omega))
  have n45 : (decDigits n)[0] ≠ 45 := fun e => by rw [e] at hd0; exact absurd hd0.1 (by decide)
  have n43 : (decDigits n)[0] ≠ 43 := fun e => by rw [e] at hd0; exact absurd hd0.1 (by decide)
  have hc : ((decide (0 < ((decDigits n).length : Int))) && (decide (((decDigits n).length : Int) < 19))) = true := by
    rw [decide_eq_true (by omega), decide_eq_true (by omega)]; rfl
  have hg : ∀ (c : Bool) (x : Option (Int × Int)), dY c (cx 0 (decDigits n).length) x = x := fun c x => iY fun _ => by omega
  have e : eo F (decDigits n) = some ((n : Int), 0) := by
    unfold eo de
    rw [hc, ctr, bU (by omega), bn, hg, bn, h0, decide_eq_false n45, decide_eq_false n43, fo, cfl, da (by omega)]
    have := ny (decDigits n) (decDigits n) (by omega) hd F 0 0 (by omega) (by omega) (by omega)
    refine Eq.trans this ?_
    rw [List.drop_zero, kL]
    unfold df dg
    rw [bU (by omega), bn, h0, decide_eq_false n45, cfl]
  unfold ca
  rw [e, bZ, decide_eq_true rfl, ntr, cfl]
end Go.Dg
namespace Go.Rp
open Go.Pv Go.Av
abbrev Bs := List UInt8
theorem kC {c : UInt8} {s : Bs} (h : ∀ b ∈ s, b ≠ c) : Go.Lib.indexByte s c = -1 := by
  induction s with
  | nil => rfl
  | cons b r ih =>
    have h1 : (b == c) = false := by simpa using h b (by simp)
    have h2 := ih fun x hx => h x (by simp [hx])
    unfold Go.Lib.indexByte
    rw [h1, h2]; rfl
theorem toB_nat (n : Int) (c : Nat) (h : n = c) : toB n = UInt8.ofNat c := by
  subst h
  unfold toB
  apply UInt8.toNat.inj
  rw [UInt8.toNat_ofNat', UInt8.toNat_ofNat']
  omega
theorem decR_pos (s : Bs) (p : Nat) : 1 ≤ (gb s p).2 := by
  unfold gb Utf8.decode
  simp only
  repeat' split
  all_goals simp
theorem ld (n : Int) : (cY n).length ≤ 4 := by
  unfold cY Utf8.encode
  simp only
  repeat' split
  all_goals simp
theorem lc (n : Int) (h : 128 ≤ n) : 2 ≤ (cY n).length ∧ ((cY n).length = 2 → ¬ (10 : UInt8) = at_ (cY n) 1) := by
  have hc : ¬ (if Utf8.valid n = true then n.toNat else Utf8.runeError) < 128 := by
    split
    · omega
    · decide
  unfold cY Utf8.encode
  simp only
  generalize (if Utf8.valid n = true then n.toNat else Utf8.runeError) = c at hc ⊢
  rw [if_neg hc]
  by_cases h2 : c < 2048
  · rw [if_pos h2]
    refine ⟨by simp, fun _ => ?_⟩;show ¬ (10 : UInt8) = UInt8.ofNat (128 + c % 64);intro e
    have := congrArg UInt8.toNat e
    rw [UInt8.toNat_ofNat'] at this
    have e10 : (10 : UInt8).toNat = 10 := rfl
    omega
  · rw [if_neg h2]
    split <;> simp
theorem lq (s : Bs) (c : UInt8) : -1 ≤ Go.Lib.indexByte s c ∧ Go.Lib.indexByte s c < s.length := by
  induction s with
  | nil => simp [Go.Lib.indexByte]
  | cons b r ih =>
    unfold Go.Lib.indexByte
    split
    · first | (simp; done) | (simp; omega)
    · split
      · first | (simp; done) | (simp; omega)
      · rename_i h
        have h' : ¬ Go.Lib.indexByte r c = -1 := by simpa using h
        simp; omega
theorem js (s cs : Bs) : -1 ≤ Go.Lib.indexAny s cs ∧ Go.Lib.indexAny s cs < s.length := by
  induction s with
  | nil => simp [Go.Lib.indexAny]
  | cons b r ih =>
    unfold Go.Lib.indexAny
    split
    · first | (simp; done) | (simp; omega)
    · split
      · first | (simp; done) | (simp; omega)
      · rename_i h
        have h' : ¬ Go.Lib.indexAny r cs = -1 := by simpa using h
        simp; omega
theorem getD_at (s : Bs) (k : Nat) (h : k < s.length) : (⟨s.toArray⟩ : ByteArray).get! k = s[k] := by
  show (s.toArray)[k]! = _
  simp [h]
theorem nv (s : Bs) (p m : Nat) (hm : 0 < m) (hk : m < (gb s p).2) : ∃ h : p + m < s.length, 128 ≤ (s[p + m]).toNat := by
  have key : ∀ k, (decide (p + k < (⟨s.toArray⟩ : ByteArray).size) && ((⟨s.toArray⟩ : ByteArray).get! (p + k)).toNat / 64 == 2) = true → ∃ h : p + k < s.length, 128 ≤ (s[p + k]).toNat := by
    intro k hk
    simp only [Bool.and_eq_true, decide_eq_true_eq, beq_iff_eq] at hk
    obtain ⟨h1, h2⟩ := hk
    have h1' : p + k < s.length := h1
    rw [getD_at s (p + k) h1'] at h2
    exact ⟨h1', by omega⟩
  unfold gb Utf8.decode at hk
  simp only at hk
  split at hk
  · simp at hk; omega
  · split at hk
    · rename_i h2
      simp only [Bool.and_eq_true] at h2
      split at hk
      · have : m = 1 := by simp at hk; omega
        subst this;exact key 1 (by simpa using h2.2)
      · simp at hk; omega
    · split at hk
      · rename_i h2
        simp only [Bool.and_eq_true] at h2
        split at hk
        · have : m = 1 ∨ m = 2 := by simp at hk; omega
          rcases this with rfl | rfl
          · exact key 1 (by simpa using h2.1.2)
          · exact key 2 (by simpa using h2.2)
        · simp at hk; omega
      · split at hk
        · rename_i h2
          simp only [Bool.and_eq_true] at h2
          split at hk
          · have : m = 1 ∨ m = 2 ∨ m = 3 := by simp at hk; omega
            rcases this with rfl | rfl | rfl
            · exact key 1 (by simpa using h2.1.1.2)
            · exact key 2 (by simpa using h2.1.2)
            · exact key 3 (by simpa using h2.2)
          · simp at hk; omega
        · simp at hk; omega
theorem decR_low (s : Bs) (p : Nat) (h : p < s.length) (hb : (s[p]).toNat < 128) : gb s p = ((s[p]).toNat, 1) := decode_ascii (⟨s.toArray⟩ : ByteArray) p h hb
theorem nw (s : Bs) (p : Nat) (h : p < s.length) (hb : 128 ≤ (s[p]).toNat) : 128 ≤ (gb s p).1 := (decode_high (⟨s.toArray⟩ : ByteArray) p h hb).1
theorem mf (F : Nat) (hF : 5 ≤ F) (r : Int) (hr : 128 ≤ r) : eW F [13, 10] r = some (-1) := by
  obtain ⟨k1, k2⟩ := lc r hr
  have k3 := ld r
  unfold eW
  have hf : ((decide (0 ≤ r)) && (decide (r < 128))) = false := by rw [decide_eq_false (by omega : ¬ r < 128), Bool.and_false]
  rw [hf, cond_false]
  by_cases h2 : r = 65533
  · rw [bT h2]
    obtain ⟨m, rfl⟩ : ∃ m, F = m + 3 := ⟨F - 3, by omega⟩
    have e0 : gb [13, 10] 0 = (13, 1) := by decide +kernel
    have e1 : gb [13, 10] 1 = (10, 1) := by decide +kernel
    show dp [13, 10] (eB [13, 10] (m + 2)) 0 = _
    unfold dp
    simp only [e0]
    show dp [13, 10] (eB [13, 10] (m + 1)) 1 = _
    unfold dp
    simp only [e1]
    rfl
  · rw [bF h2]
    have hv : ∃ b, fi F r = some b := by
      unfold fi
      cases (decide (0 ≤ r)) && (decide (r < 55296)) with
      | true => exact ⟨true, rfl⟩
      | false =>
        rw [cond_false]
        cases (decide (57343 < r)) && (decide (r ≤ 1114111)) with
        | true => exact ⟨true, rfl⟩
        | false => exact ⟨false, rfl⟩
    obtain ⟨b, hb⟩ := hv
    rw [hb, bN]
    cases b with
    | false => rfl
    | true =>
      obtain ⟨m, rfl⟩ : ∃ m, F = m + 1 := ⟨F - 1, by omega⟩
      simp (disch := omega) only [Bool.not_true, cond_false, bn, cB]
      show eC [13, 10] (cY r) (fu [13, 10] (cY r) m) = _
      unfold eC eA
      by_cases h3 : (cY r).length = 2
      · have e1 : ((cY r).length : Int) - 1 = 1 := by omega
        have e2 : at_ ([13, 10] : Bs) 1 = 10 := rfl
        have e3 : di ([13, 10] : Bs) (1 + 1) = [] := rfl
        rw [e1]
        simp (disch := (first | omega | (simp; done) | (simp; omega))) only [bT, bU, bn, e2, decide_eq_false (k2 h3), Bool.not_false, kI, cB, eO, e3]
        rfl
      · have : ¬ ((cY r).length : Int) - 1 < (([13, 10] : Bs).length : Int) := by simp; omega
        rw [bF this]
def nxt (s : Bs) (y : Nat) : Int := if Go.Lib.indexAny (s.drop y) [13, 10] = -1 then -1 else (y : Int) + Go.Lib.indexAny (s.drop y) [13, 10]
theorem lJ (s : Bs) (y : Nat) (h : y < s.length) (hc : ([13, 10] : Bs).contains s[y] = false) : nxt s (y + 1) = nxt s y := by
  unfold nxt
  rw [aR h]
  simp only [Go.Lib.indexAny, hc]
  have := (js (s.drop (y + 1)) [13, 10]).1
  by_cases e : Go.Lib.indexAny (s.drop (y + 1)) [13, 10] = -1
  · simp [e]
  · have e2 : (Go.Lib.indexAny (s.drop (y + 1)) [13, 10] == -1) = false := by simpa using e
    have e3 : ¬ Go.Lib.indexAny (s.drop (y + 1)) [13, 10] + 1 = -1 := by omega
    simp [e, e2, e3]; omega
theorem nxt_hi (s : Bs) (y : Nat) (h : y < s.length) (hb : 128 ≤ (s[y]).toNat) : nxt s (y + 1) = nxt s y := by
  refine lJ s y h ?_
  have h1 : s[y] ≠ 13 := by intro e; rw [e] at hb; revert hb; decide
  have h2 : s[y] ≠ 10 := by intro e; rw [e] at hb; revert hb; decide
  simp [h1, h2]
theorem nxt_skip (s : Bs) (y : Nat) : ∀ k, (∀ m, m < k → ∃ h : y + m < s.length, 128 ≤ (s[y + m]).toNat) → nxt s (y + k) = nxt s y := by
  intro k
  induction k with
  | zero => intro _; rfl
  | succ k ih =>
    intro h;obtain ⟨h1, h2⟩ := h k (by omega)
    rw [show y + (k + 1) = y + k + 1 by omega, nxt_hi s (y + k) h1 h2]
    exact ih (fun m hm => h m (by omega))
theorem mg (F : Nat) (hF : 5 ≤ F) (s : Bs) : ∀ (n y : Nat), s.length - y < n → eG F s [13, 10] n y = some (nxt s y) := by
  intro n
  induction n with
  | zero => intro y h; omega
  | succ n ih =>
    intro y hy;show eH F s [13, 10] (eG F s [13, 10] n) y = _
    unfold eH eE
    by_cases h : y < s.length
    · rw [bT h]
      by_cases hb : (s[y]).toNat < 128
      · rw [decR_low s y h hb]
        have hi : eW F [13, 10] ((s[y]).toNat : Int) = some (Go.Lib.indexByte [13, 10] s[y]) := by
          unfold eW
          have e : ((decide ((0 : Int) ≤ ((s[y]).toNat : Int))) && (decide (((s[y]).toNat : Int) < 128))) = true := by
            rw [decide_eq_true (by omega : (0 : Int) ≤ ((s[y]).toNat : Int)), decide_eq_true (by omega : ((s[y]).toNat : Int) < 128)]; rfl
          rw [e, cond_true, bn, toB_nat _ (s[y]).toNat rfl, UInt8.ofNat_toNat]
        simp only [hi, bN]
        by_cases hc : ([13, 10] : Bs).contains s[y] = true
        · have h0 : 0 ≤ Go.Lib.indexByte [13, 10] s[y] := by
            have : s[y] = 13 ∨ s[y] = 10 := by simpa using hc
            rcases this with e | e <;> rw [e] <;> decide
          rw [bT h0]
          unfold nxt
          rw [aR h]
          simp only [Go.Lib.indexAny, hc, if_true]
          simp
        · have hc' : ([13, 10] : Bs).contains s[y] = false := by simpa using hc
          have h0 : ¬ 0 ≤ Go.Lib.indexByte [13, 10] s[y] := by
            have hne : ¬ s[y] = 13 ∧ ¬ s[y] = 10 := by simpa using hc'
            have := kC (c := s[y]) (s := [13, 10]) (fun b hb e => by
              simp at hb
              rcases hb with rfl | rfl
              · exact hne.1 e.symm
              · exact hne.2 e.symm)
            omega
          rw [bF h0, ih (y + 1) (by omega), lJ s y h hc']
      · have hh := nw s y h (by omega)
        have hp := decR_pos s y
        rw [mf F hF _ (by omega), bN, bF (by omega), ih _ (by omega)]
        rw [nxt_skip s y (gb s y).2 (fun m hm => by
          cases m with
          | zero => exact ⟨h, by simpa using hb⟩
          | succ m => exact nv s y (m + 1) (by omega) hm)]
    · rw [bF h]
      unfold nxt
      rw [be (by omega)]
      rfl
theorem mW (F : Nat) (s : Bs) (hF : 20 ≤ F) : jA F s [13, 10] = some (Go.Lib.indexAny s [13, 10]) := by
  unfold jA
  by_cases h : 8 < s.length
  · simp [h]
  · have e : ((decide (8 < s.length)) && (decide (2 ≤ ([13, 10] : Bs).length))) = false := by simp [h]
    rw [e, cond_false]
    unfold iX kR eD
    have e3 : decide ((8 : Int) < (s.length : Int)) = false := decide_eq_false (by omega)
    simp (disch := (first | omega | (simp; done) | (simp; omega))) only [bF, bN, e3, Bool.not_false, kI]
    rw [mg F (by omega) s F 0 (by omega)]
    unfold nxt
    rw [List.drop_zero]
    split
    · rename_i e; rw [e]
    · simp
def ka (b : UInt8) : Bool := decide (b = 13) || decide (b = 10)
theorem iq : ∀ s : Bs, decide (0 ≤ Go.Lib.indexAny s [13, 10]) = s.any ka
  | [] => rfl
  | b :: r => by
    have ih := iq r
    have hr := (js r [13, 10]).1
    unfold Go.Lib.indexAny
    rw [List.any_cons, ← ih]
    have e : ([13, 10] : Bs).contains b = ka b := by
      unfold ka
      rw [List.contains_cons, List.contains_cons, List.contains_nil, Bool.or_false]
      by_cases h : b = 13
      · subst h; rfl
      · by_cases g : b = 10
        · subst g; rfl
        · rw [decide_eq_false h, decide_eq_false g]
          have h1 : (b == 13) = false := by simpa using h
          have g1 : (b == 10) = false := by simpa using g
          rw [h1, g1]
    rw [e]
    cases ka b with
    | true => rfl
    | false =>
      by_cases h : Go.Lib.indexAny r [13, 10] = -1
      · rw [h]; rfl
      · have h2 : (Go.Lib.indexAny r [13, 10] == -1) = false := by simpa using h
        rw [h2]
        simp only [if_false, Bool.false_or, Bool.false_eq_true]
        rw [decide_eq_true (by omega), decide_eq_true (by omega)]
theorem ly (F : Nat) (s : Bs) (hs : s.length ≤ 1000) (hF : 20 ≤ F) : dR F s [13, 10] = some (s.any ka) := by
  unfold dR
  have e3 : kY [13, 10] = true := by decide
  rw [e3, kI, kJ (by omega), kJ (by decide), mW F s hF, bN, iq]
end Go.Rp
namespace Go.Rp
open Go.Pv Go.Av
open Go.Lib (decDigits)
open Go.Dg (val cW ek iZ jD jE kL Dig mE ep eK jz mH cfl ctr gK gz fo nfl ntr)
def dgB (c : UInt8) : Bool := decide (48 ≤ c.toNat) && decide (c.toNat ≤ 57)
theorem kK {c : UInt8} (h : dgB c = true) : Dig c := by
  unfold dgB at h
  show 48 ≤ c.toNat ∧ c.toNat ≤ 57
  simpa using h
theorem dgB_of {c : UInt8} (h : Dig c) : dgB c = true := by
  unfold dgB
  rw [decide_eq_true h.1, decide_eq_true h.2]; rfl
def okN (s : Bs) : Bool := ((decide (1 ≤ s.length) && decide (s.length ≤ 3)) && s.all dgB) && !(decide (s.head? = some 48) && decide (1 < s.length))
def eU (s : Bs) : Option Nat := if okN s = true then some (val 0 s) else none
theorem fk (c : UInt8) (h : Dig c) (n : Nat) (hn : n = c.toNat - 48) : UInt8.ofNat (48 + n) = c := by
  obtain ⟨h1, h2⟩ := h;subst hn
  rw [show 48 + (c.toNat - 48) = c.toNat by omega, UInt8.ofNat_toNat]
theorem dd2 {n : Nat} (h : 10 ≤ n) (h2 : n < 100) : decDigits n = [UInt8.ofNat (48 + n / 10), UInt8.ofNat (48 + n % 10)] := by
  rw [ek (by omega), cW (by omega)]; rfl
theorem dd3 {n : Nat} (h : 100 ≤ n) (h2 : n < 1000) : decDigits n = [UInt8.ofNat (48 + n / 10 / 10), UInt8.ofNat (48 + n / 10 % 10), UInt8.ofNat (48 + n % 10)] := by
  rw [ek (by omega), dd2 (by omega) (by omega)]; rfl
theorem dd_lt {n : Nat} (h : (decDigits n).length ≤ 3) : n < 1000 := by
  by_cases h1 : n < 1000
  · exact h1
  · rw [ek (by omega), ek (n := n / 10) (by omega), ek (n := n / 10 / 10) (by omega)] at h
    have := jD (n / 10 / 10 / 10)
    simp only [List.length_append, List.length_cons, List.length_nil] at h
    omega
theorem num_dd {s : Bs} {n : Nat} (h : eU s = some n) : s = decDigits n ∧ n < 1000 := by
  unfold eU at h
  by_cases hk : okN s = true
  · rw [if_pos hk] at h
    have hn : val 0 s = n := al h
    unfold okN at hk
    simp only [Bool.and_eq_true, decide_eq_true_eq, Bool.not_eq_true', Bool.and_eq_false_iff, decide_eq_false_iff_not] at hk
    obtain ⟨⟨⟨h1, h2⟩, h3⟩, h4⟩ := hk
    match s, h1, h2, h3, h4, hn with
    | [a], _, _, h3, h4, hn =>
      have ha := kK (List.all_eq_true.1 h3 a (by simp))
      have hv : val 0 [a] = a.toNat - 48 := by show 10 * 0 + (a.toNat - 48) = _; omega
      have ha' := ha; obtain ⟨ha1, ha2⟩ := ha'
      refine ⟨?_, by omega⟩
      rw [← hn, hv, cW (by omega), fk a ha _ rfl]
    | [a, b], _, _, h3, h4, hn =>
      have ha := kK (List.all_eq_true.1 h3 a (by simp))
      have hb := kK (List.all_eq_true.1 h3 b (by simp))
      have hv : val 0 [a, b] = 10 * (a.toNat - 48) + (b.toNat - 48) := by show 10 * (10 * 0 + (a.toNat - 48)) + (b.toNat - 48) = _; omega
      have ha' := ha; obtain ⟨ha1, ha2⟩ := ha'
      have hb' := hb; obtain ⟨hb1, hb2⟩ := hb'
      have hne : a.toNat ≠ 48 := by
        intro e
        have : a = 48 := UInt8.toNat.inj e
        rcases h4 with h4 | h4
        · exact h4 (by rw [this]; rfl)
        · exact h4 (by simp)
      refine ⟨?_, by omega⟩
      rw [← hn, hv, dd2 (by omega) (by omega), fk a ha _ (by omega), fk b hb _ (by omega)]
    | [a, b, c], _, _, h3, h4, hn =>
      have ha := kK (List.all_eq_true.1 h3 a (by simp))
      have hb := kK (List.all_eq_true.1 h3 b (by simp))
      have hc := kK (List.all_eq_true.1 h3 c (by simp))
      have hv : val 0 [a, b, c] = 100 * (a.toNat - 48) + 10 * (b.toNat - 48) + (c.toNat - 48) := by show 10 * (10 * (10 * 0 + (a.toNat - 48)) + (b.toNat - 48)) + (c.toNat - 48) = _; omega
      have ha' := ha; obtain ⟨ha1, ha2⟩ := ha'
      have hb' := hb; obtain ⟨hb1, hb2⟩ := hb'
      have hc' := hc; obtain ⟨hc1, hc2⟩ := hc'
      have hne : a.toNat ≠ 48 := by
        intro e
        have : a = 48 := UInt8.toNat.inj e
        rcases h4 with h4 | h4
        · exact h4 (by rw [this]; rfl)
        · exact h4 (by simp)
      refine ⟨?_, by omega⟩
      rw [← hn, hv, dd3 (by omega) (by omega), fk a ha _ (by omega), fk b hb _ (by omega), fk c hc _ (by omega)]
    | [], h1, _, _, _, _ => simp at h1
    | a :: b :: c :: d :: r, _, h2, _, _, _ => simp at h2
  · rw [if_neg hk] at h; cases h
theorem dd_head {n : Nat} (h : n < 1000) : ¬ ((decDigits n).head? = some 48 ∧ 1 < (decDigits n).length) := by
  rintro ⟨h1, h2⟩
  by_cases h10 : n < 10
  · rw [cW h10] at h2; simp at h2
  · have key : ∀ k, k < 10 → 1 ≤ k → UInt8.ofNat (48 + k) ≠ 48 := by
      intro k hk h1 e
      have := congrArg UInt8.toNat e
      rw [ep k hk] at this
      have e48 : (48 : UInt8).toNat = 48 := rfl
      omega
    by_cases h100 : n < 100
    · rw [dd2 (by omega) h100] at h1
      exact key (n / 10) (by omega) (by omega) (al h1)
    · rw [dd3 (by omega) h] at h1
      exact key (n / 10 / 10) (by omega) (by omega) (al h1)
theorem dd_num {n : Nat} (h : n < 1000) : eU (decDigits n) = some n := by
  have h3 : (decDigits n).length ≤ 3 := by
    by_cases h10 : n < 10
    · rw [cW h10]; simp
    · by_cases h100 : n < 100
      · rw [dd2 (by omega) h100]; simp
      · rw [dd3 (by omega) h]; simp
  have hk : okN (decDigits n) = true := by
    unfold okN
    rw [decide_eq_true (jD n), decide_eq_true h3, List.all_eq_true.2 fun c hc => dgB_of (iZ n c hc)]
    have := dd_head h
    by_cases g : (decDigits n).head? = some 48
    · rw [decide_eq_false (p := 1 < (decDigits n).length) fun q => this ⟨g, q⟩, Bool.and_false]; rfl
    · rw [decide_eq_false g]; rfl
  unfold eU
  rw [if_pos hk, kL]
def jK (o : Option (Int × Int)) : Prop := ∃ x k, o = some (x, k) ∧ -9223372036854775808 ≤ x ∧ x ≤ 9223372036854775807
theorem hU {c : Bool} {a b : Option (Int × Int)} (ha : jK a) (hb : jK b) : jK (bif c then a else b) := by cases c <;> assumption
theorem iA (a s : Bs) (ha : a ≠ []) (hs : s.length ≤ 18) : ∀ (n i v : Nat), s.length - i < n → i ≤ s.length → v < 10 ^ i → jK (cJ a s n ((v : Int), (i : Int))) := by
  intro n
  induction n with
  | zero => intro i v h; omega
  | succ n ih =>
    intro i v hn hi hv;show jK (cK a s (cJ a s n) (v : Int) (i : Int))
    unfold cK
    have hv18 : v < 10 ^ 18 := Nat.lt_of_lt_of_le hv (Nat.pow_le_pow_right (by omega) (by omega))
    by_cases h : i < s.length
    · have hv17 : v < 10 ^ 17 := Nat.lt_of_lt_of_le hv (Nat.pow_le_pow_right (by omega) (by omega))
      rw [bT (by omega), bU (by omega), bn]
      obtain ⟨c, hc⟩ : ∃ c, c = at_ s (i : Int) := ⟨_, rfl⟩
      rw [← hc]
      by_cases h9 : 9 < (c - 48).toNat
      · rw [bT (by omega)]; exact ⟨0, 2, rfl, by omega, by omega⟩
      · have e1 : ((v : Int) * 10) + ((c - 48).toNat : Int) = ((v * 10 + (c - 48).toNat : Nat) : Int) := by omega
        have e2 : ((i : Int) + 1) = ((i + 1 : Nat) : Int) := by omega
        rw [bF (by omega), cB (by omega), cB (by omega), cB (by omega), e1, e2]
        refine ih (i + 1) _ (by omega) (by omega) ?_
        rw [Nat.pow_succ]; omega
    · rw [bF (by omega)]
      unfold df dg
      have hp : 0 < a.length := List.length_pos_iff.2 ha
      rw [bU (by omega), bn]
      refine hU ?_ ⟨_, 0, rfl, by omega, by omega⟩
      rw [cB (by omega)]; exact ⟨_, 0, rfl, by omega, by omega⟩
theorem atoi_b (F : Nat) (s : Bs) (hs : s.length ≤ 3) (hF : 10 < F) : jK (ca F s) := by
  have key : jK (eo F s) := by
    unfold eo de dI
    by_cases h : 0 < s.length
    · have hc : ((decide (0 < (s.length : Int))) && (decide ((s.length : Int) < 19))) = true := by
        rw [decide_eq_true (by omega), decide_eq_true (by omega)]; rfl
      have hne : s ≠ [] := List.length_pos_iff.1 h
      have hf : (di s 1).length ≤ s.length := by unfold di; simp
      rw [hc, ctr, bU (by omega), bn]
      have hg : ∀ (c : Bool) (x : Option (Int × Int)), dY c (cx 0 s.length) x = x := fun c x => iY fun _ => by omega
      rw [hg, bn]
      refine hU ?_ ?_
      · rw [eO (by omega), bn]
        refine hU ⟨0, 2, rfl, by omega, by omega⟩ ?_
        rw [da (by omega)]
        exact iA s _ hne (by omega) F 0 0 (by omega) (by omega) (by omega)
      · rw [da (by omega)]
        exact iA s _ hne (by omega) F 0 0 (by omega) (by omega) (by omega)
    · have e : s = [] := List.eq_nil_of_length_eq_zero (by omega)
      subst e;exact ⟨0, 2, rfl, by omega, by omega⟩
  obtain ⟨x, k, e, h1, h2⟩ := key;obtain ⟨x2, k2, e2⟩ := jz F s (by omega) (by omega);refine ⟨x2, k2, e2, ?_⟩
  unfold ca at e2
  rw [e, bZ] at e2
  have : x2 = x := by
    by_cases h0 : k = 0
    · subst h0; rw [decide_eq_true rfl, ntr, cfl] at e2; cases e2; rfl
    · rw [decide_eq_false h0, nfl, ctr] at e2
      obtain ⟨_, e2⟩ := aJ e2;obtain ⟨_, e2⟩ := aJ e2
      cases e2; rfl
  rw [this]; exact ⟨h1, h2⟩
theorem fR (F : Nat) (s : Bs) (hs : s.length ≤ 1000) (hF : 2000 < F) : ∃ x : Int, dJ F s = some (x, (eU s).isSome) ∧ ∀ n, eU s = some n → x = n := by
  obtain ⟨x, k, e⟩ := jz F s hs (by omega)
  have hdd : ∀ n, eU s = some n → x = (n : Int) ∧ k = 0 ∧ s.length ≤ 3 ∧ s = decDigits n := by
    intro n hn;obtain ⟨h1, h2⟩ := num_dd hn
    have h3 : s.length ≤ 3 := by
      unfold eU at hn
      by_cases hk : okN s = true
      · unfold okN at hk
        simp only [Bool.and_eq_true, decide_eq_true_eq] at hk
        exact hk.1.1.2
      · rw [if_neg hk] at hn; cases hn
    have := mH F n (by omega) (by omega)
    rw [← h1, e] at this
    cases this
    exact ⟨rfl, rfl, h3, h1⟩
  unfold dJ
  rw [e, bZ]
  by_cases hc : k = 0 ∧ s.length ≤ 3
  · obtain ⟨rfl, h3⟩ := hc
    obtain ⟨x', k', e', hb⟩ := atoi_b F s h3 (by omega)
    rw [e] at e'; cases e'
    have hcc : ((decide ((0 : Int) = 0)) && (decide ((s.length : Int) ≤ 3))) = true := by
      rw [decide_eq_true (by omega : (s.length : Int) ≤ 3)]; rfl
    rw [hcc, kV, cB hb, bn]
    refine ⟨x, ?_, fun n hn => (hdd n hn).1⟩
    congr 2
    cases hn : eU s with
    | some n =>
      obtain ⟨h1, _, _, h4⟩ := hdd n hn
      rw [h1, eK, decide_eq_true h4.symm, decide_eq_true (Int.natCast_nonneg n)]; rfl
    | none =>
      by_cases h0 : 0 ≤ x
      · have h1 : ¬ Go.Lib.itoa x = s := by
          intro g
          have e2 : x = ((x.toNat : Nat) : Int) := by omega
          rw [e2, eK] at g
          rw [← g, dd_num (dd_lt (by rw [g]; exact h3))] at hn
          cases hn
        rw [decide_eq_false h1]; rfl
      · rw [decide_eq_false h0, Bool.and_false]; rfl
  · have hcc : ((decide (k = 0)) && (decide ((s.length : Int) ≤ 3))) = false := by
      by_cases h0 : k = 0
      · rw [decide_eq_false (p := (s.length : Int) ≤ 3) (by omega), Bool.and_false]
      · rw [decide_eq_false h0]; rfl
    rw [hcc, jB, bn]
    refine ⟨x, ?_, fun n hn => (hdd n hn).1⟩
    congr 2
    cases hn : eU s with
    | some n => obtain ⟨_, h2, h3, _⟩ := hdd n hn; exact absurd ⟨h2, h3⟩ hc
    | none => rfl
end Go.Rp
namespace Go.Rp
open Go.Pv Go.Av
def sp (c : UInt8) : Bs → List Bs
  | [] => [[]]
  | b :: r => if b = c then [] :: sp c r else match sp c r with
    | [] => [[b]]
    | p :: ps => (b :: p) :: ps
theorem sp_ne (c : UInt8) (s : Bs) : sp c s ≠ [] := by
  cases s with
  | nil => simp [sp]
  | cons b r => unfold sp; split; simp; split <;> simp
theorem er (b c : UInt8) (l : Bs) : Go.Lib.index (b :: l) [c] = if b = c then 0 else if Go.Lib.index l [c] = -1 then -1 else Go.Lib.index l [c] + 1 := by
  by_cases h : b = c
  · subst h; simp [Go.Lib.index]
  · simp [Go.Lib.index, h, Ne.symm h]
def prep (cur : Bs) : List Bs → List Bs
  | [] => [cur]
  | p :: ps => (cur ++ p) :: ps
theorem gr {b c : UInt8} (h : ¬ b = c) (r : Bs) : sp c (b :: r) = prep [b] (sp c r) := by
  simp only [sp, h, if_false]
  cases sp c r <;> rfl
theorem gt (c : UInt8) (r : Bs) : sp c (c :: r) = [] :: sp c r := by simp [sp]
theorem kf (c : UInt8) : ∀ (s : Bs), Go.Lib.splitK [c] 0 (s.count c) s = sp c s
  | [] => rfl
  | b :: l => by
    have ih := kf c l
    have hi := er b c l
    have hge := Go.Lib.index_ge l [c]
    by_cases h : b = c
    · subst h
      rw [List.count_cons_self, gt, Go.Lib.splitK, hi]
      simp [ih]
    · rw [List.count_cons_of_ne h, gr h, ← ih]
      cases hk : l.count c with
      | zero => simp [Go.Lib.splitK, prep]
      | succ k =>
        rw [Go.Lib.splitK, Go.Lib.splitK, hi]
        simp only [h, if_false]
        by_cases hm : Go.Lib.index l [c] = -1
        · simp [hm, prep]
        · obtain ⟨j, hj⟩ := Int.eq_ofNat_of_zero_le (show 0 ≤ Go.Lib.index l [c] by omega)
          have h2 : ¬ (Go.Lib.index l [c] + 1 = -1) := by omega
          have h3 : (Go.Lib.index l [c] + 1).toNat = j + 1 := by omega
          have h4 : (Go.Lib.index l [c]).toNat = j := by omega
          simp [hm, h2, h3, h4, prep]
theorem mQ (s : Bs) (c : UInt8) : Go.Lib.split s [c] = sp c s := by
  unfold Go.Lib.split
  rw [Go.Lib.count_one, kf]
end Go.Rp
namespace Go.Rp
open Go.Pv Go.Av
open Go.Lib (decDigits)
open Go.Dg (eK cfl ctr gK gz fo nfl ntr)
abbrev M3 := Int × Int × Int
def more3 (c : Int) : List Bs → M3
  | [a, b, d] => if c / 100 = 3 then (0, 0, 0) else match eU a, eU b, eU d with
    | some x, some y, some z => if (x : Int) = c / 100 then ((x : Int), (y : Int), (z : Int)) else (0, 0, 0)
    | _, _, _ => (0, 0, 0)
  | _ => (0, 0, 0)
theorem lk (c : Int) (a b d : Bs) : more3 c [a, b, d] = if c / 100 = 3 then (0, 0, 0) else match eU a, eU b, eU d with
    | some x, some y, some z => if (x : Int) = c / 100 then ((x : Int), (y : Int), (z : Int)) else (0, 0, 0)
    | _, _, _ => (0, 0, 0) := rfl
def dW (c : Int) (s : Bs) : M3 := more3 c (sp 46 ((sp 32 s).headD []))
theorem jy : ∀ s : Bs, (Go.Lib.cut s [32]).1 = (sp 32 s).headD []
  | [] => rfl
  | b :: r => by
    have ih := jy r
    by_cases h : b = 32
    · subst h
      rw [gt]
      unfold Go.Lib.cut
      rw [er, if_pos rfl]
      rfl
    · rw [gr h]
      cases hs : sp 32 r with
      | nil => exact absurd hs (sp_ne 32 r)
      | cons p ps =>
        rw [hs] at ih
        show (Go.Lib.cut (b :: r) [32]).1 = b :: p
        have ih' : (Go.Lib.cut r [32]).1 = p := ih
        rw [← ih']
        unfold Go.Lib.cut
        rw [er, if_neg h]
        by_cases hn : Go.Lib.index r [32] = -1
        · rw [if_pos hn, if_neg (by omega), if_neg (by rw [hn]; omega)]
        · rw [if_neg hn]
          by_cases h0 : 0 ≤ Go.Lib.index r [32]
          · rw [if_pos (by omega), if_pos h0, show (Go.Lib.index r [32] + 1).toNat = (Go.Lib.index r [32]).toNat + 1 by omega]; rfl
          · have : Go.Lib.index r [32] = -1 := by
              have := Go.Lib.index_one r 32
              have h2 := Go.Lib.indexByte_ge r 32
              omega
            exact absurd this hn
theorem head_len (s : Bs) : ((sp 32 s).headD []).length ≤ s.length := by
  rw [← jy]
  unfold Go.Lib.cut
  split <;> simp
  exact Nat.min_le_right _ _
theorem iR (c : UInt8) : ∀ s : Bs, ∀ w ∈ sp c s, w.length ≤ s.length
  | [], w, h => by
    have : w = [] := by simpa [sp] using h
    rw [this]; simp
  | b :: r, w, h => by
    by_cases hb : b = c
    · subst hb
      rw [gt] at h
      rcases List.mem_cons.1 h with rfl | h
      · simp
      · have := iR b r w h; simp; omega
    · rw [gr hb] at h
      cases hs : sp c r with
      | nil => exact absurd hs (sp_ne c r)
      | cons p ps =>
        rw [hs] at h
        rcases List.mem_cons.1 h with rfl | h
        · have := iR c r p (by rw [hs]; simp)
          simp; omega
        · have := iR c r w (by rw [hs]; simp [h])
          simp; omega
theorem mA (F : Nat) (hF : 2000 < F) (c : Nat) (s : Bs) (hs : s.length ≤ 900) : eJ F (c : Int) s = some (dW (c : Int) s) ∨ 1000000 < c := by
  by_cases hc : 1000000 < c
  · exact .inr hc
  refine .inl ?_
  have hl := head_len s
  unfold eJ dW
  rw [kJ (by omega), bn, jy, kJ (by omega), grd_D (by decide), bn, mQ]
  generalize hw : sp 46 ((sp 32 s).headD []) = w
  have hlens : ∀ x ∈ w, x.length ≤ 1000 := fun x hx => by
    have := iR 46 ((sp 32 s).headD []) x (by rw [hw]; exact hx)
    omega
  have hg : ∀ (b : Bool) (x : Option M3), dY b (jI (c : Int) 100) x = x := by
    intro b x
    cases b
    · exact jB
    · rw [kV, mC (by omega)]
  rw [hg]
  match w, hlens with
  | [], _ => rfl
  | [a], _ => rfl
  | [a, b], _ => rfl
  | a :: b :: d :: e :: r, _ =>
    have : decide (((a :: b :: d :: e :: r).length : Int) = 3) = false := decide_eq_false (by simp; omega)
    rw [this, nfl, Bool.true_or, ctr]; rfl
  | [a, b, d], hlens =>
    have e3 : decide ((([a, b, d] : List Bs).length : Int) = 3) = true := rfl
    rw [e3, ntr, fo]
    rw [lk]
    by_cases h3 : (c : Int) / 100 = 3
    · rw [bT h3, if_pos h3]
    · rw [bF h3, if_neg h3]
      obtain ⟨xa, ea, ha⟩ := fR F a (hlens a (by simp)) hF;obtain ⟨xb, eb, hb⟩ := fR F b (hlens b (by simp)) hF;obtain ⟨xd, ed, hd⟩ := fR F d (hlens d (by simp)) hF;obtain ⟨G, hG⟩ : ∃ G, F = G + 4 := ⟨F - 4, by omega⟩
      have step : ∀ (n : Nat) (i : Int) (u v w : Int), cd F (c : Int) [a, b, d] (n + 1) (i, u, v, w) = cF F (c : Int) [a, b, d] (cd F (c : Int) [a, b, d] n) i u v w := fun _ _ _ _ _ => rfl
      have lF : ∀ x, cd F (c : Int) [a, b, d] F x = cd F (c : Int) [a, b, d] (G + 3 + 1) x := fun x => by rw [hG]
      rw [lF, step]
      unfold cF
      have a0 : at_ [a, b, d] 0 = a := rfl
      have a1 : at_ [a, b, d] (0 + 1) = b := rfl
      have a2 : at_ [a, b, d] (0 + 1 + 1) = d := rfl
      rw [bT (by simp), bU (by simp), bn, a0, ea, bZ]
      cases hna : eU a with
      | none => rfl
      | some x =>
        rw [show (some x).isSome = true from rfl, ntr, cfl, bU (by simp), bU (by simp), bn, cB (by omega), ha x hna]
        show cd F (c : Int) [a, b, d] (G + 2 + 1) (0 + 1, (x : Int), 0, 0) = _
        rw [step]
        unfold cF
        rw [bT (by simp), bU (by simp), bn, a1, eb, bZ]
        cases hnb : eU b with
        | none => rfl
        | some y =>
          rw [show (some y).isSome = true from rfl, ntr, cfl, bU (by simp), bU (by simp), bn, cB (by omega), hb y hnb]
          show cd F (c : Int) [a, b, d] (G + 1 + 1) (0 + 1 + 1, (x : Int), (y : Int), 0) = _
          rw [step]
          unfold cF
          rw [bT (by simp), bU (by simp), bn, a2, ed, bZ]
          cases hnd : eU d with
          | none => rfl
          | some z =>
            rw [show (some z).isSome = true from rfl, ntr, cfl, bU (by simp), bU (by simp), bn, cB (by omega), hd z hnd]
            show cd F (c : Int) [a, b, d] (G + 1) (0 + 1 + 1 + 1, (x : Int), (y : Int), (z : Int)) = _
            rw [step]
            unfold cF dP dr
            rw [bF (by simp), mC (by omega)]
            by_cases hx : (x : Int) = (c : Int) / 100
            · rw [bT hx]; simp only [if_pos hx]
            · rw [bF hx]; simp only [if_neg hx]
end Go.Rp
namespace Go.Rp
open Go.Pv Go.Av
open Go.Lib (decDigits)
open Go.Dg (eK cfl ctr gK gz fo nfl ntr cW ek jE)
def hM (s : Bs) : Bool := !(s.any ka) && decide (s.length ≤ 506)
def lst (ls : List Bs) : Bs := at_ ls ((ls.length : Int) - 1)
def mayB (c : Int) (ls : List Bs) (m : M3) : Bool := (((decide (200 ≤ c) && decide (c ≤ 599)) && (decide (1 ≤ ls.length) && decide (ls.length ≤ 100))) && ls.all hM) && decide (m = dW c (lst ls))
theorem m3_eq (a b d x y z : Int) : ((a == x) && ((b == y) && ((d == z) && true))) = decide ((a, b, d) = (x, y, z)) := by
  by_cases h1 : a = x
  · by_cases h2 : b = y
    · by_cases h3 : d = z
      · subst h1; subst h2; subst h3; simp
      · simp [h3]
    · simp [h2]
  · simp [h1]
theorem lst_in {ls : List Bs} (h : 1 ≤ ls.length) : lst ls ∈ ls := by
  unfold lst
  have e : ((ls.length : Int) - 1) = ((ls.length - 1 : Nat) : Int) := by omega
  rw [e, fE (by omega)]
  exact List.getElem_mem _
theorem may_out {α : Type} (c : Int) (ls : List Bs) (m : M3) (b : Bool) (X : Option Bool) (hb : b = ((((decide (c < 200)) || (decide (599 < c))) || (!decide (1 ≤ ls.length))) || (decide (100 < (ls.length : Int)))))
    (h : 200 ≤ c → c ≤ 599 → 1 ≤ ls.length → ls.length ≤ 100 → X = some (ls.all hM && decide (m = dW c (lst ls)))) : (bif b then some false else X) = some (mayB c ls m) := by
  subst hb
  unfold mayB
  by_cases h1 : 200 ≤ c
  · by_cases h2 : c ≤ 599
    · by_cases h3 : 1 ≤ ls.length
      · by_cases h4 : ls.length ≤ 100
        · rw [h h1 h2 h3 h4, decide_eq_false (p := c < 200) (by omega), decide_eq_false (p := 599 < c) (by omega), decide_eq_true h3, decide_eq_false (p := 100 < (ls.length : Int)) (by omega), decide_eq_true h1, decide_eq_true h2, decide_eq_true h4]; rfl
        · rw [decide_eq_true (p := 100 < (ls.length : Int)) (by omega), decide_eq_false h4]; simp
      · rw [decide_eq_false h3]; simp
    · rw [decide_eq_true (p := 599 < c) (by omega), decide_eq_false h2]; simp
  · rw [decide_eq_true (p := c < 200) (by omega), decide_eq_false h1]; simp
theorem may_loop (F : Nat) (hF : 2000 < F) (c : Nat) (hc : c ≤ 1000) (ls : List Bs) (h1 : 1 ≤ ls.length) (h2 : ls.length ≤ 100) (m0 m1 m2 : Int) : ∀ (n i : Nat), ls.length - i < n → i ≤ ls.length → (ls.take i).all hM = true →
    ey F (c : Int) ls m0 m1 m2 n (i : Int) = some ((ls.drop i).all hM && decide ((m0, m1, m2) = dW (c : Int) (lst ls))) := by
  intro n
  induction n with
  | zero => intro i h; omega
  | succ n ih =>
    intro i hn hi ht;show ez F (c : Int) ls m0 m1 m2 (ey F (c : Int) ls m0 m1 m2 n) (i : Int) = _
    unfold ez
    by_cases h : i < ls.length
    · have hdr : ls.drop i = ls[i] :: ls.drop (i + 1) := aR h
      rw [bT (by omega), bU (by omega), bn, fE h, hdr, List.all_cons]
      by_cases hl : 506 < (ls[i]).length
      · have e : hM ls[i] = false := by unfold hM; rw [decide_eq_false (by omega), Bool.and_false]
        rw [decide_eq_true (p := 506 < ((ls[i]).length : Int)) (by omega), ntr, mx, Bool.true_or, ctr, e, gz]; rfl
      · rw [decide_eq_false (p := 506 < ((ls[i]).length : Int)) (by omega), nfl, kX, ly F _ (by omega) (by omega), bN, fo]
        have e : hM ls[i] = !(ls[i]).any ka := by unfold hM; rw [decide_eq_true (by omega), Bool.and_true]
        rw [e]
        cases hq : (ls[i]).any ka with
        | true => rfl
        | false =>
          rw [cfl, cB (by omega), ib, ih (i + 1) (by omega) (by omega) ?_, nfl, gK]
          rw [List.take_succ_eq_append_getElem h, List.all_append, ht, gK]
          simp [e, hq]
    · have hi' : i = ls.length := by omega
      subst hi'
      rw [bF (by omega), List.drop_length]
      unfold ew
      have hls : (lst ls).length ≤ 900 := by
        rw [List.take_length] at ht
        have := List.all_eq_true.1 ht _ (lst_in h1)
        unfold hM at this
        simp only [Bool.and_eq_true, decide_eq_true_eq] at this
        omega
      rw [cB (by omega), bU (by omega), bn]
      show bnd3 (eJ F (c : Int) (lst ls)) _ = _
      rcases mA F hF c (lst ls) hls with e | e
      · rw [e, show dW (c : Int) (lst ls) = ((dW (c : Int) (lst ls)).1, (dW (c : Int) (lst ls)).2.1, (dW (c : Int) (lst ls)).2.2) from rfl, fh, m3_eq]
        rfl
      · omega
theorem may_eq (F : Nat) (hF : 2000 < F) (c : Int) (ls : List Bs) (m0 m1 m2 : Int) : fB F c ls m0 m1 m2 = some (mayB c ls (m0, m1, m2)) := by
  unfold fB
  refine may_out (α := Unit) c ls _ _ _ ?_ fun h1 h2 h3 h4 => ?_
  · by_cases h : 1 ≤ ls.length
    · rw [decide_eq_false (p := (ls.length : Int) = 0) (by omega), decide_eq_true h]; rfl
    · rw [decide_eq_true (p := (ls.length : Int) = 0) (by omega), decide_eq_false h]; rfl
  · obtain ⟨k, rfl⟩ := Int.eq_ofNat_of_zero_le (show 0 ≤ c by omega)
    have := may_loop F hF k (by omega) ls h3 h4 m0 m1 m2 F 0 (by omega) (by omega) rfl
    rw [List.drop_zero] at this
    exact this
def lnW (d : Bs) (g : UInt8) (s : Bs) : Bs := d ++ g :: (s ++ [13, 10])
def wrL (d : Bs) : List Bs → Bs
  | [] => []
  | s :: r => lnW d (if r = [] then 32 else 45) s ++ wrL d r
def wrA (c : Int) (ls : List Bs) : Bs := wrL (decDigits c.toNat) ls
theorem dd4 (c : Nat) (h : c ≤ 599) : (decDigits c).length ≤ 4 := jE 3 c (by omega)
theorem sgn_eq {ls : List Bs} {i : Nat} (h : i < ls.length) : (if ls.drop (i + 1) = [] then (32 : UInt8) else 45) = if i + 1 = ls.length then 32 else 45 := by
  by_cases e : i + 1 = ls.length
  · rw [if_pos e, if_pos (be (by omega))]
  · rw [if_neg e, if_neg (fun g => by have := congrArg List.length g; simp at this; omega)]
theorem lU (c : Nat) (hc : c ≤ 599) (ls : List Bs) (h2 : ls.length ≤ 100) (hl : ∀ s ∈ ls, s.length ≤ 506) : ∀ (n i : Nat) (y : Bs), ls.length - i < n → i ≤ ls.length → y.length ≤ 1000 * i →
    cw (c : Int) ls n (y, (i : Int)) = some (y ++ wrL (decDigits c) (ls.drop i), 0) := by
  intro n
  induction n with
  | zero => intro i y h; omega
  | succ n ih =>
    intro i y hn hi hy;show dA (c : Int) ls (cw (c : Int) ls n) y (i : Int) = _
    unfold dA
    have hd := dd4 c hc
    by_cases h : i < ls.length
    · have hdr : ls.drop i = ls[i] :: ls.drop (i + 1) := aR h
      have hli := hl _ (List.getElem_mem h)
      have key : ∀ g : UInt8, cH (c : Int) y (i : Int) ls[i] (cw (c : Int) ls n) [g] = some (y ++ (lnW (decDigits c) g ls[i] ++ wrL (decDigits c) (ls.drop (i + 1))), 0) := by
        intro g
        unfold cH
        rw [cB (by omega), bn, eK, da (by simp; omega), bn, da (by simp; omega), bn, da (by simp; omega), bn, da (by simp; omega), bn, cB (by omega), ib,
          ih (i + 1) _ (by omega) (by omega) (by simp; omega)]
        unfold lnW
        simp only [List.append_assoc, List.singleton_append, List.cons_append, List.nil_append]
      rw [bT (by omega), bU (by omega), bn, fE h, cB (by omega), hdr]
      show _ = some (y ++ (lnW (decDigits c) (if ls.drop (i + 1) = [] then 32 else 45) ls[i] ++ wrL (decDigits c) (ls.drop (i + 1))), 0)
      rw [sgn_eq h]
      by_cases e : i + 1 = ls.length
      · rw [bT (by omega), if_pos e]; exact key 32
      · rw [bF (by omega), if_neg e]; exact key 45
    · rw [bF (by omega), be (by omega)]
      show some (y, 0) = some (y ++ [], 0)
      rw [List.append_nil]
theorem may_s {c : Int} {ls : List Bs} {m : M3} (h : mayB c ls m = true) : (200 ≤ c ∧ c ≤ 599) ∧ (1 ≤ ls.length ∧ ls.length ≤ 100) ∧ (∀ s ∈ ls, hM s = true) ∧ m = dW c (lst ls) := by
  unfold mayB at h
  simp only [Bool.and_eq_true, decide_eq_true_eq] at h
  exact ⟨h.1.1.1, h.1.1.2, fun s hs => List.all_eq_true.1 h.1.2 s hs, h.2⟩
theorem fit_len {s : Bs} (h : hM s = true) : s.length ≤ 506 := by
  unfold hM at h
  simp only [Bool.and_eq_true, decide_eq_true_eq] at h
  exact h.2
theorem write_eq (F : Nat) (hF : 2000 < F) (c : Int) (ls : List Bs) (m0 m1 m2 : Int) : fe F c ls m0 m1 m2 = some (if mayB c ls (m0, m1, m2) = true then (wrA c ls, 0) else ([], 1)) := by
  unfold fe
  rw [may_eq F hF, bN]
  cases hm : mayB c ls (m0, m1, m2) with
  | false => rfl
  | true =>
    obtain ⟨⟨h1, h2⟩, ⟨h3, h4⟩, h5, _⟩ := may_s hm;obtain ⟨k, rfl⟩ := Int.eq_ofNat_of_zero_le (show 0 ≤ c by omega)
    rw [ntr, cfl, if_pos rfl]
    have := lU k (by omega) ls h4 (fun s hs => fit_len (h5 s hs)) F 0 [] (by omega) (by omega) (by simp)
    exact this
end Go.Rp
namespace Go.Rp
open Go.Pv Go.Av
open Go.Lib (decDigits indexByte)
open Go.Dg (val Dig eK cfl ctr gK gz fo nfl ntr cW ek jE iZ jD)
theorem ib_ge (b : Bs) (c : UInt8) : -1 ≤ indexByte b c := Go.Lib.indexByte_ge b c
theorem ib_lt (b : Bs) (c : UInt8) : indexByte b c < b.length := (lq b c).2
theorem lN {b : Bs} {c : UInt8} {i : Nat} (h : indexByte b c = (i : Int)) : ∃ p q, b = p ++ c :: q ∧ p.length = i ∧ ∀ x ∈ p, x ≠ c := by
  induction b generalizing i with
  | nil => have : (-1 : Int) = (i : Int) := h; omega
  | cons a b ih =>
    unfold Go.Lib.indexByte at h
    by_cases e : (a == c) = true
    · rw [if_pos e] at h
      refine ⟨[], b, ?_, by simp only [List.length_nil]; omega, by simp⟩
      rw [show a = c by simpa using e]; rfl
    · rw [if_neg e] at h
      by_cases e2 : indexByte b c = -1
      · rw [e2] at h
        have : (-1 : Int) = (i : Int) := h
        omega
      · have e3 : (indexByte b c == -1) = false := by simpa using e2
        rw [e3] at h
        simp only [Bool.false_eq_true, if_false] at h
        have hg := ib_ge b c
        obtain ⟨p, q, h1, h2, h3⟩ := ih (i := i - 1) (by omega);refine ⟨a :: p, q, by rw [h1]; rfl, by simp; omega, fun x hx => ?_⟩
        rcases List.mem_cons.1 hx with rfl | hx
        · intro e4; exact e (by simp [e4])
        · exact h3 x hx
inductive Ln | wait | bad | ok (s : Bs)
def iG (b : Bs) : Ln :=
  if indexByte b 10 < 0 then (if b.length < 512 then .wait else .bad)
  else if indexByte b 10 < 512 ∧ 0 < indexByte b 10 ∧ indexByte b 13 = indexByte b 10 - 1 then .ok (b.take (indexByte b 10 - 1).toNat) else .bad
theorem ln_ok {b s : Bs} (h : iG b = .ok s) : ∃ t, b = s ++ 13 :: 10 :: t ∧ (∀ x ∈ s, ka x = false) ∧ s.length ≤ 510 := by
  unfold iG at h
  by_cases h0 : indexByte b 10 < 0
  · rw [if_pos h0] at h
    split at h <;> cases h
  · rw [if_neg h0] at h
    split at h
    · rename_i hc
      obtain ⟨h1, h2, h3⟩ := hc
      have hs : b.take (indexByte b 10 - 1).toNat = s := by injection h
      obtain ⟨p, q, e1, e2, e3⟩ := lN (b := b) (c := 10) (i := (indexByte b 10).toNat) (by omega);obtain ⟨p', q', g1, g2, g3⟩ := lN (b := b) (c := 13) (i := (indexByte b 10 - 1).toNat) (by omega)
      have hp' : p' = s := by rw [← hs, ← g2, g1, List.take_left' rfl]
      have hp : p = p' ++ [13] := by
        have a1 : b.take (indexByte b 10).toNat = p := by rw [← e2, e1, List.take_left' rfl]
        have a2 : b.take (indexByte b 10).toNat = p' ++ [13] := by
          have l : (indexByte b 10).toNat = (p' ++ [13]).length := by simp; omega
          rw [l, g1, show p' ++ 13 :: q' = (p' ++ [13]) ++ q' by simp, List.take_left' rfl]
        rw [← a1, a2]
      refine ⟨q, by rw [← hp', e1, hp]; simp, fun x hx => ?_, by rw [← hp']; omega⟩
      unfold ka
      rw [← hp'] at hx
      rw [decide_eq_false (g3 x hx), decide_eq_false (e3 x (by rw [hp]; simp [hx]))]; rfl
    · cases h
theorem ln_len {b s : Bs} (h : iG b = .ok s) : s.length + 2 ≤ b.length := by
  obtain ⟨t, rfl, _, _⟩ := ln_ok h
  simp
def fZ (s : Bs) : Option Nat :=
  if 4 ≤ s.length ∧ (at_ s 3 = 45 ∨ at_ s 3 = 32) then
    match eU (s.take 3) with
    | some n => if 200 ≤ n ∧ n ≤ 599 then some n else none
    | none => none
  else none
theorem code_s {s : Bs} {n : Nat} (h : fZ s = some n) : 4 ≤ s.length ∧ (at_ s 3 = 45 ∨ at_ s 3 = 32) ∧ (200 ≤ n ∧ n ≤ 599) ∧ eU (s.take 3) = some n := by
  unfold fZ at h
  split at h
  · rename_i hc
    cases hn : eU (s.take 3) with
    | none => rw [hn] at h; cases h
    | some k =>
      rw [hn] at h
      simp only at h
      split at h
      · cases h; rename_i hk; exact ⟨hc.1, hc.2, hk, rfl⟩
      · cases h
  · cases h
abbrev Rp := Int × List Bs × M3
inductive One | wait | bad | ok (x : Rp) (n : Nat)
def gL : Nat → Int → List Bs → Nat → Bs → One
  | 0, _, _, _, b => match iG b with
    | .wait => .wait
    | _ => .bad
  | k + 1, c, ls, at', b => match iG b with
    | .wait => .wait
    | .bad => .bad
    | .ok s => match fZ s with
      | none => .bad
      | some n => if ls ≠ [] ∧ (n : Int) ≠ c then .bad else
        if at_ s 3 = 32 then .ok ((n : Int), ls ++ [s.drop 4], dW (n : Int) (s.drop 4)) (at' + (s.length + 2))
        else gL k (n : Int) (ls ++ [s.drop 4]) (at' + (s.length + 2)) (b.drop (s.length + 2))
def one (b : Bs) : One := gL 100 0 [] 0 b
theorem kN : ∀ (k : Nat) (c : Int) (ls : List Bs) (a : Nat) (b : Bs) (x : Rp) (n : Nat), gL k c ls a b = .ok x n →
    ∃ (d : Nat) (l2 : List Bs), x = ((d : Int), ls ++ l2, dW (d : Int) (lst l2)) ∧ l2 ≠ [] ∧ l2.length ≤ k ∧ (∀ s ∈ l2, hM s = true) ∧ (200 ≤ d ∧ d ≤ 599) ∧ (ls ≠ [] → (d : Int) = c) ∧ a < n ∧ n ≤ a + b.length ∧ b.take (n - a) = wrL (decDigits d) l2
  | 0, c, ls, a, b, x, n, h => by
    unfold gL at h
    split at h <;> cases h
  | k + 1, c, ls, a, b, x, n, h => by
    unfold gL at h
    cases hb : iG b with
    | wait => rw [hb] at h; cases h
    | bad => rw [hb] at h; cases h
    | ok s =>
      rw [hb] at h
      simp only at h
      cases hc : fZ s with
      | none => rw [hc] at h; cases h
      | some m =>
        rw [hc] at h
        simp only at h
        by_cases h1 : ls ≠ [] ∧ (m : Int) ≠ c
        · rw [if_pos h1] at h; cases h
        rw [if_neg h1] at h
        have hcode : ls ≠ [] → (m : Int) = c := fun g => by
          by_cases e : (m : Int) = c
          · exact e
          · exact absurd ⟨g, e⟩ h1
        obtain ⟨t, ht, hs, hl⟩ := ln_ok hb;obtain ⟨c1, c2, c3, c4⟩ := code_s hc;obtain ⟨d1, d2⟩ := num_dd c4
        have hlen := ln_len hb
        have hfit : hM (s.drop 4) = true := by
          unfold hM
          rw [decide_eq_true (p := (s.drop 4).length ≤ 506) (by simp; omega), Bool.and_true]
          have : (s.drop 4).any ka = false := by
            rw [List.any_eq_false]
            intro y hy
            rw [hs y (List.mem_of_mem_drop hy)]; simp
          rw [this]; rfl
        have hsplit : s = decDigits m ++ at_ s 3 :: s.drop 4 := by
          have e3 : at_ s 3 = s[3] := fE (i := 3) (by omega)
          rw [← d1, e3]
          have := aR (l := s) (i := 3) (by omega)
          conv => lhs; rw [← List.take_append_drop 3 s, this]
        have hln : b.take (s.length + 2) = lnW (decDigits m) (at_ s 3) (s.drop 4) := by
          conv => lhs; rw [ht]
          rw [show s ++ 13 :: 10 :: t = (s ++ [13, 10]) ++ t by simp, show s.length + 2 = (s ++ [13, 10]).length by simp, List.take_left' rfl]
          unfold lnW
          conv => lhs; rw [hsplit]
          simp
        by_cases h2 : at_ s 3 = 32
        · rw [if_pos h2] at h
          injection h with hx hn
          subst hx; subst hn
          refine ⟨m, [s.drop 4], rfl, by simp, by simp, fun y hy => ?_, c3, hcode, by omega, by omega, ?_⟩
          · rw [List.mem_singleton.1 hy]; exact hfit
          · rw [show a + (s.length + 2) - a = s.length + 2 by omega, hln, h2]
            unfold wrL
            rw [if_pos rfl]; unfold wrL; simp
        · rw [if_neg h2] at h
          obtain ⟨d, l2, e1, e2, e3, e4, e5, e6, e7, e8, e9⟩ := kN k _ _ _ _ x n h
          have hd : (d : Int) = (m : Int) := e6 (by simp)
          have hdm : d = m := by omega
          subst hdm;refine ⟨d, s.drop 4 :: l2, ?_, by simp, by simp; omega, fun y hy => ?_, e5, hcode, by omega, by simp at e8; omega, ?_⟩
          · rw [e1]
            have : lst (s.drop 4 :: l2) = lst l2 := by
              have hp : 0 < l2.length := List.length_pos_iff.2 e2
              unfold lst
              rw [show (((s.drop 4 :: l2).length : Int) - 1) = ((l2.length - 1 + 1 : Nat) : Int) by simp; omega, show ((l2.length : Int) - 1) = ((l2.length - 1 : Nat) : Int) by omega, fE (by simp only [List.length_cons]; omega), fE (by omega)]
              rfl
            rw [this, List.append_assoc]; rfl
          · rcases List.mem_cons.1 hy with rfl | hy
            · exact hfit
            · exact e4 y hy
          · have g3 : at_ s 3 = 45 := by
              rcases c2 with g | g
              · exact g
              · exact absurd g h2
            have hle : s.length + 2 ≤ n - a := by omega
            have : b.take (n - a) = b.take (s.length + 2) ++ (b.drop (s.length + 2)).take (n - (a + (s.length + 2))) := by
              rw [show n - a = (s.length + 2) + (n - (a + (s.length + 2))) by omega, List.take_add]
            rw [this, e9, hln, g3]
            show _ = lnW (decDigits d) (if l2 = [] then 32 else 45) (s.drop 4) ++ wrL (decDigits d) l2
            rw [if_neg e2]
inductive All : Bs → List Rp → Nat → Bool → Prop
  | wait {b : Bs} : one b = .wait → All b [] 0 false
  | bad {b : Bs} : one b = .bad → All b [] 0 true
  | ok {b : Bs} {x : Rp} {n : Nat} {l : List Rp} {u : Nat} {bd : Bool} : one b = .ok x n → All (b.drop n) l u bd → All b (x :: l) (n + u) bd
theorem one_pos {b : Bs} {x : Rp} {n : Nat} (h : one b = .ok x n) : 0 < n ∧ n ≤ b.length := by
  obtain ⟨d, l2, _, _, _, _, _, _, h7, h8, _⟩ := kN 100 0 [] 0 b x n h
  omega
theorem All.ex : ∀ (m : Nat) (b : Bs), b.length < m → ∃ l u bd, All b l u bd
  | 0, b, h => by omega
  | m + 1, b, h => by
    cases hb : one b with
    | wait => exact ⟨_, _, _, .wait hb⟩
    | bad => exact ⟨_, _, _, .bad hb⟩
    | ok x n =>
      obtain ⟨h1, h2⟩ := one_pos hb;obtain ⟨l, u, bd, hh⟩ := All.ex m (b.drop n) (by simp; omega);exact ⟨_, _, _, .ok hb hh⟩
theorem All.le {b : Bs} {l : List Rp} {u : Nat} {bd : Bool} (h : All b l u bd) : u ≤ b.length ∧ l.length ≤ u := by
  induction h with
  | wait e => simp
  | bad e => simp
  | ok e _ ih =>
    have := one_pos e
    simp at ih ⊢
    omega
def wrX (x : Rp) : Bs := wrA x.1 x.2.1
def mayX (x : Rp) : Bool := mayB x.1 x.2.1 x.2.2
theorem ll (l : List Bs) : ([] : List Bs) ++ l = l := rfl
theorem one_may {b : Bs} {x : Rp} {n : Nat} (h : one b = .ok x n) : mayX x = true ∧ wrX x = b.take n := by
  obtain ⟨d, l2, h1, h2, h3, h4, h5, _, _, _, h9⟩ := kN 100 0 [] 0 b x n h;subst h1
  have hp : 1 ≤ l2.length := List.length_pos_iff.2 h2
  refine ⟨?_, ?_⟩
  · unfold mayX mayB
    simp only [Bool.and_eq_true, decide_eq_true_eq, ll]
    exact ⟨⟨⟨⟨by omega, by omega⟩, hp, h3⟩, List.all_eq_true.2 h4⟩, trivial⟩
  · rw [Nat.sub_zero] at h9
    rw [h9]; rfl
theorem All.may {b : Bs} {l : List Rp} {u : Nat} {bd : Bool} (h : All b l u bd) : (∀ x ∈ l, mayX x = true) ∧ (l.map wrX).flatten = b.take u := by
  induction h with
  | wait e => exact ⟨by simp, by simp⟩
  | bad e => exact ⟨by simp, by simp⟩
  | ok e _ ih =>
    obtain ⟨h1, h2⟩ := one_may e;refine ⟨fun y hy => ?_, ?_⟩
    · rcases List.mem_cons.1 hy with rfl | hy
      · exact h1
      · exact ih.1 y hy
    · rw [List.map_cons, List.flatten_cons, h2, ih.2, List.take_add]
end Go.Rp
namespace Go.Rp
open Go.Pv Go.Av
open Go.Lib (decDigits indexByte)
open Go.Dg (cfl ctr gK gz fo nfl ntr)
theorem hP (F : Nat) (b : Bool) : cL F b = some (bif b then Res.ok () else Res.pan 0) := by cases b <;> rfl
theorem lM (F : Nat) (b : Bs) (c : UInt8) : cQ F b c = some (indexByte b c) := rfl
section
variable {σ : Type}
theorem md (F : Nat) (k : σ → Bs → Option (σ × Option Bool)) (rec : (Bs × σ) → Option (σ × Bool × Bs)) (b : Bs) (st : σ) (hb : b.length ≤ 2000000) :
    cU F k rec b st = match iG b with
      | .wait => some (st, false, b)
      | .bad => some (st, true, [])
      | .ok s => bnd (k st s) fun x => bndo x.2 (some (x.1, true, [])) fun g => bif !g then some (x.1, false, b) else rec (b.drop (s.length + 2), x.1) := by
  have g10 := ib_ge b 10
  have g13 := ib_ge b 13
  have l10 := ib_lt b 10
  have l13 := ib_lt b 13
  unfold cU iG
  rw [lM, bN, lM]
  simp only [hP]
  by_cases h0 : indexByte b 10 < 0
  · rw [bT h0, if_pos h0]
    by_cases hl : b.length < 512
    · rw [decide_eq_true (p := (b.length : Int) < 512) (by omega), if_pos hl]; rfl
    · rw [decide_eq_false (p := (b.length : Int) < 512) (by omega), if_neg hl]; rfl
  · rw [bF h0, if_neg h0]
    by_cases h1 : indexByte b 10 < 512 ∧ 0 < indexByte b 10
    · obtain ⟨h1, h2⟩ := h1
      rw [decide_eq_true h1, decide_eq_true h2, gK, kX, bN, kV, cB (by omega), gK]
      by_cases h3 : indexByte b 13 = indexByte b 10 - 1
      · rw [decide_eq_true h3, ctr, kQ, cB (by omega), eO (by omega), bn, if_pos ⟨h1, h2, h3⟩]
        have e1 : to_ b (indexByte b 10 - 1) = b.take (indexByte b 10 - 1).toNat := rfl
        have e2 : di b (indexByte b 10 + 1) = b.drop ((b.take (indexByte b 10 - 1).toNat).length + 2) := by
          unfold di
          congr 1
          rw [List.length_take]; omega
        have hI : -9223372036854775808 ≤ indexByte b 10 + 1 ∧ indexByte b 10 + 1 ≤ 9223372036854775807 := by omega
        have hT : 0 ≤ indexByte b 10 + 1 ∧ indexByte b 10 + 1 ≤ b.length := by omega
        rw [e1]
        simp only [cB hI, eO hT, bn, e2]
      · rw [decide_eq_false h3, cfl, eL, if_neg (fun g => h3 g.2.2)]
    · have e : ((decide (indexByte b 10 < 512)) && (decide (0 < indexByte b 10))) = false := by
        by_cases q : indexByte b 10 < 512
        · rw [decide_eq_false (p := 0 < indexByte b 10) (fun r => h1 ⟨q, r⟩), Bool.and_false]
        · rw [decide_eq_false q]; rfl
      rw [e, mx, jB, gz, cfl, eL, if_neg (fun g => h1 ⟨g.1, g.2.1⟩)]
end
abbrev S5 := Int × Int × List Bs × List Rp × Int
def kk (F : Nat) (s : S5) (x : Bs) : Option (S5 × Option Bool) := dn F s.1 s.2.1 s.2.2.1 s.2.2.2.1 s.2.2.2.2 x
def lineR (a : Nat) (c : Int) (ls : List Bs) (l : List Rp) (u : Int) (s : Bs) : S5 × Option Bool :=
  match fZ s with
  | none => (((a : Int), c, ls, l, u), none)
  | some n => if ls.length < 100 ∧ ¬ (ls ≠ [] ∧ (n : Int) ≠ c) then
      (if at_ s 3 = 32 then (((a + (s.length + 2) : Nat) : Int), 0, [], l ++ [((n : Int), ls ++ [s.drop 4], dW (n : Int) (s.drop 4))], ((a + (s.length + 2) : Nat) : Int))
       else (((a + (s.length + 2) : Nat) : Int), (n : Int), ls ++ [s.drop 4], l, u), some true)
    else (((a : Int), c, ls, l, u), none)
theorem kk_eq (F : Nat) (hF : 2000 < F) (a : Nat) (c : Int) (ls : List Bs) (l : List Rp) (u : Int) (s : Bs) (hs : s.length ≤ 510) (ha : a ≤ 2000000) (hls : ls.length ≤ 100) (hl : l.length ≤ 2000000) :
    kk F ((a : Int), c, ls, l, u) s = some (lineR a c ls l u s) := by
  unfold kk dn lineR fZ
  simp only
  by_cases h4 : 4 ≤ s.length
  · have hd4 : decide ((4 : Int) ≤ (s.length : Int)) = true := decide_eq_true (by omega)
    have hg : ∀ (b : Bool) (x : Option (S5 × Option Bool)), dY b (cx 3 s.length) x = x := fun b x => iY fun _ => by omega
    rw [hd4, hg, bn, hg, bn, gK]
    simp only [hP]
    obtain ⟨g, hgd⟩ : ∃ g, g = at_ s 3 := ⟨_, rfl⟩
    rw [← hgd]
    by_cases hsg : g = 45 ∨ g = 32
    · have esg : ((decide (g = 45)) || (decide (g = 32))) = true := by
        rcases hsg with e | e <;> rw [e] <;> decide
      rw [if_pos ⟨h4, hsg⟩, esg, gK]
      by_cases h100 : ls.length < 100
      · rw [decide_eq_true (p := (ls.length : Int) < 100) (by omega), ctr, kQ, eO (by omega), bn]
        have e3 : to_ s 3 = s.take 3 := rfl
        have e4 : di s 4 = s.drop 4 := rfl
        obtain ⟨x, ex, hx⟩ := fR F (s.take 3) (by simp; omega) hF
        rw [e3, ex, bZ]
        cases hn : eU (s.take 3) with
        | none => rfl
        | some n =>
          rw [hx n hn, show (some n).isSome = true from rfl, gK]
          simp only
          by_cases hr : 200 ≤ n ∧ n ≤ 599
          · rw [if_pos hr, decide_eq_true (p := (200 : Int) ≤ (n : Int)) (by omega), decide_eq_true (p := (n : Int) ≤ 599) (by omega), gK, gK]
            simp only
            by_cases hc : ls ≠ [] ∧ (n : Int) ≠ c
            · have e : ((decide ((ls.length : Int) = 0)) || (decide ((n : Int) = c))) = false := by
                rw [decide_eq_false hc.2, Bool.or_false]
                refine decide_eq_false fun g => hc.1 (List.length_eq_zero_iff.1 (by omega))
              rw [e, cfl, eL, if_neg (fun g => g.2 hc)]
            · have e : ((decide ((ls.length : Int) = 0)) || (decide ((n : Int) = c))) = true := by
                by_cases q : (n : Int) = c
                · rw [decide_eq_true q, Bool.or_true]
                · have : ls = [] := by
                    by_cases q2 : ls = []
                    · exact q2
                    · exact absurd ⟨q2, q⟩ hc
                  rw [this]; rfl
              rw [e, ctr, kQ, eO (by omega), bn, e4, da (by simp; omega), bn, if_pos ⟨h100, hc⟩]
              unfold et
              have ea : (a : Int) + ((s.length : Int) + 2) = ((a + (s.length + 2) : Nat) : Int) := by omega
              rw [cB (by omega), cB (by omega), bU (by omega), bn, ← hgd, ea]
              by_cases h32 : g = 32
              · rw [bT h32, if_pos h32, eO (by omega), bn, e4]
                rcases mA F hF n (s.drop 4) (by simp; omega) with em | em
                · rw [em, show dW (n : Int) (s.drop 4) = ((dW (n : Int) (s.drop 4)).1, (dW (n : Int) (s.drop 4)).2.1, (dW (n : Int) (s.drop 4)).2.2) from rfl, fh]
                  unfold gM
                  rw [da (by simp; omega), bn, bZ]
                · omega
              · rw [bF h32, if_neg h32]
          · have e : (((decide ((200 : Int) ≤ (n : Int))) && (decide ((n : Int) ≤ 599))) && ((decide ((ls.length : Int) = 0)) || (decide ((n : Int) = c)))) = false := by
              by_cases q : 200 ≤ n
              · rw [decide_eq_false (p := (n : Int) ≤ 599) (by omega), Bool.and_false, gz]
              · rw [decide_eq_false (p := (200 : Int) ≤ (n : Int)) (by omega), gz, gz]
            rw [e, cfl, eL, if_neg hr]
      · rw [decide_eq_false (p := (ls.length : Int) < 100) (by omega), cfl, eL]
        cases hn : eU (s.take 3) with
        | none => rfl
        | some n =>
          simp only
          by_cases hr : 200 ≤ n ∧ n ≤ 599
          · rw [if_pos hr]; simp only; rw [if_neg (fun q => h100 q.1)]
          · rw [if_neg hr]
    · have esg : ((decide (g = 45)) || (decide (g = 32))) = false := by
        rw [decide_eq_false (fun e => hsg (.inl e)), decide_eq_false (fun e => hsg (.inr e))]; rfl
      rw [if_neg (fun q => hsg q.2), esg, gz, cfl, eL]
  · have hd4 : decide ((4 : Int) ≤ (s.length : Int)) = false := decide_eq_false (by omega)
    rw [hd4, jB, bn, gz, jB, bn, gz, gz, hP, cfl, eL, if_neg (fun q => h4 q.1)]
theorem fq (d : Nat) : ∀ (k : Nat) (c : Int) (ls : List Bs) (a : Nat) (b : Bs), gL k c ls (a + d) b = match gL k c ls a b with | .ok x n => .ok x (n + d) | y => y
  | 0, c, ls, a, b => by
    unfold gL
    cases iG b <;> rfl
  | k + 1, c, ls, a, b => by
    unfold gL
    cases iG b with
    | wait => rfl
    | bad => rfl
    | ok s =>
      simp only
      cases fZ s with
      | none => rfl
      | some n =>
        simp only
        by_cases h1 : ls ≠ [] ∧ (n : Int) ≠ c
        · rw [if_pos h1, if_pos h1]
        · rw [if_neg h1, if_neg h1]
          by_cases h2 : at_ s 3 = 32
          · rw [if_pos h2, if_pos h2]
            simp only
            rw [show a + d + (s.length + 2) = a + (s.length + 2) + d by omega]
          · rw [if_neg h2, if_neg h2, show a + d + (s.length + 2) = a + (s.length + 2) + d by omega]
            exact fq d k _ _ _ _
abbrev LL (F : Nat) (m : Nat) (b : Bs) (st : S5) : Option (S5 × Bool × Bs) := cT F (kk F) m (b, st)
theorem mB (F : Nat) (hF : 2000 < F) (m : Nat) (b : Bs) (a : Nat) (c : Int) (ls : List Bs) (l : List Rp) (u : Int) (hb : b.length ≤ 1000000) (ha : a ≤ 1000000) (hls : ls.length ≤ 100) (hl : l.length ≤ 1000000) :
    LL F (m + 1) b ((a : Int), c, ls, l, u) = match iG b with
      | .wait => some (((a : Int), c, ls, l, u), false, b)
      | .bad => some (((a : Int), c, ls, l, u), true, [])
      | .ok s => match fZ s with
        | none => some (((a : Int), c, ls, l, u), true, [])
        | some n => if ls.length < 100 ∧ ¬ (ls ≠ [] ∧ (n : Int) ≠ c) then
            (if at_ s 3 = 32 then LL F m (b.drop (s.length + 2)) (((a + (s.length + 2) : Nat) : Int), 0, [], l ++ [((n : Int), ls ++ [s.drop 4], dW (n : Int) (s.drop 4))], ((a + (s.length + 2) : Nat) : Int))
             else LL F m (b.drop (s.length + 2)) (((a + (s.length + 2) : Nat) : Int), (n : Int), ls ++ [s.drop 4], l, u))
          else some (((a : Int), c, ls, l, u), true, []) := by
  have e : LL F (m + 1) b ((a : Int), c, ls, l, u) = cU F (kk F) (cT F (kk F) m) b ((a : Int), c, ls, l, u) := rfl
  rw [e, md F _ _ b _ (by omega)]
  cases hb : iG b with
  | wait => rfl
  | bad => rfl
  | ok s =>
    simp only
    obtain ⟨t, _, _, hsl⟩ := ln_ok hb
    rw [kk_eq F hF a c ls l u s hsl (by omega) (by omega) (by omega), bN]
    unfold lineR
    cases fZ s with
    | none => rfl
    | some n =>
      simp only
      by_cases h1 : ls.length < 100 ∧ ¬ (ls ≠ [] ∧ (n : Int) ≠ c)
      · simp only [if_pos h1]
        by_cases h2 : at_ s 3 = 32
        · simp only [if_pos h2]; rfl
        · simp only [if_neg h2]; rfl
      · simp only [if_neg h1]; rfl
theorem fT (F : Nat) (hF : 2000 < F) (l : List Rp) (u : Int) (hl : l.length ≤ 1000000) : ∀ (j m : Nat) (b : Bs) (a : Nat) (c : Int) (ls : List Bs), ls.length + j = 100 → b.length < m → a + b.length ≤ 1000000 →
    match gL j c ls a b with
    | .wait => ∃ st b', LL F m b ((a : Int), c, ls, l, u) = some (st, false, b') ∧ st.2.2.2.1 = l ∧ st.2.2.2.2 = u
    | .bad => ∃ st b', LL F m b ((a : Int), c, ls, l, u) = some (st, true, b') ∧ st.2.2.2.1 = l ∧ st.2.2.2.2 = u
    | .ok x n => ∃ m', (b.drop (n - a)).length < m' ∧ a < n ∧ LL F m b ((a : Int), c, ls, l, u) = LL F m' (b.drop (n - a)) ((n : Int), 0, [], l ++ [x], (n : Int))
  | j, 0, b, a, c, ls, hj, hm, ha => by omega
  | 0, m + 1, b, a, c, ls, hj, hm, ha => by
    rw [mB F hF m b a c ls l u (by omega) (by omega) (by omega) hl]
    unfold gL
    cases hb : iG b with
    | wait => exact ⟨_, _, rfl, rfl, rfl⟩
    | bad => exact ⟨_, _, rfl, rfl, rfl⟩
    | ok s =>
      simp only
      cases fZ s with
      | none => exact ⟨_, _, rfl, rfl, rfl⟩
      | some n =>
        simp only
        rw [if_neg (fun q => by omega)]
        exact ⟨_, _, rfl, rfl, rfl⟩
  | j + 1, m + 1, b, a, c, ls, hj, hm, ha => by
    rw [mB F hF m b a c ls l u (by omega) (by omega) (by omega) hl]
    unfold gL
    cases hb : iG b with
    | wait => exact ⟨_, _, rfl, rfl, rfl⟩
    | bad => exact ⟨_, _, rfl, rfl, rfl⟩
    | ok s =>
      have hln := ln_len hb
      simp only
      cases fZ s with
      | none => exact ⟨_, _, rfl, rfl, rfl⟩
      | some n =>
        simp only
        by_cases h1 : ls ≠ [] ∧ (n : Int) ≠ c
        · have h1' : ¬ (ls.length < 100 ∧ ¬ (ls ≠ [] ∧ (n : Int) ≠ c)) := fun q => q.2 h1
          simp only [if_pos h1, if_neg h1']
          exact ⟨_, _, rfl, rfl, rfl⟩
        · have h1' : ls.length < 100 ∧ ¬ (ls ≠ [] ∧ (n : Int) ≠ c) := ⟨by omega, h1⟩
          simp only [if_neg h1, if_pos h1']
          by_cases h2 : at_ s 3 = 32
          · simp only [if_pos h2]
            refine ⟨m, ?_, by omega, ?_⟩
            · rw [List.length_drop]; omega
            · rw [show a + (s.length + 2) - a = s.length + 2 by omega]
          · simp only [if_neg h2]
            have ih := fT F hF l u hl j m (b.drop (s.length + 2)) (a + (s.length + 2)) (n : Int) (ls ++ [s.drop 4]) (by simp; omega) (by rw [List.length_drop]; omega) (by rw [List.length_drop]; omega)
            cases hq : gL j (n : Int) (ls ++ [s.drop 4]) (a + (s.length + 2)) (b.drop (s.length + 2)) with
            | wait => rw [hq] at ih; exact ih
            | bad => rw [hq] at ih; exact ih
            | ok x n' =>
              rw [hq] at ih
              simp only at ih ⊢
              obtain ⟨m', i1, i2, i3⟩ := ih
              have ed : (b.drop (s.length + 2)).drop (n' - (a + (s.length + 2))) = b.drop (n' - a) := by
                rw [List.drop_drop]; congr 1; omega
              rw [ed] at i1 i3
              exact ⟨m', i1, by omega, i3⟩
theorem mU (F : Nat) (hF : 2000 < F) {b : Bs} {l2 : List Rp} {u : Nat} {bd : Bool} (h : All b l2 u bd) : ∀ (m a : Nat) (l : List Rp), b.length < m → a + b.length ≤ 1000000 → l.length ≤ a →
    ∃ st b', LL F m b ((a : Int), 0, [], l, (a : Int)) = some (st, bd, b') ∧ st.2.2.2.1 = l ++ l2 ∧ st.2.2.2.2 = ((a + u : Nat) : Int) := by
  induction h with
  | @wait b e =>
    intro m a l hm ha hl
    have := fT F hF l (a : Int) (by omega) 100 m b a 0 [] rfl hm ha
    have sh := fq a 100 0 [] 0 b
    rw [Nat.zero_add, show gL 100 0 [] 0 b = .wait from e] at sh
    rw [sh] at this
    obtain ⟨st, b', h1, h2, h3⟩ := this;exact ⟨st, b', h1, by rw [h2, List.append_nil], by rw [h3]; rfl⟩
  | @bad b e =>
    intro m a l hm ha hl
    have := fT F hF l (a : Int) (by omega) 100 m b a 0 [] rfl hm ha
    have sh := fq a 100 0 [] 0 b
    rw [Nat.zero_add, show gL 100 0 [] 0 b = .bad from e] at sh
    rw [sh] at this
    obtain ⟨st, b', h1, h2, h3⟩ := this;exact ⟨st, b', h1, by rw [h2, List.append_nil], by rw [h3]; rfl⟩
  | @ok b x n l2 u bd e hr ih =>
    intro m a l hm ha hl
    have hp := one_pos e
    have := fT F hF l (a : Int) (by omega) 100 m b a 0 [] rfl hm ha
    have sh := fq a 100 0 [] 0 b
    rw [Nat.zero_add, show gL 100 0 [] 0 b = .ok x n from e] at sh
    rw [sh] at this
    simp only at this
    obtain ⟨m', h1, h2, h3⟩ := this
    rw [show n + a - a = n by omega] at h1 h3
    obtain ⟨st, b', g1, g2, g3⟩ := ih m' (n + a) (l ++ [x]) h1 (by rw [List.length_drop]; omega) (by simp; omega);refine ⟨st, b', by rw [h3]; exact g1, by rw [g2, List.append_assoc]; rfl, by rw [g3]; congr 1; omega⟩
theorem all_eq (F : Nat) (hF : 2000 < F) {b : Bs} {l : List Rp} {u : Nat} {bd : Bool} (h : All b l u bd) (hb : b.length ≤ 1000000) (hbF : b.length < F) : fA F b [] 0 = some (l, (u : Int), bd) := by
  obtain ⟨st, b', h1, h2, h3⟩ := mU F hF h F 0 [] hbF (by omega) (by simp)
  unfold fA fP fp
  rw [bN]
  have e : cT F (fun (s : S5) x => dn F s.1 s.2.1 s.2.2.1 s.2.2.2.1 s.2.2.2.2 x) F (b, (0, 0, [], [], 0)) = some (st, bd, b') := h1
  rw [e, fh, h2, h3, Nat.zero_add]
  cases bd <;> rfl
theorem put_eq (F : Nat) (hF : 2000 < F) (B b : Bs) {l : List Rp} {u : Nat} {bd : Bool} (h : All (B ++ b) l u bd) (hb : (B ++ b).length ≤ 1000000) (hbF : (B ++ b).length < F) : gV F B false b = some (l, if bd = true then [] else (B ++ b).drop u, bd) := by
  have hle := h.le
  rw [List.length_append] at hb
  unfold gV eu
  rw [cfl, da (by omega), bn, all_eq F hF h (by rw [List.length_append]; omega) hbF, fh]
  cases bd with
  | true => rfl
  | false =>
    rw [cfl, eO (by rw [List.length_append]; rw [List.length_append] at hle; omega), bn, from_nat, kJ (by rw [List.length_drop, List.length_append]; omega)]
    rfl
theorem read_eq (F : Nat) (hF : 2000 < F) (b : Bs) {l : List Rp} {u : Nat} {bd : Bool} (h : All b l u bd) (hb : b.length ≤ 1000000) (hbF : b.length < F) : fj F b = some (if bd = true ∨ u < b.length then ([], 2) else (l, 0)) := by
  have hle := h.le
  have hp := put_eq F hF [] b h hb hbF
  unfold fj gW gX gN
  rw [bN, hp, fh, bN]
  cases bd with
  | true => rfl
  | false =>
    rw [nfl, kX, bN, fo]
    simp only [Bool.false_eq_true, if_false, false_or]
    by_cases hu : u < b.length
    · rw [bT (by rw [List.nil_append, List.length_drop]; omega), if_pos hu]
    · rw [bF (by rw [List.nil_append, List.length_drop]; omega), if_neg hu]
end Go.Rp
namespace Go.Rp
open Go.Pv Go.Av
open Go.Dg (cfl ctr gK gz fo nfl ntr)
theorem awake_eq : dQ 2000000 = some true := by decide +kernel
end Go.Rp
namespace Go.Rp
open Go.Pv Go.Av
open Go.Dg (cfl ctr gK gz fo nfl ntr)
theorem May_loop (F : Nat) (hF : 20000 < F) (b : Bs) (hb : b.length ≤ 3000) (l : List Rp) (hl : l.length ≤ 3000) (hm : ∀ x ∈ l, mayX x = true) (he : (l.map wrX).flatten = b) : ∀ (n i : Nat), l.length - i < n → i ≤ l.length →
    cq F b l n (((l.take i).map wrX).flatten, (i : Int)) = some true := by
  intro n
  induction n with
  | zero => intro i h; omega
  | succ n ih =>
    intro i hn hi;show cr F b l (cq F b l n) ((l.take i).map wrX).flatten (i : Int) = _
    unfold cr
    by_cases h : i < l.length
    · have hx := hm _ (List.getElem_mem h)
      have hx' : mayB (l[i]).1 (l[i]).2.1 ((l[i]).2.2.1, (l[i]).2.2.2.1, (l[i]).2.2.2.2) = true := hx
      have ht : l.take (i + 1) = l.take i ++ [l[i]] := List.take_succ_eq_append_getElem h
      have hle : ((l.take (i + 1)).map wrX).flatten.length ≤ 3000 := by
        have e : (l.map wrX).flatten = ((l.take (i + 1)).map wrX).flatten ++ ((l.drop (i + 1)).map wrX).flatten := by
          rw [← List.flatten_append, ← List.map_append, List.take_append_drop]
        have := congrArg List.length e
        rw [he, List.length_append] at this
        omega
      rw [bT (by omega), bU (by omega), bn, fE h, write_eq F (by omega), hx', if_pos rfl, bZ, show decide ((0 : Int) = 0) = true from rfl, ntr, nfl, kV, bU (by omega), bn, kX, may_eq F (by omega), bN, hx', ntr, fo, cfl]
      have hnx : ((l.take (i + 1)).map wrX).flatten = ((l.take i).map wrX).flatten ++ wrA (l[i]).1 (l[i]).2.1 := by
        rw [ht, List.map_append, List.flatten_append]
        simp [wrX]
      rw [hnx, List.length_append] at hle
      rw [da (by omega), bn, cB (by omega), ib, ← hnx]
      exact ih (i + 1) (by omega) (by omega)
    · have hi' : i = l.length := by omega
      subst hi'
      rw [bF (by omega), List.take_length, he]
      unfold co
      rw [decide_eq_true rfl]
theorem mr (F : Nat) (hF : 20000 < F) (hw : dQ F = some true) (b : Bs) : dc F b = some true := by
  unfold dc
  rw [hw, bN, ntr, fo]
  by_cases h : 3000 < b.length
  · rw [bT (by omega)]
  · rw [bF (by omega)]
    obtain ⟨l, u, bd, hA⟩ := All.ex _ b (Nat.lt_succ_self _)
    rw [read_eq F (by omega) b hA (by omega) (by omega)]
    have hle := hA.le
    by_cases hc : bd = true ∨ u < b.length
    · rw [if_pos hc, bZ]; rfl
    · rw [if_neg hc, bZ, show decide ((0 : Int) = 0) = true from rfl, ntr, cfl]
      have hu : u = b.length := by
        have : ¬ u < b.length := fun q => hc (.inr q)
        omega
      obtain ⟨h1, h2⟩ := hA.may
      rw [hu, List.take_length] at h2
      have := May_loop F hF b (by omega) l (by omega) h1 h2 F 0 (by omega) (by omega)
      exact this
theorem ReplyMay_t (b : Bs) : dc 2000000 b = some true := mr 2000000 (by omega) awake_eq b
end Go.Rp
