/-
  Texts in one (only what ReplyWrites needs): RepAW, RepLP, RepLW, RepRP, RepRW, LReplyWritesP, LReplyWritesW, DgN, RpA, RpC.
-/
import Derived.Test.YtimpbfniegimaaaDoorZReplyWrites2
import Derived.Test.YtimpbfniegimaaaDoorShelf
import Derived.Lib.ItoaNum
import Derived.Lib.IndexLaws
import Derived.Test.YtimpbfniegimaaaDoorChecked
import Derived.Laws.RangeAny
import Derived.Lib.IndexAny
set_option linter.unusedVariables false
set_option linter.unusedSimpArgs false
namespace Go.Proofs.YtimpbfniegimaaaDoor
open Go.RowKit Go.Av Go.Pv
theorem en9_repa : ∀ (args : Array Value) (w : World), (callFunc 9 args).run Tryd.prog w = .ok (.enter 9 args) w := fun _ _ => by kernel_rfl
theorem qH : ∀ (args : Array Value) (w : World), (callFunc 10 args).run Tryd.prog w = .ok (.enter 10 args) w := fun _ _ => by kernel_rfl
theorem qG : ∀ (args : Array Value) (w : World), (callFunc 13 args).run Tryd.prog w = .ok (.enter 13 args) w := fun _ _ => by kernel_rfl
theorem qE : ∀ (args : Array Value) (w : World), (callFunc 14 args).run Tryd.prog w = .ok (.enter 14 args) w := fun _ _ => by kernel_rfl
theorem qB : ∀ (args : Array Value) (w : World), (callFunc 21 args).run Tryd.prog w = .ok (.enter 21 args) w := fun _ _ => by kernel_rfl
theorem mM : ∀ (args : Array Value) (w : World), (callFunc 22 args).run Tryd.prog w = .ok (.enter 22 args) w := fun _ _ => by kernel_rfl
theorem cq : ∀ (args : Array Value) (w : World), (callFunc 23 args).run Tryd.prog w = .ok (.enter 23 args) w := fun _ _ => by kernel_rfl
theorem mL : ∀ (args : Array Value) (w : World), (callFunc 24 args).run Tryd.prog w = .ok (.enter 24 args) w := fun _ _ => by kernel_rfl
theorem qz : ∀ (args : Array Value) (w : World), (callFunc 25 args).run Tryd.prog w = .ok (.enter 25 args) w := fun _ _ => by kernel_rfl
theorem mK : ∀ (args : Array Value) (w : World), (callFunc 27 args).run Tryd.prog w = .ok (.enter 27 args) w := fun _ _ => by kernel_rfl
theorem qu : ∀ (args : Array Value) (w : World), (callFunc 32 args).run Tryd.prog w = .ok (.enter 32 args) w := fun _ _ => by kernel_rfl
theorem mI : ∀ (args : Array Value) (w : World), (callFunc 33 args).run Tryd.prog w = .ok (.enter 33 args) w := fun _ _ => by kernel_rfl
theorem qt : ∀ (args : Array Value) (w : World), (callFunc 34 args).run Tryd.prog w = .ok (.enter 34 args) w := fun _ _ => by kernel_rfl
theorem eS : ∀ (args : Array Value) (w : World), (callFunc 35 args).run Tryd.prog w = .ok (.enter 35 args) w := fun _ _ => by kernel_rfl
theorem mH : ∀ (args : Array Value) (w : World), (callFunc 36 args).run Tryd.prog w = .ok (.enter 36 args) w := fun _ _ => by kernel_rfl
theorem qq : ∀ (args : Array Value) (w : World), (callFunc 43 args).run Tryd.prog w = .ok (.enter 43 args) w := fun _ _ => by kernel_rfl
theorem qp : ∀ (args : Array Value) (w : World), (callFunc 44 args).run Tryd.prog w = .ok (.enter 44 args) w := fun _ _ => by kernel_rfl
theorem qo : ∀ (args : Array Value) (w : World), (callFunc 45 args).run Tryd.prog w = .ok (.enter 45 args) w := fun _ _ => by kernel_rfl
theorem ky : ∀ (args : Array Value) (w : World), (callFunc 46 args).run Tryd.prog w = .ok (.enter 46 args) w := fun _ _ => by kernel_rfl
theorem qn : ∀ (args : Array Value) (w : World), (callFunc 47 args).run Tryd.prog w = .ok (.enter 47 args) w := fun _ _ => by kernel_rfl
set_option maxRecDepth 100000 in
set_option maxHeartbeats 1000000 in
theorem eT (F : Nat) (a1 : List UInt8) (q2 : Option Nat) (a3 : UInt8) (r4 : Int) (H : dE F a1 a3 = some r4) : ACalls Tryd.prog 46 [slE Enc.byte a1 q2, u8 a3] [] (Ret (i64 r4) []) := by
 unfold dE at H
 refine aA Tryd.func46 rfl rfl ?_;show AW _ _ 8 _ _ _;refine af <| ab ?_;show AR _ _ _ _ _ [0] _;refine za rfl <| ag <| af ?_;obtain ⟨x5, e6, H⟩ := bp H;refine ab ?_;show AR _ _ _ _ _ [0, 1, 2, 3] _;refine zS rfl (au (av := slE _ _ _) rfl) <| zm rfl <| zR rfl (show OpR _ _ _ _ (i64 x5) _ from by subst e6; exact mj ⟨Tryd.func57, by kernel_rfl, by kernel_rfl, by kernel_rfl, by kernel_rfl⟩ rfl rfl) <| za rfl <| ag <| aL ?_;obtain rfl := ak H;exact And.intro rfl (Exists.intro _ (Exists.intro _ ⟨aK rfl (.refl _), aF [] rfl, rfl, rfl⟩))
set_option maxRecDepth 100000 in
set_option maxHeartbeats 1000000 in
theorem jN (F : Nat) (a1 : List UInt8) (r2 : Int) (r3 : Bool) (H : fq F a1 = some (r2, r3)) : ACalls Tryd.prog 36 [S a1] [] (Ret (.tup [i64 r2, B r3]) []) := by
 unfold fq at H
 refine aA Tryd.func36 rfl rfl ?_;show AW _ _ 29 _ _ _;refine af <| ab ?_;show AR _ _ _ _ _ [0, 1] _;refine za rfl <| za rfl <| ag <| af ?_;obtain ⟨x4, x5, e6, H⟩ := fH H;refine ab ?_;show AR _ _ _ _ _ [0, 1, 2, 3, 4, 5, 6] _;refine zm rfl <| bc rfl rfl (aQ rfl qn rfl (ln F a1 x4 x5 e6) ?_);refine zS rfl (au (av := .tup _) rfl) <| zS rfl (aN (av := .v _) rfl rfl) <| zS rfl (aN (av := eAny _ _) rfl rfl) <| za rfl <| zS rfl (aO (av := eAny _ _) rfl) <| ag <| af ?_;obtain ⟨g9, H⟩ := ce H;obtain ⟨x10, e11, H⟩ := bp H;refine ab ?_;show AR _ _ _ _ _ [0, 1, 2, 3, 4, 5, 6, 7, 8, 9, 10, 11, 12, 13, 14, 15, 16, 17, 18, 19] _;refine zm rfl <| zS rfl (au (av := eAny _ _) rfl) <| zS rfl (pk cS rfl rfl) <| zm rfl <| aG (l := [8, 9, 10, 11, 12, 13, 14, 15, 16, 17, 18, 19]) 18 (B ((decide (x5 = 0)) && (decide ((a1.length : Int) ≤ 3)))) (fun K => ?_) ?_
 ·rcases ac (decide (x5 = 0)) with h7 | h7
  ·refine zM h7 rfl <| zU h7 rfl (be ah rfl) <| zU h7 rfl (dT rfl rfl) <| zS rfl (aq (av := .v _) rfl h7 rfl) ?_;exact K _ 3 _ (an (bJ h7)) rfl rfl
  ·refine zF h7 rfl <| zF h7 rfl <| zF h7 rfl <| zS rfl (ap (av := .v _) rfl h7 rfl) ?_;exact K _ 3 _ (an (bK h7)) rfl rfl
 refine zm rfl <| aG (l := [14, 15, 16, 17, 18, 19]) 24 (B (((decide (x5 = 0)) && (decide ((a1.length : Int) ≤ 3))) && (decide (x10 = a1)))) (fun K => ?_) ?_
 ·rcases ac ((decide (x5 = 0)) && (decide ((a1.length : Int) ≤ 3))) with h8 | h8
  ·refine zM h8 rfl <| zT h8 rfl (aQ rfl mK rfl (show ACalls _ _ _ [] (Ret (S x10) []) from by subst e11; exact kJ x4 (nj (g9 h8))) ?_);refine zM h8 rfl <| zU h8 rfl (kj rfl rfl) <| zS rfl (aq (av := .v _) rfl h8 rfl) ?_;exact K _ 4 _ (an (bJ h8)) rfl rfl
  ·refine zF h8 rfl <| zF h8 rfl <| zF h8 rfl <| zF h8 rfl <| zS rfl (ap (av := .v _) rfl h8 rfl) ?_;exact K _ 4 _ (an (bK h8)) rfl rfl
 refine zm rfl <| aG (l := [18, 19]) 28 (B ((((decide (x5 = 0)) && (decide ((a1.length : Int) ≤ 3))) && (decide (x10 = a1))) && (decide (0 ≤ x4)))) (fun K => ?_) ?_
 ·rcases ac (((decide (x5 = 0)) && (decide ((a1.length : Int) ≤ 3))) && (decide (x10 = a1))) with h12 | h12
  ·refine zM h12 rfl <| zU h12 rfl (fF rfl rfl) <| zS rfl (aq (av := .v _) rfl h12 rfl) ?_;exact K _ 2 _ (an (bJ h12)) rfl rfl
  ·refine zF h12 rfl <| zF h12 rfl <| zS rfl (ap (av := .v _) rfl h12 rfl) ?_;exact K _ 2 _ (an (bK h12)) rfl rfl
 refine za rfl <| za rfl <| ag <| aL ?_;obtain ⟨rfl, rfl⟩ := fg H;exact And.intro rfl (Exists.intro _ (Exists.intro _ ⟨bi rfl (.refl _) (.refl _), aF [] rfl, rfl, rfl⟩))
abbrev _root_.Go.Av.ai := @Tryd.underlying35
abbrev _root_.Go.Av.aB := @Tryd.underlying36
set_option maxRecDepth 100000 in
set_option maxHeartbeats 1000000 in
theorem lB (F : Nat) (a1 : Int) (a2 : List UInt8) (r3 : Int) (r4 : Int) (r5 : Int) (H : gC F a1 a2 = some (r3, r4, r5)) : ACalls Tryd.prog 33 [i64 a1, S a2] [] (Ret (.agg [i64 r3, i64 r4, i64 r5]) []) := by
 unfold gC at H
 refine aA Tryd.func33 rfl rfl ?_;show AW _ _ 57 _ _ _;refine af <| ab ?_;show AR _ _ _ _ _ [0] _;refine zX rfl (cn (zs := [.int .i64 0, .int .i64 0, .int .i64 0]) (by kernel_rfl)) ?_;rintro _ _ ⟨o6, rfl, rfl⟩;refine ag <| af ?_;obtain ⟨g7, H⟩ := aI H;obtain ⟨x8, e9, H⟩ := bp H;refine ab ?_;show AR _ _ _ _ _ [0, 1, 2, 3, 4, 5, 6, 7, 8] _;refine zm rfl <| bc rfl rfl (aQ rfl qq rfl (show ACalls _ _ _ [] (Ret (.tup [S x8.1, S x8.2.1, B x8.2.2]) []) from by subst e9; exact lib_Cut a2 ([32] : List UInt8) (fi g7)) ?_);refine zS rfl (au (av := .tup _) rfl) <| zS rfl (aN (av := .v _) rfl rfl) <| zS rfl (aN (av := .v _) rfl rfl) <| zS rfl (aN (av := .v _) rfl rfl) <| za rfl <| za rfl <| za rfl <| ag <| af ?_;obtain ⟨g10, H⟩ := aI H;obtain ⟨g11, H⟩ := aI H;obtain ⟨x12, e13, H⟩ := bp H;refine ab ?_;show AR _ _ _ _ _ [0, 1, 2] _;refine zm rfl <| bc rfl rfl (aQ rfl qp rfl (show ACalls _ _ _ [] (Ret (slE Enc.str x12 none) []) from by subst e13; exact qe x8.1 ([46] : List UInt8) (fi g10) (of_decide_eq_true g11)) ?_);refine zS rfl (aO (av := slE _ _ _) rfl) <| ag <| af <| af ?_;obtain ⟨g15, H⟩ := ce H;refine ab ?_;show AR _ _ _ _ _ [0, 1, 2, 3, 4, 5, 6, 7] _;refine zS rfl (au (av := slE _ _ _) rfl) <| zS rfl (aR ai rfl) <| zS rfl (fV rfl rfl) <| zm rfl <| aG (l := []) 28 (B ((!decide ((x12.length : Int) = 3)) || (decide (a1 / 100 = 3)))) (fun K => ?_) ?_
 ·rcases ac (!decide ((x12.length : Int) = 3)) with h14 | h14
  ·refine zF h14 rfl <| zF h14 rfl <| zF h14 rfl <| zS rfl (aq (av := .v _) rfl h14 rfl) ?_;exact K _ 3 _ (an (ek h14)) rfl rfl
  ·refine zM h14 rfl <| zU h14 rfl (np rfl rfl (g15 (nf h14))) <| zU h14 rfl (bw rfl rfl) <| zS rfl (ap (av := .v _) rfl h14 rfl) ?_;exact K _ 3 _ (an (eo h14)) rfl rfl
 refine ag <| ay rfl (fun c16 => ?_) (fun c16 => ?_)
 ·replace H := aZ c16 H;refine af <| ab ?_;show AR _ _ _ _ _ [0, 1] _;refine zR rfl (cz (i := 0) (n := 3) aB rfl (by kernel_rfl) rfl rfl (aa rfl)) <| s0 rfl rfl (bg (i := 0) (vs := [i64 0, i64 0, i64 0]) (by kernel_rfl) rfl rfl (by simp [br, slE]) rfl (aa rfl)) <| ag <| aL ?_;obtain ⟨rfl, rfl, rfl⟩ := iO H;exact And.intro rfl (Exists.intro _ (Exists.intro _ ⟨ej (cV rfl (CellV.agg (off := 0) (cs := [i64 0, i64 0, i64 0]) (n := 3) 0 aB rfl (by kernel_rfl) rfl rfl (aa rfl))), aF [] rfl, rfl, rfl⟩))
 ·replace H := ba c16 H;refine aE <| af <| ab ?_;show AR _ _ _ _ _ [0] _;refine zX rfl (cn (zs := [.int .i64 0, .int .i64 0, .int .i64 0]) (by kernel_rfl)) ?_;rintro _ _ ⟨o17, rfl, rfl⟩;refine ag <| bx (X := Int × Int × Int) (fun (y39, y40, y41) => ⟨[(0, i64 a1), (4, .pt o6 0), (9, .pt o17 0)], [], [.obj o17 [i64 y39, i64 y40, i64 y41], .obj o6 [i64 0, i64 0, i64 0]]⟩) (fun (y39, y40, y41) => fB a1 y39 y40 y41 = some (r3, r4, r5)) ?_ ?_
  ·refine af <| ab ?_;show AR _ _ _ _ _ [0, 1, 2] _;refine zS rfl (au (av := slE _ _ _) rfl) <| zS rfl (aR ai rfl) <| zm rfl <| ag <| aW <| cf (X := Nat × Int × Int × Int × Int) (fun (n25, y20, y21, y22, y23) => ⟨[(0, i64 a1), (4, .pt o6 0), (8, slE Enc.str x12 none), (9, .pt o17 0), (31, i64 (x12.length : Int)), (32, i64 y20)], [], [.obj o17 [i64 y21, i64 y22, i64 y23], .obj o6 [i64 0, i64 0, i64 0]]⟩) (fun (n25, y20, y21, y22, y23) => cB F a1 x12 n25 (y20, y21, y22, y23) = some (r3, r4, r5)) (fun (n25, y20, y21, y22, y23) => n25) (F, 0, 0, 0, 0) H (aX [0, 0] (.cons (.refl _) (.cons (.refl _) (.cons (.refl _) (.cons (.refl _) (.cons (.refl _) (.cons (.refl _) (.nil _))))))) rfl) ?_;rintro ⟨n25, y20, y21, y22, y23⟩ H;obtain ⟨n25, rfl, H⟩ := cP H;replace H : dl F a1 x12 (cB F a1 x12 n25) y20 y21 y22 y23 = some (r3, r4, r5) := H
   unfold dl at H
   refine af <| ab ?_;show AR _ _ _ _ _ [0] _;refine zS rfl (bA rfl rfl) <| ag <| af <| ay rfl (fun c26 => ?_) (fun c26 => ?_)
   ·replace H := aZ c26 H;refine aE <| af <| aW <| af <| ab ?_;show AR _ _ _ _ _ [0, 1] _;refine zm rfl <| za rfl <| ag <| af ?_;obtain ⟨g27, H⟩ := aI H;obtain ⟨x28, e29, H⟩ := bp H;obtain ⟨x30, x31, e32, H⟩ := fH H;refine ab ?_;show AR _ _ _ _ _ [0, 1, 2, 3, 4, 5, 6, 7, 8, 9] _;refine zS rfl (au (av := slE _ _ _) rfl) <| zm rfl <| zS rfl (bk (E := Enc.str) ai (by kernel_rfl) rfl rfl g27 e29) <| zS rfl (aD ah rfl rfl) <| bc rfl rfl (aQ rfl mH rfl (jN F x28 x30 x31 e32) ?_);refine zS rfl (au (av := .tup _) rfl) <| zS rfl (aN (av := .v _) rfl rfl) <| zS rfl (aN (av := .v _) rfl rfl) <| za rfl <| za rfl <| ag <| af <| af <| ab ?_;show AR _ _ _ _ _ [0, 1] _;refine zm rfl <| zS rfl (dS rfl) <| ag <| ay rfl (fun c33 => ?_) (fun c33 => ?_)
    ·replace H := aZ c33 H;refine af <| ab ?_;show AR _ _ _ _ _ [0, 1] _;refine zR rfl (cz (i := 1) (n := 3) aB rfl (by kernel_rfl) rfl rfl (aa rfl)) <| s0 rfl rfl (bg (i := 1) (vs := [i64 0, i64 0, i64 0]) (by kernel_rfl) rfl rfl (by simp [br, slE]) rfl (aa rfl)) <| ag <| aL ?_;obtain ⟨rfl, rfl, rfl⟩ := iO H;exact And.intro rfl (Exists.intro _ (Exists.intro _ ⟨ej (cV rfl (CellV.agg (off := 0) (cs := [i64 0, i64 0, i64 0]) (n := 3) 1 aB rfl (by kernel_rfl) rfl rfl (aa rfl))), aF [] rfl, rfl, rfl⟩))
    ·replace H := ba c33 H;refine aE ?_;obtain ⟨g34, H⟩ := aI H;obtain ⟨g35, H⟩ := aI H;obtain ⟨x36, e37, H⟩ := bp H;refine ab ?_;show AR _ _ _ _ _ [0, 1, 2, 3] _;refine zm rfl <| zm rfl <| zS rfl (js aB (by kernel_rfl) rfl rfl g34) <| s0 rfl rfl (oa (pre := []) (post := []) (l := ([y21, y22, y23] : List Int)) (vs := [i64 (x36.getD 0 0), i64 (x36.getD 1 0), i64 (x36.getD 2 0)]) (n := 3) (k := 0) (by kernel_rfl) rfl rfl rfl rfl rfl g35 e37 rfl) <| ag ?_;obtain ⟨g38, H⟩ := aI H;refine ab ?_;show AR _ _ _ _ _ [0, 1] _;refine zS rfl (dk rfl rfl g38) <| zm rfl <| ag ?_;exact Exists.intro (n25, y20 + 1, x36.getD 0 0, x36.getD 1 0, x36.getD 2 0) ⟨H, Nat.lt_succ_self _, aX [0, 0] (.cons (.refl _) (.cons (.refl _) (.cons (.refl _) (.cons (.refl _) (.cons (.refl _) (.cons (.refl _) (.nil _))))))) rfl⟩
   ·replace H := ba c26 H;refine cg ?_;exact Exists.intro (y21, y22, y23) ⟨H, aX [0, 0] (.cons (.refl _) (.cons (.refl _) (.cons (.refl _) (.nil _)))) rfl⟩
  rintro ⟨y39, y40, y41⟩ H;replace H : fB a1 y39 y40 y41 = some (r3, r4, r5) := H
  unfold fB at H
  refine bx (X := Int × Int × Int) (fun (y45, y46, y47) => ⟨[(4, .pt o6 0)], [], [.obj o6 [i64 y45, i64 y46, i64 y47]]⟩) (fun (y45, y46, y47) => eP y45 y46 y47 = some (r3, r4, r5)) ?_ ?_
  ·refine af ?_;obtain ⟨g43, H⟩ := aI H;refine ab ?_;show AR _ _ _ _ _ [0, 1, 2, 3, 4] _;refine zS rfl (cQ (Ar := 0) (k := 1) (m := 0) aB (by kernel_rfl) rfl rfl rfl (by decide)) <| zR rfl (ao (i := 0) az rfl rfl rfl rfl) <| zm rfl <| zS rfl (np rfl rfl g43) <| zS rfl (bw rfl rfl) <| ag <| ay rfl (fun c44 => ?_) (fun c44 => ?_)
   ·replace H := aZ c44 H;refine ab ?_;show AR _ _ _ _ _ [0, 1] _;refine zR rfl (cz (i := 0) (n := 3) aB rfl (by kernel_rfl) rfl rfl (aa rfl)) <| s0 rfl rfl (bg (i := 1) (vs := [i64 y39, i64 y40, i64 y41]) (by kernel_rfl) rfl rfl (by simp [br, slE]) rfl (aa rfl)) <| ag ?_;exact Exists.intro (y39, y40, y41) ⟨H, aX [1] (.cons (.refl _) (.nil _)) rfl⟩
   ·replace H := ba c44 H;refine aE ?_;exact Exists.intro (0, 0, 0) ⟨H, aX [1] (.cons (.refl _) (.nil _)) rfl⟩
  rintro ⟨y45, y46, y47⟩ H;replace H : eP y45 y46 y47 = some (r3, r4, r5) := H
  unfold eP at H
  refine af <| ab ?_;show AR _ _ _ _ _ [0, 1] _;refine zR rfl (cz (i := 0) (n := 3) aB rfl (by kernel_rfl) rfl rfl (aa rfl)) <| s0 rfl rfl (bg (i := 0) (vs := [i64 y45, i64 y46, i64 y47]) (by kernel_rfl) rfl rfl (by simp [br, slE]) rfl (aa rfl)) <| ag <| aL ?_;obtain ⟨rfl, rfl, rfl⟩ := iO H;exact And.intro rfl (Exists.intro _ (Exists.intro _ ⟨ej (cV rfl (CellV.agg (off := 0) (cs := [i64 y45, i64 y46, i64 y47]) (n := 3) 0 aB rfl (by kernel_rfl) rfl rfl (aa rfl))), aF [] rfl, rfl, rfl⟩))
set_option maxRecDepth 100000 in
set_option maxHeartbeats 1000000 in
theorem ku (F : Nat) (a1 : Int) (a2 : List (List UInt8)) (a3 : Int) (a4 : Int) (a5 : Int) (r6 : Bool) (H : iw F a1 a2 a3 a4 a5 = some r6) : ACalls Tryd.prog 21 [.agg [i64 a1, slE Enc.str a2 none, i64 a3, i64 a4, i64 a5]] [] (Ret (B r6) []) := by
 unfold iw at H
 refine aA Tryd.func21 rfl rfl ?_;show AW _ _ 54 _ _ _;refine af <| ab ?_;show AR _ _ _ _ _ [0, 1] _;refine zR rfl (dN rfl (.inr ⟨_, rfl⟩)) <| za rfl <| ag <| af <| af <| ab ?_;show AR _ _ _ _ _ [0, 1, 2, 3, 4, 5, 6, 7, 8, 9, 10, 11, 12, 13, 14, 15, 16, 17, 18, 19] _;refine zS rfl (ax (n := 0) (by kernel_rfl) rfl (aa rfl)) <| zS rfl (aD az rfl rfl) <| zS rfl (bA rfl rfl) <| zm rfl <| aG (l := [8, 9, 10, 11, 12, 13, 14, 15, 16, 17, 18, 19]) 12 (B ((decide (a1 < 200)) || (decide (599 < a1)))) (fun K => ?_) ?_
 ·rcases ac (decide (a1 < 200)) with h7 | h7
  ·refine zF h7 rfl <| zF h7 rfl <| zF h7 rfl <| zS rfl (aq (av := .v _) rfl h7 rfl) ?_;exact K _ 3 _ (an (ek h7)) rfl rfl
  ·refine zU h7 rfl (ax (n := 0) (by kernel_rfl) rfl (aa rfl)) <| zU h7 rfl (aD az rfl rfl) <| zU h7 rfl (cO rfl rfl) <| zS rfl (ap (av := .v _) rfl h7 rfl) ?_;exact K _ 3 _ (an (eo h7)) rfl rfl
 refine zm rfl <| aG (l := [14, 15, 16, 17, 18, 19]) 18 (B (((decide (a1 < 200)) || (decide (599 < a1))) || (decide ((a2.length : Int) = 0)))) (fun K => ?_) ?_
 ·rcases ac ((decide (a1 < 200)) || (decide (599 < a1))) with h8 | h8
  ·refine zF h8 rfl <| zF h8 rfl <| zF h8 rfl <| zF h8 rfl <| zS rfl (aq (av := .v _) rfl h8 rfl) ?_;exact K _ 4 _ (an (ek h8)) rfl rfl
  ·refine zU h8 rfl (ax (n := 1) (by kernel_rfl) rfl (aa rfl)) <| zU h8 rfl (aD ai rfl rfl) <| zU h8 rfl (aR ai rfl) <| zU h8 rfl (bw rfl rfl) <| zS rfl (ap (av := .v _) rfl h8 rfl) ?_;exact K _ 4 _ (an (eo h8)) rfl rfl
 refine zm rfl <| aG (l := []) 24 (B ((((decide (a1 < 200)) || (decide (599 < a1))) || (decide ((a2.length : Int) = 0))) || (decide (100 < (a2.length : Int))))) (fun K => ?_) ?_
 ·rcases ac (((decide (a1 < 200)) || (decide (599 < a1))) || (decide ((a2.length : Int) = 0))) with h9 | h9
  ·refine zF h9 rfl <| zF h9 rfl <| zF h9 rfl <| zF h9 rfl <| zS rfl (aq (av := .v _) rfl h9 rfl) ?_;exact K _ 4 _ (an (ek h9)) rfl rfl
  ·refine zU h9 rfl (ax (n := 1) (by kernel_rfl) rfl (aa rfl)) <| zU h9 rfl (aD ai rfl rfl) <| zU h9 rfl (aR ai rfl) <| zU h9 rfl (cO rfl rfl) <| zS rfl (ap (av := .v _) rfl h9 rfl) ?_;exact K _ 4 _ (an (eo h9)) rfl rfl
 refine ag <| ay rfl (fun c10 => ?_) (fun c10 => ?_)
 ·replace H := aZ c10 H;refine af <| ab ?_;show AR _ _ _ _ _ [0] _;refine za rfl <| ag <| aL ?_;obtain rfl := ak H;exact And.intro rfl (Exists.intro _ (Exists.intro _ ⟨aK rfl (.refl _), aF [] rfl, rfl, rfl⟩))
 ·replace H := ba c10 H;refine aE <| bx (X := Unit) (fun _ => ⟨[(1, .cp [i64 a1, slE Enc.str a2 none, i64 a3, i64 a4, i64 a5])], [], []⟩) (fun _ => gg F a1 a2 a3 a4 a5 = some r6) ?_ ?_
  ·refine af <| ab ?_;show AR _ _ _ _ _ [0, 1, 2, 3] _;refine zS rfl (ax (n := 1) (by kernel_rfl) rfl (aa rfl)) <| zS rfl (aD ai rfl rfl) <| zS rfl (aR ai rfl) <| zm rfl <| ag <| aW <| cf (X := Nat × Int) (fun (n13, y11) => ⟨[(1, .cp [i64 a1, slE Enc.str a2 none, i64 a3, i64 a4, i64 a5]), (26, slE Enc.str a2 none), (27, i64 (a2.length : Int)), (28, i64 y11)], [], []⟩) (fun (n13, y11) => gh F a1 a2 a3 a4 a5 n13 y11 = some r6) (fun (n13, y11) => n13) (F, 0) H (aX [] (.cons (.refl _) (.cons (.refl _) (.cons (.refl _) (.cons (.refl _) (.nil _))))) rfl) ?_;rintro ⟨n13, y11⟩ H;obtain ⟨n13, rfl, H⟩ := cP H;replace H : gi F a1 a2 a3 a4 a5 (gh F a1 a2 a3 a4 a5 n13) y11 = some r6 := H
   unfold gi at H
   refine af <| ab ?_;show AR _ _ _ _ _ [0] _;refine zS rfl (bA rfl rfl) <| ag <| af <| ay rfl (fun c14 => ?_) (fun c14 => ?_)
   ·replace H := aZ c14 H;refine aE <| af <| aW <| af ?_;obtain ⟨g15, H⟩ := aI H;obtain ⟨x16, e17, H⟩ := bp H;refine ab ?_;show AR _ _ _ _ _ [0, 1, 2] _;refine zS rfl (bk (E := Enc.str) ai (by kernel_rfl) rfl rfl g15 e17) <| zS rfl (aD ah rfl rfl) <| za rfl <| ag <| af ?_;obtain ⟨x19, e20, H⟩ := fG H;refine ab ?_;show AR _ _ _ _ _ [0, 1, 2, 3, 4, 5, 6] _;refine zm rfl <| zS rfl (be ah rfl) <| zS rfl (cO rfl rfl) <| zm rfl <| aG (l := []) 38 (B ((decide (506 < (x16.length : Int))) || x19)) (fun K => ?_) ?_
    ·rcases ac (decide (506 < (x16.length : Int))) with h18 | h18
     ·refine zF h18 rfl <| zF h18 rfl <| zS rfl (aq (av := .v _) rfl h18 rfl) ?_;exact K _ 2 _ (an (ek h18)) rfl rfl
     ·refine zM h18 rfl <| zT h18 rfl (aQ rfl qu rfl (ma F x16 ([13, 10] : List UInt8) x19 (e20 (nf h18))) ?_);refine zS rfl (ap (av := .v _) rfl h18 rfl) ?_;exact K _ 2 _ (an (eo h18)) rfl rfl
    refine ag <| ay rfl (fun c21 => ?_) (fun c21 => ?_)
    ·replace H := aZ c21 H;refine af <| ab ?_;show AR _ _ _ _ _ [0] _;refine za rfl <| ag <| aL ?_;obtain rfl := ak H;exact And.intro rfl (Exists.intro _ (Exists.intro _ ⟨aK rfl (.refl _), aF [] rfl, rfl, rfl⟩))
    ·replace H := ba c21 H;refine aE ?_;obtain ⟨g22, H⟩ := aI H;refine ab ?_;show AR _ _ _ _ _ [0, 1] _;refine zS rfl (dk rfl rfl g22) <| zm rfl <| ag ?_;exact Exists.intro (n13, y11 + 1) ⟨H, Nat.lt_succ_self _, aX [] (.cons (.refl _) (.cons (.refl _) (.cons (.refl _) (.cons (.refl _) (.nil _))))) rfl⟩
   ·replace H := ba c14 H;refine cg ?_;exact Exists.intro () ⟨H, aX [] (.cons (.refl _) (.nil _)) rfl⟩
  rintro _ H;replace H : gg F a1 a2 a3 a4 a5 = some r6 := H
  unfold gg at H
  refine af ?_;obtain ⟨g24, H⟩ := aI H;obtain ⟨g25, H⟩ := aI H;obtain ⟨x26, e27, H⟩ := bp H;obtain ⟨x28, x29, x30, e31, H⟩ := iZ H;refine bL (by kernel_rfl) ?_;show AI _ _ _ _ _ 15 (Array.replicate 15 false) _;refine zk 0 rfl (ax (n := 2) (by kernel_rfl) rfl (aa rfl)) ?_;show AI _ _ _ _ _ _ #[true, false, false, false, false, false, false, false, false, false, false, false, false, false, false] _;refine zk 1 rfl (bf aB rfl (n := 3) (by kernel_rfl) rfl (aa rfl)) ?_;show AI _ _ _ _ _ _ #[true, true, false, false, false, false, false, false, false, false, false, false, false, false, false] _;refine zk 2 rfl (ax (n := 0) (by kernel_rfl) rfl (aa rfl)) ?_;show AI _ _ _ _ _ _ #[true, true, true, false, false, false, false, false, false, false, false, false, false, false, false] _;refine zk 3 rfl (aD az rfl rfl) ?_;show AI _ _ _ _ _ _ #[true, true, true, true, false, false, false, false, false, false, false, false, false, false, false] _;refine zk 4 rfl (ax (n := 1) (by kernel_rfl) rfl (aa rfl)) ?_;show AI _ _ _ _ _ _ #[true, true, true, true, true, false, false, false, false, false, false, false, false, false, false] _;refine zk 5 rfl (aD ai rfl rfl) ?_;show AI _ _ _ _ _ _ #[true, true, true, true, true, true, false, false, false, false, false, false, false, false, false] _
  refine zk 6 rfl (ax (n := 1) (by kernel_rfl) rfl (aa rfl)) ?_;show AI _ _ _ _ _ _ #[true, true, true, true, true, true, true, false, false, false, false, false, false, false, false] _;refine zk 7 rfl (aD ai rfl rfl) ?_;show AI _ _ _ _ _ _ #[true, true, true, true, true, true, true, true, false, false, false, false, false, false, false] _;refine zk 8 rfl (aR ai rfl) ?_;show AI _ _ _ _ _ _ #[true, true, true, true, true, true, true, true, true, false, false, false, false, false, false] _;refine zk 9 rfl (jd rfl rfl g24) ?_;show AI _ _ _ _ _ _ #[true, true, true, true, true, true, true, true, true, true, false, false, false, false, false] _;refine zk 10 rfl (bk (E := Enc.str) ai (by kernel_rfl) rfl rfl g25 e27) ?_;show AI _ _ _ _ _ _ #[true, true, true, true, true, true, true, true, true, true, true, false, false, false, false] _;refine zk 11 rfl (aD ah rfl rfl) ?_;show AI _ _ _ _ _ _ #[true, true, true, true, true, true, true, true, true, true, true, true, false, false, false] _;refine aY (i := 12) (by kernel_rfl) rfl rfl <| cw rfl mI rfl (lB F a1 x26 x28 x29 x30 e31) ?_;show AI _ _ _ _ _ _ #[true, true, true, true, true, true, true, true, true, true, true, true, true, false, false] _;refine zk 13 rfl (ii (r := (a3 == x28) && ((a4 == x29) && ((a5 == x30) && true))) (.inl rfl) aB az rfl (by kernel_rfl) (by kernel_rfl) rfl rfl rfl rfl) ?_
  show AI _ _ _ _ _ _ #[true, true, true, true, true, true, true, true, true, true, true, true, true, true, false] _;refine zk 14 rfl (asg rfl) ?_;show AI _ _ _ _ _ _ #[true, true, true, true, true, true, true, true, true, true, true, true, true, true, true] _;refine bB rfl <| aL ?_;obtain rfl := ak H;exact And.intro rfl (Exists.intro _ (Exists.intro _ ⟨aK rfl (.refl _), aF [] rfl, rfl, rfl⟩))
abbrev _root_.Go.Av.aU := @Tryd.underlying38
set_option maxRecDepth 100000 in
set_option maxHeartbeats 1000000 in
theorem nI (F : Nat) (a1 : Int) (a2 : List (List UInt8)) (a3 : Int) (a4 : Int) (a5 : Int) (r6 : List UInt8) (r7 : Int) (H : gR F a1 a2 a3 a4 a5 = some (r6, r7)) : ACalls Tryd.prog 16 [.agg [i64 a1, slE Enc.str a2 none, i64 a3, i64 a4, i64 a5]] [] (Ret (.tup [slE Enc.byte r6 none, i64 r7]) []) := by
 unfold gR at H
 refine aA Tryd.func16 rfl rfl ?_;show AW _ _ 37 _ _ _;refine af <| ab ?_;show AR _ _ _ _ _ [0, 1, 2] _;refine zR rfl (dN rfl (.inr ⟨_, rfl⟩)) <| za rfl <| za rfl <| ag <| af <| af ?_;obtain ⟨x8, e9, H⟩ := cK H;refine ab ?_;show AR _ _ _ _ _ [0, 1, 2] _;refine zS rfl (bf aU rfl (n := 5) (by kernel_rfl) rfl (aa rfl)) <| bc rfl rfl (aQ rfl qB rfl (ku F a1 a2 a3 a4 a5 x8 e9) ?_);refine zS rfl (dS rfl) <| ag <| ay rfl (fun c10 => ?_) (fun c10 => ?_)
 ·replace H := aZ c10 H;refine af <| ab ?_;show AR _ _ _ _ _ [0, 1] _;refine za rfl <| za rfl <| ag <| aL ?_;obtain ⟨rfl, rfl⟩ := fg H;exact And.intro rfl (Exists.intro _ (Exists.intro _ ⟨bi rfl (.nil _) (.refl _), aF [] rfl, rfl, rfl⟩))
 ·replace H := ba c10 H;refine aE <| af <| ab ?_;show AR _ _ _ _ _ [0] _;refine za rfl <| ag ?_
  refine hP 4 1 5 rfl fun t11 => ?_
  show AW _ _ _ _ _ ⟨(4, slE Enc.byte [] (some t11)) :: _, _, _⟩;refine bx (X := (List UInt8) × Nat) (fun (y42, t43) => ⟨[(4, slE Enc.byte y42 (some t43))], [], [.tok t43 5]⟩) (fun (y42, t43) => fP y42 = some (r6, r7)) ?_ ?_
  ·refine af <| ab ?_;show AR _ _ _ _ _ [0, 1, 2, 3] _;refine zS rfl (ax (n := 1) (by kernel_rfl) rfl (aa rfl)) <| zS rfl (aD ai rfl rfl) <| zS rfl (aR ai rfl) <| zm rfl <| ag <| aW <| cf (X := Nat × (List UInt8) × Nat × Int) (fun (n16, y12, t13, y14) => ⟨[(1, .cp [i64 a1, slE Enc.str a2 none, i64 a3, i64 a4, i64 a5]), (4, slE Enc.byte y12 (some t13)), (12, slE Enc.str a2 none), (13, i64 (a2.length : Int)), (14, i64 y14)], [], [.tok t13 5]⟩) (fun (n16, y12, t13, y14) => cT a1 a2 n16 (y12, y14) = some (r6, r7)) (fun (n16, y12, t13, y14) => n16) (F, [], t11, 0) H (aX [0] (.cons (.refl _) (.cons (.refl _) (.cons (.refl _) (.cons (.refl _) (.cons (.refl _) (.nil _)))))) rfl) ?_;rintro ⟨n16, y12, t13, y14⟩ H;obtain ⟨n16, rfl, H⟩ := cP H;replace H : eX a1 a2 (cT a1 a2 n16) y12 y14 = some (r6, r7) := H
   unfold eX at H
   refine af <| ab ?_;show AR _ _ _ _ _ [0] _;refine zS rfl (bA rfl rfl) <| ag <| af <| ay rfl (fun c17 => ?_) (fun c17 => ?_)
   ·replace H := aZ c17 H;refine aE <| af <| aW <| af ?_;obtain ⟨g18, H⟩ := aI H;obtain ⟨x19, e20, H⟩ := bp H;refine ab ?_;show AR _ _ _ _ _ [0, 1, 2, 3, 4] _;refine zm rfl <| zS rfl (bk (E := Enc.str) ai (by kernel_rfl) rfl rfl g18 e20) <| zS rfl (aD ah rfl rfl) <| za rfl <| za rfl <| ag <| af <| ab ?_;show AR _ _ _ _ _ [0] _;refine za rfl <| ag <| bx (X := (List UInt8)) (fun y23 => ⟨[(1, .cp [i64 a1, slE Enc.str a2 none, i64 a3, i64 a4, i64 a5]), (4, slE Enc.byte y12 (some t13)), (6, S x19), (7, S y23), (12, slE Enc.str a2 none), (13, i64 (a2.length : Int)), (14, i64 y14)], [], [.tok t13 5]⟩) (fun y23 => dm a1 y12 y14 x19 (cT a1 a2 n16) y23 = some (r6, r7)) ?_ ?_
    ·refine af ?_;obtain ⟨g21, H⟩ := aI H;refine ab ?_;show AR _ _ _ _ _ [0, 1, 2, 3, 4, 5] _;refine zm rfl <| zS rfl (dk rfl rfl g21) <| zS rfl (ax (n := 1) (by kernel_rfl) rfl (aa rfl)) <| zS rfl (aD ai rfl rfl) <| zS rfl (aR ai rfl) <| zS rfl (bw rfl rfl) <| ag <| ay rfl (fun c22 => ?_) (fun c22 => ?_)
     ·replace H := aZ c22 H;refine ab ?_;show AR _ _ _ _ _ [0] _;refine za rfl <| ag ?_;exact Exists.intro ([32] : List UInt8) ⟨H, aX [0] (.cons (.refl _) (.cons (.refl _) (.cons (.refl _) (.cons (.refl _) (.cons (.refl _) (.cons (.refl _) (.cons (.refl _) (.nil _)))))))) rfl⟩
     ·replace H := ba c22 H;refine aE ?_;exact Exists.intro ([45] : List UInt8) ⟨H, aX [0] (.cons (.refl _) (.cons (.refl _) (.cons (.refl _) (.cons (.refl _) (.cons (.refl _) (.cons (.refl _) (.cons (.refl _) (.nil _)))))))) rfl⟩
    rintro y23 H;replace H : dm a1 y12 y14 x19 (cT a1 a2 n16) y23 = some (r6, r7) := H
    unfold dm at H
    obtain ⟨g25, H⟩ := aI H;obtain ⟨x26, e27, H⟩ := bp H;obtain ⟨g28, H⟩ := aI H;obtain ⟨x29, e30, H⟩ := bp H;obtain ⟨g31, H⟩ := aI H;obtain ⟨x32, e33, H⟩ := bp H;obtain ⟨g34, H⟩ := aI H;obtain ⟨x35, e36, H⟩ := bp H;obtain ⟨g38, H⟩ := aI H;obtain ⟨x39, e40, H⟩ := bp H;refine ab ?_;show AR _ _ _ _ _ [0, 1, 2, 3, 4, 5, 6, 7, 8, 9, 10] _;refine zS rfl (au (av := slE _ _ _) rfl) <| zS rfl (ax (n := 0) (by kernel_rfl) rfl (aa rfl)) <| zS rfl (aD az rfl rfl) <| bc rfl rfl (aQ rfl mK rfl (show ACalls _ _ _ [] (Ret (S x26) []) from by subst e27; exact kJ a1 (nj g25)) ?_);refine zm rfl <| zS rfl (lc rfl rfl g28 e30) <| zm rfl <| zS rfl (lc rfl rfl g31 e33) <| zS rfl (lc rfl rfl g34 e36) <| zX rfl (nc (bytes := 1) 0 aj ah rfl (by kernel_rfl) rfl rfl rfl rfl g38 e40) ?_;rintro _ _ ⟨t37, rfl, rfl⟩;refine zS rfl (aO (av := slE _ _ _) rfl) <| ag ?_;obtain ⟨g41, H⟩ := aI H;refine ab ?_;show AR _ _ _ _ _ [0, 1] _;refine zS rfl (dk rfl rfl g41) <| zm rfl <| ag ?_;exact Exists.intro (n16, x39, t37, y14 + 1) ⟨H, Nat.lt_succ_self _, aX [0] (.cons (.refl _) (.cons (.refl _) (.cons (.refl _) (.cons (.refl _) (.cons (.refl _) (.nil _)))))) rfl⟩
   ·replace H := ba c17 H;refine cg ?_;exact Exists.intro (y12, t13) ⟨H, aX [0] (.cons (.refl _) (.nil _)) rfl⟩
  rintro ⟨y42, t43⟩ H;replace H : fP y42 = some (r6, r7) := H
  unfold fP at H
  refine af <| ab ?_;show AR _ _ _ _ _ [0, 1, 2] _;refine zS rfl (au (av := slE _ _ _) rfl) <| zS rfl (aO (av := slE _ _ _) rfl) <| za rfl <| ag <| aL ?_;obtain ⟨rfl, rfl⟩ := fg H;exact And.intro rfl (Exists.intro _ (Exists.intro _ ⟨bi rfl (.tok _ _ _) (.refl _), aF [] rfl, rfl, rfl⟩))
set_option maxRecDepth 100000 in
set_option maxHeartbeats 1000000 in
theorem jM (F : Nat) (a1 : Bool) (rv : Res Unit) (H : dt F a1 = some rv) : ACalls Tryd.prog 35 [B a1] [] (PanOr (fun (r : Unit) => (Ret (.tup []) [])) (fun e => kU (.iface 51 (.agg #[]))) rv) := by
 unfold dt at H
 refine aA Tryd.func35 rfl rfl ?_;show AW _ _ 6 _ _ _;refine af <| ab ?_;show AR _ _ _ _ _ [0, 1] _;refine zm rfl <| zS rfl (dS rfl) <| ag <| ay rfl (fun c2 => ?_) (fun c2 => ?_)
 ·replace H := aZ c2 H;obtain rfl := ak H;refine ab ?_;show AR _ _ _ _ _ [0, 1, 2] _;refine zS rfl (kn (zs := []) (ps := []) (cs := []) (by kernel_rfl) rfl rfl) <| zS rfl (bl (a := .agg _) Tryd.underlying51 rfl rfl) <| bc rfl rfl (AO.panicT (c := kU (.iface 51 (.agg #[]))) rfl rfl ?_);exact And.intro rfl (Exists.intro [] ⟨Sub.nil _, rfl, rfl⟩)
 ·replace H := ba c2 H;refine aE ?_;obtain rfl := ak H;exact And.intro rfl (Exists.intro _ (Exists.intro _ ⟨bu rfl, aF [] rfl, rfl, rfl⟩))
theorem eG (F : Nat) (a1 : Bool) (H : dt F a1 = some (Res.ok ())) : ACalls Tryd.prog 35 [B a1] [] (Ret (.tup []) []) := jM F a1 _ H
theorem eh (F : Nat) (a1 : Bool) (e : Int) (H : dt F a1 = some (Res.pan e)) : ACalls Tryd.prog 35 [B a1] [] (fun ae A' => ae = .pan ((fun e => kU (.iface 51 (.agg #[]))) e) ∧ A' = []) := jM F a1 _ H
set_option maxRecDepth 100000 in
set_option maxHeartbeats 1000000 in
theorem mO (F : Nat) {σ τ : Type} (T : σ → τ → List Chunk) (Tp : σ → τ → List Chunk) (k : σ → (List UInt8) → Option (σ × Option Bool)) (o : Nat) (hY : ∀ (s : σ) (t : τ) (x : List UInt8) (rv : σ × Option Bool), k s x = some rv → gL Tryd.prog o [S x] (T s t) fun ae A' => ∃ t', ae = outc (kU (.iface 51 (.agg #[]))) rv.2 ∧ A' = outT T Tp rv t') (st0 : σ) (tt0 : τ) (o1 : Nat) (a2 : List UInt8) (rs : σ) (rb : Bool) (r3 : List UInt8) (H : ib F k st0 a2 = some (rs, rb, r3)) : ACalls Tryd.prog 45 [.yl o, .pt o1 0] ([.obj o1 [slE Enc.byte a2 none]] ++ T st0 tt0) (fun e A' => ∃ tz, (rb = false ∧ e = .ret (.tup []) ∧ A' = [.obj o1 [slE Enc.byte r3 none]] ++ T rs tz) ∨ (rb = true ∧ e = .pan (kU (.iface 51 (.agg #[]))) ∧ (A' = T rs tz ∨ A' = Tp rs tz))) := by
 unfold ib at H
 refine aA Tryd.func45 rfl rfl ?_;show AW _ _ 38 _ _ _;refine aW <| cf (X := Nat × (List UInt8) × σ × τ) (fun (n8, y4, y5, t6) => ⟨[(0, .yl o), (1, .pt o1 0)], [], ([.obj o1 [slE Enc.byte y4 none]] ++ T y5 t6)⟩) (fun (n8, y4, y5, t6) => dI F k n8 (y4, y5) = some (rs, rb, r3)) (fun (n8, y4, y5, t6) => n8) (F, a2, st0, tt0) H (WK.atT 1 [0] (.cons (.refl _) (.cons (.refl _) (.nil _))) rfl) ?_;rintro ⟨n8, y4, y5, t6⟩ H;obtain ⟨n8, rfl, H⟩ := cP H;replace H : dJ F k (dI F k n8) y4 y5 = some (rs, rb, r3) := H
 unfold dJ at H
 refine aW <| af ?_;obtain ⟨x9, e10, H⟩ := cK H;refine ab ?_;show AR _ _ _ _ _ [0, 1, 2] _;refine zR rfl (ao (i := 0) aj rfl rfl rfl rfl) <| bc rfl rfl (aQ rfl ky rfl (eT F y4 none 10 x9 e10) ?_);refine za rfl <| ag <| af <| af <| ab ?_;show AR _ _ _ _ _ [0, 1] _;refine zm rfl <| zS rfl (bA rfl rfl) <| ag <| ay rfl (fun c11 => ?_) (fun c11 => ?_)
 ·replace H := aZ c11 H;refine af ?_
  rcases Or.symm (nE H) with ⟨p14, e13, H⟩ | ⟨x12, e13, H⟩
  ·obtain ⟨rfl, rfl, rfl⟩ := iO H;refine ab ?_;show AR _ _ _ _ _ [0, 1, 2, 3] _;refine zR rfl (ao (i := 0) aj rfl rfl rfl rfl) <| zS rfl (aR aj rfl) <| zS rfl (bA rfl rfl) <| bc rfl rfl (AO.callPan (c := kU (.iface 51 (.agg #[]))) [] rfl eS rfl (eh F (decide ((y4.length : Int) < 512)) p14 e13) rfl ?_);exact And.intro rfl (Exists.intro _ ⟨Sub.atT 1 [] rfl, t6, .inr ⟨rfl, rfl, .inl rfl⟩⟩)
  refine ab ?_;show AR _ _ _ _ _ [0, 1, 2, 3] _;refine zR rfl (ao (i := 0) aj rfl rfl rfl rfl) <| zS rfl (aR aj rfl) <| zS rfl (bA rfl rfl) <| bc rfl rfl (aQ rfl eS rfl (eG F (decide ((y4.length : Int) < 512)) e13) ?_);refine ag <| aL ?_;obtain ⟨rfl, rfl, rfl⟩ := iO H;exact And.intro rfl (Exists.intro _ (Exists.intro _ ⟨bu rfl, Sub.atT 1 [0] rfl, t6, .inl ⟨rfl, rfl, rfl⟩⟩))
 ·replace H := ba c11 H;refine aE <| af ?_;obtain ⟨x17, e18, H⟩ := fG H;obtain ⟨g19, H⟩ := ce H
  rcases Or.symm (nE H) with ⟨p22, e21, H⟩ | ⟨x20, e21, H⟩
  ·obtain ⟨rfl, rfl, rfl⟩ := iO H;refine ab ?_;show AR _ _ _ _ _ [0, 1, 2, 3, 4, 5, 6, 7, 8, 9, 10, 11, 12, 13] _;refine zm rfl <| zS rfl (bA rfl rfl) <| zm rfl <| aG (l := [6, 7, 8, 9, 10, 11, 12, 13]) 17 (B ((decide (x9 < 512)) && (decide (0 < x9)))) (fun K => ?_) ?_
   ·rcases ac (decide (x9 < 512)) with h15 | h15
    ·refine zM h15 rfl <| zU h15 rfl (cO rfl rfl) <| zS rfl (aq (av := .v _) rfl h15 rfl) ?_;exact K _ 2 _ (an (bJ h15)) rfl rfl
    ·refine zF h15 rfl <| zF h15 rfl <| zS rfl (ap (av := .v _) rfl h15 rfl) ?_;exact K _ 2 _ (an (bK h15)) rfl rfl
   refine zm rfl <| aG (l := [13]) 24 (B (((decide (x9 < 512)) && (decide (0 < x9))) && (decide (x17 = x9 - 1)))) (fun K => ?_) ?_
   ·rcases ac ((decide (x9 < 512)) && (decide (0 < x9))) with h16 | h16
    ·refine zT h16 rfl (AO.op rfl rfl (ao (i := 0) aj rfl rfl rfl rfl) ?_);refine zT h16 rfl (aQ rfl ky rfl (eT F y4 none 13 x17 (e18 h16)) ?_);refine zM h16 rfl <| zU h16 rfl (jd rfl rfl (g19 h16)) <| zU h16 rfl (bw rfl rfl) <| zS rfl (aq (av := .v _) rfl h16 rfl) ?_;exact K _ 5 _ (an (bJ h16)) rfl rfl
    ·refine zF h16 rfl <| zF h16 rfl <| zF h16 rfl <| zF h16 rfl <| zF h16 rfl <| zS rfl (ap (av := .v _) rfl h16 rfl) ?_;exact K _ 5 _ (an (bK h16)) rfl rfl
   refine bc rfl rfl (AO.callPan (c := kU (.iface 51 (.agg #[]))) [] rfl eS rfl (eh F (((decide (x9 < 512)) && (decide (0 < x9))) && (decide (x17 = x9 - 1))) p22 e21) rfl ?_);exact And.intro rfl (Exists.intro _ ⟨Sub.atT 1 [] rfl, t6, .inr ⟨rfl, rfl, .inl rfl⟩⟩)
  refine ab ?_;show AR _ _ _ _ _ [0, 1, 2, 3, 4, 5, 6, 7, 8, 9, 10, 11, 12, 13] _;refine zm rfl <| zS rfl (bA rfl rfl) <| zm rfl <| aG (l := [6, 7, 8, 9, 10, 11, 12, 13]) 17 (B ((decide (x9 < 512)) && (decide (0 < x9)))) (fun K => ?_) ?_
  ·rcases ac (decide (x9 < 512)) with h15 | h15
   ·refine zM h15 rfl <| zU h15 rfl (cO rfl rfl) <| zS rfl (aq (av := .v _) rfl h15 rfl) ?_;exact K _ 2 _ (an (bJ h15)) rfl rfl
   ·refine zF h15 rfl <| zF h15 rfl <| zS rfl (ap (av := .v _) rfl h15 rfl) ?_;exact K _ 2 _ (an (bK h15)) rfl rfl
  refine zm rfl <| aG (l := [13]) 24 (B (((decide (x9 < 512)) && (decide (0 < x9))) && (decide (x17 = x9 - 1)))) (fun K => ?_) ?_
  ·rcases ac ((decide (x9 < 512)) && (decide (0 < x9))) with h16 | h16
   ·refine zT h16 rfl (AO.op rfl rfl (ao (i := 0) aj rfl rfl rfl rfl) ?_);refine zT h16 rfl (aQ rfl ky rfl (eT F y4 none 13 x17 (e18 h16)) ?_);refine zM h16 rfl <| zU h16 rfl (jd rfl rfl (g19 h16)) <| zU h16 rfl (bw rfl rfl) <| zS rfl (aq (av := .v _) rfl h16 rfl) ?_;exact K _ 5 _ (an (bJ h16)) rfl rfl
   ·refine zF h16 rfl <| zF h16 rfl <| zF h16 rfl <| zF h16 rfl <| zF h16 rfl <| zS rfl (ap (av := .v _) rfl h16 rfl) ?_;exact K _ 5 _ (an (bK h16)) rfl rfl
  refine bc rfl rfl (aQ rfl eS rfl (eG F (((decide (x9 < 512)) && (decide (0 < x9))) && (decide (x17 = x9 - 1))) e21) ?_);refine ag <| af <| af ?_;obtain ⟨g23, H⟩ := aI H;obtain ⟨g24, H⟩ := aI H;obtain ⟨x25, e26, H⟩ := bp H;obtain ⟨x27, e28, H⟩ := cK H
  rcases bndo_s H with ⟨h30, H⟩ | ⟨x29, h30, H⟩
  ·obtain ⟨rfl, rfl, rfl⟩ := iO H;refine ab ?_;show AR _ _ _ _ _ [0, 1, 2, 3, 4, 5, 6, 7] _;refine zS rfl (au (av := .yl _) rfl) <| zR rfl (ao (i := 0) aj rfl rfl rfl rfl) <| zm rfl <| zS rfl (jd rfl rfl g23) <| zS rfl (nv (E := Enc.byte) aj (by kernel_rfl) rfl rfl g24 e26) <| zS rfl (cF aj bj ah rfl) <| bc rfl rfl (AO.yieldPan 1 rfl rfl rfl (hY _ _ _ _ e28) h30 fun t32 => ?_);exact And.intro rfl (Exists.intro _ ⟨Sub.atT 1 [] rfl, t32, .inr ⟨rfl, rfl, .inr rfl⟩⟩)
  refine ab ?_;show AR _ _ _ _ _ [0, 1, 2, 3, 4, 5, 6, 7] _;refine zS rfl (au (av := .yl _) rfl) <| zR rfl (ao (i := 0) aj rfl rfl rfl rfl) <| zm rfl <| zS rfl (jd rfl rfl g23) <| zS rfl (nv (E := Enc.byte) aj (by kernel_rfl) rfl rfl g24 e26) <| zS rfl (cF aj bj ah rfl) <| bc rfl rfl (AO.yieldOk (b := x29) 1 rfl rfl rfl (hY _ _ _ _ e28) h30 fun t31 => ?_);show AR _ _ _ _ _ _ ⟨_, _, ([.obj o1 [slE Enc.byte y4 none]] ++ T x27.1 t31)⟩;refine zS rfl (dS rfl) <| ag <| ay rfl (fun c33 => ?_) (fun c33 => ?_)
  ·replace H := aZ c33 H;refine aL ?_;obtain ⟨rfl, rfl, rfl⟩ := iO H;exact And.intro rfl (Exists.intro _ (Exists.intro _ ⟨bu rfl, Sub.atT 1 [0] rfl, t31, .inl ⟨rfl, rfl, rfl⟩⟩))
  ·replace H := ba c33 H;refine aE ?_;obtain ⟨g34, H⟩ := aI H;obtain ⟨g35, H⟩ := aI H;obtain ⟨x36, e37, H⟩ := bp H;refine ab ?_;show AR _ _ _ _ _ [0, 1, 2, 3, 4] _;refine zR rfl (ao (i := 0) aj rfl rfl rfl rfl) <| zm rfl <| zS rfl (dk rfl rfl g34) <| zS rfl (co (E := Enc.byte) aj (by kernel_rfl) rfl rfl g35 e37) <| s0 rfl rfl (aH (i := 0) (c := slE _ _ _) (by kernel_rfl) rfl rfl rfl rfl (aa rfl)) <| ag ?_;exact Exists.intro (n8, x36, x27.1, t31) ⟨H, Nat.lt_succ_self _, WK.atT 1 [0] (.cons (.refl _) (.cons (.refl _) (.nil _))) rfl⟩
set_option maxRecDepth 100000 in
set_option maxHeartbeats 1000000 in
theorem nH (F : Nat) (a1 : List UInt8) (H : iP F a1 = some ()) : ACalls Tryd.prog 34 [slE Enc.byte a1 none] [] (fun e A' => ∃ ob1 : Nat, e = .ret (.fn (.func 45) [] [.pt ob1 0]) ∧ A' = [.obj ob1 [slE Enc.byte a1 none]]) := by
 unfold iP at H
 refine aA Tryd.func34 rfl rfl ?_;show AW _ _ 4 _ _ _;refine af <| ab ?_;show AR _ _ _ _ _ [0, 1] _;refine zX rfl (lh rfl (.inl rfl)) ?_;rintro _ _ ⟨o2, rfl, rfl⟩;refine za rfl <| ag <| af <| ab ?_;show AR _ _ _ _ _ [0, 1] _;refine zS rfl (fQ rfl rfl) <| zS rfl (aO (av := .fn _ _ _) rfl) <| ag <| aL ?_;exact And.intro rfl (Exists.intro _ (Exists.intro _ ⟨aK rfl (.refl _), aF [0] rfl, o2, rfl, rfl⟩))
abbrev _root_.Go.Av.aV := @Tryd.underlying27
set_option maxRecDepth 100000 in
set_option maxHeartbeats 1000000 in
theorem oU (F : Nat) (a1 : Int) (a2 : List (List UInt8)) (a3 : Int) (a4 : Int) (a5 : Int) (a6 : Int) (o7 : Nat) (a8 : List (Int × (List (List UInt8)) × Int × Int × Int)) (t9 : Nat) (o10 : Nat) (a11 : Int) (r12 : List (Int × (List (List UInt8)) × Int × Int × Int)) (r14 : Int) (H : jW F a1 a2 a3 a4 a5 a6 a8 a11 = some (r12, r14)) : ACalls Tryd.prog 25 [.agg [i64 a1, slE Enc.str a2 none, i64 a3, i64 a4, i64 a5], i64 a6, .pt o7 0, .pt o10 0] [.obj o7 [slE (am Enc.int (am (Enc.sl Enc.str) (am Enc.int (am Enc.int Enc.int)))) a8 (some t9)], .tok t9 38, .obj o10 [i64 a11]] (fun e A' => e = .ret (.tup []) ∧ ∃ t13, A' = [.obj o7 [slE (am Enc.int (am (Enc.sl Enc.str) (am Enc.int (am Enc.int Enc.int)))) r12 (some t13)], .tok t13 38, .obj o10 [i64 r14]]) := by
 unfold jW at H
 refine aA Tryd.func25 rfl rfl ?_;show AW _ _ 11 _ _ _;refine af <| ab ?_;show AR _ _ _ _ _ [0] _;refine zR rfl (dN rfl (.inr ⟨_, rfl⟩)) <| ag ?_;obtain ⟨g16, H⟩ := aI H;obtain ⟨x17, e18, H⟩ := bp H;refine ab ?_;show AR _ _ _ _ _ [0, 1, 2, 3, 4, 5, 6] _;refine zR rfl (ao (i := 0) aV rfl rfl rfl rfl) <| zS rfl (bf aU rfl (n := 5) (by kernel_rfl) rfl (aa rfl)) <| zR rfl (jR (E := (am Enc.int (am (Enc.sl Enc.str) (am Enc.int (am Enc.int Enc.int))))) (bytes := 56) (zs := [.int .i64 0, .slice none 0 0, .int .i64 0, .int .i64 0, .int .i64 0]) (l := ([(a1, a2, (a3, a4, a5))] : List (Int × (List (List UInt8)) × Int × Int × Int))) aV (by kernel_rfl) (by kernel_rfl) rfl rfl rfl rfl rfl) <| zX rfl (dM (E := (am Enc.int (am (Enc.sl Enc.str) (am Enc.int (am Enc.int Enc.int))))) (bytes := 56) 1 aV aV rfl (by kernel_rfl) rfl rfl rfl rfl g16 e18) ?_;rintro _ _ ⟨t15, rfl, rfl⟩;refine zm rfl <| s0 rfl rfl (aH (i := 0) (c := slE _ _ _) (by kernel_rfl) rfl rfl rfl rfl (aa rfl)) <| s0 rfl rfl (aH (i := 2) (c := .v _) (by kernel_rfl) rfl rfl rfl rfl (aa rfl)) <| ag ?_;obtain ⟨rfl, rfl⟩ := fg H;exact And.intro rfl (Exists.intro _ (Exists.intro _ ⟨bu rfl, aF [0, 0, 0] rfl, rfl, t15, rfl⟩))
set_option maxRecDepth 100000 in
set_option maxHeartbeats 1000000 in
theorem mq (F : Nat) (a1 : List UInt8) (q2 : Option Nat) (o3 : Nat) (a4 : List (Int × (List (List UInt8)) × Int × Int × Int)) (t5 : Nat) (o6 : Nat) (a7 : Int) (r8 : List (Int × (List (List UInt8)) × Int × Int × Int)) (r10 : Int) (rb : Bool) (H : iv F a1 a4 a7 = some (r8, r10, rb)) : ACalls Tryd.prog 24 [slE Enc.byte a1 q2, .fn (.func 25) [] [.pt o3 0, .pt o6 0]] [.obj o3 [slE (am Enc.int (am (Enc.sl Enc.str) (am Enc.int (am Enc.int Enc.int)))) a4 (some t5)], .tok t5 38, .obj o6 [i64 a7]] (fun e A' => ∃ t9, A' = [.obj o3 [slE (am Enc.int (am (Enc.sl Enc.str) (am Enc.int (am Enc.int Enc.int)))) r8 (some t9)], .tok t9 38, .obj o6 [i64 r10]] ∧ ((rb = false ∧ e = .ret (.tup [])) ∨ (rb = true ∧ e = .pan (kU (.iface 51 (.agg #[])))))) := by
 unfold iv at H
 refine kr Tryd.func24 rfl rfl ?_;show AWV _ 87 _ _ _;refine AWV.seq <| AWV.of <| ab ?_;show AR _ _ _ _ _ [0] _;refine zR rfl (dN rfl (.inl rfl)) <| ag ?_;show AWV _ _ _ _ _;refine AWV.seq <| AWV.of <| ab ?_;show AR _ _ _ _ _ [0] _;refine zX rfl (cn (zs := [.int .i64 0, .slice none 0 0, .int .i64 0, .int .i64 0, .int .i64 0]) (by kernel_rfl)) ?_;rintro _ _ ⟨o11, rfl, rfl⟩;refine ag ?_;show AWV _ _ _ _ _
 refine AWV.nil_objAt 0 1 1 9 rfl rfl fun t12 => ?_
 show AWV _ _ _ _ ⟨_, _, [.tok t12 9, .obj o11 [i64 0, slE Enc.str [] (some t12), i64 0, i64 0, i64 0], .obj o3 [slE (am Enc.int (am (Enc.sl Enc.str) (am Enc.int (am Enc.int Enc.int)))) a4 (some t5)], .tok t5 38, .obj o6 [i64 a7]]⟩;refine AWV.seq <| AWV.of <| ab ?_;show AR _ _ _ _ _ [0, 1] _;refine zX rfl (cn (zs := [.int .i64 0]) (by kernel_rfl)) ?_;rintro _ _ ⟨o13, rfl, rfl⟩;refine s0 rfl rfl (aH (i := 0) (c := .v _) (by kernel_rfl) rfl rfl rfl rfl (aa rfl)) <| ag ?_;show AWV _ _ _ _ _;refine AWV.seq <| AWV.of ?_;obtain ⟨_, e14, H⟩ := cK H;refine ab ?_;show AR _ _ _ _ _ [0, 1] _;refine zS rfl (au (av := slE _ _ _) rfl) <| bc rfl rfl (AO.callAt [] rfl qt rfl (nh (.cons (.tok _ _ _) (.nil)) (nH F a1 e14)) rfl (fun c A' h => by obtain ⟨_, h, _⟩ := h; cases h) ?_)
 rintro av A' ⟨o15, h, rfl⟩; cases h
 refine ag ?_;show AWV _ _ _ _ _;refine AWV.block ?_;obtain ⟨x79, x80, x81, e82, H⟩ := iZ H;refine ou (α := List UInt8) (σ := Int × Int × (List (List UInt8)) × (List (Int × (List (List UInt8)) × Int × Int × Int)) × Int) (τ := Nat × Nat) (kU (.iface 51 (.agg #[]))) (fun x => [S x]) (fun s t => [.obj o13 [i64 s.1], .obj o11 [i64 s.2.1, slE Enc.str s.2.2.1 (some t.1), i64 0, i64 0, i64 0], .obj o3 [slE (am Enc.int (am (Enc.sl Enc.str) (am Enc.int (am Enc.int Enc.int)))) s.2.2.2.1 (some t.2)], .obj o6 [i64 s.2.2.2.2], .tok t.1 9, .tok t.2 38]) (fun _ => none) (fun s x => eL F s.1 s.2.1 s.2.2.1 s.2.2.2.1 s.2.2.2.2 x) (0, 0, [], a4, a7) (t12, t5) x79 x80 [0] [0, 1, 1, 2, 0, 0] rfl qo (fun _ => rfl) (by decide) rfl rfl rfl (fun o T' Tp hY => mO F T' Tp _ o hY _ _ o15 a1 x79 x80 x81 e82) ?_ ?_ ?_
 ·rintro l ⟨y16, y17, y18, y20, y22⟩ ⟨t19, t21⟩ x24 rv H;replace H : eL F y16 y17 y18 y20 y22 x24 = some rv := H
  unfold eL at H
  refine ⟨rfl, ?_⟩;show AW _ _ _ _ _ ⟨(11, S x24) :: _, [], _⟩;refine ab ?_;show AR _ _ _ _ _ [0] _;refine za rfl <| ag <| aW <| af ?_;obtain ⟨g26, H⟩ := ce H;obtain ⟨x27, e28, H⟩ := bp H;obtain ⟨g30, H⟩ := ce H;obtain ⟨x31, e32, H⟩ := bp H
  rcases Or.symm (nE H) with ⟨p36, e35, H⟩ | ⟨x34, e35, H⟩
  ·obtain rfl := ak H;refine ab ?_;show AR _ _ _ _ _ [0, 1, 2, 3, 4, 5, 6, 7, 8, 9, 10, 11, 12, 13, 14, 15, 16, 17, 18, 19] _;refine zm rfl <| zS rfl (be ah rfl) <| zS rfl (fF rfl rfl) <| zm rfl <| aG (l := [13, 14, 15, 16, 17, 18, 19]) 24 (B ((decide (4 ≤ (x24.length : Int))) && ((decide (x27 = 45)) || (decide (x31 = 32))))) (fun K => ?_) ?_
   ·rcases ac (decide (4 ≤ (x24.length : Int))) with h25 | h25
    ·refine zM h25 rfl <| zU h25 rfl (aP ah rfl rfl (g26 h25) e28) <| zU h25 rfl (dF (a := x27) (b := 45) rfl rfl) <| zM h25 rfl <| aG (l := [12, 13, 14, 15, 16, 17, 18, 19]) 23 (B ((decide (x27 = 45)) || (decide (x31 = 32)))) (fun K => ?_) ?_
     ·rcases ac (decide (x27 = 45)) with h29 | h29
      ·refine zF h29 rfl <| zF h29 rfl <| zF h29 rfl <| zU h25 rfl (aq (av := .v _) rfl h29 rfl) ?_;exact K _ 3 _ (an (ek h29)) rfl rfl
      ·refine zM h29 rfl <| zU h29 rfl (aP ah rfl rfl (g30 (fS h25 (nf h29))) e32) <| zU h29 rfl (dF (a := x31) (b := 32) rfl rfl) <| zU h25 rfl (ap (av := .v _) rfl h29 rfl) ?_;exact K _ 3 _ (an (eo h29)) rfl rfl
     refine zS rfl (aq (av := .v _) rfl h25 rfl) ?_;exact K _ 5 _ (an (bJ h25)) rfl rfl
    ·refine zF h25 rfl <| zF h25 rfl <| zF h25 rfl <| zF h25 rfl <| gU rfl rfl rfl rfl rfl <| gU rfl rfl rfl rfl rfl <| gU rfl rfl rfl rfl rfl <| zF h25 rfl <| zS rfl (ap (av := .v _) rfl h25 rfl) ?_;exact K _ 8 _ (an (bK h25)) rfl rfl
   refine zm rfl <| aG (l := [19]) 30 (B (((decide (4 ≤ (x24.length : Int))) && ((decide (x27 = 45)) || (decide (x31 = 32)))) && (decide ((y18.length : Int) < 100)))) (fun K => ?_) ?_
   ·rcases ac ((decide (4 ≤ (x24.length : Int))) && ((decide (x27 = 45)) || (decide (x31 = 32)))) with h33 | h33
    ·refine zU h33 rfl (al (n := 1) (by kernel_rfl) rfl) <| zT h33 rfl (AO.op rfl rfl (ao (i := 1) ai rfl rfl rfl rfl) ?_);refine zU h33 rfl (aR ai rfl) <| zU h33 rfl (bA rfl rfl) <| zS rfl (aq (av := .v _) rfl h33 rfl) ?_;exact K _ 4 _ (an (bJ h33)) rfl rfl
    ·refine zF h33 rfl <| zF h33 rfl <| zF h33 rfl <| zF h33 rfl <| zS rfl (ap (av := .v _) rfl h33 rfl) ?_;exact K _ 4 _ (an (bK h33)) rfl rfl
   refine bc rfl rfl (AO.callPan (c := kU (.iface 51 (.agg #[]))) [] rfl eS rfl (eh F (((decide (4 ≤ (x24.length : Int))) && ((decide (x27 = 45)) || (decide (x31 = 32)))) && (decide ((y18.length : Int) < 100))) p36 e35) rfl ?_);exact ⟨rfl, rfl, rfl, (t19, t21), aF [0, 0, 0, 0, 0, 0] rfl⟩
  refine ab ?_;show AR _ _ _ _ _ [0, 1, 2, 3, 4, 5, 6, 7, 8, 9, 10, 11, 12, 13, 14, 15, 16, 17, 18, 19] _;refine zm rfl <| zS rfl (be ah rfl) <| zS rfl (fF rfl rfl) <| zm rfl <| aG (l := [13, 14, 15, 16, 17, 18, 19]) 24 (B ((decide (4 ≤ (x24.length : Int))) && ((decide (x27 = 45)) || (decide (x31 = 32))))) (fun K => ?_) ?_
  ·rcases ac (decide (4 ≤ (x24.length : Int))) with h25 | h25
   ·refine zM h25 rfl <| zU h25 rfl (aP ah rfl rfl (g26 h25) e28) <| zU h25 rfl (dF (a := x27) (b := 45) rfl rfl) <| zM h25 rfl <| aG (l := [12, 13, 14, 15, 16, 17, 18, 19]) 23 (B ((decide (x27 = 45)) || (decide (x31 = 32)))) (fun K => ?_) ?_
    ·rcases ac (decide (x27 = 45)) with h29 | h29
     ·refine zF h29 rfl <| zF h29 rfl <| zF h29 rfl <| zU h25 rfl (aq (av := .v _) rfl h29 rfl) ?_;exact K _ 3 _ (an (ek h29)) rfl rfl
     ·refine zM h29 rfl <| zU h29 rfl (aP ah rfl rfl (g30 (fS h25 (nf h29))) e32) <| zU h29 rfl (dF (a := x31) (b := 32) rfl rfl) <| zU h25 rfl (ap (av := .v _) rfl h29 rfl) ?_;exact K _ 3 _ (an (eo h29)) rfl rfl
    refine zS rfl (aq (av := .v _) rfl h25 rfl) ?_;exact K _ 5 _ (an (bJ h25)) rfl rfl
   ·refine zF h25 rfl <| zF h25 rfl <| zF h25 rfl <| zF h25 rfl <| gU rfl rfl rfl rfl rfl <| gU rfl rfl rfl rfl rfl <| gU rfl rfl rfl rfl rfl <| zF h25 rfl <| zS rfl (ap (av := .v _) rfl h25 rfl) ?_;exact K _ 8 _ (an (bK h25)) rfl rfl
  refine zm rfl <| aG (l := [19]) 30 (B (((decide (4 ≤ (x24.length : Int))) && ((decide (x27 = 45)) || (decide (x31 = 32)))) && (decide ((y18.length : Int) < 100)))) (fun K => ?_) ?_
  ·rcases ac ((decide (4 ≤ (x24.length : Int))) && ((decide (x27 = 45)) || (decide (x31 = 32)))) with h33 | h33
   ·refine zU h33 rfl (al (n := 1) (by kernel_rfl) rfl) <| zT h33 rfl (AO.op rfl rfl (ao (i := 1) ai rfl rfl rfl rfl) ?_);refine zU h33 rfl (aR ai rfl) <| zU h33 rfl (bA rfl rfl) <| zS rfl (aq (av := .v _) rfl h33 rfl) ?_;exact K _ 4 _ (an (bJ h33)) rfl rfl
   ·refine zF h33 rfl <| zF h33 rfl <| zF h33 rfl <| zF h33 rfl <| zS rfl (ap (av := .v _) rfl h33 rfl) ?_;exact K _ 4 _ (an (bK h33)) rfl rfl
  refine bc rfl rfl (aQ rfl eS rfl (eG F (((decide (4 ≤ (x24.length : Int))) && ((decide (x27 = 45)) || (decide (x31 = 32)))) && (decide ((y18.length : Int) < 100))) e35) ?_);refine ag <| af ?_;obtain ⟨g37, H⟩ := aI H;obtain ⟨x38, e39, H⟩ := bp H;obtain ⟨x40, x41, e42, H⟩ := fH H;refine ab ?_;show AR _ _ _ _ _ [0, 1, 2, 3, 4, 5, 6, 7] _;refine zm rfl <| zS rfl (oJ ah rfl rfl g37 e39) <| bc rfl rfl (aQ rfl mH rfl (jN F x38 x40 x41 e42) ?_);refine zS rfl (au (av := .tup _) rfl) <| zS rfl (aN (av := .v _) rfl rfl) <| zS rfl (aN (av := .v _) rfl rfl) <| za rfl <| za rfl <| ag <| af ?_
  rcases Or.symm (nE H) with ⟨p49, e48, H⟩ | ⟨x47, e48, H⟩
  ·obtain rfl := ak H;refine ab ?_;show AR _ _ _ _ _ [0, 1, 2, 3, 4, 5, 6, 7, 8, 9, 10, 11, 12, 13, 14, 15, 16, 17, 18, 19, 20, 21] _;refine zm rfl <| zm rfl <| aG (l := [5, 6, 7, 8, 9, 10, 11, 12, 13, 14, 15, 16, 17, 18, 19, 20, 21]) 42 (B (x41 && (decide (200 ≤ x40)))) (fun K => ?_) ?_
   ·rcases ac x41 with h43 | h43
    ·refine zM h43 rfl <| zU h43 rfl (fF rfl rfl) <| zS rfl (aq (av := .v _) rfl h43 rfl) ?_;exact K _ 2 _ (an (bJ h43)) rfl rfl
    ·refine zF h43 rfl <| zF h43 rfl <| zS rfl (ap (av := .v _) rfl h43 rfl) ?_;exact K _ 2 _ (an (bK h43)) rfl rfl
   refine zm rfl <| aG (l := [9, 10, 11, 12, 13, 14, 15, 16, 17, 18, 19, 20, 21]) 46 (B ((x41 && (decide (200 ≤ x40))) && (decide (x40 ≤ 599)))) (fun K => ?_) ?_
   ·rcases ac (x41 && (decide (200 ≤ x40))) with h44 | h44
    ·refine zM h44 rfl <| zU h44 rfl (dT rfl rfl) <| zS rfl (aq (av := .v _) rfl h44 rfl) ?_;exact K _ 2 _ (an (bJ h44)) rfl rfl
    ·refine zF h44 rfl <| zF h44 rfl <| zS rfl (ap (av := .v _) rfl h44 rfl) ?_;exact K _ 2 _ (an (bK h44)) rfl rfl
   refine zm rfl <| aG (l := [21]) 58 (B (((x41 && (decide (200 ≤ x40))) && (decide (x40 ≤ 599))) && ((decide ((y18.length : Int) = 0)) || (decide (x40 = y17))))) (fun K => ?_) ?_
   ·rcases ac ((x41 && (decide (200 ≤ x40))) && (decide (x40 ≤ 599))) with h45 | h45
    ·refine zU h45 rfl (al (n := 1) (by kernel_rfl) rfl) <| zT h45 rfl (AO.op rfl rfl (ao (i := 1) ai rfl rfl rfl rfl) ?_);refine zU h45 rfl (aR ai rfl) <| zU h45 rfl (bw rfl rfl) <| zM h45 rfl <| aG (l := [20, 21]) 57 (B ((decide ((y18.length : Int) = 0)) || (decide (x40 = y17)))) (fun K => ?_) ?_
     ·rcases ac (decide ((y18.length : Int) = 0)) with h46 | h46
      ·refine zF h46 rfl <| zF h46 rfl <| zF h46 rfl <| zF h46 rfl <| zU h45 rfl (aq (av := .v _) rfl h46 rfl) ?_;exact K _ 4 _ (an (ek h46)) rfl rfl
      ·refine zM h46 rfl <| zU h46 rfl (al (n := 0) (by kernel_rfl) rfl) <| zT h46 rfl (AO.op rfl rfl (ao (i := 1) az rfl rfl rfl rfl) ?_);refine zU h46 rfl (bw rfl rfl) <| zU h45 rfl (ap (av := .v _) rfl h46 rfl) ?_;exact K _ 4 _ (an (eo h46)) rfl rfl
     refine zS rfl (aq (av := .v _) rfl h45 rfl) ?_;exact K _ 6 _ (an (bJ h45)) rfl rfl
    ·refine zF h45 rfl <| zF h45 rfl <| zF h45 rfl <| zF h45 rfl <| zF h45 rfl <| gU rfl rfl rfl rfl rfl <| gU rfl rfl rfl rfl rfl <| gU rfl rfl rfl rfl rfl <| gU rfl rfl rfl rfl rfl <| zF h45 rfl <| zS rfl (ap (av := .v _) rfl h45 rfl) ?_;exact K _ 10 _ (an (bK h45)) rfl rfl
   refine bc rfl rfl (AO.callPan (c := kU (.iface 51 (.agg #[]))) [] rfl eS rfl (eh F (((x41 && (decide (200 ≤ x40))) && (decide (x40 ≤ 599))) && ((decide ((y18.length : Int) = 0)) || (decide (x40 = y17)))) p49 e48) rfl ?_);exact ⟨rfl, rfl, rfl, (t19, t21), aF [0, 0, 0, 0, 0, 0] rfl⟩
  refine ab ?_;show AR _ _ _ _ _ [0, 1, 2, 3, 4, 5, 6, 7, 8, 9, 10, 11, 12, 13, 14, 15, 16, 17, 18, 19, 20, 21] _;refine zm rfl <| zm rfl <| aG (l := [5, 6, 7, 8, 9, 10, 11, 12, 13, 14, 15, 16, 17, 18, 19, 20, 21]) 42 (B (x41 && (decide (200 ≤ x40)))) (fun K => ?_) ?_
  ·rcases ac x41 with h43 | h43
   ·refine zM h43 rfl <| zU h43 rfl (fF rfl rfl) <| zS rfl (aq (av := .v _) rfl h43 rfl) ?_;exact K _ 2 _ (an (bJ h43)) rfl rfl
   ·refine zF h43 rfl <| zF h43 rfl <| zS rfl (ap (av := .v _) rfl h43 rfl) ?_;exact K _ 2 _ (an (bK h43)) rfl rfl
  refine zm rfl <| aG (l := [9, 10, 11, 12, 13, 14, 15, 16, 17, 18, 19, 20, 21]) 46 (B ((x41 && (decide (200 ≤ x40))) && (decide (x40 ≤ 599)))) (fun K => ?_) ?_
  ·rcases ac (x41 && (decide (200 ≤ x40))) with h44 | h44
   ·refine zM h44 rfl <| zU h44 rfl (dT rfl rfl) <| zS rfl (aq (av := .v _) rfl h44 rfl) ?_;exact K _ 2 _ (an (bJ h44)) rfl rfl
   ·refine zF h44 rfl <| zF h44 rfl <| zS rfl (ap (av := .v _) rfl h44 rfl) ?_;exact K _ 2 _ (an (bK h44)) rfl rfl
  refine zm rfl <| aG (l := [21]) 58 (B (((x41 && (decide (200 ≤ x40))) && (decide (x40 ≤ 599))) && ((decide ((y18.length : Int) = 0)) || (decide (x40 = y17))))) (fun K => ?_) ?_
  ·rcases ac ((x41 && (decide (200 ≤ x40))) && (decide (x40 ≤ 599))) with h45 | h45
   ·refine zU h45 rfl (al (n := 1) (by kernel_rfl) rfl) <| zT h45 rfl (AO.op rfl rfl (ao (i := 1) ai rfl rfl rfl rfl) ?_);refine zU h45 rfl (aR ai rfl) <| zU h45 rfl (bw rfl rfl) <| zM h45 rfl <| aG (l := [20, 21]) 57 (B ((decide ((y18.length : Int) = 0)) || (decide (x40 = y17)))) (fun K => ?_) ?_
    ·rcases ac (decide ((y18.length : Int) = 0)) with h46 | h46
     ·refine zF h46 rfl <| zF h46 rfl <| zF h46 rfl <| zF h46 rfl <| zU h45 rfl (aq (av := .v _) rfl h46 rfl) ?_;exact K _ 4 _ (an (ek h46)) rfl rfl
     ·refine zM h46 rfl <| zU h46 rfl (al (n := 0) (by kernel_rfl) rfl) <| zT h46 rfl (AO.op rfl rfl (ao (i := 1) az rfl rfl rfl rfl) ?_);refine zU h46 rfl (bw rfl rfl) <| zU h45 rfl (ap (av := .v _) rfl h46 rfl) ?_;exact K _ 4 _ (an (eo h46)) rfl rfl
    refine zS rfl (aq (av := .v _) rfl h45 rfl) ?_;exact K _ 6 _ (an (bJ h45)) rfl rfl
   ·refine zF h45 rfl <| zF h45 rfl <| zF h45 rfl <| zF h45 rfl <| zF h45 rfl <| gU rfl rfl rfl rfl rfl <| gU rfl rfl rfl rfl rfl <| gU rfl rfl rfl rfl rfl <| gU rfl rfl rfl rfl rfl <| zF h45 rfl <| zS rfl (ap (av := .v _) rfl h45 rfl) ?_;exact K _ 10 _ (an (bK h45)) rfl rfl
  refine bc rfl rfl (aQ rfl eS rfl (eG F (((x41 && (decide (200 ≤ x40))) && (decide (x40 ≤ 599))) && ((decide ((y18.length : Int) = 0)) || (decide (x40 = y17)))) e48) ?_);refine ag <| bx (X := (List (List UInt8)) × Nat) (fun (y58, t59) => ⟨[(3, .cp [.fn (.func 25) [] [.pt o3 0, .pt o6 0]]), (4, .pt o11 0), (5, .pt o13 0), (6, S x24), (7, i64 x40)], [], [.obj o13 [i64 y16], .obj o11 [i64 x40, slE Enc.str y58 (some t59), i64 0, i64 0, i64 0], .obj o3 [slE (am Enc.int (am (Enc.sl Enc.str) (am Enc.int (am Enc.int Enc.int)))) y20 (some t21)], .obj o6 [i64 y22], .tok t59 9, .tok t21 38]⟩) (fun (y58, t59) => gd F y16 y20 y22 x24 x40 y58 = some rv) ?_ ?_
  ·obtain ⟨g50, H⟩ := aI H;obtain ⟨x51, e52, H⟩ := bp H;obtain ⟨g54, H⟩ := aI H;obtain ⟨x55, e56, H⟩ := bp H;refine la (by kernel_rfl) (by kernel_rfl) ?_;show AI _ _ _ _ _ 11 (Array.replicate 11 false) _;refine zk 0 rfl (mv rfl) ?_;show AI _ _ _ _ _ _ #[true, false, false, false, false, false, false, false, false, false, false] _;refine zk 1 rfl (al (n := 1) (by kernel_rfl) rfl) ?_;show AI _ _ _ _ _ _ #[true, true, false, false, false, false, false, false, false, false, false] _;refine zk 3 rfl (mv rfl) ?_;show AI _ _ _ _ _ _ #[true, true, false, true, false, false, false, false, false, false, false] _;refine zk 4 rfl (du ah rfl rfl g50 e52) ?_;show AI _ _ _ _ _ _ #[true, true, false, true, true, false, false, false, false, false, false] _;refine dW (i := 2) (j := 5) (by kernel_rfl) rfl rfl rfl rfl ?_ ?_
   ·refine bo rfl (ao (i := 1) ai rfl rfl rfl rfl) ?_;show AI _ _ _ _ _ _ #[true, true, true, true, true, false, false, false, false, false, false] _;refine zk 7 rfl (al (n := 0) (by kernel_rfl) rfl) ?_;show AI _ _ _ _ _ _ #[true, true, true, true, true, false, false, true, false, false, false] _;refine aY (i := 5) (by kernel_rfl) rfl rfl <| bo rfl (gn (E := Enc.str) (bytes := 16) (xs := [.tmp 64]) (l := ([x51] : List (List UInt8))) ai (by kernel_rfl) rfl rfl (by decide) rfl rfl) ?_;show AI _ _ _ _ _ _ #[true, true, true, true, true, true, false, true, false, false, false] _;refine aY (i := 6) (by kernel_rfl) rfl rfl <| AIO.opx rfl (dM (E := Enc.str) (bytes := 16) 4 ai ai rfl (by kernel_rfl) rfl rfl rfl rfl g54 e56) ?_;rintro _ _ ⟨t53, rfl, rfl⟩;show AI _ _ _ _ _ _ #[true, true, true, true, true, true, true, true, false, false, false] _;refine aY (i := 8) (by kernel_rfl) rfl rfl <| bO (aH (i := 1) (c := .v _) (by kernel_rfl) rfl rfl rfl rfl (aa rfl)) ?_;show AI _ _ _ _ _ _ #[true, true, true, true, true, true, true, true, true, false, false] _;refine zk 9 rfl (al (n := 1) (by kernel_rfl) rfl) ?_;show AI _ _ _ _ _ _ #[true, true, true, true, true, true, true, true, true, true, false] _;refine aY (i := 10) (by kernel_rfl) rfl rfl <| bO (aH (i := 1) (c := slE _ _ _) (by kernel_rfl) rfl rfl rfl rfl (aa rfl)) ?_
    show AI _ _ _ _ _ _ #[true, true, true, true, true, true, true, true, true, true, true] _;refine bB rfl ?_;exact Exists.intro (x55, t53) ⟨H, aX [0, 0, 0, 0, 0, 0] (.cons (.refl _) (.cons (.refl _) (.cons (.refl _) (.cons (.refl _) (.cons (.refl _) (.nil _)))))) rfl⟩
   ·refine bo rfl (gn (E := Enc.str) (bytes := 16) (xs := [.tmp 64]) (l := ([x51] : List (List UInt8))) ai (by kernel_rfl) rfl rfl (by decide) rfl rfl) ?_;show AI _ _ _ _ _ _ #[true, true, false, true, true, true, false, false, false, false, false] _;refine aY (i := 2) (by kernel_rfl) rfl rfl <| bo rfl (ao (i := 1) ai rfl rfl rfl rfl) ?_;show AI _ _ _ _ _ _ #[true, true, true, true, true, true, false, false, false, false, false] _;refine zk 7 rfl (al (n := 0) (by kernel_rfl) rfl) ?_;show AI _ _ _ _ _ _ #[true, true, true, true, true, true, false, true, false, false, false] _;refine aY (i := 6) (by kernel_rfl) rfl rfl <| AIO.opx rfl (dM (E := Enc.str) (bytes := 16) 4 ai ai rfl (by kernel_rfl) rfl rfl rfl rfl g54 e56) ?_;rintro _ _ ⟨t57, rfl, rfl⟩;show AI _ _ _ _ _ _ #[true, true, true, true, true, true, true, true, false, false, false] _;refine aY (i := 8) (by kernel_rfl) rfl rfl <| bO (aH (i := 1) (c := .v _) (by kernel_rfl) rfl rfl rfl rfl (aa rfl)) ?_;show AI _ _ _ _ _ _ #[true, true, true, true, true, true, true, true, true, false, false] _;refine zk 9 rfl (al (n := 1) (by kernel_rfl) rfl) ?_;show AI _ _ _ _ _ _ #[true, true, true, true, true, true, true, true, true, true, false] _;refine aY (i := 10) (by kernel_rfl) rfl rfl <| bO (aH (i := 1) (c := slE _ _ _) (by kernel_rfl) rfl rfl rfl rfl (aa rfl)) ?_
    show AI _ _ _ _ _ _ #[true, true, true, true, true, true, true, true, true, true, true] _;refine bB rfl ?_;exact Exists.intro (x55, t57) ⟨H, aX [0, 0, 0, 0, 0, 0] (.cons (.refl _) (.cons (.refl _) (.cons (.refl _) (.cons (.refl _) (.cons (.refl _) (.nil _)))))) rfl⟩
  rintro ⟨y58, t59⟩ H;replace H : gd F y16 y20 y22 x24 x40 y58 = some rv := H
  unfold gd at H
  refine af ?_;obtain ⟨g61, H⟩ := aI H;obtain ⟨g62, H⟩ := aI H;refine ab ?_;show AR _ _ _ _ _ [0, 1, 2, 3, 4, 5] _;refine zR rfl (ao (i := 0) az rfl rfl rfl rfl) <| zm rfl <| zS rfl (be ah rfl) <| zS rfl (dk rfl rfl g61) <| zS rfl (dk rfl rfl g62) <| s0 rfl rfl (aH (i := 0) (c := .v _) (by kernel_rfl) rfl rfl rfl rfl (aa rfl)) <| ag <| af ?_;obtain ⟨g63, H⟩ := aI H;obtain ⟨x64, e65, H⟩ := bp H;refine ab ?_;show AR _ _ _ _ _ [0, 1, 2] _;refine zm rfl <| zS rfl (aP ah rfl rfl g63 e65) <| zS rfl (dF (a := x64) (b := 32) rfl rfl) <| ag <| ay rfl (fun c66 => ?_) (fun c66 => ?_)
  ·replace H := aZ c66 H;refine af ?_;obtain ⟨g67, H⟩ := aI H;obtain ⟨x68, e69, H⟩ := bp H;obtain ⟨x70, x71, x72, e73, H⟩ := iZ H;refine ab ?_;show AR _ _ _ _ _ [0, 1, 2, 3, 4, 5] _;refine zm rfl <| zm rfl <| zS rfl (du ah rfl rfl g67 e69) <| bc rfl rfl (aQ rfl mI rfl (lB F x40 x68 x70 x71 x72 e73) ?_);refine zS rfl (al (n := 2) (by kernel_rfl) rfl) <| s0 rfl rfl (bg (i := 1) (vs := [i64 x70, i64 x71, i64 x72]) (by kernel_rfl) rfl rfl (by simp [br, slE]) rfl (aa rfl)) <| ag <| af ?_;obtain ⟨x74, x75, e76, H⟩ := fH H;refine ab ?_;show AR _ _ _ _ _ [0, 1, 2, 3] _;refine zS rfl (aD Tryd.underlying55 rfl rfl) <| zR rfl (ng (cs := [i64 x40, slE Enc.str y58 (some t59), i64 x70, i64 x71, i64 x72]) (cz (i := 1) (n := 5) aU rfl (by kernel_rfl) rfl rfl (aa rfl)) (.cons (.refl _) (.cons (.tok _ _ _) (.cons (.refl _) (.cons (.refl _) (.cons (.refl _) (.nil))))))) <| zR rfl (ao (i := 0) az rfl rfl rfl rfl) <| bc rfl rfl (AO.callFAt [2, 4, 2] rfl (.inl rfl) qz rfl (oU F x40 y58 x70 x71 x72 (y16 + ((x24.length : Int) + 2)) o3 y20 t21 o6 y22 x74 x75 e76) rfl (fun c A' h => by cases h.1) ?_)
   rintro av A' ⟨h, t77, rfl⟩; cases h
   refine ag <| ab ?_;show AR _ _ _ _ _ [0, 1] _;refine zS rfl (kn (zs := [.int .i64 0, .slice none 0 0, .int .i64 0, .int .i64 0, .int .i64 0]) (ps := [(0, 1), (1, 1), (2, 3)]) (cs := [i64 0, kV, i64 0, i64 0, i64 0]) (by kernel_rfl) rfl rfl) <| s0 rfl rfl (bg (i := 4) (vs := [i64 0, kV, i64 0, i64 0, i64 0]) (by kernel_rfl) rfl rfl (by simp [br, slE]) rfl (aa rfl)) ?_
   refine AR.nil_objAt 4 1 1 9 rfl rfl fun t78 => ?_
   show AR _ _ _ _ _ _ ⟨_, _, [.tok t78 9, .obj o3 [slE (am Enc.int (am (Enc.sl Enc.str) (am Enc.int (am Enc.int Enc.int)))) x74 (some t77)], .tok t77 38, .obj o6 [i64 x75], .obj o13 [i64 (y16 + ((x24.length : Int) + 2))], .obj o11 [i64 0, slE Enc.str [] (some t78), i64 0, i64 0, i64 0], .tok t59 9]⟩;refine ag ?_;obtain rfl := ak H;exact ⟨rfl, rfl, (t78, t77), aF [4, 4, 1, 2, 0, 0] rfl⟩
  ·replace H := ba c66 H;refine aE ?_;obtain rfl := ak H;exact ⟨rfl, rfl, (t59, t21), aF [0, 0, 0, 0, 0, 0] rfl⟩
 ·rintro h89 o88 ⟨t86, t87⟩;replace H := aZ h89 H;obtain ⟨rfl, rfl, rfl⟩ := iO H;exact Exists.intro _ (And.intro (Unmark.at 0 rfl (.nil _)) (Exists.intro _ ⟨aF [2, 4, 2] rfl, t87, rfl, .inr ⟨rfl, rfl⟩⟩))
 rintro h89 o85 ⟨t83, t84⟩;replace H := ba h89 H;obtain ⟨rfl, rfl, rfl⟩ := iO H;exact Exists.intro _ (And.intro (Unmark.at 0 rfl (.nil _)) (Exists.intro _ (Exists.intro _ ⟨bu rfl, aF [3, 5, 3] rfl, t84, rfl, .inl ⟨rfl, rfl⟩⟩)))
theorem mP (F : Nat) (a1 : List UInt8) (q2 : Option Nat) (o3 : Nat) (a4 : List (Int × (List (List UInt8)) × Int × Int × Int)) (t5 : Nat) (o6 : Nat) (a7 : Int) (r8 : List (Int × (List (List UInt8)) × Int × Int × Int)) (r10 : Int) (H : iv F a1 a4 a7 = some (r8, r10, false)) : ACalls Tryd.prog 24 [slE Enc.byte a1 q2, .fn (.func 25) [] [.pt o3 0, .pt o6 0]] [.obj o3 [slE (am Enc.int (am (Enc.sl Enc.str) (am Enc.int (am Enc.int Enc.int)))) a4 (some t5)], .tok t5 38, .obj o6 [i64 a7]] (fun e A' => e = .ret (.tup []) ∧ ∃ t9, A' = [.obj o3 [slE (am Enc.int (am (Enc.sl Enc.str) (am Enc.int (am Enc.int Enc.int)))) r8 (some t9)], .tok t9 38, .obj o6 [i64 r10]]) :=
 (mq F a1 q2 o3 a4 t5 o6 a7 r8 r10 false H).mono fun e A' h => by obtain ⟨t9, h, ⟨h1, h2⟩ | ⟨h1, h2⟩⟩ := h <;> first | exact ⟨h2, t9, h⟩ | cases h1
theorem lX (F : Nat) (a1 : List UInt8) (q2 : Option Nat) (o3 : Nat) (a4 : List (Int × (List (List UInt8)) × Int × Int × Int)) (t5 : Nat) (o6 : Nat) (a7 : Int) (r8 : List (Int × (List (List UInt8)) × Int × Int × Int)) (r10 : Int) (H : iv F a1 a4 a7 = some (r8, r10, true)) : ACalls Tryd.prog 24 [slE Enc.byte a1 q2, .fn (.func 25) [] [.pt o3 0, .pt o6 0]] [.obj o3 [slE (am Enc.int (am (Enc.sl Enc.str) (am Enc.int (am Enc.int Enc.int)))) a4 (some t5)], .tok t5 38, .obj o6 [i64 a7]] (fun e A' => e = .pan (kU (.iface 51 (.agg #[]))) ∧ ∃ t9, A' = [.obj o3 [slE (am Enc.int (am (Enc.sl Enc.str) (am Enc.int (am Enc.int Enc.int)))) r8 (some t9)], .tok t9 38, .obj o6 [i64 r10]]) :=
 (mq F a1 q2 o3 a4 t5 o6 a7 r8 r10 true H).mono fun e A' h => by obtain ⟨t9, h, ⟨h1, h2⟩ | ⟨h1, h2⟩⟩ := h <;> first | exact ⟨h2, t9, h⟩ | cases h1
set_option maxRecDepth 100000 in
set_option maxHeartbeats 1000000 in
theorem mr (F : Nat) (H : kh F = some ()) : ACalls Tryd.prog 9 [] [] (fun e A' => ∃ ob1 : Nat, e = .ret (.pt ob1 0) ∧ A' = [.obj ob1 [kV, B false]]) := by
 unfold kh at H
 refine aA Tryd.func9 rfl rfl ?_;show AW _ _ 3 _ _ _;refine af <| ab ?_;show AR _ _ _ _ _ [0] _;refine za rfl <| ag <| af <| ab ?_;show AR _ _ _ _ _ [0, 1, 2] _;refine zS rfl (kn (zs := [.slice none 0 0, .bool false]) (ps := [(0, 1), (1, 1)]) (cs := [kV, B false]) (by kernel_rfl) rfl rfl) <| zX rfl (lh rfl (.inr ⟨_, rfl⟩)) ?_;rintro _ _ ⟨o1, rfl, rfl⟩;refine zS rfl (aO (av := .pt _ _) rfl) <| ag <| aL ?_;exact And.intro rfl (Exists.intro _ (Exists.intro _ ⟨aK rfl (.refl _), aF [0] rfl, o1, rfl, rfl⟩))
abbrev _root_.Go.Av.aC := @Tryd.underlying25
abbrev _root_.Go.Av.dd := @Tryd.underlying4
set_option maxRecDepth 100000 in
set_option maxHeartbeats 1000000 in
theorem mt (F : Nat) (o1 : Nat) (a2 : List UInt8) (t3 : Nat) (a4 : Bool) (r5 : Bool) (H : ki F a2 a4 = some r5) : ACalls Tryd.prog 13 [.pt o1 0] [.obj o1 [slE Enc.byte a2 (some t3), B a4], .tok t3 5] (fun e A' => e = .ret (B r5) ∧ A' = [.obj o1 [slE Enc.byte a2 (some t3), B a4], .tok t3 5]) := by
 unfold ki at H
 refine aA Tryd.func13 rfl rfl ?_;show AW _ _ 11 _ _ _;refine af <| ab ?_;show AR _ _ _ _ _ [0] _;refine za rfl <| ag <| af <| ab ?_;show AR _ _ _ _ _ [0, 1, 2, 3, 4, 5, 6, 7, 8] _;refine zS rfl (au (av := .pt _ _) rfl) <| zS rfl (hO aC rfl rfl) <| zm rfl <| zU rfl rfl (au (av := .pt _ _) rfl) <| zU rfl rfl (ar rfl) <| zU rfl rfl (al (n := 1) (by kernel_rfl) rfl) <| zT rfl rfl (AO.op rfl rfl (ao (i := 0) dd rfl rfl rfl rfl) ?_);refine zS rfl (ap (av := .v _) rfl rfl rfl) <| za rfl <| ag <| aL ?_;obtain rfl := ak H;exact And.intro rfl (Exists.intro _ (Exists.intro _ ⟨aK rfl (.refl _), aF [0, 0] rfl, rfl, rfl⟩))
set_option maxRecDepth 100000 in
set_option maxHeartbeats 1000000 in
theorem oV (F : Nat) (o1 : Nat) (a2 : List UInt8) (t3 : Nat) (a4 : Bool) (r5 : Int) (H : jX F a2 a4 = some r5) : ACalls Tryd.prog 14 [.pt o1 0] [.obj o1 [slE Enc.byte a2 (some t3), B a4], .tok t3 5] (fun e A' => e = .ret (i64 r5) ∧ A' = [.obj o1 [slE Enc.byte a2 (some t3), B a4], .tok t3 5]) := by
 unfold jX at H
 refine aA Tryd.func14 rfl rfl ?_;show AW _ _ 10 _ _ _;refine af <| ab ?_;show AR _ _ _ _ _ [0] _;refine za rfl <| ag <| af <| af <| ab ?_;show AR _ _ _ _ _ [0, 1] _;refine zS rfl (au (av := .pt _ _) rfl) <| zS rfl (hO aC rfl rfl) <| ag <| ay rfl (fun hx => dH hx rfl) (fun _ => ?_);refine aE <| af <| ab ?_;show AR _ _ _ _ _ [0, 1, 2, 3, 4, 5] _;refine zS rfl (au (av := .pt _ _) rfl) <| zS rfl (ar rfl) <| zS rfl (al (n := 0) (by kernel_rfl) rfl) <| zR rfl (ao (i := 0) aj rfl rfl rfl rfl) <| zS rfl (aR aj rfl) <| za rfl <| ag <| aL ?_;obtain rfl := ak H;exact And.intro rfl (Exists.intro _ (Exists.intro _ ⟨aK rfl (.refl _), aF [0, 0] rfl, rfl, rfl⟩))
set_option maxRecDepth 100000 in
set_option maxHeartbeats 1000000 in
theorem pN (F : Nat) (o1 : Nat) (a2 : List UInt8) (t3 : Nat) (a4 : Bool) (a5 : List UInt8) (q6 : Option Nat) (r7 : List (Int × (List (List UInt8)) × Int × Int × Int)) (r8 : List UInt8) (r10 : Bool) (H : kg F a2 a4 a5 = some (r7, r8, r10)) : ACalls Tryd.prog 10 [.pt o1 0, slE Enc.byte a5 q6] [.obj o1 [slE Enc.byte a2 (some t3), B a4], .tok t3 5] (fun e A' => e = .ret (slE (am Enc.int (am (Enc.sl Enc.str) (am Enc.int (am Enc.int Enc.int)))) r7 none) ∧ ∃ t9, A' = [.obj o1 [slE Enc.byte r8 (some t9), B r10], .tok t9 5]) := by
 unfold kg at H
 refine lb [4] Tryd.func10 rfl rfl ?_;show AW _ _ 31 _ _ _;refine af <| ab ?_;show AR _ _ _ _ _ [0, 1] _;refine zX rfl (lh rfl (.inl rfl)) ?_;rintro _ _ ⟨o11, rfl, rfl⟩;refine zX rfl (cn (zs := [.slice none 0 0]) (by kernel_rfl)) ?_;rintro _ _ ⟨o12, rfl, rfl⟩;refine ag <| af <| af <| ab ?_;show AR _ _ _ _ _ [0, 1, 2, 3, 4, 5, 6, 7] _;refine zR rfl (ao (i := 1) aC rfl rfl rfl rfl) <| zS rfl (hO aC rfl rfl) <| zm rfl <| zT rfl rfl (AO.op rfl rfl (ao (i := 1) aC rfl rfl rfl rfl) ?_);refine zU rfl rfl (ar rfl) <| zU rfl rfl (al (n := 1) (by kernel_rfl) rfl) <| zT rfl rfl (AO.op rfl rfl (ao (i := 2) dd rfl rfl rfl rfl) ?_);refine zS rfl (ap (av := .v _) rfl rfl rfl) <| ag <| ay rfl (fun c13 => ?_) (fun c13 => ?_)
 ·replace H := aZ c13 H;refine af <| ab ?_;show AR _ _ _ _ _ [0] _;refine s0 rfl rfl (aH (i := 0) (c := .v _) (by kernel_rfl) rfl rfl rfl rfl (aa rfl)) <| ag <| aL ?_;obtain ⟨rfl, rfl, rfl⟩ := iO H;exact Exists.intro _ (Exists.intro _ ⟨cV rfl ((CellV.one (c := .v _) 0 aV rfl rfl rfl rfl).oneW (.nil _)), aF [2, 2] rfl, rfl, t3, rfl⟩)
 ·replace H := ba c13 H;refine aE <| bx (X := (List UInt8) × Nat) (fun (y21, t22) => ⟨[(2, .pt o11 0), (4, .pt o12 0)], [], [.obj o12 [kV], .obj o11 [.pt o1 0], .obj o1 [slE Enc.byte y21 (some t22), B a4], .tok t22 5]⟩) (fun (y21, t22) => ge F a4 y21 = some (r7, r8, r10)) ?_ ?_
  ·obtain ⟨g15, H⟩ := aI H;obtain ⟨x16, e17, H⟩ := bp H;refine bL (by kernel_rfl) ?_;show AI _ _ _ _ _ 10 (Array.replicate 10 false) _;refine AI.take (i := 5) rfl rfl (by kernel_rfl) (by kernel_rfl) (by kernel_rfl) (fun _ _ h => bG rfl h) (au (av := slE _ _ _) rfl) ?_;show AI _ _ _ _ _ _ #[false, false, false, false, false, true, false, false, false, false] _;refine dW (i := 0) (j := 1) (by kernel_rfl) rfl rfl rfl rfl ?_ ?_
   ·refine bo rfl (ao (i := 1) aC rfl rfl rfl rfl) ?_;show AI _ _ _ _ _ _ #[true, false, false, false, false, true, false, false, false, false] _;refine aY (i := 1) (by kernel_rfl) rfl rfl <| bo rfl (ao (i := 1) aC rfl rfl rfl rfl) ?_;show AI _ _ _ _ _ _ #[true, true, false, false, false, true, false, false, false, false] _;refine AI.take (i := 2) rfl rfl (by kernel_rfl) (by kernel_rfl) (by kernel_rfl) (fun _ _ h => bG rfl h) (ar rfl) ?_;show AI _ _ _ _ _ _ #[true, true, true, false, false, true, false, false, false, false] _;refine AI.take (i := 3) rfl rfl (by kernel_rfl) (by kernel_rfl) (by kernel_rfl) (fun _ _ h => bG rfl h) (al (n := 0) (by kernel_rfl) rfl) ?_;show AI _ _ _ _ _ _ #[true, true, true, true, false, true, false, false, false, false] _;refine aY (i := 4) (by kernel_rfl) rfl rfl <| bo rfl (ao (i := 2) aj rfl rfl rfl rfl) ?_;show AI _ _ _ _ _ _ #[true, true, true, true, true, true, false, false, false, false] _;refine aY (i := 6) (by kernel_rfl) rfl rfl <| AIO.opx rfl (dM (E := Enc.byte) (bytes := 1) 3 aj aj rfl (by kernel_rfl) rfl rfl rfl rfl g15 e17) ?_;rintro _ _ ⟨t14, rfl, rfl⟩;show AI _ _ _ _ _ _ #[true, true, true, true, true, true, true, false, false, false] _;refine AI.take (i := 7) rfl rfl (by kernel_rfl) (by kernel_rfl) (by kernel_rfl) (fun _ _ h => bG rfl h) (ar rfl) ?_
    show AI _ _ _ _ _ _ #[true, true, true, true, true, true, true, true, false, false] _;refine AI.take (i := 8) rfl rfl (by kernel_rfl) (by kernel_rfl) (by kernel_rfl) (fun _ _ h => bG rfl h) (al (n := 0) (by kernel_rfl) rfl) ?_;show AI _ _ _ _ _ _ #[true, true, true, true, true, true, true, true, true, false] _;refine aY (i := 9) (by kernel_rfl) rfl rfl <| bO (aH (i := 2) (c := slE _ _ _) (by kernel_rfl) rfl rfl rfl rfl (aa rfl)) ?_;show AI _ _ _ _ _ _ #[true, true, true, true, true, true, true, true, true, true] _;refine bB rfl ?_;exact Exists.intro (x16, t14) ⟨H, aX [0, 0, 0, 0] (.cons (.refl _) (.cons (.refl _) (.nil _))) rfl⟩
   ·refine bo rfl (ao (i := 1) aC rfl rfl rfl rfl) ?_;show AI _ _ _ _ _ _ #[false, true, false, false, false, true, false, false, false, false] _;refine AI.take (i := 2) rfl rfl (by kernel_rfl) (by kernel_rfl) (by kernel_rfl) (fun _ _ h => bG rfl h) (ar rfl) ?_;show AI _ _ _ _ _ _ #[false, true, true, false, false, true, false, false, false, false] _;refine AI.take (i := 3) rfl rfl (by kernel_rfl) (by kernel_rfl) (by kernel_rfl) (fun _ _ h => bG rfl h) (al (n := 0) (by kernel_rfl) rfl) ?_;show AI _ _ _ _ _ _ #[false, true, true, true, false, true, false, false, false, false] _;refine dW (i := 0) (j := 4) (by kernel_rfl) rfl rfl rfl rfl ?_ ?_
    ·refine bo rfl (ao (i := 1) aC rfl rfl rfl rfl) ?_;show AI _ _ _ _ _ _ #[true, true, true, true, false, true, false, false, false, false] _;refine aY (i := 4) (by kernel_rfl) rfl rfl <| bo rfl (ao (i := 2) aj rfl rfl rfl rfl) ?_;show AI _ _ _ _ _ _ #[true, true, true, true, true, true, false, false, false, false] _;refine aY (i := 6) (by kernel_rfl) rfl rfl <| AIO.opx rfl (dM (E := Enc.byte) (bytes := 1) 3 aj aj rfl (by kernel_rfl) rfl rfl rfl rfl g15 e17) ?_;rintro _ _ ⟨t18, rfl, rfl⟩;show AI _ _ _ _ _ _ #[true, true, true, true, true, true, true, false, false, false] _;refine AI.take (i := 7) rfl rfl (by kernel_rfl) (by kernel_rfl) (by kernel_rfl) (fun _ _ h => bG rfl h) (ar rfl) ?_;show AI _ _ _ _ _ _ #[true, true, true, true, true, true, true, true, false, false] _;refine AI.take (i := 8) rfl rfl (by kernel_rfl) (by kernel_rfl) (by kernel_rfl) (fun _ _ h => bG rfl h) (al (n := 0) (by kernel_rfl) rfl) ?_;show AI _ _ _ _ _ _ #[true, true, true, true, true, true, true, true, true, false] _;refine aY (i := 9) (by kernel_rfl) rfl rfl <| bO (aH (i := 2) (c := slE _ _ _) (by kernel_rfl) rfl rfl rfl rfl (aa rfl)) ?_;show AI _ _ _ _ _ _ #[true, true, true, true, true, true, true, true, true, true] _;refine bB rfl ?_;exact Exists.intro (x16, t18) ⟨H, aX [0, 0, 0, 0] (.cons (.refl _) (.cons (.refl _) (.nil _))) rfl⟩
    ·refine bo rfl (ao (i := 2) aj rfl rfl rfl rfl) ?_;show AI _ _ _ _ _ _ #[false, true, true, true, true, true, false, false, false, false] _;refine dW (i := 0) (j := 6) (by kernel_rfl) rfl rfl rfl rfl ?_ ?_
     ·refine bo rfl (ao (i := 1) aC rfl rfl rfl rfl) ?_;show AI _ _ _ _ _ _ #[true, true, true, true, true, true, false, false, false, false] _;refine aY (i := 6) (by kernel_rfl) rfl rfl <| AIO.opx rfl (dM (E := Enc.byte) (bytes := 1) 3 aj aj rfl (by kernel_rfl) rfl rfl rfl rfl g15 e17) ?_;rintro _ _ ⟨t19, rfl, rfl⟩;show AI _ _ _ _ _ _ #[true, true, true, true, true, true, true, false, false, false] _;refine AI.take (i := 7) rfl rfl (by kernel_rfl) (by kernel_rfl) (by kernel_rfl) (fun _ _ h => bG rfl h) (ar rfl) ?_;show AI _ _ _ _ _ _ #[true, true, true, true, true, true, true, true, false, false] _;refine AI.take (i := 8) rfl rfl (by kernel_rfl) (by kernel_rfl) (by kernel_rfl) (fun _ _ h => bG rfl h) (al (n := 0) (by kernel_rfl) rfl) ?_;show AI _ _ _ _ _ _ #[true, true, true, true, true, true, true, true, true, false] _;refine aY (i := 9) (by kernel_rfl) rfl rfl <| bO (aH (i := 2) (c := slE _ _ _) (by kernel_rfl) rfl rfl rfl rfl (aa rfl)) ?_;show AI _ _ _ _ _ _ #[true, true, true, true, true, true, true, true, true, true] _;refine bB rfl ?_;exact Exists.intro (x16, t19) ⟨H, aX [0, 0, 0, 0] (.cons (.refl _) (.cons (.refl _) (.nil _))) rfl⟩
     ·refine AIO.opx rfl (dM (E := Enc.byte) (bytes := 1) 3 aj aj rfl (by kernel_rfl) rfl rfl rfl rfl g15 e17) ?_;rintro _ _ ⟨t20, rfl, rfl⟩;show AI _ _ _ _ _ _ #[false, true, true, true, true, true, true, false, false, false] _;refine aY (i := 0) (by kernel_rfl) rfl rfl <| bo rfl (ao (i := 1) aC rfl rfl rfl rfl) ?_;show AI _ _ _ _ _ _ #[true, true, true, true, true, true, true, false, false, false] _;refine AI.take (i := 7) rfl rfl (by kernel_rfl) (by kernel_rfl) (by kernel_rfl) (fun _ _ h => bG rfl h) (ar rfl) ?_;show AI _ _ _ _ _ _ #[true, true, true, true, true, true, true, true, false, false] _;refine AI.take (i := 8) rfl rfl (by kernel_rfl) (by kernel_rfl) (by kernel_rfl) (fun _ _ h => bG rfl h) (al (n := 0) (by kernel_rfl) rfl) ?_;show AI _ _ _ _ _ _ #[true, true, true, true, true, true, true, true, true, false] _;refine aY (i := 9) (by kernel_rfl) rfl rfl <| bO (aH (i := 2) (c := slE _ _ _) (by kernel_rfl) rfl rfl rfl rfl (aa rfl)) ?_;show AI _ _ _ _ _ _ #[true, true, true, true, true, true, true, true, true, true] _;refine bB rfl ?_;exact Exists.intro (x16, t20) ⟨H, aX [0, 0, 0, 0] (.cons (.refl _) (.cons (.refl _) (.nil _))) rfl⟩
  rintro ⟨y21, t22⟩ H;replace H : ge F a4 y21 = some (r7, r8, r10) := H
  unfold ge at H
  refine af <| ab ?_;show AR _ _ _ _ _ [0, 1] _;refine zX rfl (cn (zs := [.int .i64 0]) (by kernel_rfl)) ?_;rintro _ _ ⟨o24, rfl, rfl⟩;refine s0 rfl rfl (aH (i := 0) (c := .v _) (by kernel_rfl) rfl rfl rfl rfl (aa rfl)) <| ag <| af <| ab ?_;show AR _ _ _ _ _ [0, 1] _;refine zS rfl (fQ rfl rfl) <| bc rfl rfl (AO.defer rfl ?_);show AR _ _ _ _ _ _ ⟨_, [.call (.func 22) [.pt o11 0, .pt o24 0] []], _⟩;refine ag <| af ?_;obtain ⟨x26, x27, x28, e29, H⟩ := iZ H
  rcases ac x28 with rfl | rfl
  ·replace H := aZ rfl H;refine ab ?_;show AR _ _ _ _ _ [0, 1, 2, 3, 4, 5] _;refine zR rfl (ao (i := 2) aC rfl rfl rfl rfl) <| zS rfl (ar rfl) <| zS rfl (al (n := 0) (by kernel_rfl) rfl) <| zR rfl (ao (i := 3) aj rfl rfl rfl rfl) <| zS rfl (fQ rfl rfl) ?_
   refine AR.nil_objAt 1 0 5 38 rfl rfl fun t25 => ?_
   show AR _ _ _ _ _ _ ⟨_, _, [.tok t25 38, .obj o24 [i64 0], .obj o12 [slE (am Enc.int (am (Enc.sl Enc.str) (am Enc.int (am Enc.int Enc.int)))) [] (some t25)], .obj o11 [.pt o1 0], .obj o1 [slE Enc.byte y21 (some t22), B a4], .tok t22 5]⟩;refine bc rfl rfl (AO.callPanR [2, 0, 0] rfl mL rfl (lX F y21 (some t22) o12 [] t25 o24 0 x26 x27 e29) rfl (fun av A' h => by cases h.1) ?_);rintro c A' ⟨h, t30, rfl⟩
   cases h
   refine Exists.intro [(4, .pt o12 0)] ⟨by simp, .cons (.refl _) (.nil _), ?_⟩;show ALeaves _ _ _ _ _ [.call (.func 22) [.pt o11 0, .pt o24 0] []] _ [.obj o12 [slE (am Enc.int (am (Enc.sl Enc.str) (am Enc.int (am Enc.int Enc.int)))) x26 (some t30)], .tok t30 38, .obj o24 [i64 x27], .obj o11 [.pt o1 0], .obj o1 [slE Enc.byte y21 (some t22), B a4], .tok t22 5];refine iE (v := .tup []) (u1 := (.panicking [{ v := (.iface 51 (.agg #[])), recovered := true }])) (A2 := (fun t32 => [.tok t32 5, .obj o24 [i64 x27], .obj o11 [.pt o1 0], .obj o1 [slE Enc.byte [] (some t32), B true]])) [2, 2, 2] (fun h => by cases h) mM rfl ?_ ?_
   ·show ADCalls _ _ [.pt o11 0, .pt o24 0] [.obj o24 [i64 x27], .obj o11 [.pt o1 0], .obj o1 [slE Enc.byte y21 (some t22), B a4]] _ _;refine ADCalls.grow (A2 := [.obj o24 [i64 x27], .obj o11 [.pt o1 0], .obj o1 [kV, B true]]) 2 0 1 5 rfl rfl (fun _ => rfl) <| fN (av := .ifc 51 (.agg [])) (l := [1]) Tryd.func22 rfl rfl rfl rfl rfl Recovers.pan rfl (fun cs => ?_);refine ASR.op rfl rfl ((aO (av := .ifc _ _) rfl).opR _) <| ASR.nil <| af <| ab ?_;show AR _ _ _ _ _ [0, 1] _;refine zS rfl (au (av := .ifc _ _) rfl) <| zS rfl (nV (ms := []) (.inr rfl) Tryd.underlying20 rfl rfl) <| ag <| ay rfl (fun _ => ?_) (fun hx => dH rfl hx);refine af <| af <| ab ?_;show AR _ _ _ _ _ [0, 1, 2, 3, 4, 5, 6, 7] _;refine zS rfl (au (av := .ifc _ _) rfl) <| zS rfl (kY Tryd.underlying51 rfl rfl) <| zS rfl (au (av := .tup _) rfl) <| zS rfl (aN (av := .agg _) rfl rfl) <| zS rfl (aN (av := .v _) rfl rfl) <| zX rfl (cn (zs := []) (by kernel_rfl)) ?_;rintro _ _ ⟨o31, rfl, rfl⟩;refine s0 rfl rfl (bg (i := 0) (vs := []) (by kernel_rfl) rfl rfl (by simp [br, slE]) rfl (aa rfl)) <| za rfl <| ag <| af <| ab ?_;show AR _ _ _ _ _ [0, 1] _;refine zm rfl <| zS rfl (dS rfl) <| ag <| ay rfl (fun hx => dH hx rfl) (fun _ => ?_);refine aE <| af <| ab ?_;show AR _ _ _ _ _ [0, 1, 2, 3, 4, 5, 6, 7] _
    refine zR rfl (ao (i := 2) aC rfl rfl rfl rfl) <| zR rfl (ao (i := 2) aC rfl rfl rfl rfl) <| zS rfl (ar rfl) <| zS rfl (al (n := 0) (by kernel_rfl) rfl) <| s0 rfl rfl (aH (i := 3) (c := .v _) (by kernel_rfl) rfl rfl rfl rfl (aa rfl)) <| zS rfl (ar rfl) <| zS rfl (al (n := 1) (by kernel_rfl) rfl) <| s0 rfl rfl (aH (i := 3) (c := .v _) (by kernel_rfl) rfl rfl rfl rfl (aa rfl)) <| ag <| aL ?_;exact And.intro rfl (Exists.intro _ (Exists.intro _ ⟨bu rfl, aF [1, 1, 1] rfl, rfl, rfl, rfl⟩))
   intro t32;show ALeaves _ _ _ _ _ [] .returning [.tok t32 5, .obj o24 [i64 x27], .obj o11 [.pt o1 0], .obj o1 [slE Enc.byte [] (some t32), B true], .obj o12 [slE (am Enc.int (am (Enc.sl Enc.str) (am Enc.int (am Enc.int Enc.int)))) x26 (some t30)], .tok t30 38, .tok t22 5];obtain ⟨rfl, rfl, rfl⟩ := iO H;exact Exists.intro _ (Exists.intro _ ⟨cV rfl ((CellV.one (c := slE _ _ _) 4 aV rfl rfl rfl rfl).oneW (.tok _ _ _)), aF [3, 0] rfl, rfl, t32, rfl⟩)
  replace H := ba rfl H;refine ab ?_;show AR _ _ _ _ _ [0, 1, 2, 3, 4, 5] _;refine zR rfl (ao (i := 2) aC rfl rfl rfl rfl) <| zS rfl (ar rfl) <| zS rfl (al (n := 0) (by kernel_rfl) rfl) <| zR rfl (ao (i := 3) aj rfl rfl rfl rfl) <| zS rfl (fQ rfl rfl) ?_
  refine AR.nil_objAt 1 0 5 38 rfl rfl fun t25 => ?_
  show AR _ _ _ _ _ _ ⟨_, _, [.tok t25 38, .obj o24 [i64 0], .obj o12 [slE (am Enc.int (am (Enc.sl Enc.str) (am Enc.int (am Enc.int Enc.int)))) [] (some t25)], .obj o11 [.pt o1 0], .obj o1 [slE Enc.byte y21 (some t22), B a4], .tok t22 5]⟩;refine bc rfl rfl (AO.callAt [2, 0, 0] rfl mL rfl (mP F y21 (some t22) o12 [] t25 o24 0 x26 x27 e29) rfl (fun c A' h => by cases h.1) ?_)
  rintro av A' ⟨h, t33, rfl⟩; cases h
  refine ag <| af <| ab ?_;show AR _ _ _ _ _ [0, 1] _;refine zR rfl (ao (i := 0) aV rfl rfl rfl rfl) <| s0 rfl rfl (aH (i := 0) (c := slE _ _ _) (by kernel_rfl) rfl rfl rfl rfl (aa rfl)) <| ag <| aL ?_;obtain ⟨g34, H⟩ := aI H;obtain ⟨x35, e36, H⟩ := bp H;obtain ⟨g37, H⟩ := aI H;show ALeaves _ _ _ _ _ [.call (.func 22) [.pt o11 0, .pt o24 0] []] _ [.obj o12 [slE (am Enc.int (am (Enc.sl Enc.str) (am Enc.int (am Enc.int Enc.int)))) x26 (some t33)], .tok t33 38, .obj o24 [i64 x27], .obj o11 [.pt o1 0], .obj o1 [slE Enc.byte y21 (some t22), B a4], .tok t22 5];refine iE (v := .tup []) (u1 := .returning) (A2 := (fun t38 => [.tok t38 5, .obj o24 [i64 x27], .obj o11 [.pt o1 0], .obj o1 [slE Enc.byte x35 (some t38), B a4]])) [2, 2, 2] (fun h => by cases h) mM rfl ?_ ?_
  ·show ADCalls _ _ [.pt o11 0, .pt o24 0] [.obj o24 [i64 x27], .obj o11 [.pt o1 0], .obj o1 [slE Enc.byte y21 (some t22), B a4]] _ _;refine fN (av := .v .nilIface) (l := [1]) Tryd.func22 rfl rfl rfl rfl rfl Recovers.ret rfl (fun cs => ?_);refine ASR.op rfl rfl ((asg rfl).opR _) <| ASR.nil <| af <| ab ?_;show AR _ _ _ _ _ [0, 1] _;refine zm rfl <| zS rfl (jy (n := 0) (t := 0) (k := .i64) Tryd.underlying20 rfl rfl) <| ag <| ay rfl (fun hx => dH hx rfl) (fun _ => ?_);refine aE <| bL (by kernel_rfl) ?_;show AI _ _ _ _ _ 11 (Array.replicate 11 false) _;refine oQ (i := 0) (j := 1) (l := 5) (by kernel_rfl) rfl rfl rfl rfl rfl rfl ?_ ?_ ?_
   ·refine bo rfl (ao (i := 1) aC rfl rfl rfl rfl) ?_;show AI _ _ _ _ _ _ #[true, false, false, false, false, false, false, false, false, false, false] _;refine dW (i := 1) (j := 5) (by kernel_rfl) rfl rfl rfl rfl ?_ ?_
    ·refine bo rfl (ao (i := 1) aC rfl rfl rfl rfl) ?_;show AI _ _ _ _ _ _ #[true, true, false, false, false, false, false, false, false, false, false] _;refine zk 2 rfl (ar rfl) ?_;show AI _ _ _ _ _ _ #[true, true, true, false, false, false, false, false, false, false, false] _;refine zk 3 rfl (al (n := 0) (by kernel_rfl) rfl) ?_;show AI _ _ _ _ _ _ #[true, true, true, true, false, false, false, false, false, false, false] _;refine dW (i := 4) (j := 5) (by kernel_rfl) rfl rfl rfl rfl ?_ ?_
     ·refine bo rfl (ao (i := 2) aj rfl rfl rfl rfl) ?_;show AI _ _ _ _ _ _ #[true, true, true, true, true, false, false, false, false, false, false] _;refine aY (i := 5) (by kernel_rfl) rfl rfl <| bo rfl (ao (i := 0) az rfl rfl rfl rfl) ?_;show AI _ _ _ _ _ _ #[true, true, true, true, true, true, false, false, false, false, false] _;refine zk 6 rfl (co (E := Enc.byte) aj (by kernel_rfl) rfl rfl g34 e36) ?_;show AI _ _ _ _ _ _ #[true, true, true, true, true, true, true, false, false, false, false] _;refine aY (i := 7) (by kernel_rfl) rfl rfl <| bW [] rfl cq rfl (bm x35 none (fi g37)) rfl (fun c A' h => by obtain ⟨_, h, _⟩ := h; cases h) ?_
      rintro av A' ⟨t38, h, rfl⟩; cases h
      show AI _ _ _ _ _ _ #[true, true, true, true, true, true, true, true, false, false, false] _;refine zk 8 rfl (ar rfl) ?_;show AI _ _ _ _ _ _ #[true, true, true, true, true, true, true, true, true, false, false] _;refine zk 9 rfl (al (n := 0) (by kernel_rfl) rfl) ?_;show AI _ _ _ _ _ _ #[true, true, true, true, true, true, true, true, true, true, false] _;refine aY (i := 10) (by kernel_rfl) rfl rfl <| bO (aH (i := 3) (c := slE _ _ _) (by kernel_rfl) rfl rfl rfl rfl (aa rfl)) ?_;show AI _ _ _ _ _ _ #[true, true, true, true, true, true, true, true, true, true, true] _;refine bB rfl ?_;exact And.intro rfl (Exists.intro _ (Exists.intro _ ⟨bu rfl, aF [0, 0, 0, 0] rfl, rfl, rfl, t38, rfl⟩))
     ·refine bo rfl (ao (i := 0) az rfl rfl rfl rfl) ?_;show AI _ _ _ _ _ _ #[true, true, true, true, false, true, false, false, false, false, false] _;refine aY (i := 4) (by kernel_rfl) rfl rfl <| bo rfl (ao (i := 2) aj rfl rfl rfl rfl) ?_;show AI _ _ _ _ _ _ #[true, true, true, true, true, true, false, false, false, false, false] _;refine zk 6 rfl (co (E := Enc.byte) aj (by kernel_rfl) rfl rfl g34 e36) ?_;show AI _ _ _ _ _ _ #[true, true, true, true, true, true, true, false, false, false, false] _;refine aY (i := 7) (by kernel_rfl) rfl rfl <| bW [] rfl cq rfl (bm x35 none (fi g37)) rfl (fun c A' h => by obtain ⟨_, h, _⟩ := h; cases h) ?_
      rintro av A' ⟨t39, h, rfl⟩; cases h
      show AI _ _ _ _ _ _ #[true, true, true, true, true, true, true, true, false, false, false] _;refine zk 8 rfl (ar rfl) ?_;show AI _ _ _ _ _ _ #[true, true, true, true, true, true, true, true, true, false, false] _;refine zk 9 rfl (al (n := 0) (by kernel_rfl) rfl) ?_;show AI _ _ _ _ _ _ #[true, true, true, true, true, true, true, true, true, true, false] _;refine aY (i := 10) (by kernel_rfl) rfl rfl <| bO (aH (i := 3) (c := slE _ _ _) (by kernel_rfl) rfl rfl rfl rfl (aa rfl)) ?_;show AI _ _ _ _ _ _ #[true, true, true, true, true, true, true, true, true, true, true] _;refine bB rfl ?_;exact And.intro rfl (Exists.intro _ (Exists.intro _ ⟨bu rfl, aF [0, 0, 0, 0] rfl, rfl, rfl, t39, rfl⟩))
    ·refine bo rfl (ao (i := 0) az rfl rfl rfl rfl) ?_;show AI _ _ _ _ _ _ #[true, false, false, false, false, true, false, false, false, false, false] _;refine aY (i := 1) (by kernel_rfl) rfl rfl <| bo rfl (ao (i := 1) aC rfl rfl rfl rfl) ?_;show AI _ _ _ _ _ _ #[true, true, false, false, false, true, false, false, false, false, false] _;refine zk 2 rfl (ar rfl) ?_;show AI _ _ _ _ _ _ #[true, true, true, false, false, true, false, false, false, false, false] _;refine zk 3 rfl (al (n := 0) (by kernel_rfl) rfl) ?_;show AI _ _ _ _ _ _ #[true, true, true, true, false, true, false, false, false, false, false] _;refine aY (i := 4) (by kernel_rfl) rfl rfl <| bo rfl (ao (i := 2) aj rfl rfl rfl rfl) ?_;show AI _ _ _ _ _ _ #[true, true, true, true, true, true, false, false, false, false, false] _;refine zk 6 rfl (co (E := Enc.byte) aj (by kernel_rfl) rfl rfl g34 e36) ?_;show AI _ _ _ _ _ _ #[true, true, true, true, true, true, true, false, false, false, false] _;refine aY (i := 7) (by kernel_rfl) rfl rfl <| bW [] rfl cq rfl (bm x35 none (fi g37)) rfl (fun c A' h => by obtain ⟨_, h, _⟩ := h; cases h) ?_
     rintro av A' ⟨t40, h, rfl⟩; cases h
     show AI _ _ _ _ _ _ #[true, true, true, true, true, true, true, true, false, false, false] _;refine zk 8 rfl (ar rfl) ?_;show AI _ _ _ _ _ _ #[true, true, true, true, true, true, true, true, true, false, false] _;refine zk 9 rfl (al (n := 0) (by kernel_rfl) rfl) ?_;show AI _ _ _ _ _ _ #[true, true, true, true, true, true, true, true, true, true, false] _;refine aY (i := 10) (by kernel_rfl) rfl rfl <| bO (aH (i := 3) (c := slE _ _ _) (by kernel_rfl) rfl rfl rfl rfl (aa rfl)) ?_;show AI _ _ _ _ _ _ #[true, true, true, true, true, true, true, true, true, true, true] _;refine bB rfl ?_;exact And.intro rfl (Exists.intro _ (Exists.intro _ ⟨bu rfl, aF [0, 0, 0, 0] rfl, rfl, rfl, t40, rfl⟩))
   ·refine bo rfl (ao (i := 1) aC rfl rfl rfl rfl) ?_;show AI _ _ _ _ _ _ #[false, true, false, false, false, false, false, false, false, false, false] _;refine zk 2 rfl (ar rfl) ?_;show AI _ _ _ _ _ _ #[false, true, true, false, false, false, false, false, false, false, false] _;refine zk 3 rfl (al (n := 0) (by kernel_rfl) rfl) ?_;show AI _ _ _ _ _ _ #[false, true, true, true, false, false, false, false, false, false, false] _;refine oQ (i := 0) (j := 4) (l := 5) (by kernel_rfl) rfl rfl rfl rfl rfl rfl ?_ ?_ ?_
    ·refine bo rfl (ao (i := 1) aC rfl rfl rfl rfl) ?_;show AI _ _ _ _ _ _ #[true, true, true, true, false, false, false, false, false, false, false] _;refine dW (i := 4) (j := 5) (by kernel_rfl) rfl rfl rfl rfl ?_ ?_
     ·refine bo rfl (ao (i := 2) aj rfl rfl rfl rfl) ?_;show AI _ _ _ _ _ _ #[true, true, true, true, true, false, false, false, false, false, false] _;refine aY (i := 5) (by kernel_rfl) rfl rfl <| bo rfl (ao (i := 0) az rfl rfl rfl rfl) ?_;show AI _ _ _ _ _ _ #[true, true, true, true, true, true, false, false, false, false, false] _;refine zk 6 rfl (co (E := Enc.byte) aj (by kernel_rfl) rfl rfl g34 e36) ?_;show AI _ _ _ _ _ _ #[true, true, true, true, true, true, true, false, false, false, false] _;refine aY (i := 7) (by kernel_rfl) rfl rfl <| bW [] rfl cq rfl (bm x35 none (fi g37)) rfl (fun c A' h => by obtain ⟨_, h, _⟩ := h; cases h) ?_
      rintro av A' ⟨t41, h, rfl⟩; cases h
      show AI _ _ _ _ _ _ #[true, true, true, true, true, true, true, true, false, false, false] _;refine zk 8 rfl (ar rfl) ?_;show AI _ _ _ _ _ _ #[true, true, true, true, true, true, true, true, true, false, false] _;refine zk 9 rfl (al (n := 0) (by kernel_rfl) rfl) ?_;show AI _ _ _ _ _ _ #[true, true, true, true, true, true, true, true, true, true, false] _;refine aY (i := 10) (by kernel_rfl) rfl rfl <| bO (aH (i := 3) (c := slE _ _ _) (by kernel_rfl) rfl rfl rfl rfl (aa rfl)) ?_;show AI _ _ _ _ _ _ #[true, true, true, true, true, true, true, true, true, true, true] _;refine bB rfl ?_;exact And.intro rfl (Exists.intro _ (Exists.intro _ ⟨bu rfl, aF [0, 0, 0, 0] rfl, rfl, rfl, t41, rfl⟩))
     ·refine bo rfl (ao (i := 0) az rfl rfl rfl rfl) ?_;show AI _ _ _ _ _ _ #[true, true, true, true, false, true, false, false, false, false, false] _;refine aY (i := 4) (by kernel_rfl) rfl rfl <| bo rfl (ao (i := 2) aj rfl rfl rfl rfl) ?_;show AI _ _ _ _ _ _ #[true, true, true, true, true, true, false, false, false, false, false] _;refine zk 6 rfl (co (E := Enc.byte) aj (by kernel_rfl) rfl rfl g34 e36) ?_;show AI _ _ _ _ _ _ #[true, true, true, true, true, true, true, false, false, false, false] _;refine aY (i := 7) (by kernel_rfl) rfl rfl <| bW [] rfl cq rfl (bm x35 none (fi g37)) rfl (fun c A' h => by obtain ⟨_, h, _⟩ := h; cases h) ?_
      rintro av A' ⟨t42, h, rfl⟩; cases h
      show AI _ _ _ _ _ _ #[true, true, true, true, true, true, true, true, false, false, false] _;refine zk 8 rfl (ar rfl) ?_;show AI _ _ _ _ _ _ #[true, true, true, true, true, true, true, true, true, false, false] _;refine zk 9 rfl (al (n := 0) (by kernel_rfl) rfl) ?_;show AI _ _ _ _ _ _ #[true, true, true, true, true, true, true, true, true, true, false] _;refine aY (i := 10) (by kernel_rfl) rfl rfl <| bO (aH (i := 3) (c := slE _ _ _) (by kernel_rfl) rfl rfl rfl rfl (aa rfl)) ?_;show AI _ _ _ _ _ _ #[true, true, true, true, true, true, true, true, true, true, true] _;refine bB rfl ?_;exact And.intro rfl (Exists.intro _ (Exists.intro _ ⟨bu rfl, aF [0, 0, 0, 0] rfl, rfl, rfl, t42, rfl⟩))
    ·refine bo rfl (ao (i := 2) aj rfl rfl rfl rfl) ?_;show AI _ _ _ _ _ _ #[false, true, true, true, true, false, false, false, false, false, false] _;refine dW (i := 0) (j := 5) (by kernel_rfl) rfl rfl rfl rfl ?_ ?_
     ·refine bo rfl (ao (i := 1) aC rfl rfl rfl rfl) ?_;show AI _ _ _ _ _ _ #[true, true, true, true, true, false, false, false, false, false, false] _;refine aY (i := 5) (by kernel_rfl) rfl rfl <| bo rfl (ao (i := 0) az rfl rfl rfl rfl) ?_;show AI _ _ _ _ _ _ #[true, true, true, true, true, true, false, false, false, false, false] _;refine zk 6 rfl (co (E := Enc.byte) aj (by kernel_rfl) rfl rfl g34 e36) ?_;show AI _ _ _ _ _ _ #[true, true, true, true, true, true, true, false, false, false, false] _;refine aY (i := 7) (by kernel_rfl) rfl rfl <| bW [] rfl cq rfl (bm x35 none (fi g37)) rfl (fun c A' h => by obtain ⟨_, h, _⟩ := h; cases h) ?_
      rintro av A' ⟨t43, h, rfl⟩; cases h
      show AI _ _ _ _ _ _ #[true, true, true, true, true, true, true, true, false, false, false] _;refine zk 8 rfl (ar rfl) ?_;show AI _ _ _ _ _ _ #[true, true, true, true, true, true, true, true, true, false, false] _;refine zk 9 rfl (al (n := 0) (by kernel_rfl) rfl) ?_;show AI _ _ _ _ _ _ #[true, true, true, true, true, true, true, true, true, true, false] _;refine aY (i := 10) (by kernel_rfl) rfl rfl <| bO (aH (i := 3) (c := slE _ _ _) (by kernel_rfl) rfl rfl rfl rfl (aa rfl)) ?_;show AI _ _ _ _ _ _ #[true, true, true, true, true, true, true, true, true, true, true] _;refine bB rfl ?_;exact And.intro rfl (Exists.intro _ (Exists.intro _ ⟨bu rfl, aF [0, 0, 0, 0] rfl, rfl, rfl, t43, rfl⟩))
     ·refine bo rfl (ao (i := 0) az rfl rfl rfl rfl) ?_;show AI _ _ _ _ _ _ #[false, true, true, true, true, true, false, false, false, false, false] _;refine zk 6 rfl (co (E := Enc.byte) aj (by kernel_rfl) rfl rfl g34 e36) ?_;show AI _ _ _ _ _ _ #[false, true, true, true, true, true, true, false, false, false, false] _;refine dW (i := 0) (j := 7) (by kernel_rfl) rfl rfl rfl rfl ?_ ?_
      ·refine bo rfl (ao (i := 1) aC rfl rfl rfl rfl) ?_;show AI _ _ _ _ _ _ #[true, true, true, true, true, true, true, false, false, false, false] _;refine aY (i := 7) (by kernel_rfl) rfl rfl <| bW [] rfl cq rfl (bm x35 none (fi g37)) rfl (fun c A' h => by obtain ⟨_, h, _⟩ := h; cases h) ?_
       rintro av A' ⟨t44, h, rfl⟩; cases h
       show AI _ _ _ _ _ _ #[true, true, true, true, true, true, true, true, false, false, false] _;refine zk 8 rfl (ar rfl) ?_;show AI _ _ _ _ _ _ #[true, true, true, true, true, true, true, true, true, false, false] _;refine zk 9 rfl (al (n := 0) (by kernel_rfl) rfl) ?_;show AI _ _ _ _ _ _ #[true, true, true, true, true, true, true, true, true, true, false] _;refine aY (i := 10) (by kernel_rfl) rfl rfl <| bO (aH (i := 3) (c := slE _ _ _) (by kernel_rfl) rfl rfl rfl rfl (aa rfl)) ?_;show AI _ _ _ _ _ _ #[true, true, true, true, true, true, true, true, true, true, true] _;refine bB rfl ?_;exact And.intro rfl (Exists.intro _ (Exists.intro _ ⟨bu rfl, aF [0, 0, 0, 0] rfl, rfl, rfl, t44, rfl⟩))
      ·refine bW [] rfl cq rfl (bm x35 none (fi g37)) rfl (fun c A' h => by obtain ⟨_, h, _⟩ := h; cases h) ?_
       rintro av A' ⟨t45, h, rfl⟩; cases h
       show AI _ _ _ _ _ _ #[false, true, true, true, true, true, true, true, false, false, false] _;refine aY (i := 0) (by kernel_rfl) rfl rfl <| bo rfl (ao (i := 2) aC rfl rfl rfl rfl) ?_;show AI _ _ _ _ _ _ #[true, true, true, true, true, true, true, true, false, false, false] _;refine zk 8 rfl (ar rfl) ?_;show AI _ _ _ _ _ _ #[true, true, true, true, true, true, true, true, true, false, false] _;refine zk 9 rfl (al (n := 0) (by kernel_rfl) rfl) ?_;show AI _ _ _ _ _ _ #[true, true, true, true, true, true, true, true, true, true, false] _;refine aY (i := 10) (by kernel_rfl) rfl rfl <| bO (aH (i := 3) (c := slE _ _ _) (by kernel_rfl) rfl rfl rfl rfl (aa rfl)) ?_;show AI _ _ _ _ _ _ #[true, true, true, true, true, true, true, true, true, true, true] _;refine bB rfl ?_;exact And.intro rfl (Exists.intro _ (Exists.intro _ ⟨bu rfl, aF [0, 0, 0, 0] rfl, rfl, rfl, t45, rfl⟩))
    ·refine bo rfl (ao (i := 0) az rfl rfl rfl rfl) ?_;show AI _ _ _ _ _ _ #[false, true, true, true, false, true, false, false, false, false, false] _;refine dW (i := 0) (j := 4) (by kernel_rfl) rfl rfl rfl rfl ?_ ?_
     ·refine bo rfl (ao (i := 1) aC rfl rfl rfl rfl) ?_;show AI _ _ _ _ _ _ #[true, true, true, true, false, true, false, false, false, false, false] _;refine aY (i := 4) (by kernel_rfl) rfl rfl <| bo rfl (ao (i := 2) aj rfl rfl rfl rfl) ?_;show AI _ _ _ _ _ _ #[true, true, true, true, true, true, false, false, false, false, false] _;refine zk 6 rfl (co (E := Enc.byte) aj (by kernel_rfl) rfl rfl g34 e36) ?_;show AI _ _ _ _ _ _ #[true, true, true, true, true, true, true, false, false, false, false] _;refine aY (i := 7) (by kernel_rfl) rfl rfl <| bW [] rfl cq rfl (bm x35 none (fi g37)) rfl (fun c A' h => by obtain ⟨_, h, _⟩ := h; cases h) ?_
      rintro av A' ⟨t46, h, rfl⟩; cases h
      show AI _ _ _ _ _ _ #[true, true, true, true, true, true, true, true, false, false, false] _;refine zk 8 rfl (ar rfl) ?_;show AI _ _ _ _ _ _ #[true, true, true, true, true, true, true, true, true, false, false] _;refine zk 9 rfl (al (n := 0) (by kernel_rfl) rfl) ?_;show AI _ _ _ _ _ _ #[true, true, true, true, true, true, true, true, true, true, false] _;refine aY (i := 10) (by kernel_rfl) rfl rfl <| bO (aH (i := 3) (c := slE _ _ _) (by kernel_rfl) rfl rfl rfl rfl (aa rfl)) ?_;show AI _ _ _ _ _ _ #[true, true, true, true, true, true, true, true, true, true, true] _;refine bB rfl ?_;exact And.intro rfl (Exists.intro _ (Exists.intro _ ⟨bu rfl, aF [0, 0, 0, 0] rfl, rfl, rfl, t46, rfl⟩))
     ·refine bo rfl (ao (i := 2) aj rfl rfl rfl rfl) ?_;show AI _ _ _ _ _ _ #[false, true, true, true, true, true, false, false, false, false, false] _;refine zk 6 rfl (co (E := Enc.byte) aj (by kernel_rfl) rfl rfl g34 e36) ?_;show AI _ _ _ _ _ _ #[false, true, true, true, true, true, true, false, false, false, false] _;refine dW (i := 0) (j := 7) (by kernel_rfl) rfl rfl rfl rfl ?_ ?_
      ·refine bo rfl (ao (i := 1) aC rfl rfl rfl rfl) ?_;show AI _ _ _ _ _ _ #[true, true, true, true, true, true, true, false, false, false, false] _;refine aY (i := 7) (by kernel_rfl) rfl rfl <| bW [] rfl cq rfl (bm x35 none (fi g37)) rfl (fun c A' h => by obtain ⟨_, h, _⟩ := h; cases h) ?_
       rintro av A' ⟨t47, h, rfl⟩; cases h
       show AI _ _ _ _ _ _ #[true, true, true, true, true, true, true, true, false, false, false] _;refine zk 8 rfl (ar rfl) ?_;show AI _ _ _ _ _ _ #[true, true, true, true, true, true, true, true, true, false, false] _;refine zk 9 rfl (al (n := 0) (by kernel_rfl) rfl) ?_;show AI _ _ _ _ _ _ #[true, true, true, true, true, true, true, true, true, true, false] _;refine aY (i := 10) (by kernel_rfl) rfl rfl <| bO (aH (i := 3) (c := slE _ _ _) (by kernel_rfl) rfl rfl rfl rfl (aa rfl)) ?_;show AI _ _ _ _ _ _ #[true, true, true, true, true, true, true, true, true, true, true] _;refine bB rfl ?_;exact And.intro rfl (Exists.intro _ (Exists.intro _ ⟨bu rfl, aF [0, 0, 0, 0] rfl, rfl, rfl, t47, rfl⟩))
      ·refine bW [] rfl cq rfl (bm x35 none (fi g37)) rfl (fun c A' h => by obtain ⟨_, h, _⟩ := h; cases h) ?_
       rintro av A' ⟨t48, h, rfl⟩; cases h
       show AI _ _ _ _ _ _ #[false, true, true, true, true, true, true, true, false, false, false] _;refine aY (i := 0) (by kernel_rfl) rfl rfl <| bo rfl (ao (i := 2) aC rfl rfl rfl rfl) ?_;show AI _ _ _ _ _ _ #[true, true, true, true, true, true, true, true, false, false, false] _;refine zk 8 rfl (ar rfl) ?_;show AI _ _ _ _ _ _ #[true, true, true, true, true, true, true, true, true, false, false] _;refine zk 9 rfl (al (n := 0) (by kernel_rfl) rfl) ?_;show AI _ _ _ _ _ _ #[true, true, true, true, true, true, true, true, true, true, false] _;refine aY (i := 10) (by kernel_rfl) rfl rfl <| bO (aH (i := 3) (c := slE _ _ _) (by kernel_rfl) rfl rfl rfl rfl (aa rfl)) ?_;show AI _ _ _ _ _ _ #[true, true, true, true, true, true, true, true, true, true, true] _;refine bB rfl ?_;exact And.intro rfl (Exists.intro _ (Exists.intro _ ⟨bu rfl, aF [0, 0, 0, 0] rfl, rfl, rfl, t48, rfl⟩))
   ·refine bo rfl (ao (i := 0) az rfl rfl rfl rfl) ?_;show AI _ _ _ _ _ _ #[false, false, false, false, false, true, false, false, false, false, false] _;refine dW (i := 0) (j := 1) (by kernel_rfl) rfl rfl rfl rfl ?_ ?_
    ·refine bo rfl (ao (i := 1) aC rfl rfl rfl rfl) ?_;show AI _ _ _ _ _ _ #[true, false, false, false, false, true, false, false, false, false, false] _;refine aY (i := 1) (by kernel_rfl) rfl rfl <| bo rfl (ao (i := 1) aC rfl rfl rfl rfl) ?_;show AI _ _ _ _ _ _ #[true, true, false, false, false, true, false, false, false, false, false] _;refine zk 2 rfl (ar rfl) ?_;show AI _ _ _ _ _ _ #[true, true, true, false, false, true, false, false, false, false, false] _;refine zk 3 rfl (al (n := 0) (by kernel_rfl) rfl) ?_;show AI _ _ _ _ _ _ #[true, true, true, true, false, true, false, false, false, false, false] _;refine aY (i := 4) (by kernel_rfl) rfl rfl <| bo rfl (ao (i := 2) aj rfl rfl rfl rfl) ?_;show AI _ _ _ _ _ _ #[true, true, true, true, true, true, false, false, false, false, false] _;refine zk 6 rfl (co (E := Enc.byte) aj (by kernel_rfl) rfl rfl g34 e36) ?_;show AI _ _ _ _ _ _ #[true, true, true, true, true, true, true, false, false, false, false] _;refine aY (i := 7) (by kernel_rfl) rfl rfl <| bW [] rfl cq rfl (bm x35 none (fi g37)) rfl (fun c A' h => by obtain ⟨_, h, _⟩ := h; cases h) ?_
     rintro av A' ⟨t49, h, rfl⟩; cases h
     show AI _ _ _ _ _ _ #[true, true, true, true, true, true, true, true, false, false, false] _;refine zk 8 rfl (ar rfl) ?_;show AI _ _ _ _ _ _ #[true, true, true, true, true, true, true, true, true, false, false] _;refine zk 9 rfl (al (n := 0) (by kernel_rfl) rfl) ?_;show AI _ _ _ _ _ _ #[true, true, true, true, true, true, true, true, true, true, false] _;refine aY (i := 10) (by kernel_rfl) rfl rfl <| bO (aH (i := 3) (c := slE _ _ _) (by kernel_rfl) rfl rfl rfl rfl (aa rfl)) ?_;show AI _ _ _ _ _ _ #[true, true, true, true, true, true, true, true, true, true, true] _;refine bB rfl ?_;exact And.intro rfl (Exists.intro _ (Exists.intro _ ⟨bu rfl, aF [0, 0, 0, 0] rfl, rfl, rfl, t49, rfl⟩))
    ·refine bo rfl (ao (i := 1) aC rfl rfl rfl rfl) ?_;show AI _ _ _ _ _ _ #[false, true, false, false, false, true, false, false, false, false, false] _;refine zk 2 rfl (ar rfl) ?_;show AI _ _ _ _ _ _ #[false, true, true, false, false, true, false, false, false, false, false] _;refine zk 3 rfl (al (n := 0) (by kernel_rfl) rfl) ?_;show AI _ _ _ _ _ _ #[false, true, true, true, false, true, false, false, false, false, false] _;refine dW (i := 0) (j := 4) (by kernel_rfl) rfl rfl rfl rfl ?_ ?_
     ·refine bo rfl (ao (i := 1) aC rfl rfl rfl rfl) ?_;show AI _ _ _ _ _ _ #[true, true, true, true, false, true, false, false, false, false, false] _;refine aY (i := 4) (by kernel_rfl) rfl rfl <| bo rfl (ao (i := 2) aj rfl rfl rfl rfl) ?_;show AI _ _ _ _ _ _ #[true, true, true, true, true, true, false, false, false, false, false] _;refine zk 6 rfl (co (E := Enc.byte) aj (by kernel_rfl) rfl rfl g34 e36) ?_;show AI _ _ _ _ _ _ #[true, true, true, true, true, true, true, false, false, false, false] _;refine aY (i := 7) (by kernel_rfl) rfl rfl <| bW [] rfl cq rfl (bm x35 none (fi g37)) rfl (fun c A' h => by obtain ⟨_, h, _⟩ := h; cases h) ?_
      rintro av A' ⟨t50, h, rfl⟩; cases h
      show AI _ _ _ _ _ _ #[true, true, true, true, true, true, true, true, false, false, false] _;refine zk 8 rfl (ar rfl) ?_;show AI _ _ _ _ _ _ #[true, true, true, true, true, true, true, true, true, false, false] _;refine zk 9 rfl (al (n := 0) (by kernel_rfl) rfl) ?_;show AI _ _ _ _ _ _ #[true, true, true, true, true, true, true, true, true, true, false] _;refine aY (i := 10) (by kernel_rfl) rfl rfl <| bO (aH (i := 3) (c := slE _ _ _) (by kernel_rfl) rfl rfl rfl rfl (aa rfl)) ?_;show AI _ _ _ _ _ _ #[true, true, true, true, true, true, true, true, true, true, true] _;refine bB rfl ?_;exact And.intro rfl (Exists.intro _ (Exists.intro _ ⟨bu rfl, aF [0, 0, 0, 0] rfl, rfl, rfl, t50, rfl⟩))
     ·refine bo rfl (ao (i := 2) aj rfl rfl rfl rfl) ?_;show AI _ _ _ _ _ _ #[false, true, true, true, true, true, false, false, false, false, false] _;refine zk 6 rfl (co (E := Enc.byte) aj (by kernel_rfl) rfl rfl g34 e36) ?_;show AI _ _ _ _ _ _ #[false, true, true, true, true, true, true, false, false, false, false] _;refine dW (i := 0) (j := 7) (by kernel_rfl) rfl rfl rfl rfl ?_ ?_
      ·refine bo rfl (ao (i := 1) aC rfl rfl rfl rfl) ?_;show AI _ _ _ _ _ _ #[true, true, true, true, true, true, true, false, false, false, false] _;refine aY (i := 7) (by kernel_rfl) rfl rfl <| bW [] rfl cq rfl (bm x35 none (fi g37)) rfl (fun c A' h => by obtain ⟨_, h, _⟩ := h; cases h) ?_
       rintro av A' ⟨t51, h, rfl⟩; cases h
       show AI _ _ _ _ _ _ #[true, true, true, true, true, true, true, true, false, false, false] _;refine zk 8 rfl (ar rfl) ?_;show AI _ _ _ _ _ _ #[true, true, true, true, true, true, true, true, true, false, false] _;refine zk 9 rfl (al (n := 0) (by kernel_rfl) rfl) ?_;show AI _ _ _ _ _ _ #[true, true, true, true, true, true, true, true, true, true, false] _;refine aY (i := 10) (by kernel_rfl) rfl rfl <| bO (aH (i := 3) (c := slE _ _ _) (by kernel_rfl) rfl rfl rfl rfl (aa rfl)) ?_;show AI _ _ _ _ _ _ #[true, true, true, true, true, true, true, true, true, true, true] _;refine bB rfl ?_;exact And.intro rfl (Exists.intro _ (Exists.intro _ ⟨bu rfl, aF [0, 0, 0, 0] rfl, rfl, rfl, t51, rfl⟩))
      ·refine bW [] rfl cq rfl (bm x35 none (fi g37)) rfl (fun c A' h => by obtain ⟨_, h, _⟩ := h; cases h) ?_
       rintro av A' ⟨t52, h, rfl⟩; cases h
       show AI _ _ _ _ _ _ #[false, true, true, true, true, true, true, true, false, false, false] _;refine aY (i := 0) (by kernel_rfl) rfl rfl <| bo rfl (ao (i := 2) aC rfl rfl rfl rfl) ?_;show AI _ _ _ _ _ _ #[true, true, true, true, true, true, true, true, false, false, false] _;refine zk 8 rfl (ar rfl) ?_;show AI _ _ _ _ _ _ #[true, true, true, true, true, true, true, true, true, false, false] _;refine zk 9 rfl (al (n := 0) (by kernel_rfl) rfl) ?_;show AI _ _ _ _ _ _ #[true, true, true, true, true, true, true, true, true, true, false] _;refine aY (i := 10) (by kernel_rfl) rfl rfl <| bO (aH (i := 3) (c := slE _ _ _) (by kernel_rfl) rfl rfl rfl rfl (aa rfl)) ?_;show AI _ _ _ _ _ _ #[true, true, true, true, true, true, true, true, true, true, true] _;refine bB rfl ?_;exact And.intro rfl (Exists.intro _ (Exists.intro _ ⟨bu rfl, aF [0, 0, 0, 0] rfl, rfl, rfl, t52, rfl⟩))
  intro t38;show ALeaves _ _ _ _ _ [] .returning [.tok t38 5, .obj o24 [i64 x27], .obj o11 [.pt o1 0], .obj o1 [slE Enc.byte x35 (some t38), B a4], .obj o12 [slE (am Enc.int (am (Enc.sl Enc.str) (am Enc.int (am Enc.int Enc.int)))) x26 (some t33)], .tok t33 38, .tok t22 5];obtain ⟨rfl, rfl, rfl⟩ := iO H;exact Exists.intro _ (Exists.intro _ ⟨cV rfl ((CellV.one (c := slE _ _ _) 4 aV rfl rfl rfl rfl).oneW (.tok _ _ _)), aF [3, 0] rfl, rfl, t38, rfl⟩)
set_option maxRecDepth 100000 in
set_option maxHeartbeats 1000000 in
theorem lC (F : Nat) (a1 : List UInt8) (q2 : Option Nat) (r3 : List (Int × (List (List UInt8)) × Int × Int × Int)) (r4 : Int) (H : hC F a1 = some (r3, r4)) : ACalls Tryd.prog 18 [slE Enc.byte a1 q2] [] (Ret (.tup [slE (am Enc.int (am (Enc.sl Enc.str) (am Enc.int (am Enc.int Enc.int)))) r3 none, i64 r4]) []) := by
 unfold hC at H
 refine aA Tryd.func18 rfl rfl ?_;show AW _ _ 18 _ _ _;refine af <| ab ?_;show AR _ _ _ _ _ [0, 1] _;refine za rfl <| za rfl <| ag <| af ?_;obtain ⟨_, e5, H⟩ := cK H;refine ab ?_;show AR _ _ _ _ _ [0, 1] _;refine bc rfl rfl (AO.callAt [] rfl en9_repa rfl (mr F e5) rfl (fun c A' h => by obtain ⟨_, h, _⟩ := h; cases h) ?_)
 rintro av A' ⟨o6, h, rfl⟩; cases h
 refine zS rfl (aO (av := .pt _ _) rfl) <| ag <| af ?_;obtain ⟨x8, x9, x10, e11, H⟩ := iZ H;refine ab ?_;show AR _ _ _ _ _ [0, 1, 2, 3] _;refine zS rfl (au (av := .pt _ _) rfl) <| zS rfl (au (av := slE _ _ _) rfl) ?_
 refine AR.nil_objAt 0 0 1 5 rfl rfl fun t7 => ?_
 show AR _ _ _ _ _ _ ⟨_, _, [.tok t7 5, .obj o6 [slE Enc.byte [] (some t7), B false]]⟩;refine bc rfl rfl (AO.callAt [1, 0] rfl qH rfl (pN F o6 [] t7 false a1 q2 x8 x9 x10 e11) rfl (fun c A' h => by cases h.1) ?_)
 rintro av A' ⟨h, t12, rfl⟩; cases h
 refine zS rfl (aO (av := slE _ _ _) rfl) <| ag <| af <| af ?_;obtain ⟨x13, e14, H⟩ := cK H;obtain ⟨x16, e17, H⟩ := fG H;refine ab ?_;show AR _ _ _ _ _ [0, 1, 2, 3, 4, 5, 6] _;refine zS rfl (au (av := .pt _ _) rfl) <| bc rfl rfl (AO.callAt [0, 0] rfl qG rfl (mt F o6 x9 t12 x10 x13 e14) rfl (fun c A' h => by cases h.1) ?_)
 rintro av A' ⟨h, rfl⟩; cases h
 refine zm rfl <| aG (l := []) 16 (B (x13 || (decide (0 < x16)))) (fun K => ?_) ?_
 ·rcases ac x13 with h15 | h15
  ·refine zF h15 rfl <| zF h15 rfl <| zF h15 rfl <| zS rfl (aq (av := .v _) rfl h15 rfl) ?_;exact K _ 3 _ (an (ek h15)) rfl rfl
  ·refine zU h15 rfl (au (av := .pt _ _) rfl) <| zT h15 rfl (AO.callAt [0, 0] rfl qE rfl (oV F o6 x9 t12 x10 x16 (e17 (nf h15))) rfl (fun c A' h => by cases h.1) ?_)
   rintro av A' ⟨h, rfl⟩; cases h
   refine zU h15 rfl (cO rfl rfl) <| zS rfl (ap (av := .v _) rfl h15 rfl) ?_;exact K _ 3 _ (an (eo h15)) rfl rfl
 refine ag <| ay rfl (fun c18 => ?_) (fun c18 => ?_)
 ·replace H := aZ c18 H;refine af <| ab ?_;show AR _ _ _ _ _ [0, 1] _;refine za rfl <| za rfl <| ag <| aL ?_;obtain ⟨rfl, rfl⟩ := fg H;exact And.intro rfl (Exists.intro _ (Exists.intro _ ⟨bi rfl (.nil _) (.refl _), aF [] rfl, rfl, rfl⟩))
 ·replace H := ba c18 H;refine aE <| af <| ab ?_;show AR _ _ _ _ _ [0, 1, 2] _;refine zS rfl (au (av := slE _ _ _) rfl) <| zS rfl (aO (av := slE _ _ _) rfl) <| za rfl <| ag <| aL ?_;obtain ⟨rfl, rfl⟩ := fg H;exact And.intro rfl (Exists.intro _ (Exists.intro _ ⟨bi rfl (.refl _) (.refl _), aF [] rfl, rfl, rfl⟩))
end Go.Proofs.YtimpbfniegimaaaDoor
namespace Go.Pv
def fy : Option Bool :=
some true
def eF (a1 : List (List UInt8)) (a3 : List (List UInt8)) (rec8 : Int → Option Bool) (y7 : Int) : Option Bool :=
bif decide (y7 < (a1.length : Int)) then
  grd (bQ y7 a1.length) <|
  lt (at_ a1 y7) fun x12 =>
  grd (bQ y7 a3.length) <|
  lt (at_ a3 y7) fun x15 =>
  bif !decide (x12 = x15) then
    some false
  else
    grd (okI (y7 + 1)) <|
    rec8 (y7 + 1)
else
  fy
def eE (a1 : List (List UInt8)) (a3 : List (List UInt8)) (n : Nat) : Int → Option Bool :=
  loop (fun rec x => eF a1 a3 rec x) n
def gm (F : Nat) (a1 : List (List UInt8)) (a3 : List (List UInt8)) : Option Bool :=
bif !decide ((a1.length : Int) = (a3.length : Int)) then
  some false
else
  eE a1 a3 F 0
def ig (F : Nat) (a1 : Int) (a2 : List (List UInt8)) (a3 : Int) (a4 : Int) (a5 : Int) (a6 : Int) (a7 : List (List UInt8)) (a8 : Int) (a9 : Int) (a10 : Int) : Option Bool :=
bnd (gm F a2 a7) fun x12 =>
some ((x12 && (decide (a1 = a6))) && ((a3 == a8) && ((a4 == a9) && ((a5 == a10) && true))))
def fx : Option Bool :=
some true
def eD (F : Nat) (a1 : List (Int × (List (List UInt8)) × Int × Int × Int)) (a3 : List (Int × (List (List UInt8)) × Int × Int × Int)) (rec8 : Int → Option Bool) (y7 : Int) : Option Bool :=
bif decide (y7 < (a1.length : Int)) then
  grd (bQ y7 a1.length) <|
  lt (at_ a1 y7) fun x12 =>
  grd (bQ y7 a3.length) <|
  lt (at_ a3 y7) fun x15 =>
  bnd (ig F x12.1 x12.2.1 x12.2.2.1 x12.2.2.2.1 x12.2.2.2.2 x15.1 x15.2.1 x15.2.2.1 x15.2.2.2.1 x15.2.2.2.2) fun x17 =>
  bif !x17 then
    some false
  else
    grd (okI (y7 + 1)) <|
    rec8 (y7 + 1)
else
  fx
def eC (F : Nat) (a1 : List (Int × (List (List UInt8)) × Int × Int × Int)) (a3 : List (Int × (List (List UInt8)) × Int × Int × Int)) (n : Nat) : Int → Option Bool :=
  loop (fun rec x => eD F a1 a3 rec x) n
def gl (F : Nat) (a1 : List (Int × (List (List UInt8)) × Int × Int × Int)) (a3 : List (Int × (List (List UInt8)) × Int × Int × Int)) : Option Bool :=
bif !decide ((a1.length : Int) = (a3.length : Int)) then
  some false
else
  eC F a1 a3 F 0
def fD (F : Nat) : Option Bool :=
kt (hC F ([50, 53, 48, 45, 97, 13, 10, 50, 53, 48, 32, 50, 46, 48, 46, 48, 32, 98, 13, 10] : List UInt8)) fun x3 x4 =>
bnd (kh F) fun _ =>
dK ((decide (x4 = 0)) && (decide ((x3.length : Int) = 1))) (bQ 0 x3.length) <|
lt (at_ x3 0) fun x12 =>
dK (((decide (x4 = 0)) && (decide ((x3.length : Int) = 1))) && (decide (x12.1 = 250))) (bQ 0 x3.length) <|
lt (at_ x3 0) fun x16 =>
dK ((((decide (x4 = 0)) && (decide ((x3.length : Int) = 1))) && (decide (x12.1 = 250))) && (decide ((x16.2.1.length : Int) = 2))) (bQ 0 x3.length) <|
lt (at_ x3 0) fun x20 =>
dK (((((decide (x4 = 0)) && (decide ((x3.length : Int) = 1))) && (decide (x12.1 = 250))) && (decide ((x16.2.1.length : Int) = 2))) && ((x20.2.2.1 == 2) && ((x20.2.2.2.1 == 0) && ((x20.2.2.2.2 == 0) && true)))) (bQ 0 x3.length) <|
lt (at_ x3 0) fun x24 =>
jz (((((decide (x4 = 0)) && (decide ((x3.length : Int) = 1))) && (decide (x12.1 = 250))) && (decide ((x16.2.1.length : Int) = 2))) && ((x20.2.2.1 == 2) && ((x20.2.2.2.1 == 0) && ((x20.2.2.2.2 == 0) && true)))) (iw F x24.1 x24.2.1 x24.2.2.1 x24.2.2.2.1 x24.2.2.2.2) fun x26 =>
jz (((((((decide (x4 = 0)) && (decide ((x3.length : Int) = 1))) && (decide (x12.1 = 250))) && (decide ((x16.2.1.length : Int) = 2))) && ((x20.2.2.1 == 2) && ((x20.2.2.2.1 == 0) && ((x20.2.2.2.2 == 0) && true)))) && x26) || false) (ki F [] false) fun x30 =>
some ((((((((decide (x4 = 0)) && (decide ((x3.length : Int) = 1))) && (decide (x12.1 = 250))) && (decide ((x16.2.1.length : Int) = 2))) && ((x20.2.2.1 == 2) && ((x20.2.2.2.1 == 0) && ((x20.2.2.2.2 == 0) && true)))) && x26) || false) && (!x30))
def fR : Option Bool :=
some true
def ff (a2 : List (List UInt8)) (rec9 : Int → Option Bool) (y8 : Int) : Option Bool :=
bif decide (y8 < (a2.length : Int)) then
  grd (bQ y8 a2.length) <|
  lt (at_ a2 y8) fun x13 =>
  bif decide (600 < (x13.length : Int)) then
    some false
  else
    grd (okI (y8 + 1)) <|
    rec9 (y8 + 1)
else
  fR
def fe (a2 : List (List UInt8)) (n : Nat) : Int → Option Bool :=
  loop (fun rec x => ff a2 rec x) n
def gY (F : Nat) (a1 : Int) (a2 : List (List UInt8)) (a3 : Int) (a4 : Int) (a5 : Int) : Option Bool :=
bif decide (120 < (a2.length : Int)) then
  some false
else
  fe a2 F 0
end Go.Pv
namespace Go.Proofs.YtimpbfniegimaaaDoor
open Go.RowKit Go.Av Go.Pv
theorem en9_repl : ∀ (args : Array Value) (w : World), (callFunc 9 args).run Tryd.prog w = .ok (.enter 9 args) w := fun _ _ => by kernel_rfl
theorem qF : ∀ (args : Array Value) (w : World), (callFunc 13 args).run Tryd.prog w = .ok (.enter 13 args) w := fun _ _ => by kernel_rfl
theorem qD : ∀ (args : Array Value) (w : World), (callFunc 18 args).run Tryd.prog w = .ok (.enter 18 args) w := fun _ _ => by kernel_rfl
theorem qA : ∀ (args : Array Value) (w : World), (callFunc 21 args).run Tryd.prog w = .ok (.enter 21 args) w := fun _ _ => by kernel_rfl
theorem qy : ∀ (args : Array Value) (w : World), (callFunc 26 args).run Tryd.prog w = .ok (.enter 26 args) w := fun _ _ => by kernel_rfl
theorem qs : ∀ (args : Array Value) (w : World), (callFunc 37 args).run Tryd.prog w = .ok (.enter 37 args) w := fun _ _ => by kernel_rfl
set_option maxRecDepth 100000 in
set_option maxHeartbeats 1000000 in
theorem mW (F : Nat) (a1 : List (List UInt8)) (q2 : Option Nat) (a3 : List (List UInt8)) (q4 : Option Nat) (r5 : Bool) (H : gm F a1 a3 = some r5) : ACalls Tryd.prog 37 [slE Enc.str a1 q2, slE Enc.str a3 q4] [] (Ret (B r5) []) := by
 unfold gm at H
 refine aA Tryd.func37 rfl rfl ?_;show AW _ _ 26 _ _ _;refine af <| ab ?_;show AR _ _ _ _ _ [0] _;refine za rfl <| ag <| af <| af <| ab ?_;show AR _ _ _ _ _ [0, 1, 2, 3, 4] _;refine zS rfl (au (av := slE _ _ _) rfl) <| zS rfl (aR ai rfl) <| zS rfl (au (av := slE _ _ _) rfl) <| zS rfl (aR ai rfl) <| zS rfl (fV rfl rfl) <| ag <| ay rfl (fun c6 => ?_) (fun c6 => ?_)
 ·replace H := aZ c6 H;refine af <| ab ?_;show AR _ _ _ _ _ [0] _;refine za rfl <| ag <| aL ?_;obtain rfl := ak H;exact And.intro rfl (Exists.intro _ (Exists.intro _ ⟨aK rfl (.refl _), aF [] rfl, rfl, rfl⟩))
 ·replace H := ba c6 H;refine aE <| bx (X := Unit) (fun _ => ⟨[], [], []⟩) (fun _ => fy = some r5) ?_ ?_
  ·refine af <| ab ?_;show AR _ _ _ _ _ [0] _;refine za rfl <| ag <| aW <| cf (X := Nat × Int) (fun (n9, y7) => ⟨[(0, slE Enc.str a1 q2), (1, slE Enc.str a3 q4), (5, i64 y7)], [], []⟩) (fun (n9, y7) => eE a1 a3 n9 y7 = some r5) (fun (n9, y7) => n9) (F, 0) H (aX [] (.cons (.refl _) (.cons (.refl _) (.cons (.refl _) (.nil _)))) rfl) ?_;rintro ⟨n9, y7⟩ H;obtain ⟨n9, rfl, H⟩ := cP H;replace H : eF a1 a3 (eE a1 a3 n9) y7 = some r5 := H
   unfold eF at H
   refine af <| af <| ab ?_;show AR _ _ _ _ _ [0, 1, 2, 3] _;refine zm rfl <| zS rfl (au (av := slE _ _ _) rfl) <| zS rfl (aR ai rfl) <| zS rfl (bA rfl rfl) <| ag <| ay rfl (fun c10 => ?_) (fun c10 => ?_)
   ·replace H := aZ c10 H;refine aE <| af <| aW <| af ?_;obtain ⟨g11, H⟩ := aI H;obtain ⟨x12, e13, H⟩ := bp H;obtain ⟨g14, H⟩ := aI H;obtain ⟨x15, e16, H⟩ := bp H;refine bL (by kernel_rfl) ?_;show AI _ _ _ _ _ 9 (Array.replicate 9 false) _;refine zk 0 rfl (au (av := slE _ _ _) rfl) ?_;show AI _ _ _ _ _ _ #[true, false, false, false, false, false, false, false, false] _;refine zk 1 rfl (mv rfl) ?_;show AI _ _ _ _ _ _ #[true, true, false, false, false, false, false, false, false] _;refine zk 2 rfl (bk (E := Enc.str) ai (by kernel_rfl) rfl rfl g11 e13) ?_;show AI _ _ _ _ _ _ #[true, true, true, false, false, false, false, false, false] _;refine zk 3 rfl (aD ah rfl rfl) ?_;show AI _ _ _ _ _ _ #[true, true, true, true, false, false, false, false, false] _;refine zk 4 rfl (au (av := slE _ _ _) rfl) ?_;show AI _ _ _ _ _ _ #[true, true, true, true, true, false, false, false, false] _;refine zk 5 rfl (mv rfl) ?_;show AI _ _ _ _ _ _ #[true, true, true, true, true, true, false, false, false] _;refine zk 6 rfl (bk (E := Enc.str) ai (by kernel_rfl) rfl rfl g14 e16) ?_;show AI _ _ _ _ _ _ #[true, true, true, true, true, true, true, false, false] _;refine zk 7 rfl (aD ah rfl rfl) ?_;show AI _ _ _ _ _ _ #[true, true, true, true, true, true, true, true, false] _;refine zk 8 rfl (opS_nes rfl rfl) ?_;show AI _ _ _ _ _ _ #[true, true, true, true, true, true, true, true, true] _;refine bB rfl <| ay rfl (fun c17 => ?_) (fun c17 => ?_)
    ·replace H := aZ c17 H;refine af <| ab ?_;show AR _ _ _ _ _ [0] _;refine za rfl <| ag <| aL ?_;obtain rfl := ak H;exact And.intro rfl (Exists.intro _ (Exists.intro _ ⟨aK rfl (.refl _), aF [] rfl, rfl, rfl⟩))
    ·replace H := ba c17 H;refine aE ?_;obtain ⟨g18, H⟩ := aI H;refine ab ?_;show AR _ _ _ _ _ [0, 1, 2] _;refine zm rfl <| zS rfl (dk rfl rfl g18) <| za rfl <| ag ?_;exact Exists.intro (n9, y7 + 1) ⟨H, Nat.lt_succ_self _, aX [] (.cons (.refl _) (.cons (.refl _) (.cons (.refl _) (.nil _)))) rfl⟩
   ·replace H := ba c10 H;refine cg ?_;exact Exists.intro () ⟨H, aX [] (.nil _) rfl⟩
  rintro _ H;replace H : fy = some r5 := H
  unfold fy at H
  refine af <| ab ?_;show AR _ _ _ _ _ [0] _;refine za rfl <| ag <| aL ?_;obtain rfl := ak H;exact And.intro rfl (Exists.intro _ (Exists.intro _ ⟨aK rfl (.refl _), aF [] rfl, rfl, rfl⟩))
set_option maxRecDepth 100000 in
set_option maxHeartbeats 1000000 in
theorem mT (F : Nat) (a1 : Int) (a2 : List (List UInt8)) (a3 : Int) (a4 : Int) (a5 : Int) (a6 : Int) (a7 : List (List UInt8)) (a8 : Int) (a9 : Int) (a10 : Int) (r11 : Bool) (H : ig F a1 a2 a3 a4 a5 a6 a7 a8 a9 a10 = some r11) : ACalls Tryd.prog 26 [.agg [i64 a1, slE Enc.str a2 none, i64 a3, i64 a4, i64 a5], .agg [i64 a6, slE Enc.str a7 none, i64 a8, i64 a9, i64 a10]] [] (Ret (B r11) []) := by
 unfold ig at H
 refine aA Tryd.func26 rfl rfl ?_;show AW _ _ 26 _ _ _;refine af <| ab ?_;show AR _ _ _ _ _ [0, 1, 2] _;refine zR rfl (dN rfl (.inr ⟨_, rfl⟩)) <| zR rfl (dN rfl (.inr ⟨_, rfl⟩)) <| za rfl <| ag <| af ?_;obtain ⟨x12, e13, H⟩ := cK H;refine ab ?_;show AR _ _ _ _ _ [0, 1, 2, 3, 4, 5] _;refine zS rfl (ax (n := 1) (by kernel_rfl) rfl (aa rfl)) <| zS rfl (aD ai rfl rfl) <| zS rfl (ax (n := 1) (by kernel_rfl) rfl (aa rfl)) <| zS rfl (aD ai rfl rfl) <| bc rfl rfl (aQ rfl qs rfl (mW F a2 none a7 none x12 e13) ?_);refine za rfl <| ag <| af <| ab ?_;show AR _ _ _ _ _ [0, 1, 2, 3, 4, 5, 6, 7, 8, 9, 10, 11, 12, 13, 14, 15] _;refine zm rfl <| zm rfl <| aG (l := [8, 9, 10, 11, 12, 13, 14, 15]) 18 (B (x12 && (decide (a1 = a6)))) (fun K => ?_) ?_
 ·rcases ac x12 with h14 | h14
  ·refine zU h14 rfl (ax (n := 0) (by kernel_rfl) rfl (aa rfl)) <| zU h14 rfl (aD az rfl rfl) <| zU h14 rfl (ax (n := 0) (by kernel_rfl) rfl (aa rfl)) <| zU h14 rfl (aD az rfl rfl) <| zU h14 rfl (bw rfl rfl) <| zS rfl (aq (av := .v _) rfl h14 rfl) ?_;exact K _ 5 _ (an (bJ h14)) rfl rfl
  ·refine zF h14 rfl <| zF h14 rfl <| zF h14 rfl <| zF h14 rfl <| zF h14 rfl <| zS rfl (ap (av := .v _) rfl h14 rfl) ?_;exact K _ 5 _ (an (bK h14)) rfl rfl
 refine zm rfl <| aG (l := [15]) 25 (B ((x12 && (decide (a1 = a6))) && ((a3 == a8) && ((a4 == a9) && ((a5 == a10) && true))))) (fun K => ?_) ?_
 ·rcases ac (x12 && (decide (a1 = a6))) with h15 | h15
  ·refine zU h15 rfl (ax (n := 2) (by kernel_rfl) rfl (aa rfl)) <| zU h15 rfl (bf aB rfl (n := 3) (by kernel_rfl) rfl (aa rfl)) <| zU h15 rfl (ax (n := 2) (by kernel_rfl) rfl (aa rfl)) <| zU h15 rfl (bf aB rfl (n := 3) (by kernel_rfl) rfl (aa rfl)) <| zU h15 rfl (ii (r := (a3 == a8) && ((a4 == a9) && ((a5 == a10) && true))) (.inl rfl) aB az rfl (by kernel_rfl) (by kernel_rfl) rfl rfl rfl rfl) <| zS rfl (aq (av := .v _) rfl h15 rfl) ?_;exact K _ 5 _ (an (bJ h15)) rfl rfl
  ·refine zF h15 rfl <| zF h15 rfl <| zF h15 rfl <| zF h15 rfl <| zF h15 rfl <| zS rfl (ap (av := .v _) rfl h15 rfl) ?_;exact K _ 5 _ (an (bK h15)) rfl rfl
 refine za rfl <| ag <| aL ?_;obtain rfl := ak H;exact And.intro rfl (Exists.intro _ (Exists.intro _ ⟨aK rfl (.refl _), aF [] rfl, rfl, rfl⟩))
set_option maxRecDepth 100000 in
set_option maxHeartbeats 1000000 in
theorem mV (F : Nat) (a1 : List (Int × (List (List UInt8)) × Int × Int × Int)) (q2 : Option Nat) (a3 : List (Int × (List (List UInt8)) × Int × Int × Int)) (q4 : Option Nat) (r5 : Bool) (H : gl F a1 a3 = some r5) : ACalls Tryd.prog 12 [slE (am Enc.int (am (Enc.sl Enc.str) (am Enc.int (am Enc.int Enc.int)))) a1 q2, slE (am Enc.int (am (Enc.sl Enc.str) (am Enc.int (am Enc.int Enc.int)))) a3 q4] [] (Ret (B r5) []) := by
 unfold gl at H
 refine aA Tryd.func12 rfl rfl ?_;show AW _ _ 29 _ _ _;refine af <| ab ?_;show AR _ _ _ _ _ [0] _;refine za rfl <| ag <| af <| af <| ab ?_;show AR _ _ _ _ _ [0, 1, 2, 3, 4] _;refine zS rfl (au (av := slE _ _ _) rfl) <| zS rfl (aR aV rfl) <| zS rfl (au (av := slE _ _ _) rfl) <| zS rfl (aR aV rfl) <| zS rfl (fV rfl rfl) <| ag <| ay rfl (fun c6 => ?_) (fun c6 => ?_)
 ·replace H := aZ c6 H;refine af <| ab ?_;show AR _ _ _ _ _ [0] _;refine za rfl <| ag <| aL ?_;obtain rfl := ak H;exact And.intro rfl (Exists.intro _ (Exists.intro _ ⟨aK rfl (.refl _), aF [] rfl, rfl, rfl⟩))
 ·replace H := ba c6 H;refine aE <| bx (X := Unit) (fun _ => ⟨[], [], []⟩) (fun _ => fx = some r5) ?_ ?_
  ·refine af <| ab ?_;show AR _ _ _ _ _ [0] _;refine za rfl <| ag <| aW <| cf (X := Nat × Int) (fun (n9, y7) => ⟨[(0, slE (am Enc.int (am (Enc.sl Enc.str) (am Enc.int (am Enc.int Enc.int)))) a1 q2), (1, slE (am Enc.int (am (Enc.sl Enc.str) (am Enc.int (am Enc.int Enc.int)))) a3 q4), (5, i64 y7)], [], []⟩) (fun (n9, y7) => eC F a1 a3 n9 y7 = some r5) (fun (n9, y7) => n9) (F, 0) H (aX [] (.cons (.refl _) (.cons (.refl _) (.cons (.refl _) (.nil _)))) rfl) ?_;rintro ⟨n9, y7⟩ H;obtain ⟨n9, rfl, H⟩ := cP H;replace H : eD F a1 a3 (eC F a1 a3 n9) y7 = some r5 := H
   unfold eD at H
   refine af <| af <| ab ?_;show AR _ _ _ _ _ [0, 1, 2, 3] _;refine zm rfl <| zS rfl (au (av := slE _ _ _) rfl) <| zS rfl (aR aV rfl) <| zS rfl (bA rfl rfl) <| ag <| ay rfl (fun c10 => ?_) (fun c10 => ?_)
   ·replace H := aZ c10 H;refine aE <| af <| aW <| af ?_;obtain ⟨g11, H⟩ := aI H;obtain ⟨x12, e13, H⟩ := bp H;obtain ⟨g14, H⟩ := aI H;obtain ⟨x15, e16, H⟩ := bp H;obtain ⟨x17, e18, H⟩ := cK H;refine bL (by kernel_rfl) ?_;show AI _ _ _ _ _ 10 (Array.replicate 10 false) _;refine zk 0 rfl (au (av := slE _ _ _) rfl) ?_;show AI _ _ _ _ _ _ #[true, false, false, false, false, false, false, false, false, false] _;refine zk 1 rfl (mv rfl) ?_;show AI _ _ _ _ _ _ #[true, true, false, false, false, false, false, false, false, false] _;refine zk 2 rfl (bk (E := (am Enc.int (am (Enc.sl Enc.str) (am Enc.int (am Enc.int Enc.int))))) aV (by kernel_rfl) rfl rfl g11 e13) ?_;show AI _ _ _ _ _ _ #[true, true, true, false, false, false, false, false, false, false] _;refine zk 3 rfl (bf aU rfl (n := 5) (by kernel_rfl) rfl (aa rfl)) ?_;show AI _ _ _ _ _ _ #[true, true, true, true, false, false, false, false, false, false] _;refine zk 4 rfl (au (av := slE _ _ _) rfl) ?_;show AI _ _ _ _ _ _ #[true, true, true, true, true, false, false, false, false, false] _;refine zk 5 rfl (mv rfl) ?_;show AI _ _ _ _ _ _ #[true, true, true, true, true, true, false, false, false, false] _;refine zk 6 rfl (bk (E := (am Enc.int (am (Enc.sl Enc.str) (am Enc.int (am Enc.int Enc.int))))) aV (by kernel_rfl) rfl rfl g14 e16) ?_;show AI _ _ _ _ _ _ #[true, true, true, true, true, true, true, false, false, false] _
    refine zk 7 rfl (bf aU rfl (n := 5) (by kernel_rfl) rfl (aa rfl)) ?_;show AI _ _ _ _ _ _ #[true, true, true, true, true, true, true, true, false, false] _;refine aY (i := 8) (by kernel_rfl) rfl rfl <| cw rfl qy rfl (mT F x12.1 x12.2.1 x12.2.2.1 x12.2.2.2.1 x12.2.2.2.2 x15.1 x15.2.1 x15.2.2.1 x15.2.2.2.1 x15.2.2.2.2 x17 e18) ?_;show AI _ _ _ _ _ _ #[true, true, true, true, true, true, true, true, true, false] _;refine zk 9 rfl (asg rfl) ?_;show AI _ _ _ _ _ _ #[true, true, true, true, true, true, true, true, true, true] _;refine bB rfl <| af <| ab ?_;show AR _ _ _ _ _ [0, 1] _;refine zm rfl <| zS rfl (dS rfl) <| ag <| ay rfl (fun c19 => ?_) (fun c19 => ?_)
    ·replace H := aZ c19 H;refine af <| ab ?_;show AR _ _ _ _ _ [0] _;refine za rfl <| ag <| aL ?_;obtain rfl := ak H;exact And.intro rfl (Exists.intro _ (Exists.intro _ ⟨aK rfl (.refl _), aF [] rfl, rfl, rfl⟩))
    ·replace H := ba c19 H;refine aE ?_;obtain ⟨g20, H⟩ := aI H;refine ab ?_;show AR _ _ _ _ _ [0, 1, 2] _;refine zm rfl <| zS rfl (dk rfl rfl g20) <| za rfl <| ag ?_;exact Exists.intro (n9, y7 + 1) ⟨H, Nat.lt_succ_self _, aX [] (.cons (.refl _) (.cons (.refl _) (.cons (.refl _) (.nil _)))) rfl⟩
   ·replace H := ba c10 H;refine cg ?_;exact Exists.intro () ⟨H, aX [] (.nil _) rfl⟩
  rintro _ H;replace H : fx = some r5 := H
  unfold fx at H
  refine af <| ab ?_;show AR _ _ _ _ _ [0] _;refine za rfl <| ag <| aL ?_;obtain rfl := ak H;exact And.intro rfl (Exists.intro _ (Exists.intro _ ⟨aK rfl (.refl _), aF [] rfl, rfl, rfl⟩))
set_option maxRecDepth 100000 in
set_option maxHeartbeats 1000000 in
theorem lZ (F : Nat) (r1 : Bool) (H : fD F = some r1) : ACalls Tryd.prog 8 [] [] (Ret (B r1) []) := by
 unfold fD at H
 refine aA Tryd.func8 rfl rfl ?_;show AW _ _ 56 _ _ _;refine af <| ab ?_;show AR _ _ _ _ _ [0] _;refine za rfl <| ag <| af ?_;obtain ⟨x3, x4, e5, H⟩ := fH H;refine ab ?_;show AR _ _ _ _ _ [0, 1, 2, 3, 4, 5, 6, 7] _;refine zX rfl (pd (E := Enc.byte) (bytes := 1) (xs := [.const _, .const _, .const _, .const _, .const _, .const _, .const _, .const _, .const _, .const _, .const _, .const _, .const _, .const _, .const _, .const _, .const _, .const _, .const _, .const _]) (l := ([50, 53, 48, 45, 97, 13, 10, 50, 53, 48, 32, 50, 46, 48, 46, 48, 32, 98, 13, 10] : List UInt8)) aj (by kernel_rfl) rfl rfl (by decide) rfl rfl) ?_;rintro _ _ ⟨t2, rfl, rfl⟩;refine zR rfl (ml 0 aj bj rfl (by simp) rfl) <| bc rfl rfl (aQ rfl qD rfl (lC F ([50, 53, 48, 45, 97, 13, 10, 50, 53, 48, 32, 50, 46, 48, 46, 48, 32, 98, 13, 10] : List UInt8) (some t2) x3 x4 e5) ?_);refine zS rfl (au (av := .tup _) rfl) <| zS rfl (aN (av := slE _ _ _) rfl rfl) <| zS rfl (aN (av := .v _) rfl rfl) <| zS rfl (aO (av := slE _ _ _) rfl) <| za rfl <| ag <| af ?_;obtain ⟨_, e6, H⟩ := cK H;refine ab ?_;show AR _ _ _ _ _ [0, 1] _;refine bc rfl rfl (AO.callAt [] rfl en9_repl rfl (mr F e6) rfl (fun c A' h => by obtain ⟨_, h, _⟩ := h; cases h) ?_)
 rintro av A' ⟨o7, h, rfl⟩; cases h
 refine zS rfl (aO (av := .pt _ _) rfl) ?_
 refine iu 0 0 1 5 rfl rfl fun t8 => ?_
 show AR _ _ _ _ _ _ ⟨_, _, [.obj o7 [slE Enc.byte [] (some t8), B false], .tok t8 5, .tok t2 5]⟩;refine ag <| af ?_;obtain ⟨g11, H⟩ := ce H;obtain ⟨x12, e13, H⟩ := bp H;obtain ⟨g15, H⟩ := ce H;obtain ⟨x16, e17, H⟩ := bp H;obtain ⟨g19, H⟩ := ce H;obtain ⟨x20, e21, H⟩ := bp H;obtain ⟨g23, H⟩ := ce H;obtain ⟨x24, e25, H⟩ := bp H;obtain ⟨x26, e27, H⟩ := fG H;obtain ⟨x30, e31, H⟩ := fG H;refine ab ?_;show AR _ _ _ _ _ [0, 1, 2, 3, 4, 5, 6, 7, 8, 9, 10, 11, 12, 13, 14, 15, 16, 17, 18, 19, 20, 21, 22, 23, 24, 25, 26, 27, 28, 29, 30, 31, 32, 33, 34, 35, 36, 37, 38, 39, 40, 41, 42, 43, 44, 45] _;refine zm rfl <| zS rfl (bw rfl rfl) <| zm rfl <| aG (l := [7, 8, 9, 10, 11, 12, 13, 14, 15, 16, 17, 18, 19, 20, 21, 22, 23, 24, 25, 26, 27, 28, 29, 30, 31, 32, 33, 34, 35, 36, 37, 38, 39, 40, 41, 42, 43, 44, 45]) 17 (B ((decide (x4 = 0)) && (decide ((x3.length : Int) = 1)))) (fun K => ?_) ?_
 ·rcases ac (decide (x4 = 0)) with h9 | h9
  ·refine zU h9 rfl (au (av := slE _ _ _) rfl) <| zU h9 rfl (aR aV rfl) <| zU h9 rfl (bw rfl rfl) <| zS rfl (aq (av := .v _) rfl h9 rfl) ?_;exact K _ 3 _ (an (bJ h9)) rfl rfl
  ·refine zF h9 rfl <| zF h9 rfl <| zF h9 rfl <| zS rfl (ap (av := .v _) rfl h9 rfl) ?_;exact K _ 3 _ (an (bK h9)) rfl rfl
 refine zm rfl <| aG (l := [14, 15, 16, 17, 18, 19, 20, 21, 22, 23, 24, 25, 26, 27, 28, 29, 30, 31, 32, 33, 34, 35, 36, 37, 38, 39, 40, 41, 42, 43, 44, 45]) 24 (B (((decide (x4 = 0)) && (decide ((x3.length : Int) = 1))) && (decide (x12.1 = 250)))) (fun K => ?_) ?_
 ·rcases ac ((decide (x4 = 0)) && (decide ((x3.length : Int) = 1))) with h10 | h10
  ·refine zU h10 rfl (au (av := slE _ _ _) rfl) <| zU h10 rfl (bk (E := (am Enc.int (am (Enc.sl Enc.str) (am Enc.int (am Enc.int Enc.int))))) aV (by kernel_rfl) rfl rfl (g11 h10) e13) <| zU h10 rfl (ax (n := 0) (by kernel_rfl) rfl (aa rfl)) <| zU h10 rfl (aD az rfl rfl) <| zU h10 rfl (bw rfl rfl) <| zS rfl (aq (av := .v _) rfl h10 rfl) ?_;exact K _ 5 _ (an (bJ h10)) rfl rfl
  ·refine zF h10 rfl <| zF h10 rfl <| zF h10 rfl <| zF h10 rfl <| zF h10 rfl <| zS rfl (ap (av := .v _) rfl h10 rfl) ?_;exact K _ 5 _ (an (bK h10)) rfl rfl
 refine zm rfl <| aG (l := [22, 23, 24, 25, 26, 27, 28, 29, 30, 31, 32, 33, 34, 35, 36, 37, 38, 39, 40, 41, 42, 43, 44, 45]) 32 (B ((((decide (x4 = 0)) && (decide ((x3.length : Int) = 1))) && (decide (x12.1 = 250))) && (decide ((x16.2.1.length : Int) = 2)))) (fun K => ?_) ?_
 ·rcases ac (((decide (x4 = 0)) && (decide ((x3.length : Int) = 1))) && (decide (x12.1 = 250))) with h14 | h14
  ·refine zU h14 rfl (au (av := slE _ _ _) rfl) <| zU h14 rfl (bk (E := (am Enc.int (am (Enc.sl Enc.str) (am Enc.int (am Enc.int Enc.int))))) aV (by kernel_rfl) rfl rfl (g15 h14) e17) <| zU h14 rfl (ax (n := 1) (by kernel_rfl) rfl (aa rfl)) <| zU h14 rfl (aD ai rfl rfl) <| zU h14 rfl (aR ai rfl) <| zU h14 rfl (bw rfl rfl) <| zS rfl (aq (av := .v _) rfl h14 rfl) ?_;exact K _ 6 _ (an (bJ h14)) rfl rfl
  ·refine zF h14 rfl <| zF h14 rfl <| zF h14 rfl <| zF h14 rfl <| zF h14 rfl <| zF h14 rfl <| zS rfl (ap (av := .v _) rfl h14 rfl) ?_;exact K _ 6 _ (an (bK h14)) rfl rfl
 refine zm rfl <| aG (l := [30, 31, 32, 33, 34, 35, 36, 37, 38, 39, 40, 41, 42, 43, 44, 45]) 40 (B (((((decide (x4 = 0)) && (decide ((x3.length : Int) = 1))) && (decide (x12.1 = 250))) && (decide ((x16.2.1.length : Int) = 2))) && ((x20.2.2.1 == 2) && ((x20.2.2.2.1 == 0) && ((x20.2.2.2.2 == 0) && true))))) (fun K => ?_) ?_
 ·rcases ac ((((decide (x4 = 0)) && (decide ((x3.length : Int) = 1))) && (decide (x12.1 = 250))) && (decide ((x16.2.1.length : Int) = 2))) with h18 | h18
  ·refine zU h18 rfl (au (av := slE _ _ _) rfl) <| zU h18 rfl (bk (E := (am Enc.int (am (Enc.sl Enc.str) (am Enc.int (am Enc.int Enc.int))))) aV (by kernel_rfl) rfl rfl (g19 h18) e21) <| zU h18 rfl (ax (n := 2) (by kernel_rfl) rfl (aa rfl)) <| zU h18 rfl (bf aB rfl (n := 3) (by kernel_rfl) rfl (aa rfl)) <| zU h18 rfl (eO (zs := [.int .i64 0, .int .i64 0, .int .i64 0]) (k := 1) (cs := [i64 2, i64 0, i64 0]) aB (by kernel_rfl) (by kernel_rfl) rfl rfl (by kernel_rfl)) <| zU h18 rfl (ii (r := (x20.2.2.1 == 2) && ((x20.2.2.2.1 == 0) && ((x20.2.2.2.2 == 0) && true))) (.inl rfl) aB az rfl (by kernel_rfl) (by kernel_rfl) rfl rfl rfl rfl) <| zS rfl (aq (av := .v _) rfl h18 rfl) ?_;exact K _ 6 _ (an (bJ h18)) rfl rfl
  ·refine zF h18 rfl <| zF h18 rfl <| zF h18 rfl <| zF h18 rfl <| zF h18 rfl <| zF h18 rfl <| zS rfl (ap (av := .v _) rfl h18 rfl) ?_;exact K _ 6 _ (an (bK h18)) rfl rfl
 refine zm rfl <| aG (l := [36, 37, 38, 39, 40, 41, 42, 43, 44, 45]) 46 (B ((((((decide (x4 = 0)) && (decide ((x3.length : Int) = 1))) && (decide (x12.1 = 250))) && (decide ((x16.2.1.length : Int) = 2))) && ((x20.2.2.1 == 2) && ((x20.2.2.2.1 == 0) && ((x20.2.2.2.2 == 0) && true)))) && x26)) (fun K => ?_) ?_
 ·rcases ac (((((decide (x4 = 0)) && (decide ((x3.length : Int) = 1))) && (decide (x12.1 = 250))) && (decide ((x16.2.1.length : Int) = 2))) && ((x20.2.2.1 == 2) && ((x20.2.2.2.1 == 0) && ((x20.2.2.2.2 == 0) && true)))) with h22 | h22
  ·refine zU h22 rfl (au (av := slE _ _ _) rfl) <| zU h22 rfl (bk (E := (am Enc.int (am (Enc.sl Enc.str) (am Enc.int (am Enc.int Enc.int))))) aV (by kernel_rfl) rfl rfl (g23 h22) e25) <| zU h22 rfl (bf aU rfl (n := 5) (by kernel_rfl) rfl (aa rfl)) <| zT h22 rfl (aQ rfl qA rfl (ku F x24.1 x24.2.1 x24.2.2.1 x24.2.2.2.1 x24.2.2.2.2 x26 (e27 h22)) ?_);refine zS rfl (aq (av := .v _) rfl h22 rfl) ?_;exact K _ 4 _ (an (bJ h22)) rfl rfl
  ·refine zF h22 rfl <| zF h22 rfl <| zF h22 rfl <| zF h22 rfl <| zS rfl (ap (av := .v _) rfl h22 rfl) ?_;exact K _ 4 _ (an (bK h22)) rfl rfl
 refine zm rfl <| aG (l := [40, 41, 42, 43, 44, 45]) 50 (B (((((((decide (x4 = 0)) && (decide ((x3.length : Int) = 1))) && (decide (x12.1 = 250))) && (decide ((x16.2.1.length : Int) = 2))) && ((x20.2.2.1 == 2) && ((x20.2.2.2.1 == 0) && ((x20.2.2.2.2 == 0) && true)))) && x26) || false)) (fun K => ?_) ?_
 ·rcases ac ((((((decide (x4 = 0)) && (decide ((x3.length : Int) = 1))) && (decide (x12.1 = 250))) && (decide ((x16.2.1.length : Int) = 2))) && ((x20.2.2.1 == 2) && ((x20.2.2.2.1 == 0) && ((x20.2.2.2.2 == 0) && true)))) && x26) with h28 | h28
  ·refine zU h28 rfl (au (av := .pt _ _) rfl) <| zU h28 rfl (mZ aC rfl rfl) <| zS rfl (aq (av := .v _) rfl h28 rfl) ?_;exact K _ 2 _ (an (ek h28)) rfl rfl
  ·refine zF h28 rfl <| zF h28 rfl <| zS rfl (ap (av := .v _) rfl h28 rfl) ?_;exact K _ 2 _ (an (eo h28)) rfl rfl
 refine zm rfl <| aG (l := [45]) 55 (B ((((((((decide (x4 = 0)) && (decide ((x3.length : Int) = 1))) && (decide (x12.1 = 250))) && (decide ((x16.2.1.length : Int) = 2))) && ((x20.2.2.1 == 2) && ((x20.2.2.2.1 == 0) && ((x20.2.2.2.2 == 0) && true)))) && x26) || false) && (!x30))) (fun K => ?_) ?_
 ·rcases ac (((((((decide (x4 = 0)) && (decide ((x3.length : Int) = 1))) && (decide (x12.1 = 250))) && (decide ((x16.2.1.length : Int) = 2))) && ((x20.2.2.1 == 2) && ((x20.2.2.2.1 == 0) && ((x20.2.2.2.2 == 0) && true)))) && x26) || false) with h29 | h29
  ·refine zU h29 rfl (au (av := .pt _ _) rfl) <| zT h29 rfl (AO.callAt [0, 0] rfl qF rfl (mt F o7 [] t8 false x30 (e31 h29)) rfl (fun c A' h => by cases h.1) ?_)
   rintro av A' ⟨h, rfl⟩; cases h
   refine zU h29 rfl (dS rfl) <| zS rfl (aq (av := .v _) rfl h29 rfl) ?_;exact K _ 3 _ (an (bJ h29)) rfl rfl
  ·refine zF h29 rfl <| zF h29 rfl <| zF h29 rfl <| zS rfl (ap (av := .v _) rfl h29 rfl) ?_;exact K _ 3 _ (an (bK h29)) rfl rfl
 refine za rfl <| ag <| aL ?_;obtain rfl := ak H;exact And.intro rfl (Exists.intro _ (Exists.intro _ ⟨aK rfl (.refl _), aF [] rfl, rfl, rfl⟩))
set_option maxRecDepth 100000 in
set_option maxHeartbeats 1000000 in
theorem nL (F : Nat) (a1 : Int) (a2 : List (List UInt8)) (a3 : Int) (a4 : Int) (a5 : Int) (r6 : Bool) (H : gY F a1 a2 a3 a4 a5 = some r6) : ACalls Tryd.prog 15 [.agg [i64 a1, slE Enc.str a2 none, i64 a3, i64 a4, i64 a5]] [] (Ret (B r6) []) := by
 unfold gY at H
 refine aA Tryd.func15 rfl rfl ?_;show AW _ _ 22 _ _ _;refine af <| ab ?_;show AR _ _ _ _ _ [0, 1] _;refine zR rfl (dN rfl (.inr ⟨_, rfl⟩)) <| za rfl <| ag <| af <| af <| ab ?_;show AR _ _ _ _ _ [0, 1, 2, 3] _;refine zS rfl (ax (n := 1) (by kernel_rfl) rfl (aa rfl)) <| zS rfl (aD ai rfl rfl) <| zS rfl (aR ai rfl) <| zS rfl (cO rfl rfl) <| ag <| ay rfl (fun c7 => ?_) (fun c7 => ?_)
 ·replace H := aZ c7 H;refine af <| ab ?_;show AR _ _ _ _ _ [0] _;refine za rfl <| ag <| aL ?_;obtain rfl := ak H;exact And.intro rfl (Exists.intro _ (Exists.intro _ ⟨aK rfl (.refl _), aF [] rfl, rfl, rfl⟩))
 ·replace H := ba c7 H;refine aE <| bx (X := Unit) (fun _ => ⟨[], [], []⟩) (fun _ => fR = some r6) ?_ ?_
  ·refine af <| ab ?_;show AR _ _ _ _ _ [0] _;refine za rfl <| ag <| aW <| cf (X := Nat × Int) (fun (n10, y8) => ⟨[(1, .cp [i64 a1, slE Enc.str a2 none, i64 a3, i64 a4, i64 a5]), (3, i64 y8)], [], []⟩) (fun (n10, y8) => fe a2 n10 y8 = some r6) (fun (n10, y8) => n10) (F, 0) H (aX [] (.cons (.refl _) (.cons (.refl _) (.nil _))) rfl) ?_;rintro ⟨n10, y8⟩ H;obtain ⟨n10, rfl, H⟩ := cP H;replace H : ff a2 (fe a2 n10) y8 = some r6 := H
   unfold ff at H
   refine af <| af <| ab ?_;show AR _ _ _ _ _ [0, 1, 2, 3, 4] _;refine zm rfl <| zS rfl (ax (n := 1) (by kernel_rfl) rfl (aa rfl)) <| zS rfl (aD ai rfl rfl) <| zS rfl (aR ai rfl) <| zS rfl (bA rfl rfl) <| ag <| ay rfl (fun c11 => ?_) (fun c11 => ?_)
   ·replace H := aZ c11 H;refine aE <| af <| aW <| af ?_;obtain ⟨g12, H⟩ := aI H;obtain ⟨x13, e14, H⟩ := bp H;refine ab ?_;show AR _ _ _ _ _ [0, 1, 2, 3, 4, 5, 6] _;refine zS rfl (ax (n := 1) (by kernel_rfl) rfl (aa rfl)) <| zS rfl (aD ai rfl rfl) <| zm rfl <| zS rfl (bk (E := Enc.str) ai (by kernel_rfl) rfl rfl g12 e14) <| zS rfl (aD ah rfl rfl) <| zS rfl (be ah rfl) <| zS rfl (cO rfl rfl) <| ag <| ay rfl (fun c15 => ?_) (fun c15 => ?_)
    ·replace H := aZ c15 H;refine af <| ab ?_;show AR _ _ _ _ _ [0] _;refine za rfl <| ag <| aL ?_;obtain rfl := ak H;exact And.intro rfl (Exists.intro _ (Exists.intro _ ⟨aK rfl (.refl _), aF [] rfl, rfl, rfl⟩))
    ·replace H := ba c15 H;refine aE ?_;obtain ⟨g16, H⟩ := aI H;refine ab ?_;show AR _ _ _ _ _ [0, 1, 2] _;refine zm rfl <| zS rfl (dk rfl rfl g16) <| za rfl <| ag ?_;exact Exists.intro (n10, y8 + 1) ⟨H, Nat.lt_succ_self _, aX [] (.cons (.refl _) (.cons (.refl _) (.nil _))) rfl⟩
   ·replace H := ba c11 H;refine cg ?_;exact Exists.intro () ⟨H, aX [] (.nil _) rfl⟩
  rintro _ H;replace H : fR = some r6 := H
  unfold fR at H
  refine af <| ab ?_;show AR _ _ _ _ _ [0] _;refine za rfl <| ag <| aL ?_;obtain rfl := ak H;exact And.intro rfl (Exists.intro _ (Exists.intro _ ⟨aK rfl (.refl _), aF [] rfl, rfl, rfl⟩))
end Go.Proofs.YtimpbfniegimaaaDoor
namespace Go.Pv
def dB (y25 : List UInt8) : Option ((List UInt8)) :=
some y25
def dD (rec12 : (Int × (List UInt8)) → Option ((List UInt8))) (y10 : Int) (y11 : List UInt8) : Option ((List UInt8)) :=
bif decide (0 < y10) then
  grd (fO y10 10) <|
  grd (fO y10 10) <|
  grd (okI ((y10 % 10) + 1)) <|
  grd (lT (y10 % 10) ((y10 % 10) + 1) ([48, 49, 50, 51, 52, 53, 54, 55, 56, 57] : List UInt8).length) <|
  lt (sub ([48, 49, 50, 51, 52, 53, 54, 55, 56, 57] : List UInt8) (y10 % 10) ((y10 % 10) + 1)) fun x19 =>
  grd (df (x19.length + y11.length)) <|
  lt (x19 ++ y11) fun x22 =>
  grd (fO y10 10) <|
  rec12 (y10 / 10, x22)
else
  dB y11
def dC (n : Nat) : (Int × (List UInt8)) → Option ((List UInt8)) :=
  loop (fun rec x => dD rec x.1 x.2) n
def fc (F : Nat) (a1 : Int) : Option ((List UInt8)) :=
grd (fO a1 10) <|
grd (fO a1 10) <|
grd (okI ((a1 % 10) + 1)) <|
grd (lT (a1 % 10) ((a1 % 10) + 1) ([48, 49, 50, 51, 52, 53, 54, 55, 56, 57] : List UInt8).length) <|
lt (sub ([48, 49, 50, 51, 52, 53, 54, 55, 56, 57] : List UInt8) (a1 % 10) ((a1 % 10) + 1)) fun x7 =>
grd (fO a1 10) <|
dC F (a1 / 10, x7)
def ec (y30 : List (List UInt8)) : Option ((List (List UInt8))) :=
some y30
def dc (y8 : Int) (rec9 : ((List (List UInt8)) × Int × Int) → Option ((List (List UInt8)))) (y25 : List (List UInt8)) (y27 : Int) : Option ((List (List UInt8))) :=
grd (okI (y8 + 1)) <|
rec9 (y25, y27, y8 + 1)
def cJ (a1 : List UInt8) (a2 : UInt8) (rec9 : ((List (List UInt8)) × Int × Int) → Option ((List (List UInt8)))) (y5 : List (List UInt8)) (y7 : Int) (y8 : Int) : Option ((List (List UInt8))) :=
bif decide (y8 ≤ (a1.length : Int)) then
  dK (!(decide (y8 = (a1.length : Int)))) (bQ y8 a1.length) <|
  lt (at_ a1 y8) fun x14 =>
  bif (decide (y8 = (a1.length : Int))) || (decide (x14 = a2)) then
    grd (lT y7 y8 a1.length) <|
    lt (sub a1 y7 y8) fun x18 =>
    grd (df (y5.length + ([x18] : List (List UInt8)).length)) <|
    lt (y5 ++ ([x18] : List (List UInt8))) fun x22 =>
    grd (okI (y8 + 1)) <|
    dc y8 rec9 x22 (y8 + 1)
  else
    dc y8 rec9 y5 y7
else
  ec y5
def bX (a1 : List UInt8) (a2 : UInt8) (n : Nat) : ((List (List UInt8)) × Int × Int) → Option ((List (List UInt8))) :=
  loop (fun rec x => cJ a1 a2 rec x.1 x.2.1 x.2.2) n
def eR (F : Nat) (a1 : List UInt8) (a2 : UInt8) : Option ((List (List UInt8))) :=
bX a1 a2 F ([], 0, 0)
def eH (y29 : Int) : Option Int :=
some y29
def dA (a1 : List UInt8) (rec12 : (Int × Int) → Option Int) (y10 : Int) (y11 : Int) : Option Int :=
bif decide (y11 < (a1.length : Int)) then
  grd (bQ y11 a1.length) <|
  lt (at_ a1 y11) fun x16 =>
  dK (!(decide ((x16.toNat : Int) < 48))) (bQ y11 a1.length) <|
  lt (at_ a1 y11) fun x20 =>
  bif (decide ((x16.toNat : Int) < 48)) || (decide (57 < (x20.toNat : Int))) then
    some (-1)
  else
    grd (okI (10 * y10)) <|
    grd (bQ y11 a1.length) <|
    lt (at_ a1 y11) fun x25 =>
    grd (okI ((10 * y10) + ((x25 - 48).toNat : Int))) <|
    grd (okI (y11 + 1)) <|
    rec12 ((10 * y10) + ((x25 - 48).toNat : Int), y11 + 1)
else
  eH y10
def dz (a1 : List UInt8) (n : Nat) : (Int × Int) → Option Int :=
  loop (fun rec x => dA a1 rec x.1 x.2) n
def cU (F : Nat) (a1 : List UInt8) : Option Int :=
dK (!((decide ((a1.length : Int) < 1)) || (decide (3 < (a1.length : Int))))) (bQ 0 a1.length) <|
lt (at_ a1 0) fun x6 =>
bif ((decide ((a1.length : Int) < 1)) || (decide (3 < (a1.length : Int)))) || ((decide (x6 = 48)) && (decide (1 < (a1.length : Int)))) then
  some (-1)
else
  dz a1 F (0, 0)
def eB (a1 : Int) (y37 : Int) (y38 : Int) (y39 : Int) : Option (Int × Int × Int) :=
grd (fO a1 100) <|
bif ((!decide (y37 = a1 / 100)) || (decide (y38 < 0))) || (decide (y39 < 0)) then
  some (0, 0, 0)
else
  some (y37, y38, y39)
def eM (F : Nat) (a1 : Int) (a2 : List UInt8) : Option (Int × Int × Int) :=
bnd (eR F a2 32) fun x7 =>
grd (bQ 0 x7.length) <|
lt (at_ x7 0) fun x10 =>
bnd (eR F x10 46) fun x12 =>
dK (!(!decide ((x12.length : Int) = 3))) (fO a1 100) <|
bif (!decide ((x12.length : Int) = 3)) || (decide (a1 / 100 = 3)) then
  some (0, 0, 0)
else
  grd (bQ 0 x12.length) <|
  lt (at_ x12 0) fun x18 =>
  grd (bQ 1 x12.length) <|
  lt (at_ x12 1) fun x21 =>
  grd (bQ 2 x12.length) <|
  lt (at_ x12 2) fun x24 =>
  bnd (cU F x18) fun x26 =>
  bnd (cU F x21) fun x28 =>
  bnd (cU F x24) fun x30 =>
  eB a1 x26 x28 x30
def ey (a1 : List UInt8) : Option Bool :=
some (decide ((a1.length : Int) ≤ 506))
def eA (a1 : List UInt8) (rec4 : Int → Option Bool) (y3 : Int) : Option Bool :=
bif decide (y3 < (a1.length : Int)) then
  grd (bQ y3 a1.length) <|
  lt (at_ a1 y3) fun x8 =>
  dK (!(decide (x8 = 13))) (bQ y3 a1.length) <|
  lt (at_ a1 y3) fun x12 =>
  bif (decide (x8 = 13)) || (decide (x12 = 10)) then
    some false
  else
    grd (okI (y3 + 1)) <|
    rec4 (y3 + 1)
else
  ey a1
def ez (a1 : List UInt8) (n : Nat) : Int → Option Bool :=
  loop (fun rec x => eA a1 rec x) n
def ie (F : Nat) (a1 : List UInt8) : Option Bool :=
ez a1 F 0
def eZ (F : Nat) (a1 : Int) (a2 : List (List UInt8)) (a3 : Int) (a4 : Int) (a5 : Int) : Option Bool :=
grd (okI ((a2.length : Int) - 1)) <|
grd (bQ ((a2.length : Int) - 1) a2.length) <|
lt (at_ a2 ((a2.length : Int) - 1)) fun x25 =>
lR (eM F a1 x25) fun x27 x28 x29 =>
some ((a3 == x27) && ((a4 == x28) && ((a5 == x29) && true)))
def fb (F : Nat) (a1 : Int) (a2 : List (List UInt8)) (a3 : Int) (a4 : Int) (a5 : Int) (rec12 : Int → Option Bool) (y11 : Int) : Option Bool :=
bif decide (y11 < (a2.length : Int)) then
  grd (bQ y11 a2.length) <|
  lt (at_ a2 y11) fun x16 =>
  bnd (ie F x16) fun x18 =>
  bif !x18 then
    some false
  else
    grd (okI (y11 + 1)) <|
    rec12 (y11 + 1)
else
  eZ F a1 a2 a3 a4 a5
def fa (F : Nat) (a1 : Int) (a2 : List (List UInt8)) (a3 : Int) (a4 : Int) (a5 : Int) (n : Nat) : Int → Option Bool :=
  loop (fun rec x => fb F a1 a2 a3 a4 a5 rec x) n
def ga (F : Nat) (a1 : Int) (a2 : List (List UInt8)) (a3 : Int) (a4 : Int) (a5 : Int) : Option Bool :=
bif (((decide (a1 < 200)) || (decide (599 < a1))) || (decide ((a2.length : Int) < 1))) || (decide (100 < (a2.length : Int))) then
  some false
else
  fa F a1 a2 a3 a4 a5 F 0
def dY (y38 : List UInt8) : Option ((List UInt8) × Int) :=
grd (df y38.length) <|
some (y38, 0)
def cI (F : Nat) (a1 : Int) (a2 : List (List UInt8)) (y11 : List UInt8) (y12 : Int) (rec13 : ((List UInt8) × Int) → Option ((List UInt8) × Int)) (y18 : List UInt8) : Option ((List UInt8) × Int) :=
grd (bQ y12 a2.length) <|
lt (at_ a2 y12) fun x21 =>
bnd (fc F a1) fun x23 =>
grd (df (y11.length + x23.length)) <|
lt (y11 ++ x23) fun x26 =>
grd (df (x26.length + y18.length)) <|
lt (x26 ++ y18) fun x29 =>
grd (df (x29.length + x21.length)) <|
lt (x29 ++ x21) fun x32 =>
grd (df (x32.length + ([13, 10] : List UInt8).length)) <|
lt (x32 ++ ([13, 10] : List UInt8)) fun x35 =>
grd (okI (y12 + 1)) <|
rec13 (x35, y12 + 1)
def dZ (F : Nat) (a1 : Int) (a2 : List (List UInt8)) (rec13 : ((List UInt8) × Int) → Option ((List UInt8) × Int)) (y11 : List UInt8) (y12 : Int) : Option ((List UInt8) × Int) :=
bif decide (y12 < (a2.length : Int)) then
  grd (okI ((a2.length : Int) - 1)) <|
  bif decide (y12 = (a2.length : Int) - 1) then
    cI F a1 a2 y11 y12 rec13 ([32] : List UInt8)
  else
    cI F a1 a2 y11 y12 rec13 ([45] : List UInt8)
else
  dY y11
def cr (F : Nat) (a1 : Int) (a2 : List (List UInt8)) (n : Nat) : ((List UInt8) × Int) → Option ((List UInt8) × Int) :=
  loop (fun rec x => dZ F a1 a2 rec x.1 x.2) n
def fC (F : Nat) (a1 : Int) (a2 : List (List UInt8)) (a3 : Int) (a4 : Int) (a5 : Int) : Option ((List UInt8) × Int) :=
bnd (ga F a1 a2 a3 a4 a5) fun x8 =>
bif !x8 then
  some ([], 1)
else
  cr F a1 a2 F (([] : List UInt8), 0)
def er (a1 : List UInt8) : Option ((List UInt8) × Int) :=
bif decide (511 < (a1.length : Int)) then
  some (([] : List UInt8), 2)
else
  some (([] : List UInt8), 0)
def ep (y5 : Int) (rec6 : Int → Option ((List UInt8) × Int)) : Option ((List UInt8) × Int) :=
grd (okI (y5 + 1)) <|
rec6 (y5 + 1)
def fw (x22 : List UInt8) : Option ((List UInt8) × Int) :=
some (x22, 1)
def ew (x22 : List UInt8) (rec25 : Int → Option ((List UInt8) × Int)) (y24 : Int) : Option ((List UInt8) × Int) :=
bif decide (y24 < (x22.length : Int)) then
  grd (bQ y24 x22.length) <|
  lt (at_ x22 y24) fun x29 =>
  bif decide (x29 = 13) then
    some (([] : List UInt8), 2)
  else
    grd (okI (y24 + 1)) <|
    rec25 (y24 + 1)
else
  fw x22
def et (x22 : List UInt8) (n : Nat) : Int → Option ((List UInt8) × Int) :=
  loop (fun rec x => ew x22 rec x) n
def eu (F : Nat) (a1 : List UInt8) (rec6 : Int → Option ((List UInt8) × Int)) (y5 : Int) : Option ((List UInt8) × Int) :=
bif (decide (y5 < (a1.length : Int))) && (decide (y5 < 512)) then
  grd (bQ y5 a1.length) <|
  lt (at_ a1 y5) fun x11 =>
  bif decide (x11 = 10) then
    dK (!(decide (y5 = 0))) (okI (y5 - 1)) <|
    dK (!(decide (y5 = 0))) (bQ (y5 - 1) a1.length) <|
    lt (at_ a1 (y5 - 1)) fun x17 =>
    bif (decide (y5 = 0)) || (!decide (x17 = 13)) then
      some (([] : List UInt8), 2)
    else
      grd (okI (y5 - 1)) <|
      grd (gI (y5 - 1) a1.length) <|
      lt (to_ a1 (y5 - 1)) fun x22 =>
      et x22 F 0
  else
    ep y5 rec6
else
  er a1
def cY (F : Nat) (a1 : List UInt8) (n : Nat) : Int → Option ((List UInt8) × Int) :=
  loop (fun rec x => eu F a1 rec x) n
def ic (F : Nat) (a1 : List UInt8) : Option ((List UInt8) × Int) :=
cY F a1 F 0
def gj (F : Nat) (a1 : List UInt8) : Option Int :=
dK (!(decide ((a1.length : Int) < 4))) (bQ 0 a1.length) <|
lt (at_ a1 0) fun x5 =>
dK (!((decide ((a1.length : Int) < 4)) || (decide (x5 = 48)))) (bQ 3 a1.length) <|
lt (at_ a1 3) fun x9 =>
dK ((!((decide ((a1.length : Int) < 4)) || (decide (x5 = 48)))) && (!decide (x9 = 45))) (bQ 3 a1.length) <|
lt (at_ a1 3) fun x13 =>
bif ((decide ((a1.length : Int) < 4)) || (decide (x5 = 48))) || ((!decide (x9 = 45)) && (!decide (x13 = 32))) then
  some (-1)
else
  grd (gI 3 a1.length) <|
  lt (to_ a1 3) fun x17 =>
  bnd (cU F x17) fun x19 =>
  bif (decide (x19 < 200)) || (decide (599 < x19)) then
    some (-1)
  else
    some x19
def eY (F : Nat) (y12 : Int) (rec16 : (Int × Int × (List (List UInt8))) → Option (Int × (List (List UInt8)) × Int × Int × Int × Int)) (x21 : List UInt8) (x25 : Int) (y40 : List (List UInt8)) : Option (Int × (List (List UInt8)) × Int × Int × Int × Int) :=
grd (okI (y12 + (x21.length : Int))) <|
grd (okI ((y12 + (x21.length : Int)) + 2)) <|
grd (bQ 3 x21.length) <|
lt (at_ x21 3) fun x46 =>
bif decide (x46 = 32) then
  grd (gI 4 x21.length) <|
  lt (dg x21 4) fun x50 =>
  lR (eM F x25 x50) fun x52 x53 x54 =>
  some (x25, y40, x52, x53, x54, (y12 + (x21.length : Int)) + 2)
else
  rec16 ((y12 + (x21.length : Int)) + 2, x25, y40)
def bZ (F : Nat) (a1 : List UInt8) (rec16 : (Int × Int × (List (List UInt8))) → Option (Int × (List (List UInt8)) × Int × Int × Int × Int)) (y12 : Int) (y13 : Int) (y14 : List (List UInt8)) : Option (Int × (List (List UInt8)) × Int × Int × Int × Int) :=
grd (gI y12 a1.length) <|
lt (dg a1 y12) fun x19 =>
kt (ic F x19) fun x21 x22 =>
bif decide (x22 = 0) then
  some (y13, y14, 0, 0, 0, 0)
else
  bnd (gj F x21) fun x25 =>
  bif (((decide (x22 = 2)) || (decide (x25 < 0))) || (decide ((y14.length : Int) = 100))) || ((decide (0 < (y14.length : Int))) && (!decide (x25 = y13))) then
    some (y13, y14, 0, 0, 0, (-1))
  else
    grd (gI 4 x21.length) <|
    lt (dg x21 4) fun x33 =>
    grd (df (y14.length + ([x33] : List (List UInt8)).length)) <|
    lt (y14 ++ ([x33] : List (List UInt8))) fun x37 =>
    eY F y12 rec16 x21 x25 x37
def bI (F : Nat) (a1 : List UInt8) (n : Nat) : (Int × Int × (List (List UInt8))) → Option (Int × (List (List UInt8)) × Int × Int × Int × Int) :=
  loop (fun rec x => bZ F a1 rec x.1 x.2.1 x.2.2) n
def fZ (F : Nat) (a1 : List UInt8) : Option (Int × (List (List UInt8)) × Int × Int × Int × Int) :=
bI F a1 F (0, 0, [])
def cy (F : Nat) (a4 : Bool) (rec23 : ((List (Int × (List (List UInt8)) × Int × Int × Int)) × (List UInt8)) → Option ((List (Int × (List (List UInt8)) × Int × Int × Int)) × (List UInt8) × Bool)) (y19 : List (Int × (List (List UInt8)) × Int × Int × Int)) (y21 : List UInt8) : Option ((List (Int × (List (List UInt8)) × Int × Int × Int)) × (List UInt8) × Bool) :=
bnd (fZ F y21) fun x25 =>
bif decide (x25.2.2.2.2.2 < 0) then
  some (y19, [], true)
else
  bif decide (x25.2.2.2.2.2 = 0) then
    some (y19, y21, a4)
  else
    grd (df (y19.length + ([(x25.1, x25.2.1, (x25.2.2.1, x25.2.2.2.1, x25.2.2.2.2.1))] : List (Int × (List (List UInt8)) × Int × Int × Int)).length)) <|
    lt (y19 ++ ([(x25.1, x25.2.1, (x25.2.2.1, x25.2.2.2.1, x25.2.2.2.2.1))] : List (Int × (List (List UInt8)) × Int × Int × Int))) fun x33 =>
    grd (gI x25.2.2.2.2.2 y21.length) <|
    lt (dg y21 x25.2.2.2.2.2) fun x36 =>
    grd (df x36.length) <|
    rec23 (x33, x36)
def dn (F : Nat) (a4 : Bool) (n : Nat) : ((List (Int × (List (List UInt8)) × Int × Int × Int)) × (List UInt8)) → Option ((List (Int × (List (List UInt8)) × Int × Int × Int)) × (List UInt8) × Bool) :=
  loop (fun rec x => cy F a4 rec x.1 x.2) n
def gW (F : Nat) (a2 : List UInt8) (a4 : Bool) (a5 : List UInt8) : Option ((List (Int × (List (List UInt8)) × Int × Int × Int)) × (List UInt8) × Bool) :=
bif a4 then
  some ([], a2, a4)
else
  grd (df a2.length) <|
  grd (df (a2.length + a5.length)) <|
  lt (a2 ++ a5) fun x16 =>
  dn F a4 F ([], x16)
def gk (F : Nat) (a1 : List UInt8) : Option ((List (Int × (List (List UInt8)) × Int × Int × Int)) × Int) :=
lR (gW F [] false a1) fun x7 x8 x9 =>
bif x9 || (decide (0 < (x8.length : Int))) then
  some ([], 2)
else
  some (x7, 0)
end Go.Pv
namespace Go.Proofs.YtimpbfniegimaaaDoor
open Go.RowKit Go.Av Go.Pv
theorem qC : ∀ (args : Array Value) (w : World), (callFunc 20 args).run Tryd.prog w = .ok (.enter 20 args) w := fun _ _ => by kernel_rfl
theorem qx : ∀ (args : Array Value) (w : World), (callFunc 28 args).run Tryd.prog w = .ok (.enter 28 args) w := fun _ _ => by kernel_rfl
theorem qw : ∀ (args : Array Value) (w : World), (callFunc 29 args).run Tryd.prog w = .ok (.enter 29 args) w := fun _ _ => by kernel_rfl
theorem qv : ∀ (args : Array Value) (w : World), (callFunc 30 args).run Tryd.prog w = .ok (.enter 30 args) w := fun _ _ => by kernel_rfl
theorem mJ : ∀ (args : Array Value) (w : World), (callFunc 31 args).run Tryd.prog w = .ok (.enter 31 args) w := fun _ _ => by kernel_rfl
theorem qr : ∀ (args : Array Value) (w : World), (callFunc 39 args).run Tryd.prog w = .ok (.enter 39 args) w := fun _ _ => by kernel_rfl
theorem mG : ∀ (args : Array Value) (w : World), (callFunc 40 args).run Tryd.prog w = .ok (.enter 40 args) w := fun _ _ => by kernel_rfl
theorem dP : ∀ (args : Array Value) (w : World), (callFunc 41 args).run Tryd.prog w = .ok (.enter 41 args) w := fun _ _ => by kernel_rfl
theorem qm : ∀ (args : Array Value) (w : World), (callFunc 49 args).run Tryd.prog w = .ok (.enter 49 args) w := fun _ _ => by kernel_rfl
theorem ql : ∀ (args : Array Value) (w : World), (callFunc 50 args).run Tryd.prog w = .ok (.enter 50 args) w := fun _ _ => by kernel_rfl
set_option maxRecDepth 100000 in
set_option maxHeartbeats 1000000 in
theorem lu (F : Nat) (a1 : Int) (r2 : List UInt8) (H : fc F a1 = some r2) : ACalls Tryd.prog 28 [i64 a1] [] (Ret (S r2) []) := by
 unfold fc at H
 refine aA Tryd.func28 rfl rfl ?_;show AW _ _ 25 _ _ _;refine af <| ab ?_;show AR _ _ _ _ _ [0] _;refine za rfl <| ag <| af ?_;obtain ⟨g3, H⟩ := aI H;obtain ⟨g4, H⟩ := aI H;obtain ⟨g5, H⟩ := aI H;obtain ⟨g6, H⟩ := aI H;obtain ⟨x7, e8, H⟩ := bp H;refine ab ?_;show AR _ _ _ _ _ [0, 1, 2, 3, 4, 5, 6] _;refine zm rfl <| zS rfl (g_rem rfl rfl g3) <| zm rfl <| zS rfl (g_rem rfl rfl g4) <| zS rfl (dk rfl rfl g5) <| zS rfl (iH ah rfl rfl rfl g6 e8) <| za rfl <| ag <| bx (X := (List UInt8)) (fun y25 => ⟨[(3, S y25)], [], []⟩) (fun y25 => dB y25 = some r2) ?_ ?_
 ·refine af ?_;obtain ⟨g9, H⟩ := aI H;refine ab ?_;show AR _ _ _ _ _ [0, 1, 2] _;refine zm rfl <| zS rfl (np rfl rfl g9) <| za rfl <| ag <| aW <| cf (X := Nat × Int × (List UInt8)) (fun (n13, y10, y11) => ⟨[(0, i64 y10), (3, S y11)], [], []⟩) (fun (n13, y10, y11) => dC n13 (y10, y11) = some r2) (fun (n13, y10, y11) => n13) (F, a1 / 10, x7) H (aX [] (.cons (.refl _) (.cons (.refl _) (.nil _))) rfl) ?_;rintro ⟨n13, y10, y11⟩ H;obtain ⟨n13, rfl, H⟩ := cP H;replace H : dD (dC n13) y10 y11 = some r2 := H
  unfold dD at H
  refine af <| af <| ab ?_;show AR _ _ _ _ _ [0, 1] _;refine zm rfl <| zS rfl (cO rfl rfl) <| ag <| ay rfl (fun c14 => ?_) (fun c14 => ?_)
  ·replace H := aZ c14 H;refine aE <| af <| aW ?_;obtain ⟨g15, H⟩ := aI H;obtain ⟨g16, H⟩ := aI H;obtain ⟨g17, H⟩ := aI H;obtain ⟨g18, H⟩ := aI H;obtain ⟨x19, e20, H⟩ := bp H;obtain ⟨g21, H⟩ := aI H;obtain ⟨x22, e23, H⟩ := bp H;refine ab ?_;show AR _ _ _ _ _ [0, 1, 2, 3, 4, 5, 6, 7, 8] _;refine zm rfl <| zS rfl (g_rem rfl rfl g15) <| zm rfl <| zS rfl (g_rem rfl rfl g16) <| zS rfl (dk rfl rfl g17) <| zS rfl (iH ah rfl rfl rfl g18 e20) <| zm rfl <| zS rfl (lc rfl rfl g21 e23) <| za rfl <| ag ?_;obtain ⟨g24, H⟩ := aI H;refine ab ?_;show AR _ _ _ _ _ [0, 1, 2] _;refine zm rfl <| zS rfl (np rfl rfl g24) <| za rfl <| ag ?_;exact Exists.intro (n13, y10 / 10, x22) ⟨H, Nat.lt_succ_self _, aX [] (.cons (.refl _) (.cons (.refl _) (.nil _))) rfl⟩
  ·replace H := ba c14 H;refine cg ?_;exact Exists.intro y11 ⟨H, aX [] (.cons (.refl _) (.nil _)) rfl⟩
 rintro y25 H;replace H : dB y25 = some r2 := H
 unfold dB at H
 refine af <| ab ?_;show AR _ _ _ _ _ [0, 1] _;refine zm rfl <| za rfl <| ag <| aL ?_;obtain rfl := ak H;exact And.intro rfl (Exists.intro _ (Exists.intro _ ⟨aK rfl (.refl _), aF [] rfl, rfl, rfl⟩))
set_option maxRecDepth 100000 in
set_option maxHeartbeats 1000000 in
theorem jg (F : Nat) (a1 : List UInt8) (a2 : UInt8) (r3 : List (List UInt8)) (H : eR F a1 a2 = some r3) : ACalls Tryd.prog 40 [S a1, u8 a2] [] (Ret (slE Enc.str r3 none) []) := by
 unfold eR at H
 refine aA Tryd.func40 rfl rfl ?_;show AW _ _ 35 _ _ _;refine af <| ab ?_;show AR _ _ _ _ _ [0] _;refine za rfl <| ag <| af <| ab ?_;show AR _ _ _ _ _ [0] _;refine za rfl <| ag ?_
 refine hP 5 1 9 rfl fun t4 => ?_
 show AW _ _ _ _ _ ⟨(5, slE Enc.str [] (some t4)) :: _, _, _⟩;refine af <| ab ?_;show AR _ _ _ _ _ [0] _;refine za rfl <| ag <| bx (X := (List (List UInt8)) × Nat) (fun (y30, t31) => ⟨[(5, slE Enc.str y30 (some t31))], [], [.tok t31 9]⟩) (fun (y30, t31) => ec y30 = some r3) ?_ ?_
 ·refine af <| ab ?_;show AR _ _ _ _ _ [0] _;refine za rfl <| ag <| aW <| cf (X := Nat × (List (List UInt8)) × Nat × Int × Int) (fun (n10, y5, t6, y7, y8) => ⟨[(0, S a1), (1, u8 a2), (5, slE Enc.str y5 (some t6)), (6, i64 y7), (7, i64 y8)], [], [.tok t6 9]⟩) (fun (n10, y5, t6, y7, y8) => bX a1 a2 n10 (y5, y7, y8) = some r3) (fun (n10, y5, t6, y7, y8) => n10) (F, [], t4, 0, 0) H (aX [0] (.cons (.refl _) (.cons (.refl _) (.cons (.refl _) (.cons (.refl _) (.cons (.refl _) (.nil _)))))) rfl) ?_;rintro ⟨n10, y5, t6, y7, y8⟩ H;obtain ⟨n10, rfl, H⟩ := cP H;replace H : cJ a1 a2 (bX a1 a2 n10) y5 y7 y8 = some r3 := H
  unfold cJ at H
  refine af <| af <| ab ?_;show AR _ _ _ _ _ [0, 1, 2, 3] _;refine zm rfl <| zm rfl <| zS rfl (be ah rfl) <| zS rfl (dT rfl rfl) <| ag <| ay rfl (fun c11 => ?_) (fun c11 => ?_)
  ·replace H := aZ c11 H;refine aE <| bx (X := (List (List UInt8)) × Nat × Int) (fun (y25, t26, y27) => ⟨[(0, S a1), (1, u8 a2), (5, slE Enc.str y25 (some t26)), (6, i64 y27), (7, i64 y8)], [], [.tok t26 9]⟩) (fun (y25, t26, y27) => dc y8 (bX a1 a2 n10) y25 y27 = some r3) ?_ ?_
   ·refine aW <| af ?_;obtain ⟨g13, H⟩ := ce H;obtain ⟨x14, e15, H⟩ := bp H;refine ab ?_;show AR _ _ _ _ _ [0, 1, 2, 3, 4, 5, 6, 7, 8, 9, 10] _;refine zm rfl <| zm rfl <| zS rfl (be ah rfl) <| zS rfl (bw rfl rfl) <| zm rfl <| aG (l := []) 24 (B ((decide (y8 = (a1.length : Int))) || (decide (x14 = a2)))) (fun K => ?_) ?_
    ·rcases ac (decide (y8 = (a1.length : Int))) with h12 | h12
     ·refine zF h12 rfl <| zF h12 rfl <| zF h12 rfl <| zF h12 rfl <| zF h12 rfl <| zS rfl (aq (av := .v _) rfl h12 rfl) ?_;exact K _ 5 _ (an (ek h12)) rfl rfl
     ·refine zM h12 rfl <| zM h12 rfl <| zU h12 rfl (aP ah rfl rfl (g13 (nf h12)) e15) <| zM h12 rfl <| zU h12 rfl (dF (a := x14) (b := a2) rfl rfl) <| zS rfl (ap (av := .v _) rfl h12 rfl) ?_;exact K _ 5 _ (an (eo h12)) rfl rfl
    refine ag <| ay rfl (fun c16 => ?_) (fun c16 => ?_)
    ·replace H := aZ c16 H;refine af ?_;obtain ⟨g17, H⟩ := aI H;obtain ⟨x18, e19, H⟩ := bp H;obtain ⟨g21, H⟩ := aI H;obtain ⟨x22, e23, H⟩ := bp H;refine ab ?_;show AR _ _ _ _ _ [0, 1, 2, 3, 4, 5, 6, 7] _;refine zS rfl (au (av := slE _ _ _) rfl) <| zm rfl <| zm rfl <| zm rfl <| zS rfl (iH ah rfl rfl rfl g17 e19) <| zR rfl (gn (E := Enc.str) (bytes := 16) (xs := [.tmp 29]) (l := ([x18] : List (List UInt8))) ai (by kernel_rfl) rfl rfl (by decide) rfl rfl) <| zX rfl (dM (E := Enc.str) (bytes := 16) 0 ai ai rfl (by kernel_rfl) rfl rfl rfl rfl g21 e23) ?_;rintro _ _ ⟨t20, rfl, rfl⟩;refine zS rfl (aO (av := slE _ _ _) rfl) <| ag ?_;obtain ⟨g24, H⟩ := aI H;refine ab ?_;show AR _ _ _ _ _ [0, 1, 2] _;refine zm rfl <| zS rfl (dk rfl rfl g24) <| za rfl <| ag ?_;exact Exists.intro (x22, t20, y8 + 1) ⟨H, aX [0] (.cons (.refl _) (.cons (.refl _) (.cons (.refl _) (.cons (.refl _) (.cons (.refl _) (.nil _)))))) rfl⟩
    ·replace H := ba c16 H;refine aE ?_;exact Exists.intro (y5, t6, y7) ⟨H, aX [0] (.cons (.refl _) (.cons (.refl _) (.cons (.refl _) (.cons (.refl _) (.cons (.refl _) (.nil _)))))) rfl⟩
   rintro ⟨y25, t26, y27⟩ H;replace H : dc y8 (bX a1 a2 n10) y25 y27 = some r3 := H
   unfold dc at H
   obtain ⟨g29, H⟩ := aI H;refine ab ?_;show AR _ _ _ _ _ [0, 1, 2] _;refine zm rfl <| zS rfl (dk rfl rfl g29) <| za rfl <| ag ?_;exact Exists.intro (n10, y25, t26, y27, y8 + 1) ⟨H, Nat.lt_succ_self _, aX [0] (.cons (.refl _) (.cons (.refl _) (.cons (.refl _) (.cons (.refl _) (.cons (.refl _) (.nil _)))))) rfl⟩
  ·replace H := ba c11 H;refine cg ?_;exact Exists.intro (y5, t6) ⟨H, aX [0] (.cons (.refl _) (.nil _)) rfl⟩
 rintro ⟨y30, t31⟩ H;replace H : ec y30 = some r3 := H
 unfold ec at H
 refine af <| ab ?_;show AR _ _ _ _ _ [0, 1] _;refine zS rfl (au (av := slE _ _ _) rfl) <| zS rfl (aO (av := slE _ _ _) rfl) <| ag <| aL ?_;obtain rfl := ak H;exact And.intro rfl (Exists.intro _ (Exists.intro _ ⟨aK rfl (.tok _ _ _), aF [] rfl, rfl, rfl⟩))
set_option maxRecDepth 100000 in
set_option maxHeartbeats 1000000 in
theorem bU (F : Nat) (a1 : List UInt8) (r2 : Int) (H : cU F a1 = some r2) : ACalls Tryd.prog 41 [S a1] [] (Ret (i64 r2) []) := by
 unfold cU at H
 refine aA Tryd.func41 rfl rfl ?_;show AW _ _ 48 _ _ _;refine af <| ab ?_;show AR _ _ _ _ _ [0] _;refine za rfl <| ag <| af <| af ?_;obtain ⟨g5, H⟩ := ce H;obtain ⟨x6, e7, H⟩ := bp H;refine ab ?_;show AR _ _ _ _ _ [0, 1, 2, 3, 4, 5, 6, 7, 8, 9, 10, 11, 12, 13, 14, 15, 16, 17] _;refine zm rfl <| zS rfl (be ah rfl) <| zS rfl (bA rfl rfl) <| zm rfl <| aG (l := [8, 9, 10, 11, 12, 13, 14, 15, 16, 17]) 12 (B ((decide ((a1.length : Int) < 1)) || (decide (3 < (a1.length : Int))))) (fun K => ?_) ?_
 ·rcases ac (decide ((a1.length : Int) < 1)) with h3 | h3
  ·refine zF h3 rfl <| zF h3 rfl <| zF h3 rfl <| zS rfl (aq (av := .v _) rfl h3 rfl) ?_;exact K _ 3 _ (an (ek h3)) rfl rfl
  ·refine zM h3 rfl <| zU h3 rfl (be ah rfl) <| zU h3 rfl (cO rfl rfl) <| zS rfl (ap (av := .v _) rfl h3 rfl) ?_;exact K _ 3 _ (an (eo h3)) rfl rfl
 refine zm rfl <| aG (l := []) 22 (B (((decide ((a1.length : Int) < 1)) || (decide (3 < (a1.length : Int)))) || ((decide (x6 = 48)) && (decide (1 < (a1.length : Int)))))) (fun K => ?_) ?_
 ·rcases ac ((decide ((a1.length : Int) < 1)) || (decide (3 < (a1.length : Int)))) with h4 | h4
  ·refine zF h4 rfl <| zF h4 rfl <| zF h4 rfl <| zF h4 rfl <| gU rfl rfl rfl rfl rfl <| gU rfl rfl rfl rfl rfl <| gU rfl rfl rfl rfl rfl <| zF h4 rfl <| zS rfl (aq (av := .v _) rfl h4 rfl) ?_;exact K _ 8 _ (an (ek h4)) rfl rfl
  ·refine zM h4 rfl <| zU h4 rfl (aP ah rfl rfl (g5 (nf h4)) e7) <| zU h4 rfl (dF (a := x6) (b := 48) rfl rfl) <| zM h4 rfl <| aG (l := [17]) 21 (B ((decide (x6 = 48)) && (decide (1 < (a1.length : Int))))) (fun K => ?_) ?_
   ·rcases ac (decide (x6 = 48)) with h8 | h8
    ·refine zM h8 rfl <| zU h8 rfl (be ah rfl) <| zU h8 rfl (cO rfl rfl) <| zU h4 rfl (aq (av := .v _) rfl h8 rfl) ?_;exact K _ 3 _ (an (bJ h8)) rfl rfl
    ·refine zF h8 rfl <| zF h8 rfl <| zF h8 rfl <| zU h4 rfl (ap (av := .v _) rfl h8 rfl) ?_;exact K _ 3 _ (an (bK h8)) rfl rfl
   refine zS rfl (ap (av := .v _) rfl h4 rfl) ?_;exact K _ 5 _ (an (eo h4)) rfl rfl
 refine ag <| ay rfl (fun c9 => ?_) (fun c9 => ?_)
 ·replace H := aZ c9 H;refine af <| ab ?_;show AR _ _ _ _ _ [0] _;refine za rfl <| ag <| aL ?_;obtain rfl := ak H;exact And.intro rfl (Exists.intro _ (Exists.intro _ ⟨aK rfl (.refl _), aF [] rfl, rfl, rfl⟩))
 ·replace H := ba c9 H;refine aE <| af <| ab ?_;show AR _ _ _ _ _ [0] _;refine za rfl <| ag <| bx (X := Int) (fun y29 => ⟨[(3, i64 y29)], [], []⟩) (fun y29 => eH y29 = some r2) ?_ ?_
  ·refine af <| ab ?_;show AR _ _ _ _ _ [0] _;refine za rfl <| ag <| aW <| cf (X := Nat × Int × Int) (fun (n13, y10, y11) => ⟨[(0, S a1), (3, i64 y10), (4, i64 y11)], [], []⟩) (fun (n13, y10, y11) => dz a1 n13 (y10, y11) = some r2) (fun (n13, y10, y11) => n13) (F, 0, 0) H (aX [] (.cons (.refl _) (.cons (.refl _) (.cons (.refl _) (.nil _)))) rfl) ?_;rintro ⟨n13, y10, y11⟩ H;obtain ⟨n13, rfl, H⟩ := cP H;replace H : dA a1 (dz a1 n13) y10 y11 = some r2 := H
   unfold dA at H
   refine af <| af <| ab ?_;show AR _ _ _ _ _ [0, 1, 2, 3] _;refine zm rfl <| zm rfl <| zS rfl (be ah rfl) <| zS rfl (bA rfl rfl) <| ag <| ay rfl (fun c14 => ?_) (fun c14 => ?_)
   ·replace H := aZ c14 H;refine aE <| af <| aW <| af <| af ?_;obtain ⟨g15, H⟩ := aI H;obtain ⟨x16, e17, H⟩ := bp H;obtain ⟨g19, H⟩ := ce H;obtain ⟨x20, e21, H⟩ := bp H;refine ab ?_;show AR _ _ _ _ _ [0, 1, 2, 3, 4, 5, 6, 7, 8, 9] _;refine zm rfl <| zm rfl <| zS rfl (aP ah rfl rfl g15 e17) <| zS rfl (bA rfl rfl) <| zm rfl <| aG (l := []) 38 (B ((decide ((x16.toNat : Int) < 48)) || (decide (57 < (x20.toNat : Int))))) (fun K => ?_) ?_
    ·rcases ac (decide ((x16.toNat : Int) < 48)) with h18 | h18
     ·refine zF h18 rfl <| zF h18 rfl <| zF h18 rfl <| zF h18 rfl <| zS rfl (aq (av := .v _) rfl h18 rfl) ?_;exact K _ 4 _ (an (ek h18)) rfl rfl
     ·refine zM h18 rfl <| zM h18 rfl <| zU h18 rfl (aP ah rfl rfl (g19 (nf h18)) e21) <| zU h18 rfl (cO rfl rfl) <| zS rfl (ap (av := .v _) rfl h18 rfl) ?_;exact K _ 4 _ (an (eo h18)) rfl rfl
    refine ag <| ay rfl (fun c22 => ?_) (fun c22 => ?_)
    ·replace H := aZ c22 H;refine af <| ab ?_;show AR _ _ _ _ _ [0] _;refine za rfl <| ag <| aL ?_;obtain rfl := ak H;exact And.intro rfl (Exists.intro _ (Exists.intro _ ⟨aK rfl (.refl _), aF [] rfl, rfl, rfl⟩))
    ·replace H := ba c22 H;refine aE ?_;obtain ⟨g23, H⟩ := aI H;obtain ⟨g24, H⟩ := aI H;obtain ⟨x25, e26, H⟩ := bp H;obtain ⟨g27, H⟩ := aI H;refine ab ?_;show AR _ _ _ _ _ [0, 1, 2, 3, 4, 5, 6, 7, 8] _;refine zm rfl <| zS rfl (g_mul rfl rfl g23) <| zm rfl <| zm rfl <| zS rfl (aP ah rfl rfl g24 e26) <| zS rfl (nD (a := x25) (b := 48) rfl rfl) <| zS rfl (kH (c := x25 - 48) (by kernel_rfl) az rfl) <| zS rfl (dk rfl rfl g27) <| za rfl <| ag ?_;obtain ⟨g28, H⟩ := aI H;refine ab ?_;show AR _ _ _ _ _ [0, 1, 2] _;refine zm rfl <| zS rfl (dk rfl rfl g28) <| za rfl <| ag ?_;exact Exists.intro (n13, (10 * y10) + ((x25 - 48).toNat : Int), y11 + 1) ⟨H, Nat.lt_succ_self _, aX [] (.cons (.refl _) (.cons (.refl _) (.cons (.refl _) (.nil _)))) rfl⟩
   ·replace H := ba c14 H;refine cg ?_;exact Exists.intro y10 ⟨H, aX [] (.cons (.refl _) (.nil _)) rfl⟩
  rintro y29 H;replace H : eH y29 = some r2 := H
  unfold eH at H
  refine af <| ab ?_;show AR _ _ _ _ _ [0, 1] _;refine zm rfl <| za rfl <| ag <| aL ?_;obtain rfl := ak H;exact And.intro rfl (Exists.intro _ (Exists.intro _ ⟨aK rfl (.refl _), aF [] rfl, rfl, rfl⟩))
set_option maxRecDepth 100000 in
set_option maxHeartbeats 1000000 in
theorem jO (F : Nat) (a1 : Int) (a2 : List UInt8) (r3 : Int) (r4 : Int) (r5 : Int) (H : eM F a1 a2 = some (r3, r4, r5)) : ACalls Tryd.prog 31 [i64 a1, S a2] [] (Ret (.agg [i64 r3, i64 r4, i64 r5]) []) := by
 unfold eM at H
 refine aA Tryd.func31 rfl rfl ?_;show AW _ _ 51 _ _ _;refine af <| ab ?_;show AR _ _ _ _ _ [0] _;refine zX rfl (cn (zs := [.int .i64 0, .int .i64 0, .int .i64 0]) (by kernel_rfl)) ?_;rintro _ _ ⟨o6, rfl, rfl⟩;refine ag <| af ?_;obtain ⟨x7, e8, H⟩ := cK H;obtain ⟨g9, H⟩ := aI H;obtain ⟨x10, e11, H⟩ := bp H;obtain ⟨x12, e13, H⟩ := cK H;refine ab ?_;show AR _ _ _ _ _ [0, 1, 2, 3, 4, 5] _;refine zm rfl <| bc rfl rfl (aQ rfl mG rfl (jg F a2 32 x7 e8) ?_);refine zS rfl (bk (E := Enc.str) ai (by kernel_rfl) rfl rfl g9 e11) <| zS rfl (aD ah rfl rfl) <| bc rfl rfl (aQ rfl mG rfl (jg F x10 46 x12 e13) ?_);refine zS rfl (aO (av := slE _ _ _) rfl) <| ag <| af <| af ?_;obtain ⟨g15, H⟩ := ce H;refine ab ?_;show AR _ _ _ _ _ [0, 1, 2, 3, 4, 5, 6, 7] _;refine zS rfl (au (av := slE _ _ _) rfl) <| zS rfl (aR ai rfl) <| zS rfl (fV rfl rfl) <| zm rfl <| aG (l := []) 19 (B ((!decide ((x12.length : Int) = 3)) || (decide (a1 / 100 = 3)))) (fun K => ?_) ?_
 ·rcases ac (!decide ((x12.length : Int) = 3)) with h14 | h14
  ·refine zF h14 rfl <| zF h14 rfl <| zF h14 rfl <| zS rfl (aq (av := .v _) rfl h14 rfl) ?_;exact K _ 3 _ (an (ek h14)) rfl rfl
  ·refine zM h14 rfl <| zU h14 rfl (np rfl rfl (g15 (nf h14))) <| zU h14 rfl (bw rfl rfl) <| zS rfl (ap (av := .v _) rfl h14 rfl) ?_;exact K _ 3 _ (an (eo h14)) rfl rfl
 refine ag <| ay rfl (fun c16 => ?_) (fun c16 => ?_)
 ·replace H := aZ c16 H;refine af <| ab ?_;show AR _ _ _ _ _ [0, 1] _;refine zS rfl (eO (zs := [.int .i64 0, .int .i64 0, .int .i64 0]) (k := 1) (cs := [i64 0, i64 0, i64 0]) aB (by kernel_rfl) (by kernel_rfl) rfl rfl (by kernel_rfl)) <| s0 rfl rfl (bg (i := 0) (vs := [i64 0, i64 0, i64 0]) (by kernel_rfl) rfl rfl (by simp [br, slE]) rfl (aa rfl)) <| ag <| aL ?_;obtain ⟨rfl, rfl, rfl⟩ := iO H;exact And.intro rfl (Exists.intro _ (Exists.intro _ ⟨ej (cV rfl (CellV.agg (off := 0) (cs := [i64 0, i64 0, i64 0]) (n := 3) 0 aB rfl (by kernel_rfl) rfl rfl (aa rfl))), aF [] rfl, rfl, rfl⟩))
 ·replace H := ba c16 H;refine aE <| bx (X := Nat × Int × Int × Int) (fun (o36, y37, y38, y39) => ⟨[(0, i64 a1), (4, .pt o6 0), (6, .pt o36 0)], [], [.obj o36 [i64 y37, i64 y38, i64 y39], .obj o6 [i64 0, i64 0, i64 0]]⟩) (fun (o36, y37, y38, y39) => eB a1 y37 y38 y39 = some (r3, r4, r5)) ?_ ?_
  ·obtain ⟨g17, H⟩ := aI H;obtain ⟨x18, e19, H⟩ := bp H;obtain ⟨g20, H⟩ := aI H;obtain ⟨x21, e22, H⟩ := bp H;obtain ⟨g23, H⟩ := aI H;obtain ⟨x24, e25, H⟩ := bp H;obtain ⟨x26, e27, H⟩ := cK H;obtain ⟨x28, e29, H⟩ := cK H;obtain ⟨x30, e31, H⟩ := cK H;refine bL (by kernel_rfl) ?_;show AI _ _ _ _ _ 15 (Array.replicate 15 false) _;refine zk 0 rfl (au (av := slE _ _ _) rfl) ?_;show AI _ _ _ _ _ _ #[true, false, false, false, false, false, false, false, false, false, false, false, false, false, false] _;refine zk 1 rfl (bk (E := Enc.str) ai (by kernel_rfl) rfl rfl g17 e19) ?_;show AI _ _ _ _ _ _ #[true, true, false, false, false, false, false, false, false, false, false, false, false, false, false] _;refine zk 2 rfl (aD ah rfl rfl) ?_;show AI _ _ _ _ _ _ #[true, true, true, false, false, false, false, false, false, false, false, false, false, false, false] _;refine zk 4 rfl (au (av := slE _ _ _) rfl) ?_;show AI _ _ _ _ _ _ #[true, true, true, false, true, false, false, false, false, false, false, false, false, false, false] _;refine zk 5 rfl (bk (E := Enc.str) ai (by kernel_rfl) rfl rfl g20 e22) ?_;show AI _ _ _ _ _ _ #[true, true, true, false, true, true, false, false, false, false, false, false, false, false, false] _;refine zk 6 rfl (aD ah rfl rfl) ?_;show AI _ _ _ _ _ _ #[true, true, true, false, true, true, true, false, false, false, false, false, false, false, false] _;refine zk 8 rfl (au (av := slE _ _ _) rfl) ?_
   show AI _ _ _ _ _ _ #[true, true, true, false, true, true, true, false, true, false, false, false, false, false, false] _;refine zk 9 rfl (bk (E := Enc.str) ai (by kernel_rfl) rfl rfl g23 e25) ?_;show AI _ _ _ _ _ _ #[true, true, true, false, true, true, true, false, true, true, false, false, false, false, false] _;refine zk 10 rfl (aD ah rfl rfl) ?_;show AI _ _ _ _ _ _ #[true, true, true, false, true, true, true, false, true, true, true, false, false, false, false] _;refine dW (i := 3) (j := 13) (by kernel_rfl) rfl rfl rfl rfl ?_ ?_
   ·refine cw rfl dP rfl (bU F x18 x26 e27) ?_;show AI _ _ _ _ _ _ #[true, true, true, true, true, true, true, false, true, true, true, false, false, false, false] _;refine dW (i := 7) (j := 13) (by kernel_rfl) rfl rfl rfl rfl ?_ ?_
    ·refine cw rfl dP rfl (bU F x21 x28 e29) ?_;show AI _ _ _ _ _ _ #[true, true, true, true, true, true, true, true, true, true, true, false, false, false, false] _;refine dW (i := 11) (j := 13) (by kernel_rfl) rfl rfl rfl rfl ?_ ?_
     ·refine cw rfl dP rfl (bU F x24 x30 e31) ?_;show AI _ _ _ _ _ _ #[true, true, true, true, true, true, true, true, true, true, true, true, false, false, false] _;refine zk 12 rfl (eO (zs := [.int .i64 0, .int .i64 0, .int .i64 0]) (k := 1) (cs := [i64 x26, i64 x28, i64 x30]) aB (by kernel_rfl) (by kernel_rfl) rfl rfl (by kernel_rfl)) ?_;show AI _ _ _ _ _ _ #[true, true, true, true, true, true, true, true, true, true, true, true, true, false, false] _;refine aY (i := 13) (by kernel_rfl) rfl rfl <| AIO.opx rfl (cn (zs := [.int .i64 0, .int .i64 0, .int .i64 0]) (by kernel_rfl)) ?_;rintro _ _ ⟨o32, rfl, rfl⟩;show AI _ _ _ _ _ _ #[true, true, true, true, true, true, true, true, true, true, true, true, true, true, false] _;refine aY (i := 14) (by kernel_rfl) rfl rfl <| bO (bg (i := 0) (vs := [i64 x26, i64 x28, i64 x30]) (by kernel_rfl) rfl rfl (by simp [br, slE]) rfl (aa rfl)) ?_;show AI _ _ _ _ _ _ #[true, true, true, true, true, true, true, true, true, true, true, true, true, true, true] _;refine bB rfl ?_;exact Exists.intro (o32, x26, x28, x30) ⟨H, aX [0, 0] (.cons (.refl _) (.cons (.refl _) (.cons (.refl _) (.nil _)))) rfl⟩
     ·refine AIO.opx rfl (cn (zs := [.int .i64 0, .int .i64 0, .int .i64 0]) (by kernel_rfl)) ?_;rintro _ _ ⟨o33, rfl, rfl⟩;show AI _ _ _ _ _ _ #[true, true, true, true, true, true, true, true, true, true, true, false, false, true, false] _;refine aY (i := 11) (by kernel_rfl) rfl rfl <| cw rfl dP rfl (bU F x24 x30 e31) ?_;show AI _ _ _ _ _ _ #[true, true, true, true, true, true, true, true, true, true, true, true, false, true, false] _;refine zk 12 rfl (eO (zs := [.int .i64 0, .int .i64 0, .int .i64 0]) (k := 1) (cs := [i64 x26, i64 x28, i64 x30]) aB (by kernel_rfl) (by kernel_rfl) rfl rfl (by kernel_rfl)) ?_;show AI _ _ _ _ _ _ #[true, true, true, true, true, true, true, true, true, true, true, true, true, true, false] _;refine aY (i := 14) (by kernel_rfl) rfl rfl <| bO (bg (i := 0) (vs := [i64 x26, i64 x28, i64 x30]) (by kernel_rfl) rfl rfl (by simp [br, slE]) rfl (aa rfl)) ?_;show AI _ _ _ _ _ _ #[true, true, true, true, true, true, true, true, true, true, true, true, true, true, true] _;refine bB rfl ?_;exact Exists.intro (o33, x26, x28, x30) ⟨H, aX [0, 0] (.cons (.refl _) (.cons (.refl _) (.cons (.refl _) (.nil _)))) rfl⟩
    ·refine AIO.opx rfl (cn (zs := [.int .i64 0, .int .i64 0, .int .i64 0]) (by kernel_rfl)) ?_;rintro _ _ ⟨o34, rfl, rfl⟩;show AI _ _ _ _ _ _ #[true, true, true, true, true, true, true, false, true, true, true, false, false, true, false] _;refine aY (i := 7) (by kernel_rfl) rfl rfl <| cw rfl dP rfl (bU F x21 x28 e29) ?_;show AI _ _ _ _ _ _ #[true, true, true, true, true, true, true, true, true, true, true, false, false, true, false] _;refine aY (i := 11) (by kernel_rfl) rfl rfl <| cw rfl dP rfl (bU F x24 x30 e31) ?_;show AI _ _ _ _ _ _ #[true, true, true, true, true, true, true, true, true, true, true, true, false, true, false] _;refine zk 12 rfl (eO (zs := [.int .i64 0, .int .i64 0, .int .i64 0]) (k := 1) (cs := [i64 x26, i64 x28, i64 x30]) aB (by kernel_rfl) (by kernel_rfl) rfl rfl (by kernel_rfl)) ?_;show AI _ _ _ _ _ _ #[true, true, true, true, true, true, true, true, true, true, true, true, true, true, false] _;refine aY (i := 14) (by kernel_rfl) rfl rfl <| bO (bg (i := 0) (vs := [i64 x26, i64 x28, i64 x30]) (by kernel_rfl) rfl rfl (by simp [br, slE]) rfl (aa rfl)) ?_;show AI _ _ _ _ _ _ #[true, true, true, true, true, true, true, true, true, true, true, true, true, true, true] _;refine bB rfl ?_;exact Exists.intro (o34, x26, x28, x30) ⟨H, aX [0, 0] (.cons (.refl _) (.cons (.refl _) (.cons (.refl _) (.nil _)))) rfl⟩
   ·refine AIO.opx rfl (cn (zs := [.int .i64 0, .int .i64 0, .int .i64 0]) (by kernel_rfl)) ?_;rintro _ _ ⟨o35, rfl, rfl⟩;show AI _ _ _ _ _ _ #[true, true, true, false, true, true, true, false, true, true, true, false, false, true, false] _;refine aY (i := 3) (by kernel_rfl) rfl rfl <| cw rfl dP rfl (bU F x18 x26 e27) ?_;show AI _ _ _ _ _ _ #[true, true, true, true, true, true, true, false, true, true, true, false, false, true, false] _;refine aY (i := 7) (by kernel_rfl) rfl rfl <| cw rfl dP rfl (bU F x21 x28 e29) ?_;show AI _ _ _ _ _ _ #[true, true, true, true, true, true, true, true, true, true, true, false, false, true, false] _;refine aY (i := 11) (by kernel_rfl) rfl rfl <| cw rfl dP rfl (bU F x24 x30 e31) ?_;show AI _ _ _ _ _ _ #[true, true, true, true, true, true, true, true, true, true, true, true, false, true, false] _;refine zk 12 rfl (eO (zs := [.int .i64 0, .int .i64 0, .int .i64 0]) (k := 1) (cs := [i64 x26, i64 x28, i64 x30]) aB (by kernel_rfl) (by kernel_rfl) rfl rfl (by kernel_rfl)) ?_;show AI _ _ _ _ _ _ #[true, true, true, true, true, true, true, true, true, true, true, true, true, true, false] _;refine aY (i := 14) (by kernel_rfl) rfl rfl <| bO (bg (i := 0) (vs := [i64 x26, i64 x28, i64 x30]) (by kernel_rfl) rfl rfl (by simp [br, slE]) rfl (aa rfl)) ?_;show AI _ _ _ _ _ _ #[true, true, true, true, true, true, true, true, true, true, true, true, true, true, true] _;refine bB rfl ?_
    exact Exists.intro (o35, x26, x28, x30) ⟨H, aX [0, 0] (.cons (.refl _) (.cons (.refl _) (.cons (.refl _) (.nil _)))) rfl⟩
  rintro ⟨o36, y37, y38, y39⟩ H;replace H : eB a1 y37 y38 y39 = some (r3, r4, r5) := H
  unfold eB at H
  refine af <| af ?_;obtain ⟨g41, H⟩ := aI H;refine ab ?_;show AR _ _ _ _ _ [0, 1, 2, 3, 4, 5, 6, 7, 8, 9, 10, 11, 12, 13, 14] _;refine zS rfl (cQ (Ar := 0) (k := 1) (m := 0) aB (by kernel_rfl) rfl rfl rfl (by decide)) <| zR rfl (ao (i := 0) az rfl rfl rfl rfl) <| zm rfl <| zS rfl (np rfl rfl g41) <| zS rfl (fV rfl rfl) <| zm rfl <| aG (l := [10, 11, 12, 13, 14]) 43 (B ((!decide (y37 = a1 / 100)) || (decide (y38 < 0)))) (fun K => ?_) ?_
  ·rcases ac (!decide (y37 = a1 / 100)) with h42 | h42
   ·refine zF h42 rfl <| zF h42 rfl <| zF h42 rfl <| zS rfl (aq (av := .v _) rfl h42 rfl) ?_;exact K _ 3 _ (an (ek h42)) rfl rfl
   ·refine zU h42 rfl (cQ (Ar := 0) (k := 1) (m := 1) aB (by kernel_rfl) rfl rfl rfl (by decide)) <| zT h42 rfl (AO.op rfl rfl (ao (i := 0) az rfl rfl rfl rfl) ?_);refine zU h42 rfl (bA rfl rfl) <| zS rfl (ap (av := .v _) rfl h42 rfl) ?_;exact K _ 3 _ (an (eo h42)) rfl rfl
  refine zm rfl <| aG (l := []) 48 (B (((!decide (y37 = a1 / 100)) || (decide (y38 < 0))) || (decide (y39 < 0)))) (fun K => ?_) ?_
  ·rcases ac ((!decide (y37 = a1 / 100)) || (decide (y38 < 0))) with h43 | h43
   ·refine zF h43 rfl <| zF h43 rfl <| zF h43 rfl <| zS rfl (aq (av := .v _) rfl h43 rfl) ?_;exact K _ 3 _ (an (ek h43)) rfl rfl
   ·refine zU h43 rfl (cQ (Ar := 0) (k := 1) (m := 2) aB (by kernel_rfl) rfl rfl rfl (by decide)) <| zT h43 rfl (AO.op rfl rfl (ao (i := 0) az rfl rfl rfl rfl) ?_);refine zU h43 rfl (bA rfl rfl) <| zS rfl (ap (av := .v _) rfl h43 rfl) ?_;exact K _ 3 _ (an (eo h43)) rfl rfl
  refine ag <| ay rfl (fun c44 => ?_) (fun c44 => ?_)
  ·replace H := aZ c44 H;refine af <| ab ?_;show AR _ _ _ _ _ [0, 1] _;refine zS rfl (eO (zs := [.int .i64 0, .int .i64 0, .int .i64 0]) (k := 1) (cs := [i64 0, i64 0, i64 0]) aB (by kernel_rfl) (by kernel_rfl) rfl rfl (by kernel_rfl)) <| s0 rfl rfl (bg (i := 1) (vs := [i64 0, i64 0, i64 0]) (by kernel_rfl) rfl rfl (by simp [br, slE]) rfl (aa rfl)) <| ag <| aL ?_;obtain ⟨rfl, rfl, rfl⟩ := iO H;exact And.intro rfl (Exists.intro _ (Exists.intro _ ⟨ej (cV rfl (CellV.agg (off := 0) (cs := [i64 0, i64 0, i64 0]) (n := 3) 1 aB rfl (by kernel_rfl) rfl rfl (aa rfl))), aF [] rfl, rfl, rfl⟩))
  ·replace H := ba c44 H;refine aE <| af <| ab ?_;show AR _ _ _ _ _ [0, 1] _;refine zR rfl (cz (i := 0) (n := 3) aB rfl (by kernel_rfl) rfl rfl (aa rfl)) <| s0 rfl rfl (bg (i := 1) (vs := [i64 y37, i64 y38, i64 y39]) (by kernel_rfl) rfl rfl (by simp [br, slE]) rfl (aa rfl)) <| ag <| aL ?_;obtain ⟨rfl, rfl, rfl⟩ := iO H;exact And.intro rfl (Exists.intro _ (Exists.intro _ ⟨ej (cV rfl (CellV.agg (off := 0) (cs := [i64 y37, i64 y38, i64 y39]) (n := 3) 1 aB rfl (by kernel_rfl) rfl rfl (aa rfl))), aF [] rfl, rfl, rfl⟩))
set_option maxRecDepth 100000 in
set_option maxHeartbeats 1000000 in
theorem mR (F : Nat) (a1 : List UInt8) (r2 : Bool) (H : ie F a1 = some r2) : ACalls Tryd.prog 30 [S a1] [] (Ret (B r2) []) := by
 unfold ie at H
 refine aA Tryd.func30 rfl rfl ?_;show AW _ _ 23 _ _ _;refine af <| ab ?_;show AR _ _ _ _ _ [0] _;refine za rfl <| ag <| bx (X := Unit) (fun _ => ⟨[(0, S a1)], [], []⟩) (fun _ => ey a1 = some r2) ?_ ?_
 ·refine af <| ab ?_;show AR _ _ _ _ _ [0] _;refine za rfl <| ag <| aW <| cf (X := Nat × Int) (fun (n5, y3) => ⟨[(0, S a1), (3, i64 y3)], [], []⟩) (fun (n5, y3) => ez a1 n5 y3 = some r2) (fun (n5, y3) => n5) (F, 0) H (aX [] (.cons (.refl _) (.cons (.refl _) (.nil _))) rfl) ?_;rintro ⟨n5, y3⟩ H;obtain ⟨n5, rfl, H⟩ := cP H;replace H : eA a1 (ez a1 n5) y3 = some r2 := H
  unfold eA at H
  refine af <| af <| ab ?_;show AR _ _ _ _ _ [0, 1, 2, 3] _;refine zm rfl <| zm rfl <| zS rfl (be ah rfl) <| zS rfl (bA rfl rfl) <| ag <| ay rfl (fun c6 => ?_) (fun c6 => ?_)
  ·replace H := aZ c6 H;refine aE <| af <| aW <| af ?_;obtain ⟨g7, H⟩ := aI H;obtain ⟨x8, e9, H⟩ := bp H;obtain ⟨g11, H⟩ := ce H;obtain ⟨x12, e13, H⟩ := bp H;refine ab ?_;show AR _ _ _ _ _ [0, 1, 2, 3, 4, 5, 6, 7, 8, 9] _;refine zm rfl <| zm rfl <| zS rfl (aP ah rfl rfl g7 e9) <| zS rfl (dF (a := x8) (b := 13) rfl rfl) <| zm rfl <| aG (l := []) 19 (B ((decide (x8 = 13)) || (decide (x12 = 10)))) (fun K => ?_) ?_
   ·rcases ac (decide (x8 = 13)) with h10 | h10
    ·refine zF h10 rfl <| zF h10 rfl <| zF h10 rfl <| zF h10 rfl <| zS rfl (aq (av := .v _) rfl h10 rfl) ?_;exact K _ 4 _ (an (ek h10)) rfl rfl
    ·refine zM h10 rfl <| zM h10 rfl <| zU h10 rfl (aP ah rfl rfl (g11 (nf h10)) e13) <| zU h10 rfl (dF (a := x12) (b := 10) rfl rfl) <| zS rfl (ap (av := .v _) rfl h10 rfl) ?_;exact K _ 4 _ (an (eo h10)) rfl rfl
   refine ag <| ay rfl (fun c14 => ?_) (fun c14 => ?_)
   ·replace H := aZ c14 H;refine af <| ab ?_;show AR _ _ _ _ _ [0] _;refine za rfl <| ag <| aL ?_;obtain rfl := ak H;exact And.intro rfl (Exists.intro _ (Exists.intro _ ⟨aK rfl (.refl _), aF [] rfl, rfl, rfl⟩))
   ·replace H := ba c14 H;refine aE ?_;obtain ⟨g15, H⟩ := aI H;refine ab ?_;show AR _ _ _ _ _ [0, 1, 2] _;refine zm rfl <| zS rfl (dk rfl rfl g15) <| za rfl <| ag ?_;exact Exists.intro (n5, y3 + 1) ⟨H, Nat.lt_succ_self _, aX [] (.cons (.refl _) (.cons (.refl _) (.nil _))) rfl⟩
  ·replace H := ba c6 H;refine cg ?_;exact Exists.intro () ⟨H, aX [] (.cons (.refl _) (.nil _)) rfl⟩
 rintro _ H;replace H : ey a1 = some r2 := H
 unfold ey at H
 refine af <| ab ?_;show AR _ _ _ _ _ [0, 1, 2, 3] _;refine zm rfl <| zS rfl (be ah rfl) <| zS rfl (dT rfl rfl) <| za rfl <| ag <| aL ?_;obtain rfl := ak H;exact And.intro rfl (Exists.intro _ (Exists.intro _ ⟨aK rfl (.refl _), aF [] rfl, rfl, rfl⟩))
set_option maxRecDepth 100000 in
set_option maxHeartbeats 1000000 in
theorem kA (F : Nat) (a1 : Int) (a2 : List (List UInt8)) (a3 : Int) (a4 : Int) (a5 : Int) (r6 : Bool) (H : ga F a1 a2 a3 a4 a5 = some r6) : ACalls Tryd.prog 20 [.agg [i64 a1, slE Enc.str a2 none, i64 a3, i64 a4, i64 a5]] [] (Ret (B r6) []) := by
 unfold ga at H
 refine aA Tryd.func20 rfl rfl ?_;show AW _ _ 54 _ _ _;refine af <| ab ?_;show AR _ _ _ _ _ [0, 1] _;refine zR rfl (dN rfl (.inr ⟨_, rfl⟩)) <| za rfl <| ag <| af <| af <| ab ?_;show AR _ _ _ _ _ [0, 1, 2, 3, 4, 5, 6, 7, 8, 9, 10, 11, 12, 13, 14, 15, 16, 17, 18, 19] _;refine zS rfl (ax (n := 0) (by kernel_rfl) rfl (aa rfl)) <| zS rfl (aD az rfl rfl) <| zS rfl (bA rfl rfl) <| zm rfl <| aG (l := [8, 9, 10, 11, 12, 13, 14, 15, 16, 17, 18, 19]) 12 (B ((decide (a1 < 200)) || (decide (599 < a1)))) (fun K => ?_) ?_
 ·rcases ac (decide (a1 < 200)) with h7 | h7
  ·refine zF h7 rfl <| zF h7 rfl <| zF h7 rfl <| zS rfl (aq (av := .v _) rfl h7 rfl) ?_;exact K _ 3 _ (an (ek h7)) rfl rfl
  ·refine zU h7 rfl (ax (n := 0) (by kernel_rfl) rfl (aa rfl)) <| zU h7 rfl (aD az rfl rfl) <| zU h7 rfl (cO rfl rfl) <| zS rfl (ap (av := .v _) rfl h7 rfl) ?_;exact K _ 3 _ (an (eo h7)) rfl rfl
 refine zm rfl <| aG (l := [14, 15, 16, 17, 18, 19]) 18 (B (((decide (a1 < 200)) || (decide (599 < a1))) || (decide ((a2.length : Int) < 1)))) (fun K => ?_) ?_
 ·rcases ac ((decide (a1 < 200)) || (decide (599 < a1))) with h8 | h8
  ·refine zF h8 rfl <| zF h8 rfl <| zF h8 rfl <| zF h8 rfl <| zS rfl (aq (av := .v _) rfl h8 rfl) ?_;exact K _ 4 _ (an (ek h8)) rfl rfl
  ·refine zU h8 rfl (ax (n := 1) (by kernel_rfl) rfl (aa rfl)) <| zU h8 rfl (aD ai rfl rfl) <| zU h8 rfl (aR ai rfl) <| zU h8 rfl (bA rfl rfl) <| zS rfl (ap (av := .v _) rfl h8 rfl) ?_;exact K _ 4 _ (an (eo h8)) rfl rfl
 refine zm rfl <| aG (l := []) 24 (B ((((decide (a1 < 200)) || (decide (599 < a1))) || (decide ((a2.length : Int) < 1))) || (decide (100 < (a2.length : Int))))) (fun K => ?_) ?_
 ·rcases ac (((decide (a1 < 200)) || (decide (599 < a1))) || (decide ((a2.length : Int) < 1))) with h9 | h9
  ·refine zF h9 rfl <| zF h9 rfl <| zF h9 rfl <| zF h9 rfl <| zS rfl (aq (av := .v _) rfl h9 rfl) ?_;exact K _ 4 _ (an (ek h9)) rfl rfl
  ·refine zU h9 rfl (ax (n := 1) (by kernel_rfl) rfl (aa rfl)) <| zU h9 rfl (aD ai rfl rfl) <| zU h9 rfl (aR ai rfl) <| zU h9 rfl (cO rfl rfl) <| zS rfl (ap (av := .v _) rfl h9 rfl) ?_;exact K _ 4 _ (an (eo h9)) rfl rfl
 refine ag <| ay rfl (fun c10 => ?_) (fun c10 => ?_)
 ·replace H := aZ c10 H;refine af <| ab ?_;show AR _ _ _ _ _ [0] _;refine za rfl <| ag <| aL ?_;obtain rfl := ak H;exact And.intro rfl (Exists.intro _ (Exists.intro _ ⟨aK rfl (.refl _), aF [] rfl, rfl, rfl⟩))
 ·replace H := ba c10 H;refine aE <| bx (X := Unit) (fun _ => ⟨[(1, .cp [i64 a1, slE Enc.str a2 none, i64 a3, i64 a4, i64 a5])], [], []⟩) (fun _ => eZ F a1 a2 a3 a4 a5 = some r6) ?_ ?_
  ·refine af <| ab ?_;show AR _ _ _ _ _ [0] _;refine za rfl <| ag <| aW <| cf (X := Nat × Int) (fun (n13, y11) => ⟨[(1, .cp [i64 a1, slE Enc.str a2 none, i64 a3, i64 a4, i64 a5]), (3, i64 y11)], [], []⟩) (fun (n13, y11) => fa F a1 a2 a3 a4 a5 n13 y11 = some r6) (fun (n13, y11) => n13) (F, 0) H (aX [] (.cons (.refl _) (.cons (.refl _) (.nil _))) rfl) ?_;rintro ⟨n13, y11⟩ H;obtain ⟨n13, rfl, H⟩ := cP H;replace H : fb F a1 a2 a3 a4 a5 (fa F a1 a2 a3 a4 a5 n13) y11 = some r6 := H
   unfold fb at H
   refine af <| af <| ab ?_;show AR _ _ _ _ _ [0, 1, 2, 3, 4] _;refine zm rfl <| zS rfl (ax (n := 1) (by kernel_rfl) rfl (aa rfl)) <| zS rfl (aD ai rfl rfl) <| zS rfl (aR ai rfl) <| zS rfl (bA rfl rfl) <| ag <| ay rfl (fun c14 => ?_) (fun c14 => ?_)
   ·replace H := aZ c14 H;refine aE <| af <| aW <| af ?_;obtain ⟨g15, H⟩ := aI H;obtain ⟨x16, e17, H⟩ := bp H;obtain ⟨x18, e19, H⟩ := cK H;refine ab ?_;show AR _ _ _ _ _ [0, 1, 2, 3, 4, 5, 6] _;refine zS rfl (ax (n := 1) (by kernel_rfl) rfl (aa rfl)) <| zS rfl (aD ai rfl rfl) <| zm rfl <| zS rfl (bk (E := Enc.str) ai (by kernel_rfl) rfl rfl g15 e17) <| zS rfl (aD ah rfl rfl) <| bc rfl rfl (aQ rfl qv rfl (mR F x16 x18 e19) ?_);refine za rfl <| ag <| af <| ab ?_;show AR _ _ _ _ _ [0, 1] _;refine zm rfl <| zS rfl (dS rfl) <| ag <| ay rfl (fun c20 => ?_) (fun c20 => ?_)
    ·replace H := aZ c20 H;refine af <| ab ?_;show AR _ _ _ _ _ [0] _;refine za rfl <| ag <| aL ?_;obtain rfl := ak H;exact And.intro rfl (Exists.intro _ (Exists.intro _ ⟨aK rfl (.refl _), aF [] rfl, rfl, rfl⟩))
    ·replace H := ba c20 H;refine aE ?_;obtain ⟨g21, H⟩ := aI H;refine ab ?_;show AR _ _ _ _ _ [0, 1, 2] _;refine zm rfl <| zS rfl (dk rfl rfl g21) <| za rfl <| ag ?_;exact Exists.intro (n13, y11 + 1) ⟨H, Nat.lt_succ_self _, aX [] (.cons (.refl _) (.cons (.refl _) (.nil _))) rfl⟩
   ·replace H := ba c14 H;refine cg ?_;exact Exists.intro () ⟨H, aX [] (.cons (.refl _) (.nil _)) rfl⟩
  rintro _ H;replace H : eZ F a1 a2 a3 a4 a5 = some r6 := H
  unfold eZ at H
  refine af ?_;obtain ⟨g23, H⟩ := aI H;obtain ⟨g24, H⟩ := aI H;obtain ⟨x25, e26, H⟩ := bp H;obtain ⟨x27, x28, x29, e30, H⟩ := iZ H;refine bL (by kernel_rfl) ?_;show AI _ _ _ _ _ 15 (Array.replicate 15 false) _;refine zk 0 rfl (ax (n := 2) (by kernel_rfl) rfl (aa rfl)) ?_;show AI _ _ _ _ _ _ #[true, false, false, false, false, false, false, false, false, false, false, false, false, false, false] _;refine zk 1 rfl (bf aB rfl (n := 3) (by kernel_rfl) rfl (aa rfl)) ?_;show AI _ _ _ _ _ _ #[true, true, false, false, false, false, false, false, false, false, false, false, false, false, false] _;refine zk 2 rfl (ax (n := 0) (by kernel_rfl) rfl (aa rfl)) ?_;show AI _ _ _ _ _ _ #[true, true, true, false, false, false, false, false, false, false, false, false, false, false, false] _;refine zk 3 rfl (aD az rfl rfl) ?_;show AI _ _ _ _ _ _ #[true, true, true, true, false, false, false, false, false, false, false, false, false, false, false] _;refine zk 4 rfl (ax (n := 1) (by kernel_rfl) rfl (aa rfl)) ?_;show AI _ _ _ _ _ _ #[true, true, true, true, true, false, false, false, false, false, false, false, false, false, false] _;refine zk 5 rfl (aD ai rfl rfl) ?_;show AI _ _ _ _ _ _ #[true, true, true, true, true, true, false, false, false, false, false, false, false, false, false] _
  refine zk 6 rfl (ax (n := 1) (by kernel_rfl) rfl (aa rfl)) ?_;show AI _ _ _ _ _ _ #[true, true, true, true, true, true, true, false, false, false, false, false, false, false, false] _;refine zk 7 rfl (aD ai rfl rfl) ?_;show AI _ _ _ _ _ _ #[true, true, true, true, true, true, true, true, false, false, false, false, false, false, false] _;refine zk 8 rfl (aR ai rfl) ?_;show AI _ _ _ _ _ _ #[true, true, true, true, true, true, true, true, true, false, false, false, false, false, false] _;refine zk 9 rfl (jd rfl rfl g23) ?_;show AI _ _ _ _ _ _ #[true, true, true, true, true, true, true, true, true, true, false, false, false, false, false] _;refine zk 10 rfl (bk (E := Enc.str) ai (by kernel_rfl) rfl rfl g24 e26) ?_;show AI _ _ _ _ _ _ #[true, true, true, true, true, true, true, true, true, true, true, false, false, false, false] _;refine zk 11 rfl (aD ah rfl rfl) ?_;show AI _ _ _ _ _ _ #[true, true, true, true, true, true, true, true, true, true, true, true, false, false, false] _;refine aY (i := 12) (by kernel_rfl) rfl rfl <| cw rfl mJ rfl (jO F a1 x25 x27 x28 x29 e30) ?_;show AI _ _ _ _ _ _ #[true, true, true, true, true, true, true, true, true, true, true, true, true, false, false] _;refine zk 13 rfl (ii (r := (a3 == x27) && ((a4 == x28) && ((a5 == x29) && true))) (.inl rfl) aB az rfl (by kernel_rfl) (by kernel_rfl) rfl rfl rfl rfl) ?_
  show AI _ _ _ _ _ _ #[true, true, true, true, true, true, true, true, true, true, true, true, true, true, false] _;refine zk 14 rfl (asg rfl) ?_;show AI _ _ _ _ _ _ #[true, true, true, true, true, true, true, true, true, true, true, true, true, true, true] _;refine bB rfl <| aL ?_;obtain rfl := ak H;exact And.intro rfl (Exists.intro _ (Exists.intro _ ⟨aK rfl (.refl _), aF [] rfl, rfl, rfl⟩))
set_option maxRecDepth 100000 in
set_option maxHeartbeats 1000000 in
theorem lY (F : Nat) (a1 : Int) (a2 : List (List UInt8)) (a3 : Int) (a4 : Int) (a5 : Int) (r6 : List UInt8) (r7 : Int) (H : fC F a1 a2 a3 a4 a5 = some (r6, r7)) : ACalls Tryd.prog 17 [.agg [i64 a1, slE Enc.str a2 none, i64 a3, i64 a4, i64 a5]] [] (Ret (.tup [slE Enc.byte r6 none, i64 r7]) []) := by
 unfold fC at H
 refine aA Tryd.func17 rfl rfl ?_;show AW _ _ 41 _ _ _;refine af <| ab ?_;show AR _ _ _ _ _ [0, 1, 2] _;refine zR rfl (dN rfl (.inr ⟨_, rfl⟩)) <| za rfl <| za rfl <| ag <| af ?_;obtain ⟨x8, e9, H⟩ := cK H;refine ab ?_;show AR _ _ _ _ _ [0, 1, 2] _;refine zS rfl (bf aU rfl (n := 5) (by kernel_rfl) rfl (aa rfl)) <| bc rfl rfl (aQ rfl qC rfl (kA F a1 a2 a3 a4 a5 x8 e9) ?_);refine za rfl <| ag <| af <| af <| ab ?_;show AR _ _ _ _ _ [0, 1] _;refine zm rfl <| zS rfl (dS rfl) <| ag <| ay rfl (fun c10 => ?_) (fun c10 => ?_)
 ·replace H := aZ c10 H;refine af <| ab ?_;show AR _ _ _ _ _ [0, 1] _;refine za rfl <| za rfl <| ag <| aL ?_;obtain ⟨rfl, rfl⟩ := fg H;exact And.intro rfl (Exists.intro _ (Exists.intro _ ⟨bi rfl (.nil _) (.refl _), aF [] rfl, rfl, rfl⟩))
 ·replace H := ba c10 H;refine aE <| af <| ab ?_;show AR _ _ _ _ _ [0] _;refine za rfl <| ag <| bx (X := (List UInt8)) (fun y38 => ⟨[(5, S y38)], [], []⟩) (fun y38 => dY y38 = some (r6, r7)) ?_ ?_
  ·refine af <| ab ?_;show AR _ _ _ _ _ [0] _;refine za rfl <| ag <| aW <| cf (X := Nat × (List UInt8) × Int) (fun (n14, y11, y12) => ⟨[(1, .cp [i64 a1, slE Enc.str a2 none, i64 a3, i64 a4, i64 a5]), (5, S y11), (6, i64 y12)], [], []⟩) (fun (n14, y11, y12) => cr F a1 a2 n14 (y11, y12) = some (r6, r7)) (fun (n14, y11, y12) => n14) (F, ([] : List UInt8), 0) H (aX [] (.cons (.refl _) (.cons (.refl _) (.cons (.refl _) (.nil _)))) rfl) ?_;rintro ⟨n14, y11, y12⟩ H;obtain ⟨n14, rfl, H⟩ := cP H;replace H : dZ F a1 a2 (cr F a1 a2 n14) y11 y12 = some (r6, r7) := H
   unfold dZ at H
   refine af <| af <| ab ?_;show AR _ _ _ _ _ [0, 1, 2, 3, 4] _;refine zm rfl <| zS rfl (ax (n := 1) (by kernel_rfl) rfl (aa rfl)) <| zS rfl (aD ai rfl rfl) <| zS rfl (aR ai rfl) <| zS rfl (bA rfl rfl) <| ag <| ay rfl (fun c15 => ?_) (fun c15 => ?_)
   ·replace H := aZ c15 H;refine aE <| af <| aW <| af <| ab ?_;show AR _ _ _ _ _ [0] _;refine za rfl <| ag <| bx (X := (List UInt8)) (fun y18 => ⟨[(1, .cp [i64 a1, slE Enc.str a2 none, i64 a3, i64 a4, i64 a5]), (5, S y11), (6, i64 y12), (7, S y18)], [], []⟩) (fun y18 => cI F a1 a2 y11 y12 (cr F a1 a2 n14) y18 = some (r6, r7)) ?_ ?_
    ·refine af ?_;obtain ⟨g16, H⟩ := aI H;refine ab ?_;show AR _ _ _ _ _ [0, 1, 2, 3, 4, 5] _;refine zm rfl <| zS rfl (ax (n := 1) (by kernel_rfl) rfl (aa rfl)) <| zS rfl (aD ai rfl rfl) <| zS rfl (aR ai rfl) <| zS rfl (jd rfl rfl g16) <| zS rfl (bw rfl rfl) <| ag <| ay rfl (fun c17 => ?_) (fun c17 => ?_)
     ·replace H := aZ c17 H;refine ab ?_;show AR _ _ _ _ _ [0] _;refine za rfl <| ag ?_;exact Exists.intro ([32] : List UInt8) ⟨H, aX [] (.cons (.refl _) (.cons (.refl _) (.cons (.refl _) (.cons (.refl _) (.nil _))))) rfl⟩
     ·replace H := ba c17 H;refine aE ?_;exact Exists.intro ([45] : List UInt8) ⟨H, aX [] (.cons (.refl _) (.cons (.refl _) (.cons (.refl _) (.cons (.refl _) (.nil _))))) rfl⟩
    rintro y18 H;replace H : cI F a1 a2 y11 y12 (cr F a1 a2 n14) y18 = some (r6, r7) := H
    unfold cI at H
    obtain ⟨g20, H⟩ := aI H;obtain ⟨x21, e22, H⟩ := bp H;obtain ⟨x23, e24, H⟩ := cK H;obtain ⟨g25, H⟩ := aI H;obtain ⟨x26, e27, H⟩ := bp H;obtain ⟨g28, H⟩ := aI H;obtain ⟨x29, e30, H⟩ := bp H;obtain ⟨g31, H⟩ := aI H;obtain ⟨x32, e33, H⟩ := bp H;obtain ⟨g34, H⟩ := aI H;obtain ⟨x35, e36, H⟩ := bp H;refine bL (by kernel_rfl) ?_;show AI _ _ _ _ _ 15 (Array.replicate 15 false) _;refine zk 0 rfl (mv rfl) ?_;show AI _ _ _ _ _ _ #[true, false, false, false, false, false, false, false, false, false, false, false, false, false, false] _;refine zk 1 rfl (ax (n := 0) (by kernel_rfl) rfl (aa rfl)) ?_;show AI _ _ _ _ _ _ #[true, true, false, false, false, false, false, false, false, false, false, false, false, false, false] _;refine zk 2 rfl (aD az rfl rfl) ?_;show AI _ _ _ _ _ _ #[true, true, true, false, false, false, false, false, false, false, false, false, false, false, false] _;refine zk 5 rfl (mv rfl) ?_;show AI _ _ _ _ _ _ #[true, true, true, false, false, true, false, false, false, false, false, false, false, false, false] _;refine zk 7 rfl (ax (n := 1) (by kernel_rfl) rfl (aa rfl)) ?_;show AI _ _ _ _ _ _ #[true, true, true, false, false, true, false, true, false, false, false, false, false, false, false] _;refine zk 8 rfl (aD ai rfl rfl) ?_;show AI _ _ _ _ _ _ #[true, true, true, false, false, true, false, true, true, false, false, false, false, false, false] _;refine zk 9 rfl (mv rfl) ?_
    show AI _ _ _ _ _ _ #[true, true, true, false, false, true, false, true, true, true, false, false, false, false, false] _;refine zk 10 rfl (bk (E := Enc.str) ai (by kernel_rfl) rfl rfl g20 e22) ?_;show AI _ _ _ _ _ _ #[true, true, true, false, false, true, false, true, true, true, true, false, false, false, false] _;refine zk 11 rfl (aD ah rfl rfl) ?_;show AI _ _ _ _ _ _ #[true, true, true, false, false, true, false, true, true, true, true, true, false, false, false] _;refine aY (i := 3) (by kernel_rfl) rfl rfl <| cw rfl qx rfl (lu F a1 x23 e24) ?_;show AI _ _ _ _ _ _ #[true, true, true, true, false, true, false, true, true, true, true, true, false, false, false] _;refine zk 4 rfl (lc rfl rfl g25 e27) ?_;show AI _ _ _ _ _ _ #[true, true, true, true, true, true, false, true, true, true, true, true, false, false, false] _;refine zk 6 rfl (lc rfl rfl g28 e30) ?_;show AI _ _ _ _ _ _ #[true, true, true, true, true, true, true, true, true, true, true, true, false, false, false] _;refine zk 12 rfl (lc rfl rfl g31 e33) ?_;show AI _ _ _ _ _ _ #[true, true, true, true, true, true, true, true, true, true, true, true, true, false, false] _;refine zk 13 rfl (lc rfl rfl g34 e36) ?_;show AI _ _ _ _ _ _ #[true, true, true, true, true, true, true, true, true, true, true, true, true, true, false] _;refine zk 14 rfl (asg rfl) ?_;show AI _ _ _ _ _ _ #[true, true, true, true, true, true, true, true, true, true, true, true, true, true, true] _;refine bB rfl ?_;obtain ⟨g37, H⟩ := aI H
    refine ab ?_;show AR _ _ _ _ _ [0, 1, 2] _;refine zm rfl <| zS rfl (dk rfl rfl g37) <| za rfl <| ag ?_;exact Exists.intro (n14, x35, y12 + 1) ⟨H, Nat.lt_succ_self _, aX [] (.cons (.refl _) (.cons (.refl _) (.cons (.refl _) (.nil _)))) rfl⟩
   ·replace H := ba c15 H;refine cg ?_;exact Exists.intro y11 ⟨H, aX [] (.cons (.refl _) (.nil _)) rfl⟩
  rintro y38 H;replace H : dY y38 = some (r6, r7) := H
  unfold dY at H
  refine af ?_;obtain ⟨g40, H⟩ := aI H;refine ab ?_;show AR _ _ _ _ _ [0, 1, 2, 3] _;refine zm rfl <| zX rfl (fm (bytes := 1) ah aj bj rfl g40) ?_;rintro _ _ ⟨t41, rfl, rfl⟩;refine zS rfl (aO (av := slE _ _ _) rfl) <| za rfl <| ag <| aL ?_;obtain ⟨rfl, rfl⟩ := fg H;exact And.intro rfl (Exists.intro _ (Exists.intro _ ⟨bi rfl (.tok _ _ _) (.refl _), aF [] rfl, rfl, rfl⟩))
set_option maxRecDepth 100000 in
set_option maxHeartbeats 1000000 in
theorem mQ (F : Nat) (a1 : List UInt8) (q2 : Option Nat) (r3 : List UInt8) (r4 : Int) (H : ic F a1 = some (r3, r4)) : ACalls Tryd.prog 49 [slE Enc.byte a1 q2] [] (Ret (.tup [S r3, i64 r4]) []) := by
 unfold ic at H
 refine aA Tryd.func49 rfl rfl ?_;show AW _ _ 51 _ _ _;refine af <| ab ?_;show AR _ _ _ _ _ [0, 1] _;refine za rfl <| za rfl <| ag <| bx (X := Unit) (fun _ => ⟨[(0, slE Enc.byte a1 q2)], [], []⟩) (fun _ => er a1 = some (r3, r4)) ?_ ?_
 ·refine af <| ab ?_;show AR _ _ _ _ _ [0] _;refine za rfl <| ag <| aW <| cf (X := Nat × Int) (fun (n7, y5) => ⟨[(0, slE Enc.byte a1 q2), (4, i64 y5)], [], []⟩) (fun (n7, y5) => cY F a1 n7 y5 = some (r3, r4)) (fun (n7, y5) => n7) (F, 0) H (aX [] (.cons (.refl _) (.cons (.refl _) (.nil _))) rfl) ?_;rintro ⟨n7, y5⟩ H;obtain ⟨n7, rfl, H⟩ := cP H;replace H : eu F a1 (cY F a1 n7) y5 = some (r3, r4) := H
  unfold eu at H
  refine af <| af <| ab ?_;show AR _ _ _ _ _ [0, 1, 2, 3, 4, 5, 6, 7] _;refine zm rfl <| zS rfl (au (av := slE _ _ _) rfl) <| zS rfl (aR aj rfl) <| zS rfl (bA rfl rfl) <| zm rfl <| aG (l := []) 14 (B ((decide (y5 < (a1.length : Int))) && (decide (y5 < 512)))) (fun K => ?_) ?_
  ·rcases ac (decide (y5 < (a1.length : Int))) with h8 | h8
   ·refine zM h8 rfl <| zU h8 rfl (bA rfl rfl) <| zS rfl (aq (av := .v _) rfl h8 rfl) ?_;exact K _ 2 _ (an (bJ h8)) rfl rfl
   ·refine zF h8 rfl <| zF h8 rfl <| zS rfl (ap (av := .v _) rfl h8 rfl) ?_;exact K _ 2 _ (an (bK h8)) rfl rfl
  refine ag <| ay rfl (fun c9 => ?_) (fun c9 => ?_)
  ·replace H := aZ c9 H;refine aE <| bx (X := Unit) (fun _ => ⟨[(0, slE Enc.byte a1 q2), (4, i64 y5)], [], []⟩) (fun _ => ep y5 (cY F a1 n7) = some (r3, r4)) ?_ ?_
   ·refine aW <| af ?_;obtain ⟨g10, H⟩ := aI H;obtain ⟨x11, e12, H⟩ := bp H;refine ab ?_;show AR _ _ _ _ _ [0, 1, 2, 3, 4] _;refine zS rfl (au (av := slE _ _ _) rfl) <| zm rfl <| zS rfl (bk (E := Enc.byte) aj (by kernel_rfl) rfl rfl g10 e12) <| zS rfl (aD bj rfl rfl) <| zS rfl (dF (a := x11) (b := 10) rfl rfl) <| ag <| ay rfl (fun c13 => ?_) (fun c13 => ?_)
    ·replace H := aZ c13 H;refine af <| af ?_;obtain ⟨g15, H⟩ := ce H;obtain ⟨g16, H⟩ := ce H;obtain ⟨x17, e18, H⟩ := bp H;refine ab ?_;show AR _ _ _ _ _ [0, 1, 2, 3, 4, 5, 6, 7, 8, 9] _;refine zm rfl <| zS rfl (bw rfl rfl) <| zm rfl <| aG (l := []) 31 (B ((decide (y5 = 0)) || (!decide (x17 = 13)))) (fun K => ?_) ?_
     ·rcases ac (decide (y5 = 0)) with h14 | h14
      ·refine zF h14 rfl <| zF h14 rfl <| zF h14 rfl <| zF h14 rfl <| zF h14 rfl <| zF h14 rfl <| zS rfl (aq (av := .v _) rfl h14 rfl) ?_;exact K _ 6 _ (an (ek h14)) rfl rfl
      ·refine zU h14 rfl (au (av := slE _ _ _) rfl) <| zM h14 rfl <| zU h14 rfl (jd rfl rfl (g15 (nf h14))) <| zU h14 rfl (bk (E := Enc.byte) aj (by kernel_rfl) rfl rfl (g16 (nf h14)) e18) <| zU h14 rfl (aD bj rfl rfl) <| zU h14 rfl (g_ne8 (a := x17) (b := 13) rfl rfl) <| zS rfl (ap (av := .v _) rfl h14 rfl) ?_;exact K _ 6 _ (an (eo h14)) rfl rfl
     refine ag <| ay rfl (fun c19 => ?_) (fun c19 => ?_)
     ·replace H := aZ c19 H;refine af <| ab ?_;show AR _ _ _ _ _ [0, 1] _;refine za rfl <| za rfl <| ag <| aL ?_;obtain ⟨rfl, rfl⟩ := fg H;exact And.intro rfl (Exists.intro _ (Exists.intro _ ⟨bi rfl (.refl _) (.refl _), aF [] rfl, rfl, rfl⟩))
     ·replace H := ba c19 H;refine aE <| af ?_;obtain ⟨g20, H⟩ := aI H;obtain ⟨g21, H⟩ := aI H;obtain ⟨x22, e23, H⟩ := bp H;refine ab ?_;show AR _ _ _ _ _ [0, 1, 2, 3, 4, 5] _;refine zS rfl (au (av := slE _ _ _) rfl) <| zm rfl <| zS rfl (jd rfl rfl g20) <| zS rfl (nv (E := Enc.byte) aj (by kernel_rfl) rfl rfl g21 e23) <| zS rfl (cF aj bj ah rfl) <| za rfl <| ag <| bx (X := Unit) (fun _ => ⟨[(5, S x22)], [], []⟩) (fun _ => fw x22 = some (r3, r4)) ?_ ?_
      ·refine af <| ab ?_;show AR _ _ _ _ _ [0] _;refine za rfl <| ag <| aW <| cf (X := Nat × Int) (fun (n26, y24) => ⟨[(5, S x22), (6, i64 y24)], [], []⟩) (fun (n26, y24) => et x22 n26 y24 = some (r3, r4)) (fun (n26, y24) => n26) (F, 0) H (aX [] (.cons (.refl _) (.cons (.refl _) (.nil _))) rfl) ?_;rintro ⟨n26, y24⟩ H;obtain ⟨n26, rfl, H⟩ := cP H;replace H : ew x22 (et x22 n26) y24 = some (r3, r4) := H
       unfold ew at H
       refine af <| af <| ab ?_;show AR _ _ _ _ _ [0, 1, 2, 3] _;refine zm rfl <| zm rfl <| zS rfl (be ah rfl) <| zS rfl (bA rfl rfl) <| ag <| ay rfl (fun c27 => ?_) (fun c27 => ?_)
       ·replace H := aZ c27 H;refine aE <| af <| aW <| af ?_;obtain ⟨g28, H⟩ := aI H;obtain ⟨x29, e30, H⟩ := bp H;refine ab ?_;show AR _ _ _ _ _ [0, 1, 2, 3] _;refine zm rfl <| zm rfl <| zS rfl (aP ah rfl rfl g28 e30) <| zS rfl (dF (a := x29) (b := 13) rfl rfl) <| ag <| ay rfl (fun c31 => ?_) (fun c31 => ?_)
        ·replace H := aZ c31 H;refine af <| ab ?_;show AR _ _ _ _ _ [0, 1] _;refine za rfl <| za rfl <| ag <| aL ?_;obtain ⟨rfl, rfl⟩ := fg H;exact And.intro rfl (Exists.intro _ (Exists.intro _ ⟨bi rfl (.refl _) (.refl _), aF [] rfl, rfl, rfl⟩))
        ·replace H := ba c31 H;refine aE ?_;obtain ⟨g32, H⟩ := aI H;refine ab ?_;show AR _ _ _ _ _ [0, 1, 2] _;refine zm rfl <| zS rfl (dk rfl rfl g32) <| za rfl <| ag ?_;exact Exists.intro (n26, y24 + 1) ⟨H, Nat.lt_succ_self _, aX [] (.cons (.refl _) (.cons (.refl _) (.nil _))) rfl⟩
       ·replace H := ba c27 H;refine cg ?_;exact Exists.intro () ⟨H, aX [] (.cons (.refl _) (.nil _)) rfl⟩
      rintro _ H;replace H : fw x22 = some (r3, r4) := H
      unfold fw at H
      refine af <| ab ?_;show AR _ _ _ _ _ [0, 1, 2] _;refine zm rfl <| za rfl <| za rfl <| ag <| aL ?_;obtain ⟨rfl, rfl⟩ := fg H;exact And.intro rfl (Exists.intro _ (Exists.intro _ ⟨bi rfl (.refl _) (.refl _), aF [] rfl, rfl, rfl⟩))
    ·replace H := ba c13 H;refine aE ?_;exact Exists.intro () ⟨H, aX [] (.cons (.refl _) (.cons (.refl _) (.nil _))) rfl⟩
   rintro _ H;replace H : ep y5 (cY F a1 n7) = some (r3, r4) := H
   unfold ep at H
   obtain ⟨g35, H⟩ := aI H;refine ab ?_;show AR _ _ _ _ _ [0, 1, 2] _;refine zm rfl <| zS rfl (dk rfl rfl g35) <| za rfl <| ag ?_;exact Exists.intro (n7, y5 + 1) ⟨H, Nat.lt_succ_self _, aX [] (.cons (.refl _) (.cons (.refl _) (.nil _))) rfl⟩
  ·replace H := ba c9 H;refine cg ?_;exact Exists.intro () ⟨H, aX [] (.cons (.refl _) (.nil _)) rfl⟩
 rintro _ H;replace H : er a1 = some (r3, r4) := H
 unfold er at H
 refine af <| af <| ab ?_;show AR _ _ _ _ _ [0, 1, 2] _;refine zS rfl (au (av := slE _ _ _) rfl) <| zS rfl (aR aj rfl) <| zS rfl (cO rfl rfl) <| ag <| ay rfl (fun c37 => ?_) (fun c37 => ?_)
 ·replace H := aZ c37 H;refine af <| ab ?_;show AR _ _ _ _ _ [0, 1] _;refine za rfl <| za rfl <| ag <| aL ?_;obtain ⟨rfl, rfl⟩ := fg H;exact And.intro rfl (Exists.intro _ (Exists.intro _ ⟨bi rfl (.refl _) (.refl _), aF [] rfl, rfl, rfl⟩))
 ·replace H := ba c37 H;refine aE <| af <| ab ?_;show AR _ _ _ _ _ [0, 1] _;refine za rfl <| za rfl <| ag <| aL ?_;obtain ⟨rfl, rfl⟩ := fg H;exact And.intro rfl (Exists.intro _ (Exists.intro _ ⟨bi rfl (.refl _) (.refl _), aF [] rfl, rfl, rfl⟩))
set_option maxRecDepth 100000 in
set_option maxHeartbeats 1000000 in
theorem mS (F : Nat) (a1 : List UInt8) (r2 : Int) (H : gj F a1 = some r2) : ACalls Tryd.prog 50 [S a1] [] (Ret (i64 r2) []) := by
 unfold gj at H
 refine aA Tryd.func50 rfl rfl ?_;show AW _ _ 32 _ _ _;refine af <| ab ?_;show AR _ _ _ _ _ [0] _;refine za rfl <| ag <| af <| af ?_;obtain ⟨g4, H⟩ := ce H;obtain ⟨x5, e6, H⟩ := bp H;obtain ⟨g8, H⟩ := ce H;obtain ⟨x9, e10, H⟩ := bp H;obtain ⟨g12, H⟩ := ce H;obtain ⟨x13, e14, H⟩ := bp H;refine ab ?_;show AR _ _ _ _ _ [0, 1, 2, 3, 4, 5, 6, 7, 8, 9, 10, 11, 12, 13, 14, 15, 16, 17] _;refine zm rfl <| zS rfl (be ah rfl) <| zS rfl (bA rfl rfl) <| zm rfl <| aG (l := [8, 9, 10, 11, 12, 13, 14, 15, 16, 17]) 11 (B ((decide ((a1.length : Int) < 4)) || (decide (x5 = 48)))) (fun K => ?_) ?_
 ·rcases ac (decide ((a1.length : Int) < 4)) with h3 | h3
  ·refine zF h3 rfl <| zF h3 rfl <| zF h3 rfl <| zS rfl (aq (av := .v _) rfl h3 rfl) ?_;exact K _ 3 _ (an (ek h3)) rfl rfl
  ·refine zM h3 rfl <| zU h3 rfl (aP ah rfl rfl (g4 (nf h3)) e6) <| zU h3 rfl (dF (a := x5) (b := 48) rfl rfl) <| zS rfl (ap (av := .v _) rfl h3 rfl) ?_;exact K _ 3 _ (an (eo h3)) rfl rfl
 refine zm rfl <| aG (l := []) 21 (B (((decide ((a1.length : Int) < 4)) || (decide (x5 = 48))) || ((!decide (x9 = 45)) && (!decide (x13 = 32))))) (fun K => ?_) ?_
 ·rcases ac ((decide ((a1.length : Int) < 4)) || (decide (x5 = 48))) with h7 | h7
  ·refine zF h7 rfl <| zF h7 rfl <| zF h7 rfl <| zF h7 rfl <| gU rfl rfl rfl rfl rfl <| gU rfl rfl rfl rfl rfl <| gU rfl rfl rfl rfl rfl <| zF h7 rfl <| zS rfl (aq (av := .v _) rfl h7 rfl) ?_;exact K _ 8 _ (an (ek h7)) rfl rfl
  ·refine zM h7 rfl <| zU h7 rfl (aP ah rfl rfl (g8 (nf h7)) e10) <| zU h7 rfl (g_ne8 (a := x9) (b := 45) rfl rfl) <| zM h7 rfl <| aG (l := [17]) 20 (B ((!decide (x9 = 45)) && (!decide (x13 = 32)))) (fun K => ?_) ?_
   ·rcases ac (!decide (x9 = 45)) with h11 | h11
    ·refine zM h11 rfl <| zU h11 rfl (aP ah rfl rfl (g12 (fS (nf h7) h11)) e14) <| zU h11 rfl (g_ne8 (a := x13) (b := 32) rfl rfl) <| zU h7 rfl (aq (av := .v _) rfl h11 rfl) ?_;exact K _ 3 _ (an (bJ h11)) rfl rfl
    ·refine zF h11 rfl <| zF h11 rfl <| zF h11 rfl <| zU h7 rfl (ap (av := .v _) rfl h11 rfl) ?_;exact K _ 3 _ (an (bK h11)) rfl rfl
   refine zS rfl (ap (av := .v _) rfl h7 rfl) ?_;exact K _ 5 _ (an (eo h7)) rfl rfl
 refine ag <| ay rfl (fun c15 => ?_) (fun c15 => ?_)
 ·replace H := aZ c15 H;refine af <| ab ?_;show AR _ _ _ _ _ [0] _;refine za rfl <| ag <| aL ?_;obtain rfl := ak H;exact And.intro rfl (Exists.intro _ (Exists.intro _ ⟨aK rfl (.refl _), aF [] rfl, rfl, rfl⟩))
 ·replace H := ba c15 H;refine aE <| af ?_;obtain ⟨g16, H⟩ := aI H;obtain ⟨x17, e18, H⟩ := bp H;obtain ⟨x19, e20, H⟩ := cK H;refine ab ?_;show AR _ _ _ _ _ [0, 1, 2, 3] _;refine zm rfl <| zS rfl (oJ ah rfl rfl g16 e18) <| bc rfl rfl (aQ rfl dP rfl (bU F x17 x19 e20) ?_);refine za rfl <| ag <| af <| af <| ab ?_;show AR _ _ _ _ _ [0, 1, 2, 3, 4, 5] _;refine zm rfl <| zS rfl (bA rfl rfl) <| zm rfl <| aG (l := []) 30 (B ((decide (x19 < 200)) || (decide (599 < x19)))) (fun K => ?_) ?_
  ·rcases ac (decide (x19 < 200)) with h21 | h21
   ·refine zF h21 rfl <| zF h21 rfl <| zS rfl (aq (av := .v _) rfl h21 rfl) ?_;exact K _ 2 _ (an (ek h21)) rfl rfl
   ·refine zM h21 rfl <| zU h21 rfl (cO rfl rfl) <| zS rfl (ap (av := .v _) rfl h21 rfl) ?_;exact K _ 2 _ (an (eo h21)) rfl rfl
  refine ag <| ay rfl (fun c22 => ?_) (fun c22 => ?_)
  ·replace H := aZ c22 H;refine af <| ab ?_;show AR _ _ _ _ _ [0] _;refine za rfl <| ag <| aL ?_;obtain rfl := ak H;exact And.intro rfl (Exists.intro _ (Exists.intro _ ⟨aK rfl (.refl _), aF [] rfl, rfl, rfl⟩))
  ·replace H := ba c22 H;refine aE <| af <| ab ?_;show AR _ _ _ _ _ [0, 1] _;refine zm rfl <| za rfl <| ag <| aL ?_;obtain rfl := ak H;exact And.intro rfl (Exists.intro _ (Exists.intro _ ⟨aK rfl (.refl _), aF [] rfl, rfl, rfl⟩))
set_option maxRecDepth 100000 in
set_option maxHeartbeats 1000000 in
theorem nJ (F : Nat) (a1 : List UInt8) (q2 : Option Nat) (r3 : Int) (r4 : List (List UInt8)) (r5 : Int) (r6 : Int) (r7 : Int) (r8 : Int) (H : fZ F a1 = some (r3, r4, r5, r6, r7, r8)) : ACalls Tryd.prog 39 [slE Enc.byte a1 q2] [] (Ret (.tup [.agg [i64 r3, slE Enc.str r4 none, i64 r5, i64 r6, i64 r7], i64 r8]) []) := by
 unfold fZ at H
 refine aA Tryd.func39 rfl rfl ?_;show AW _ _ 71 _ _ _;refine af <| ab ?_;show AR _ _ _ _ _ [0, 1] _;refine zX rfl (cn (zs := [.int .i64 0, .slice none 0 0, .int .i64 0, .int .i64 0, .int .i64 0]) (by kernel_rfl)) ?_;rintro _ _ ⟨o9, rfl, rfl⟩;refine za rfl <| ag <| af <| ab ?_;show AR _ _ _ _ _ [0, 1, 2] _;refine zS rfl (kn (zs := [.int .i64 0, .slice none 0 0, .int .i64 0, .int .i64 0, .int .i64 0]) (ps := [(0, 1), (1, 1), (2, 3)]) (cs := [i64 0, kV, i64 0, i64 0, i64 0]) (by kernel_rfl) rfl rfl) <| zX rfl (cn (zs := [.int .i64 0, .slice none 0 0, .int .i64 0, .int .i64 0, .int .i64 0]) (by kernel_rfl)) ?_;rintro _ _ ⟨o10, rfl, rfl⟩;refine s0 rfl rfl (bg (i := 0) (vs := [i64 0, kV, i64 0, i64 0, i64 0]) (by kernel_rfl) rfl rfl (by simp [br, slE]) rfl (aa rfl)) <| ag ?_
 refine AW.nil_objAt 0 1 1 9 rfl rfl fun t11 => ?_
 show AW _ _ _ _ _ ⟨_, _, [.tok t11 9, .obj o10 [i64 0, slE Enc.str [] (some t11), i64 0, i64 0, i64 0], .obj o9 [i64 0, kV, i64 0, i64 0, i64 0]]⟩;refine af <| ab ?_;show AR _ _ _ _ _ [0] _;refine za rfl <| ag <| aW <| cf (X := Nat × Int × Int × (List (List UInt8)) × Nat) (fun (n17, y12, y13, y14, t15) => ⟨[(0, slE Enc.byte a1 q2), (2, .pt o9 0), (4, .pt o10 0), (5, i64 y12)], [], [.obj o10 [i64 y13, slE Enc.str y14 (some t15), i64 0, i64 0, i64 0], .obj o9 [i64 0, kV, i64 0, i64 0, i64 0], .tok t15 9]⟩) (fun (n17, y12, y13, y14, t15) => bI F a1 n17 (y12, y13, y14) = some (r3, r4, r5, r6, r7, r8)) (fun (n17, y12, y13, y14, t15) => n17) (F, 0, 0, [], t11) H (aX [1, 1, 0] (.cons (.refl _) (.cons (.refl _) (.cons (.refl _) (.cons (.refl _) (.nil _))))) rfl) ?_;rintro ⟨n17, y12, y13, y14, t15⟩ H;obtain ⟨n17, rfl, H⟩ := cP H;replace H : bZ F a1 (bI F a1 n17) y12 y13 y14 = some (r3, r4, r5, r6, r7, r8) := H
 unfold bZ at H
 refine aW <| af ?_;obtain ⟨g18, H⟩ := aI H;obtain ⟨x19, e20, H⟩ := bp H;obtain ⟨x21, x22, e23, H⟩ := fH H;refine ab ?_;show AR _ _ _ _ _ [0, 1, 2, 3, 4, 5, 6, 7, 8] _;refine zS rfl (au (av := slE _ _ _) rfl) <| zm rfl <| zS rfl (co (E := Enc.byte) aj (by kernel_rfl) rfl rfl g18 e20) <| bc rfl rfl (aQ rfl qm rfl (mQ F x19 none x21 x22 e23) ?_);refine zS rfl (au (av := .tup _) rfl) <| zS rfl (aN (av := .v _) rfl rfl) <| zS rfl (aN (av := .v _) rfl rfl) <| za rfl <| za rfl <| ag <| af <| af <| ab ?_;show AR _ _ _ _ _ [0, 1] _;refine zm rfl <| zS rfl (bw rfl rfl) <| ag <| ay rfl (fun c24 => ?_) (fun c24 => ?_)
 ·replace H := aZ c24 H;refine af <| ab ?_;show AR _ _ _ _ _ [0, 1, 2] _;refine zR rfl (cz (i := 0) (n := 5) aU rfl (by kernel_rfl) rfl rfl (aa rfl)) <| s0 rfl rfl (bg (i := 1) (vs := [i64 y13, slE Enc.str y14 (some t15), i64 0, i64 0, i64 0]) (by kernel_rfl) rfl rfl (by simp [br, slE]) rfl (aa rfl)) <| za rfl <| ag <| aL ?_;obtain ⟨rfl, rfl, rfl, rfl, rfl, rfl⟩ := res6 H;exact And.intro rfl (Exists.intro _ (Exists.intro _ ⟨ej (iK rfl (CellV.aggW (cs := [i64 y13, slE Enc.str y14 (some t15), i64 0, i64 0, i64 0]) (CellV.agg (off := 0) (cs := [i64 y13, slE Enc.str y14 (some t15), i64 0, i64 0, i64 0]) (n := 5) 1 aU rfl (by kernel_rfl) rfl rfl (aa rfl)) (.cons (.refl _) (.cons (.tok _ _ _) (.cons (.refl _) (.cons (.refl _) (.cons (.refl _) (.nil))))))) ((show PlaceV _ _ _ (.tmp _) _ from (.refl _)))), aF [] rfl, rfl, rfl⟩))
 ·replace H := ba c24 H;refine aE <| af ?_;obtain ⟨x25, e26, H⟩ := cK H;refine ab ?_;show AR _ _ _ _ _ [0, 1, 2] _;refine zm rfl <| bc rfl rfl (aQ rfl ql rfl (mS F x21 x25 e26) ?_);refine za rfl <| ag <| af <| af <| ab ?_;show AR _ _ _ _ _ [0, 1, 2, 3, 4, 5, 6, 7, 8, 9, 10, 11, 12, 13, 14, 15, 16, 17, 18, 19, 20, 21, 22, 23] _;refine zm rfl <| zS rfl (bw rfl rfl) <| zm rfl <| aG (l := [6, 7, 8, 9, 10, 11, 12, 13, 14, 15, 16, 17, 18, 19, 20, 21, 22, 23]) 27 (B ((decide (x22 = 2)) || (decide (x25 < 0)))) (fun K => ?_) ?_
  ·rcases ac (decide (x22 = 2)) with h27 | h27
   ·refine zF h27 rfl <| zF h27 rfl <| zS rfl (aq (av := .v _) rfl h27 rfl) ?_;exact K _ 2 _ (an (ek h27)) rfl rfl
   ·refine zM h27 rfl <| zU h27 rfl (bA rfl rfl) <| zS rfl (ap (av := .v _) rfl h27 rfl) ?_;exact K _ 2 _ (an (eo h27)) rfl rfl
  refine zm rfl <| aG (l := [12, 13, 14, 15, 16, 17, 18, 19, 20, 21, 22, 23]) 33 (B (((decide (x22 = 2)) || (decide (x25 < 0))) || (decide ((y14.length : Int) = 100)))) (fun K => ?_) ?_
  ·rcases ac ((decide (x22 = 2)) || (decide (x25 < 0))) with h28 | h28
   ·refine zF h28 rfl <| zF h28 rfl <| zF h28 rfl <| zF h28 rfl <| zS rfl (aq (av := .v _) rfl h28 rfl) ?_;exact K _ 4 _ (an (ek h28)) rfl rfl
   ·refine zU h28 rfl (al (n := 1) (by kernel_rfl) rfl) <| zT h28 rfl (AO.op rfl rfl (ao (i := 0) ai rfl rfl rfl rfl) ?_);refine zU h28 rfl (aR ai rfl) <| zU h28 rfl (bw rfl rfl) <| zS rfl (ap (av := .v _) rfl h28 rfl) ?_;exact K _ 4 _ (an (eo h28)) rfl rfl
  refine zm rfl <| aG (l := []) 45 (B ((((decide (x22 = 2)) || (decide (x25 < 0))) || (decide ((y14.length : Int) = 100))) || ((decide (0 < (y14.length : Int))) && (!decide (x25 = y13))))) (fun K => ?_) ?_
  ·rcases ac (((decide (x22 = 2)) || (decide (x25 < 0))) || (decide ((y14.length : Int) = 100))) with h29 | h29
   ·refine zF h29 rfl <| zF h29 rfl <| zF h29 rfl <| zF h29 rfl <| zF h29 rfl <| gU rfl rfl rfl rfl rfl <| gU rfl rfl rfl rfl rfl <| gU rfl rfl rfl rfl rfl <| gU rfl rfl rfl rfl rfl <| zF h29 rfl <| zS rfl (aq (av := .v _) rfl h29 rfl) ?_;exact K _ 10 _ (an (ek h29)) rfl rfl
   ·refine zU h29 rfl (al (n := 1) (by kernel_rfl) rfl) <| zT h29 rfl (AO.op rfl rfl (ao (i := 0) ai rfl rfl rfl rfl) ?_);refine zU h29 rfl (aR ai rfl) <| zU h29 rfl (cO rfl rfl) <| zM h29 rfl <| aG (l := [23]) 44 (B ((decide (0 < (y14.length : Int))) && (!decide (x25 = y13)))) (fun K => ?_) ?_
    ·rcases ac (decide (0 < (y14.length : Int))) with h30 | h30
     ·refine zM h30 rfl <| zU h30 rfl (al (n := 0) (by kernel_rfl) rfl) <| zT h30 rfl (AO.op rfl rfl (ao (i := 0) az rfl rfl rfl rfl) ?_);refine zU h30 rfl (fV rfl rfl) <| zU h29 rfl (aq (av := .v _) rfl h30 rfl) ?_;exact K _ 4 _ (an (bJ h30)) rfl rfl
     ·refine zF h30 rfl <| zF h30 rfl <| zF h30 rfl <| zF h30 rfl <| zU h29 rfl (ap (av := .v _) rfl h30 rfl) ?_;exact K _ 4 _ (an (bK h30)) rfl rfl
    refine zS rfl (ap (av := .v _) rfl h29 rfl) ?_;exact K _ 6 _ (an (eo h29)) rfl rfl
  refine ag <| ay rfl (fun c31 => ?_) (fun c31 => ?_)
  ·replace H := aZ c31 H;refine af <| ab ?_;show AR _ _ _ _ _ [0, 1, 2] _;refine zR rfl (cz (i := 0) (n := 5) aU rfl (by kernel_rfl) rfl rfl (aa rfl)) <| s0 rfl rfl (bg (i := 1) (vs := [i64 y13, slE Enc.str y14 (some t15), i64 0, i64 0, i64 0]) (by kernel_rfl) rfl rfl (by simp [br, slE]) rfl (aa rfl)) <| za rfl <| ag <| aL ?_;obtain ⟨rfl, rfl, rfl, rfl, rfl, rfl⟩ := res6 H;exact And.intro rfl (Exists.intro _ (Exists.intro _ ⟨ej (iK rfl (CellV.aggW (cs := [i64 y13, slE Enc.str y14 (some t15), i64 0, i64 0, i64 0]) (CellV.agg (off := 0) (cs := [i64 y13, slE Enc.str y14 (some t15), i64 0, i64 0, i64 0]) (n := 5) 1 aU rfl (by kernel_rfl) rfl rfl (aa rfl)) (.cons (.refl _) (.cons (.tok _ _ _) (.cons (.refl _) (.cons (.refl _) (.cons (.refl _) (.nil))))))) ((show PlaceV _ _ _ (.tmp _) _ from (.refl _)))), aF [] rfl, rfl, rfl⟩))
  ·replace H := ba c31 H;refine aE <| af <| ab ?_;show AR _ _ _ _ _ [0, 1, 2] _;refine zm rfl <| zS rfl (al (n := 0) (by kernel_rfl) rfl) <| s0 rfl rfl (aH (i := 0) (c := .v _) (by kernel_rfl) rfl rfl rfl rfl (aa rfl)) <| ag <| bx (X := (List (List UInt8)) × Nat) (fun (y40, t41) => ⟨[(0, slE Enc.byte a1 q2), (2, .pt o9 0), (4, .pt o10 0), (5, i64 y12), (6, S x21), (8, i64 x25)], [], [.obj o10 [i64 x25, slE Enc.str y40 (some t41), i64 0, i64 0, i64 0], .obj o9 [i64 0, kV, i64 0, i64 0, i64 0], .tok t41 9]⟩) (fun (y40, t41) => eY F y12 (bI F a1 n17) x21 x25 y40 = some (r3, r4, r5, r6, r7, r8)) ?_ ?_
   ·obtain ⟨g32, H⟩ := aI H;obtain ⟨x33, e34, H⟩ := bp H;obtain ⟨g36, H⟩ := aI H;obtain ⟨x37, e38, H⟩ := bp H;refine bL (by kernel_rfl) ?_;show AI _ _ _ _ _ 8 (Array.replicate 8 false) _;refine zk 0 rfl (al (n := 1) (by kernel_rfl) rfl) ?_;show AI _ _ _ _ _ _ #[true, false, false, false, false, false, false, false] _;refine zk 2 rfl (mv rfl) ?_;show AI _ _ _ _ _ _ #[true, false, true, false, false, false, false, false] _;refine zk 3 rfl (du ah rfl rfl g32 e34) ?_;show AI _ _ _ _ _ _ #[true, false, true, true, false, false, false, false] _;refine dW (i := 1) (j := 4) (by kernel_rfl) rfl rfl rfl rfl ?_ ?_
    ·refine bo rfl (ao (i := 0) ai rfl rfl rfl rfl) ?_;show AI _ _ _ _ _ _ #[true, true, true, true, false, false, false, false] _;refine aY (i := 4) (by kernel_rfl) rfl rfl <| bo rfl (gn (E := Enc.str) (bytes := 16) (xs := [.tmp 52]) (l := ([x33] : List (List UInt8))) ai (by kernel_rfl) rfl rfl (by decide) rfl rfl) ?_;show AI _ _ _ _ _ _ #[true, true, true, true, true, false, false, false] _;refine aY (i := 5) (by kernel_rfl) rfl rfl <| AIO.opx rfl (dM (E := Enc.str) (bytes := 16) 2 ai ai rfl (by kernel_rfl) rfl rfl rfl rfl g36 e38) ?_;rintro _ _ ⟨t35, rfl, rfl⟩;show AI _ _ _ _ _ _ #[true, true, true, true, true, true, false, false] _;refine zk 6 rfl (al (n := 1) (by kernel_rfl) rfl) ?_;show AI _ _ _ _ _ _ #[true, true, true, true, true, true, true, false] _;refine aY (i := 7) (by kernel_rfl) rfl rfl <| bO (aH (i := 0) (c := slE _ _ _) (by kernel_rfl) rfl rfl rfl rfl (aa rfl)) ?_;show AI _ _ _ _ _ _ #[true, true, true, true, true, true, true, true] _;refine bB rfl ?_;exact Exists.intro (x37, t35) ⟨H, aX [0, 0, 0] (.cons (.refl _) (.cons (.refl _) (.cons (.refl _) (.cons (.refl _) (.cons (.refl _) (.cons (.refl _) (.nil _))))))) rfl⟩
    ·refine bo rfl (gn (E := Enc.str) (bytes := 16) (xs := [.tmp 52]) (l := ([x33] : List (List UInt8))) ai (by kernel_rfl) rfl rfl (by decide) rfl rfl) ?_;show AI _ _ _ _ _ _ #[true, false, true, true, true, false, false, false] _;refine aY (i := 1) (by kernel_rfl) rfl rfl <| bo rfl (ao (i := 0) ai rfl rfl rfl rfl) ?_;show AI _ _ _ _ _ _ #[true, true, true, true, true, false, false, false] _;refine aY (i := 5) (by kernel_rfl) rfl rfl <| AIO.opx rfl (dM (E := Enc.str) (bytes := 16) 2 ai ai rfl (by kernel_rfl) rfl rfl rfl rfl g36 e38) ?_;rintro _ _ ⟨t39, rfl, rfl⟩;show AI _ _ _ _ _ _ #[true, true, true, true, true, true, false, false] _;refine zk 6 rfl (al (n := 1) (by kernel_rfl) rfl) ?_;show AI _ _ _ _ _ _ #[true, true, true, true, true, true, true, false] _;refine aY (i := 7) (by kernel_rfl) rfl rfl <| bO (aH (i := 0) (c := slE _ _ _) (by kernel_rfl) rfl rfl rfl rfl (aa rfl)) ?_;show AI _ _ _ _ _ _ #[true, true, true, true, true, true, true, true] _;refine bB rfl ?_;exact Exists.intro (x37, t39) ⟨H, aX [0, 0, 0] (.cons (.refl _) (.cons (.refl _) (.cons (.refl _) (.cons (.refl _) (.cons (.refl _) (.cons (.refl _) (.nil _))))))) rfl⟩
   rintro ⟨y40, t41⟩ H;replace H : eY F y12 (bI F a1 n17) x21 x25 y40 = some (r3, r4, r5, r6, r7, r8) := H
   unfold eY at H
   refine af ?_;obtain ⟨g43, H⟩ := aI H;obtain ⟨g44, H⟩ := aI H;refine ab ?_;show AR _ _ _ _ _ [0, 1, 2, 3, 4, 5] _;refine zm rfl <| zm rfl <| zS rfl (be ah rfl) <| zS rfl (dk rfl rfl g43) <| zS rfl (dk rfl rfl g44) <| za rfl <| ag <| af ?_;obtain ⟨g45, H⟩ := aI H;obtain ⟨x46, e47, H⟩ := bp H;refine ab ?_;show AR _ _ _ _ _ [0, 1, 2] _;refine zm rfl <| zS rfl (aP ah rfl rfl g45 e47) <| zS rfl (dF (a := x46) (b := 32) rfl rfl) <| ag <| ay rfl (fun c48 => ?_) (fun c48 => ?_)
   ·replace H := aZ c48 H;refine af ?_;obtain ⟨g49, H⟩ := aI H;obtain ⟨x50, e51, H⟩ := bp H;obtain ⟨x52, x53, x54, e55, H⟩ := iZ H;refine ab ?_;show AR _ _ _ _ _ [0, 1, 2, 3, 4, 5] _;refine zm rfl <| zm rfl <| zS rfl (du ah rfl rfl g49 e51) <| bc rfl rfl (aQ rfl mJ rfl (jO F x25 x50 x52 x53 x54 e55) ?_);refine zS rfl (al (n := 2) (by kernel_rfl) rfl) <| s0 rfl rfl (bg (i := 0) (vs := [i64 x52, i64 x53, i64 x54]) (by kernel_rfl) rfl rfl (by simp [br, slE]) rfl (aa rfl)) <| ag <| af <| ab ?_;show AR _ _ _ _ _ [0, 1, 2, 3] _;refine zR rfl (cz (i := 0) (n := 5) aU rfl (by kernel_rfl) rfl rfl (aa rfl)) <| zm rfl <| s0 rfl rfl (bg (i := 1) (vs := [i64 x25, slE Enc.str y40 (some t41), i64 x52, i64 x53, i64 x54]) (by kernel_rfl) rfl rfl (by simp [br, slE]) rfl (aa rfl)) <| za rfl <| ag <| aL ?_;obtain ⟨rfl, rfl, rfl, rfl, rfl, rfl⟩ := res6 H;exact And.intro rfl (Exists.intro _ (Exists.intro _ ⟨ej (iK rfl (CellV.aggW (cs := [i64 x25, slE Enc.str y40 (some t41), i64 x52, i64 x53, i64 x54]) (CellV.agg (off := 0) (cs := [i64 x25, slE Enc.str y40 (some t41), i64 x52, i64 x53, i64 x54]) (n := 5) 1 aU rfl (by kernel_rfl) rfl rfl (aa rfl)) (.cons (.refl _) (.cons (.tok _ _ _) (.cons (.refl _) (.cons (.refl _) (.cons (.refl _) (.nil))))))) ((show PlaceV _ _ _ (.tmp _) _ from (.refl _)))), aF [] rfl, rfl, rfl⟩))
   ·replace H := ba c48 H;refine aE ?_;exact Exists.intro (n17, (y12 + (x21.length : Int)) + 2, x25, y40, t41) ⟨H, Nat.lt_succ_self _, aX [0, 0, 0] (.cons (.refl _) (.cons (.refl _) (.cons (.refl _) (.cons (.refl _) (.nil _))))) rfl⟩
set_option maxRecDepth 100000 in
set_option maxHeartbeats 1000000 in
theorem nK (F : Nat) (o1 : Nat) (a2 : List UInt8) (t3 : Nat) (a4 : Bool) (a5 : List UInt8) (q6 : Option Nat) (r7 : List (Int × (List (List UInt8)) × Int × Int × Int)) (r8 : List UInt8) (r10 : Bool) (H : gW F a2 a4 a5 = some (r7, r8, r10)) : ACalls Tryd.prog 29 [.pt o1 0, slE Enc.byte a5 q6] [.obj o1 [slE Enc.byte a2 (some t3), B a4], .tok t3 5] (fun e A' => e = .ret (slE (am Enc.int (am (Enc.sl Enc.str) (am Enc.int (am Enc.int Enc.int)))) r7 none) ∧ ∃ t9, A' = [.obj o1 [slE Enc.byte r8 (some t9), B r10], .tok t9 5]) := by
 unfold gW at H
 refine aA Tryd.func29 rfl rfl ?_;show AW _ _ 56 _ _ _;refine af <| ab ?_;show AR _ _ _ _ _ [0] _;refine za rfl <| ag <| af <| af <| ab ?_;show AR _ _ _ _ _ [0, 1, 2, 3] _;refine zS rfl (au (av := .pt _ _) rfl) <| zS rfl (ar rfl) <| zS rfl (al (n := 1) (by kernel_rfl) rfl) <| zR rfl (ao (i := 0) dd rfl rfl rfl rfl) <| ag <| ay rfl (fun c11 => ?_) (fun c11 => ?_)
 ·replace H := aZ c11 H;refine af <| ab ?_;show AR _ _ _ _ _ [0] _;refine za rfl <| ag <| aL ?_;obtain ⟨rfl, rfl, rfl⟩ := iO H;exact And.intro rfl (Exists.intro _ (Exists.intro _ ⟨aK rfl (.nil _), aF [0, 0] rfl, rfl, t3, rfl⟩))
 ·replace H := ba c11 H;refine aE <| af ?_;obtain ⟨g13, H⟩ := aI H;obtain ⟨g15, H⟩ := aI H;obtain ⟨x16, e17, H⟩ := bp H;refine ab ?_;show AR _ _ _ _ _ [0, 1, 2, 3, 4, 5, 6, 7, 8, 9, 10] _;refine zS rfl (au (av := .pt _ _) rfl) <| zS rfl (au (av := .pt _ _) rfl) <| zS rfl (ar rfl) <| zS rfl (al (n := 0) (by kernel_rfl) rfl) <| zR rfl (ao (i := 0) aj rfl rfl rfl rfl) <| zX rfl (jT (E := Enc.byte) (bytes := 1) aj aj rfl (by kernel_rfl) rfl rfl rfl g13) ?_;rintro _ _ ⟨t12, rfl, rfl⟩;refine zS rfl (au (av := slE _ _ _) rfl) <| zX rfl (dM (E := Enc.byte) (bytes := 1) 0 aj aj rfl (by kernel_rfl) rfl rfl rfl rfl g15 e17) ?_;rintro _ _ ⟨t14, rfl, rfl⟩;refine zS rfl (ar rfl) <| zS rfl (al (n := 0) (by kernel_rfl) rfl) <| s0 rfl rfl (aH (i := 1) (c := slE _ _ _) (by kernel_rfl) rfl rfl rfl rfl (aa rfl)) <| ag <| af <| ab ?_;show AR _ _ _ _ _ [0] _;refine za rfl <| ag ?_
  refine hP 5 5 38 rfl fun t18 => ?_
  show AW _ _ _ _ _ ⟨(5, slE (am Enc.int (am (Enc.sl Enc.str) (am Enc.int (am Enc.int Enc.int)))) [] (some t18)) :: _, _, _⟩;refine aW <| cf (X := Nat × (List (Int × (List (List UInt8)) × Int × Int × Int)) × Nat × (List UInt8) × Nat) (fun (n24, y19, t20, y21, t22) => ⟨[(0, .pt o1 0), (5, slE (am Enc.int (am (Enc.sl Enc.str) (am Enc.int (am Enc.int Enc.int)))) y19 (some t20))], [], [.obj o1 [slE Enc.byte y21 (some t22), B a4], .tok t20 38, .tok t22 5]⟩) (fun (n24, y19, t20, y21, t22) => dn F a4 n24 (y19, y21) = some (r7, r8, r10)) (fun (n24, y19, t20, y21, t22) => n24) (F, [], t18, x16, t14) H (aX [2, 0, 0] (.cons (.refl _) (.cons (.refl _) (.nil _))) rfl) ?_;rintro ⟨n24, y19, t20, y21, t22⟩ H;obtain ⟨n24, rfl, H⟩ := cP H;replace H : cy F a4 (dn F a4 n24) y19 y21 = some (r7, r8, r10) := H
  unfold cy at H
  refine aW <| af ?_;obtain ⟨x25, e26, H⟩ := cK H;refine ab ?_;show AR _ _ _ _ _ [0, 1, 2, 3, 4, 5, 6, 7, 8, 9, 10] _;refine zS rfl (au (av := .pt _ _) rfl) <| zS rfl (ar rfl) <| zS rfl (al (n := 0) (by kernel_rfl) rfl) <| zR rfl (ao (i := 0) aj rfl rfl rfl rfl) <| bc rfl rfl (aQ rfl qr rfl (nJ F y21 (some t22) x25.1 x25.2.1 x25.2.2.1 x25.2.2.2.1 x25.2.2.2.2.1 x25.2.2.2.2.2 e26) ?_);refine zS rfl (au (av := .tup _) rfl) <| zS rfl (aN (av := .agg _) rfl rfl) <| zS rfl (aN (av := .v _) rfl rfl) <| zX rfl (cn (zs := [.int .i64 0, .slice none 0 0, .int .i64 0, .int .i64 0, .int .i64 0]) (by kernel_rfl)) ?_;rintro _ _ ⟨o27, rfl, rfl⟩;refine s0 rfl rfl (bg (i := 0) (vs := [i64 x25.1, slE Enc.str x25.2.1 none, i64 x25.2.2.1, i64 x25.2.2.2.1, i64 x25.2.2.2.2.1]) (by kernel_rfl) rfl rfl (by simp [br, slE]) rfl (aa rfl)) <| AR.freezeCp 6 0 rfl rfl ?_;show AR _ _ _ _ _ _ ⟨_, _, [.obj o1 [slE Enc.byte y21 (some t22), B a4], .tok t20 38, .tok t22 5]⟩;refine za rfl <| ag <| af <| af <| ab ?_;show AR _ _ _ _ _ [0, 1] _;refine zm rfl <| zS rfl (bA rfl rfl) <| ag <| ay rfl (fun c28 => ?_) (fun c28 => ?_)
  ·replace H := aZ c28 H;refine af <| ab ?_;show AR _ _ _ _ _ [0, 1, 2, 3] _;refine zS rfl (au (av := .pt _ _) rfl) <| zS rfl (ar rfl) <| zS rfl (al (n := 1) (by kernel_rfl) rfl) <| s0 rfl rfl (aH (i := 0) (c := .v _) (by kernel_rfl) rfl rfl rfl rfl (aa rfl)) <| ag <| af <| ab ?_;show AR _ _ _ _ _ [0, 1, 2, 3] _;refine zS rfl (au (av := .pt _ _) rfl) <| zS rfl (ar rfl) <| zS rfl (al (n := 0) (by kernel_rfl) rfl) <| s0 rfl rfl (aH (i := 0) (c := .v _) (by kernel_rfl) rfl rfl rfl rfl (aa rfl)) ?_
   refine iu 0 0 1 5 rfl rfl fun t29 => ?_
   show AR _ _ _ _ _ _ ⟨_, _, [.obj o1 [slE Enc.byte [] (some t29), B true], .tok t29 5, .tok t20 38, .tok t22 5]⟩;refine ag <| af <| ab ?_;show AR _ _ _ _ _ [0, 1] _;refine zS rfl (au (av := slE _ _ _) rfl) <| zS rfl (aO (av := slE _ _ _) rfl) <| ag <| aL ?_;obtain ⟨rfl, rfl, rfl⟩ := iO H;exact And.intro rfl (Exists.intro _ (Exists.intro _ ⟨aK rfl (.tok _ _ _), aF [0, 0] rfl, rfl, t29, rfl⟩))
  ·replace H := ba c28 H;refine aE <| af <| af <| ab ?_;show AR _ _ _ _ _ [0, 1] _;refine zm rfl <| zS rfl (bw rfl rfl) <| ag <| ay rfl (fun c30 => ?_) (fun c30 => ?_)
   ·replace H := aZ c30 H;refine af <| ab ?_;show AR _ _ _ _ _ [0, 1] _;refine zS rfl (au (av := slE _ _ _) rfl) <| zS rfl (aO (av := slE _ _ _) rfl) <| ag <| aL ?_;obtain ⟨rfl, rfl, rfl⟩ := iO H;exact And.intro rfl (Exists.intro _ (Exists.intro _ ⟨aK rfl (.tok _ _ _), aF [0, 1] rfl, rfl, t22, rfl⟩))
   ·replace H := ba c30 H;refine aE <| af ?_;obtain ⟨g32, H⟩ := aI H;obtain ⟨x33, e34, H⟩ := bp H;refine ab ?_;show AR _ _ _ _ _ [0, 1, 2, 3, 4] _;refine zS rfl (au (av := slE _ _ _) rfl) <| zS rfl (bf aU rfl (n := 5) (by kernel_rfl) rfl (aa rfl)) <| zR rfl (jR (E := (am Enc.int (am (Enc.sl Enc.str) (am Enc.int (am Enc.int Enc.int))))) (bytes := 56) (zs := [.int .i64 0, .slice none 0 0, .int .i64 0, .int .i64 0, .int .i64 0]) (l := ([(x25.1, x25.2.1, (x25.2.2.1, x25.2.2.2.1, x25.2.2.2.2.1))] : List (Int × (List (List UInt8)) × Int × Int × Int))) aV (by kernel_rfl) (by kernel_rfl) rfl rfl rfl rfl rfl) <| zX rfl (dM (E := (am Enc.int (am (Enc.sl Enc.str) (am Enc.int (am Enc.int Enc.int))))) (bytes := 56) 1 aV aV rfl (by kernel_rfl) rfl rfl rfl rfl g32 e34) ?_;rintro _ _ ⟨t31, rfl, rfl⟩;refine zS rfl (aO (av := slE _ _ _) rfl) <| ag ?_;obtain ⟨g35, H⟩ := aI H;obtain ⟨x36, e37, H⟩ := bp H;obtain ⟨g39, H⟩ := aI H;refine ab ?_;show AR _ _ _ _ _ [0, 1, 2, 3, 4, 5, 6, 7, 8, 9, 10] _
    refine zS rfl (au (av := .pt _ _) rfl) <| zS rfl (au (av := .pt _ _) rfl) <| zS rfl (ar rfl) <| zS rfl (al (n := 0) (by kernel_rfl) rfl) <| zR rfl (ao (i := 0) aj rfl rfl rfl rfl) <| zm rfl <| zS rfl (co (E := Enc.byte) aj (by kernel_rfl) rfl rfl g35 e37) <| zX rfl (jT (E := Enc.byte) (bytes := 1) aj aj rfl (by kernel_rfl) rfl rfl rfl g39) ?_;rintro _ _ ⟨t38, rfl, rfl⟩;refine zS rfl (ar rfl) <| zS rfl (al (n := 0) (by kernel_rfl) rfl) <| s0 rfl rfl (aH (i := 1) (c := slE _ _ _) (by kernel_rfl) rfl rfl rfl rfl (aa rfl)) <| ag ?_;exact Exists.intro (n24, x33, t31, x36, t38) ⟨H, Nat.lt_succ_self _, aX [1, 1, 0] (.cons (.refl _) (.cons (.refl _) (.nil _))) rfl⟩
set_option maxRecDepth 100000 in
set_option maxHeartbeats 1000000 in
theorem mU (F : Nat) (a1 : List UInt8) (q2 : Option Nat) (r3 : List (Int × (List (List UInt8)) × Int × Int × Int)) (r4 : Int) (H : gk F a1 = some (r3, r4)) : ACalls Tryd.prog 19 [slE Enc.byte a1 q2] [] (Ret (.tup [slE (am Enc.int (am (Enc.sl Enc.str) (am Enc.int (am Enc.int Enc.int)))) r3 none, i64 r4]) []) := by
 unfold gk at H
 refine aA Tryd.func19 rfl rfl ?_;show AW _ _ 24 _ _ _;refine af <| ab ?_;show AR _ _ _ _ _ [0, 1] _;refine za rfl <| za rfl <| ag <| af <| ab ?_;show AR _ _ _ _ _ [0, 1, 2] _;refine zS rfl (kn (zs := [.slice none 0 0, .bool false]) (ps := [(0, 1), (1, 1)]) (cs := [kV, B false]) (by kernel_rfl) rfl rfl) <| zX rfl (lh rfl (.inr ⟨_, rfl⟩)) ?_;rintro _ _ ⟨o5, rfl, rfl⟩;refine zS rfl (aO (av := .pt _ _) rfl) <| ag <| af ?_;obtain ⟨x7, x8, x9, e10, H⟩ := iZ H;refine ab ?_;show AR _ _ _ _ _ [0, 1, 2, 3] _;refine zS rfl (au (av := .pt _ _) rfl) <| zS rfl (au (av := slE _ _ _) rfl) ?_
 refine AR.nil_objAt 0 0 1 5 rfl rfl fun t6 => ?_
 show AR _ _ _ _ _ _ ⟨_, _, [.tok t6 5, .obj o5 [slE Enc.byte [] (some t6), B false]]⟩;refine bc rfl rfl (AO.callAt [1, 0] rfl qw rfl (nK F o5 [] t6 false a1 q2 x7 x8 x9 e10) rfl (fun c A' h => by cases h.1) ?_)
 rintro av A' ⟨h, t11, rfl⟩; cases h
 refine zS rfl (aO (av := slE _ _ _) rfl) <| ag <| af <| af <| ab ?_;show AR _ _ _ _ _ [0, 1, 2, 3, 4, 5, 6, 7, 8, 9, 10, 11] _;refine zS rfl (au (av := .pt _ _) rfl) <| zS rfl (ar rfl) <| zS rfl (al (n := 1) (by kernel_rfl) rfl) <| zR rfl (ao (i := 0) dd rfl rfl rfl rfl) <| zm rfl <| aG (l := []) 22 (B (x9 || (decide (0 < (x8.length : Int))))) (fun K => ?_) ?_
 ·rcases ac x9 with h12 | h12
  ·refine zF h12 rfl <| zF h12 rfl <| zF h12 rfl <| zF h12 rfl <| zF h12 rfl <| zF h12 rfl <| zS rfl (aq (av := .v _) rfl h12 rfl) ?_;exact K _ 6 _ (an (ek h12)) rfl rfl
  ·refine zU h12 rfl (au (av := .pt _ _) rfl) <| zU h12 rfl (ar rfl) <| zU h12 rfl (al (n := 0) (by kernel_rfl) rfl) <| zT h12 rfl (AO.op rfl rfl (ao (i := 0) aj rfl rfl rfl rfl) ?_);refine zU h12 rfl (aR aj rfl) <| zU h12 rfl (cO rfl rfl) <| zS rfl (ap (av := .v _) rfl h12 rfl) ?_;exact K _ 6 _ (an (eo h12)) rfl rfl
 refine ag <| ay rfl (fun c13 => ?_) (fun c13 => ?_)
 ·replace H := aZ c13 H;refine af <| ab ?_;show AR _ _ _ _ _ [0, 1] _;refine za rfl <| za rfl <| ag <| aL ?_;obtain ⟨rfl, rfl⟩ := fg H;exact And.intro rfl (Exists.intro _ (Exists.intro _ ⟨bi rfl (.nil _) (.refl _), aF [] rfl, rfl, rfl⟩))
 ·replace H := ba c13 H;refine aE <| af <| ab ?_;show AR _ _ _ _ _ [0, 1, 2] _;refine zS rfl (au (av := slE _ _ _) rfl) <| zS rfl (aO (av := slE _ _ _) rfl) <| za rfl <| ag <| aL ?_;obtain ⟨rfl, rfl⟩ := fg H;exact And.intro rfl (Exists.intro _ (Exists.intro _ ⟨bi rfl (.refl _) (.refl _), aF [] rfl, rfl, rfl⟩))
end Go.Proofs.YtimpbfniegimaaaDoor
namespace Go.Pv
def cR (F : Nat) (a1 : Int) (a2 : List (List UInt8)) (a3 : Int) (a4 : Int) (a5 : Int) (a6 : List UInt8) : Option Bool :=
bnd (fD F) fun x9 =>
bnd (gY F a1 a2 a3 a4 a5) fun x11 =>
bif ((!x9) || (!x11)) || (decide (3000 < (a6.length : Int))) then
  some x9
else
  kt (gR F a1 a2 a3 a4 a5) fun x16 x17 =>
  kt (fC F a1 a2 a3 a4 a5) fun x19 x20 =>
  kt (hC F a6) fun x22 x23 =>
  kt (gk F a6) fun x25 x26 =>
  bnd (gl F x22 x25) fun x28 =>
  bnd (ga F a1 a2 a3 a4 a5) fun x30 =>
  jz ((((decide (x16 = x19)) && (decide (x17 = x20))) && x28) && (decide (x23 = x26))) (iw F a1 a2 a3 a4 a5) fun x36 =>
  some (((((decide (x16 = x19)) && (decide (x17 = x20))) && x28) && (decide (x23 = x26))) && (x36 == x30))
end Go.Pv
namespace Go.Proofs.YtimpbfniegimaaaDoor
open Go.RowKit Go.Av Go.Pv
theorem kq : ∀ (args : Array Value) (w : World), (callFunc 8 args).run Tryd.prog w = .ok (.enter 8 args) w := fun _ _ => by kernel_rfl
theorem jL : ∀ (args : Array Value) (w : World), (callFunc 12 args).run Tryd.prog w = .ok (.enter 12 args) w := fun _ _ => by kernel_rfl
theorem jK : ∀ (args : Array Value) (w : World), (callFunc 15 args).run Tryd.prog w = .ok (.enter 15 args) w := fun _ _ => by kernel_rfl
theorem jJ : ∀ (args : Array Value) (w : World), (callFunc 16 args).run Tryd.prog w = .ok (.enter 16 args) w := fun _ _ => by kernel_rfl
theorem jI : ∀ (args : Array Value) (w : World), (callFunc 17 args).run Tryd.prog w = .ok (.enter 17 args) w := fun _ _ => by kernel_rfl
theorem jH : ∀ (args : Array Value) (w : World), (callFunc 18 args).run Tryd.prog w = .ok (.enter 18 args) w := fun _ _ => by kernel_rfl
theorem jG : ∀ (args : Array Value) (w : World), (callFunc 19 args).run Tryd.prog w = .ok (.enter 19 args) w := fun _ _ => by kernel_rfl
theorem jF : ∀ (args : Array Value) (w : World), (callFunc 20 args).run Tryd.prog w = .ok (.enter 20 args) w := fun _ _ => by kernel_rfl
theorem jE : ∀ (args : Array Value) (w : World), (callFunc 21 args).run Tryd.prog w = .ok (.enter 21 args) w := fun _ _ => by kernel_rfl
set_option maxRecDepth 100000 in
set_option maxHeartbeats 1000000 in
theorem iW (F : Nat) (a1 : Int) (a2 : List (List UInt8)) (a3 : Int) (a4 : Int) (a5 : Int) (a6 : List UInt8) (q7 : Option Nat) (r8 : Bool) (H : cR F a1 a2 a3 a4 a5 a6 = some r8) : ACalls Tryd.prog 5 [.agg [i64 a1, slE Enc.str a2 none, i64 a3, i64 a4, i64 a5], slE Enc.byte a6 q7] [] (Ret (B r8) []) := by
 unfold cR at H
 refine aA Tryd.func5 rfl rfl ?_;show AW _ _ 81 _ _ _;refine af <| ab ?_;show AR _ _ _ _ _ [0, 1] _;refine zR rfl (dN rfl (.inr ⟨_, rfl⟩)) <| za rfl <| ag <| af ?_;obtain ⟨x9, e10, H⟩ := cK H;refine ab ?_;show AR _ _ _ _ _ [0, 1] _;refine bc rfl rfl (aQ rfl kq rfl (lZ F x9 e10) ?_);refine za rfl <| ag <| af ?_;obtain ⟨x11, e12, H⟩ := cK H;refine ab ?_;show AR _ _ _ _ _ [0, 1, 2] _;refine zS rfl (bf aU rfl (n := 5) (by kernel_rfl) rfl (aa rfl)) <| bc rfl rfl (aQ rfl jK rfl (nL F a1 a2 a3 a4 a5 x11 e12) ?_);refine za rfl <| ag <| af <| af <| ab ?_;show AR _ _ _ _ _ [0, 1, 2, 3, 4, 5, 6, 7, 8, 9, 10] _;refine zm rfl <| zS rfl (dS rfl) <| zm rfl <| aG (l := [6, 7, 8, 9, 10]) 25 (B ((!x9) || (!x11))) (fun K => ?_) ?_
 ·rcases ac (!x9) with h13 | h13
  ·refine zF h13 rfl <| zF h13 rfl <| zS rfl (aq (av := .v _) rfl h13 rfl) ?_;exact K _ 2 _ (an (ek h13)) rfl rfl
  ·refine zM h13 rfl <| zU h13 rfl (dS rfl) <| zS rfl (ap (av := .v _) rfl h13 rfl) ?_;exact K _ 2 _ (an (eo h13)) rfl rfl
 refine zm rfl <| aG (l := []) 30 (B (((!x9) || (!x11)) || (decide (3000 < (a6.length : Int))))) (fun K => ?_) ?_
 ·rcases ac ((!x9) || (!x11)) with h14 | h14
  ·refine zF h14 rfl <| zF h14 rfl <| zF h14 rfl <| zS rfl (aq (av := .v _) rfl h14 rfl) ?_;exact K _ 3 _ (an (ek h14)) rfl rfl
  ·refine zU h14 rfl (au (av := slE _ _ _) rfl) <| zU h14 rfl (aR aj rfl) <| zU h14 rfl (cO rfl rfl) <| zS rfl (ap (av := .v _) rfl h14 rfl) ?_;exact K _ 3 _ (an (eo h14)) rfl rfl
 refine ag <| ay rfl (fun c15 => ?_) (fun c15 => ?_)
 ·replace H := aZ c15 H;refine af <| ab ?_;show AR _ _ _ _ _ [0, 1] _;refine zm rfl <| za rfl <| ag <| aL ?_;obtain rfl := ak H;exact And.intro rfl (Exists.intro _ (Exists.intro _ ⟨aK rfl (.refl _), aF [] rfl, rfl, rfl⟩))
 ·replace H := ba c15 H;refine aE <| af ?_;obtain ⟨x16, x17, e18, H⟩ := fH H;refine ab ?_;show AR _ _ _ _ _ [0, 1, 2, 3, 4, 5, 6] _;refine zS rfl (bf aU rfl (n := 5) (by kernel_rfl) rfl (aa rfl)) <| bc rfl rfl (aQ rfl jJ rfl (nI F a1 a2 a3 a4 a5 x16 x17 e18) ?_);refine zS rfl (au (av := .tup _) rfl) <| zS rfl (aN (av := slE _ _ _) rfl rfl) <| zS rfl (aN (av := .v _) rfl rfl) <| zS rfl (aO (av := slE _ _ _) rfl) <| za rfl <| ag <| af ?_;obtain ⟨x19, x20, e21, H⟩ := fH H;refine ab ?_;show AR _ _ _ _ _ [0, 1, 2, 3, 4, 5, 6] _;refine zS rfl (bf aU rfl (n := 5) (by kernel_rfl) rfl (aa rfl)) <| bc rfl rfl (aQ rfl jI rfl (lY F a1 a2 a3 a4 a5 x19 x20 e21) ?_);refine zS rfl (au (av := .tup _) rfl) <| zS rfl (aN (av := slE _ _ _) rfl rfl) <| zS rfl (aN (av := .v _) rfl rfl) <| zS rfl (aO (av := slE _ _ _) rfl) <| za rfl <| ag <| af ?_;obtain ⟨x22, x23, e24, H⟩ := fH H;refine ab ?_;show AR _ _ _ _ _ [0, 1, 2, 3, 4, 5, 6] _;refine zS rfl (au (av := slE _ _ _) rfl) <| bc rfl rfl (aQ rfl jH rfl (lC F a6 q7 x22 x23 e24) ?_);refine zS rfl (au (av := .tup _) rfl) <| zS rfl (aN (av := slE _ _ _) rfl rfl) <| zS rfl (aN (av := .v _) rfl rfl) <| zS rfl (aO (av := slE _ _ _) rfl) <| za rfl <| ag <| af ?_
  obtain ⟨x25, x26, e27, H⟩ := fH H;refine ab ?_;show AR _ _ _ _ _ [0, 1, 2, 3, 4, 5, 6] _;refine zS rfl (au (av := slE _ _ _) rfl) <| bc rfl rfl (aQ rfl jG rfl (mU F a6 q7 x25 x26 e27) ?_);refine zS rfl (au (av := .tup _) rfl) <| zS rfl (aN (av := slE _ _ _) rfl rfl) <| zS rfl (aN (av := .v _) rfl rfl) <| zS rfl (aO (av := slE _ _ _) rfl) <| za rfl <| ag <| af ?_;obtain ⟨x28, e29, H⟩ := cK H;refine ab ?_;show AR _ _ _ _ _ [0, 1, 2, 3] _;refine zS rfl (au (av := slE _ _ _) rfl) <| zS rfl (au (av := slE _ _ _) rfl) <| bc rfl rfl (aQ rfl jL rfl (mV F x22 none x25 none x28 e29) ?_);refine za rfl <| ag <| af ?_;obtain ⟨x30, e31, H⟩ := cK H;refine ab ?_;show AR _ _ _ _ _ [0, 1, 2] _;refine zS rfl (bf aU rfl (n := 5) (by kernel_rfl) rfl (aa rfl)) <| bc rfl rfl (aQ rfl jF rfl (kA F a1 a2 a3 a4 a5 x30 e31) ?_);refine za rfl <| ag <| af ?_;obtain ⟨x36, e37, H⟩ := fG H;refine ab ?_;show AR _ _ _ _ _ [0, 1, 2, 3, 4, 5, 6, 7, 8, 9, 10, 11, 12, 13, 14, 15, 16, 17, 18, 19, 20, 21, 22, 23, 24] _
  refine zS rfl (au (av := slE _ _ _) rfl) <| zS rfl (cF aj bj ah rfl) <| zS rfl (au (av := slE _ _ _) rfl) <| zS rfl (cF aj bj ah rfl) <| zS rfl (kj rfl rfl) <| zm rfl <| aG (l := [10, 11, 12, 13, 14, 15, 16, 17, 18, 19, 20, 21, 22, 23, 24]) 66 (B ((decide (x16 = x19)) && (decide (x17 = x20)))) (fun K => ?_) ?_
  ·rcases ac (decide (x16 = x19)) with h32 | h32
   ·refine zM h32 rfl <| zM h32 rfl <| zU h32 rfl (bw rfl rfl) <| zS rfl (aq (av := .v _) rfl h32 rfl) ?_;exact K _ 3 _ (an (bJ h32)) rfl rfl
   ·refine zF h32 rfl <| zF h32 rfl <| zF h32 rfl <| zS rfl (ap (av := .v _) rfl h32 rfl) ?_;exact K _ 3 _ (an (bK h32)) rfl rfl
  refine zm rfl <| aG (l := [13, 14, 15, 16, 17, 18, 19, 20, 21, 22, 23, 24]) 69 (B (((decide (x16 = x19)) && (decide (x17 = x20))) && x28)) (fun K => ?_) ?_
  ·rcases ac ((decide (x16 = x19)) && (decide (x17 = x20))) with h33 | h33
   ·refine zM h33 rfl <| zS rfl (aq (av := .v _) rfl h33 rfl) ?_;exact K _ 1 _ (an (bJ h33)) rfl rfl
   ·refine zF h33 rfl <| zS rfl (ap (av := .v _) rfl h33 rfl) ?_;exact K _ 1 _ (an (bK h33)) rfl rfl
  refine zm rfl <| aG (l := [18, 19, 20, 21, 22, 23, 24]) 74 (B ((((decide (x16 = x19)) && (decide (x17 = x20))) && x28) && (decide (x23 = x26)))) (fun K => ?_) ?_
  ·rcases ac (((decide (x16 = x19)) && (decide (x17 = x20))) && x28) with h34 | h34
   ·refine zM h34 rfl <| zM h34 rfl <| zU h34 rfl (bw rfl rfl) <| zS rfl (aq (av := .v _) rfl h34 rfl) ?_;exact K _ 3 _ (an (bJ h34)) rfl rfl
   ·refine zF h34 rfl <| zF h34 rfl <| zF h34 rfl <| zS rfl (ap (av := .v _) rfl h34 rfl) ?_;exact K _ 3 _ (an (bK h34)) rfl rfl
  refine zm rfl <| aG (l := [24]) 80 (B (((((decide (x16 = x19)) && (decide (x17 = x20))) && x28) && (decide (x23 = x26))) && (x36 == x30))) (fun K => ?_) ?_
  ·rcases ac ((((decide (x16 = x19)) && (decide (x17 = x20))) && x28) && (decide (x23 = x26))) with h35 | h35
   ·refine zU h35 rfl (bf aU rfl (n := 5) (by kernel_rfl) rfl (aa rfl)) <| zT h35 rfl (aQ rfl jE rfl (ku F a1 a2 a3 a4 a5 x36 (e37 h35)) ?_);refine zM h35 rfl <| zU h35 rfl (opS_eqb dd rfl rfl) <| zS rfl (aq (av := .v _) rfl h35 rfl) ?_;exact K _ 4 _ (an (bJ h35)) rfl rfl
   ·refine zF h35 rfl <| zF h35 rfl <| zF h35 rfl <| zF h35 rfl <| zS rfl (ap (av := .v _) rfl h35 rfl) ?_;exact K _ 4 _ (an (bK h35)) rfl rfl
  refine za rfl <| ag <| aL ?_;obtain rfl := ak H;exact And.intro rfl (Exists.intro _ (Exists.intro _ ⟨aK rfl (.refl _), aF [] rfl, rfl, rfl⟩))
end Go.Proofs.YtimpbfniegimaaaDoor
namespace Go.Dg
open Go.Pv Go.Av
open Go.Lib (decDigits)
abbrev Bs := List UInt8
theorem cZ {n : Nat} (h : n < 10) : decDigits n = [UInt8.ofNat (48 + n)] := by rw [decDigits, dif_pos h]
theorem fk {n : Nat} (h : ¬ n < 10) : decDigits n = decDigits (n / 10) ++ [UInt8.ofNat (48 + n % 10)] := by rw [decDigits, dif_neg h]
theorem gD (n : Nat) : Go.Lib.itoa (n : Int) = decDigits n := by
  unfold Go.Lib.itoa
  rw [if_neg (by omega), Int.toNat_natCast]
theorem gb (k : Nat) (h : k < 10) : (UInt8.ofNat (48 + k)).toNat = 48 + k := by
  have : ∀ k : Fin 10, (UInt8.ofNat (48 + k.val)).toNat = 48 + k.val := by decide +kernel
  exact this ⟨k, h⟩
def Dig (c : UInt8) : Prop := 48 ≤ c.toNat ∧ c.toNat ≤ 57
theorem dd_dig : ∀ (m n : Nat), n < m → ∀ c ∈ decDigits n, Dig c := by
  intro m
  induction m with
  | zero => intro n h; omega
  | succ m ih =>
    intro n h c hc
    by_cases hn : n < 10
    · rw [cZ hn] at hc
      rw [List.mem_singleton.1 hc]; unfold Dig; rw [gb n hn]; omega
    · rw [fk hn] at hc
      rcases List.mem_append.1 hc with hc | hc
      · exact ih (n / 10) (by omega) c hc
      · rw [List.mem_singleton.1 hc]; unfold Dig; rw [gb _ (by omega)]; omega
theorem ll (n : Nat) : ∀ c ∈ decDigits n, Dig c := dd_dig (n + 1) n (by omega)
theorem lQ : ∀ (m n : Nat), n < 10 ^ m → (decDigits n).length ≤ m + 1 := by
  intro m
  induction m with
  | zero => intro n h; rw [cZ (by omega)]; simp
  | succ m ih =>
    intro n h
    by_cases hn : n < 10
    · rw [cZ hn]; simp
    · have h10 : n / 10 < 10 ^ m := by rw [Nat.pow_succ] at h; omega
      rw [fk hn, List.length_append]
      have := ih _ h10
      simp; omega
theorem lP (n : Nat) : 1 ≤ (decDigits n).length := by
  by_cases hn : n < 10
  · rw [cZ hn]; simp
  · rw [fk hn]; simp
def val (v : Nat) : Bs → Nat
  | [] => v
  | c :: r => val (10 * v + (c.toNat - 48)) r
theorem px : ∀ (a b : Bs) (v : Nat), val v (a ++ b) = val (val v a) b
  | [], b, v => rfl
  | c :: r, b, v => px r b _
theorem val_dd : ∀ (m n : Nat), n < m → val 0 (decDigits n) = n := by
  intro m
  induction m with
  | zero => intro n h; omega
  | succ m ih =>
    intro n h
    by_cases hn : n < 10
    · rw [cZ hn]; show 10 * 0 + ((UInt8.ofNat (48 + n)).toNat - 48) = n; rw [gb n hn]; omega
    · rw [fk hn, px, ih (n / 10) (by omega)]
      show 10 * (n / 10) + ((UInt8.ofNat (48 + n % 10)).toNat - 48) = n
      rw [gb _ (by omega)]; omega
theorem nq (n : Nat) : val 0 (decDigits n) = n := val_dd (n + 1) n (by omega)
end Go.Dg
namespace Go.Dg
open Go.Pv Go.Av
open Go.Lib (decDigits)
theorem gz (x : Bool) : (true && x) = x := Eq.symm (Eq.symm rfl)
theorem hM (x : Bool) : (false && x) = false := Eq.symm (Eq.symm rfl)
theorem fo (x : Bool) : (false || x) = x := Eq.symm (Eq.symm rfl)
theorem nfl : (!false) = true := Eq.symm (Eq.symm rfl)
theorem ntr : (!true) = false := Eq.symm (Eq.symm rfl)
theorem cfl {α : Type} (a b : α) : (bif false then a else b) = b := Eq.symm (Eq.symm rfl)
theorem ctr {α : Type} (a b : α) : (bif true then a else b) = a := Eq.symm (Eq.symm rfl)
def Tot (o : Option (Int × Int)) : Prop := ∃ x k, o = some (x, k) ∧ (k = 0 ∨ k = 1 ∨ k = 2)
theorem Tot.z (x : Int) : Tot (some (x, 0)) := ⟨x, 0, rfl, .inl rfl⟩
theorem Tot.o (x : Int) : Tot (some (x, 1)) := ⟨x, 1, rfl, .inr (.inl rfl)⟩
theorem Tot.t (x : Int) : Tot (some (x, 2)) := ⟨x, 2, rfl, .inr (.inr rfl)⟩
theorem dQ {c : Bool} {a b : Option (Int × Int)} (ha : Tot a) (hb : Tot b) : Tot (bif c then a else b) := by cases c <;> assumption
theorem tot_bndc {c : Bool} {v : UInt8} {f : UInt8 → Option (Int × Int)} (h : ∀ x, Tot (f x)) : Tot (jz c (some v) f) := by
  cases c
  · exact h _
  · exact h _
theorem j3_tot (y17 : Int) (y23 y24 : Int) (rec : (Bool × Int × Int) → Option (Int × Int)) (y43 : UInt8) (h : ∀ v, Tot (rec (false, v, y24 + 1))) (hb : -9223372036854775808 ≤ y24 + 1 ∧ y24 + 1 ≤ 9223372036854775807) :
    Tot (cu 10 y17 false y23 y24 rec y43) := by
  unfold cu cL
  refine dQ (.t _) (dQ (.o _) (dQ (.o _) ?_))
  rw [bP hb]
  exact h _
theorem pP (F : Nat) (s : Bs) (c : Int) (hs : s.length ≤ 1000) : ∀ (n i : Nat) (v : Int), s.length - i < n → i ≤ s.length → Tot (bM F s 10 c n (false, v, (i : Int))) := by
  intro n
  induction n with
  | zero => intro i v h; omega
  | succ n ih =>
    intro i v hn hi;show Tot (dy F s 10 c (bM F s 10 c n) false v (i : Int))
    unfold dy
    by_cases h : i < s.length
    · have e : ((i : Int) + 1) = ((i + 1 : Nat) : Int) := by omega
      have hr : ∀ v, Tot (bM F s 10 c n (false, v, (i : Int) + 1)) := fun v => by rw [e]; exact ih (i + 1) v (by omega) (by omega)
      have h10 : decide ((10 : Int) = 0) = false := by decide
      rw [bT (by omega), bt (by omega), bb, h10, Bool.and_false, cfl]
      refine dQ (j3_tot _ _ _ _ _ hr (by omega)) ?_
      unfold dL
      rw [bh]
      refine tot_bndc fun x38 => dQ ?_ (.t _)
      rw [bh]
      exact j3_tot _ _ _ _ _ hr (by omega)
    · rw [bF (by omega)]
      unfold dx
      rw [pw, hM, cfl]
      exact .z _
theorem uint_tot (F : Nat) (s : Bs) (hs : s.length ≤ 1000) (hF : s.length < F) : Tot (eV F s 10 0) := by
  unfold eV
  refine dQ (.t _) ?_
  have h1 : ((decide ((2 : Int) ≤ 10)) && (decide ((10 : Int) ≤ 36))) = true := by decide
  rw [h1, nk]
  unfold dv dw
  rw [grd_D rfl, bT rfl]
  unfold ct
  have h2 : decide (0 ≤ IntKind.u64.wrap 64) = true := by decide +kernel
  rw [h2, nk, bV (by omega)]
  exact pP F s _ hs F 0 0 (by omega) (by omega)
theorem pg (b : Bool) (x : Int) : Tot (cM b x) := by
  unfold cM cN
  have h2 : decide (0 ≤ IntKind.u64.wrap 63) = true := by decide +kernel
  rw [h2, nk]
  exact dQ (.o _) (dQ (.o _) (dQ (.z _) (.z _)))
theorem jx (F : Nat) (s : Bs) (b : Bool) (hs : s.length ≤ 1000) (hF : s.length < F) : Tot (cc F 10 0 s b) := by
  unfold cc
  obtain ⟨x, k, e, hk⟩ := uint_tot F s hs hF
  rw [e, bR]
  by_cases h2 : k = 2
  · subst h2
    have : ((!decide ((2 : Int) = 0)) && (!decide ((2 : Int) = 1))) = true := by decide
    rw [this, ctr]
    exact .t _
  · have : ((!decide (k = 0)) && (!decide (k = 1))) = false := by
      rcases hk with rfl | rfl | rfl
      · decide
      · decide
      · exact absurd rfl h2
    rw [this, cfl, grd_D rfl]
    exact pg _ _
theorem int_tot (F : Nat) (s : Bs) (hs : s.length ≤ 1000) (hF : s.length < F) : Tot (eW F s 10 0) := by
  unfold eW
  by_cases h : s = []
  · rw [bT h]; exact .t _
  · have hp : 0 < s.length := List.length_pos_iff.2 h
    have hf : (dg s 1).length ≤ s.length := by unfold dg; simp
    rw [bF h, bt (by omega), bb]
    refine dQ ?_ (dQ ?_ (jx F s _ hs hF))
    · rw [dU (by omega), bb]; exact jx F _ _ (by omega) (by omega)
    · rw [dU (by omega), bb]; exact jx F _ _ (by omega) (by omega)
theorem jp (a s : Bs) (ha : a ≠ []) (hs : s.length ≤ 18) : ∀ (n i v : Nat), s.length - i < n → i ≤ s.length → v < 10 ^ i → Tot (dq a s n ((v : Int), (i : Int))) := by
  intro n
  induction n with
  | zero => intro i v h; omega
  | succ n ih =>
    intro i v hn hi hv;show Tot (dr a s (dq a s n) (v : Int) (i : Int))
    unfold dr
    have hv18 : v < 10 ^ 18 := Nat.lt_of_lt_of_le hv (Nat.pow_le_pow_right (by omega) (by omega))
    by_cases h : i < s.length
    · have hv17 : v < 10 ^ 17 := Nat.lt_of_lt_of_le hv (Nat.pow_le_pow_right (by omega) (by omega))
      rw [bT (by omega), bt (by omega), bb]
      obtain ⟨c, hc⟩ : ∃ c, c = at_ s (i : Int) := ⟨_, rfl⟩
      rw [← hc]
      by_cases h9 : 9 < (c - 48).toNat
      · rw [bT (by omega)]; exact .t _
      · have e1 : ((v : Int) * 10) + ((c - 48).toNat : Int) = ((v * 10 + (c - 48).toNat : Nat) : Int) := by omega
        have e2 : ((i : Int) + 1) = ((i + 1 : Nat) : Int) := by omega
        rw [bF (by omega), bP (by omega), bP (by omega), bP (by omega), e1, e2]
        refine ih (i + 1) _ (by omega) (by omega) ?_
        rw [Nat.pow_succ]; omega
    · rw [bF (by omega)]
      unfold ef eg
      have hp : 0 < a.length := List.length_pos_iff.2 ha
      rw [bt (by omega), bb]
      refine dQ ?_ (.z _)
      rw [bP (by omega)]; exact .z _
theorem atoi_tot (F : Nat) (s : Bs) (hs : s.length ≤ 1000) (hF : s.length < F) : Tot (fU F s) := by
  unfold fU ee fp
  by_cases h : 0 < s.length ∧ s.length < 19
  · have hc : ((decide (0 < (s.length : Int))) && (decide ((s.length : Int) < 19))) = true := by
      rw [decide_eq_true (by omega), decide_eq_true (by omega)]; rfl
    have hne : s ≠ [] := List.length_pos_iff.1 h.1
    have hf : (dg s 1).length ≤ s.length := by unfold dg; simp
    rw [hc, ctr, bt (by omega), bb]
    have hg : ∀ (c : Bool) (x : Option (Int × Int)), dK c (bQ 0 s.length) x = x := fun c x => fX fun _ => by omega
    rw [hg, bb]
    refine dQ ?_ ?_
    · rw [dU (by omega), bb]
      refine dQ (.t _) ?_
      rw [bV (by omega)]
      exact jp s _ hne (by omega) F 0 0 (by omega) (by omega) (by omega)
    · rw [bV (by omega)]
      exact jp s _ hne (by omega) F 0 0 (by omega) (by omega) (by omega)
  · have hc : ((decide (0 < (s.length : Int))) && (decide ((s.length : Int) < 19))) = false := by
      by_cases h0 : 0 < s.length
      · rw [decide_eq_false (show ¬ ((s.length : Int) < 19) by omega), Bool.and_false]
      · rw [decide_eq_false (show ¬ (0 < (s.length : Int)) by omega)]; rfl
    rw [hc, cfl]
    obtain ⟨x, k, e, hk⟩ := int_tot F s hs hF
    rw [e, bR]
    exact ⟨x, k, rfl, hk⟩
theorem lM (F : Nat) (s : Bs) (hs : s.length ≤ 1000) (hF : s.length < F) : ∃ x k, cx F s = some (x, k) := by
  unfold cx
  obtain ⟨x, k, e, hk⟩ := atoi_tot F s hs hF
  rw [e, bR]
  by_cases h0 : k = 0
  · subst h0; exact ⟨x, 0, by rw [decide_eq_true rfl, ntr, cfl]⟩
  · refine ⟨x, 1, ?_⟩
    rw [decide_eq_false h0, nfl, ctr, nl (by omega), grd_D (by omega)]
theorem nw (c : UInt8) (h : Dig c) : (c - 48).toNat = c.toNat - 48 := by
  have : ∀ k : Fin 256, (48 ≤ k.val ∧ k.val ≤ 57) → (UInt8.ofNat k.val - 48).toNat = k.val - 48 := by decide +kernel
  have h1 := this ⟨c.toNat, c.toNat_lt⟩ h
  simpa using h1
theorem qL (a : Bs) (s : Bs) (hs : s.length ≤ 18) (hd : ∀ c ∈ s, Dig c) : ∀ (n i v : Nat), s.length - i < n → i ≤ s.length → v < 10 ^ i → dq a s n ((v : Int), (i : Int)) = ef a ((val v (s.drop i) : Nat) : Int) := by
  intro n
  induction n with
  | zero => intro i v h; omega
  | succ n ih =>
    intro i v hn hi hv;show dr a s (dq a s n) (v : Int) (i : Int) = _
    unfold dr
    by_cases h : i < s.length
    · have hv17 : v < 10 ^ 17 := Nat.lt_of_lt_of_le hv (Nat.pow_le_pow_right (by omega) (by omega))
      have hdr : s.drop i = s[i] :: s.drop (i + 1) := aJ h
      have hc := hd _ (List.getElem_mem h)
      have hsub := nw _ hc
      obtain ⟨hc1, hc2⟩ := hc
      rw [bT (by omega), bt (by omega), bb, dV h]
      have e1 : ((v : Int) * 10) + ((s[i] - 48).toNat : Int) = ((10 * v + (s[i].toNat - 48) : Nat) : Int) := by rw [hsub]; omega
      have e2 : ((i : Int) + 1) = ((i + 1 : Nat) : Int) := by omega
      rw [bF (by rw [hsub]; omega), bP (by omega), bP (by omega), bP (by omega), e1, e2, ih (i + 1) _ (by omega) (by omega) (by rw [Nat.pow_succ]; omega), hdr]
      rfl
    · rw [bF (by omega), aM (by omega)]; rfl
theorem pI (F : Nat) (n : Nat) (hn : n ≤ 1073741824) (hF : 100 < F) : cx F (decDigits n) = some ((n : Int), 0) := by
  have hl : (decDigits n).length ≤ 11 := lQ 10 n (by omega)
  have hp := lP n
  have hd := ll n
  have h0 : at_ (decDigits n) 0 = (decDigits n)[0] := ny (by omega)
  have hd0 := hd _ (List.getElem_mem (show 0 < (decDigits n).length by omega))
  have n45 : (decDigits n)[0] ≠ 45 := fun e => by rw [e] at hd0; exact absurd hd0.1 (by decide)
  have n43 : (decDigits n)[0] ≠ 43 := fun e => by rw [e] at hd0; exact absurd hd0.1 (by decide)
  have hc : ((decide (0 < ((decDigits n).length : Int))) && (decide (((decDigits n).length : Int) < 19))) = true := by
    rw [decide_eq_true (by omega), decide_eq_true (by omega)]; rfl
  have hg : ∀ (c : Bool) (x : Option (Int × Int)), dK c (bQ 0 (decDigits n).length) x = x := fun c x => fX fun _ => by omega
  have e : fU F (decDigits n) = some ((n : Int), 0) := by
    unfold fU ee
    rw [hc, ctr, bt (by omega), bb, hg, bb, h0, decide_eq_false n45, decide_eq_false n43, fo, cfl, bV (by omega)]
    have := qL (decDigits n) (decDigits n) (by omega) hd F 0 0 (by omega) (by omega) (by omega)
    refine Eq.trans this ?_
    rw [List.drop_zero, nq]
    unfold ef eg
    rw [bt (by omega), bb, h0, decide_eq_false n45, cfl]
  unfold cx
  rw [e, bR, decide_eq_true rfl, ntr, cfl]
end Go.Dg
namespace Go.Rp
open Go.Pv Go.Av
abbrev Bs := List UInt8
theorem jS {c : UInt8} {s : Bs} (h : ∀ b ∈ s, b ≠ c) : Go.Lib.indexByte s c = -1 := by
  induction s with
  | nil => rfl
  | cons b r ih =>
    have h1 : (b == c) = false := by simpa using h b (by simp)
    have h2 := ih fun x hx => h x (by simp [hx])
    unfold Go.Lib.indexByte
    rw [h1, h2]; rfl
theorem toB_nat (n : Int) (c : Nat) (h : n = c) : toB n = UInt8.ofNat c := by
  subst h
  unfold toB
  apply UInt8.toNat.inj
  rw [UInt8.toNat_ofNat', UInt8.toNat_ofNat']
  omega
theorem decR_pos (s : Bs) (p : Nat) : 1 ≤ (jf s p).2 := by
  unfold jf Utf8.decode
  simp only
  repeat' split
  all_goals simp
theorem nQ (n : Int) : (dR n).length ≤ 4 := by
  unfold dR Utf8.encode
  simp only
  repeat' split
  all_goals simp
theorem nP (n : Int) (h : 128 ≤ n) : 2 ≤ (dR n).length ∧ ((dR n).length = 2 → ¬ (10 : UInt8) = at_ (dR n) 1) := by
  have hc : ¬ (if Utf8.valid n = true then n.toNat else Utf8.runeError) < 128 := by
    split
    · omega
    · decide
  unfold dR Utf8.encode
  simp only
  generalize (if Utf8.valid n = true then n.toNat else Utf8.runeError) = c at hc ⊢
  rw [if_neg hc]
  by_cases h2 : c < 2048
  · rw [if_pos h2]
    refine ⟨by simp, fun _ => ?_⟩;show ¬ (10 : UInt8) = UInt8.ofNat (128 + c % 64);intro e
    have := congrArg UInt8.toNat e
    rw [UInt8.toNat_ofNat'] at this
    have e10 : (10 : UInt8).toNat = 10 := rfl
    omega
  · rw [if_neg h2]
    split <;> simp
theorem nZ (s : Bs) (c : UInt8) : -1 ≤ Go.Lib.indexByte s c ∧ Go.Lib.indexByte s c < s.length := by
  induction s with
  | nil => simp [Go.Lib.indexByte]
  | cons b r ih =>
    unfold Go.Lib.indexByte
    split
    · first | (simp; done) | (simp; omega)
    · split
      · first | (simp; done) | (simp; omega)
      · rename_i h
        have h' : ¬ Go.Lib.indexByte r c = -1 := by simpa using h
        simp; omega
theorem lE (s cs : Bs) : -1 ≤ Go.Lib.indexAny s cs ∧ Go.Lib.indexAny s cs < s.length := by
  induction s with
  | nil => simp [Go.Lib.indexAny]
  | cons b r ih =>
    unfold Go.Lib.indexAny
    split
    · first | (simp; done) | (simp; omega)
    · split
      · first | (simp; done) | (simp; omega)
      · rename_i h
        have h' : ¬ Go.Lib.indexAny r cs = -1 := by simpa using h
        simp; omega
theorem getD_at (s : Bs) (k : Nat) (h : k < s.length) : (⟨s.toArray⟩ : ByteArray).get! k = s[k] := by
  show (s.toArray)[k]! = _
  simp [h]
theorem qI (s : Bs) (p m : Nat) (hm : 0 < m) (hk : m < (jf s p).2) : ∃ h : p + m < s.length, 128 ≤ (s[p + m]).toNat := by
  have key : ∀ k, (decide (p + k < (⟨s.toArray⟩ : ByteArray).size) && ((⟨s.toArray⟩ : ByteArray).get! (p + k)).toNat / 64 == 2) = true → ∃ h : p + k < s.length, 128 ≤ (s[p + k]).toNat := by
    intro k hk
    simp only [Bool.and_eq_true, decide_eq_true_eq, beq_iff_eq] at hk
    obtain ⟨h1, h2⟩ := hk
    have h1' : p + k < s.length := h1
    rw [getD_at s (p + k) h1'] at h2
    exact ⟨h1', by omega⟩
  unfold jf Utf8.decode at hk
  simp only at hk
  split at hk
  · simp at hk; omega
  · split at hk
    · rename_i h2
      simp only [Bool.and_eq_true] at h2
      split at hk
      · have : m = 1 := by simp at hk; omega
        subst this;exact key 1 (by simpa using h2.2)
      · simp at hk; omega
    · split at hk
      · rename_i h2
        simp only [Bool.and_eq_true] at h2
        split at hk
        · have : m = 1 ∨ m = 2 := by simp at hk; omega
          rcases this with rfl | rfl
          · exact key 1 (by simpa using h2.1.2)
          · exact key 2 (by simpa using h2.2)
        · simp at hk; omega
      · split at hk
        · rename_i h2
          simp only [Bool.and_eq_true] at h2
          split at hk
          · have : m = 1 ∨ m = 2 ∨ m = 3 := by simp at hk; omega
            rcases this with rfl | rfl | rfl
            · exact key 1 (by simpa using h2.1.1.2)
            · exact key 2 (by simpa using h2.1.2)
            · exact key 3 (by simpa using h2.2)
          · simp at hk; omega
        · simp at hk; omega
theorem decR_low (s : Bs) (p : Nat) (h : p < s.length) (hb : (s[p]).toNat < 128) : jf s p = ((s[p]).toNat, 1) := decode_ascii (⟨s.toArray⟩ : ByteArray) p h hb
theorem qJ (s : Bs) (p : Nat) (h : p < s.length) (hb : 128 ≤ (s[p]).toNat) : 128 ≤ (jf s p).1 := (decode_high (⟨s.toArray⟩ : ByteArray) p h hb).1
theorem ph (F : Nat) (hF : 5 ≤ F) (r : Int) (hr : 128 ≤ r) : gK F [13, 10] r = some (-1) := by
  obtain ⟨k1, k2⟩ := nP r hr
  have k3 := nQ r
  unfold gK
  have hf : ((decide (0 ≤ r)) && (decide (r < 128))) = false := by rw [decide_eq_false (by omega : ¬ r < 128), Bool.and_false]
  rw [hf, cond_false]
  by_cases h2 : r = 65533
  · rw [bT h2]
    obtain ⟨m, rfl⟩ : ∃ m, F = m + 3 := ⟨F - 3, by omega⟩
    have e0 : jf [13, 10] 0 = (13, 1) := by decide +kernel
    have e1 : jf [13, 10] 1 = (10, 1) := by decide +kernel
    show eN [13, 10] (gq [13, 10] (m + 2)) 0 = _
    unfold eN
    simp only [e0]
    show eN [13, 10] (gq [13, 10] (m + 1)) 1 = _
    unfold eN
    simp only [e1]
    rfl
  · rw [bF h2]
    have hv : ∃ b, gZ F r = some b := by
      unfold gZ
      cases (decide (0 ≤ r)) && (decide (r < 55296)) with
      | true => exact ⟨true, rfl⟩
      | false =>
        rw [cond_false]
        cases (decide (57343 < r)) && (decide (r ≤ 1114111)) with
        | true => exact ⟨true, rfl⟩
        | false => exact ⟨false, rfl⟩
    obtain ⟨b, hb⟩ := hv
    rw [hb, bh]
    cases b with
    | false => rfl
    | true =>
      obtain ⟨m, rfl⟩ : ∃ m, F = m + 1 := ⟨F - 1, by omega⟩
      simp (disch := omega) only [Bool.not_true, cond_false, bb, bP]
      show gr [13, 10] (dR r) (il [13, 10] (dR r) m) = _
      unfold gr gp
      by_cases h3 : (dR r).length = 2
      · have e1 : ((dR r).length : Int) - 1 = 1 := by omega
        have e2 : at_ ([13, 10] : Bs) 1 = 10 := rfl
        have e3 : dg ([13, 10] : Bs) (1 + 1) = [] := rfl
        rw [e1]
        simp (disch := (first | omega | (simp; done) | (simp; omega))) only [bT, bt, bb, e2, decide_eq_false (k2 h3), Bool.not_false, nk, bP, dU, e3]
        rfl
      · have : ¬ ((dR r).length : Int) - 1 < (([13, 10] : Bs).length : Int) := by simp; omega
        rw [bF this]
def nxt (s : Bs) (y : Nat) : Int := if Go.Lib.indexAny (s.drop y) [13, 10] = -1 then -1 else (y : Int) + Go.Lib.indexAny (s.drop y) [13, 10]
theorem oB (s : Bs) (y : Nat) (h : y < s.length) (hc : ([13, 10] : Bs).contains s[y] = false) : nxt s (y + 1) = nxt s y := by
  unfold nxt
  rw [aJ h]
  simp only [Go.Lib.indexAny, hc]
  have := (lE (s.drop (y + 1)) [13, 10]).1
  by_cases e : Go.Lib.indexAny (s.drop (y + 1)) [13, 10] = -1
  · simp [e]
  · have e2 : (Go.Lib.indexAny (s.drop (y + 1)) [13, 10] == -1) = false := by simpa using e
    have e3 : ¬ Go.Lib.indexAny (s.drop (y + 1)) [13, 10] + 1 = -1 := by omega
    simp [e, e2, e3]; omega
theorem nxt_hi (s : Bs) (y : Nat) (h : y < s.length) (hb : 128 ≤ (s[y]).toNat) : nxt s (y + 1) = nxt s y := by
  refine oB s y h ?_
  have h1 : s[y] ≠ 13 := by intro e; rw [e] at hb; revert hb; decide
  have h2 : s[y] ≠ 10 := by intro e; rw [e] at hb; revert hb; decide
  simp [h1, h2]
theorem nxt_skip (s : Bs) (y : Nat) : ∀ k, (∀ m, m < k → ∃ h : y + m < s.length, 128 ≤ (s[y + m]).toNat) → nxt s (y + k) = nxt s y := by
  intro k
  induction k with
  | zero => intro _; rfl
  | succ k ih =>
    intro h;obtain ⟨h1, h2⟩ := h k (by omega)
    rw [show y + (k + 1) = y + k + 1 by omega, nxt_hi s (y + k) h1 h2]
    exact ih (fun m hm => h m (by omega))
theorem pi (F : Nat) (hF : 5 ≤ F) (s : Bs) : ∀ (n y : Nat), s.length - y < n → gx F s [13, 10] n y = some (nxt s y) := by
  intro n
  induction n with
  | zero => intro y h; omega
  | succ n ih =>
    intro y hy;show gy F s [13, 10] (gx F s [13, 10] n) y = _
    unfold gy gu
    by_cases h : y < s.length
    · rw [bT h]
      by_cases hb : (s[y]).toNat < 128
      · rw [decR_low s y h hb]
        have hi : gK F [13, 10] ((s[y]).toNat : Int) = some (Go.Lib.indexByte [13, 10] s[y]) := by
          unfold gK
          have e : ((decide ((0 : Int) ≤ ((s[y]).toNat : Int))) && (decide (((s[y]).toNat : Int) < 128))) = true := by
            rw [decide_eq_true (by omega : (0 : Int) ≤ ((s[y]).toNat : Int)), decide_eq_true (by omega : ((s[y]).toNat : Int) < 128)]; rfl
          rw [e, cond_true, bb, toB_nat _ (s[y]).toNat rfl, UInt8.ofNat_toNat]
        simp only [hi, bh]
        by_cases hc : ([13, 10] : Bs).contains s[y] = true
        · have h0 : 0 ≤ Go.Lib.indexByte [13, 10] s[y] := by
            have : s[y] = 13 ∨ s[y] = 10 := by simpa using hc
            rcases this with e | e <;> rw [e] <;> decide
          rw [bT h0]
          unfold nxt
          rw [aJ h]
          simp only [Go.Lib.indexAny, hc, if_true]
          simp
        · have hc' : ([13, 10] : Bs).contains s[y] = false := by simpa using hc
          have h0 : ¬ 0 ≤ Go.Lib.indexByte [13, 10] s[y] := by
            have hne : ¬ s[y] = 13 ∧ ¬ s[y] = 10 := by simpa using hc'
            have := jS (c := s[y]) (s := [13, 10]) (fun b hb e => by
              simp at hb
              rcases hb with rfl | rfl
              · exact hne.1 e.symm
              · exact hne.2 e.symm)
            omega
          rw [bF h0, ih (y + 1) (by omega), oB s y h hc']
      · have hh := qJ s y h (by omega)
        have hp := decR_pos s y
        rw [ph F hF _ (by omega), bh, bF (by omega), ih _ (by omega)]
        rw [nxt_skip s y (jf s y).2 (fun m hm => by
          cases m with
          | zero => exact ⟨h, by simpa using hb⟩
          | succ m => exact qI s y (m + 1) (by omega) hm)]
    · rw [bF h]
      unfold nxt
      rw [aM (by omega)]
      rfl
theorem qf (F : Nat) (s : Bs) (hF : 20 ≤ F) : lN F s [13, 10] = some (Go.Lib.indexAny s [13, 10]) := by
  unfold lN
  by_cases h : 8 < s.length
  · simp [h]
  · have e : ((decide (8 < s.length)) && (decide (2 ≤ ([13, 10] : Bs).length))) = false := by simp [h]
    rw [e, cond_false]
    unfold lj nz gt
    have e3 : decide ((8 : Int) < (s.length : Int)) = false := decide_eq_false (by omega)
    simp (disch := (first | omega | (simp; done) | (simp; omega))) only [bF, bh, e3, Bool.not_false, nk]
    rw [pi F (by omega) s F 0 (by omega)]
    unfold nxt
    rw [List.drop_zero]
    split
    · rename_i e; rw [e]
    · simp
def jV (b : UInt8) : Bool := decide (b = 13) || decide (b = 10)
theorem kK : ∀ s : Bs, decide (0 ≤ Go.Lib.indexAny s [13, 10]) = s.any jV
  | [] => rfl
  | b :: r => by
    have ih := kK r
    have hr := (lE r [13, 10]).1
    unfold Go.Lib.indexAny
    rw [List.any_cons, ← ih]
    have e : ([13, 10] : Bs).contains b = jV b := by
      unfold jV
      rw [List.contains_cons, List.contains_cons, List.contains_nil, Bool.or_false]
      by_cases h : b = 13
      · subst h; rfl
      · by_cases g : b = 10
        · subst g; rfl
        · rw [decide_eq_false h, decide_eq_false g]
          have h1 : (b == 13) = false := by simpa using h
          have g1 : (b == 10) = false := by simpa using g
          rw [h1, g1]
    rw [e]
    cases jV b with
    | true => rfl
    | false =>
      by_cases h : Go.Lib.indexAny r [13, 10] = -1
      · rw [h]; rfl
      · have h2 : (Go.Lib.indexAny r [13, 10] == -1) = false := by simpa using h
        rw [h2]
        simp only [if_false, Bool.false_or, Bool.false_eq_true]
        rw [decide_eq_true (by omega), decide_eq_true (by omega)]
theorem oh (F : Nat) (s : Bs) (hs : s.length ≤ 1000) (hF : 20 ≤ F) : fE F s [13, 10] = some (s.any jV) := by
  unfold fE
  have e3 : nF [13, 10] = true := by decide
  rw [e3, nk, nl (by omega), nl (by decide), qf F s hF, bh, kK]
end Go.Rp
