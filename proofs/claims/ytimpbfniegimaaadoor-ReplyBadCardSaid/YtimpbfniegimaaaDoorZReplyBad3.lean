/-
  Texts in one (only what ReplyBad needs): RepAW, RepLP, RepLW, LReplyBadP, LReplyBadW, DgN, RpA, RpC, RepRP, RpB, RpSp, RpM, RpW, RpL, RpI, RpT, RpBad.
-/
import Derived.Test.YtimpbfniegimaaaDoorZReplyBad2
import Derived.Test.YtimpbfniegimaaaDoorShelf
import Derived.Lib.ItoaNum
import Derived.Lib.IndexLaws
import Derived.Test.YtimpbfniegimaaaDoorChecked
import Derived.Laws.RangeAny
import Derived.Lib.IndexAny
import Derived.Lib.SplitLaws
import Derived.Lib.IndexBytes
set_option linter.unusedVariables false
set_option linter.unusedSimpArgs false
namespace Go.Proofs.YtimpbfniegimaaaDoor
open Go.RowKit Go.Av Go.Pv
theorem en9_repa : ∀ (args : Array Value) (w : World), (callFunc 9 args).run Tryd.prog w = .ok (.enter 9 args) w := fun _ _ => by kernel_rfl
theorem mP : ∀ (args : Array Value) (w : World), (callFunc 10 args).run Tryd.prog w = .ok (.enter 10 args) w := fun _ _ => by kernel_rfl
theorem mO : ∀ (args : Array Value) (w : World), (callFunc 13 args).run Tryd.prog w = .ok (.enter 13 args) w := fun _ _ => by kernel_rfl
theorem mM : ∀ (args : Array Value) (w : World), (callFunc 14 args).run Tryd.prog w = .ok (.enter 14 args) w := fun _ _ => by kernel_rfl
theorem jV : ∀ (args : Array Value) (w : World), (callFunc 22 args).run Tryd.prog w = .ok (.enter 22 args) w := fun _ _ => by kernel_rfl
theorem bN : ∀ (args : Array Value) (w : World), (callFunc 23 args).run Tryd.prog w = .ok (.enter 23 args) w := fun _ _ => by kernel_rfl
theorem jU : ∀ (args : Array Value) (w : World), (callFunc 24 args).run Tryd.prog w = .ok (.enter 24 args) w := fun _ _ => by kernel_rfl
theorem mJ : ∀ (args : Array Value) (w : World), (callFunc 25 args).run Tryd.prog w = .ok (.enter 25 args) w := fun _ _ => by kernel_rfl
theorem mI : ∀ (args : Array Value) (w : World), (callFunc 27 args).run Tryd.prog w = .ok (.enter 27 args) w := fun _ _ => by kernel_rfl
theorem mH : ∀ (args : Array Value) (w : World), (callFunc 32 args).run Tryd.prog w = .ok (.enter 32 args) w := fun _ _ => by kernel_rfl
theorem jT : ∀ (args : Array Value) (w : World), (callFunc 33 args).run Tryd.prog w = .ok (.enter 33 args) w := fun _ _ => by kernel_rfl
theorem mG : ∀ (args : Array Value) (w : World), (callFunc 34 args).run Tryd.prog w = .ok (.enter 34 args) w := fun _ _ => by kernel_rfl
theorem dl : ∀ (args : Array Value) (w : World), (callFunc 35 args).run Tryd.prog w = .ok (.enter 35 args) w := fun _ _ => by kernel_rfl
theorem jS : ∀ (args : Array Value) (w : World), (callFunc 36 args).run Tryd.prog w = .ok (.enter 36 args) w := fun _ _ => by kernel_rfl
theorem mF : ∀ (args : Array Value) (w : World), (callFunc 43 args).run Tryd.prog w = .ok (.enter 43 args) w := fun _ _ => by kernel_rfl
theorem mE : ∀ (args : Array Value) (w : World), (callFunc 44 args).run Tryd.prog w = .ok (.enter 44 args) w := fun _ _ => by kernel_rfl
theorem mD : ∀ (args : Array Value) (w : World), (callFunc 45 args).run Tryd.prog w = .ok (.enter 45 args) w := fun _ _ => by kernel_rfl
theorem hH : ∀ (args : Array Value) (w : World), (callFunc 46 args).run Tryd.prog w = .ok (.enter 46 args) w := fun _ _ => by kernel_rfl
theorem mC : ∀ (args : Array Value) (w : World), (callFunc 47 args).run Tryd.prog w = .ok (.enter 47 args) w := fun _ _ => by kernel_rfl
set_option maxRecDepth 100000 in
set_option maxHeartbeats 1000000 in
theorem dp (F : Nat) (a1 : List UInt8) (q2 : Option Nat) (a3 : UInt8) (r4 : Int) (H : cI F a1 a3 = some r4) : ACalls Tryd.prog 46 [slE Enc.byte a1 q2, u8 a3] [] (Ret (i64 r4) []) := by
 unfold cI at H
 refine az Tryd.func46 rfl rfl ?_;show AW _ _ 8 _ _ _;refine af <| aa ?_;show AR _ _ _ _ _ [0] _;refine za rfl <| ah <| af ?_;obtain ⟨x5, e6, H⟩ := cd H;refine aa ?_;show AR _ _ _ _ _ [0, 1, 2, 3] _;refine zS rfl (aA (av := slE _ _ _) rfl) <| zm rfl <| zR rfl (show OpR _ _ _ _ (i64 x5) _ from by subst e6; exact jC ⟨Tryd.func57, by kernel_rfl, by kernel_rfl, by kernel_rfl, by kernel_rfl⟩ rfl rfl) <| za rfl <| ah <| aK ?_;obtain rfl := ak H;exact And.intro rfl (Exists.intro _ (Exists.intro _ ⟨aJ rfl (.refl _), aB [] rfl, rfl, rfl⟩))
set_option maxRecDepth 100000 in
set_option maxHeartbeats 1000000 in
theorem gB (F : Nat) (a1 : List UInt8) (r2 : Int) (r3 : Bool) (H : dD F a1 = some (r2, r3)) : ACalls Tryd.prog 36 [S a1] [] (Ret (.tup [i64 r2, B r3]) []) := by
 unfold dD at H
 refine az Tryd.func36 rfl rfl ?_;show AW _ _ 29 _ _ _;refine af <| aa ?_;show AR _ _ _ _ _ [0, 1] _;refine za rfl <| za rfl <| ah <| af ?_;obtain ⟨x4, x5, e6, H⟩ := fJ H;refine aa ?_;show AR _ _ _ _ _ [0, 1, 2, 3, 4, 5, 6] _;refine zm rfl <| aU rfl rfl (aG rfl mC rfl (iO F a1 x4 x5 e6) ?_);refine zS rfl (aA (av := .tup _) rfl) <| zS rfl (aF (av := .v _) rfl rfl) <| zS rfl (aF (av := eAny _ _) rfl rfl) <| za rfl <| zS rfl (aI (av := eAny _ _) rfl) <| ah <| af ?_;obtain ⟨g9, H⟩ := cO H;obtain ⟨x10, e11, H⟩ := cd H;refine aa ?_;show AR _ _ _ _ _ [0, 1, 2, 3, 4, 5, 6, 7, 8, 9, 10, 11, 12, 13, 14, 15, 16, 17, 18, 19] _;refine zm rfl <| zS rfl (aA (av := eAny _ _) rfl) <| zS rfl (lD ci rfl rfl) <| zm rfl <| aD (l := [8, 9, 10, 11, 12, 13, 14, 15, 16, 17, 18, 19]) 18 (B ((decide (x5 = 0)) && (decide ((a1.length : Int) ≤ 3)))) (fun K => ?_) ?_
 ·rcases ac (decide (x5 = 0)) with h7 | h7
  ·refine zM h7 rfl <| zU h7 rfl (bp ai rfl) <| zU h7 rfl (cX rfl rfl) <| zS rfl (ap (av := .v _) rfl h7 rfl) ?_;exact K _ 3 _ (an (bx h7)) rfl rfl
  ·refine zF h7 rfl <| zF h7 rfl <| zF h7 rfl <| zS rfl (aq (av := .v _) rfl h7 rfl) ?_;exact K _ 3 _ (an (bz h7)) rfl rfl
 refine zm rfl <| aD (l := [14, 15, 16, 17, 18, 19]) 24 (B (((decide (x5 = 0)) && (decide ((a1.length : Int) ≤ 3))) && (decide (x10 = a1)))) (fun K => ?_) ?_
 ·rcases ac ((decide (x5 = 0)) && (decide ((a1.length : Int) ≤ 3))) with h8 | h8
  ·refine zM h8 rfl <| zT h8 rfl (aG rfl mI rfl (show ACalls _ _ _ [] (Ret (S x10) []) from by subst e11; exact kG x4 (lk (g9 h8))) ?_);refine zM h8 rfl <| zU h8 rfl (iH rfl rfl) <| zS rfl (ap (av := .v _) rfl h8 rfl) ?_;exact K _ 4 _ (an (bx h8)) rfl rfl
  ·refine zF h8 rfl <| zF h8 rfl <| zF h8 rfl <| zF h8 rfl <| zS rfl (aq (av := .v _) rfl h8 rfl) ?_;exact K _ 4 _ (an (bz h8)) rfl rfl
 refine zm rfl <| aD (l := [18, 19]) 28 (B ((((decide (x5 = 0)) && (decide ((a1.length : Int) ≤ 3))) && (decide (x10 = a1))) && (decide (0 ≤ x4)))) (fun K => ?_) ?_
 ·rcases ac (((decide (x5 = 0)) && (decide ((a1.length : Int) ≤ 3))) && (decide (x10 = a1))) with h12 | h12
  ·refine zM h12 rfl <| zU h12 rfl (dI rfl rfl) <| zS rfl (ap (av := .v _) rfl h12 rfl) ?_;exact K _ 2 _ (an (bx h12)) rfl rfl
  ·refine zF h12 rfl <| zF h12 rfl <| zS rfl (aq (av := .v _) rfl h12 rfl) ?_;exact K _ 2 _ (an (bz h12)) rfl rfl
 refine za rfl <| za rfl <| ah <| aK ?_;obtain ⟨rfl, rfl⟩ := eO H;exact And.intro rfl (Exists.intro _ (Exists.intro _ ⟨bk rfl (.refl _) (.refl _), aB [] rfl, rfl, rfl⟩))
abbrev _root_.Go.Av.ar := @Tryd.underlying35
abbrev _root_.Go.Av.aO := @Tryd.underlying36
set_option maxRecDepth 100000 in
set_option maxHeartbeats 1000000 in
theorem iX (F : Nat) (a1 : Int) (a2 : List UInt8) (r3 : Int) (r4 : Int) (r5 : Int) (H : eL F a1 a2 = some (r3, r4, r5)) : ACalls Tryd.prog 33 [i64 a1, S a2] [] (Ret (.agg [i64 r3, i64 r4, i64 r5]) []) := by
 unfold eL at H
 refine az Tryd.func33 rfl rfl ?_;show AW _ _ 57 _ _ _;refine af <| aa ?_;show AR _ _ _ _ _ [0] _;refine zX rfl (dk (zs := [.int .i64 0, .int .i64 0, .int .i64 0]) (by kernel_rfl)) ?_;rintro _ _ ⟨o6, rfl, rfl⟩;refine ah <| af ?_;obtain ⟨g7, H⟩ := aR H;obtain ⟨x8, e9, H⟩ := cd H;refine aa ?_;show AR _ _ _ _ _ [0, 1, 2, 3, 4, 5, 6, 7, 8] _;refine zm rfl <| aU rfl rfl (aG rfl mF rfl (show ACalls _ _ _ [] (Ret (.tup [S x8.1, S x8.2.1, B x8.2.2]) []) from by subst e9; exact lib_Cut a2 ([32] : List UInt8) (dx g7)) ?_);refine zS rfl (aA (av := .tup _) rfl) <| zS rfl (aF (av := .v _) rfl rfl) <| zS rfl (aF (av := .v _) rfl rfl) <| zS rfl (aF (av := .v _) rfl rfl) <| za rfl <| za rfl <| za rfl <| ah <| af ?_;obtain ⟨g10, H⟩ := aR H;obtain ⟨g11, H⟩ := aR H;obtain ⟨x12, e13, H⟩ := cd H;refine aa ?_;show AR _ _ _ _ _ [0, 1, 2] _;refine zm rfl <| aU rfl rfl (aG rfl mE rfl (show ACalls _ _ _ [] (Ret (slE Enc.str x12 none) []) from by subst e13; exact mw x8.1 ([46] : List UInt8) (dx g10) (of_decide_eq_true g11)) ?_);refine zS rfl (aI (av := slE _ _ _) rfl) <| ah <| af <| af ?_;obtain ⟨g15, H⟩ := cO H;refine aa ?_;show AR _ _ _ _ _ [0, 1, 2, 3, 4, 5, 6, 7] _;refine zS rfl (aA (av := slE _ _ _) rfl) <| zS rfl (aX ar rfl) <| zS rfl (fL rfl rfl) <| zm rfl <| aD (l := []) 28 (B ((!decide ((x12.length : Int) = 3)) || (decide (a1 / 100 = 3)))) (fun K => ?_) ?_
 ·rcases ac (!decide ((x12.length : Int) = 3)) with h14 | h14
  ·refine zF h14 rfl <| zF h14 rfl <| zF h14 rfl <| zS rfl (ap (av := .v _) rfl h14 rfl) ?_;exact K _ 3 _ (an (fg h14)) rfl rfl
  ·refine zM h14 rfl <| zU h14 rfl (g_quo rfl rfl (g15 (nf h14))) <| zU h14 rfl (br rfl rfl) <| zS rfl (aq (av := .v _) rfl h14 rfl) ?_;exact K _ 3 _ (an (fh h14)) rfl rfl
 refine ah <| ax rfl (fun c16 => ?_) (fun c16 => ?_)
 ·replace H := aZ c16 H;refine af <| aa ?_;show AR _ _ _ _ _ [0, 1] _;refine zR rfl (dv (i := 0) (n := 3) aO rfl (by kernel_rfl) rfl rfl (ab rfl)) <| s0 rfl rfl (cl (i := 0) (vs := [i64 0, i64 0, i64 0]) (by kernel_rfl) rfl rfl (by simp [bt, slE]) rfl (ab rfl)) <| ah <| aK ?_;obtain ⟨rfl, rfl, rfl⟩ := iC H;exact And.intro rfl (Exists.intro _ (Exists.intro _ ⟨hO (cS rfl (CellV.agg (off := 0) (cs := [i64 0, i64 0, i64 0]) (n := 3) 0 aO rfl (by kernel_rfl) rfl rfl (ab rfl))), aB [] rfl, rfl, rfl⟩))
 ·replace H := ba c16 H;refine aE <| af <| aa ?_;show AR _ _ _ _ _ [0] _;refine zX rfl (dk (zs := [.int .i64 0, .int .i64 0, .int .i64 0]) (by kernel_rfl)) ?_;rintro _ _ ⟨o17, rfl, rfl⟩;refine ah <| bS (X := Int × Int × Int) (fun (y39, y40, y41) => ⟨[(0, i64 a1), (4, .pt o6 0), (9, .pt o17 0)], [], [.obj o17 [i64 y39, i64 y40, i64 y41], .obj o6 [i64 0, i64 0, i64 0]]⟩) (fun (y39, y40, y41) => dG a1 y39 y40 y41 = some (r3, r4, r5)) ?_ ?_
  ·refine af <| aa ?_;show AR _ _ _ _ _ [0, 1, 2] _;refine zS rfl (aA (av := slE _ _ _) rfl) <| zS rfl (aX ar rfl) <| zm rfl <| ah <| bm <| AW.loop (X := Nat × Int × Int × Int × Int) (fun (n25, y20, y21, y22, y23) => ⟨[(0, i64 a1), (4, .pt o6 0), (8, slE Enc.str x12 none), (9, .pt o17 0), (31, i64 (x12.length : Int)), (32, i64 y20)], [], [.obj o17 [i64 y21, i64 y22, i64 y23], .obj o6 [i64 0, i64 0, i64 0]]⟩) (fun (n25, y20, y21, y22, y23) => bW F a1 x12 n25 (y20, y21, y22, y23) = some (r3, r4, r5)) (fun (n25, y20, y21, y22, y23) => n25) (F, 0, 0, 0, 0) H (be [0, 0] (.cons (.refl _) (.cons (.refl _) (.cons (.refl _) (.cons (.refl _) (.cons (.refl _) (.cons (.refl _) (.nil _))))))) rfl) ?_;rintro ⟨n25, y20, y21, y22, y23⟩ H;obtain ⟨n25, rfl, H⟩ := fi H;replace H : cz F a1 x12 (bW F a1 x12 n25) y20 y21 y22 y23 = some (r3, r4, r5) := H
   unfold cz at H
   refine af <| aa ?_;show AR _ _ _ _ _ [0] _;refine zS rfl (cn rfl rfl) <| ah <| af <| ax rfl (fun c26 => ?_) (fun c26 => ?_)
   ·replace H := aZ c26 H;refine aE <| af <| bm <| af <| aa ?_;show AR _ _ _ _ _ [0, 1] _;refine zm rfl <| za rfl <| ah <| af ?_;obtain ⟨g27, H⟩ := aR H;obtain ⟨x28, e29, H⟩ := cd H;obtain ⟨x30, x31, e32, H⟩ := fJ H;refine aa ?_;show AR _ _ _ _ _ [0, 1, 2, 3, 4, 5, 6, 7, 8, 9] _;refine zS rfl (aA (av := slE _ _ _) rfl) <| zm rfl <| zS rfl (cj (E := Enc.str) ar (by kernel_rfl) rfl rfl g27 e29) <| zS rfl (bj ai rfl rfl) <| aU rfl rfl (aG rfl jS rfl (gB F x28 x30 x31 e32) ?_);refine zS rfl (aA (av := .tup _) rfl) <| zS rfl (aF (av := .v _) rfl rfl) <| zS rfl (aF (av := .v _) rfl rfl) <| za rfl <| za rfl <| ah <| af <| af <| aa ?_;show AR _ _ _ _ _ [0, 1] _;refine zm rfl <| zS rfl (dy rfl) <| ah <| ax rfl (fun c33 => ?_) (fun c33 => ?_)
    ·replace H := aZ c33 H;refine af <| aa ?_;show AR _ _ _ _ _ [0, 1] _;refine zR rfl (dv (i := 1) (n := 3) aO rfl (by kernel_rfl) rfl rfl (ab rfl)) <| s0 rfl rfl (cl (i := 1) (vs := [i64 0, i64 0, i64 0]) (by kernel_rfl) rfl rfl (by simp [bt, slE]) rfl (ab rfl)) <| ah <| aK ?_;obtain ⟨rfl, rfl, rfl⟩ := iC H;exact And.intro rfl (Exists.intro _ (Exists.intro _ ⟨hO (cS rfl (CellV.agg (off := 0) (cs := [i64 0, i64 0, i64 0]) (n := 3) 1 aO rfl (by kernel_rfl) rfl rfl (ab rfl))), aB [] rfl, rfl, rfl⟩))
    ·replace H := ba c33 H;refine aE ?_;obtain ⟨g34, H⟩ := aR H;obtain ⟨g35, H⟩ := aR H;obtain ⟨x36, e37, H⟩ := cd H;refine aa ?_;show AR _ _ _ _ _ [0, 1, 2, 3] _;refine zm rfl <| zm rfl <| zS rfl (fZ aO (by kernel_rfl) rfl rfl g34) <| s0 rfl rfl (kJ (pre := []) (post := []) (l := ([y21, y22, y23] : List Int)) (vs := [i64 (x36.getD 0 0), i64 (x36.getD 1 0), i64 (x36.getD 2 0)]) (n := 3) (k := 0) (by kernel_rfl) rfl rfl rfl rfl rfl g35 e37 rfl) <| ah ?_;obtain ⟨g38, H⟩ := aR H;refine aa ?_;show AR _ _ _ _ _ [0, 1] _;refine zS rfl (gu rfl rfl g38) <| zm rfl <| ah ?_;exact Exists.intro (n25, y20 + 1, x36.getD 0 0, x36.getD 1 0, x36.getD 2 0) ⟨H, Nat.lt_succ_self _, be [0, 0] (.cons (.refl _) (.cons (.refl _) (.cons (.refl _) (.cons (.refl _) (.cons (.refl _) (.cons (.refl _) (.nil _))))))) rfl⟩
   ·replace H := ba c26 H;refine AW.exit ?_;exact Exists.intro (y21, y22, y23) ⟨H, be [0, 0] (.cons (.refl _) (.cons (.refl _) (.cons (.refl _) (.nil _)))) rfl⟩
  rintro ⟨y39, y40, y41⟩ H;replace H : dG a1 y39 y40 y41 = some (r3, r4, r5) := H
  unfold dG at H
  refine bS (X := Int × Int × Int) (fun (y45, y46, y47) => ⟨[(4, .pt o6 0)], [], [.obj o6 [i64 y45, i64 y46, i64 y47]]⟩) (fun (y45, y46, y47) => di y45 y46 y47 = some (r3, r4, r5)) ?_ ?_
  ·refine af ?_;obtain ⟨g43, H⟩ := aR H;refine aa ?_;show AR _ _ _ _ _ [0, 1, 2, 3, 4] _;refine zS rfl (et (Ar := 0) (k := 1) (m := 0) aO (by kernel_rfl) rfl rfl rfl (by decide)) <| zR rfl (aj (i := 0) aC rfl rfl rfl rfl) <| zm rfl <| zS rfl (g_quo rfl rfl g43) <| zS rfl (br rfl rfl) <| ah <| ax rfl (fun c44 => ?_) (fun c44 => ?_)
   ·replace H := aZ c44 H;refine aa ?_;show AR _ _ _ _ _ [0, 1] _;refine zR rfl (dv (i := 0) (n := 3) aO rfl (by kernel_rfl) rfl rfl (ab rfl)) <| s0 rfl rfl (cl (i := 1) (vs := [i64 y39, i64 y40, i64 y41]) (by kernel_rfl) rfl rfl (by simp [bt, slE]) rfl (ab rfl)) <| ah ?_;exact Exists.intro (y39, y40, y41) ⟨H, be [1] (.cons (.refl _) (.nil _)) rfl⟩
   ·replace H := ba c44 H;refine aE ?_;exact Exists.intro (0, 0, 0) ⟨H, be [1] (.cons (.refl _) (.nil _)) rfl⟩
  rintro ⟨y45, y46, y47⟩ H;replace H : di y45 y46 y47 = some (r3, r4, r5) := H
  unfold di at H
  refine af <| aa ?_;show AR _ _ _ _ _ [0, 1] _;refine zR rfl (dv (i := 0) (n := 3) aO rfl (by kernel_rfl) rfl rfl (ab rfl)) <| s0 rfl rfl (cl (i := 0) (vs := [i64 y45, i64 y46, i64 y47]) (by kernel_rfl) rfl rfl (by simp [bt, slE]) rfl (ab rfl)) <| ah <| aK ?_;obtain ⟨rfl, rfl, rfl⟩ := iC H;exact And.intro rfl (Exists.intro _ (Exists.intro _ ⟨hO (cS rfl (CellV.agg (off := 0) (cs := [i64 y45, i64 y46, i64 y47]) (n := 3) 0 aO rfl (by kernel_rfl) rfl rfl (ab rfl))), aB [] rfl, rfl, rfl⟩))
set_option maxRecDepth 100000 in
set_option maxHeartbeats 1000000 in
theorem mj (F : Nat) (a1 : Int) (a2 : List (List UInt8)) (a3 : Int) (a4 : Int) (a5 : Int) (r6 : Bool) (H : kj F a1 a2 a3 a4 a5 = some r6) : ACalls Tryd.prog 21 [.agg [i64 a1, slE Enc.str a2 none, i64 a3, i64 a4, i64 a5]] [] (Ret (B r6) []) := by
 unfold kj at H
 refine az Tryd.func21 rfl rfl ?_;show AW _ _ 54 _ _ _;refine af <| aa ?_;show AR _ _ _ _ _ [0, 1] _;refine zR rfl (hB rfl (.inr ⟨_, rfl⟩)) <| za rfl <| ah <| af <| af <| aa ?_;show AR _ _ _ _ _ [0, 1, 2, 3, 4, 5, 6, 7, 8, 9, 10, 11, 12, 13, 14, 15, 16, 17, 18, 19] _;refine zS rfl (aW (n := 0) (by kernel_rfl) rfl (ab rfl)) <| zS rfl (bj aC rfl rfl) <| zS rfl (cn rfl rfl) <| zm rfl <| aD (l := [8, 9, 10, 11, 12, 13, 14, 15, 16, 17, 18, 19]) 12 (B ((decide (a1 < 200)) || (decide (599 < a1)))) (fun K => ?_) ?_
 ·rcases ac (decide (a1 < 200)) with h7 | h7
  ·refine zF h7 rfl <| zF h7 rfl <| zF h7 rfl <| zS rfl (ap (av := .v _) rfl h7 rfl) ?_;exact K _ 3 _ (an (fg h7)) rfl rfl
  ·refine zU h7 rfl (aW (n := 0) (by kernel_rfl) rfl (ab rfl)) <| zU h7 rfl (bj aC rfl rfl) <| zU h7 rfl (dS rfl rfl) <| zS rfl (aq (av := .v _) rfl h7 rfl) ?_;exact K _ 3 _ (an (fh h7)) rfl rfl
 refine zm rfl <| aD (l := [14, 15, 16, 17, 18, 19]) 18 (B (((decide (a1 < 200)) || (decide (599 < a1))) || (decide ((a2.length : Int) = 0)))) (fun K => ?_) ?_
 ·rcases ac ((decide (a1 < 200)) || (decide (599 < a1))) with h8 | h8
  ·refine zF h8 rfl <| zF h8 rfl <| zF h8 rfl <| zF h8 rfl <| zS rfl (ap (av := .v _) rfl h8 rfl) ?_;exact K _ 4 _ (an (fg h8)) rfl rfl
  ·refine zU h8 rfl (aW (n := 1) (by kernel_rfl) rfl (ab rfl)) <| zU h8 rfl (bj ar rfl rfl) <| zU h8 rfl (aX ar rfl) <| zU h8 rfl (br rfl rfl) <| zS rfl (aq (av := .v _) rfl h8 rfl) ?_;exact K _ 4 _ (an (fh h8)) rfl rfl
 refine zm rfl <| aD (l := []) 24 (B ((((decide (a1 < 200)) || (decide (599 < a1))) || (decide ((a2.length : Int) = 0))) || (decide (100 < (a2.length : Int))))) (fun K => ?_) ?_
 ·rcases ac (((decide (a1 < 200)) || (decide (599 < a1))) || (decide ((a2.length : Int) = 0))) with h9 | h9
  ·refine zF h9 rfl <| zF h9 rfl <| zF h9 rfl <| zF h9 rfl <| zS rfl (ap (av := .v _) rfl h9 rfl) ?_;exact K _ 4 _ (an (fg h9)) rfl rfl
  ·refine zU h9 rfl (aW (n := 1) (by kernel_rfl) rfl (ab rfl)) <| zU h9 rfl (bj ar rfl rfl) <| zU h9 rfl (aX ar rfl) <| zU h9 rfl (dS rfl rfl) <| zS rfl (aq (av := .v _) rfl h9 rfl) ?_;exact K _ 4 _ (an (fh h9)) rfl rfl
 refine ah <| ax rfl (fun c10 => ?_) (fun c10 => ?_)
 ·replace H := aZ c10 H;refine af <| aa ?_;show AR _ _ _ _ _ [0] _;refine za rfl <| ah <| aK ?_;obtain rfl := ak H;exact And.intro rfl (Exists.intro _ (Exists.intro _ ⟨aJ rfl (.refl _), aB [] rfl, rfl, rfl⟩))
 ·replace H := ba c10 H;refine aE <| bS (X := Unit) (fun _ => ⟨[(1, .cp [i64 a1, slE Enc.str a2 none, i64 a3, i64 a4, i64 a5])], [], []⟩) (fun _ => eS F a1 a2 a3 a4 a5 = some r6) ?_ ?_
  ·refine af <| aa ?_;show AR _ _ _ _ _ [0, 1, 2, 3] _;refine zS rfl (aW (n := 1) (by kernel_rfl) rfl (ab rfl)) <| zS rfl (bj ar rfl rfl) <| zS rfl (aX ar rfl) <| zm rfl <| ah <| bm <| AW.loop (X := Nat × Int) (fun (n13, y11) => ⟨[(1, .cp [i64 a1, slE Enc.str a2 none, i64 a3, i64 a4, i64 a5]), (26, slE Enc.str a2 none), (27, i64 (a2.length : Int)), (28, i64 y11)], [], []⟩) (fun (n13, y11) => ge F a1 a2 a3 a4 a5 n13 y11 = some r6) (fun (n13, y11) => n13) (F, 0) H (be [] (.cons (.refl _) (.cons (.refl _) (.cons (.refl _) (.cons (.refl _) (.nil _))))) rfl) ?_;rintro ⟨n13, y11⟩ H;obtain ⟨n13, rfl, H⟩ := fi H;replace H : gg F a1 a2 a3 a4 a5 (ge F a1 a2 a3 a4 a5 n13) y11 = some r6 := H
   unfold gg at H
   refine af <| aa ?_;show AR _ _ _ _ _ [0] _;refine zS rfl (cn rfl rfl) <| ah <| af <| ax rfl (fun c14 => ?_) (fun c14 => ?_)
   ·replace H := aZ c14 H;refine aE <| af <| bm <| af ?_;obtain ⟨g15, H⟩ := aR H;obtain ⟨x16, e17, H⟩ := cd H;refine aa ?_;show AR _ _ _ _ _ [0, 1, 2] _;refine zS rfl (cj (E := Enc.str) ar (by kernel_rfl) rfl rfl g15 e17) <| zS rfl (bj ai rfl rfl) <| za rfl <| ah <| af ?_;obtain ⟨x19, e20, H⟩ := dc H;refine aa ?_;show AR _ _ _ _ _ [0, 1, 2, 3, 4, 5, 6] _;refine zm rfl <| zS rfl (bp ai rfl) <| zS rfl (dS rfl rfl) <| zm rfl <| aD (l := []) 38 (B ((decide (506 < (x16.length : Int))) || x19)) (fun K => ?_) ?_
    ·rcases ac (decide (506 < (x16.length : Int))) with h18 | h18
     ·refine zF h18 rfl <| zF h18 rfl <| zS rfl (ap (av := .v _) rfl h18 rfl) ?_;exact K _ 2 _ (an (fg h18)) rfl rfl
     ·refine zM h18 rfl <| zT h18 rfl (aG rfl mH rfl (ju F x16 ([13, 10] : List UInt8) x19 (e20 (nf h18))) ?_);refine zS rfl (aq (av := .v _) rfl h18 rfl) ?_;exact K _ 2 _ (an (fh h18)) rfl rfl
    refine ah <| ax rfl (fun c21 => ?_) (fun c21 => ?_)
    ·replace H := aZ c21 H;refine af <| aa ?_;show AR _ _ _ _ _ [0] _;refine za rfl <| ah <| aK ?_;obtain rfl := ak H;exact And.intro rfl (Exists.intro _ (Exists.intro _ ⟨aJ rfl (.refl _), aB [] rfl, rfl, rfl⟩))
    ·replace H := ba c21 H;refine aE ?_;obtain ⟨g22, H⟩ := aR H;refine aa ?_;show AR _ _ _ _ _ [0, 1] _;refine zS rfl (gu rfl rfl g22) <| zm rfl <| ah ?_;exact Exists.intro (n13, y11 + 1) ⟨H, Nat.lt_succ_self _, be [] (.cons (.refl _) (.cons (.refl _) (.cons (.refl _) (.cons (.refl _) (.nil _))))) rfl⟩
   ·replace H := ba c14 H;refine AW.exit ?_;exact Exists.intro () ⟨H, be [] (.cons (.refl _) (.nil _)) rfl⟩
  rintro _ H;replace H : eS F a1 a2 a3 a4 a5 = some r6 := H
  unfold eS at H
  refine af ?_;obtain ⟨g24, H⟩ := aR H;obtain ⟨g25, H⟩ := aR H;obtain ⟨x26, e27, H⟩ := cd H;obtain ⟨x28, x29, x30, e31, H⟩ := gw H;refine cR (by kernel_rfl) ?_;show AI _ _ _ _ _ 15 (Array.replicate 15 false) _;refine zk 0 rfl (aW (n := 2) (by kernel_rfl) rfl (ab rfl)) ?_;show AI _ _ _ _ _ _ #[true, false, false, false, false, false, false, false, false, false, false, false, false, false, false] _;refine zk 1 rfl (da aO rfl (n := 3) (by kernel_rfl) rfl (ab rfl)) ?_;show AI _ _ _ _ _ _ #[true, true, false, false, false, false, false, false, false, false, false, false, false, false, false] _;refine zk 2 rfl (aW (n := 0) (by kernel_rfl) rfl (ab rfl)) ?_;show AI _ _ _ _ _ _ #[true, true, true, false, false, false, false, false, false, false, false, false, false, false, false] _;refine zk 3 rfl (bj aC rfl rfl) ?_;show AI _ _ _ _ _ _ #[true, true, true, true, false, false, false, false, false, false, false, false, false, false, false] _;refine zk 4 rfl (aW (n := 1) (by kernel_rfl) rfl (ab rfl)) ?_;show AI _ _ _ _ _ _ #[true, true, true, true, true, false, false, false, false, false, false, false, false, false, false] _;refine zk 5 rfl (bj ar rfl rfl) ?_;show AI _ _ _ _ _ _ #[true, true, true, true, true, true, false, false, false, false, false, false, false, false, false] _
  refine zk 6 rfl (aW (n := 1) (by kernel_rfl) rfl (ab rfl)) ?_;show AI _ _ _ _ _ _ #[true, true, true, true, true, true, true, false, false, false, false, false, false, false, false] _;refine zk 7 rfl (bj ar rfl rfl) ?_;show AI _ _ _ _ _ _ #[true, true, true, true, true, true, true, true, false, false, false, false, false, false, false] _;refine zk 8 rfl (aX ar rfl) ?_;show AI _ _ _ _ _ _ #[true, true, true, true, true, true, true, true, true, false, false, false, false, false, false] _;refine zk 9 rfl (jq rfl rfl g24) ?_;show AI _ _ _ _ _ _ #[true, true, true, true, true, true, true, true, true, true, false, false, false, false, false] _;refine zk 10 rfl (cj (E := Enc.str) ar (by kernel_rfl) rfl rfl g25 e27) ?_;show AI _ _ _ _ _ _ #[true, true, true, true, true, true, true, true, true, true, true, false, false, false, false] _;refine zk 11 rfl (bj ai rfl rfl) ?_;show AI _ _ _ _ _ _ #[true, true, true, true, true, true, true, true, true, true, true, true, false, false, false] _;refine aL (i := 12) (by kernel_rfl) rfl rfl <| AIO.callp rfl jT rfl (iX F a1 x26 x28 x29 x30 e31) ?_;show AI _ _ _ _ _ _ #[true, true, true, true, true, true, true, true, true, true, true, true, true, false, false] _;refine zk 13 rfl (iZ (r := (a3 == x28) && ((a4 == x29) && ((a5 == x30) && true))) (.inl rfl) aO aC rfl (by kernel_rfl) (by kernel_rfl) rfl rfl rfl rfl) ?_
  show AI _ _ _ _ _ _ #[true, true, true, true, true, true, true, true, true, true, true, true, true, true, false] _;refine zk 14 rfl (asg rfl) ?_;show AI _ _ _ _ _ _ #[true, true, true, true, true, true, true, true, true, true, true, true, true, true, true] _;refine bD rfl <| aK ?_;obtain rfl := ak H;exact And.intro rfl (Exists.intro _ (Exists.intro _ ⟨aJ rfl (.refl _), aB [] rfl, rfl, rfl⟩))
set_option maxRecDepth 100000 in
set_option maxHeartbeats 1000000 in
theorem gA (F : Nat) (a1 : Bool) (rv : Res Unit) (H : cD F a1 = some rv) : ACalls Tryd.prog 35 [B a1] [] (PanOr (fun (r : Unit) => (Ret (.tup []) [])) (fun e => ir (.iface 51 (.agg #[]))) rv) := by
 unfold cD at H
 refine az Tryd.func35 rfl rfl ?_;show AW _ _ 6 _ _ _;refine af <| aa ?_;show AR _ _ _ _ _ [0, 1] _;refine zm rfl <| zS rfl (dy rfl) <| ah <| ax rfl (fun c2 => ?_) (fun c2 => ?_)
 ·replace H := aZ c2 H;obtain rfl := ak H;refine aa ?_;show AR _ _ _ _ _ [0, 1, 2] _;refine zS rfl (kn (zs := []) (ps := []) (cs := []) (by kernel_rfl) rfl rfl) <| zS rfl (aN (a := .agg _) Tryd.underlying51 rfl rfl) <| aU rfl rfl (AO.panicT (c := ir (.iface 51 (.agg #[]))) rfl rfl ?_);exact And.intro rfl (Exists.intro [] ⟨Sub.nil _, rfl, rfl⟩)
 ·replace H := ba c2 H;refine aE ?_;obtain rfl := ak H;exact And.intro rfl (Exists.intro _ (Exists.intro _ ⟨bb rfl, aB [] rfl, rfl, rfl⟩))
theorem cZ (F : Nat) (a1 : Bool) (H : cD F a1 = some (Res.ok ())) : ACalls Tryd.prog 35 [B a1] [] (Ret (.tup []) []) := gA F a1 _ H
theorem cW (F : Nat) (a1 : Bool) (e : Int) (H : cD F a1 = some (Res.pan e)) : ACalls Tryd.prog 35 [B a1] [] (fun ae A' => ae = .pan ((fun e => ir (.iface 51 (.agg #[]))) e) ∧ A' = []) := gA F a1 _ H
set_option maxRecDepth 100000 in
set_option maxHeartbeats 1000000 in
theorem jX (F : Nat) {σ τ : Type} (T : σ → τ → List Chunk) (Tp : σ → τ → List Chunk) (k : σ → (List UInt8) → Option (σ × Option Bool)) (o : Nat) (hY : ∀ (s : σ) (t : τ) (x : List UInt8) (rv : σ × Option Bool), k s x = some rv → eC Tryd.prog o [S x] (T s t) fun ae A' => ∃ t', ae = outc (ir (.iface 51 (.agg #[]))) rv.2 ∧ A' = outT T Tp rv t') (st0 : σ) (tt0 : τ) (o1 : Nat) (a2 : List UInt8) (rs : σ) (rb : Bool) (r3 : List UInt8) (H : eR F k st0 a2 = some (rs, rb, r3)) : ACalls Tryd.prog 45 [.yl o, .pt o1 0] ([.obj o1 [slE Enc.byte a2 none]] ++ T st0 tt0) (fun e A' => ∃ tz, (rb = false ∧ e = .ret (.tup []) ∧ A' = [.obj o1 [slE Enc.byte r3 none]] ++ T rs tz) ∨ (rb = true ∧ e = .pan (ir (.iface 51 (.agg #[]))) ∧ (A' = T rs tz ∨ A' = Tp rs tz))) := by
 unfold eR at H
 refine az Tryd.func45 rfl rfl ?_;show AW _ _ 38 _ _ _;refine bm <| AW.loop (X := Nat × (List UInt8) × σ × τ) (fun (n8, y4, y5, t6) => ⟨[(0, .yl o), (1, .pt o1 0)], [], ([.obj o1 [slE Enc.byte y4 none]] ++ T y5 t6)⟩) (fun (n8, y4, y5, t6) => cK F k n8 (y4, y5) = some (rs, rb, r3)) (fun (n8, y4, y5, t6) => n8) (F, a2, st0, tt0) H (WK.atT 1 [0] (.cons (.refl _) (.cons (.refl _) (.nil _))) rfl) ?_;rintro ⟨n8, y4, y5, t6⟩ H;obtain ⟨n8, rfl, H⟩ := fi H;replace H : cL F k (cK F k n8) y4 y5 = some (rs, rb, r3) := H
 unfold cL at H
 refine bm <| af ?_;obtain ⟨x9, e10, H⟩ := dn H;refine aa ?_;show AR _ _ _ _ _ [0, 1, 2] _;refine zR rfl (aj (i := 0) ag rfl rfl rfl rfl) <| aU rfl rfl (aG rfl hH rfl (dp F y4 none 10 x9 e10) ?_);refine za rfl <| ah <| af <| af <| aa ?_;show AR _ _ _ _ _ [0, 1] _;refine zm rfl <| zS rfl (cn rfl rfl) <| ah <| ax rfl (fun c11 => ?_) (fun c11 => ?_)
 ·replace H := aZ c11 H;refine af ?_
  rcases Or.symm (kv H) with ⟨p14, e13, H⟩ | ⟨x12, e13, H⟩
  ·obtain ⟨rfl, rfl, rfl⟩ := iC H;refine aa ?_;show AR _ _ _ _ _ [0, 1, 2, 3] _;refine zR rfl (aj (i := 0) ag rfl rfl rfl rfl) <| zS rfl (aX ag rfl) <| zS rfl (cn rfl rfl) <| aU rfl rfl (AO.callPan (c := ir (.iface 51 (.agg #[]))) [] rfl dl rfl (cW F (decide ((y4.length : Int) < 512)) p14 e13) rfl ?_);exact And.intro rfl (Exists.intro _ ⟨Sub.atT 1 [] rfl, t6, .inr ⟨rfl, rfl, .inl rfl⟩⟩)
  refine aa ?_;show AR _ _ _ _ _ [0, 1, 2, 3] _;refine zR rfl (aj (i := 0) ag rfl rfl rfl rfl) <| zS rfl (aX ag rfl) <| zS rfl (cn rfl rfl) <| aU rfl rfl (aG rfl dl rfl (cZ F (decide ((y4.length : Int) < 512)) e13) ?_);refine ah <| aK ?_;obtain ⟨rfl, rfl, rfl⟩ := iC H;exact And.intro rfl (Exists.intro _ (Exists.intro _ ⟨bb rfl, Sub.atT 1 [0] rfl, t6, .inl ⟨rfl, rfl, rfl⟩⟩))
 ·replace H := ba c11 H;refine aE <| af ?_;obtain ⟨x17, e18, H⟩ := dc H;obtain ⟨g19, H⟩ := cO H
  rcases Or.symm (kv H) with ⟨p22, e21, H⟩ | ⟨x20, e21, H⟩
  ·obtain ⟨rfl, rfl, rfl⟩ := iC H;refine aa ?_;show AR _ _ _ _ _ [0, 1, 2, 3, 4, 5, 6, 7, 8, 9, 10, 11, 12, 13] _;refine zm rfl <| zS rfl (cn rfl rfl) <| zm rfl <| aD (l := [6, 7, 8, 9, 10, 11, 12, 13]) 17 (B ((decide (x9 < 512)) && (decide (0 < x9)))) (fun K => ?_) ?_
   ·rcases ac (decide (x9 < 512)) with h15 | h15
    ·refine zM h15 rfl <| zU h15 rfl (dS rfl rfl) <| zS rfl (ap (av := .v _) rfl h15 rfl) ?_;exact K _ 2 _ (an (bx h15)) rfl rfl
    ·refine zF h15 rfl <| zF h15 rfl <| zS rfl (aq (av := .v _) rfl h15 rfl) ?_;exact K _ 2 _ (an (bz h15)) rfl rfl
   refine zm rfl <| aD (l := [13]) 24 (B (((decide (x9 < 512)) && (decide (0 < x9))) && (decide (x17 = x9 - 1)))) (fun K => ?_) ?_
   ·rcases ac ((decide (x9 < 512)) && (decide (0 < x9))) with h16 | h16
    ·refine zT h16 rfl (AO.op rfl rfl (aj (i := 0) ag rfl rfl rfl rfl) ?_);refine zT h16 rfl (aG rfl hH rfl (dp F y4 none 13 x17 (e18 h16)) ?_);refine zM h16 rfl <| zU h16 rfl (jq rfl rfl (g19 h16)) <| zU h16 rfl (br rfl rfl) <| zS rfl (ap (av := .v _) rfl h16 rfl) ?_;exact K _ 5 _ (an (bx h16)) rfl rfl
    ·refine zF h16 rfl <| zF h16 rfl <| zF h16 rfl <| zF h16 rfl <| zF h16 rfl <| zS rfl (aq (av := .v _) rfl h16 rfl) ?_;exact K _ 5 _ (an (bz h16)) rfl rfl
   refine aU rfl rfl (AO.callPan (c := ir (.iface 51 (.agg #[]))) [] rfl dl rfl (cW F (((decide (x9 < 512)) && (decide (0 < x9))) && (decide (x17 = x9 - 1))) p22 e21) rfl ?_);exact And.intro rfl (Exists.intro _ ⟨Sub.atT 1 [] rfl, t6, .inr ⟨rfl, rfl, .inl rfl⟩⟩)
  refine aa ?_;show AR _ _ _ _ _ [0, 1, 2, 3, 4, 5, 6, 7, 8, 9, 10, 11, 12, 13] _;refine zm rfl <| zS rfl (cn rfl rfl) <| zm rfl <| aD (l := [6, 7, 8, 9, 10, 11, 12, 13]) 17 (B ((decide (x9 < 512)) && (decide (0 < x9)))) (fun K => ?_) ?_
  ·rcases ac (decide (x9 < 512)) with h15 | h15
   ·refine zM h15 rfl <| zU h15 rfl (dS rfl rfl) <| zS rfl (ap (av := .v _) rfl h15 rfl) ?_;exact K _ 2 _ (an (bx h15)) rfl rfl
   ·refine zF h15 rfl <| zF h15 rfl <| zS rfl (aq (av := .v _) rfl h15 rfl) ?_;exact K _ 2 _ (an (bz h15)) rfl rfl
  refine zm rfl <| aD (l := [13]) 24 (B (((decide (x9 < 512)) && (decide (0 < x9))) && (decide (x17 = x9 - 1)))) (fun K => ?_) ?_
  ·rcases ac ((decide (x9 < 512)) && (decide (0 < x9))) with h16 | h16
   ·refine zT h16 rfl (AO.op rfl rfl (aj (i := 0) ag rfl rfl rfl rfl) ?_);refine zT h16 rfl (aG rfl hH rfl (dp F y4 none 13 x17 (e18 h16)) ?_);refine zM h16 rfl <| zU h16 rfl (jq rfl rfl (g19 h16)) <| zU h16 rfl (br rfl rfl) <| zS rfl (ap (av := .v _) rfl h16 rfl) ?_;exact K _ 5 _ (an (bx h16)) rfl rfl
   ·refine zF h16 rfl <| zF h16 rfl <| zF h16 rfl <| zF h16 rfl <| zF h16 rfl <| zS rfl (aq (av := .v _) rfl h16 rfl) ?_;exact K _ 5 _ (an (bz h16)) rfl rfl
  refine aU rfl rfl (aG rfl dl rfl (cZ F (((decide (x9 < 512)) && (decide (0 < x9))) && (decide (x17 = x9 - 1))) e21) ?_);refine ah <| af <| af ?_;obtain ⟨g23, H⟩ := aR H;obtain ⟨g24, H⟩ := aR H;obtain ⟨x25, e26, H⟩ := cd H;obtain ⟨x27, e28, H⟩ := dn H
  rcases bndo_s H with ⟨h30, H⟩ | ⟨x29, h30, H⟩
  ·obtain ⟨rfl, rfl, rfl⟩ := iC H;refine aa ?_;show AR _ _ _ _ _ [0, 1, 2, 3, 4, 5, 6, 7] _;refine zS rfl (aA (av := .yl _) rfl) <| zR rfl (aj (i := 0) ag rfl rfl rfl rfl) <| zm rfl <| zS rfl (jq rfl rfl g23) <| zS rfl (ma (E := Enc.byte) ag (by kernel_rfl) rfl rfl g24 e26) <| zS rfl (dU ag bh ai rfl) <| aU rfl rfl (AO.yieldPan 1 rfl rfl rfl (hY _ _ _ _ e28) h30 fun t32 => ?_);exact And.intro rfl (Exists.intro _ ⟨Sub.atT 1 [] rfl, t32, .inr ⟨rfl, rfl, .inr rfl⟩⟩)
  refine aa ?_;show AR _ _ _ _ _ [0, 1, 2, 3, 4, 5, 6, 7] _;refine zS rfl (aA (av := .yl _) rfl) <| zR rfl (aj (i := 0) ag rfl rfl rfl rfl) <| zm rfl <| zS rfl (jq rfl rfl g23) <| zS rfl (ma (E := Enc.byte) ag (by kernel_rfl) rfl rfl g24 e26) <| zS rfl (dU ag bh ai rfl) <| aU rfl rfl (AO.yieldOk (b := x29) 1 rfl rfl rfl (hY _ _ _ _ e28) h30 fun t31 => ?_);show AR _ _ _ _ _ _ ⟨_, _, ([.obj o1 [slE Enc.byte y4 none]] ++ T x27.1 t31)⟩;refine zS rfl (dy rfl) <| ah <| ax rfl (fun c33 => ?_) (fun c33 => ?_)
  ·replace H := aZ c33 H;refine aK ?_;obtain ⟨rfl, rfl, rfl⟩ := iC H;exact And.intro rfl (Exists.intro _ (Exists.intro _ ⟨bb rfl, Sub.atT 1 [0] rfl, t31, .inl ⟨rfl, rfl, rfl⟩⟩))
  ·replace H := ba c33 H;refine aE ?_;obtain ⟨g34, H⟩ := aR H;obtain ⟨g35, H⟩ := aR H;obtain ⟨x36, e37, H⟩ := cd H;refine aa ?_;show AR _ _ _ _ _ [0, 1, 2, 3, 4] _;refine zR rfl (aj (i := 0) ag rfl rfl rfl rfl) <| zm rfl <| zS rfl (gu rfl rfl g34) <| zS rfl (cc (E := Enc.byte) ag (by kernel_rfl) rfl rfl g35 e37) <| s0 rfl rfl (ay (i := 0) (c := slE _ _ _) (by kernel_rfl) rfl rfl rfl rfl (ab rfl)) <| ah ?_;exact Exists.intro (n8, x36, x27.1, t31) ⟨H, Nat.lt_succ_self _, WK.atT 1 [0] (.cons (.refl _) (.cons (.refl _) (.nil _))) rfl⟩
set_option maxRecDepth 100000 in
set_option maxHeartbeats 1000000 in
theorem kw (F : Nat) (a1 : List UInt8) (H : fC F a1 = some ()) : ACalls Tryd.prog 34 [slE Enc.byte a1 none] [] (fun e A' => ∃ ob1 : Nat, e = .ret (.fn (.func 45) [] [.pt ob1 0]) ∧ A' = [.obj ob1 [slE Enc.byte a1 none]]) := by
 unfold fC at H
 refine az Tryd.func34 rfl rfl ?_;show AW _ _ 4 _ _ _;refine af <| aa ?_;show AR _ _ _ _ _ [0, 1] _;refine zX rfl (iG rfl (.inl rfl)) ?_;rintro _ _ ⟨o2, rfl, rfl⟩;refine za rfl <| ah <| af <| aa ?_;show AR _ _ _ _ _ [0, 1] _;refine zS rfl (dR rfl rfl) <| zS rfl (aI (av := .fn _ _ _) rfl) <| ah <| aK ?_;exact And.intro rfl (Exists.intro _ (Exists.intro _ ⟨aJ rfl (.refl _), aB [0] rfl, o2, rfl, rfl⟩))
abbrev _root_.Go.Av.aH := @Tryd.underlying27
set_option maxRecDepth 100000 in
set_option maxHeartbeats 1000000 in
theorem lm (F : Nat) (a1 : Int) (a2 : List (List UInt8)) (a3 : Int) (a4 : Int) (a5 : Int) (a6 : Int) (o7 : Nat) (a8 : List (Int × (List (List UInt8)) × Int × Int × Int)) (t9 : Nat) (o10 : Nat) (a11 : Int) (r12 : List (Int × (List (List UInt8)) × Int × Int × Int)) (r14 : Int) (H : gH F a1 a2 a3 a4 a5 a6 a8 a11 = some (r12, r14)) : ACalls Tryd.prog 25 [.agg [i64 a1, slE Enc.str a2 none, i64 a3, i64 a4, i64 a5], i64 a6, .pt o7 0, .pt o10 0] [.obj o7 [slE (am Enc.int (am (Enc.sl Enc.str) (am Enc.int (am Enc.int Enc.int)))) a8 (some t9)], .tok t9 38, .obj o10 [i64 a11]] (fun e A' => e = .ret (.tup []) ∧ ∃ t13, A' = [.obj o7 [slE (am Enc.int (am (Enc.sl Enc.str) (am Enc.int (am Enc.int Enc.int)))) r12 (some t13)], .tok t13 38, .obj o10 [i64 r14]]) := by
 unfold gH at H
 refine az Tryd.func25 rfl rfl ?_;show AW _ _ 11 _ _ _;refine af <| aa ?_;show AR _ _ _ _ _ [0] _;refine zR rfl (hB rfl (.inr ⟨_, rfl⟩)) <| ah ?_;obtain ⟨g16, H⟩ := aR H;obtain ⟨x17, e18, H⟩ := cd H;refine aa ?_;show AR _ _ _ _ _ [0, 1, 2, 3, 4, 5, 6] _;refine zR rfl (aj (i := 0) aH rfl rfl rfl rfl) <| zS rfl (da Tryd.underlying38 rfl (n := 5) (by kernel_rfl) rfl (ab rfl)) <| zR rfl (kb (E := (am Enc.int (am (Enc.sl Enc.str) (am Enc.int (am Enc.int Enc.int))))) (bytes := 56) (zs := [.int .i64 0, .slice none 0 0, .int .i64 0, .int .i64 0, .int .i64 0]) (l := ([(a1, a2, (a3, a4, a5))] : List (Int × (List (List UInt8)) × Int × Int × Int))) aH (by kernel_rfl) (by kernel_rfl) rfl rfl rfl rfl rfl) <| zX rfl (el (E := (am Enc.int (am (Enc.sl Enc.str) (am Enc.int (am Enc.int Enc.int))))) (bytes := 56) 1 aH aH rfl (by kernel_rfl) rfl rfl rfl rfl g16 e18) ?_;rintro _ _ ⟨t15, rfl, rfl⟩;refine zm rfl <| s0 rfl rfl (ay (i := 0) (c := slE _ _ _) (by kernel_rfl) rfl rfl rfl rfl (ab rfl)) <| s0 rfl rfl (ay (i := 2) (c := .v _) (by kernel_rfl) rfl rfl rfl rfl (ab rfl)) <| ah ?_;obtain ⟨rfl, rfl⟩ := eO H;exact And.intro rfl (Exists.intro _ (Exists.intro _ ⟨bb rfl, aB [0, 0, 0] rfl, rfl, t15, rfl⟩))
set_option maxRecDepth 100000 in
set_option maxHeartbeats 1000000 in
theorem jI (F : Nat) (a1 : List UInt8) (q2 : Option Nat) (o3 : Nat) (a4 : List (Int × (List (List UInt8)) × Int × Int × Int)) (t5 : Nat) (o6 : Nat) (a7 : Int) (r8 : List (Int × (List (List UInt8)) × Int × Int × Int)) (r10 : Int) (rb : Bool) (H : fc F a1 a4 a7 = some (r8, r10, rb)) : ACalls Tryd.prog 24 [slE Enc.byte a1 q2, .fn (.func 25) [] [.pt o3 0, .pt o6 0]] [.obj o3 [slE (am Enc.int (am (Enc.sl Enc.str) (am Enc.int (am Enc.int Enc.int)))) a4 (some t5)], .tok t5 38, .obj o6 [i64 a7]] (fun e A' => ∃ t9, A' = [.obj o3 [slE (am Enc.int (am (Enc.sl Enc.str) (am Enc.int (am Enc.int Enc.int)))) r8 (some t9)], .tok t9 38, .obj o6 [i64 r10]] ∧ ((rb = false ∧ e = .ret (.tup [])) ∨ (rb = true ∧ e = .pan (ir (.iface 51 (.agg #[])))))) := by
 unfold fc at H
 refine gV Tryd.func24 rfl rfl ?_;show AWV _ 87 _ _ _;refine AWV.seq <| AWV.of <| aa ?_;show AR _ _ _ _ _ [0] _;refine zR rfl (hB rfl (.inl rfl)) <| ah ?_;show AWV _ _ _ _ _;refine AWV.seq <| AWV.of <| aa ?_;show AR _ _ _ _ _ [0] _;refine zX rfl (dk (zs := [.int .i64 0, .slice none 0 0, .int .i64 0, .int .i64 0, .int .i64 0]) (by kernel_rfl)) ?_;rintro _ _ ⟨o11, rfl, rfl⟩;refine ah ?_;show AWV _ _ _ _ _
 refine AWV.nil_objAt 0 1 1 9 rfl rfl fun t12 => ?_
 show AWV _ _ _ _ ⟨_, _, [.tok t12 9, .obj o11 [i64 0, slE Enc.str [] (some t12), i64 0, i64 0, i64 0], .obj o3 [slE (am Enc.int (am (Enc.sl Enc.str) (am Enc.int (am Enc.int Enc.int)))) a4 (some t5)], .tok t5 38, .obj o6 [i64 a7]]⟩;refine AWV.seq <| AWV.of <| aa ?_;show AR _ _ _ _ _ [0, 1] _;refine zX rfl (dk (zs := [.int .i64 0]) (by kernel_rfl)) ?_;rintro _ _ ⟨o13, rfl, rfl⟩;refine s0 rfl rfl (ay (i := 0) (c := .v _) (by kernel_rfl) rfl rfl rfl rfl (ab rfl)) <| ah ?_;show AWV _ _ _ _ _;refine AWV.seq <| AWV.of ?_;obtain ⟨_, e14, H⟩ := dn H;refine aa ?_;show AR _ _ _ _ _ [0, 1] _;refine zS rfl (aA (av := slE _ _ _) rfl) <| aU rfl rfl (bH [] rfl mG rfl (kf (.cons (.tok _ _ _) (.nil)) (kw F a1 e14)) rfl (fun c A' h => by obtain ⟨_, h, _⟩ := h; cases h) ?_)
 rintro av A' ⟨o15, h, rfl⟩; cases h
 refine ah ?_;show AWV _ _ _ _ _;refine AWV.block ?_;obtain ⟨x79, x80, x81, e82, H⟩ := gw H;refine kV (α := List UInt8) (σ := Int × Int × (List (List UInt8)) × (List (Int × (List (List UInt8)) × Int × Int × Int)) × Int) (τ := Nat × Nat) (ir (.iface 51 (.agg #[]))) (fun x => [S x]) (fun s t => [.obj o13 [i64 s.1], .obj o11 [i64 s.2.1, slE Enc.str s.2.2.1 (some t.1), i64 0, i64 0, i64 0], .obj o3 [slE (am Enc.int (am (Enc.sl Enc.str) (am Enc.int (am Enc.int Enc.int)))) s.2.2.2.1 (some t.2)], .obj o6 [i64 s.2.2.2.2], .tok t.1 9, .tok t.2 38]) (fun _ => none) (fun s x => dg F s.1 s.2.1 s.2.2.1 s.2.2.2.1 s.2.2.2.2 x) (0, 0, [], a4, a7) (t12, t5) x79 x80 [0] [0, 1, 1, 2, 0, 0] rfl mD (fun _ => rfl) (by decide) rfl rfl rfl (fun o T' Tp hY => jX F T' Tp _ o hY _ _ o15 a1 x79 x80 x81 e82) ?_ ?_ ?_
 ·rintro l ⟨y16, y17, y18, y20, y22⟩ ⟨t19, t21⟩ x24 rv H;replace H : dg F y16 y17 y18 y20 y22 x24 = some rv := H
  unfold dg at H
  refine ⟨rfl, ?_⟩;show AW _ _ _ _ _ ⟨(11, S x24) :: _, [], _⟩;refine aa ?_;show AR _ _ _ _ _ [0] _;refine za rfl <| ah <| bm <| af ?_;obtain ⟨g26, H⟩ := cO H;obtain ⟨x27, e28, H⟩ := cd H;obtain ⟨g30, H⟩ := cO H;obtain ⟨x31, e32, H⟩ := cd H
  rcases Or.symm (kv H) with ⟨p36, e35, H⟩ | ⟨x34, e35, H⟩
  ·obtain rfl := ak H;refine aa ?_;show AR _ _ _ _ _ [0, 1, 2, 3, 4, 5, 6, 7, 8, 9, 10, 11, 12, 13, 14, 15, 16, 17, 18, 19] _;refine zm rfl <| zS rfl (bp ai rfl) <| zS rfl (dI rfl rfl) <| zm rfl <| aD (l := [13, 14, 15, 16, 17, 18, 19]) 24 (B ((decide (4 ≤ (x24.length : Int))) && ((decide (x27 = 45)) || (decide (x31 = 32))))) (fun K => ?_) ?_
   ·rcases ac (decide (4 ≤ (x24.length : Int))) with h25 | h25
    ·refine zM h25 rfl <| zU h25 rfl (aM ai rfl rfl (g26 h25) e28) <| zU h25 rfl (dB (a := x27) (b := 45) rfl rfl) <| zM h25 rfl <| aD (l := [12, 13, 14, 15, 16, 17, 18, 19]) 23 (B ((decide (x27 = 45)) || (decide (x31 = 32)))) (fun K => ?_) ?_
     ·rcases ac (decide (x27 = 45)) with h29 | h29
      ·refine zF h29 rfl <| zF h29 rfl <| zF h29 rfl <| zU h25 rfl (ap (av := .v _) rfl h29 rfl) ?_;exact K _ 3 _ (an (fg h29)) rfl rfl
      ·refine zM h29 rfl <| zU h29 rfl (aM ai rfl rfl (g30 (er h25 (nf h29))) e32) <| zU h29 rfl (dB (a := x31) (b := 32) rfl rfl) <| zU h25 rfl (aq (av := .v _) rfl h29 rfl) ?_;exact K _ 3 _ (an (fh h29)) rfl rfl
     refine zS rfl (ap (av := .v _) rfl h25 rfl) ?_;exact K _ 5 _ (an (bx h25)) rfl rfl
    ·refine zF h25 rfl <| zF h25 rfl <| zF h25 rfl <| zF h25 rfl <| gU rfl rfl rfl rfl rfl <| gU rfl rfl rfl rfl rfl <| gU rfl rfl rfl rfl rfl <| zF h25 rfl <| zS rfl (aq (av := .v _) rfl h25 rfl) ?_;exact K _ 8 _ (an (bz h25)) rfl rfl
   refine zm rfl <| aD (l := [19]) 30 (B (((decide (4 ≤ (x24.length : Int))) && ((decide (x27 = 45)) || (decide (x31 = 32)))) && (decide ((y18.length : Int) < 100)))) (fun K => ?_) ?_
   ·rcases ac ((decide (4 ≤ (x24.length : Int))) && ((decide (x27 = 45)) || (decide (x31 = 32)))) with h33 | h33
    ·refine zU h33 rfl (al (n := 1) (by kernel_rfl) rfl) <| zT h33 rfl (AO.op rfl rfl (aj (i := 1) ar rfl rfl rfl rfl) ?_);refine zU h33 rfl (aX ar rfl) <| zU h33 rfl (cn rfl rfl) <| zS rfl (ap (av := .v _) rfl h33 rfl) ?_;exact K _ 4 _ (an (bx h33)) rfl rfl
    ·refine zF h33 rfl <| zF h33 rfl <| zF h33 rfl <| zF h33 rfl <| zS rfl (aq (av := .v _) rfl h33 rfl) ?_;exact K _ 4 _ (an (bz h33)) rfl rfl
   refine aU rfl rfl (AO.callPan (c := ir (.iface 51 (.agg #[]))) [] rfl dl rfl (cW F (((decide (4 ≤ (x24.length : Int))) && ((decide (x27 = 45)) || (decide (x31 = 32)))) && (decide ((y18.length : Int) < 100))) p36 e35) rfl ?_);exact ⟨rfl, rfl, rfl, (t19, t21), aB [0, 0, 0, 0, 0, 0] rfl⟩
  refine aa ?_;show AR _ _ _ _ _ [0, 1, 2, 3, 4, 5, 6, 7, 8, 9, 10, 11, 12, 13, 14, 15, 16, 17, 18, 19] _;refine zm rfl <| zS rfl (bp ai rfl) <| zS rfl (dI rfl rfl) <| zm rfl <| aD (l := [13, 14, 15, 16, 17, 18, 19]) 24 (B ((decide (4 ≤ (x24.length : Int))) && ((decide (x27 = 45)) || (decide (x31 = 32))))) (fun K => ?_) ?_
  ·rcases ac (decide (4 ≤ (x24.length : Int))) with h25 | h25
   ·refine zM h25 rfl <| zU h25 rfl (aM ai rfl rfl (g26 h25) e28) <| zU h25 rfl (dB (a := x27) (b := 45) rfl rfl) <| zM h25 rfl <| aD (l := [12, 13, 14, 15, 16, 17, 18, 19]) 23 (B ((decide (x27 = 45)) || (decide (x31 = 32)))) (fun K => ?_) ?_
    ·rcases ac (decide (x27 = 45)) with h29 | h29
     ·refine zF h29 rfl <| zF h29 rfl <| zF h29 rfl <| zU h25 rfl (ap (av := .v _) rfl h29 rfl) ?_;exact K _ 3 _ (an (fg h29)) rfl rfl
     ·refine zM h29 rfl <| zU h29 rfl (aM ai rfl rfl (g30 (er h25 (nf h29))) e32) <| zU h29 rfl (dB (a := x31) (b := 32) rfl rfl) <| zU h25 rfl (aq (av := .v _) rfl h29 rfl) ?_;exact K _ 3 _ (an (fh h29)) rfl rfl
    refine zS rfl (ap (av := .v _) rfl h25 rfl) ?_;exact K _ 5 _ (an (bx h25)) rfl rfl
   ·refine zF h25 rfl <| zF h25 rfl <| zF h25 rfl <| zF h25 rfl <| gU rfl rfl rfl rfl rfl <| gU rfl rfl rfl rfl rfl <| gU rfl rfl rfl rfl rfl <| zF h25 rfl <| zS rfl (aq (av := .v _) rfl h25 rfl) ?_;exact K _ 8 _ (an (bz h25)) rfl rfl
  refine zm rfl <| aD (l := [19]) 30 (B (((decide (4 ≤ (x24.length : Int))) && ((decide (x27 = 45)) || (decide (x31 = 32)))) && (decide ((y18.length : Int) < 100)))) (fun K => ?_) ?_
  ·rcases ac ((decide (4 ≤ (x24.length : Int))) && ((decide (x27 = 45)) || (decide (x31 = 32)))) with h33 | h33
   ·refine zU h33 rfl (al (n := 1) (by kernel_rfl) rfl) <| zT h33 rfl (AO.op rfl rfl (aj (i := 1) ar rfl rfl rfl rfl) ?_);refine zU h33 rfl (aX ar rfl) <| zU h33 rfl (cn rfl rfl) <| zS rfl (ap (av := .v _) rfl h33 rfl) ?_;exact K _ 4 _ (an (bx h33)) rfl rfl
   ·refine zF h33 rfl <| zF h33 rfl <| zF h33 rfl <| zF h33 rfl <| zS rfl (aq (av := .v _) rfl h33 rfl) ?_;exact K _ 4 _ (an (bz h33)) rfl rfl
  refine aU rfl rfl (aG rfl dl rfl (cZ F (((decide (4 ≤ (x24.length : Int))) && ((decide (x27 = 45)) || (decide (x31 = 32)))) && (decide ((y18.length : Int) < 100))) e35) ?_);refine ah <| af ?_;obtain ⟨g37, H⟩ := aR H;obtain ⟨x38, e39, H⟩ := cd H;obtain ⟨x40, x41, e42, H⟩ := fJ H;refine aa ?_;show AR _ _ _ _ _ [0, 1, 2, 3, 4, 5, 6, 7] _;refine zm rfl <| zS rfl (g_to_str ai rfl rfl g37 e39) <| aU rfl rfl (aG rfl jS rfl (gB F x38 x40 x41 e42) ?_);refine zS rfl (aA (av := .tup _) rfl) <| zS rfl (aF (av := .v _) rfl rfl) <| zS rfl (aF (av := .v _) rfl rfl) <| za rfl <| za rfl <| ah <| af ?_
  rcases Or.symm (kv H) with ⟨p49, e48, H⟩ | ⟨x47, e48, H⟩
  ·obtain rfl := ak H;refine aa ?_;show AR _ _ _ _ _ [0, 1, 2, 3, 4, 5, 6, 7, 8, 9, 10, 11, 12, 13, 14, 15, 16, 17, 18, 19, 20, 21] _;refine zm rfl <| zm rfl <| aD (l := [5, 6, 7, 8, 9, 10, 11, 12, 13, 14, 15, 16, 17, 18, 19, 20, 21]) 42 (B (x41 && (decide (200 ≤ x40)))) (fun K => ?_) ?_
   ·rcases ac x41 with h43 | h43
    ·refine zM h43 rfl <| zU h43 rfl (dI rfl rfl) <| zS rfl (ap (av := .v _) rfl h43 rfl) ?_;exact K _ 2 _ (an (bx h43)) rfl rfl
    ·refine zF h43 rfl <| zF h43 rfl <| zS rfl (aq (av := .v _) rfl h43 rfl) ?_;exact K _ 2 _ (an (bz h43)) rfl rfl
   refine zm rfl <| aD (l := [9, 10, 11, 12, 13, 14, 15, 16, 17, 18, 19, 20, 21]) 46 (B ((x41 && (decide (200 ≤ x40))) && (decide (x40 ≤ 599)))) (fun K => ?_) ?_
   ·rcases ac (x41 && (decide (200 ≤ x40))) with h44 | h44
    ·refine zM h44 rfl <| zU h44 rfl (cX rfl rfl) <| zS rfl (ap (av := .v _) rfl h44 rfl) ?_;exact K _ 2 _ (an (bx h44)) rfl rfl
    ·refine zF h44 rfl <| zF h44 rfl <| zS rfl (aq (av := .v _) rfl h44 rfl) ?_;exact K _ 2 _ (an (bz h44)) rfl rfl
   refine zm rfl <| aD (l := [21]) 58 (B (((x41 && (decide (200 ≤ x40))) && (decide (x40 ≤ 599))) && ((decide ((y18.length : Int) = 0)) || (decide (x40 = y17))))) (fun K => ?_) ?_
   ·rcases ac ((x41 && (decide (200 ≤ x40))) && (decide (x40 ≤ 599))) with h45 | h45
    ·refine zU h45 rfl (al (n := 1) (by kernel_rfl) rfl) <| zT h45 rfl (AO.op rfl rfl (aj (i := 1) ar rfl rfl rfl rfl) ?_);refine zU h45 rfl (aX ar rfl) <| zU h45 rfl (br rfl rfl) <| zM h45 rfl <| aD (l := [20, 21]) 57 (B ((decide ((y18.length : Int) = 0)) || (decide (x40 = y17)))) (fun K => ?_) ?_
     ·rcases ac (decide ((y18.length : Int) = 0)) with h46 | h46
      ·refine zF h46 rfl <| zF h46 rfl <| zF h46 rfl <| zF h46 rfl <| zU h45 rfl (ap (av := .v _) rfl h46 rfl) ?_;exact K _ 4 _ (an (fg h46)) rfl rfl
      ·refine zM h46 rfl <| zU h46 rfl (al (n := 0) (by kernel_rfl) rfl) <| zT h46 rfl (AO.op rfl rfl (aj (i := 1) aC rfl rfl rfl rfl) ?_);refine zU h46 rfl (br rfl rfl) <| zU h45 rfl (aq (av := .v _) rfl h46 rfl) ?_;exact K _ 4 _ (an (fh h46)) rfl rfl
     refine zS rfl (ap (av := .v _) rfl h45 rfl) ?_;exact K _ 6 _ (an (bx h45)) rfl rfl
    ·refine zF h45 rfl <| zF h45 rfl <| zF h45 rfl <| zF h45 rfl <| zF h45 rfl <| gU rfl rfl rfl rfl rfl <| gU rfl rfl rfl rfl rfl <| gU rfl rfl rfl rfl rfl <| gU rfl rfl rfl rfl rfl <| zF h45 rfl <| zS rfl (aq (av := .v _) rfl h45 rfl) ?_;exact K _ 10 _ (an (bz h45)) rfl rfl
   refine aU rfl rfl (AO.callPan (c := ir (.iface 51 (.agg #[]))) [] rfl dl rfl (cW F (((x41 && (decide (200 ≤ x40))) && (decide (x40 ≤ 599))) && ((decide ((y18.length : Int) = 0)) || (decide (x40 = y17)))) p49 e48) rfl ?_);exact ⟨rfl, rfl, rfl, (t19, t21), aB [0, 0, 0, 0, 0, 0] rfl⟩
  refine aa ?_;show AR _ _ _ _ _ [0, 1, 2, 3, 4, 5, 6, 7, 8, 9, 10, 11, 12, 13, 14, 15, 16, 17, 18, 19, 20, 21] _;refine zm rfl <| zm rfl <| aD (l := [5, 6, 7, 8, 9, 10, 11, 12, 13, 14, 15, 16, 17, 18, 19, 20, 21]) 42 (B (x41 && (decide (200 ≤ x40)))) (fun K => ?_) ?_
  ·rcases ac x41 with h43 | h43
   ·refine zM h43 rfl <| zU h43 rfl (dI rfl rfl) <| zS rfl (ap (av := .v _) rfl h43 rfl) ?_;exact K _ 2 _ (an (bx h43)) rfl rfl
   ·refine zF h43 rfl <| zF h43 rfl <| zS rfl (aq (av := .v _) rfl h43 rfl) ?_;exact K _ 2 _ (an (bz h43)) rfl rfl
  refine zm rfl <| aD (l := [9, 10, 11, 12, 13, 14, 15, 16, 17, 18, 19, 20, 21]) 46 (B ((x41 && (decide (200 ≤ x40))) && (decide (x40 ≤ 599)))) (fun K => ?_) ?_
  ·rcases ac (x41 && (decide (200 ≤ x40))) with h44 | h44
   ·refine zM h44 rfl <| zU h44 rfl (cX rfl rfl) <| zS rfl (ap (av := .v _) rfl h44 rfl) ?_;exact K _ 2 _ (an (bx h44)) rfl rfl
   ·refine zF h44 rfl <| zF h44 rfl <| zS rfl (aq (av := .v _) rfl h44 rfl) ?_;exact K _ 2 _ (an (bz h44)) rfl rfl
  refine zm rfl <| aD (l := [21]) 58 (B (((x41 && (decide (200 ≤ x40))) && (decide (x40 ≤ 599))) && ((decide ((y18.length : Int) = 0)) || (decide (x40 = y17))))) (fun K => ?_) ?_
  ·rcases ac ((x41 && (decide (200 ≤ x40))) && (decide (x40 ≤ 599))) with h45 | h45
   ·refine zU h45 rfl (al (n := 1) (by kernel_rfl) rfl) <| zT h45 rfl (AO.op rfl rfl (aj (i := 1) ar rfl rfl rfl rfl) ?_);refine zU h45 rfl (aX ar rfl) <| zU h45 rfl (br rfl rfl) <| zM h45 rfl <| aD (l := [20, 21]) 57 (B ((decide ((y18.length : Int) = 0)) || (decide (x40 = y17)))) (fun K => ?_) ?_
    ·rcases ac (decide ((y18.length : Int) = 0)) with h46 | h46
     ·refine zF h46 rfl <| zF h46 rfl <| zF h46 rfl <| zF h46 rfl <| zU h45 rfl (ap (av := .v _) rfl h46 rfl) ?_;exact K _ 4 _ (an (fg h46)) rfl rfl
     ·refine zM h46 rfl <| zU h46 rfl (al (n := 0) (by kernel_rfl) rfl) <| zT h46 rfl (AO.op rfl rfl (aj (i := 1) aC rfl rfl rfl rfl) ?_);refine zU h46 rfl (br rfl rfl) <| zU h45 rfl (aq (av := .v _) rfl h46 rfl) ?_;exact K _ 4 _ (an (fh h46)) rfl rfl
    refine zS rfl (ap (av := .v _) rfl h45 rfl) ?_;exact K _ 6 _ (an (bx h45)) rfl rfl
   ·refine zF h45 rfl <| zF h45 rfl <| zF h45 rfl <| zF h45 rfl <| zF h45 rfl <| gU rfl rfl rfl rfl rfl <| gU rfl rfl rfl rfl rfl <| gU rfl rfl rfl rfl rfl <| gU rfl rfl rfl rfl rfl <| zF h45 rfl <| zS rfl (aq (av := .v _) rfl h45 rfl) ?_;exact K _ 10 _ (an (bz h45)) rfl rfl
  refine aU rfl rfl (aG rfl dl rfl (cZ F (((x41 && (decide (200 ≤ x40))) && (decide (x40 ≤ 599))) && ((decide ((y18.length : Int) = 0)) || (decide (x40 = y17)))) e48) ?_);refine ah <| bS (X := (List (List UInt8)) × Nat) (fun (y58, t59) => ⟨[(3, .cp [.fn (.func 25) [] [.pt o3 0, .pt o6 0]]), (4, .pt o11 0), (5, .pt o13 0), (6, S x24), (7, i64 x40)], [], [.obj o13 [i64 y16], .obj o11 [i64 x40, slE Enc.str y58 (some t59), i64 0, i64 0, i64 0], .obj o3 [slE (am Enc.int (am (Enc.sl Enc.str) (am Enc.int (am Enc.int Enc.int)))) y20 (some t21)], .obj o6 [i64 y22], .tok t59 9, .tok t21 38]⟩) (fun (y58, t59) => ef F y16 y20 y22 x24 x40 y58 = some rv) ?_ ?_
  ·obtain ⟨g50, H⟩ := aR H;obtain ⟨x51, e52, H⟩ := cd H;obtain ⟨g54, H⟩ := aR H;obtain ⟨x55, e56, H⟩ := cd H;refine iz (by kernel_rfl) (by kernel_rfl) ?_;show AI _ _ _ _ _ 11 (Array.replicate 11 false) _;refine zk 0 rfl (mv rfl) ?_;show AI _ _ _ _ _ _ #[true, false, false, false, false, false, false, false, false, false, false] _;refine zk 1 rfl (al (n := 1) (by kernel_rfl) rfl) ?_;show AI _ _ _ _ _ _ #[true, true, false, false, false, false, false, false, false, false, false] _;refine zk 3 rfl (mv rfl) ?_;show AI _ _ _ _ _ _ #[true, true, false, true, false, false, false, false, false, false, false] _;refine zk 4 rfl (dh ai rfl rfl g50 e52) ?_;show AI _ _ _ _ _ _ #[true, true, false, true, true, false, false, false, false, false, false] _;refine dA (i := 2) (j := 5) (by kernel_rfl) rfl rfl rfl rfl ?_ ?_
   ·refine aV rfl (aj (i := 1) ar rfl rfl rfl rfl) ?_;show AI _ _ _ _ _ _ #[true, true, true, true, true, false, false, false, false, false, false] _;refine zk 7 rfl (al (n := 0) (by kernel_rfl) rfl) ?_;show AI _ _ _ _ _ _ #[true, true, true, true, true, false, false, true, false, false, false] _;refine aL (i := 5) (by kernel_rfl) rfl rfl <| aV rfl (ja (E := Enc.str) (bytes := 16) (xs := [.tmp 64]) (l := ([x51] : List (List UInt8))) ar (by kernel_rfl) rfl rfl (by decide) rfl rfl) ?_;show AI _ _ _ _ _ _ #[true, true, true, true, true, true, false, true, false, false, false] _;refine aL (i := 6) (by kernel_rfl) rfl rfl <| AIO.opx rfl (el (E := Enc.str) (bytes := 16) 4 ar ar rfl (by kernel_rfl) rfl rfl rfl rfl g54 e56) ?_;rintro _ _ ⟨t53, rfl, rfl⟩;show AI _ _ _ _ _ _ #[true, true, true, true, true, true, true, true, false, false, false] _;refine aL (i := 8) (by kernel_rfl) rfl rfl <| bI (ay (i := 1) (c := .v _) (by kernel_rfl) rfl rfl rfl rfl (ab rfl)) ?_;show AI _ _ _ _ _ _ #[true, true, true, true, true, true, true, true, true, false, false] _;refine zk 9 rfl (al (n := 1) (by kernel_rfl) rfl) ?_;show AI _ _ _ _ _ _ #[true, true, true, true, true, true, true, true, true, true, false] _;refine aL (i := 10) (by kernel_rfl) rfl rfl <| bI (ay (i := 1) (c := slE _ _ _) (by kernel_rfl) rfl rfl rfl rfl (ab rfl)) ?_
    show AI _ _ _ _ _ _ #[true, true, true, true, true, true, true, true, true, true, true] _;refine bD rfl ?_;exact Exists.intro (x55, t53) ⟨H, be [0, 0, 0, 0, 0, 0] (.cons (.refl _) (.cons (.refl _) (.cons (.refl _) (.cons (.refl _) (.cons (.refl _) (.nil _)))))) rfl⟩
   ·refine aV rfl (ja (E := Enc.str) (bytes := 16) (xs := [.tmp 64]) (l := ([x51] : List (List UInt8))) ar (by kernel_rfl) rfl rfl (by decide) rfl rfl) ?_;show AI _ _ _ _ _ _ #[true, true, false, true, true, true, false, false, false, false, false] _;refine aL (i := 2) (by kernel_rfl) rfl rfl <| aV rfl (aj (i := 1) ar rfl rfl rfl rfl) ?_;show AI _ _ _ _ _ _ #[true, true, true, true, true, true, false, false, false, false, false] _;refine zk 7 rfl (al (n := 0) (by kernel_rfl) rfl) ?_;show AI _ _ _ _ _ _ #[true, true, true, true, true, true, false, true, false, false, false] _;refine aL (i := 6) (by kernel_rfl) rfl rfl <| AIO.opx rfl (el (E := Enc.str) (bytes := 16) 4 ar ar rfl (by kernel_rfl) rfl rfl rfl rfl g54 e56) ?_;rintro _ _ ⟨t57, rfl, rfl⟩;show AI _ _ _ _ _ _ #[true, true, true, true, true, true, true, true, false, false, false] _;refine aL (i := 8) (by kernel_rfl) rfl rfl <| bI (ay (i := 1) (c := .v _) (by kernel_rfl) rfl rfl rfl rfl (ab rfl)) ?_;show AI _ _ _ _ _ _ #[true, true, true, true, true, true, true, true, true, false, false] _;refine zk 9 rfl (al (n := 1) (by kernel_rfl) rfl) ?_;show AI _ _ _ _ _ _ #[true, true, true, true, true, true, true, true, true, true, false] _;refine aL (i := 10) (by kernel_rfl) rfl rfl <| bI (ay (i := 1) (c := slE _ _ _) (by kernel_rfl) rfl rfl rfl rfl (ab rfl)) ?_
    show AI _ _ _ _ _ _ #[true, true, true, true, true, true, true, true, true, true, true] _;refine bD rfl ?_;exact Exists.intro (x55, t57) ⟨H, be [0, 0, 0, 0, 0, 0] (.cons (.refl _) (.cons (.refl _) (.cons (.refl _) (.cons (.refl _) (.cons (.refl _) (.nil _)))))) rfl⟩
  rintro ⟨y58, t59⟩ H;replace H : ef F y16 y20 y22 x24 x40 y58 = some rv := H
  unfold ef at H
  refine af ?_;obtain ⟨g61, H⟩ := aR H;obtain ⟨g62, H⟩ := aR H;refine aa ?_;show AR _ _ _ _ _ [0, 1, 2, 3, 4, 5] _;refine zR rfl (aj (i := 0) aC rfl rfl rfl rfl) <| zm rfl <| zS rfl (bp ai rfl) <| zS rfl (gu rfl rfl g61) <| zS rfl (gu rfl rfl g62) <| s0 rfl rfl (ay (i := 0) (c := .v _) (by kernel_rfl) rfl rfl rfl rfl (ab rfl)) <| ah <| af ?_;obtain ⟨g63, H⟩ := aR H;obtain ⟨x64, e65, H⟩ := cd H;refine aa ?_;show AR _ _ _ _ _ [0, 1, 2] _;refine zm rfl <| zS rfl (aM ai rfl rfl g63 e65) <| zS rfl (dB (a := x64) (b := 32) rfl rfl) <| ah <| ax rfl (fun c66 => ?_) (fun c66 => ?_)
  ·replace H := aZ c66 H;refine af ?_;obtain ⟨g67, H⟩ := aR H;obtain ⟨x68, e69, H⟩ := cd H;obtain ⟨x70, x71, x72, e73, H⟩ := gw H;refine aa ?_;show AR _ _ _ _ _ [0, 1, 2, 3, 4, 5] _;refine zm rfl <| zm rfl <| zS rfl (dh ai rfl rfl g67 e69) <| aU rfl rfl (aG rfl jT rfl (iX F x40 x68 x70 x71 x72 e73) ?_);refine zS rfl (al (n := 2) (by kernel_rfl) rfl) <| s0 rfl rfl (cl (i := 1) (vs := [i64 x70, i64 x71, i64 x72]) (by kernel_rfl) rfl rfl (by simp [bt, slE]) rfl (ab rfl)) <| ah <| af ?_;obtain ⟨x74, x75, e76, H⟩ := fJ H;refine aa ?_;show AR _ _ _ _ _ [0, 1, 2, 3] _;refine zS rfl (bj Tryd.underlying55 rfl rfl) <| zR rfl (ke (cs := [i64 x40, slE Enc.str y58 (some t59), i64 x70, i64 x71, i64 x72]) (dv (i := 1) (n := 5) Tryd.underlying38 rfl (by kernel_rfl) rfl rfl (ab rfl)) (.cons (.refl _) (.cons (.tok _ _ _) (.cons (.refl _) (.cons (.refl _) (.cons (.refl _) (.nil))))))) <| zR rfl (aj (i := 0) aC rfl rfl rfl rfl) <| aU rfl rfl (AO.callFAt [2, 4, 2] rfl (.inl rfl) mJ rfl (lm F x40 y58 x70 x71 x72 (y16 + ((x24.length : Int) + 2)) o3 y20 t21 o6 y22 x74 x75 e76) rfl (fun c A' h => by cases h.1) ?_)
   rintro av A' ⟨h, t77, rfl⟩; cases h
   refine ah <| aa ?_;show AR _ _ _ _ _ [0, 1] _;refine zS rfl (kn (zs := [.int .i64 0, .slice none 0 0, .int .i64 0, .int .i64 0, .int .i64 0]) (ps := [(0, 1), (1, 1), (2, 3)]) (cs := [i64 0, nilS, i64 0, i64 0, i64 0]) (by kernel_rfl) rfl rfl) <| s0 rfl rfl (cl (i := 4) (vs := [i64 0, nilS, i64 0, i64 0, i64 0]) (by kernel_rfl) rfl rfl (by simp [bt, slE]) rfl (ab rfl)) ?_
   refine AR.nil_objAt 4 1 1 9 rfl rfl fun t78 => ?_
   show AR _ _ _ _ _ _ ⟨_, _, [.tok t78 9, .obj o3 [slE (am Enc.int (am (Enc.sl Enc.str) (am Enc.int (am Enc.int Enc.int)))) x74 (some t77)], .tok t77 38, .obj o6 [i64 x75], .obj o13 [i64 (y16 + ((x24.length : Int) + 2))], .obj o11 [i64 0, slE Enc.str [] (some t78), i64 0, i64 0, i64 0], .tok t59 9]⟩;refine ah ?_;obtain rfl := ak H;exact ⟨rfl, rfl, (t78, t77), aB [4, 4, 1, 2, 0, 0] rfl⟩
  ·replace H := ba c66 H;refine aE ?_;obtain rfl := ak H;exact ⟨rfl, rfl, (t59, t21), aB [0, 0, 0, 0, 0, 0] rfl⟩
 ·rintro h89 o88 ⟨t86, t87⟩;replace H := aZ h89 H;obtain ⟨rfl, rfl, rfl⟩ := iC H;exact Exists.intro _ (And.intro (Unmark.at 0 rfl (.nil _)) (Exists.intro _ ⟨aB [2, 4, 2] rfl, t87, rfl, .inr ⟨rfl, rfl⟩⟩))
 rintro h89 o85 ⟨t83, t84⟩;replace H := ba h89 H;obtain ⟨rfl, rfl, rfl⟩ := iC H;exact Exists.intro _ (And.intro (Unmark.at 0 rfl (.nil _)) (Exists.intro _ (Exists.intro _ ⟨bb rfl, aB [3, 5, 3] rfl, t84, rfl, .inl ⟨rfl, rfl⟩⟩)))
theorem jY (F : Nat) (a1 : List UInt8) (q2 : Option Nat) (o3 : Nat) (a4 : List (Int × (List (List UInt8)) × Int × Int × Int)) (t5 : Nat) (o6 : Nat) (a7 : Int) (r8 : List (Int × (List (List UInt8)) × Int × Int × Int)) (r10 : Int) (H : fc F a1 a4 a7 = some (r8, r10, false)) : ACalls Tryd.prog 24 [slE Enc.byte a1 q2, .fn (.func 25) [] [.pt o3 0, .pt o6 0]] [.obj o3 [slE (am Enc.int (am (Enc.sl Enc.str) (am Enc.int (am Enc.int Enc.int)))) a4 (some t5)], .tok t5 38, .obj o6 [i64 a7]] (fun e A' => e = .ret (.tup []) ∧ ∃ t9, A' = [.obj o3 [slE (am Enc.int (am (Enc.sl Enc.str) (am Enc.int (am Enc.int Enc.int)))) r8 (some t9)], .tok t9 38, .obj o6 [i64 r10]]) :=
 (jI F a1 q2 o3 a4 t5 o6 a7 r8 r10 false H).mono fun e A' h => by obtain ⟨t9, h, ⟨h1, h2⟩ | ⟨h1, h2⟩⟩ := h <;> first | exact ⟨h2, t9, h⟩ | cases h1
theorem js (F : Nat) (a1 : List UInt8) (q2 : Option Nat) (o3 : Nat) (a4 : List (Int × (List (List UInt8)) × Int × Int × Int)) (t5 : Nat) (o6 : Nat) (a7 : Int) (r8 : List (Int × (List (List UInt8)) × Int × Int × Int)) (r10 : Int) (H : fc F a1 a4 a7 = some (r8, r10, true)) : ACalls Tryd.prog 24 [slE Enc.byte a1 q2, .fn (.func 25) [] [.pt o3 0, .pt o6 0]] [.obj o3 [slE (am Enc.int (am (Enc.sl Enc.str) (am Enc.int (am Enc.int Enc.int)))) a4 (some t5)], .tok t5 38, .obj o6 [i64 a7]] (fun e A' => e = .pan (ir (.iface 51 (.agg #[]))) ∧ ∃ t9, A' = [.obj o3 [slE (am Enc.int (am (Enc.sl Enc.str) (am Enc.int (am Enc.int Enc.int)))) r8 (some t9)], .tok t9 38, .obj o6 [i64 r10]]) :=
 (jI F a1 q2 o3 a4 t5 o6 a7 r8 r10 true H).mono fun e A' h => by obtain ⟨t9, h, ⟨h1, h2⟩ | ⟨h1, h2⟩⟩ := h <;> first | exact ⟨h2, t9, h⟩ | cases h1
set_option maxRecDepth 100000 in
set_option maxHeartbeats 1000000 in
theorem gX (F : Nat) (H : fK F = some ()) : ACalls Tryd.prog 9 [] [] (fun e A' => ∃ ob1 : Nat, e = .ret (.pt ob1 0) ∧ A' = [.obj ob1 [nilS, B false]]) := by
 unfold fK at H
 refine az Tryd.func9 rfl rfl ?_;show AW _ _ 3 _ _ _;refine af <| aa ?_;show AR _ _ _ _ _ [0] _;refine za rfl <| ah <| af <| aa ?_;show AR _ _ _ _ _ [0, 1, 2] _;refine zS rfl (kn (zs := [.slice none 0 0, .bool false]) (ps := [(0, 1), (1, 1)]) (cs := [nilS, B false]) (by kernel_rfl) rfl rfl) <| zX rfl (iG rfl (.inr ⟨_, rfl⟩)) ?_;rintro _ _ ⟨o1, rfl, rfl⟩;refine zS rfl (aI (av := .pt _ _) rfl) <| ah <| aK ?_;exact And.intro rfl (Exists.intro _ (Exists.intro _ ⟨aJ rfl (.refl _), aB [0] rfl, o1, rfl, rfl⟩))
abbrev _root_.Go.Av.ao := @Tryd.underlying25
set_option maxRecDepth 100000 in
set_option maxHeartbeats 1000000 in
theorem fA (F : Nat) (o1 : Nat) (a2 : List UInt8) (t3 : Nat) (a4 : Bool) (r5 : Bool) (H : fe F a2 a4 = some r5) : ACalls Tryd.prog 13 [.pt o1 0] [.obj o1 [slE Enc.byte a2 (some t3), B a4], .tok t3 5] (fun e A' => e = .ret (B r5) ∧ A' = [.obj o1 [slE Enc.byte a2 (some t3), B a4], .tok t3 5]) := by
 unfold fe at H
 refine az Tryd.func13 rfl rfl ?_;show AW _ _ 11 _ _ _;refine af <| aa ?_;show AR _ _ _ _ _ [0] _;refine za rfl <| ah <| af <| aa ?_;show AR _ _ _ _ _ [0, 1, 2, 3, 4, 5, 6, 7, 8] _;refine zS rfl (aA (av := .pt _ _) rfl) <| zS rfl (eP ao rfl rfl) <| zm rfl <| zU rfl rfl (aA (av := .pt _ _) rfl) <| zU rfl rfl (aw rfl) <| zU rfl rfl (al (n := 1) (by kernel_rfl) rfl) <| zT rfl rfl (AO.op rfl rfl (aj (i := 0) Tryd.underlying4 rfl rfl rfl rfl) ?_);refine zS rfl (aq (av := .v _) rfl rfl rfl) <| za rfl <| ah <| aK ?_;obtain rfl := ak H;exact And.intro rfl (Exists.intro _ (Exists.intro _ ⟨aJ rfl (.refl _), aB [0, 0] rfl, rfl, rfl⟩))
set_option maxRecDepth 100000 in
set_option maxHeartbeats 1000000 in
theorem eQ (F : Nat) (o1 : Nat) (a2 : List UInt8) (t3 : Nat) (a4 : Bool) (r5 : Int) (H : ek F a2 a4 = some r5) : ACalls Tryd.prog 14 [.pt o1 0] [.obj o1 [slE Enc.byte a2 (some t3), B a4], .tok t3 5] (fun e A' => e = .ret (i64 r5) ∧ A' = [.obj o1 [slE Enc.byte a2 (some t3), B a4], .tok t3 5]) := by
 unfold ek at H
 refine az Tryd.func14 rfl rfl ?_;show AW _ _ 10 _ _ _;refine af <| aa ?_;show AR _ _ _ _ _ [0] _;refine za rfl <| ah <| af <| af <| aa ?_;show AR _ _ _ _ _ [0, 1] _;refine zS rfl (aA (av := .pt _ _) rfl) <| zS rfl (eP ao rfl rfl) <| ah <| ax rfl (fun hx => co hx rfl) (fun _ => ?_);refine aE <| af <| aa ?_;show AR _ _ _ _ _ [0, 1, 2, 3, 4, 5] _;refine zS rfl (aA (av := .pt _ _) rfl) <| zS rfl (aw rfl) <| zS rfl (al (n := 0) (by kernel_rfl) rfl) <| zR rfl (aj (i := 0) ag rfl rfl rfl rfl) <| zS rfl (aX ag rfl) <| za rfl <| ah <| aK ?_;obtain rfl := ak H;exact And.intro rfl (Exists.intro _ (Exists.intro _ ⟨aJ rfl (.refl _), aB [0, 0] rfl, rfl, rfl⟩))
set_option maxRecDepth 100000 in
set_option maxHeartbeats 1000000 in
theorem lr (F : Nat) (r1 : Bool) (H : gJ F = some r1) : ACalls Tryd.prog 13 [.v (.pointer none)] [] (Ret (B r1) []) := by
 unfold gJ at H
 refine az Tryd.func13 rfl rfl ?_;show AW _ _ 11 _ _ _;refine af <| aa ?_;show AR _ _ _ _ _ [0] _;refine za rfl <| ah <| af <| aa ?_;show AR _ _ _ _ _ [0, 1, 2, 3, 4, 5, 6, 7, 8] _;refine zm rfl <| zS rfl (ew ao rfl rfl) <| zm rfl <| zF rfl rfl <| zF rfl rfl <| zF rfl rfl <| zF rfl rfl <| zS rfl (ap (av := .v _) rfl rfl rfl) <| za rfl <| ah <| aK ?_;obtain rfl := ak H;exact And.intro rfl (Exists.intro _ (Exists.intro _ ⟨aJ rfl (.refl _), aB [] rfl, rfl, rfl⟩))
set_option maxRecDepth 100000 in
set_option maxHeartbeats 1000000 in
theorem kx (F : Nat) (r1 : Int) (H : fD F = some r1) : ACalls Tryd.prog 14 [.v (.pointer none)] [] (Ret (i64 r1) []) := by
 unfold fD at H
 refine az Tryd.func14 rfl rfl ?_;show AW _ _ 10 _ _ _;refine af <| aa ?_;show AR _ _ _ _ _ [0] _;refine za rfl <| ah <| af <| af <| aa ?_;show AR _ _ _ _ _ [0, 1] _;refine zm rfl <| zS rfl (ew ao rfl rfl) <| ah <| ax rfl (fun _ => ?_) (fun hx => co rfl hx);refine af <| aa ?_;show AR _ _ _ _ _ [0] _;refine za rfl <| ah <| aK ?_;obtain rfl := ak H;exact And.intro rfl (Exists.intro _ (Exists.intro _ ⟨aJ rfl (.refl _), aB [] rfl, rfl, rfl⟩))
set_option maxRecDepth 100000 in
set_option maxHeartbeats 1000000 in
theorem lq (F : Nat) (a1 : List UInt8) (q2 : Option Nat) (r3 : List (Int × (List (List UInt8)) × Int × Int × Int)) (H : gI F a1 = some r3) : ACalls Tryd.prog 10 [.v (.pointer none), slE Enc.byte a1 q2] [] (Ret (slE (am Enc.int (am (Enc.sl Enc.str) (am Enc.int (am Enc.int Enc.int)))) r3 none) []) := by
 unfold gI at H
 refine fb [4] Tryd.func10 rfl rfl ?_;show AW _ _ 31 _ _ _;refine af <| aa ?_;show AR _ _ _ _ _ [0, 1] _;refine zX rfl (iG rfl (.inl rfl)) ?_;rintro _ _ ⟨o4, rfl, rfl⟩;refine zX rfl (dk (zs := [.slice none 0 0]) (by kernel_rfl)) ?_;rintro _ _ ⟨o5, rfl, rfl⟩;refine ah <| af <| af <| aa ?_;show AR _ _ _ _ _ [0, 1, 2, 3, 4, 5, 6, 7] _;refine zR rfl (aj (i := 1) ao rfl rfl rfl rfl) <| zS rfl (ew ao rfl rfl) <| zm rfl <| zF rfl rfl <| zF rfl rfl <| zF rfl rfl <| zF rfl rfl <| zS rfl (ap (av := .v _) rfl rfl rfl) <| ah <| ax rfl (fun _ => ?_) (fun hx => co rfl hx);refine af <| aa ?_;show AR _ _ _ _ _ [0] _;refine s0 rfl rfl (ay (i := 0) (c := .v _) (by kernel_rfl) rfl rfl rfl rfl (ab rfl)) <| ah <| aK ?_;obtain rfl := ak H;exact Exists.intro _ (Exists.intro _ ⟨cS rfl ((CellV.one (c := .v _) 0 aH rfl rfl rfl rfl).oneW (.nil _)), aB [] rfl, rfl, rfl⟩)
set_option maxRecDepth 100000 in
set_option maxHeartbeats 1000000 in
theorem gW (F : Nat) (o1 : Nat) (a2 : List UInt8) (t3 : Nat) (a4 : Bool) (a5 : List UInt8) (q6 : Option Nat) (r7 : List (Int × (List (List UInt8)) × Int × Int × Int)) (r8 : List UInt8) (r10 : Bool) (H : eB F a2 a4 a5 = some (r7, r8, r10)) : ACalls Tryd.prog 10 [.pt o1 0, slE Enc.byte a5 q6] [.obj o1 [slE Enc.byte a2 (some t3), B a4], .tok t3 5] (fun e A' => e = .ret (slE (am Enc.int (am (Enc.sl Enc.str) (am Enc.int (am Enc.int Enc.int)))) r7 none) ∧ ∃ t9, A' = [.obj o1 [slE Enc.byte r8 (some t9), B r10], .tok t9 5]) := by
 unfold eB at H
 refine fb [4] Tryd.func10 rfl rfl ?_;show AW _ _ 31 _ _ _;refine af <| aa ?_;show AR _ _ _ _ _ [0, 1] _;refine zX rfl (iG rfl (.inl rfl)) ?_;rintro _ _ ⟨o11, rfl, rfl⟩;refine zX rfl (dk (zs := [.slice none 0 0]) (by kernel_rfl)) ?_;rintro _ _ ⟨o12, rfl, rfl⟩;refine ah <| af <| af <| aa ?_;show AR _ _ _ _ _ [0, 1, 2, 3, 4, 5, 6, 7] _;refine zR rfl (aj (i := 1) ao rfl rfl rfl rfl) <| zS rfl (eP ao rfl rfl) <| zm rfl <| zT rfl rfl (AO.op rfl rfl (aj (i := 1) ao rfl rfl rfl rfl) ?_);refine zU rfl rfl (aw rfl) <| zU rfl rfl (al (n := 1) (by kernel_rfl) rfl) <| zT rfl rfl (AO.op rfl rfl (aj (i := 2) Tryd.underlying4 rfl rfl rfl rfl) ?_);refine zS rfl (aq (av := .v _) rfl rfl rfl) <| ah <| ax rfl (fun c13 => ?_) (fun c13 => ?_)
 ·replace H := aZ c13 H;refine af <| aa ?_;show AR _ _ _ _ _ [0] _;refine s0 rfl rfl (ay (i := 0) (c := .v _) (by kernel_rfl) rfl rfl rfl rfl (ab rfl)) <| ah <| aK ?_;obtain ⟨rfl, rfl, rfl⟩ := iC H;exact Exists.intro _ (Exists.intro _ ⟨cS rfl ((CellV.one (c := .v _) 0 aH rfl rfl rfl rfl).oneW (.nil _)), aB [2, 2] rfl, rfl, t3, rfl⟩)
 ·replace H := ba c13 H;refine aE <| bS (X := (List UInt8) × Nat) (fun (y21, t22) => ⟨[(2, .pt o11 0), (4, .pt o12 0)], [], [.obj o12 [nilS], .obj o11 [.pt o1 0], .obj o1 [slE Enc.byte y21 (some t22), B a4], .tok t22 5]⟩) (fun (y21, t22) => eg F a4 y21 = some (r7, r8, r10)) ?_ ?_
  ·obtain ⟨g15, H⟩ := aR H;obtain ⟨x16, e17, H⟩ := cd H;refine cR (by kernel_rfl) ?_;show AI _ _ _ _ _ 10 (Array.replicate 10 false) _;refine AI.take (i := 5) rfl rfl (by kernel_rfl) (by kernel_rfl) (by kernel_rfl) (fun _ _ h => bi rfl h) (aA (av := slE _ _ _) rfl) ?_;show AI _ _ _ _ _ _ #[false, false, false, false, false, true, false, false, false, false] _;refine dA (i := 0) (j := 1) (by kernel_rfl) rfl rfl rfl rfl ?_ ?_
   ·refine aV rfl (aj (i := 1) ao rfl rfl rfl rfl) ?_;show AI _ _ _ _ _ _ #[true, false, false, false, false, true, false, false, false, false] _;refine aL (i := 1) (by kernel_rfl) rfl rfl <| aV rfl (aj (i := 1) ao rfl rfl rfl rfl) ?_;show AI _ _ _ _ _ _ #[true, true, false, false, false, true, false, false, false, false] _;refine AI.take (i := 2) rfl rfl (by kernel_rfl) (by kernel_rfl) (by kernel_rfl) (fun _ _ h => bi rfl h) (aw rfl) ?_;show AI _ _ _ _ _ _ #[true, true, true, false, false, true, false, false, false, false] _;refine AI.take (i := 3) rfl rfl (by kernel_rfl) (by kernel_rfl) (by kernel_rfl) (fun _ _ h => bi rfl h) (al (n := 0) (by kernel_rfl) rfl) ?_;show AI _ _ _ _ _ _ #[true, true, true, true, false, true, false, false, false, false] _;refine aL (i := 4) (by kernel_rfl) rfl rfl <| aV rfl (aj (i := 2) ag rfl rfl rfl rfl) ?_;show AI _ _ _ _ _ _ #[true, true, true, true, true, true, false, false, false, false] _;refine aL (i := 6) (by kernel_rfl) rfl rfl <| AIO.opx rfl (el (E := Enc.byte) (bytes := 1) 3 ag ag rfl (by kernel_rfl) rfl rfl rfl rfl g15 e17) ?_;rintro _ _ ⟨t14, rfl, rfl⟩;show AI _ _ _ _ _ _ #[true, true, true, true, true, true, true, false, false, false] _;refine AI.take (i := 7) rfl rfl (by kernel_rfl) (by kernel_rfl) (by kernel_rfl) (fun _ _ h => bi rfl h) (aw rfl) ?_
    show AI _ _ _ _ _ _ #[true, true, true, true, true, true, true, true, false, false] _;refine AI.take (i := 8) rfl rfl (by kernel_rfl) (by kernel_rfl) (by kernel_rfl) (fun _ _ h => bi rfl h) (al (n := 0) (by kernel_rfl) rfl) ?_;show AI _ _ _ _ _ _ #[true, true, true, true, true, true, true, true, true, false] _;refine aL (i := 9) (by kernel_rfl) rfl rfl <| bI (ay (i := 2) (c := slE _ _ _) (by kernel_rfl) rfl rfl rfl rfl (ab rfl)) ?_;show AI _ _ _ _ _ _ #[true, true, true, true, true, true, true, true, true, true] _;refine bD rfl ?_;exact Exists.intro (x16, t14) ⟨H, be [0, 0, 0, 0] (.cons (.refl _) (.cons (.refl _) (.nil _))) rfl⟩
   ·refine aV rfl (aj (i := 1) ao rfl rfl rfl rfl) ?_;show AI _ _ _ _ _ _ #[false, true, false, false, false, true, false, false, false, false] _;refine AI.take (i := 2) rfl rfl (by kernel_rfl) (by kernel_rfl) (by kernel_rfl) (fun _ _ h => bi rfl h) (aw rfl) ?_;show AI _ _ _ _ _ _ #[false, true, true, false, false, true, false, false, false, false] _;refine AI.take (i := 3) rfl rfl (by kernel_rfl) (by kernel_rfl) (by kernel_rfl) (fun _ _ h => bi rfl h) (al (n := 0) (by kernel_rfl) rfl) ?_;show AI _ _ _ _ _ _ #[false, true, true, true, false, true, false, false, false, false] _;refine dA (i := 0) (j := 4) (by kernel_rfl) rfl rfl rfl rfl ?_ ?_
    ·refine aV rfl (aj (i := 1) ao rfl rfl rfl rfl) ?_;show AI _ _ _ _ _ _ #[true, true, true, true, false, true, false, false, false, false] _;refine aL (i := 4) (by kernel_rfl) rfl rfl <| aV rfl (aj (i := 2) ag rfl rfl rfl rfl) ?_;show AI _ _ _ _ _ _ #[true, true, true, true, true, true, false, false, false, false] _;refine aL (i := 6) (by kernel_rfl) rfl rfl <| AIO.opx rfl (el (E := Enc.byte) (bytes := 1) 3 ag ag rfl (by kernel_rfl) rfl rfl rfl rfl g15 e17) ?_;rintro _ _ ⟨t18, rfl, rfl⟩;show AI _ _ _ _ _ _ #[true, true, true, true, true, true, true, false, false, false] _;refine AI.take (i := 7) rfl rfl (by kernel_rfl) (by kernel_rfl) (by kernel_rfl) (fun _ _ h => bi rfl h) (aw rfl) ?_;show AI _ _ _ _ _ _ #[true, true, true, true, true, true, true, true, false, false] _;refine AI.take (i := 8) rfl rfl (by kernel_rfl) (by kernel_rfl) (by kernel_rfl) (fun _ _ h => bi rfl h) (al (n := 0) (by kernel_rfl) rfl) ?_;show AI _ _ _ _ _ _ #[true, true, true, true, true, true, true, true, true, false] _;refine aL (i := 9) (by kernel_rfl) rfl rfl <| bI (ay (i := 2) (c := slE _ _ _) (by kernel_rfl) rfl rfl rfl rfl (ab rfl)) ?_;show AI _ _ _ _ _ _ #[true, true, true, true, true, true, true, true, true, true] _;refine bD rfl ?_;exact Exists.intro (x16, t18) ⟨H, be [0, 0, 0, 0] (.cons (.refl _) (.cons (.refl _) (.nil _))) rfl⟩
    ·refine aV rfl (aj (i := 2) ag rfl rfl rfl rfl) ?_;show AI _ _ _ _ _ _ #[false, true, true, true, true, true, false, false, false, false] _;refine dA (i := 0) (j := 6) (by kernel_rfl) rfl rfl rfl rfl ?_ ?_
     ·refine aV rfl (aj (i := 1) ao rfl rfl rfl rfl) ?_;show AI _ _ _ _ _ _ #[true, true, true, true, true, true, false, false, false, false] _;refine aL (i := 6) (by kernel_rfl) rfl rfl <| AIO.opx rfl (el (E := Enc.byte) (bytes := 1) 3 ag ag rfl (by kernel_rfl) rfl rfl rfl rfl g15 e17) ?_;rintro _ _ ⟨t19, rfl, rfl⟩;show AI _ _ _ _ _ _ #[true, true, true, true, true, true, true, false, false, false] _;refine AI.take (i := 7) rfl rfl (by kernel_rfl) (by kernel_rfl) (by kernel_rfl) (fun _ _ h => bi rfl h) (aw rfl) ?_;show AI _ _ _ _ _ _ #[true, true, true, true, true, true, true, true, false, false] _;refine AI.take (i := 8) rfl rfl (by kernel_rfl) (by kernel_rfl) (by kernel_rfl) (fun _ _ h => bi rfl h) (al (n := 0) (by kernel_rfl) rfl) ?_;show AI _ _ _ _ _ _ #[true, true, true, true, true, true, true, true, true, false] _;refine aL (i := 9) (by kernel_rfl) rfl rfl <| bI (ay (i := 2) (c := slE _ _ _) (by kernel_rfl) rfl rfl rfl rfl (ab rfl)) ?_;show AI _ _ _ _ _ _ #[true, true, true, true, true, true, true, true, true, true] _;refine bD rfl ?_;exact Exists.intro (x16, t19) ⟨H, be [0, 0, 0, 0] (.cons (.refl _) (.cons (.refl _) (.nil _))) rfl⟩
     ·refine AIO.opx rfl (el (E := Enc.byte) (bytes := 1) 3 ag ag rfl (by kernel_rfl) rfl rfl rfl rfl g15 e17) ?_;rintro _ _ ⟨t20, rfl, rfl⟩;show AI _ _ _ _ _ _ #[false, true, true, true, true, true, true, false, false, false] _;refine aL (i := 0) (by kernel_rfl) rfl rfl <| aV rfl (aj (i := 1) ao rfl rfl rfl rfl) ?_;show AI _ _ _ _ _ _ #[true, true, true, true, true, true, true, false, false, false] _;refine AI.take (i := 7) rfl rfl (by kernel_rfl) (by kernel_rfl) (by kernel_rfl) (fun _ _ h => bi rfl h) (aw rfl) ?_;show AI _ _ _ _ _ _ #[true, true, true, true, true, true, true, true, false, false] _;refine AI.take (i := 8) rfl rfl (by kernel_rfl) (by kernel_rfl) (by kernel_rfl) (fun _ _ h => bi rfl h) (al (n := 0) (by kernel_rfl) rfl) ?_;show AI _ _ _ _ _ _ #[true, true, true, true, true, true, true, true, true, false] _;refine aL (i := 9) (by kernel_rfl) rfl rfl <| bI (ay (i := 2) (c := slE _ _ _) (by kernel_rfl) rfl rfl rfl rfl (ab rfl)) ?_;show AI _ _ _ _ _ _ #[true, true, true, true, true, true, true, true, true, true] _;refine bD rfl ?_;exact Exists.intro (x16, t20) ⟨H, be [0, 0, 0, 0] (.cons (.refl _) (.cons (.refl _) (.nil _))) rfl⟩
  rintro ⟨y21, t22⟩ H;replace H : eg F a4 y21 = some (r7, r8, r10) := H
  unfold eg at H
  refine af <| aa ?_;show AR _ _ _ _ _ [0, 1] _;refine zX rfl (dk (zs := [.int .i64 0]) (by kernel_rfl)) ?_;rintro _ _ ⟨o24, rfl, rfl⟩;refine s0 rfl rfl (ay (i := 0) (c := .v _) (by kernel_rfl) rfl rfl rfl rfl (ab rfl)) <| ah <| af <| aa ?_;show AR _ _ _ _ _ [0, 1] _;refine zS rfl (dR rfl rfl) <| aU rfl rfl (AO.defer rfl ?_);show AR _ _ _ _ _ _ ⟨_, [.call (.func 22) [.pt o11 0, .pt o24 0] []], _⟩;refine ah <| af ?_;obtain ⟨x26, x27, x28, e29, H⟩ := gw H
  rcases ac x28 with rfl | rfl
  ·replace H := aZ rfl H;refine aa ?_;show AR _ _ _ _ _ [0, 1, 2, 3, 4, 5] _;refine zR rfl (aj (i := 2) ao rfl rfl rfl rfl) <| zS rfl (aw rfl) <| zS rfl (al (n := 0) (by kernel_rfl) rfl) <| zR rfl (aj (i := 3) ag rfl rfl rfl rfl) <| zS rfl (dR rfl rfl) ?_
   refine AR.nil_objAt 1 0 5 38 rfl rfl fun t25 => ?_
   show AR _ _ _ _ _ _ ⟨_, _, [.tok t25 38, .obj o24 [i64 0], .obj o12 [slE (am Enc.int (am (Enc.sl Enc.str) (am Enc.int (am Enc.int Enc.int)))) [] (some t25)], .obj o11 [.pt o1 0], .obj o1 [slE Enc.byte y21 (some t22), B a4], .tok t22 5]⟩;refine aU rfl rfl (AO.callPanR [2, 0, 0] rfl jU rfl (js F y21 (some t22) o12 [] t25 o24 0 x26 x27 e29) rfl (fun av A' h => by cases h.1) ?_);rintro c A' ⟨h, t30, rfl⟩
   cases h
   refine Exists.intro [(4, .pt o12 0)] ⟨by simp, .cons (.refl _) (.nil _), ?_⟩;show ALeaves _ _ _ _ _ [.call (.func 22) [.pt o11 0, .pt o24 0] []] _ [.obj o12 [slE (am Enc.int (am (Enc.sl Enc.str) (am Enc.int (am Enc.int Enc.int)))) x26 (some t30)], .tok t30 38, .obj o24 [i64 x27], .obj o11 [.pt o1 0], .obj o1 [slE Enc.byte y21 (some t22), B a4], .tok t22 5];refine ft (v := .tup []) (u1 := (.panicking [{ v := (.iface 51 (.agg #[])), recovered := true }])) (A2 := (fun t32 => [.tok t32 5, .obj o24 [i64 x27], .obj o11 [.pt o1 0], .obj o1 [slE Enc.byte [] (some t32), B true]])) [2, 2, 2] (fun h => by cases h) jV rfl ?_ ?_
   ·show ADCalls _ _ [.pt o11 0, .pt o24 0] [.obj o24 [i64 x27], .obj o11 [.pt o1 0], .obj o1 [slE Enc.byte y21 (some t22), B a4]] _ _;refine ADCalls.grow (A2 := [.obj o24 [i64 x27], .obj o11 [.pt o1 0], .obj o1 [nilS, B true]]) 2 0 1 5 rfl rfl (fun _ => rfl) <| dP (av := .ifc 51 (.agg [])) (l := [1]) Tryd.func22 rfl rfl rfl rfl rfl Recovers.pan rfl (fun cs => ?_);refine ASR.op rfl rfl ((aI (av := .ifc _ _) rfl).opR _) <| ASR.nil <| af <| aa ?_;show AR _ _ _ _ _ [0, 1] _;refine zS rfl (aA (av := .ifc _ _) rfl) <| zS rfl (kC (ms := []) (.inr rfl) Tryd.underlying20 rfl rfl) <| ah <| ax rfl (fun _ => ?_) (fun hx => co rfl hx);refine af <| af <| aa ?_;show AR _ _ _ _ _ [0, 1, 2, 3, 4, 5, 6, 7] _;refine zS rfl (aA (av := .ifc _ _) rfl) <| zS rfl (ix Tryd.underlying51 rfl rfl) <| zS rfl (aA (av := .tup _) rfl) <| zS rfl (aF (av := .agg _) rfl rfl) <| zS rfl (aF (av := .v _) rfl rfl) <| zX rfl (dk (zs := []) (by kernel_rfl)) ?_;rintro _ _ ⟨o31, rfl, rfl⟩;refine s0 rfl rfl (cl (i := 0) (vs := []) (by kernel_rfl) rfl rfl (by simp [bt, slE]) rfl (ab rfl)) <| za rfl <| ah <| af <| aa ?_;show AR _ _ _ _ _ [0, 1] _;refine zm rfl <| zS rfl (dy rfl) <| ah <| ax rfl (fun hx => co hx rfl) (fun _ => ?_);refine aE <| af <| aa ?_;show AR _ _ _ _ _ [0, 1, 2, 3, 4, 5, 6, 7] _
    refine zR rfl (aj (i := 2) ao rfl rfl rfl rfl) <| zR rfl (aj (i := 2) ao rfl rfl rfl rfl) <| zS rfl (aw rfl) <| zS rfl (al (n := 0) (by kernel_rfl) rfl) <| s0 rfl rfl (ay (i := 3) (c := .v _) (by kernel_rfl) rfl rfl rfl rfl (ab rfl)) <| zS rfl (aw rfl) <| zS rfl (al (n := 1) (by kernel_rfl) rfl) <| s0 rfl rfl (ay (i := 3) (c := .v _) (by kernel_rfl) rfl rfl rfl rfl (ab rfl)) <| ah <| aK ?_;exact And.intro rfl (Exists.intro _ (Exists.intro _ ⟨bb rfl, aB [1, 1, 1] rfl, rfl, rfl, rfl⟩))
   intro t32;show ALeaves _ _ _ _ _ [] .returning [.tok t32 5, .obj o24 [i64 x27], .obj o11 [.pt o1 0], .obj o1 [slE Enc.byte [] (some t32), B true], .obj o12 [slE (am Enc.int (am (Enc.sl Enc.str) (am Enc.int (am Enc.int Enc.int)))) x26 (some t30)], .tok t30 38, .tok t22 5];obtain ⟨rfl, rfl, rfl⟩ := iC H;exact Exists.intro _ (Exists.intro _ ⟨cS rfl ((CellV.one (c := slE _ _ _) 4 aH rfl rfl rfl rfl).oneW (.tok _ _ _)), aB [3, 0] rfl, rfl, t32, rfl⟩)
  replace H := ba rfl H;refine aa ?_;show AR _ _ _ _ _ [0, 1, 2, 3, 4, 5] _;refine zR rfl (aj (i := 2) ao rfl rfl rfl rfl) <| zS rfl (aw rfl) <| zS rfl (al (n := 0) (by kernel_rfl) rfl) <| zR rfl (aj (i := 3) ag rfl rfl rfl rfl) <| zS rfl (dR rfl rfl) ?_
  refine AR.nil_objAt 1 0 5 38 rfl rfl fun t25 => ?_
  show AR _ _ _ _ _ _ ⟨_, _, [.tok t25 38, .obj o24 [i64 0], .obj o12 [slE (am Enc.int (am (Enc.sl Enc.str) (am Enc.int (am Enc.int Enc.int)))) [] (some t25)], .obj o11 [.pt o1 0], .obj o1 [slE Enc.byte y21 (some t22), B a4], .tok t22 5]⟩;refine aU rfl rfl (bH [2, 0, 0] rfl jU rfl (jY F y21 (some t22) o12 [] t25 o24 0 x26 x27 e29) rfl (fun c A' h => by cases h.1) ?_)
  rintro av A' ⟨h, t33, rfl⟩; cases h
  refine ah <| af <| aa ?_;show AR _ _ _ _ _ [0, 1] _;refine zR rfl (aj (i := 0) aH rfl rfl rfl rfl) <| s0 rfl rfl (ay (i := 0) (c := slE _ _ _) (by kernel_rfl) rfl rfl rfl rfl (ab rfl)) <| ah <| aK ?_;obtain ⟨g34, H⟩ := aR H;obtain ⟨x35, e36, H⟩ := cd H;obtain ⟨g37, H⟩ := aR H;show ALeaves _ _ _ _ _ [.call (.func 22) [.pt o11 0, .pt o24 0] []] _ [.obj o12 [slE (am Enc.int (am (Enc.sl Enc.str) (am Enc.int (am Enc.int Enc.int)))) x26 (some t33)], .tok t33 38, .obj o24 [i64 x27], .obj o11 [.pt o1 0], .obj o1 [slE Enc.byte y21 (some t22), B a4], .tok t22 5];refine ft (v := .tup []) (u1 := .returning) (A2 := (fun t38 => [.tok t38 5, .obj o24 [i64 x27], .obj o11 [.pt o1 0], .obj o1 [slE Enc.byte x35 (some t38), B a4]])) [2, 2, 2] (fun h => by cases h) jV rfl ?_ ?_
  ·show ADCalls _ _ [.pt o11 0, .pt o24 0] [.obj o24 [i64 x27], .obj o11 [.pt o1 0], .obj o1 [slE Enc.byte y21 (some t22), B a4]] _ _;refine dP (av := .v .nilIface) (l := [1]) Tryd.func22 rfl rfl rfl rfl rfl Recovers.ret rfl (fun cs => ?_);refine ASR.op rfl rfl ((asg rfl).opR _) <| ASR.nil <| af <| aa ?_;show AR _ _ _ _ _ [0, 1] _;refine zm rfl <| zS rfl (gq (n := 0) (t := 0) (k := .i64) Tryd.underlying20 rfl rfl) <| ah <| ax rfl (fun hx => co hx rfl) (fun _ => ?_);refine aE <| cR (by kernel_rfl) ?_;show AI _ _ _ _ _ 11 (Array.replicate 11 false) _;refine lj (i := 0) (j := 1) (l := 5) (by kernel_rfl) rfl rfl rfl rfl rfl rfl ?_ ?_ ?_
   ·refine aV rfl (aj (i := 1) ao rfl rfl rfl rfl) ?_;show AI _ _ _ _ _ _ #[true, false, false, false, false, false, false, false, false, false, false] _;refine dA (i := 1) (j := 5) (by kernel_rfl) rfl rfl rfl rfl ?_ ?_
    ·refine aV rfl (aj (i := 1) ao rfl rfl rfl rfl) ?_;show AI _ _ _ _ _ _ #[true, true, false, false, false, false, false, false, false, false, false] _;refine zk 2 rfl (aw rfl) ?_;show AI _ _ _ _ _ _ #[true, true, true, false, false, false, false, false, false, false, false] _;refine zk 3 rfl (al (n := 0) (by kernel_rfl) rfl) ?_;show AI _ _ _ _ _ _ #[true, true, true, true, false, false, false, false, false, false, false] _;refine dA (i := 4) (j := 5) (by kernel_rfl) rfl rfl rfl rfl ?_ ?_
     ·refine aV rfl (aj (i := 2) ag rfl rfl rfl rfl) ?_;show AI _ _ _ _ _ _ #[true, true, true, true, true, false, false, false, false, false, false] _;refine aL (i := 5) (by kernel_rfl) rfl rfl <| aV rfl (aj (i := 0) aC rfl rfl rfl rfl) ?_;show AI _ _ _ _ _ _ #[true, true, true, true, true, true, false, false, false, false, false] _;refine zk 6 rfl (cc (E := Enc.byte) ag (by kernel_rfl) rfl rfl g34 e36) ?_;show AI _ _ _ _ _ _ #[true, true, true, true, true, true, true, false, false, false, false] _;refine aL (i := 7) (by kernel_rfl) rfl rfl <| bu [] rfl bN rfl (aP x35 none (dx g37)) rfl (fun c A' h => by obtain ⟨_, h, _⟩ := h; cases h) ?_
      rintro av A' ⟨t38, h, rfl⟩; cases h
      show AI _ _ _ _ _ _ #[true, true, true, true, true, true, true, true, false, false, false] _;refine zk 8 rfl (aw rfl) ?_;show AI _ _ _ _ _ _ #[true, true, true, true, true, true, true, true, true, false, false] _;refine zk 9 rfl (al (n := 0) (by kernel_rfl) rfl) ?_;show AI _ _ _ _ _ _ #[true, true, true, true, true, true, true, true, true, true, false] _;refine aL (i := 10) (by kernel_rfl) rfl rfl <| bI (ay (i := 3) (c := slE _ _ _) (by kernel_rfl) rfl rfl rfl rfl (ab rfl)) ?_;show AI _ _ _ _ _ _ #[true, true, true, true, true, true, true, true, true, true, true] _;refine bD rfl ?_;exact And.intro rfl (Exists.intro _ (Exists.intro _ ⟨bb rfl, aB [0, 0, 0, 0] rfl, rfl, rfl, t38, rfl⟩))
     ·refine aV rfl (aj (i := 0) aC rfl rfl rfl rfl) ?_;show AI _ _ _ _ _ _ #[true, true, true, true, false, true, false, false, false, false, false] _;refine aL (i := 4) (by kernel_rfl) rfl rfl <| aV rfl (aj (i := 2) ag rfl rfl rfl rfl) ?_;show AI _ _ _ _ _ _ #[true, true, true, true, true, true, false, false, false, false, false] _;refine zk 6 rfl (cc (E := Enc.byte) ag (by kernel_rfl) rfl rfl g34 e36) ?_;show AI _ _ _ _ _ _ #[true, true, true, true, true, true, true, false, false, false, false] _;refine aL (i := 7) (by kernel_rfl) rfl rfl <| bu [] rfl bN rfl (aP x35 none (dx g37)) rfl (fun c A' h => by obtain ⟨_, h, _⟩ := h; cases h) ?_
      rintro av A' ⟨t39, h, rfl⟩; cases h
      show AI _ _ _ _ _ _ #[true, true, true, true, true, true, true, true, false, false, false] _;refine zk 8 rfl (aw rfl) ?_;show AI _ _ _ _ _ _ #[true, true, true, true, true, true, true, true, true, false, false] _;refine zk 9 rfl (al (n := 0) (by kernel_rfl) rfl) ?_;show AI _ _ _ _ _ _ #[true, true, true, true, true, true, true, true, true, true, false] _;refine aL (i := 10) (by kernel_rfl) rfl rfl <| bI (ay (i := 3) (c := slE _ _ _) (by kernel_rfl) rfl rfl rfl rfl (ab rfl)) ?_;show AI _ _ _ _ _ _ #[true, true, true, true, true, true, true, true, true, true, true] _;refine bD rfl ?_;exact And.intro rfl (Exists.intro _ (Exists.intro _ ⟨bb rfl, aB [0, 0, 0, 0] rfl, rfl, rfl, t39, rfl⟩))
    ·refine aV rfl (aj (i := 0) aC rfl rfl rfl rfl) ?_;show AI _ _ _ _ _ _ #[true, false, false, false, false, true, false, false, false, false, false] _;refine aL (i := 1) (by kernel_rfl) rfl rfl <| aV rfl (aj (i := 1) ao rfl rfl rfl rfl) ?_;show AI _ _ _ _ _ _ #[true, true, false, false, false, true, false, false, false, false, false] _;refine zk 2 rfl (aw rfl) ?_;show AI _ _ _ _ _ _ #[true, true, true, false, false, true, false, false, false, false, false] _;refine zk 3 rfl (al (n := 0) (by kernel_rfl) rfl) ?_;show AI _ _ _ _ _ _ #[true, true, true, true, false, true, false, false, false, false, false] _;refine aL (i := 4) (by kernel_rfl) rfl rfl <| aV rfl (aj (i := 2) ag rfl rfl rfl rfl) ?_;show AI _ _ _ _ _ _ #[true, true, true, true, true, true, false, false, false, false, false] _;refine zk 6 rfl (cc (E := Enc.byte) ag (by kernel_rfl) rfl rfl g34 e36) ?_;show AI _ _ _ _ _ _ #[true, true, true, true, true, true, true, false, false, false, false] _;refine aL (i := 7) (by kernel_rfl) rfl rfl <| bu [] rfl bN rfl (aP x35 none (dx g37)) rfl (fun c A' h => by obtain ⟨_, h, _⟩ := h; cases h) ?_
     rintro av A' ⟨t40, h, rfl⟩; cases h
     show AI _ _ _ _ _ _ #[true, true, true, true, true, true, true, true, false, false, false] _;refine zk 8 rfl (aw rfl) ?_;show AI _ _ _ _ _ _ #[true, true, true, true, true, true, true, true, true, false, false] _;refine zk 9 rfl (al (n := 0) (by kernel_rfl) rfl) ?_;show AI _ _ _ _ _ _ #[true, true, true, true, true, true, true, true, true, true, false] _;refine aL (i := 10) (by kernel_rfl) rfl rfl <| bI (ay (i := 3) (c := slE _ _ _) (by kernel_rfl) rfl rfl rfl rfl (ab rfl)) ?_;show AI _ _ _ _ _ _ #[true, true, true, true, true, true, true, true, true, true, true] _;refine bD rfl ?_;exact And.intro rfl (Exists.intro _ (Exists.intro _ ⟨bb rfl, aB [0, 0, 0, 0] rfl, rfl, rfl, t40, rfl⟩))
   ·refine aV rfl (aj (i := 1) ao rfl rfl rfl rfl) ?_;show AI _ _ _ _ _ _ #[false, true, false, false, false, false, false, false, false, false, false] _;refine zk 2 rfl (aw rfl) ?_;show AI _ _ _ _ _ _ #[false, true, true, false, false, false, false, false, false, false, false] _;refine zk 3 rfl (al (n := 0) (by kernel_rfl) rfl) ?_;show AI _ _ _ _ _ _ #[false, true, true, true, false, false, false, false, false, false, false] _;refine lj (i := 0) (j := 4) (l := 5) (by kernel_rfl) rfl rfl rfl rfl rfl rfl ?_ ?_ ?_
    ·refine aV rfl (aj (i := 1) ao rfl rfl rfl rfl) ?_;show AI _ _ _ _ _ _ #[true, true, true, true, false, false, false, false, false, false, false] _;refine dA (i := 4) (j := 5) (by kernel_rfl) rfl rfl rfl rfl ?_ ?_
     ·refine aV rfl (aj (i := 2) ag rfl rfl rfl rfl) ?_;show AI _ _ _ _ _ _ #[true, true, true, true, true, false, false, false, false, false, false] _;refine aL (i := 5) (by kernel_rfl) rfl rfl <| aV rfl (aj (i := 0) aC rfl rfl rfl rfl) ?_;show AI _ _ _ _ _ _ #[true, true, true, true, true, true, false, false, false, false, false] _;refine zk 6 rfl (cc (E := Enc.byte) ag (by kernel_rfl) rfl rfl g34 e36) ?_;show AI _ _ _ _ _ _ #[true, true, true, true, true, true, true, false, false, false, false] _;refine aL (i := 7) (by kernel_rfl) rfl rfl <| bu [] rfl bN rfl (aP x35 none (dx g37)) rfl (fun c A' h => by obtain ⟨_, h, _⟩ := h; cases h) ?_
      rintro av A' ⟨t41, h, rfl⟩; cases h
      show AI _ _ _ _ _ _ #[true, true, true, true, true, true, true, true, false, false, false] _;refine zk 8 rfl (aw rfl) ?_;show AI _ _ _ _ _ _ #[true, true, true, true, true, true, true, true, true, false, false] _;refine zk 9 rfl (al (n := 0) (by kernel_rfl) rfl) ?_;show AI _ _ _ _ _ _ #[true, true, true, true, true, true, true, true, true, true, false] _;refine aL (i := 10) (by kernel_rfl) rfl rfl <| bI (ay (i := 3) (c := slE _ _ _) (by kernel_rfl) rfl rfl rfl rfl (ab rfl)) ?_;show AI _ _ _ _ _ _ #[true, true, true, true, true, true, true, true, true, true, true] _;refine bD rfl ?_;exact And.intro rfl (Exists.intro _ (Exists.intro _ ⟨bb rfl, aB [0, 0, 0, 0] rfl, rfl, rfl, t41, rfl⟩))
     ·refine aV rfl (aj (i := 0) aC rfl rfl rfl rfl) ?_;show AI _ _ _ _ _ _ #[true, true, true, true, false, true, false, false, false, false, false] _;refine aL (i := 4) (by kernel_rfl) rfl rfl <| aV rfl (aj (i := 2) ag rfl rfl rfl rfl) ?_;show AI _ _ _ _ _ _ #[true, true, true, true, true, true, false, false, false, false, false] _;refine zk 6 rfl (cc (E := Enc.byte) ag (by kernel_rfl) rfl rfl g34 e36) ?_;show AI _ _ _ _ _ _ #[true, true, true, true, true, true, true, false, false, false, false] _;refine aL (i := 7) (by kernel_rfl) rfl rfl <| bu [] rfl bN rfl (aP x35 none (dx g37)) rfl (fun c A' h => by obtain ⟨_, h, _⟩ := h; cases h) ?_
      rintro av A' ⟨t42, h, rfl⟩; cases h
      show AI _ _ _ _ _ _ #[true, true, true, true, true, true, true, true, false, false, false] _;refine zk 8 rfl (aw rfl) ?_;show AI _ _ _ _ _ _ #[true, true, true, true, true, true, true, true, true, false, false] _;refine zk 9 rfl (al (n := 0) (by kernel_rfl) rfl) ?_;show AI _ _ _ _ _ _ #[true, true, true, true, true, true, true, true, true, true, false] _;refine aL (i := 10) (by kernel_rfl) rfl rfl <| bI (ay (i := 3) (c := slE _ _ _) (by kernel_rfl) rfl rfl rfl rfl (ab rfl)) ?_;show AI _ _ _ _ _ _ #[true, true, true, true, true, true, true, true, true, true, true] _;refine bD rfl ?_;exact And.intro rfl (Exists.intro _ (Exists.intro _ ⟨bb rfl, aB [0, 0, 0, 0] rfl, rfl, rfl, t42, rfl⟩))
    ·refine aV rfl (aj (i := 2) ag rfl rfl rfl rfl) ?_;show AI _ _ _ _ _ _ #[false, true, true, true, true, false, false, false, false, false, false] _;refine dA (i := 0) (j := 5) (by kernel_rfl) rfl rfl rfl rfl ?_ ?_
     ·refine aV rfl (aj (i := 1) ao rfl rfl rfl rfl) ?_;show AI _ _ _ _ _ _ #[true, true, true, true, true, false, false, false, false, false, false] _;refine aL (i := 5) (by kernel_rfl) rfl rfl <| aV rfl (aj (i := 0) aC rfl rfl rfl rfl) ?_;show AI _ _ _ _ _ _ #[true, true, true, true, true, true, false, false, false, false, false] _;refine zk 6 rfl (cc (E := Enc.byte) ag (by kernel_rfl) rfl rfl g34 e36) ?_;show AI _ _ _ _ _ _ #[true, true, true, true, true, true, true, false, false, false, false] _;refine aL (i := 7) (by kernel_rfl) rfl rfl <| bu [] rfl bN rfl (aP x35 none (dx g37)) rfl (fun c A' h => by obtain ⟨_, h, _⟩ := h; cases h) ?_
      rintro av A' ⟨t43, h, rfl⟩; cases h
      show AI _ _ _ _ _ _ #[true, true, true, true, true, true, true, true, false, false, false] _;refine zk 8 rfl (aw rfl) ?_;show AI _ _ _ _ _ _ #[true, true, true, true, true, true, true, true, true, false, false] _;refine zk 9 rfl (al (n := 0) (by kernel_rfl) rfl) ?_;show AI _ _ _ _ _ _ #[true, true, true, true, true, true, true, true, true, true, false] _;refine aL (i := 10) (by kernel_rfl) rfl rfl <| bI (ay (i := 3) (c := slE _ _ _) (by kernel_rfl) rfl rfl rfl rfl (ab rfl)) ?_;show AI _ _ _ _ _ _ #[true, true, true, true, true, true, true, true, true, true, true] _;refine bD rfl ?_;exact And.intro rfl (Exists.intro _ (Exists.intro _ ⟨bb rfl, aB [0, 0, 0, 0] rfl, rfl, rfl, t43, rfl⟩))
     ·refine aV rfl (aj (i := 0) aC rfl rfl rfl rfl) ?_;show AI _ _ _ _ _ _ #[false, true, true, true, true, true, false, false, false, false, false] _;refine zk 6 rfl (cc (E := Enc.byte) ag (by kernel_rfl) rfl rfl g34 e36) ?_;show AI _ _ _ _ _ _ #[false, true, true, true, true, true, true, false, false, false, false] _;refine dA (i := 0) (j := 7) (by kernel_rfl) rfl rfl rfl rfl ?_ ?_
      ·refine aV rfl (aj (i := 1) ao rfl rfl rfl rfl) ?_;show AI _ _ _ _ _ _ #[true, true, true, true, true, true, true, false, false, false, false] _;refine aL (i := 7) (by kernel_rfl) rfl rfl <| bu [] rfl bN rfl (aP x35 none (dx g37)) rfl (fun c A' h => by obtain ⟨_, h, _⟩ := h; cases h) ?_
       rintro av A' ⟨t44, h, rfl⟩; cases h
       show AI _ _ _ _ _ _ #[true, true, true, true, true, true, true, true, false, false, false] _;refine zk 8 rfl (aw rfl) ?_;show AI _ _ _ _ _ _ #[true, true, true, true, true, true, true, true, true, false, false] _;refine zk 9 rfl (al (n := 0) (by kernel_rfl) rfl) ?_;show AI _ _ _ _ _ _ #[true, true, true, true, true, true, true, true, true, true, false] _;refine aL (i := 10) (by kernel_rfl) rfl rfl <| bI (ay (i := 3) (c := slE _ _ _) (by kernel_rfl) rfl rfl rfl rfl (ab rfl)) ?_;show AI _ _ _ _ _ _ #[true, true, true, true, true, true, true, true, true, true, true] _;refine bD rfl ?_;exact And.intro rfl (Exists.intro _ (Exists.intro _ ⟨bb rfl, aB [0, 0, 0, 0] rfl, rfl, rfl, t44, rfl⟩))
      ·refine bu [] rfl bN rfl (aP x35 none (dx g37)) rfl (fun c A' h => by obtain ⟨_, h, _⟩ := h; cases h) ?_
       rintro av A' ⟨t45, h, rfl⟩; cases h
       show AI _ _ _ _ _ _ #[false, true, true, true, true, true, true, true, false, false, false] _;refine aL (i := 0) (by kernel_rfl) rfl rfl <| aV rfl (aj (i := 2) ao rfl rfl rfl rfl) ?_;show AI _ _ _ _ _ _ #[true, true, true, true, true, true, true, true, false, false, false] _;refine zk 8 rfl (aw rfl) ?_;show AI _ _ _ _ _ _ #[true, true, true, true, true, true, true, true, true, false, false] _;refine zk 9 rfl (al (n := 0) (by kernel_rfl) rfl) ?_;show AI _ _ _ _ _ _ #[true, true, true, true, true, true, true, true, true, true, false] _;refine aL (i := 10) (by kernel_rfl) rfl rfl <| bI (ay (i := 3) (c := slE _ _ _) (by kernel_rfl) rfl rfl rfl rfl (ab rfl)) ?_;show AI _ _ _ _ _ _ #[true, true, true, true, true, true, true, true, true, true, true] _;refine bD rfl ?_;exact And.intro rfl (Exists.intro _ (Exists.intro _ ⟨bb rfl, aB [0, 0, 0, 0] rfl, rfl, rfl, t45, rfl⟩))
    ·refine aV rfl (aj (i := 0) aC rfl rfl rfl rfl) ?_;show AI _ _ _ _ _ _ #[false, true, true, true, false, true, false, false, false, false, false] _;refine dA (i := 0) (j := 4) (by kernel_rfl) rfl rfl rfl rfl ?_ ?_
     ·refine aV rfl (aj (i := 1) ao rfl rfl rfl rfl) ?_;show AI _ _ _ _ _ _ #[true, true, true, true, false, true, false, false, false, false, false] _;refine aL (i := 4) (by kernel_rfl) rfl rfl <| aV rfl (aj (i := 2) ag rfl rfl rfl rfl) ?_;show AI _ _ _ _ _ _ #[true, true, true, true, true, true, false, false, false, false, false] _;refine zk 6 rfl (cc (E := Enc.byte) ag (by kernel_rfl) rfl rfl g34 e36) ?_;show AI _ _ _ _ _ _ #[true, true, true, true, true, true, true, false, false, false, false] _;refine aL (i := 7) (by kernel_rfl) rfl rfl <| bu [] rfl bN rfl (aP x35 none (dx g37)) rfl (fun c A' h => by obtain ⟨_, h, _⟩ := h; cases h) ?_
      rintro av A' ⟨t46, h, rfl⟩; cases h
      show AI _ _ _ _ _ _ #[true, true, true, true, true, true, true, true, false, false, false] _;refine zk 8 rfl (aw rfl) ?_;show AI _ _ _ _ _ _ #[true, true, true, true, true, true, true, true, true, false, false] _;refine zk 9 rfl (al (n := 0) (by kernel_rfl) rfl) ?_;show AI _ _ _ _ _ _ #[true, true, true, true, true, true, true, true, true, true, false] _;refine aL (i := 10) (by kernel_rfl) rfl rfl <| bI (ay (i := 3) (c := slE _ _ _) (by kernel_rfl) rfl rfl rfl rfl (ab rfl)) ?_;show AI _ _ _ _ _ _ #[true, true, true, true, true, true, true, true, true, true, true] _;refine bD rfl ?_;exact And.intro rfl (Exists.intro _ (Exists.intro _ ⟨bb rfl, aB [0, 0, 0, 0] rfl, rfl, rfl, t46, rfl⟩))
     ·refine aV rfl (aj (i := 2) ag rfl rfl rfl rfl) ?_;show AI _ _ _ _ _ _ #[false, true, true, true, true, true, false, false, false, false, false] _;refine zk 6 rfl (cc (E := Enc.byte) ag (by kernel_rfl) rfl rfl g34 e36) ?_;show AI _ _ _ _ _ _ #[false, true, true, true, true, true, true, false, false, false, false] _;refine dA (i := 0) (j := 7) (by kernel_rfl) rfl rfl rfl rfl ?_ ?_
      ·refine aV rfl (aj (i := 1) ao rfl rfl rfl rfl) ?_;show AI _ _ _ _ _ _ #[true, true, true, true, true, true, true, false, false, false, false] _;refine aL (i := 7) (by kernel_rfl) rfl rfl <| bu [] rfl bN rfl (aP x35 none (dx g37)) rfl (fun c A' h => by obtain ⟨_, h, _⟩ := h; cases h) ?_
       rintro av A' ⟨t47, h, rfl⟩; cases h
       show AI _ _ _ _ _ _ #[true, true, true, true, true, true, true, true, false, false, false] _;refine zk 8 rfl (aw rfl) ?_;show AI _ _ _ _ _ _ #[true, true, true, true, true, true, true, true, true, false, false] _;refine zk 9 rfl (al (n := 0) (by kernel_rfl) rfl) ?_;show AI _ _ _ _ _ _ #[true, true, true, true, true, true, true, true, true, true, false] _;refine aL (i := 10) (by kernel_rfl) rfl rfl <| bI (ay (i := 3) (c := slE _ _ _) (by kernel_rfl) rfl rfl rfl rfl (ab rfl)) ?_;show AI _ _ _ _ _ _ #[true, true, true, true, true, true, true, true, true, true, true] _;refine bD rfl ?_;exact And.intro rfl (Exists.intro _ (Exists.intro _ ⟨bb rfl, aB [0, 0, 0, 0] rfl, rfl, rfl, t47, rfl⟩))
      ·refine bu [] rfl bN rfl (aP x35 none (dx g37)) rfl (fun c A' h => by obtain ⟨_, h, _⟩ := h; cases h) ?_
       rintro av A' ⟨t48, h, rfl⟩; cases h
       show AI _ _ _ _ _ _ #[false, true, true, true, true, true, true, true, false, false, false] _;refine aL (i := 0) (by kernel_rfl) rfl rfl <| aV rfl (aj (i := 2) ao rfl rfl rfl rfl) ?_;show AI _ _ _ _ _ _ #[true, true, true, true, true, true, true, true, false, false, false] _;refine zk 8 rfl (aw rfl) ?_;show AI _ _ _ _ _ _ #[true, true, true, true, true, true, true, true, true, false, false] _;refine zk 9 rfl (al (n := 0) (by kernel_rfl) rfl) ?_;show AI _ _ _ _ _ _ #[true, true, true, true, true, true, true, true, true, true, false] _;refine aL (i := 10) (by kernel_rfl) rfl rfl <| bI (ay (i := 3) (c := slE _ _ _) (by kernel_rfl) rfl rfl rfl rfl (ab rfl)) ?_;show AI _ _ _ _ _ _ #[true, true, true, true, true, true, true, true, true, true, true] _;refine bD rfl ?_;exact And.intro rfl (Exists.intro _ (Exists.intro _ ⟨bb rfl, aB [0, 0, 0, 0] rfl, rfl, rfl, t48, rfl⟩))
   ·refine aV rfl (aj (i := 0) aC rfl rfl rfl rfl) ?_;show AI _ _ _ _ _ _ #[false, false, false, false, false, true, false, false, false, false, false] _;refine dA (i := 0) (j := 1) (by kernel_rfl) rfl rfl rfl rfl ?_ ?_
    ·refine aV rfl (aj (i := 1) ao rfl rfl rfl rfl) ?_;show AI _ _ _ _ _ _ #[true, false, false, false, false, true, false, false, false, false, false] _;refine aL (i := 1) (by kernel_rfl) rfl rfl <| aV rfl (aj (i := 1) ao rfl rfl rfl rfl) ?_;show AI _ _ _ _ _ _ #[true, true, false, false, false, true, false, false, false, false, false] _;refine zk 2 rfl (aw rfl) ?_;show AI _ _ _ _ _ _ #[true, true, true, false, false, true, false, false, false, false, false] _;refine zk 3 rfl (al (n := 0) (by kernel_rfl) rfl) ?_;show AI _ _ _ _ _ _ #[true, true, true, true, false, true, false, false, false, false, false] _;refine aL (i := 4) (by kernel_rfl) rfl rfl <| aV rfl (aj (i := 2) ag rfl rfl rfl rfl) ?_;show AI _ _ _ _ _ _ #[true, true, true, true, true, true, false, false, false, false, false] _;refine zk 6 rfl (cc (E := Enc.byte) ag (by kernel_rfl) rfl rfl g34 e36) ?_;show AI _ _ _ _ _ _ #[true, true, true, true, true, true, true, false, false, false, false] _;refine aL (i := 7) (by kernel_rfl) rfl rfl <| bu [] rfl bN rfl (aP x35 none (dx g37)) rfl (fun c A' h => by obtain ⟨_, h, _⟩ := h; cases h) ?_
     rintro av A' ⟨t49, h, rfl⟩; cases h
     show AI _ _ _ _ _ _ #[true, true, true, true, true, true, true, true, false, false, false] _;refine zk 8 rfl (aw rfl) ?_;show AI _ _ _ _ _ _ #[true, true, true, true, true, true, true, true, true, false, false] _;refine zk 9 rfl (al (n := 0) (by kernel_rfl) rfl) ?_;show AI _ _ _ _ _ _ #[true, true, true, true, true, true, true, true, true, true, false] _;refine aL (i := 10) (by kernel_rfl) rfl rfl <| bI (ay (i := 3) (c := slE _ _ _) (by kernel_rfl) rfl rfl rfl rfl (ab rfl)) ?_;show AI _ _ _ _ _ _ #[true, true, true, true, true, true, true, true, true, true, true] _;refine bD rfl ?_;exact And.intro rfl (Exists.intro _ (Exists.intro _ ⟨bb rfl, aB [0, 0, 0, 0] rfl, rfl, rfl, t49, rfl⟩))
    ·refine aV rfl (aj (i := 1) ao rfl rfl rfl rfl) ?_;show AI _ _ _ _ _ _ #[false, true, false, false, false, true, false, false, false, false, false] _;refine zk 2 rfl (aw rfl) ?_;show AI _ _ _ _ _ _ #[false, true, true, false, false, true, false, false, false, false, false] _;refine zk 3 rfl (al (n := 0) (by kernel_rfl) rfl) ?_;show AI _ _ _ _ _ _ #[false, true, true, true, false, true, false, false, false, false, false] _;refine dA (i := 0) (j := 4) (by kernel_rfl) rfl rfl rfl rfl ?_ ?_
     ·refine aV rfl (aj (i := 1) ao rfl rfl rfl rfl) ?_;show AI _ _ _ _ _ _ #[true, true, true, true, false, true, false, false, false, false, false] _;refine aL (i := 4) (by kernel_rfl) rfl rfl <| aV rfl (aj (i := 2) ag rfl rfl rfl rfl) ?_;show AI _ _ _ _ _ _ #[true, true, true, true, true, true, false, false, false, false, false] _;refine zk 6 rfl (cc (E := Enc.byte) ag (by kernel_rfl) rfl rfl g34 e36) ?_;show AI _ _ _ _ _ _ #[true, true, true, true, true, true, true, false, false, false, false] _;refine aL (i := 7) (by kernel_rfl) rfl rfl <| bu [] rfl bN rfl (aP x35 none (dx g37)) rfl (fun c A' h => by obtain ⟨_, h, _⟩ := h; cases h) ?_
      rintro av A' ⟨t50, h, rfl⟩; cases h
      show AI _ _ _ _ _ _ #[true, true, true, true, true, true, true, true, false, false, false] _;refine zk 8 rfl (aw rfl) ?_;show AI _ _ _ _ _ _ #[true, true, true, true, true, true, true, true, true, false, false] _;refine zk 9 rfl (al (n := 0) (by kernel_rfl) rfl) ?_;show AI _ _ _ _ _ _ #[true, true, true, true, true, true, true, true, true, true, false] _;refine aL (i := 10) (by kernel_rfl) rfl rfl <| bI (ay (i := 3) (c := slE _ _ _) (by kernel_rfl) rfl rfl rfl rfl (ab rfl)) ?_;show AI _ _ _ _ _ _ #[true, true, true, true, true, true, true, true, true, true, true] _;refine bD rfl ?_;exact And.intro rfl (Exists.intro _ (Exists.intro _ ⟨bb rfl, aB [0, 0, 0, 0] rfl, rfl, rfl, t50, rfl⟩))
     ·refine aV rfl (aj (i := 2) ag rfl rfl rfl rfl) ?_;show AI _ _ _ _ _ _ #[false, true, true, true, true, true, false, false, false, false, false] _;refine zk 6 rfl (cc (E := Enc.byte) ag (by kernel_rfl) rfl rfl g34 e36) ?_;show AI _ _ _ _ _ _ #[false, true, true, true, true, true, true, false, false, false, false] _;refine dA (i := 0) (j := 7) (by kernel_rfl) rfl rfl rfl rfl ?_ ?_
      ·refine aV rfl (aj (i := 1) ao rfl rfl rfl rfl) ?_;show AI _ _ _ _ _ _ #[true, true, true, true, true, true, true, false, false, false, false] _;refine aL (i := 7) (by kernel_rfl) rfl rfl <| bu [] rfl bN rfl (aP x35 none (dx g37)) rfl (fun c A' h => by obtain ⟨_, h, _⟩ := h; cases h) ?_
       rintro av A' ⟨t51, h, rfl⟩; cases h
       show AI _ _ _ _ _ _ #[true, true, true, true, true, true, true, true, false, false, false] _;refine zk 8 rfl (aw rfl) ?_;show AI _ _ _ _ _ _ #[true, true, true, true, true, true, true, true, true, false, false] _;refine zk 9 rfl (al (n := 0) (by kernel_rfl) rfl) ?_;show AI _ _ _ _ _ _ #[true, true, true, true, true, true, true, true, true, true, false] _;refine aL (i := 10) (by kernel_rfl) rfl rfl <| bI (ay (i := 3) (c := slE _ _ _) (by kernel_rfl) rfl rfl rfl rfl (ab rfl)) ?_;show AI _ _ _ _ _ _ #[true, true, true, true, true, true, true, true, true, true, true] _;refine bD rfl ?_;exact And.intro rfl (Exists.intro _ (Exists.intro _ ⟨bb rfl, aB [0, 0, 0, 0] rfl, rfl, rfl, t51, rfl⟩))
      ·refine bu [] rfl bN rfl (aP x35 none (dx g37)) rfl (fun c A' h => by obtain ⟨_, h, _⟩ := h; cases h) ?_
       rintro av A' ⟨t52, h, rfl⟩; cases h
       show AI _ _ _ _ _ _ #[false, true, true, true, true, true, true, true, false, false, false] _;refine aL (i := 0) (by kernel_rfl) rfl rfl <| aV rfl (aj (i := 2) ao rfl rfl rfl rfl) ?_;show AI _ _ _ _ _ _ #[true, true, true, true, true, true, true, true, false, false, false] _;refine zk 8 rfl (aw rfl) ?_;show AI _ _ _ _ _ _ #[true, true, true, true, true, true, true, true, true, false, false] _;refine zk 9 rfl (al (n := 0) (by kernel_rfl) rfl) ?_;show AI _ _ _ _ _ _ #[true, true, true, true, true, true, true, true, true, true, false] _;refine aL (i := 10) (by kernel_rfl) rfl rfl <| bI (ay (i := 3) (c := slE _ _ _) (by kernel_rfl) rfl rfl rfl rfl (ab rfl)) ?_;show AI _ _ _ _ _ _ #[true, true, true, true, true, true, true, true, true, true, true] _;refine bD rfl ?_;exact And.intro rfl (Exists.intro _ (Exists.intro _ ⟨bb rfl, aB [0, 0, 0, 0] rfl, rfl, rfl, t52, rfl⟩))
  intro t38;show ALeaves _ _ _ _ _ [] .returning [.tok t38 5, .obj o24 [i64 x27], .obj o11 [.pt o1 0], .obj o1 [slE Enc.byte x35 (some t38), B a4], .obj o12 [slE (am Enc.int (am (Enc.sl Enc.str) (am Enc.int (am Enc.int Enc.int)))) x26 (some t33)], .tok t33 38, .tok t22 5];obtain ⟨rfl, rfl, rfl⟩ := iC H;exact Exists.intro _ (Exists.intro _ ⟨cS rfl ((CellV.one (c := slE _ _ _) 4 aH rfl rfl rfl rfl).oneW (.tok _ _ _)), aB [3, 0] rfl, rfl, t38, rfl⟩)
set_option maxRecDepth 100000 in
set_option maxHeartbeats 1000000 in
theorem ln (F : Nat) (a1 : List UInt8) (q2 : Option Nat) (r3 : List (Int × (List (List UInt8)) × Int × Int × Int)) (r4 : Int) (H : je F a1 = some (r3, r4)) : ACalls Tryd.prog 18 [slE Enc.byte a1 q2] [] (Ret (.tup [slE (am Enc.int (am (Enc.sl Enc.str) (am Enc.int (am Enc.int Enc.int)))) r3 none, i64 r4]) []) := by
 unfold je at H
 refine az Tryd.func18 rfl rfl ?_;show AW _ _ 18 _ _ _;refine af <| aa ?_;show AR _ _ _ _ _ [0, 1] _;refine za rfl <| za rfl <| ah <| af ?_;obtain ⟨_, e5, H⟩ := dn H;refine aa ?_;show AR _ _ _ _ _ [0, 1] _;refine aU rfl rfl (bH [] rfl en9_repa rfl (gX F e5) rfl (fun c A' h => by obtain ⟨_, h, _⟩ := h; cases h) ?_)
 rintro av A' ⟨o6, h, rfl⟩; cases h
 refine zS rfl (aI (av := .pt _ _) rfl) <| ah <| af ?_;obtain ⟨x8, x9, x10, e11, H⟩ := gw H;refine aa ?_;show AR _ _ _ _ _ [0, 1, 2, 3] _;refine zS rfl (aA (av := .pt _ _) rfl) <| zS rfl (aA (av := slE _ _ _) rfl) ?_
 refine AR.nil_objAt 0 0 1 5 rfl rfl fun t7 => ?_
 show AR _ _ _ _ _ _ ⟨_, _, [.tok t7 5, .obj o6 [slE Enc.byte [] (some t7), B false]]⟩;refine aU rfl rfl (bH [1, 0] rfl mP rfl (gW F o6 [] t7 false a1 q2 x8 x9 x10 e11) rfl (fun c A' h => by cases h.1) ?_)
 rintro av A' ⟨h, t12, rfl⟩; cases h
 refine zS rfl (aI (av := slE _ _ _) rfl) <| ah <| af <| af ?_;obtain ⟨x13, e14, H⟩ := dn H;obtain ⟨x16, e17, H⟩ := dc H;refine aa ?_;show AR _ _ _ _ _ [0, 1, 2, 3, 4, 5, 6] _;refine zS rfl (aA (av := .pt _ _) rfl) <| aU rfl rfl (bH [0, 0] rfl mO rfl (fA F o6 x9 t12 x10 x13 e14) rfl (fun c A' h => by cases h.1) ?_)
 rintro av A' ⟨h, rfl⟩; cases h
 refine zm rfl <| aD (l := []) 16 (B (x13 || (decide (0 < x16)))) (fun K => ?_) ?_
 ·rcases ac x13 with h15 | h15
  ·refine zF h15 rfl <| zF h15 rfl <| zF h15 rfl <| zS rfl (ap (av := .v _) rfl h15 rfl) ?_;exact K _ 3 _ (an (fg h15)) rfl rfl
  ·refine zU h15 rfl (aA (av := .pt _ _) rfl) <| zT h15 rfl (bH [0, 0] rfl mM rfl (eQ F o6 x9 t12 x10 x16 (e17 (nf h15))) rfl (fun c A' h => by cases h.1) ?_)
   rintro av A' ⟨h, rfl⟩; cases h
   refine zU h15 rfl (dS rfl rfl) <| zS rfl (aq (av := .v _) rfl h15 rfl) ?_;exact K _ 3 _ (an (fh h15)) rfl rfl
 refine ah <| ax rfl (fun c18 => ?_) (fun c18 => ?_)
 ·replace H := aZ c18 H;refine af <| aa ?_;show AR _ _ _ _ _ [0, 1] _;refine za rfl <| za rfl <| ah <| aK ?_;obtain ⟨rfl, rfl⟩ := eO H;exact And.intro rfl (Exists.intro _ (Exists.intro _ ⟨bk rfl (.nil _) (.refl _), aB [] rfl, rfl, rfl⟩))
 ·replace H := ba c18 H;refine aE <| af <| aa ?_;show AR _ _ _ _ _ [0, 1, 2] _;refine zS rfl (aA (av := slE _ _ _) rfl) <| zS rfl (aI (av := slE _ _ _) rfl) <| za rfl <| ah <| aK ?_;obtain ⟨rfl, rfl⟩ := eO H;exact And.intro rfl (Exists.intro _ (Exists.intro _ ⟨bk rfl (.refl _) (.refl _), aB [] rfl, rfl, rfl⟩))
end Go.Proofs.YtimpbfniegimaaaDoor
namespace Go.Pv
def dH (F : Nat) : Option Bool :=
bnd2 (je F ([50, 53, 48, 45, 97, 13, 10, 50, 53, 48, 32, 50, 46, 48, 46, 48, 32, 98, 13, 10] : List UInt8)) fun x3 x4 =>
bnd (fK F) fun _ =>
dQ ((decide (x4 = 0)) && (decide ((x3.length : Int) = 1))) (cq 0 x3.length) <|
lt (at_ x3 0) fun x12 =>
dQ (((decide (x4 = 0)) && (decide ((x3.length : Int) = 1))) && (decide (x12.1 = 250))) (cq 0 x3.length) <|
lt (at_ x3 0) fun x16 =>
dQ ((((decide (x4 = 0)) && (decide ((x3.length : Int) = 1))) && (decide (x12.1 = 250))) && (decide ((x16.2.1.length : Int) = 2))) (cq 0 x3.length) <|
lt (at_ x3 0) fun x20 =>
dQ (((((decide (x4 = 0)) && (decide ((x3.length : Int) = 1))) && (decide (x12.1 = 250))) && (decide ((x16.2.1.length : Int) = 2))) && ((x20.2.2.1 == 2) && ((x20.2.2.2.1 == 0) && ((x20.2.2.2.2 == 0) && true)))) (cq 0 x3.length) <|
lt (at_ x3 0) fun x24 =>
fj (((((decide (x4 = 0)) && (decide ((x3.length : Int) = 1))) && (decide (x12.1 = 250))) && (decide ((x16.2.1.length : Int) = 2))) && ((x20.2.2.1 == 2) && ((x20.2.2.2.1 == 0) && ((x20.2.2.2.2 == 0) && true)))) (kj F x24.1 x24.2.1 x24.2.2.1 x24.2.2.2.1 x24.2.2.2.2) fun x26 =>
fj (((((((decide (x4 = 0)) && (decide ((x3.length : Int) = 1))) && (decide (x12.1 = 250))) && (decide ((x16.2.1.length : Int) = 2))) && ((x20.2.2.1 == 2) && ((x20.2.2.2.1 == 0) && ((x20.2.2.2.2 == 0) && true)))) && x26) || false) (fe F [] false) fun x30 =>
some ((((((((decide (x4 = 0)) && (decide ((x3.length : Int) = 1))) && (decide (x12.1 = 250))) && (decide ((x16.2.1.length : Int) = 2))) && ((x20.2.2.1 == 2) && ((x20.2.2.2.1 == 0) && ((x20.2.2.2.2 == 0) && true)))) && x26) || false) && (!x30))
end Go.Pv
namespace Go.Proofs.YtimpbfniegimaaaDoor
open Go.RowKit Go.Av Go.Pv
theorem en9_repl : ∀ (args : Array Value) (w : World), (callFunc 9 args).run Tryd.prog w = .ok (.enter 9 args) w := fun _ _ => by kernel_rfl
theorem mN : ∀ (args : Array Value) (w : World), (callFunc 13 args).run Tryd.prog w = .ok (.enter 13 args) w := fun _ _ => by kernel_rfl
theorem mL : ∀ (args : Array Value) (w : World), (callFunc 18 args).run Tryd.prog w = .ok (.enter 18 args) w := fun _ _ => by kernel_rfl
theorem mK : ∀ (args : Array Value) (w : World), (callFunc 21 args).run Tryd.prog w = .ok (.enter 21 args) w := fun _ _ => by kernel_rfl
set_option maxRecDepth 100000 in
set_option maxHeartbeats 1000000 in
theorem jt (F : Nat) (r1 : Bool) (H : dH F = some r1) : ACalls Tryd.prog 8 [] [] (Ret (B r1) []) := by
 unfold dH at H
 refine az Tryd.func8 rfl rfl ?_;show AW _ _ 56 _ _ _;refine af <| aa ?_;show AR _ _ _ _ _ [0] _;refine za rfl <| ah <| af ?_;obtain ⟨x3, x4, e5, H⟩ := fJ H;refine aa ?_;show AR _ _ _ _ _ [0, 1, 2, 3, 4, 5, 6, 7] _;refine zX rfl (ly (E := Enc.byte) (bytes := 1) (xs := [.const _, .const _, .const _, .const _, .const _, .const _, .const _, .const _, .const _, .const _, .const _, .const _, .const _, .const _, .const _, .const _, .const _, .const _, .const _, .const _]) (l := ([50, 53, 48, 45, 97, 13, 10, 50, 53, 48, 32, 50, 46, 48, 46, 48, 32, 98, 13, 10] : List UInt8)) ag (by kernel_rfl) rfl rfl (by decide) rfl rfl) ?_;rintro _ _ ⟨t2, rfl, rfl⟩;refine zR rfl (jD 0 ag bh rfl (by simp) rfl) <| aU rfl rfl (aG rfl mL rfl (ln F ([50, 53, 48, 45, 97, 13, 10, 50, 53, 48, 32, 50, 46, 48, 46, 48, 32, 98, 13, 10] : List UInt8) (some t2) x3 x4 e5) ?_);refine zS rfl (aA (av := .tup _) rfl) <| zS rfl (aF (av := slE _ _ _) rfl rfl) <| zS rfl (aF (av := .v _) rfl rfl) <| zS rfl (aI (av := slE _ _ _) rfl) <| za rfl <| ah <| af ?_;obtain ⟨_, e6, H⟩ := dn H;refine aa ?_;show AR _ _ _ _ _ [0, 1] _;refine aU rfl rfl (bH [] rfl en9_repl rfl (gX F e6) rfl (fun c A' h => by obtain ⟨_, h, _⟩ := h; cases h) ?_)
 rintro av A' ⟨o7, h, rfl⟩; cases h
 refine zS rfl (aI (av := .pt _ _) rfl) ?_
 refine iA 0 0 1 5 rfl rfl fun t8 => ?_
 show AR _ _ _ _ _ _ ⟨_, _, [.obj o7 [slE Enc.byte [] (some t8), B false], .tok t8 5, .tok t2 5]⟩;refine ah <| af ?_;obtain ⟨g11, H⟩ := cO H;obtain ⟨x12, e13, H⟩ := cd H;obtain ⟨g15, H⟩ := cO H;obtain ⟨x16, e17, H⟩ := cd H;obtain ⟨g19, H⟩ := cO H;obtain ⟨x20, e21, H⟩ := cd H;obtain ⟨g23, H⟩ := cO H;obtain ⟨x24, e25, H⟩ := cd H;obtain ⟨x26, e27, H⟩ := dc H;obtain ⟨x30, e31, H⟩ := dc H;refine aa ?_;show AR _ _ _ _ _ [0, 1, 2, 3, 4, 5, 6, 7, 8, 9, 10, 11, 12, 13, 14, 15, 16, 17, 18, 19, 20, 21, 22, 23, 24, 25, 26, 27, 28, 29, 30, 31, 32, 33, 34, 35, 36, 37, 38, 39, 40, 41, 42, 43, 44, 45] _;refine zm rfl <| zS rfl (br rfl rfl) <| zm rfl <| aD (l := [7, 8, 9, 10, 11, 12, 13, 14, 15, 16, 17, 18, 19, 20, 21, 22, 23, 24, 25, 26, 27, 28, 29, 30, 31, 32, 33, 34, 35, 36, 37, 38, 39, 40, 41, 42, 43, 44, 45]) 17 (B ((decide (x4 = 0)) && (decide ((x3.length : Int) = 1)))) (fun K => ?_) ?_
 ·rcases ac (decide (x4 = 0)) with h9 | h9
  ·refine zU h9 rfl (aA (av := slE _ _ _) rfl) <| zU h9 rfl (aX aH rfl) <| zU h9 rfl (br rfl rfl) <| zS rfl (ap (av := .v _) rfl h9 rfl) ?_;exact K _ 3 _ (an (bx h9)) rfl rfl
  ·refine zF h9 rfl <| zF h9 rfl <| zF h9 rfl <| zS rfl (aq (av := .v _) rfl h9 rfl) ?_;exact K _ 3 _ (an (bz h9)) rfl rfl
 refine zm rfl <| aD (l := [14, 15, 16, 17, 18, 19, 20, 21, 22, 23, 24, 25, 26, 27, 28, 29, 30, 31, 32, 33, 34, 35, 36, 37, 38, 39, 40, 41, 42, 43, 44, 45]) 24 (B (((decide (x4 = 0)) && (decide ((x3.length : Int) = 1))) && (decide (x12.1 = 250)))) (fun K => ?_) ?_
 ·rcases ac ((decide (x4 = 0)) && (decide ((x3.length : Int) = 1))) with h10 | h10
  ·refine zU h10 rfl (aA (av := slE _ _ _) rfl) <| zU h10 rfl (cj (E := (am Enc.int (am (Enc.sl Enc.str) (am Enc.int (am Enc.int Enc.int))))) aH (by kernel_rfl) rfl rfl (g11 h10) e13) <| zU h10 rfl (aW (n := 0) (by kernel_rfl) rfl (ab rfl)) <| zU h10 rfl (bj aC rfl rfl) <| zU h10 rfl (br rfl rfl) <| zS rfl (ap (av := .v _) rfl h10 rfl) ?_;exact K _ 5 _ (an (bx h10)) rfl rfl
  ·refine zF h10 rfl <| zF h10 rfl <| zF h10 rfl <| zF h10 rfl <| zF h10 rfl <| zS rfl (aq (av := .v _) rfl h10 rfl) ?_;exact K _ 5 _ (an (bz h10)) rfl rfl
 refine zm rfl <| aD (l := [22, 23, 24, 25, 26, 27, 28, 29, 30, 31, 32, 33, 34, 35, 36, 37, 38, 39, 40, 41, 42, 43, 44, 45]) 32 (B ((((decide (x4 = 0)) && (decide ((x3.length : Int) = 1))) && (decide (x12.1 = 250))) && (decide ((x16.2.1.length : Int) = 2)))) (fun K => ?_) ?_
 ·rcases ac (((decide (x4 = 0)) && (decide ((x3.length : Int) = 1))) && (decide (x12.1 = 250))) with h14 | h14
  ·refine zU h14 rfl (aA (av := slE _ _ _) rfl) <| zU h14 rfl (cj (E := (am Enc.int (am (Enc.sl Enc.str) (am Enc.int (am Enc.int Enc.int))))) aH (by kernel_rfl) rfl rfl (g15 h14) e17) <| zU h14 rfl (aW (n := 1) (by kernel_rfl) rfl (ab rfl)) <| zU h14 rfl (bj ar rfl rfl) <| zU h14 rfl (aX ar rfl) <| zU h14 rfl (br rfl rfl) <| zS rfl (ap (av := .v _) rfl h14 rfl) ?_;exact K _ 6 _ (an (bx h14)) rfl rfl
  ·refine zF h14 rfl <| zF h14 rfl <| zF h14 rfl <| zF h14 rfl <| zF h14 rfl <| zF h14 rfl <| zS rfl (aq (av := .v _) rfl h14 rfl) ?_;exact K _ 6 _ (an (bz h14)) rfl rfl
 refine zm rfl <| aD (l := [30, 31, 32, 33, 34, 35, 36, 37, 38, 39, 40, 41, 42, 43, 44, 45]) 40 (B (((((decide (x4 = 0)) && (decide ((x3.length : Int) = 1))) && (decide (x12.1 = 250))) && (decide ((x16.2.1.length : Int) = 2))) && ((x20.2.2.1 == 2) && ((x20.2.2.2.1 == 0) && ((x20.2.2.2.2 == 0) && true))))) (fun K => ?_) ?_
 ·rcases ac ((((decide (x4 = 0)) && (decide ((x3.length : Int) = 1))) && (decide (x12.1 = 250))) && (decide ((x16.2.1.length : Int) = 2))) with h18 | h18
  ·refine zU h18 rfl (aA (av := slE _ _ _) rfl) <| zU h18 rfl (cj (E := (am Enc.int (am (Enc.sl Enc.str) (am Enc.int (am Enc.int Enc.int))))) aH (by kernel_rfl) rfl rfl (g19 h18) e21) <| zU h18 rfl (aW (n := 2) (by kernel_rfl) rfl (ab rfl)) <| zU h18 rfl (da aO rfl (n := 3) (by kernel_rfl) rfl (ab rfl)) <| zU h18 rfl (lE (zs := [.int .i64 0, .int .i64 0, .int .i64 0]) (k := 1) (cs := [i64 2, i64 0, i64 0]) aO (by kernel_rfl) (by kernel_rfl) rfl rfl (by kernel_rfl)) <| zU h18 rfl (iZ (r := (x20.2.2.1 == 2) && ((x20.2.2.2.1 == 0) && ((x20.2.2.2.2 == 0) && true))) (.inl rfl) aO aC rfl (by kernel_rfl) (by kernel_rfl) rfl rfl rfl rfl) <| zS rfl (ap (av := .v _) rfl h18 rfl) ?_;exact K _ 6 _ (an (bx h18)) rfl rfl
  ·refine zF h18 rfl <| zF h18 rfl <| zF h18 rfl <| zF h18 rfl <| zF h18 rfl <| zF h18 rfl <| zS rfl (aq (av := .v _) rfl h18 rfl) ?_;exact K _ 6 _ (an (bz h18)) rfl rfl
 refine zm rfl <| aD (l := [36, 37, 38, 39, 40, 41, 42, 43, 44, 45]) 46 (B ((((((decide (x4 = 0)) && (decide ((x3.length : Int) = 1))) && (decide (x12.1 = 250))) && (decide ((x16.2.1.length : Int) = 2))) && ((x20.2.2.1 == 2) && ((x20.2.2.2.1 == 0) && ((x20.2.2.2.2 == 0) && true)))) && x26)) (fun K => ?_) ?_
 ·rcases ac (((((decide (x4 = 0)) && (decide ((x3.length : Int) = 1))) && (decide (x12.1 = 250))) && (decide ((x16.2.1.length : Int) = 2))) && ((x20.2.2.1 == 2) && ((x20.2.2.2.1 == 0) && ((x20.2.2.2.2 == 0) && true)))) with h22 | h22
  ·refine zU h22 rfl (aA (av := slE _ _ _) rfl) <| zU h22 rfl (cj (E := (am Enc.int (am (Enc.sl Enc.str) (am Enc.int (am Enc.int Enc.int))))) aH (by kernel_rfl) rfl rfl (g23 h22) e25) <| zU h22 rfl (da Tryd.underlying38 rfl (n := 5) (by kernel_rfl) rfl (ab rfl)) <| zT h22 rfl (aG rfl mK rfl (mj F x24.1 x24.2.1 x24.2.2.1 x24.2.2.2.1 x24.2.2.2.2 x26 (e27 h22)) ?_);refine zS rfl (ap (av := .v _) rfl h22 rfl) ?_;exact K _ 4 _ (an (bx h22)) rfl rfl
  ·refine zF h22 rfl <| zF h22 rfl <| zF h22 rfl <| zF h22 rfl <| zS rfl (aq (av := .v _) rfl h22 rfl) ?_;exact K _ 4 _ (an (bz h22)) rfl rfl
 refine zm rfl <| aD (l := [40, 41, 42, 43, 44, 45]) 50 (B (((((((decide (x4 = 0)) && (decide ((x3.length : Int) = 1))) && (decide (x12.1 = 250))) && (decide ((x16.2.1.length : Int) = 2))) && ((x20.2.2.1 == 2) && ((x20.2.2.2.1 == 0) && ((x20.2.2.2.2 == 0) && true)))) && x26) || false)) (fun K => ?_) ?_
 ·rcases ac ((((((decide (x4 = 0)) && (decide ((x3.length : Int) = 1))) && (decide (x12.1 = 250))) && (decide ((x16.2.1.length : Int) = 2))) && ((x20.2.2.1 == 2) && ((x20.2.2.2.1 == 0) && ((x20.2.2.2.2 == 0) && true)))) && x26) with h28 | h28
  ·refine zU h28 rfl (aA (av := .pt _ _) rfl) <| zU h28 rfl (ka ao rfl rfl) <| zS rfl (ap (av := .v _) rfl h28 rfl) ?_;exact K _ 2 _ (an (fg h28)) rfl rfl
  ·refine zF h28 rfl <| zF h28 rfl <| zS rfl (aq (av := .v _) rfl h28 rfl) ?_;exact K _ 2 _ (an (fh h28)) rfl rfl
 refine zm rfl <| aD (l := [45]) 55 (B ((((((((decide (x4 = 0)) && (decide ((x3.length : Int) = 1))) && (decide (x12.1 = 250))) && (decide ((x16.2.1.length : Int) = 2))) && ((x20.2.2.1 == 2) && ((x20.2.2.2.1 == 0) && ((x20.2.2.2.2 == 0) && true)))) && x26) || false) && (!x30))) (fun K => ?_) ?_
 ·rcases ac (((((((decide (x4 = 0)) && (decide ((x3.length : Int) = 1))) && (decide (x12.1 = 250))) && (decide ((x16.2.1.length : Int) = 2))) && ((x20.2.2.1 == 2) && ((x20.2.2.2.1 == 0) && ((x20.2.2.2.2 == 0) && true)))) && x26) || false) with h29 | h29
  ·refine zU h29 rfl (aA (av := .pt _ _) rfl) <| zT h29 rfl (bH [0, 0] rfl mN rfl (fA F o7 [] t8 false x30 (e31 h29)) rfl (fun c A' h => by cases h.1) ?_)
   rintro av A' ⟨h, rfl⟩; cases h
   refine zU h29 rfl (dy rfl) <| zS rfl (ap (av := .v _) rfl h29 rfl) ?_;exact K _ 3 _ (an (bx h29)) rfl rfl
  ·refine zF h29 rfl <| zF h29 rfl <| zF h29 rfl <| zS rfl (aq (av := .v _) rfl h29 rfl) ?_;exact K _ 3 _ (an (bz h29)) rfl rfl
 refine za rfl <| ah <| aK ?_;obtain rfl := ak H;exact And.intro rfl (Exists.intro _ (Exists.intro _ ⟨aJ rfl (.refl _), aB [] rfl, rfl, rfl⟩))
end Go.Proofs.YtimpbfniegimaaaDoor
namespace Go.Pv
def cQ (F : Nat) (a1 : List UInt8) (a3 : List UInt8) : Option Bool :=
bnd (dH F) fun x6 =>
bif ((!x6) || (decide (1000 < (a1.length : Int)))) || (decide (1000 < (a3.length : Int))) then
  some x6
else
  bnd (gJ F) fun x11 =>
  fj (!(!x11)) (fD F) fun x14 =>
  fj (!((!x11) || (!decide (x14 = 0)))) (gI F a1) fun x17 =>
  bif ((!x11) || (!decide (x14 = 0))) || (!decide ((x17.length : Int) = 0)) then
    some false
  else
    bnd (fK F) fun _ =>
    bnd3 (eB F [] false a1) fun x23 x24 x25 =>
    bnd (fe F x24 x25) fun x28 =>
    bif !x28 then
      bnd (ek F x24 x25) fun x31 =>
      some (decide (x31 ≤ (a1.length : Int)))
    else
      bnd (ek F x24 x25) fun x33 =>
      grd (decide (x33 = 0)) <|
      bnd3 (eB F x24 x25 a3) fun x36 x37 x38 =>
      fj (decide ((x36.length : Int) = 0)) (fe F x37 x38) fun x42 =>
      fj ((decide ((x36.length : Int) = 0)) && x42) (ek F x37 x38) fun x45 =>
      some (((decide ((x36.length : Int) = 0)) && x42) && (decide (x45 = 0)))
end Go.Pv
namespace Go.Proofs.YtimpbfniegimaaaDoor
open Go.RowKit Go.Av Go.Pv
theorem jH : ∀ (args : Array Value) (w : World), (callFunc 8 args).run Tryd.prog w = .ok (.enter 8 args) w := fun _ _ => by kernel_rfl
theorem jG : ∀ (args : Array Value) (w : World), (callFunc 9 args).run Tryd.prog w = .ok (.enter 9 args) w := fun _ _ => by kernel_rfl
theorem ee : ∀ (args : Array Value) (w : World), (callFunc 10 args).run Tryd.prog w = .ok (.enter 10 args) w := fun _ _ => by kernel_rfl
theorem ec : ∀ (args : Array Value) (w : World), (callFunc 13 args).run Tryd.prog w = .ok (.enter 13 args) w := fun _ _ => by kernel_rfl
theorem dq : ∀ (args : Array Value) (w : World), (callFunc 14 args).run Tryd.prog w = .ok (.enter 14 args) w := fun _ _ => by kernel_rfl
set_option maxRecDepth 100000 in
set_option maxHeartbeats 1000000 in
theorem gR (F : Nat) (a1 : List UInt8) (q2 : Option Nat) (a3 : List UInt8) (q4 : Option Nat) (r5 : Bool) (H : cQ F a1 a3 = some r5) : ACalls Tryd.prog 4 [slE Enc.byte a1 q2, slE Enc.byte a3 q4] [] (Ret (B r5) []) := by
 unfold cQ at H
 refine az Tryd.func4 rfl rfl ?_;show AW _ _ 68 _ _ _;refine af <| aa ?_;show AR _ _ _ _ _ [0] _;refine za rfl <| ah <| af ?_;obtain ⟨x6, e7, H⟩ := dn H;refine aa ?_;show AR _ _ _ _ _ [0, 1] _;refine aU rfl rfl (aG rfl jH rfl (jt F x6 e7) ?_);refine za rfl <| ah <| af <| af <| aa ?_;show AR _ _ _ _ _ [0, 1, 2, 3, 4, 5, 6, 7, 8, 9, 10, 11] _;refine zm rfl <| zS rfl (dy rfl) <| zm rfl <| aD (l := [7, 8, 9, 10, 11]) 15 (B ((!x6) || (decide (1000 < (a1.length : Int))))) (fun K => ?_) ?_
 ·rcases ac (!x6) with h8 | h8
  ·refine zF h8 rfl <| zF h8 rfl <| zF h8 rfl <| zS rfl (ap (av := .v _) rfl h8 rfl) ?_;exact K _ 3 _ (an (fg h8)) rfl rfl
  ·refine zU h8 rfl (aA (av := slE _ _ _) rfl) <| zU h8 rfl (aX ag rfl) <| zU h8 rfl (dS rfl rfl) <| zS rfl (aq (av := .v _) rfl h8 rfl) ?_;exact K _ 3 _ (an (fh h8)) rfl rfl
 refine zm rfl <| aD (l := []) 20 (B (((!x6) || (decide (1000 < (a1.length : Int)))) || (decide (1000 < (a3.length : Int))))) (fun K => ?_) ?_
 ·rcases ac ((!x6) || (decide (1000 < (a1.length : Int)))) with h9 | h9
  ·refine zF h9 rfl <| zF h9 rfl <| zF h9 rfl <| zS rfl (ap (av := .v _) rfl h9 rfl) ?_;exact K _ 3 _ (an (fg h9)) rfl rfl
  ·refine zU h9 rfl (aA (av := slE _ _ _) rfl) <| zU h9 rfl (aX ag rfl) <| zU h9 rfl (dS rfl rfl) <| zS rfl (aq (av := .v _) rfl h9 rfl) ?_;exact K _ 3 _ (an (fh h9)) rfl rfl
 refine ah <| ax rfl (fun c10 => ?_) (fun c10 => ?_)
 ·replace H := aZ c10 H;refine af <| aa ?_;show AR _ _ _ _ _ [0, 1] _;refine zm rfl <| za rfl <| ah <| aK ?_;obtain rfl := ak H;exact And.intro rfl (Exists.intro _ (Exists.intro _ ⟨aJ rfl (.refl _), aB [] rfl, rfl, rfl⟩))
 ·replace H := ba c10 H;refine aE <| af <| aa ?_;show AR _ _ _ _ _ [0] _;refine za rfl <| ah <| af <| af ?_;obtain ⟨x11, e12, H⟩ := dn H;obtain ⟨x14, e15, H⟩ := dc H;obtain ⟨x17, e18, H⟩ := dc H;refine aa ?_;show AR _ _ _ _ _ [0, 1, 2, 3, 4, 5, 6, 7, 8, 9, 10, 11, 12, 13, 14] _;refine zm rfl <| aU rfl rfl (aG rfl ec rfl (lr F x11 e12) ?_);refine zS rfl (dy rfl) <| zm rfl <| aD (l := [8, 9, 10, 11, 12, 13, 14]) 29 (B ((!x11) || (!decide (x14 = 0)))) (fun K => ?_) ?_
  ·rcases ac (!x11) with h13 | h13
   ·refine zF h13 rfl <| zF h13 rfl <| zF h13 rfl <| zS rfl (ap (av := .v _) rfl h13 rfl) ?_;exact K _ 3 _ (an (fg h13)) rfl rfl
   ·refine zM h13 rfl <| zT h13 rfl (aG rfl dq rfl (kx F x14 (e15 (nf h13))) ?_);refine zU h13 rfl (fL rfl rfl) <| zS rfl (aq (av := .v _) rfl h13 rfl) ?_;exact K _ 3 _ (an (fh h13)) rfl rfl
  refine zm rfl <| aD (l := []) 36 (B (((!x11) || (!decide (x14 = 0))) || (!decide ((x17.length : Int) = 0)))) (fun K => ?_) ?_
  ·rcases ac ((!x11) || (!decide (x14 = 0))) with h16 | h16
   ·refine zF h16 rfl <| zF h16 rfl <| zF h16 rfl <| zF h16 rfl <| zF h16 rfl <| zS rfl (ap (av := .v _) rfl h16 rfl) ?_;exact K _ 5 _ (an (fg h16)) rfl rfl
   ·refine zM h16 rfl <| zU h16 rfl (aA (av := slE _ _ _) rfl) <| zT h16 rfl (aG rfl ee rfl (lq F a1 q2 x17 (e18 (nf h16))) ?_);refine zU h16 rfl (aX aH rfl) <| zU h16 rfl (fL rfl rfl) <| zS rfl (aq (av := .v _) rfl h16 rfl) ?_;exact K _ 5 _ (an (fh h16)) rfl rfl
  refine ah <| ax rfl (fun c19 => ?_) (fun c19 => ?_)
  ·replace H := aZ c19 H;refine af <| aa ?_;show AR _ _ _ _ _ [0] _;refine za rfl <| ah <| aK ?_;obtain rfl := ak H;exact And.intro rfl (Exists.intro _ (Exists.intro _ ⟨aJ rfl (.refl _), aB [] rfl, rfl, rfl⟩))
  ·replace H := ba c19 H;refine aE <| af ?_;obtain ⟨_, e20, H⟩ := dn H;refine aa ?_;show AR _ _ _ _ _ [0, 1] _;refine aU rfl rfl (bH [] rfl jG rfl (gX F e20) rfl (fun c A' h => by obtain ⟨_, h, _⟩ := h; cases h) ?_)
   rintro av A' ⟨o21, h, rfl⟩; cases h
   refine zS rfl (aI (av := .pt _ _) rfl) <| ah <| af ?_;obtain ⟨x23, x24, x25, e26, H⟩ := gw H;refine aa ?_;show AR _ _ _ _ _ [0, 1, 2] _;refine zS rfl (aA (av := .pt _ _) rfl) <| zS rfl (aA (av := slE _ _ _) rfl) ?_
   refine AR.nil_objAt 0 0 1 5 rfl rfl fun t22 => ?_
   show AR _ _ _ _ _ _ ⟨_, _, [.tok t22 5, .obj o21 [slE Enc.byte [] (some t22), B false]]⟩;refine aU rfl rfl (bH [1, 0] rfl ee rfl (gW F o21 [] t22 false a1 q2 x23 x24 x25 e26) rfl (fun c A' h => by cases h.1) ?_)
   rintro av A' ⟨h, t27, rfl⟩; cases h
   refine ah <| af <| af ?_;obtain ⟨x28, e29, H⟩ := dn H;refine aa ?_;show AR _ _ _ _ _ [0, 1, 2] _;refine zS rfl (aA (av := .pt _ _) rfl) <| aU rfl rfl (bH [0, 0] rfl ec rfl (fA F o21 x24 t27 x25 x28 e29) rfl (fun c A' h => by cases h.1) ?_)
   rintro av A' ⟨h, rfl⟩; cases h
   refine zS rfl (dy rfl) <| ah <| ax rfl (fun c30 => ?_) (fun c30 => ?_)
   ·replace H := aZ c30 H;refine af ?_;obtain ⟨x31, e32, H⟩ := dn H;refine aa ?_;show AR _ _ _ _ _ [0, 1, 2, 3, 4, 5] _;refine zS rfl (aA (av := .pt _ _) rfl) <| aU rfl rfl (bH [0, 0] rfl dq rfl (eQ F o21 x24 t27 x25 x31 e32) rfl (fun c A' h => by cases h.1) ?_)
    rintro av A' ⟨h, rfl⟩; cases h
    refine zS rfl (aA (av := slE _ _ _) rfl) <| zS rfl (aX ag rfl) <| zS rfl (cX rfl rfl) <| za rfl <| ah <| aK ?_;obtain rfl := ak H;exact And.intro rfl (Exists.intro _ (Exists.intro _ ⟨aJ rfl (.refl _), aB [] rfl, rfl, rfl⟩))
   ·replace H := ba c30 H;refine aE <| af ?_;obtain ⟨x33, e34, H⟩ := dn H;obtain ⟨g35, H⟩ := aR H;obtain ⟨x36, x37, x38, e39, H⟩ := gw H;obtain ⟨x42, e43, H⟩ := dc H;obtain ⟨x45, e46, H⟩ := dc H;refine aa ?_;show AR _ _ _ _ _ [0, 1, 2, 3, 4, 5, 6, 7, 8, 9, 10, 11, 12, 13, 14, 15, 16, 17, 18, 19] _;refine zS rfl (aA (av := .pt _ _) rfl) <| aU rfl rfl (bH [0, 0] rfl dq rfl (eQ F o21 x24 t27 x25 x33 e34) rfl (fun c A' h => by cases h.1) ?_)
    rintro av A' ⟨h, rfl⟩; cases h
    refine zS rfl (br rfl rfl) <| zm rfl <| zU g35 rfl (aA (av := .pt _ _) rfl) <| zU g35 rfl (aA (av := slE _ _ _) rfl) <| zT g35 rfl (bH [0, 0] rfl ee rfl (gW F o21 x24 t27 x25 a3 q4 x36 x37 x38 e39) rfl (fun c A' h => by cases h.1) ?_)
    rintro av A' ⟨h, t40, rfl⟩; cases h
    refine zU g35 rfl (aX aH rfl) <| zU g35 rfl (br rfl rfl) <| zS rfl (ap (av := .v _) rfl g35 rfl) <| zm rfl <| aD (l := [14, 15, 16, 17, 18, 19]) 62 (B ((decide ((x36.length : Int) = 0)) && x42)) (fun K => ?_) ?_
    ·rcases ac (decide ((x36.length : Int) = 0)) with h41 | h41
     ·refine zU h41 rfl (aA (av := .pt _ _) rfl) <| zT h41 rfl (bH [0, 0] rfl ec rfl (fA F o21 x37 t40 x38 x42 (e43 h41)) rfl (fun c A' h => by cases h.1) ?_)
      rintro av A' ⟨h, rfl⟩; cases h
      refine zS rfl (ap (av := .v _) rfl h41 rfl) ?_;exact K _ 2 _ (an (bx h41)) rfl rfl
     ·refine zF h41 rfl <| zF h41 rfl <| zS rfl (aq (av := .v _) rfl h41 rfl) ?_;exact K _ 2 _ (an (bz h41)) rfl rfl
    refine zm rfl <| aD (l := [19]) 67 (B (((decide ((x36.length : Int) = 0)) && x42) && (decide (x45 = 0)))) (fun K => ?_) ?_
    ·rcases ac ((decide ((x36.length : Int) = 0)) && x42) with h44 | h44
     ·refine zU h44 rfl (aA (av := .pt _ _) rfl) <| zT h44 rfl (bH [0, 0] rfl dq rfl (eQ F o21 x37 t40 x38 x45 (e46 h44)) rfl (fun c A' h => by cases h.1) ?_)
      rintro av A' ⟨h, rfl⟩; cases h
      refine zU h44 rfl (br rfl rfl) <| zS rfl (ap (av := .v _) rfl h44 rfl) ?_;exact K _ 3 _ (an (bx h44)) rfl rfl
     ·refine zF h44 rfl <| zF h44 rfl <| zF h44 rfl <| zS rfl (aq (av := .v _) rfl h44 rfl) ?_;exact K _ 3 _ (an (bz h44)) rfl rfl
    refine za rfl <| ah <| aK ?_;obtain rfl := ak H;exact And.intro rfl (Exists.intro _ (Exists.intro _ ⟨aJ rfl (.refl _), aB [] rfl, rfl, rfl⟩))
end Go.Proofs.YtimpbfniegimaaaDoor
namespace Go.Dg
open Go.Pv Go.Av
open Go.Lib (decDigits)
abbrev Bs := List UInt8
theorem cN {n : Nat} (h : n < 10) : decDigits n = [UInt8.ofNat (48 + n)] := by rw [decDigits, dif_pos h]
theorem dT {n : Nat} (h : ¬ n < 10) : decDigits n = decDigits (n / 10) ++ [UInt8.ofNat (48 + n % 10)] := by rw [decDigits, dif_neg h]
theorem eM (n : Nat) : Go.Lib.itoa (n : Int) = decDigits n := by
  unfold Go.Lib.itoa
  rw [if_neg (by omega), Int.toNat_natCast]
theorem dY (k : Nat) (h : k < 10) : (UInt8.ofNat (48 + k)).toNat = 48 + k := by
  have : ∀ k : Fin 10, (UInt8.ofNat (48 + k.val)).toNat = 48 + k.val := by decide +kernel
  exact this ⟨k, h⟩
def Dig (c : UInt8) : Prop := 48 ≤ c.toNat ∧ c.toNat ≤ 57
theorem dd_dig : ∀ (m n : Nat), n < m → ∀ c ∈ decDigits n, Dig c := by
  intro m
  induction m with
  | zero => intro n h; omega
  | succ m ih =>
    intro n h c hc
    by_cases hn : n < 10
    · rw [cN hn] at hc
      rw [List.mem_singleton.1 hc]; unfold Dig; rw [dY n hn]; omega
    · rw [dT hn] at hc
      rcases List.mem_append.1 hc with hc | hc
      · exact ih (n / 10) (by omega) c hc
      · rw [List.mem_singleton.1 hc]; unfold Dig; rw [dY _ (by omega)]; omega
theorem iL (n : Nat) : ∀ c ∈ decDigits n, Dig c := dd_dig (n + 1) n (by omega)
theorem ku : ∀ (m n : Nat), n < 10 ^ m → (decDigits n).length ≤ m + 1 := by
  intro m
  induction m with
  | zero => intro n h; rw [cN (by omega)]; simp
  | succ m ih =>
    intro n h
    by_cases hn : n < 10
    · rw [cN hn]; simp
    · have h10 : n / 10 < 10 ^ m := by rw [Nat.pow_succ] at h; omega
      rw [dT hn, List.length_append]
      have := ih _ h10
      simp; omega
theorem jm (n : Nat) : 1 ≤ (decDigits n).length := by
  by_cases hn : n < 10
  · rw [cN hn]; simp
  · rw [dT hn]; simp
def val (v : Nat) : Bs → Nat
  | [] => v
  | c :: r => val (10 * v + (c.toNat - 48)) r
theorem lU : ∀ (a b : Bs) (v : Nat), val v (a ++ b) = val (val v a) b
  | [], b, v => rfl
  | c :: r, b, v => lU r b _
theorem val_dd : ∀ (m n : Nat), n < m → val 0 (decDigits n) = n := by
  intro m
  induction m with
  | zero => intro n h; omega
  | succ m ih =>
    intro n h
    by_cases hn : n < 10
    · rw [cN hn]; show 10 * 0 + ((UInt8.ofNat (48 + n)).toNat - 48) = n; rw [dY n hn]; omega
    · rw [dT hn, lU, ih (n / 10) (by omega)]
      show 10 * (n / 10) + ((UInt8.ofNat (48 + n % 10)).toNat - 48) = n
      rw [dY _ (by omega)]; omega
theorem kh (n : Nat) : val 0 (decDigits n) = n := val_dd (n + 1) n (by omega)
end Go.Dg
namespace Go.Dg
open Go.Pv Go.Av
open Go.Lib (decDigits)
theorem iq (x : Bool) : (true && x) = x := Eq.symm (Eq.symm rfl)
theorem gG (x : Bool) : (false && x) = false := Eq.symm (Eq.symm rfl)
theorem fo (x : Bool) : (false || x) = x := Eq.symm (Eq.symm rfl)
theorem nfl : (!false) = true := Eq.symm (Eq.symm rfl)
theorem ntr : (!true) = false := Eq.symm (Eq.symm rfl)
theorem cfl {α : Type} (a b : α) : (bif false then a else b) = b := Eq.symm (Eq.symm rfl)
theorem ctr {α : Type} (a b : α) : (bif true then a else b) = a := Eq.symm (Eq.symm rfl)
def Tot (o : Option (Int × Int)) : Prop := ∃ x k, o = some (x, k) ∧ (k = 0 ∨ k = 1 ∨ k = 2)
theorem Tot.z (x : Int) : Tot (some (x, 0)) := ⟨x, 0, rfl, .inl rfl⟩
theorem Tot.o (x : Int) : Tot (some (x, 1)) := ⟨x, 1, rfl, .inr (.inl rfl)⟩
theorem Tot.t (x : Int) : Tot (some (x, 2)) := ⟨x, 2, rfl, .inr (.inr rfl)⟩
theorem cP {c : Bool} {a b : Option (Int × Int)} (ha : Tot a) (hb : Tot b) : Tot (bif c then a else b) := by cases c <;> assumption
theorem tot_bndc {c : Bool} {v : UInt8} {f : UInt8 → Option (Int × Int)} (h : ∀ x, Tot (f x)) : Tot (fj c (some v) f) := by
  cases c
  · exact h _
  · exact h _
theorem j3_tot (y17 : Int) (y23 y24 : Int) (rec : (Bool × Int × Int) → Option (Int × Int)) (y43 : UInt8) (h : ∀ v, Tot (rec (false, v, y24 + 1))) (hb : -9223372036854775808 ≤ y24 + 1 ∧ y24 + 1 ≤ 9223372036854775807) :
    Tot (bQ 10 y17 false y23 y24 rec y43) := by
  unfold bQ ce
  refine cP (.t _) (cP (.o _) (cP (.o _) ?_))
  rw [dm hb]
  exact h _
theorem mm (F : Nat) (s : Bs) (c : Int) (hs : s.length ≤ 1000) : ∀ (n i : Nat) (v : Int), s.length - i < n → i ≤ s.length → Tot (bo F s 10 c n (false, v, (i : Int))) := by
  intro n
  induction n with
  | zero => intro i v h; omega
  | succ n ih =>
    intro i v hn hi;show Tot (cH F s 10 c (bo F s 10 c n) false v (i : Int))
    unfold cH
    by_cases h : i < s.length
    · have e : ((i : Int) + 1) = ((i + 1 : Nat) : Int) := by omega
      have hr : ∀ v, Tot (bo F s 10 c n (false, v, (i : Int) + 1)) := fun v => by rw [e]; exact ih (i + 1) v (by omega) (by omega)
      have h10 : decide ((10 : Int) = 0) = false := by decide
      rw [bT (by omega), cr (by omega), bC, h10, Bool.and_false, cfl]
      refine cP (j3_tot _ _ _ _ _ hr (by omega)) ?_
      unfold cM
      rw [cw]
      refine tot_bndc fun x38 => cP ?_ (.t _)
      rw [cw]
      exact j3_tot _ _ _ _ _ hr (by omega)
    · rw [bF (by omega)]
      unfold cG
      rw [bndc_f, gG, cfl]
      exact .z _
theorem uint_tot (F : Nat) (s : Bs) (hs : s.length ≤ 1000) (hF : s.length < F) : Tot (dt F s 10 0) := by
  unfold dt
  refine cP (.t _) ?_
  have h1 : ((decide ((2 : Int) ≤ 10)) && (decide ((10 : Int) ≤ 36))) = true := by decide
  rw [h1, grd_t]
  unfold cE cF
  rw [grd_D rfl, bT rfl]
  unfold bP
  have h2 : decide (0 ≤ IntKind.u64.wrap 64) = true := by decide +kernel
  rw [h2, grd_t, dX (by omega)]
  exact mm F s _ hs F 0 0 (by omega) (by omega)
theorem lB (b : Bool) (x : Int) : Tot (cf b x) := by
  unfold cf cg
  have h2 : decide (0 ≤ IntKind.u64.wrap 63) = true := by decide +kernel
  rw [h2, grd_t]
  exact cP (.o _) (cP (.o _) (cP (.z _) (.z _)))
theorem gi (F : Nat) (s : Bs) (b : Bool) (hs : s.length ≤ 1000) (hF : s.length < F) : Tot (bE F 10 0 s b) := by
  unfold bE
  obtain ⟨x, k, e, hk⟩ := uint_tot F s hs hF
  rw [e, cu]
  by_cases h2 : k = 2
  · subst h2
    have : ((!decide ((2 : Int) = 0)) && (!decide ((2 : Int) = 1))) = true := by decide
    rw [this, ctr]
    exact .t _
  · have : ((!decide (k = 0)) && (!decide (k = 1))) = false := by
      rcases hk with rfl | rfl | rfl
      · decide
      · decide
      · exact absurd rfl h2
    rw [this, cfl, grd_D rfl]
    exact lB _ _
theorem int_tot (F : Nat) (s : Bs) (hs : s.length ≤ 1000) (hF : s.length < F) : Tot (du F s 10 0) := by
  unfold du
  by_cases h : s = []
  · rw [bT h]; exact .t _
  · have hp : 0 < s.length := List.length_pos_iff.2 h
    have hf : (de s 1).length ≤ s.length := by unfold de; simp
    rw [bF h, cr (by omega), bC]
    refine cP ?_ (cP ?_ (gi F s _ hs hF))
    · rw [eH (by omega), bC]; exact gi F _ _ (by omega) (by omega)
    · rw [eH (by omega), bC]; exact gi F _ _ (by omega) (by omega)
theorem fW (a s : Bs) (ha : a ≠ []) (hs : s.length ≤ 18) : ∀ (n i v : Nat), s.length - i < n → i ≤ s.length → v < 10 ^ i → Tot (cB a s n ((v : Int), (i : Int))) := by
  intro n
  induction n with
  | zero => intro i v h; omega
  | succ n ih =>
    intro i v hn hi hv;show Tot (cC a s (cB a s n) (v : Int) (i : Int))
    unfold cC
    have hv18 : v < 10 ^ 18 := Nat.lt_of_lt_of_le hv (Nat.pow_le_pow_right (by omega) (by omega))
    by_cases h : i < s.length
    · have hv17 : v < 10 ^ 17 := Nat.lt_of_lt_of_le hv (Nat.pow_le_pow_right (by omega) (by omega))
      rw [bT (by omega), cr (by omega), bC]
      obtain ⟨c, hc⟩ : ∃ c, c = at_ s (i : Int) := ⟨_, rfl⟩
      rw [← hc]
      by_cases h9 : 9 < (c - 48).toNat
      · rw [bT (by omega)]; exact .t _
      · have e1 : ((v : Int) * 10) + ((c - 48).toNat : Int) = ((v * 10 + (c - 48).toNat : Nat) : Int) := by omega
        have e2 : ((i : Int) + 1) = ((i + 1 : Nat) : Int) := by omega
        rw [bF (by omega), dm (by omega), dm (by omega), dm (by omega), e1, e2]
        refine ih (i + 1) _ (by omega) (by omega) ?_
        rw [Nat.pow_succ]; omega
    · rw [bF (by omega)]
      unfold cU cV
      have hp : 0 < a.length := List.length_pos_iff.2 ha
      rw [cr (by omega), bC]
      refine cP ?_ (.z _)
      rw [dm (by omega)]; exact .z _
theorem atoi_tot (F : Nat) (s : Bs) (hs : s.length ≤ 1000) (hF : s.length < F) : Tot (dW F s) := by
  unfold dW cT dC
  by_cases h : 0 < s.length ∧ s.length < 19
  · have hc : ((decide (0 < (s.length : Int))) && (decide ((s.length : Int) < 19))) = true := by
      rw [decide_eq_true (by omega), decide_eq_true (by omega)]; rfl
    have hne : s ≠ [] := List.length_pos_iff.1 h.1
    have hf : (de s 1).length ≤ s.length := by unfold de; simp
    rw [hc, ctr, cr (by omega), bC]
    have hg : ∀ (c : Bool) (x : Option (Int × Int)), dQ c (cq 0 s.length) x = x := fun c x => iK fun _ => by omega
    rw [hg, bC]
    refine cP ?_ ?_
    · rw [eH (by omega), bC]
      refine cP (.t _) ?_
      rw [dX (by omega)]
      exact fW s _ hne (by omega) F 0 0 (by omega) (by omega) (by omega)
    · rw [dX (by omega)]
      exact fW s _ hne (by omega) F 0 0 (by omega) (by omega) (by omega)
  · have hc : ((decide (0 < (s.length : Int))) && (decide ((s.length : Int) < 19))) = false := by
      by_cases h0 : 0 < s.length
      · rw [decide_eq_false (show ¬ ((s.length : Int) < 19) by omega), Bool.and_false]
      · rw [decide_eq_false (show ¬ (0 < (s.length : Int)) by omega)]; rfl
    rw [hc, cfl]
    obtain ⟨x, k, e, hk⟩ := int_tot F s hs hF
    rw [e, cu]
    exact ⟨x, k, rfl, hk⟩
theorem jj (F : Nat) (s : Bs) (hs : s.length ≤ 1000) (hF : s.length < F) : ∃ x k, bU F s = some (x, k) := by
  unfold bU
  obtain ⟨x, k, e, hk⟩ := atoi_tot F s hs hF
  rw [e, cu]
  by_cases h0 : k = 0
  · subst h0; exact ⟨x, 0, by rw [decide_eq_true rfl, ntr, cfl]⟩
  · refine ⟨x, 1, ?_⟩
    rw [decide_eq_false h0, nfl, ctr, grd_S (by omega), grd_D (by omega)]
theorem mb (c : UInt8) (h : Dig c) : (c - 48).toNat = c.toNat - 48 := by
  have : ∀ k : Fin 256, (48 ≤ k.val ∧ k.val ≤ 57) → (UInt8.ofNat k.val - 48).toNat = k.val - 48 := by decide +kernel
  have h1 := this ⟨c.toNat, c.toNat_lt⟩ h
  simpa using h1
theorem mR (a : Bs) (s : Bs) (hs : s.length ≤ 18) (hd : ∀ c ∈ s, Dig c) : ∀ (n i v : Nat), s.length - i < n → i ≤ s.length → v < 10 ^ i → cB a s n ((v : Int), (i : Int)) = cU a ((val v (s.drop i) : Nat) : Int) := by
  intro n
  induction n with
  | zero => intro i v h; omega
  | succ n ih =>
    intro i v hn hi hv;show cC a s (cB a s n) (v : Int) (i : Int) = _
    unfold cC
    by_cases h : i < s.length
    · have hv17 : v < 10 ^ 17 := Nat.lt_of_lt_of_le hv (Nat.pow_le_pow_right (by omega) (by omega))
      have hdr : s.drop i = s[i] :: s.drop (i + 1) := bG h
      have hc := hd _ (List.getElem_mem h)
      have hsub := mb _ hc
      obtain ⟨hc1, hc2⟩ := hc
      rw [bT (by omega), cr (by omega), bC, jn h]
      have e1 : ((v : Int) * 10) + ((s[i] - 48).toNat : Int) = ((10 * v + (s[i].toNat - 48) : Nat) : Int) := by rw [hsub]; omega
      have e2 : ((i : Int) + 1) = ((i + 1 : Nat) : Int) := by omega
      rw [bF (by rw [hsub]; omega), dm (by omega), dm (by omega), dm (by omega), e1, e2, ih (i + 1) _ (by omega) (by omega) (by rw [Nat.pow_succ]; omega), hdr]
      rfl
    · rw [bF (by omega), bA (by omega)]; rfl
theorem me (F : Nat) (n : Nat) (hn : n ≤ 1073741824) (hF : 100 < F) : bU F (decDigits n) = some ((n : Int), 0) := by
  have hl : (decDigits n).length ≤ 11 := ku 10 n (by omega)
  have hp := jm n
  have hd := iL n
  have h0 : at_ (decDigits n) 0 = (decDigits n)[0] := at_zero (by omega)
  have hd0 := hd _ (List.getElem_mem (show 0 < (decDigits n).length by omega))
  have n45 : (decDigits n)[0] ≠ 45 := fun e => by rw [e] at hd0; exact absurd hd0.1 (by decide)
  have n43 : (decDigits n)[0] ≠ 43 := fun e => by rw [e] at hd0; exact absurd hd0.1 (by decide)
  have hc : ((decide (0 < ((decDigits n).length : Int))) && (decide (((decDigits n).length : Int) < 19))) = true := by
    rw [decide_eq_true (by omega), decide_eq_true (by omega)]; rfl
  have hg : ∀ (c : Bool) (x : Option (Int × Int)), dQ c (cq 0 (decDigits n).length) x = x := fun c x => iK fun _ => by omega
  have e : dW F (decDigits n) = some ((n : Int), 0) := by
    unfold dW cT
    rw [hc, ctr, cr (by omega), bC, hg, bC, h0, decide_eq_false n45, decide_eq_false n43, fo, cfl, dX (by omega)]
    have := mR (decDigits n) (decDigits n) (by omega) hd F 0 0 (by omega) (by omega) (by omega)
    refine Eq.trans this ?_
    rw [List.drop_zero, kh]
    unfold cU cV
    rw [cr (by omega), bC, h0, decide_eq_false n45, cfl]
  unfold bU
  rw [e, cu, decide_eq_true rfl, ntr, cfl]
end Go.Dg
namespace Go.Rp
open Go.Pv Go.Av
abbrev Bs := List UInt8
theorem kI (s : Bs) (c : UInt8) : -1 ≤ Go.Lib.indexByte s c ∧ Go.Lib.indexByte s c < s.length := by
  induction s with
  | nil => simp [Go.Lib.indexByte]
  | cons b r ih =>
    unfold Go.Lib.indexByte
    split
    · first | (simp; done) | (simp; omega)
    · split
      · first | (simp; done) | (simp; omega)
      · rename_i h
        have h' : ¬ Go.Lib.indexByte r c = -1 := by simpa using h
        simp; omega
theorem getD_at (s : Bs) (k : Nat) (h : k < s.length) : (⟨s.toArray⟩ : ByteArray).get! k = s[k] := by
  show (s.toArray)[k]! = _
  simp [h]
def crlf (b : UInt8) : Bool := decide (b = 13) || decide (b = 10)
end Go.Rp
namespace Go.Rp
open Go.Pv Go.Av
open Go.Lib (decDigits)
open Go.Dg (val cN dT iL jm ku kh Dig mb dY eM jj me cfl ctr iq gG fo nfl ntr)
def dgB (c : UInt8) : Bool := decide (48 ≤ c.toNat) && decide (c.toNat ≤ 57)
theorem kg {c : UInt8} (h : dgB c = true) : Dig c := by
  unfold dgB at h
  show 48 ≤ c.toNat ∧ c.toNat ≤ 57
  simpa using h
theorem dgB_of {c : UInt8} (h : Dig c) : dgB c = true := by
  unfold dgB
  rw [decide_eq_true h.1, decide_eq_true h.2]; rfl
def okN (s : Bs) : Bool := ((decide (1 ≤ s.length) && decide (s.length ≤ 3)) && s.all dgB) && !(decide (s.head? = some 48) && decide (1 < s.length))
def ez (s : Bs) : Option Nat := if okN s = true then some (val 0 s) else none
theorem eN (c : UInt8) (h : Dig c) (n : Nat) (hn : n = c.toNat - 48) : UInt8.ofNat (48 + n) = c := by
  obtain ⟨h1, h2⟩ := h;subst hn
  rw [show 48 + (c.toNat - 48) = c.toNat by omega, UInt8.ofNat_toNat]
theorem dd2 {n : Nat} (h : 10 ≤ n) (h2 : n < 100) : decDigits n = [UInt8.ofNat (48 + n / 10), UInt8.ofNat (48 + n % 10)] := by
  rw [dT (by omega), cN (by omega)]; rfl
theorem dd3 {n : Nat} (h : 100 ≤ n) (h2 : n < 1000) : decDigits n = [UInt8.ofNat (48 + n / 10 / 10), UInt8.ofNat (48 + n / 10 % 10), UInt8.ofNat (48 + n % 10)] := by
  rw [dT (by omega), dd2 (by omega) (by omega)]; rfl
theorem dd_lt {n : Nat} (h : (decDigits n).length ≤ 3) : n < 1000 := by
  by_cases h1 : n < 1000
  · exact h1
  · rw [dT (by omega), dT (n := n / 10) (by omega), dT (n := n / 10 / 10) (by omega)] at h
    have := jm (n / 10 / 10 / 10)
    simp only [List.length_append, List.length_cons, List.length_nil] at h
    omega
theorem num_dd {s : Bs} {n : Nat} (h : ez s = some n) : s = decDigits n ∧ n < 1000 := by
  unfold ez at h
  by_cases hk : okN s = true
  · rw [if_pos hk] at h
    have hn : val 0 s = n := ak h
    unfold okN at hk
    simp only [Bool.and_eq_true, decide_eq_true_eq, Bool.not_eq_true', Bool.and_eq_false_iff, decide_eq_false_iff_not] at hk
    obtain ⟨⟨⟨h1, h2⟩, h3⟩, h4⟩ := hk
    match s, h1, h2, h3, h4, hn with
    | [a], _, _, h3, h4, hn =>
      have ha := kg (List.all_eq_true.1 h3 a (by simp))
      have hv : val 0 [a] = a.toNat - 48 := by show 10 * 0 + (a.toNat - 48) = _; omega
      have ha' := ha; obtain ⟨ha1, ha2⟩ := ha'
      refine ⟨?_, by omega⟩
      rw [← hn, hv, cN (by omega), eN a ha _ rfl]
    | [a, b], _, _, h3, h4, hn =>
      have ha := kg (List.all_eq_true.1 h3 a (by simp))
      have hb := kg (List.all_eq_true.1 h3 b (by simp))
      have hv : val 0 [a, b] = 10 * (a.toNat - 48) + (b.toNat - 48) := by show 10 * (10 * 0 + (a.toNat - 48)) + (b.toNat - 48) = _; omega
      have ha' := ha; obtain ⟨ha1, ha2⟩ := ha'
      have hb' := hb; obtain ⟨hb1, hb2⟩ := hb'
      have hne : a.toNat ≠ 48 := by
        intro e
        have : a = 48 := UInt8.toNat.inj e
        rcases h4 with h4 | h4
        · exact h4 (by rw [this]; rfl)
        · exact h4 (by simp)
      refine ⟨?_, by omega⟩
      rw [← hn, hv, dd2 (by omega) (by omega), eN a ha _ (by omega), eN b hb _ (by omega)]
    | [a, b, c], _, _, h3, h4, hn =>
      have ha := kg (List.all_eq_true.1 h3 a (by simp))
      have hb := kg (List.all_eq_true.1 h3 b (by simp))
      have hc := kg (List.all_eq_true.1 h3 c (by simp))
      have hv : val 0 [a, b, c] = 100 * (a.toNat - 48) + 10 * (b.toNat - 48) + (c.toNat - 48) := by show 10 * (10 * (10 * 0 + (a.toNat - 48)) + (b.toNat - 48)) + (c.toNat - 48) = _; omega
      have ha' := ha; obtain ⟨ha1, ha2⟩ := ha'
      have hb' := hb; obtain ⟨hb1, hb2⟩ := hb'
      have hc' := hc; obtain ⟨hc1, hc2⟩ := hc'
      have hne : a.toNat ≠ 48 := by
        intro e
        have : a = 48 := UInt8.toNat.inj e
        rcases h4 with h4 | h4
        · exact h4 (by rw [this]; rfl)
        · exact h4 (by simp)
      refine ⟨?_, by omega⟩
      rw [← hn, hv, dd3 (by omega) (by omega), eN a ha _ (by omega), eN b hb _ (by omega), eN c hc _ (by omega)]
    | [], h1, _, _, _, _ => simp at h1
    | a :: b :: c :: d :: r, _, h2, _, _, _ => simp at h2
  · rw [if_neg hk] at h; cases h
theorem dd_head {n : Nat} (h : n < 1000) : ¬ ((decDigits n).head? = some 48 ∧ 1 < (decDigits n).length) := by
  rintro ⟨h1, h2⟩
  by_cases h10 : n < 10
  · rw [cN h10] at h2; simp at h2
  · have key : ∀ k, k < 10 → 1 ≤ k → UInt8.ofNat (48 + k) ≠ 48 := by
      intro k hk h1 e
      have := congrArg UInt8.toNat e
      rw [dY k hk] at this
      have e48 : (48 : UInt8).toNat = 48 := rfl
      omega
    by_cases h100 : n < 100
    · rw [dd2 (by omega) h100] at h1
      exact key (n / 10) (by omega) (by omega) (ak h1)
    · rw [dd3 (by omega) h] at h1
      exact key (n / 10 / 10) (by omega) (by omega) (ak h1)
theorem dd_num {n : Nat} (h : n < 1000) : ez (decDigits n) = some n := by
  have h3 : (decDigits n).length ≤ 3 := by
    by_cases h10 : n < 10
    · rw [cN h10]; simp
    · by_cases h100 : n < 100
      · rw [dd2 (by omega) h100]; simp
      · rw [dd3 (by omega) h]; simp
  have hk : okN (decDigits n) = true := by
    unfold okN
    rw [decide_eq_true (jm n), decide_eq_true h3, List.all_eq_true.2 fun c hc => dgB_of (iL n c hc)]
    have := dd_head h
    by_cases g : (decDigits n).head? = some 48
    · rw [decide_eq_false (p := 1 < (decDigits n).length) fun q => this ⟨g, q⟩, Bool.and_false]; rfl
    · rw [decide_eq_false g]; rfl
  unfold ez
  rw [if_pos hk, kh]
def jr (o : Option (Int × Int)) : Prop := ∃ x k, o = some (x, k) ∧ -9223372036854775808 ≤ x ∧ x ≤ 9223372036854775807
theorem gZ {c : Bool} {a b : Option (Int × Int)} (ha : jr a) (hb : jr b) : jr (bif c then a else b) := by cases c <;> assumption
theorem ik (a s : Bs) (ha : a ≠ []) (hs : s.length ≤ 18) : ∀ (n i v : Nat), s.length - i < n → i ≤ s.length → v < 10 ^ i → jr (cB a s n ((v : Int), (i : Int))) := by
  intro n
  induction n with
  | zero => intro i v h; omega
  | succ n ih =>
    intro i v hn hi hv;show jr (cC a s (cB a s n) (v : Int) (i : Int))
    unfold cC
    have hv18 : v < 10 ^ 18 := Nat.lt_of_lt_of_le hv (Nat.pow_le_pow_right (by omega) (by omega))
    by_cases h : i < s.length
    · have hv17 : v < 10 ^ 17 := Nat.lt_of_lt_of_le hv (Nat.pow_le_pow_right (by omega) (by omega))
      rw [bT (by omega), cr (by omega), bC]
      obtain ⟨c, hc⟩ : ∃ c, c = at_ s (i : Int) := ⟨_, rfl⟩
      rw [← hc]
      by_cases h9 : 9 < (c - 48).toNat
      · rw [bT (by omega)]; exact ⟨0, 2, rfl, by omega, by omega⟩
      · have e1 : ((v : Int) * 10) + ((c - 48).toNat : Int) = ((v * 10 + (c - 48).toNat : Nat) : Int) := by omega
        have e2 : ((i : Int) + 1) = ((i + 1 : Nat) : Int) := by omega
        rw [bF (by omega), dm (by omega), dm (by omega), dm (by omega), e1, e2]
        refine ih (i + 1) _ (by omega) (by omega) ?_
        rw [Nat.pow_succ]; omega
    · rw [bF (by omega)]
      unfold cU cV
      have hp : 0 < a.length := List.length_pos_iff.2 ha
      rw [cr (by omega), bC]
      refine gZ ?_ ⟨_, 0, rfl, by omega, by omega⟩
      rw [dm (by omega)]; exact ⟨_, 0, rfl, by omega, by omega⟩
theorem atoi_b (F : Nat) (s : Bs) (hs : s.length ≤ 3) (hF : 10 < F) : jr (bU F s) := by
  have key : jr (dW F s) := by
    unfold dW cT dC
    by_cases h : 0 < s.length
    · have hc : ((decide (0 < (s.length : Int))) && (decide ((s.length : Int) < 19))) = true := by
        rw [decide_eq_true (by omega), decide_eq_true (by omega)]; rfl
      have hne : s ≠ [] := List.length_pos_iff.1 h
      have hf : (de s 1).length ≤ s.length := by unfold de; simp
      rw [hc, ctr, cr (by omega), bC]
      have hg : ∀ (c : Bool) (x : Option (Int × Int)), dQ c (cq 0 s.length) x = x := fun c x => iK fun _ => by omega
      rw [hg, bC]
      refine gZ ?_ ?_
      · rw [eH (by omega), bC]
        refine gZ ⟨0, 2, rfl, by omega, by omega⟩ ?_
        rw [dX (by omega)]
        exact ik s _ hne (by omega) F 0 0 (by omega) (by omega) (by omega)
      · rw [dX (by omega)]
        exact ik s _ hne (by omega) F 0 0 (by omega) (by omega) (by omega)
    · have e : s = [] := List.eq_nil_of_length_eq_zero (by omega)
      subst e;exact ⟨0, 2, rfl, by omega, by omega⟩
  obtain ⟨x, k, e, h1, h2⟩ := key;obtain ⟨x2, k2, e2⟩ := jj F s (by omega) (by omega);refine ⟨x2, k2, e2, ?_⟩
  unfold bU at e2
  rw [e, cu] at e2
  have : x2 = x := by
    by_cases h0 : k = 0
    · subst h0; rw [decide_eq_true rfl, ntr, cfl] at e2; cases e2; rfl
    · rw [decide_eq_false h0, nfl, ctr] at e2
      obtain ⟨_, e2⟩ := aR e2;obtain ⟨_, e2⟩ := aR e2
      cases e2; rfl
  rw [this]; exact ⟨h1, h2⟩
theorem fE (F : Nat) (s : Bs) (hs : s.length ≤ 1000) (hF : 2000 < F) : ∃ x : Int, dD F s = some (x, (ez s).isSome) ∧ ∀ n, ez s = some n → x = n := by
  obtain ⟨x, k, e⟩ := jj F s hs (by omega)
  have hdd : ∀ n, ez s = some n → x = (n : Int) ∧ k = 0 ∧ s.length ≤ 3 ∧ s = decDigits n := by
    intro n hn;obtain ⟨h1, h2⟩ := num_dd hn
    have h3 : s.length ≤ 3 := by
      unfold ez at hn
      by_cases hk : okN s = true
      · unfold okN at hk
        simp only [Bool.and_eq_true, decide_eq_true_eq] at hk
        exact hk.1.1.2
      · rw [if_neg hk] at hn; cases hn
    have := me F n (by omega) (by omega)
    rw [← h1, e] at this
    cases this
    exact ⟨rfl, rfl, h3, h1⟩
  unfold dD
  rw [e, cu]
  by_cases hc : k = 0 ∧ s.length ≤ 3
  · obtain ⟨rfl, h3⟩ := hc
    obtain ⟨x', k', e', hb⟩ := atoi_b F s h3 (by omega)
    rw [e] at e'; cases e'
    have hcc : ((decide ((0 : Int) = 0)) && (decide ((s.length : Int) ≤ 3))) = true := by
      rw [decide_eq_true (by omega : (s.length : Int) ≤ 3)]; rfl
    rw [hcc, lP, dm hb, bC]
    refine ⟨x, ?_, fun n hn => (hdd n hn).1⟩
    congr 2
    cases hn : ez s with
    | some n =>
      obtain ⟨h1, _, _, h4⟩ := hdd n hn
      rw [h1, eM, decide_eq_true h4.symm, decide_eq_true (Int.natCast_nonneg n)]; rfl
    | none =>
      by_cases h0 : 0 ≤ x
      · have h1 : ¬ Go.Lib.itoa x = s := by
          intro g
          have e2 : x = ((x.toNat : Nat) : Int) := by omega
          rw [e2, eM] at g
          rw [← g, dd_num (dd_lt (by rw [g]; exact h3))] at hn
          cases hn
        rw [decide_eq_false h1]; rfl
      · rw [decide_eq_false h0, Bool.and_false]; rfl
  · have hcc : ((decide (k = 0)) && (decide ((s.length : Int) ≤ 3))) = false := by
      by_cases h0 : k = 0
      · rw [decide_eq_false (p := (s.length : Int) ≤ 3) (by omega), Bool.and_false]
      · rw [decide_eq_false h0]; rfl
    rw [hcc, jk, bC]
    refine ⟨x, ?_, fun n hn => (hdd n hn).1⟩
    congr 2
    cases hn : ez s with
    | some n => obtain ⟨_, h2, h3, _⟩ := hdd n hn; exact absurd ⟨h2, h3⟩ hc
    | none => rfl
end Go.Rp
namespace Go.Rp
open Go.Pv Go.Av
def sp (c : UInt8) : Bs → List Bs
  | [] => [[]]
  | b :: r => if b = c then [] :: sp c r else match sp c r with
    | [] => [[b]]
    | p :: ps => (b :: p) :: ps
theorem sp_ne (c : UInt8) (s : Bs) : sp c s ≠ [] := by
  cases s with
  | nil => simp [sp]
  | cons b r => unfold sp; split; simp; split <;> simp
theorem dZ (b c : UInt8) (l : Bs) : Go.Lib.index (b :: l) [c] = if b = c then 0 else if Go.Lib.index l [c] = -1 then -1 else Go.Lib.index l [c] + 1 := by
  by_cases h : b = c
  · subst h; simp [Go.Lib.index]
  · simp [Go.Lib.index, h, Ne.symm h]
def prep (cur : Bs) : List Bs → List Bs
  | [] => [cur]
  | p :: ps => (cur ++ p) :: ps
theorem gc {b c : UInt8} (h : ¬ b = c) (r : Bs) : sp c (b :: r) = prep [b] (sp c r) := by
  simp only [sp, h, if_false]
  cases sp c r <;> rfl
theorem gd (c : UInt8) (r : Bs) : sp c (c :: r) = [] :: sp c r := by simp [sp]
theorem jK (c : UInt8) : ∀ (s : Bs), Go.Lib.splitK [c] 0 (s.count c) s = sp c s
  | [] => rfl
  | b :: l => by
    have ih := jK c l
    have hi := dZ b c l
    have hge := Go.Lib.index_ge l [c]
    by_cases h : b = c
    · subst h
      rw [List.count_cons_self, gd, Go.Lib.splitK, hi]
      simp [ih]
    · rw [List.count_cons_of_ne h, gc h, ← ih]
      cases hk : l.count c with
      | zero => simp [Go.Lib.splitK, prep]
      | succ k =>
        rw [Go.Lib.splitK, Go.Lib.splitK, hi]
        simp only [h, if_false]
        by_cases hm : Go.Lib.index l [c] = -1
        · simp [hm, prep]
        · obtain ⟨j, hj⟩ := Int.eq_ofNat_of_zero_le (show 0 ≤ Go.Lib.index l [c] by omega)
          have h2 : ¬ (Go.Lib.index l [c] + 1 = -1) := by omega
          have h3 : (Go.Lib.index l [c] + 1).toNat = j + 1 := by omega
          have h4 : (Go.Lib.index l [c]).toNat = j := by omega
          simp [hm, h2, h3, h4, prep]
theorem mo (s : Bs) (c : UInt8) : Go.Lib.split s [c] = sp c s := by
  unfold Go.Lib.split
  rw [Go.Lib.count_one, jK]
end Go.Rp
namespace Go.Rp
open Go.Pv Go.Av
open Go.Lib (decDigits)
open Go.Dg (eM cfl ctr iq gG fo nfl ntr)
abbrev M3 := Int × Int × Int
def more3 (c : Int) : List Bs → M3
  | [a, b, d] => if c / 100 = 3 then (0, 0, 0) else match ez a, ez b, ez d with
    | some x, some y, some z => if (x : Int) = c / 100 then ((x : Int), (y : Int), (z : Int)) else (0, 0, 0)
    | _, _, _ => (0, 0, 0)
  | _ => (0, 0, 0)
theorem kE (c : Int) (a b d : Bs) : more3 c [a, b, d] = if c / 100 = 3 then (0, 0, 0) else match ez a, ez b, ez d with
    | some x, some y, some z => if (x : Int) = c / 100 then ((x : Int), (y : Int), (z : Int)) else (0, 0, 0)
    | _, _, _ => (0, 0, 0) := rfl
def gt (c : Int) (s : Bs) : M3 := more3 c (sp 46 ((sp 32 s).headD []))
theorem ji : ∀ s : Bs, (Go.Lib.cut s [32]).1 = (sp 32 s).headD []
  | [] => rfl
  | b :: r => by
    have ih := ji r
    by_cases h : b = 32
    · subst h
      rw [gd]
      unfold Go.Lib.cut
      rw [dZ, if_pos rfl]
      rfl
    · rw [gc h]
      cases hs : sp 32 r with
      | nil => exact absurd hs (sp_ne 32 r)
      | cons p ps =>
        rw [hs] at ih
        show (Go.Lib.cut (b :: r) [32]).1 = b :: p
        have ih' : (Go.Lib.cut r [32]).1 = p := ih
        rw [← ih']
        unfold Go.Lib.cut
        rw [dZ, if_neg h]
        by_cases hn : Go.Lib.index r [32] = -1
        · rw [if_pos hn, if_neg (by omega), if_neg (by rw [hn]; omega)]
        · rw [if_neg hn]
          by_cases h0 : 0 ≤ Go.Lib.index r [32]
          · rw [if_pos (by omega), if_pos h0, show (Go.Lib.index r [32] + 1).toNat = (Go.Lib.index r [32]).toNat + 1 by omega]; rfl
          · have : Go.Lib.index r [32] = -1 := by
              have := Go.Lib.index_one r 32
              have h2 := Go.Lib.indexByte_ge r 32
              omega
            exact absurd this hn
theorem head_len (s : Bs) : ((sp 32 s).headD []).length ≤ s.length := by
  rw [← ji]
  unfold Go.Lib.cut
  split <;> simp
  exact Nat.min_le_right _ _
theorem iD (c : UInt8) : ∀ s : Bs, ∀ w ∈ sp c s, w.length ≤ s.length
  | [], w, h => by
    have : w = [] := by simpa [sp] using h
    rw [this]; simp
  | b :: r, w, h => by
    by_cases hb : b = c
    · subst hb
      rw [gd] at h
      rcases List.mem_cons.1 h with rfl | h
      · simp
      · have := iD b r w h; simp; omega
    · rw [gc hb] at h
      cases hs : sp c r with
      | nil => exact absurd hs (sp_ne c r)
      | cons p ps =>
        rw [hs] at h
        rcases List.mem_cons.1 h with rfl | h
        · have := iD c r p (by rw [hs]; simp)
          simp; omega
        · have := iD c r w (by rw [hs]; simp [h])
          simp; omega
theorem more_eq (F : Nat) (hF : 2000 < F) (c : Nat) (s : Bs) (hs : s.length ≤ 900) : eL F (c : Int) s = some (gt (c : Int) s) ∨ 1000000 < c := by
  by_cases hc : 1000000 < c
  · exact .inr hc
  refine .inl ?_
  have hl := head_len s
  unfold eL gt
  rw [grd_S (by omega), bC, ji, grd_S (by omega), grd_D (by decide), bC, mo]
  generalize hw : sp 46 ((sp 32 s).headD []) = w
  have hlens : ∀ x ∈ w, x.length ≤ 1000 := fun x hx => by
    have := iD 46 ((sp 32 s).headD []) x (by rw [hw]; exact hx)
    omega
  have hg : ∀ (b : Bool) (x : Option M3), dQ b (jp (c : Int) 100) x = x := by
    intro b x
    cases b
    · exact jk
    · rw [lP, lZ (by omega)]
  rw [hg]
  match w, hlens with
  | [], _ => rfl
  | [a], _ => rfl
  | [a, b], _ => rfl
  | a :: b :: d :: e :: r, _ =>
    have : decide (((a :: b :: d :: e :: r).length : Int) = 3) = false := decide_eq_false (by simp; omega)
    rw [this, nfl, Bool.true_or, ctr]; rfl
  | [a, b, d], hlens =>
    have e3 : decide ((([a, b, d] : List Bs).length : Int) = 3) = true := rfl
    rw [e3, ntr, fo]
    rw [kE]
    by_cases h3 : (c : Int) / 100 = 3
    · rw [bT h3, if_pos h3]
    · rw [bF h3, if_neg h3]
      obtain ⟨xa, ea, ha⟩ := fE F a (hlens a (by simp)) hF;obtain ⟨xb, eb, hb⟩ := fE F b (hlens b (by simp)) hF;obtain ⟨xd, ed, hd⟩ := fE F d (hlens d (by simp)) hF;obtain ⟨G, hG⟩ : ∃ G, F = G + 4 := ⟨F - 4, by omega⟩
      have step : ∀ (n : Nat) (i : Int) (u v w : Int), bW F (c : Int) [a, b, d] (n + 1) (i, u, v, w) = cz F (c : Int) [a, b, d] (bW F (c : Int) [a, b, d] n) i u v w := fun _ _ _ _ _ => rfl
      have lF : ∀ x, bW F (c : Int) [a, b, d] F x = bW F (c : Int) [a, b, d] (G + 3 + 1) x := fun x => by rw [hG]
      rw [lF, step]
      unfold cz
      have a0 : at_ [a, b, d] 0 = a := rfl
      have a1 : at_ [a, b, d] (0 + 1) = b := rfl
      have a2 : at_ [a, b, d] (0 + 1 + 1) = d := rfl
      rw [bT (by simp), cr (by simp), bC, a0, ea, cu]
      cases hna : ez a with
      | none => rfl
      | some x =>
        rw [show (some x).isSome = true from rfl, ntr, cfl, cr (by simp), cr (by simp), bC, dm (by omega), ha x hna]
        show bW F (c : Int) [a, b, d] (G + 2 + 1) (0 + 1, (x : Int), 0, 0) = _
        rw [step]
        unfold cz
        rw [bT (by simp), cr (by simp), bC, a1, eb, cu]
        cases hnb : ez b with
        | none => rfl
        | some y =>
          rw [show (some y).isSome = true from rfl, ntr, cfl, cr (by simp), cr (by simp), bC, dm (by omega), hb y hnb]
          show bW F (c : Int) [a, b, d] (G + 1 + 1) (0 + 1 + 1, (x : Int), (y : Int), 0) = _
          rw [step]
          unfold cz
          rw [bT (by simp), cr (by simp), bC, a2, ed, cu]
          cases hnd : ez d with
          | none => rfl
          | some z =>
            rw [show (some z).isSome = true from rfl, ntr, cfl, cr (by simp), cr (by simp), bC, dm (by omega), hd z hnd]
            show bW F (c : Int) [a, b, d] (G + 1) (0 + 1 + 1 + 1, (x : Int), (y : Int), (z : Int)) = _
            rw [step]
            unfold cz dG di
            rw [bF (by simp), lZ (by omega)]
            by_cases hx : (x : Int) = (c : Int) / 100
            · rw [bT hx]; simp only [if_pos hx]
            · rw [bF hx]; simp only [if_neg hx]
end Go.Rp
namespace Go.Rp
open Go.Pv Go.Av
open Go.Lib (decDigits)
open Go.Dg (eM cfl ctr iq gG fo nfl ntr cN dT ku)
def fitB (s : Bs) : Bool := !(s.any crlf) && decide (s.length ≤ 506)
def lst (ls : List Bs) : Bs := at_ ls ((ls.length : Int) - 1)
def lnW (d : Bs) (g : UInt8) (s : Bs) : Bs := d ++ g :: (s ++ [13, 10])
def wrL (d : Bs) : List Bs → Bs
  | [] => []
  | s :: r => lnW d (if r = [] then 32 else 45) s ++ wrL d r
end Go.Rp
namespace Go.Rp
open Go.Pv Go.Av
open Go.Lib (decDigits indexByte)
open Go.Dg (val Dig eM cfl ctr iq gG fo nfl ntr cN dT ku iL jm)
theorem ib_ge (b : Bs) (c : UInt8) : -1 ≤ indexByte b c := Go.Lib.indexByte_ge b c
theorem ib_lt (b : Bs) (c : UInt8) : indexByte b c < b.length := (kI b c).2
theorem lc {b : Bs} {c : UInt8} {i : Nat} (h : indexByte b c = (i : Int)) : ∃ p q, b = p ++ c :: q ∧ p.length = i ∧ ∀ x ∈ p, x ≠ c := by
  induction b generalizing i with
  | nil => have : (-1 : Int) = (i : Int) := h; omega
  | cons a b ih =>
    unfold Go.Lib.indexByte at h
    by_cases e : (a == c) = true
    · rw [if_pos e] at h
      refine ⟨[], b, ?_, by simp only [List.length_nil]; omega, by simp⟩
      rw [show a = c by simpa using e]; rfl
    · rw [if_neg e] at h
      by_cases e2 : indexByte b c = -1
      · rw [e2] at h
        have : (-1 : Int) = (i : Int) := h
        omega
      · have e3 : (indexByte b c == -1) = false := by simpa using e2
        rw [e3] at h
        simp only [Bool.false_eq_true, if_false] at h
        have hg := ib_ge b c
        obtain ⟨p, q, h1, h2, h3⟩ := ih (i := i - 1) (by omega);refine ⟨a :: p, q, by rw [h1]; rfl, by simp; omega, fun x hx => ?_⟩
        rcases List.mem_cons.1 hx with rfl | hx
        · intro e4; exact e (by simp [e4])
        · exact h3 x hx
inductive Ln | wait | bad | ok (s : Bs)
def iu (b : Bs) : Ln :=
  if indexByte b 10 < 0 then (if b.length < 512 then .wait else .bad)
  else if indexByte b 10 < 512 ∧ 0 < indexByte b 10 ∧ indexByte b 13 = indexByte b 10 - 1 then .ok (b.take (indexByte b 10 - 1).toNat) else .bad
theorem ln_ok {b s : Bs} (h : iu b = .ok s) : ∃ t, b = s ++ 13 :: 10 :: t ∧ (∀ x ∈ s, crlf x = false) ∧ s.length ≤ 510 := by
  unfold iu at h
  by_cases h0 : indexByte b 10 < 0
  · rw [if_pos h0] at h
    split at h <;> cases h
  · rw [if_neg h0] at h
    split at h
    · rename_i hc
      obtain ⟨h1, h2, h3⟩ := hc
      have hs : b.take (indexByte b 10 - 1).toNat = s := by injection h
      obtain ⟨p, q, e1, e2, e3⟩ := lc (b := b) (c := 10) (i := (indexByte b 10).toNat) (by omega);obtain ⟨p', q', g1, g2, g3⟩ := lc (b := b) (c := 13) (i := (indexByte b 10 - 1).toNat) (by omega)
      have hp' : p' = s := by rw [← hs, ← g2, g1, List.take_left' rfl]
      have hp : p = p' ++ [13] := by
        have a1 : b.take (indexByte b 10).toNat = p := by rw [← e2, e1, List.take_left' rfl]
        have a2 : b.take (indexByte b 10).toNat = p' ++ [13] := by
          have l : (indexByte b 10).toNat = (p' ++ [13]).length := by simp; omega
          rw [l, g1, show p' ++ 13 :: q' = (p' ++ [13]) ++ q' by simp, List.take_left' rfl]
        rw [← a1, a2]
      refine ⟨q, by rw [← hp', e1, hp]; simp, fun x hx => ?_, by rw [← hp']; omega⟩
      unfold crlf
      rw [← hp'] at hx
      rw [decide_eq_false (g3 x hx), decide_eq_false (e3 x (by rw [hp]; simp [hx]))]; rfl
    · cases h
theorem ln_len {b s : Bs} (h : iu b = .ok s) : s.length + 2 ≤ b.length := by
  obtain ⟨t, rfl, _, _⟩ := ln_ok h
  simp
def fO (s : Bs) : Option Nat :=
  if 4 ≤ s.length ∧ (at_ s 3 = 45 ∨ at_ s 3 = 32) then
    match ez (s.take 3) with
    | some n => if 200 ≤ n ∧ n ≤ 599 then some n else none
    | none => none
  else none
theorem code_s {s : Bs} {n : Nat} (h : fO s = some n) : 4 ≤ s.length ∧ (at_ s 3 = 45 ∨ at_ s 3 = 32) ∧ (200 ≤ n ∧ n ≤ 599) ∧ ez (s.take 3) = some n := by
  unfold fO at h
  split at h
  · rename_i hc
    cases hn : ez (s.take 3) with
    | none => rw [hn] at h; cases h
    | some k =>
      rw [hn] at h
      simp only at h
      split at h
      · cases h; rename_i hk; exact ⟨hc.1, hc.2, hk, rfl⟩
      · cases h
  · cases h
abbrev Rp := Int × List Bs × M3
inductive One | wait | bad | ok (x : Rp) (n : Nat)
def gE : Nat → Int → List Bs → Nat → Bs → One
  | 0, _, _, _, b => match iu b with
    | .wait => .wait
    | _ => .bad
  | k + 1, c, ls, at', b => match iu b with
    | .wait => .wait
    | .bad => .bad
    | .ok s => match fO s with
      | none => .bad
      | some n => if ls ≠ [] ∧ (n : Int) ≠ c then .bad else
        if at_ s 3 = 32 then .ok ((n : Int), ls ++ [s.drop 4], gt (n : Int) (s.drop 4)) (at' + (s.length + 2))
        else gE k (n : Int) (ls ++ [s.drop 4]) (at' + (s.length + 2)) (b.drop (s.length + 2))
def one (b : Bs) : One := gE 100 0 [] 0 b
theorem lW : ∀ (k : Nat) (c : Int) (ls : List Bs) (a : Nat) (b : Bs) (x : Rp) (n : Nat), gE k c ls a b = .ok x n →
    ∃ (d : Nat) (l2 : List Bs), x = ((d : Int), ls ++ l2, gt (d : Int) (lst l2)) ∧ l2 ≠ [] ∧ l2.length ≤ k ∧ (∀ s ∈ l2, fitB s = true) ∧ (200 ≤ d ∧ d ≤ 599) ∧ (ls ≠ [] → (d : Int) = c) ∧ a < n ∧ n ≤ a + b.length ∧ b.take (n - a) = wrL (decDigits d) l2
  | 0, c, ls, a, b, x, n, h => by
    unfold gE at h
    split at h <;> cases h
  | k + 1, c, ls, a, b, x, n, h => by
    unfold gE at h
    cases hb : iu b with
    | wait => rw [hb] at h; cases h
    | bad => rw [hb] at h; cases h
    | ok s =>
      rw [hb] at h
      simp only at h
      cases hc : fO s with
      | none => rw [hc] at h; cases h
      | some m =>
        rw [hc] at h
        simp only at h
        by_cases h1 : ls ≠ [] ∧ (m : Int) ≠ c
        · rw [if_pos h1] at h; cases h
        rw [if_neg h1] at h
        have hcode : ls ≠ [] → (m : Int) = c := fun g => by
          by_cases e : (m : Int) = c
          · exact e
          · exact absurd ⟨g, e⟩ h1
        obtain ⟨t, ht, hs, hl⟩ := ln_ok hb;obtain ⟨c1, c2, c3, c4⟩ := code_s hc;obtain ⟨d1, d2⟩ := num_dd c4
        have hlen := ln_len hb
        have hfit : fitB (s.drop 4) = true := by
          unfold fitB
          rw [decide_eq_true (p := (s.drop 4).length ≤ 506) (by simp; omega), Bool.and_true]
          have : (s.drop 4).any crlf = false := by
            rw [List.any_eq_false]
            intro y hy
            rw [hs y (List.mem_of_mem_drop hy)]; simp
          rw [this]; rfl
        have hsplit : s = decDigits m ++ at_ s 3 :: s.drop 4 := by
          have e3 : at_ s 3 = s[3] := jn (i := 3) (by omega)
          rw [← d1, e3]
          have := bG (l := s) (i := 3) (by omega)
          conv => lhs; rw [← List.take_append_drop 3 s, this]
        have hln : b.take (s.length + 2) = lnW (decDigits m) (at_ s 3) (s.drop 4) := by
          conv => lhs; rw [ht]
          rw [show s ++ 13 :: 10 :: t = (s ++ [13, 10]) ++ t by simp, show s.length + 2 = (s ++ [13, 10]).length by simp, List.take_left' rfl]
          unfold lnW
          conv => lhs; rw [hsplit]
          simp
        by_cases h2 : at_ s 3 = 32
        · rw [if_pos h2] at h
          injection h with hx hn
          subst hx; subst hn
          refine ⟨m, [s.drop 4], rfl, by simp, by simp, fun y hy => ?_, c3, hcode, by omega, by omega, ?_⟩
          · rw [List.mem_singleton.1 hy]; exact hfit
          · rw [show a + (s.length + 2) - a = s.length + 2 by omega, hln, h2]
            unfold wrL
            rw [if_pos rfl]; unfold wrL; simp
        · rw [if_neg h2] at h
          obtain ⟨d, l2, e1, e2, e3, e4, e5, e6, e7, e8, e9⟩ := lW k _ _ _ _ x n h
          have hd : (d : Int) = (m : Int) := e6 (by simp)
          have hdm : d = m := by omega
          subst hdm;refine ⟨d, s.drop 4 :: l2, ?_, by simp, by simp; omega, fun y hy => ?_, e5, hcode, by omega, by simp at e8; omega, ?_⟩
          · rw [e1]
            have : lst (s.drop 4 :: l2) = lst l2 := by
              have hp : 0 < l2.length := List.length_pos_iff.2 e2
              unfold lst
              rw [show (((s.drop 4 :: l2).length : Int) - 1) = ((l2.length - 1 + 1 : Nat) : Int) by simp; omega, show ((l2.length : Int) - 1) = ((l2.length - 1 : Nat) : Int) by omega, jn (by simp only [List.length_cons]; omega), jn (by omega)]
              rfl
            rw [this, List.append_assoc]; rfl
          · rcases List.mem_cons.1 hy with rfl | hy
            · exact hfit
            · exact e4 y hy
          · have g3 : at_ s 3 = 45 := by
              rcases c2 with g | g
              · exact g
              · exact absurd g h2
            have hle : s.length + 2 ≤ n - a := by omega
            have : b.take (n - a) = b.take (s.length + 2) ++ (b.drop (s.length + 2)).take (n - (a + (s.length + 2))) := by
              rw [show n - a = (s.length + 2) + (n - (a + (s.length + 2))) by omega, List.take_add]
            rw [this, e9, hln, g3]
            show _ = lnW (decDigits d) (if l2 = [] then 32 else 45) (s.drop 4) ++ wrL (decDigits d) l2
            rw [if_neg e2]
inductive All : Bs → List Rp → Nat → Bool → Prop
  | wait {b : Bs} : one b = .wait → All b [] 0 false
  | bad {b : Bs} : one b = .bad → All b [] 0 true
  | ok {b : Bs} {x : Rp} {n : Nat} {l : List Rp} {u : Nat} {bd : Bool} : one b = .ok x n → All (b.drop n) l u bd → All b (x :: l) (n + u) bd
theorem one_pos {b : Bs} {x : Rp} {n : Nat} (h : one b = .ok x n) : 0 < n ∧ n ≤ b.length := by
  obtain ⟨d, l2, _, _, _, _, _, _, h7, h8, _⟩ := lW 100 0 [] 0 b x n h
  omega
theorem All.ex : ∀ (m : Nat) (b : Bs), b.length < m → ∃ l u bd, All b l u bd
  | 0, b, h => by omega
  | m + 1, b, h => by
    cases hb : one b with
    | wait => exact ⟨_, _, _, .wait hb⟩
    | bad => exact ⟨_, _, _, .bad hb⟩
    | ok x n =>
      obtain ⟨h1, h2⟩ := one_pos hb;obtain ⟨l, u, bd, hh⟩ := All.ex m (b.drop n) (by simp; omega);exact ⟨_, _, _, .ok hb hh⟩
theorem All.le {b : Bs} {l : List Rp} {u : Nat} {bd : Bool} (h : All b l u bd) : u ≤ b.length ∧ l.length ≤ u := by
  induction h with
  | wait e => simp
  | bad e => simp
  | ok e _ ih =>
    have := one_pos e
    simp at ih ⊢
    omega
end Go.Rp
namespace Go.Rp
open Go.Pv Go.Av
open Go.Lib (decDigits indexByte)
open Go.Dg (cfl ctr iq gG fo nfl ntr)
theorem gY (F : Nat) (b : Bool) : cD F b = some (bif b then Res.ok () else Res.pan 0) := by cases b <;> rfl
theorem lb (F : Nat) (b : Bs) (c : UInt8) : cI F b c = some (indexByte b c) := rfl
section
variable {σ : Type}
theorem lA (F : Nat) (k : σ → Bs → Option (σ × Option Bool)) (rec : (Bs × σ) → Option (σ × Bool × Bs)) (b : Bs) (st : σ) (hb : b.length ≤ 2000000) :
    cL F k rec b st = match iu b with
      | .wait => some (st, false, b)
      | .bad => some (st, true, [])
      | .ok s => bnd (k st s) fun x => bndo x.2 (some (x.1, true, [])) fun g => bif !g then some (x.1, false, b) else rec (b.drop (s.length + 2), x.1) := by
  have g10 := ib_ge b 10
  have g13 := ib_ge b 13
  have l10 := ib_lt b 10
  have l13 := ib_lt b 13
  unfold cL iu
  rw [lb, cw, lb]
  simp only [gY]
  by_cases h0 : indexByte b 10 < 0
  · rw [bT h0, if_pos h0]
    by_cases hl : b.length < 512
    · rw [decide_eq_true (p := (b.length : Int) < 512) (by omega), if_pos hl]; rfl
    · rw [decide_eq_false (p := (b.length : Int) < 512) (by omega), if_neg hl]; rfl
  · rw [bF h0, if_neg h0]
    by_cases h1 : indexByte b 10 < 512 ∧ 0 < indexByte b 10
    · obtain ⟨h1, h2⟩ := h1
      rw [decide_eq_true h1, decide_eq_true h2, iq, lS, cw, lP, dm (by omega), iq]
      by_cases h3 : indexByte b 13 = indexByte b 10 - 1
      · rw [decide_eq_true h3, ctr, ko, dm (by omega), eH (by omega), bC, if_pos ⟨h1, h2, h3⟩]
        have e1 : to_ b (indexByte b 10 - 1) = b.take (indexByte b 10 - 1).toNat := rfl
        have e2 : de b (indexByte b 10 + 1) = b.drop ((b.take (indexByte b 10 - 1).toNat).length + 2) := by
          unfold de
          congr 1
          rw [List.length_take]; omega
        have hI : -9223372036854775808 ≤ indexByte b 10 + 1 ∧ indexByte b 10 + 1 ≤ 9223372036854775807 := by omega
        have hT : 0 ≤ indexByte b 10 + 1 ∧ indexByte b 10 + 1 ≤ b.length := by omega
        rw [e1]
        simp only [dm hI, eH hT, bC, e2]
      · rw [decide_eq_false h3, cfl, eo, if_neg (fun g => h3 g.2.2)]
    · have e : ((decide (indexByte b 10 < 512)) && (decide (0 < indexByte b 10))) = false := by
        by_cases q : indexByte b 10 < 512
        · rw [decide_eq_false (p := 0 < indexByte b 10) (fun r => h1 ⟨q, r⟩), Bool.and_false]
        · rw [decide_eq_false q]; rfl
      rw [e, bndc_f, jk, gG, cfl, eo, if_neg (fun g => h1 ⟨g.1, g.2.1⟩)]
end
abbrev S5 := Int × Int × List Bs × List Rp × Int
def kk (F : Nat) (s : S5) (x : Bs) : Option (S5 × Option Bool) := dg F s.1 s.2.1 s.2.2.1 s.2.2.2.1 s.2.2.2.2 x
def lineR (a : Nat) (c : Int) (ls : List Bs) (l : List Rp) (u : Int) (s : Bs) : S5 × Option Bool :=
  match fO s with
  | none => (((a : Int), c, ls, l, u), none)
  | some n => if ls.length < 100 ∧ ¬ (ls ≠ [] ∧ (n : Int) ≠ c) then
      (if at_ s 3 = 32 then (((a + (s.length + 2) : Nat) : Int), 0, [], l ++ [((n : Int), ls ++ [s.drop 4], gt (n : Int) (s.drop 4))], ((a + (s.length + 2) : Nat) : Int))
       else (((a + (s.length + 2) : Nat) : Int), (n : Int), ls ++ [s.drop 4], l, u), some true)
    else (((a : Int), c, ls, l, u), none)
theorem kk_eq (F : Nat) (hF : 2000 < F) (a : Nat) (c : Int) (ls : List Bs) (l : List Rp) (u : Int) (s : Bs) (hs : s.length ≤ 510) (ha : a ≤ 2000000) (hls : ls.length ≤ 100) (hl : l.length ≤ 2000000) :
    kk F ((a : Int), c, ls, l, u) s = some (lineR a c ls l u s) := by
  unfold kk dg lineR fO
  simp only
  by_cases h4 : 4 ≤ s.length
  · have hd4 : decide ((4 : Int) ≤ (s.length : Int)) = true := decide_eq_true (by omega)
    have hg : ∀ (b : Bool) (x : Option (S5 × Option Bool)), dQ b (cq 3 s.length) x = x := fun b x => iK fun _ => by omega
    rw [hd4, hg, bC, hg, bC, iq]
    simp only [gY]
    obtain ⟨g, hgd⟩ : ∃ g, g = at_ s 3 := ⟨_, rfl⟩
    rw [← hgd]
    by_cases hsg : g = 45 ∨ g = 32
    · have esg : ((decide (g = 45)) || (decide (g = 32))) = true := by
        rcases hsg with e | e <;> rw [e] <;> decide
      rw [if_pos ⟨h4, hsg⟩, esg, iq]
      by_cases h100 : ls.length < 100
      · rw [decide_eq_true (p := (ls.length : Int) < 100) (by omega), ctr, ko, eH (by omega), bC]
        have e3 : to_ s 3 = s.take 3 := rfl
        have e4 : de s 4 = s.drop 4 := rfl
        obtain ⟨x, ex, hx⟩ := fE F (s.take 3) (by simp; omega) hF
        rw [e3, ex, cu]
        cases hn : ez (s.take 3) with
        | none => rfl
        | some n =>
          rw [hx n hn, show (some n).isSome = true from rfl, iq]
          simp only
          by_cases hr : 200 ≤ n ∧ n ≤ 599
          · rw [if_pos hr, decide_eq_true (p := (200 : Int) ≤ (n : Int)) (by omega), decide_eq_true (p := (n : Int) ≤ 599) (by omega), iq, iq]
            simp only
            by_cases hc : ls ≠ [] ∧ (n : Int) ≠ c
            · have e : ((decide ((ls.length : Int) = 0)) || (decide ((n : Int) = c))) = false := by
                rw [decide_eq_false hc.2, Bool.or_false]
                refine decide_eq_false fun g => hc.1 (List.length_eq_zero_iff.1 (by omega))
              rw [e, cfl, eo, if_neg (fun g => g.2 hc)]
            · have e : ((decide ((ls.length : Int) = 0)) || (decide ((n : Int) = c))) = true := by
                by_cases q : (n : Int) = c
                · rw [decide_eq_true q, Bool.or_true]
                · have : ls = [] := by
                    by_cases q2 : ls = []
                    · exact q2
                    · exact absurd ⟨q2, q⟩ hc
                  rw [this]; rfl
              rw [e, ctr, ko, eH (by omega), bC, e4, dX (by simp; omega), bC, if_pos ⟨h100, hc⟩]
              unfold ef
              have ea : (a : Int) + ((s.length : Int) + 2) = ((a + (s.length + 2) : Nat) : Int) := by omega
              rw [dm (by omega), dm (by omega), cr (by omega), bC, ← hgd, ea]
              by_cases h32 : g = 32
              · rw [bT h32, if_pos h32, eH (by omega), bC, e4]
                rcases more_eq F hF n (s.drop 4) (by simp; omega) with em | em
                · rw [em, show gt (n : Int) (s.drop 4) = ((gt (n : Int) (s.drop 4)).1, (gt (n : Int) (s.drop 4)).2.1, (gt (n : Int) (s.drop 4)).2.2) from rfl, eK]
                  unfold gH
                  rw [dX (by simp; omega), bC, cu]
                · omega
              · rw [bF h32, if_neg h32]
          · have e : (((decide ((200 : Int) ≤ (n : Int))) && (decide ((n : Int) ≤ 599))) && ((decide ((ls.length : Int) = 0)) || (decide ((n : Int) = c)))) = false := by
              by_cases q : 200 ≤ n
              · rw [decide_eq_false (p := (n : Int) ≤ 599) (by omega), Bool.and_false, gG]
              · rw [decide_eq_false (p := (200 : Int) ≤ (n : Int)) (by omega), gG, gG]
            rw [e, cfl, eo, if_neg hr]
      · rw [decide_eq_false (p := (ls.length : Int) < 100) (by omega), cfl, eo]
        cases hn : ez (s.take 3) with
        | none => rfl
        | some n =>
          simp only
          by_cases hr : 200 ≤ n ∧ n ≤ 599
          · rw [if_pos hr]; simp only; rw [if_neg (fun q => h100 q.1)]
          · rw [if_neg hr]
    · have esg : ((decide (g = 45)) || (decide (g = 32))) = false := by
        rw [decide_eq_false (fun e => hsg (.inl e)), decide_eq_false (fun e => hsg (.inr e))]; rfl
      rw [if_neg (fun q => hsg q.2), esg, gG, cfl, eo]
  · have hd4 : decide ((4 : Int) ≤ (s.length : Int)) = false := decide_eq_false (by omega)
    rw [hd4, jk, bC, gG, jk, bC, gG, gG, gY, cfl, eo, if_neg (fun q => h4 q.1)]
theorem eT (d : Nat) : ∀ (k : Nat) (c : Int) (ls : List Bs) (a : Nat) (b : Bs), gE k c ls (a + d) b = match gE k c ls a b with | .ok x n => .ok x (n + d) | y => y
  | 0, c, ls, a, b => by
    unfold gE
    cases iu b <;> rfl
  | k + 1, c, ls, a, b => by
    unfold gE
    cases iu b with
    | wait => rfl
    | bad => rfl
    | ok s =>
      simp only
      cases fO s with
      | none => rfl
      | some n =>
        simp only
        by_cases h1 : ls ≠ [] ∧ (n : Int) ≠ c
        · rw [if_pos h1, if_pos h1]
        · rw [if_neg h1, if_neg h1]
          by_cases h2 : at_ s 3 = 32
          · rw [if_pos h2, if_pos h2]
            simp only
            rw [show a + d + (s.length + 2) = a + (s.length + 2) + d by omega]
          · rw [if_neg h2, if_neg h2, show a + d + (s.length + 2) = a + (s.length + 2) + d by omega]
            exact eT d k _ _ _ _
abbrev LL (F : Nat) (m : Nat) (b : Bs) (st : S5) : Option (S5 × Bool × Bs) := cK F (kk F) m (b, st)
theorem lY (F : Nat) (hF : 2000 < F) (m : Nat) (b : Bs) (a : Nat) (c : Int) (ls : List Bs) (l : List Rp) (u : Int) (hb : b.length ≤ 1000000) (ha : a ≤ 1000000) (hls : ls.length ≤ 100) (hl : l.length ≤ 1000000) :
    LL F (m + 1) b ((a : Int), c, ls, l, u) = match iu b with
      | .wait => some (((a : Int), c, ls, l, u), false, b)
      | .bad => some (((a : Int), c, ls, l, u), true, [])
      | .ok s => match fO s with
        | none => some (((a : Int), c, ls, l, u), true, [])
        | some n => if ls.length < 100 ∧ ¬ (ls ≠ [] ∧ (n : Int) ≠ c) then
            (if at_ s 3 = 32 then LL F m (b.drop (s.length + 2)) (((a + (s.length + 2) : Nat) : Int), 0, [], l ++ [((n : Int), ls ++ [s.drop 4], gt (n : Int) (s.drop 4))], ((a + (s.length + 2) : Nat) : Int))
             else LL F m (b.drop (s.length + 2)) (((a + (s.length + 2) : Nat) : Int), (n : Int), ls ++ [s.drop 4], l, u))
          else some (((a : Int), c, ls, l, u), true, []) := by
  have e : LL F (m + 1) b ((a : Int), c, ls, l, u) = cL F (kk F) (cK F (kk F) m) b ((a : Int), c, ls, l, u) := rfl
  rw [e, lA F _ _ b _ (by omega)]
  cases hb : iu b with
  | wait => rfl
  | bad => rfl
  | ok s =>
    simp only
    obtain ⟨t, _, _, hsl⟩ := ln_ok hb
    rw [kk_eq F hF a c ls l u s hsl (by omega) (by omega) (by omega), cw]
    unfold lineR
    cases fO s with
    | none => rfl
    | some n =>
      simp only
      by_cases h1 : ls.length < 100 ∧ ¬ (ls ≠ [] ∧ (n : Int) ≠ c)
      · simp only [if_pos h1]
        by_cases h2 : at_ s 3 = 32
        · simp only [if_pos h2]; rfl
        · simp only [if_neg h2]; rfl
      · simp only [if_neg h1]; rfl
theorem fG (F : Nat) (hF : 2000 < F) (l : List Rp) (u : Int) (hl : l.length ≤ 1000000) : ∀ (j m : Nat) (b : Bs) (a : Nat) (c : Int) (ls : List Bs), ls.length + j = 100 → b.length < m → a + b.length ≤ 1000000 →
    match gE j c ls a b with
    | .wait => ∃ st b', LL F m b ((a : Int), c, ls, l, u) = some (st, false, b') ∧ st.2.2.2.1 = l ∧ st.2.2.2.2 = u
    | .bad => ∃ st b', LL F m b ((a : Int), c, ls, l, u) = some (st, true, b') ∧ st.2.2.2.1 = l ∧ st.2.2.2.2 = u
    | .ok x n => ∃ m', (b.drop (n - a)).length < m' ∧ a < n ∧ LL F m b ((a : Int), c, ls, l, u) = LL F m' (b.drop (n - a)) ((n : Int), 0, [], l ++ [x], (n : Int))
  | j, 0, b, a, c, ls, hj, hm, ha => by omega
  | 0, m + 1, b, a, c, ls, hj, hm, ha => by
    rw [lY F hF m b a c ls l u (by omega) (by omega) (by omega) hl]
    unfold gE
    cases hb : iu b with
    | wait => exact ⟨_, _, rfl, rfl, rfl⟩
    | bad => exact ⟨_, _, rfl, rfl, rfl⟩
    | ok s =>
      simp only
      cases fO s with
      | none => exact ⟨_, _, rfl, rfl, rfl⟩
      | some n =>
        simp only
        rw [if_neg (fun q => by omega)]
        exact ⟨_, _, rfl, rfl, rfl⟩
  | j + 1, m + 1, b, a, c, ls, hj, hm, ha => by
    rw [lY F hF m b a c ls l u (by omega) (by omega) (by omega) hl]
    unfold gE
    cases hb : iu b with
    | wait => exact ⟨_, _, rfl, rfl, rfl⟩
    | bad => exact ⟨_, _, rfl, rfl, rfl⟩
    | ok s =>
      have hln := ln_len hb
      simp only
      cases fO s with
      | none => exact ⟨_, _, rfl, rfl, rfl⟩
      | some n =>
        simp only
        by_cases h1 : ls ≠ [] ∧ (n : Int) ≠ c
        · have h1' : ¬ (ls.length < 100 ∧ ¬ (ls ≠ [] ∧ (n : Int) ≠ c)) := fun q => q.2 h1
          simp only [if_pos h1, if_neg h1']
          exact ⟨_, _, rfl, rfl, rfl⟩
        · have h1' : ls.length < 100 ∧ ¬ (ls ≠ [] ∧ (n : Int) ≠ c) := ⟨by omega, h1⟩
          simp only [if_neg h1, if_pos h1']
          by_cases h2 : at_ s 3 = 32
          · simp only [if_pos h2]
            refine ⟨m, ?_, by omega, ?_⟩
            · rw [List.length_drop]; omega
            · rw [show a + (s.length + 2) - a = s.length + 2 by omega]
          · simp only [if_neg h2]
            have ih := fG F hF l u hl j m (b.drop (s.length + 2)) (a + (s.length + 2)) (n : Int) (ls ++ [s.drop 4]) (by simp; omega) (by rw [List.length_drop]; omega) (by rw [List.length_drop]; omega)
            cases hq : gE j (n : Int) (ls ++ [s.drop 4]) (a + (s.length + 2)) (b.drop (s.length + 2)) with
            | wait => rw [hq] at ih; exact ih
            | bad => rw [hq] at ih; exact ih
            | ok x n' =>
              rw [hq] at ih
              simp only at ih ⊢
              obtain ⟨m', i1, i2, i3⟩ := ih
              have ed : (b.drop (s.length + 2)).drop (n' - (a + (s.length + 2))) = b.drop (n' - a) := by
                rw [List.drop_drop]; congr 1; omega
              rw [ed] at i1 i3
              exact ⟨m', i1, by omega, i3⟩
theorem mu (F : Nat) (hF : 2000 < F) {b : Bs} {l2 : List Rp} {u : Nat} {bd : Bool} (h : All b l2 u bd) : ∀ (m a : Nat) (l : List Rp), b.length < m → a + b.length ≤ 1000000 → l.length ≤ a →
    ∃ st b', LL F m b ((a : Int), 0, [], l, (a : Int)) = some (st, bd, b') ∧ st.2.2.2.1 = l ++ l2 ∧ st.2.2.2.2 = ((a + u : Nat) : Int) := by
  induction h with
  | @wait b e =>
    intro m a l hm ha hl
    have := fG F hF l (a : Int) (by omega) 100 m b a 0 [] rfl hm ha
    have sh := eT a 100 0 [] 0 b
    rw [Nat.zero_add, show gE 100 0 [] 0 b = .wait from e] at sh
    rw [sh] at this
    obtain ⟨st, b', h1, h2, h3⟩ := this;exact ⟨st, b', h1, by rw [h2, List.append_nil], by rw [h3]; rfl⟩
  | @bad b e =>
    intro m a l hm ha hl
    have := fG F hF l (a : Int) (by omega) 100 m b a 0 [] rfl hm ha
    have sh := eT a 100 0 [] 0 b
    rw [Nat.zero_add, show gE 100 0 [] 0 b = .bad from e] at sh
    rw [sh] at this
    obtain ⟨st, b', h1, h2, h3⟩ := this;exact ⟨st, b', h1, by rw [h2, List.append_nil], by rw [h3]; rfl⟩
  | @ok b x n l2 u bd e hr ih =>
    intro m a l hm ha hl
    have hp := one_pos e
    have := fG F hF l (a : Int) (by omega) 100 m b a 0 [] rfl hm ha
    have sh := eT a 100 0 [] 0 b
    rw [Nat.zero_add, show gE 100 0 [] 0 b = .ok x n from e] at sh
    rw [sh] at this
    simp only at this
    obtain ⟨m', h1, h2, h3⟩ := this
    rw [show n + a - a = n by omega] at h1 h3
    obtain ⟨st, b', g1, g2, g3⟩ := ih m' (n + a) (l ++ [x]) h1 (by rw [List.length_drop]; omega) (by simp; omega);refine ⟨st, b', by rw [h3]; exact g1, by rw [g2, List.append_assoc]; rfl, by rw [g3]; congr 1; omega⟩
theorem all_eq (F : Nat) (hF : 2000 < F) {b : Bs} {l : List Rp} {u : Nat} {bd : Bool} (h : All b l u bd) (hb : b.length ≤ 1000000) (hbF : b.length < F) : fc F b [] 0 = some (l, (u : Int), bd) := by
  obtain ⟨st, b', h1, h2, h3⟩ := mu F hF h F 0 [] hbF (by omega) (by simp)
  unfold fc fC eR
  rw [cw]
  have e : cK F (fun (s : S5) x => dg F s.1 s.2.1 s.2.2.1 s.2.2.2.1 s.2.2.2.2 x) F (b, (0, 0, [], [], 0)) = some (st, bd, b') := h1
  rw [e, eK, h2, h3, Nat.zero_add]
  cases bd <;> rfl
theorem put_bad (F : Nat) (B b : Bs) : eB F B true b = some ([], B, true) := rfl
theorem put_eq (F : Nat) (hF : 2000 < F) (B b : Bs) {l : List Rp} {u : Nat} {bd : Bool} (h : All (B ++ b) l u bd) (hb : (B ++ b).length ≤ 1000000) (hbF : (B ++ b).length < F) : eB F B false b = some (l, if bd = true then [] else (B ++ b).drop u, bd) := by
  have hle := h.le
  rw [List.length_append] at hb
  unfold eB eg
  rw [cfl, dX (by omega), bC, all_eq F hF h (by rw [List.length_append]; omega) hbF, eK]
  cases bd with
  | true => rfl
  | false =>
    rw [cfl, eH (by rw [List.length_append]; rw [List.length_append] at hle; omega), bC, from_nat, grd_S (by rw [List.length_drop, List.length_append]; omega)]
    rfl
end Go.Rp
namespace Go.Rp
open Go.Pv Go.Av
open Go.Dg (cfl ctr iq gG fo nfl ntr)
theorem awake_eq : dH 2000000 = some true := by decide +kernel
end Go.Rp
namespace Go.Rp
open Go.Pv Go.Av
open Go.Dg (cfl ctr iq gG fo nfl ntr)
theorem lL (F : Nat) (hF : 20000 < F) (hw : dH F = some true) (a b : Bs) : cQ F a b = some true := by
  unfold cQ fK gJ fD gI
  rw [hw, cw]
  by_cases h : a.length ≤ 1000 ∧ b.length ≤ 1000
  · obtain ⟨h1, h2⟩ := h
    have e : (((!true) || (decide (1000 < (a.length : Int)))) || (decide (1000 < (b.length : Int)))) = false := by
      rw [decide_eq_false (by omega), decide_eq_false (by omega)]; rfl
    obtain ⟨l, u, bd, hA⟩ := All.ex _ a (Nat.lt_succ_self _)
    have hp := put_eq F (by omega) [] a hA (by rw [List.nil_append]; omega) (by rw [List.nil_append]; omega)
    rw [List.nil_append] at hp
    have e2 : (!((!true) || (!decide ((0 : Int) = 0)))) = true := rfl
    have e3 : (((!true) || (!decide ((0 : Int) = 0))) || (!decide (((([] : List Rp).length : Nat) : Int) = 0))) = false := rfl
    rw [e, cfl, cw, show (!(!true)) = true from rfl, lS, cw, e2, lS, cw, e3, cfl, cw, hp, eK]
    unfold fe ek
    cases bd with
    | false =>
      show some (decide (((a.drop u).length : Int) ≤ (a.length : Int))) = _
      rw [decide_eq_true (by rw [List.length_drop]; omega)]
    | true =>
      rw [if_pos rfl, cw, ntr, cfl, cw, show decide (((([] : Bs).length : Nat) : Int) = 0) = true from rfl, grd_t, put_bad, eK]
      rfl
  · have e : (((!true) || (decide (1000 < (a.length : Int)))) || (decide (1000 < (b.length : Int)))) = true := by
      by_cases q : a.length ≤ 1000
      · rw [decide_eq_true (p := 1000 < (b.length : Int)) (by omega), Bool.or_true]
      · rw [decide_eq_true (p := 1000 < (a.length : Int)) (by omega), Bool.or_true]; rfl
    rw [e, ctr]
theorem ReplyBad_t (a b : Bs) : cQ 2000000 a b = some true := lL 2000000 (by omega) awake_eq a b
end Go.Rp
