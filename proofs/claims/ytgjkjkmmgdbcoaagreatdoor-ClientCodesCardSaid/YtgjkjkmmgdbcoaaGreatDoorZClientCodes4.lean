/-
  Texts in one (only what ClientCodes needs): CliAW, CliLP, CliLW, LClientCodesP, LClientCodesW, ClD, DgN, ClE, RqA, ClF, CliRP, ClG, ClS, RqC, RqB, RqSp, RqM, RqW, RqL, ClA, RqI, RqR, ClR, ClT, ClCodes, AvOpen.
-/
import Derived.Test.YtgjkjkmmgdbcoaaGreatDoorZClientCodes3
import Derived.Test.YtgjkjkmmgdbcoaaGreatDoorShelf
import Derived.Lib.ItoaNum
import Derived.Lib.IndexLaws
import Derived.Test.YtgjkjkmmgdbcoaaGreatDoorChecked
import Derived.Lib.IndexMore
import Derived.Laws.Closers25
import Derived.Laws.RangeAny
import Derived.Lib.IndexAny
import Derived.Lib.SplitLaws
import Derived.Lib.IndexBytes
import Derived.RowKit
import Derived.OpenShut
import Derived.ChangeSlices
import Derived.SliceStrings
set_option linter.unusedVariables false
set_option linter.unusedSimpArgs false
namespace Go.Proofs.YtgjkjkmmgdbcoaaGreatDoor
open Go.RowKit Go.Av Go.Pv
theorem mM : ∀ (args : Array Value) (w : World), (callFunc 17 args).run Tryz.prog w = .ok (.enter 17 args) w := fun _ _ => by kernel_rfl
theorem qg : ∀ (args : Array Value) (w : World), (callFunc 23 args).run Tryz.prog w = .ok (.enter 23 args) w := fun _ _ => by kernel_rfl
theorem mK : ∀ (args : Array Value) (w : World), (callFunc 27 args).run Tryz.prog w = .ok (.enter 27 args) w := fun _ _ => by kernel_rfl
theorem kl : ∀ (args : Array Value) (w : World), (callFunc 28 args).run Tryz.prog w = .ok (.enter 28 args) w := fun _ _ => by kernel_rfl
theorem qf : ∀ (args : Array Value) (w : World), (callFunc 29 args).run Tryz.prog w = .ok (.enter 29 args) w := fun _ _ => by kernel_rfl
theorem mJ : ∀ (args : Array Value) (w : World), (callFunc 30 args).run Tryz.prog w = .ok (.enter 30 args) w := fun _ _ => by kernel_rfl
theorem mI : ∀ (args : Array Value) (w : World), (callFunc 34 args).run Tryz.prog w = .ok (.enter 34 args) w := fun _ _ => by kernel_rfl
theorem qe : ∀ (args : Array Value) (w : World), (callFunc 35 args).run Tryz.prog w = .ok (.enter 35 args) w := fun _ _ => by kernel_rfl
theorem qd : ∀ (args : Array Value) (w : World), (callFunc 36 args).run Tryz.prog w = .ok (.enter 36 args) w := fun _ _ => by kernel_rfl
theorem mH : ∀ (args : Array Value) (w : World), (callFunc 37 args).run Tryz.prog w = .ok (.enter 37 args) w := fun _ _ => by kernel_rfl
theorem mG : ∀ (args : Array Value) (w : World), (callFunc 38 args).run Tryz.prog w = .ok (.enter 38 args) w := fun _ _ => by kernel_rfl
theorem mF : ∀ (args : Array Value) (w : World), (callFunc 44 args).run Tryz.prog w = .ok (.enter 44 args) w := fun _ _ => by kernel_rfl
theorem qb : ∀ (args : Array Value) (w : World), (callFunc 45 args).run Tryz.prog w = .ok (.enter 45 args) w := fun _ _ => by kernel_rfl
theorem qa : ∀ (args : Array Value) (w : World), (callFunc 46 args).run Tryz.prog w = .ok (.enter 46 args) w := fun _ _ => by kernel_rfl
theorem pZ : ∀ (args : Array Value) (w : World), (callFunc 47 args).run Tryz.prog w = .ok (.enter 47 args) w := fun _ _ => by kernel_rfl
theorem pX : ∀ (args : Array Value) (w : World), (callFunc 51 args).run Tryz.prog w = .ok (.enter 51 args) w := fun _ _ => by kernel_rfl
theorem cN : ∀ (args : Array Value) (w : World), (callFunc 57 args).run Tryz.prog w = .ok (.enter 57 args) w := fun _ _ => by kernel_rfl
theorem iz : ∀ (args : Array Value) (w : World), (callFunc 58 args).run Tryz.prog w = .ok (.enter 58 args) w := fun _ _ => by kernel_rfl
theorem mB : ∀ (args : Array Value) (w : World), (callFunc 80 args).run Tryz.prog w = .ok (.enter 80 args) w := fun _ _ => by kernel_rfl
theorem mA : ∀ (args : Array Value) (w : World), (callFunc 81 args).run Tryz.prog w = .ok (.enter 81 args) w := fun _ _ => by kernel_rfl
theorem mz : ∀ (args : Array Value) (w : World), (callFunc 82 args).run Tryz.prog w = .ok (.enter 82 args) w := fun _ _ => by kernel_rfl
theorem my : ∀ (args : Array Value) (w : World), (callFunc 83 args).run Tryz.prog w = .ok (.enter 83 args) w := fun _ _ => by kernel_rfl
theorem mx : ∀ (args : Array Value) (w : World), (callFunc 84 args).run Tryz.prog w = .ok (.enter 84 args) w := fun _ _ => by kernel_rfl
theorem mw : ∀ (args : Array Value) (w : World), (callFunc 85 args).run Tryz.prog w = .ok (.enter 85 args) w := fun _ _ => by kernel_rfl
theorem mu : ∀ (args : Array Value) (w : World), (callFunc 86 args).run Tryz.prog w = .ok (.enter 86 args) w := fun _ _ => by kernel_rfl
theorem gA : ∀ (args : Array Value) (w : World), (callFunc 87 args).run Tryz.prog w = .ok (.enter 87 args) w := fun _ _ => by kernel_rfl
theorem lr : ∀ (args : Array Value) (w : World), (callFunc 110 args).run Tryz.prog w = .ok (.enter 110 args) w := fun _ _ => by kernel_rfl
set_option maxRecDepth 100000 in
set_option maxHeartbeats 1000000 in
theorem kf (F : Nat) (a1 : List UInt8) (a2 : List UInt8) (r3 : Bool) (H : jS F a1 a2 = some r3) : ACalls Tryz.prog 28 [S a1, S a2] [] (Ret (B r3) []) := by
 unfold jS at H
 refine az Tryz.func28 rfl rfl ?_;show AW _ _ 25 _ _ _;refine aj <| ac ?_;show AR _ _ _ _ _ [0] _;refine za rfl <| ak <| cl (X := Unit) (fun _ => ⟨[(0, S a1)], [], []⟩) (fun _ => gN a1 = some r3) ?_ ?_
 ·refine aj <| ac ?_;show AR _ _ _ _ _ [0, 1, 2] _;refine zm rfl <| zS rfl (bp al rfl) <| zm rfl <| ak <| bu <| AW.loop (X := Nat × Int) (fun (n6, y4) => ⟨[(0, S a1), (1, S a2), (7, i64 (a1.length : Int)), (8, i64 y4)], [], []⟩) (fun (n6, y4) => jk a1 a2 n6 y4 = some r3) (fun (n6, y4) => n6) (F, 0) H (bh [] (.cons (.refl _) (.cons (.refl _) (.cons (.refl _) (.cons (.refl _) (.nil _))))) rfl) ?_;rintro ⟨n6, y4⟩ H;obtain ⟨n6, rfl, H⟩ := fW H;replace H : jl a1 a2 (jk a1 a2 n6) y4 = some r3 := H
  unfold jl at H
  refine aj <| ac ?_;show AR _ _ _ _ _ [0] _;refine zS rfl (ce rfl rfl) <| ak <| aj <| aG rfl (fun c7 => ?_) (fun c7 => ?_)
  ·replace H := bl c7 H;refine aJ <| aj <| bu <| aj <| ac ?_;show AR _ _ _ _ _ [0, 1] _;refine zm rfl <| za rfl <| ak <| aj ?_;obtain ⟨g8, H⟩ := be H;obtain ⟨x9, e10, H⟩ := cz H;obtain ⟨x11, e12, H⟩ := cz H;refine ac ?_;show AR _ _ _ _ _ [0, 1, 2, 3, 4, 5] _;refine zm rfl <| zm rfl <| zm rfl <| zS rfl (bw al rfl rfl g8 e10) <| ao rfl rfl (aN rfl pX rfl (show ACalls _ _ _ [] (Ret (i64 x11) []) from by subst e12; exact lO a2 x9) ?_);refine zS rfl (ce rfl rfl) <| ak <| aG rfl (fun c13 => ?_) (fun c13 => ?_)
   ·replace H := bl c13 H;refine aj <| ac ?_;show AR _ _ _ _ _ [0] _;refine za rfl <| ak <| aP ?_;obtain rfl := aD H;exact And.intro rfl (Exists.intro _ (Exists.intro _ ⟨aQ rfl (.refl _), aI [] rfl, rfl, rfl⟩))
   ·replace H := bc c13 H;refine aJ ?_;obtain ⟨g14, H⟩ := be H;refine ac ?_;show AR _ _ _ _ _ [0, 1] _;refine zS rfl (fU rfl rfl g14) <| zm rfl <| ak ?_;exact Exists.intro (n6, y4 + 1) ⟨H, Nat.lt_succ_self _, bh [] (.cons (.refl _) (.cons (.refl _) (.cons (.refl _) (.cons (.refl _) (.nil _))))) rfl⟩
  ·replace H := bc c7 H;refine AW.exit ?_;exact Exists.intro () ⟨H, bh [] (.cons (.refl _) (.nil _)) rfl⟩
 rintro _ H;replace H : gN a1 = some r3 := H
 unfold gN at H
 refine aj <| ac ?_;show AR _ _ _ _ _ [0, 1, 2, 3, 4, 5, 6, 7] _;refine zm rfl <| zS rfl (pp rfl rfl) <| zm rfl <| aK (l := [7]) 24 (B ((!decide (a1 = ([] : List UInt8))) && (decide ((a1.length : Int) ≤ 60)))) (fun K => ?_) ?_
 ·rcases af (!decide (a1 = ([] : List UInt8))) with h16 | h16
  ·refine zM h16 rfl <| zU h16 rfl (bp al rfl) <| zU h16 rfl (dm rfl rfl) <| zS rfl (aw (av := .v _) rfl h16 rfl) ?_;exact K _ 3 _ (ar (bU h16)) rfl rfl
  ·refine zF h16 rfl <| zF h16 rfl <| zF h16 rfl <| zS rfl (au (av := .v _) rfl h16 rfl) ?_;exact K _ 3 _ (ar (bV h16)) rfl rfl
 refine za rfl <| ak <| aP ?_;obtain rfl := aD H;exact And.intro rfl (Exists.intro _ (Exists.intro _ ⟨aQ rfl (.refl _), aI [] rfl, rfl, rfl⟩))
set_option maxRecDepth 100000 in
set_option maxHeartbeats 1000000 in
theorem jy (F : Nat) (a1 : List UInt8) (r2 : Bool) (H : gO F a1 = some r2) : ACalls Tryz.prog 27 [S a1] [] (Ret (B r2) []) := by
 unfold gO at H
 refine az Tryz.func27 rfl rfl ?_;show AW _ _ 31 _ _ _;refine aj <| ac ?_;show AR _ _ _ _ _ [0] _;refine za rfl <| ak <| aj ?_;obtain ⟨g3, H⟩ := be H;obtain ⟨x4, e5, H⟩ := cz H;refine ac ?_;show AR _ _ _ _ _ [0, 1, 2, 3, 4, 5, 6, 7, 8] _;refine zm rfl <| ao rfl rfl (aN rfl mF rfl (show ACalls _ _ _ [] (Ret (.tup [S x4.1, S x4.2.1, B x4.2.2]) []) from by subst e5; exact nh a1 ([64] : List UInt8) (dn g3)) ?_);refine zS rfl (ai (av := .tup _) rfl) <| zS rfl (aM (av := .v _) rfl rfl) <| zS rfl (aM (av := .v _) rfl rfl) <| zS rfl (aM (av := .v _) rfl rfl) <| za rfl <| za rfl <| za rfl <| ak <| aj ?_;obtain ⟨x7, e8, H⟩ := eM H;obtain ⟨x10, e11, H⟩ := eM H;refine ac ?_;show AR _ _ _ _ _ [0, 1, 2, 3, 4, 5, 6, 7, 8, 9, 10, 11, 12, 13, 14, 15, 16, 17, 18, 19] _;refine zm rfl <| zm rfl <| aK (l := [5, 6, 7, 8, 9, 10, 11, 12, 13, 14, 15, 16, 17, 18, 19]) 16 (B (x4.2.2 && x7)) (fun K => ?_) ?_
 ·rcases af x4.2.2 with h6 | h6
  ·refine zM h6 rfl <| zT h6 rfl (aN rfl kl rfl (kf F x4.1 kU x7 (e8 h6)) ?_);refine zS rfl (aw (av := .v _) rfl h6 rfl) ?_;exact K _ 2 _ (ar (bU h6)) rfl rfl
  ·refine zF h6 rfl <| zF h6 rfl <| zS rfl (au (av := .v _) rfl h6 rfl) ?_;exact K _ 2 _ (ar (bV h6)) rfl rfl
 refine zm rfl <| aK (l := [9, 10, 11, 12, 13, 14, 15, 16, 17, 18, 19]) 20 (B ((x4.2.2 && x7) && x10)) (fun K => ?_) ?_
 ·rcases af (x4.2.2 && x7) with h9 | h9
  ·refine zM h9 rfl <| zT h9 rfl (aN rfl kl rfl (kf F x4.2.1 kU x10 (e11 h9)) ?_);refine zS rfl (aw (av := .v _) rfl h9 rfl) ?_;exact K _ 2 _ (ar (bU h9)) rfl rfl
  ·refine zF h9 rfl <| zF h9 rfl <| zS rfl (au (av := .v _) rfl h9 rfl) ?_;exact K _ 2 _ (ar (bV h9)) rfl rfl
 refine zm rfl <| aK (l := [14, 15, 16, 17, 18, 19]) 25 (B (((x4.2.2 && x7) && x10) && (decide (3 ≤ (a1.length : Int))))) (fun K => ?_) ?_
 ·rcases af ((x4.2.2 && x7) && x10) with h12 | h12
  ·refine zM h12 rfl <| zU h12 rfl (bp al rfl) <| zU h12 rfl (et rfl rfl) <| zS rfl (aw (av := .v _) rfl h12 rfl) ?_;exact K _ 3 _ (ar (bU h12)) rfl rfl
  ·refine zF h12 rfl <| zF h12 rfl <| zF h12 rfl <| zS rfl (au (av := .v _) rfl h12 rfl) ?_;exact K _ 3 _ (ar (bV h12)) rfl rfl
 refine zm rfl <| aK (l := [19]) 30 (B ((((x4.2.2 && x7) && x10) && (decide (3 ≤ (a1.length : Int)))) && (decide ((a1.length : Int) ≤ 60)))) (fun K => ?_) ?_
 ·rcases af (((x4.2.2 && x7) && x10) && (decide (3 ≤ (a1.length : Int)))) with h13 | h13
  ·refine zM h13 rfl <| zU h13 rfl (bp al rfl) <| zU h13 rfl (dm rfl rfl) <| zS rfl (aw (av := .v _) rfl h13 rfl) ?_;exact K _ 3 _ (ar (bU h13)) rfl rfl
  ·refine zF h13 rfl <| zF h13 rfl <| zF h13 rfl <| zS rfl (au (av := .v _) rfl h13 rfl) ?_;exact K _ 3 _ (ar (bV h13)) rfl rfl
 refine za rfl <| ak <| aP ?_;obtain rfl := aD H;exact And.intro rfl (Exists.intro _ (Exists.intro _ ⟨aQ rfl (.refl _), aI [] rfl, rfl, rfl⟩))
abbrev _root_.Go.Av.aU := @Tryz.underlying24
set_option maxRecDepth 100000 in
set_option maxHeartbeats 1000000 in
theorem oz (F : Nat) (a1 : List UInt8) (a2 : List UInt8) (a3 : List UInt8) (a4 : List UInt8) (q5 : Option Nat) (r6 : Int) (r7 : Int) (r8 : List UInt8) (r9 : List UInt8) (r10 : List UInt8) (r11 : List UInt8) (r12 : Int) (H : lF F a1 a2 a3 a4 = some (r6, r7, r8, r9, r10, r11, r12)) : ACalls Tryz.prog 12 [S a1, S a2, S a3, slE Enc.byte a4 q5] [] (Ret (.tup [.agg [i64 r6, i64 r7, S r8, S r9, S r10, slE Enc.byte r11 none], i64 r12]) []) := by
 unfold lF at H
 refine az Tryz.func12 rfl rfl ?_;show AW _ _ 35 _ _ _;refine aj <| ac ?_;show AR _ _ _ _ _ [0, 1] _;refine zX rfl (ci (zs := [.int .i64 0, .int .i64 0, .string ⟨#[]⟩, .string ⟨#[]⟩, .string ⟨#[]⟩, .slice none 0 0]) (by kernel_rfl)) ?_;rintro _ _ ⟨o13, rfl, rfl⟩;refine za rfl <| ak <| aj <| aj ?_;obtain ⟨x14, e15, H⟩ := dp H;obtain ⟨x17, e18, H⟩ := eM H;obtain ⟨x20, e21, H⟩ := eM H;obtain ⟨x23, e24, H⟩ := eM H;refine ac ?_;show AR _ _ _ _ _ [0, 1, 2, 3, 4, 5, 6, 7, 8, 9, 10, 11, 12, 13, 14, 15, 16, 17] _;refine zm rfl <| ao rfl rfl (aN rfl mK rfl (jy F a1 x14 e15) ?_);refine zS rfl (dq rfl) <| zm rfl <| aK (l := [8, 9, 10, 11, 12, 13, 14, 15, 16, 17]) 17 (B ((!x14) || (!x17))) (fun K => ?_) ?_
 ·rcases af (!x14) with h16 | h16
  ·refine zF h16 rfl <| zF h16 rfl <| zF h16 rfl <| zS rfl (aw (av := .v _) rfl h16 rfl) ?_;exact K _ 3 _ (ar (fI h16)) rfl rfl
  ·refine zM h16 rfl <| zT h16 rfl (aN rfl mK rfl (jy F a2 x17 (e18 (nf h16))) ?_);refine zU h16 rfl (dq rfl) <| zS rfl (au (av := .v _) rfl h16 rfl) ?_;exact K _ 3 _ (ar (fJ h16)) rfl rfl
 refine zm rfl <| aK (l := [13, 14, 15, 16, 17]) 22 (B (((!x14) || (!x17)) || (!x20))) (fun K => ?_) ?_
 ·rcases af ((!x14) || (!x17)) with h19 | h19
  ·refine zF h19 rfl <| zF h19 rfl <| zF h19 rfl <| zS rfl (aw (av := .v _) rfl h19 rfl) ?_;exact K _ 3 _ (ar (fI h19)) rfl rfl
  ·refine zM h19 rfl <| zT h19 rfl (aN rfl kl rfl (kf F a3 px x20 (e21 (nf h19))) ?_);refine zU h19 rfl (dq rfl) <| zS rfl (au (av := .v _) rfl h19 rfl) ?_;exact K _ 3 _ (ar (fJ h19)) rfl rfl
 refine zm rfl <| aK (l := []) 27 (B ((((!x14) || (!x17)) || (!x20)) || (!x23))) (fun K => ?_) ?_
 ·rcases af (((!x14) || (!x17)) || (!x20)) with h22 | h22
  ·refine zF h22 rfl <| zF h22 rfl <| zF h22 rfl <| zS rfl (aw (av := .v _) rfl h22 rfl) ?_;exact K _ 3 _ (ar (fI h22)) rfl rfl
  ·refine zU h22 rfl (ai (av := slE _ _ _) rfl) <| zT h22 rfl (aN rfl qf rfl (lV F a4 q5 x23 (e24 (nf h22))) ?_);refine zU h22 rfl (dq rfl) <| zS rfl (au (av := .v _) rfl h22 rfl) ?_;exact K _ 3 _ (ar (fJ h22)) rfl rfl
 refine ak <| aG rfl (fun c25 => ?_) (fun c25 => ?_)
 ·replace H := bl c25 H;refine aj <| ac ?_;show AR _ _ _ _ _ [0, 1, 2] _;refine zS rfl (hB (zs := [.int .i64 0, .int .i64 0, .string ⟨#[]⟩, .string ⟨#[]⟩, .string ⟨#[]⟩, .slice none 0 0]) (ps := [(0, 1), (1, 1), (2, 1), (3, 1), (4, 1), (5, 1)]) (cs := [i64 0, i64 0, S ([] : List UInt8), S ([] : List UInt8), S ([] : List UInt8), fA]) (by kernel_rfl) rfl rfl) <| s0 rfl rfl (bf (i := 0) (vs := [i64 0, i64 0, S ([] : List UInt8), S ([] : List UInt8), S ([] : List UInt8), fA]) (by kernel_rfl) rfl rfl (by simp [bD, slE]) rfl (ab rfl)) <| za rfl <| ak <| aP ?_;obtain ⟨rfl, rfl, rfl, rfl, rfl, rfl, rfl⟩ := res7 H;exact And.intro rfl (Exists.intro _ (Exists.intro _ ⟨dc (dy rfl (CellV.aggW (cs := [i64 0, i64 0, S ([] : List UInt8), S ([] : List UInt8), S ([] : List UInt8), fA]) (dh (off := 0) (cs := [i64 0, i64 0, S ([] : List UInt8), S ([] : List UInt8), S ([] : List UInt8), fA]) (n := 6) 0 aU rfl (by kernel_rfl) rfl rfl (ab rfl)) (.cons (.refl _) (.cons (.refl _) (.cons (.refl _) (.cons (.refl _) (.cons (.refl _) (.cons (.nil _) (.nil)))))))) ((show PlaceV _ _ _ (.tmp _) _ from (.refl _)))), aI [] rfl, rfl, rfl⟩))
 ·replace H := bc c25 H;refine aJ <| aj ?_;obtain ⟨g26, H⟩ := be H;refine ac ?_;show AR _ _ _ _ _ [0, 1, 2, 3, 4, 5, 6, 7] _;refine zm rfl <| zm rfl <| zm rfl <| zS rfl (ai (av := slE _ _ _) rfl) <| ao rfl rfl (aN rfl mJ rfl (ia a4 q5 (dn g26)) ?_);refine zS rfl (hB (zs := [.int .i64 0, .int .i64 0, .string ⟨#[]⟩, .string ⟨#[]⟩, .string ⟨#[]⟩, .slice none 0 0]) (ps := [(0, 1), (1, 1), (2, 1), (3, 1), (4, 1), (5, 1)]) (cs := [i64 0, i64 0, S a1, S a2, S a3, slE Enc.byte a4 none]) (by kernel_rfl) rfl rfl) <| s0 rfl rfl (bf (i := 0) (vs := [i64 0, i64 0, S a1, S a2, S a3, slE Enc.byte a4 none]) (by kernel_rfl) rfl rfl (by simp [bD, slE]) rfl (ab rfl)) <| za rfl <| ak <| aP ?_;obtain ⟨rfl, rfl, rfl, rfl, rfl, rfl, rfl⟩ := res7 H;exact And.intro rfl (Exists.intro _ (Exists.intro _ ⟨dc (dy rfl (dh (off := 0) (cs := [i64 0, i64 0, S a1, S a2, S a3, slE Enc.byte a4 none]) (n := 6) 0 aU rfl (by kernel_rfl) rfl rfl (ab rfl)) ((show PlaceV _ _ _ (.tmp _) _ from (.refl _)))), aI [] rfl, rfl, rfl⟩))
set_option maxRecDepth 100000 in
set_option maxHeartbeats 1000000 in
theorem oy (F : Nat) (a1 : List UInt8) (a2 : List UInt8) (r3 : Bool) (H : im F a1 a2 = some r3) : ACalls Tryz.prog 45 [S a1, S a2] [] (Ret (B r3) []) := by
 unfold im at H
 refine az Tryz.func45 rfl rfl ?_;show AW _ _ 34 _ _ _;refine aj <| ac ?_;show AR _ _ _ _ _ [0] _;refine za rfl <| ak <| aj ?_;obtain ⟨g4, H⟩ := be H;refine ac ?_;show AR _ _ _ _ _ [0, 1, 2] _;refine zm rfl <| zX rfl (la al aa aW rfl g4) ?_;rintro _ _ ⟨o5, n6, rfl, rfl⟩;refine zS rfl (aA (av := .vw _ _ _ _) rfl) <| ak <| cl (X := (List UInt8)) (fun y25 => ⟨[(1, S a2), (5, .vw o5 0 a1.length (a1.length + n6))], [], [.obj o5 (Enc.byte.fl y25 ++ List.replicate n6 .any)]⟩) (fun y25 => fq a1 a2 y25 = some r3) ?_ ?_
 ·refine aj <| ac ?_;show AR _ _ _ _ _ [0, 1, 2] _;refine zS rfl (ai (av := .vw _ _ _ _) rfl) <| zS rfl (oH aa rfl) <| zm rfl <| ak <| bu <| AW.loop (X := Nat × Int × (List UInt8)) (fun (n10, y7, y8) => ⟨[(1, S a2), (5, .vw o5 0 a1.length (a1.length + n6)), (10, .vw o5 0 a1.length (a1.length + n6)), (11, i64 (a1.length : Int)), (12, i64 y7)], [], [.obj o5 (Enc.byte.fl y8 ++ List.replicate n6 .any)]⟩) (fun (n10, y7, y8) => dx a1 a2 n10 (y7, y8) = some r3) (fun (n10, y7, y8) => n10) (F, 0, a1) H (bh [0] (.cons (.refl _) (.cons (.refl _) (.cons (.refl _) (.cons (.refl _) (.cons (.refl _) (.nil _)))))) rfl) ?_;rintro ⟨n10, y7, y8⟩ H;obtain ⟨n10, rfl, H⟩ := fW H;replace H : dY a1 a2 (dx a1 a2 n10) y7 y8 = some r3 := H
  unfold dY at H
  refine aj <| ac ?_;show AR _ _ _ _ _ [0] _;refine zS rfl (ce rfl rfl) <| ak <| aj <| aG rfl (fun c11 => ?_) (fun c11 => ?_)
  ·replace H := bl c11 H;refine aJ <| cl (X := (List UInt8)) (fun y22 => ⟨[(1, S a2), (5, .vw o5 0 a1.length (a1.length + n6)), (10, .vw o5 0 a1.length (a1.length + n6)), (11, i64 (a1.length : Int)), (12, i64 y7)], [], [.obj o5 (Enc.byte.fl y22 ++ List.replicate n6 .any)]⟩) (fun y22 => eI y7 (dx a1 a2 n10) y22 = some r3) ?_ ?_
   ·refine bu <| aj ?_;obtain ⟨g12, H⟩ := be H;obtain ⟨g13, H⟩ := be H;obtain ⟨x14, e15, H⟩ := cz H;refine ac ?_;show AR _ _ _ _ _ [0, 1, 2, 3, 4] _;refine zm rfl <| zS rfl (gS aa (by kernel_rfl) rfl rfl g12) <| zR rfl (oJ (k := 0) aW rfl rfl rfl g13 e15) <| za rfl <| za rfl <| ak <| aj <| ac ?_;show AR _ _ _ _ _ [0, 1, 2, 3, 4, 5] _;refine zm rfl <| zS rfl (et rfl rfl) <| zm rfl <| aK (l := []) 22 (B ((decide (65 ≤ (x14.toNat : Int))) && (decide ((x14.toNat : Int) ≤ 90)))) (fun K => ?_) ?_
    ·rcases af (decide (65 ≤ (x14.toNat : Int))) with h16 | h16
     ·refine zM h16 rfl <| zU h16 rfl (dm rfl rfl) <| zS rfl (aw (av := .v _) rfl h16 rfl) ?_;exact K _ 2 _ (ar (bU h16)) rfl rfl
     ·refine zF h16 rfl <| zF h16 rfl <| zS rfl (au (av := .v _) rfl h16 rfl) ?_;exact K _ 2 _ (ar (bV h16)) rfl rfl
    refine ak <| aG rfl (fun c17 => ?_) (fun c17 => ?_)
    ·replace H := bl c17 H;obtain ⟨g18, H⟩ := be H;obtain ⟨g19, H⟩ := be H;obtain ⟨x20, e21, H⟩ := cz H;refine ac ?_;show AR _ _ _ _ _ [0, 1, 2, 3, 4, 5, 6] _;refine zS rfl (ai (av := .vw _ _ _ _) rfl) <| zm rfl <| zm rfl <| zS rfl (g_add8 (a := x14) (b := 97) rfl rfl) <| zS rfl (nt (a := x14 + 97) (b := 65) rfl rfl) <| zS rfl (gS aa (by kernel_rfl) rfl rfl g18) <| s0 rfl rfl (nL (k := 0) (c := ((x14 + 97) - 65)) (by kernel_rfl) rfl rfl rfl g19 e21) <| ak ?_;exact Exists.intro x20 ⟨H, bh [0] (.cons (.refl _) (.cons (.refl _) (.cons (.refl _) (.cons (.refl _) (.cons (.refl _) (.nil _)))))) rfl⟩
    ·replace H := bc c17 H;refine aJ ?_;exact Exists.intro y8 ⟨H, bh [0] (.cons (.refl _) (.cons (.refl _) (.cons (.refl _) (.cons (.refl _) (.cons (.refl _) (.nil _)))))) rfl⟩
   rintro y22 H;replace H : eI y7 (dx a1 a2 n10) y22 = some r3 := H
   unfold eI at H
   obtain ⟨g24, H⟩ := be H;refine ac ?_;show AR _ _ _ _ _ [0, 1] _;refine zS rfl (fU rfl rfl g24) <| zm rfl <| ak ?_;exact Exists.intro (n10, y7 + 1, y22) ⟨H, Nat.lt_succ_self _, bh [0] (.cons (.refl _) (.cons (.refl _) (.cons (.refl _) (.cons (.refl _) (.cons (.refl _) (.nil _)))))) rfl⟩
  ·replace H := bc c11 H;refine AW.exit ?_;exact Exists.intro y8 ⟨H, bh [0] (.cons (.refl _) (.cons (.refl _) (.nil _))) rfl⟩
 rintro y25 H;replace H : fq a1 a2 y25 = some r3 := H
 unfold fq at H
 refine aj ?_;obtain ⟨g27, H⟩ := be H;refine ac ?_;show AR _ _ _ _ _ [0, 1, 2, 3, 4] _;refine zS rfl (ai (av := .vw _ _ _ _) rfl) <| zR rfl (kb (k := 0) aa aW al rfl g27 rfl) <| zm rfl <| zS rfl (gX rfl rfl) <| za rfl <| ak <| aP ?_;obtain rfl := aD H;exact And.intro rfl (Exists.intro _ (Exists.intro _ ⟨aQ rfl (.refl _), aI [] rfl, rfl, rfl⟩))
set_option maxRecDepth 100000 in
set_option maxHeartbeats 1000000 in
theorem pI (F : Nat) (a1 : Int) (a2 : List (List UInt8)) (a3 : Int) (a4 : Int) (a5 : Int) (r6 : Int) (H : jY F a1 a2 a3 a4 a5 = some r6) : ACalls Tryz.prog 23 [.agg [i64 a1, slE Enc.str a2 none, i64 a3, i64 a4, i64 a5]] [] (Ret (i64 r6) []) := by
 unfold jY at H
 refine az Tryz.func23 rfl rfl ?_;show AW _ _ 58 _ _ _;refine aj <| ac ?_;show AR _ _ _ _ _ [0, 1] _;refine zR rfl (cx rfl (.inr ⟨_, rfl⟩)) <| za rfl <| ak <| cl (X := Unit) (fun _ => ⟨[], [], []⟩) (fun _ => gP = some r6) ?_ ?_
 ·refine aj <| ac ?_;show AR _ _ _ _ _ [0, 1, 2, 3] _;refine zS rfl (aR (n := 1) (by kernel_rfl) rfl (ab rfl)) <| zS rfl (aL ax rfl rfl) <| zS rfl (aX ax rfl) <| zm rfl <| ak <| bu <| AW.loop (X := Nat × Int) (fun (n9, y7) => ⟨[(11, slE Enc.str a2 none), (12, i64 (a2.length : Int)), (13, i64 y7)], [], []⟩) (fun (n9, y7) => ef F a2 n9 y7 = some r6) (fun (n9, y7) => n9) (F, 0) H (bh [] (.cons (.refl _) (.cons (.refl _) (.cons (.refl _) (.nil _)))) rfl) ?_;rintro ⟨n9, y7⟩ H;obtain ⟨n9, rfl, H⟩ := fW H;replace H : dC F a2 (ef F a2 n9) y7 = some r6 := H
  unfold dC at H
  refine aj <| ac ?_;show AR _ _ _ _ _ [0] _;refine zS rfl (ce rfl rfl) <| ak <| aj <| aG rfl (fun c10 => ?_) (fun c10 => ?_)
  ·replace H := bl c10 H;refine aJ <| cl (X := Unit) (fun _ => ⟨[(11, slE Enc.str a2 none), (12, i64 (a2.length : Int)), (13, i64 y7)], [], []⟩) (fun _ => fc y7 (ef F a2 n9) = some r6) ?_ ?_
   ·refine bu <| aj ?_;obtain ⟨g11, H⟩ := be H;obtain ⟨x12, e13, H⟩ := cz H;refine ac ?_;show AR _ _ _ _ _ [0, 1, 2, 3, 4] _;refine zm rfl <| zS rfl (dX (E := Enc.str) ax (by kernel_rfl) rfl rfl g11 e13) <| zS rfl (aL al rfl rfl) <| za rfl <| za rfl <| ak <| aj ?_;obtain ⟨g14, H⟩ := be H;obtain ⟨x15, e16, H⟩ := cz H;refine ac ?_;show AR _ _ _ _ _ [0, 1, 2, 3, 4, 5, 6, 7, 8] _;refine zm rfl <| ao rfl rfl (aN rfl mF rfl (show ACalls _ _ _ [] (Ret (.tup [S x15.1, S x15.2.1, B x15.2.2]) []) from by subst e16; exact nh x12 ([32] : List UInt8) (dn g14)) ?_);refine zS rfl (ai (av := .tup _) rfl) <| zS rfl (aM (av := .v _) rfl rfl) <| zS rfl (aM (av := .v _) rfl rfl) <| zS rfl (aM (av := .v _) rfl rfl) <| za rfl <| za rfl <| za rfl <| ak <| aj <| aj ?_;obtain ⟨x19, e20, H⟩ := eM H;obtain ⟨g24, H⟩ := dP H;obtain ⟨g25, H⟩ := dP H;obtain ⟨g26, H⟩ := dP H;obtain ⟨x27, e28, H⟩ := cz H;refine ac ?_;show AR _ _ _ _ _ [0, 1, 2, 3, 4, 5, 6, 7, 8, 9, 10, 11, 12, 13, 14, 15, 16, 17, 18, 19, 20, 21, 22, 23, 24] _;refine zm rfl <| zS rfl (bI rfl rfl) <| zm rfl <| aK (l := [6, 7, 8, 9, 10, 11, 12, 13, 14, 15, 16, 17, 18, 19, 20, 21, 22, 23, 24]) 29 (B ((decide (y7 = 0)) || (!x15.2.2))) (fun K => ?_) ?_
    ·rcases af (decide (y7 = 0)) with h17 | h17
     ·refine zF h17 rfl <| zF h17 rfl <| zS rfl (aw (av := .v _) rfl h17 rfl) ?_;exact K _ 2 _ (ar (fI h17)) rfl rfl
     ·refine zM h17 rfl <| zU h17 rfl (dq rfl) <| zS rfl (au (av := .v _) rfl h17 rfl) ?_;exact K _ 2 _ (ar (fJ h17)) rfl rfl
    refine zm rfl <| aK (l := [11, 12, 13, 14, 15, 16, 17, 18, 19, 20, 21, 22, 23, 24]) 34 (B (((decide (y7 = 0)) || (!x15.2.2)) || (!x19))) (fun K => ?_) ?_
    ·rcases af ((decide (y7 = 0)) || (!x15.2.2)) with h18 | h18
     ·refine zF h18 rfl <| zF h18 rfl <| zF h18 rfl <| zS rfl (aw (av := .v _) rfl h18 rfl) ?_;exact K _ 3 _ (ar (fI h18)) rfl rfl
     ·refine zM h18 rfl <| zT h18 rfl (aN rfl qb rfl (oy F x15.1 ([115, 105, 122, 101] : List UInt8) x19 (e20 (nf h18))) ?_);refine zU h18 rfl (dq rfl) <| zS rfl (au (av := .v _) rfl h18 rfl) ?_;exact K _ 3 _ (ar (fJ h18)) rfl rfl
    refine zm rfl <| aK (l := [15, 16, 17, 18, 19, 20, 21, 22, 23, 24]) 38 (B ((((decide (y7 = 0)) || (!x15.2.2)) || (!x19)) || (decide (x15.2.1 = ([] : List UInt8))))) (fun K => ?_) ?_
    ·rcases af (((decide (y7 = 0)) || (!x15.2.2)) || (!x19)) with h21 | h21
     ·refine zF h21 rfl <| zF h21 rfl <| zS rfl (aw (av := .v _) rfl h21 rfl) ?_;exact K _ 2 _ (ar (fI h21)) rfl rfl
     ·refine zM h21 rfl <| zU h21 rfl (gX rfl rfl) <| zS rfl (au (av := .v _) rfl h21 rfl) ?_;exact K _ 2 _ (ar (fJ h21)) rfl rfl
    refine zm rfl <| aK (l := [20, 21, 22, 23, 24]) 43 (B (((((decide (y7 = 0)) || (!x15.2.2)) || (!x19)) || (decide (x15.2.1 = ([] : List UInt8)))) || (decide (9 < (x15.2.1.length : Int))))) (fun K => ?_) ?_
    ·rcases af ((((decide (y7 = 0)) || (!x15.2.2)) || (!x19)) || (decide (x15.2.1 = ([] : List UInt8)))) with h22 | h22
     ·refine zF h22 rfl <| zF h22 rfl <| zF h22 rfl <| zS rfl (aw (av := .v _) rfl h22 rfl) ?_;exact K _ 3 _ (ar (fI h22)) rfl rfl
     ·refine zM h22 rfl <| zU h22 rfl (bp al rfl) <| zU h22 rfl (fV rfl rfl) <| zS rfl (au (av := .v _) rfl h22 rfl) ?_;exact K _ 3 _ (ar (fJ h22)) rfl rfl
    refine zm rfl <| aK (l := []) 48 (B ((((((decide (y7 = 0)) || (!x15.2.2)) || (!x19)) || (decide (x15.2.1 = ([] : List UInt8)))) || (decide (9 < (x15.2.1.length : Int)))) || (!decide (x27 = ([] : List UInt8))))) (fun K => ?_) ?_
    ·rcases af (((((decide (y7 = 0)) || (!x15.2.2)) || (!x19)) || (decide (x15.2.1 = ([] : List UInt8)))) || (decide (9 < (x15.2.1.length : Int)))) with h23 | h23
     ·refine zF h23 rfl <| zF h23 rfl <| zF h23 rfl <| zS rfl (aw (av := .v _) rfl h23 rfl) ?_;exact K _ 3 _ (ar (fI h23)) rfl rfl
     ·refine zM h23 rfl <| zT h23 rfl (aN rfl qa rfl (show ACalls _ _ _ [] (Ret (S x27) []) from by subst e28; exact lib_Trim x15.2.1 ([48, 49, 50, 51, 52, 53, 54, 55, 56, 57] : List UInt8) (dn (g24 (nf h23))) (dn (g25 (nf h23))) (g26 (nf h23))) ?_);refine zU h23 rfl (pp rfl rfl) <| zS rfl (au (av := .v _) rfl h23 rfl) ?_;exact K _ 3 _ (ar (fJ h23)) rfl rfl
    refine ak <| aG rfl (fun c29 => ?_) (fun c29 => ?_)
    ·replace H := bl c29 H;refine AW.exit ?_;exact Exists.intro () ⟨H, bh [] (.cons (.refl _) (.cons (.refl _) (.cons (.refl _) (.nil _)))) rfl⟩
    ·replace H := bc c29 H;refine aJ <| aj ?_;obtain ⟨x30, x31, e32, H⟩ := dA H;refine ac ?_;show AR _ _ _ _ _ [0, 1, 2, 3, 4, 5, 6] _;refine zm rfl <| ao rfl rfl (aN rfl pZ rfl (hO F x15.2.1 x30 x31 e32) ?_);refine zS rfl (ai (av := .tup _) rfl) <| zS rfl (aM (av := .v _) rfl rfl) <| zS rfl (aM (av := eAny _ _) rfl rfl) <| za rfl <| zS rfl (aA (av := eAny _ _) rfl) <| ak <| aj <| ac ?_;show AR _ _ _ _ _ [0, 1] _;refine zS rfl (ai (av := eAny _ _) rfl) <| zS rfl (ln cK rfl rfl) <| ak <| aG rfl (fun c33 => ?_) (fun c33 => ?_)
     ·replace H := bl c33 H;refine aj <| ac ?_;show AR _ _ _ _ _ [0, 1] _;refine zm rfl <| za rfl <| ak <| aP ?_;obtain rfl := aD H;exact And.intro rfl (Exists.intro _ (Exists.intro _ ⟨aQ rfl (.refl _), aI [] rfl, rfl, rfl⟩))
     ·replace H := bc c33 H;refine aJ ?_;exact Exists.intro () ⟨H, bh [] (.cons (.refl _) (.cons (.refl _) (.cons (.refl _) (.nil _)))) rfl⟩
   rintro _ H;replace H : fc y7 (ef F a2 n9) = some r6 := H
   unfold fc at H
   obtain ⟨g35, H⟩ := be H;refine ac ?_;show AR _ _ _ _ _ [0, 1] _;refine zS rfl (fU rfl rfl g35) <| zm rfl <| ak ?_;exact Exists.intro (n9, y7 + 1) ⟨H, Nat.lt_succ_self _, bh [] (.cons (.refl _) (.cons (.refl _) (.cons (.refl _) (.nil _)))) rfl⟩
  ·replace H := bc c10 H;refine AW.exit ?_;exact Exists.intro () ⟨H, bh [] (.nil _) rfl⟩
 rintro _ H;replace H : gP = some r6 := H
 unfold gP at H
 refine aj <| ac ?_;show AR _ _ _ _ _ [0] _;refine za rfl <| ak <| aP ?_;obtain rfl := aD H;exact And.intro rfl (Exists.intro _ (Exists.intro _ ⟨aQ rfl (.refl _), aI [] rfl, rfl, rfl⟩))
set_option maxRecDepth 100000 in
set_option maxHeartbeats 1000000 in
theorem gu (F : Nat) (o1 : Nat) (a2 : Int) (a3 : Int) (a4 : List UInt8) (a5 : List UInt8) (a6 : List UInt8) (a7 : List UInt8) (a8 : List UInt8) (t9 : Nat) (a10 : Int) (a11 : List (List UInt8)) (q12 : Option Nat) (r13 : Int) (r14 : List UInt8) (H : fN F a2 a3 a4 a5 a6 a7 a8 a10 a11 = some (r13, r14)) : ACalls Tryz.prog 87 [.pt o1 0, i64 a10, slE Enc.str a11 q12] [.obj o1 [i64 a2, i64 a3, S a4, S a5, S a6, slE Enc.byte a7 none, slE Enc.byte a8 (some t9)], .tok t9 5] (fun e A' => e = .ret (.tup []) ∧ ∃ t15, A' = [.obj o1 [i64 r13, i64 a3, S a4, S a5, S a6, slE Enc.byte a7 none, slE Enc.byte r14 (some t15)], .tok t15 5]) := by
 unfold fN at H
 refine az Tryz.func87 rfl rfl ?_;show AW _ _ 22 _ _ _;refine aj <| ac ?_;show AR _ _ _ _ _ [0, 1, 2, 3, 4, 5] _;refine zS rfl (ai (av := .pt _ _) rfl) <| zm rfl <| zS rfl (am rfl) <| zS rfl (ag (n := 0) (by kernel_rfl) rfl) <| zS rfl (ag (n := 0) (by kernel_rfl) rfl) <| s0 rfl rfl (ap (i := 0) (c := .v _) (by kernel_rfl) rfl rfl rfl rfl (ab rfl)) <| ak ?_;obtain ⟨g16, H⟩ := be H;obtain ⟨x17, e18, H⟩ := cz H;obtain ⟨g19, H⟩ := be H;obtain ⟨x20, e21, H⟩ := cz H;obtain ⟨g23, H⟩ := be H;obtain ⟨x24, e25, H⟩ := cz H;refine bo (by kernel_rfl) ?_;show AI _ _ _ _ _ 12 (Array.replicate 12 false) _;refine zk 0 rfl (ai (av := .pt _ _) rfl) ?_;show AI _ _ _ _ _ _ #[true, false, false, false, false, false, false, false, false, false, false, false] _;refine zk 1 rfl (ai (av := .pt _ _) rfl) ?_;show AI _ _ _ _ _ _ #[true, true, false, false, false, false, false, false, false, false, false, false] _;refine zk 2 rfl (am rfl) ?_;show AI _ _ _ _ _ _ #[true, true, true, false, false, false, false, false, false, false, false, false] _;refine zk 3 rfl (ag (n := 6) (by kernel_rfl) rfl) ?_;show AI _ _ _ _ _ _ #[true, true, true, true, false, false, false, false, false, false, false, false] _;refine zk 5 rfl (ai (av := slE _ _ _) rfl) ?_;show AI _ _ _ _ _ _ #[true, true, true, true, false, true, false, false, false, false, false, false] _;refine cm (i := 4) (j := 6) (by kernel_rfl) rfl rfl rfl rfl ?_ ?_
 ·refine aE rfl (ah (i := 0) aa rfl rfl rfl rfl) ?_;show AI _ _ _ _ _ _ #[true, true, true, true, true, true, false, false, false, false, false, false] _;refine aF (i := 6) (by kernel_rfl) rfl rfl <| bS rfl lr rfl (show ACalls _ _ _ [] (Ret (S x17) []) from by subst e18; exact jz a11 ([] : List UInt8) q12 (jK g16).1 (jK g16).2) ?_;show AI _ _ _ _ _ _ #[true, true, true, true, true, true, true, false, false, false, false, false] _;refine zk 7 rfl (g_cat rfl rfl g19 e21) ?_;show AI _ _ _ _ _ _ #[true, true, true, true, true, true, true, true, false, false, false, false] _;refine aF (i := 8) (by kernel_rfl) rfl rfl <| AIO.opx rfl (gI (bytes := 1) 1 aa al rfl (by kernel_rfl) rfl rfl rfl rfl g23 e25) ?_;rintro _ _ ⟨t22, rfl, rfl⟩;show AI _ _ _ _ _ _ #[true, true, true, true, true, true, true, true, true, false, false, false] _;refine zk 9 rfl (am rfl) ?_;show AI _ _ _ _ _ _ #[true, true, true, true, true, true, true, true, true, true, false, false] _;refine zk 10 rfl (ag (n := 6) (by kernel_rfl) rfl) ?_;show AI _ _ _ _ _ _ #[true, true, true, true, true, true, true, true, true, true, true, false] _;refine aF (i := 11) (by kernel_rfl) rfl rfl <| bK (ap (i := 0) (c := slE _ _ _) (by kernel_rfl) rfl rfl rfl rfl (ab rfl)) ?_;show AI _ _ _ _ _ _ #[true, true, true, true, true, true, true, true, true, true, true, true] _;refine bb rfl ?_;obtain ⟨rfl, rfl⟩ := fy H
  exact And.intro rfl (Exists.intro _ (Exists.intro _ ⟨aV rfl, aI [0, 0] rfl, rfl, t22, rfl⟩))
 ·refine bS rfl lr rfl (show ACalls _ _ _ [] (Ret (S x17) []) from by subst e18; exact jz a11 ([] : List UInt8) q12 (jK g16).1 (jK g16).2) ?_;show AI _ _ _ _ _ _ #[true, true, true, true, false, true, true, false, false, false, false, false] _;refine zk 7 rfl (g_cat rfl rfl g19 e21) ?_;show AI _ _ _ _ _ _ #[true, true, true, true, false, true, true, true, false, false, false, false] _;refine aF (i := 4) (by kernel_rfl) rfl rfl <| aE rfl (ah (i := 0) aa rfl rfl rfl rfl) ?_;show AI _ _ _ _ _ _ #[true, true, true, true, true, true, true, true, false, false, false, false] _;refine aF (i := 8) (by kernel_rfl) rfl rfl <| AIO.opx rfl (gI (bytes := 1) 1 aa al rfl (by kernel_rfl) rfl rfl rfl rfl g23 e25) ?_;rintro _ _ ⟨t26, rfl, rfl⟩;show AI _ _ _ _ _ _ #[true, true, true, true, true, true, true, true, true, false, false, false] _;refine zk 9 rfl (am rfl) ?_;show AI _ _ _ _ _ _ #[true, true, true, true, true, true, true, true, true, true, false, false] _;refine zk 10 rfl (ag (n := 6) (by kernel_rfl) rfl) ?_;show AI _ _ _ _ _ _ #[true, true, true, true, true, true, true, true, true, true, true, false] _;refine aF (i := 11) (by kernel_rfl) rfl rfl <| bK (ap (i := 0) (c := slE _ _ _) (by kernel_rfl) rfl rfl rfl rfl (ab rfl)) ?_;show AI _ _ _ _ _ _ #[true, true, true, true, true, true, true, true, true, true, true, true] _;refine bb rfl ?_;obtain ⟨rfl, rfl⟩ := fy H
  exact And.intro rfl (Exists.intro _ (Exists.intro _ ⟨aV rfl, aI [0, 0] rfl, rfl, t26, rfl⟩))
set_option maxRecDepth 100000 in
set_option maxHeartbeats 1000000 in
theorem iv (F : Nat) (o1 : Nat) (a2 : Int) (a3 : Int) (a4 : List UInt8) (a5 : List UInt8) (a6 : List UInt8) (a7 : List UInt8) (a8 : List UInt8) (t9 : Nat) (a10 : Int) (r11 : Int) (r12 : Int) (r13 : List UInt8) (H : gn F a2 a3 a4 a5 a6 a7 a8 a10 = some (r11, r12, r13)) : ACalls Tryz.prog 58 [.pt o1 0, i64 a10] [.obj o1 [i64 a2, i64 a3, S a4, S a5, S a6, slE Enc.byte a7 none, slE Enc.byte a8 (some t9)], .tok t9 5] (fun e A' => e = .ret (.tup []) ∧ ∃ t14, A' = [.obj o1 [i64 r11, i64 r12, S a4, S a5, S a6, slE Enc.byte a7 none, slE Enc.byte r13 (some t14)], .tok t14 5]) := by
 unfold gn at H
 refine az Tryz.func58 rfl rfl ?_;show AW _ _ 12 _ _ _;refine aj <| ac ?_;show AR _ _ _ _ _ [0, 1, 2, 3, 4, 5] _;refine zS rfl (ai (av := .pt _ _) rfl) <| zm rfl <| zS rfl (am rfl) <| zS rfl (ag (n := 0) (by kernel_rfl) rfl) <| zS rfl (ag (n := 1) (by kernel_rfl) rfl) <| s0 rfl rfl (ap (i := 0) (c := .v _) (by kernel_rfl) rfl rfl rfl rfl (ab rfl)) <| ak ?_;obtain ⟨x15, x16, e17, H⟩ := dA H;refine ac ?_;show AR _ _ _ _ _ [0, 1, 2] _;refine zS rfl (ai (av := .pt _ _) rfl) <| zR rfl (cW (E := Enc.str) (bytes := 16) (xs := [.const _]) (l := ([([81, 85, 73, 84] : List UInt8)] : List (List UInt8))) ax (by kernel_rfl) rfl rfl (by decide) rfl rfl) <| ao rfl rfl (bZ [0, 0] rfl gA rfl (gu F o1 a2 a10 a4 a5 a6 a7 a8 t9 6 ([([81, 85, 73, 84] : List UInt8)] : List (List UInt8)) none x15 x16 e17) rfl (fun c A' h => by cases h.1) ?_)
 rintro av A' ⟨h, t18, rfl⟩; cases h
 refine ak ?_;obtain ⟨rfl, rfl, rfl⟩ := fH H;exact And.intro rfl (Exists.intro _ (Exists.intro _ ⟨aV rfl, aI [0, 0] rfl, rfl, t18, rfl⟩))
set_option maxRecDepth 100000 in
set_option maxHeartbeats 1000000 in
theorem ma (F : Nat) (o1 : Nat) (a2 : Int) (a3 : Int) (a4 : List UInt8) (a5 : List UInt8) (a6 : List UInt8) (a7 : List UInt8) (a8 : List UInt8) (t9 : Nat) (r10 : Int) (r11 : Int) (H : jU F a2 a3 a4 a5 a6 a7 a8 = some (r10, r11)) : ACalls Tryz.prog 38 [.pt o1 0] [.obj o1 [i64 a2, i64 a3, S a4, S a5, S a6, slE Enc.byte a7 none, slE Enc.byte a8 (some t9)], .tok t9 5] (fun e A' => e = .ret (.tup []) ∧ A' = [.obj o1 [i64 r10, i64 r11, S a4, S a5, S a6, slE Enc.byte a7 none, slE Enc.byte a8 (some t9)], .tok t9 5]) := by
 unfold jU at H
 refine az Tryz.func38 rfl rfl ?_;show AW _ _ 16 _ _ _;refine aj <| ac ?_;show AR _ _ _ _ _ [0, 1, 2, 3, 4] _;refine zS rfl (ai (av := .pt _ _) rfl) <| zS rfl (am rfl) <| zS rfl (ag (n := 0) (by kernel_rfl) rfl) <| zS rfl (ag (n := 0) (by kernel_rfl) rfl) <| s0 rfl rfl (ap (i := 0) (c := .v _) (by kernel_rfl) rfl rfl rfl rfl (ab rfl)) <| ak <| aj <| ac ?_;show AR _ _ _ _ _ [0, 1, 2, 3, 4, 5] _;refine zS rfl (ai (av := .pt _ _) rfl) <| zS rfl (am rfl) <| zS rfl (ag (n := 0) (by kernel_rfl) rfl) <| zS rfl (ag (n := 1) (by kernel_rfl) rfl) <| zR rfl (ah (i := 0) aq rfl rfl rfl rfl) <| zS rfl (bI rfl rfl) <| ak <| aG rfl (fun c12 => ?_) (fun c12 => ?_)
 ·replace H := bl c12 H;refine ac ?_;show AR _ _ _ _ _ [0, 1, 2, 3, 4] _;refine zS rfl (ai (av := .pt _ _) rfl) <| zS rfl (am rfl) <| zS rfl (ag (n := 0) (by kernel_rfl) rfl) <| zS rfl (ag (n := 1) (by kernel_rfl) rfl) <| s0 rfl rfl (ap (i := 0) (c := .v _) (by kernel_rfl) rfl rfl rfl rfl (ab rfl)) <| ak ?_;obtain ⟨rfl, rfl⟩ := fy H;exact And.intro rfl (Exists.intro _ (Exists.intro _ ⟨aV rfl, aI [0, 0] rfl, rfl, rfl⟩))
 ·replace H := bc c12 H;refine aJ ?_;obtain ⟨rfl, rfl⟩ := fy H;exact And.intro rfl (Exists.intro _ (Exists.intro _ ⟨aV rfl, aI [0, 0] rfl, rfl, rfl⟩))
set_option maxRecDepth 100000 in
set_option maxHeartbeats 1000000 in
theorem lg (F : Nat) (o1 : Nat) (a2 : Int) (a3 : Int) (a4 : List UInt8) (a5 : List UInt8) (a6 : List UInt8) (a7 : List UInt8) (a8 : List UInt8) (t9 : Nat) (a10 : Int) (a11 : List (List UInt8)) (a12 : Int) (a13 : Int) (a14 : Int) (r15 : Bool) (r16 : Int) (r17 : List UInt8) (H : iq F a2 a3 a4 a5 a6 a7 a8 a10 a11 a12 a13 a14 = some (r15, r16, r17)) : ACalls Tryz.prog 80 [.pt o1 0, .agg [i64 a10, slE Enc.str a11 none, i64 a12, i64 a13, i64 a14]] [.obj o1 [i64 a2, i64 a3, S a4, S a5, S a6, slE Enc.byte a7 none, slE Enc.byte a8 (some t9)], .tok t9 5] (fun e A' => e = .ret (B r15) ∧ ∃ t18, A' = [.obj o1 [i64 r16, i64 a3, S a4, S a5, S a6, slE Enc.byte a7 none, slE Enc.byte r17 (some t18)], .tok t18 5]) := by
 unfold iq at H
 refine az Tryz.func80 rfl rfl ?_;show AW _ _ 16 _ _ _;refine aj <| ac ?_;show AR _ _ _ _ _ [0, 1] _;refine zR rfl (cx rfl (.inr ⟨_, rfl⟩)) <| za rfl <| ak <| aj <| aj <| ac ?_;show AR _ _ _ _ _ [0, 1, 2] _;refine zS rfl (aR (n := 0) (by kernel_rfl) rfl (ab rfl)) <| zS rfl (aL aq rfl rfl) <| zS rfl (eY rfl rfl) <| ak <| aG rfl (fun c19 => ?_) (fun c19 => ?_)
 ·replace H := bl c19 H;refine aj <| ac ?_;show AR _ _ _ _ _ [0] _;refine za rfl <| ak <| aP ?_;obtain ⟨rfl, rfl, rfl⟩ := fH H;exact And.intro rfl (Exists.intro _ (Exists.intro _ ⟨aQ rfl (.refl _), aI [0, 0] rfl, rfl, t9, rfl⟩))
 ·replace H := bc c19 H;refine aJ <| aj ?_;obtain ⟨x20, x21, e22, H⟩ := dA H;refine ac ?_;show AR _ _ _ _ _ [0, 1, 2, 3, 4, 5, 6, 7] _;refine zS rfl (ai (av := .pt _ _) rfl) <| zS rfl (ai (av := .pt _ _) rfl) <| zS rfl (am rfl) <| zS rfl (ag (n := 0) (by kernel_rfl) rfl) <| zS rfl (ag (n := 4) (by kernel_rfl) rfl) <| zR rfl (ah (i := 0) al rfl rfl rfl rfl) <| zR rfl (cW (E := Enc.str) (bytes := 16) (xs := [.const _, .tmp 13]) (l := ([([69, 72, 76, 79, 32] : List UInt8), a6] : List (List UInt8))) ax (by kernel_rfl) rfl rfl (by decide) rfl rfl) <| ao rfl rfl (bZ [0, 0] rfl gA rfl (gu F o1 a2 a3 a4 a5 a6 a7 a8 t9 1 ([([69, 72, 76, 79, 32] : List UInt8), a6] : List (List UInt8)) none x20 x21 e22) rfl (fun c A' h => by cases h.1) ?_)
  rintro av A' ⟨h, t23, rfl⟩; cases h
  refine ak <| aj <| ac ?_;show AR _ _ _ _ _ [0] _;refine za rfl <| ak <| aP ?_;obtain ⟨rfl, rfl, rfl⟩ := fH H;exact And.intro rfl (Exists.intro _ (Exists.intro _ ⟨aQ rfl (.refl _), aI [0, 0] rfl, rfl, t23, rfl⟩))
set_option maxRecDepth 100000 in
set_option maxHeartbeats 1000000 in
theorem lf (F : Nat) (o1 : Nat) (a2 : Int) (a3 : Int) (a4 : List UInt8) (a5 : List UInt8) (a6 : List UInt8) (a7 : List UInt8) (a8 : List UInt8) (t9 : Nat) (a10 : Int) (a11 : List (List UInt8)) (a12 : Int) (a13 : Int) (a14 : Int) (r15 : Bool) (r16 : Int) (r17 : Int) (r18 : List UInt8) (H : ip F a2 a3 a4 a5 a6 a7 a8 a10 a11 a12 a13 a14 = some (r15, r16, r17, r18)) : ACalls Tryz.prog 81 [.pt o1 0, .agg [i64 a10, slE Enc.str a11 none, i64 a12, i64 a13, i64 a14]] [.obj o1 [i64 a2, i64 a3, S a4, S a5, S a6, slE Enc.byte a7 none, slE Enc.byte a8 (some t9)], .tok t9 5] (fun e A' => e = .ret (B r15) ∧ ∃ t19, A' = [.obj o1 [i64 r16, i64 r17, S a4, S a5, S a6, slE Enc.byte a7 none, slE Enc.byte r18 (some t19)], .tok t19 5]) := by
 unfold ip at H
 refine az Tryz.func81 rfl rfl ?_;show AW _ _ 41 _ _ _;refine aj <| ac ?_;show AR _ _ _ _ _ [0, 1] _;refine zR rfl (cx rfl (.inr ⟨_, rfl⟩)) <| za rfl <| ak <| aj <| aj <| ac ?_;show AR _ _ _ _ _ [0, 1, 2, 3] _;refine zS rfl (aR (n := 0) (by kernel_rfl) rfl (ab rfl)) <| zS rfl (aL aq rfl rfl) <| zS rfl (gC rfl rfl (by decide)) <| zS rfl (eY rfl rfl) <| ak <| aG rfl (fun c20 => ?_) (fun c20 => ?_)
 ·replace H := bl c20 H;refine aj <| ac ?_;show AR _ _ _ _ _ [0] _;refine za rfl <| ak <| aP ?_;obtain ⟨rfl, rfl, rfl, rfl⟩ := res4 H;exact And.intro rfl (Exists.intro _ (Exists.intro _ ⟨aQ rfl (.refl _), aI [0, 0] rfl, rfl, t9, rfl⟩))
 ·replace H := bc c20 H;refine aJ <| aj ?_;obtain ⟨x21, x22, e23, H⟩ := dA H;refine ac ?_;show AR _ _ _ _ _ [0, 1, 2, 3, 4, 5, 6, 7, 8, 9, 10] _;refine zS rfl (ai (av := .pt _ _) rfl) <| zS rfl (am rfl) <| zS rfl (ag (n := 0) (by kernel_rfl) rfl) <| zS rfl (ag (n := 5) (by kernel_rfl) rfl) <| zR rfl (ah (i := 0) aa rfl rfl rfl rfl) <| ao rfl rfl (aN rfl mM rfl (kr F a7 none x21 x22 e23) ?_);refine zS rfl (ai (av := .tup _) rfl) <| zS rfl (aM (av := slE _ _ _) rfl rfl) <| zS rfl (aM (av := .v _) rfl rfl) <| zS rfl (aA (av := slE _ _ _) rfl) <| za rfl <| ak <| aj <| aj ?_;obtain ⟨x24, e25, H⟩ := dp H;refine ac ?_;show AR _ _ _ _ _ [0, 1, 2] _;refine zS rfl (bk bB rfl (n := 5) (by kernel_rfl) rfl (ab rfl)) <| ao rfl rfl (aN rfl qg rfl (pI F a10 a11 a12 a13 a14 x24 e25) ?_);refine za rfl <| ak <| aj <| ac ?_;show AR _ _ _ _ _ [0, 1, 2, 3, 4, 5, 6, 7] _;refine zm rfl <| zS rfl (fV rfl rfl) <| zm rfl <| aK (l := []) 30 (B ((decide (0 < x24)) && (decide (x24 < (x21.length : Int))))) (fun K => ?_) ?_
  ·rcases af (decide (0 < x24)) with h26 | h26
   ·refine zM h26 rfl <| zU h26 rfl (ai (av := slE _ _ _) rfl) <| zU h26 rfl (aX aa rfl) <| zU h26 rfl (ce rfl rfl) <| zS rfl (aw (av := .v _) rfl h26 rfl) ?_;exact K _ 4 _ (ar (bU h26)) rfl rfl
   ·refine zF h26 rfl <| zF h26 rfl <| zF h26 rfl <| zF h26 rfl <| zS rfl (au (av := .v _) rfl h26 rfl) ?_;exact K _ 4 _ (ar (bV h26)) rfl rfl
  refine ak <| aG rfl (fun c27 => ?_) (fun c27 => ?_)
  ·replace H := bl c27 H;refine aj ?_;obtain ⟨x28, x29, x30, e31, H⟩ := fa H;refine ac ?_;show AR _ _ _ _ _ [0, 1] _;refine zS rfl (ai (av := .pt _ _) rfl) <| ao rfl rfl (bZ [0, 0] rfl iz rfl (iv F o1 a2 a3 a4 a5 a6 a7 a8 t9 3 x28 x29 x30 e31) rfl (fun c A' h => by cases h.1) ?_)
   rintro av A' ⟨h, t32, rfl⟩; cases h
   refine ak <| aj <| ac ?_;show AR _ _ _ _ _ [0] _;refine za rfl <| ak <| aP ?_;obtain ⟨rfl, rfl, rfl, rfl⟩ := res4 H;exact And.intro rfl (Exists.intro _ (Exists.intro _ ⟨aQ rfl (.refl _), aI [0, 0] rfl, rfl, t32, rfl⟩))
  ·replace H := bc c27 H;refine aJ <| aj ?_;obtain ⟨x33, x34, e35, H⟩ := dA H;refine ac ?_;show AR _ _ _ _ _ [0, 1, 2, 3, 4, 5, 6, 7] _;refine zS rfl (ai (av := .pt _ _) rfl) <| zS rfl (ai (av := .pt _ _) rfl) <| zS rfl (am rfl) <| zS rfl (ag (n := 0) (by kernel_rfl) rfl) <| zS rfl (ag (n := 2) (by kernel_rfl) rfl) <| zR rfl (ah (i := 0) al rfl rfl rfl rfl) <| zR rfl (cW (E := Enc.str) (bytes := 16) (xs := [.const _, .tmp 38, .const _]) (l := ([([77, 65, 73, 76, 32, 70, 82, 79, 77, 58, 60] : List UInt8), a4, ([62] : List UInt8)] : List (List UInt8))) ax (by kernel_rfl) rfl rfl (by decide) rfl rfl) <| ao rfl rfl (bZ [0, 0] rfl gA rfl (gu F o1 a2 a3 a4 a5 a6 a7 a8 t9 2 ([([77, 65, 73, 76, 32, 70, 82, 79, 77, 58, 60] : List UInt8), a4, ([62] : List UInt8)] : List (List UInt8)) none x33 x34 e35) rfl (fun c A' h => by cases h.1) ?_)
   rintro av A' ⟨h, t36, rfl⟩; cases h
   refine ak <| aj <| ac ?_;show AR _ _ _ _ _ [0] _;refine za rfl <| ak <| aP ?_;obtain ⟨rfl, rfl, rfl, rfl⟩ := res4 H;exact And.intro rfl (Exists.intro _ (Exists.intro _ ⟨aQ rfl (.refl _), aI [0, 0] rfl, rfl, t36, rfl⟩))
set_option maxRecDepth 100000 in
set_option maxHeartbeats 1000000 in
theorem lZ (F : Nat) (o1 : Nat) (a2 : Int) (a3 : Int) (a4 : List UInt8) (a5 : List UInt8) (a6 : List UInt8) (a7 : List UInt8) (a8 : List UInt8) (t9 : Nat) (a10 : Int) (a11 : List (List UInt8)) (a12 : Int) (a13 : Int) (a14 : Int) (r15 : Bool) (r16 : Int) (r17 : List UInt8) (H : jT F a2 a3 a4 a5 a6 a7 a8 a10 a11 a12 a13 a14 = some (r15, r16, r17)) : ACalls Tryz.prog 82 [.pt o1 0, .agg [i64 a10, slE Enc.str a11 none, i64 a12, i64 a13, i64 a14]] [.obj o1 [i64 a2, i64 a3, S a4, S a5, S a6, slE Enc.byte a7 none, slE Enc.byte a8 (some t9)], .tok t9 5] (fun e A' => e = .ret (B r15) ∧ ∃ t18, A' = [.obj o1 [i64 r16, i64 a3, S a4, S a5, S a6, slE Enc.byte a7 none, slE Enc.byte r17 (some t18)], .tok t18 5]) := by
 unfold jT at H
 refine az Tryz.func82 rfl rfl ?_;show AW _ _ 17 _ _ _;refine aj <| ac ?_;show AR _ _ _ _ _ [0, 1] _;refine zR rfl (cx rfl (.inr ⟨_, rfl⟩)) <| za rfl <| ak <| aj <| aj <| ac ?_;show AR _ _ _ _ _ [0, 1, 2, 3] _;refine zS rfl (aR (n := 0) (by kernel_rfl) rfl (ab rfl)) <| zS rfl (aL aq rfl rfl) <| zS rfl (gC rfl rfl (by decide)) <| zS rfl (eY rfl rfl) <| ak <| aG rfl (fun c19 => ?_) (fun c19 => ?_)
 ·replace H := bl c19 H;refine aj <| ac ?_;show AR _ _ _ _ _ [0] _;refine za rfl <| ak <| aP ?_;obtain ⟨rfl, rfl, rfl⟩ := fH H;exact And.intro rfl (Exists.intro _ (Exists.intro _ ⟨aQ rfl (.refl _), aI [0, 0] rfl, rfl, t9, rfl⟩))
 ·replace H := bc c19 H;refine aJ <| aj ?_;obtain ⟨x20, x21, e22, H⟩ := dA H;refine ac ?_;show AR _ _ _ _ _ [0, 1, 2, 3, 4, 5, 6, 7] _;refine zS rfl (ai (av := .pt _ _) rfl) <| zS rfl (ai (av := .pt _ _) rfl) <| zS rfl (am rfl) <| zS rfl (ag (n := 0) (by kernel_rfl) rfl) <| zS rfl (ag (n := 3) (by kernel_rfl) rfl) <| zR rfl (ah (i := 0) al rfl rfl rfl rfl) <| zR rfl (cW (E := Enc.str) (bytes := 16) (xs := [.const _, .tmp 14, .const _]) (l := ([([82, 67, 80, 84, 32, 84, 79, 58, 60] : List UInt8), a5, ([62] : List UInt8)] : List (List UInt8))) ax (by kernel_rfl) rfl rfl (by decide) rfl rfl) <| ao rfl rfl (bZ [0, 0] rfl gA rfl (gu F o1 a2 a3 a4 a5 a6 a7 a8 t9 3 ([([82, 67, 80, 84, 32, 84, 79, 58, 60] : List UInt8), a5, ([62] : List UInt8)] : List (List UInt8)) none x20 x21 e22) rfl (fun c A' h => by cases h.1) ?_)
  rintro av A' ⟨h, t23, rfl⟩; cases h
  refine ak <| aj <| ac ?_;show AR _ _ _ _ _ [0] _;refine za rfl <| ak <| aP ?_;obtain ⟨rfl, rfl, rfl⟩ := fH H;exact And.intro rfl (Exists.intro _ (Exists.intro _ ⟨aQ rfl (.refl _), aI [0, 0] rfl, rfl, t23, rfl⟩))
set_option maxRecDepth 100000 in
set_option maxHeartbeats 1000000 in
theorem lX (F : Nat) (o1 : Nat) (a2 : Int) (a3 : Int) (a4 : List UInt8) (a5 : List UInt8) (a6 : List UInt8) (a7 : List UInt8) (a8 : List UInt8) (t9 : Nat) (a10 : Int) (a11 : List (List UInt8)) (a12 : Int) (a13 : Int) (a14 : Int) (r15 : Bool) (r16 : Int) (r17 : List UInt8) (H : jR F a2 a3 a4 a5 a6 a7 a8 a10 a11 a12 a13 a14 = some (r15, r16, r17)) : ACalls Tryz.prog 83 [.pt o1 0, .agg [i64 a10, slE Enc.str a11 none, i64 a12, i64 a13, i64 a14]] [.obj o1 [i64 a2, i64 a3, S a4, S a5, S a6, slE Enc.byte a7 none, slE Enc.byte a8 (some t9)], .tok t9 5] (fun e A' => e = .ret (B r15) ∧ ∃ t18, A' = [.obj o1 [i64 r16, i64 a3, S a4, S a5, S a6, slE Enc.byte a7 none, slE Enc.byte r17 (some t18)], .tok t18 5]) := by
 unfold jR at H
 refine az Tryz.func83 rfl rfl ?_;show AW _ _ 12 _ _ _;refine aj <| ac ?_;show AR _ _ _ _ _ [0, 1] _;refine zR rfl (cx rfl (.inr ⟨_, rfl⟩)) <| za rfl <| ak <| aj <| aj <| ac ?_;show AR _ _ _ _ _ [0, 1, 2, 3] _;refine zS rfl (aR (n := 0) (by kernel_rfl) rfl (ab rfl)) <| zS rfl (aL aq rfl rfl) <| zS rfl (gC rfl rfl (by decide)) <| zS rfl (eY rfl rfl) <| ak <| aG rfl (fun c19 => ?_) (fun c19 => ?_)
 ·replace H := bl c19 H;refine aj <| ac ?_;show AR _ _ _ _ _ [0] _;refine za rfl <| ak <| aP ?_;obtain ⟨rfl, rfl, rfl⟩ := fH H;exact And.intro rfl (Exists.intro _ (Exists.intro _ ⟨aQ rfl (.refl _), aI [0, 0] rfl, rfl, t9, rfl⟩))
 ·replace H := bc c19 H;refine aJ <| aj ?_;obtain ⟨x20, x21, e22, H⟩ := dA H;refine ac ?_;show AR _ _ _ _ _ [0, 1, 2] _;refine zS rfl (ai (av := .pt _ _) rfl) <| zR rfl (cW (E := Enc.str) (bytes := 16) (xs := [.const _]) (l := ([([68, 65, 84, 65] : List UInt8)] : List (List UInt8))) ax (by kernel_rfl) rfl rfl (by decide) rfl rfl) <| ao rfl rfl (bZ [0, 0] rfl gA rfl (gu F o1 a2 a3 a4 a5 a6 a7 a8 t9 4 ([([68, 65, 84, 65] : List UInt8)] : List (List UInt8)) none x20 x21 e22) rfl (fun c A' h => by cases h.1) ?_)
  rintro av A' ⟨h, t23, rfl⟩; cases h
  refine ak <| aj <| ac ?_;show AR _ _ _ _ _ [0] _;refine za rfl <| ak <| aP ?_;obtain ⟨rfl, rfl, rfl⟩ := fH H;exact And.intro rfl (Exists.intro _ (Exists.intro _ ⟨aQ rfl (.refl _), aI [0, 0] rfl, rfl, t23, rfl⟩))
set_option maxRecDepth 100000 in
set_option maxHeartbeats 1000000 in
theorem mb (F : Nat) (o1 : Nat) (a2 : Int) (a3 : Int) (a4 : List UInt8) (a5 : List UInt8) (a6 : List UInt8) (a7 : List UInt8) (a8 : List UInt8) (t9 : Nat) (a10 : Int) (a11 : List (List UInt8)) (a12 : Int) (a13 : Int) (a14 : Int) (r15 : Bool) (r16 : Int) (r17 : List UInt8) (H : jV F a2 a3 a4 a5 a6 a7 a8 a10 a11 a12 a13 a14 = some (r15, r16, r17)) : ACalls Tryz.prog 84 [.pt o1 0, .agg [i64 a10, slE Enc.str a11 none, i64 a12, i64 a13, i64 a14]] [.obj o1 [i64 a2, i64 a3, S a4, S a5, S a6, slE Enc.byte a7 none, slE Enc.byte a8 (some t9)], .tok t9 5] (fun e A' => e = .ret (B r15) ∧ ∃ t18, A' = [.obj o1 [i64 r16, i64 a3, S a4, S a5, S a6, slE Enc.byte a7 none, slE Enc.byte r17 (some t18)], .tok t18 5]) := by
 unfold jV at H
 refine az Tryz.func84 rfl rfl ?_;show AW _ _ 32 _ _ _;refine aj <| ac ?_;show AR _ _ _ _ _ [0, 1] _;refine zR rfl (cx rfl (.inr ⟨_, rfl⟩)) <| za rfl <| ak <| aj <| aj <| ac ?_;show AR _ _ _ _ _ [0, 1, 2] _;refine zS rfl (aR (n := 0) (by kernel_rfl) rfl (ab rfl)) <| zS rfl (aL aq rfl rfl) <| zS rfl (eY rfl rfl) <| ak <| aG rfl (fun c19 => ?_) (fun c19 => ?_)
 ·replace H := bl c19 H;refine aj <| ac ?_;show AR _ _ _ _ _ [0] _;refine za rfl <| ak <| aP ?_;obtain ⟨rfl, rfl, rfl⟩ := fH H;exact And.intro rfl (Exists.intro _ (Exists.intro _ ⟨aQ rfl (.refl _), aI [0, 0] rfl, rfl, t9, rfl⟩))
 ·replace H := bc c19 H;refine aJ <| aj ?_;obtain ⟨x20, x21, e22, H⟩ := dA H;refine ac ?_;show AR _ _ _ _ _ [0, 1, 2, 3, 4, 5, 6, 7, 8, 9, 10] _;refine zS rfl (ai (av := .pt _ _) rfl) <| zS rfl (am rfl) <| zS rfl (ag (n := 0) (by kernel_rfl) rfl) <| zS rfl (ag (n := 5) (by kernel_rfl) rfl) <| zR rfl (ah (i := 0) aa rfl rfl rfl rfl) <| ao rfl rfl (aN rfl mM rfl (kr F a7 none x20 x21 e22) ?_);refine zS rfl (ai (av := .tup _) rfl) <| zS rfl (aM (av := slE _ _ _) rfl rfl) <| zS rfl (aM (av := .v _) rfl rfl) <| zS rfl (aA (av := slE _ _ _) rfl) <| za rfl <| ak <| aj ?_;obtain ⟨g24, H⟩ := be H;obtain ⟨x25, e26, H⟩ := cz H;refine ac ?_;show AR _ _ _ _ _ [0, 1, 2, 3, 4, 5, 6, 7, 8, 9, 10, 11, 12, 13, 14] _;refine zS rfl (ai (av := .pt _ _) rfl) <| zS rfl (ai (av := .pt _ _) rfl) <| zS rfl (ai (av := .pt _ _) rfl) <| zS rfl (am rfl) <| zS rfl (ag (n := 6) (by kernel_rfl) rfl) <| zR rfl (ah (i := 0) aa rfl rfl rfl rfl) <| zS rfl (ai (av := slE _ _ _) rfl) <| zX rfl (ez (E := Enc.byte) (bytes := 1) 1 aa aa rfl (by kernel_rfl) rfl rfl rfl rfl g24 e26) ?_;rintro _ _ ⟨t23, rfl, rfl⟩
  refine zS rfl (am rfl) <| zS rfl (ag (n := 0) (by kernel_rfl) rfl) <| zS rfl (ag (n := 0) (by kernel_rfl) rfl) <| s0 rfl rfl (ap (i := 0) (c := .v _) (by kernel_rfl) rfl rfl rfl rfl (ab rfl)) <| zS rfl (am rfl) <| zS rfl (ag (n := 6) (by kernel_rfl) rfl) <| s0 rfl rfl (ap (i := 0) (c := slE _ _ _) (by kernel_rfl) rfl rfl rfl rfl (ab rfl)) <| ak <| aj <| ac ?_;show AR _ _ _ _ _ [0] _;refine za rfl <| ak <| aP ?_;obtain ⟨rfl, rfl, rfl⟩ := fH H;exact And.intro rfl (Exists.intro _ (Exists.intro _ ⟨aQ rfl (.refl _), aI [0, 0] rfl, rfl, t23, rfl⟩))
set_option maxRecDepth 100000 in
set_option maxHeartbeats 1000000 in
theorem mc (F : Nat) (o1 : Nat) (a2 : Int) (a3 : Int) (a4 : List UInt8) (a5 : List UInt8) (a6 : List UInt8) (a7 : List UInt8) (a8 : List UInt8) (t9 : Nat) (a10 : Int) (a11 : List (List UInt8)) (a12 : Int) (a13 : Int) (a14 : Int) (r15 : Bool) (r16 : Int) (r17 : Int) (r18 : List UInt8) (H : jW F a2 a3 a4 a5 a6 a7 a8 a10 a11 a12 a13 a14 = some (r15, r16, r17, r18)) : ACalls Tryz.prog 85 [.pt o1 0, .agg [i64 a10, slE Enc.str a11 none, i64 a12, i64 a13, i64 a14]] [.obj o1 [i64 a2, i64 a3, S a4, S a5, S a6, slE Enc.byte a7 none, slE Enc.byte a8 (some t9)], .tok t9 5] (fun e A' => e = .ret (B r15) ∧ ∃ t19, A' = [.obj o1 [i64 r16, i64 r17, S a4, S a5, S a6, slE Enc.byte a7 none, slE Enc.byte r18 (some t19)], .tok t19 5]) := by
 unfold jW at H
 refine az Tryz.func85 rfl rfl ?_;show AW _ _ 11 _ _ _;refine aj <| ac ?_;show AR _ _ _ _ _ [0, 1] _;refine zR rfl (cx rfl (.inr ⟨_, rfl⟩)) <| za rfl <| ak <| aj <| aj <| ac ?_;show AR _ _ _ _ _ [0, 1, 2, 3] _;refine zS rfl (aR (n := 0) (by kernel_rfl) rfl (ab rfl)) <| zS rfl (aL aq rfl rfl) <| zS rfl (gC rfl rfl (by decide)) <| zS rfl (eY rfl rfl) <| ak <| aG rfl (fun c20 => ?_) (fun c20 => ?_)
 ·replace H := bl c20 H;refine aj <| ac ?_;show AR _ _ _ _ _ [0] _;refine za rfl <| ak <| aP ?_;obtain ⟨rfl, rfl, rfl, rfl⟩ := res4 H;exact And.intro rfl (Exists.intro _ (Exists.intro _ ⟨aQ rfl (.refl _), aI [0, 0] rfl, rfl, t9, rfl⟩))
 ·replace H := bc c20 H;refine aJ <| aj ?_;obtain ⟨x21, x22, x23, e24, H⟩ := fa H;refine ac ?_;show AR _ _ _ _ _ [0, 1] _;refine zS rfl (ai (av := .pt _ _) rfl) <| ao rfl rfl (bZ [0, 0] rfl iz rfl (iv F o1 a2 a3 a4 a5 a6 a7 a8 t9 1 x21 x22 x23 e24) rfl (fun c A' h => by cases h.1) ?_)
  rintro av A' ⟨h, t25, rfl⟩; cases h
  refine ak <| aj <| ac ?_;show AR _ _ _ _ _ [0] _;refine za rfl <| ak <| aP ?_;obtain ⟨rfl, rfl, rfl, rfl⟩ := res4 H;exact And.intro rfl (Exists.intro _ (Exists.intro _ ⟨aQ rfl (.refl _), aI [0, 0] rfl, rfl, t25, rfl⟩))
set_option maxRecDepth 100000 in
set_option maxHeartbeats 1000000 in
theorem lY (F : Nat) (o1 : Nat) (a2 : Int) (a3 : Int) (a4 : List UInt8) (a5 : List UInt8) (a6 : List UInt8) (a7 : List UInt8) (a8 : List UInt8) (t9 : Nat) (a10 : Int) (a11 : List (List UInt8)) (a12 : Int) (a13 : Int) (a14 : Int) (r15 : Bool) (r16 : Int) (H : kV F a2 a3 a4 a5 a6 a7 a8 a10 a11 a12 a13 a14 = some (r15, r16)) : ACalls Tryz.prog 86 [.pt o1 0, .agg [i64 a10, slE Enc.str a11 none, i64 a12, i64 a13, i64 a14]] [.obj o1 [i64 a2, i64 a3, S a4, S a5, S a6, slE Enc.byte a7 none, slE Enc.byte a8 (some t9)], .tok t9 5] (fun e A' => e = .ret (B r15) ∧ A' = [.obj o1 [i64 r16, i64 a3, S a4, S a5, S a6, slE Enc.byte a7 none, slE Enc.byte a8 (some t9)], .tok t9 5]) := by
 unfold kV at H
 refine az Tryz.func86 rfl rfl ?_;show AW _ _ 9 _ _ _;refine aj <| ac ?_;show AR _ _ _ _ _ [0, 1] _;refine zR rfl (cx rfl (.inr ⟨_, rfl⟩)) <| za rfl <| ak <| aj <| ac ?_;show AR _ _ _ _ _ [0, 1, 2, 3, 4] _;refine zS rfl (ai (av := .pt _ _) rfl) <| zS rfl (am rfl) <| zS rfl (ag (n := 0) (by kernel_rfl) rfl) <| zS rfl (ag (n := 0) (by kernel_rfl) rfl) <| s0 rfl rfl (ap (i := 0) (c := .v _) (by kernel_rfl) rfl rfl rfl rfl (ab rfl)) <| ak <| aj <| ac ?_;show AR _ _ _ _ _ [0] _;refine za rfl <| ak <| aP ?_;obtain ⟨rfl, rfl⟩ := fy H;exact And.intro rfl (Exists.intro _ (Exists.intro _ ⟨aQ rfl (.refl _), aI [0, 0] rfl, rfl, rfl⟩))
abbrev _root_.Go.Av.bi := @Tryz.underlying92
set_option maxRecDepth 100000 in
set_option maxHeartbeats 1000000 in
theorem cd (F : Nat) (H : dQ F = some ()) : ACalls Tryz.prog 57 [] [] (Ret (.agg [.v (.func (.func 80) #[] #[]), .v (.func (.func 81) #[] #[]), .v (.func (.func 82) #[] #[]), .v (.func (.func 83) #[] #[]), .v (.func (.func 84) #[] #[]), .v (.func (.func 85) #[] #[]), .v (.func (.func 86) #[] #[])]) []) := by
 unfold dQ at H
 refine az Tryz.func57 rfl rfl ?_;show AW _ _ 2 _ _ _;refine aj <| ac ?_;show AR _ _ _ _ _ [0] _;refine zX rfl (ci (zs := [.nilFunc, .nilFunc, .nilFunc, .nilFunc, .nilFunc, .nilFunc, .nilFunc]) (by kernel_rfl)) ?_;rintro _ _ ⟨o1, rfl, rfl⟩;refine ak <| aj <| ac ?_;show AR _ _ _ _ _ [0, 1] _;refine zS rfl (oL (zs := [.nilFunc, .nilFunc, .nilFunc, .nilFunc, .nilFunc, .nilFunc, .nilFunc]) (k := 1) (cs := [.v (.func (.func 80) #[] #[]), .v (.func (.func 81) #[] #[]), .v (.func (.func 82) #[] #[]), .v (.func (.func 83) #[] #[]), .v (.func (.func 84) #[] #[]), .v (.func (.func 85) #[] #[]), .v (.func (.func 86) #[] #[])]) bi (by kernel_rfl) (by kernel_rfl) rfl rfl (by kernel_rfl)) <| s0 rfl rfl (bf (i := 0) (vs := [.v (.func (.func 80) #[] #[]), .v (.func (.func 81) #[] #[]), .v (.func (.func 82) #[] #[]), .v (.func (.func 83) #[] #[]), .v (.func (.func 84) #[] #[]), .v (.func (.func 85) #[] #[]), .v (.func (.func 86) #[] #[])]) (by kernel_rfl) rfl rfl (by simp [bD, slE]) rfl (ab rfl)) <| ak <| aP ?_;exact And.intro rfl (Exists.intro _ (Exists.intro _ ⟨dc (dZ rfl (dh (off := 0) (cs := [.v (.func (.func 80) #[] #[]), .v (.func (.func 81) #[] #[]), .v (.func (.func 82) #[] #[]), .v (.func (.func 83) #[] #[]), .v (.func (.func 84) #[] #[]), .v (.func (.func 85) #[] #[]), .v (.func (.func 86) #[] #[])]) (n := 7) 0 bi rfl (by kernel_rfl) rfl rfl (ab rfl))), aI [] rfl, rfl, rfl⟩))
abbrev _root_.Go.Av.bq := @Tryz.underlying91
set_option maxRecDepth 100000 in
set_option maxHeartbeats 1000000 in
theorem lW (F : Nat) (o1 : Nat) (a2 : Int) (a3 : Int) (a4 : List UInt8) (a5 : List UInt8) (a6 : List UInt8) (a7 : List UInt8) (a8 : List UInt8) (t9 : Nat) (a10 : Int) (a11 : List (List UInt8)) (a12 : Int) (a13 : Int) (a14 : Int) (r15 : Int) (r16 : Int) (r17 : List UInt8) (H : iL F a2 a3 a4 a5 a6 a7 a8 a10 a11 a12 a13 a14 = some (r15, r16, r17)) : ACalls Tryz.prog 37 [.pt o1 0, .agg [i64 a10, slE Enc.str a11 none, i64 a12, i64 a13, i64 a14]] [.obj o1 [i64 a2, i64 a3, S a4, S a5, S a6, slE Enc.byte a7 none, slE Enc.byte a8 (some t9)], .tok t9 5] (fun e A' => e = .ret (.tup []) ∧ ∃ t18, A' = [.obj o1 [i64 r15, i64 r16, S a4, S a5, S a6, slE Enc.byte a7 none, slE Enc.byte r17 (some t18)], .tok t18 5]) := by
 unfold iL at H
 refine az Tryz.func37 rfl rfl ?_;show AW _ _ 49 _ _ _;refine aj <| ac ?_;show AR _ _ _ _ _ [0] _;refine zR rfl (cx rfl (.inr ⟨_, rfl⟩)) <| ak <| bu <| aj <| ac ?_;show AR _ _ _ _ _ [0, 1, 2, 3, 4, 5, 6, 7, 8, 9, 10, 11, 12, 13, 14] _;refine zS rfl (ai (av := .pt _ _) rfl) <| zS rfl (am rfl) <| zS rfl (ag (n := 0) (by kernel_rfl) rfl) <| zS rfl (ag (n := 0) (by kernel_rfl) rfl) <| zR rfl (ah (i := 0) aq rfl rfl rfl rfl) <| zS rfl (ce rfl rfl) <| zm rfl <| aK (l := [14]) 20 (B ((decide (a2 < 0)) || (decide (7 ≤ a2)))) (fun K => ?_) ?_
 ·rcases af (decide (a2 < 0)) with h19 | h19
  ·refine zF h19 rfl <| zF h19 rfl <| zF h19 rfl <| zF h19 rfl <| zF h19 rfl <| zF h19 rfl <| zS rfl (aw (av := .v _) rfl h19 rfl) ?_;exact K _ 6 _ (ar (fI h19)) rfl rfl
  ·refine zU h19 rfl (ai (av := .pt _ _) rfl) <| zU h19 rfl (am rfl) <| zU h19 rfl (ag (n := 0) (by kernel_rfl) rfl) <| zU h19 rfl (ag (n := 0) (by kernel_rfl) rfl) <| zT h19 rfl (bE rfl rfl (ah (i := 0) aq rfl rfl rfl rfl) ?_);refine zU h19 rfl (et rfl rfl) <| zS rfl (au (av := .v _) rfl h19 rfl) ?_;exact K _ 6 _ (ar (fJ h19)) rfl rfl
 refine za rfl <| ak <| aG rfl (fun c20 => ?_) (fun c20 => ?_)
 ·replace H := bl c20 H;refine aJ ?_;obtain ⟨rfl, rfl, rfl⟩ := fH H;exact And.intro rfl (Exists.intro _ (Exists.intro _ ⟨aV rfl, aI [0, 0] rfl, rfl, t9, rfl⟩))
 ·replace H := bc c20 H;refine aj <| ac ?_;show AR _ _ _ _ _ [0, 1, 2, 3] _;refine zS rfl (aR (n := 0) (by kernel_rfl) rfl (ab rfl)) <| zS rfl (aL aq rfl rfl) <| zS rfl (bI rfl rfl) <| za rfl <| ak <| aG rfl (fun c21 => ?_) (fun c21 => ?_)
  ·replace H := bl c21 H;obtain ⟨x22, x23, e24, H⟩ := dA H;refine ac ?_;show AR _ _ _ _ _ [0, 1] _;refine zS rfl (ai (av := .pt _ _) rfl) <| ao rfl rfl (bZ [0, 0] rfl mG rfl (ma F o1 a2 a3 a4 a5 a6 a7 a8 t9 x22 x23 e24) rfl (fun c A' h => by cases h.1) ?_)
   rintro av A' ⟨h, rfl⟩; cases h
   refine ak ?_;obtain ⟨rfl, rfl, rfl⟩ := fH H;exact And.intro rfl (Exists.intro _ (Exists.intro _ ⟨aV rfl, aI [0, 0] rfl, rfl, t9, rfl⟩))
  ·replace H := bc c21 H;refine cl (X := Bool × Int × Int × (List UInt8) × Nat) (fun (y74, y75, y76, y77, t78) => ⟨[(0, .pt o1 0), (3, .cp [i64 a10, slE Enc.str a11 none, i64 a12, i64 a13, i64 a14]), (27, B y74)], [], [.obj o1 [i64 y75, i64 y76, S a4, S a5, S a6, slE Enc.byte a7 none, slE Enc.byte y77 (some t78)], .tok t78 5]⟩) (fun (y74, y75, y76, y77, t78) => cr F a4 a5 a6 a7 a10 y74 y75 y76 y77 = some (r15, r16, r17)) ?_ ?_
   ·obtain ⟨g25, H⟩ := be H
    rcases idx7 g25 with rfl | rfl | rfl | rfl | rfl | rfl | rfl
    ·replace H := bl (by decide) H;obtain ⟨_, e26, H⟩ := dp H;obtain ⟨x27, x28, x29, e30, H⟩ := fa H;refine bo (by kernel_rfl) ?_;show AI _ _ _ _ _ 11 (Array.replicate 11 false) _;refine zk 1 rfl (ai (av := .pt _ _) rfl) ?_;show AI _ _ _ _ _ _ #[false, true, false, false, false, false, false, false, false, false, false] _;refine zk 2 rfl (am rfl) ?_;show AI _ _ _ _ _ _ #[false, true, true, false, false, false, false, false, false, false, false] _;refine zk 3 rfl (ag (n := 0) (by kernel_rfl) rfl) ?_;show AI _ _ _ _ _ _ #[false, true, true, true, false, false, false, false, false, false, false] _;refine zk 4 rfl (ag (n := 0) (by kernel_rfl) rfl) ?_;show AI _ _ _ _ _ _ #[false, true, true, true, true, false, false, false, false, false, false] _;refine zk 7 rfl (ai (av := .pt _ _) rfl) ?_;show AI _ _ _ _ _ _ #[false, true, true, true, true, false, false, true, false, false, false] _;refine zk 8 rfl (bk bB rfl (n := 5) (by kernel_rfl) rfl (ab rfl)) ?_;show AI _ _ _ _ _ _ #[false, true, true, true, true, false, false, true, true, false, false] _;refine cm (i := 0) (j := 5) (by kernel_rfl) rfl rfl rfl rfl ?_ ?_
     ·refine bS rfl cN rfl (cd F e26) ?_;show AI _ _ _ _ _ _ #[true, true, true, true, true, false, false, true, true, false, false] _;refine aF (i := 5) (by kernel_rfl) rfl rfl <| aE rfl (ah (i := 0) aq rfl rfl rfl rfl) ?_;show AI _ _ _ _ _ _ #[true, true, true, true, true, true, false, true, true, false, false] _;refine zk 6 rfl (bL (i := 0) (k := 1) (c := .v _) bi bq rfl (by kernel_rfl) rfl rfl rfl rfl) ?_;show AI _ _ _ _ _ _ #[true, true, true, true, true, true, true, true, true, false, false] _;refine aF (i := 9) (by kernel_rfl) rfl rfl <| cf [0, 0] rfl (.inr ⟨rfl, rfl, rfl⟩) mB rfl (lg F o1 0 a3 a4 a5 a6 a7 a8 t9 a10 a11 a12 a13 a14 x27 x28 x29 e30) rfl (fun c A' h => by cases h.1) ?_
      rintro av A' ⟨h, t31, rfl⟩; cases h
      show AI _ _ _ _ _ _ #[true, true, true, true, true, true, true, true, true, true, false] _;refine zk 10 rfl (asg rfl) ?_;show AI _ _ _ _ _ _ #[true, true, true, true, true, true, true, true, true, true, true] _;refine bb rfl ?_;exact Exists.intro (x27, x28, a3, x29, t31) ⟨H, bh [0, 0] (.cons (.refl _) (.cons (.refl _) (.cons (.refl _) (.nil _)))) rfl⟩
     ·refine aE rfl (ah (i := 0) aq rfl rfl rfl rfl) ?_;show AI _ _ _ _ _ _ #[false, true, true, true, true, true, false, true, true, false, false] _;refine aF (i := 0) (by kernel_rfl) rfl rfl <| bS rfl cN rfl (cd F e26) ?_;show AI _ _ _ _ _ _ #[true, true, true, true, true, true, false, true, true, false, false] _;refine zk 6 rfl (bL (i := 0) (k := 1) (c := .v _) bi bq rfl (by kernel_rfl) rfl rfl rfl rfl) ?_;show AI _ _ _ _ _ _ #[true, true, true, true, true, true, true, true, true, false, false] _;refine aF (i := 9) (by kernel_rfl) rfl rfl <| cf [0, 0] rfl (.inr ⟨rfl, rfl, rfl⟩) mB rfl (lg F o1 0 a3 a4 a5 a6 a7 a8 t9 a10 a11 a12 a13 a14 x27 x28 x29 e30) rfl (fun c A' h => by cases h.1) ?_
      rintro av A' ⟨h, t32, rfl⟩; cases h
      show AI _ _ _ _ _ _ #[true, true, true, true, true, true, true, true, true, true, false] _;refine zk 10 rfl (asg rfl) ?_;show AI _ _ _ _ _ _ #[true, true, true, true, true, true, true, true, true, true, true] _;refine bb rfl ?_;exact Exists.intro (x27, x28, a3, x29, t32) ⟨H, bh [0, 0] (.cons (.refl _) (.cons (.refl _) (.cons (.refl _) (.nil _)))) rfl⟩
    ·replace H := bc (by decide) H;replace H := bl (by decide) H;obtain ⟨_, e33, H⟩ := dp H;obtain ⟨x34, x35, x36, x37, e38, H⟩ := bnd4_s H;refine bo (by kernel_rfl) ?_;show AI _ _ _ _ _ 11 (Array.replicate 11 false) _;refine zk 1 rfl (ai (av := .pt _ _) rfl) ?_;show AI _ _ _ _ _ _ #[false, true, false, false, false, false, false, false, false, false, false] _;refine zk 2 rfl (am rfl) ?_;show AI _ _ _ _ _ _ #[false, true, true, false, false, false, false, false, false, false, false] _;refine zk 3 rfl (ag (n := 0) (by kernel_rfl) rfl) ?_;show AI _ _ _ _ _ _ #[false, true, true, true, false, false, false, false, false, false, false] _;refine zk 4 rfl (ag (n := 0) (by kernel_rfl) rfl) ?_;show AI _ _ _ _ _ _ #[false, true, true, true, true, false, false, false, false, false, false] _;refine zk 7 rfl (ai (av := .pt _ _) rfl) ?_;show AI _ _ _ _ _ _ #[false, true, true, true, true, false, false, true, false, false, false] _;refine zk 8 rfl (bk bB rfl (n := 5) (by kernel_rfl) rfl (ab rfl)) ?_;show AI _ _ _ _ _ _ #[false, true, true, true, true, false, false, true, true, false, false] _;refine cm (i := 0) (j := 5) (by kernel_rfl) rfl rfl rfl rfl ?_ ?_
     ·refine bS rfl cN rfl (cd F e33) ?_;show AI _ _ _ _ _ _ #[true, true, true, true, true, false, false, true, true, false, false] _;refine aF (i := 5) (by kernel_rfl) rfl rfl <| aE rfl (ah (i := 0) aq rfl rfl rfl rfl) ?_;show AI _ _ _ _ _ _ #[true, true, true, true, true, true, false, true, true, false, false] _;refine zk 6 rfl (bL (i := 1) (k := 1) (c := .v _) bi bq rfl (by kernel_rfl) rfl rfl rfl rfl) ?_;show AI _ _ _ _ _ _ #[true, true, true, true, true, true, true, true, true, false, false] _;refine aF (i := 9) (by kernel_rfl) rfl rfl <| cf [0, 0] rfl (.inr ⟨rfl, rfl, rfl⟩) mA rfl (lf F o1 1 a3 a4 a5 a6 a7 a8 t9 a10 a11 a12 a13 a14 x34 x35 x36 x37 e38) rfl (fun c A' h => by cases h.1) ?_
      rintro av A' ⟨h, t39, rfl⟩; cases h
      show AI _ _ _ _ _ _ #[true, true, true, true, true, true, true, true, true, true, false] _;refine zk 10 rfl (asg rfl) ?_;show AI _ _ _ _ _ _ #[true, true, true, true, true, true, true, true, true, true, true] _;refine bb rfl ?_;exact Exists.intro (x34, x35, x36, x37, t39) ⟨H, bh [0, 0] (.cons (.refl _) (.cons (.refl _) (.cons (.refl _) (.nil _)))) rfl⟩
     ·refine aE rfl (ah (i := 0) aq rfl rfl rfl rfl) ?_;show AI _ _ _ _ _ _ #[false, true, true, true, true, true, false, true, true, false, false] _;refine aF (i := 0) (by kernel_rfl) rfl rfl <| bS rfl cN rfl (cd F e33) ?_;show AI _ _ _ _ _ _ #[true, true, true, true, true, true, false, true, true, false, false] _;refine zk 6 rfl (bL (i := 1) (k := 1) (c := .v _) bi bq rfl (by kernel_rfl) rfl rfl rfl rfl) ?_;show AI _ _ _ _ _ _ #[true, true, true, true, true, true, true, true, true, false, false] _;refine aF (i := 9) (by kernel_rfl) rfl rfl <| cf [0, 0] rfl (.inr ⟨rfl, rfl, rfl⟩) mA rfl (lf F o1 1 a3 a4 a5 a6 a7 a8 t9 a10 a11 a12 a13 a14 x34 x35 x36 x37 e38) rfl (fun c A' h => by cases h.1) ?_
      rintro av A' ⟨h, t40, rfl⟩; cases h
      show AI _ _ _ _ _ _ #[true, true, true, true, true, true, true, true, true, true, false] _;refine zk 10 rfl (asg rfl) ?_;show AI _ _ _ _ _ _ #[true, true, true, true, true, true, true, true, true, true, true] _;refine bb rfl ?_;exact Exists.intro (x34, x35, x36, x37, t40) ⟨H, bh [0, 0] (.cons (.refl _) (.cons (.refl _) (.cons (.refl _) (.nil _)))) rfl⟩
    ·replace H := bc (by decide) H;replace H := bc (by decide) H;replace H := bl (by decide) H;obtain ⟨_, e41, H⟩ := dp H;obtain ⟨x42, x43, x44, e45, H⟩ := fa H;refine bo (by kernel_rfl) ?_;show AI _ _ _ _ _ 11 (Array.replicate 11 false) _;refine zk 1 rfl (ai (av := .pt _ _) rfl) ?_;show AI _ _ _ _ _ _ #[false, true, false, false, false, false, false, false, false, false, false] _;refine zk 2 rfl (am rfl) ?_;show AI _ _ _ _ _ _ #[false, true, true, false, false, false, false, false, false, false, false] _;refine zk 3 rfl (ag (n := 0) (by kernel_rfl) rfl) ?_;show AI _ _ _ _ _ _ #[false, true, true, true, false, false, false, false, false, false, false] _;refine zk 4 rfl (ag (n := 0) (by kernel_rfl) rfl) ?_;show AI _ _ _ _ _ _ #[false, true, true, true, true, false, false, false, false, false, false] _;refine zk 7 rfl (ai (av := .pt _ _) rfl) ?_;show AI _ _ _ _ _ _ #[false, true, true, true, true, false, false, true, false, false, false] _;refine zk 8 rfl (bk bB rfl (n := 5) (by kernel_rfl) rfl (ab rfl)) ?_;show AI _ _ _ _ _ _ #[false, true, true, true, true, false, false, true, true, false, false] _;refine cm (i := 0) (j := 5) (by kernel_rfl) rfl rfl rfl rfl ?_ ?_
     ·refine bS rfl cN rfl (cd F e41) ?_;show AI _ _ _ _ _ _ #[true, true, true, true, true, false, false, true, true, false, false] _;refine aF (i := 5) (by kernel_rfl) rfl rfl <| aE rfl (ah (i := 0) aq rfl rfl rfl rfl) ?_;show AI _ _ _ _ _ _ #[true, true, true, true, true, true, false, true, true, false, false] _;refine zk 6 rfl (bL (i := 2) (k := 1) (c := .v _) bi bq rfl (by kernel_rfl) rfl rfl rfl rfl) ?_;show AI _ _ _ _ _ _ #[true, true, true, true, true, true, true, true, true, false, false] _;refine aF (i := 9) (by kernel_rfl) rfl rfl <| cf [0, 0] rfl (.inr ⟨rfl, rfl, rfl⟩) mz rfl (lZ F o1 2 a3 a4 a5 a6 a7 a8 t9 a10 a11 a12 a13 a14 x42 x43 x44 e45) rfl (fun c A' h => by cases h.1) ?_
      rintro av A' ⟨h, t46, rfl⟩; cases h
      show AI _ _ _ _ _ _ #[true, true, true, true, true, true, true, true, true, true, false] _;refine zk 10 rfl (asg rfl) ?_;show AI _ _ _ _ _ _ #[true, true, true, true, true, true, true, true, true, true, true] _;refine bb rfl ?_;exact Exists.intro (x42, x43, a3, x44, t46) ⟨H, bh [0, 0] (.cons (.refl _) (.cons (.refl _) (.cons (.refl _) (.nil _)))) rfl⟩
     ·refine aE rfl (ah (i := 0) aq rfl rfl rfl rfl) ?_;show AI _ _ _ _ _ _ #[false, true, true, true, true, true, false, true, true, false, false] _;refine aF (i := 0) (by kernel_rfl) rfl rfl <| bS rfl cN rfl (cd F e41) ?_;show AI _ _ _ _ _ _ #[true, true, true, true, true, true, false, true, true, false, false] _;refine zk 6 rfl (bL (i := 2) (k := 1) (c := .v _) bi bq rfl (by kernel_rfl) rfl rfl rfl rfl) ?_;show AI _ _ _ _ _ _ #[true, true, true, true, true, true, true, true, true, false, false] _;refine aF (i := 9) (by kernel_rfl) rfl rfl <| cf [0, 0] rfl (.inr ⟨rfl, rfl, rfl⟩) mz rfl (lZ F o1 2 a3 a4 a5 a6 a7 a8 t9 a10 a11 a12 a13 a14 x42 x43 x44 e45) rfl (fun c A' h => by cases h.1) ?_
      rintro av A' ⟨h, t47, rfl⟩; cases h
      show AI _ _ _ _ _ _ #[true, true, true, true, true, true, true, true, true, true, false] _;refine zk 10 rfl (asg rfl) ?_;show AI _ _ _ _ _ _ #[true, true, true, true, true, true, true, true, true, true, true] _;refine bb rfl ?_;exact Exists.intro (x42, x43, a3, x44, t47) ⟨H, bh [0, 0] (.cons (.refl _) (.cons (.refl _) (.cons (.refl _) (.nil _)))) rfl⟩
    ·replace H := bc (by decide) H;replace H := bc (by decide) H;replace H := bc (by decide) H;replace H := bl (by decide) H;obtain ⟨_, e48, H⟩ := dp H;obtain ⟨x49, x50, x51, e52, H⟩ := fa H;refine bo (by kernel_rfl) ?_;show AI _ _ _ _ _ 11 (Array.replicate 11 false) _;refine zk 1 rfl (ai (av := .pt _ _) rfl) ?_;show AI _ _ _ _ _ _ #[false, true, false, false, false, false, false, false, false, false, false] _;refine zk 2 rfl (am rfl) ?_;show AI _ _ _ _ _ _ #[false, true, true, false, false, false, false, false, false, false, false] _;refine zk 3 rfl (ag (n := 0) (by kernel_rfl) rfl) ?_;show AI _ _ _ _ _ _ #[false, true, true, true, false, false, false, false, false, false, false] _;refine zk 4 rfl (ag (n := 0) (by kernel_rfl) rfl) ?_;show AI _ _ _ _ _ _ #[false, true, true, true, true, false, false, false, false, false, false] _;refine zk 7 rfl (ai (av := .pt _ _) rfl) ?_;show AI _ _ _ _ _ _ #[false, true, true, true, true, false, false, true, false, false, false] _;refine zk 8 rfl (bk bB rfl (n := 5) (by kernel_rfl) rfl (ab rfl)) ?_;show AI _ _ _ _ _ _ #[false, true, true, true, true, false, false, true, true, false, false] _;refine cm (i := 0) (j := 5) (by kernel_rfl) rfl rfl rfl rfl ?_ ?_
     ·refine bS rfl cN rfl (cd F e48) ?_;show AI _ _ _ _ _ _ #[true, true, true, true, true, false, false, true, true, false, false] _;refine aF (i := 5) (by kernel_rfl) rfl rfl <| aE rfl (ah (i := 0) aq rfl rfl rfl rfl) ?_;show AI _ _ _ _ _ _ #[true, true, true, true, true, true, false, true, true, false, false] _;refine zk 6 rfl (bL (i := 3) (k := 1) (c := .v _) bi bq rfl (by kernel_rfl) rfl rfl rfl rfl) ?_;show AI _ _ _ _ _ _ #[true, true, true, true, true, true, true, true, true, false, false] _;refine aF (i := 9) (by kernel_rfl) rfl rfl <| cf [0, 0] rfl (.inr ⟨rfl, rfl, rfl⟩) my rfl (lX F o1 3 a3 a4 a5 a6 a7 a8 t9 a10 a11 a12 a13 a14 x49 x50 x51 e52) rfl (fun c A' h => by cases h.1) ?_
      rintro av A' ⟨h, t53, rfl⟩; cases h
      show AI _ _ _ _ _ _ #[true, true, true, true, true, true, true, true, true, true, false] _;refine zk 10 rfl (asg rfl) ?_;show AI _ _ _ _ _ _ #[true, true, true, true, true, true, true, true, true, true, true] _;refine bb rfl ?_;exact Exists.intro (x49, x50, a3, x51, t53) ⟨H, bh [0, 0] (.cons (.refl _) (.cons (.refl _) (.cons (.refl _) (.nil _)))) rfl⟩
     ·refine aE rfl (ah (i := 0) aq rfl rfl rfl rfl) ?_;show AI _ _ _ _ _ _ #[false, true, true, true, true, true, false, true, true, false, false] _;refine aF (i := 0) (by kernel_rfl) rfl rfl <| bS rfl cN rfl (cd F e48) ?_;show AI _ _ _ _ _ _ #[true, true, true, true, true, true, false, true, true, false, false] _;refine zk 6 rfl (bL (i := 3) (k := 1) (c := .v _) bi bq rfl (by kernel_rfl) rfl rfl rfl rfl) ?_;show AI _ _ _ _ _ _ #[true, true, true, true, true, true, true, true, true, false, false] _;refine aF (i := 9) (by kernel_rfl) rfl rfl <| cf [0, 0] rfl (.inr ⟨rfl, rfl, rfl⟩) my rfl (lX F o1 3 a3 a4 a5 a6 a7 a8 t9 a10 a11 a12 a13 a14 x49 x50 x51 e52) rfl (fun c A' h => by cases h.1) ?_
      rintro av A' ⟨h, t54, rfl⟩; cases h
      show AI _ _ _ _ _ _ #[true, true, true, true, true, true, true, true, true, true, false] _;refine zk 10 rfl (asg rfl) ?_;show AI _ _ _ _ _ _ #[true, true, true, true, true, true, true, true, true, true, true] _;refine bb rfl ?_;exact Exists.intro (x49, x50, a3, x51, t54) ⟨H, bh [0, 0] (.cons (.refl _) (.cons (.refl _) (.cons (.refl _) (.nil _)))) rfl⟩
    ·replace H := bc (by decide) H;replace H := bc (by decide) H;replace H := bc (by decide) H;replace H := bc (by decide) H;replace H := bl (by decide) H;obtain ⟨_, e55, H⟩ := dp H;obtain ⟨x56, x57, x58, e59, H⟩ := fa H;refine bo (by kernel_rfl) ?_;show AI _ _ _ _ _ 11 (Array.replicate 11 false) _;refine zk 1 rfl (ai (av := .pt _ _) rfl) ?_;show AI _ _ _ _ _ _ #[false, true, false, false, false, false, false, false, false, false, false] _;refine zk 2 rfl (am rfl) ?_;show AI _ _ _ _ _ _ #[false, true, true, false, false, false, false, false, false, false, false] _;refine zk 3 rfl (ag (n := 0) (by kernel_rfl) rfl) ?_;show AI _ _ _ _ _ _ #[false, true, true, true, false, false, false, false, false, false, false] _;refine zk 4 rfl (ag (n := 0) (by kernel_rfl) rfl) ?_;show AI _ _ _ _ _ _ #[false, true, true, true, true, false, false, false, false, false, false] _;refine zk 7 rfl (ai (av := .pt _ _) rfl) ?_;show AI _ _ _ _ _ _ #[false, true, true, true, true, false, false, true, false, false, false] _;refine zk 8 rfl (bk bB rfl (n := 5) (by kernel_rfl) rfl (ab rfl)) ?_;show AI _ _ _ _ _ _ #[false, true, true, true, true, false, false, true, true, false, false] _;refine cm (i := 0) (j := 5) (by kernel_rfl) rfl rfl rfl rfl ?_ ?_
     ·refine bS rfl cN rfl (cd F e55) ?_;show AI _ _ _ _ _ _ #[true, true, true, true, true, false, false, true, true, false, false] _;refine aF (i := 5) (by kernel_rfl) rfl rfl <| aE rfl (ah (i := 0) aq rfl rfl rfl rfl) ?_;show AI _ _ _ _ _ _ #[true, true, true, true, true, true, false, true, true, false, false] _;refine zk 6 rfl (bL (i := 4) (k := 1) (c := .v _) bi bq rfl (by kernel_rfl) rfl rfl rfl rfl) ?_;show AI _ _ _ _ _ _ #[true, true, true, true, true, true, true, true, true, false, false] _;refine aF (i := 9) (by kernel_rfl) rfl rfl <| cf [0, 0] rfl (.inr ⟨rfl, rfl, rfl⟩) mx rfl (mb F o1 4 a3 a4 a5 a6 a7 a8 t9 a10 a11 a12 a13 a14 x56 x57 x58 e59) rfl (fun c A' h => by cases h.1) ?_
      rintro av A' ⟨h, t60, rfl⟩; cases h
      show AI _ _ _ _ _ _ #[true, true, true, true, true, true, true, true, true, true, false] _;refine zk 10 rfl (asg rfl) ?_;show AI _ _ _ _ _ _ #[true, true, true, true, true, true, true, true, true, true, true] _;refine bb rfl ?_;exact Exists.intro (x56, x57, a3, x58, t60) ⟨H, bh [0, 0] (.cons (.refl _) (.cons (.refl _) (.cons (.refl _) (.nil _)))) rfl⟩
     ·refine aE rfl (ah (i := 0) aq rfl rfl rfl rfl) ?_;show AI _ _ _ _ _ _ #[false, true, true, true, true, true, false, true, true, false, false] _;refine aF (i := 0) (by kernel_rfl) rfl rfl <| bS rfl cN rfl (cd F e55) ?_;show AI _ _ _ _ _ _ #[true, true, true, true, true, true, false, true, true, false, false] _;refine zk 6 rfl (bL (i := 4) (k := 1) (c := .v _) bi bq rfl (by kernel_rfl) rfl rfl rfl rfl) ?_;show AI _ _ _ _ _ _ #[true, true, true, true, true, true, true, true, true, false, false] _;refine aF (i := 9) (by kernel_rfl) rfl rfl <| cf [0, 0] rfl (.inr ⟨rfl, rfl, rfl⟩) mx rfl (mb F o1 4 a3 a4 a5 a6 a7 a8 t9 a10 a11 a12 a13 a14 x56 x57 x58 e59) rfl (fun c A' h => by cases h.1) ?_
      rintro av A' ⟨h, t61, rfl⟩; cases h
      show AI _ _ _ _ _ _ #[true, true, true, true, true, true, true, true, true, true, false] _;refine zk 10 rfl (asg rfl) ?_;show AI _ _ _ _ _ _ #[true, true, true, true, true, true, true, true, true, true, true] _;refine bb rfl ?_;exact Exists.intro (x56, x57, a3, x58, t61) ⟨H, bh [0, 0] (.cons (.refl _) (.cons (.refl _) (.cons (.refl _) (.nil _)))) rfl⟩
    ·replace H := bc (by decide) H;replace H := bc (by decide) H;replace H := bc (by decide) H;replace H := bc (by decide) H;replace H := bc (by decide) H;replace H := bl (by decide) H;obtain ⟨_, e62, H⟩ := dp H;obtain ⟨x63, x64, x65, x66, e67, H⟩ := bnd4_s H;refine bo (by kernel_rfl) ?_;show AI _ _ _ _ _ 11 (Array.replicate 11 false) _;refine zk 1 rfl (ai (av := .pt _ _) rfl) ?_;show AI _ _ _ _ _ _ #[false, true, false, false, false, false, false, false, false, false, false] _;refine zk 2 rfl (am rfl) ?_;show AI _ _ _ _ _ _ #[false, true, true, false, false, false, false, false, false, false, false] _;refine zk 3 rfl (ag (n := 0) (by kernel_rfl) rfl) ?_;show AI _ _ _ _ _ _ #[false, true, true, true, false, false, false, false, false, false, false] _;refine zk 4 rfl (ag (n := 0) (by kernel_rfl) rfl) ?_;show AI _ _ _ _ _ _ #[false, true, true, true, true, false, false, false, false, false, false] _;refine zk 7 rfl (ai (av := .pt _ _) rfl) ?_;show AI _ _ _ _ _ _ #[false, true, true, true, true, false, false, true, false, false, false] _;refine zk 8 rfl (bk bB rfl (n := 5) (by kernel_rfl) rfl (ab rfl)) ?_;show AI _ _ _ _ _ _ #[false, true, true, true, true, false, false, true, true, false, false] _;refine cm (i := 0) (j := 5) (by kernel_rfl) rfl rfl rfl rfl ?_ ?_
     ·refine bS rfl cN rfl (cd F e62) ?_;show AI _ _ _ _ _ _ #[true, true, true, true, true, false, false, true, true, false, false] _;refine aF (i := 5) (by kernel_rfl) rfl rfl <| aE rfl (ah (i := 0) aq rfl rfl rfl rfl) ?_;show AI _ _ _ _ _ _ #[true, true, true, true, true, true, false, true, true, false, false] _;refine zk 6 rfl (bL (i := 5) (k := 1) (c := .v _) bi bq rfl (by kernel_rfl) rfl rfl rfl rfl) ?_;show AI _ _ _ _ _ _ #[true, true, true, true, true, true, true, true, true, false, false] _;refine aF (i := 9) (by kernel_rfl) rfl rfl <| cf [0, 0] rfl (.inr ⟨rfl, rfl, rfl⟩) mw rfl (mc F o1 5 a3 a4 a5 a6 a7 a8 t9 a10 a11 a12 a13 a14 x63 x64 x65 x66 e67) rfl (fun c A' h => by cases h.1) ?_
      rintro av A' ⟨h, t68, rfl⟩; cases h
      show AI _ _ _ _ _ _ #[true, true, true, true, true, true, true, true, true, true, false] _;refine zk 10 rfl (asg rfl) ?_;show AI _ _ _ _ _ _ #[true, true, true, true, true, true, true, true, true, true, true] _;refine bb rfl ?_;exact Exists.intro (x63, x64, x65, x66, t68) ⟨H, bh [0, 0] (.cons (.refl _) (.cons (.refl _) (.cons (.refl _) (.nil _)))) rfl⟩
     ·refine aE rfl (ah (i := 0) aq rfl rfl rfl rfl) ?_;show AI _ _ _ _ _ _ #[false, true, true, true, true, true, false, true, true, false, false] _;refine aF (i := 0) (by kernel_rfl) rfl rfl <| bS rfl cN rfl (cd F e62) ?_;show AI _ _ _ _ _ _ #[true, true, true, true, true, true, false, true, true, false, false] _;refine zk 6 rfl (bL (i := 5) (k := 1) (c := .v _) bi bq rfl (by kernel_rfl) rfl rfl rfl rfl) ?_;show AI _ _ _ _ _ _ #[true, true, true, true, true, true, true, true, true, false, false] _;refine aF (i := 9) (by kernel_rfl) rfl rfl <| cf [0, 0] rfl (.inr ⟨rfl, rfl, rfl⟩) mw rfl (mc F o1 5 a3 a4 a5 a6 a7 a8 t9 a10 a11 a12 a13 a14 x63 x64 x65 x66 e67) rfl (fun c A' h => by cases h.1) ?_
      rintro av A' ⟨h, t69, rfl⟩; cases h
      show AI _ _ _ _ _ _ #[true, true, true, true, true, true, true, true, true, true, false] _;refine zk 10 rfl (asg rfl) ?_;show AI _ _ _ _ _ _ #[true, true, true, true, true, true, true, true, true, true, true] _;refine bb rfl ?_;exact Exists.intro (x63, x64, x65, x66, t69) ⟨H, bh [0, 0] (.cons (.refl _) (.cons (.refl _) (.cons (.refl _) (.nil _)))) rfl⟩
    ·replace H := bc (by decide) H;replace H := bc (by decide) H;replace H := bc (by decide) H;replace H := bc (by decide) H;replace H := bc (by decide) H;replace H := bc (by decide) H;obtain ⟨_, e70, H⟩ := dp H;obtain ⟨x71, x72, e73, H⟩ := dA H;refine bo (by kernel_rfl) ?_;show AI _ _ _ _ _ 11 (Array.replicate 11 false) _;refine zk 1 rfl (ai (av := .pt _ _) rfl) ?_;show AI _ _ _ _ _ _ #[false, true, false, false, false, false, false, false, false, false, false] _;refine zk 2 rfl (am rfl) ?_;show AI _ _ _ _ _ _ #[false, true, true, false, false, false, false, false, false, false, false] _;refine zk 3 rfl (ag (n := 0) (by kernel_rfl) rfl) ?_;show AI _ _ _ _ _ _ #[false, true, true, true, false, false, false, false, false, false, false] _;refine zk 4 rfl (ag (n := 0) (by kernel_rfl) rfl) ?_;show AI _ _ _ _ _ _ #[false, true, true, true, true, false, false, false, false, false, false] _;refine zk 7 rfl (ai (av := .pt _ _) rfl) ?_;show AI _ _ _ _ _ _ #[false, true, true, true, true, false, false, true, false, false, false] _;refine zk 8 rfl (bk bB rfl (n := 5) (by kernel_rfl) rfl (ab rfl)) ?_;show AI _ _ _ _ _ _ #[false, true, true, true, true, false, false, true, true, false, false] _;refine cm (i := 0) (j := 5) (by kernel_rfl) rfl rfl rfl rfl ?_ ?_
     ·refine bS rfl cN rfl (cd F e70) ?_;show AI _ _ _ _ _ _ #[true, true, true, true, true, false, false, true, true, false, false] _;refine aF (i := 5) (by kernel_rfl) rfl rfl <| aE rfl (ah (i := 0) aq rfl rfl rfl rfl) ?_;show AI _ _ _ _ _ _ #[true, true, true, true, true, true, false, true, true, false, false] _;refine zk 6 rfl (bL (i := 6) (k := 1) (c := .v _) bi bq rfl (by kernel_rfl) rfl rfl rfl rfl) ?_;show AI _ _ _ _ _ _ #[true, true, true, true, true, true, true, true, true, false, false] _;refine aF (i := 9) (by kernel_rfl) rfl rfl <| cf [0, 0] rfl (.inr ⟨rfl, rfl, rfl⟩) mu rfl (lY F o1 6 a3 a4 a5 a6 a7 a8 t9 a10 a11 a12 a13 a14 x71 x72 e73) rfl (fun c A' h => by cases h.1) ?_
      rintro av A' ⟨h, rfl⟩; cases h
      show AI _ _ _ _ _ _ #[true, true, true, true, true, true, true, true, true, true, false] _;refine zk 10 rfl (asg rfl) ?_;show AI _ _ _ _ _ _ #[true, true, true, true, true, true, true, true, true, true, true] _;refine bb rfl ?_;exact Exists.intro (x71, x72, a3, a8, t9) ⟨H, bh [0, 0] (.cons (.refl _) (.cons (.refl _) (.cons (.refl _) (.nil _)))) rfl⟩
     ·refine aE rfl (ah (i := 0) aq rfl rfl rfl rfl) ?_;show AI _ _ _ _ _ _ #[false, true, true, true, true, true, false, true, true, false, false] _;refine aF (i := 0) (by kernel_rfl) rfl rfl <| bS rfl cN rfl (cd F e70) ?_;show AI _ _ _ _ _ _ #[true, true, true, true, true, true, false, true, true, false, false] _;refine zk 6 rfl (bL (i := 6) (k := 1) (c := .v _) bi bq rfl (by kernel_rfl) rfl rfl rfl rfl) ?_;show AI _ _ _ _ _ _ #[true, true, true, true, true, true, true, true, true, false, false] _;refine aF (i := 9) (by kernel_rfl) rfl rfl <| cf [0, 0] rfl (.inr ⟨rfl, rfl, rfl⟩) mu rfl (lY F o1 6 a3 a4 a5 a6 a7 a8 t9 a10 a11 a12 a13 a14 x71 x72 e73) rfl (fun c A' h => by cases h.1) ?_
      rintro av A' ⟨h, rfl⟩; cases h
      show AI _ _ _ _ _ _ #[true, true, true, true, true, true, true, true, true, true, false] _;refine zk 10 rfl (asg rfl) ?_;show AI _ _ _ _ _ _ #[true, true, true, true, true, true, true, true, true, true, true] _;refine bb rfl ?_;exact Exists.intro (x71, x72, a3, a8, t9) ⟨H, bh [0, 0] (.cons (.refl _) (.cons (.refl _) (.cons (.refl _) (.nil _)))) rfl⟩
   rintro ⟨y74, y75, y76, y77, t78⟩ H;replace H : cr F a4 a5 a6 a7 a10 y74 y75 y76 y77 = some (r15, r16, r17) := H
   unfold cr at H
   refine aG rfl (fun c80 => ?_) (fun c80 => ?_)
   ·replace H := bl c80 H;refine aJ ?_;obtain ⟨rfl, rfl, rfl⟩ := fH H;exact And.intro rfl (Exists.intro _ (Exists.intro _ ⟨aV rfl, aI [0, 0] rfl, rfl, t78, rfl⟩))
   ·replace H := bc c80 H;refine aj <| ac ?_;show AR _ _ _ _ _ [0, 1, 2, 3, 4, 5, 6, 7, 8] _;refine zS rfl (aR (n := 0) (by kernel_rfl) rfl (ab rfl)) <| zS rfl (aL aq rfl rfl) <| zS rfl (et rfl rfl) <| zm rfl <| aK (l := [8]) 46 (B ((decide (500 ≤ a10)) && (decide (a10 ≤ 599)))) (fun K => ?_) ?_
    ·rcases af (decide (500 ≤ a10)) with h81 | h81
     ·refine zU h81 rfl (aR (n := 0) (by kernel_rfl) rfl (ab rfl)) <| zU h81 rfl (aL aq rfl rfl) <| zU h81 rfl (dm rfl rfl) <| zS rfl (aw (av := .v _) rfl h81 rfl) ?_;exact K _ 3 _ (ar (bU h81)) rfl rfl
     ·refine zF h81 rfl <| zF h81 rfl <| zF h81 rfl <| zS rfl (au (av := .v _) rfl h81 rfl) ?_;exact K _ 3 _ (ar (bV h81)) rfl rfl
    refine za rfl <| ak <| aG rfl (fun c82 => ?_) (fun c82 => ?_)
    ·replace H := bl c82 H;obtain ⟨x83, x84, x85, e86, H⟩ := fa H;refine ac ?_;show AR _ _ _ _ _ [0, 1] _;refine zS rfl (ai (av := .pt _ _) rfl) <| ao rfl rfl (bZ [0, 0] rfl iz rfl (iv F o1 y75 y76 a4 a5 a6 a7 y77 t78 3 x83 x84 x85 e86) rfl (fun c A' h => by cases h.1) ?_)
     rintro av A' ⟨h, t87, rfl⟩; cases h
     refine ak ?_;obtain ⟨rfl, rfl, rfl⟩ := fH H;exact And.intro rfl (Exists.intro _ (Exists.intro _ ⟨aV rfl, aI [0, 0] rfl, rfl, t87, rfl⟩))
    ·replace H := bc c82 H;obtain ⟨x88, x89, x90, e91, H⟩ := fa H;refine ac ?_;show AR _ _ _ _ _ [0, 1] _;refine zS rfl (ai (av := .pt _ _) rfl) <| ao rfl rfl (bZ [0, 0] rfl iz rfl (iv F o1 y75 y76 a4 a5 a6 a7 y77 t78 2 x88 x89 x90 e91) rfl (fun c A' h => by cases h.1) ?_)
     rintro av A' ⟨h, t92, rfl⟩; cases h
     refine ak ?_;obtain ⟨rfl, rfl, rfl⟩ := fH H;exact And.intro rfl (Exists.intro _ (Exists.intro _ ⟨aV rfl, aI [0, 0] rfl, rfl, t92, rfl⟩))
set_option maxRecDepth 100000 in
set_option maxHeartbeats 1000000 in
theorem lh (F : Nat) (a1 : Int) (a2 : Int) (a3 : List UInt8) (a4 : List UInt8) (a5 : List UInt8) (a6 : List UInt8) (H : ir F a1 a2 a3 a4 a5 a6 = some ()) : ACalls Tryz.prog 34 [.agg [i64 a1, i64 a2, S a3, S a4, S a5, slE Enc.byte a6 none]] [] (fun e A' => ∃ ob1 : Nat, e = .ret (.pt ob1 0) ∧ A' = [.obj ob1 [i64 a1, i64 a2, S a3, S a4, S a5, slE Enc.byte a6 none, fA]]) := by
 unfold ir at H
 refine az Tryz.func34 rfl rfl ?_;show AW _ _ 10 _ _ _;refine aj <| ac ?_;show AR _ _ _ _ _ [0, 1] _;refine zX rfl (iJ rfl (.inr ⟨_, rfl⟩)) ?_;rintro _ _ ⟨o7, rfl, rfl⟩;refine za rfl <| ak <| aj ?_;obtain ⟨g8, H⟩ := be H;refine ac ?_;show AR _ _ _ _ _ [0, 1, 2, 3, 4] _;refine zS rfl (ag (n := 5) (by kernel_rfl) rfl) <| zR rfl (ah (i := 0) aa rfl rfl rfl rfl) <| ao rfl rfl (aN rfl mJ rfl (ia a6 none (dn g8)) ?_);refine zS rfl (ag (n := 5) (by kernel_rfl) rfl) <| s0 rfl rfl (ap (i := 0) (c := slE _ _ _) (by kernel_rfl) rfl rfl rfl rfl (ab rfl)) <| ak <| aj <| ac ?_;show AR _ _ _ _ _ [0, 1, 2, 3] _;refine zR rfl (cG (i := 0) (n := 6) aU rfl (by kernel_rfl) rfl rfl (ab rfl)) <| zS rfl (hB (zs := [.int .i64 0, .int .i64 0, .string ⟨#[]⟩, .string ⟨#[]⟩, .string ⟨#[]⟩, .slice none 0 0, .slice none 0 0]) (ps := [(0, 6), (6, 1)]) (cs := [i64 a1, i64 a2, S a3, S a4, S a5, slE Enc.byte a6 none, fA]) (by kernel_rfl) rfl rfl) <| zX rfl (iJ rfl (.inr ⟨_, rfl⟩)) ?_;rintro _ _ ⟨o9, rfl, rfl⟩;refine zS rfl (aA (av := .pt _ _) rfl) <| ak <| aP ?_;exact And.intro rfl (Exists.intro _ (Exists.intro _ ⟨aQ rfl (.refl _), aI [0] rfl, o9, rfl, rfl⟩))
set_option maxRecDepth 100000 in
set_option maxHeartbeats 1000000 in
theorem pH (F : Nat) (a1 : Int) (a2 : Int) (a3 : List UInt8) (a4 : List UInt8) (a5 : List UInt8) (a6 : List UInt8) (a7 : Int) (a8 : List (List UInt8)) (a9 : Int) (a10 : Int) (a11 : Int) (r12 : Int) (r13 : Int) (r14 : List UInt8) (r15 : List UInt8) (r16 : List UInt8) (r17 : List UInt8) (r18 : List UInt8) (H : jX F a1 a2 a3 a4 a5 a6 a7 a8 a9 a10 a11 = some (r12, r13, r14, r15, r16, r17, r18)) : ACalls Tryz.prog 18 [.agg [i64 a1, i64 a2, S a3, S a4, S a5, slE Enc.byte a6 none], .agg [i64 a7, slE Enc.str a8 none, i64 a9, i64 a10, i64 a11]] [] (Ret (.tup [.agg [i64 r12, i64 r13, S r14, S r15, S r16, slE Enc.byte r17 none], slE Enc.byte r18 none]) []) := by
 unfold jX at H
 refine az Tryz.func18 rfl rfl ?_;show AW _ _ 20 _ _ _;refine aj <| ac ?_;show AR _ _ _ _ _ [0, 1, 2, 3] _;refine zR rfl (cx rfl (.inr ⟨_, rfl⟩)) <| zR rfl (cx rfl (.inr ⟨_, rfl⟩)) <| zX rfl (ci (zs := [.int .i64 0, .int .i64 0, .string ⟨#[]⟩, .string ⟨#[]⟩, .string ⟨#[]⟩, .slice none 0 0]) (by kernel_rfl)) ?_;rintro _ _ ⟨o19, rfl, rfl⟩;refine za rfl <| ak <| aj ?_;obtain ⟨_, e20, H⟩ := dp H;refine ac ?_;show AR _ _ _ _ _ [0, 1, 2] _;refine zS rfl (bk aU rfl (n := 6) (by kernel_rfl) rfl (ab rfl)) <| ao rfl rfl (bZ [] rfl mI rfl (lh F a1 a2 a3 a4 a5 a6 e20) rfl (fun c A' h => by obtain ⟨_, h, _⟩ := h; cases h) ?_)
 rintro av A' ⟨o21, h, rfl⟩; cases h
 refine zS rfl (aA (av := .pt _ _) rfl) <| ak <| aj ?_;obtain ⟨x23, x24, x25, e26, H⟩ := fa H;refine ac ?_;show AR _ _ _ _ _ [0, 1, 2] _;refine zS rfl (ai (av := .pt _ _) rfl) <| zS rfl (bk bB rfl (n := 5) (by kernel_rfl) rfl (ab rfl)) ?_
 refine AR.nil_objAt 0 6 1 5 rfl rfl fun t22 => ?_
 show AR _ _ _ _ _ _ ⟨_, _, [.tok t22 5, .obj o21 [i64 a1, i64 a2, S a3, S a4, S a5, slE Enc.byte a6 none, slE Enc.byte [] (some t22)], .obj o19 [i64 0, i64 0, S ([] : List UInt8), S ([] : List UInt8), S ([] : List UInt8), fA]]⟩;refine ao rfl rfl (bZ [1, 0] rfl mH rfl (lW F o21 a1 a2 a3 a4 a5 a6 [] t22 a7 a8 a9 a10 a11 x23 x24 x25 e26) rfl (fun c A' h => by cases h.1) ?_)
 rintro av A' ⟨h, t27, rfl⟩; cases h
 refine ak <| aj <| bo (by kernel_rfl) ?_;show AI _ _ _ _ _ 10 (Array.replicate 10 false) _;refine zk 0 rfl (ai (av := .pt _ _) rfl) ?_;show AI _ _ _ _ _ _ #[true, false, false, false, false, false, false, false, false, false] _;refine zk 1 rfl (am rfl) ?_;show AI _ _ _ _ _ _ #[true, true, false, false, false, false, false, false, false, false] _;refine zk 2 rfl (ag (n := 0) (by kernel_rfl) rfl) ?_;show AI _ _ _ _ _ _ #[true, true, true, false, false, false, false, false, false, false] _;refine zk 4 rfl (ai (av := .pt _ _) rfl) ?_;show AI _ _ _ _ _ _ #[true, true, true, false, true, false, false, false, false, false] _;refine zk 5 rfl (am rfl) ?_;show AI _ _ _ _ _ _ #[true, true, true, false, true, true, false, false, false, false] _;refine zk 6 rfl (ag (n := 6) (by kernel_rfl) rfl) ?_;show AI _ _ _ _ _ _ #[true, true, true, false, true, true, true, false, false, false] _;refine cm (i := 3) (j := 7) (by kernel_rfl) rfl rfl rfl rfl ?_ ?_
 ·refine aE rfl (cG (i := 0) (n := 6) aU rfl (by kernel_rfl) rfl rfl (ab rfl)) ?_;show AI _ _ _ _ _ _ #[true, true, true, true, true, true, true, false, false, false] _;refine cm (i := 7) (j := 8) (by kernel_rfl) rfl rfl rfl rfl ?_ ?_
  ·refine aE rfl (ah (i := 0) aa rfl rfl rfl rfl) ?_;show AI _ _ _ _ _ _ #[true, true, true, true, true, true, true, true, false, false] _;refine aF (i := 8) (by kernel_rfl) rfl rfl <| bK (bf (i := 2) (vs := [i64 x23, i64 x24, S a3, S a4, S a5, slE Enc.byte a6 none]) (by kernel_rfl) rfl rfl (by simp [bD, slE]) rfl (ab rfl)) ?_;show AI _ _ _ _ _ _ #[true, true, true, true, true, true, true, true, true, false] _;refine zk 9 rfl (aA (av := slE _ _ _) rfl) ?_;show AI _ _ _ _ _ _ #[true, true, true, true, true, true, true, true, true, true] _;refine bb rfl <| aP ?_;obtain ⟨rfl, rfl, rfl, rfl, rfl, rfl, rfl⟩ := res7 H;exact And.intro rfl (Exists.intro _ (Exists.intro _ ⟨dc (dy rfl (dh (off := 0) (cs := [i64 x23, i64 x24, S a3, S a4, S a5, slE Enc.byte a6 none]) (n := 6) 2 aU rfl (by kernel_rfl) rfl rfl (ab rfl)) ((show PlaceV _ _ _ (.tmp _) _ from (.tok _ _ _)))), aI [] rfl, rfl, rfl⟩))
  ·refine bK (bf (i := 2) (vs := [i64 x23, i64 x24, S a3, S a4, S a5, slE Enc.byte a6 none]) (by kernel_rfl) rfl rfl (by simp [bD, slE]) rfl (ab rfl)) ?_;show AI _ _ _ _ _ _ #[true, true, true, true, true, true, true, false, true, false] _;refine aF (i := 7) (by kernel_rfl) rfl rfl <| aE rfl (ah (i := 0) aa rfl rfl rfl rfl) ?_;show AI _ _ _ _ _ _ #[true, true, true, true, true, true, true, true, true, false] _;refine zk 9 rfl (aA (av := slE _ _ _) rfl) ?_;show AI _ _ _ _ _ _ #[true, true, true, true, true, true, true, true, true, true] _;refine bb rfl <| aP ?_;obtain ⟨rfl, rfl, rfl, rfl, rfl, rfl, rfl⟩ := res7 H;exact And.intro rfl (Exists.intro _ (Exists.intro _ ⟨dc (dy rfl (dh (off := 0) (cs := [i64 x23, i64 x24, S a3, S a4, S a5, slE Enc.byte a6 none]) (n := 6) 2 aU rfl (by kernel_rfl) rfl rfl (ab rfl)) ((show PlaceV _ _ _ (.tmp _) _ from (.tok _ _ _)))), aI [] rfl, rfl, rfl⟩))
 ·refine aE rfl (ah (i := 0) aa rfl rfl rfl rfl) ?_;show AI _ _ _ _ _ _ #[true, true, true, false, true, true, true, true, false, false] _;refine aF (i := 3) (by kernel_rfl) rfl rfl <| aE rfl (cG (i := 0) (n := 6) aU rfl (by kernel_rfl) rfl rfl (ab rfl)) ?_;show AI _ _ _ _ _ _ #[true, true, true, true, true, true, true, true, false, false] _;refine aF (i := 8) (by kernel_rfl) rfl rfl <| bK (bf (i := 2) (vs := [i64 x23, i64 x24, S a3, S a4, S a5, slE Enc.byte a6 none]) (by kernel_rfl) rfl rfl (by simp [bD, slE]) rfl (ab rfl)) ?_;show AI _ _ _ _ _ _ #[true, true, true, true, true, true, true, true, true, false] _;refine zk 9 rfl (aA (av := slE _ _ _) rfl) ?_;show AI _ _ _ _ _ _ #[true, true, true, true, true, true, true, true, true, true] _;refine bb rfl <| aP ?_;obtain ⟨rfl, rfl, rfl, rfl, rfl, rfl, rfl⟩ := res7 H;exact And.intro rfl (Exists.intro _ (Exists.intro _ ⟨dc (dy rfl (dh (off := 0) (cs := [i64 x23, i64 x24, S a3, S a4, S a5, slE Enc.byte a6 none]) (n := 6) 2 aU rfl (by kernel_rfl) rfl rfl (ab rfl)) ((show PlaceV _ _ _ (.tmp _) _ from (.tok _ _ _)))), aI [] rfl, rfl, rfl⟩))
set_option maxRecDepth 100000 in
set_option maxHeartbeats 1000000 in
theorem lw (F : Nat) (a1 : Int) (a2 : Int) (a3 : List UInt8) (a4 : List UInt8) (a5 : List UInt8) (a6 : List UInt8) (a7 : List UInt8) (q8 : Option Nat) (r9 : Int) (r10 : Int) (r11 : List UInt8) (r12 : List UInt8) (r13 : List UInt8) (r14 : List UInt8) (r15 : List UInt8) (H : pg F a1 a2 a3 a4 a5 a6 a7 = some (r9, r10, r11, r12, r13, r14, r15)) : ACalls Tryz.prog 15 [.agg [i64 a1, i64 a2, S a3, S a4, S a5, slE Enc.byte a6 none], slE Enc.byte a7 q8] [] (Ret (.tup [.agg [i64 r9, i64 r10, S r11, S r12, S r13, slE Enc.byte r14 none], slE Enc.byte r15 none]) []) := by
 unfold pg at H
 refine az Tryz.func15 rfl rfl ?_;show AW _ _ 39 _ _ _;refine aj <| ac ?_;show AR _ _ _ _ _ [0, 1, 2] _;refine zR rfl (cx rfl (.inr ⟨_, rfl⟩)) <| zX rfl (ci (zs := [.int .i64 0, .int .i64 0, .string ⟨#[]⟩, .string ⟨#[]⟩, .string ⟨#[]⟩, .slice none 0 0]) (by kernel_rfl)) ?_;rintro _ _ ⟨o16, rfl, rfl⟩;refine za rfl <| ak <| aj ?_;obtain ⟨_, e17, H⟩ := dp H;refine ac ?_;show AR _ _ _ _ _ [0, 1, 2] _;refine zS rfl (bk aU rfl (n := 6) (by kernel_rfl) rfl (ab rfl)) <| ao rfl rfl (bZ [] rfl mI rfl (lh F a1 a2 a3 a4 a5 a6 e17) rfl (fun c A' h => by obtain ⟨_, h, _⟩ := h; cases h) ?_)
 rintro av A' ⟨o18, h, rfl⟩; cases h
 refine zS rfl (aA (av := .pt _ _) rfl) <| ak ?_
 refine AW.nil_objAt 0 6 1 5 rfl rfl fun t19 => ?_
 show AW _ _ _ _ _ ⟨_, _, [.tok t19 5, .obj o18 [i64 a1, i64 a2, S a3, S a4, S a5, slE Enc.byte a6 none, slE Enc.byte [] (some t19)], .obj o16 [i64 0, i64 0, S ([] : List UInt8), S ([] : List UInt8), S ([] : List UInt8), fA]]⟩;refine cl (X := Int × Int × (List UInt8) × Nat) (fun (y46, y47, y48, t49) => ⟨[(4, .pt o16 0), (6, .pt o18 0)], [], [.obj o18 [i64 y46, i64 y47, S a3, S a4, S a5, slE Enc.byte a6 none, slE Enc.byte y48 (some t49)], .obj o16 [i64 0, i64 0, S ([] : List UInt8), S ([] : List UInt8), S ([] : List UInt8), fA], .tok t49 5]⟩) (fun (y46, y47, y48, t49) => iB F a3 a4 a5 a6 y46 y47 y48 = some (r9, r10, r11, r12, r13, r14, r15)) ?_ ?_
 ·refine aj ?_;obtain ⟨_, e20, H⟩ := dp H;obtain ⟨x23, x24, x25, e26, H⟩ := fa H;refine ac ?_;show AR _ _ _ _ _ [0, 1, 2, 3, 4] _;refine ao rfl rfl (bZ [] rfl qe rfl (pG F e20) rfl (fun c A' h => by obtain ⟨_, h, _⟩ := h; cases h) ?_)
  rintro av A' ⟨o21, h, rfl⟩; cases h
  refine zS rfl (ai (av := slE _ _ _) rfl) ?_
  refine AR.nil_objAt 0 0 1 5 rfl rfl fun t22 => ?_
  show AR _ _ _ _ _ _ ⟨_, _, [.tok t22 5, .obj o21 [slE Enc.byte [] (some t22), B false], .tok t19 5, .obj o18 [i64 a1, i64 a2, S a3, S a4, S a5, slE Enc.byte a6 none, slE Enc.byte [] (some t19)], .obj o16 [i64 0, i64 0, S ([] : List UInt8), S ([] : List UInt8), S ([] : List UInt8), fA]]⟩;refine ao rfl rfl (bZ [1, 0] rfl qd rfl (pF F o21 [] t22 false a7 q8 x23 x24 x25 e26) rfl (fun c A' h => by cases h.1) ?_)
  rintro av A' ⟨h, t27, rfl⟩; cases h
  refine zS rfl (aX bQ rfl) <| zm rfl <| ak <| bu <| AW.loop (X := Nat × Int × Int × Int × (List UInt8) × Nat) (fun (n34, y28, y29, y30, y31, t32) => ⟨[(4, .pt o16 0), (6, .pt o18 0), (13, slE (aC Enc.int (aC (Enc.sl Enc.str) (aC Enc.int (aC Enc.int Enc.int)))) x23 none), (14, i64 (x23.length : Int)), (15, i64 y28)], [], [.obj o18 [i64 y29, i64 y30, S a3, S a4, S a5, slE Enc.byte a6 none, slE Enc.byte y31 (some t32)], .obj o16 [i64 0, i64 0, S ([] : List UInt8), S ([] : List UInt8), S ([] : List UInt8), fA], .tok t32 5]⟩) (fun (n34, y28, y29, y30, y31, t32) => kn F a3 a4 a5 a6 x23 n34 (y28, y29, y30, y31) = some (r9, r10, r11, r12, r13, r14, r15)) (fun (n34, y28, y29, y30, y31, t32) => n34) (F, 0, a1, a2, [], t19) H (bh [3, 3, 2] (.cons (.refl _) (.cons (.refl _) (.cons (.refl _) (.cons (.refl _) (.cons (.refl _) (.nil _)))))) rfl) ?_;rintro ⟨n34, y28, y29, y30, y31, t32⟩ H;obtain ⟨n34, rfl, H⟩ := fW H;replace H : ko F a3 a4 a5 a6 x23 (kn F a3 a4 a5 a6 x23 n34) y28 y29 y30 y31 = some (r9, r10, r11, r12, r13, r14, r15) := H
  unfold ko at H
  refine aj <| ac ?_;show AR _ _ _ _ _ [0] _;refine zS rfl (ce rfl rfl) <| ak <| aj <| aG rfl (fun c35 => ?_) (fun c35 => ?_)
  ·replace H := bl c35 H;refine aJ <| aj <| bu <| aj ?_;obtain ⟨g36, H⟩ := be H;obtain ⟨x37, e38, H⟩ := cz H;refine ac ?_;show AR _ _ _ _ _ [0, 1, 2, 3] _;refine zS rfl (dX (E := (aC Enc.int (aC (Enc.sl Enc.str) (aC Enc.int (aC Enc.int Enc.int))))) bQ (by kernel_rfl) rfl rfl g36 e38) <| zS rfl (bk bB rfl (n := 5) (by kernel_rfl) rfl (ab rfl)) <| zX rfl (ci (zs := [.int .i64 0, .slice none 0 0, .int .i64 0, .int .i64 0, .int .i64 0]) (by kernel_rfl)) ?_;rintro _ _ ⟨o39, rfl, rfl⟩;refine s0 rfl rfl (bf (i := 0) (vs := [i64 x37.1, slE Enc.str x37.2.1 none, i64 x37.2.2.1, i64 x37.2.2.2.1, i64 x37.2.2.2.2]) (by kernel_rfl) rfl rfl (by simp [bD, slE]) rfl (ab rfl)) <| AR.freezeCp 8 0 rfl rfl ?_;show AR _ _ _ _ _ _ ⟨_, _, [.obj o18 [i64 y29, i64 y30, S a3, S a4, S a5, slE Enc.byte a6 none, slE Enc.byte y31 (some t32)], .obj o16 [i64 0, i64 0, S ([] : List UInt8), S ([] : List UInt8), S ([] : List UInt8), fA], .tok t32 5]⟩;refine ak ?_;obtain ⟨x40, x41, x42, e43, H⟩ := fa H;refine ac ?_;show AR _ _ _ _ _ [0, 1, 2] _;refine zS rfl (ai (av := .pt _ _) rfl) <| zS rfl (bk bB rfl (n := 5) (by kernel_rfl) rfl (ab rfl)) <| ao rfl rfl (bZ [0, 1] rfl mH rfl (lW F o18 y29 y30 a3 a4 a5 a6 y31 t32 x37.1 x37.2.1 x37.2.2.1 x37.2.2.2.1 x37.2.2.2.2 x40 x41 x42 e43) rfl (fun c A' h => by cases h.1) ?_)
   rintro av A' ⟨h, t44, rfl⟩; cases h
   refine ak ?_;obtain ⟨g45, H⟩ := be H;refine ac ?_;show AR _ _ _ _ _ [0, 1] _;refine zS rfl (fU rfl rfl g45) <| zm rfl <| ak ?_;exact Exists.intro (n34, y28 + 1, x40, x41, x42, t44) ⟨H, Nat.lt_succ_self _, bh [0, 1, 0] (.cons (.refl _) (.cons (.refl _) (.cons (.refl _) (.cons (.refl _) (.cons (.refl _) (.nil _)))))) rfl⟩
  ·replace H := bc c35 H;refine AW.exit ?_;exact Exists.intro (y29, y30, y31, t32) ⟨H, bh [0, 0, 0] (.cons (.refl _) (.cons (.refl _) (.nil _))) rfl⟩
 rintro ⟨y46, y47, y48, t49⟩ H;replace H : iB F a3 a4 a5 a6 y46 y47 y48 = some (r9, r10, r11, r12, r13, r14, r15) := H
 unfold iB at H
 refine cl (X := Int × Int) (fun (y55, y56) => ⟨[(4, .pt o16 0), (6, .pt o18 0)], [], [.obj o18 [i64 y55, i64 y56, S a3, S a4, S a5, slE Enc.byte a6 none, slE Enc.byte y48 (some t49)], .obj o16 [i64 0, i64 0, S ([] : List UInt8), S ([] : List UInt8), S ([] : List UInt8), fA], .tok t49 5]⟩) (fun (y55, y56) => gB a3 a4 a5 a6 y48 y55 y56 = some (r9, r10, r11, r12, r13, r14, r15)) ?_ ?_
 ·refine aj <| ac ?_;show AR _ _ _ _ _ [0, 1, 2, 3, 4, 5] _;refine zS rfl (ai (av := .pt _ _) rfl) <| zS rfl (am rfl) <| zS rfl (ag (n := 0) (by kernel_rfl) rfl) <| zS rfl (ag (n := 0) (by kernel_rfl) rfl) <| zR rfl (ah (i := 0) aq rfl rfl rfl rfl) <| zS rfl (eY rfl rfl) <| ak <| aG rfl (fun c51 => ?_) (fun c51 => ?_)
  ·replace H := bl c51 H;obtain ⟨x52, x53, e54, H⟩ := dA H;refine ac ?_;show AR _ _ _ _ _ [0, 1] _;refine zS rfl (ai (av := .pt _ _) rfl) <| ao rfl rfl (bZ [0, 1] rfl mG rfl (ma F o18 y46 y47 a3 a4 a5 a6 y48 t49 x52 x53 e54) rfl (fun c A' h => by cases h.1) ?_)
   rintro av A' ⟨h, rfl⟩; cases h
   refine ak ?_;exact Exists.intro (x52, x53) ⟨H, bh [0, 1, 0] (.cons (.refl _) (.cons (.refl _) (.nil _))) rfl⟩
  ·replace H := bc c51 H;refine aJ ?_;exact Exists.intro (y46, y47) ⟨H, bh [0, 0, 0] (.cons (.refl _) (.cons (.refl _) (.nil _))) rfl⟩
 rintro ⟨y55, y56⟩ H;replace H : gB a3 a4 a5 a6 y48 y55 y56 = some (r9, r10, r11, r12, r13, r14, r15) := H
 unfold gB at H
 refine aj <| bo (by kernel_rfl) ?_;show AI _ _ _ _ _ 10 (Array.replicate 10 false) _;refine zk 0 rfl (ai (av := .pt _ _) rfl) ?_;show AI _ _ _ _ _ _ #[true, false, false, false, false, false, false, false, false, false] _;refine zk 1 rfl (am rfl) ?_;show AI _ _ _ _ _ _ #[true, true, false, false, false, false, false, false, false, false] _;refine zk 2 rfl (ag (n := 0) (by kernel_rfl) rfl) ?_;show AI _ _ _ _ _ _ #[true, true, true, false, false, false, false, false, false, false] _;refine zk 4 rfl (ai (av := .pt _ _) rfl) ?_;show AI _ _ _ _ _ _ #[true, true, true, false, true, false, false, false, false, false] _;refine zk 5 rfl (am rfl) ?_;show AI _ _ _ _ _ _ #[true, true, true, false, true, true, false, false, false, false] _;refine zk 6 rfl (ag (n := 6) (by kernel_rfl) rfl) ?_;show AI _ _ _ _ _ _ #[true, true, true, false, true, true, true, false, false, false] _;refine cm (i := 3) (j := 7) (by kernel_rfl) rfl rfl rfl rfl ?_ ?_
 ·refine aE rfl (cG (i := 0) (n := 6) aU rfl (by kernel_rfl) rfl rfl (ab rfl)) ?_;show AI _ _ _ _ _ _ #[true, true, true, true, true, true, true, false, false, false] _;refine cm (i := 7) (j := 8) (by kernel_rfl) rfl rfl rfl rfl ?_ ?_
  ·refine aE rfl (ah (i := 0) aa rfl rfl rfl rfl) ?_;show AI _ _ _ _ _ _ #[true, true, true, true, true, true, true, true, false, false] _;refine aF (i := 8) (by kernel_rfl) rfl rfl <| bK (bf (i := 1) (vs := [i64 y55, i64 y56, S a3, S a4, S a5, slE Enc.byte a6 none]) (by kernel_rfl) rfl rfl (by simp [bD, slE]) rfl (ab rfl)) ?_;show AI _ _ _ _ _ _ #[true, true, true, true, true, true, true, true, true, false] _;refine zk 9 rfl (aA (av := slE _ _ _) rfl) ?_;show AI _ _ _ _ _ _ #[true, true, true, true, true, true, true, true, true, true] _;refine bb rfl <| aP ?_;obtain ⟨rfl, rfl, rfl, rfl, rfl, rfl, rfl⟩ := res7 H;exact And.intro rfl (Exists.intro _ (Exists.intro _ ⟨dc (dy rfl (dh (off := 0) (cs := [i64 y55, i64 y56, S a3, S a4, S a5, slE Enc.byte a6 none]) (n := 6) 1 aU rfl (by kernel_rfl) rfl rfl (ab rfl)) ((show PlaceV _ _ _ (.tmp _) _ from (.tok _ _ _)))), aI [] rfl, rfl, rfl⟩))
  ·refine bK (bf (i := 1) (vs := [i64 y55, i64 y56, S a3, S a4, S a5, slE Enc.byte a6 none]) (by kernel_rfl) rfl rfl (by simp [bD, slE]) rfl (ab rfl)) ?_;show AI _ _ _ _ _ _ #[true, true, true, true, true, true, true, false, true, false] _;refine aF (i := 7) (by kernel_rfl) rfl rfl <| aE rfl (ah (i := 0) aa rfl rfl rfl rfl) ?_;show AI _ _ _ _ _ _ #[true, true, true, true, true, true, true, true, true, false] _;refine zk 9 rfl (aA (av := slE _ _ _) rfl) ?_;show AI _ _ _ _ _ _ #[true, true, true, true, true, true, true, true, true, true] _;refine bb rfl <| aP ?_;obtain ⟨rfl, rfl, rfl, rfl, rfl, rfl, rfl⟩ := res7 H;exact And.intro rfl (Exists.intro _ (Exists.intro _ ⟨dc (dy rfl (dh (off := 0) (cs := [i64 y55, i64 y56, S a3, S a4, S a5, slE Enc.byte a6 none]) (n := 6) 1 aU rfl (by kernel_rfl) rfl rfl (ab rfl)) ((show PlaceV _ _ _ (.tmp _) _ from (.tok _ _ _)))), aI [] rfl, rfl, rfl⟩))
 ·refine aE rfl (ah (i := 0) aa rfl rfl rfl rfl) ?_;show AI _ _ _ _ _ _ #[true, true, true, false, true, true, true, true, false, false] _;refine aF (i := 3) (by kernel_rfl) rfl rfl <| aE rfl (cG (i := 0) (n := 6) aU rfl (by kernel_rfl) rfl rfl (ab rfl)) ?_;show AI _ _ _ _ _ _ #[true, true, true, true, true, true, true, true, false, false] _;refine aF (i := 8) (by kernel_rfl) rfl rfl <| bK (bf (i := 1) (vs := [i64 y55, i64 y56, S a3, S a4, S a5, slE Enc.byte a6 none]) (by kernel_rfl) rfl rfl (by simp [bD, slE]) rfl (ab rfl)) ?_;show AI _ _ _ _ _ _ #[true, true, true, true, true, true, true, true, true, false] _;refine zk 9 rfl (aA (av := slE _ _ _) rfl) ?_;show AI _ _ _ _ _ _ #[true, true, true, true, true, true, true, true, true, true] _;refine bb rfl <| aP ?_;obtain ⟨rfl, rfl, rfl, rfl, rfl, rfl, rfl⟩ := res7 H;exact And.intro rfl (Exists.intro _ (Exists.intro _ ⟨dc (dy rfl (dh (off := 0) (cs := [i64 y55, i64 y56, S a3, S a4, S a5, slE Enc.byte a6 none]) (n := 6) 1 aU rfl (by kernel_rfl) rfl rfl (ab rfl)) ((show PlaceV _ _ _ (.tmp _) _ from (.tok _ _ _)))), aI [] rfl, rfl, rfl⟩))
end Go.Proofs.YtgjkjkmmgdbcoaaGreatDoor
namespace Go.Pv
def pw : List UInt8 := [69, 72, 76, 79, 32, 104, 13, 10, 77, 65, 73, 76, 32, 70, 82, 79, 77, 58, 60, 97, 64, 98, 62, 13, 10, 82, 67, 80, 84, 32, 84, 79, 58, 60, 99, 64, 100, 62, 13, 10, 68, 65, 84, 65, 13, 10, 120, 13, 10, 46, 13, 10, 81, 85, 73, 84, 13, 10]
def jg (F : Nat) : Option ((List UInt8)) :=
some ([50, 50, 48, 32, 97, 13, 10, 50, 53, 48, 45, 97, 13, 10, 50, 53] ++ [48, 32, 83, 73, 90, 69, 32, 49, 48, 48, 48, 48, 48, 13, 10, 50] ++ [53, 48, 32, 111, 107, 13, 10, 50, 53, 48, 32, 111, 107, 13, 10, 51] ++ [53, 52, 32, 103, 111, 13, 10, 50, 53, 48, 32, 111, 107, 13, 10, 50] ++ [50, 49, 32, 98, 121, 101, 13, 10] : List UInt8)
def eO (x3 : Int × Int × (List UInt8) × (List UInt8) × (List UInt8) × (List UInt8) × Int) (y14 : List UInt8) (y15 : Int) (y16 : Int) (y17 : List UInt8) (y18 : List UInt8) (y19 : List UInt8) (y20 : List UInt8) : Option Bool :=
some ((((decide (x3.2.2.2.2.2.2 = 0)) && (decide (y16 = 1))) && (decide (y15 = 7))) && (decide (y14 = pw)))
def fm (F : Nat) : Option Bool :=
bnd (lF F ([97, 64, 98] : List UInt8) ([99, 64, 100] : List UInt8) ([104] : List UInt8) ([120, 13, 10] : List UInt8)) fun x3 =>
bnd (jg F) fun x6 =>
bnd (pg F x3.1 x3.2.1 x3.2.2.1 x3.2.2.2.1 x3.2.2.2.2.1 x3.2.2.2.2.2.1 x6) fun x8 =>
eO x3 x8.2.2.2.2.2.2 x8.1 x8.2.1 x8.2.2.1 x8.2.2.2.1 x8.2.2.2.2.1 x8.2.2.2.2.2.1
def gz (F : Nat) (a1 : Int) (a2 : Int) (a3 : List UInt8) (a4 : List UInt8) (a5 : List UInt8) (a6 : List UInt8) : Option Bool :=
some ((((decide ((a3.length : Int) ≤ 100)) && (decide ((a4.length : Int) ≤ 100))) && (decide ((a5.length : Int) ≤ 100))) && (decide ((a6.length : Int) ≤ 600)))
end Go.Pv
namespace Go.Proofs.YtgjkjkmmgdbcoaaGreatDoor
open Go.RowKit Go.Av Go.Pv
theorem qi : ∀ (args : Array Value) (w : World), (callFunc 12 args).run Tryz.prog w = .ok (.enter 12 args) w := fun _ _ => by kernel_rfl
theorem km : ∀ (args : Array Value) (w : World), (callFunc 15 args).run Tryz.prog w = .ok (.enter 15 args) w := fun _ _ => by kernel_rfl
theorem mL : ∀ (args : Array Value) (w : World), (callFunc 26 args).run Tryz.prog w = .ok (.enter 26 args) w := fun _ _ => by kernel_rfl
set_option maxRecDepth 100000 in
set_option maxHeartbeats 1000000 in
theorem jx (F : Nat) (r1 : List UInt8) (H : jg F = some r1) : ACalls Tryz.prog 26 [] [] (Ret (slE Enc.byte r1 none) []) := by
 unfold jg at H
 refine az Tryz.func26 rfl rfl ?_;show AW _ _ 3 _ _ _;refine aj <| ac ?_;show AR _ _ _ _ _ [0] _;refine za rfl <| ak <| aj <| ac ?_;show AR _ _ _ _ _ [0, 1, 2] _;refine zX rfl (fT (E := Enc.byte) (bytes := 1) (xs := [.const _, .const _, .const _, .const _, .const _, .const _, .const _, .const _, .const _, .const _, .const _, .const _, .const _, .const _, .const _, .const _] ++ [.const _, .const _, .const _, .const _, .const _, .const _, .const _, .const _, .const _, .const _, .const _, .const _, .const _, .const _, .const _, .const _] ++ [.const _, .const _, .const _, .const _, .const _, .const _, .const _, .const _, .const _, .const _, .const _, .const _, .const _, .const _, .const _, .const _] ++ [.const _, .const _, .const _, .const _, .const _, .const _, .const _, .const _, .const _, .const _, .const _, .const _, .const _, .const _, .const _, .const _] ++ [.const _, .const _, .const _, .const _, .const _, .const _, .const _, .const _]) (l := ([50, 50, 48, 32, 97, 13, 10, 50, 53, 48, 45, 97, 13, 10, 50, 53] ++ [48, 32, 83, 73, 90, 69, 32, 49, 48, 48, 48, 48, 48, 13, 10, 50] ++ [53, 48, 32, 111, 107, 13, 10, 50, 53, 48, 32, 111, 107, 13, 10, 51] ++ [53, 52, 32, 103, 111, 13, 10, 50, 53, 48, 32, 111, 107, 13, 10, 50] ++ [50, 49, 32, 98, 121, 101, 13, 10] : List UInt8)) aa (by kernel_rfl) rfl rfl (by decide) rfl rfl) ?_;rintro _ _ ⟨t2, rfl, rfl⟩;refine zR rfl (eo 0 aa aW rfl (by simp) rfl) <| zS rfl (aA (av := slE _ _ _) rfl) <| ak <| aP ?_
 obtain rfl := aD H;exact And.intro rfl (Exists.intro _ (Exists.intro _ ⟨aQ rfl (.tok _ _ _), aI [] rfl, rfl, rfl⟩))
set_option maxRecDepth 100000 in
set_option maxHeartbeats 1000000 in
theorem lJ (F : Nat) (r1 : Bool) (H : fm F = some r1) : ACalls Tryz.prog 10 [] [] (Ret (B r1) []) := by
 unfold fm at H
 refine az Tryz.func10 rfl rfl ?_;show AW _ _ 34 _ _ _;refine aj <| ac ?_;show AR _ _ _ _ _ [0] _;refine za rfl <| ak <| aj ?_;obtain ⟨x3, e4, H⟩ := dp H;refine ac ?_;show AR _ _ _ _ _ [0, 1, 2, 3, 4, 5, 6, 7, 8] _;refine zX rfl (fT (E := Enc.byte) (bytes := 1) (xs := [.const _, .const _, .const _]) (l := ([120, 13, 10] : List UInt8)) aa (by kernel_rfl) rfl rfl (by decide) rfl rfl) ?_;rintro _ _ ⟨t2, rfl, rfl⟩;refine zR rfl (eo 0 aa aW rfl (by simp) rfl) <| ao rfl rfl (aN rfl qi rfl (oz F ([97, 64, 98] : List UInt8) ([99, 64, 100] : List UInt8) ([104] : List UInt8) ([120, 13, 10] : List UInt8) (some t2) x3.1 x3.2.1 x3.2.2.1 x3.2.2.2.1 x3.2.2.2.2.1 x3.2.2.2.2.2.1 x3.2.2.2.2.2.2 e4) ?_);refine zS rfl (ai (av := .tup _) rfl) <| zS rfl (aM (av := .agg _) rfl rfl) <| zS rfl (aM (av := .v _) rfl rfl) <| zX rfl (ci (zs := [.int .i64 0, .int .i64 0, .string ⟨#[]⟩, .string ⟨#[]⟩, .string ⟨#[]⟩, .slice none 0 0]) (by kernel_rfl)) ?_;rintro _ _ ⟨o5, rfl, rfl⟩;refine s0 rfl rfl (bf (i := 0) (vs := [i64 x3.1, i64 x3.2.1, S x3.2.2.1, S x3.2.2.2.1, S x3.2.2.2.2.1, slE Enc.byte x3.2.2.2.2.2.1 none]) (by kernel_rfl) rfl rfl (by simp [bD, slE]) rfl (ab rfl)) <| AR.freezeCp 1 0 rfl rfl ?_;show AR _ _ _ _ _ _ ⟨_, _, [.tok t2 5]⟩
 refine za rfl <| ak <| cl (X := Nat × (List UInt8) × Int × Int × (List UInt8) × (List UInt8) × (List UInt8) × (List UInt8)) (fun (o13, y14, y15, y16, y17, y18, y19, y20) => ⟨[(2, i64 x3.2.2.2.2.2.2), (3, .pt o13 0), (4, slE Enc.byte y14 none)], [], [.obj o13 [i64 y15, i64 y16, S y17, S y18, S y19, slE Enc.byte y20 none]]⟩) (fun (o13, y14, y15, y16, y17, y18, y19, y20) => eO x3 y14 y15 y16 y17 y18 y19 y20 = some r1) ?_ ?_
 ·obtain ⟨x6, e7, H⟩ := dp H;obtain ⟨x8, e9, H⟩ := dp H;refine bo (by kernel_rfl) ?_;show AI _ _ _ _ _ 9 (Array.replicate 9 false) _;refine zk 0 rfl (bk aU rfl (n := 6) (by kernel_rfl) rfl (ab rfl)) ?_;show AI _ _ _ _ _ _ #[true, false, false, false, false, false, false, false, false] _;refine cm (i := 1) (j := 6) (by kernel_rfl) rfl rfl rfl rfl ?_ ?_
  ·refine bS rfl mL rfl (jx F x6 e7) ?_;show AI _ _ _ _ _ _ #[true, true, false, false, false, false, false, false, false] _;refine cm (i := 2) (j := 6) (by kernel_rfl) rfl rfl rfl rfl ?_ ?_
   ·refine bS rfl km rfl (lw F x3.1 x3.2.1 x3.2.2.1 x3.2.2.2.1 x3.2.2.2.2.1 x3.2.2.2.2.2.1 x6 none x8.1 x8.2.1 x8.2.2.1 x8.2.2.2.1 x8.2.2.2.2.1 x8.2.2.2.2.2.1 x8.2.2.2.2.2.2 e9) ?_;show AI _ _ _ _ _ _ #[true, true, true, false, false, false, false, false, false] _;refine zk 3 rfl (ai (av := .tup _) rfl) ?_;show AI _ _ _ _ _ _ #[true, true, true, true, false, false, false, false, false] _;refine zk 4 rfl (aM (av := .agg _) rfl rfl) ?_;show AI _ _ _ _ _ _ #[true, true, true, true, true, false, false, false, false] _;refine zk 5 rfl (aM (av := slE _ _ _) rfl rfl) ?_;show AI _ _ _ _ _ _ #[true, true, true, true, true, true, false, false, false] _;refine aF (i := 6) (by kernel_rfl) rfl rfl <| AIO.opx rfl (ci (zs := [.int .i64 0, .int .i64 0, .string ⟨#[]⟩, .string ⟨#[]⟩, .string ⟨#[]⟩, .slice none 0 0]) (by kernel_rfl)) ?_;rintro _ _ ⟨o10, rfl, rfl⟩;show AI _ _ _ _ _ _ #[true, true, true, true, true, true, true, false, false] _;refine aF (i := 7) (by kernel_rfl) rfl rfl <| bK (bf (i := 0) (vs := [i64 x8.1, i64 x8.2.1, S x8.2.2.1, S x8.2.2.2.1, S x8.2.2.2.2.1, slE Enc.byte x8.2.2.2.2.2.1 none]) (by kernel_rfl) rfl rfl (by simp [bD, slE]) rfl (ab rfl)) ?_;show AI _ _ _ _ _ _ #[true, true, true, true, true, true, true, true, false] _;refine zk 8 rfl (aA (av := slE _ _ _) rfl) ?_;show AI _ _ _ _ _ _ #[true, true, true, true, true, true, true, true, true] _;refine bb rfl ?_
    exact Exists.intro (o10, x8.2.2.2.2.2.2, x8.1, x8.2.1, x8.2.2.1, x8.2.2.2.1, x8.2.2.2.2.1, x8.2.2.2.2.2.1) ⟨H, bh [0] (.cons (.refl _) (.cons (.refl _) (.cons (.refl _) (.nil _)))) rfl⟩
   ·refine AIO.opx rfl (ci (zs := [.int .i64 0, .int .i64 0, .string ⟨#[]⟩, .string ⟨#[]⟩, .string ⟨#[]⟩, .slice none 0 0]) (by kernel_rfl)) ?_;rintro _ _ ⟨o11, rfl, rfl⟩;show AI _ _ _ _ _ _ #[true, true, false, false, false, false, true, false, false] _;refine aF (i := 2) (by kernel_rfl) rfl rfl <| bS rfl km rfl (lw F x3.1 x3.2.1 x3.2.2.1 x3.2.2.2.1 x3.2.2.2.2.1 x3.2.2.2.2.2.1 x6 none x8.1 x8.2.1 x8.2.2.1 x8.2.2.2.1 x8.2.2.2.2.1 x8.2.2.2.2.2.1 x8.2.2.2.2.2.2 e9) ?_;show AI _ _ _ _ _ _ #[true, true, true, false, false, false, true, false, false] _;refine zk 3 rfl (ai (av := .tup _) rfl) ?_;show AI _ _ _ _ _ _ #[true, true, true, true, false, false, true, false, false] _;refine zk 4 rfl (aM (av := .agg _) rfl rfl) ?_;show AI _ _ _ _ _ _ #[true, true, true, true, true, false, true, false, false] _;refine zk 5 rfl (aM (av := slE _ _ _) rfl rfl) ?_;show AI _ _ _ _ _ _ #[true, true, true, true, true, true, true, false, false] _;refine aF (i := 7) (by kernel_rfl) rfl rfl <| bK (bf (i := 0) (vs := [i64 x8.1, i64 x8.2.1, S x8.2.2.1, S x8.2.2.2.1, S x8.2.2.2.2.1, slE Enc.byte x8.2.2.2.2.2.1 none]) (by kernel_rfl) rfl rfl (by simp [bD, slE]) rfl (ab rfl)) ?_;show AI _ _ _ _ _ _ #[true, true, true, true, true, true, true, true, false] _;refine zk 8 rfl (aA (av := slE _ _ _) rfl) ?_;show AI _ _ _ _ _ _ #[true, true, true, true, true, true, true, true, true] _;refine bb rfl ?_
    exact Exists.intro (o11, x8.2.2.2.2.2.2, x8.1, x8.2.1, x8.2.2.1, x8.2.2.2.1, x8.2.2.2.2.1, x8.2.2.2.2.2.1) ⟨H, bh [0] (.cons (.refl _) (.cons (.refl _) (.cons (.refl _) (.nil _)))) rfl⟩
  ·refine AIO.opx rfl (ci (zs := [.int .i64 0, .int .i64 0, .string ⟨#[]⟩, .string ⟨#[]⟩, .string ⟨#[]⟩, .slice none 0 0]) (by kernel_rfl)) ?_;rintro _ _ ⟨o12, rfl, rfl⟩;show AI _ _ _ _ _ _ #[true, false, false, false, false, false, true, false, false] _;refine aF (i := 1) (by kernel_rfl) rfl rfl <| bS rfl mL rfl (jx F x6 e7) ?_;show AI _ _ _ _ _ _ #[true, true, false, false, false, false, true, false, false] _;refine aF (i := 2) (by kernel_rfl) rfl rfl <| bS rfl km rfl (lw F x3.1 x3.2.1 x3.2.2.1 x3.2.2.2.1 x3.2.2.2.2.1 x3.2.2.2.2.2.1 x6 none x8.1 x8.2.1 x8.2.2.1 x8.2.2.2.1 x8.2.2.2.2.1 x8.2.2.2.2.2.1 x8.2.2.2.2.2.2 e9) ?_;show AI _ _ _ _ _ _ #[true, true, true, false, false, false, true, false, false] _;refine zk 3 rfl (ai (av := .tup _) rfl) ?_;show AI _ _ _ _ _ _ #[true, true, true, true, false, false, true, false, false] _;refine zk 4 rfl (aM (av := .agg _) rfl rfl) ?_;show AI _ _ _ _ _ _ #[true, true, true, true, true, false, true, false, false] _;refine zk 5 rfl (aM (av := slE _ _ _) rfl rfl) ?_;show AI _ _ _ _ _ _ #[true, true, true, true, true, true, true, false, false] _;refine aF (i := 7) (by kernel_rfl) rfl rfl <| bK (bf (i := 0) (vs := [i64 x8.1, i64 x8.2.1, S x8.2.2.1, S x8.2.2.2.1, S x8.2.2.2.2.1, slE Enc.byte x8.2.2.2.2.2.1 none]) (by kernel_rfl) rfl rfl (by simp [bD, slE]) rfl (ab rfl)) ?_;show AI _ _ _ _ _ _ #[true, true, true, true, true, true, true, true, false] _;refine zk 8 rfl (aA (av := slE _ _ _) rfl) ?_
   show AI _ _ _ _ _ _ #[true, true, true, true, true, true, true, true, true] _;refine bb rfl ?_;exact Exists.intro (o12, x8.2.2.2.2.2.2, x8.1, x8.2.1, x8.2.2.1, x8.2.2.2.1, x8.2.2.2.2.1, x8.2.2.2.2.2.1) ⟨H, bh [0] (.cons (.refl _) (.cons (.refl _) (.cons (.refl _) (.nil _)))) rfl⟩
 rintro ⟨o13, y14, y15, y16, y17, y18, y19, y20⟩ H;replace H : eO x3 y14 y15 y16 y17 y18 y19 y20 = some r1 := H
 unfold eO at H
 refine aj <| ac ?_;show AR _ _ _ _ _ [0, 1, 2, 3, 4, 5, 6, 7, 8, 9, 10, 11, 12, 13, 14, 15, 16, 17] _;refine zm rfl <| zS rfl (bI rfl rfl) <| zm rfl <| aK (l := [7, 8, 9, 10, 11, 12, 13, 14, 15, 16, 17]) 23 (B ((decide (x3.2.2.2.2.2.2 = 0)) && (decide (y16 = 1)))) (fun K => ?_) ?_
 ·rcases af (decide (x3.2.2.2.2.2.2 = 0)) with h22 | h22
  ·refine zU h22 rfl (ag (n := 1) (by kernel_rfl) rfl) <| zT h22 rfl (bE rfl rfl (ah (i := 0) aq rfl rfl rfl rfl) ?_);refine zU h22 rfl (bI rfl rfl) <| zS rfl (aw (av := .v _) rfl h22 rfl) ?_;exact K _ 3 _ (ar (bU h22)) rfl rfl
  ·refine zF h22 rfl <| zF h22 rfl <| zF h22 rfl <| zS rfl (au (av := .v _) rfl h22 rfl) ?_;exact K _ 3 _ (ar (bV h22)) rfl rfl
 refine zm rfl <| aK (l := [12, 13, 14, 15, 16, 17]) 28 (B (((decide (x3.2.2.2.2.2.2 = 0)) && (decide (y16 = 1))) && (decide (y15 = 7)))) (fun K => ?_) ?_
 ·rcases af ((decide (x3.2.2.2.2.2.2 = 0)) && (decide (y16 = 1))) with h23 | h23
  ·refine zU h23 rfl (ag (n := 0) (by kernel_rfl) rfl) <| zT h23 rfl (bE rfl rfl (ah (i := 0) aq rfl rfl rfl rfl) ?_);refine zU h23 rfl (bI rfl rfl) <| zS rfl (aw (av := .v _) rfl h23 rfl) ?_;exact K _ 3 _ (ar (bU h23)) rfl rfl
  ·refine zF h23 rfl <| zF h23 rfl <| zF h23 rfl <| zS rfl (au (av := .v _) rfl h23 rfl) ?_;exact K _ 3 _ (ar (bV h23)) rfl rfl
 refine zm rfl <| aK (l := [17]) 33 (B ((((decide (x3.2.2.2.2.2.2 = 0)) && (decide (y16 = 1))) && (decide (y15 = 7))) && (decide (y14 = pw)))) (fun K => ?_) ?_
 ·rcases af (((decide (x3.2.2.2.2.2.2 = 0)) && (decide (y16 = 1))) && (decide (y15 = 7))) with h24 | h24
  ·refine zU h24 rfl (ai (av := slE _ _ _) rfl) <| zU h24 rfl (du aa aW al rfl) <| zU h24 rfl (gX rfl rfl) <| zS rfl (aw (av := .v _) rfl h24 rfl) ?_;exact K _ 3 _ (ar (bU h24)) rfl rfl
  ·refine zF h24 rfl <| zF h24 rfl <| zF h24 rfl <| zS rfl (au (av := .v _) rfl h24 rfl) ?_;exact K _ 3 _ (ar (bV h24)) rfl rfl
 refine za rfl <| ak <| aP ?_;obtain rfl := aD H;exact And.intro rfl (Exists.intro _ (Exists.intro _ ⟨aQ rfl (.refl _), aI [] rfl, rfl, rfl⟩))
set_option maxRecDepth 100000 in
set_option maxHeartbeats 1000000 in
theorem nA (F : Nat) (a1 : Int) (a2 : Int) (a3 : List UInt8) (a4 : List UInt8) (a5 : List UInt8) (a6 : List UInt8) (r7 : Bool) (H : gz F a1 a2 a3 a4 a5 a6 = some r7) : ACalls Tryz.prog 11 [.agg [i64 a1, i64 a2, S a3, S a4, S a5, slE Enc.byte a6 none]] [] (Ret (B r7) []) := by
 unfold gz at H
 refine az Tryz.func11 rfl rfl ?_;show AW _ _ 25 _ _ _;refine aj <| ac ?_;show AR _ _ _ _ _ [0, 1] _;refine zR rfl (cx rfl (.inr ⟨_, rfl⟩)) <| za rfl <| ak <| aj <| ac ?_;show AR _ _ _ _ _ [0, 1, 2, 3, 4, 5, 6, 7, 8, 9, 10, 11, 12, 13, 14, 15, 16, 17, 18, 19, 20, 21, 22] _;refine zS rfl (aR (n := 2) (by kernel_rfl) rfl (ab rfl)) <| zS rfl (aL al rfl rfl) <| zS rfl (bp al rfl) <| zS rfl (dm rfl rfl) <| zm rfl <| aK (l := [10, 11, 12, 13, 14, 15, 16, 17, 18, 19, 20, 21, 22]) 12 (B ((decide ((a3.length : Int) ≤ 100)) && (decide ((a4.length : Int) ≤ 100)))) (fun K => ?_) ?_
 ·rcases af (decide ((a3.length : Int) ≤ 100)) with h8 | h8
  ·refine zU h8 rfl (aR (n := 3) (by kernel_rfl) rfl (ab rfl)) <| zU h8 rfl (aL al rfl rfl) <| zU h8 rfl (bp al rfl) <| zU h8 rfl (dm rfl rfl) <| zS rfl (aw (av := .v _) rfl h8 rfl) ?_;exact K _ 4 _ (ar (bU h8)) rfl rfl
  ·refine zF h8 rfl <| zF h8 rfl <| zF h8 rfl <| zF h8 rfl <| zS rfl (au (av := .v _) rfl h8 rfl) ?_;exact K _ 4 _ (ar (bV h8)) rfl rfl
 refine zm rfl <| aK (l := [16, 17, 18, 19, 20, 21, 22]) 18 (B (((decide ((a3.length : Int) ≤ 100)) && (decide ((a4.length : Int) ≤ 100))) && (decide ((a5.length : Int) ≤ 100)))) (fun K => ?_) ?_
 ·rcases af ((decide ((a3.length : Int) ≤ 100)) && (decide ((a4.length : Int) ≤ 100))) with h9 | h9
  ·refine zU h9 rfl (aR (n := 4) (by kernel_rfl) rfl (ab rfl)) <| zU h9 rfl (aL al rfl rfl) <| zU h9 rfl (bp al rfl) <| zU h9 rfl (dm rfl rfl) <| zS rfl (aw (av := .v _) rfl h9 rfl) ?_;exact K _ 4 _ (ar (bU h9)) rfl rfl
  ·refine zF h9 rfl <| zF h9 rfl <| zF h9 rfl <| zF h9 rfl <| zS rfl (au (av := .v _) rfl h9 rfl) ?_;exact K _ 4 _ (ar (bV h9)) rfl rfl
 refine zm rfl <| aK (l := [22]) 24 (B ((((decide ((a3.length : Int) ≤ 100)) && (decide ((a4.length : Int) ≤ 100))) && (decide ((a5.length : Int) ≤ 100))) && (decide ((a6.length : Int) ≤ 600)))) (fun K => ?_) ?_
 ·rcases af (((decide ((a3.length : Int) ≤ 100)) && (decide ((a4.length : Int) ≤ 100))) && (decide ((a5.length : Int) ≤ 100))) with h10 | h10
  ·refine zU h10 rfl (aR (n := 5) (by kernel_rfl) rfl (ab rfl)) <| zU h10 rfl (aL aa rfl rfl) <| zU h10 rfl (aX aa rfl) <| zU h10 rfl (dm rfl rfl) <| zS rfl (aw (av := .v _) rfl h10 rfl) ?_;exact K _ 4 _ (ar (bU h10)) rfl rfl
  ·refine zF h10 rfl <| zF h10 rfl <| zF h10 rfl <| zF h10 rfl <| zS rfl (au (av := .v _) rfl h10 rfl) ?_;exact K _ 4 _ (ar (bV h10)) rfl rfl
 refine za rfl <| ak <| aP ?_;obtain rfl := aD H;exact And.intro rfl (Exists.intro _ (Exists.intro _ ⟨aQ rfl (.refl _), aI [] rfl, rfl, rfl⟩))
end Go.Proofs.YtgjkjkmmgdbcoaaGreatDoor
namespace Go.Pv
def cn (x20 : Int × Int × (List UInt8) × (List UInt8) × (List UInt8) × (List UInt8) × (List UInt8)) (y27 : Int) : Option Bool :=
some (((decide (x20.1 = 6)) && (decide (x20.2.1 = y27))) && (decide (x20.2.2.2.2.2.2 = ([81, 85, 73, 84, 13, 10] : List UInt8))))
def da (F : Nat) (a1 : Int) (a2 : Int) (a3 : List UInt8) (a4 : List UInt8) (a5 : List UInt8) (a6 : List UInt8) (a7 : Int) : Option Bool :=
bnd (fm F) fun x9 =>
bnd (gz F a1 a2 a3 a4 a5 a6) fun x11 =>
bif ((((((!x9) || (!x11)) || (decide (a1 < 0))) || (decide (5 < a1))) || (!decide (a2 = 0))) || (decide (a7 < 400))) || (decide (599 < a7)) then
  some x9
else
  bnd (jX F a1 a2 a3 a4 a5 a6 a7 ([([110, 111] : List UInt8)] : List (List UInt8)) 0 0 0) fun x20 =>
  bif decide (a7 = 421) then
    some (((decide (x20.1 = 7)) && (decide (x20.2.1 = 2))) && (decide ((x20.2.2.2.2.2.2.length : Int) = 0)))
  else
    bif decide (500 ≤ a7) then
      cn x20 3
    else
      cn x20 2
end Go.Pv
namespace Go.Proofs.YtgjkjkmmgdbcoaaGreatDoor
open Go.RowKit Go.Av Go.Pv
theorem ju : ∀ (args : Array Value) (w : World), (callFunc 10 args).run Tryz.prog w = .ok (.enter 10 args) w := fun _ _ => by kernel_rfl
theorem jt : ∀ (args : Array Value) (w : World), (callFunc 11 args).run Tryz.prog w = .ok (.enter 11 args) w := fun _ _ => by kernel_rfl
theorem js : ∀ (args : Array Value) (w : World), (callFunc 18 args).run Tryz.prog w = .ok (.enter 18 args) w := fun _ _ => by kernel_rfl
set_option maxRecDepth 100000 in
set_option maxHeartbeats 1000000 in
theorem iC (F : Nat) (a1 : Int) (a2 : Int) (a3 : List UInt8) (a4 : List UInt8) (a5 : List UInt8) (a6 : List UInt8) (a7 : Int) (r8 : Bool) (H : da F a1 a2 a3 a4 a5 a6 a7 = some r8) : ACalls Tryz.prog 6 [.agg [i64 a1, i64 a2, S a3, S a4, S a5, slE Enc.byte a6 none], i64 a7] [] (Ret (B r8) []) := by
 unfold da at H
 refine az Tryz.func6 rfl rfl ?_;show AW _ _ 82 _ _ _;refine aj <| ac ?_;show AR _ _ _ _ _ [0, 1] _;refine zR rfl (cx rfl (.inr ⟨_, rfl⟩)) <| za rfl <| ak <| aj ?_;obtain ⟨x9, e10, H⟩ := dp H;refine ac ?_;show AR _ _ _ _ _ [0, 1] _;refine ao rfl rfl (aN rfl ju rfl (lJ F x9 e10) ?_);refine za rfl <| ak <| aj ?_;obtain ⟨x11, e12, H⟩ := dp H;refine ac ?_;show AR _ _ _ _ _ [0, 1, 2] _;refine zS rfl (bk aU rfl (n := 6) (by kernel_rfl) rfl (ab rfl)) <| ao rfl rfl (aN rfl jt rfl (nA F a1 a2 a3 a4 a5 a6 x11 e12) ?_);refine za rfl <| ak <| aj <| aj <| ac ?_;show AR _ _ _ _ _ [0, 1, 2, 3, 4, 5, 6, 7, 8, 9, 10, 11, 12, 13, 14, 15, 16, 17, 18, 19, 20, 21, 22, 23, 24, 25, 26, 27, 28] _;refine zm rfl <| zS rfl (dq rfl) <| zm rfl <| aK (l := [6, 7, 8, 9, 10, 11, 12, 13, 14, 15, 16, 17, 18, 19, 20, 21, 22, 23, 24, 25, 26, 27, 28]) 18 (B ((!x9) || (!x11))) (fun K => ?_) ?_
 ·rcases af (!x9) with h13 | h13
  ·refine zF h13 rfl <| zF h13 rfl <| zS rfl (aw (av := .v _) rfl h13 rfl) ?_;exact K _ 2 _ (ar (fI h13)) rfl rfl
  ·refine zM h13 rfl <| zU h13 rfl (dq rfl) <| zS rfl (au (av := .v _) rfl h13 rfl) ?_;exact K _ 2 _ (ar (fJ h13)) rfl rfl
 refine zm rfl <| aK (l := [11, 12, 13, 14, 15, 16, 17, 18, 19, 20, 21, 22, 23, 24, 25, 26, 27, 28]) 23 (B (((!x9) || (!x11)) || (decide (a1 < 0)))) (fun K => ?_) ?_
 ·rcases af ((!x9) || (!x11)) with h14 | h14
  ·refine zF h14 rfl <| zF h14 rfl <| zF h14 rfl <| zS rfl (aw (av := .v _) rfl h14 rfl) ?_;exact K _ 3 _ (ar (fI h14)) rfl rfl
  ·refine zU h14 rfl (aR (n := 0) (by kernel_rfl) rfl (ab rfl)) <| zU h14 rfl (aL aq rfl rfl) <| zU h14 rfl (ce rfl rfl) <| zS rfl (au (av := .v _) rfl h14 rfl) ?_;exact K _ 3 _ (ar (fJ h14)) rfl rfl
 refine zm rfl <| aK (l := [16, 17, 18, 19, 20, 21, 22, 23, 24, 25, 26, 27, 28]) 28 (B ((((!x9) || (!x11)) || (decide (a1 < 0))) || (decide (5 < a1)))) (fun K => ?_) ?_
 ·rcases af (((!x9) || (!x11)) || (decide (a1 < 0))) with h15 | h15
  ·refine zF h15 rfl <| zF h15 rfl <| zF h15 rfl <| zS rfl (aw (av := .v _) rfl h15 rfl) ?_;exact K _ 3 _ (ar (fI h15)) rfl rfl
  ·refine zU h15 rfl (aR (n := 0) (by kernel_rfl) rfl (ab rfl)) <| zU h15 rfl (aL aq rfl rfl) <| zU h15 rfl (fV rfl rfl) <| zS rfl (au (av := .v _) rfl h15 rfl) ?_;exact K _ 3 _ (ar (fJ h15)) rfl rfl
 refine zm rfl <| aK (l := [21, 22, 23, 24, 25, 26, 27, 28]) 33 (B (((((!x9) || (!x11)) || (decide (a1 < 0))) || (decide (5 < a1))) || (!decide (a2 = 0)))) (fun K => ?_) ?_
 ·rcases af ((((!x9) || (!x11)) || (decide (a1 < 0))) || (decide (5 < a1))) with h16 | h16
  ·refine zF h16 rfl <| zF h16 rfl <| zF h16 rfl <| zS rfl (aw (av := .v _) rfl h16 rfl) ?_;exact K _ 3 _ (ar (fI h16)) rfl rfl
  ·refine zU h16 rfl (aR (n := 1) (by kernel_rfl) rfl (ab rfl)) <| zU h16 rfl (aL aq rfl rfl) <| zU h16 rfl (eY rfl rfl) <| zS rfl (au (av := .v _) rfl h16 rfl) ?_;exact K _ 3 _ (ar (fJ h16)) rfl rfl
 refine zm rfl <| aK (l := [25, 26, 27, 28]) 37 (B ((((((!x9) || (!x11)) || (decide (a1 < 0))) || (decide (5 < a1))) || (!decide (a2 = 0))) || (decide (a7 < 400)))) (fun K => ?_) ?_
 ·rcases af (((((!x9) || (!x11)) || (decide (a1 < 0))) || (decide (5 < a1))) || (!decide (a2 = 0))) with h17 | h17
  ·refine zF h17 rfl <| zF h17 rfl <| zS rfl (aw (av := .v _) rfl h17 rfl) ?_;exact K _ 2 _ (ar (fI h17)) rfl rfl
  ·refine zM h17 rfl <| zU h17 rfl (ce rfl rfl) <| zS rfl (au (av := .v _) rfl h17 rfl) ?_;exact K _ 2 _ (ar (fJ h17)) rfl rfl
 refine zm rfl <| aK (l := []) 41 (B (((((((!x9) || (!x11)) || (decide (a1 < 0))) || (decide (5 < a1))) || (!decide (a2 = 0))) || (decide (a7 < 400))) || (decide (599 < a7)))) (fun K => ?_) ?_
 ·rcases af ((((((!x9) || (!x11)) || (decide (a1 < 0))) || (decide (5 < a1))) || (!decide (a2 = 0))) || (decide (a7 < 400))) with h18 | h18
  ·refine zF h18 rfl <| zF h18 rfl <| zS rfl (aw (av := .v _) rfl h18 rfl) ?_;exact K _ 2 _ (ar (fI h18)) rfl rfl
  ·refine zM h18 rfl <| zU h18 rfl (fV rfl rfl) <| zS rfl (au (av := .v _) rfl h18 rfl) ?_;exact K _ 2 _ (ar (fJ h18)) rfl rfl
 refine ak <| aG rfl (fun c19 => ?_) (fun c19 => ?_)
 ·replace H := bl c19 H;refine aj <| ac ?_;show AR _ _ _ _ _ [0, 1] _;refine zm rfl <| za rfl <| ak <| aP ?_;obtain rfl := aD H;exact And.intro rfl (Exists.intro _ (Exists.intro _ ⟨aQ rfl (.refl _), aI [] rfl, rfl, rfl⟩))
 ·replace H := bc c19 H;refine aJ <| aj ?_;obtain ⟨x20, e21, H⟩ := dp H;refine ac ?_;show AR _ _ _ _ _ [0, 1, 2, 3, 4, 5, 6, 7, 8, 9, 10] _;refine zS rfl (bk aU rfl (n := 6) (by kernel_rfl) rfl (ab rfl)) <| zm rfl <| zR rfl (cW (E := Enc.str) (bytes := 16) (xs := [.const _]) (l := ([([110, 111] : List UInt8)] : List (List UInt8))) ax (by kernel_rfl) rfl rfl (by decide) rfl rfl) <| zS rfl (hB (zs := [.int .i64 0, .slice none 0 0, .int .i64 0, .int .i64 0, .int .i64 0]) (ps := [(0, 1), (1, 1), (2, 3)]) (cs := [i64 a7, slE Enc.str ([([110, 111] : List UInt8)] : List (List UInt8)) none, i64 0, i64 0, i64 0]) (by kernel_rfl) rfl rfl) <| ao rfl rfl (aN rfl js rfl (pH F a1 a2 a3 a4 a5 a6 a7 ([([110, 111] : List UInt8)] : List (List UInt8)) 0 0 0 x20.1 x20.2.1 x20.2.2.1 x20.2.2.2.1 x20.2.2.2.2.1 x20.2.2.2.2.2.1 x20.2.2.2.2.2.2 e21) ?_);refine zS rfl (ai (av := .tup _) rfl) <| zS rfl (aM (av := .agg _) rfl rfl) <| zS rfl (aM (av := slE _ _ _) rfl rfl) <| zX rfl (ci (zs := [.int .i64 0, .int .i64 0, .string ⟨#[]⟩, .string ⟨#[]⟩, .string ⟨#[]⟩, .slice none 0 0]) (by kernel_rfl)) ?_;rintro _ _ ⟨o22, rfl, rfl⟩;refine s0 rfl rfl (bf (i := 0) (vs := [i64 x20.1, i64 x20.2.1, S x20.2.2.1, S x20.2.2.2.1, S x20.2.2.2.2.1, slE Enc.byte x20.2.2.2.2.2.1 none]) (by kernel_rfl) rfl rfl (by simp [bD, slE]) rfl (ab rfl)) <| AR.freezeCp 7 0 rfl rfl ?_;show AR _ _ _ _ _ _ ⟨_, _, []⟩
  refine zS rfl (aA (av := slE _ _ _) rfl) <| ak <| aj <| aj <| ac ?_;show AR _ _ _ _ _ [0, 1] _;refine zm rfl <| zS rfl (bI rfl rfl) <| ak <| aG rfl (fun c23 => ?_) (fun c23 => ?_)
  ·replace H := bl c23 H;refine aj <| ac ?_;show AR _ _ _ _ _ [0, 1, 2, 3, 4, 5, 6, 7, 8, 9, 10, 11, 12, 13] _;refine zS rfl (aR (n := 0) (by kernel_rfl) rfl (ab rfl)) <| zS rfl (aL aq rfl rfl) <| zS rfl (bI rfl rfl) <| zm rfl <| aK (l := [8, 9, 10, 11, 12, 13]) 60 (B ((decide (x20.1 = 7)) && (decide (x20.2.1 = 2)))) (fun K => ?_) ?_
   ·rcases af (decide (x20.1 = 7)) with h24 | h24
    ·refine zU h24 rfl (aR (n := 1) (by kernel_rfl) rfl (ab rfl)) <| zU h24 rfl (aL aq rfl rfl) <| zU h24 rfl (bI rfl rfl) <| zS rfl (aw (av := .v _) rfl h24 rfl) ?_;exact K _ 3 _ (ar (bU h24)) rfl rfl
    ·refine zF h24 rfl <| zF h24 rfl <| zF h24 rfl <| zS rfl (au (av := .v _) rfl h24 rfl) ?_;exact K _ 3 _ (ar (bV h24)) rfl rfl
   refine zm rfl <| aK (l := [13]) 65 (B (((decide (x20.1 = 7)) && (decide (x20.2.1 = 2))) && (decide ((x20.2.2.2.2.2.2.length : Int) = 0)))) (fun K => ?_) ?_
   ·rcases af ((decide (x20.1 = 7)) && (decide (x20.2.1 = 2))) with h25 | h25
    ·refine zU h25 rfl (ai (av := slE _ _ _) rfl) <| zU h25 rfl (aX aa rfl) <| zU h25 rfl (bI rfl rfl) <| zS rfl (aw (av := .v _) rfl h25 rfl) ?_;exact K _ 3 _ (ar (bU h25)) rfl rfl
    ·refine zF h25 rfl <| zF h25 rfl <| zF h25 rfl <| zS rfl (au (av := .v _) rfl h25 rfl) ?_;exact K _ 3 _ (ar (bV h25)) rfl rfl
   refine za rfl <| ak <| aP ?_;obtain rfl := aD H;exact And.intro rfl (Exists.intro _ (Exists.intro _ ⟨aQ rfl (.refl _), aI [] rfl, rfl, rfl⟩))
  ·replace H := bc c23 H;refine aJ <| aj <| ac ?_;show AR _ _ _ _ _ [0] _;refine za rfl <| ak <| cl (X := Int) (fun y27 => ⟨[(7, .cp [i64 x20.1, i64 x20.2.1, S x20.2.2.1, S x20.2.2.2.1, S x20.2.2.2.2.1, slE Enc.byte x20.2.2.2.2.2.1 none]), (8, slE Enc.byte x20.2.2.2.2.2.2 none), (9, i64 y27)], [], []⟩) (fun y27 => cn x20 y27 = some r8) ?_ ?_
   ·refine aj <| ac ?_;show AR _ _ _ _ _ [0, 1] _;refine zm rfl <| zS rfl (et rfl rfl) <| ak <| aG rfl (fun c26 => ?_) (fun c26 => ?_)
    ·replace H := bl c26 H;refine ac ?_;show AR _ _ _ _ _ [0] _;refine za rfl <| ak ?_;exact Exists.intro 3 ⟨H, bh [] (.cons (.refl _) (.cons (.refl _) (.cons (.refl _) (.nil _)))) rfl⟩
    ·replace H := bc c26 H;refine aJ ?_;exact Exists.intro 2 ⟨H, bh [] (.cons (.refl _) (.cons (.refl _) (.cons (.refl _) (.nil _)))) rfl⟩
   rintro y27 H;replace H : cn x20 y27 = some r8 := H
   unfold cn at H
   refine aj <| ac ?_;show AR _ _ _ _ _ [0, 1, 2, 3, 4, 5, 6, 7, 8, 9, 10, 11, 12, 13, 14] _;refine zS rfl (aR (n := 0) (by kernel_rfl) rfl (ab rfl)) <| zS rfl (aL aq rfl rfl) <| zS rfl (bI rfl rfl) <| zm rfl <| aK (l := [9, 10, 11, 12, 13, 14]) 76 (B ((decide (x20.1 = 6)) && (decide (x20.2.1 = y27)))) (fun K => ?_) ?_
   ·rcases af (decide (x20.1 = 6)) with h29 | h29
    ·refine zU h29 rfl (aR (n := 1) (by kernel_rfl) rfl (ab rfl)) <| zU h29 rfl (aL aq rfl rfl) <| zM h29 rfl <| zU h29 rfl (bI rfl rfl) <| zS rfl (aw (av := .v _) rfl h29 rfl) ?_;exact K _ 4 _ (ar (bU h29)) rfl rfl
    ·refine zF h29 rfl <| zF h29 rfl <| zF h29 rfl <| zF h29 rfl <| zS rfl (au (av := .v _) rfl h29 rfl) ?_;exact K _ 4 _ (ar (bV h29)) rfl rfl
   refine zm rfl <| aK (l := [14]) 81 (B (((decide (x20.1 = 6)) && (decide (x20.2.1 = y27))) && (decide (x20.2.2.2.2.2.2 = ([81, 85, 73, 84, 13, 10] : List UInt8))))) (fun K => ?_) ?_
   ·rcases af ((decide (x20.1 = 6)) && (decide (x20.2.1 = y27))) with h30 | h30
    ·refine zU h30 rfl (ai (av := slE _ _ _) rfl) <| zU h30 rfl (du aa aW al rfl) <| zU h30 rfl (gX rfl rfl) <| zS rfl (aw (av := .v _) rfl h30 rfl) ?_;exact K _ 3 _ (ar (bU h30)) rfl rfl
    ·refine zF h30 rfl <| zF h30 rfl <| zF h30 rfl <| zS rfl (au (av := .v _) rfl h30 rfl) ?_;exact K _ 3 _ (ar (bV h30)) rfl rfl
   refine za rfl <| ak <| aP ?_;obtain rfl := aD H;exact And.intro rfl (Exists.intro _ (Exists.intro _ ⟨aQ rfl (.refl _), aI [] rfl, rfl, rfl⟩))
end Go.Proofs.YtgjkjkmmgdbcoaaGreatDoor
namespace Go.Cl
open Go.Pv Go.Av
abbrev Bs := List UInt8
def NoCr (l : Bs) : Prop := ∀ c ∈ l, c ≠ 13 ∧ c ≠ 10
def lnD (l : Bs) : Bs := l ++ [13, 10]
def flD (ls : List Bs) : Bs := (ls.map lnD).flatten
def okD : Bool → Bs → Bool
  | p, [] => !p
  | p, c :: r => if c = 13 then !p && okD true r else if c = 10 then p && okD false r else !p && okD false r
def endD (b : Bs) : Bool := decide (b = []) || decide (b.getLast? = some 10)
def lT (b : Bs) : Bool := okD false b && endD b
theorem pa (p : Bool) (r : Bs) : okD p (13 :: r) = (!p && okD true r) := rfl
theorem pb (p : Bool) (r : Bs) : okD p (10 :: r) = (p && okD false r) := rfl
theorem okD_c (p : Bool) {c : UInt8} (r : Bs) (h : c ≠ 13) (g : c ≠ 10) : okD p (c :: r) = (!p && okD false r) := by
  show (if c = 13 then !p && okD true r else if c = 10 then p && okD false r else !p && okD false r) = _
  rw [if_neg h, if_neg g]
def pr : Bool → Bs → Nat
  | p, [] => 0
  | p, c :: r => (if p = true ∧ c = 10 then 1 else 0) + pr (decide (c = 13)) r
theorem pr_le : ∀ (b : Bs) (p : Bool), pr p b ≤ b.count 10 ∧ pr p b ≤ b.count 13 + (if p = true then 1 else 0)
  | [], p => by simp [pr]
  | c :: r, p => by
    obtain ⟨h1, h2⟩ := pr_le r (decide (c = 13))
    unfold pr
    rw [List.count_cons, List.count_cons]
    by_cases a : c = 13
    · subst a
      simp at h1 h2 ⊢
      omega
    · by_cases g : c = 10
      · subst g
        simp at h1 h2 ⊢
        cases p <;> simp <;> omega
      · have e1 : (c == 13) = false := by simpa using a
        have e2 : (c == 10) = false := by simpa using g
        rw [decide_eq_false a] at h1 h2 ⊢
        rw [e1, e2]
        simp [g] at h1 h2 ⊢
        omega
theorem pr_ok : ∀ (b : Bs) (p : Bool), (pr p b = b.count 10 ∧ pr p b = b.count 13 + (if p = true then 1 else 0)) ↔ okD p b = true
  | [], p => by cases p <;> simp [pr, okD]
  | c :: r, p => by
    have hl := pr_le r
    by_cases a : c = 13
    · subst a
      have ih := pr_ok r true
      have hl := hl true
      rw [pa]
      unfold pr
      rw [List.count_cons, List.count_cons]
      cases p with
      | false => simp at ih hl ⊢; rw [← ih]
      | true => simp at ih hl ⊢; omega
    · by_cases g : c = 10
      · subst g
        have ih := pr_ok r false
        have hl := hl false
        rw [pb]
        unfold pr
        rw [List.count_cons, List.count_cons]
        cases p with
        | false => simp at ih hl ⊢; omega
        | true => simp at ih hl ⊢; rw [← ih]; constructor <;> rintro ⟨x, y⟩ <;> constructor <;> omega
      · have e1 : (c == 13) = false := by simpa using a
        have e2 : (c == 10) = false := by simpa using g
        have ih := pr_ok r false
        have hl := hl false
        rw [okD_c p r a g]
        unfold pr
        rw [List.count_cons, List.count_cons, e1, e2, decide_eq_false a]
        cases p with
        | false => simp at ih hl ⊢; rw [← ih]
        | true => simp [g] at ih hl ⊢; omega
theorem gl_app (a : Bs) {b : Bs} (h : b ≠ []) : (a ++ b).getLast? = b.getLast? := by
  rw [List.getLast?_append]
  cases e : b.getLast? with
  | none => exact absurd (List.getLast?_eq_none_iff.1 e) h
  | some x => rfl
theorem kh : ∀ (m : Nat) (b l : Bs), b.length < m → NoCr l → okD false b = true → (l ++ b = [] ∨ (l ++ b).getLast? = some 10) → ∃ ls, (∀ x ∈ ls, NoCr x) ∧ l ++ b = flD ls
  | 0, b, l, h, _, _, _ => by omega
  | m + 1, [], l, h, hl, hk, he => by
    rw [List.append_nil] at he
    have : l = [] := by
      rcases he with e | e
      · exact e
      · by_cases g : l = []
        · exact g
        · have := List.mem_of_getLast? e
          exact absurd rfl (hl 10 this).2
    subst this;exact ⟨[], by simp, rfl⟩
  | m + 1, c :: b, l, h, hl, hk, he => by
    by_cases a : c = 13
    · subst a
      rw [pa] at hk
      cases b with
      | nil => simp [okD] at hk
      | cons d b =>
        have hd : d = 10 := by
          by_cases g : d = 10
          · exact g
          · by_cases g2 : d = 13
            · subst g2; rw [pa] at hk; simp at hk
            · rw [okD_c _ _ g2 g] at hk; simp at hk
        subst hd
        rw [pb] at hk
        have hk' : okD false b = true := by simpa using hk
        have he' : [] ++ b = [] ∨ ([] ++ b).getLast? = some 10 := by
          rw [List.nil_append]
          by_cases g : b = []
          · exact .inl g
          · right
            rcases he with e | e
            · simp at e
            · rw [show l ++ 13 :: 10 :: b = (l ++ [13, 10]) ++ b by simp, gl_app _ g] at e
              exact e
        obtain ⟨ls, h1, h2⟩ := kh m b [] (by simp at h; omega) (by intro x hx; cases hx) hk' he'
        rw [List.nil_append] at h2
        refine ⟨l :: ls, fun x hx => ?_, by rw [h2]; simp [flD, lnD]⟩
        rcases List.mem_cons.1 hx with rfl | hx
        · exact hl
        · exact h1 x hx
    · by_cases g : c = 10
      · subst g; rw [pb] at hk; simp at hk
      · rw [okD_c _ _ a g] at hk
        have hk' : okD false b = true := by simpa using hk
        have := kh m b (l ++ [c]) (by simp at h; omega) (fun x hx => by
          rcases List.mem_append.1 hx with hx | hx
          · exact hl x hx
          · rw [List.mem_singleton.1 hx]; exact ⟨a, g⟩) hk' (by rw [List.append_assoc]; exact he)
        rw [List.append_assoc] at this
        exact this
theorem mm {b : Bs} (h : lT b = true) : ∃ ls, (∀ l ∈ ls, NoCr l) ∧ b = flD ls := by
  unfold lT endD at h
  simp only [Bool.and_eq_true, Bool.or_eq_true, decide_eq_true_eq] at h
  obtain ⟨ls, h1, h2⟩ := kh (b.length + 1) b [] (Nat.lt_succ_self _) (by intro x hx; cases hx) h.1 h.2;exact ⟨ls, h1, h2⟩
def stD : Bool → Bs → Bs
  | _, [] => []
  | s, c :: r => (if s = true ∧ c = 46 then [46, c] else [c]) ++ stD (decide (c = 10)) r
def jD (b : Bs) : Bs := if lT b = true then stD true b ++ [46, 13, 10] else []
def kP (l : Bs) : Bs := if l.head? = some 46 then 46 :: lnD l else lnD l
theorem st_in : ∀ (l r : Bs), NoCr l → stD false (l ++ 13 :: 10 :: r) = l ++ 13 :: 10 :: stD true r
  | [], r, _ => by simp [stD]
  | c :: l, r, h => by
    obtain ⟨h1, h2⟩ := h c (by simp);show (if false = true ∧ c = 46 then [46, c] else [c]) ++ stD (decide (c = 10)) (l ++ 13 :: 10 :: r) = _
    rw [decide_eq_false h2, st_in l r fun x hx => h x (by simp [hx])]
    simp
theorem st_ln (l r : Bs) (h : NoCr l) : stD true (l ++ 13 :: 10 :: r) = kP l ++ stD true r := by
  cases l with
  | nil => simp [stD, kP, lnD]
  | cons c l =>
    obtain ⟨h1, h2⟩ := h c (by simp);show (if true = true ∧ c = 46 then [46, c] else [c]) ++ stD (decide (c = 10)) (l ++ 13 :: 10 :: r) = _
    rw [decide_eq_false h2, st_in l r fun x hx => h x (by simp [hx])]
    unfold kP lnD
    by_cases g : c = 46
    · subst g; simp
    · simp [g]
theorem lx : ∀ ls : List Bs, (∀ l ∈ ls, NoCr l) → stD true (flD ls) = (ls.map kP).flatten
  | [], _ => rfl
  | l :: ls, h => by
    have e : flD (l :: ls) = l ++ 13 :: 10 :: flD ls := by simp [flD, lnD]
    rw [e, st_ln l _ (h l (by simp)), lx ls fun x hx => h x (by simp [hx])]
    simp
theorem oZ : ∀ (b : Bs) (s : Bool), (stD s b).length ≤ 2 * b.length
  | [], _ => by simp [stD]
  | c :: r, s => by
    have := oZ r (decide (c = 10))
    unfold stD
    rw [List.length_append]
    split <;> simp <;> omega
theorem nW (b : Bs) : (jD b).length ≤ 2 * b.length + 3 := by
  unfold jD
  split
  · have := oZ b true
    simp; omega
  · simp
end Go.Cl
namespace Go.Dg
open Go.Pv Go.Av
open Go.Lib (decDigits)
abbrev Bs := List UInt8
theorem eA {n : Nat} (h : n < 10) : decDigits n = [UInt8.ofNat (48 + n)] := by rw [decDigits, dif_pos h]
theorem hH {n : Nat} (h : ¬ n < 10) : decDigits n = decDigits (n / 10) ++ [UInt8.ofNat (48 + n % 10)] := by rw [decDigits, dif_neg h]
theorem jL (n : Nat) : Go.Lib.itoa (n : Int) = decDigits n := by
  unfold Go.Lib.itoa
  rw [if_neg (by omega), Int.toNat_natCast]
theorem gy (k : Nat) (h : k < 10) : (UInt8.ofNat (48 + k)).toNat = 48 + k := by
  have : ∀ k : Fin 10, (UInt8.ofNat (48 + k.val)).toNat = 48 + k.val := by decide +kernel
  exact this ⟨k, h⟩
def Dig (c : UInt8) : Prop := 48 ≤ c.toNat ∧ c.toNat ≤ 57
theorem dd_dig : ∀ (m n : Nat), n < m → ∀ c ∈ decDigits n, Dig c := by
  intro m
  induction m with
  | zero => intro n h; omega
  | succ m ih =>
    intro n h c hc
    by_cases hn : n < 10
    · rw [eA hn] at hc
      rw [List.mem_singleton.1 hc]; unfold Dig; rw [gy n hn]; omega
    · rw [hH hn] at hc
      rcases List.mem_append.1 hc with hc | hc
      · exact ih (n / 10) (by omega) c hc
      · rw [List.mem_singleton.1 hc]; unfold Dig; rw [gy _ (by omega)]; omega
theorem nl (n : Nat) : ∀ c ∈ decDigits n, Dig c := dd_dig (n + 1) n (by omega)
theorem nv : ∀ (m n : Nat), n < 10 ^ m → (decDigits n).length ≤ m + 1 := by
  intro m
  induction m with
  | zero => intro n h; rw [eA (by omega)]; simp
  | succ m ih =>
    intro n h
    by_cases hn : n < 10
    · rw [eA hn]; simp
    · have h10 : n / 10 < 10 ^ m := by rw [Nat.pow_succ] at h; omega
      rw [hH hn, List.length_append]
      have := ih _ h10
      simp; omega
theorem pd (n : Nat) : 1 ≤ (decDigits n).length := by
  by_cases hn : n < 10
  · rw [eA hn]; simp
  · rw [hH hn]; simp
def val (v : Nat) : Bs → Nat
  | [] => v
  | c :: r => val (10 * v + (c.toNat - 48)) r
theorem pk : ∀ (a b : Bs) (v : Nat), val v (a ++ b) = val (val v a) b
  | [], b, v => rfl
  | c :: r, b, v => pk r b _
theorem val_dd : ∀ (m n : Nat), n < m → val 0 (decDigits n) = n := by
  intro m
  induction m with
  | zero => intro n h; omega
  | succ m ih =>
    intro n h
    by_cases hn : n < 10
    · rw [eA hn]; show 10 * 0 + ((UInt8.ofNat (48 + n)).toNat - 48) = n; rw [gy n hn]; omega
    · rw [hH hn, pk, ih (n / 10) (by omega)]
      show 10 * (n / 10) + ((UInt8.ofNat (48 + n % 10)).toNat - 48) = n
      rw [gy _ (by omega)]; omega
theorem pj (n : Nat) : val 0 (decDigits n) = n := val_dd (n + 1) n (by omega)
end Go.Dg
namespace Go.Cl
open Go.Pv Go.Av
theorem lD (x : UInt8) (r u : Bs) : Go.Lib.index (x :: r) u = if u.isPrefixOf (x :: r) = true then 0 else if Go.Lib.index r u = -1 then -1 else Go.Lib.index r u + 1 := by
  by_cases h : u.isPrefixOf (x :: r) = true
  · simp [Go.Lib.index, h]
  · simp [Go.Lib.index, h]
theorem pr_idx : ∀ (b : Bs), (Go.Lib.index b [13, 10] = -1 ∧ pr false b = 0) ∨ ∃ i : Nat, Go.Lib.index b [13, 10] = (i : Int) ∧ i + 2 ≤ b.length ∧ pr false b = 1 + pr false (b.drop (i + 2))
  | [] => .inl ⟨by simp [Go.Lib.index], rfl⟩
  | c :: r => by
    have ih := pr_idx r
    by_cases h : c = 13
    · subst h
      cases r with
      | nil => left; exact ⟨by simp [Go.Lib.index], by simp [pr]⟩
      | cons d r =>
        by_cases g : d = 10
        · subst g
          right
          exact ⟨0, by simp [Go.Lib.index], by simp, by simp [pr]⟩
        · have hx : ([13, 10] : Bs).isPrefixOf (13 :: d :: r) = false := by
            have : (10 == d) = false := by simpa using fun q => g q.symm
            simp [List.isPrefixOf, this]
          have e : pr false (13 :: d :: r) = pr false (d :: r) := by simp [pr, g]
          rw [lD, hx, e]
          simp only [Bool.false_eq_true, if_false]
          rcases ih with ⟨h1, h2⟩ | ⟨i, h1, h2, h3⟩
          · left; rw [if_pos h1]; exact ⟨rfl, h2⟩
          · right
            refine ⟨i + 1, ?_, by simp at h2 ⊢; omega, ?_⟩
            · rw [if_neg (by omega), h1]; rfl
            · rw [h3]; rfl
    · have hx : ([13, 10] : Bs).isPrefixOf (c :: r) = false := by
        have : (13 == c) = false := by simpa using fun q => h q.symm
        simp [List.isPrefixOf, this]
      have e : pr false (c :: r) = pr false r := by simp [pr, h]
      rw [lD, hx, e]
      simp only [Bool.false_eq_true, if_false]
      rcases ih with ⟨h1, h2⟩ | ⟨i, h1, h2, h3⟩
      · left; rw [if_pos h1]; exact ⟨rfl, h2⟩
      · right
        refine ⟨i + 1, ?_, by simp at h2 ⊢; omega, ?_⟩
        · rw [if_neg (by omega), h1]; rfl
        · rw [h3]; rfl
theorem idx_ln : ∀ (l r : Bs), NoCr l → Go.Lib.index (l ++ 13 :: 10 :: r) [13, 10] = (l.length : Int)
  | [], r, _ => by simp [Go.Lib.index]
  | c :: l, r, h => by
    obtain ⟨h1, h2⟩ := h c (by simp)
    have hx : ([13, 10] : Bs).isPrefixOf (c :: (l ++ 13 :: 10 :: r)) = false := by
      have : (13 == c) = false := by simpa using fun q => h1 q.symm
      simp [List.isPrefixOf, this]
    show Go.Lib.index (c :: (l ++ 13 :: 10 :: r)) [13, 10] = _
    rw [lD, hx, idx_ln l r fun x hx => h x (by simp [hx])]
    simp only [Bool.false_eq_true, if_false]
    rw [if_neg (by omega)]
    simp
theorem idx_nil : Go.Lib.index [] [13, 10] = -1 := by simp [Go.Lib.index]
def fK (c : UInt8) : UInt8 := if 65 ≤ c.toNat ∧ c.toNat ≤ 90 then c + 97 - 65 else c
def jE (c : UInt8) : Bool := decide (48 ≤ c.toNat) && decide (c.toNat ≤ 57)
def lG (s : Bs) : Option Nat :=
  if (6 ≤ s.length ∧ s.length ≤ 14) ∧ (s.take 5).map fK = [115, 105, 122, 101, 32] ∧ (s.drop 5).all jE = true then some (Go.Dg.val 0 (s.drop 5)) else none
def oo : List Bs → Nat
  | [] => 0
  | s :: r => match lG s with | some n => n | none => oo r
def eL (ls : List Bs) : Nat := oo (ls.drop 1)
def jm : Bs := [81, 85, 73, 84, 13, 10]
def ehloD (nm : Bs) : Bs := [69, 72, 76, 79, 32] ++ nm ++ [13, 10]
def ot (fr : Bs) : Bs := [77, 65, 73, 76, 32, 70, 82, 79, 77, 58, 60] ++ fr ++ [62, 13, 10]
def rcptD (rc : Bs) : Bs := [82, 67, 80, 84, 32, 84, 79, 58, 60] ++ rc ++ [62, 13, 10]
def dataD : Bs := [68, 65, 84, 65, 13, 10]
def eB (ph c : Int) : Bool := if ph = 0 then decide (c = 220) else if ph = 4 then decide (c = 354) else decide (200 ≤ c) && decide (c ≤ 299)
abbrev St := Int × Int × Bs
section
variable (fr rc nm ml : Bs)
def goP (ph out : Int) (ls : List Bs) : St :=
  if ph = 0 then (1, out, ehloD nm) else if ph = 1 then (if 0 < eL ls ∧ eL ls < (jD ml).length then (6, 3, jm) else (2, out, ot fr))
  else if ph = 2 then (3, out, rcptD rc) else if ph = 3 then (4, out, dataD) else if ph = 4 then (5, out, jD ml) else (6, 1, jm)
def fw (ph out c : Int) (ls : List Bs) : St :=
  if ph < 0 ∨ 7 ≤ ph then (ph, out, []) else if c = 421 then (7, (if out = 0 then 2 else out), []) else if ph = 6 then (7, out, [])
  else if eB ph c = true then goP fr rc nm ml ph out ls else (6, (if 500 ≤ c ∧ c ≤ 599 then 3 else 2), jm)
def runP {M : Type} : St → List (Int × List Bs × M) → St
  | s, [] => s
  | s, x :: r => runP ((fw fr rc nm ml s.1 s.2.1 x.1 x.2.1).1, (fw fr rc nm ml s.1 s.2.1 x.1 x.2.1).2.1, s.2.2 ++ (fw fr rc nm ml s.1 s.2.1 x.1 x.2.1).2.2) r
theorem mf (out c : Int) (ls : List Bs) : fw fr rc nm ml 7 out c ls = (7, out, []) := by unfold fw; rw [if_pos (by omega)]
def partD : Nat → Bs
  | 0 => ehloD nm
  | 1 => ot fr
  | 2 => rcptD rc
  | 3 => dataD
  | _ => jD ml
def preD : Nat → Bs
  | 0 => []
  | k + 1 => preD k ++ partD fr rc nm ml k
inductive Iv : Int → Int → Bs → Prop
  | go (k : Nat) (h : k ≤ 5) : Iv (k : Int) 0 (preD fr rc nm ml k)
  | stop (k : Nat) (out : Int) (h : k ≤ 5) (ho : out = 2 ∨ out = 3 ∨ (out = 1 ∧ k = 5)) : Iv 6 out (preD fr rc nm ml k ++ jm)
  | off (k : Nat) (h : k ≤ 5) : Iv 7 2 (preD fr rc nm ml k)
  | done (k : Nat) (out : Int) (h : k ≤ 5) (ho : out = 2 ∨ out = 3 ∨ (out = 1 ∧ k = 5)) : Iv 7 out (preD fr rc nm ml k ++ jm)
theorem Iv.step {ph out : Int} {a : Bs} (h : Iv fr rc nm ml ph out a) (c : Int) (ls : List Bs) :
    Iv fr rc nm ml (fw fr rc nm ml ph out c ls).1 (fw fr rc nm ml ph out c ls).2.1 (a ++ (fw fr rc nm ml ph out c ls).2.2) := by
  cases h with
  | go k h =>
    unfold fw
    rw [if_neg (by omega)]
    by_cases h1 : c = 421
    · rw [if_pos h1]
      simp only [List.append_nil, if_true]
      exact .off k h
    · rw [if_neg h1, if_neg (by omega)]
      by_cases h2 : eB (k : Int) c = true
      · rw [if_pos h2]
        unfold goP
        have : k = 0 ∨ k = 1 ∨ k = 2 ∨ k = 3 ∨ k = 4 ∨ k = 5 := by omega
        rcases this with rfl | rfl | rfl | rfl | rfl | rfl
        · exact Iv.go 1 (by omega)
        · by_cases q : 0 < eL ls ∧ eL ls < (jD ml).length
          · rw [if_neg (by decide), if_pos (by decide), if_pos q]
            exact Iv.stop 1 3 (by omega) (by omega)
          · rw [if_neg (by decide), if_pos (by decide), if_neg q]
            exact Iv.go 2 (by omega)
        · exact Iv.go 3 (by omega)
        · exact Iv.go 4 (by omega)
        · exact Iv.go 5 (by omega)
        · exact Iv.stop 5 1 (by omega) (by omega)
      · rw [if_neg h2]
        by_cases q : 500 ≤ c ∧ c ≤ 599
        · rw [if_pos q]; exact .stop k 3 h (by omega)
        · rw [if_neg q]; exact .stop k 2 h (by omega)
  | stop k out h ho =>
    have hne : ¬ out = 0 := by omega
    unfold fw
    rw [if_neg (by omega)]
    by_cases h1 : c = 421
    · rw [if_pos h1, if_neg hne]
      simp only [List.append_nil]
      exact .done k _ h ho
    · rw [if_neg h1, if_pos rfl]
      simp only [List.append_nil]
      exact .done k _ h ho
  | off k h => rw [mf]; simp only [List.append_nil]; exact .off k h
  | done k out h ho => rw [mf]; simp only [List.append_nil]; exact .done k _ h ho
theorem Iv.run {M : Type} : ∀ (l : List (Int × List Bs × M)) {ph out : Int} {a : Bs}, Iv fr rc nm ml ph out a → Iv fr rc nm ml (runP fr rc nm ml (ph, out, a) l).1 (runP fr rc nm ml (ph, out, a) l).2.1 (runP fr rc nm ml (ph, out, a) l).2.2
  | [], _, _, _, h => h
  | x :: r, _, _, _, h => Iv.run r (h.step fr rc nm ml x.1 x.2.1)
end
end Go.Cl
namespace Go.Dg
open Go.Pv Go.Av
open Go.Lib (decDigits)
theorem kd (x : Bool) : (true && x) = x := Eq.symm (Eq.symm rfl)
theorem kG (x : Bool) : (false && x) = false := Eq.symm (Eq.symm rfl)
theorem fo (x : Bool) : (false || x) = x := Eq.symm (Eq.symm rfl)
theorem nfl : (!false) = true := Eq.symm (Eq.symm rfl)
theorem ntr : (!true) = false := Eq.symm (Eq.symm rfl)
theorem cfl {α : Type} (a b : α) : (bif false then a else b) = b := Eq.symm (Eq.symm rfl)
theorem ctr {α : Type} (a b : α) : (bif true then a else b) = a := Eq.symm (Eq.symm rfl)
def Tot (o : Option (Int × Int)) : Prop := ∃ x k, o = some (x, k) ∧ (k = 0 ∨ k = 1 ∨ k = 2)
theorem Tot.z (x : Int) : Tot (some (x, 0)) := ⟨x, 0, rfl, .inl rfl⟩
theorem Tot.o (x : Int) : Tot (some (x, 1)) := ⟨x, 1, rfl, .inr (.inl rfl)⟩
theorem Tot.t (x : Int) : Tot (some (x, 2)) := ⟨x, 2, rfl, .inr (.inr rfl)⟩
theorem dS {c : Bool} {a b : Option (Int × Int)} (ha : Tot a) (hb : Tot b) : Tot (bif c then a else b) := by cases c <;> assumption
theorem tot_bndc {c : Bool} {v : UInt8} {f : UInt8 → Option (Int × Int)} (h : ∀ x, Tot (f x)) : Tot (iu c (some v) f) := by
  cases c
  · exact h _
  · exact h _
theorem j3_tot (y17 : Int) (y23 y24 : Int) (rec : (Bool × Int × Int) → Option (Int × Int)) (y43 : UInt8) (h : ∀ v, Tot (rec (false, v, y24 + 1))) (hb : -9223372036854775808 ≤ y24 + 1 ∧ y24 + 1 ≤ 9223372036854775807) :
    Tot (cM 10 y17 false y23 y24 rec y43) := by
  unfold cM cX
  refine dS (.t _) (dS (.o _) (dS (.o _) ?_))
  rw [gc hb]
  exact h _
theorem pJ (F : Nat) (s : Bs) (c : Int) (hs : s.length ≤ 1000) : ∀ (n i : Nat) (v : Int), s.length - i < n → i ≤ s.length → Tot (bW F s 10 c n (false, v, (i : Int))) := by
  intro n
  induction n with
  | zero => intro i v h; omega
  | succ n ih =>
    intro i v hn hi;show Tot (dG F s 10 c (bW F s 10 c n) false v (i : Int))
    unfold dG
    by_cases h : i < s.length
    · have e : ((i : Int) + 1) = ((i + 1 : Nat) : Int) := by omega
      have hr : ∀ v, Tot (bW F s 10 c n (false, v, (i : Int) + 1)) := fun v => by rw [e]; exact ih (i + 1) v (by omega) (by omega)
      have h10 : decide ((10 : Int) = 0) = false := by decide
      rw [bT (by omega), em (by omega), cI, h10, Bool.and_false, cfl]
      refine dS (j3_tot _ _ _ _ _ hr (by omega)) ?_
      unfold dN
      rw [cB]
      refine tot_bndc fun x38 => dS ?_ (.t _)
      rw [cB]
      exact j3_tot _ _ _ _ _ hr (by omega)
    · rw [bF (by omega)]
      unfold dF
      rw [bndc_f, kG, cfl]
      exact .z _
theorem uint_tot (F : Nat) (s : Bs) (hs : s.length ≤ 1000) (hF : s.length < F) : Tot (eR F s 10 0) := by
  unfold eR
  refine dS (.t _) ?_
  have h1 : ((decide ((2 : Int) ≤ 10)) && (decide ((10 : Int) ≤ 36))) = true := by decide
  rw [h1, grd_t]
  unfold dD dE
  rw [lH rfl, bT rfl]
  unfold cL
  have h2 : decide (0 ≤ IntKind.u64.wrap 64) = true := by decide +kernel
  rw [h2, grd_t, dT (by omega)]
  exact pJ F s _ hs F 0 0 (by omega) (by omega)
theorem oI (b : Bool) (x : Int) : Tot (cY b x) := by
  unfold cY cZ
  have h2 : decide (0 ≤ IntKind.u64.wrap 63) = true := by decide +kernel
  rw [h2, grd_t]
  exact dS (.o _) (dS (.o _) (dS (.z _) (.z _)))
theorem jh (F : Nat) (s : Bs) (b : Bool) (hs : s.length ≤ 1000) (hF : s.length < F) : Tot (cu F 10 0 s b) := by
  unfold cu
  obtain ⟨x, k, e, hk⟩ := uint_tot F s hs hF
  rw [e, cj]
  by_cases h2 : k = 2
  · subst h2
    have : ((!decide ((2 : Int) = 0)) && (!decide ((2 : Int) = 1))) = true := by decide
    rw [this, ctr]
    exact .t _
  · have : ((!decide (k = 0)) && (!decide (k = 1))) = false := by
      rcases hk with rfl | rfl | rfl
      · decide
      · decide
      · exact absurd rfl h2
    rw [this, cfl, lH rfl]
    exact oI _ _
theorem int_tot (F : Nat) (s : Bs) (hs : s.length ≤ 1000) (hF : s.length < F) : Tot (eS F s 10 0) := by
  unfold eS
  by_cases h : s = []
  · rw [bT h]; exact .t _
  · have hp : 0 < s.length := List.length_pos_iff.2 h
    have hf : (fx s 1).length ≤ s.length := by unfold fx; simp
    rw [bF h, em (by omega), cI]
    refine dS ?_ (dS ?_ (jh F s _ hs hF))
    · rw [kE (by omega), cI]; exact jh F _ _ (by omega) (by omega)
    · rw [kE (by omega), cI]; exact jh F _ _ (by omega) (by omega)
theorem iX (a s : Bs) (ha : a ≠ []) (hs : s.length ≤ 18) : ∀ (n i v : Nat), s.length - i < n → i ≤ s.length → v < 10 ^ i → Tot (eD a s n ((v : Int), (i : Int))) := by
  intro n
  induction n with
  | zero => intro i v h; omega
  | succ n ih =>
    intro i v hn hi hv;show Tot (eE a s (eD a s n) (v : Int) (i : Int))
    unfold eE
    have hv18 : v < 10 ^ 18 := Nat.lt_of_lt_of_le hv (Nat.pow_le_pow_right (by omega) (by omega))
    by_cases h : i < s.length
    · have hv17 : v < 10 ^ 17 := Nat.lt_of_lt_of_le hv (Nat.pow_le_pow_right (by omega) (by omega))
      rw [bT (by omega), em (by omega), cI]
      obtain ⟨c, hc⟩ : ∃ c, c = at_ s (i : Int) := ⟨_, rfl⟩
      rw [← hc]
      by_cases h9 : 9 < (c - 48).toNat
      · rw [bT (by omega)]; exact .t _
      · have e1 : ((v : Int) * 10) + ((c - 48).toNat : Int) = ((v * 10 + (c - 48).toNat : Nat) : Int) := by omega
        have e2 : ((i : Int) + 1) = ((i + 1 : Nat) : Int) := by omega
        rw [bF (by omega), gc (by omega), gc (by omega), gc (by omega), e1, e2]
        refine ih (i + 1) _ (by omega) (by omega) ?_
        rw [Nat.pow_succ]; omega
    · rw [bF (by omega)]
      unfold ec ed
      have hp : 0 < a.length := List.length_pos_iff.2 ha
      rw [em (by omega), cI]
      refine dS ?_ (.z _)
      rw [gc (by omega)]; exact .z _
theorem atoi_tot (F : Nat) (s : Bs) (hs : s.length ≤ 1000) (hF : s.length < F) : Tot (fM F s) := by
  unfold fM eb fR
  by_cases h : 0 < s.length ∧ s.length < 19
  · have hc : ((decide (0 < (s.length : Int))) && (decide ((s.length : Int) < 19))) = true := by
      rw [decide_eq_true (by omega), decide_eq_true (by omega)]; rfl
    have hne : s ≠ [] := List.length_pos_iff.1 h.1
    have hf : (fx s 1).length ≤ s.length := by unfold fx; simp
    rw [hc, ctr, em (by omega), cI]
    have hg : ∀ (c : Bool) (x : Option (Int × Int)), fE c (de 0 s.length) x = x := fun c x => nj fun _ => by omega
    rw [hg, cI]
    refine dS ?_ ?_
    · rw [kE (by omega), cI]
      refine dS (.t _) ?_
      rw [dT (by omega)]
      exact iX s _ hne (by omega) F 0 0 (by omega) (by omega) (by omega)
    · rw [dT (by omega)]
      exact iX s _ hne (by omega) F 0 0 (by omega) (by omega) (by omega)
  · have hc : ((decide (0 < (s.length : Int))) && (decide ((s.length : Int) < 19))) = false := by
      by_cases h0 : 0 < s.length
      · rw [decide_eq_false (show ¬ ((s.length : Int) < 19) by omega), Bool.and_false]
      · rw [decide_eq_false (show ¬ (0 < (s.length : Int)) by omega)]; rfl
    rw [hc, cfl]
    obtain ⟨x, k, e, hk⟩ := int_tot F s hs hF
    rw [e, cj]
    exact ⟨x, k, rfl, hk⟩
theorem Atoi_tot (F : Nat) (s : Bs) (hs : s.length ≤ 1000) (hF : s.length < F) : ∃ x k, cE F s = some (x, k) := by
  unfold cE
  obtain ⟨x, k, e, hk⟩ := atoi_tot F s hs hF
  rw [e, cj]
  by_cases h0 : k = 0
  · subst h0; exact ⟨x, 0, by rw [decide_eq_true rfl, ntr, cfl]⟩
  · refine ⟨x, 1, ?_⟩
    rw [decide_eq_false h0, nfl, ctr, jn (by omega), lH (by omega)]
theorem pv (c : UInt8) (h : Dig c) : (c - 48).toNat = c.toNat - 48 := by
  have : ∀ k : Fin 256, (48 ≤ k.val ∧ k.val ≤ 57) → (UInt8.ofNat k.val - 48).toNat = k.val - 48 := by decide +kernel
  have h1 := this ⟨c.toNat, c.toNat_lt⟩ h
  simpa using h1
theorem atoi_loop (a : Bs) (s : Bs) (hs : s.length ≤ 18) (hd : ∀ c ∈ s, Dig c) : ∀ (n i v : Nat), s.length - i < n → i ≤ s.length → v < 10 ^ i → eD a s n ((v : Int), (i : Int)) = ec a ((val v (s.drop i) : Nat) : Int) := by
  intro n
  induction n with
  | zero => intro i v h; omega
  | succ n ih =>
    intro i v hn hi hv;show eE a s (eD a s n) (v : Int) (i : Int) = _
    unfold eE
    by_cases h : i < s.length
    · have hv17 : v < 10 ^ 17 := Nat.lt_of_lt_of_le hv (Nat.pow_le_pow_right (by omega) (by omega))
      have hdr : s.drop i = s[i] :: s.drop (i + 1) := bM h
      have hc := hd _ (List.getElem_mem h)
      have hsub := pv _ hc
      obtain ⟨hc1, hc2⟩ := hc
      rw [bT (by omega), em (by omega), cI, jp h]
      have e1 : ((v : Int) * 10) + ((s[i] - 48).toNat : Int) = ((10 * v + (s[i].toNat - 48) : Nat) : Int) := by rw [hsub]; omega
      have e2 : ((i : Int) + 1) = ((i + 1 : Nat) : Int) := by omega
      rw [bF (by rw [hsub]; omega), gc (by omega), gc (by omega), gc (by omega), e1, e2, ih (i + 1) _ (by omega) (by omega) (by rw [Nat.pow_succ]; omega), hdr]
      rfl
    · rw [bF (by omega), bz (by omega)]; rfl
theorem Atoi_dd (F : Nat) (n : Nat) (hn : n ≤ 1073741824) (hF : 100 < F) : cE F (decDigits n) = some ((n : Int), 0) := by
  have hl : (decDigits n).length ≤ 11 := nv 10 n (by omega)
  have hp := pd n
  have hd := nl n
  have h0 : at_ (decDigits n) 0 = (decDigits n)[0] := np (by omega)
  have hd0 := hd _ (List.getElem_mem (show 0 < (decDigits n).length by omega))
  have n45 : (decDigits n)[0] ≠ 45 := fun e => by rw [e] at hd0; exact absurd hd0.1 (by decide)
  have n43 : (decDigits n)[0] ≠ 43 := fun e => by rw [e] at hd0; exact absurd hd0.1 (by decide)
  have hc : ((decide (0 < ((decDigits n).length : Int))) && (decide (((decDigits n).length : Int) < 19))) = true := by
    rw [decide_eq_true (by omega), decide_eq_true (by omega)]; rfl
  have hg : ∀ (c : Bool) (x : Option (Int × Int)), fE c (de 0 (decDigits n).length) x = x := fun c x => nj fun _ => by omega
  have e : fM F (decDigits n) = some ((n : Int), 0) := by
    unfold fM eb
    rw [hc, ctr, em (by omega), cI, hg, cI, h0, decide_eq_false n45, decide_eq_false n43, fo, cfl, dT (by omega)]
    have := atoi_loop (decDigits n) (decDigits n) (by omega) hd F 0 0 (by omega) (by omega) (by omega)
    refine Eq.trans this ?_
    rw [List.drop_zero, pj]
    unfold ec ed
    rw [em (by omega), cI, h0, decide_eq_false n45, cfl]
  unfold cE
  rw [e, cj, decide_eq_true rfl, ntr, cfl]
end Go.Dg
namespace Go.Cl
open Go.Pv Go.Av
open Go.Dg (cfl ctr kd kG fo nfl ntr)
theorem gcS {α : Type} {k : Option α} {c : Bool} {n : Nat} (h : n < 4294967281) : fE c (okS n) k = k := by
  cases c
  · exact grdc_f
  · rw [grdc_t, jn h]
theorem oW : ∀ (n : Nat) (y : Bs) (k : Nat), y.length < n → y.length ≤ 1100000 → k + y.length ≤ 3000000 →
    dV [13, 10] n (y, (k : Int)) = some ((k + pr false y : Nat) : Int) := by
  intro n
  induction n with
  | zero => intro y k h; omega
  | succ n ih =>
    intro y k hn hy hk;show dW [13, 10] (dV [13, 10] n) y (k : Int) = _
    unfold dW
    have e2 : ([13, 10] : Bs).length = 2 := Eq.symm (Eq.symm rfl)
    rw [e2, jn (by omega), lH (by omega), jn (by omega), cI]
    rcases pr_idx y with ⟨h1, h2⟩ | ⟨i, h1, h2, h3⟩
    · rw [h1, bT rfl, h2]; rfl
    · have e : (i : Int) + ((2 : Nat) : Int) = ((i + 2 : Nat) : Int) := by omega
      rw [h1, bF (by omega), gc (by omega), gc (by omega), kE (by omega), cI, e, oe, mP, ih (y.drop (i + 2)) (k + 1) (by rw [List.length_drop]; omega) (by rw [List.length_drop]; omega) (by rw [List.length_drop]; omega), h3]
      congr 1
      omega
theorem ql (F : Nat) (b : Bs) (hb : b.length ≤ 1100000) (hF : b.length < F) : dd F b [13, 10] = some ((pr false b : Nat) : Int) := by
  unfold dd
  have := oW F b 0 hF hb (by omega)
  rw [Nat.zero_add] at this
  exact this
theorem mN (F : Nat) (b : Bs) (c : UInt8) : dd F b [c] = some ((b.count c : Nat) : Int) := by
  unfold dd
  rfl
theorem okS_suf {b : Bs} (h : Go.Lib.hasSuffix b [13, 10] = true) : b.getLast? = some 10 := by
  unfold Go.Lib.hasSuffix at h
  obtain ⟨p, hp⟩ := List.isSuffixOf_iff_suffix.1 h
  rw [← hp]; simp
theorem suf_of {ls : List Bs} (hn : ls ≠ []) : Go.Lib.hasSuffix (flD ls) [13, 10] = true := by
  unfold Go.Lib.hasSuffix
  refine List.isSuffixOf_iff_suffix.2 ?_;obtain ⟨p, l, rfl⟩ : ∃ p l, ls = p ++ [l] := ⟨ls.dropLast, ls.getLast hn, (List.dropLast_concat_getLast hn).symm⟩;refine ⟨flD p ++ l, ?_⟩
  simp [flD, lnD]
theorem may_dot (F : Nat) (b : Bs) (hb : b.length ≤ 1100000) (hF : b.length < F) : iK F b = some (lT b) := by
  unfold iK
  rw [ql F b hb hF, cB, mN, cB, mN, mQ, gcS (by omega), cI]
  congr 1
  have hk := pr_ok b false
  simp only [Bool.false_eq_true, if_false, Nat.add_zero] at hk
  by_cases h1 : b.count 13 = pr false b
  · have d1 : decide (((b.count 13 : Nat) : Int) = ((pr false b : Nat) : Int)) = true := decide_eq_true (by omega)
    rw [d1, ctr, kd]
    by_cases h2 : b.count 10 = pr false b
    · have d2 : decide (((b.count 10 : Nat) : Int) = ((pr false b : Nat) : Int)) = true := decide_eq_true (by omega)
      have ho := hk.1 ⟨h2.symm, h1.symm⟩
      rw [d2, kd]
      unfold lT
      rw [ho, kd]
      unfold endD
      by_cases h0 : b = []
      · subst h0; rfl
      · have hl : 0 < b.length := List.length_pos_iff.2 h0
        rw [decide_eq_false (p := ((b.length : Int) = 0)) (by omega), decide_eq_false h0, fo, fo]
        cases hs : Go.Lib.hasSuffix b [13, 10] with
        | true => rw [okS_suf hs]; rfl
        | false =>
          symm
          refine decide_eq_false fun hq => ?_
          have hm : lT b = true := by unfold lT endD; rw [ho, hq]; simp
          obtain ⟨ls, _, hb⟩ := mm hm
          have : ls ≠ [] := fun e => h0 (by rw [hb, e]; rfl)
          have := suf_of this
          rw [← hb, hs] at this
          cases this
    · have d2 : decide (((b.count 10 : Nat) : Int) = ((pr false b : Nat) : Int)) = false := decide_eq_false (by omega)
      have ho : okD false b = false := by
        cases q : okD false b with
        | false => rfl
        | true => exact absurd (hk.2 q).1.symm h2
      rw [d2, kG]
      unfold lT; rw [ho]; rfl
  · have d1 : decide (((b.count 13 : Nat) : Int) = ((pr false b : Nat) : Int)) = false := decide_eq_false (by omega)
    have ho : okD false b = false := by
      cases q : okD false b with
      | false => rfl
      | true => exact absurd (hk.2 q).2.symm h1
    rw [d1, kG, kG]
    unfold lT; rw [ho]; rfl
theorem fl_cons (l : Bs) (ls : List Bs) : flD (l :: ls) = l ++ 13 :: 10 :: flD ls := by simp [flD, lnD]
theorem stuff_k (acc l : Bs) (ha : acc.length + l.length ≤ 10000000) : ck acc (lnD l) = some (acc ++ kP l, true) := by
  unfold ck ek
  have hln : (lnD l).length = l.length + 2 := by simp [lnD]
  rw [em (by omega), cI, np (by omega)]
  cases l with
  | nil =>
    have : (lnD [])[0]'(by simp [lnD]) = 13 := rfl
    rw [this, bF (by decide), dT (by omega), cI]
    rfl
  | cons c l =>
    have : (lnD (c :: l))[0]'(by simp [lnD]) = c := rfl
    rw [this]
    simp only [List.length_cons] at ha hln
    by_cases h : c = 46
    · subst h
      rw [bT rfl, dT (by simp; omega), cI, dT (by simp; omega), cI]
      simp [kP]
    · rw [bF h, dT (by omega), cI]
      simp [kP, h]
theorem lm : ∀ (ls : List Bs) (n : Nat) (acc : Bs), (∀ l ∈ ls, NoCr l) → ls.length < n → (flD ls).length ≤ 1100000 → acc.length + 2 * (flD ls).length ≤ 5000000 →
    dM (fun s x => ck s x) n (flD ls, acc) = some (acc ++ (ls.map kP).flatten, [])
  | ls, 0, acc, _, hn, _, _ => by omega
  | [], n + 1, acc, h, hn, hl, ha => by
    show di (fun s x => ck s x) (dM (fun s x => ck s x) n) [] acc = _
    unfold di
    have e2 : ([13, 10] : Bs).length = 2 := Eq.symm (Eq.symm rfl)
    have e0 : ([] : Bs).length = 0 := Eq.symm (Eq.symm rfl)
    rw [e2, e0, jn (by omega), lH (by omega), jn (by omega), cI, idx_nil, bT (by decide)]
    simp
  | l :: ls, n + 1, acc, h, hn, hl, ha => by
    show di (fun s x => ck s x) (dM (fun s x => ck s x) n) (flD (l :: ls)) acc = _
    unfold di
    have e2 : ([13, 10] : Bs).length = 2 := Eq.symm (Eq.symm rfl)
    have hlen : (flD (l :: ls)).length = l.length + 2 + (flD ls).length := by rw [fl_cons]; simp; omega
    have hi : Go.Lib.index (flD (l :: ls)) [13, 10] = (l.length : Int) := by rw [fl_cons]; exact idx_ln l _ (h l (by simp))
    have e : (l.length : Int) + 2 = ((l.length + 2 : Nat) : Int) := by omega
    have ht : (flD (l :: ls)).take (l.length + 2) = lnD l := by
      rw [fl_cons, show l ++ 13 :: 10 :: flD ls = lnD l ++ flD ls by simp [lnD], List.take_left' (by simp [lnD])]
    have hd : (flD (l :: ls)).drop (l.length + 2) = flD ls := by
      rw [fl_cons, show l ++ 13 :: 10 :: flD ls = lnD l ++ flD ls by simp [lnD], List.drop_left' (by simp [lnD])]
    have hk : (fun (s x : Bs) => ck s x) acc (lnD l) = some (acc ++ kP l, true) := stuff_k acc l (by omega)
    have hdl : (kP l).length ≤ l.length + 3 := by unfold kP lnD; split <;> simp
    rw [e2, jn (by omega), lH (by omega), jn (by omega), cI, hi, bF (by omega), gc (by omega), kE (by omega), cI, e, to_nat, ht, hk, cj, ntr, cfl, gc (by omega), kE (by omega), cI, oe, hd]
    rw [lm ls n (acc ++ kP l) (fun x hx => h x (by simp [hx])) (by simp at hn; omega) (by omega) (by rw [List.length_append]; omega)]
    simp
theorem fl_len (ls : List Bs) : 2 * ls.length ≤ (flD ls).length := by
  induction ls with
  | nil => simp [flD]
  | cons l ls ih => rw [fl_cons]; simp; omega
theorem me (F : Nat) (b : Bs) (hb : b.length ≤ 1100000) (hF : b.length < F) : fP F b = some (jD b, if lT b = true then 0 else 1) := by
  unfold fP iA gM
  rw [may_dot F b hb hF, cB]
  unfold jD
  cases hm : lT b with
  | false => rfl
  | true =>
    rw [ntr, cfl, cB]
    obtain ⟨ls, hc, rfl⟩ := mm hm
    have := fl_len ls
    rw [lm ls F [] hc (by omega) hb (by simp; omega), cj]
    unfold eU
    rw [lx ls hc]
    have hle : ((ls.map kP).flatten).length ≤ 2 * (flD ls).length := by rw [← lx ls hc]; exact oZ _ _
    rw [dT (by simp at hle ⊢; omega), cI]
    rfl
end Go.Cl
namespace Go.Cl
open Go.Pv Go.Av
open Go.Dg (cfl ctr kd kG fo nfl ntr)
theorem low_sp (c : UInt8) : fK c = 32 ↔ c = 32 := by
  have : ∀ k : Fin 256, fK (UInt8.ofNat k.val) = 32 ↔ UInt8.ofNat k.val = 32 := by decide +kernel
  have h1 := this ⟨c.toNat, c.toNat_lt⟩
  simpa using h1
theorem low_t {c : UInt8} (h : 65 ≤ c.toNat ∧ c.toNat ≤ 90) : fK c = c + 97 - 65 := by unfold fK; rw [if_pos h]
theorem low_f {c : UInt8} (h : ¬ (65 ≤ c.toNat ∧ c.toNat ≤ 90)) : fK c = c := by unfold fK; rw [if_neg h]
theorem low_c (c : UInt8) : ((decide (65 ≤ (c.toNat : Int))) && (decide ((c.toNat : Int) ≤ 90))) = decide (65 ≤ c.toNat ∧ c.toNat ≤ 90) := by
  by_cases h : 65 ≤ c.toNat
  · by_cases g : c.toNat ≤ 90
    · rw [decide_eq_true (by omega), decide_eq_true (by omega), decide_eq_true ⟨h, g⟩]; rfl
    · rw [decide_eq_true (by omega), decide_eq_false (by omega), decide_eq_false (by omega)]; rfl
  · rw [decide_eq_false (p := 65 ≤ (c.toNat : Int)) (by omega), decide_eq_false (p := 65 ≤ c.toNat ∧ c.toNat ≤ 90) (by omega)]; rfl
theorem lj (w : Bs) : ∀ (r p : Bs) (n : Nat), r.length < n → (p ++ r).length ≤ 1000000 →
    dx (p ++ r) w n ((p.length : Int), p.map fK ++ r) = some (decide ((p ++ r).map fK = w))
  | r, p, 0, hn, _ => by omega
  | [], p, n + 1, hn, hl => by
    rw [List.append_nil, List.append_nil] at *
    show dY p w (dx p w n) (p.length : Int) (p.map fK) = _
    unfold dY fq
    rw [bF (by omega), lH (by rw [List.length_map])]
  | c :: r, p, n + 1, hn, hl => by
    show dY (p ++ c :: r) w (dx (p ++ c :: r) w n) (p.length : Int) (p.map fK ++ c :: r) = _
    have h1 : p.length < (p ++ c :: r).length := by simp
    have h2 : p.length < (p.map fK ++ c :: r).length := by simp
    have ea : (p.map fK ++ c :: r)[p.length] = c := by
      rw [List.getElem_append_right (by simp)]; simp
    have ih := lj w r (p ++ [c]) n (by simp at hn; omega) (by simpa using hl)
    have e1 : p ++ [c] ++ r = p ++ c :: r := by simp
    have e2 : (p ++ [c]).map fK ++ r = p.map fK ++ fK c :: r := by simp
    have e3 : ((p ++ [c]).length : Int) = (p.length : Int) + 1 := by simp
    rw [e1, e2, e3] at ih
    unfold dY eI
    rw [bT (by omega), em (by omega), em (by omega), cI, jp h2, ea, low_c]
    by_cases h : 65 ≤ c.toNat ∧ c.toNat ≤ 90
    · have es : (p.map fK ++ c :: r).set p.length (c + 97 - 65) = p.map fK ++ (c + 97 - 65) :: r := by
        rw [List.set_append_right _ _ (by simp)]; simp
      rw [bT h, em (by omega), em (by omega), cI, Int.toNat_natCast, es, gc (by omega), ← low_t h]
      exact ih
    · rw [bF h, gc (by omega)]
      rw [low_f h] at ih
      exact ih
theorem small_eq (F : Nat) (s w : Bs) (hs : s.length ≤ 1000000) (hF : s.length < F) : im F s w = some (decide (s.map fK = w)) := by
  unfold im
  rw [dT (by omega)]
  exact lj w s [] F hF hs
theorem dig_dg {c : UInt8} (h : jE c = true) : Go.Dg.Dig c := by
  unfold jE at h
  simp only [Bool.and_eq_true, decide_eq_true_eq] at h
  exact h
theorem Atoi_dig (F : Nat) (s : Bs) (h1 : 1 ≤ s.length) (h9 : s.length ≤ 9) (hd : ∀ c ∈ s, Go.Dg.Dig c) (hF : 100 < F) : cE F s = some (((Go.Dg.val 0 s : Nat) : Int), 0) := by
  have h0 : at_ s 0 = s[0] := np (by omega)
  have hd0 := hd _ (List.getElem_mem (show 0 < s.length by omega))
  have n45 : s[0] ≠ 45 := fun e => by rw [e] at hd0; exact absurd hd0.1 (by decide)
  have n43 : s[0] ≠ 43 := fun e => by rw [e] at hd0; exact absurd hd0.1 (by decide)
  have hc : ((decide (0 < (s.length : Int))) && (decide ((s.length : Int) < 19))) = true := by
    rw [decide_eq_true (by omega), decide_eq_true (by omega)]; rfl
  have hg : ∀ (c : Bool) (x : Option (Int × Int)), fE c (de 0 s.length) x = x := fun c x => nj fun _ => by omega
  have e : fM F s = some (((Go.Dg.val 0 s : Nat) : Int), 0) := by
    unfold fM eb
    rw [hc, ctr, em (by omega), cI, hg, cI, h0, decide_eq_false n45, decide_eq_false n43, fo, cfl, dT (by omega)]
    have := Go.Dg.atoi_loop s s (by omega) hd F 0 0 (by omega) (by omega) (by omega)
    refine Eq.trans this ?_
    rw [List.drop_zero]
    unfold ec ed
    rw [em (by omega), cI, h0, decide_eq_false n45, cfl]
  unfold cE
  rw [e, cj, decide_eq_true rfl, ntr, cfl]
abbrev digs : Bs := [48, 49, 50, 51, 52, 53, 54, 55, 56, 57]
theorem digs_c (c : UInt8) : digs.contains c = jE c := by
  have : ∀ k : Fin 256, digs.contains (UInt8.ofNat k.val) = jE (UInt8.ofNat k.val) := by decide +kernel
  have h1 := this ⟨c.toNat, c.toNat_lt⟩
  simpa using h1
theorem nu (f : UInt8 → Bool) : ∀ l : Bs, l.dropWhile f = [] ↔ ∀ x ∈ l, f x = true
  | [] => by simp
  | c :: l => by
    have ih := nu f l
    cases h : f c with
    | true => simp [List.dropWhile_cons, h, ih]
    | false => simp [List.dropWhile_cons, h]
theorem pK (t : Bs) : decide (Go.Lib.trimS t digs = []) = t.all jE := by
  unfold Go.Lib.trimS Go.Lib.trimLeftS Go.Lib.trimRightS
  have e : (fun x => digs.contains x) = jE := funext digs_c
  rw [e]
  cases h : t.all jE with
  | true =>
    rw [List.all_eq_true] at h
    refine decide_eq_true ?_
    have : t.reverse.dropWhile jE = [] := by
      rw [nu]; intro x hx; exact h x (List.mem_reverse.1 hx)
    rw [this]; rfl
  | false =>
    rw [List.all_eq_false] at h
    obtain ⟨x, hx, hn⟩ := h
    refine decide_eq_false fun q => ?_
    rw [nu] at q
    have hne : t.reverse.dropWhile jE ≠ [] := by
      intro e
      rw [nu] at e
      exact hn (e x (List.mem_reverse.2 hx))
    have := List.head_dropWhile_not jE (l := t.reverse) hne
    have hm := q _ (List.mem_reverse.2 (List.head_mem hne))
    rw [hm] at this
    simp at this
theorem pu (b c : UInt8) (l : Bs) : Go.Lib.index (b :: l) [c] = if b = c then 0 else if Go.Lib.index l [c] = -1 then -1 else Go.Lib.index l [c] + 1 := by
  by_cases h : b = c
  · subst h; simp [Go.Lib.index]
  · simp [Go.Lib.index, h, Ne.symm h]
theorem cut_hit (c : UInt8) (l : Bs) : Go.Lib.cut (c :: l) [c] = ([], l, true) := by
  unfold Go.Lib.cut
  rw [pu, if_pos rfl]; rfl
theorem ol {b c : UInt8} (h : ¬ b = c) (l : Bs) : Go.Lib.cut (b :: l) [c] = (b :: (Go.Lib.cut l [c]).1, (Go.Lib.cut l [c]).2) := by
  have hge := Go.Lib.index_ge l [c]
  unfold Go.Lib.cut
  rw [pu, if_neg h]
  by_cases hm : Go.Lib.index l [c] = -1
  · rw [if_pos hm, hm]; rfl
  · rw [if_neg hm, if_pos (by omega), if_pos (by omega)]
    have h3 : (Go.Lib.index l [c] + 1).toNat = (Go.Lib.index l [c]).toNat + 1 := by omega
    rw [h3]
    simp only [List.take_succ_cons, List.length_singleton, List.drop_succ_cons]
theorem pf (c : UInt8) (r : Bs) : ∀ d : Bs, (∀ x ∈ d, x ≠ c) → Go.Lib.cut (d ++ c :: r) [c] = (d, r, true)
  | [], _ => cut_hit c r
  | b :: d, h => by
    rw [List.cons_append, ol (h b (List.mem_cons_self ..)), pf c r d fun x hx => h x (List.mem_cons_of_mem _ hx)]
theorem pe (c : UInt8) : ∀ d : Bs, (∀ x ∈ d, x ≠ c) → Go.Lib.cut d [c] = (d, [], false)
  | [], _ => by simp [Go.Lib.cut, Go.Lib.index]
  | b :: d, h => by rw [ol (h b (by simp)), pe c d fun x hx => h x (by simp [hx])]
theorem ly (c : UInt8) : ∀ s : Bs, (∀ x ∈ s, x ≠ c) ∨ ∃ p q, s = p ++ c :: q ∧ ∀ x ∈ p, x ≠ c
  | [] => .inl fun x hx => by cases hx
  | b :: s => by
    by_cases h : b = c
    · subst h; exact .inr ⟨[], s, rfl, fun x hx => by cases hx⟩
    · rcases ly c s with g | ⟨p, q, rfl, g⟩
      · left; intro x hx
        rcases List.mem_cons.1 hx with rfl | hx
        · exact h
        · exact g x hx
      · right; refine ⟨b :: p, q, rfl, fun x hx => ?_⟩
        rcases List.mem_cons.1 hx with rfl | hx
        · exact h
        · exact g x hx
def sizeC (w t : Bs) (is : Bool) : Option Nat := if (((is = true ∧ w.map fK = [115, 105, 122, 101]) ∧ t ≠ []) ∧ t.length ≤ 9) ∧ t.all jE = true then some (Go.Dg.val 0 t) else none
theorem oa {s : Bs} (h6 : 6 ≤ s.length) (h : (s.take 5).map fK = [115, 105, 122, 101, 32]) : ∃ p q, s = p ++ 32 :: q ∧ (∀ x ∈ p, x ≠ 32) ∧ p.map fK = [115, 105, 122, 101] ∧ p.length = 4 := by
  match s, h6, h with
  | a :: b :: c :: d :: e :: q, _, h =>
    simp only [List.take_succ_cons, List.take_zero, List.map_cons, List.map_nil, List.cons.injEq, and_true] at h
    obtain ⟨ha, hb, hc, hd, he⟩ := h
    have he := (low_sp e).1 he
    have hn : ∀ {x y : UInt8}, fK x = y → y ≠ 32 → x ≠ 32 := fun {x y} h1 h2 h3 => h2 (by rw [← h1]; exact (low_sp x).2 h3)
    subst he;refine ⟨[a, b, c, d], q, rfl, ?_, by simp [ha, hb, hc, hd], rfl⟩;intro x hx
    simp only [List.mem_cons, List.not_mem_nil, or_false] at hx
    rcases hx with rfl | rfl | rfl | rfl
    · exact hn ha (by decide)
    · exact hn hb (by decide)
    · exact hn hc (by decide)
    · exact hn hd (by decide)
theorem pz {c : UInt8} : ∀ {p p' q q' : Bs}, (∀ x ∈ p, x ≠ c) → (∀ x ∈ p', x ≠ c) → p ++ c :: q = p' ++ c :: q' → p = p' ∧ q = q'
  | [], [], q, q', _, _, h => ⟨rfl, by simpa using h⟩
  | [], b :: p', q, q', _, h2, h => by
    simp at h; exact absurd h.1.symm (h2 b (by simp))
  | a :: p, [], q, q', h1, _, h => by
    simp at h; exact absurd h.1 (h1 a (by simp))
  | a :: p, b :: p', q, q', h1, h2, h => by
    simp only [List.cons_append, List.cons.injEq] at h
    obtain ⟨e1, e2⟩ := pz (fun x hx => h1 x (by simp [hx])) (fun x hx => h2 x (by simp [hx])) h.2;exact ⟨by rw [h.1, e1], e2⟩
theorem sizeW_eq (s : Bs) : lG s = sizeC (Go.Lib.cut s [32]).1 (Go.Lib.cut s [32]).2.1 (Go.Lib.cut s [32]).2.2 := by
  rcases ly 32 s with h | ⟨p, q, rfl, h⟩
  · rw [pe 32 s h]
    unfold sizeC lG
    have : ¬ ((6 ≤ s.length ∧ s.length ≤ 14) ∧ (s.take 5).map fK = [115, 105, 122, 101, 32] ∧ (s.drop 5).all jE = true) := fun g => by
      obtain ⟨p, q, rfl, _⟩ := oa g.1.1 g.2.1;exact h 32 (by simp) rfl
    rw [if_neg this, if_neg (by rintro ⟨⟨⟨⟨q, _⟩, _⟩, _⟩, _⟩; cases q)]
  · rw [pf 32 q p h]
    unfold sizeC lG
    by_cases g : p.map fK = [115, 105, 122, 101]
    · have hl : p.length = 4 := by have := congrArg List.length g; simpa using this
      have e1 : (p ++ 32 :: q).take 5 = p ++ [32] := by rw [show p ++ 32 :: q = (p ++ [32]) ++ q by simp, List.take_left' (by simp [hl])]
      have e2 : (p ++ 32 :: q).drop 5 = q := by rw [show p ++ 32 :: q = (p ++ [32]) ++ q by simp, List.drop_left' (by simp [hl])]
      have e3 : (p ++ [32]).map fK = [115, 105, 122, 101, 32] := by rw [List.map_append, g]; rfl
      have e4 : (p ++ 32 :: q).length = 5 + q.length := by simp [hl]; omega
      rw [e1, e2, e3, e4]
      by_cases k : ((1 ≤ q.length) ∧ q.length ≤ 9) ∧ q.all jE = true
      · rw [if_pos ⟨by omega, rfl, k.2⟩, if_pos ⟨⟨⟨⟨rfl, g⟩, fun e => by have e : q = [] := e; rw [e] at k; simp at k⟩, k.1.2⟩, k.2⟩]
      · rw [if_neg (fun z => k ⟨by omega, z.2.2⟩), if_neg (fun z => k ⟨⟨List.length_pos_iff.2 z.1.1.2, z.1.2⟩, z.2⟩)]
    · rw [if_neg (fun z => by
        obtain ⟨p', q', e, h', g', _⟩ := oa z.1.1 z.2.1;obtain ⟨rfl, _⟩ := pz h h' e
        exact g g'), if_neg (fun z => g z.1.1.1.2)]
theorem cut_len (s : Bs) : (Go.Lib.cut s [32]).1.length ≤ s.length ∧ (Go.Lib.cut s [32]).2.1.length ≤ s.length := by
  rcases ly 32 s with h | ⟨p, q, rfl, h⟩
  · rw [pe 32 s h]; simp
  · rw [pf 32 q p h]; simp; omega
theorem oB (s : Bs) (r : List Bs) : oo (s :: r) = match lG s with | some n => n | none => oo r := rfl
theorem mg (F : Nat) (hF : 2000 < F) (ls : List Bs) (rec : Int → Option Int) (i : Nat) (hi : i < ls.length) (hl : (ls[i]).length ≤ 1000) (hn : ls.length ≤ 1000000) :
    dC F ls rec (i : Int) = match (if i = 0 then none else lG ls[i]) with | some n => some ((n : Nat) : Int) | none => rec ((i + 1 : Nat) : Int) := by
  unfold dC
  obtain ⟨s, hs⟩ : ∃ s, s = ls[i] := ⟨_, rfl⟩
  rw [← hs] at hl ⊢
  obtain ⟨l1, l2⟩ := cut_len s
  rw [bT (by omega), em (by omega), cI, jp hi, ← hs, jn (by omega), cI, small_eq F _ _ (by omega) (by omega), mQ]
  rw [gcS (by omega), gcS (by decide)]
  have ga : ∀ (c : Bool) (x : Option Int), fE c (nx ([48, 49, 50, 51, 52, 53, 54, 55, 56, 57] : List UInt8)) x = x := fun c x => by
    cases c
    · exact grdc_f
    · rw [grdc_t]; rfl
  rw [ga, cI]
  unfold fc
  rw [gc (by omega), mP]
  by_cases h0 : i = 0
  · subst h0
    rw [if_pos rfl, show decide (((0 : Nat) : Int) = 0) = true from rfl, Bool.true_or, Bool.true_or, Bool.true_or, Bool.true_or, Bool.true_or, ctr]
  · rw [if_neg h0, sizeW_eq s, decide_eq_false (p := (i : Int) = 0) (by omega), fo]
    generalize (Go.Lib.cut s [32]).1 = w at *
    generalize (Go.Lib.cut s [32]).2.1 = t at *
    generalize (Go.Lib.cut s [32]).2.2 = is at *
    unfold sizeC
    cases is with
    | false =>
      rw [nfl, Bool.true_or, Bool.true_or, Bool.true_or, Bool.true_or, ctr, if_neg (fun z => by cases z.1.1.1.1)]
    | true =>
      rw [ntr, nfl, ctr, fo]
      by_cases g : w.map fK = [115, 105, 122, 101]
      · rw [decide_eq_true g, ntr, fo]
        by_cases g0 : t = []
        · rw [decide_eq_true g0, Bool.true_or, Bool.true_or, ctr, if_neg (fun z => z.1.1.2 g0)]
        · rw [decide_eq_false g0, fo]
          by_cases g9 : t.length ≤ 9
          · rw [decide_eq_false (p := (9 : Int) < (t.length : Int)) (by omega), fo, show decide (Go.Lib.trimS t ([48, 49, 50, 51, 52, 53, 54, 55, 56, 57] : List UInt8) = []) = t.all jE from pK t]
            cases gd : t.all jE with
            | false =>
              rw [nfl, ctr, if_neg (fun z => by cases z.2)]
            | true =>
              have hp := List.length_pos_iff.2 g0
              rw [ntr, cfl, if_pos ⟨⟨⟨⟨rfl, g⟩, g0⟩, g9⟩, rfl⟩, Atoi_dig F t hp g9 (fun c hc => dig_dg (List.all_eq_true.1 gd c hc)) (by omega), cj, bT rfl]
          · rw [decide_eq_true (p := (9 : Int) < (t.length : Int)) (by omega), Bool.true_or, ctr, if_neg (fun z => g9 z.1.2)]
      · rw [decide_eq_false g, nfl, Bool.true_or, Bool.true_or, Bool.true_or, ctr, if_neg (fun z => g z.1.1.1.2)]
theorem pL (F : Nat) (hF : 2000 < F) (ls : List Bs) (hl : ∀ s ∈ ls, s.length ≤ 1000) (hn : ls.length ≤ 1000000) : ∀ (n i : Nat), ls.length - i < n → i ≤ ls.length → 0 < i →
    ef F ls n (i : Int) = some ((oo (ls.drop i) : Nat) : Int) := by
  intro n
  induction n with
  | zero => intro i h; omega
  | succ n ih =>
    intro i hn' hi hp;show dC F ls (ef F ls n) (i : Int) = _
    by_cases h : i < ls.length
    · rw [mg F hF ls _ i h (hl _ (List.getElem_mem h)) hn, if_neg (by omega), bM h, oB]
      cases lG ls[i] with
      | some k => rfl
      | none => exact ih (i + 1) (by omega) (by omega) (by omega)
    · unfold dC
      rw [bF (by omega), bz (by omega)]; rfl
theorem size_eq (F : Nat) (hF : 2000 < F) (c : Int) (ls : List Bs) (x y z : Int) (hl : ∀ s ∈ ls, s.length ≤ 1000) (hn : ls.length ≤ 1000000) (hlF : ls.length < F) : jY F c ls x y z = some ((eL ls : Nat) : Int) := by
  unfold jY eL
  obtain ⟨m, rfl⟩ : ∃ m, F = m + 1 := ⟨F - 1, by omega⟩;show dC (m + 1) ls (ef (m + 1) ls m) ((0 : Nat) : Int) = _
  by_cases h : 0 < ls.length
  · rw [mg (m + 1) hF ls _ 0 h (hl _ (List.getElem_mem h)) hn, if_pos rfl]
    exact pL (m + 1) hF ls hl hn m 1 (by omega) (by omega) (by omega)
  · unfold dC
    rw [bF (by omega), bz (by omega)]; rfl
end Go.Cl
namespace Go.Cl
open Go.Pv Go.Av
open Go.Dg (cfl ctr kd kG fo nfl ntr)
theorem hund (c : Int) (h0 : -9223372036854775808 ≤ c) (h1 : c ≤ 9223372036854775807) : decide (IntKind.i64.wrap (Int.tdiv c 100) = 2) = (decide (200 ≤ c) && decide (c ≤ 299)) := by
  rw [wrap_i64_tdiv c 100 h0 h1 (by omega)]
  by_cases hn : 0 ≤ c
  · rw [Int.tdiv_eq_ediv_of_nonneg hn]
    by_cases a : 200 ≤ c
    · by_cases b : c ≤ 299
      · rw [decide_eq_true (by omega), decide_eq_true a, decide_eq_true b]; rfl
      · rw [decide_eq_false (by omega), decide_eq_true a, decide_eq_false b]; rfl
    · rw [decide_eq_false (by omega), decide_eq_false a]; rfl
  · have hk : c.tdiv 100 ≤ 0 := by
      have e := Int.neg_tdiv (a := -c) (b := 100)
      rw [Int.neg_neg] at e
      have := Int.tdiv_nonneg (a := -c) (b := 100) (by omega) (by omega)
      omega
    rw [decide_eq_false (by omega), decide_eq_false (by omega)]; rfl
theorem jQ (F : Nat) (a2 a3 : Int) (a4 a5 a6 a7 a8 : Bs) (ph : Int) (l : List Bs) (x : Bs) (hj : Str.join [] l = x) (hl : Str.total l ≤ 1000000) (hn : l.length ≤ 10) (hx : x.length ≤ 1000000) (ha : a8.length ≤ 100000000) :
    fN F a2 a3 a4 a5 a6 a7 a8 ph l = some (ph, a8 ++ (x ++ [13, 10])) := by
  unfold fN
  have e0 : ([] : Bs).length = 0 := Eq.symm (Eq.symm rfl)
  have e2 : ([13, 10] : Bs).length = 2 := Eq.symm (Eq.symm rfl)
  rw [grd_Join (by rw [e0]; omega), cI, hj, e2, dT (by omega), cI, dT (by rw [List.length_append, e2]; omega), cI]
theorem kQ (F : Nat) (a2 a3 : Int) (a4 a5 a6 a7 a8 : Bs) (o : Int) (ha : a8.length ≤ 100000000) : gn F a2 a3 a4 a5 a6 a7 a8 o = some (6, o, a8 ++ jm) := by
  unfold gn
  rw [jQ F a2 o a4 a5 a6 a7 a8 6 _ [81, 85, 73, 84] rfl (by decide) (by decide) (by decide) ha, cj]
  rfl
section
variable (F : Nat) (fr rc nm ml : Bs) (c : Int) (ls : List Bs) (m0 m1 m2 : Int)
theorem step_j (ph out : Int) (acc : Bs) (ha : acc.length ≤ 100000000) (b : Bool) : cr F fr rc nm ml c b ph out acc = some (if b = true then (ph, out, acc) else (6, (if 500 ≤ c ∧ c ≤ 599 then 3 else 2), acc ++ jm)) := by
  unfold cr
  cases b with
  | true => rfl
  | false =>
    rw [cfl, if_neg (by decide)]
    by_cases h : 500 ≤ c ∧ c ≤ 599
    · rw [if_pos h, decide_eq_true h.1, decide_eq_true h.2, kd, ctr, kQ F _ _ _ _ _ _ _ _ ha, cV]
    · have : ((decide (500 ≤ c)) && (decide (c ≤ 599))) = false := by
        by_cases q : 500 ≤ c
        · rw [decide_eq_false (p := c ≤ 599) (fun z => h ⟨q, z⟩), Bool.and_false]
        · rw [decide_eq_false q]; rfl
      rw [if_neg h, this, cfl, kQ F _ _ _ _ _ _ _ _ ha, cV]
theorem greet_eq (hnm : nm.length ≤ 1000) (ph out : Int) (acc : Bs) (ha : acc.length ≤ 100000000) : iq F ph out fr rc nm ml acc c ls m0 m1 m2 = some (if eB 0 c = true then (true, 1, acc ++ ehloD nm) else (false, ph, acc)) := by
  have eg : eB 0 c = decide (c = 220) := by simp [eB]
  unfold iq
  rw [eg]
  by_cases h : c = 220
  · rw [decide_eq_true h, ntr, cfl, if_pos rfl, jQ F ph out fr rc nm ml acc 1 _ ([69, 72, 76, 79, 32] ++ nm) (by simp [Str.join, Str.rest]) (by simp [Str.total]; omega) (by simp) (by simp; omega) ha, cj]
    rfl
  · rw [decide_eq_false h, nfl, ctr, if_neg (by decide)]
theorem data_eq (hF : 2000 < F) (hml : ml.length ≤ 1000) (ph out : Int) (acc : Bs) (ha : acc.length ≤ 100000000) : jV F ph out fr rc nm ml acc c ls m0 m1 m2 = some (if eB 4 c = true then (true, 5, acc ++ jD ml) else (false, ph, acc)) := by
  have eg : eB 4 c = decide (c = 354) := by simp [eB]
  unfold jV
  rw [eg]
  by_cases h : c = 354
  · have := nW ml
    rw [decide_eq_true h, ntr, cfl, if_pos rfl, me F ml (by omega) (by omega), cj, dT (by omega), cI]
  · rw [decide_eq_false h, nfl, ctr, if_neg (by decide)]
theorem jM (h0 : -9223372036854775808 ≤ c) (h1 : c ≤ 9223372036854775807) {ph : Int} (hp : ph = 1 ∨ ph = 2 ∨ ph = 3 ∨ ph = 5) : eB ph c = decide (IntKind.i64.wrap (Int.tdiv c 100) = 2) := by
  rw [hund c h0 h1]
  unfold eB
  rw [if_neg (by omega), if_neg (by omega)]
theorem hello_eq (hF : 2000 < F) (hfr : fr.length ≤ 1000) (hml : ml.length ≤ 1000) (h0 : -9223372036854775808 ≤ c) (h1 : c ≤ 9223372036854775807) (hls : ∀ s ∈ ls, s.length ≤ 1000) (hln : ls.length ≤ 1000) (ph out : Int) (acc : Bs) (ha : acc.length ≤ 100000000) : ip F ph out fr rc nm ml acc c ls m0 m1 m2 = some (if eB 1 c = true then (if 0 < eL ls ∧ eL ls < (jD ml).length then (true, 6, 3, acc ++ jm) else (true, 2, out, acc ++ ot fr)) else (false, ph, out, acc)) := by
  unfold ip
  rw [jM c h0 h1 (.inl rfl)]
  cases h : decide (IntKind.i64.wrap (Int.tdiv c 100) = 2) with
  | false => rw [nfl, ctr, if_neg (by decide)]
  | true =>
    rw [ntr, cfl, if_pos rfl, me F ml (by omega) (by omega), cj, size_eq F hF c ls m0 m1 m2 hls (by omega) (by omega), cB]
    by_cases q : 0 < eL ls ∧ eL ls < (jD ml).length
    · rw [if_pos q, decide_eq_true (p := (0 : Int) < ((eL ls : Nat) : Int)) (by omega), decide_eq_true (p := ((eL ls : Nat) : Int) < ((jD ml).length : Int)) (by omega), kd, ctr, kQ F _ _ _ _ _ _ _ _ ha, cV]
    · have : ((decide ((0 : Int) < ((eL ls : Nat) : Int))) && (decide (((eL ls : Nat) : Int) < ((jD ml).length : Int)))) = false := by
        by_cases g : 0 < eL ls
        · rw [decide_eq_false (p := ((eL ls : Nat) : Int) < ((jD ml).length : Int)) (fun z => q ⟨g, by omega⟩), Bool.and_false]
        · rw [decide_eq_false (p := (0 : Int) < ((eL ls : Nat) : Int)) (by omega)]; rfl
      rw [if_neg q, this, cfl, jQ F ph out fr rc nm ml acc 2 _ ([77, 65, 73, 76, 32, 70, 82, 79, 77, 58, 60] ++ fr ++ [62]) (by simp [Str.join, Str.rest]) (by simp [Str.total]; omega) (by simp) (by simp; omega) ha, cj]
      simp [ot]
theorem from_eq (hrc : rc.length ≤ 1000) (h0 : -9223372036854775808 ≤ c) (h1 : c ≤ 9223372036854775807) (ph out : Int) (acc : Bs) (ha : acc.length ≤ 100000000) : jT F ph out fr rc nm ml acc c ls m0 m1 m2 = some (if eB 2 c = true then (true, 3, acc ++ rcptD rc) else (false, ph, acc)) := by
  unfold jT
  rw [jM c h0 h1 (.inr (.inl rfl))]
  cases h : decide (IntKind.i64.wrap (Int.tdiv c 100) = 2) with
  | false => rw [nfl, ctr, if_neg (by decide)]
  | true =>
    rw [ntr, cfl, if_pos rfl, jQ F ph out fr rc nm ml acc 3 _ ([82, 67, 80, 84, 32, 84, 79, 58, 60] ++ rc ++ [62]) (by simp [Str.join, Str.rest]) (by simp [Str.total]; omega) (by simp) (by simp; omega) ha, cj]
    simp [rcptD]
theorem rcpt_eq (h0 : -9223372036854775808 ≤ c) (h1 : c ≤ 9223372036854775807) (ph out : Int) (acc : Bs) (ha : acc.length ≤ 100000000) : jR F ph out fr rc nm ml acc c ls m0 m1 m2 = some (if eB 3 c = true then (true, 4, acc ++ dataD) else (false, ph, acc)) := by
  unfold jR
  rw [jM c h0 h1 (.inr (.inr (.inl rfl)))]
  cases h : decide (IntKind.i64.wrap (Int.tdiv c 100) = 2) with
  | false => rw [nfl, ctr, if_neg (by decide)]
  | true =>
    rw [ntr, cfl, if_pos rfl, jQ F ph out fr rc nm ml acc 4 _ [68, 65, 84, 65] rfl (by decide) (by decide) (by decide) ha, cj]
    rfl
theorem body_eq (h0 : -9223372036854775808 ≤ c) (h1 : c ≤ 9223372036854775807) (ph out : Int) (acc : Bs) (ha : acc.length ≤ 100000000) : jW F ph out fr rc nm ml acc c ls m0 m1 m2 = some (if eB 5 c = true then (true, 6, 1, acc ++ jm) else (false, ph, out, acc)) := by
  unfold jW
  rw [jM c h0 h1 (.inr (.inr (.inr rfl)))]
  cases h : decide (IntKind.i64.wrap (Int.tdiv c 100) = 2) with
  | false => rw [nfl, ctr, if_neg (by decide)]
  | true => rw [ntr, cfl, if_pos rfl, kQ F _ _ _ _ _ _ _ _ ha, cV]
theorem step_eq (hF : 2000 < F) (hfr : fr.length ≤ 1000) (hrc : rc.length ≤ 1000) (hnm : nm.length ≤ 1000) (hml : ml.length ≤ 1000) (h0 : -9223372036854775808 ≤ c) (h1 : c ≤ 9223372036854775807) (hls : ∀ s ∈ ls, s.length ≤ 1000) (hln : ls.length ≤ 1000) (ph out : Int) (acc : Bs) (ha : acc.length ≤ 100000000) : iL F ph out fr rc nm ml acc c ls m0 m1 m2 = some ((fw fr rc nm ml ph out c ls).1, (fw fr rc nm ml ph out c ls).2.1, acc ++ (fw fr rc nm ml ph out c ls).2.2) := by
  unfold iL fw
  by_cases h : ph < 0 ∨ 7 ≤ ph
  · have : ((decide (ph < 0)) || (decide (7 ≤ ph))) = true := by
      rcases h with h | h
      · rw [decide_eq_true h]; rfl
      · rw [decide_eq_true h, Bool.or_true]
    rw [if_pos h, this, ctr, List.append_nil]
  · rw [if_neg h, decide_eq_false (fun z => h (.inl z)), decide_eq_false (fun z => h (.inr z)), fo, cfl]
    by_cases h2 : c = 421
    · rw [if_pos h2, bT h2]
      unfold jU
      by_cases g : out = 0
      · rw [bT g, cj, if_pos g, List.append_nil]
      · rw [bF g, cj, if_neg g, List.append_nil]
    · rw [if_neg h2, bF h2, em (by omega)]
      unfold dQ
      have hj := fun (ph out : Int) (acc : Bs) (ha : acc.length ≤ 100000000) (b : Bool) => step_j F fr rc nm ml c ph out acc ha b
      have hq : ph = 0 ∨ ph = 1 ∨ ph = 2 ∨ ph = 3 ∨ ph = 4 ∨ ph = 5 ∨ ph = 6 := by omega
      have hsl := nW ml
      rcases hq with rfl | rfl | rfl | rfl | rfl | rfl | rfl
      · rw [bT rfl, cB, greet_eq F fr rc nm ml c ls m0 m1 m2 hnm 0 out acc ha, if_neg (show ¬ ((0 : Int) = 6) by decide)]
        by_cases q : eB 0 c = true
        · rw [if_pos q, if_pos q, cV]; rfl
        · rw [if_neg q, if_neg q, cV, hj _ _ _ ha]; rfl
      · rw [bF (by decide), bT rfl, cB, hello_eq F fr rc nm ml c ls m0 m1 m2 hF hfr hml h0 h1 hls hln 1 out acc ha, if_neg (show ¬ ((1 : Int) = 6) by decide)]
        by_cases q : eB 1 c = true
        · rw [if_pos q, if_pos q]
          have eg : goP fr rc nm ml 1 out ls = if 0 < eL ls ∧ eL ls < (jD ml).length then (6, 3, jm) else (2, out, ot fr) := by simp [goP]
          rw [eg]
          by_cases g : 0 < eL ls ∧ eL ls < (jD ml).length
          · rw [if_pos g, if_pos g]; rfl
          · rw [if_neg g, if_neg g]; rfl
        · rw [if_neg q, if_neg q]
          show cr F fr rc nm ml c false 1 out acc = _
          rw [hj _ _ _ ha]; rfl
      · rw [bF (by decide), bF (by decide), bT rfl, cB, from_eq F fr rc nm ml c ls m0 m1 m2 hrc h0 h1 2 out acc ha, if_neg (show ¬ ((2 : Int) = 6) by decide)]
        by_cases q : eB 2 c = true
        · rw [if_pos q, if_pos q, cV]; rfl
        · rw [if_neg q, if_neg q, cV, hj _ _ _ ha]; rfl
      · rw [bF (by decide), bF (by decide), bF (by decide), bT rfl, cB, rcpt_eq F fr rc nm ml c ls m0 m1 m2 h0 h1 3 out acc ha, if_neg (show ¬ ((3 : Int) = 6) by decide)]
        by_cases q : eB 3 c = true
        · rw [if_pos q, if_pos q, cV]; rfl
        · rw [if_neg q, if_neg q, cV, hj _ _ _ ha]; rfl
      · rw [bF (by decide), bF (by decide), bF (by decide), bF (by decide), bT rfl, cB, data_eq F fr rc nm ml c ls m0 m1 m2 hF hml 4 out acc ha, if_neg (show ¬ ((4 : Int) = 6) by decide)]
        by_cases q : eB 4 c = true
        · rw [if_pos q, if_pos q, cV]; rfl
        · rw [if_neg q, if_neg q, cV, hj _ _ _ ha]; rfl
      · rw [bF (by decide), bF (by decide), bF (by decide), bF (by decide), bF (by decide), bT rfl, cB, body_eq F fr rc nm ml c ls m0 m1 m2 h0 h1 5 out acc ha, if_neg (show ¬ ((5 : Int) = 6) by decide)]
        by_cases q : eB 5 c = true
        · rw [if_pos q, if_pos q]; rfl
        · rw [if_neg q, if_neg q]
          show cr F fr rc nm ml c false 5 out acc = _
          rw [hj _ _ _ ha]; rfl
      · rw [bF (by decide), bF (by decide), bF (by decide), bF (by decide), bF (by decide), bF (by decide), cB, if_pos rfl]
        unfold kV
        rw [cj, hj _ _ _ ha, if_pos rfl, List.append_nil]
theorem Step_eq (hF : 2000 < F) (hfr : fr.length ≤ 1000) (hrc : rc.length ≤ 1000) (hnm : nm.length ≤ 1000) (hml : ml.length ≤ 1000) (h0 : -9223372036854775808 ≤ c) (h1 : c ≤ 9223372036854775807) (hls : ∀ s ∈ ls, s.length ≤ 1000) (hln : ls.length ≤ 1000) (ph out : Int) : jX F ph out fr rc nm ml c ls m0 m1 m2 = some ((fw fr rc nm ml ph out c ls).1, (fw fr rc nm ml ph out c ls).2.1, fr, rc, nm, ml, (fw fr rc nm ml ph out c ls).2.2) := by
  unfold jX ir
  rw [jn (by omega), cB, step_eq F fr rc nm ml c ls m0 m1 m2 hF hfr hrc hnm hml h0 h1 hls hln ph out [] (by simp), cV]
  rfl
end
end Go.Cl
namespace Go.Rp
open Go.Pv Go.Av
abbrev Bs := List UInt8
theorem getD_at (s : Bs) (k : Nat) (h : k < s.length) : (⟨s.toArray⟩ : ByteArray).get! k = s[k] := by
  show (s.toArray)[k]! = _
  simp [h]
def crlf (b : UInt8) : Bool := decide (b = 13) || decide (b = 10)
end Go.Rp
namespace Go.Rp
open Go.Pv Go.Av
open Go.Lib (decDigits)
open Go.Dg (val eA hH nl pd nv pj Dig pv gy jL Atoi_tot Atoi_dd cfl ctr kd kG fo nfl ntr)
def dgB (c : UInt8) : Bool := decide (48 ≤ c.toNat) && decide (c.toNat ≤ 57)
theorem nc {c : UInt8} (h : dgB c = true) : Dig c := by
  unfold dgB at h
  show 48 ≤ c.toNat ∧ c.toNat ≤ 57
  simpa using h
def okN (s : Bs) : Bool := ((decide (1 ≤ s.length) && decide (s.length ≤ 3)) && s.all dgB) && !(decide (s.head? = some 48) && decide (1 < s.length))
def numB (s : Bs) : Option Nat := if okN s = true then some (val 0 s) else none
theorem gD (c : UInt8) (h : Dig c) (n : Nat) (hn : n = c.toNat - 48) : UInt8.ofNat (48 + n) = c := by
  obtain ⟨h1, h2⟩ := h;subst hn
  rw [show 48 + (c.toNat - 48) = c.toNat by omega, UInt8.ofNat_toNat]
theorem dd2 {n : Nat} (h : 10 ≤ n) (h2 : n < 100) : decDigits n = [UInt8.ofNat (48 + n / 10), UInt8.ofNat (48 + n % 10)] := by
  rw [hH (by omega), eA (by omega)]; rfl
theorem dd3 {n : Nat} (h : 100 ≤ n) (h2 : n < 1000) : decDigits n = [UInt8.ofNat (48 + n / 10 / 10), UInt8.ofNat (48 + n / 10 % 10), UInt8.ofNat (48 + n % 10)] := by
  rw [hH (by omega), dd2 (by omega) (by omega)]; rfl
theorem num_dd {s : Bs} {n : Nat} (h : numB s = some n) : s = decDigits n ∧ n < 1000 := by
  unfold numB at h
  by_cases hk : okN s = true
  · rw [if_pos hk] at h
    have hn : val 0 s = n := aD h
    unfold okN at hk
    simp only [Bool.and_eq_true, decide_eq_true_eq, Bool.not_eq_true', Bool.and_eq_false_iff, decide_eq_false_iff_not] at hk
    obtain ⟨⟨⟨h1, h2⟩, h3⟩, h4⟩ := hk
    match s, h1, h2, h3, h4, hn with
    | [a], _, _, h3, h4, hn =>
      have ha := nc (List.all_eq_true.1 h3 a (by simp))
      have hv : val 0 [a] = a.toNat - 48 := by show 10 * 0 + (a.toNat - 48) = _; omega
      have ha' := ha; obtain ⟨ha1, ha2⟩ := ha'
      refine ⟨?_, by omega⟩
      rw [← hn, hv, eA (by omega), gD a ha _ rfl]
    | [a, b], _, _, h3, h4, hn =>
      have ha := nc (List.all_eq_true.1 h3 a (by simp))
      have hb := nc (List.all_eq_true.1 h3 b (by simp))
      have hv : val 0 [a, b] = 10 * (a.toNat - 48) + (b.toNat - 48) := by show 10 * (10 * 0 + (a.toNat - 48)) + (b.toNat - 48) = _; omega
      have ha' := ha; obtain ⟨ha1, ha2⟩ := ha'
      have hb' := hb; obtain ⟨hb1, hb2⟩ := hb'
      have hne : a.toNat ≠ 48 := by
        intro e
        have : a = 48 := UInt8.toNat.inj e
        rcases h4 with h4 | h4
        · exact h4 (by rw [this]; rfl)
        · exact h4 (by simp)
      refine ⟨?_, by omega⟩
      rw [← hn, hv, dd2 (by omega) (by omega), gD a ha _ (by omega), gD b hb _ (by omega)]
    | [a, b, c], _, _, h3, h4, hn =>
      have ha := nc (List.all_eq_true.1 h3 a (by simp))
      have hb := nc (List.all_eq_true.1 h3 b (by simp))
      have hc := nc (List.all_eq_true.1 h3 c (by simp))
      have hv : val 0 [a, b, c] = 100 * (a.toNat - 48) + 10 * (b.toNat - 48) + (c.toNat - 48) := by show 10 * (10 * (10 * 0 + (a.toNat - 48)) + (b.toNat - 48)) + (c.toNat - 48) = _; omega
      have ha' := ha; obtain ⟨ha1, ha2⟩ := ha'
      have hb' := hb; obtain ⟨hb1, hb2⟩ := hb'
      have hc' := hc; obtain ⟨hc1, hc2⟩ := hc'
      have hne : a.toNat ≠ 48 := by
        intro e
        have : a = 48 := UInt8.toNat.inj e
        rcases h4 with h4 | h4
        · exact h4 (by rw [this]; rfl)
        · exact h4 (by simp)
      refine ⟨?_, by omega⟩
      rw [← hn, hv, dd3 (by omega) (by omega), gD a ha _ (by omega), gD b hb _ (by omega), gD c hc _ (by omega)]
    | [], h1, _, _, _, _ => simp at h1
    | a :: b :: c :: d :: r, _, h2, _, _, _ => simp at h2
  · rw [if_neg hk] at h; cases h
end Go.Rp
namespace Go.Rp
open Go.Pv Go.Av
def sp (c : UInt8) : Bs → List Bs
  | [] => [[]]
  | b :: r => if b = c then [] :: sp c r else match sp c r with
    | [] => [[b]]
    | p :: ps => (b :: p) :: ps
end Go.Rp
namespace Go.Rp
open Go.Pv Go.Av
open Go.Lib (decDigits)
open Go.Dg (jL cfl ctr kd kG fo nfl ntr)
abbrev M3 := Int × Int × Int
def more3 (c : Int) : List Bs → M3
  | [a, b, d] => if c / 100 = 3 then (0, 0, 0) else match numB a, numB b, numB d with
    | some x, some y, some z => if (x : Int) = c / 100 then ((x : Int), (y : Int), (z : Int)) else (0, 0, 0)
    | _, _, _ => (0, 0, 0)
  | _ => (0, 0, 0)
def moreB (c : Int) (s : Bs) : M3 := more3 c (sp 46 ((sp 32 s).headD []))
end Go.Rp
namespace Go.Rp
open Go.Pv Go.Av
open Go.Lib (decDigits)
open Go.Dg (jL cfl ctr kd kG fo nfl ntr eA hH nv)
def fitB (s : Bs) : Bool := !(s.any crlf) && decide (s.length ≤ 506)
def lst (ls : List Bs) : Bs := at_ ls ((ls.length : Int) - 1)
def lnW (d : Bs) (g : UInt8) (s : Bs) : Bs := d ++ g :: (s ++ [13, 10])
def wrL (d : Bs) : List Bs → Bs
  | [] => []
  | s :: r => lnW d (if r = [] then 32 else 45) s ++ wrL d r
end Go.Rp
namespace Go.Rp
open Go.Pv Go.Av
open Go.Lib (decDigits indexByte)
open Go.Dg (val Dig jL cfl ctr kd kG fo nfl ntr eA hH nv nl pd)
theorem ib_ge (b : Bs) (c : UInt8) : -1 ≤ indexByte b c := Go.Lib.indexByte_ge b c
theorem od {b : Bs} {c : UInt8} {i : Nat} (h : indexByte b c = (i : Int)) : ∃ p q, b = p ++ c :: q ∧ p.length = i ∧ ∀ x ∈ p, x ≠ c := by
  induction b generalizing i with
  | nil => have : (-1 : Int) = (i : Int) := h; omega
  | cons a b ih =>
    unfold Go.Lib.indexByte at h
    by_cases e : (a == c) = true
    · rw [if_pos e] at h
      refine ⟨[], b, ?_, by simp only [List.length_nil]; omega, by simp⟩
      rw [show a = c by simpa using e]; rfl
    · rw [if_neg e] at h
      by_cases e2 : indexByte b c = -1
      · rw [e2] at h
        have : (-1 : Int) = (i : Int) := h
        omega
      · have e3 : (indexByte b c == -1) = false := by simpa using e2
        rw [e3] at h
        simp only [Bool.false_eq_true, if_false] at h
        have hg := ib_ge b c
        obtain ⟨p, q, h1, h2, h3⟩ := ih (i := i - 1) (by omega);refine ⟨a :: p, q, by rw [h1]; rfl, by simp; omega, fun x hx => ?_⟩
        rcases List.mem_cons.1 hx with rfl | hx
        · intro e4; exact e (by simp [e4])
        · exact h3 x hx
inductive Ln | wait | bad | ok (s : Bs)
def lnOf (b : Bs) : Ln :=
  if indexByte b 10 < 0 then (if b.length < 512 then .wait else .bad)
  else if indexByte b 10 < 512 ∧ 0 < indexByte b 10 ∧ indexByte b 13 = indexByte b 10 - 1 then .ok (b.take (indexByte b 10 - 1).toNat) else .bad
theorem ln_ok {b s : Bs} (h : lnOf b = .ok s) : ∃ t, b = s ++ 13 :: 10 :: t ∧ (∀ x ∈ s, crlf x = false) ∧ s.length ≤ 510 := by
  unfold lnOf at h
  by_cases h0 : indexByte b 10 < 0
  · rw [if_pos h0] at h
    split at h <;> cases h
  · rw [if_neg h0] at h
    split at h
    · rename_i hc
      obtain ⟨h1, h2, h3⟩ := hc
      have hs : b.take (indexByte b 10 - 1).toNat = s := by injection h
      obtain ⟨p, q, e1, e2, e3⟩ := od (b := b) (c := 10) (i := (indexByte b 10).toNat) (by omega);obtain ⟨p', q', g1, g2, g3⟩ := od (b := b) (c := 13) (i := (indexByte b 10 - 1).toNat) (by omega)
      have hp' : p' = s := by rw [← hs, ← g2, g1, List.take_left' rfl]
      have hp : p = p' ++ [13] := by
        have a1 : b.take (indexByte b 10).toNat = p := by rw [← e2, e1, List.take_left' rfl]
        have a2 : b.take (indexByte b 10).toNat = p' ++ [13] := by
          have l : (indexByte b 10).toNat = (p' ++ [13]).length := by simp; omega
          rw [l, g1, show p' ++ 13 :: q' = (p' ++ [13]) ++ q' by simp, List.take_left' rfl]
        rw [← a1, a2]
      refine ⟨q, by rw [← hp', e1, hp]; simp, fun x hx => ?_, by rw [← hp']; omega⟩
      unfold crlf
      rw [← hp'] at hx
      rw [decide_eq_false (g3 x hx), decide_eq_false (e3 x (by rw [hp]; simp [hx]))]; rfl
    · cases h
theorem ln_len {b s : Bs} (h : lnOf b = .ok s) : s.length + 2 ≤ b.length := by
  obtain ⟨t, rfl, _, _⟩ := ln_ok h
  simp
def codeB (s : Bs) : Option Nat :=
  if 4 ≤ s.length ∧ (at_ s 3 = 45 ∨ at_ s 3 = 32) then
    match numB (s.take 3) with
    | some n => if 200 ≤ n ∧ n ≤ 599 then some n else none
    | none => none
  else none
theorem code_s {s : Bs} {n : Nat} (h : codeB s = some n) : 4 ≤ s.length ∧ (at_ s 3 = 45 ∨ at_ s 3 = 32) ∧ (200 ≤ n ∧ n ≤ 599) ∧ numB (s.take 3) = some n := by
  unfold codeB at h
  split at h
  · rename_i hc
    cases hn : numB (s.take 3) with
    | none => rw [hn] at h; cases h
    | some k =>
      rw [hn] at h
      simp only at h
      split at h
      · cases h; rename_i hk; exact ⟨hc.1, hc.2, hk, rfl⟩
      · cases h
  · cases h
abbrev Rp := Int × List Bs × M3
inductive One | wait | bad | ok (x : Rp) (n : Nat)
def oneA : Nat → Int → List Bs → Nat → Bs → One
  | 0, _, _, _, b => match lnOf b with
    | .wait => .wait
    | _ => .bad
  | k + 1, c, ls, at', b => match lnOf b with
    | .wait => .wait
    | .bad => .bad
    | .ok s => match codeB s with
      | none => .bad
      | some n => if ls ≠ [] ∧ (n : Int) ≠ c then .bad else
        if at_ s 3 = 32 then .ok ((n : Int), ls ++ [s.drop 4], moreB (n : Int) (s.drop 4)) (at' + (s.length + 2))
        else oneA k (n : Int) (ls ++ [s.drop 4]) (at' + (s.length + 2)) (b.drop (s.length + 2))
def one (b : Bs) : One := oneA 100 0 [] 0 b
theorem pq : ∀ (k : Nat) (c : Int) (ls : List Bs) (a : Nat) (b : Bs) (x : Rp) (n : Nat), oneA k c ls a b = .ok x n →
    ∃ (d : Nat) (l2 : List Bs), x = ((d : Int), ls ++ l2, moreB (d : Int) (lst l2)) ∧ l2 ≠ [] ∧ l2.length ≤ k ∧ (∀ s ∈ l2, fitB s = true) ∧ (200 ≤ d ∧ d ≤ 599) ∧ (ls ≠ [] → (d : Int) = c) ∧ a < n ∧ n ≤ a + b.length ∧ b.take (n - a) = wrL (decDigits d) l2
  | 0, c, ls, a, b, x, n, h => by
    unfold oneA at h
    split at h <;> cases h
  | k + 1, c, ls, a, b, x, n, h => by
    unfold oneA at h
    cases hb : lnOf b with
    | wait => rw [hb] at h; cases h
    | bad => rw [hb] at h; cases h
    | ok s =>
      rw [hb] at h
      simp only at h
      cases hc : codeB s with
      | none => rw [hc] at h; cases h
      | some m =>
        rw [hc] at h
        simp only at h
        by_cases h1 : ls ≠ [] ∧ (m : Int) ≠ c
        · rw [if_pos h1] at h; cases h
        rw [if_neg h1] at h
        have hcode : ls ≠ [] → (m : Int) = c := fun g => by
          by_cases e : (m : Int) = c
          · exact e
          · exact absurd ⟨g, e⟩ h1
        obtain ⟨t, ht, hs, hl⟩ := ln_ok hb;obtain ⟨c1, c2, c3, c4⟩ := code_s hc;obtain ⟨d1, d2⟩ := num_dd c4
        have hlen := ln_len hb
        have hfit : fitB (s.drop 4) = true := by
          unfold fitB
          rw [decide_eq_true (p := (s.drop 4).length ≤ 506) (by simp; omega), Bool.and_true]
          have : (s.drop 4).any crlf = false := by
            rw [List.any_eq_false]
            intro y hy
            rw [hs y (List.mem_of_mem_drop hy)]; simp
          rw [this]; rfl
        have hsplit : s = decDigits m ++ at_ s 3 :: s.drop 4 := by
          have e3 : at_ s 3 = s[3] := jp (i := 3) (by omega)
          rw [← d1, e3]
          have := bM (l := s) (i := 3) (by omega)
          conv => lhs; rw [← List.take_append_drop 3 s, this]
        have hln : b.take (s.length + 2) = lnW (decDigits m) (at_ s 3) (s.drop 4) := by
          conv => lhs; rw [ht]
          rw [show s ++ 13 :: 10 :: t = (s ++ [13, 10]) ++ t by simp, show s.length + 2 = (s ++ [13, 10]).length by simp, List.take_left' rfl]
          unfold lnW
          conv => lhs; rw [hsplit]
          simp
        by_cases h2 : at_ s 3 = 32
        · rw [if_pos h2] at h
          injection h with hx hn
          subst hx; subst hn
          refine ⟨m, [s.drop 4], rfl, by simp, by simp, fun y hy => ?_, c3, hcode, by omega, by omega, ?_⟩
          · rw [List.mem_singleton.1 hy]; exact hfit
          · rw [show a + (s.length + 2) - a = s.length + 2 by omega, hln, h2]
            unfold wrL
            rw [if_pos rfl]; unfold wrL; simp
        · rw [if_neg h2] at h
          obtain ⟨d, l2, e1, e2, e3, e4, e5, e6, e7, e8, e9⟩ := pq k _ _ _ _ x n h
          have hd : (d : Int) = (m : Int) := e6 (by simp)
          have hdm : d = m := by omega
          subst hdm;refine ⟨d, s.drop 4 :: l2, ?_, by simp, by simp; omega, fun y hy => ?_, e5, hcode, by omega, by simp at e8; omega, ?_⟩
          · rw [e1]
            have : lst (s.drop 4 :: l2) = lst l2 := by
              have hp : 0 < l2.length := List.length_pos_iff.2 e2
              unfold lst
              rw [show (((s.drop 4 :: l2).length : Int) - 1) = ((l2.length - 1 + 1 : Nat) : Int) by simp; omega, show ((l2.length : Int) - 1) = ((l2.length - 1 : Nat) : Int) by omega, jp (by simp only [List.length_cons]; omega), jp (by omega)]
              rfl
            rw [this, List.append_assoc]; rfl
          · rcases List.mem_cons.1 hy with rfl | hy
            · exact hfit
            · exact e4 y hy
          · have g3 : at_ s 3 = 45 := by
              rcases c2 with g | g
              · exact g
              · exact absurd g h2
            have hle : s.length + 2 ≤ n - a := by omega
            have : b.take (n - a) = b.take (s.length + 2) ++ (b.drop (s.length + 2)).take (n - (a + (s.length + 2))) := by
              rw [show n - a = (s.length + 2) + (n - (a + (s.length + 2))) by omega, List.take_add]
            rw [this, e9, hln, g3]
            show _ = lnW (decDigits d) (if l2 = [] then 32 else 45) (s.drop 4) ++ wrL (decDigits d) l2
            rw [if_neg e2]
inductive All : Bs → List Rp → Nat → Bool → Prop
  | wait {b : Bs} : one b = .wait → All b [] 0 false
  | bad {b : Bs} : one b = .bad → All b [] 0 true
  | ok {b : Bs} {x : Rp} {n : Nat} {l : List Rp} {u : Nat} {bd : Bool} : one b = .ok x n → All (b.drop n) l u bd → All b (x :: l) (n + u) bd
theorem one_pos {b : Bs} {x : Rp} {n : Nat} (h : one b = .ok x n) : 0 < n ∧ n ≤ b.length := by
  obtain ⟨d, l2, _, _, _, _, _, _, h7, h8, _⟩ := pq 100 0 [] 0 b x n h
  omega
theorem All.le {b : Bs} {l : List Rp} {u : Nat} {bd : Bool} (h : All b l u bd) : u ≤ b.length ∧ l.length ≤ u := by
  induction h with
  | wait e => simp
  | bad e => simp
  | ok e _ ih =>
    have := one_pos e
    simp at ih ⊢
    omega
end Go.Rp
namespace Go.Rp
open Go.Pv Go.Av
open Go.Lib (decDigits indexByte)
open Go.Dg (cfl ctr kd kG fo nfl ntr)
section
variable {σ : Type}
end
abbrev S5 := Int × Int × List Bs × List Rp × Int
def kk (F : Nat) (s : S5) (x : Bs) : Option (S5 × Option Bool) := fS F s.1 s.2.1 s.2.2.1 s.2.2.2.1 s.2.2.2.2 x
end Go.Rp
namespace Go.Cl
open Go.Pv Go.Av
open Go.Dg (cfl ctr kd kG fo nfl ntr)
theorem bif_t {α : Type} {x : Bool} {a b : α} (h : x = true) : (bif x then a else b) = a := by rw [h]; rfl
theorem bif_f {α : Type} {x : Bool} {a b : α} (h : x = false) : (bif x then a else b) = b := by rw [h]; rfl
theorem few_eq (F : Nat) (ph out : Int) (fr rc nm ml : Bs) : gz F ph out fr rc nm ml = some (decide (((fr.length ≤ 100 ∧ rc.length ≤ 100) ∧ nm.length ≤ 100) ∧ ml.length ≤ 600)) := by
  unfold gz
  congr 1
  by_cases h : ((fr.length ≤ 100 ∧ rc.length ≤ 100) ∧ nm.length ≤ 100) ∧ ml.length ≤ 600
  · rw [decide_eq_true h]
    simp only [Bool.and_eq_true, decide_eq_true_eq]
    omega
  · rw [decide_eq_false h]
    simp only [Bool.and_eq_false_iff, decide_eq_false_iff_not]
    omega
theorem awake_eq : fm 2000000 = some true := by decide +kernel
end Go.Cl
namespace Go.Cl
open Go.Pv Go.Av
open Go.Dg (cfl ctr kd kG fo nfl ntr)
theorem bad_code {ph c : Int} (h0 : 0 ≤ ph) (h5 : ph ≤ 5) (hc : 400 ≤ c) : eB ph c = false := by
  unfold eB
  by_cases a : ph = 0
  · rw [if_pos a, decide_eq_false (by omega)]
  · rw [if_neg a]
    by_cases b : ph = 4
    · rw [if_pos b, decide_eq_false (by omega)]
    · rw [if_neg b, decide_eq_false (p := c ≤ 299) (by omega), Bool.and_false]
theorem lR (F : Nat) (hF : 20000 < F) (hw : fm F = some true) (ph out : Int) (fr rc nm ml : Bs) (c : Int) : da F ph out fr rc nm ml c = some true := by
  unfold da
  rw [hw, cB, few_eq, cB]
  by_cases h : ((((((fr.length ≤ 100 ∧ rc.length ≤ 100) ∧ nm.length ≤ 100) ∧ ml.length ≤ 600) ∧ 0 ≤ ph) ∧ ph ≤ 5) ∧ out = 0) ∧ 400 ≤ c ∧ c ≤ 599
  · obtain ⟨⟨⟨⟨h1, h2⟩, h3⟩, h4⟩, h5, h6⟩ := h
    rw [bif_f]
    · have e1 : ([110, 111] : Bs).length = 2 := rfl
      rw [Step_eq F fr rc nm ml c [[110, 111]] 0 0 0 (by omega) (by omega) (by omega) (by omega) (by omega) (by omega) (by omega) (fun s hs => by rw [List.mem_singleton.1 hs, e1]; omega) (by simp) ph out, cB]
      simp only
      unfold fw
      rw [if_neg (by omega)]
      by_cases h421 : c = 421
      · rw [if_pos h421, bT h421, if_pos h4]; rfl
      · rw [if_neg h421, bF h421, if_neg (by omega), bad_code h2 h3 h5, if_neg (by decide)]
        unfold cn
        by_cases g : 500 ≤ c
        · rw [bT g, if_pos ⟨g, h6⟩]; rfl
        · rw [bF g, if_neg (fun z => g z.1)]; rfl
    · simp only [Bool.or_eq_false_iff, Bool.not_eq_false', decide_eq_true_eq, decide_eq_false_iff_not]
      exact ⟨⟨⟨⟨⟨⟨trivial, h1⟩, by omega⟩, by omega⟩, h4⟩, by omega⟩, by omega⟩
  · rw [bif_t]
    simp only [Bool.or_eq_true, Bool.not_eq_true', decide_eq_true_eq, decide_eq_false_iff_not]
    omega
theorem ClientCodes_t (ph out : Int) (fr rc nm ml : Bs) (c : Int) : da 2000000 ph out fr rc nm ml c = some true := lR 2000000 (by omega) awake_eq ph out fr rc nm ml c
end Go.Cl
namespace Go.Av
open Go.RowKit Go.ChangeShapes Go.WideShapes
section
variable {H : Type} {enc : TypeId × Value → H} {P : Program} {w : World}
def nd {H : Type} (enc : TypeId × Value → H) (P : Program) (w : World) (t : TypeId) {α : Type} (E : α → List AV) (p : α → Prop) : Prop :=
  ∀ fuel cs d, DataW.trod enc P w 0 (fun _ => true) true fuel t cs = some d → ∃ x, p x ∧ RelL (Info.start w) w (E x) cs
theorem opens_int {t : TypeId} {k : IntKind} (ht : P.underlying t = some (.int k)) : nd enc P w t (fun n : Int => [.v (.int k n)]) (fun n => (Lit.int k n).wf = true) := by
  intro fuel cs d h;obtain ⟨n, rfl, _, hw⟩ := DataW.trod_int ht h;exact ⟨n, hw, .cons (.v _) .nil⟩
theorem opens_str {t : TypeId} (ht : P.underlying t = some .string) : nd enc P w t (fun s : List UInt8 => [S s]) (fun s => s.length ≤ maxLen) := by
  intro fuel cs d h;obtain ⟨s, rfl, _, hw⟩ := DataW.trod_string ht h;refine ⟨s.data.toList, by simpa using hw, .cons (ll _ _ s) .nil⟩
theorem opens_bytes {t e : TypeId} (ht : P.underlying t = some (.slice e)) (he : P.underlying e = some (.int .u8)) (hc : P.cellsOf e = 1) :
    nd enc P w t (fun l : List UInt8 => [slE Enc.byte l none]) (fun l => l.length ≤ maxLen) := by
  intro fuel cs d h
  rcases open_ints ht he hc h with ⟨rfl, _⟩ | ⟨x, len, cap, zs, rfl, _, hl, hm, hz, _, hcell, hw⟩
  · exact ⟨[], by simp, .cons (.slz _ _ _) .nil⟩
  · simp only [if_true] at hz
    obtain ⟨l, hl', hm', r⟩ := pN (w := w) (a := some x) (len := len) (cap := cap) (zs := zs) (.inr ⟨x, rfl, hl, hm, hz, hcell, hw⟩);exact ⟨l, by omega, .cons r .nil⟩
def ny {H : Type} (enc : TypeId × Value → H) (P : Program) (w : World) (tot off : Nat) (fs : List Field) {α : Type} (E : α → List AV) (p : α → Prop) : Prop :=
  ∀ (n : Nat) (cs : List Value), cs.length = tot → (∀ f ∈ fs, ∃ d, DataW.trod enc P w 0 (fun _ => true) true n f.type ((cs.drop f.offset).take (P.cellsOf f.type)) = some d) → ∃ x, p x ∧ RelL (Info.start w) w (E x) (cs.drop off)
theorem opensF_nil {tot : Nat} : ny enc P w tot tot [] (fun _ : Unit => []) (fun _ => True) := fun n cs hl _ => ⟨(), trivial, by rw [bz (by omega)]; exact .nil⟩
theorem opensF_cons {tot off k : Nat} {f : Field} {fs : List Field} {α β : Type} {E : α → List AV} {p : α → Prop} {F : β → List AV} {q : β → Prop} (ho : f.offset = off) (hk : P.cellsOf f.type = k)
    (h : nd enc P w f.type E p) (g : ny enc P w tot (off + k) fs F q) : ny enc P w tot off (f :: fs) (fun x : α × β => E x.1 ++ F x.2) (fun x => p x.1 ∧ q x.2) := by
  intro n cs hl H;obtain ⟨d, hd⟩ := H f (by simp);obtain ⟨x, hx, rx⟩ := h _ _ _ hd
  obtain ⟨y, hy, ry⟩ := g n cs hl fun f' hf' => H f' (by simp [hf'])
  refine ⟨(x, y), ⟨hx, hy⟩, ?_⟩
  rw [ho, hk] at rx
  have := rx.append ry
  rwa [← List.drop_drop, List.take_append_drop] at this
theorem opens_struct {t : TypeId} {fs : Array Field} {tot : Nat} {α : Type} {E : α → List AV} {p : α → Prop} (ht : P.underlying t = some (.struct fs)) (hc : P.cellsOf t = tot) (h : ny enc P w tot 0 fs.toList E p) :
    nd enc P w t E p := by
  intro fuel cs d hd;obtain ⟨xs, n, _, _, hl, hlen, each⟩ := DataW.trod_struct ht hd
  obtain ⟨x, hx, rx⟩ := h n cs (by omega) fun f hf => by
    obtain ⟨i, hi, rfl⟩ := List.getElem_of_mem hf
    have hi' : i < fs.size := by simpa using hi
    rw [each i _ (by simp [hi'])]
    exact ⟨xs[i]'(by omega), aB _⟩
  exact ⟨x, hx, by simpa using rx⟩
theorem open_agg {t : TypeId} {fs : Array Field} {r : Reach} {b0 : Nat} {v : Value} {d : DataW H} {ps : List MemPlace} {α : Type} {E : α → List AV} {p : α → Prop} (ht : P.underlying t = some (.struct fs))
    (hval : Value.okWide P w r b0 t v) (hd : DataW.Trod enc P w 0 (fun _ => true) true t v d ps) (h : nd enc P w t E p) : ∃ x, p x ∧ Rel (Info.start w) w (.agg (E x)) v := by
  obtain ⟨cs, rfl, _⟩ := okWide_struct ht hval;obtain ⟨fuel, hf⟩ := hd;obtain ⟨x, hx, rx⟩ := h _ _ _ hf;refine ⟨x, hx, ?_⟩
  have := Rel.agg _ _ rx.1 rx.2
  simpa [Value.cells] using this
end
end Go.Av
