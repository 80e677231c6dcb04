/-
  Texts in one (only what ClientOnce needs): CliAW, CliLP, CliLW, LClientOnceP, LClientOnceW, ClD, DgN, ClE, RqA, ClF, CliRP, ClG, ClS, RqC, RqB, RqSp, RqM, RqW, RqL, ClA, RqI, RqR, ClR, ClT, ClOnce, AvOpen.
-/
import Derived.Test.YtgjkjkmmgdbcoaaGreatDoorZClientOnce3
import Derived.Test.YtgjkjkmmgdbcoaaGreatDoorShelf
import Derived.Lib.ItoaNum
import Derived.Lib.IndexLaws
import Derived.Test.YtgjkjkmmgdbcoaaGreatDoorChecked
import Derived.Lib.IndexMore
import Derived.Laws.Closers25
import Derived.Laws.RangeAny
import Derived.Lib.IndexAny
import Derived.Lib.SplitLaws
import Derived.Lib.IndexBytes
import Derived.RowKit
import Derived.OpenShut
import Derived.ChangeSlices
import Derived.SliceStrings
set_option linter.unusedVariables false
set_option linter.unusedSimpArgs false
namespace Go.Proofs.YtgjkjkmmgdbcoaaGreatDoor
open Go.RowKit Go.Av Go.Pv
theorem nJ : ∀ (args : Array Value) (w : World), (callFunc 17 args).run Tryz.prog w = .ok (.enter 17 args) w := fun _ _ => by kernel_rfl
theorem ri : ∀ (args : Array Value) (w : World), (callFunc 23 args).run Tryz.prog w = .ok (.enter 23 args) w := fun _ _ => by kernel_rfl
theorem nH : ∀ (args : Array Value) (w : World), (callFunc 27 args).run Tryz.prog w = .ok (.enter 27 args) w := fun _ _ => by kernel_rfl
theorem lb : ∀ (args : Array Value) (w : World), (callFunc 28 args).run Tryz.prog w = .ok (.enter 28 args) w := fun _ _ => by kernel_rfl
theorem rh : ∀ (args : Array Value) (w : World), (callFunc 29 args).run Tryz.prog w = .ok (.enter 29 args) w := fun _ _ => by kernel_rfl
theorem nG : ∀ (args : Array Value) (w : World), (callFunc 30 args).run Tryz.prog w = .ok (.enter 30 args) w := fun _ _ => by kernel_rfl
theorem rg : ∀ (args : Array Value) (w : World), (callFunc 34 args).run Tryz.prog w = .ok (.enter 34 args) w := fun _ _ => by kernel_rfl
theorem rf : ∀ (args : Array Value) (w : World), (callFunc 35 args).run Tryz.prog w = .ok (.enter 35 args) w := fun _ _ => by kernel_rfl
theorem re : ∀ (args : Array Value) (w : World), (callFunc 36 args).run Tryz.prog w = .ok (.enter 36 args) w := fun _ _ => by kernel_rfl
theorem rd : ∀ (args : Array Value) (w : World), (callFunc 37 args).run Tryz.prog w = .ok (.enter 37 args) w := fun _ _ => by kernel_rfl
theorem nF : ∀ (args : Array Value) (w : World), (callFunc 38 args).run Tryz.prog w = .ok (.enter 38 args) w := fun _ _ => by kernel_rfl
theorem nE : ∀ (args : Array Value) (w : World), (callFunc 44 args).run Tryz.prog w = .ok (.enter 44 args) w := fun _ _ => by kernel_rfl
theorem qZ : ∀ (args : Array Value) (w : World), (callFunc 45 args).run Tryz.prog w = .ok (.enter 45 args) w := fun _ _ => by kernel_rfl
theorem qY : ∀ (args : Array Value) (w : World), (callFunc 46 args).run Tryz.prog w = .ok (.enter 46 args) w := fun _ _ => by kernel_rfl
theorem qX : ∀ (args : Array Value) (w : World), (callFunc 47 args).run Tryz.prog w = .ok (.enter 47 args) w := fun _ _ => by kernel_rfl
theorem qV : ∀ (args : Array Value) (w : World), (callFunc 51 args).run Tryz.prog w = .ok (.enter 51 args) w := fun _ _ => by kernel_rfl
theorem cP : ∀ (args : Array Value) (w : World), (callFunc 57 args).run Tryz.prog w = .ok (.enter 57 args) w := fun _ _ => by kernel_rfl
theorem jj : ∀ (args : Array Value) (w : World), (callFunc 58 args).run Tryz.prog w = .ok (.enter 58 args) w := fun _ _ => by kernel_rfl
theorem nA : ∀ (args : Array Value) (w : World), (callFunc 80 args).run Tryz.prog w = .ok (.enter 80 args) w := fun _ _ => by kernel_rfl
theorem nz : ∀ (args : Array Value) (w : World), (callFunc 81 args).run Tryz.prog w = .ok (.enter 81 args) w := fun _ _ => by kernel_rfl
theorem ny : ∀ (args : Array Value) (w : World), (callFunc 82 args).run Tryz.prog w = .ok (.enter 82 args) w := fun _ _ => by kernel_rfl
theorem nx : ∀ (args : Array Value) (w : World), (callFunc 83 args).run Tryz.prog w = .ok (.enter 83 args) w := fun _ _ => by kernel_rfl
theorem nw : ∀ (args : Array Value) (w : World), (callFunc 84 args).run Tryz.prog w = .ok (.enter 84 args) w := fun _ _ => by kernel_rfl
theorem nv : ∀ (args : Array Value) (w : World), (callFunc 85 args).run Tryz.prog w = .ok (.enter 85 args) w := fun _ _ => by kernel_rfl
theorem nu : ∀ (args : Array Value) (w : World), (callFunc 86 args).run Tryz.prog w = .ok (.enter 86 args) w := fun _ _ => by kernel_rfl
theorem hM : ∀ (args : Array Value) (w : World), (callFunc 87 args).run Tryz.prog w = .ok (.enter 87 args) w := fun _ _ => by kernel_rfl
theorem mq : ∀ (args : Array Value) (w : World), (callFunc 110 args).run Tryz.prog w = .ok (.enter 110 args) w := fun _ _ => by kernel_rfl
set_option maxRecDepth 100000 in
set_option maxHeartbeats 1000000 in
theorem kU (F : Nat) (a1 : List UInt8) (a2 : List UInt8) (r3 : Bool) (H : iB F a1 a2 = some r3) : ACalls Tryz.prog 28 [S a1, S a2] [] (Ret (B r3) []) := by
 unfold iB at H
 refine az Tryz.func28 rfl rfl ?_;show AW _ _ 25 _ _ _;refine ak <| ac ?_;show AR _ _ _ _ _ [0] _;refine za rfl <| al <| cr (X := Unit) (fun _ => ⟨[(0, S a1)], [], []⟩) (fun _ => gt a1 = some r3) ?_ ?_
 ·refine ak <| ac ?_;show AR _ _ _ _ _ [0, 1, 2] _;refine zm rfl <| zS rfl (bj aj rfl) <| zm rfl <| al <| bx <| AW.loop (X := Nat × Int) (fun (n6, y4) => ⟨[(0, S a1), (1, S a2), (7, i64 (a1.length : Int)), (8, i64 y4)], [], []⟩) (fun (n6, y4) => gu a1 a2 n6 y4 = some r3) (fun (n6, y4) => n6) (F, 0) H (bi [] (.cons (.refl _) (.cons (.refl _) (.cons (.refl _) (.cons (.refl _) (.nil _))))) rfl) ?_;rintro ⟨n6, y4⟩ H;obtain ⟨n6, rfl, H⟩ := gB H;replace H : gw a1 a2 (gu a1 a2 n6) y4 = some r3 := H
  unfold gw at H
  refine ak <| ac ?_;show AR _ _ _ _ _ [0] _;refine zS rfl (ct rfl rfl) <| al <| ak <| aE rfl (fun c7 => ?_) (fun c7 => ?_)
  ·replace H := bl c7 H;refine aL <| ak <| bx <| ak <| ac ?_;show AR _ _ _ _ _ [0, 1] _;refine zm rfl <| za rfl <| al <| ak ?_;obtain ⟨g8, H⟩ := aW H;obtain ⟨x9, e10, H⟩ := cl H;obtain ⟨x11, e12, H⟩ := cl H;refine ac ?_;show AR _ _ _ _ _ [0, 1, 2, 3, 4, 5] _;refine zm rfl <| zm rfl <| zm rfl <| zS rfl (bz aj rfl rfl g8 e10) <| ao rfl rfl (aP rfl qV rfl (show ACalls _ _ _ [] (Ret (i64 x11) []) from by subst e12; exact mP a2 x9) ?_);refine zS rfl (ct rfl rfl) <| al <| aE rfl (fun c13 => ?_) (fun c13 => ?_)
   ·replace H := bl c13 H;refine ak <| ac ?_;show AR _ _ _ _ _ [0] _;refine za rfl <| al <| aU ?_;obtain rfl := aB H;exact And.intro rfl (Exists.intro _ (Exists.intro _ ⟨aQ rfl (.refl _), aI [] rfl, rfl, rfl⟩))
   ·replace H := bb c13 H;refine aL ?_;obtain ⟨g14, H⟩ := aW H;refine ac ?_;show AR _ _ _ _ _ [0, 1] _;refine zS rfl (gz rfl rfl g14) <| zm rfl <| al ?_;exact Exists.intro (n6, y4 + 1) ⟨H, Nat.lt_succ_self _, bi [] (.cons (.refl _) (.cons (.refl _) (.cons (.refl _) (.cons (.refl _) (.nil _))))) rfl⟩
  ·replace H := bb c7 H;refine AW.exit ?_;exact Exists.intro () ⟨H, bi [] (.cons (.refl _) (.nil _)) rfl⟩
 rintro _ H;replace H : gt a1 = some r3 := H
 unfold gt at H
 refine ak <| ac ?_;show AR _ _ _ _ _ [0, 1, 2, 3, 4, 5, 6, 7] _;refine zm rfl <| zS rfl (ql rfl rfl) <| zm rfl <| aN (l := [7]) 24 (B ((!decide (a1 = ([] : List UInt8))) && (decide ((a1.length : Int) ≤ 60)))) (fun K => ?_) ?_
 ·rcases af (!decide (a1 = ([] : List UInt8))) with h16 | h16
  ·refine zM h16 rfl <| zU h16 rfl (bj aj rfl) <| zU h16 rfl (dq rfl rfl) <| zS rfl (ay (av := .v _) rfl h16 rfl) ?_;exact K _ 3 _ (aq (cc h16)) rfl rfl
  ·refine zF h16 rfl <| zF h16 rfl <| zF h16 rfl <| zS rfl (au (av := .v _) rfl h16 rfl) ?_;exact K _ 3 _ (aq (cd h16)) rfl rfl
 refine za rfl <| al <| aU ?_;obtain rfl := aB H;exact And.intro rfl (Exists.intro _ (Exists.intro _ ⟨aQ rfl (.refl _), aI [] rfl, rfl, rfl⟩))
set_option maxRecDepth 100000 in
set_option maxHeartbeats 1000000 in
theorem ke (F : Nat) (a1 : List UInt8) (r2 : Bool) (H : fw F a1 = some r2) : ACalls Tryz.prog 27 [S a1] [] (Ret (B r2) []) := by
 unfold fw at H
 refine az Tryz.func27 rfl rfl ?_;show AW _ _ 31 _ _ _;refine ak <| ac ?_;show AR _ _ _ _ _ [0] _;refine za rfl <| al <| ak ?_;obtain ⟨g3, H⟩ := aW H;obtain ⟨x4, e5, H⟩ := cl H;refine ac ?_;show AR _ _ _ _ _ [0, 1, 2, 3, 4, 5, 6, 7, 8] _;refine zm rfl <| ao rfl rfl (aP rfl nE rfl (show ACalls _ _ _ [] (Ret (.tup [S x4.1, S x4.2.1, B x4.2.2]) []) from by subst e5; exact oe a1 ([64] : List UInt8) (dt g3)) ?_);refine zS rfl (ai (av := .tup _) rfl) <| zS rfl (aK (av := .v _) rfl rfl) <| zS rfl (aK (av := .v _) rfl rfl) <| zS rfl (aK (av := .v _) rfl rfl) <| za rfl <| za rfl <| za rfl <| al <| ak ?_;obtain ⟨x7, e8, H⟩ := eW H;obtain ⟨x10, e11, H⟩ := eW H;refine ac ?_;show AR _ _ _ _ _ [0, 1, 2, 3, 4, 5, 6, 7, 8, 9, 10, 11, 12, 13, 14, 15, 16, 17, 18, 19] _;refine zm rfl <| zm rfl <| aN (l := [5, 6, 7, 8, 9, 10, 11, 12, 13, 14, 15, 16, 17, 18, 19]) 16 (B (x4.2.2 && x7)) (fun K => ?_) ?_
 ·rcases af x4.2.2 with h6 | h6
  ·refine zM h6 rfl <| zT h6 rfl (aP rfl lb rfl (kU F x4.1 clia_k1 x7 (e8 h6)) ?_);refine zS rfl (ay (av := .v _) rfl h6 rfl) ?_;exact K _ 2 _ (aq (cc h6)) rfl rfl
  ·refine zF h6 rfl <| zF h6 rfl <| zS rfl (au (av := .v _) rfl h6 rfl) ?_;exact K _ 2 _ (aq (cd h6)) rfl rfl
 refine zm rfl <| aN (l := [9, 10, 11, 12, 13, 14, 15, 16, 17, 18, 19]) 20 (B ((x4.2.2 && x7) && x10)) (fun K => ?_) ?_
 ·rcases af (x4.2.2 && x7) with h9 | h9
  ·refine zM h9 rfl <| zT h9 rfl (aP rfl lb rfl (kU F x4.2.1 clia_k1 x10 (e11 h9)) ?_);refine zS rfl (ay (av := .v _) rfl h9 rfl) ?_;exact K _ 2 _ (aq (cc h9)) rfl rfl
  ·refine zF h9 rfl <| zF h9 rfl <| zS rfl (au (av := .v _) rfl h9 rfl) ?_;exact K _ 2 _ (aq (cd h9)) rfl rfl
 refine zm rfl <| aN (l := [14, 15, 16, 17, 18, 19]) 25 (B (((x4.2.2 && x7) && x10) && (decide (3 ≤ (a1.length : Int))))) (fun K => ?_) ?_
 ·rcases af ((x4.2.2 && x7) && x10) with h12 | h12
  ·refine zM h12 rfl <| zU h12 rfl (bj aj rfl) <| zU h12 rfl (eG rfl rfl) <| zS rfl (ay (av := .v _) rfl h12 rfl) ?_;exact K _ 3 _ (aq (cc h12)) rfl rfl
  ·refine zF h12 rfl <| zF h12 rfl <| zF h12 rfl <| zS rfl (au (av := .v _) rfl h12 rfl) ?_;exact K _ 3 _ (aq (cd h12)) rfl rfl
 refine zm rfl <| aN (l := [19]) 30 (B ((((x4.2.2 && x7) && x10) && (decide (3 ≤ (a1.length : Int)))) && (decide ((a1.length : Int) ≤ 60)))) (fun K => ?_) ?_
 ·rcases af (((x4.2.2 && x7) && x10) && (decide (3 ≤ (a1.length : Int)))) with h13 | h13
  ·refine zM h13 rfl <| zU h13 rfl (bj aj rfl) <| zU h13 rfl (dq rfl rfl) <| zS rfl (ay (av := .v _) rfl h13 rfl) ?_;exact K _ 3 _ (aq (cc h13)) rfl rfl
  ·refine zF h13 rfl <| zF h13 rfl <| zF h13 rfl <| zS rfl (au (av := .v _) rfl h13 rfl) ?_;exact K _ 3 _ (aq (cd h13)) rfl rfl
 refine za rfl <| al <| aU ?_;obtain rfl := aB H;exact And.intro rfl (Exists.intro _ (Exists.intro _ ⟨aQ rfl (.refl _), aI [] rfl, rfl, rfl⟩))
abbrev _root_.Go.Av.bq := @Tryz.underlying24
set_option maxRecDepth 100000 in
set_option maxHeartbeats 1000000 in
theorem mf (F : Nat) (a1 : List UInt8) (a2 : List UInt8) (a3 : List UInt8) (a4 : List UInt8) (q5 : Option Nat) (r6 : Int) (r7 : Int) (r8 : List UInt8) (r9 : List UInt8) (r10 : List UInt8) (r11 : List UInt8) (r12 : Int) (H : ib F a1 a2 a3 a4 = some (r6, r7, r8, r9, r10, r11, r12)) : ACalls Tryz.prog 12 [S a1, S a2, S a3, slE Enc.byte a4 q5] [] (Ret (.tup [.agg [i64 r6, i64 r7, S r8, S r9, S r10, slE Enc.byte r11 none], i64 r12]) []) := by
 unfold ib at H
 refine az Tryz.func12 rfl rfl ?_;show AW _ _ 35 _ _ _;refine ak <| ac ?_;show AR _ _ _ _ _ [0, 1] _;refine zX rfl (cm (zs := [.int .i64 0, .int .i64 0, .string ⟨#[]⟩, .string ⟨#[]⟩, .string ⟨#[]⟩, .slice none 0 0]) (by kernel_rfl)) ?_;rintro _ _ ⟨o13, rfl, rfl⟩;refine za rfl <| al <| ak <| ak ?_;obtain ⟨x14, e15, H⟩ := du H;obtain ⟨x17, e18, H⟩ := eW H;obtain ⟨x20, e21, H⟩ := eW H;obtain ⟨x23, e24, H⟩ := eW H;refine ac ?_;show AR _ _ _ _ _ [0, 1, 2, 3, 4, 5, 6, 7, 8, 9, 10, 11, 12, 13, 14, 15, 16, 17] _;refine zm rfl <| ao rfl rfl (aP rfl nH rfl (ke F a1 x14 e15) ?_);refine zS rfl (dj rfl) <| zm rfl <| aN (l := [8, 9, 10, 11, 12, 13, 14, 15, 16, 17]) 17 (B ((!x14) || (!x17))) (fun K => ?_) ?_
 ·rcases af (!x14) with h16 | h16
  ·refine zF h16 rfl <| zF h16 rfl <| zF h16 rfl <| zS rfl (ay (av := .v _) rfl h16 rfl) ?_;exact K _ 3 _ (aq (gx h16)) rfl rfl
  ·refine zM h16 rfl <| zT h16 rfl (aP rfl nH rfl (ke F a2 x17 (e18 (nf h16))) ?_);refine zU h16 rfl (dj rfl) <| zS rfl (au (av := .v _) rfl h16 rfl) ?_;exact K _ 3 _ (aq (gy h16)) rfl rfl
 refine zm rfl <| aN (l := [13, 14, 15, 16, 17]) 22 (B (((!x14) || (!x17)) || (!x20))) (fun K => ?_) ?_
 ·rcases af ((!x14) || (!x17)) with h19 | h19
  ·refine zF h19 rfl <| zF h19 rfl <| zF h19 rfl <| zS rfl (ay (av := .v _) rfl h19 rfl) ?_;exact K _ 3 _ (aq (gx h19)) rfl rfl
  ·refine zM h19 rfl <| zT h19 rfl (aP rfl lb rfl (kU F a3 clia_k2 x20 (e21 (nf h19))) ?_);refine zU h19 rfl (dj rfl) <| zS rfl (au (av := .v _) rfl h19 rfl) ?_;exact K _ 3 _ (aq (gy h19)) rfl rfl
 refine zm rfl <| aN (l := []) 27 (B ((((!x14) || (!x17)) || (!x20)) || (!x23))) (fun K => ?_) ?_
 ·rcases af (((!x14) || (!x17)) || (!x20)) with h22 | h22
  ·refine zF h22 rfl <| zF h22 rfl <| zF h22 rfl <| zS rfl (ay (av := .v _) rfl h22 rfl) ?_;exact K _ 3 _ (aq (gx h22)) rfl rfl
  ·refine zU h22 rfl (ai (av := slE _ _ _) rfl) <| zT h22 rfl (aP rfl rh rfl (mU F a4 q5 x23 (e24 (nf h22))) ?_);refine zU h22 rfl (dj rfl) <| zS rfl (au (av := .v _) rfl h22 rfl) ?_;exact K _ 3 _ (aq (gy h22)) rfl rfl
 refine al <| aE rfl (fun c25 => ?_) (fun c25 => ?_)
 ·replace H := bl c25 H;refine ak <| ac ?_;show AR _ _ _ _ _ [0, 1, 2] _;refine zS rfl (jt (zs := [.int .i64 0, .int .i64 0, .string ⟨#[]⟩, .string ⟨#[]⟩, .string ⟨#[]⟩, .slice none 0 0]) (ps := [(0, 1), (1, 1), (2, 1), (3, 1), (4, 1), (5, 1)]) (cs := [i64 0, i64 0, S ([] : List UInt8), S ([] : List UInt8), S ([] : List UInt8), fW]) (by kernel_rfl) rfl rfl) <| s0 rfl rfl (bk (i := 0) (vs := [i64 0, i64 0, S ([] : List UInt8), S ([] : List UInt8), S ([] : List UInt8), fW]) (by kernel_rfl) rfl rfl (by simp [bI, slE]) rfl (ab rfl)) <| za rfl <| al <| aU ?_;obtain ⟨rfl, rfl, rfl, rfl, rfl, rfl, rfl⟩ := res7 H;exact And.intro rfl (Exists.intro _ (Exists.intro _ ⟨eC (fL rfl (CellV.aggW (cs := [i64 0, i64 0, S ([] : List UInt8), S ([] : List UInt8), S ([] : List UInt8), fW]) (CellV.agg (off := 0) (cs := [i64 0, i64 0, S ([] : List UInt8), S ([] : List UInt8), S ([] : List UInt8), fW]) (n := 6) 0 bq rfl (by kernel_rfl) rfl rfl (ab rfl)) (.cons (.refl _) (.cons (.refl _) (.cons (.refl _) (.cons (.refl _) (.cons (.refl _) (.cons (.nil _) (.nil)))))))) ((show PlaceV _ _ _ (.tmp _) _ from (.refl _)))), aI [] rfl, rfl, rfl⟩))
 ·replace H := bb c25 H;refine aL <| ak ?_;obtain ⟨g26, H⟩ := aW H;refine ac ?_;show AR _ _ _ _ _ [0, 1, 2, 3, 4, 5, 6, 7] _;refine zm rfl <| zm rfl <| zm rfl <| zS rfl (ai (av := slE _ _ _) rfl) <| ao rfl rfl (aP rfl nG rfl (iL a4 q5 (dt g26)) ?_);refine zS rfl (jt (zs := [.int .i64 0, .int .i64 0, .string ⟨#[]⟩, .string ⟨#[]⟩, .string ⟨#[]⟩, .slice none 0 0]) (ps := [(0, 1), (1, 1), (2, 1), (3, 1), (4, 1), (5, 1)]) (cs := [i64 0, i64 0, S a1, S a2, S a3, slE Enc.byte a4 none]) (by kernel_rfl) rfl rfl) <| s0 rfl rfl (bk (i := 0) (vs := [i64 0, i64 0, S a1, S a2, S a3, slE Enc.byte a4 none]) (by kernel_rfl) rfl rfl (by simp [bI, slE]) rfl (ab rfl)) <| za rfl <| al <| aU ?_;obtain ⟨rfl, rfl, rfl, rfl, rfl, rfl, rfl⟩ := res7 H;exact And.intro rfl (Exists.intro _ (Exists.intro _ ⟨eC (fL rfl (CellV.agg (off := 0) (cs := [i64 0, i64 0, S a1, S a2, S a3, slE Enc.byte a4 none]) (n := 6) 0 bq rfl (by kernel_rfl) rfl rfl (ab rfl)) ((show PlaceV _ _ _ (.tmp _) _ from (.refl _)))), aI [] rfl, rfl, rfl⟩))
set_option maxRecDepth 100000 in
set_option maxHeartbeats 1000000 in
theorem pC (F : Nat) (a1 : List UInt8) (a2 : List UInt8) (r3 : Bool) (H : iY F a1 a2 = some r3) : ACalls Tryz.prog 45 [S a1, S a2] [] (Ret (B r3) []) := by
 unfold iY at H
 refine az Tryz.func45 rfl rfl ?_;show AW _ _ 34 _ _ _;refine ak <| ac ?_;show AR _ _ _ _ _ [0] _;refine za rfl <| al <| ak ?_;obtain ⟨g4, H⟩ := aW H;refine ac ?_;show AR _ _ _ _ _ [0, 1, 2] _;refine zm rfl <| zX rfl (lZ aj aa aO rfl g4) ?_;rintro _ _ ⟨o5, n6, rfl, rfl⟩;refine zS rfl (aC (av := .vw _ _ _ _) rfl) <| al <| cr (X := (List UInt8)) (fun y25 => ⟨[(1, S a2), (5, .vw o5 0 a1.length (a1.length + n6))], [], [.obj o5 (Enc.byte.fl y25 ++ List.replicate n6 .any)]⟩) (fun y25 => fK a1 a2 y25 = some r3) ?_ ?_
 ·refine ak <| ac ?_;show AR _ _ _ _ _ [0, 1, 2] _;refine zS rfl (ai (av := .vw _ _ _ _) rfl) <| zS rfl (pK aa rfl) <| zm rfl <| al <| bx <| AW.loop (X := Nat × Int × (List UInt8)) (fun (n10, y7, y8) => ⟨[(1, S a2), (5, .vw o5 0 a1.length (a1.length + n6)), (10, .vw o5 0 a1.length (a1.length + n6)), (11, i64 (a1.length : Int)), (12, i64 y7)], [], [.obj o5 (Enc.byte.fl y8 ++ List.replicate n6 .any)]⟩) (fun (n10, y7, y8) => dB a1 a2 n10 (y7, y8) = some r3) (fun (n10, y7, y8) => n10) (F, 0, a1) H (bi [0] (.cons (.refl _) (.cons (.refl _) (.cons (.refl _) (.cons (.refl _) (.cons (.refl _) (.nil _)))))) rfl) ?_;rintro ⟨n10, y7, y8⟩ H;obtain ⟨n10, rfl, H⟩ := gB H;replace H : ep a1 a2 (dB a1 a2 n10) y7 y8 = some r3 := H
  unfold ep at H
  refine ak <| ac ?_;show AR _ _ _ _ _ [0] _;refine zS rfl (ct rfl rfl) <| al <| ak <| aE rfl (fun c11 => ?_) (fun c11 => ?_)
  ·replace H := bl c11 H;refine aL <| cr (X := (List UInt8)) (fun y22 => ⟨[(1, S a2), (5, .vw o5 0 a1.length (a1.length + n6)), (10, .vw o5 0 a1.length (a1.length + n6)), (11, i64 (a1.length : Int)), (12, i64 y7)], [], [.obj o5 (Enc.byte.fl y22 ++ List.replicate n6 .any)]⟩) (fun y22 => eR y7 (dB a1 a2 n10) y22 = some r3) ?_ ?_
   ·refine bx <| ak ?_;obtain ⟨g12, H⟩ := aW H;obtain ⟨g13, H⟩ := aW H;obtain ⟨x14, e15, H⟩ := cl H;refine ac ?_;show AR _ _ _ _ _ [0, 1, 2, 3, 4] _;refine zm rfl <| zS rfl (iu aa (by kernel_rfl) rfl rfl g12) <| zR rfl (pN (k := 0) aO rfl rfl rfl g13 e15) <| za rfl <| za rfl <| al <| ak <| ac ?_;show AR _ _ _ _ _ [0, 1, 2, 3, 4, 5] _;refine zm rfl <| zS rfl (eG rfl rfl) <| zm rfl <| aN (l := []) 22 (B ((decide (65 ≤ (x14.toNat : Int))) && (decide ((x14.toNat : Int) ≤ 90)))) (fun K => ?_) ?_
    ·rcases af (decide (65 ≤ (x14.toNat : Int))) with h16 | h16
     ·refine zM h16 rfl <| zU h16 rfl (dq rfl rfl) <| zS rfl (ay (av := .v _) rfl h16 rfl) ?_;exact K _ 2 _ (aq (cc h16)) rfl rfl
     ·refine zF h16 rfl <| zF h16 rfl <| zS rfl (au (av := .v _) rfl h16 rfl) ?_;exact K _ 2 _ (aq (cd h16)) rfl rfl
    refine al <| aE rfl (fun c17 => ?_) (fun c17 => ?_)
    ·replace H := bl c17 H;obtain ⟨g18, H⟩ := aW H;obtain ⟨g19, H⟩ := aW H;obtain ⟨x20, e21, H⟩ := cl H;refine ac ?_;show AR _ _ _ _ _ [0, 1, 2, 3, 4, 5, 6] _;refine zS rfl (ai (av := .vw _ _ _ _) rfl) <| zm rfl <| zm rfl <| zS rfl (g_add8 (a := x14) (b := 97) rfl rfl) <| zS rfl (ou (a := x14 + 97) (b := 65) rfl rfl) <| zS rfl (iu aa (by kernel_rfl) rfl rfl g18) <| s0 rfl rfl (oV (k := 0) (c := ((x14 + 97) - 65)) (by kernel_rfl) rfl rfl rfl g19 e21) <| al ?_;exact Exists.intro x20 ⟨H, bi [0] (.cons (.refl _) (.cons (.refl _) (.cons (.refl _) (.cons (.refl _) (.cons (.refl _) (.nil _)))))) rfl⟩
    ·replace H := bb c17 H;refine aL ?_;exact Exists.intro y8 ⟨H, bi [0] (.cons (.refl _) (.cons (.refl _) (.cons (.refl _) (.cons (.refl _) (.cons (.refl _) (.nil _)))))) rfl⟩
   rintro y22 H;replace H : eR y7 (dB a1 a2 n10) y22 = some r3 := H
   unfold eR at H
   obtain ⟨g24, H⟩ := aW H;refine ac ?_;show AR _ _ _ _ _ [0, 1] _;refine zS rfl (gz rfl rfl g24) <| zm rfl <| al ?_;exact Exists.intro (n10, y7 + 1, y22) ⟨H, Nat.lt_succ_self _, bi [0] (.cons (.refl _) (.cons (.refl _) (.cons (.refl _) (.cons (.refl _) (.cons (.refl _) (.nil _)))))) rfl⟩
  ·replace H := bb c11 H;refine AW.exit ?_;exact Exists.intro y8 ⟨H, bi [0] (.cons (.refl _) (.cons (.refl _) (.nil _))) rfl⟩
 rintro y25 H;replace H : fK a1 a2 y25 = some r3 := H
 unfold fK at H
 refine ak ?_;obtain ⟨g27, H⟩ := aW H;refine ac ?_;show AR _ _ _ _ _ [0, 1, 2, 3, 4] _;refine zS rfl (ai (av := .vw _ _ _ _) rfl) <| zR rfl (kL (k := 0) aa aO aj rfl g27 rfl) <| zm rfl <| zS rfl (fO rfl rfl) <| za rfl <| al <| aU ?_;obtain rfl := aB H;exact And.intro rfl (Exists.intro _ (Exists.intro _ ⟨aQ rfl (.refl _), aI [] rfl, rfl, rfl⟩))
set_option maxRecDepth 100000 in
set_option maxHeartbeats 1000000 in
theorem qD (F : Nat) (a1 : Int) (a2 : List (List UInt8)) (a3 : Int) (a4 : Int) (a5 : Int) (r6 : Int) (H : kI F a1 a2 a3 a4 a5 = some r6) : ACalls Tryz.prog 23 [.agg [i64 a1, slE Enc.str a2 none, i64 a3, i64 a4, i64 a5]] [] (Ret (i64 r6) []) := by
 unfold kI at H
 refine az Tryz.func23 rfl rfl ?_;show AW _ _ 58 _ _ _;refine ak <| ac ?_;show AR _ _ _ _ _ [0, 1] _;refine zR rfl (cO rfl (.inr ⟨_, rfl⟩)) <| za rfl <| al <| cr (X := Unit) (fun _ => ⟨[], [], []⟩) (fun _ => ip = some r6) ?_ ?_
 ·refine ak <| ac ?_;show AR _ _ _ _ _ [0, 1, 2, 3] _;refine zS rfl (aM (n := 1) (by kernel_rfl) rfl (ab rfl)) <| zS rfl (aJ aw rfl rfl) <| zS rfl (aX aw rfl) <| zm rfl <| al <| bx <| AW.loop (X := Nat × Int) (fun (n9, y7) => ⟨[(11, slE Enc.str a2 none), (12, i64 (a2.length : Int)), (13, i64 y7)], [], []⟩) (fun (n9, y7) => et F a2 n9 y7 = some r6) (fun (n9, y7) => n9) (F, 0) H (bi [] (.cons (.refl _) (.cons (.refl _) (.cons (.refl _) (.nil _)))) rfl) ?_;rintro ⟨n9, y7⟩ H;obtain ⟨n9, rfl, H⟩ := gB H;replace H : dL F a2 (et F a2 n9) y7 = some r6 := H
  unfold dL at H
  refine ak <| ac ?_;show AR _ _ _ _ _ [0] _;refine zS rfl (ct rfl rfl) <| al <| ak <| aE rfl (fun c10 => ?_) (fun c10 => ?_)
  ·replace H := bl c10 H;refine aL <| cr (X := Unit) (fun _ => ⟨[(11, slE Enc.str a2 none), (12, i64 (a2.length : Int)), (13, i64 y7)], [], []⟩) (fun _ => fx y7 (et F a2 n9) = some r6) ?_ ?_
   ·refine bx <| ak ?_;obtain ⟨g11, H⟩ := aW H;obtain ⟨x12, e13, H⟩ := cl H;refine ac ?_;show AR _ _ _ _ _ [0, 1, 2, 3, 4] _;refine zm rfl <| zS rfl (eo (E := Enc.str) aw (by kernel_rfl) rfl rfl g11 e13) <| zS rfl (aJ aj rfl rfl) <| za rfl <| za rfl <| al <| ak ?_;obtain ⟨g14, H⟩ := aW H;obtain ⟨x15, e16, H⟩ := cl H;refine ac ?_;show AR _ _ _ _ _ [0, 1, 2, 3, 4, 5, 6, 7, 8] _;refine zm rfl <| ao rfl rfl (aP rfl nE rfl (show ACalls _ _ _ [] (Ret (.tup [S x15.1, S x15.2.1, B x15.2.2]) []) from by subst e16; exact oe x12 ([32] : List UInt8) (dt g14)) ?_);refine zS rfl (ai (av := .tup _) rfl) <| zS rfl (aK (av := .v _) rfl rfl) <| zS rfl (aK (av := .v _) rfl rfl) <| zS rfl (aK (av := .v _) rfl rfl) <| za rfl <| za rfl <| za rfl <| al <| ak <| ak ?_;obtain ⟨x19, e20, H⟩ := eW H;obtain ⟨g24, H⟩ := dD H;obtain ⟨g25, H⟩ := dD H;obtain ⟨g26, H⟩ := dD H;obtain ⟨x27, e28, H⟩ := cl H;refine ac ?_;show AR _ _ _ _ _ [0, 1, 2, 3, 4, 5, 6, 7, 8, 9, 10, 11, 12, 13, 14, 15, 16, 17, 18, 19, 20, 21, 22, 23, 24] _;refine zm rfl <| zS rfl (bN rfl rfl) <| zm rfl <| aN (l := [6, 7, 8, 9, 10, 11, 12, 13, 14, 15, 16, 17, 18, 19, 20, 21, 22, 23, 24]) 29 (B ((decide (y7 = 0)) || (!x15.2.2))) (fun K => ?_) ?_
    ·rcases af (decide (y7 = 0)) with h17 | h17
     ·refine zF h17 rfl <| zF h17 rfl <| zS rfl (ay (av := .v _) rfl h17 rfl) ?_;exact K _ 2 _ (aq (gx h17)) rfl rfl
     ·refine zM h17 rfl <| zU h17 rfl (dj rfl) <| zS rfl (au (av := .v _) rfl h17 rfl) ?_;exact K _ 2 _ (aq (gy h17)) rfl rfl
    refine zm rfl <| aN (l := [11, 12, 13, 14, 15, 16, 17, 18, 19, 20, 21, 22, 23, 24]) 34 (B (((decide (y7 = 0)) || (!x15.2.2)) || (!x19))) (fun K => ?_) ?_
    ·rcases af ((decide (y7 = 0)) || (!x15.2.2)) with h18 | h18
     ·refine zF h18 rfl <| zF h18 rfl <| zF h18 rfl <| zS rfl (ay (av := .v _) rfl h18 rfl) ?_;exact K _ 3 _ (aq (gx h18)) rfl rfl
     ·refine zM h18 rfl <| zT h18 rfl (aP rfl qZ rfl (pC F x15.1 ([115, 105, 122, 101] : List UInt8) x19 (e20 (nf h18))) ?_);refine zU h18 rfl (dj rfl) <| zS rfl (au (av := .v _) rfl h18 rfl) ?_;exact K _ 3 _ (aq (gy h18)) rfl rfl
    refine zm rfl <| aN (l := [15, 16, 17, 18, 19, 20, 21, 22, 23, 24]) 38 (B ((((decide (y7 = 0)) || (!x15.2.2)) || (!x19)) || (decide (x15.2.1 = ([] : List UInt8))))) (fun K => ?_) ?_
    ·rcases af (((decide (y7 = 0)) || (!x15.2.2)) || (!x19)) with h21 | h21
     ·refine zF h21 rfl <| zF h21 rfl <| zS rfl (ay (av := .v _) rfl h21 rfl) ?_;exact K _ 2 _ (aq (gx h21)) rfl rfl
     ·refine zM h21 rfl <| zU h21 rfl (fO rfl rfl) <| zS rfl (au (av := .v _) rfl h21 rfl) ?_;exact K _ 2 _ (aq (gy h21)) rfl rfl
    refine zm rfl <| aN (l := [20, 21, 22, 23, 24]) 43 (B (((((decide (y7 = 0)) || (!x15.2.2)) || (!x19)) || (decide (x15.2.1 = ([] : List UInt8)))) || (decide (9 < (x15.2.1.length : Int))))) (fun K => ?_) ?_
    ·rcases af ((((decide (y7 = 0)) || (!x15.2.2)) || (!x19)) || (decide (x15.2.1 = ([] : List UInt8)))) with h22 | h22
     ·refine zF h22 rfl <| zF h22 rfl <| zF h22 rfl <| zS rfl (ay (av := .v _) rfl h22 rfl) ?_;exact K _ 3 _ (aq (gx h22)) rfl rfl
     ·refine zM h22 rfl <| zU h22 rfl (bj aj rfl) <| zU h22 rfl (gY rfl rfl) <| zS rfl (au (av := .v _) rfl h22 rfl) ?_;exact K _ 3 _ (aq (gy h22)) rfl rfl
    refine zm rfl <| aN (l := []) 48 (B ((((((decide (y7 = 0)) || (!x15.2.2)) || (!x19)) || (decide (x15.2.1 = ([] : List UInt8)))) || (decide (9 < (x15.2.1.length : Int)))) || (!decide (x27 = ([] : List UInt8))))) (fun K => ?_) ?_
    ·rcases af (((((decide (y7 = 0)) || (!x15.2.2)) || (!x19)) || (decide (x15.2.1 = ([] : List UInt8)))) || (decide (9 < (x15.2.1.length : Int)))) with h23 | h23
     ·refine zF h23 rfl <| zF h23 rfl <| zF h23 rfl <| zS rfl (ay (av := .v _) rfl h23 rfl) ?_;exact K _ 3 _ (aq (gx h23)) rfl rfl
     ·refine zM h23 rfl <| zT h23 rfl (aP rfl qY rfl (show ACalls _ _ _ [] (Ret (S x27) []) from by subst e28; exact lib_Trim x15.2.1 ([48, 49, 50, 51, 52, 53, 54, 55, 56, 57] : List UInt8) (dt (g24 (nf h23))) (dt (g25 (nf h23))) (g26 (nf h23))) ?_);refine zU h23 rfl (ql rfl rfl) <| zS rfl (au (av := .v _) rfl h23 rfl) ?_;exact K _ 3 _ (aq (gy h23)) rfl rfl
    refine al <| aE rfl (fun c29 => ?_) (fun c29 => ?_)
    ·replace H := bl c29 H;refine AW.exit ?_;exact Exists.intro () ⟨H, bi [] (.cons (.refl _) (.cons (.refl _) (.cons (.refl _) (.nil _)))) rfl⟩
    ·replace H := bb c29 H;refine aL <| ak ?_;obtain ⟨x30, x31, e32, H⟩ := dr H;refine ac ?_;show AR _ _ _ _ _ [0, 1, 2, 3, 4, 5, 6] _;refine zm rfl <| ao rfl rfl (aP rfl qX rfl (iH F x15.2.1 x30 x31 e32) ?_);refine zS rfl (ai (av := .tup _) rfl) <| zS rfl (aK (av := .v _) rfl rfl) <| zS rfl (aK (av := eAny _ _) rfl rfl) <| za rfl <| zS rfl (aC (av := eAny _ _) rfl) <| al <| ak <| ac ?_;show AR _ _ _ _ _ [0, 1] _;refine zS rfl (ai (av := eAny _ _) rfl) <| zS rfl (mn cL rfl rfl) <| al <| aE rfl (fun c33 => ?_) (fun c33 => ?_)
     ·replace H := bl c33 H;refine ak <| ac ?_;show AR _ _ _ _ _ [0, 1] _;refine zm rfl <| za rfl <| al <| aU ?_;obtain rfl := aB H;exact And.intro rfl (Exists.intro _ (Exists.intro _ ⟨aQ rfl (.refl _), aI [] rfl, rfl, rfl⟩))
     ·replace H := bb c33 H;refine aL ?_;exact Exists.intro () ⟨H, bi [] (.cons (.refl _) (.cons (.refl _) (.cons (.refl _) (.nil _)))) rfl⟩
   rintro _ H;replace H : fx y7 (et F a2 n9) = some r6 := H
   unfold fx at H
   obtain ⟨g35, H⟩ := aW H;refine ac ?_;show AR _ _ _ _ _ [0, 1] _;refine zS rfl (gz rfl rfl g35) <| zm rfl <| al ?_;exact Exists.intro (n9, y7 + 1) ⟨H, Nat.lt_succ_self _, bi [] (.cons (.refl _) (.cons (.refl _) (.cons (.refl _) (.nil _)))) rfl⟩
  ·replace H := bb c10 H;refine AW.exit ?_;exact Exists.intro () ⟨H, bi [] (.nil _) rfl⟩
 rintro _ H;replace H : ip = some r6 := H
 unfold ip at H
 refine ak <| ac ?_;show AR _ _ _ _ _ [0] _;refine za rfl <| al <| aU ?_;obtain rfl := aB H;exact And.intro rfl (Exists.intro _ (Exists.intro _ ⟨aQ rfl (.refl _), aI [] rfl, rfl, rfl⟩))
set_option maxRecDepth 100000 in
set_option maxHeartbeats 1000000 in
theorem gZ (F : Nat) (o1 : Nat) (a2 : Int) (a3 : Int) (a4 : List UInt8) (a5 : List UInt8) (a6 : List UInt8) (a7 : List UInt8) (a8 : List UInt8) (t9 : Nat) (a10 : Int) (a11 : List (List UInt8)) (q12 : Option Nat) (r13 : Int) (r14 : List UInt8) (H : gi F a2 a3 a4 a5 a6 a7 a8 a10 a11 = some (r13, r14)) : ACalls Tryz.prog 87 [.pt o1 0, i64 a10, slE Enc.str a11 q12] [.obj o1 [i64 a2, i64 a3, S a4, S a5, S a6, slE Enc.byte a7 none, slE Enc.byte a8 (some t9)], .tok t9 5] (fun e A' => e = .ret (.tup []) ∧ ∃ t15, A' = [.obj o1 [i64 r13, i64 a3, S a4, S a5, S a6, slE Enc.byte a7 none, slE Enc.byte r14 (some t15)], .tok t15 5]) := by
 unfold gi at H
 refine az Tryz.func87 rfl rfl ?_;show AW _ _ 22 _ _ _;refine ak <| ac ?_;show AR _ _ _ _ _ [0, 1, 2, 3, 4, 5] _;refine zS rfl (ai (av := .pt _ _) rfl) <| zm rfl <| zS rfl (am rfl) <| zS rfl (ag (n := 0) (by kernel_rfl) rfl) <| zS rfl (ag (n := 0) (by kernel_rfl) rfl) <| s0 rfl rfl (ap (i := 0) (c := .v _) (by kernel_rfl) rfl rfl rfl rfl (ab rfl)) <| al ?_;obtain ⟨g16, H⟩ := aW H;obtain ⟨x17, e18, H⟩ := cl H;obtain ⟨g19, H⟩ := aW H;obtain ⟨x20, e21, H⟩ := cl H;obtain ⟨g23, H⟩ := aW H;obtain ⟨x24, e25, H⟩ := cl H;refine bA (by kernel_rfl) ?_;show AI _ _ _ _ _ 12 (Array.replicate 12 false) _;refine zk 0 rfl (ai (av := .pt _ _) rfl) ?_;show AI _ _ _ _ _ _ #[true, false, false, false, false, false, false, false, false, false, false, false] _;refine zk 1 rfl (ai (av := .pt _ _) rfl) ?_;show AI _ _ _ _ _ _ #[true, true, false, false, false, false, false, false, false, false, false, false] _;refine zk 2 rfl (am rfl) ?_;show AI _ _ _ _ _ _ #[true, true, true, false, false, false, false, false, false, false, false, false] _;refine zk 3 rfl (ag (n := 6) (by kernel_rfl) rfl) ?_;show AI _ _ _ _ _ _ #[true, true, true, true, false, false, false, false, false, false, false, false] _;refine zk 5 rfl (ai (av := slE _ _ _) rfl) ?_;show AI _ _ _ _ _ _ #[true, true, true, true, false, true, false, false, false, false, false, false] _;refine cz (i := 4) (j := 6) (by kernel_rfl) rfl rfl rfl rfl ?_ ?_
 ·refine aH rfl (ah (i := 0) aa rfl rfl rfl rfl) ?_;show AI _ _ _ _ _ _ #[true, true, true, true, true, true, false, false, false, false, false, false] _;refine aG (i := 6) (by kernel_rfl) rfl rfl <| bW rfl mq rfl (show ACalls _ _ _ [] (Ret (S x17) []) from by subst e18; exact kf a11 ([] : List UInt8) q12 (kv g16).1 (kv g16).2) ?_;show AI _ _ _ _ _ _ #[true, true, true, true, true, true, true, false, false, false, false, false] _;refine zk 7 rfl (jW rfl rfl g19 e21) ?_;show AI _ _ _ _ _ _ #[true, true, true, true, true, true, true, true, false, false, false, false] _;refine aG (i := 8) (by kernel_rfl) rfl rfl <| AIO.opx rfl (ij (bytes := 1) 1 aa aj rfl (by kernel_rfl) rfl rfl rfl rfl g23 e25) ?_;rintro _ _ ⟨t22, rfl, rfl⟩;show AI _ _ _ _ _ _ #[true, true, true, true, true, true, true, true, true, false, false, false] _;refine zk 9 rfl (am rfl) ?_;show AI _ _ _ _ _ _ #[true, true, true, true, true, true, true, true, true, true, false, false] _;refine zk 10 rfl (ag (n := 6) (by kernel_rfl) rfl) ?_;show AI _ _ _ _ _ _ #[true, true, true, true, true, true, true, true, true, true, true, false] _;refine aG (i := 11) (by kernel_rfl) rfl rfl <| bS (ap (i := 0) (c := slE _ _ _) (by kernel_rfl) rfl rfl rfl rfl (ab rfl)) ?_;show AI _ _ _ _ _ _ #[true, true, true, true, true, true, true, true, true, true, true, true] _;refine bc rfl ?_;obtain ⟨rfl, rfl⟩ := fS H
  exact And.intro rfl (Exists.intro _ (Exists.intro _ ⟨aV rfl, aI [0, 0] rfl, rfl, t22, rfl⟩))
 ·refine bW rfl mq rfl (show ACalls _ _ _ [] (Ret (S x17) []) from by subst e18; exact kf a11 ([] : List UInt8) q12 (kv g16).1 (kv g16).2) ?_;show AI _ _ _ _ _ _ #[true, true, true, true, false, true, true, false, false, false, false, false] _;refine zk 7 rfl (jW rfl rfl g19 e21) ?_;show AI _ _ _ _ _ _ #[true, true, true, true, false, true, true, true, false, false, false, false] _;refine aG (i := 4) (by kernel_rfl) rfl rfl <| aH rfl (ah (i := 0) aa rfl rfl rfl rfl) ?_;show AI _ _ _ _ _ _ #[true, true, true, true, true, true, true, true, false, false, false, false] _;refine aG (i := 8) (by kernel_rfl) rfl rfl <| AIO.opx rfl (ij (bytes := 1) 1 aa aj rfl (by kernel_rfl) rfl rfl rfl rfl g23 e25) ?_;rintro _ _ ⟨t26, rfl, rfl⟩;show AI _ _ _ _ _ _ #[true, true, true, true, true, true, true, true, true, false, false, false] _;refine zk 9 rfl (am rfl) ?_;show AI _ _ _ _ _ _ #[true, true, true, true, true, true, true, true, true, true, false, false] _;refine zk 10 rfl (ag (n := 6) (by kernel_rfl) rfl) ?_;show AI _ _ _ _ _ _ #[true, true, true, true, true, true, true, true, true, true, true, false] _;refine aG (i := 11) (by kernel_rfl) rfl rfl <| bS (ap (i := 0) (c := slE _ _ _) (by kernel_rfl) rfl rfl rfl rfl (ab rfl)) ?_;show AI _ _ _ _ _ _ #[true, true, true, true, true, true, true, true, true, true, true, true] _;refine bc rfl ?_;obtain ⟨rfl, rfl⟩ := fS H
  exact And.intro rfl (Exists.intro _ (Exists.intro _ ⟨aV rfl, aI [0, 0] rfl, rfl, t26, rfl⟩))
set_option maxRecDepth 100000 in
set_option maxHeartbeats 1000000 in
theorem jc (F : Nat) (o1 : Nat) (a2 : Int) (a3 : Int) (a4 : List UInt8) (a5 : List UInt8) (a6 : List UInt8) (a7 : List UInt8) (a8 : List UInt8) (t9 : Nat) (a10 : Int) (r11 : Int) (r12 : Int) (r13 : List UInt8) (H : gQ F a2 a3 a4 a5 a6 a7 a8 a10 = some (r11, r12, r13)) : ACalls Tryz.prog 58 [.pt o1 0, i64 a10] [.obj o1 [i64 a2, i64 a3, S a4, S a5, S a6, slE Enc.byte a7 none, slE Enc.byte a8 (some t9)], .tok t9 5] (fun e A' => e = .ret (.tup []) ∧ ∃ t14, A' = [.obj o1 [i64 r11, i64 r12, S a4, S a5, S a6, slE Enc.byte a7 none, slE Enc.byte r13 (some t14)], .tok t14 5]) := by
 unfold gQ at H
 refine az Tryz.func58 rfl rfl ?_;show AW _ _ 12 _ _ _;refine ak <| ac ?_;show AR _ _ _ _ _ [0, 1, 2, 3, 4, 5] _;refine zS rfl (ai (av := .pt _ _) rfl) <| zm rfl <| zS rfl (am rfl) <| zS rfl (ag (n := 0) (by kernel_rfl) rfl) <| zS rfl (ag (n := 1) (by kernel_rfl) rfl) <| s0 rfl rfl (ap (i := 0) (c := .v _) (by kernel_rfl) rfl rfl rfl rfl (ab rfl)) <| al ?_;obtain ⟨x15, x16, e17, H⟩ := dr H;refine ac ?_;show AR _ _ _ _ _ [0, 1, 2] _;refine zS rfl (ai (av := .pt _ _) rfl) <| zR rfl (di (E := Enc.str) (bytes := 16) (xs := [.const _]) (l := ([([81, 85, 73, 84] : List UInt8)] : List (List UInt8))) aw (by kernel_rfl) rfl rfl (by decide) rfl rfl) <| ao rfl rfl (cq [0, 0] rfl hM rfl (gZ F o1 a2 a10 a4 a5 a6 a7 a8 t9 6 ([([81, 85, 73, 84] : List UInt8)] : List (List UInt8)) none x15 x16 e17) rfl (fun c A' h => by cases h.1) ?_)
 rintro av A' ⟨h, t18, rfl⟩; cases h
 refine al ?_;obtain ⟨rfl, rfl, rfl⟩ := gc H;exact And.intro rfl (Exists.intro _ (Exists.intro _ ⟨aV rfl, aI [0, 0] rfl, rfl, t18, rfl⟩))
set_option maxRecDepth 100000 in
set_option maxHeartbeats 1000000 in
theorem mY (F : Nat) (o1 : Nat) (a2 : Int) (a3 : Int) (a4 : List UInt8) (a5 : List UInt8) (a6 : List UInt8) (a7 : List UInt8) (a8 : List UInt8) (t9 : Nat) (r10 : Int) (r11 : Int) (H : jv F a2 a3 a4 a5 a6 a7 a8 = some (r10, r11)) : ACalls Tryz.prog 38 [.pt o1 0] [.obj o1 [i64 a2, i64 a3, S a4, S a5, S a6, slE Enc.byte a7 none, slE Enc.byte a8 (some t9)], .tok t9 5] (fun e A' => e = .ret (.tup []) ∧ A' = [.obj o1 [i64 r10, i64 r11, S a4, S a5, S a6, slE Enc.byte a7 none, slE Enc.byte a8 (some t9)], .tok t9 5]) := by
 unfold jv at H
 refine az Tryz.func38 rfl rfl ?_;show AW _ _ 16 _ _ _;refine ak <| ac ?_;show AR _ _ _ _ _ [0, 1, 2, 3, 4] _;refine zS rfl (ai (av := .pt _ _) rfl) <| zS rfl (am rfl) <| zS rfl (ag (n := 0) (by kernel_rfl) rfl) <| zS rfl (ag (n := 0) (by kernel_rfl) rfl) <| s0 rfl rfl (ap (i := 0) (c := .v _) (by kernel_rfl) rfl rfl rfl rfl (ab rfl)) <| al <| ak <| ac ?_;show AR _ _ _ _ _ [0, 1, 2, 3, 4, 5] _;refine zS rfl (ai (av := .pt _ _) rfl) <| zS rfl (am rfl) <| zS rfl (ag (n := 0) (by kernel_rfl) rfl) <| zS rfl (ag (n := 1) (by kernel_rfl) rfl) <| zR rfl (ah (i := 0) ar rfl rfl rfl rfl) <| zS rfl (bN rfl rfl) <| al <| aE rfl (fun c12 => ?_) (fun c12 => ?_)
 ·replace H := bl c12 H;refine ac ?_;show AR _ _ _ _ _ [0, 1, 2, 3, 4] _;refine zS rfl (ai (av := .pt _ _) rfl) <| zS rfl (am rfl) <| zS rfl (ag (n := 0) (by kernel_rfl) rfl) <| zS rfl (ag (n := 1) (by kernel_rfl) rfl) <| s0 rfl rfl (ap (i := 0) (c := .v _) (by kernel_rfl) rfl rfl rfl rfl (ab rfl)) <| al ?_;obtain ⟨rfl, rfl⟩ := fS H;exact And.intro rfl (Exists.intro _ (Exists.intro _ ⟨aV rfl, aI [0, 0] rfl, rfl, rfl⟩))
 ·replace H := bb c12 H;refine aL ?_;obtain ⟨rfl, rfl⟩ := fS H;exact And.intro rfl (Exists.intro _ (Exists.intro _ ⟨aV rfl, aI [0, 0] rfl, rfl, rfl⟩))
set_option maxRecDepth 100000 in
set_option maxHeartbeats 1000000 in
theorem me (F : Nat) (o1 : Nat) (a2 : Int) (a3 : Int) (a4 : List UInt8) (a5 : List UInt8) (a6 : List UInt8) (a7 : List UInt8) (a8 : List UInt8) (t9 : Nat) (a10 : Int) (a11 : List (List UInt8)) (a12 : Int) (a13 : Int) (a14 : Int) (r15 : Bool) (r16 : Int) (r17 : List UInt8) (H : ja F a2 a3 a4 a5 a6 a7 a8 a10 a11 a12 a13 a14 = some (r15, r16, r17)) : ACalls Tryz.prog 80 [.pt o1 0, .agg [i64 a10, slE Enc.str a11 none, i64 a12, i64 a13, i64 a14]] [.obj o1 [i64 a2, i64 a3, S a4, S a5, S a6, slE Enc.byte a7 none, slE Enc.byte a8 (some t9)], .tok t9 5] (fun e A' => e = .ret (B r15) ∧ ∃ t18, A' = [.obj o1 [i64 r16, i64 a3, S a4, S a5, S a6, slE Enc.byte a7 none, slE Enc.byte r17 (some t18)], .tok t18 5]) := by
 unfold ja at H
 refine az Tryz.func80 rfl rfl ?_;show AW _ _ 16 _ _ _;refine ak <| ac ?_;show AR _ _ _ _ _ [0, 1] _;refine zR rfl (cO rfl (.inr ⟨_, rfl⟩)) <| za rfl <| al <| ak <| ak <| ac ?_;show AR _ _ _ _ _ [0, 1, 2] _;refine zS rfl (aM (n := 0) (by kernel_rfl) rfl (ab rfl)) <| zS rfl (aJ ar rfl rfl) <| zS rfl (eM rfl rfl) <| al <| aE rfl (fun c19 => ?_) (fun c19 => ?_)
 ·replace H := bl c19 H;refine ak <| ac ?_;show AR _ _ _ _ _ [0] _;refine za rfl <| al <| aU ?_;obtain ⟨rfl, rfl, rfl⟩ := gc H;exact And.intro rfl (Exists.intro _ (Exists.intro _ ⟨aQ rfl (.refl _), aI [0, 0] rfl, rfl, t9, rfl⟩))
 ·replace H := bb c19 H;refine aL <| ak ?_;obtain ⟨x20, x21, e22, H⟩ := dr H;refine ac ?_;show AR _ _ _ _ _ [0, 1, 2, 3, 4, 5, 6, 7] _;refine zS rfl (ai (av := .pt _ _) rfl) <| zS rfl (ai (av := .pt _ _) rfl) <| zS rfl (am rfl) <| zS rfl (ag (n := 0) (by kernel_rfl) rfl) <| zS rfl (ag (n := 4) (by kernel_rfl) rfl) <| zR rfl (ah (i := 0) aj rfl rfl rfl rfl) <| zR rfl (di (E := Enc.str) (bytes := 16) (xs := [.const _, .tmp 13]) (l := ([([69, 72, 76, 79, 32] : List UInt8), a6] : List (List UInt8))) aw (by kernel_rfl) rfl rfl (by decide) rfl rfl) <| ao rfl rfl (cq [0, 0] rfl hM rfl (gZ F o1 a2 a3 a4 a5 a6 a7 a8 t9 1 ([([69, 72, 76, 79, 32] : List UInt8), a6] : List (List UInt8)) none x20 x21 e22) rfl (fun c A' h => by cases h.1) ?_)
  rintro av A' ⟨h, t23, rfl⟩; cases h
  refine al <| ak <| ac ?_;show AR _ _ _ _ _ [0] _;refine za rfl <| al <| aU ?_;obtain ⟨rfl, rfl, rfl⟩ := gc H;exact And.intro rfl (Exists.intro _ (Exists.intro _ ⟨aQ rfl (.refl _), aI [0, 0] rfl, rfl, t23, rfl⟩))
set_option maxRecDepth 100000 in
set_option maxHeartbeats 1000000 in
theorem md (F : Nat) (o1 : Nat) (a2 : Int) (a3 : Int) (a4 : List UInt8) (a5 : List UInt8) (a6 : List UInt8) (a7 : List UInt8) (a8 : List UInt8) (t9 : Nat) (a10 : Int) (a11 : List (List UInt8)) (a12 : Int) (a13 : Int) (a14 : Int) (r15 : Bool) (r16 : Int) (r17 : Int) (r18 : List UInt8) (H : iZ F a2 a3 a4 a5 a6 a7 a8 a10 a11 a12 a13 a14 = some (r15, r16, r17, r18)) : ACalls Tryz.prog 81 [.pt o1 0, .agg [i64 a10, slE Enc.str a11 none, i64 a12, i64 a13, i64 a14]] [.obj o1 [i64 a2, i64 a3, S a4, S a5, S a6, slE Enc.byte a7 none, slE Enc.byte a8 (some t9)], .tok t9 5] (fun e A' => e = .ret (B r15) ∧ ∃ t19, A' = [.obj o1 [i64 r16, i64 r17, S a4, S a5, S a6, slE Enc.byte a7 none, slE Enc.byte r18 (some t19)], .tok t19 5]) := by
 unfold iZ at H
 refine az Tryz.func81 rfl rfl ?_;show AW _ _ 41 _ _ _;refine ak <| ac ?_;show AR _ _ _ _ _ [0, 1] _;refine zR rfl (cO rfl (.inr ⟨_, rfl⟩)) <| za rfl <| al <| ak <| ak <| ac ?_;show AR _ _ _ _ _ [0, 1, 2, 3] _;refine zS rfl (aM (n := 0) (by kernel_rfl) rfl (ab rfl)) <| zS rfl (aJ ar rfl rfl) <| zS rfl (hZ rfl rfl (by decide)) <| zS rfl (eM rfl rfl) <| al <| aE rfl (fun c20 => ?_) (fun c20 => ?_)
 ·replace H := bl c20 H;refine ak <| ac ?_;show AR _ _ _ _ _ [0] _;refine za rfl <| al <| aU ?_;obtain ⟨rfl, rfl, rfl, rfl⟩ := res4 H;exact And.intro rfl (Exists.intro _ (Exists.intro _ ⟨aQ rfl (.refl _), aI [0, 0] rfl, rfl, t9, rfl⟩))
 ·replace H := bb c20 H;refine aL <| ak ?_;obtain ⟨x21, x22, e23, H⟩ := dr H;refine ac ?_;show AR _ _ _ _ _ [0, 1, 2, 3, 4, 5, 6, 7, 8, 9, 10] _;refine zS rfl (ai (av := .pt _ _) rfl) <| zS rfl (am rfl) <| zS rfl (ag (n := 0) (by kernel_rfl) rfl) <| zS rfl (ag (n := 5) (by kernel_rfl) rfl) <| zR rfl (ah (i := 0) aa rfl rfl rfl rfl) <| ao rfl rfl (aP rfl nJ rfl (iP F a7 none x21 x22 e23) ?_);refine zS rfl (ai (av := .tup _) rfl) <| zS rfl (aK (av := slE _ _ _) rfl rfl) <| zS rfl (aK (av := .v _) rfl rfl) <| zS rfl (aC (av := slE _ _ _) rfl) <| za rfl <| al <| ak <| ak ?_;obtain ⟨x24, e25, H⟩ := du H;refine ac ?_;show AR _ _ _ _ _ [0, 1, 2] _;refine zS rfl (bt bH rfl (n := 5) (by kernel_rfl) rfl (ab rfl)) <| ao rfl rfl (aP rfl ri rfl (qD F a10 a11 a12 a13 a14 x24 e25) ?_);refine za rfl <| al <| ak <| ac ?_;show AR _ _ _ _ _ [0, 1, 2, 3, 4, 5, 6, 7] _;refine zm rfl <| zS rfl (gY rfl rfl) <| zm rfl <| aN (l := []) 30 (B ((decide (0 < x24)) && (decide (x24 < (x21.length : Int))))) (fun K => ?_) ?_
  ·rcases af (decide (0 < x24)) with h26 | h26
   ·refine zM h26 rfl <| zU h26 rfl (ai (av := slE _ _ _) rfl) <| zU h26 rfl (aX aa rfl) <| zU h26 rfl (ct rfl rfl) <| zS rfl (ay (av := .v _) rfl h26 rfl) ?_;exact K _ 4 _ (aq (cc h26)) rfl rfl
   ·refine zF h26 rfl <| zF h26 rfl <| zF h26 rfl <| zF h26 rfl <| zS rfl (au (av := .v _) rfl h26 rfl) ?_;exact K _ 4 _ (aq (cd h26)) rfl rfl
  refine al <| aE rfl (fun c27 => ?_) (fun c27 => ?_)
  ·replace H := bl c27 H;refine ak ?_;obtain ⟨x28, x29, x30, e31, H⟩ := fN H;refine ac ?_;show AR _ _ _ _ _ [0, 1] _;refine zS rfl (ai (av := .pt _ _) rfl) <| ao rfl rfl (cq [0, 0] rfl jj rfl (jc F o1 a2 a3 a4 a5 a6 a7 a8 t9 3 x28 x29 x30 e31) rfl (fun c A' h => by cases h.1) ?_)
   rintro av A' ⟨h, t32, rfl⟩; cases h
   refine al <| ak <| ac ?_;show AR _ _ _ _ _ [0] _;refine za rfl <| al <| aU ?_;obtain ⟨rfl, rfl, rfl, rfl⟩ := res4 H;exact And.intro rfl (Exists.intro _ (Exists.intro _ ⟨aQ rfl (.refl _), aI [0, 0] rfl, rfl, t32, rfl⟩))
  ·replace H := bb c27 H;refine aL <| ak ?_;obtain ⟨x33, x34, e35, H⟩ := dr H;refine ac ?_;show AR _ _ _ _ _ [0, 1, 2, 3, 4, 5, 6, 7] _;refine zS rfl (ai (av := .pt _ _) rfl) <| zS rfl (ai (av := .pt _ _) rfl) <| zS rfl (am rfl) <| zS rfl (ag (n := 0) (by kernel_rfl) rfl) <| zS rfl (ag (n := 2) (by kernel_rfl) rfl) <| zR rfl (ah (i := 0) aj rfl rfl rfl rfl) <| zR rfl (di (E := Enc.str) (bytes := 16) (xs := [.const _, .tmp 38, .const _]) (l := ([([77, 65, 73, 76, 32, 70, 82, 79, 77, 58, 60] : List UInt8), a4, ([62] : List UInt8)] : List (List UInt8))) aw (by kernel_rfl) rfl rfl (by decide) rfl rfl) <| ao rfl rfl (cq [0, 0] rfl hM rfl (gZ F o1 a2 a3 a4 a5 a6 a7 a8 t9 2 ([([77, 65, 73, 76, 32, 70, 82, 79, 77, 58, 60] : List UInt8), a4, ([62] : List UInt8)] : List (List UInt8)) none x33 x34 e35) rfl (fun c A' h => by cases h.1) ?_)
   rintro av A' ⟨h, t36, rfl⟩; cases h
   refine al <| ak <| ac ?_;show AR _ _ _ _ _ [0] _;refine za rfl <| al <| aU ?_;obtain ⟨rfl, rfl, rfl, rfl⟩ := res4 H;exact And.intro rfl (Exists.intro _ (Exists.intro _ ⟨aQ rfl (.refl _), aI [0, 0] rfl, rfl, t36, rfl⟩))
set_option maxRecDepth 100000 in
set_option maxHeartbeats 1000000 in
theorem mX (F : Nat) (o1 : Nat) (a2 : Int) (a3 : Int) (a4 : List UInt8) (a5 : List UInt8) (a6 : List UInt8) (a7 : List UInt8) (a8 : List UInt8) (t9 : Nat) (a10 : Int) (a11 : List (List UInt8)) (a12 : Int) (a13 : Int) (a14 : Int) (r15 : Bool) (r16 : Int) (r17 : List UInt8) (H : kF F a2 a3 a4 a5 a6 a7 a8 a10 a11 a12 a13 a14 = some (r15, r16, r17)) : ACalls Tryz.prog 82 [.pt o1 0, .agg [i64 a10, slE Enc.str a11 none, i64 a12, i64 a13, i64 a14]] [.obj o1 [i64 a2, i64 a3, S a4, S a5, S a6, slE Enc.byte a7 none, slE Enc.byte a8 (some t9)], .tok t9 5] (fun e A' => e = .ret (B r15) ∧ ∃ t18, A' = [.obj o1 [i64 r16, i64 a3, S a4, S a5, S a6, slE Enc.byte a7 none, slE Enc.byte r17 (some t18)], .tok t18 5]) := by
 unfold kF at H
 refine az Tryz.func82 rfl rfl ?_;show AW _ _ 17 _ _ _;refine ak <| ac ?_;show AR _ _ _ _ _ [0, 1] _;refine zR rfl (cO rfl (.inr ⟨_, rfl⟩)) <| za rfl <| al <| ak <| ak <| ac ?_;show AR _ _ _ _ _ [0, 1, 2, 3] _;refine zS rfl (aM (n := 0) (by kernel_rfl) rfl (ab rfl)) <| zS rfl (aJ ar rfl rfl) <| zS rfl (hZ rfl rfl (by decide)) <| zS rfl (eM rfl rfl) <| al <| aE rfl (fun c19 => ?_) (fun c19 => ?_)
 ·replace H := bl c19 H;refine ak <| ac ?_;show AR _ _ _ _ _ [0] _;refine za rfl <| al <| aU ?_;obtain ⟨rfl, rfl, rfl⟩ := gc H;exact And.intro rfl (Exists.intro _ (Exists.intro _ ⟨aQ rfl (.refl _), aI [0, 0] rfl, rfl, t9, rfl⟩))
 ·replace H := bb c19 H;refine aL <| ak ?_;obtain ⟨x20, x21, e22, H⟩ := dr H;refine ac ?_;show AR _ _ _ _ _ [0, 1, 2, 3, 4, 5, 6, 7] _;refine zS rfl (ai (av := .pt _ _) rfl) <| zS rfl (ai (av := .pt _ _) rfl) <| zS rfl (am rfl) <| zS rfl (ag (n := 0) (by kernel_rfl) rfl) <| zS rfl (ag (n := 3) (by kernel_rfl) rfl) <| zR rfl (ah (i := 0) aj rfl rfl rfl rfl) <| zR rfl (di (E := Enc.str) (bytes := 16) (xs := [.const _, .tmp 14, .const _]) (l := ([([82, 67, 80, 84, 32, 84, 79, 58, 60] : List UInt8), a5, ([62] : List UInt8)] : List (List UInt8))) aw (by kernel_rfl) rfl rfl (by decide) rfl rfl) <| ao rfl rfl (cq [0, 0] rfl hM rfl (gZ F o1 a2 a3 a4 a5 a6 a7 a8 t9 3 ([([82, 67, 80, 84, 32, 84, 79, 58, 60] : List UInt8), a5, ([62] : List UInt8)] : List (List UInt8)) none x20 x21 e22) rfl (fun c A' h => by cases h.1) ?_)
  rintro av A' ⟨h, t23, rfl⟩; cases h
  refine al <| ak <| ac ?_;show AR _ _ _ _ _ [0] _;refine za rfl <| al <| aU ?_;obtain ⟨rfl, rfl, rfl⟩ := gc H;exact And.intro rfl (Exists.intro _ (Exists.intro _ ⟨aQ rfl (.refl _), aI [0, 0] rfl, rfl, t23, rfl⟩))
set_option maxRecDepth 100000 in
set_option maxHeartbeats 1000000 in
theorem mV (F : Nat) (o1 : Nat) (a2 : Int) (a3 : Int) (a4 : List UInt8) (a5 : List UInt8) (a6 : List UInt8) (a7 : List UInt8) (a8 : List UInt8) (t9 : Nat) (a10 : Int) (a11 : List (List UInt8)) (a12 : Int) (a13 : Int) (a14 : Int) (r15 : Bool) (r16 : Int) (r17 : List UInt8) (H : kE F a2 a3 a4 a5 a6 a7 a8 a10 a11 a12 a13 a14 = some (r15, r16, r17)) : ACalls Tryz.prog 83 [.pt o1 0, .agg [i64 a10, slE Enc.str a11 none, i64 a12, i64 a13, i64 a14]] [.obj o1 [i64 a2, i64 a3, S a4, S a5, S a6, slE Enc.byte a7 none, slE Enc.byte a8 (some t9)], .tok t9 5] (fun e A' => e = .ret (B r15) ∧ ∃ t18, A' = [.obj o1 [i64 r16, i64 a3, S a4, S a5, S a6, slE Enc.byte a7 none, slE Enc.byte r17 (some t18)], .tok t18 5]) := by
 unfold kE at H
 refine az Tryz.func83 rfl rfl ?_;show AW _ _ 12 _ _ _;refine ak <| ac ?_;show AR _ _ _ _ _ [0, 1] _;refine zR rfl (cO rfl (.inr ⟨_, rfl⟩)) <| za rfl <| al <| ak <| ak <| ac ?_;show AR _ _ _ _ _ [0, 1, 2, 3] _;refine zS rfl (aM (n := 0) (by kernel_rfl) rfl (ab rfl)) <| zS rfl (aJ ar rfl rfl) <| zS rfl (hZ rfl rfl (by decide)) <| zS rfl (eM rfl rfl) <| al <| aE rfl (fun c19 => ?_) (fun c19 => ?_)
 ·replace H := bl c19 H;refine ak <| ac ?_;show AR _ _ _ _ _ [0] _;refine za rfl <| al <| aU ?_;obtain ⟨rfl, rfl, rfl⟩ := gc H;exact And.intro rfl (Exists.intro _ (Exists.intro _ ⟨aQ rfl (.refl _), aI [0, 0] rfl, rfl, t9, rfl⟩))
 ·replace H := bb c19 H;refine aL <| ak ?_;obtain ⟨x20, x21, e22, H⟩ := dr H;refine ac ?_;show AR _ _ _ _ _ [0, 1, 2] _;refine zS rfl (ai (av := .pt _ _) rfl) <| zR rfl (di (E := Enc.str) (bytes := 16) (xs := [.const _]) (l := ([([68, 65, 84, 65] : List UInt8)] : List (List UInt8))) aw (by kernel_rfl) rfl rfl (by decide) rfl rfl) <| ao rfl rfl (cq [0, 0] rfl hM rfl (gZ F o1 a2 a3 a4 a5 a6 a7 a8 t9 4 ([([68, 65, 84, 65] : List UInt8)] : List (List UInt8)) none x20 x21 e22) rfl (fun c A' h => by cases h.1) ?_)
  rintro av A' ⟨h, t23, rfl⟩; cases h
  refine al <| ak <| ac ?_;show AR _ _ _ _ _ [0] _;refine za rfl <| al <| aU ?_;obtain ⟨rfl, rfl, rfl⟩ := gc H;exact And.intro rfl (Exists.intro _ (Exists.intro _ ⟨aQ rfl (.refl _), aI [0, 0] rfl, rfl, t23, rfl⟩))
set_option maxRecDepth 100000 in
set_option maxHeartbeats 1000000 in
theorem mZ (F : Nat) (o1 : Nat) (a2 : Int) (a3 : Int) (a4 : List UInt8) (a5 : List UInt8) (a6 : List UInt8) (a7 : List UInt8) (a8 : List UInt8) (t9 : Nat) (a10 : Int) (a11 : List (List UInt8)) (a12 : Int) (a13 : Int) (a14 : Int) (r15 : Bool) (r16 : Int) (r17 : List UInt8) (H : kG F a2 a3 a4 a5 a6 a7 a8 a10 a11 a12 a13 a14 = some (r15, r16, r17)) : ACalls Tryz.prog 84 [.pt o1 0, .agg [i64 a10, slE Enc.str a11 none, i64 a12, i64 a13, i64 a14]] [.obj o1 [i64 a2, i64 a3, S a4, S a5, S a6, slE Enc.byte a7 none, slE Enc.byte a8 (some t9)], .tok t9 5] (fun e A' => e = .ret (B r15) ∧ ∃ t18, A' = [.obj o1 [i64 r16, i64 a3, S a4, S a5, S a6, slE Enc.byte a7 none, slE Enc.byte r17 (some t18)], .tok t18 5]) := by
 unfold kG at H
 refine az Tryz.func84 rfl rfl ?_;show AW _ _ 32 _ _ _;refine ak <| ac ?_;show AR _ _ _ _ _ [0, 1] _;refine zR rfl (cO rfl (.inr ⟨_, rfl⟩)) <| za rfl <| al <| ak <| ak <| ac ?_;show AR _ _ _ _ _ [0, 1, 2] _;refine zS rfl (aM (n := 0) (by kernel_rfl) rfl (ab rfl)) <| zS rfl (aJ ar rfl rfl) <| zS rfl (eM rfl rfl) <| al <| aE rfl (fun c19 => ?_) (fun c19 => ?_)
 ·replace H := bl c19 H;refine ak <| ac ?_;show AR _ _ _ _ _ [0] _;refine za rfl <| al <| aU ?_;obtain ⟨rfl, rfl, rfl⟩ := gc H;exact And.intro rfl (Exists.intro _ (Exists.intro _ ⟨aQ rfl (.refl _), aI [0, 0] rfl, rfl, t9, rfl⟩))
 ·replace H := bb c19 H;refine aL <| ak ?_;obtain ⟨x20, x21, e22, H⟩ := dr H;refine ac ?_;show AR _ _ _ _ _ [0, 1, 2, 3, 4, 5, 6, 7, 8, 9, 10] _;refine zS rfl (ai (av := .pt _ _) rfl) <| zS rfl (am rfl) <| zS rfl (ag (n := 0) (by kernel_rfl) rfl) <| zS rfl (ag (n := 5) (by kernel_rfl) rfl) <| zR rfl (ah (i := 0) aa rfl rfl rfl rfl) <| ao rfl rfl (aP rfl nJ rfl (iP F a7 none x20 x21 e22) ?_);refine zS rfl (ai (av := .tup _) rfl) <| zS rfl (aK (av := slE _ _ _) rfl rfl) <| zS rfl (aK (av := .v _) rfl rfl) <| zS rfl (aC (av := slE _ _ _) rfl) <| za rfl <| al <| ak ?_;obtain ⟨g24, H⟩ := aW H;obtain ⟨x25, e26, H⟩ := cl H;refine ac ?_;show AR _ _ _ _ _ [0, 1, 2, 3, 4, 5, 6, 7, 8, 9, 10, 11, 12, 13, 14] _;refine zS rfl (ai (av := .pt _ _) rfl) <| zS rfl (ai (av := .pt _ _) rfl) <| zS rfl (ai (av := .pt _ _) rfl) <| zS rfl (am rfl) <| zS rfl (ag (n := 6) (by kernel_rfl) rfl) <| zR rfl (ah (i := 0) aa rfl rfl rfl rfl) <| zS rfl (ai (av := slE _ _ _) rfl) <| zX rfl (eJ (E := Enc.byte) (bytes := 1) 1 aa aa rfl (by kernel_rfl) rfl rfl rfl rfl g24 e26) ?_;rintro _ _ ⟨t23, rfl, rfl⟩
  refine zS rfl (am rfl) <| zS rfl (ag (n := 0) (by kernel_rfl) rfl) <| zS rfl (ag (n := 0) (by kernel_rfl) rfl) <| s0 rfl rfl (ap (i := 0) (c := .v _) (by kernel_rfl) rfl rfl rfl rfl (ab rfl)) <| zS rfl (am rfl) <| zS rfl (ag (n := 6) (by kernel_rfl) rfl) <| s0 rfl rfl (ap (i := 0) (c := slE _ _ _) (by kernel_rfl) rfl rfl rfl rfl (ab rfl)) <| al <| ak <| ac ?_;show AR _ _ _ _ _ [0] _;refine za rfl <| al <| aU ?_;obtain ⟨rfl, rfl, rfl⟩ := gc H;exact And.intro rfl (Exists.intro _ (Exists.intro _ ⟨aQ rfl (.refl _), aI [0, 0] rfl, rfl, t23, rfl⟩))
set_option maxRecDepth 100000 in
set_option maxHeartbeats 1000000 in
theorem na (F : Nat) (o1 : Nat) (a2 : Int) (a3 : Int) (a4 : List UInt8) (a5 : List UInt8) (a6 : List UInt8) (a7 : List UInt8) (a8 : List UInt8) (t9 : Nat) (a10 : Int) (a11 : List (List UInt8)) (a12 : Int) (a13 : Int) (a14 : Int) (r15 : Bool) (r16 : Int) (r17 : Int) (r18 : List UInt8) (H : kH F a2 a3 a4 a5 a6 a7 a8 a10 a11 a12 a13 a14 = some (r15, r16, r17, r18)) : ACalls Tryz.prog 85 [.pt o1 0, .agg [i64 a10, slE Enc.str a11 none, i64 a12, i64 a13, i64 a14]] [.obj o1 [i64 a2, i64 a3, S a4, S a5, S a6, slE Enc.byte a7 none, slE Enc.byte a8 (some t9)], .tok t9 5] (fun e A' => e = .ret (B r15) ∧ ∃ t19, A' = [.obj o1 [i64 r16, i64 r17, S a4, S a5, S a6, slE Enc.byte a7 none, slE Enc.byte r18 (some t19)], .tok t19 5]) := by
 unfold kH at H
 refine az Tryz.func85 rfl rfl ?_;show AW _ _ 11 _ _ _;refine ak <| ac ?_;show AR _ _ _ _ _ [0, 1] _;refine zR rfl (cO rfl (.inr ⟨_, rfl⟩)) <| za rfl <| al <| ak <| ak <| ac ?_;show AR _ _ _ _ _ [0, 1, 2, 3] _;refine zS rfl (aM (n := 0) (by kernel_rfl) rfl (ab rfl)) <| zS rfl (aJ ar rfl rfl) <| zS rfl (hZ rfl rfl (by decide)) <| zS rfl (eM rfl rfl) <| al <| aE rfl (fun c20 => ?_) (fun c20 => ?_)
 ·replace H := bl c20 H;refine ak <| ac ?_;show AR _ _ _ _ _ [0] _;refine za rfl <| al <| aU ?_;obtain ⟨rfl, rfl, rfl, rfl⟩ := res4 H;exact And.intro rfl (Exists.intro _ (Exists.intro _ ⟨aQ rfl (.refl _), aI [0, 0] rfl, rfl, t9, rfl⟩))
 ·replace H := bb c20 H;refine aL <| ak ?_;obtain ⟨x21, x22, x23, e24, H⟩ := fN H;refine ac ?_;show AR _ _ _ _ _ [0, 1] _;refine zS rfl (ai (av := .pt _ _) rfl) <| ao rfl rfl (cq [0, 0] rfl jj rfl (jc F o1 a2 a3 a4 a5 a6 a7 a8 t9 1 x21 x22 x23 e24) rfl (fun c A' h => by cases h.1) ?_)
  rintro av A' ⟨h, t25, rfl⟩; cases h
  refine al <| ak <| ac ?_;show AR _ _ _ _ _ [0] _;refine za rfl <| al <| aU ?_;obtain ⟨rfl, rfl, rfl, rfl⟩ := res4 H;exact And.intro rfl (Exists.intro _ (Exists.intro _ ⟨aQ rfl (.refl _), aI [0, 0] rfl, rfl, t25, rfl⟩))
set_option maxRecDepth 100000 in
set_option maxHeartbeats 1000000 in
theorem mW (F : Nat) (o1 : Nat) (a2 : Int) (a3 : Int) (a4 : List UInt8) (a5 : List UInt8) (a6 : List UInt8) (a7 : List UInt8) (a8 : List UInt8) (t9 : Nat) (a10 : Int) (a11 : List (List UInt8)) (a12 : Int) (a13 : Int) (a14 : Int) (r15 : Bool) (r16 : Int) (H : lU F a2 a3 a4 a5 a6 a7 a8 a10 a11 a12 a13 a14 = some (r15, r16)) : ACalls Tryz.prog 86 [.pt o1 0, .agg [i64 a10, slE Enc.str a11 none, i64 a12, i64 a13, i64 a14]] [.obj o1 [i64 a2, i64 a3, S a4, S a5, S a6, slE Enc.byte a7 none, slE Enc.byte a8 (some t9)], .tok t9 5] (fun e A' => e = .ret (B r15) ∧ A' = [.obj o1 [i64 r16, i64 a3, S a4, S a5, S a6, slE Enc.byte a7 none, slE Enc.byte a8 (some t9)], .tok t9 5]) := by
 unfold lU at H
 refine az Tryz.func86 rfl rfl ?_;show AW _ _ 9 _ _ _;refine ak <| ac ?_;show AR _ _ _ _ _ [0, 1] _;refine zR rfl (cO rfl (.inr ⟨_, rfl⟩)) <| za rfl <| al <| ak <| ac ?_;show AR _ _ _ _ _ [0, 1, 2, 3, 4] _;refine zS rfl (ai (av := .pt _ _) rfl) <| zS rfl (am rfl) <| zS rfl (ag (n := 0) (by kernel_rfl) rfl) <| zS rfl (ag (n := 0) (by kernel_rfl) rfl) <| s0 rfl rfl (ap (i := 0) (c := .v _) (by kernel_rfl) rfl rfl rfl rfl (ab rfl)) <| al <| ak <| ac ?_;show AR _ _ _ _ _ [0] _;refine za rfl <| al <| aU ?_;obtain ⟨rfl, rfl⟩ := fS H;exact And.intro rfl (Exists.intro _ (Exists.intro _ ⟨aQ rfl (.refl _), aI [0, 0] rfl, rfl, rfl⟩))
abbrev _root_.Go.Av.bg := @Tryz.underlying92
set_option maxRecDepth 100000 in
set_option maxHeartbeats 1000000 in
theorem ci (F : Nat) (H : ef F = some ()) : ACalls Tryz.prog 57 [] [] (Ret (.agg [.v (.func (.func 80) #[] #[]), .v (.func (.func 81) #[] #[]), .v (.func (.func 82) #[] #[]), .v (.func (.func 83) #[] #[]), .v (.func (.func 84) #[] #[]), .v (.func (.func 85) #[] #[]), .v (.func (.func 86) #[] #[])]) []) := by
 unfold ef at H
 refine az Tryz.func57 rfl rfl ?_;show AW _ _ 2 _ _ _;refine ak <| ac ?_;show AR _ _ _ _ _ [0] _;refine zX rfl (cm (zs := [.nilFunc, .nilFunc, .nilFunc, .nilFunc, .nilFunc, .nilFunc, .nilFunc]) (by kernel_rfl)) ?_;rintro _ _ ⟨o1, rfl, rfl⟩;refine al <| ak <| ac ?_;show AR _ _ _ _ _ [0, 1] _;refine zS rfl (pP (zs := [.nilFunc, .nilFunc, .nilFunc, .nilFunc, .nilFunc, .nilFunc, .nilFunc]) (k := 1) (cs := [.v (.func (.func 80) #[] #[]), .v (.func (.func 81) #[] #[]), .v (.func (.func 82) #[] #[]), .v (.func (.func 83) #[] #[]), .v (.func (.func 84) #[] #[]), .v (.func (.func 85) #[] #[]), .v (.func (.func 86) #[] #[])]) bg (by kernel_rfl) (by kernel_rfl) rfl rfl (by kernel_rfl)) <| s0 rfl rfl (bk (i := 0) (vs := [.v (.func (.func 80) #[] #[]), .v (.func (.func 81) #[] #[]), .v (.func (.func 82) #[] #[]), .v (.func (.func 83) #[] #[]), .v (.func (.func 84) #[] #[]), .v (.func (.func 85) #[] #[]), .v (.func (.func 86) #[] #[])]) (by kernel_rfl) rfl rfl (by simp [bI, slE]) rfl (ab rfl)) <| al <| aU ?_;exact And.intro rfl (Exists.intro _ (Exists.intro _ ⟨eC (er rfl (CellV.agg (off := 0) (cs := [.v (.func (.func 80) #[] #[]), .v (.func (.func 81) #[] #[]), .v (.func (.func 82) #[] #[]), .v (.func (.func 83) #[] #[]), .v (.func (.func 84) #[] #[]), .v (.func (.func 85) #[] #[]), .v (.func (.func 86) #[] #[])]) (n := 7) 0 bg rfl (by kernel_rfl) rfl rfl (ab rfl))), aI [] rfl, rfl, rfl⟩))
abbrev _root_.Go.Av.bp := @Tryz.underlying91
set_option maxRecDepth 100000 in
set_option maxHeartbeats 1000000 in
theorem qC (F : Nat) (o1 : Nat) (a2 : Int) (a3 : Int) (a4 : List UInt8) (a5 : List UInt8) (a6 : List UInt8) (a7 : List UInt8) (a8 : List UInt8) (t9 : Nat) (a10 : Int) (a11 : List (List UInt8)) (a12 : Int) (a13 : Int) (a14 : Int) (r15 : Int) (r16 : Int) (r17 : List UInt8) (H : kD F a2 a3 a4 a5 a6 a7 a8 a10 a11 a12 a13 a14 = some (r15, r16, r17)) : ACalls Tryz.prog 37 [.pt o1 0, .agg [i64 a10, slE Enc.str a11 none, i64 a12, i64 a13, i64 a14]] [.obj o1 [i64 a2, i64 a3, S a4, S a5, S a6, slE Enc.byte a7 none, slE Enc.byte a8 (some t9)], .tok t9 5] (fun e A' => e = .ret (.tup []) ∧ ∃ t18, A' = [.obj o1 [i64 r15, i64 r16, S a4, S a5, S a6, slE Enc.byte a7 none, slE Enc.byte r17 (some t18)], .tok t18 5]) := by
 unfold kD at H
 refine az Tryz.func37 rfl rfl ?_;show AW _ _ 49 _ _ _;refine ak <| ac ?_;show AR _ _ _ _ _ [0] _;refine zR rfl (cO rfl (.inr ⟨_, rfl⟩)) <| al <| bx <| ak <| ac ?_;show AR _ _ _ _ _ [0, 1, 2, 3, 4, 5, 6, 7, 8, 9, 10, 11, 12, 13, 14] _;refine zS rfl (ai (av := .pt _ _) rfl) <| zS rfl (am rfl) <| zS rfl (ag (n := 0) (by kernel_rfl) rfl) <| zS rfl (ag (n := 0) (by kernel_rfl) rfl) <| zR rfl (ah (i := 0) ar rfl rfl rfl rfl) <| zS rfl (ct rfl rfl) <| zm rfl <| aN (l := [14]) 20 (B ((decide (a2 < 0)) || (decide (7 ≤ a2)))) (fun K => ?_) ?_
 ·rcases af (decide (a2 < 0)) with h19 | h19
  ·refine zF h19 rfl <| zF h19 rfl <| zF h19 rfl <| zF h19 rfl <| zF h19 rfl <| zF h19 rfl <| zS rfl (ay (av := .v _) rfl h19 rfl) ?_;exact K _ 6 _ (aq (gx h19)) rfl rfl
  ·refine zU h19 rfl (ai (av := .pt _ _) rfl) <| zU h19 rfl (am rfl) <| zU h19 rfl (ag (n := 0) (by kernel_rfl) rfl) <| zU h19 rfl (ag (n := 0) (by kernel_rfl) rfl) <| zT h19 rfl (bG rfl rfl (ah (i := 0) ar rfl rfl rfl rfl) ?_);refine zU h19 rfl (eG rfl rfl) <| zS rfl (au (av := .v _) rfl h19 rfl) ?_;exact K _ 6 _ (aq (gy h19)) rfl rfl
 refine za rfl <| al <| aE rfl (fun c20 => ?_) (fun c20 => ?_)
 ·replace H := bl c20 H;refine aL ?_;obtain ⟨rfl, rfl, rfl⟩ := gc H;exact And.intro rfl (Exists.intro _ (Exists.intro _ ⟨aV rfl, aI [0, 0] rfl, rfl, t9, rfl⟩))
 ·replace H := bb c20 H;refine ak <| ac ?_;show AR _ _ _ _ _ [0, 1, 2, 3] _;refine zS rfl (aM (n := 0) (by kernel_rfl) rfl (ab rfl)) <| zS rfl (aJ ar rfl rfl) <| zS rfl (bN rfl rfl) <| za rfl <| al <| aE rfl (fun c21 => ?_) (fun c21 => ?_)
  ·replace H := bl c21 H;obtain ⟨x22, x23, e24, H⟩ := dr H;refine ac ?_;show AR _ _ _ _ _ [0, 1] _;refine zS rfl (ai (av := .pt _ _) rfl) <| ao rfl rfl (cq [0, 0] rfl nF rfl (mY F o1 a2 a3 a4 a5 a6 a7 a8 t9 x22 x23 e24) rfl (fun c A' h => by cases h.1) ?_)
   rintro av A' ⟨h, rfl⟩; cases h
   refine al ?_;obtain ⟨rfl, rfl, rfl⟩ := gc H;exact And.intro rfl (Exists.intro _ (Exists.intro _ ⟨aV rfl, aI [0, 0] rfl, rfl, t9, rfl⟩))
  ·replace H := bb c21 H;refine cr (X := Bool × Int × Int × (List UInt8) × Nat) (fun (y74, y75, y76, y77, t78) => ⟨[(0, .pt o1 0), (3, .cp [i64 a10, slE Enc.str a11 none, i64 a12, i64 a13, i64 a14]), (27, B y74)], [], [.obj o1 [i64 y75, i64 y76, S a4, S a5, S a6, slE Enc.byte a7 none, slE Enc.byte y77 (some t78)], .tok t78 5]⟩) (fun (y74, y75, y76, y77, t78) => cA F a4 a5 a6 a7 a10 y74 y75 y76 y77 = some (r15, r16, r17)) ?_ ?_
   ·obtain ⟨g25, H⟩ := aW H
    rcases idx7 g25 with rfl | rfl | rfl | rfl | rfl | rfl | rfl
    ·replace H := bl (by decide) H;obtain ⟨_, e26, H⟩ := du H;obtain ⟨x27, x28, x29, e30, H⟩ := fN H;refine bA (by kernel_rfl) ?_;show AI _ _ _ _ _ 11 (Array.replicate 11 false) _;refine zk 1 rfl (ai (av := .pt _ _) rfl) ?_;show AI _ _ _ _ _ _ #[false, true, false, false, false, false, false, false, false, false, false] _;refine zk 2 rfl (am rfl) ?_;show AI _ _ _ _ _ _ #[false, true, true, false, false, false, false, false, false, false, false] _;refine zk 3 rfl (ag (n := 0) (by kernel_rfl) rfl) ?_;show AI _ _ _ _ _ _ #[false, true, true, true, false, false, false, false, false, false, false] _;refine zk 4 rfl (ag (n := 0) (by kernel_rfl) rfl) ?_;show AI _ _ _ _ _ _ #[false, true, true, true, true, false, false, false, false, false, false] _;refine zk 7 rfl (ai (av := .pt _ _) rfl) ?_;show AI _ _ _ _ _ _ #[false, true, true, true, true, false, false, true, false, false, false] _;refine zk 8 rfl (bt bH rfl (n := 5) (by kernel_rfl) rfl (ab rfl)) ?_;show AI _ _ _ _ _ _ #[false, true, true, true, true, false, false, true, true, false, false] _;refine cz (i := 0) (j := 5) (by kernel_rfl) rfl rfl rfl rfl ?_ ?_
     ·refine bW rfl cP rfl (ci F e26) ?_;show AI _ _ _ _ _ _ #[true, true, true, true, true, false, false, true, true, false, false] _;refine aG (i := 5) (by kernel_rfl) rfl rfl <| aH rfl (ah (i := 0) ar rfl rfl rfl rfl) ?_;show AI _ _ _ _ _ _ #[true, true, true, true, true, true, false, true, true, false, false] _;refine zk 6 rfl (bM (i := 0) (k := 1) (c := .v _) bg bp rfl (by kernel_rfl) rfl rfl rfl rfl) ?_;show AI _ _ _ _ _ _ #[true, true, true, true, true, true, true, true, true, false, false] _;refine aG (i := 9) (by kernel_rfl) rfl rfl <| cj [0, 0] rfl (.inr ⟨rfl, rfl, rfl⟩) nA rfl (me F o1 0 a3 a4 a5 a6 a7 a8 t9 a10 a11 a12 a13 a14 x27 x28 x29 e30) rfl (fun c A' h => by cases h.1) ?_
      rintro av A' ⟨h, t31, rfl⟩; cases h
      show AI _ _ _ _ _ _ #[true, true, true, true, true, true, true, true, true, true, false] _;refine zk 10 rfl (asg rfl) ?_;show AI _ _ _ _ _ _ #[true, true, true, true, true, true, true, true, true, true, true] _;refine bc rfl ?_;exact Exists.intro (x27, x28, a3, x29, t31) ⟨H, bi [0, 0] (.cons (.refl _) (.cons (.refl _) (.cons (.refl _) (.nil _)))) rfl⟩
     ·refine aH rfl (ah (i := 0) ar rfl rfl rfl rfl) ?_;show AI _ _ _ _ _ _ #[false, true, true, true, true, true, false, true, true, false, false] _;refine aG (i := 0) (by kernel_rfl) rfl rfl <| bW rfl cP rfl (ci F e26) ?_;show AI _ _ _ _ _ _ #[true, true, true, true, true, true, false, true, true, false, false] _;refine zk 6 rfl (bM (i := 0) (k := 1) (c := .v _) bg bp rfl (by kernel_rfl) rfl rfl rfl rfl) ?_;show AI _ _ _ _ _ _ #[true, true, true, true, true, true, true, true, true, false, false] _;refine aG (i := 9) (by kernel_rfl) rfl rfl <| cj [0, 0] rfl (.inr ⟨rfl, rfl, rfl⟩) nA rfl (me F o1 0 a3 a4 a5 a6 a7 a8 t9 a10 a11 a12 a13 a14 x27 x28 x29 e30) rfl (fun c A' h => by cases h.1) ?_
      rintro av A' ⟨h, t32, rfl⟩; cases h
      show AI _ _ _ _ _ _ #[true, true, true, true, true, true, true, true, true, true, false] _;refine zk 10 rfl (asg rfl) ?_;show AI _ _ _ _ _ _ #[true, true, true, true, true, true, true, true, true, true, true] _;refine bc rfl ?_;exact Exists.intro (x27, x28, a3, x29, t32) ⟨H, bi [0, 0] (.cons (.refl _) (.cons (.refl _) (.cons (.refl _) (.nil _)))) rfl⟩
    ·replace H := bb (by decide) H;replace H := bl (by decide) H;obtain ⟨_, e33, H⟩ := du H;obtain ⟨x34, x35, x36, x37, e38, H⟩ := bnd4_s H;refine bA (by kernel_rfl) ?_;show AI _ _ _ _ _ 11 (Array.replicate 11 false) _;refine zk 1 rfl (ai (av := .pt _ _) rfl) ?_;show AI _ _ _ _ _ _ #[false, true, false, false, false, false, false, false, false, false, false] _;refine zk 2 rfl (am rfl) ?_;show AI _ _ _ _ _ _ #[false, true, true, false, false, false, false, false, false, false, false] _;refine zk 3 rfl (ag (n := 0) (by kernel_rfl) rfl) ?_;show AI _ _ _ _ _ _ #[false, true, true, true, false, false, false, false, false, false, false] _;refine zk 4 rfl (ag (n := 0) (by kernel_rfl) rfl) ?_;show AI _ _ _ _ _ _ #[false, true, true, true, true, false, false, false, false, false, false] _;refine zk 7 rfl (ai (av := .pt _ _) rfl) ?_;show AI _ _ _ _ _ _ #[false, true, true, true, true, false, false, true, false, false, false] _;refine zk 8 rfl (bt bH rfl (n := 5) (by kernel_rfl) rfl (ab rfl)) ?_;show AI _ _ _ _ _ _ #[false, true, true, true, true, false, false, true, true, false, false] _;refine cz (i := 0) (j := 5) (by kernel_rfl) rfl rfl rfl rfl ?_ ?_
     ·refine bW rfl cP rfl (ci F e33) ?_;show AI _ _ _ _ _ _ #[true, true, true, true, true, false, false, true, true, false, false] _;refine aG (i := 5) (by kernel_rfl) rfl rfl <| aH rfl (ah (i := 0) ar rfl rfl rfl rfl) ?_;show AI _ _ _ _ _ _ #[true, true, true, true, true, true, false, true, true, false, false] _;refine zk 6 rfl (bM (i := 1) (k := 1) (c := .v _) bg bp rfl (by kernel_rfl) rfl rfl rfl rfl) ?_;show AI _ _ _ _ _ _ #[true, true, true, true, true, true, true, true, true, false, false] _;refine aG (i := 9) (by kernel_rfl) rfl rfl <| cj [0, 0] rfl (.inr ⟨rfl, rfl, rfl⟩) nz rfl (md F o1 1 a3 a4 a5 a6 a7 a8 t9 a10 a11 a12 a13 a14 x34 x35 x36 x37 e38) rfl (fun c A' h => by cases h.1) ?_
      rintro av A' ⟨h, t39, rfl⟩; cases h
      show AI _ _ _ _ _ _ #[true, true, true, true, true, true, true, true, true, true, false] _;refine zk 10 rfl (asg rfl) ?_;show AI _ _ _ _ _ _ #[true, true, true, true, true, true, true, true, true, true, true] _;refine bc rfl ?_;exact Exists.intro (x34, x35, x36, x37, t39) ⟨H, bi [0, 0] (.cons (.refl _) (.cons (.refl _) (.cons (.refl _) (.nil _)))) rfl⟩
     ·refine aH rfl (ah (i := 0) ar rfl rfl rfl rfl) ?_;show AI _ _ _ _ _ _ #[false, true, true, true, true, true, false, true, true, false, false] _;refine aG (i := 0) (by kernel_rfl) rfl rfl <| bW rfl cP rfl (ci F e33) ?_;show AI _ _ _ _ _ _ #[true, true, true, true, true, true, false, true, true, false, false] _;refine zk 6 rfl (bM (i := 1) (k := 1) (c := .v _) bg bp rfl (by kernel_rfl) rfl rfl rfl rfl) ?_;show AI _ _ _ _ _ _ #[true, true, true, true, true, true, true, true, true, false, false] _;refine aG (i := 9) (by kernel_rfl) rfl rfl <| cj [0, 0] rfl (.inr ⟨rfl, rfl, rfl⟩) nz rfl (md F o1 1 a3 a4 a5 a6 a7 a8 t9 a10 a11 a12 a13 a14 x34 x35 x36 x37 e38) rfl (fun c A' h => by cases h.1) ?_
      rintro av A' ⟨h, t40, rfl⟩; cases h
      show AI _ _ _ _ _ _ #[true, true, true, true, true, true, true, true, true, true, false] _;refine zk 10 rfl (asg rfl) ?_;show AI _ _ _ _ _ _ #[true, true, true, true, true, true, true, true, true, true, true] _;refine bc rfl ?_;exact Exists.intro (x34, x35, x36, x37, t40) ⟨H, bi [0, 0] (.cons (.refl _) (.cons (.refl _) (.cons (.refl _) (.nil _)))) rfl⟩
    ·replace H := bb (by decide) H;replace H := bb (by decide) H;replace H := bl (by decide) H;obtain ⟨_, e41, H⟩ := du H;obtain ⟨x42, x43, x44, e45, H⟩ := fN H;refine bA (by kernel_rfl) ?_;show AI _ _ _ _ _ 11 (Array.replicate 11 false) _;refine zk 1 rfl (ai (av := .pt _ _) rfl) ?_;show AI _ _ _ _ _ _ #[false, true, false, false, false, false, false, false, false, false, false] _;refine zk 2 rfl (am rfl) ?_;show AI _ _ _ _ _ _ #[false, true, true, false, false, false, false, false, false, false, false] _;refine zk 3 rfl (ag (n := 0) (by kernel_rfl) rfl) ?_;show AI _ _ _ _ _ _ #[false, true, true, true, false, false, false, false, false, false, false] _;refine zk 4 rfl (ag (n := 0) (by kernel_rfl) rfl) ?_;show AI _ _ _ _ _ _ #[false, true, true, true, true, false, false, false, false, false, false] _;refine zk 7 rfl (ai (av := .pt _ _) rfl) ?_;show AI _ _ _ _ _ _ #[false, true, true, true, true, false, false, true, false, false, false] _;refine zk 8 rfl (bt bH rfl (n := 5) (by kernel_rfl) rfl (ab rfl)) ?_;show AI _ _ _ _ _ _ #[false, true, true, true, true, false, false, true, true, false, false] _;refine cz (i := 0) (j := 5) (by kernel_rfl) rfl rfl rfl rfl ?_ ?_
     ·refine bW rfl cP rfl (ci F e41) ?_;show AI _ _ _ _ _ _ #[true, true, true, true, true, false, false, true, true, false, false] _;refine aG (i := 5) (by kernel_rfl) rfl rfl <| aH rfl (ah (i := 0) ar rfl rfl rfl rfl) ?_;show AI _ _ _ _ _ _ #[true, true, true, true, true, true, false, true, true, false, false] _;refine zk 6 rfl (bM (i := 2) (k := 1) (c := .v _) bg bp rfl (by kernel_rfl) rfl rfl rfl rfl) ?_;show AI _ _ _ _ _ _ #[true, true, true, true, true, true, true, true, true, false, false] _;refine aG (i := 9) (by kernel_rfl) rfl rfl <| cj [0, 0] rfl (.inr ⟨rfl, rfl, rfl⟩) ny rfl (mX F o1 2 a3 a4 a5 a6 a7 a8 t9 a10 a11 a12 a13 a14 x42 x43 x44 e45) rfl (fun c A' h => by cases h.1) ?_
      rintro av A' ⟨h, t46, rfl⟩; cases h
      show AI _ _ _ _ _ _ #[true, true, true, true, true, true, true, true, true, true, false] _;refine zk 10 rfl (asg rfl) ?_;show AI _ _ _ _ _ _ #[true, true, true, true, true, true, true, true, true, true, true] _;refine bc rfl ?_;exact Exists.intro (x42, x43, a3, x44, t46) ⟨H, bi [0, 0] (.cons (.refl _) (.cons (.refl _) (.cons (.refl _) (.nil _)))) rfl⟩
     ·refine aH rfl (ah (i := 0) ar rfl rfl rfl rfl) ?_;show AI _ _ _ _ _ _ #[false, true, true, true, true, true, false, true, true, false, false] _;refine aG (i := 0) (by kernel_rfl) rfl rfl <| bW rfl cP rfl (ci F e41) ?_;show AI _ _ _ _ _ _ #[true, true, true, true, true, true, false, true, true, false, false] _;refine zk 6 rfl (bM (i := 2) (k := 1) (c := .v _) bg bp rfl (by kernel_rfl) rfl rfl rfl rfl) ?_;show AI _ _ _ _ _ _ #[true, true, true, true, true, true, true, true, true, false, false] _;refine aG (i := 9) (by kernel_rfl) rfl rfl <| cj [0, 0] rfl (.inr ⟨rfl, rfl, rfl⟩) ny rfl (mX F o1 2 a3 a4 a5 a6 a7 a8 t9 a10 a11 a12 a13 a14 x42 x43 x44 e45) rfl (fun c A' h => by cases h.1) ?_
      rintro av A' ⟨h, t47, rfl⟩; cases h
      show AI _ _ _ _ _ _ #[true, true, true, true, true, true, true, true, true, true, false] _;refine zk 10 rfl (asg rfl) ?_;show AI _ _ _ _ _ _ #[true, true, true, true, true, true, true, true, true, true, true] _;refine bc rfl ?_;exact Exists.intro (x42, x43, a3, x44, t47) ⟨H, bi [0, 0] (.cons (.refl _) (.cons (.refl _) (.cons (.refl _) (.nil _)))) rfl⟩
    ·replace H := bb (by decide) H;replace H := bb (by decide) H;replace H := bb (by decide) H;replace H := bl (by decide) H;obtain ⟨_, e48, H⟩ := du H;obtain ⟨x49, x50, x51, e52, H⟩ := fN H;refine bA (by kernel_rfl) ?_;show AI _ _ _ _ _ 11 (Array.replicate 11 false) _;refine zk 1 rfl (ai (av := .pt _ _) rfl) ?_;show AI _ _ _ _ _ _ #[false, true, false, false, false, false, false, false, false, false, false] _;refine zk 2 rfl (am rfl) ?_;show AI _ _ _ _ _ _ #[false, true, true, false, false, false, false, false, false, false, false] _;refine zk 3 rfl (ag (n := 0) (by kernel_rfl) rfl) ?_;show AI _ _ _ _ _ _ #[false, true, true, true, false, false, false, false, false, false, false] _;refine zk 4 rfl (ag (n := 0) (by kernel_rfl) rfl) ?_;show AI _ _ _ _ _ _ #[false, true, true, true, true, false, false, false, false, false, false] _;refine zk 7 rfl (ai (av := .pt _ _) rfl) ?_;show AI _ _ _ _ _ _ #[false, true, true, true, true, false, false, true, false, false, false] _;refine zk 8 rfl (bt bH rfl (n := 5) (by kernel_rfl) rfl (ab rfl)) ?_;show AI _ _ _ _ _ _ #[false, true, true, true, true, false, false, true, true, false, false] _;refine cz (i := 0) (j := 5) (by kernel_rfl) rfl rfl rfl rfl ?_ ?_
     ·refine bW rfl cP rfl (ci F e48) ?_;show AI _ _ _ _ _ _ #[true, true, true, true, true, false, false, true, true, false, false] _;refine aG (i := 5) (by kernel_rfl) rfl rfl <| aH rfl (ah (i := 0) ar rfl rfl rfl rfl) ?_;show AI _ _ _ _ _ _ #[true, true, true, true, true, true, false, true, true, false, false] _;refine zk 6 rfl (bM (i := 3) (k := 1) (c := .v _) bg bp rfl (by kernel_rfl) rfl rfl rfl rfl) ?_;show AI _ _ _ _ _ _ #[true, true, true, true, true, true, true, true, true, false, false] _;refine aG (i := 9) (by kernel_rfl) rfl rfl <| cj [0, 0] rfl (.inr ⟨rfl, rfl, rfl⟩) nx rfl (mV F o1 3 a3 a4 a5 a6 a7 a8 t9 a10 a11 a12 a13 a14 x49 x50 x51 e52) rfl (fun c A' h => by cases h.1) ?_
      rintro av A' ⟨h, t53, rfl⟩; cases h
      show AI _ _ _ _ _ _ #[true, true, true, true, true, true, true, true, true, true, false] _;refine zk 10 rfl (asg rfl) ?_;show AI _ _ _ _ _ _ #[true, true, true, true, true, true, true, true, true, true, true] _;refine bc rfl ?_;exact Exists.intro (x49, x50, a3, x51, t53) ⟨H, bi [0, 0] (.cons (.refl _) (.cons (.refl _) (.cons (.refl _) (.nil _)))) rfl⟩
     ·refine aH rfl (ah (i := 0) ar rfl rfl rfl rfl) ?_;show AI _ _ _ _ _ _ #[false, true, true, true, true, true, false, true, true, false, false] _;refine aG (i := 0) (by kernel_rfl) rfl rfl <| bW rfl cP rfl (ci F e48) ?_;show AI _ _ _ _ _ _ #[true, true, true, true, true, true, false, true, true, false, false] _;refine zk 6 rfl (bM (i := 3) (k := 1) (c := .v _) bg bp rfl (by kernel_rfl) rfl rfl rfl rfl) ?_;show AI _ _ _ _ _ _ #[true, true, true, true, true, true, true, true, true, false, false] _;refine aG (i := 9) (by kernel_rfl) rfl rfl <| cj [0, 0] rfl (.inr ⟨rfl, rfl, rfl⟩) nx rfl (mV F o1 3 a3 a4 a5 a6 a7 a8 t9 a10 a11 a12 a13 a14 x49 x50 x51 e52) rfl (fun c A' h => by cases h.1) ?_
      rintro av A' ⟨h, t54, rfl⟩; cases h
      show AI _ _ _ _ _ _ #[true, true, true, true, true, true, true, true, true, true, false] _;refine zk 10 rfl (asg rfl) ?_;show AI _ _ _ _ _ _ #[true, true, true, true, true, true, true, true, true, true, true] _;refine bc rfl ?_;exact Exists.intro (x49, x50, a3, x51, t54) ⟨H, bi [0, 0] (.cons (.refl _) (.cons (.refl _) (.cons (.refl _) (.nil _)))) rfl⟩
    ·replace H := bb (by decide) H;replace H := bb (by decide) H;replace H := bb (by decide) H;replace H := bb (by decide) H;replace H := bl (by decide) H;obtain ⟨_, e55, H⟩ := du H;obtain ⟨x56, x57, x58, e59, H⟩ := fN H;refine bA (by kernel_rfl) ?_;show AI _ _ _ _ _ 11 (Array.replicate 11 false) _;refine zk 1 rfl (ai (av := .pt _ _) rfl) ?_;show AI _ _ _ _ _ _ #[false, true, false, false, false, false, false, false, false, false, false] _;refine zk 2 rfl (am rfl) ?_;show AI _ _ _ _ _ _ #[false, true, true, false, false, false, false, false, false, false, false] _;refine zk 3 rfl (ag (n := 0) (by kernel_rfl) rfl) ?_;show AI _ _ _ _ _ _ #[false, true, true, true, false, false, false, false, false, false, false] _;refine zk 4 rfl (ag (n := 0) (by kernel_rfl) rfl) ?_;show AI _ _ _ _ _ _ #[false, true, true, true, true, false, false, false, false, false, false] _;refine zk 7 rfl (ai (av := .pt _ _) rfl) ?_;show AI _ _ _ _ _ _ #[false, true, true, true, true, false, false, true, false, false, false] _;refine zk 8 rfl (bt bH rfl (n := 5) (by kernel_rfl) rfl (ab rfl)) ?_;show AI _ _ _ _ _ _ #[false, true, true, true, true, false, false, true, true, false, false] _;refine cz (i := 0) (j := 5) (by kernel_rfl) rfl rfl rfl rfl ?_ ?_
     ·refine bW rfl cP rfl (ci F e55) ?_;show AI _ _ _ _ _ _ #[true, true, true, true, true, false, false, true, true, false, false] _;refine aG (i := 5) (by kernel_rfl) rfl rfl <| aH rfl (ah (i := 0) ar rfl rfl rfl rfl) ?_;show AI _ _ _ _ _ _ #[true, true, true, true, true, true, false, true, true, false, false] _;refine zk 6 rfl (bM (i := 4) (k := 1) (c := .v _) bg bp rfl (by kernel_rfl) rfl rfl rfl rfl) ?_;show AI _ _ _ _ _ _ #[true, true, true, true, true, true, true, true, true, false, false] _;refine aG (i := 9) (by kernel_rfl) rfl rfl <| cj [0, 0] rfl (.inr ⟨rfl, rfl, rfl⟩) nw rfl (mZ F o1 4 a3 a4 a5 a6 a7 a8 t9 a10 a11 a12 a13 a14 x56 x57 x58 e59) rfl (fun c A' h => by cases h.1) ?_
      rintro av A' ⟨h, t60, rfl⟩; cases h
      show AI _ _ _ _ _ _ #[true, true, true, true, true, true, true, true, true, true, false] _;refine zk 10 rfl (asg rfl) ?_;show AI _ _ _ _ _ _ #[true, true, true, true, true, true, true, true, true, true, true] _;refine bc rfl ?_;exact Exists.intro (x56, x57, a3, x58, t60) ⟨H, bi [0, 0] (.cons (.refl _) (.cons (.refl _) (.cons (.refl _) (.nil _)))) rfl⟩
     ·refine aH rfl (ah (i := 0) ar rfl rfl rfl rfl) ?_;show AI _ _ _ _ _ _ #[false, true, true, true, true, true, false, true, true, false, false] _;refine aG (i := 0) (by kernel_rfl) rfl rfl <| bW rfl cP rfl (ci F e55) ?_;show AI _ _ _ _ _ _ #[true, true, true, true, true, true, false, true, true, false, false] _;refine zk 6 rfl (bM (i := 4) (k := 1) (c := .v _) bg bp rfl (by kernel_rfl) rfl rfl rfl rfl) ?_;show AI _ _ _ _ _ _ #[true, true, true, true, true, true, true, true, true, false, false] _;refine aG (i := 9) (by kernel_rfl) rfl rfl <| cj [0, 0] rfl (.inr ⟨rfl, rfl, rfl⟩) nw rfl (mZ F o1 4 a3 a4 a5 a6 a7 a8 t9 a10 a11 a12 a13 a14 x56 x57 x58 e59) rfl (fun c A' h => by cases h.1) ?_
      rintro av A' ⟨h, t61, rfl⟩; cases h
      show AI _ _ _ _ _ _ #[true, true, true, true, true, true, true, true, true, true, false] _;refine zk 10 rfl (asg rfl) ?_;show AI _ _ _ _ _ _ #[true, true, true, true, true, true, true, true, true, true, true] _;refine bc rfl ?_;exact Exists.intro (x56, x57, a3, x58, t61) ⟨H, bi [0, 0] (.cons (.refl _) (.cons (.refl _) (.cons (.refl _) (.nil _)))) rfl⟩
    ·replace H := bb (by decide) H;replace H := bb (by decide) H;replace H := bb (by decide) H;replace H := bb (by decide) H;replace H := bb (by decide) H;replace H := bl (by decide) H;obtain ⟨_, e62, H⟩ := du H;obtain ⟨x63, x64, x65, x66, e67, H⟩ := bnd4_s H;refine bA (by kernel_rfl) ?_;show AI _ _ _ _ _ 11 (Array.replicate 11 false) _;refine zk 1 rfl (ai (av := .pt _ _) rfl) ?_;show AI _ _ _ _ _ _ #[false, true, false, false, false, false, false, false, false, false, false] _;refine zk 2 rfl (am rfl) ?_;show AI _ _ _ _ _ _ #[false, true, true, false, false, false, false, false, false, false, false] _;refine zk 3 rfl (ag (n := 0) (by kernel_rfl) rfl) ?_;show AI _ _ _ _ _ _ #[false, true, true, true, false, false, false, false, false, false, false] _;refine zk 4 rfl (ag (n := 0) (by kernel_rfl) rfl) ?_;show AI _ _ _ _ _ _ #[false, true, true, true, true, false, false, false, false, false, false] _;refine zk 7 rfl (ai (av := .pt _ _) rfl) ?_;show AI _ _ _ _ _ _ #[false, true, true, true, true, false, false, true, false, false, false] _;refine zk 8 rfl (bt bH rfl (n := 5) (by kernel_rfl) rfl (ab rfl)) ?_;show AI _ _ _ _ _ _ #[false, true, true, true, true, false, false, true, true, false, false] _;refine cz (i := 0) (j := 5) (by kernel_rfl) rfl rfl rfl rfl ?_ ?_
     ·refine bW rfl cP rfl (ci F e62) ?_;show AI _ _ _ _ _ _ #[true, true, true, true, true, false, false, true, true, false, false] _;refine aG (i := 5) (by kernel_rfl) rfl rfl <| aH rfl (ah (i := 0) ar rfl rfl rfl rfl) ?_;show AI _ _ _ _ _ _ #[true, true, true, true, true, true, false, true, true, false, false] _;refine zk 6 rfl (bM (i := 5) (k := 1) (c := .v _) bg bp rfl (by kernel_rfl) rfl rfl rfl rfl) ?_;show AI _ _ _ _ _ _ #[true, true, true, true, true, true, true, true, true, false, false] _;refine aG (i := 9) (by kernel_rfl) rfl rfl <| cj [0, 0] rfl (.inr ⟨rfl, rfl, rfl⟩) nv rfl (na F o1 5 a3 a4 a5 a6 a7 a8 t9 a10 a11 a12 a13 a14 x63 x64 x65 x66 e67) rfl (fun c A' h => by cases h.1) ?_
      rintro av A' ⟨h, t68, rfl⟩; cases h
      show AI _ _ _ _ _ _ #[true, true, true, true, true, true, true, true, true, true, false] _;refine zk 10 rfl (asg rfl) ?_;show AI _ _ _ _ _ _ #[true, true, true, true, true, true, true, true, true, true, true] _;refine bc rfl ?_;exact Exists.intro (x63, x64, x65, x66, t68) ⟨H, bi [0, 0] (.cons (.refl _) (.cons (.refl _) (.cons (.refl _) (.nil _)))) rfl⟩
     ·refine aH rfl (ah (i := 0) ar rfl rfl rfl rfl) ?_;show AI _ _ _ _ _ _ #[false, true, true, true, true, true, false, true, true, false, false] _;refine aG (i := 0) (by kernel_rfl) rfl rfl <| bW rfl cP rfl (ci F e62) ?_;show AI _ _ _ _ _ _ #[true, true, true, true, true, true, false, true, true, false, false] _;refine zk 6 rfl (bM (i := 5) (k := 1) (c := .v _) bg bp rfl (by kernel_rfl) rfl rfl rfl rfl) ?_;show AI _ _ _ _ _ _ #[true, true, true, true, true, true, true, true, true, false, false] _;refine aG (i := 9) (by kernel_rfl) rfl rfl <| cj [0, 0] rfl (.inr ⟨rfl, rfl, rfl⟩) nv rfl (na F o1 5 a3 a4 a5 a6 a7 a8 t9 a10 a11 a12 a13 a14 x63 x64 x65 x66 e67) rfl (fun c A' h => by cases h.1) ?_
      rintro av A' ⟨h, t69, rfl⟩; cases h
      show AI _ _ _ _ _ _ #[true, true, true, true, true, true, true, true, true, true, false] _;refine zk 10 rfl (asg rfl) ?_;show AI _ _ _ _ _ _ #[true, true, true, true, true, true, true, true, true, true, true] _;refine bc rfl ?_;exact Exists.intro (x63, x64, x65, x66, t69) ⟨H, bi [0, 0] (.cons (.refl _) (.cons (.refl _) (.cons (.refl _) (.nil _)))) rfl⟩
    ·replace H := bb (by decide) H;replace H := bb (by decide) H;replace H := bb (by decide) H;replace H := bb (by decide) H;replace H := bb (by decide) H;replace H := bb (by decide) H;obtain ⟨_, e70, H⟩ := du H;obtain ⟨x71, x72, e73, H⟩ := dr H;refine bA (by kernel_rfl) ?_;show AI _ _ _ _ _ 11 (Array.replicate 11 false) _;refine zk 1 rfl (ai (av := .pt _ _) rfl) ?_;show AI _ _ _ _ _ _ #[false, true, false, false, false, false, false, false, false, false, false] _;refine zk 2 rfl (am rfl) ?_;show AI _ _ _ _ _ _ #[false, true, true, false, false, false, false, false, false, false, false] _;refine zk 3 rfl (ag (n := 0) (by kernel_rfl) rfl) ?_;show AI _ _ _ _ _ _ #[false, true, true, true, false, false, false, false, false, false, false] _;refine zk 4 rfl (ag (n := 0) (by kernel_rfl) rfl) ?_;show AI _ _ _ _ _ _ #[false, true, true, true, true, false, false, false, false, false, false] _;refine zk 7 rfl (ai (av := .pt _ _) rfl) ?_;show AI _ _ _ _ _ _ #[false, true, true, true, true, false, false, true, false, false, false] _;refine zk 8 rfl (bt bH rfl (n := 5) (by kernel_rfl) rfl (ab rfl)) ?_;show AI _ _ _ _ _ _ #[false, true, true, true, true, false, false, true, true, false, false] _;refine cz (i := 0) (j := 5) (by kernel_rfl) rfl rfl rfl rfl ?_ ?_
     ·refine bW rfl cP rfl (ci F e70) ?_;show AI _ _ _ _ _ _ #[true, true, true, true, true, false, false, true, true, false, false] _;refine aG (i := 5) (by kernel_rfl) rfl rfl <| aH rfl (ah (i := 0) ar rfl rfl rfl rfl) ?_;show AI _ _ _ _ _ _ #[true, true, true, true, true, true, false, true, true, false, false] _;refine zk 6 rfl (bM (i := 6) (k := 1) (c := .v _) bg bp rfl (by kernel_rfl) rfl rfl rfl rfl) ?_;show AI _ _ _ _ _ _ #[true, true, true, true, true, true, true, true, true, false, false] _;refine aG (i := 9) (by kernel_rfl) rfl rfl <| cj [0, 0] rfl (.inr ⟨rfl, rfl, rfl⟩) nu rfl (mW F o1 6 a3 a4 a5 a6 a7 a8 t9 a10 a11 a12 a13 a14 x71 x72 e73) rfl (fun c A' h => by cases h.1) ?_
      rintro av A' ⟨h, rfl⟩; cases h
      show AI _ _ _ _ _ _ #[true, true, true, true, true, true, true, true, true, true, false] _;refine zk 10 rfl (asg rfl) ?_;show AI _ _ _ _ _ _ #[true, true, true, true, true, true, true, true, true, true, true] _;refine bc rfl ?_;exact Exists.intro (x71, x72, a3, a8, t9) ⟨H, bi [0, 0] (.cons (.refl _) (.cons (.refl _) (.cons (.refl _) (.nil _)))) rfl⟩
     ·refine aH rfl (ah (i := 0) ar rfl rfl rfl rfl) ?_;show AI _ _ _ _ _ _ #[false, true, true, true, true, true, false, true, true, false, false] _;refine aG (i := 0) (by kernel_rfl) rfl rfl <| bW rfl cP rfl (ci F e70) ?_;show AI _ _ _ _ _ _ #[true, true, true, true, true, true, false, true, true, false, false] _;refine zk 6 rfl (bM (i := 6) (k := 1) (c := .v _) bg bp rfl (by kernel_rfl) rfl rfl rfl rfl) ?_;show AI _ _ _ _ _ _ #[true, true, true, true, true, true, true, true, true, false, false] _;refine aG (i := 9) (by kernel_rfl) rfl rfl <| cj [0, 0] rfl (.inr ⟨rfl, rfl, rfl⟩) nu rfl (mW F o1 6 a3 a4 a5 a6 a7 a8 t9 a10 a11 a12 a13 a14 x71 x72 e73) rfl (fun c A' h => by cases h.1) ?_
      rintro av A' ⟨h, rfl⟩; cases h
      show AI _ _ _ _ _ _ #[true, true, true, true, true, true, true, true, true, true, false] _;refine zk 10 rfl (asg rfl) ?_;show AI _ _ _ _ _ _ #[true, true, true, true, true, true, true, true, true, true, true] _;refine bc rfl ?_;exact Exists.intro (x71, x72, a3, a8, t9) ⟨H, bi [0, 0] (.cons (.refl _) (.cons (.refl _) (.cons (.refl _) (.nil _)))) rfl⟩
   rintro ⟨y74, y75, y76, y77, t78⟩ H;replace H : cA F a4 a5 a6 a7 a10 y74 y75 y76 y77 = some (r15, r16, r17) := H
   unfold cA at H
   refine aE rfl (fun c80 => ?_) (fun c80 => ?_)
   ·replace H := bl c80 H;refine aL ?_;obtain ⟨rfl, rfl, rfl⟩ := gc H;exact And.intro rfl (Exists.intro _ (Exists.intro _ ⟨aV rfl, aI [0, 0] rfl, rfl, t78, rfl⟩))
   ·replace H := bb c80 H;refine ak <| ac ?_;show AR _ _ _ _ _ [0, 1, 2, 3, 4, 5, 6, 7, 8] _;refine zS rfl (aM (n := 0) (by kernel_rfl) rfl (ab rfl)) <| zS rfl (aJ ar rfl rfl) <| zS rfl (eG rfl rfl) <| zm rfl <| aN (l := [8]) 46 (B ((decide (500 ≤ a10)) && (decide (a10 ≤ 599)))) (fun K => ?_) ?_
    ·rcases af (decide (500 ≤ a10)) with h81 | h81
     ·refine zU h81 rfl (aM (n := 0) (by kernel_rfl) rfl (ab rfl)) <| zU h81 rfl (aJ ar rfl rfl) <| zU h81 rfl (dq rfl rfl) <| zS rfl (ay (av := .v _) rfl h81 rfl) ?_;exact K _ 3 _ (aq (cc h81)) rfl rfl
     ·refine zF h81 rfl <| zF h81 rfl <| zF h81 rfl <| zS rfl (au (av := .v _) rfl h81 rfl) ?_;exact K _ 3 _ (aq (cd h81)) rfl rfl
    refine za rfl <| al <| aE rfl (fun c82 => ?_) (fun c82 => ?_)
    ·replace H := bl c82 H;obtain ⟨x83, x84, x85, e86, H⟩ := fN H;refine ac ?_;show AR _ _ _ _ _ [0, 1] _;refine zS rfl (ai (av := .pt _ _) rfl) <| ao rfl rfl (cq [0, 0] rfl jj rfl (jc F o1 y75 y76 a4 a5 a6 a7 y77 t78 3 x83 x84 x85 e86) rfl (fun c A' h => by cases h.1) ?_)
     rintro av A' ⟨h, t87, rfl⟩; cases h
     refine al ?_;obtain ⟨rfl, rfl, rfl⟩ := gc H;exact And.intro rfl (Exists.intro _ (Exists.intro _ ⟨aV rfl, aI [0, 0] rfl, rfl, t87, rfl⟩))
    ·replace H := bb c82 H;obtain ⟨x88, x89, x90, e91, H⟩ := fN H;refine ac ?_;show AR _ _ _ _ _ [0, 1] _;refine zS rfl (ai (av := .pt _ _) rfl) <| ao rfl rfl (cq [0, 0] rfl jj rfl (jc F o1 y75 y76 a4 a5 a6 a7 y77 t78 2 x88 x89 x90 e91) rfl (fun c A' h => by cases h.1) ?_)
     rintro av A' ⟨h, t92, rfl⟩; cases h
     refine al ?_;obtain ⟨rfl, rfl, rfl⟩ := gc H;exact And.intro rfl (Exists.intro _ (Exists.intro _ ⟨aV rfl, aI [0, 0] rfl, rfl, t92, rfl⟩))
set_option maxRecDepth 100000 in
set_option maxHeartbeats 1000000 in
theorem pD (F : Nat) (a1 : Int) (a2 : Int) (a3 : List UInt8) (a4 : List UInt8) (a5 : List UInt8) (a6 : List UInt8) (H : kz F a1 a2 a3 a4 a5 a6 = some ()) : ACalls Tryz.prog 34 [.agg [i64 a1, i64 a2, S a3, S a4, S a5, slE Enc.byte a6 none]] [] (fun e A' => ∃ ob1 : Nat, e = .ret (.pt ob1 0) ∧ A' = [.obj ob1 [i64 a1, i64 a2, S a3, S a4, S a5, slE Enc.byte a6 none, fW]]) := by
 unfold kz at H
 refine az Tryz.func34 rfl rfl ?_;show AW _ _ 10 _ _ _;refine ak <| ac ?_;show AR _ _ _ _ _ [0, 1] _;refine zX rfl (js rfl (.inr ⟨_, rfl⟩)) ?_;rintro _ _ ⟨o7, rfl, rfl⟩;refine za rfl <| al <| ak ?_;obtain ⟨g8, H⟩ := aW H;refine ac ?_;show AR _ _ _ _ _ [0, 1, 2, 3, 4] _;refine zS rfl (ag (n := 5) (by kernel_rfl) rfl) <| zR rfl (ah (i := 0) aa rfl rfl rfl rfl) <| ao rfl rfl (aP rfl nG rfl (iL a6 none (dt g8)) ?_);refine zS rfl (ag (n := 5) (by kernel_rfl) rfl) <| s0 rfl rfl (ap (i := 0) (c := slE _ _ _) (by kernel_rfl) rfl rfl rfl rfl (ab rfl)) <| al <| ak <| ac ?_;show AR _ _ _ _ _ [0, 1, 2, 3] _;refine zR rfl (dd (i := 0) (n := 6) bq rfl (by kernel_rfl) rfl rfl (ab rfl)) <| zS rfl (jt (zs := [.int .i64 0, .int .i64 0, .string ⟨#[]⟩, .string ⟨#[]⟩, .string ⟨#[]⟩, .slice none 0 0, .slice none 0 0]) (ps := [(0, 6), (6, 1)]) (cs := [i64 a1, i64 a2, S a3, S a4, S a5, slE Enc.byte a6 none, fW]) (by kernel_rfl) rfl rfl) <| zX rfl (js rfl (.inr ⟨_, rfl⟩)) ?_;rintro _ _ ⟨o9, rfl, rfl⟩;refine zS rfl (aC (av := .pt _ _) rfl) <| al <| aU ?_;exact And.intro rfl (Exists.intro _ (Exists.intro _ ⟨aQ rfl (.refl _), aI [0] rfl, o9, rfl, rfl⟩))
set_option maxRecDepth 100000 in
set_option maxHeartbeats 1000000 in
theorem km (F : Nat) (a1 : Int) (a2 : Int) (a3 : List UInt8) (a4 : List UInt8) (a5 : List UInt8) (a6 : List UInt8) (a7 : List UInt8) (q8 : Option Nat) (r9 : Int) (r10 : Int) (r11 : List UInt8) (r12 : List UInt8) (r13 : List UInt8) (r14 : List UInt8) (r15 : List UInt8) (H : lw F a1 a2 a3 a4 a5 a6 a7 = some (r9, r10, r11, r12, r13, r14, r15)) : ACalls Tryz.prog 15 [.agg [i64 a1, i64 a2, S a3, S a4, S a5, slE Enc.byte a6 none], slE Enc.byte a7 q8] [] (Ret (.tup [.agg [i64 r9, i64 r10, S r11, S r12, S r13, slE Enc.byte r14 none], slE Enc.byte r15 none]) []) := by
 unfold lw at H
 refine az Tryz.func15 rfl rfl ?_;show AW _ _ 39 _ _ _;refine ak <| ac ?_;show AR _ _ _ _ _ [0, 1, 2] _;refine zR rfl (cO rfl (.inr ⟨_, rfl⟩)) <| zX rfl (cm (zs := [.int .i64 0, .int .i64 0, .string ⟨#[]⟩, .string ⟨#[]⟩, .string ⟨#[]⟩, .slice none 0 0]) (by kernel_rfl)) ?_;rintro _ _ ⟨o16, rfl, rfl⟩;refine za rfl <| al <| ak ?_;obtain ⟨_, e17, H⟩ := du H;refine ac ?_;show AR _ _ _ _ _ [0, 1, 2] _;refine zS rfl (bt bq rfl (n := 6) (by kernel_rfl) rfl (ab rfl)) <| ao rfl rfl (cq [] rfl rg rfl (pD F a1 a2 a3 a4 a5 a6 e17) rfl (fun c A' h => by obtain ⟨_, h, _⟩ := h; cases h) ?_)
 rintro av A' ⟨o18, h, rfl⟩; cases h
 refine zS rfl (aC (av := .pt _ _) rfl) <| al ?_
 refine AW.nil_objAt 0 6 1 5 rfl rfl fun t19 => ?_
 show AW _ _ _ _ _ ⟨_, _, [.tok t19 5, .obj o18 [i64 a1, i64 a2, S a3, S a4, S a5, slE Enc.byte a6 none, slE Enc.byte [] (some t19)], .obj o16 [i64 0, i64 0, S ([] : List UInt8), S ([] : List UInt8), S ([] : List UInt8), fW]]⟩;refine cr (X := Int × Int × (List UInt8) × Nat) (fun (y46, y47, y48, t49) => ⟨[(4, .pt o16 0), (6, .pt o18 0)], [], [.obj o18 [i64 y46, i64 y47, S a3, S a4, S a5, slE Enc.byte a6 none, slE Enc.byte y48 (some t49)], .obj o16 [i64 0, i64 0, S ([] : List UInt8), S ([] : List UInt8), S ([] : List UInt8), fW], .tok t49 5]⟩) (fun (y46, y47, y48, t49) => hO F a3 a4 a5 a6 y46 y47 y48 = some (r9, r10, r11, r12, r13, r14, r15)) ?_ ?_
 ·refine ak ?_;obtain ⟨_, e20, H⟩ := du H;obtain ⟨x23, x24, x25, e26, H⟩ := fN H;refine ac ?_;show AR _ _ _ _ _ [0, 1, 2, 3, 4] _;refine ao rfl rfl (cq [] rfl rf rfl (qB F e20) rfl (fun c A' h => by obtain ⟨_, h, _⟩ := h; cases h) ?_)
  rintro av A' ⟨o21, h, rfl⟩; cases h
  refine zS rfl (ai (av := slE _ _ _) rfl) ?_
  refine AR.nil_objAt 0 0 1 5 rfl rfl fun t22 => ?_
  show AR _ _ _ _ _ _ ⟨_, _, [.tok t22 5, .obj o21 [slE Enc.byte [] (some t22), B false], .tok t19 5, .obj o18 [i64 a1, i64 a2, S a3, S a4, S a5, slE Enc.byte a6 none, slE Enc.byte [] (some t19)], .obj o16 [i64 0, i64 0, S ([] : List UInt8), S ([] : List UInt8), S ([] : List UInt8), fW]]⟩;refine ao rfl rfl (cq [1, 0] rfl re rfl (qA F o21 [] t22 false a7 q8 x23 x24 x25 e26) rfl (fun c A' h => by cases h.1) ?_)
  rintro av A' ⟨h, t27, rfl⟩; cases h
  refine zS rfl (aX bU rfl) <| zm rfl <| al <| bx <| AW.loop (X := Nat × Int × Int × Int × (List UInt8) × Nat) (fun (n34, y28, y29, y30, y31, t32) => ⟨[(4, .pt o16 0), (6, .pt o18 0), (13, slE (aD Enc.int (aD (Enc.sl Enc.str) (aD Enc.int (aD Enc.int Enc.int)))) x23 none), (14, i64 (x23.length : Int)), (15, i64 y28)], [], [.obj o18 [i64 y29, i64 y30, S a3, S a4, S a5, slE Enc.byte a6 none, slE Enc.byte y31 (some t32)], .obj o16 [i64 0, i64 0, S ([] : List UInt8), S ([] : List UInt8), S ([] : List UInt8), fW], .tok t32 5]⟩) (fun (n34, y28, y29, y30, y31, t32) => hP F a3 a4 a5 a6 x23 n34 (y28, y29, y30, y31) = some (r9, r10, r11, r12, r13, r14, r15)) (fun (n34, y28, y29, y30, y31, t32) => n34) (F, 0, a1, a2, [], t19) H (bi [3, 3, 2] (.cons (.refl _) (.cons (.refl _) (.cons (.refl _) (.cons (.refl _) (.cons (.refl _) (.nil _)))))) rfl) ?_;rintro ⟨n34, y28, y29, y30, y31, t32⟩ H;obtain ⟨n34, rfl, H⟩ := gB H;replace H : hU F a3 a4 a5 a6 x23 (hP F a3 a4 a5 a6 x23 n34) y28 y29 y30 y31 = some (r9, r10, r11, r12, r13, r14, r15) := H
  unfold hU at H
  refine ak <| ac ?_;show AR _ _ _ _ _ [0] _;refine zS rfl (ct rfl rfl) <| al <| ak <| aE rfl (fun c35 => ?_) (fun c35 => ?_)
  ·replace H := bl c35 H;refine aL <| ak <| bx <| ak ?_;obtain ⟨g36, H⟩ := aW H;obtain ⟨x37, e38, H⟩ := cl H;refine ac ?_;show AR _ _ _ _ _ [0, 1, 2, 3] _;refine zS rfl (eo (E := (aD Enc.int (aD (Enc.sl Enc.str) (aD Enc.int (aD Enc.int Enc.int))))) bU (by kernel_rfl) rfl rfl g36 e38) <| zS rfl (bt bH rfl (n := 5) (by kernel_rfl) rfl (ab rfl)) <| zX rfl (cm (zs := [.int .i64 0, .slice none 0 0, .int .i64 0, .int .i64 0, .int .i64 0]) (by kernel_rfl)) ?_;rintro _ _ ⟨o39, rfl, rfl⟩;refine s0 rfl rfl (bk (i := 0) (vs := [i64 x37.1, slE Enc.str x37.2.1 none, i64 x37.2.2.1, i64 x37.2.2.2.1, i64 x37.2.2.2.2]) (by kernel_rfl) rfl rfl (by simp [bI, slE]) rfl (ab rfl)) <| AR.freezeCp 8 0 rfl rfl ?_;show AR _ _ _ _ _ _ ⟨_, _, [.obj o18 [i64 y29, i64 y30, S a3, S a4, S a5, slE Enc.byte a6 none, slE Enc.byte y31 (some t32)], .obj o16 [i64 0, i64 0, S ([] : List UInt8), S ([] : List UInt8), S ([] : List UInt8), fW], .tok t32 5]⟩;refine al ?_;obtain ⟨x40, x41, x42, e43, H⟩ := fN H;refine ac ?_;show AR _ _ _ _ _ [0, 1, 2] _;refine zS rfl (ai (av := .pt _ _) rfl) <| zS rfl (bt bH rfl (n := 5) (by kernel_rfl) rfl (ab rfl)) <| ao rfl rfl (cq [0, 1] rfl rd rfl (qC F o18 y29 y30 a3 a4 a5 a6 y31 t32 x37.1 x37.2.1 x37.2.2.1 x37.2.2.2.1 x37.2.2.2.2 x40 x41 x42 e43) rfl (fun c A' h => by cases h.1) ?_)
   rintro av A' ⟨h, t44, rfl⟩; cases h
   refine al ?_;obtain ⟨g45, H⟩ := aW H;refine ac ?_;show AR _ _ _ _ _ [0, 1] _;refine zS rfl (gz rfl rfl g45) <| zm rfl <| al ?_;exact Exists.intro (n34, y28 + 1, x40, x41, x42, t44) ⟨H, Nat.lt_succ_self _, bi [0, 1, 0] (.cons (.refl _) (.cons (.refl _) (.cons (.refl _) (.cons (.refl _) (.cons (.refl _) (.nil _)))))) rfl⟩
  ·replace H := bb c35 H;refine AW.exit ?_;exact Exists.intro (y29, y30, y31, t32) ⟨H, bi [0, 0, 0] (.cons (.refl _) (.cons (.refl _) (.nil _))) rfl⟩
 rintro ⟨y46, y47, y48, t49⟩ H;replace H : hO F a3 a4 a5 a6 y46 y47 y48 = some (r9, r10, r11, r12, r13, r14, r15) := H
 unfold hO at H
 refine cr (X := Int × Int) (fun (y55, y56) => ⟨[(4, .pt o16 0), (6, .pt o18 0)], [], [.obj o18 [i64 y55, i64 y56, S a3, S a4, S a5, slE Enc.byte a6 none, slE Enc.byte y48 (some t49)], .obj o16 [i64 0, i64 0, S ([] : List UInt8), S ([] : List UInt8), S ([] : List UInt8), fW], .tok t49 5]⟩) (fun (y55, y56) => gl a3 a4 a5 a6 y48 y55 y56 = some (r9, r10, r11, r12, r13, r14, r15)) ?_ ?_
 ·refine ak <| ac ?_;show AR _ _ _ _ _ [0, 1, 2, 3, 4, 5] _;refine zS rfl (ai (av := .pt _ _) rfl) <| zS rfl (am rfl) <| zS rfl (ag (n := 0) (by kernel_rfl) rfl) <| zS rfl (ag (n := 0) (by kernel_rfl) rfl) <| zR rfl (ah (i := 0) ar rfl rfl rfl rfl) <| zS rfl (eM rfl rfl) <| al <| aE rfl (fun c51 => ?_) (fun c51 => ?_)
  ·replace H := bl c51 H;obtain ⟨x52, x53, e54, H⟩ := dr H;refine ac ?_;show AR _ _ _ _ _ [0, 1] _;refine zS rfl (ai (av := .pt _ _) rfl) <| ao rfl rfl (cq [0, 1] rfl nF rfl (mY F o18 y46 y47 a3 a4 a5 a6 y48 t49 x52 x53 e54) rfl (fun c A' h => by cases h.1) ?_)
   rintro av A' ⟨h, rfl⟩; cases h
   refine al ?_;exact Exists.intro (x52, x53) ⟨H, bi [0, 1, 0] (.cons (.refl _) (.cons (.refl _) (.nil _))) rfl⟩
  ·replace H := bb c51 H;refine aL ?_;exact Exists.intro (y46, y47) ⟨H, bi [0, 0, 0] (.cons (.refl _) (.cons (.refl _) (.nil _))) rfl⟩
 rintro ⟨y55, y56⟩ H;replace H : gl a3 a4 a5 a6 y48 y55 y56 = some (r9, r10, r11, r12, r13, r14, r15) := H
 unfold gl at H
 refine ak <| bA (by kernel_rfl) ?_;show AI _ _ _ _ _ 10 (Array.replicate 10 false) _;refine zk 0 rfl (ai (av := .pt _ _) rfl) ?_;show AI _ _ _ _ _ _ #[true, false, false, false, false, false, false, false, false, false] _;refine zk 1 rfl (am rfl) ?_;show AI _ _ _ _ _ _ #[true, true, false, false, false, false, false, false, false, false] _;refine zk 2 rfl (ag (n := 0) (by kernel_rfl) rfl) ?_;show AI _ _ _ _ _ _ #[true, true, true, false, false, false, false, false, false, false] _;refine zk 4 rfl (ai (av := .pt _ _) rfl) ?_;show AI _ _ _ _ _ _ #[true, true, true, false, true, false, false, false, false, false] _;refine zk 5 rfl (am rfl) ?_;show AI _ _ _ _ _ _ #[true, true, true, false, true, true, false, false, false, false] _;refine zk 6 rfl (ag (n := 6) (by kernel_rfl) rfl) ?_;show AI _ _ _ _ _ _ #[true, true, true, false, true, true, true, false, false, false] _;refine cz (i := 3) (j := 7) (by kernel_rfl) rfl rfl rfl rfl ?_ ?_
 ·refine aH rfl (dd (i := 0) (n := 6) bq rfl (by kernel_rfl) rfl rfl (ab rfl)) ?_;show AI _ _ _ _ _ _ #[true, true, true, true, true, true, true, false, false, false] _;refine cz (i := 7) (j := 8) (by kernel_rfl) rfl rfl rfl rfl ?_ ?_
  ·refine aH rfl (ah (i := 0) aa rfl rfl rfl rfl) ?_;show AI _ _ _ _ _ _ #[true, true, true, true, true, true, true, true, false, false] _;refine aG (i := 8) (by kernel_rfl) rfl rfl <| bS (bk (i := 1) (vs := [i64 y55, i64 y56, S a3, S a4, S a5, slE Enc.byte a6 none]) (by kernel_rfl) rfl rfl (by simp [bI, slE]) rfl (ab rfl)) ?_;show AI _ _ _ _ _ _ #[true, true, true, true, true, true, true, true, true, false] _;refine zk 9 rfl (aC (av := slE _ _ _) rfl) ?_;show AI _ _ _ _ _ _ #[true, true, true, true, true, true, true, true, true, true] _;refine bc rfl <| aU ?_;obtain ⟨rfl, rfl, rfl, rfl, rfl, rfl, rfl⟩ := res7 H;exact And.intro rfl (Exists.intro _ (Exists.intro _ ⟨eC (fL rfl (CellV.agg (off := 0) (cs := [i64 y55, i64 y56, S a3, S a4, S a5, slE Enc.byte a6 none]) (n := 6) 1 bq rfl (by kernel_rfl) rfl rfl (ab rfl)) ((show PlaceV _ _ _ (.tmp _) _ from (.tok _ _ _)))), aI [] rfl, rfl, rfl⟩))
  ·refine bS (bk (i := 1) (vs := [i64 y55, i64 y56, S a3, S a4, S a5, slE Enc.byte a6 none]) (by kernel_rfl) rfl rfl (by simp [bI, slE]) rfl (ab rfl)) ?_;show AI _ _ _ _ _ _ #[true, true, true, true, true, true, true, false, true, false] _;refine aG (i := 7) (by kernel_rfl) rfl rfl <| aH rfl (ah (i := 0) aa rfl rfl rfl rfl) ?_;show AI _ _ _ _ _ _ #[true, true, true, true, true, true, true, true, true, false] _;refine zk 9 rfl (aC (av := slE _ _ _) rfl) ?_;show AI _ _ _ _ _ _ #[true, true, true, true, true, true, true, true, true, true] _;refine bc rfl <| aU ?_;obtain ⟨rfl, rfl, rfl, rfl, rfl, rfl, rfl⟩ := res7 H;exact And.intro rfl (Exists.intro _ (Exists.intro _ ⟨eC (fL rfl (CellV.agg (off := 0) (cs := [i64 y55, i64 y56, S a3, S a4, S a5, slE Enc.byte a6 none]) (n := 6) 1 bq rfl (by kernel_rfl) rfl rfl (ab rfl)) ((show PlaceV _ _ _ (.tmp _) _ from (.tok _ _ _)))), aI [] rfl, rfl, rfl⟩))
 ·refine aH rfl (ah (i := 0) aa rfl rfl rfl rfl) ?_;show AI _ _ _ _ _ _ #[true, true, true, false, true, true, true, true, false, false] _;refine aG (i := 3) (by kernel_rfl) rfl rfl <| aH rfl (dd (i := 0) (n := 6) bq rfl (by kernel_rfl) rfl rfl (ab rfl)) ?_;show AI _ _ _ _ _ _ #[true, true, true, true, true, true, true, true, false, false] _;refine aG (i := 8) (by kernel_rfl) rfl rfl <| bS (bk (i := 1) (vs := [i64 y55, i64 y56, S a3, S a4, S a5, slE Enc.byte a6 none]) (by kernel_rfl) rfl rfl (by simp [bI, slE]) rfl (ab rfl)) ?_;show AI _ _ _ _ _ _ #[true, true, true, true, true, true, true, true, true, false] _;refine zk 9 rfl (aC (av := slE _ _ _) rfl) ?_;show AI _ _ _ _ _ _ #[true, true, true, true, true, true, true, true, true, true] _;refine bc rfl <| aU ?_;obtain ⟨rfl, rfl, rfl, rfl, rfl, rfl, rfl⟩ := res7 H;exact And.intro rfl (Exists.intro _ (Exists.intro _ ⟨eC (fL rfl (CellV.agg (off := 0) (cs := [i64 y55, i64 y56, S a3, S a4, S a5, slE Enc.byte a6 none]) (n := 6) 1 bq rfl (by kernel_rfl) rfl rfl (ab rfl)) ((show PlaceV _ _ _ (.tmp _) _ from (.tok _ _ _)))), aI [] rfl, rfl, rfl⟩))
end Go.Proofs.YtgjkjkmmgdbcoaaGreatDoor
namespace Go.Pv
def qr : List UInt8 := [69, 72, 76, 79, 32, 104, 13, 10, 77, 65, 73, 76, 32, 70, 82, 79, 77, 58, 60, 97, 64, 98, 62, 13, 10, 82, 67, 80, 84, 32, 84, 79, 58, 60, 99, 64, 100, 62, 13, 10, 68, 65, 84, 65, 13, 10, 120, 13, 10, 46, 13, 10, 81, 85, 73, 84, 13, 10]
def jQ (F : Nat) : Option ((List UInt8)) :=
some ([50, 50, 48, 32, 97, 13, 10, 50, 53, 48, 45, 97, 13, 10, 50, 53] ++ [48, 32, 83, 73, 90, 69, 32, 49, 48, 48, 48, 48, 48, 13, 10, 50] ++ [53, 48, 32, 111, 107, 13, 10, 50, 53, 48, 32, 111, 107, 13, 10, 51] ++ [53, 52, 32, 103, 111, 13, 10, 50, 53, 48, 32, 111, 107, 13, 10, 50] ++ [50, 49, 32, 98, 121, 101, 13, 10] : List UInt8)
def eY (x3 : Int × Int × (List UInt8) × (List UInt8) × (List UInt8) × (List UInt8) × Int) (y14 : List UInt8) (y15 : Int) (y16 : Int) (y17 : List UInt8) (y18 : List UInt8) (y19 : List UInt8) (y20 : List UInt8) : Option Bool :=
some ((((decide (x3.2.2.2.2.2.2 = 0)) && (decide (y16 = 1))) && (decide (y15 = 7))) && (decide (y14 = qr)))
def fI (F : Nat) : Option Bool :=
bnd (ib F ([97, 64, 98] : List UInt8) ([99, 64, 100] : List UInt8) ([104] : List UInt8) ([120, 13, 10] : List UInt8)) fun x3 =>
bnd (jQ F) fun x6 =>
bnd (lw F x3.1 x3.2.1 x3.2.2.1 x3.2.2.2.1 x3.2.2.2.2.1 x3.2.2.2.2.2.1 x6) fun x8 =>
eY x3 x8.2.2.2.2.2.2 x8.1 x8.2.1 x8.2.2.1 x8.2.2.2.1 x8.2.2.2.2.1 x8.2.2.2.2.2.1
def hH (F : Nat) (a1 : Int) (a2 : Int) (a3 : List UInt8) (a4 : List UInt8) (a5 : List UInt8) (a6 : List UInt8) : Option Bool :=
some ((((decide ((a3.length : Int) ≤ 100)) && (decide ((a4.length : Int) ≤ 100))) && (decide ((a5.length : Int) ≤ 100))) && (decide ((a6.length : Int) ≤ 600)))
end Go.Pv
namespace Go.Proofs.YtgjkjkmmgdbcoaaGreatDoor
open Go.RowKit Go.Av Go.Pv
theorem rk : ∀ (args : Array Value) (w : World), (callFunc 12 args).run Tryz.prog w = .ok (.enter 12 args) w := fun _ _ => by kernel_rfl
theorem lc : ∀ (args : Array Value) (w : World), (callFunc 15 args).run Tryz.prog w = .ok (.enter 15 args) w := fun _ _ => by kernel_rfl
theorem nI : ∀ (args : Array Value) (w : World), (callFunc 26 args).run Tryz.prog w = .ok (.enter 26 args) w := fun _ _ => by kernel_rfl
set_option maxRecDepth 100000 in
set_option maxHeartbeats 1000000 in
theorem kd (F : Nat) (r1 : List UInt8) (H : jQ F = some r1) : ACalls Tryz.prog 26 [] [] (Ret (slE Enc.byte r1 none) []) := by
 unfold jQ at H
 refine az Tryz.func26 rfl rfl ?_;show AW _ _ 3 _ _ _;refine ak <| ac ?_;show AR _ _ _ _ _ [0] _;refine za rfl <| al <| ak <| ac ?_;show AR _ _ _ _ _ [0, 1, 2] _;refine zX rfl (gr (E := Enc.byte) (bytes := 1) (xs := [.const _, .const _, .const _, .const _, .const _, .const _, .const _, .const _, .const _, .const _, .const _, .const _, .const _, .const _, .const _, .const _] ++ [.const _, .const _, .const _, .const _, .const _, .const _, .const _, .const _, .const _, .const _, .const _, .const _, .const _, .const _, .const _, .const _] ++ [.const _, .const _, .const _, .const _, .const _, .const _, .const _, .const _, .const _, .const _, .const _, .const _, .const _, .const _, .const _, .const _] ++ [.const _, .const _, .const _, .const _, .const _, .const _, .const _, .const _, .const _, .const _, .const _, .const _, .const _, .const _, .const _, .const _] ++ [.const _, .const _, .const _, .const _, .const _, .const _, .const _, .const _]) (l := ([50, 50, 48, 32, 97, 13, 10, 50, 53, 48, 45, 97, 13, 10, 50, 53] ++ [48, 32, 83, 73, 90, 69, 32, 49, 48, 48, 48, 48, 48, 13, 10, 50] ++ [53, 48, 32, 111, 107, 13, 10, 50, 53, 48, 32, 111, 107, 13, 10, 51] ++ [53, 52, 32, 103, 111, 13, 10, 50, 53, 48, 32, 111, 107, 13, 10, 50] ++ [50, 49, 32, 98, 121, 101, 13, 10] : List UInt8)) aa (by kernel_rfl) rfl rfl (by decide) rfl rfl) ?_;rintro _ _ ⟨t2, rfl, rfl⟩;refine zR rfl (eE 0 aa aO rfl (by simp) rfl) <| zS rfl (aC (av := slE _ _ _) rfl) <| al <| aU ?_
 obtain rfl := aB H;exact And.intro rfl (Exists.intro _ (Exists.intro _ ⟨aQ rfl (.tok _ _ _), aI [] rfl, rfl, rfl⟩))
set_option maxRecDepth 100000 in
set_option maxHeartbeats 1000000 in
theorem mK (F : Nat) (r1 : Bool) (H : fI F = some r1) : ACalls Tryz.prog 10 [] [] (Ret (B r1) []) := by
 unfold fI at H
 refine az Tryz.func10 rfl rfl ?_;show AW _ _ 34 _ _ _;refine ak <| ac ?_;show AR _ _ _ _ _ [0] _;refine za rfl <| al <| ak ?_;obtain ⟨x3, e4, H⟩ := du H;refine ac ?_;show AR _ _ _ _ _ [0, 1, 2, 3, 4, 5, 6, 7, 8] _;refine zX rfl (gr (E := Enc.byte) (bytes := 1) (xs := [.const _, .const _, .const _]) (l := ([120, 13, 10] : List UInt8)) aa (by kernel_rfl) rfl rfl (by decide) rfl rfl) ?_;rintro _ _ ⟨t2, rfl, rfl⟩;refine zR rfl (eE 0 aa aO rfl (by simp) rfl) <| ao rfl rfl (aP rfl rk rfl (mf F ([97, 64, 98] : List UInt8) ([99, 64, 100] : List UInt8) ([104] : List UInt8) ([120, 13, 10] : List UInt8) (some t2) x3.1 x3.2.1 x3.2.2.1 x3.2.2.2.1 x3.2.2.2.2.1 x3.2.2.2.2.2.1 x3.2.2.2.2.2.2 e4) ?_);refine zS rfl (ai (av := .tup _) rfl) <| zS rfl (aK (av := .agg _) rfl rfl) <| zS rfl (aK (av := .v _) rfl rfl) <| zX rfl (cm (zs := [.int .i64 0, .int .i64 0, .string ⟨#[]⟩, .string ⟨#[]⟩, .string ⟨#[]⟩, .slice none 0 0]) (by kernel_rfl)) ?_;rintro _ _ ⟨o5, rfl, rfl⟩;refine s0 rfl rfl (bk (i := 0) (vs := [i64 x3.1, i64 x3.2.1, S x3.2.2.1, S x3.2.2.2.1, S x3.2.2.2.2.1, slE Enc.byte x3.2.2.2.2.2.1 none]) (by kernel_rfl) rfl rfl (by simp [bI, slE]) rfl (ab rfl)) <| AR.freezeCp 1 0 rfl rfl ?_;show AR _ _ _ _ _ _ ⟨_, _, [.tok t2 5]⟩
 refine za rfl <| al <| cr (X := Nat × (List UInt8) × Int × Int × (List UInt8) × (List UInt8) × (List UInt8) × (List UInt8)) (fun (o13, y14, y15, y16, y17, y18, y19, y20) => ⟨[(2, i64 x3.2.2.2.2.2.2), (3, .pt o13 0), (4, slE Enc.byte y14 none)], [], [.obj o13 [i64 y15, i64 y16, S y17, S y18, S y19, slE Enc.byte y20 none]]⟩) (fun (o13, y14, y15, y16, y17, y18, y19, y20) => eY x3 y14 y15 y16 y17 y18 y19 y20 = some r1) ?_ ?_
 ·obtain ⟨x6, e7, H⟩ := du H;obtain ⟨x8, e9, H⟩ := du H;refine bA (by kernel_rfl) ?_;show AI _ _ _ _ _ 9 (Array.replicate 9 false) _;refine zk 0 rfl (bt bq rfl (n := 6) (by kernel_rfl) rfl (ab rfl)) ?_;show AI _ _ _ _ _ _ #[true, false, false, false, false, false, false, false, false] _;refine cz (i := 1) (j := 6) (by kernel_rfl) rfl rfl rfl rfl ?_ ?_
  ·refine bW rfl nI rfl (kd F x6 e7) ?_;show AI _ _ _ _ _ _ #[true, true, false, false, false, false, false, false, false] _;refine cz (i := 2) (j := 6) (by kernel_rfl) rfl rfl rfl rfl ?_ ?_
   ·refine bW rfl lc rfl (km F x3.1 x3.2.1 x3.2.2.1 x3.2.2.2.1 x3.2.2.2.2.1 x3.2.2.2.2.2.1 x6 none x8.1 x8.2.1 x8.2.2.1 x8.2.2.2.1 x8.2.2.2.2.1 x8.2.2.2.2.2.1 x8.2.2.2.2.2.2 e9) ?_;show AI _ _ _ _ _ _ #[true, true, true, false, false, false, false, false, false] _;refine zk 3 rfl (ai (av := .tup _) rfl) ?_;show AI _ _ _ _ _ _ #[true, true, true, true, false, false, false, false, false] _;refine zk 4 rfl (aK (av := .agg _) rfl rfl) ?_;show AI _ _ _ _ _ _ #[true, true, true, true, true, false, false, false, false] _;refine zk 5 rfl (aK (av := slE _ _ _) rfl rfl) ?_;show AI _ _ _ _ _ _ #[true, true, true, true, true, true, false, false, false] _;refine aG (i := 6) (by kernel_rfl) rfl rfl <| AIO.opx rfl (cm (zs := [.int .i64 0, .int .i64 0, .string ⟨#[]⟩, .string ⟨#[]⟩, .string ⟨#[]⟩, .slice none 0 0]) (by kernel_rfl)) ?_;rintro _ _ ⟨o10, rfl, rfl⟩;show AI _ _ _ _ _ _ #[true, true, true, true, true, true, true, false, false] _;refine aG (i := 7) (by kernel_rfl) rfl rfl <| bS (bk (i := 0) (vs := [i64 x8.1, i64 x8.2.1, S x8.2.2.1, S x8.2.2.2.1, S x8.2.2.2.2.1, slE Enc.byte x8.2.2.2.2.2.1 none]) (by kernel_rfl) rfl rfl (by simp [bI, slE]) rfl (ab rfl)) ?_;show AI _ _ _ _ _ _ #[true, true, true, true, true, true, true, true, false] _;refine zk 8 rfl (aC (av := slE _ _ _) rfl) ?_;show AI _ _ _ _ _ _ #[true, true, true, true, true, true, true, true, true] _;refine bc rfl ?_
    exact Exists.intro (o10, x8.2.2.2.2.2.2, x8.1, x8.2.1, x8.2.2.1, x8.2.2.2.1, x8.2.2.2.2.1, x8.2.2.2.2.2.1) ⟨H, bi [0] (.cons (.refl _) (.cons (.refl _) (.cons (.refl _) (.nil _)))) rfl⟩
   ·refine AIO.opx rfl (cm (zs := [.int .i64 0, .int .i64 0, .string ⟨#[]⟩, .string ⟨#[]⟩, .string ⟨#[]⟩, .slice none 0 0]) (by kernel_rfl)) ?_;rintro _ _ ⟨o11, rfl, rfl⟩;show AI _ _ _ _ _ _ #[true, true, false, false, false, false, true, false, false] _;refine aG (i := 2) (by kernel_rfl) rfl rfl <| bW rfl lc rfl (km F x3.1 x3.2.1 x3.2.2.1 x3.2.2.2.1 x3.2.2.2.2.1 x3.2.2.2.2.2.1 x6 none x8.1 x8.2.1 x8.2.2.1 x8.2.2.2.1 x8.2.2.2.2.1 x8.2.2.2.2.2.1 x8.2.2.2.2.2.2 e9) ?_;show AI _ _ _ _ _ _ #[true, true, true, false, false, false, true, false, false] _;refine zk 3 rfl (ai (av := .tup _) rfl) ?_;show AI _ _ _ _ _ _ #[true, true, true, true, false, false, true, false, false] _;refine zk 4 rfl (aK (av := .agg _) rfl rfl) ?_;show AI _ _ _ _ _ _ #[true, true, true, true, true, false, true, false, false] _;refine zk 5 rfl (aK (av := slE _ _ _) rfl rfl) ?_;show AI _ _ _ _ _ _ #[true, true, true, true, true, true, true, false, false] _;refine aG (i := 7) (by kernel_rfl) rfl rfl <| bS (bk (i := 0) (vs := [i64 x8.1, i64 x8.2.1, S x8.2.2.1, S x8.2.2.2.1, S x8.2.2.2.2.1, slE Enc.byte x8.2.2.2.2.2.1 none]) (by kernel_rfl) rfl rfl (by simp [bI, slE]) rfl (ab rfl)) ?_;show AI _ _ _ _ _ _ #[true, true, true, true, true, true, true, true, false] _;refine zk 8 rfl (aC (av := slE _ _ _) rfl) ?_;show AI _ _ _ _ _ _ #[true, true, true, true, true, true, true, true, true] _;refine bc rfl ?_
    exact Exists.intro (o11, x8.2.2.2.2.2.2, x8.1, x8.2.1, x8.2.2.1, x8.2.2.2.1, x8.2.2.2.2.1, x8.2.2.2.2.2.1) ⟨H, bi [0] (.cons (.refl _) (.cons (.refl _) (.cons (.refl _) (.nil _)))) rfl⟩
  ·refine AIO.opx rfl (cm (zs := [.int .i64 0, .int .i64 0, .string ⟨#[]⟩, .string ⟨#[]⟩, .string ⟨#[]⟩, .slice none 0 0]) (by kernel_rfl)) ?_;rintro _ _ ⟨o12, rfl, rfl⟩;show AI _ _ _ _ _ _ #[true, false, false, false, false, false, true, false, false] _;refine aG (i := 1) (by kernel_rfl) rfl rfl <| bW rfl nI rfl (kd F x6 e7) ?_;show AI _ _ _ _ _ _ #[true, true, false, false, false, false, true, false, false] _;refine aG (i := 2) (by kernel_rfl) rfl rfl <| bW rfl lc rfl (km F x3.1 x3.2.1 x3.2.2.1 x3.2.2.2.1 x3.2.2.2.2.1 x3.2.2.2.2.2.1 x6 none x8.1 x8.2.1 x8.2.2.1 x8.2.2.2.1 x8.2.2.2.2.1 x8.2.2.2.2.2.1 x8.2.2.2.2.2.2 e9) ?_;show AI _ _ _ _ _ _ #[true, true, true, false, false, false, true, false, false] _;refine zk 3 rfl (ai (av := .tup _) rfl) ?_;show AI _ _ _ _ _ _ #[true, true, true, true, false, false, true, false, false] _;refine zk 4 rfl (aK (av := .agg _) rfl rfl) ?_;show AI _ _ _ _ _ _ #[true, true, true, true, true, false, true, false, false] _;refine zk 5 rfl (aK (av := slE _ _ _) rfl rfl) ?_;show AI _ _ _ _ _ _ #[true, true, true, true, true, true, true, false, false] _;refine aG (i := 7) (by kernel_rfl) rfl rfl <| bS (bk (i := 0) (vs := [i64 x8.1, i64 x8.2.1, S x8.2.2.1, S x8.2.2.2.1, S x8.2.2.2.2.1, slE Enc.byte x8.2.2.2.2.2.1 none]) (by kernel_rfl) rfl rfl (by simp [bI, slE]) rfl (ab rfl)) ?_;show AI _ _ _ _ _ _ #[true, true, true, true, true, true, true, true, false] _;refine zk 8 rfl (aC (av := slE _ _ _) rfl) ?_
   show AI _ _ _ _ _ _ #[true, true, true, true, true, true, true, true, true] _;refine bc rfl ?_;exact Exists.intro (o12, x8.2.2.2.2.2.2, x8.1, x8.2.1, x8.2.2.1, x8.2.2.2.1, x8.2.2.2.2.1, x8.2.2.2.2.2.1) ⟨H, bi [0] (.cons (.refl _) (.cons (.refl _) (.cons (.refl _) (.nil _)))) rfl⟩
 rintro ⟨o13, y14, y15, y16, y17, y18, y19, y20⟩ H;replace H : eY x3 y14 y15 y16 y17 y18 y19 y20 = some r1 := H
 unfold eY at H
 refine ak <| ac ?_;show AR _ _ _ _ _ [0, 1, 2, 3, 4, 5, 6, 7, 8, 9, 10, 11, 12, 13, 14, 15, 16, 17] _;refine zm rfl <| zS rfl (bN rfl rfl) <| zm rfl <| aN (l := [7, 8, 9, 10, 11, 12, 13, 14, 15, 16, 17]) 23 (B ((decide (x3.2.2.2.2.2.2 = 0)) && (decide (y16 = 1)))) (fun K => ?_) ?_
 ·rcases af (decide (x3.2.2.2.2.2.2 = 0)) with h22 | h22
  ·refine zU h22 rfl (ag (n := 1) (by kernel_rfl) rfl) <| zT h22 rfl (bG rfl rfl (ah (i := 0) ar rfl rfl rfl rfl) ?_);refine zU h22 rfl (bN rfl rfl) <| zS rfl (ay (av := .v _) rfl h22 rfl) ?_;exact K _ 3 _ (aq (cc h22)) rfl rfl
  ·refine zF h22 rfl <| zF h22 rfl <| zF h22 rfl <| zS rfl (au (av := .v _) rfl h22 rfl) ?_;exact K _ 3 _ (aq (cd h22)) rfl rfl
 refine zm rfl <| aN (l := [12, 13, 14, 15, 16, 17]) 28 (B (((decide (x3.2.2.2.2.2.2 = 0)) && (decide (y16 = 1))) && (decide (y15 = 7)))) (fun K => ?_) ?_
 ·rcases af ((decide (x3.2.2.2.2.2.2 = 0)) && (decide (y16 = 1))) with h23 | h23
  ·refine zU h23 rfl (ag (n := 0) (by kernel_rfl) rfl) <| zT h23 rfl (bG rfl rfl (ah (i := 0) ar rfl rfl rfl rfl) ?_);refine zU h23 rfl (bN rfl rfl) <| zS rfl (ay (av := .v _) rfl h23 rfl) ?_;exact K _ 3 _ (aq (cc h23)) rfl rfl
  ·refine zF h23 rfl <| zF h23 rfl <| zF h23 rfl <| zS rfl (au (av := .v _) rfl h23 rfl) ?_;exact K _ 3 _ (aq (cd h23)) rfl rfl
 refine zm rfl <| aN (l := [17]) 33 (B ((((decide (x3.2.2.2.2.2.2 = 0)) && (decide (y16 = 1))) && (decide (y15 = 7))) && (decide (y14 = qr)))) (fun K => ?_) ?_
 ·rcases af (((decide (x3.2.2.2.2.2.2 = 0)) && (decide (y16 = 1))) && (decide (y15 = 7))) with h24 | h24
  ·refine zU h24 rfl (ai (av := slE _ _ _) rfl) <| zU h24 rfl (bX aa aO aj rfl) <| zU h24 rfl (fO rfl rfl) <| zS rfl (ay (av := .v _) rfl h24 rfl) ?_;exact K _ 3 _ (aq (cc h24)) rfl rfl
  ·refine zF h24 rfl <| zF h24 rfl <| zF h24 rfl <| zS rfl (au (av := .v _) rfl h24 rfl) ?_;exact K _ 3 _ (aq (cd h24)) rfl rfl
 refine za rfl <| al <| aU ?_;obtain rfl := aB H;exact And.intro rfl (Exists.intro _ (Exists.intro _ ⟨aQ rfl (.refl _), aI [] rfl, rfl, rfl⟩))
set_option maxRecDepth 100000 in
set_option maxHeartbeats 1000000 in
theorem oD (F : Nat) (a1 : Int) (a2 : Int) (a3 : List UInt8) (a4 : List UInt8) (a5 : List UInt8) (a6 : List UInt8) (r7 : Bool) (H : hH F a1 a2 a3 a4 a5 a6 = some r7) : ACalls Tryz.prog 11 [.agg [i64 a1, i64 a2, S a3, S a4, S a5, slE Enc.byte a6 none]] [] (Ret (B r7) []) := by
 unfold hH at H
 refine az Tryz.func11 rfl rfl ?_;show AW _ _ 25 _ _ _;refine ak <| ac ?_;show AR _ _ _ _ _ [0, 1] _;refine zR rfl (cO rfl (.inr ⟨_, rfl⟩)) <| za rfl <| al <| ak <| ac ?_;show AR _ _ _ _ _ [0, 1, 2, 3, 4, 5, 6, 7, 8, 9, 10, 11, 12, 13, 14, 15, 16, 17, 18, 19, 20, 21, 22] _;refine zS rfl (aM (n := 2) (by kernel_rfl) rfl (ab rfl)) <| zS rfl (aJ aj rfl rfl) <| zS rfl (bj aj rfl) <| zS rfl (dq rfl rfl) <| zm rfl <| aN (l := [10, 11, 12, 13, 14, 15, 16, 17, 18, 19, 20, 21, 22]) 12 (B ((decide ((a3.length : Int) ≤ 100)) && (decide ((a4.length : Int) ≤ 100)))) (fun K => ?_) ?_
 ·rcases af (decide ((a3.length : Int) ≤ 100)) with h8 | h8
  ·refine zU h8 rfl (aM (n := 3) (by kernel_rfl) rfl (ab rfl)) <| zU h8 rfl (aJ aj rfl rfl) <| zU h8 rfl (bj aj rfl) <| zU h8 rfl (dq rfl rfl) <| zS rfl (ay (av := .v _) rfl h8 rfl) ?_;exact K _ 4 _ (aq (cc h8)) rfl rfl
  ·refine zF h8 rfl <| zF h8 rfl <| zF h8 rfl <| zF h8 rfl <| zS rfl (au (av := .v _) rfl h8 rfl) ?_;exact K _ 4 _ (aq (cd h8)) rfl rfl
 refine zm rfl <| aN (l := [16, 17, 18, 19, 20, 21, 22]) 18 (B (((decide ((a3.length : Int) ≤ 100)) && (decide ((a4.length : Int) ≤ 100))) && (decide ((a5.length : Int) ≤ 100)))) (fun K => ?_) ?_
 ·rcases af ((decide ((a3.length : Int) ≤ 100)) && (decide ((a4.length : Int) ≤ 100))) with h9 | h9
  ·refine zU h9 rfl (aM (n := 4) (by kernel_rfl) rfl (ab rfl)) <| zU h9 rfl (aJ aj rfl rfl) <| zU h9 rfl (bj aj rfl) <| zU h9 rfl (dq rfl rfl) <| zS rfl (ay (av := .v _) rfl h9 rfl) ?_;exact K _ 4 _ (aq (cc h9)) rfl rfl
  ·refine zF h9 rfl <| zF h9 rfl <| zF h9 rfl <| zF h9 rfl <| zS rfl (au (av := .v _) rfl h9 rfl) ?_;exact K _ 4 _ (aq (cd h9)) rfl rfl
 refine zm rfl <| aN (l := [22]) 24 (B ((((decide ((a3.length : Int) ≤ 100)) && (decide ((a4.length : Int) ≤ 100))) && (decide ((a5.length : Int) ≤ 100))) && (decide ((a6.length : Int) ≤ 600)))) (fun K => ?_) ?_
 ·rcases af (((decide ((a3.length : Int) ≤ 100)) && (decide ((a4.length : Int) ≤ 100))) && (decide ((a5.length : Int) ≤ 100))) with h10 | h10
  ·refine zU h10 rfl (aM (n := 5) (by kernel_rfl) rfl (ab rfl)) <| zU h10 rfl (aJ aa rfl rfl) <| zU h10 rfl (aX aa rfl) <| zU h10 rfl (dq rfl rfl) <| zS rfl (ay (av := .v _) rfl h10 rfl) ?_;exact K _ 4 _ (aq (cc h10)) rfl rfl
  ·refine zF h10 rfl <| zF h10 rfl <| zF h10 rfl <| zF h10 rfl <| zS rfl (au (av := .v _) rfl h10 rfl) ?_;exact K _ 4 _ (aq (cd h10)) rfl rfl
 refine za rfl <| al <| aU ?_;obtain rfl := aB H;exact And.intro rfl (Exists.intro _ (Exists.intro _ ⟨aQ rfl (.refl _), aI [] rfl, rfl, rfl⟩))
end Go.Proofs.YtgjkjkmmgdbcoaaGreatDoor
namespace Go.Pv
def dp (F : Nat) (a1 : Int) (a2 : Int) (a3 : List UInt8) (a4 : List UInt8) (a5 : List UInt8) (a6 : List UInt8) (a7 : List UInt8) : Option Bool :=
bnd (fI F) fun x10 =>
bnd (hH F a1 a2 a3 a4 a5 a6) fun x12 =>
bif ((!x10) || (!x12)) || (decide (2000 < (a7.length : Int))) then
  some x10
else
  bnd (ib F a3 a4 a5 a6) fun x17 =>
  bif !decide (x17.2.2.2.2.2.2 = 0) then
    some (decide (x17.2.2.2.2.2.2 = 1))
  else
    bnd (lw F x17.1 x17.2.1 x17.2.2.1 x17.2.2.2.1 x17.2.2.2.2.1 x17.2.2.2.2.2.1 a7) fun x21 =>
    grd (dy (([69, 72, 76, 79, 32] : List UInt8).length + a5.length)) <|
    lt (([69, 72, 76, 79, 32] : List UInt8) ++ a5) fun x25 =>
    grd (dy (x25.length + ([13, 10, 77, 65, 73, 76, 32, 70, 82, 79, 77, 58, 60] : List UInt8).length)) <|
    lt (x25 ++ ([13, 10, 77, 65, 73, 76, 32, 70, 82, 79, 77, 58, 60] : List UInt8)) fun x28 =>
    grd (dy (x28.length + a3.length)) <|
    lt (x28 ++ a3) fun x31 =>
    grd (dy (x31.length + ([62, 13, 10, 82, 67, 80, 84, 32, 84, 79, 58, 60] : List UInt8).length)) <|
    lt (x31 ++ ([62, 13, 10, 82, 67, 80, 84, 32, 84, 79, 58, 60] : List UInt8)) fun x34 =>
    grd (dy (x34.length + a4.length)) <|
    lt (x34 ++ a4) fun x37 =>
    grd (dy (x37.length + ([62, 13, 10, 68, 65, 84, 65, 13, 10] : List UInt8).length)) <|
    lt (x37 ++ ([62, 13, 10, 68, 65, 84, 65, 13, 10] : List UInt8)) fun x40 =>
    gX (fB F a6) fun x42 x43 =>
    grd (dy (x40.length + x42.length)) <|
    lt (x40 ++ x42) fun x46 =>
    fg (decide ((x46.length : Int) ≤ (x21.2.2.2.2.2.2.length : Int))) (ie (x46.length : Int) x21.2.2.2.2.2.2.length) <|
    lt (to_ x21.2.2.2.2.2.2 (x46.length : Int)) fun x50 =>
    grd (dy (x46.length + ([81, 85, 73, 84, 13, 10] : List UInt8).length)) <|
    lt (x46 ++ ([81, 85, 73, 84, 13, 10] : List UInt8)) fun x53 =>
    bif (!decide (x21.1 = 7)) || (decide (x21.2.1 = 0)) then
      some false
    else
      bif decide (x21.2.1 = 1) then
        some (((decide ((x46.length : Int) ≤ (x21.2.2.2.2.2.2.length : Int))) && (decide (x50 = x46))) && (decide (x21.2.2.2.2.2.2 = x53)))
      else
        some (((!((decide ((x46.length : Int) ≤ (x21.2.2.2.2.2.2.length : Int))) && (decide (x50 = x46)))) || (decide (x21.2.2.2.2.2.2 = x46))) || (decide (x21.2.2.2.2.2.2 = x53)))
end Go.Pv
namespace Go.Proofs.YtgjkjkmmgdbcoaaGreatDoor
open Go.RowKit Go.Av Go.Pv
theorem kQ : ∀ (args : Array Value) (w : World), (callFunc 10 args).run Tryz.prog w = .ok (.enter 10 args) w := fun _ _ => by kernel_rfl
theorem kP : ∀ (args : Array Value) (w : World), (callFunc 11 args).run Tryz.prog w = .ok (.enter 11 args) w := fun _ _ => by kernel_rfl
theorem kO : ∀ (args : Array Value) (w : World), (callFunc 12 args).run Tryz.prog w = .ok (.enter 12 args) w := fun _ _ => by kernel_rfl
theorem kN : ∀ (args : Array Value) (w : World), (callFunc 15 args).run Tryz.prog w = .ok (.enter 15 args) w := fun _ _ => by kernel_rfl
theorem kM : ∀ (args : Array Value) (w : World), (callFunc 17 args).run Tryz.prog w = .ok (.enter 17 args) w := fun _ _ => by kernel_rfl
set_option maxRecDepth 100000 in
set_option maxHeartbeats 1000000 in
theorem jG (F : Nat) (a1 : Int) (a2 : Int) (a3 : List UInt8) (a4 : List UInt8) (a5 : List UInt8) (a6 : List UInt8) (a7 : List UInt8) (q8 : Option Nat) (r9 : Bool) (H : dp F a1 a2 a3 a4 a5 a6 a7 = some r9) : ACalls Tryz.prog 4 [.agg [i64 a1, i64 a2, S a3, S a4, S a5, slE Enc.byte a6 none], slE Enc.byte a7 q8] [] (Ret (B r9) []) := by
 unfold dp at H
 refine az Tryz.func4 rfl rfl ?_;show AW _ _ 124 _ _ _;refine ak <| ac ?_;show AR _ _ _ _ _ [0, 1] _;refine zR rfl (cO rfl (.inr ⟨_, rfl⟩)) <| za rfl <| al <| ak ?_;obtain ⟨x10, e11, H⟩ := du H;refine ac ?_;show AR _ _ _ _ _ [0, 1] _;refine ao rfl rfl (aP rfl kQ rfl (mK F x10 e11) ?_);refine za rfl <| al <| ak ?_;obtain ⟨x12, e13, H⟩ := du H;refine ac ?_;show AR _ _ _ _ _ [0, 1, 2] _;refine zS rfl (bt bq rfl (n := 6) (by kernel_rfl) rfl (ab rfl)) <| ao rfl rfl (aP rfl kP rfl (oD F a1 a2 a3 a4 a5 a6 x12 e13) ?_);refine za rfl <| al <| ak <| ak <| ac ?_;show AR _ _ _ _ _ [0, 1, 2, 3, 4, 5, 6, 7, 8, 9, 10] _;refine zm rfl <| zS rfl (dj rfl) <| zm rfl <| aN (l := [6, 7, 8, 9, 10]) 25 (B ((!x10) || (!x12))) (fun K => ?_) ?_
 ·rcases af (!x10) with h14 | h14
  ·refine zF h14 rfl <| zF h14 rfl <| zS rfl (ay (av := .v _) rfl h14 rfl) ?_;exact K _ 2 _ (aq (gx h14)) rfl rfl
  ·refine zM h14 rfl <| zU h14 rfl (dj rfl) <| zS rfl (au (av := .v _) rfl h14 rfl) ?_;exact K _ 2 _ (aq (gy h14)) rfl rfl
 refine zm rfl <| aN (l := []) 30 (B (((!x10) || (!x12)) || (decide (2000 < (a7.length : Int))))) (fun K => ?_) ?_
 ·rcases af ((!x10) || (!x12)) with h15 | h15
  ·refine zF h15 rfl <| zF h15 rfl <| zF h15 rfl <| zS rfl (ay (av := .v _) rfl h15 rfl) ?_;exact K _ 3 _ (aq (gx h15)) rfl rfl
  ·refine zU h15 rfl (ai (av := slE _ _ _) rfl) <| zU h15 rfl (aX aa rfl) <| zU h15 rfl (gY rfl rfl) <| zS rfl (au (av := .v _) rfl h15 rfl) ?_;exact K _ 3 _ (aq (gy h15)) rfl rfl
 refine al <| aE rfl (fun c16 => ?_) (fun c16 => ?_)
 ·replace H := bl c16 H;refine ak <| ac ?_;show AR _ _ _ _ _ [0, 1] _;refine zm rfl <| za rfl <| al <| aU ?_;obtain rfl := aB H;exact And.intro rfl (Exists.intro _ (Exists.intro _ ⟨aQ rfl (.refl _), aI [] rfl, rfl, rfl⟩))
 ·replace H := bb c16 H;refine aL <| ak ?_;obtain ⟨x17, e18, H⟩ := du H;refine ac ?_;show AR _ _ _ _ _ [0, 1, 2, 3, 4, 5, 6, 7, 8, 9, 10, 11, 12, 13, 14] _;refine zS rfl (aM (n := 2) (by kernel_rfl) rfl (ab rfl)) <| zS rfl (aJ aj rfl rfl) <| zS rfl (aM (n := 3) (by kernel_rfl) rfl (ab rfl)) <| zS rfl (aJ aj rfl rfl) <| zS rfl (aM (n := 4) (by kernel_rfl) rfl (ab rfl)) <| zS rfl (aJ aj rfl rfl) <| zS rfl (aM (n := 5) (by kernel_rfl) rfl (ab rfl)) <| zS rfl (aJ aa rfl rfl) <| ao rfl rfl (aP rfl kO rfl (mf F a3 a4 a5 a6 none x17.1 x17.2.1 x17.2.2.1 x17.2.2.2.1 x17.2.2.2.2.1 x17.2.2.2.2.2.1 x17.2.2.2.2.2.2 e18) ?_);refine zS rfl (ai (av := .tup _) rfl) <| zS rfl (aK (av := .agg _) rfl rfl) <| zS rfl (aK (av := .v _) rfl rfl) <| zX rfl (cm (zs := [.int .i64 0, .int .i64 0, .string ⟨#[]⟩, .string ⟨#[]⟩, .string ⟨#[]⟩, .slice none 0 0]) (by kernel_rfl)) ?_;rintro _ _ ⟨o19, rfl, rfl⟩;refine s0 rfl rfl (bk (i := 0) (vs := [i64 x17.1, i64 x17.2.1, S x17.2.2.1, S x17.2.2.2.1, S x17.2.2.2.2.1, slE Enc.byte x17.2.2.2.2.2.1 none]) (by kernel_rfl) rfl rfl (by simp [bI, slE]) rfl (ab rfl)) <| AR.freezeCp 7 0 rfl rfl ?_;show AR _ _ _ _ _ _ ⟨_, _, []⟩;refine za rfl <| al <| ak <| ak <| ac ?_;show AR _ _ _ _ _ [0, 1] _
  refine zm rfl <| zS rfl (eM rfl rfl) <| al <| aE rfl (fun c20 => ?_) (fun c20 => ?_)
  ·replace H := bl c20 H;refine ak <| ac ?_;show AR _ _ _ _ _ [0, 1, 2] _;refine zm rfl <| zS rfl (bN rfl rfl) <| za rfl <| al <| aU ?_;obtain rfl := aB H;exact And.intro rfl (Exists.intro _ (Exists.intro _ ⟨aQ rfl (.refl _), aI [] rfl, rfl, rfl⟩))
  ·replace H := bb c20 H;refine aL <| ak ?_;obtain ⟨x21, e22, H⟩ := du H;refine ac ?_;show AR _ _ _ _ _ [0, 1, 2, 3, 4, 5, 6, 7, 8] _;refine zS rfl (bt bq rfl (n := 6) (by kernel_rfl) rfl (ab rfl)) <| zS rfl (ai (av := slE _ _ _) rfl) <| ao rfl rfl (aP rfl kN rfl (km F x17.1 x17.2.1 x17.2.2.1 x17.2.2.2.1 x17.2.2.2.2.1 x17.2.2.2.2.2.1 a7 q8 x21.1 x21.2.1 x21.2.2.1 x21.2.2.2.1 x21.2.2.2.2.1 x21.2.2.2.2.2.1 x21.2.2.2.2.2.2 e22) ?_);refine zS rfl (ai (av := .tup _) rfl) <| zS rfl (aK (av := .agg _) rfl rfl) <| zS rfl (aK (av := slE _ _ _) rfl rfl) <| zX rfl (cm (zs := [.int .i64 0, .int .i64 0, .string ⟨#[]⟩, .string ⟨#[]⟩, .string ⟨#[]⟩, .slice none 0 0]) (by kernel_rfl)) ?_;rintro _ _ ⟨o23, rfl, rfl⟩;refine s0 rfl rfl (bk (i := 0) (vs := [i64 x21.1, i64 x21.2.1, S x21.2.2.1, S x21.2.2.2.1, S x21.2.2.2.2.1, slE Enc.byte x21.2.2.2.2.2.1 none]) (by kernel_rfl) rfl rfl (by simp [bI, slE]) rfl (ab rfl)) <| AR.freezeCp 9 0 rfl rfl ?_;show AR _ _ _ _ _ _ ⟨_, _, []⟩;refine zS rfl (aC (av := slE _ _ _) rfl) <| al <| ak ?_;obtain ⟨g24, H⟩ := aW H;obtain ⟨x25, e26, H⟩ := cl H;obtain ⟨g27, H⟩ := aW H;obtain ⟨x28, e29, H⟩ := cl H;obtain ⟨g30, H⟩ := aW H;obtain ⟨x31, e32, H⟩ := cl H;obtain ⟨g33, H⟩ := aW H;obtain ⟨x34, e35, H⟩ := cl H;obtain ⟨g36, H⟩ := aW H;obtain ⟨x37, e38, H⟩ := cl H;obtain ⟨g39, H⟩ := aW H;obtain ⟨x40, e41, H⟩ := cl H;refine ac ?_
   show AR _ _ _ _ _ [0, 1, 2, 3, 4, 5, 6, 7, 8, 9, 10, 11, 12] _;refine zS rfl (aM (n := 4) (by kernel_rfl) rfl (ab rfl)) <| zS rfl (aJ aj rfl rfl) <| zS rfl (jW rfl rfl g24 e26) <| zS rfl (jW rfl rfl g27 e29) <| zS rfl (aM (n := 2) (by kernel_rfl) rfl (ab rfl)) <| zS rfl (aJ aj rfl rfl) <| zS rfl (jW rfl rfl g30 e32) <| zS rfl (jW rfl rfl g33 e35) <| zS rfl (aM (n := 3) (by kernel_rfl) rfl (ab rfl)) <| zS rfl (aJ aj rfl rfl) <| zS rfl (jW rfl rfl g36 e38) <| zS rfl (jW rfl rfl g39 e41) <| za rfl <| al <| ak ?_;obtain ⟨x42, x43, e44, H⟩ := dr H;refine ac ?_;show AR _ _ _ _ _ [0, 1, 2, 3, 4, 5, 6, 7] _;refine zS rfl (aM (n := 5) (by kernel_rfl) rfl (ab rfl)) <| zS rfl (aJ aa rfl rfl) <| ao rfl rfl (aP rfl kM rfl (iP F a6 none x42 x43 e44) ?_);refine zS rfl (ai (av := .tup _) rfl) <| zS rfl (aK (av := slE _ _ _) rfl rfl) <| zS rfl (aK (av := .v _) rfl rfl) <| zS rfl (aC (av := slE _ _ _) rfl) <| za rfl <| al <| ak ?_;obtain ⟨g45, H⟩ := aW H;obtain ⟨x46, e47, H⟩ := cl H;refine ac ?_;show AR _ _ _ _ _ [0, 1, 2, 3, 4] _;refine zm rfl <| zS rfl (ai (av := slE _ _ _) rfl) <| zS rfl (bX aa aO aj rfl) <| zS rfl (jW rfl rfl g45 e47) <| za rfl <| al <| ak ?_
   obtain ⟨g49, H⟩ := dD H;obtain ⟨x50, e51, H⟩ := cl H;refine ac ?_;show AR _ _ _ _ _ [0, 1, 2, 3, 4, 5, 6, 7, 8, 9, 10, 11, 12, 13, 14] _;refine zS rfl (ai (av := slE _ _ _) rfl) <| zS rfl (aX aa rfl) <| zm rfl <| zS rfl (bj aj rfl) <| zS rfl (eG rfl rfl) <| zm rfl <| aN (l := [14]) 89 (B ((decide ((x46.length : Int) ≤ (x21.2.2.2.2.2.2.length : Int))) && (decide (x50 = x46)))) (fun K => ?_) ?_
   ·rcases af (decide ((x46.length : Int) ≤ (x21.2.2.2.2.2.2.length : Int))) with h48 | h48
    ·refine zU h48 rfl (ai (av := slE _ _ _) rfl) <| zM h48 rfl <| zU h48 rfl (bj aj rfl) <| zU h48 rfl (lS (E := Enc.byte) aa (by kernel_rfl) rfl rfl (g49 h48) e51) <| zU h48 rfl (bX aa aO aj rfl) <| zM h48 rfl <| zU h48 rfl (fO rfl rfl) <| zS rfl (ay (av := .v _) rfl h48 rfl) ?_;exact K _ 7 _ (aq (cc h48)) rfl rfl
    ·refine zF h48 rfl <| zF h48 rfl <| zF h48 rfl <| zF h48 rfl <| zF h48 rfl <| zF h48 rfl <| zF h48 rfl <| zS rfl (au (av := .v _) rfl h48 rfl) ?_;exact K _ 7 _ (aq (cd h48)) rfl rfl
   refine za rfl <| al <| ak ?_;obtain ⟨g52, H⟩ := aW H;obtain ⟨x53, e54, H⟩ := cl H;refine ac ?_;show AR _ _ _ _ _ [0, 1, 2] _;refine zm rfl <| zS rfl (jW rfl rfl g52 e54) <| za rfl <| al <| ak <| ak <| ac ?_;show AR _ _ _ _ _ [0, 1, 2, 3, 4, 5, 6, 7] _;refine zS rfl (aM (n := 0) (by kernel_rfl) rfl (ab rfl)) <| zS rfl (aJ ar rfl rfl) <| zS rfl (eM rfl rfl) <| zm rfl <| aN (l := []) 99 (B ((!decide (x21.1 = 7)) || (decide (x21.2.1 = 0)))) (fun K => ?_) ?_
   ·rcases af (!decide (x21.1 = 7)) with h55 | h55
    ·refine zF h55 rfl <| zF h55 rfl <| zF h55 rfl <| zS rfl (ay (av := .v _) rfl h55 rfl) ?_;exact K _ 3 _ (aq (gx h55)) rfl rfl
    ·refine zU h55 rfl (aM (n := 1) (by kernel_rfl) rfl (ab rfl)) <| zU h55 rfl (aJ ar rfl rfl) <| zU h55 rfl (bN rfl rfl) <| zS rfl (au (av := .v _) rfl h55 rfl) ?_;exact K _ 3 _ (aq (gy h55)) rfl rfl
   refine al <| aE rfl (fun c56 => ?_) (fun c56 => ?_)
   ·replace H := bl c56 H;refine ak <| ac ?_;show AR _ _ _ _ _ [0] _;refine za rfl <| al <| aU ?_;obtain rfl := aB H;exact And.intro rfl (Exists.intro _ (Exists.intro _ ⟨aQ rfl (.refl _), aI [] rfl, rfl, rfl⟩))
   ·replace H := bb c56 H;refine aL <| ak <| ak <| ac ?_;show AR _ _ _ _ _ [0, 1, 2] _;refine zS rfl (aM (n := 1) (by kernel_rfl) rfl (ab rfl)) <| zS rfl (aJ ar rfl rfl) <| zS rfl (bN rfl rfl) <| al <| aE rfl (fun c57 => ?_) (fun c57 => ?_)
    ·replace H := bl c57 H;refine ak <| ac ?_;show AR _ _ _ _ _ [0, 1, 2, 3, 4, 5, 6, 7] _;refine zm rfl <| zm rfl <| aN (l := [7]) 109 (B (((decide ((x46.length : Int) ≤ (x21.2.2.2.2.2.2.length : Int))) && (decide (x50 = x46))) && (decide (x21.2.2.2.2.2.2 = x53)))) (fun K => ?_) ?_
     ·rcases af ((decide ((x46.length : Int) ≤ (x21.2.2.2.2.2.2.length : Int))) && (decide (x50 = x46))) with h58 | h58
      ·refine zU h58 rfl (ai (av := slE _ _ _) rfl) <| zU h58 rfl (bX aa aO aj rfl) <| zM h58 rfl <| zU h58 rfl (fO rfl rfl) <| zS rfl (ay (av := .v _) rfl h58 rfl) ?_;exact K _ 4 _ (aq (cc h58)) rfl rfl
      ·refine zF h58 rfl <| zF h58 rfl <| zF h58 rfl <| zF h58 rfl <| zS rfl (au (av := .v _) rfl h58 rfl) ?_;exact K _ 4 _ (aq (cd h58)) rfl rfl
     refine za rfl <| al <| aU ?_;obtain rfl := aB H;exact And.intro rfl (Exists.intro _ (Exists.intro _ ⟨aQ rfl (.refl _), aI [] rfl, rfl, rfl⟩))
    ·replace H := bb c57 H;refine aL <| ak <| ac ?_;show AR _ _ _ _ _ [0, 1, 2, 3, 4, 5, 6, 7, 8, 9, 10, 11, 12, 13, 14] _;refine zm rfl <| zS rfl (dj rfl) <| zm rfl <| aN (l := [8, 9, 10, 11, 12, 13, 14]) 117 (B ((!((decide ((x46.length : Int) ≤ (x21.2.2.2.2.2.2.length : Int))) && (decide (x50 = x46)))) || (decide (x21.2.2.2.2.2.2 = x46)))) (fun K => ?_) ?_
     ·rcases af (!((decide ((x46.length : Int) ≤ (x21.2.2.2.2.2.2.length : Int))) && (decide (x50 = x46)))) with h59 | h59
      ·refine zF h59 rfl <| zF h59 rfl <| zF h59 rfl <| zF h59 rfl <| zS rfl (ay (av := .v _) rfl h59 rfl) ?_;exact K _ 4 _ (aq (gx h59)) rfl rfl
      ·refine zU h59 rfl (ai (av := slE _ _ _) rfl) <| zU h59 rfl (bX aa aO aj rfl) <| zM h59 rfl <| zU h59 rfl (fO rfl rfl) <| zS rfl (au (av := .v _) rfl h59 rfl) ?_;exact K _ 4 _ (aq (gy h59)) rfl rfl
     refine zm rfl <| aN (l := [14]) 123 (B (((!((decide ((x46.length : Int) ≤ (x21.2.2.2.2.2.2.length : Int))) && (decide (x50 = x46)))) || (decide (x21.2.2.2.2.2.2 = x46))) || (decide (x21.2.2.2.2.2.2 = x53)))) (fun K => ?_) ?_
     ·rcases af ((!((decide ((x46.length : Int) ≤ (x21.2.2.2.2.2.2.length : Int))) && (decide (x50 = x46)))) || (decide (x21.2.2.2.2.2.2 = x46))) with h60 | h60
      ·refine zF h60 rfl <| zF h60 rfl <| zF h60 rfl <| zF h60 rfl <| zS rfl (ay (av := .v _) rfl h60 rfl) ?_;exact K _ 4 _ (aq (gx h60)) rfl rfl
      ·refine zU h60 rfl (ai (av := slE _ _ _) rfl) <| zU h60 rfl (bX aa aO aj rfl) <| zM h60 rfl <| zU h60 rfl (fO rfl rfl) <| zS rfl (au (av := .v _) rfl h60 rfl) ?_;exact K _ 4 _ (aq (gy h60)) rfl rfl
     refine za rfl <| al <| aU ?_;obtain rfl := aB H;exact And.intro rfl (Exists.intro _ (Exists.intro _ ⟨aQ rfl (.refl _), aI [] rfl, rfl, rfl⟩))
end Go.Proofs.YtgjkjkmmgdbcoaaGreatDoor
namespace Go.Cl
open Go.Pv Go.Av
abbrev Bs := List UInt8
def NoCr (l : Bs) : Prop := ∀ c ∈ l, c ≠ 13 ∧ c ≠ 10
def lnD (l : Bs) : Bs := l ++ [13, 10]
def flD (ls : List Bs) : Bs := (ls.map lnD).flatten
def okD : Bool → Bs → Bool
  | p, [] => !p
  | p, c :: r => if c = 13 then !p && okD true r else if c = 10 then p && okD false r else !p && okD false r
def endD (b : Bs) : Bool := decide (b = []) || decide (b.getLast? = some 10)
def jb (b : Bs) : Bool := okD false b && endD b
theorem qd (p : Bool) (r : Bs) : okD p (13 :: r) = (!p && okD true r) := rfl
theorem qe (p : Bool) (r : Bs) : okD p (10 :: r) = (p && okD false r) := rfl
theorem okD_c (p : Bool) {c : UInt8} (r : Bs) (h : c ≠ 13) (g : c ≠ 10) : okD p (c :: r) = (!p && okD false r) := by
  show (if c = 13 then !p && okD true r else if c = 10 then p && okD false r else !p && okD false r) = _
  rw [if_neg h, if_neg g]
def pr : Bool → Bs → Nat
  | p, [] => 0
  | p, c :: r => (if p = true ∧ c = 10 then 1 else 0) + pr (decide (c = 13)) r
theorem pr_le : ∀ (b : Bs) (p : Bool), pr p b ≤ b.count 10 ∧ pr p b ≤ b.count 13 + (if p = true then 1 else 0)
  | [], p => by simp [pr]
  | c :: r, p => by
    obtain ⟨h1, h2⟩ := pr_le r (decide (c = 13))
    unfold pr
    rw [List.count_cons, List.count_cons]
    by_cases a : c = 13
    · subst a
      simp at h1 h2 ⊢
      omega
    · by_cases g : c = 10
      · subst g
        simp at h1 h2 ⊢
        cases p <;> simp <;> omega
      · have e1 : (c == 13) = false := by simpa using a
        have e2 : (c == 10) = false := by simpa using g
        rw [decide_eq_false a] at h1 h2 ⊢
        rw [e1, e2]
        simp [g] at h1 h2 ⊢
        omega
theorem pr_ok : ∀ (b : Bs) (p : Bool), (pr p b = b.count 10 ∧ pr p b = b.count 13 + (if p = true then 1 else 0)) ↔ okD p b = true
  | [], p => by cases p <;> simp [pr, okD]
  | c :: r, p => by
    have hl := pr_le r
    by_cases a : c = 13
    · subst a
      have ih := pr_ok r true
      have hl := hl true
      rw [qd]
      unfold pr
      rw [List.count_cons, List.count_cons]
      cases p with
      | false => simp at ih hl ⊢; rw [← ih]
      | true => simp at ih hl ⊢; omega
    · by_cases g : c = 10
      · subst g
        have ih := pr_ok r false
        have hl := hl false
        rw [qe]
        unfold pr
        rw [List.count_cons, List.count_cons]
        cases p with
        | false => simp at ih hl ⊢; omega
        | true => simp at ih hl ⊢; rw [← ih]; constructor <;> rintro ⟨x, y⟩ <;> constructor <;> omega
      · have e1 : (c == 13) = false := by simpa using a
        have e2 : (c == 10) = false := by simpa using g
        have ih := pr_ok r false
        have hl := hl false
        rw [okD_c p r a g]
        unfold pr
        rw [List.count_cons, List.count_cons, e1, e2, decide_eq_false a]
        cases p with
        | false => simp at ih hl ⊢; rw [← ih]
        | true => simp [g] at ih hl ⊢; omega
theorem gl_app (a : Bs) {b : Bs} (h : b ≠ []) : (a ++ b).getLast? = b.getLast? := by
  rw [List.getLast?_append]
  cases e : b.getLast? with
  | none => exact absurd (List.getLast?_eq_none_iff.1 e) h
  | some x => rfl
theorem kY : ∀ (m : Nat) (b l : Bs), b.length < m → NoCr l → okD false b = true → (l ++ b = [] ∨ (l ++ b).getLast? = some 10) → ∃ ls, (∀ x ∈ ls, NoCr x) ∧ l ++ b = flD ls
  | 0, b, l, h, _, _, _ => by omega
  | m + 1, [], l, h, hl, hk, he => by
    rw [List.append_nil] at he
    have : l = [] := by
      rcases he with e | e
      · exact e
      · by_cases g : l = []
        · exact g
        · have := List.mem_of_getLast? e
          exact absurd rfl (hl 10 this).2
    subst this;exact ⟨[], by simp, rfl⟩
  | m + 1, c :: b, l, h, hl, hk, he => by
    by_cases a : c = 13
    · subst a
      rw [qd] at hk
      cases b with
      | nil => simp [okD] at hk
      | cons d b =>
        have hd : d = 10 := by
          by_cases g : d = 10
          · exact g
          · by_cases g2 : d = 13
            · subst g2; rw [qd] at hk; simp at hk
            · rw [okD_c _ _ g2 g] at hk; simp at hk
        subst hd
        rw [qe] at hk
        have hk' : okD false b = true := by simpa using hk
        have he' : [] ++ b = [] ∨ ([] ++ b).getLast? = some 10 := by
          rw [List.nil_append]
          by_cases g : b = []
          · exact .inl g
          · right
            rcases he with e | e
            · simp at e
            · rw [show l ++ 13 :: 10 :: b = (l ++ [13, 10]) ++ b by simp, gl_app _ g] at e
              exact e
        obtain ⟨ls, h1, h2⟩ := kY m b [] (by simp at h; omega) (by intro x hx; cases hx) hk' he'
        rw [List.nil_append] at h2
        refine ⟨l :: ls, fun x hx => ?_, by rw [h2]; simp [flD, lnD]⟩
        rcases List.mem_cons.1 hx with rfl | hx
        · exact hl
        · exact h1 x hx
    · by_cases g : c = 10
      · subst g; rw [qe] at hk; simp at hk
      · rw [okD_c _ _ a g] at hk
        have hk' : okD false b = true := by simpa using hk
        have := kY m b (l ++ [c]) (by simp at h; omega) (fun x hx => by
          rcases List.mem_append.1 hx with hx | hx
          · exact hl x hx
          · rw [List.mem_singleton.1 hx]; exact ⟨a, g⟩) hk' (by rw [List.append_assoc]; exact he)
        rw [List.append_assoc] at this
        exact this
theorem nl {b : Bs} (h : jb b = true) : ∃ ls, (∀ l ∈ ls, NoCr l) ∧ b = flD ls := by
  unfold jb endD at h
  simp only [Bool.and_eq_true, Bool.or_eq_true, decide_eq_true_eq] at h
  obtain ⟨ls, h1, h2⟩ := kY (b.length + 1) b [] (Nat.lt_succ_self _) (by intro x hx; cases hx) h.1 h.2;exact ⟨ls, h1, h2⟩
def stD : Bool → Bs → Bs
  | _, [] => []
  | s, c :: r => (if s = true ∧ c = 46 then [46, c] else [c]) ++ stD (decide (c = 10)) r
def gK (b : Bs) : Bs := if jb b = true then stD true b ++ [46, 13, 10] else []
def lL (l : Bs) : Bs := if l.head? = some 46 then 46 :: lnD l else lnD l
theorem st_in : ∀ (l r : Bs), NoCr l → stD false (l ++ 13 :: 10 :: r) = l ++ 13 :: 10 :: stD true r
  | [], r, _ => by simp [stD]
  | c :: l, r, h => by
    obtain ⟨h1, h2⟩ := h c (by simp);show (if false = true ∧ c = 46 then [46, c] else [c]) ++ stD (decide (c = 10)) (l ++ 13 :: 10 :: r) = _
    rw [decide_eq_false h2, st_in l r fun x hx => h x (by simp [hx])]
    simp
theorem st_ln (l r : Bs) (h : NoCr l) : stD true (l ++ 13 :: 10 :: r) = lL l ++ stD true r := by
  cases l with
  | nil => simp [stD, lL, lnD]
  | cons c l =>
    obtain ⟨h1, h2⟩ := h c (by simp);show (if true = true ∧ c = 46 then [46, c] else [c]) ++ stD (decide (c = 10)) (l ++ 13 :: 10 :: r) = _
    rw [decide_eq_false h2, st_in l r fun x hx => h x (by simp [hx])]
    unfold lL lnD
    by_cases g : c = 46
    · subst g; simp
    · simp [g]
theorem mw : ∀ ls : List Bs, (∀ l ∈ ls, NoCr l) → stD true (flD ls) = (ls.map lL).flatten
  | [], _ => rfl
  | l :: ls, h => by
    have e : flD (l :: ls) = l ++ 13 :: 10 :: flD ls := by simp [flD, lnD]
    rw [e, st_ln l _ (h l (by simp)), mw ls fun x hx => h x (by simp [hx])]
    simp
theorem qc : ∀ (b : Bs) (s : Bool), (stD s b).length ≤ 2 * b.length
  | [], _ => by simp [stD]
  | c :: r, s => by
    have := qc r (decide (c = 10))
    unfold stD
    rw [List.length_append]
    split <;> simp <;> omega
theorem kn (b : Bs) : (gK b).length ≤ 2 * b.length + 3 := by
  unfold gK
  split
  · have := qc b true
    simp; omega
  · simp
end Go.Cl
namespace Go.Dg
open Go.Pv Go.Av
open Go.Lib (decDigits)
abbrev Bs := List UInt8
theorem ee {n : Nat} (h : n < 10) : decDigits n = [UInt8.ofNat (48 + n)] := by rw [decDigits, dif_pos h]
theorem fX {n : Nat} (h : ¬ n < 10) : decDigits n = decDigits (n / 10) ++ [UInt8.ofNat (48 + n % 10)] := by rw [decDigits, dif_neg h]
theorem ia (n : Nat) : Go.Lib.itoa (n : Int) = decDigits n := by
  unfold Go.Lib.itoa
  rw [if_neg (by omega), Int.toNat_natCast]
theorem gk (k : Nat) (h : k < 10) : (UInt8.ofNat (48 + k)).toNat = 48 + k := by
  have : ∀ k : Fin 10, (UInt8.ofNat (48 + k.val)).toNat = 48 + k.val := by decide +kernel
  exact this ⟨k, h⟩
def Dig (c : UInt8) : Prop := 48 ≤ c.toNat ∧ c.toNat ≤ 57
theorem dd_dig : ∀ (m n : Nat), n < m → ∀ c ∈ decDigits n, Dig c := by
  intro m
  induction m with
  | zero => intro n h; omega
  | succ m ih =>
    intro n h c hc
    by_cases hn : n < 10
    · rw [ee hn] at hc
      rw [List.mem_singleton.1 hc]; unfold Dig; rw [gk n hn]; omega
    · rw [fX hn] at hc
      rcases List.mem_append.1 hc with hc | hc
      · exact ih (n / 10) (by omega) c hc
      · rw [List.mem_singleton.1 hc]; unfold Dig; rw [gk _ (by omega)]; omega
theorem lT (n : Nat) : ∀ c ∈ decDigits n, Dig c := dd_dig (n + 1) n (by omega)
theorem ow : ∀ (m n : Nat), n < 10 ^ m → (decDigits n).length ≤ m + 1 := by
  intro m
  induction m with
  | zero => intro n h; rw [ee (by omega)]; simp
  | succ m ih =>
    intro n h
    by_cases hn : n < 10
    · rw [ee hn]; simp
    · have h10 : n / 10 < 10 ^ m := by rw [Nat.pow_succ] at h; omega
      rw [fX hn, List.length_append]
      have := ih _ h10
      simp; omega
theorem mE (n : Nat) : 1 ≤ (decDigits n).length := by
  by_cases hn : n < 10
  · rw [ee hn]; simp
  · rw [fX hn]; simp
def val (v : Nat) : Bs → Nat
  | [] => v
  | c :: r => val (10 * v + (c.toNat - 48)) r
theorem qg : ∀ (a b : Bs) (v : Nat), val v (a ++ b) = val (val v a) b
  | [], b, v => rfl
  | c :: r, b, v => qg r b _
theorem val_dd : ∀ (m n : Nat), n < m → val 0 (decDigits n) = n := by
  intro m
  induction m with
  | zero => intro n h; omega
  | succ m ih =>
    intro n h
    by_cases hn : n < 10
    · rw [ee hn]; show 10 * 0 + ((UInt8.ofNat (48 + n)).toNat - 48) = n; rw [gk n hn]; omega
    · rw [fX hn, qg, ih (n / 10) (by omega)]
      show 10 * (n / 10) + ((UInt8.ofNat (48 + n % 10)).toNat - 48) = n
      rw [gk _ (by omega)]; omega
theorem oa (n : Nat) : val 0 (decDigits n) = n := val_dd (n + 1) n (by omega)
end Go.Dg
namespace Go.Cl
open Go.Pv Go.Av
theorem mz (x : UInt8) (r u : Bs) : Go.Lib.index (x :: r) u = if u.isPrefixOf (x :: r) = true then 0 else if Go.Lib.index r u = -1 then -1 else Go.Lib.index r u + 1 := by
  by_cases h : u.isPrefixOf (x :: r) = true
  · simp [Go.Lib.index, h]
  · simp [Go.Lib.index, h]
theorem pr_idx : ∀ (b : Bs), (Go.Lib.index b [13, 10] = -1 ∧ pr false b = 0) ∨ ∃ i : Nat, Go.Lib.index b [13, 10] = (i : Int) ∧ i + 2 ≤ b.length ∧ pr false b = 1 + pr false (b.drop (i + 2))
  | [] => .inl ⟨by simp [Go.Lib.index], rfl⟩
  | c :: r => by
    have ih := pr_idx r
    by_cases h : c = 13
    · subst h
      cases r with
      | nil => left; exact ⟨by simp [Go.Lib.index], by simp [pr]⟩
      | cons d r =>
        by_cases g : d = 10
        · subst g
          right
          exact ⟨0, by simp [Go.Lib.index], by simp, by simp [pr]⟩
        · have hx : ([13, 10] : Bs).isPrefixOf (13 :: d :: r) = false := by
            have : (10 == d) = false := by simpa using fun q => g q.symm
            simp [List.isPrefixOf, this]
          have e : pr false (13 :: d :: r) = pr false (d :: r) := by simp [pr, g]
          rw [mz, hx, e]
          simp only [Bool.false_eq_true, if_false]
          rcases ih with ⟨h1, h2⟩ | ⟨i, h1, h2, h3⟩
          · left; rw [if_pos h1]; exact ⟨rfl, h2⟩
          · right
            refine ⟨i + 1, ?_, by simp at h2 ⊢; omega, ?_⟩
            · rw [if_neg (by omega), h1]; rfl
            · rw [h3]; rfl
    · have hx : ([13, 10] : Bs).isPrefixOf (c :: r) = false := by
        have : (13 == c) = false := by simpa using fun q => h q.symm
        simp [List.isPrefixOf, this]
      have e : pr false (c :: r) = pr false r := by simp [pr, h]
      rw [mz, hx, e]
      simp only [Bool.false_eq_true, if_false]
      rcases ih with ⟨h1, h2⟩ | ⟨i, h1, h2, h3⟩
      · left; rw [if_pos h1]; exact ⟨rfl, h2⟩
      · right
        refine ⟨i + 1, ?_, by simp at h2 ⊢; omega, ?_⟩
        · rw [if_neg (by omega), h1]; rfl
        · rw [h3]; rfl
theorem idx_ln : ∀ (l r : Bs), NoCr l → Go.Lib.index (l ++ 13 :: 10 :: r) [13, 10] = (l.length : Int)
  | [], r, _ => by simp [Go.Lib.index]
  | c :: l, r, h => by
    obtain ⟨h1, h2⟩ := h c (by simp)
    have hx : ([13, 10] : Bs).isPrefixOf (c :: (l ++ 13 :: 10 :: r)) = false := by
      have : (13 == c) = false := by simpa using fun q => h1 q.symm
      simp [List.isPrefixOf, this]
    show Go.Lib.index (c :: (l ++ 13 :: 10 :: r)) [13, 10] = _
    rw [mz, hx, idx_ln l r fun x hx => h x (by simp [hx])]
    simp only [Bool.false_eq_true, if_false]
    rw [if_neg (by omega)]
    simp
theorem idx_nil : Go.Lib.index [] [13, 10] = -1 := by simp [Go.Lib.index]
def gg (c : UInt8) : UInt8 := if 65 ≤ c.toNat ∧ c.toNat ≤ 90 then c + 97 - 65 else c
def kl (c : UInt8) : Bool := decide (48 ≤ c.toNat) && decide (c.toNat ≤ 57)
def mF (s : Bs) : Option Nat :=
  if (6 ≤ s.length ∧ s.length ≤ 14) ∧ (s.take 5).map gg = [115, 105, 122, 101, 32] ∧ (s.drop 5).all kl = true then some (Go.Dg.val 0 (s.drop 5)) else none
def pw : List Bs → Nat
  | [] => 0
  | s :: r => match mF s with | some n => n | none => pw r
def eU (ls : List Bs) : Nat := pw (ls.drop 1)
def quitD : Bs := [81, 85, 73, 84, 13, 10]
def mH (nm : Bs) : Bs := [69, 72, 76, 79, 32] ++ nm ++ [13, 10]
def jV (fr : Bs) : Bs := [77, 65, 73, 76, 32, 70, 82, 79, 77, 58, 60] ++ fr ++ [62, 13, 10]
def jU (rc : Bs) : Bs := [82, 67, 80, 84, 32, 84, 79, 58, 60] ++ rc ++ [62, 13, 10]
def jX : Bs := [68, 65, 84, 65, 13, 10]
def fi (ph c : Int) : Bool := if ph = 0 then decide (c = 220) else if ph = 4 then decide (c = 354) else decide (200 ≤ c) && decide (c ≤ 299)
abbrev St := Int × Int × Bs
section
variable (fr rc nm ml : Bs)
def goP (ph out : Int) (ls : List Bs) : St :=
  if ph = 0 then (1, out, mH nm) else if ph = 1 then (if 0 < eU ls ∧ eU ls < (gK ml).length then (6, 3, quitD) else (2, out, jV fr))
  else if ph = 2 then (3, out, jU rc) else if ph = 3 then (4, out, jX) else if ph = 4 then (5, out, gK ml) else (6, 1, quitD)
def fq (ph out c : Int) (ls : List Bs) : St :=
  if ph < 0 ∨ 7 ≤ ph then (ph, out, []) else if c = 421 then (7, (if out = 0 then 2 else out), []) else if ph = 6 then (7, out, [])
  else if fi ph c = true then goP fr rc nm ml ph out ls else (6, (if 500 ≤ c ∧ c ≤ 599 then 3 else 2), quitD)
def lJ {M : Type} : St → List (Int × List Bs × M) → St
  | s, [] => s
  | s, x :: r => lJ ((fq fr rc nm ml s.1 s.2.1 x.1 x.2.1).1, (fq fr rc nm ml s.1 s.2.1 x.1 x.2.1).2.1, s.2.2 ++ (fq fr rc nm ml s.1 s.2.1 x.1 x.2.1).2.2) r
def lK (s : St) : St := if s.1 = 7 then s else (7, (if s.2.1 = 0 then 2 else s.2.1), s.2.2)
theorem nd (out c : Int) (ls : List Bs) : fq fr rc nm ml 7 out c ls = (7, out, []) := by unfold fq; rw [if_pos (by omega)]
def eV : Nat → Bs
  | 0 => mH nm
  | 1 => jV fr
  | 2 => jU rc
  | 3 => jX
  | _ => gK ml
def ge : Nat → Bs
  | 0 => []
  | k + 1 => ge k ++ eV fr rc nm ml k
inductive Iv : Int → Int → Bs → Prop
  | go (k : Nat) (h : k ≤ 5) : Iv (k : Int) 0 (ge fr rc nm ml k)
  | stop (k : Nat) (out : Int) (h : k ≤ 5) (ho : out = 2 ∨ out = 3 ∨ (out = 1 ∧ k = 5)) : Iv 6 out (ge fr rc nm ml k ++ quitD)
  | off (k : Nat) (h : k ≤ 5) : Iv 7 2 (ge fr rc nm ml k)
  | done (k : Nat) (out : Int) (h : k ≤ 5) (ho : out = 2 ∨ out = 3 ∨ (out = 1 ∧ k = 5)) : Iv 7 out (ge fr rc nm ml k ++ quitD)
theorem Iv.step {ph out : Int} {a : Bs} (h : Iv fr rc nm ml ph out a) (c : Int) (ls : List Bs) :
    Iv fr rc nm ml (fq fr rc nm ml ph out c ls).1 (fq fr rc nm ml ph out c ls).2.1 (a ++ (fq fr rc nm ml ph out c ls).2.2) := by
  cases h with
  | go k h =>
    unfold fq
    rw [if_neg (by omega)]
    by_cases h1 : c = 421
    · rw [if_pos h1]
      simp only [List.append_nil, if_true]
      exact .off k h
    · rw [if_neg h1, if_neg (by omega)]
      by_cases h2 : fi (k : Int) c = true
      · rw [if_pos h2]
        unfold goP
        have : k = 0 ∨ k = 1 ∨ k = 2 ∨ k = 3 ∨ k = 4 ∨ k = 5 := by omega
        rcases this with rfl | rfl | rfl | rfl | rfl | rfl
        · exact Iv.go 1 (by omega)
        · by_cases q : 0 < eU ls ∧ eU ls < (gK ml).length
          · rw [if_neg (by decide), if_pos (by decide), if_pos q]
            exact Iv.stop 1 3 (by omega) (by omega)
          · rw [if_neg (by decide), if_pos (by decide), if_neg q]
            exact Iv.go 2 (by omega)
        · exact Iv.go 3 (by omega)
        · exact Iv.go 4 (by omega)
        · exact Iv.go 5 (by omega)
        · exact Iv.stop 5 1 (by omega) (by omega)
      · rw [if_neg h2]
        by_cases q : 500 ≤ c ∧ c ≤ 599
        · rw [if_pos q]; exact .stop k 3 h (by omega)
        · rw [if_neg q]; exact .stop k 2 h (by omega)
  | stop k out h ho =>
    have hne : ¬ out = 0 := by omega
    unfold fq
    rw [if_neg (by omega)]
    by_cases h1 : c = 421
    · rw [if_pos h1, if_neg hne]
      simp only [List.append_nil]
      exact .done k _ h ho
    · rw [if_neg h1, if_pos rfl]
      simp only [List.append_nil]
      exact .done k _ h ho
  | off k h => rw [nd]; simp only [List.append_nil]; exact .off k h
  | done k out h ho => rw [nd]; simp only [List.append_nil]; exact .done k _ h ho
theorem Iv.run {M : Type} : ∀ (l : List (Int × List Bs × M)) {ph out : Int} {a : Bs}, Iv fr rc nm ml ph out a → Iv fr rc nm ml (lJ fr rc nm ml (ph, out, a) l).1 (lJ fr rc nm ml (ph, out, a) l).2.1 (lJ fr rc nm ml (ph, out, a) l).2.2
  | [], _, _, _, h => h
  | x :: r, _, _, _, h => Iv.run r (h.step fr rc nm ml x.1 x.2.1)
theorem Iv.fin {s : St} (h : Iv fr rc nm ml s.1 s.2.1 s.2.2) : Iv fr rc nm ml (lK s).1 (lK s).2.1 (lK s).2.2 ∧ (lK s).1 = 7 := by
  obtain ⟨ph, out, a⟩ := s
  unfold lK
  simp only at h ⊢
  by_cases e : ph = 7
  · rw [if_pos e]; exact ⟨h, e⟩
  · rw [if_neg e]
    refine ⟨?_, rfl⟩
    cases h with
    | go k h => exact .off k h
    | stop k out h ho =>
      have hne : ¬ out = 0 := by omega
      simp only
      rw [if_neg hne]
      exact .done k _ h ho
    | off k h => exact absurd rfl e
    | done k out h ho => exact absurd rfl e
theorem nh {ml : Bs} (h : jb ml = true) : ∃ p, gK ml = p ++ [46, 13, 10] := by
  unfold gK; rw [if_pos h]; exact ⟨_, rfl⟩
theorem oG {a b c : Bs} (h : (a ++ b).take (a ++ c).length = a ++ c) : b.take c.length = c := by
  rw [List.length_append, List.take_append, List.take_of_length_le (by omega), Nat.add_sub_cancel_left] at h
  exact List.append_cancel_left h
theorem qJ (h : jb ml = true) (k : Nat) (hk : k ≤ 4) (b : Bs) : ¬ (quitD.take (eV fr rc nm ml k ++ b).length = eV fr rc nm ml k ++ b) := by
  intro e
  have : k = 0 ∨ k = 1 ∨ k = 2 ∨ k = 3 ∨ k = 4 := by omega
  rcases this with rfl | rfl | rfl | rfl | rfl
  · have := congrArg List.head? e; simp [eV, mH, quitD] at this
  · have := congrArg List.head? e; simp [eV, jV, quitD] at this
  · have := congrArg List.head? e; simp [eV, jU, quitD] at this
  · have := congrArg List.head? e; simp [eV, jX, quitD] at this
  · obtain ⟨p, hp⟩ := nh h
    have : (46 : UInt8) ∈ quitD := by
      refine List.mem_of_mem_take (i := (eV fr rc nm ml 4 ++ b).length) ?_
      rw [e]
      show 46 ∈ gK ml ++ b
      rw [hp]; simp
    simp [quitD] at this
theorem pg : ∀ k, k ≤ 4 → ∃ b, ge fr rc nm ml 5 = ge fr rc nm ml k ++ (eV fr rc nm ml k ++ b) := by
  intro k hk
  have : k = 0 ∨ k = 1 ∨ k = 2 ∨ k = 3 ∨ k = 4 := by omega
  rcases this with rfl | rfl | rfl | rfl | rfl
  · exact ⟨jV fr ++ (jU rc ++ (jX ++ gK ml)), by simp [ge, eV]⟩
  · exact ⟨jU rc ++ (jX ++ gK ml), by simp [ge, eV]⟩
  · exact ⟨jX ++ gK ml, by simp [ge, eV]⟩
  · exact ⟨gK ml, by simp [ge, eV]⟩
  · exact ⟨[], by simp [ge, eV]⟩
theorem part_ne (h : jb ml = true) (k : Nat) (hk : k ≤ 4) : eV fr rc nm ml k ≠ [] := by
  have : k = 0 ∨ k = 1 ∨ k = 2 ∨ k = 3 ∨ k = 4 := by omega
  rcases this with rfl | rfl | rfl | rfl | rfl
  · simp [eV, mH]
  · simp [eV, jV]
  · simp [eV, jU]
  · simp [eV, jX]
  · obtain ⟨p, hp⟩ := nh h
    simp [eV, hp]
theorem once {out : Int} {a : Bs} (h : jb ml = true) (hi : Iv fr rc nm ml 7 out a) :
    out ≠ 0 ∧ (out = 1 → a = ge fr rc nm ml 5 ++ quitD) ∧ (out ≠ 1 → a.take (ge fr rc nm ml 5).length = ge fr rc nm ml 5 → a = ge fr rc nm ml 5 ∨ a = ge fr rc nm ml 5 ++ quitD) := by
  have key : ∀ (a : Bs) (k : Nat), k ≤ 4 → (a = ge fr rc nm ml k ∨ a = ge fr rc nm ml k ++ quitD) → ¬ a.take (ge fr rc nm ml 5).length = ge fr rc nm ml 5 := by
    intro a k hk ha e;obtain ⟨b, hb⟩ := pg fr rc nm ml k hk
    rw [hb] at e
    rcases ha with rfl | rfl
    · have := congrArg List.length e
      have h2 := part_ne fr rc nm ml h k hk
      have h3 := List.length_pos_iff.2 h2
      rw [List.length_take, List.length_append, List.length_append] at this
      omega
    · exact qJ fr rc nm ml h k hk b (oG e)
  generalize hph : (7 : Int) = ph at hi
  cases hi with
  | go k h => omega
  | stop k out h ho => omega
  | off k hk =>
    refine ⟨by omega, by omega, fun _ e => ?_⟩
    by_cases q : k = 5
    · subst q; exact .inl rfl
    · exact absurd e (key _ k (by omega) (.inl rfl))
  | done k out hk ho =>
    refine ⟨by omega, fun q => ?_, fun _ e => ?_⟩
    · rw [show k = 5 by omega]
    · by_cases q : k = 5
      · subst q; exact .inr rfl
      · exact absurd e (key _ k (by omega) (.inr rfl))
end
end Go.Cl
namespace Go.Dg
open Go.Pv Go.Av
open Go.Lib (decDigits)
theorem gb (x : Bool) : (true && x) = x := Eq.symm (Eq.symm rfl)
theorem gM (x : Bool) : (false && x) = false := Eq.symm (Eq.symm rfl)
theorem fo (x : Bool) : (false || x) = x := Eq.symm (Eq.symm rfl)
theorem nfl : (!false) = true := Eq.symm (Eq.symm rfl)
theorem ntr : (!true) = false := Eq.symm (Eq.symm rfl)
theorem cfl {α : Type} (a b : α) : (bif false then a else b) = b := Eq.symm (Eq.symm rfl)
theorem ctr {α : Type} (a b : α) : (bif true then a else b) = a := Eq.symm (Eq.symm rfl)
def Tot (o : Option (Int × Int)) : Prop := ∃ x k, o = some (x, k) ∧ (k = 0 ∨ k = 1 ∨ k = 2)
theorem Tot.z (x : Int) : Tot (some (x, 0)) := ⟨x, 0, rfl, .inl rfl⟩
theorem Tot.o (x : Int) : Tot (some (x, 1)) := ⟨x, 1, rfl, .inr (.inl rfl)⟩
theorem Tot.t (x : Int) : Tot (some (x, 2)) := ⟨x, 2, rfl, .inr (.inr rfl)⟩
theorem ei {c : Bool} {a b : Option (Int × Int)} (ha : Tot a) (hb : Tot b) : Tot (bif c then a else b) := by cases c <;> assumption
theorem tot_bndc {c : Bool} {v : UInt8} {f : UInt8 → Option (Int × Int)} (h : ∀ x, Tot (f x)) : Tot (iD c (some v) f) := by
  cases c
  · exact h _
  · exact h _
theorem j3_tot (y17 : Int) (y23 y24 : Int) (rec : (Bool × Int × Int) → Option (Int × Int)) (y43 : UInt8) (h : ∀ v, Tot (rec (false, v, y24 + 1))) (hb : -9223372036854775808 ≤ y24 + 1 ∧ y24 + 1 ≤ 9223372036854775807) :
    Tot (cN 10 y17 false y23 y24 rec y43) := by
  unfold cN cZ
  refine ei (.t _) (ei (.o _) (ei (.o _) ?_))
  rw [dn hb]
  exact h _
theorem qE (F : Nat) (s : Bs) (c : Int) (hs : s.length ≤ 1000) : ∀ (n i : Nat) (v : Int), s.length - i < n → i ≤ s.length → Tot (bZ F s 10 c n (false, v, (i : Int))) := by
  intro n
  induction n with
  | zero => intro i v h; omega
  | succ n ih =>
    intro i v hn hi;show Tot (dQ F s 10 c (bZ F s 10 c n) false v (i : Int))
    unfold dQ
    by_cases h : i < s.length
    · have e : ((i : Int) + 1) = ((i + 1 : Nat) : Int) := by omega
      have hr : ∀ v, Tot (bZ F s 10 c n (false, v, (i : Int) + 1)) := fun v => by rw [e]; exact ih (i + 1) v (by omega) (by omega)
      have h10 : decide ((10 : Int) = 0) = false := by decide
      rw [bT (by omega), cu (by omega), bm, h10, Bool.and_false, cfl]
      refine ei (j3_tot _ _ _ _ _ hr (by omega)) ?_
      unfold ec
      rw [bR]
      refine tot_bndc fun x38 => ei ?_ (.t _)
      rw [bR]
      exact j3_tot _ _ _ _ _ hr (by omega)
    · rw [bF (by omega)]
      unfold dP
      rw [bndc_f, gM, cfl]
      exact .z _
theorem uint_tot (F : Nat) (s : Bs) (hs : s.length ≤ 1000) (hF : s.length < F) : Tot (fb F s 10 0) := by
  unfold fb
  refine ei (.t _) ?_
  have h1 : ((decide ((2 : Int) ≤ 10)) && (decide ((10 : Int) ≤ 36))) = true := by decide
  rw [h1, grd_t]
  unfold dM dN
  rw [lH rfl, bT rfl]
  unfold cM
  have h2 : decide (0 ≤ IntKind.u64.wrap 64) = true := by decide +kernel
  rw [h2, grd_t, ce (by omega)]
  exact qE F s _ hs F 0 0 (by omega) (by omega)
theorem pM (b : Bool) (x : Int) : Tot (da b x) := by
  unfold da dc
  have h2 : decide (0 ≤ IntKind.u64.wrap 63) = true := by decide +kernel
  rw [h2, grd_t]
  exact ei (.o _) (ei (.o _) (ei (.z _) (.z _)))
theorem jR (F : Nat) (s : Bs) (b : Bool) (hs : s.length ≤ 1000) (hF : s.length < F) : Tot (cC F 10 0 s b) := by
  unfold cC
  obtain ⟨x, k, e, hk⟩ := uint_tot F s hs hF
  rw [e, bE]
  by_cases h2 : k = 2
  · subst h2
    have : ((!decide ((2 : Int) = 0)) && (!decide ((2 : Int) = 1))) = true := by decide
    rw [this, ctr]
    exact .t _
  · have : ((!decide (k = 0)) && (!decide (k = 1))) = false := by
      rcases hk with rfl | rfl | rfl
      · decide
      · decide
      · exact absurd rfl h2
    rw [this, cfl, lH rfl]
    exact pM _ _
theorem int_tot (F : Nat) (s : Bs) (hs : s.length ≤ 1000) (hF : s.length < F) : Tot (fc F s 10 0) := by
  unfold fc
  by_cases h : s = []
  · rw [bT h]; exact .t _
  · have hp : 0 < s.length := List.length_pos_iff.2 h
    have hf : (eD s 1).length ≤ s.length := by unfold eD; simp
    rw [bF h, cu (by omega), bm]
    refine ei ?_ (ei ?_ (jR F s _ hs hF))
    · rw [fp (by omega), bm]; exact jR F _ _ (by omega) (by omega)
    · rw [fp (by omega), bm]; exact jR F _ _ (by omega) (by omega)
theorem jF (a s : Bs) (ha : a ≠ []) (hs : s.length ≤ 18) : ∀ (n i v : Nat), s.length - i < n → i ≤ s.length → v < 10 ^ i → Tot (dI a s n ((v : Int), (i : Int))) := by
  intro n
  induction n with
  | zero => intro i v h; omega
  | succ n ih =>
    intro i v hn hi hv;show Tot (dJ a s (dI a s n) (v : Int) (i : Int))
    unfold dJ
    have hv18 : v < 10 ^ 18 := Nat.lt_of_lt_of_le hv (Nat.pow_le_pow_right (by omega) (by omega))
    by_cases h : i < s.length
    · have hv17 : v < 10 ^ 17 := Nat.lt_of_lt_of_le hv (Nat.pow_le_pow_right (by omega) (by omega))
      rw [bT (by omega), cu (by omega), bm]
      obtain ⟨c, hc⟩ : ∃ c, c = at_ s (i : Int) := ⟨_, rfl⟩
      rw [← hc]
      by_cases h9 : 9 < (c - 48).toNat
      · rw [bT (by omega)]; exact .t _
      · have e1 : ((v : Int) * 10) + ((c - 48).toNat : Int) = ((v * 10 + (c - 48).toNat : Nat) : Int) := by omega
        have e2 : ((i : Int) + 1) = ((i + 1 : Nat) : Int) := by omega
        rw [bF (by omega), dn (by omega), dn (by omega), dn (by omega), e1, e2]
        refine ih (i + 1) _ (by omega) (by omega) ?_
        rw [Nat.pow_succ]; omega
    · rw [bF (by omega)]
      unfold dG dH
      have hp : 0 < a.length := List.length_pos_iff.2 ha
      rw [cu (by omega), bm]
      refine ei ?_ (.z _)
      rw [dn (by omega)]; exact .z _
theorem atoi_tot (F : Nat) (s : Bs) (hs : s.length ≤ 1000) (hF : s.length < F) : Tot (fk F s) := by
  unfold fk dF ft
  by_cases h : 0 < s.length ∧ s.length < 19
  · have hc : ((decide (0 < (s.length : Int))) && (decide ((s.length : Int) < 19))) = true := by
      rw [decide_eq_true (by omega), decide_eq_true (by omega)]; rfl
    have hne : s ≠ [] := List.length_pos_iff.1 h.1
    have hf : (eD s 1).length ≤ s.length := by unfold eD; simp
    rw [hc, ctr, cu (by omega), bm]
    have hg : ∀ (c : Bool) (x : Option (Int × Int)), fg c (cY 0 s.length) x = x := fun c x => kC fun _ => by omega
    rw [hg, bm]
    refine ei ?_ ?_
    · rw [fp (by omega), bm]
      refine ei (.t _) ?_
      rw [ce (by omega)]
      exact jF s _ hne (by omega) F 0 0 (by omega) (by omega) (by omega)
    · rw [ce (by omega)]
      exact jF s _ hne (by omega) F 0 0 (by omega) (by omega) (by omega)
  · have hc : ((decide (0 < (s.length : Int))) && (decide ((s.length : Int) < 19))) = false := by
      by_cases h0 : 0 < s.length
      · rw [decide_eq_false (show ¬ ((s.length : Int) < 19) by omega), Bool.and_false]
      · rw [decide_eq_false (show ¬ (0 < (s.length : Int)) by omega)]; rfl
    rw [hc, cfl]
    obtain ⟨x, k, e, hk⟩ := int_tot F s hs hF
    rw [e, bE]
    exact ⟨x, k, rfl, hk⟩
theorem mD (F : Nat) (s : Bs) (hs : s.length ≤ 1000) (hF : s.length < F) : ∃ x k, cn F s = some (x, k) := by
  unfold cn
  obtain ⟨x, k, e, hk⟩ := atoi_tot F s hs hF
  rw [e, bE]
  by_cases h0 : k = 0
  · subst h0; exact ⟨x, 0, by rw [decide_eq_true rfl, ntr, cfl]⟩
  · refine ⟨x, 1, ?_⟩
    rw [decide_eq_false h0, nfl, ctr, gG (by omega), lH (by omega)]
theorem qq (c : UInt8) (h : Dig c) : (c - 48).toNat = c.toNat - 48 := by
  have : ∀ k : Fin 256, (48 ≤ k.val ∧ k.val ≤ 57) → (UInt8.ofNat k.val - 48).toNat = k.val - 48 := by decide +kernel
  have h1 := this ⟨c.toNat, c.toNat_lt⟩ h
  simpa using h1
theorem atoi_loop (a : Bs) (s : Bs) (hs : s.length ≤ 18) (hd : ∀ c ∈ s, Dig c) : ∀ (n i v : Nat), s.length - i < n → i ≤ s.length → v < 10 ^ i → dI a s n ((v : Int), (i : Int)) = dG a ((val v (s.drop i) : Nat) : Int) := by
  intro n
  induction n with
  | zero => intro i v h; omega
  | succ n ih =>
    intro i v hn hi hv;show dJ a s (dI a s n) (v : Int) (i : Int) = _
    unfold dJ
    by_cases h : i < s.length
    · have hv17 : v < 10 ^ 17 := Nat.lt_of_lt_of_le hv (Nat.pow_le_pow_right (by omega) (by omega))
      have hdr : s.drop i = s[i] :: s.drop (i + 1) := br h
      have hc := hd _ (List.getElem_mem h)
      have hsub := qq _ hc
      obtain ⟨hc1, hc2⟩ := hc
      rw [bT (by omega), cu (by omega), bm, iC h]
      have e1 : ((v : Int) * 10) + ((s[i] - 48).toNat : Int) = ((10 * v + (s[i].toNat - 48) : Nat) : Int) := by rw [hsub]; omega
      have e2 : ((i : Int) + 1) = ((i + 1 : Nat) : Int) := by omega
      rw [bF (by rw [hsub]; omega), dn (by omega), dn (by omega), dn (by omega), e1, e2, ih (i + 1) _ (by omega) (by omega) (by rw [Nat.pow_succ]; omega), hdr]
      rfl
    · rw [bF (by omega), be (by omega)]; rfl
theorem qv (F : Nat) (n : Nat) (hn : n ≤ 1073741824) (hF : 100 < F) : cn F (decDigits n) = some ((n : Int), 0) := by
  have hl : (decDigits n).length ≤ 11 := ow 10 n (by omega)
  have hp := mE n
  have hd := lT n
  have h0 : at_ (decDigits n) 0 = (decDigits n)[0] := ol (by omega)
  have hd0 := hd _ (List.getElem_mem (show 0 < (decDigits n).length by omega))
  have n45 : (decDigits n)[0] ≠ 45 := fun e => by rw [e] at hd0; exact absurd hd0.1 (by decide)
  have n43 : (decDigits n)[0] ≠ 43 := fun e => by rw [e] at hd0; exact absurd hd0.1 (by decide)
  have hc : ((decide (0 < ((decDigits n).length : Int))) && (decide (((decDigits n).length : Int) < 19))) = true := by
    rw [decide_eq_true (by omega), decide_eq_true (by omega)]; rfl
  have hg : ∀ (c : Bool) (x : Option (Int × Int)), fg c (cY 0 (decDigits n).length) x = x := fun c x => kC fun _ => by omega
  have e : fk F (decDigits n) = some ((n : Int), 0) := by
    unfold fk dF
    rw [hc, ctr, cu (by omega), bm, hg, bm, h0, decide_eq_false n45, decide_eq_false n43, fo, cfl, ce (by omega)]
    have := atoi_loop (decDigits n) (decDigits n) (by omega) hd F 0 0 (by omega) (by omega) (by omega)
    refine Eq.trans this ?_
    rw [List.drop_zero, oa]
    unfold dG dH
    rw [cu (by omega), bm, h0, decide_eq_false n45, cfl]
  unfold cn
  rw [e, bE, decide_eq_true rfl, ntr, cfl]
end Go.Dg
namespace Go.Cl
open Go.Pv Go.Av
open Go.Dg (cfl ctr gb gM fo nfl ntr)
theorem gcS {α : Type} {k : Option α} {c : Bool} {n : Nat} (h : n < 4294967281) : fg c (okS n) k = k := by
  cases c
  · exact jq
  · rw [lv, gG h]
theorem pY : ∀ (n : Nat) (y : Bs) (k : Nat), y.length < n → y.length ≤ 1100000 → k + y.length ≤ 3000000 →
    ek [13, 10] n (y, (k : Int)) = some ((k + pr false y : Nat) : Int) := by
  intro n
  induction n with
  | zero => intro y k h; omega
  | succ n ih =>
    intro y k hn hy hk;show el [13, 10] (ek [13, 10] n) y (k : Int) = _
    unfold el
    have e2 : ([13, 10] : Bs).length = 2 := Eq.symm (Eq.symm rfl)
    rw [e2, gG (by omega), lH (by omega), gG (by omega), bm]
    rcases pr_idx y with ⟨h1, h2⟩ | ⟨i, h1, h2, h3⟩
    · rw [h1, bT rfl, h2]; rfl
    · have e : (i : Int) + ((2 : Nat) : Int) = ((i + 2 : Nat) : Int) := by omega
      rw [h1, bF (by omega), dn (by omega), dn (by omega), fp (by omega), bm, e, mA, jl, ih (y.drop (i + 2)) (k + 1) (by rw [List.length_drop]; omega) (by rw [List.length_drop]; omega) (by rw [List.length_drop]; omega), h3]
      congr 1
      omega
theorem rq (F : Nat) (b : Bs) (hb : b.length ≤ 1100000) (hF : b.length < F) : de F b [13, 10] = some ((pr false b : Nat) : Int) := by
  unfold de
  have := pY F b 0 hF hb (by omega)
  rw [Nat.zero_add] at this
  exact this
theorem count_one (F : Nat) (b : Bs) (c : UInt8) : de F b [c] = some ((b.count c : Nat) : Int) := by
  unfold de
  rfl
theorem okS_suf {b : Bs} (h : Go.Lib.hasSuffix b [13, 10] = true) : b.getLast? = some 10 := by
  unfold Go.Lib.hasSuffix at h
  obtain ⟨p, hp⟩ := List.isSuffixOf_iff_suffix.1 h
  rw [← hp]; simp
theorem suf_of {ls : List Bs} (hn : ls ≠ []) : Go.Lib.hasSuffix (flD ls) [13, 10] = true := by
  unfold Go.Lib.hasSuffix
  refine List.isSuffixOf_iff_suffix.2 ?_;obtain ⟨p, l, rfl⟩ : ∃ p l, ls = p ++ [l] := ⟨ls.dropLast, ls.getLast hn, (List.dropLast_concat_getLast hn).symm⟩;refine ⟨flD p ++ l, ?_⟩
  simp [flD, lnD]
theorem qm (F : Nat) (b : Bs) (hb : b.length ≤ 1100000) (hF : b.length < F) : ju F b = some (jb b) := by
  unfold ju
  rw [rq F b hb hF, bR, count_one, bR, count_one, fC, gcS (by omega), bm]
  congr 1
  have hk := pr_ok b false
  simp only [Bool.false_eq_true, if_false, Nat.add_zero] at hk
  by_cases h1 : b.count 13 = pr false b
  · have d1 : decide (((b.count 13 : Nat) : Int) = ((pr false b : Nat) : Int)) = true := decide_eq_true (by omega)
    rw [d1, ctr, gb]
    by_cases h2 : b.count 10 = pr false b
    · have d2 : decide (((b.count 10 : Nat) : Int) = ((pr false b : Nat) : Int)) = true := decide_eq_true (by omega)
      have ho := hk.1 ⟨h2.symm, h1.symm⟩
      rw [d2, gb]
      unfold jb
      rw [ho, gb]
      unfold endD
      by_cases h0 : b = []
      · subst h0; rfl
      · have hl : 0 < b.length := List.length_pos_iff.2 h0
        rw [decide_eq_false (p := ((b.length : Int) = 0)) (by omega), decide_eq_false h0, fo, fo]
        cases hs : Go.Lib.hasSuffix b [13, 10] with
        | true => rw [okS_suf hs]; rfl
        | false =>
          symm
          refine decide_eq_false fun hq => ?_
          have hm : jb b = true := by unfold jb endD; rw [ho, hq]; simp
          obtain ⟨ls, _, hb⟩ := nl hm
          have : ls ≠ [] := fun e => h0 (by rw [hb, e]; rfl)
          have := suf_of this
          rw [← hb, hs] at this
          cases this
    · have d2 : decide (((b.count 10 : Nat) : Int) = ((pr false b : Nat) : Int)) = false := decide_eq_false (by omega)
      have ho : okD false b = false := by
        cases q : okD false b with
        | false => rfl
        | true => exact absurd (hk.2 q).1.symm h2
      rw [d2, gM]
      unfold jb; rw [ho]; rfl
  · have d1 : decide (((b.count 13 : Nat) : Int) = ((pr false b : Nat) : Int)) = false := decide_eq_false (by omega)
    have ho : okD false b = false := by
      cases q : okD false b with
      | false => rfl
      | true => exact absurd (hk.2 q).2.symm h1
    rw [d1, gM, gM]
    unfold jb; rw [ho]; rfl
theorem fl_cons (l : Bs) (ls : List Bs) : flD (l :: ls) = l ++ 13 :: 10 :: flD ls := by simp [flD, lnD]
theorem stuff_k (acc l : Bs) (ha : acc.length + l.length ≤ 10000000) : co acc (lnD l) = some (acc ++ lL l, true) := by
  unfold co eA
  have hln : (lnD l).length = l.length + 2 := by simp [lnD]
  rw [cu (by omega), bm, ol (by omega)]
  cases l with
  | nil =>
    have : (lnD [])[0]'(by simp [lnD]) = 13 := rfl
    rw [this, bF (by decide), ce (by omega), bm]
    rfl
  | cons c l =>
    have : (lnD (c :: l))[0]'(by simp [lnD]) = c := rfl
    rw [this]
    simp only [List.length_cons] at ha hln
    by_cases h : c = 46
    · subst h
      rw [bT rfl, ce (by simp; omega), bm, ce (by simp; omega), bm]
      simp [lL]
    · rw [bF h, ce (by omega), bm]
      simp [lL, h]
theorem mm : ∀ (ls : List Bs) (n : Nat) (acc : Bs), (∀ l ∈ ls, NoCr l) → ls.length < n → (flD ls).length ≤ 1100000 → acc.length + 2 * (flD ls).length ≤ 5000000 →
    dZ (fun s x => co s x) n (flD ls, acc) = some (acc ++ (ls.map lL).flatten, [])
  | ls, 0, acc, _, hn, _, _ => by omega
  | [], n + 1, acc, h, hn, hl, ha => by
    show dh (fun s x => co s x) (dZ (fun s x => co s x) n) [] acc = _
    unfold dh
    have e2 : ([13, 10] : Bs).length = 2 := Eq.symm (Eq.symm rfl)
    have e0 : ([] : Bs).length = 0 := Eq.symm (Eq.symm rfl)
    rw [e2, e0, gG (by omega), lH (by omega), gG (by omega), bm, idx_nil, bT (by decide)]
    simp
  | l :: ls, n + 1, acc, h, hn, hl, ha => by
    show dh (fun s x => co s x) (dZ (fun s x => co s x) n) (flD (l :: ls)) acc = _
    unfold dh
    have e2 : ([13, 10] : Bs).length = 2 := Eq.symm (Eq.symm rfl)
    have hlen : (flD (l :: ls)).length = l.length + 2 + (flD ls).length := by rw [fl_cons]; simp; omega
    have hi : Go.Lib.index (flD (l :: ls)) [13, 10] = (l.length : Int) := by rw [fl_cons]; exact idx_ln l _ (h l (by simp))
    have e : (l.length : Int) + 2 = ((l.length + 2 : Nat) : Int) := by omega
    have ht : (flD (l :: ls)).take (l.length + 2) = lnD l := by
      rw [fl_cons, show l ++ 13 :: 10 :: flD ls = lnD l ++ flD ls by simp [lnD], List.take_left' (by simp [lnD])]
    have hd : (flD (l :: ls)).drop (l.length + 2) = flD ls := by
      rw [fl_cons, show l ++ 13 :: 10 :: flD ls = lnD l ++ flD ls by simp [lnD], List.drop_left' (by simp [lnD])]
    have hk : (fun (s x : Bs) => co s x) acc (lnD l) = some (acc ++ lL l, true) := stuff_k acc l (by omega)
    have hdl : (lL l).length ≤ l.length + 3 := by unfold lL lnD; split <;> simp
    rw [e2, gG (by omega), lH (by omega), gG (by omega), bm, hi, bF (by omega), dn (by omega), fp (by omega), bm, e, to_nat, ht, hk, bE, ntr, cfl, dn (by omega), fp (by omega), bm, mA, hd]
    rw [mm ls n (acc ++ lL l) (fun x hx => h x (by simp [hx])) (by simp at hn; omega) (by omega) (by rw [List.length_append]; omega)]
    simp
theorem fl_len (ls : List Bs) : 2 * ls.length ≤ (flD ls).length := by
  induction ls with
  | nil => simp [flD]
  | cons l ls ih => rw [fl_cons]; simp; omega
theorem kW (F : Nat) (b : Bs) (hb : b.length ≤ 1100000) (hF : b.length < F) : fB F b = some (gK b, if jb b = true then 0 else 1) := by
  unfold fB jk im
  rw [qm F b hb hF, bR]
  unfold gK
  cases hm : jb b with
  | false => rfl
  | true =>
    rw [ntr, cfl, bR]
    obtain ⟨ls, hc, rfl⟩ := nl hm
    have := fl_len ls
    rw [mm ls F [] hc (by omega) hb (by simp; omega), bE]
    unfold ff
    rw [mw ls hc]
    have hle : ((ls.map lL).flatten).length ≤ 2 * (flD ls).length := by rw [← mw ls hc]; exact qc _ _
    rw [ce (by simp at hle ⊢; omega), bm]
    rfl
end Go.Cl
namespace Go.Cl
open Go.Pv Go.Av
open Go.Dg (cfl ctr gb gM fo nfl ntr)
theorem low_sp (c : UInt8) : gg c = 32 ↔ c = 32 := by
  have : ∀ k : Fin 256, gg (UInt8.ofNat k.val) = 32 ↔ UInt8.ofNat k.val = 32 := by decide +kernel
  have h1 := this ⟨c.toNat, c.toNat_lt⟩
  simpa using h1
theorem low_t {c : UInt8} (h : 65 ≤ c.toNat ∧ c.toNat ≤ 90) : gg c = c + 97 - 65 := by unfold gg; rw [if_pos h]
theorem low_f {c : UInt8} (h : ¬ (65 ≤ c.toNat ∧ c.toNat ≤ 90)) : gg c = c := by unfold gg; rw [if_neg h]
theorem low_c (c : UInt8) : ((decide (65 ≤ (c.toNat : Int))) && (decide ((c.toNat : Int) ≤ 90))) = decide (65 ≤ c.toNat ∧ c.toNat ≤ 90) := by
  by_cases h : 65 ≤ c.toNat
  · by_cases g : c.toNat ≤ 90
    · rw [decide_eq_true (by omega), decide_eq_true (by omega), decide_eq_true ⟨h, g⟩]; rfl
    · rw [decide_eq_true (by omega), decide_eq_false (by omega), decide_eq_false (by omega)]; rfl
  · rw [decide_eq_false (p := 65 ≤ (c.toNat : Int)) (by omega), decide_eq_false (p := 65 ≤ c.toNat ∧ c.toNat ≤ 90) (by omega)]; rfl
theorem mh (w : Bs) : ∀ (r p : Bs) (n : Nat), r.length < n → (p ++ r).length ≤ 1000000 →
    dB (p ++ r) w n ((p.length : Int), p.map gg ++ r) = some (decide ((p ++ r).map gg = w))
  | r, p, 0, hn, _ => by omega
  | [], p, n + 1, hn, hl => by
    rw [List.append_nil, List.append_nil] at *
    show ep p w (dB p w n) (p.length : Int) (p.map gg) = _
    unfold ep fK
    rw [bF (by omega), lH (by rw [List.length_map])]
  | c :: r, p, n + 1, hn, hl => by
    show ep (p ++ c :: r) w (dB (p ++ c :: r) w n) (p.length : Int) (p.map gg ++ c :: r) = _
    have h1 : p.length < (p ++ c :: r).length := by simp
    have h2 : p.length < (p.map gg ++ c :: r).length := by simp
    have ea : (p.map gg ++ c :: r)[p.length] = c := by
      rw [List.getElem_append_right (by simp)]; simp
    have ih := mh w r (p ++ [c]) n (by simp at hn; omega) (by simpa using hl)
    have e1 : p ++ [c] ++ r = p ++ c :: r := by simp
    have e2 : (p ++ [c]).map gg ++ r = p.map gg ++ gg c :: r := by simp
    have e3 : ((p ++ [c]).length : Int) = (p.length : Int) + 1 := by simp
    rw [e1, e2, e3] at ih
    unfold ep eR
    rw [bT (by omega), cu (by omega), cu (by omega), bm, iC h2, ea, low_c]
    by_cases h : 65 ≤ c.toNat ∧ c.toNat ≤ 90
    · have es : (p.map gg ++ c :: r).set p.length (c + 97 - 65) = p.map gg ++ (c + 97 - 65) :: r := by
        rw [List.set_append_right _ _ (by simp)]; simp
      rw [bT h, cu (by omega), cu (by omega), bm, Int.toNat_natCast, es, dn (by omega), ← low_t h]
      exact ih
    · rw [bF h, dn (by omega)]
      rw [low_f h] at ih
      exact ih
theorem small_eq (F : Nat) (s w : Bs) (hs : s.length ≤ 1000000) (hF : s.length < F) : iY F s w = some (decide (s.map gg = w)) := by
  unfold iY
  rw [ce (by omega)]
  exact mh w s [] F hF hs
theorem dig_dg {c : UInt8} (h : kl c = true) : Go.Dg.Dig c := by
  unfold kl at h
  simp only [Bool.and_eq_true, decide_eq_true_eq] at h
  exact h
theorem Atoi_dig (F : Nat) (s : Bs) (h1 : 1 ≤ s.length) (h9 : s.length ≤ 9) (hd : ∀ c ∈ s, Go.Dg.Dig c) (hF : 100 < F) : cn F s = some (((Go.Dg.val 0 s : Nat) : Int), 0) := by
  have h0 : at_ s 0 = s[0] := ol (by omega)
  have hd0 := hd _ (List.getElem_mem (show 0 < s.length by omega))
  have n45 : s[0] ≠ 45 := fun e => by rw [e] at hd0; exact absurd hd0.1 (by decide)
  have n43 : s[0] ≠ 43 := fun e => by rw [e] at hd0; exact absurd hd0.1 (by decide)
  have hc : ((decide (0 < (s.length : Int))) && (decide ((s.length : Int) < 19))) = true := by
    rw [decide_eq_true (by omega), decide_eq_true (by omega)]; rfl
  have hg : ∀ (c : Bool) (x : Option (Int × Int)), fg c (cY 0 s.length) x = x := fun c x => kC fun _ => by omega
  have e : fk F s = some (((Go.Dg.val 0 s : Nat) : Int), 0) := by
    unfold fk dF
    rw [hc, ctr, cu (by omega), bm, hg, bm, h0, decide_eq_false n45, decide_eq_false n43, fo, cfl, ce (by omega)]
    have := Go.Dg.atoi_loop s s (by omega) hd F 0 0 (by omega) (by omega) (by omega)
    refine Eq.trans this ?_
    rw [List.drop_zero]
    unfold dG dH
    rw [cu (by omega), bm, h0, decide_eq_false n45, cfl]
  unfold cn
  rw [e, bE, decide_eq_true rfl, ntr, cfl]
abbrev digs : Bs := [48, 49, 50, 51, 52, 53, 54, 55, 56, 57]
theorem digs_c (c : UInt8) : digs.contains c = kl c := by
  have : ∀ k : Fin 256, digs.contains (UInt8.ofNat k.val) = kl (UInt8.ofNat k.val) := by decide +kernel
  have h1 := this ⟨c.toNat, c.toNat_lt⟩
  simpa using h1
theorem ov (f : UInt8 → Bool) : ∀ l : Bs, l.dropWhile f = [] ↔ ∀ x ∈ l, f x = true
  | [] => by simp
  | c :: l => by
    have ih := ov f l
    cases h : f c with
    | true => simp [List.dropWhile_cons, h, ih]
    | false => simp [List.dropWhile_cons, h]
theorem qF (t : Bs) : decide (Go.Lib.trimS t digs = []) = t.all kl := by
  unfold Go.Lib.trimS Go.Lib.trimLeftS Go.Lib.trimRightS
  have e : (fun x => digs.contains x) = kl := funext digs_c
  rw [e]
  cases h : t.all kl with
  | true =>
    rw [List.all_eq_true] at h
    refine decide_eq_true ?_
    have : t.reverse.dropWhile kl = [] := by
      rw [ov]; intro x hx; exact h x (List.mem_reverse.1 hx)
    rw [this]; rfl
  | false =>
    rw [List.all_eq_false] at h
    obtain ⟨x, hx, hn⟩ := h
    refine decide_eq_false fun q => ?_
    rw [ov] at q
    have hne : t.reverse.dropWhile kl ≠ [] := by
      intro e
      rw [ov] at e
      exact hn (e x (List.mem_reverse.2 hx))
    have := List.head_dropWhile_not kl (l := t.reverse) hne
    have hm := q _ (List.mem_reverse.2 (List.head_mem hne))
    rw [hm] at this
    simp at this
theorem qo (b c : UInt8) (l : Bs) : Go.Lib.index (b :: l) [c] = if b = c then 0 else if Go.Lib.index l [c] = -1 then -1 else Go.Lib.index l [c] + 1 := by
  by_cases h : b = c
  · subst h; simp [Go.Lib.index]
  · simp [Go.Lib.index, h, Ne.symm h]
theorem cut_hit (c : UInt8) (l : Bs) : Go.Lib.cut (c :: l) [c] = ([], l, true) := by
  unfold Go.Lib.cut
  rw [qo, if_pos rfl]; rfl
theorem pu {b c : UInt8} (h : ¬ b = c) (l : Bs) : Go.Lib.cut (b :: l) [c] = (b :: (Go.Lib.cut l [c]).1, (Go.Lib.cut l [c]).2) := by
  have hge := Go.Lib.index_ge l [c]
  unfold Go.Lib.cut
  rw [qo, if_neg h]
  by_cases hm : Go.Lib.index l [c] = -1
  · rw [if_pos hm, hm]; rfl
  · rw [if_neg hm, if_pos (by omega), if_pos (by omega)]
    have h3 : (Go.Lib.index l [c] + 1).toNat = (Go.Lib.index l [c]).toNat + 1 := by omega
    rw [h3]
    simp only [List.take_succ_cons, List.length_singleton, List.drop_succ_cons]
theorem oy (c : UInt8) (r : Bs) : ∀ d : Bs, (∀ x ∈ d, x ≠ c) → Go.Lib.cut (d ++ c :: r) [c] = (d, r, true)
  | [], _ => cut_hit c r
  | b :: d, h => by
    rw [List.cons_append, pu (h b (List.mem_cons_self ..)), oy c r d fun x hx => h x (List.mem_cons_of_mem _ hx)]
theorem ox (c : UInt8) : ∀ d : Bs, (∀ x ∈ d, x ≠ c) → Go.Lib.cut d [c] = (d, [], false)
  | [], _ => by simp [Go.Lib.cut, Go.Lib.index]
  | b :: d, h => by rw [pu (h b (by simp)), ox c d fun x hx => h x (by simp [hx])]
theorem iW (c : UInt8) : ∀ s : Bs, (∀ x ∈ s, x ≠ c) ∨ ∃ p q, s = p ++ c :: q ∧ ∀ x ∈ p, x ≠ c
  | [] => .inl fun x hx => by cases hx
  | b :: s => by
    by_cases h : b = c
    · subst h; exact .inr ⟨[], s, rfl, fun x hx => by cases hx⟩
    · rcases iW c s with g | ⟨p, q, rfl, g⟩
      · left; intro x hx
        rcases List.mem_cons.1 hx with rfl | hx
        · exact h
        · exact g x hx
      · right; refine ⟨b :: p, q, rfl, fun x hx => ?_⟩
        rcases List.mem_cons.1 hx with rfl | hx
        · exact h
        · exact g x hx
def sizeC (w t : Bs) (is : Bool) : Option Nat := if (((is = true ∧ w.map gg = [115, 105, 122, 101]) ∧ t ≠ []) ∧ t.length ≤ 9) ∧ t.all kl = true then some (Go.Dg.val 0 t) else none
theorem pl {s : Bs} (h6 : 6 ≤ s.length) (h : (s.take 5).map gg = [115, 105, 122, 101, 32]) : ∃ p q, s = p ++ 32 :: q ∧ (∀ x ∈ p, x ≠ 32) ∧ p.map gg = [115, 105, 122, 101] ∧ p.length = 4 := by
  match s, h6, h with
  | a :: b :: c :: d :: e :: q, _, h =>
    simp only [List.take_succ_cons, List.take_zero, List.map_cons, List.map_nil, List.cons.injEq, and_true] at h
    obtain ⟨ha, hb, hc, hd, he⟩ := h
    have he := (low_sp e).1 he
    have hn : ∀ {x y : UInt8}, gg x = y → y ≠ 32 → x ≠ 32 := fun {x y} h1 h2 h3 => h2 (by rw [← h1]; exact (low_sp x).2 h3)
    subst he;refine ⟨[a, b, c, d], q, rfl, ?_, by simp [ha, hb, hc, hd], rfl⟩;intro x hx
    simp only [List.mem_cons, List.not_mem_nil, or_false] at hx
    rcases hx with rfl | rfl | rfl | rfl
    · exact hn ha (by decide)
    · exact hn hb (by decide)
    · exact hn hc (by decide)
    · exact hn hd (by decide)
theorem qt {c : UInt8} : ∀ {p p' q q' : Bs}, (∀ x ∈ p, x ≠ c) → (∀ x ∈ p', x ≠ c) → p ++ c :: q = p' ++ c :: q' → p = p' ∧ q = q'
  | [], [], q, q', _, _, h => ⟨rfl, by simpa using h⟩
  | [], b :: p', q, q', _, h2, h => by
    simp at h; exact absurd h.1.symm (h2 b (by simp))
  | a :: p, [], q, q', h1, _, h => by
    simp at h; exact absurd h.1 (h1 a (by simp))
  | a :: p, b :: p', q, q', h1, h2, h => by
    simp only [List.cons_append, List.cons.injEq] at h
    obtain ⟨e1, e2⟩ := qt (fun x hx => h1 x (by simp [hx])) (fun x hx => h2 x (by simp [hx])) h.2;exact ⟨by rw [h.1, e1], e2⟩
theorem sizeW_eq (s : Bs) : mF s = sizeC (Go.Lib.cut s [32]).1 (Go.Lib.cut s [32]).2.1 (Go.Lib.cut s [32]).2.2 := by
  rcases iW 32 s with h | ⟨p, q, rfl, h⟩
  · rw [ox 32 s h]
    unfold sizeC mF
    have : ¬ ((6 ≤ s.length ∧ s.length ≤ 14) ∧ (s.take 5).map gg = [115, 105, 122, 101, 32] ∧ (s.drop 5).all kl = true) := fun g => by
      obtain ⟨p, q, rfl, _⟩ := pl g.1.1 g.2.1;exact h 32 (by simp) rfl
    rw [if_neg this, if_neg (by rintro ⟨⟨⟨⟨q, _⟩, _⟩, _⟩, _⟩; cases q)]
  · rw [oy 32 q p h]
    unfold sizeC mF
    by_cases g : p.map gg = [115, 105, 122, 101]
    · have hl : p.length = 4 := by have := congrArg List.length g; simpa using this
      have e1 : (p ++ 32 :: q).take 5 = p ++ [32] := by rw [show p ++ 32 :: q = (p ++ [32]) ++ q by simp, List.take_left' (by simp [hl])]
      have e2 : (p ++ 32 :: q).drop 5 = q := by rw [show p ++ 32 :: q = (p ++ [32]) ++ q by simp, List.drop_left' (by simp [hl])]
      have e3 : (p ++ [32]).map gg = [115, 105, 122, 101, 32] := by rw [List.map_append, g]; rfl
      have e4 : (p ++ 32 :: q).length = 5 + q.length := by simp [hl]; omega
      rw [e1, e2, e3, e4]
      by_cases k : ((1 ≤ q.length) ∧ q.length ≤ 9) ∧ q.all kl = true
      · rw [if_pos ⟨by omega, rfl, k.2⟩, if_pos ⟨⟨⟨⟨rfl, g⟩, fun e => by have e : q = [] := e; rw [e] at k; simp at k⟩, k.1.2⟩, k.2⟩]
      · rw [if_neg (fun z => k ⟨by omega, z.2.2⟩), if_neg (fun z => k ⟨⟨List.length_pos_iff.2 z.1.1.2, z.1.2⟩, z.2⟩)]
    · rw [if_neg (fun z => by
        obtain ⟨p', q', e, h', g', _⟩ := pl z.1.1 z.2.1;obtain ⟨rfl, _⟩ := qt h h' e
        exact g g'), if_neg (fun z => g z.1.1.1.2)]
theorem cut_len (s : Bs) : (Go.Lib.cut s [32]).1.length ≤ s.length ∧ (Go.Lib.cut s [32]).2.1.length ≤ s.length := by
  rcases iW 32 s with h | ⟨p, q, rfl, h⟩
  · rw [ox 32 s h]; simp
  · rw [oy 32 q p h]; simp; omega
theorem pF (s : Bs) (r : List Bs) : pw (s :: r) = match mF s with | some n => n | none => pw r := rfl
theorem ng (F : Nat) (hF : 2000 < F) (ls : List Bs) (rec : Int → Option Int) (i : Nat) (hi : i < ls.length) (hl : (ls[i]).length ≤ 1000) (hn : ls.length ≤ 1000000) :
    dL F ls rec (i : Int) = match (if i = 0 then none else mF ls[i]) with | some n => some ((n : Nat) : Int) | none => rec ((i + 1 : Nat) : Int) := by
  unfold dL
  obtain ⟨s, hs⟩ : ∃ s, s = ls[i] := ⟨_, rfl⟩
  rw [← hs] at hl ⊢
  obtain ⟨l1, l2⟩ := cut_len s
  rw [bT (by omega), cu (by omega), bm, iC hi, ← hs, gG (by omega), bm, small_eq F _ _ (by omega) (by omega), fC]
  rw [gcS (by omega), gcS (by decide)]
  have ga : ∀ (c : Bool) (x : Option Int), fg c (oA ([48, 49, 50, 51, 52, 53, 54, 55, 56, 57] : List UInt8)) x = x := fun c x => by
    cases c
    · exact jq
    · rw [lv]; rfl
  rw [ga, bm]
  unfold fx
  rw [dn (by omega), jl]
  by_cases h0 : i = 0
  · subst h0
    rw [if_pos rfl, show decide (((0 : Nat) : Int) = 0) = true from rfl, Bool.true_or, Bool.true_or, Bool.true_or, Bool.true_or, Bool.true_or, ctr]
  · rw [if_neg h0, sizeW_eq s, decide_eq_false (p := (i : Int) = 0) (by omega), fo]
    generalize (Go.Lib.cut s [32]).1 = w at *
    generalize (Go.Lib.cut s [32]).2.1 = t at *
    generalize (Go.Lib.cut s [32]).2.2 = is at *
    unfold sizeC
    cases is with
    | false =>
      rw [nfl, Bool.true_or, Bool.true_or, Bool.true_or, Bool.true_or, ctr, if_neg (fun z => by cases z.1.1.1.1)]
    | true =>
      rw [ntr, nfl, ctr, fo]
      by_cases g : w.map gg = [115, 105, 122, 101]
      · rw [decide_eq_true g, ntr, fo]
        by_cases g0 : t = []
        · rw [decide_eq_true g0, Bool.true_or, Bool.true_or, ctr, if_neg (fun z => z.1.1.2 g0)]
        · rw [decide_eq_false g0, fo]
          by_cases g9 : t.length ≤ 9
          · rw [decide_eq_false (p := (9 : Int) < (t.length : Int)) (by omega), fo, show decide (Go.Lib.trimS t ([48, 49, 50, 51, 52, 53, 54, 55, 56, 57] : List UInt8) = []) = t.all kl from qF t]
            cases gd : t.all kl with
            | false =>
              rw [nfl, ctr, if_neg (fun z => by cases z.2)]
            | true =>
              have hp := List.length_pos_iff.2 g0
              rw [ntr, cfl, if_pos ⟨⟨⟨⟨rfl, g⟩, g0⟩, g9⟩, rfl⟩, Atoi_dig F t hp g9 (fun c hc => dig_dg (List.all_eq_true.1 gd c hc)) (by omega), bE, bT rfl]
          · rw [decide_eq_true (p := (9 : Int) < (t.length : Int)) (by omega), Bool.true_or, ctr, if_neg (fun z => g9 z.1.2)]
      · rw [decide_eq_false g, nfl, Bool.true_or, Bool.true_or, Bool.true_or, ctr, if_neg (fun z => g z.1.1.1.2)]
theorem qH (F : Nat) (hF : 2000 < F) (ls : List Bs) (hl : ∀ s ∈ ls, s.length ≤ 1000) (hn : ls.length ≤ 1000000) : ∀ (n i : Nat), ls.length - i < n → i ≤ ls.length → 0 < i →
    et F ls n (i : Int) = some ((pw (ls.drop i) : Nat) : Int) := by
  intro n
  induction n with
  | zero => intro i h; omega
  | succ n ih =>
    intro i hn' hi hp;show dL F ls (et F ls n) (i : Int) = _
    by_cases h : i < ls.length
    · rw [ng F hF ls _ i h (hl _ (List.getElem_mem h)) hn, if_neg (by omega), br h, pF]
      cases mF ls[i] with
      | some k => rfl
      | none => exact ih (i + 1) (by omega) (by omega) (by omega)
    · unfold dL
      rw [bF (by omega), be (by omega)]; rfl
theorem size_eq (F : Nat) (hF : 2000 < F) (c : Int) (ls : List Bs) (x y z : Int) (hl : ∀ s ∈ ls, s.length ≤ 1000) (hn : ls.length ≤ 1000000) (hlF : ls.length < F) : kI F c ls x y z = some ((eU ls : Nat) : Int) := by
  unfold kI eU
  obtain ⟨m, rfl⟩ : ∃ m, F = m + 1 := ⟨F - 1, by omega⟩;show dL (m + 1) ls (et (m + 1) ls m) ((0 : Nat) : Int) = _
  by_cases h : 0 < ls.length
  · rw [ng (m + 1) hF ls _ 0 h (hl _ (List.getElem_mem h)) hn, if_pos rfl]
    exact qH (m + 1) hF ls hl hn m 1 (by omega) (by omega) (by omega)
  · unfold dL
    rw [bF (by omega), be (by omega)]; rfl
end Go.Cl
namespace Go.Cl
open Go.Pv Go.Av
open Go.Dg (cfl ctr gb gM fo nfl ntr)
theorem hund (c : Int) (h0 : -9223372036854775808 ≤ c) (h1 : c ≤ 9223372036854775807) : decide (IntKind.i64.wrap (Int.tdiv c 100) = 2) = (decide (200 ≤ c) && decide (c ≤ 299)) := by
  rw [wrap_i64_tdiv c 100 h0 h1 (by omega)]
  by_cases hn : 0 ≤ c
  · rw [Int.tdiv_eq_ediv_of_nonneg hn]
    by_cases a : 200 ≤ c
    · by_cases b : c ≤ 299
      · rw [decide_eq_true (by omega), decide_eq_true a, decide_eq_true b]; rfl
      · rw [decide_eq_false (by omega), decide_eq_true a, decide_eq_false b]; rfl
    · rw [decide_eq_false (by omega), decide_eq_false a]; rfl
  · have hk : c.tdiv 100 ≤ 0 := by
      have e := Int.neg_tdiv (a := -c) (b := 100)
      rw [Int.neg_neg] at e
      have := Int.tdiv_nonneg (a := -c) (b := 100) (by omega) (by omega)
      omega
    rw [decide_eq_false (by omega), decide_eq_false (by omega)]; rfl
theorem kB (F : Nat) (a2 a3 : Int) (a4 a5 a6 a7 a8 : Bs) (ph : Int) (l : List Bs) (x : Bs) (hj : Str.join [] l = x) (hl : Str.total l ≤ 1000000) (hn : l.length ≤ 10) (hx : x.length ≤ 1000000) (ha : a8.length ≤ 100000000) :
    gi F a2 a3 a4 a5 a6 a7 a8 ph l = some (ph, a8 ++ (x ++ [13, 10])) := by
  unfold gi
  have e0 : ([] : Bs).length = 0 := Eq.symm (Eq.symm rfl)
  have e2 : ([13, 10] : Bs).length = 2 := Eq.symm (Eq.symm rfl)
  rw [grd_Join (by rw [e0]; omega), bm, hj, e2, ce (by omega), bm, ce (by rw [List.length_append, e2]; omega), bm]
theorem lM (F : Nat) (a2 a3 : Int) (a4 a5 a6 a7 a8 : Bs) (o : Int) (ha : a8.length ≤ 100000000) : gQ F a2 a3 a4 a5 a6 a7 a8 o = some (6, o, a8 ++ quitD) := by
  unfold gQ
  rw [kB F a2 o a4 a5 a6 a7 a8 6 _ [81, 85, 73, 84] rfl (by decide) (by decide) (by decide) ha, bE]
  rfl
section
variable (F : Nat) (fr rc nm ml : Bs) (c : Int) (ls : List Bs) (m0 m1 m2 : Int)
theorem step_j (ph out : Int) (acc : Bs) (ha : acc.length ≤ 100000000) (b : Bool) : cA F fr rc nm ml c b ph out acc = some (if b = true then (ph, out, acc) else (6, (if 500 ≤ c ∧ c ≤ 599 then 3 else 2), acc ++ quitD)) := by
  unfold cA
  cases b with
  | true => rfl
  | false =>
    rw [cfl, if_neg (by decide)]
    by_cases h : 500 ≤ c ∧ c ≤ 599
    · rw [if_pos h, decide_eq_true h.1, decide_eq_true h.2, gb, ctr, lM F _ _ _ _ _ _ _ _ ha, cx]
    · have : ((decide (500 ≤ c)) && (decide (c ≤ 599))) = false := by
        by_cases q : 500 ≤ c
        · rw [decide_eq_false (p := c ≤ 599) (fun z => h ⟨q, z⟩), Bool.and_false]
        · rw [decide_eq_false q]; rfl
      rw [if_neg h, this, cfl, lM F _ _ _ _ _ _ _ _ ha, cx]
theorem greet_eq (hnm : nm.length ≤ 1000) (ph out : Int) (acc : Bs) (ha : acc.length ≤ 100000000) : ja F ph out fr rc nm ml acc c ls m0 m1 m2 = some (if fi 0 c = true then (true, 1, acc ++ mH nm) else (false, ph, acc)) := by
  have eg : fi 0 c = decide (c = 220) := by simp [fi]
  unfold ja
  rw [eg]
  by_cases h : c = 220
  · rw [decide_eq_true h, ntr, cfl, if_pos rfl, kB F ph out fr rc nm ml acc 1 _ ([69, 72, 76, 79, 32] ++ nm) (by simp [Str.join, Str.rest]) (by simp [Str.total]; omega) (by simp) (by simp; omega) ha, bE]
    rfl
  · rw [decide_eq_false h, nfl, ctr, if_neg (by decide)]
theorem data_eq (hF : 2000 < F) (hml : ml.length ≤ 1000) (ph out : Int) (acc : Bs) (ha : acc.length ≤ 100000000) : kG F ph out fr rc nm ml acc c ls m0 m1 m2 = some (if fi 4 c = true then (true, 5, acc ++ gK ml) else (false, ph, acc)) := by
  have eg : fi 4 c = decide (c = 354) := by simp [fi]
  unfold kG
  rw [eg]
  by_cases h : c = 354
  · have := kn ml
    rw [decide_eq_true h, ntr, cfl, if_pos rfl, kW F ml (by omega) (by omega), bE, ce (by omega), bm]
  · rw [decide_eq_false h, nfl, ctr, if_neg (by decide)]
theorem kw (h0 : -9223372036854775808 ≤ c) (h1 : c ≤ 9223372036854775807) {ph : Int} (hp : ph = 1 ∨ ph = 2 ∨ ph = 3 ∨ ph = 5) : fi ph c = decide (IntKind.i64.wrap (Int.tdiv c 100) = 2) := by
  rw [hund c h0 h1]
  unfold fi
  rw [if_neg (by omega), if_neg (by omega)]
theorem hello_eq (hF : 2000 < F) (hfr : fr.length ≤ 1000) (hml : ml.length ≤ 1000) (h0 : -9223372036854775808 ≤ c) (h1 : c ≤ 9223372036854775807) (hls : ∀ s ∈ ls, s.length ≤ 1000) (hln : ls.length ≤ 1000) (ph out : Int) (acc : Bs) (ha : acc.length ≤ 100000000) : iZ F ph out fr rc nm ml acc c ls m0 m1 m2 = some (if fi 1 c = true then (if 0 < eU ls ∧ eU ls < (gK ml).length then (true, 6, 3, acc ++ quitD) else (true, 2, out, acc ++ jV fr)) else (false, ph, out, acc)) := by
  unfold iZ
  rw [kw c h0 h1 (.inl rfl)]
  cases h : decide (IntKind.i64.wrap (Int.tdiv c 100) = 2) with
  | false => rw [nfl, ctr, if_neg (by decide)]
  | true =>
    rw [ntr, cfl, if_pos rfl, kW F ml (by omega) (by omega), bE, size_eq F hF c ls m0 m1 m2 hls (by omega) (by omega), bR]
    by_cases q : 0 < eU ls ∧ eU ls < (gK ml).length
    · rw [if_pos q, decide_eq_true (p := (0 : Int) < ((eU ls : Nat) : Int)) (by omega), decide_eq_true (p := ((eU ls : Nat) : Int) < ((gK ml).length : Int)) (by omega), gb, ctr, lM F _ _ _ _ _ _ _ _ ha, cx]
    · have : ((decide ((0 : Int) < ((eU ls : Nat) : Int))) && (decide (((eU ls : Nat) : Int) < ((gK ml).length : Int)))) = false := by
        by_cases g : 0 < eU ls
        · rw [decide_eq_false (p := ((eU ls : Nat) : Int) < ((gK ml).length : Int)) (fun z => q ⟨g, by omega⟩), Bool.and_false]
        · rw [decide_eq_false (p := (0 : Int) < ((eU ls : Nat) : Int)) (by omega)]; rfl
      rw [if_neg q, this, cfl, kB F ph out fr rc nm ml acc 2 _ ([77, 65, 73, 76, 32, 70, 82, 79, 77, 58, 60] ++ fr ++ [62]) (by simp [Str.join, Str.rest]) (by simp [Str.total]; omega) (by simp) (by simp; omega) ha, bE]
      simp [jV]
theorem from_eq (hrc : rc.length ≤ 1000) (h0 : -9223372036854775808 ≤ c) (h1 : c ≤ 9223372036854775807) (ph out : Int) (acc : Bs) (ha : acc.length ≤ 100000000) : kF F ph out fr rc nm ml acc c ls m0 m1 m2 = some (if fi 2 c = true then (true, 3, acc ++ jU rc) else (false, ph, acc)) := by
  unfold kF
  rw [kw c h0 h1 (.inr (.inl rfl))]
  cases h : decide (IntKind.i64.wrap (Int.tdiv c 100) = 2) with
  | false => rw [nfl, ctr, if_neg (by decide)]
  | true =>
    rw [ntr, cfl, if_pos rfl, kB F ph out fr rc nm ml acc 3 _ ([82, 67, 80, 84, 32, 84, 79, 58, 60] ++ rc ++ [62]) (by simp [Str.join, Str.rest]) (by simp [Str.total]; omega) (by simp) (by simp; omega) ha, bE]
    simp [jU]
theorem rcpt_eq (h0 : -9223372036854775808 ≤ c) (h1 : c ≤ 9223372036854775807) (ph out : Int) (acc : Bs) (ha : acc.length ≤ 100000000) : kE F ph out fr rc nm ml acc c ls m0 m1 m2 = some (if fi 3 c = true then (true, 4, acc ++ jX) else (false, ph, acc)) := by
  unfold kE
  rw [kw c h0 h1 (.inr (.inr (.inl rfl)))]
  cases h : decide (IntKind.i64.wrap (Int.tdiv c 100) = 2) with
  | false => rw [nfl, ctr, if_neg (by decide)]
  | true =>
    rw [ntr, cfl, if_pos rfl, kB F ph out fr rc nm ml acc 4 _ [68, 65, 84, 65] rfl (by decide) (by decide) (by decide) ha, bE]
    rfl
theorem body_eq (h0 : -9223372036854775808 ≤ c) (h1 : c ≤ 9223372036854775807) (ph out : Int) (acc : Bs) (ha : acc.length ≤ 100000000) : kH F ph out fr rc nm ml acc c ls m0 m1 m2 = some (if fi 5 c = true then (true, 6, 1, acc ++ quitD) else (false, ph, out, acc)) := by
  unfold kH
  rw [kw c h0 h1 (.inr (.inr (.inr rfl)))]
  cases h : decide (IntKind.i64.wrap (Int.tdiv c 100) = 2) with
  | false => rw [nfl, ctr, if_neg (by decide)]
  | true => rw [ntr, cfl, if_pos rfl, lM F _ _ _ _ _ _ _ _ ha, cx]
theorem step_eq (hF : 2000 < F) (hfr : fr.length ≤ 1000) (hrc : rc.length ≤ 1000) (hnm : nm.length ≤ 1000) (hml : ml.length ≤ 1000) (h0 : -9223372036854775808 ≤ c) (h1 : c ≤ 9223372036854775807) (hls : ∀ s ∈ ls, s.length ≤ 1000) (hln : ls.length ≤ 1000) (ph out : Int) (acc : Bs) (ha : acc.length ≤ 100000000) : kD F ph out fr rc nm ml acc c ls m0 m1 m2 = some ((fq fr rc nm ml ph out c ls).1, (fq fr rc nm ml ph out c ls).2.1, acc ++ (fq fr rc nm ml ph out c ls).2.2) := by
  unfold kD fq
  by_cases h : ph < 0 ∨ 7 ≤ ph
  · have : ((decide (ph < 0)) || (decide (7 ≤ ph))) = true := by
      rcases h with h | h
      · rw [decide_eq_true h]; rfl
      · rw [decide_eq_true h, Bool.or_true]
    rw [if_pos h, this, ctr, List.append_nil]
  · rw [if_neg h, decide_eq_false (fun z => h (.inl z)), decide_eq_false (fun z => h (.inr z)), fo, cfl]
    by_cases h2 : c = 421
    · rw [if_pos h2, bT h2]
      unfold jv
      by_cases g : out = 0
      · rw [bT g, bE, if_pos g, List.append_nil]
      · rw [bF g, bE, if_neg g, List.append_nil]
    · rw [if_neg h2, bF h2, cu (by omega)]
      unfold ef
      have hj := fun (ph out : Int) (acc : Bs) (ha : acc.length ≤ 100000000) (b : Bool) => step_j F fr rc nm ml c ph out acc ha b
      have hq : ph = 0 ∨ ph = 1 ∨ ph = 2 ∨ ph = 3 ∨ ph = 4 ∨ ph = 5 ∨ ph = 6 := by omega
      have hsl := kn ml
      rcases hq with rfl | rfl | rfl | rfl | rfl | rfl | rfl
      · rw [bT rfl, bR, greet_eq F fr rc nm ml c ls m0 m1 m2 hnm 0 out acc ha, if_neg (show ¬ ((0 : Int) = 6) by decide)]
        by_cases q : fi 0 c = true
        · rw [if_pos q, if_pos q, cx]; rfl
        · rw [if_neg q, if_neg q, cx, hj _ _ _ ha]; rfl
      · rw [bF (by decide), bT rfl, bR, hello_eq F fr rc nm ml c ls m0 m1 m2 hF hfr hml h0 h1 hls hln 1 out acc ha, if_neg (show ¬ ((1 : Int) = 6) by decide)]
        by_cases q : fi 1 c = true
        · rw [if_pos q, if_pos q]
          have eg : goP fr rc nm ml 1 out ls = if 0 < eU ls ∧ eU ls < (gK ml).length then (6, 3, quitD) else (2, out, jV fr) := by simp [goP]
          rw [eg]
          by_cases g : 0 < eU ls ∧ eU ls < (gK ml).length
          · rw [if_pos g, if_pos g]; rfl
          · rw [if_neg g, if_neg g]; rfl
        · rw [if_neg q, if_neg q]
          show cA F fr rc nm ml c false 1 out acc = _
          rw [hj _ _ _ ha]; rfl
      · rw [bF (by decide), bF (by decide), bT rfl, bR, from_eq F fr rc nm ml c ls m0 m1 m2 hrc h0 h1 2 out acc ha, if_neg (show ¬ ((2 : Int) = 6) by decide)]
        by_cases q : fi 2 c = true
        · rw [if_pos q, if_pos q, cx]; rfl
        · rw [if_neg q, if_neg q, cx, hj _ _ _ ha]; rfl
      · rw [bF (by decide), bF (by decide), bF (by decide), bT rfl, bR, rcpt_eq F fr rc nm ml c ls m0 m1 m2 h0 h1 3 out acc ha, if_neg (show ¬ ((3 : Int) = 6) by decide)]
        by_cases q : fi 3 c = true
        · rw [if_pos q, if_pos q, cx]; rfl
        · rw [if_neg q, if_neg q, cx, hj _ _ _ ha]; rfl
      · rw [bF (by decide), bF (by decide), bF (by decide), bF (by decide), bT rfl, bR, data_eq F fr rc nm ml c ls m0 m1 m2 hF hml 4 out acc ha, if_neg (show ¬ ((4 : Int) = 6) by decide)]
        by_cases q : fi 4 c = true
        · rw [if_pos q, if_pos q, cx]; rfl
        · rw [if_neg q, if_neg q, cx, hj _ _ _ ha]; rfl
      · rw [bF (by decide), bF (by decide), bF (by decide), bF (by decide), bF (by decide), bT rfl, bR, body_eq F fr rc nm ml c ls m0 m1 m2 h0 h1 5 out acc ha, if_neg (show ¬ ((5 : Int) = 6) by decide)]
        by_cases q : fi 5 c = true
        · rw [if_pos q, if_pos q]; rfl
        · rw [if_neg q, if_neg q]
          show cA F fr rc nm ml c false 5 out acc = _
          rw [hj _ _ _ ha]; rfl
      · rw [bF (by decide), bF (by decide), bF (by decide), bF (by decide), bF (by decide), bF (by decide), bR, if_pos rfl]
        unfold lU
        rw [bE, hj _ _ _ ha, if_pos rfl, List.append_nil]
end
abbrev RL := List (Int × List Bs × Int × Int × Int)
def okR (L : RL) : Prop := ∀ x ∈ L, (200 ≤ x.1 ∧ x.1 ≤ 599) ∧ x.2.1.length ≤ 100 ∧ ∀ s ∈ x.2.1, s.length ≤ 506
theorem step_out (fr rc nm ml : Bs) (hfr : fr.length ≤ 1000) (hrc : rc.length ≤ 1000) (hnm : nm.length ≤ 1000) (hml : ml.length ≤ 1000) (ph out c : Int) (ls : List Bs) : (fq fr rc nm ml ph out c ls).2.2.length ≤ 5000 := by
  have := kn ml
  have hq : quitD.length = 6 := rfl
  unfold fq
  split
  · simp
  split
  · simp
  split
  · simp
  split
  · unfold goP
    split
    · simp [mH]; omega
    split
    · split
      · simp [quitD]
      · simp [jV]; omega
    split
    · simp [jU]; omega
    split
    · simp [jX]
    split
    · simp only; omega
    · simp [quitD]
  · simp [quitD]
theorem run_cons (fr rc nm ml : Bs) {M : Type} (s : St) (x : Int × List Bs × M) (r : List (Int × List Bs × M)) : lJ fr rc nm ml s (x :: r) = lJ fr rc nm ml ((fq fr rc nm ml s.1 s.2.1 x.1 x.2.1).1, (fq fr rc nm ml s.1 s.2.1 x.1 x.2.1).2.1, s.2.2 ++ (fq fr rc nm ml s.1 s.2.1 x.1 x.2.1).2.2) r := rfl
theorem run_loop (F : Nat) (hF : 20000 < F) (fr rc nm ml : Bs) (hfr : fr.length ≤ 1000) (hrc : rc.length ≤ 1000) (hnm : nm.length ≤ 1000) (hml : ml.length ≤ 1000) (L : RL) (hL : okR L) (hn : L.length ≤ 10000) : ∀ (n i : Nat) (ph out : Int) (acc : Bs), L.length - i < n → i ≤ L.length → acc.length ≤ 5000 * i →
    hP F fr rc nm ml L n ((i : Int), ph, out, acc) = some ((lK (lJ fr rc nm ml (ph, out, acc) (L.drop i))).1, (lK (lJ fr rc nm ml (ph, out, acc) (L.drop i))).2.1, fr, rc, nm, ml, (lK (lJ fr rc nm ml (ph, out, acc) (L.drop i))).2.2) := by
  intro n
  induction n with
  | zero => intro i ph out acc h; omega
  | succ n ih =>
    intro i ph out acc hn' hi ha;show hU F fr rc nm ml L (hP F fr rc nm ml L n) (i : Int) ph out acc = _
    unfold hU
    by_cases h : i < L.length
    · obtain ⟨hc, hl, hs⟩ := hL _ (List.getElem_mem h)
      have ho := step_out fr rc nm ml hfr hrc hnm hml ph out (L[i]).1 (L[i]).2.1
      rw [bT (by omega), cu (by omega), bm, iC h, step_eq F fr rc nm ml (L[i]).1 (L[i]).2.1 _ _ _ (by omega) hfr hrc hnm hml (by omega) (by omega) (fun s q => by have := hs s q; omega) (by omega) ph out acc (by omega), cx, dn (by omega), jl]
      rw [ih (i + 1) _ _ _ (by omega) (by omega) (by rw [List.length_append]; omega), br h, run_cons]
    · rw [bF (by omega), be (by omega)]
      unfold hO gl lK jv
      show _ = some ((if ph = 7 then (ph, out, acc) else (7, (if out = 0 then 2 else out), acc)).1, (if ph = 7 then (ph, out, acc) else (7, (if out = 0 then 2 else out), acc)).2.1, fr, rc, nm, ml, (if ph = 7 then (ph, out, acc) else (7, (if out = 0 then 2 else out), acc)).2.2)
      by_cases g : ph = 7
      · rw [decide_eq_true g, ntr, cfl, if_pos g]
      · rw [decide_eq_false g, nfl, ctr, if_neg g]
        by_cases k : out = 0
        · rw [bT k, if_pos k]; rfl
        · rw [bF k, if_neg k]; rfl
end Go.Cl
namespace Go.Rp
open Go.Pv Go.Av
abbrev Bs := List UInt8
theorem nT {c : UInt8} {s : Bs} (h : ∀ b ∈ s, b ≠ c) : Go.Lib.indexByte s c = -1 := by
  induction s with
  | nil => rfl
  | cons b r ih =>
    have h1 : (b == c) = false := by simpa using h b (by simp)
    have h2 := ih fun x hx => h x (by simp [hx])
    unfold Go.Lib.indexByte
    rw [h1, h2]; rfl
theorem oU (s : Bs) (c : UInt8) : -1 ≤ Go.Lib.indexByte s c ∧ Go.Lib.indexByte s c < s.length := by
  induction s with
  | nil => simp [Go.Lib.indexByte]
  | cons b r ih =>
    unfold Go.Lib.indexByte
    split
    · first | (simp; done) | (simp; omega)
    · split
      · first | (simp; done) | (simp; omega)
      · rename_i h
        have h' : ¬ Go.Lib.indexByte r c = -1 := by simpa using h
        simp; omega
theorem getD_at (s : Bs) (k : Nat) (h : k < s.length) : (⟨s.toArray⟩ : ByteArray).get! k = s[k] := by
  show (s.toArray)[k]! = _
  simp [h]
def crlf (b : UInt8) : Bool := decide (b = 13) || decide (b = 10)
end Go.Rp
namespace Go.Rp
open Go.Pv Go.Av
open Go.Lib (decDigits)
open Go.Dg (val ee fX lT mE ow oa Dig qq gk ia mD qv cfl ctr gb gM fo nfl ntr)
def dgB (c : UInt8) : Bool := decide (48 ≤ c.toNat) && decide (c.toNat ≤ 57)
theorem nY {c : UInt8} (h : dgB c = true) : Dig c := by
  unfold dgB at h
  show 48 ≤ c.toNat ∧ c.toNat ≤ 57
  simpa using h
theorem dgB_of {c : UInt8} (h : Dig c) : dgB c = true := by
  unfold dgB
  rw [decide_eq_true h.1, decide_eq_true h.2]; rfl
def okN (s : Bs) : Bool := ((decide (1 ≤ s.length) && decide (s.length ≤ 3)) && s.all dgB) && !(decide (s.head? = some 48) && decide (1 < s.length))
def gL (s : Bs) : Option Nat := if okN s = true then some (val 0 s) else none
theorem ic (c : UInt8) (h : Dig c) (n : Nat) (hn : n = c.toNat - 48) : UInt8.ofNat (48 + n) = c := by
  obtain ⟨h1, h2⟩ := h;subst hn
  rw [show 48 + (c.toNat - 48) = c.toNat by omega, UInt8.ofNat_toNat]
theorem dd2 {n : Nat} (h : 10 ≤ n) (h2 : n < 100) : decDigits n = [UInt8.ofNat (48 + n / 10), UInt8.ofNat (48 + n % 10)] := by
  rw [fX (by omega), ee (by omega)]; rfl
theorem dd3 {n : Nat} (h : 100 ≤ n) (h2 : n < 1000) : decDigits n = [UInt8.ofNat (48 + n / 10 / 10), UInt8.ofNat (48 + n / 10 % 10), UInt8.ofNat (48 + n % 10)] := by
  rw [fX (by omega), dd2 (by omega) (by omega)]; rfl
theorem dd_lt {n : Nat} (h : (decDigits n).length ≤ 3) : n < 1000 := by
  by_cases h1 : n < 1000
  · exact h1
  · rw [fX (by omega), fX (n := n / 10) (by omega), fX (n := n / 10 / 10) (by omega)] at h
    have := mE (n / 10 / 10 / 10)
    simp only [List.length_append, List.length_cons, List.length_nil] at h
    omega
theorem num_dd {s : Bs} {n : Nat} (h : gL s = some n) : s = decDigits n ∧ n < 1000 := by
  unfold gL at h
  by_cases hk : okN s = true
  · rw [if_pos hk] at h
    have hn : val 0 s = n := aB h
    unfold okN at hk
    simp only [Bool.and_eq_true, decide_eq_true_eq, Bool.not_eq_true', Bool.and_eq_false_iff, decide_eq_false_iff_not] at hk
    obtain ⟨⟨⟨h1, h2⟩, h3⟩, h4⟩ := hk
    match s, h1, h2, h3, h4, hn with
    | [a], _, _, h3, h4, hn =>
      have ha := nY (List.all_eq_true.1 h3 a (by simp))
      have hv : val 0 [a] = a.toNat - 48 := by show 10 * 0 + (a.toNat - 48) = _; omega
      have ha' := ha; obtain ⟨ha1, ha2⟩ := ha'
      refine ⟨?_, by omega⟩
      rw [← hn, hv, ee (by omega), ic a ha _ rfl]
    | [a, b], _, _, h3, h4, hn =>
      have ha := nY (List.all_eq_true.1 h3 a (by simp))
      have hb := nY (List.all_eq_true.1 h3 b (by simp))
      have hv : val 0 [a, b] = 10 * (a.toNat - 48) + (b.toNat - 48) := by show 10 * (10 * 0 + (a.toNat - 48)) + (b.toNat - 48) = _; omega
      have ha' := ha; obtain ⟨ha1, ha2⟩ := ha'
      have hb' := hb; obtain ⟨hb1, hb2⟩ := hb'
      have hne : a.toNat ≠ 48 := by
        intro e
        have : a = 48 := UInt8.toNat.inj e
        rcases h4 with h4 | h4
        · exact h4 (by rw [this]; rfl)
        · exact h4 (by simp)
      refine ⟨?_, by omega⟩
      rw [← hn, hv, dd2 (by omega) (by omega), ic a ha _ (by omega), ic b hb _ (by omega)]
    | [a, b, c], _, _, h3, h4, hn =>
      have ha := nY (List.all_eq_true.1 h3 a (by simp))
      have hb := nY (List.all_eq_true.1 h3 b (by simp))
      have hc := nY (List.all_eq_true.1 h3 c (by simp))
      have hv : val 0 [a, b, c] = 100 * (a.toNat - 48) + 10 * (b.toNat - 48) + (c.toNat - 48) := by show 10 * (10 * (10 * 0 + (a.toNat - 48)) + (b.toNat - 48)) + (c.toNat - 48) = _; omega
      have ha' := ha; obtain ⟨ha1, ha2⟩ := ha'
      have hb' := hb; obtain ⟨hb1, hb2⟩ := hb'
      have hc' := hc; obtain ⟨hc1, hc2⟩ := hc'
      have hne : a.toNat ≠ 48 := by
        intro e
        have : a = 48 := UInt8.toNat.inj e
        rcases h4 with h4 | h4
        · exact h4 (by rw [this]; rfl)
        · exact h4 (by simp)
      refine ⟨?_, by omega⟩
      rw [← hn, hv, dd3 (by omega) (by omega), ic a ha _ (by omega), ic b hb _ (by omega), ic c hc _ (by omega)]
    | [], h1, _, _, _, _ => simp at h1
    | a :: b :: c :: d :: r, _, h2, _, _, _ => simp at h2
  · rw [if_neg hk] at h; cases h
theorem dd_head {n : Nat} (h : n < 1000) : ¬ ((decDigits n).head? = some 48 ∧ 1 < (decDigits n).length) := by
  rintro ⟨h1, h2⟩
  by_cases h10 : n < 10
  · rw [ee h10] at h2; simp at h2
  · have key : ∀ k, k < 10 → 1 ≤ k → UInt8.ofNat (48 + k) ≠ 48 := by
      intro k hk h1 e
      have := congrArg UInt8.toNat e
      rw [gk k hk] at this
      have e48 : (48 : UInt8).toNat = 48 := rfl
      omega
    by_cases h100 : n < 100
    · rw [dd2 (by omega) h100] at h1
      exact key (n / 10) (by omega) (by omega) (aB h1)
    · rw [dd3 (by omega) h] at h1
      exact key (n / 10 / 10) (by omega) (by omega) (aB h1)
theorem dd_num {n : Nat} (h : n < 1000) : gL (decDigits n) = some n := by
  have h3 : (decDigits n).length ≤ 3 := by
    by_cases h10 : n < 10
    · rw [ee h10]; simp
    · by_cases h100 : n < 100
      · rw [dd2 (by omega) h100]; simp
      · rw [dd3 (by omega) h]; simp
  have hk : okN (decDigits n) = true := by
    unfold okN
    rw [decide_eq_true (mE n), decide_eq_true h3, List.all_eq_true.2 fun c hc => dgB_of (lT n c hc)]
    have := dd_head h
    by_cases g : (decDigits n).head? = some 48
    · rw [decide_eq_false (p := 1 < (decDigits n).length) fun q => this ⟨g, q⟩, Bool.and_false]; rfl
    · rw [decide_eq_false g]; rfl
  unfold gL
  rw [if_pos hk, oa]
def mI (o : Option (Int × Int)) : Prop := ∃ x k, o = some (x, k) ∧ -9223372036854775808 ≤ x ∧ x ≤ 9223372036854775807
theorem kX {c : Bool} {a b : Option (Int × Int)} (ha : mI a) (hb : mI b) : mI (bif c then a else b) := by cases c <;> assumption
theorem lq (a s : Bs) (ha : a ≠ []) (hs : s.length ≤ 18) : ∀ (n i v : Nat), s.length - i < n → i ≤ s.length → v < 10 ^ i → mI (dI a s n ((v : Int), (i : Int))) := by
  intro n
  induction n with
  | zero => intro i v h; omega
  | succ n ih =>
    intro i v hn hi hv;show mI (dJ a s (dI a s n) (v : Int) (i : Int))
    unfold dJ
    have hv18 : v < 10 ^ 18 := Nat.lt_of_lt_of_le hv (Nat.pow_le_pow_right (by omega) (by omega))
    by_cases h : i < s.length
    · have hv17 : v < 10 ^ 17 := Nat.lt_of_lt_of_le hv (Nat.pow_le_pow_right (by omega) (by omega))
      rw [bT (by omega), cu (by omega), bm]
      obtain ⟨c, hc⟩ : ∃ c, c = at_ s (i : Int) := ⟨_, rfl⟩
      rw [← hc]
      by_cases h9 : 9 < (c - 48).toNat
      · rw [bT (by omega)]; exact ⟨0, 2, rfl, by omega, by omega⟩
      · have e1 : ((v : Int) * 10) + ((c - 48).toNat : Int) = ((v * 10 + (c - 48).toNat : Nat) : Int) := by omega
        have e2 : ((i : Int) + 1) = ((i + 1 : Nat) : Int) := by omega
        rw [bF (by omega), dn (by omega), dn (by omega), dn (by omega), e1, e2]
        refine ih (i + 1) _ (by omega) (by omega) ?_
        rw [Nat.pow_succ]; omega
    · rw [bF (by omega)]
      unfold dG dH
      have hp : 0 < a.length := List.length_pos_iff.2 ha
      rw [cu (by omega), bm]
      refine kX ?_ ⟨_, 0, rfl, by omega, by omega⟩
      rw [dn (by omega)]; exact ⟨_, 0, rfl, by omega, by omega⟩
theorem atoi_b (F : Nat) (s : Bs) (hs : s.length ≤ 3) (hF : 10 < F) : mI (cn F s) := by
  have key : mI (fk F s) := by
    unfold fk dF ft
    by_cases h : 0 < s.length
    · have hc : ((decide (0 < (s.length : Int))) && (decide ((s.length : Int) < 19))) = true := by
        rw [decide_eq_true (by omega), decide_eq_true (by omega)]; rfl
      have hne : s ≠ [] := List.length_pos_iff.1 h
      have hf : (eD s 1).length ≤ s.length := by unfold eD; simp
      rw [hc, ctr, cu (by omega), bm]
      have hg : ∀ (c : Bool) (x : Option (Int × Int)), fg c (cY 0 s.length) x = x := fun c x => kC fun _ => by omega
      rw [hg, bm]
      refine kX ?_ ?_
      · rw [fp (by omega), bm]
        refine kX ⟨0, 2, rfl, by omega, by omega⟩ ?_
        rw [ce (by omega)]
        exact lq s _ hne (by omega) F 0 0 (by omega) (by omega) (by omega)
      · rw [ce (by omega)]
        exact lq s _ hne (by omega) F 0 0 (by omega) (by omega) (by omega)
    · have e : s = [] := List.eq_nil_of_length_eq_zero (by omega)
      subst e;exact ⟨0, 2, rfl, by omega, by omega⟩
  obtain ⟨x, k, e, h1, h2⟩ := key;obtain ⟨x2, k2, e2⟩ := mD F s (by omega) (by omega);refine ⟨x2, k2, e2, ?_⟩
  unfold cn at e2
  rw [e, bE] at e2
  have : x2 = x := by
    by_cases h0 : k = 0
    · subst h0; rw [decide_eq_true rfl, ntr, cfl] at e2; cases e2; rfl
    · rw [decide_eq_false h0, nfl, ctr] at e2
      obtain ⟨_, e2⟩ := aW e2;obtain ⟨_, e2⟩ := aW e2
      cases e2; rfl
  rw [this]; exact ⟨h1, h2⟩
theorem jf (F : Nat) (s : Bs) (hs : s.length ≤ 1000) (hF : 2000 < F) : ∃ x : Int, fu F s = some (x, (gL s).isSome) ∧ ∀ n, gL s = some n → x = n := by
  obtain ⟨x, k, e⟩ := mD F s hs (by omega)
  have hdd : ∀ n, gL s = some n → x = (n : Int) ∧ k = 0 ∧ s.length ≤ 3 ∧ s = decDigits n := by
    intro n hn;obtain ⟨h1, h2⟩ := num_dd hn
    have h3 : s.length ≤ 3 := by
      unfold gL at hn
      by_cases hk : okN s = true
      · unfold okN at hk
        simp only [Bool.and_eq_true, decide_eq_true_eq] at hk
        exact hk.1.1.2
      · rw [if_neg hk] at hn; cases hn
    have := qv F n (by omega) (by omega)
    rw [← h1, e] at this
    cases this
    exact ⟨rfl, rfl, h3, h1⟩
  unfold fu
  rw [e, bE]
  by_cases hc : k = 0 ∧ s.length ≤ 3
  · obtain ⟨rfl, h3⟩ := hc
    obtain ⟨x', k', e', hb⟩ := atoi_b F s h3 (by omega)
    rw [e] at e'; cases e'
    have hcc : ((decide ((0 : Int) = 0)) && (decide ((s.length : Int) ≤ 3))) = true := by
      rw [decide_eq_true (by omega : (s.length : Int) ≤ 3)]; rfl
    rw [hcc, lv, dn hb, bm]
    refine ⟨x, ?_, fun n hn => (hdd n hn).1⟩
    congr 2
    cases hn : gL s with
    | some n =>
      obtain ⟨h1, _, _, h4⟩ := hdd n hn
      rw [h1, ia, decide_eq_true h4.symm, decide_eq_true (Int.natCast_nonneg n)]; rfl
    | none =>
      by_cases h0 : 0 ≤ x
      · have h1 : ¬ Go.Lib.itoa x = s := by
          intro g
          have e2 : x = ((x.toNat : Nat) : Int) := by omega
          rw [e2, ia] at g
          rw [← g, dd_num (dd_lt (by rw [g]; exact h3))] at hn
          cases hn
        rw [decide_eq_false h1]; rfl
      · rw [decide_eq_false h0, Bool.and_false]; rfl
  · have hcc : ((decide (k = 0)) && (decide ((s.length : Int) ≤ 3))) = false := by
      by_cases h0 : k = 0
      · rw [decide_eq_false (p := (s.length : Int) ≤ 3) (by omega), Bool.and_false]
      · rw [decide_eq_false h0]; rfl
    rw [hcc, jq, bm]
    refine ⟨x, ?_, fun n hn => (hdd n hn).1⟩
    congr 2
    cases hn : gL s with
    | some n => obtain ⟨_, h2, h3, _⟩ := hdd n hn; exact absurd ⟨h2, h3⟩ hc
    | none => rfl
end Go.Rp
namespace Go.Rp
open Go.Pv Go.Av
def sp (c : UInt8) : Bs → List Bs
  | [] => [[]]
  | b :: r => if b = c then [] :: sp c r else match sp c r with
    | [] => [[b]]
    | p :: ps => (b :: p) :: ps
theorem sp_ne (c : UInt8) (s : Bs) : sp c s ≠ [] := by
  cases s with
  | nil => simp [sp]
  | cons b r => unfold sp; split; simp; split <;> simp
theorem gn (b c : UInt8) (l : Bs) : Go.Lib.index (b :: l) [c] = if b = c then 0 else if Go.Lib.index l [c] = -1 then -1 else Go.Lib.index l [c] + 1 := by
  by_cases h : b = c
  · subst h; simp [Go.Lib.index]
  · simp [Go.Lib.index, h, Ne.symm h]
def prep (cur : Bs) : List Bs → List Bs
  | [] => [cur]
  | p :: ps => (cur ++ p) :: ps
theorem jN {b c : UInt8} (h : ¬ b = c) (r : Bs) : sp c (b :: r) = prep [b] (sp c r) := by
  simp only [sp, h, if_false]
  cases sp c r <;> rfl
theorem jO (c : UInt8) (r : Bs) : sp c (c :: r) = [] :: sp c r := by simp [sp]
theorem ne (c : UInt8) : ∀ (s : Bs), Go.Lib.splitK [c] 0 (s.count c) s = sp c s
  | [] => rfl
  | b :: l => by
    have ih := ne c l
    have hi := gn b c l
    have hge := Go.Lib.index_ge l [c]
    by_cases h : b = c
    · subst h
      rw [List.count_cons_self, jO, Go.Lib.splitK, hi]
      simp [ih]
    · rw [List.count_cons_of_ne h, jN h, ← ih]
      cases hk : l.count c with
      | zero => simp [Go.Lib.splitK, prep]
      | succ k =>
        rw [Go.Lib.splitK, Go.Lib.splitK, hi]
        simp only [h, if_false]
        by_cases hm : Go.Lib.index l [c] = -1
        · simp [hm, prep]
        · obtain ⟨j, hj⟩ := Int.eq_ofNat_of_zero_le (show 0 ≤ Go.Lib.index l [c] by omega)
          have h2 : ¬ (Go.Lib.index l [c] + 1 = -1) := by omega
          have h3 : (Go.Lib.index l [c] + 1).toNat = j + 1 := by omega
          have h4 : (Go.Lib.index l [c]).toNat = j := by omega
          simp [hm, h2, h3, h4, prep]
theorem qG (s : Bs) (c : UInt8) : Go.Lib.split s [c] = sp c s := by
  unfold Go.Lib.split
  rw [Go.Lib.count_one, ne]
end Go.Rp
namespace Go.Rp
open Go.Pv Go.Av
open Go.Lib (decDigits)
open Go.Dg (ia cfl ctr gb gM fo nfl ntr)
abbrev M3 := Int × Int × Int
def more3 (c : Int) : List Bs → M3
  | [a, b, d] => if c / 100 = 3 then (0, 0, 0) else match gL a, gL b, gL d with
    | some x, some y, some z => if (x : Int) = c / 100 then ((x : Int), (y : Int), (z : Int)) else (0, 0, 0)
    | _, _, _ => (0, 0, 0)
  | _ => (0, 0, 0)
theorem oP (c : Int) (a b d : Bs) : more3 c [a, b, d] = if c / 100 = 3 then (0, 0, 0) else match gL a, gL b, gL d with
    | some x, some y, some z => if (x : Int) = c / 100 then ((x : Int), (y : Int), (z : Int)) else (0, 0, 0)
    | _, _, _ => (0, 0, 0) := rfl
def iG (c : Int) (s : Bs) : M3 := more3 c (sp 46 ((sp 32 s).headD []))
theorem mC : ∀ s : Bs, (Go.Lib.cut s [32]).1 = (sp 32 s).headD []
  | [] => rfl
  | b :: r => by
    have ih := mC r
    by_cases h : b = 32
    · subst h
      rw [jO]
      unfold Go.Lib.cut
      rw [gn, if_pos rfl]
      rfl
    · rw [jN h]
      cases hs : sp 32 r with
      | nil => exact absurd hs (sp_ne 32 r)
      | cons p ps =>
        rw [hs] at ih
        show (Go.Lib.cut (b :: r) [32]).1 = b :: p
        have ih' : (Go.Lib.cut r [32]).1 = p := ih
        rw [← ih']
        unfold Go.Lib.cut
        rw [gn, if_neg h]
        by_cases hn : Go.Lib.index r [32] = -1
        · rw [if_pos hn, if_neg (by omega), if_neg (by rw [hn]; omega)]
        · rw [if_neg hn]
          by_cases h0 : 0 ≤ Go.Lib.index r [32]
          · rw [if_pos (by omega), if_pos h0, show (Go.Lib.index r [32] + 1).toNat = (Go.Lib.index r [32]).toNat + 1 by omega]; rfl
          · have : Go.Lib.index r [32] = -1 := by
              have := Go.Lib.index_one r 32
              have h2 := Go.Lib.indexByte_ge r 32
              omega
            exact absurd this hn
theorem head_len (s : Bs) : ((sp 32 s).headD []).length ≤ s.length := by
  rw [← mC]
  unfold Go.Lib.cut
  split <;> simp
  exact Nat.min_le_right _ _
theorem lN (c : UInt8) : ∀ s : Bs, ∀ w ∈ sp c s, w.length ≤ s.length
  | [], w, h => by
    have : w = [] := by simpa [sp] using h
    rw [this]; simp
  | b :: r, w, h => by
    by_cases hb : b = c
    · subst hb
      rw [jO] at h
      rcases List.mem_cons.1 h with rfl | h
      · simp
      · have := lN b r w h; simp; omega
    · rw [jN hb] at h
      cases hs : sp c r with
      | nil => exact absurd hs (sp_ne c r)
      | cons p ps =>
        rw [hs] at h
        rcases List.mem_cons.1 h with rfl | h
        · have := lN c r p (by rw [hs]; simp)
          simp; omega
        · have := lN c r w (by rw [hs]; simp [h])
          simp; omega
theorem more_eq (F : Nat) (hF : 2000 < F) (c : Nat) (s : Bs) (hs : s.length ≤ 900) : iX F (c : Int) s = some (iG (c : Int) s) ∨ 1000000 < c := by
  by_cases hc : 1000000 < c
  · exact .inr hc
  refine .inl ?_
  have hl := head_len s
  unfold iX iG
  rw [gG (by omega), bm, mC, gG (by omega), lH (by decide), bm, qG]
  generalize hw : sp 46 ((sp 32 s).headD []) = w
  have hlens : ∀ x ∈ w, x.length ≤ 1000 := fun x hx => by
    have := lN 46 ((sp 32 s).headD []) x (by rw [hw]; exact hx)
    omega
  have hg : ∀ (b : Bool) (x : Option M3), fg b (mG (c : Int) 100) x = x := by
    intro b x
    cases b
    · exact jq
    · rw [lv, qp (by omega)]
  rw [hg]
  match w, hlens with
  | [], _ => rfl
  | [a], _ => rfl
  | [a, b], _ => rfl
  | a :: b :: d :: e :: r, _ =>
    have : decide (((a :: b :: d :: e :: r).length : Int) = 3) = false := decide_eq_false (by simp; omega)
    rw [this, nfl, Bool.true_or, ctr]; rfl
  | [a, b, d], hlens =>
    have e3 : decide ((([a, b, d] : List Bs).length : Int) = 3) = true := rfl
    rw [e3, ntr, fo]
    rw [oP]
    by_cases h3 : (c : Int) / 100 = 3
    · rw [bT h3, if_pos h3]
    · rw [bF h3, if_neg h3]
      obtain ⟨xa, ea, ha⟩ := jf F a (hlens a (by simp)) hF;obtain ⟨xb, eb, hb⟩ := jf F b (hlens b (by simp)) hF;obtain ⟨xd, ed, hd⟩ := jf F d (hlens d (by simp)) hF;obtain ⟨G, hG⟩ : ∃ G, F = G + 4 := ⟨F - 4, by omega⟩
      have step : ∀ (n : Nat) (i : Int) (u v w : Int), cT F (c : Int) [a, b, d] (n + 1) (i, u, v, w) = dz F (c : Int) [a, b, d] (cT F (c : Int) [a, b, d] n) i u v w := fun _ _ _ _ _ => rfl
      have lF : ∀ x, cT F (c : Int) [a, b, d] F x = cT F (c : Int) [a, b, d] (G + 3 + 1) x := fun x => by rw [hG]
      rw [lF, step]
      unfold dz
      have a0 : at_ [a, b, d] 0 = a := rfl
      have a1 : at_ [a, b, d] (0 + 1) = b := rfl
      have a2 : at_ [a, b, d] (0 + 1 + 1) = d := rfl
      rw [bT (by simp), cu (by simp), bm, a0, ea, bE]
      cases hna : gL a with
      | none => rfl
      | some x =>
        rw [show (some x).isSome = true from rfl, ntr, cfl, cu (by simp), cu (by simp), bm, dn (by omega), ha x hna]
        show cT F (c : Int) [a, b, d] (G + 2 + 1) (0 + 1, (x : Int), 0, 0) = _
        rw [step]
        unfold dz
        rw [bT (by simp), cu (by simp), bm, a1, eb, bE]
        cases hnb : gL b with
        | none => rfl
        | some y =>
          rw [show (some y).isSome = true from rfl, ntr, cfl, cu (by simp), cu (by simp), bm, dn (by omega), hb y hnb]
          show cT F (c : Int) [a, b, d] (G + 1 + 1) (0 + 1 + 1, (x : Int), (y : Int), 0) = _
          rw [step]
          unfold dz
          rw [bT (by simp), cu (by simp), bm, a2, ed, bE]
          cases hnd : gL d with
          | none => rfl
          | some z =>
            rw [show (some z).isSome = true from rfl, ntr, cfl, cu (by simp), cu (by simp), bm, dn (by omega), hd z hnd]
            show cT F (c : Int) [a, b, d] (G + 1) (0 + 1 + 1 + 1, (x : Int), (y : Int), (z : Int)) = _
            rw [step]
            unfold dz fG eN
            rw [bF (by simp), qp (by omega)]
            by_cases hx : (x : Int) = (c : Int) / 100
            · rw [bT hx]; simp only [if_pos hx]
            · rw [bF hx]; simp only [if_neg hx]
end Go.Rp
namespace Go.Rp
open Go.Pv Go.Av
open Go.Lib (decDigits)
open Go.Dg (ia cfl ctr gb gM fo nfl ntr ee fX ow)
def fitB (s : Bs) : Bool := !(s.any crlf) && decide (s.length ≤ 506)
def lst (ls : List Bs) : Bs := at_ ls ((ls.length : Int) - 1)
def mayB (c : Int) (ls : List Bs) (m : M3) : Bool := (((decide (200 ≤ c) && decide (c ≤ 599)) && (decide (1 ≤ ls.length) && decide (ls.length ≤ 100))) && ls.all fitB) && decide (m = iG c (lst ls))
def lnW (d : Bs) (g : UInt8) (s : Bs) : Bs := d ++ g :: (s ++ [13, 10])
def wrL (d : Bs) : List Bs → Bs
  | [] => []
  | s :: r => lnW d (if r = [] then 32 else 45) s ++ wrL d r
def wrA (c : Int) (ls : List Bs) : Bs := wrL (decDigits c.toNat) ls
theorem may_s {c : Int} {ls : List Bs} {m : M3} (h : mayB c ls m = true) : (200 ≤ c ∧ c ≤ 599) ∧ (1 ≤ ls.length ∧ ls.length ≤ 100) ∧ (∀ s ∈ ls, fitB s = true) ∧ m = iG c (lst ls) := by
  unfold mayB at h
  simp only [Bool.and_eq_true, decide_eq_true_eq] at h
  exact ⟨h.1.1.1, h.1.1.2, fun s hs => List.all_eq_true.1 h.1.2 s hs, h.2⟩
theorem fit_len {s : Bs} (h : fitB s = true) : s.length ≤ 506 := by
  unfold fitB at h
  simp only [Bool.and_eq_true, decide_eq_true_eq] at h
  exact h.2
end Go.Rp
namespace Go.Rp
open Go.Pv Go.Av
open Go.Lib (decDigits indexByte)
open Go.Dg (val Dig ia cfl ctr gb gM fo nfl ntr ee fX ow lT mE)
theorem ib_ge (b : Bs) (c : UInt8) : -1 ≤ indexByte b c := Go.Lib.indexByte_ge b c
theorem ib_lt (b : Bs) (c : UInt8) : indexByte b c < b.length := (oU b c).2
theorem ib_at (p q : Bs) (c : UInt8) (h : ∀ b ∈ p, b ≠ c) : indexByte (p ++ c :: q) c = (p.length : Int) := by
  induction p with
  | nil => simp [Go.Lib.indexByte]
  | cons a p ih =>
    have e : ¬ (a == c) = true := by simpa using h a (by simp)
    have ih' := ih fun b hb => h b (by simp [hb])
    show indexByte (a :: (p ++ c :: q)) c = _
    unfold Go.Lib.indexByte
    rw [if_neg e, ih']
    have e3 : (((p.length : Nat) : Int) == -1) = false := by
      simp
    rw [e3]
    simp
theorem po {b : Bs} {c : UInt8} {i : Nat} (h : indexByte b c = (i : Int)) : ∃ p q, b = p ++ c :: q ∧ p.length = i ∧ ∀ x ∈ p, x ≠ c := by
  induction b generalizing i with
  | nil => have : (-1 : Int) = (i : Int) := h; omega
  | cons a b ih =>
    unfold Go.Lib.indexByte at h
    by_cases e : (a == c) = true
    · rw [if_pos e] at h
      refine ⟨[], b, ?_, by simp only [List.length_nil]; omega, by simp⟩
      rw [show a = c by simpa using e]; rfl
    · rw [if_neg e] at h
      by_cases e2 : indexByte b c = -1
      · rw [e2] at h
        have : (-1 : Int) = (i : Int) := h
        omega
      · have e3 : (indexByte b c == -1) = false := by simpa using e2
        rw [e3] at h
        simp only [Bool.false_eq_true, if_false] at h
        have hg := ib_ge b c
        obtain ⟨p, q, h1, h2, h3⟩ := ih (i := i - 1) (by omega);refine ⟨a :: p, q, by rw [h1]; rfl, by simp; omega, fun x hx => ?_⟩
        rcases List.mem_cons.1 hx with rfl | hx
        · intro e4; exact e (by simp [e4])
        · exact h3 x hx
theorem ib_no {b : Bs} {c : UInt8} (h : ∀ x ∈ b, x ≠ c) : indexByte b c = -1 := nT h
inductive Ln | wait | bad | ok (s : Bs)
def ly (b : Bs) : Ln :=
  if indexByte b 10 < 0 then (if b.length < 512 then .wait else .bad)
  else if indexByte b 10 < 512 ∧ 0 < indexByte b 10 ∧ indexByte b 13 = indexByte b 10 - 1 then .ok (b.take (indexByte b 10 - 1).toNat) else .bad
theorem ln_ok {b s : Bs} (h : ly b = .ok s) : ∃ t, b = s ++ 13 :: 10 :: t ∧ (∀ x ∈ s, crlf x = false) ∧ s.length ≤ 510 := by
  unfold ly at h
  by_cases h0 : indexByte b 10 < 0
  · rw [if_pos h0] at h
    split at h <;> cases h
  · rw [if_neg h0] at h
    split at h
    · rename_i hc
      obtain ⟨h1, h2, h3⟩ := hc
      have hs : b.take (indexByte b 10 - 1).toNat = s := by injection h
      obtain ⟨p, q, e1, e2, e3⟩ := po (b := b) (c := 10) (i := (indexByte b 10).toNat) (by omega);obtain ⟨p', q', g1, g2, g3⟩ := po (b := b) (c := 13) (i := (indexByte b 10 - 1).toNat) (by omega)
      have hp' : p' = s := by rw [← hs, ← g2, g1, List.take_left' rfl]
      have hp : p = p' ++ [13] := by
        have a1 : b.take (indexByte b 10).toNat = p := by rw [← e2, e1, List.take_left' rfl]
        have a2 : b.take (indexByte b 10).toNat = p' ++ [13] := by
          have l : (indexByte b 10).toNat = (p' ++ [13]).length := by simp; omega
          rw [l, g1, show p' ++ 13 :: q' = (p' ++ [13]) ++ q' by simp, List.take_left' rfl]
        rw [← a1, a2]
      refine ⟨q, by rw [← hp', e1, hp]; simp, fun x hx => ?_, by rw [← hp']; omega⟩
      unfold crlf
      rw [← hp'] at hx
      rw [decide_eq_false (g3 x hx), decide_eq_false (e3 x (by rw [hp]; simp [hx]))]; rfl
    · cases h
theorem ln_len {b s : Bs} (h : ly b = .ok s) : s.length + 2 ≤ b.length := by
  obtain ⟨t, rfl, _, _⟩ := ln_ok h
  simp
def jx (s : Bs) : Option Nat :=
  if 4 ≤ s.length ∧ (at_ s 3 = 45 ∨ at_ s 3 = 32) then
    match gL (s.take 3) with
    | some n => if 200 ≤ n ∧ n ≤ 599 then some n else none
    | none => none
  else none
theorem code_s {s : Bs} {n : Nat} (h : jx s = some n) : 4 ≤ s.length ∧ (at_ s 3 = 45 ∨ at_ s 3 = 32) ∧ (200 ≤ n ∧ n ≤ 599) ∧ gL (s.take 3) = some n := by
  unfold jx at h
  split at h
  · rename_i hc
    cases hn : gL (s.take 3) with
    | none => rw [hn] at h; cases h
    | some k =>
      rw [hn] at h
      simp only at h
      split at h
      · cases h; rename_i hk; exact ⟨hc.1, hc.2, hk, rfl⟩
      · cases h
  · cases h
abbrev Rp := Int × List Bs × M3
inductive One | wait | bad | ok (x : Rp) (n : Nat)
def kj : Nat → Int → List Bs → Nat → Bs → One
  | 0, _, _, _, b => match ly b with
    | .wait => .wait
    | _ => .bad
  | k + 1, c, ls, at', b => match ly b with
    | .wait => .wait
    | .bad => .bad
    | .ok s => match jx s with
      | none => .bad
      | some n => if ls ≠ [] ∧ (n : Int) ≠ c then .bad else
        if at_ s 3 = 32 then .ok ((n : Int), ls ++ [s.drop 4], iG (n : Int) (s.drop 4)) (at' + (s.length + 2))
        else kj k (n : Int) (ls ++ [s.drop 4]) (at' + (s.length + 2)) (b.drop (s.length + 2))
def one (b : Bs) : One := kj 100 0 [] 0 b
theorem od : ∀ (k : Nat) (c : Int) (ls : List Bs) (a : Nat) (b : Bs) (x : Rp) (n : Nat), kj k c ls a b = .ok x n →
    ∃ (d : Nat) (l2 : List Bs), x = ((d : Int), ls ++ l2, iG (d : Int) (lst l2)) ∧ l2 ≠ [] ∧ l2.length ≤ k ∧ (∀ s ∈ l2, fitB s = true) ∧ (200 ≤ d ∧ d ≤ 599) ∧ (ls ≠ [] → (d : Int) = c) ∧ a < n ∧ n ≤ a + b.length ∧ b.take (n - a) = wrL (decDigits d) l2
  | 0, c, ls, a, b, x, n, h => by
    unfold kj at h
    split at h <;> cases h
  | k + 1, c, ls, a, b, x, n, h => by
    unfold kj at h
    cases hb : ly b with
    | wait => rw [hb] at h; cases h
    | bad => rw [hb] at h; cases h
    | ok s =>
      rw [hb] at h
      simp only at h
      cases hc : jx s with
      | none => rw [hc] at h; cases h
      | some m =>
        rw [hc] at h
        simp only at h
        by_cases h1 : ls ≠ [] ∧ (m : Int) ≠ c
        · rw [if_pos h1] at h; cases h
        rw [if_neg h1] at h
        have hcode : ls ≠ [] → (m : Int) = c := fun g => by
          by_cases e : (m : Int) = c
          · exact e
          · exact absurd ⟨g, e⟩ h1
        obtain ⟨t, ht, hs, hl⟩ := ln_ok hb;obtain ⟨c1, c2, c3, c4⟩ := code_s hc;obtain ⟨d1, d2⟩ := num_dd c4
        have hlen := ln_len hb
        have hfit : fitB (s.drop 4) = true := by
          unfold fitB
          rw [decide_eq_true (p := (s.drop 4).length ≤ 506) (by simp; omega), Bool.and_true]
          have : (s.drop 4).any crlf = false := by
            rw [List.any_eq_false]
            intro y hy
            rw [hs y (List.mem_of_mem_drop hy)]; simp
          rw [this]; rfl
        have hsplit : s = decDigits m ++ at_ s 3 :: s.drop 4 := by
          have e3 : at_ s 3 = s[3] := iC (i := 3) (by omega)
          rw [← d1, e3]
          have := br (l := s) (i := 3) (by omega)
          conv => lhs; rw [← List.take_append_drop 3 s, this]
        have hln : b.take (s.length + 2) = lnW (decDigits m) (at_ s 3) (s.drop 4) := by
          conv => lhs; rw [ht]
          rw [show s ++ 13 :: 10 :: t = (s ++ [13, 10]) ++ t by simp, show s.length + 2 = (s ++ [13, 10]).length by simp, List.take_left' rfl]
          unfold lnW
          conv => lhs; rw [hsplit]
          simp
        by_cases h2 : at_ s 3 = 32
        · rw [if_pos h2] at h
          injection h with hx hn
          subst hx; subst hn
          refine ⟨m, [s.drop 4], rfl, by simp, by simp, fun y hy => ?_, c3, hcode, by omega, by omega, ?_⟩
          · rw [List.mem_singleton.1 hy]; exact hfit
          · rw [show a + (s.length + 2) - a = s.length + 2 by omega, hln, h2]
            unfold wrL
            rw [if_pos rfl]; unfold wrL; simp
        · rw [if_neg h2] at h
          obtain ⟨d, l2, e1, e2, e3, e4, e5, e6, e7, e8, e9⟩ := od k _ _ _ _ x n h
          have hd : (d : Int) = (m : Int) := e6 (by simp)
          have hdm : d = m := by omega
          subst hdm;refine ⟨d, s.drop 4 :: l2, ?_, by simp, by simp; omega, fun y hy => ?_, e5, hcode, by omega, by simp at e8; omega, ?_⟩
          · rw [e1]
            have : lst (s.drop 4 :: l2) = lst l2 := by
              have hp : 0 < l2.length := List.length_pos_iff.2 e2
              unfold lst
              rw [show (((s.drop 4 :: l2).length : Int) - 1) = ((l2.length - 1 + 1 : Nat) : Int) by simp; omega, show ((l2.length : Int) - 1) = ((l2.length - 1 : Nat) : Int) by omega, iC (by simp only [List.length_cons]; omega), iC (by omega)]
              rfl
            rw [this, List.append_assoc]; rfl
          · rcases List.mem_cons.1 hy with rfl | hy
            · exact hfit
            · exact e4 y hy
          · have g3 : at_ s 3 = 45 := by
              rcases c2 with g | g
              · exact g
              · exact absurd g h2
            have hle : s.length + 2 ≤ n - a := by omega
            have : b.take (n - a) = b.take (s.length + 2) ++ (b.drop (s.length + 2)).take (n - (a + (s.length + 2))) := by
              rw [show n - a = (s.length + 2) + (n - (a + (s.length + 2))) by omega, List.take_add]
            rw [this, e9, hln, g3]
            show _ = lnW (decDigits d) (if l2 = [] then 32 else 45) (s.drop 4) ++ wrL (decDigits d) l2
            rw [if_neg e2]
inductive All : Bs → List Rp → Nat → Bool → Prop
  | wait {b : Bs} : one b = .wait → All b [] 0 false
  | bad {b : Bs} : one b = .bad → All b [] 0 true
  | ok {b : Bs} {x : Rp} {n : Nat} {l : List Rp} {u : Nat} {bd : Bool} : one b = .ok x n → All (b.drop n) l u bd → All b (x :: l) (n + u) bd
theorem one_pos {b : Bs} {x : Rp} {n : Nat} (h : one b = .ok x n) : 0 < n ∧ n ≤ b.length := by
  obtain ⟨d, l2, _, _, _, _, _, _, h7, h8, _⟩ := od 100 0 [] 0 b x n h
  omega
theorem All.ex : ∀ (m : Nat) (b : Bs), b.length < m → ∃ l u bd, All b l u bd
  | 0, b, h => by omega
  | m + 1, b, h => by
    cases hb : one b with
    | wait => exact ⟨_, _, _, .wait hb⟩
    | bad => exact ⟨_, _, _, .bad hb⟩
    | ok x n =>
      obtain ⟨h1, h2⟩ := one_pos hb;obtain ⟨l, u, bd, hh⟩ := All.ex m (b.drop n) (by simp; omega);exact ⟨_, _, _, .ok hb hh⟩
theorem All.le {b : Bs} {l : List Rp} {u : Nat} {bd : Bool} (h : All b l u bd) : u ≤ b.length ∧ l.length ≤ u := by
  induction h with
  | wait e => simp
  | bad e => simp
  | ok e _ ih =>
    have := one_pos e
    simp at ih ⊢
    omega
def wrX (x : Rp) : Bs := wrA x.1 x.2.1
def mayX (x : Rp) : Bool := mayB x.1 x.2.1 x.2.2
theorem oQ (l : List Bs) : ([] : List Bs) ++ l = l := rfl
theorem one_may {b : Bs} {x : Rp} {n : Nat} (h : one b = .ok x n) : mayX x = true ∧ wrX x = b.take n := by
  obtain ⟨d, l2, h1, h2, h3, h4, h5, _, _, _, h9⟩ := od 100 0 [] 0 b x n h;subst h1
  have hp : 1 ≤ l2.length := List.length_pos_iff.2 h2
  refine ⟨?_, ?_⟩
  · unfold mayX mayB
    simp only [Bool.and_eq_true, decide_eq_true_eq, oQ]
    exact ⟨⟨⟨⟨by omega, by omega⟩, hp, h3⟩, List.all_eq_true.2 h4⟩, trivial⟩
  · rw [Nat.sub_zero] at h9
    rw [h9]; rfl
theorem All.may {b : Bs} {l : List Rp} {u : Nat} {bd : Bool} (h : All b l u bd) : (∀ x ∈ l, mayX x = true) ∧ (l.map wrX).flatten = b.take u := by
  induction h with
  | wait e => exact ⟨by simp, by simp⟩
  | bad e => exact ⟨by simp, by simp⟩
  | ok e _ ih =>
    obtain ⟨h1, h2⟩ := one_may e;refine ⟨fun y hy => ?_, ?_⟩
    · rcases List.mem_cons.1 hy with rfl | hy
      · exact h1
      · exact ih.1 y hy
    · rw [List.map_cons, List.flatten_cons, h2, ih.2, List.take_add]
end Go.Rp
namespace Go.Cl
open Go.Pv Go.Av
open Go.Lib (indexByte)
open Go.Dg (cfl ctr gb gM fo nfl ntr)
theorem ib_in (l : Bs) (c : UInt8) : decide (indexByte l c < 0) = !(l.contains c) := by
  have hlt := Go.Rp.ib_lt l c
  cases h : l.contains c with
  | false =>
    have : ∀ x ∈ l, x ≠ c := fun x hx e => by
      have : l.contains c = true := by rw [List.contains_iff_mem]; exact e ▸ hx
      rw [h] at this; cases this
    rw [Go.Rp.ib_no this]; rfl
  | true =>
    refine decide_eq_false fun g => ?_
    have hge := Go.Rp.ib_ge l c
    have hm : c ∈ l := by rw [← List.contains_iff_mem]; exact h
    obtain ⟨p, q, rfl, hp⟩ : ∃ p q, l = p ++ c :: q ∧ ∀ x ∈ p, x ≠ c := by
      rcases iW c l with z | z
      · exact absurd rfl (z c hm)
      · exact z
    rw [Go.Rp.ib_at p q c hp] at g
    omega
def lenB (s : Bs) : Bool := decide (3 ≤ s.length) && decide (s.length ≤ 60)
def iE (f : UInt8 → Bool) (s : Bs) : Bool := s.all f && (decide (s ≠ []) && decide (s.length ≤ 60))
theorem qM (s w : Bs) (hs : s.length ≤ 1100000) : ∀ (n i : Nat), s.length - i < n → i ≤ s.length →
    gu s w n (i : Int) = some ((s.drop i).all w.contains && (decide (s ≠ []) && decide (s.length ≤ 60))) := by
  intro n
  induction n with
  | zero => intro i h; omega
  | succ n ih =>
    intro i hn hi;show gw s w (gu s w n) (i : Int) = _
    unfold gw
    by_cases h : i < s.length
    · rw [bT (by omega), cu (by omega), bm, bm, iC h, ib_in, br h, List.all_cons]
      cases hc : w.contains s[i] with
      | false => rfl
      | true => rw [ntr, cfl, gb, dn (by omega), jl, ih (i + 1) (by omega) (by omega)]
    · rw [bF (by omega), be (by omega)]
      unfold gt
      have e1 : (!decide (s = ([] : List UInt8))) = decide (s ≠ []) := by by_cases q : s = [] <;> simp [q]
      have e2 : decide ((s.length : Int) ≤ 60) = decide (s.length ≤ 60) := by by_cases q : s.length ≤ 60 <;> simp [q] <;> omega
      rw [e1, e2, List.all_nil, gb]
theorem oc (F : Nat) (s w : Bs) (hs : s.length ≤ 1100000) (hF : s.length < F) : iB F s w = some (iE w.contains s) := by
  unfold iB iE
  have := qM s w hs F 0 (by omega) (by omega)
  rw [List.drop_zero] at this
  exact this
def perB (c : UInt8) : Bool := clia_k1.contains c
def hostB (c : UInt8) : Bool := clia_k2.contains c
def fR (s : Bs) : Bool := (((Go.Lib.cut s [64]).2.2 && iE perB (Go.Lib.cut s [64]).1) && iE perB (Go.Lib.cut s [64]).2.1) && lenB s
theorem rn (s : Bs) : (Go.Lib.cut s [64]).1.length ≤ s.length ∧ (Go.Lib.cut s [64]).2.1.length ≤ s.length := by
  rcases iW 64 s with h | ⟨p, q, rfl, h⟩
  · rw [ox 64 s h]; simp
  · rw [oy 64 q p h]; simp; omega
theorem len_dec (s : Bs) : ((decide (3 ≤ (s.length : Int))) && (decide ((s.length : Int) ≤ 60))) = lenB s := by
  unfold lenB
  have e1 : decide (3 ≤ (s.length : Int)) = decide (3 ≤ s.length) := by by_cases q : 3 ≤ s.length <;> simp [q] <;> omega
  have e2 : decide ((s.length : Int) ≤ 60) = decide (s.length ≤ 60) := by by_cases q : s.length ≤ 60 <;> simp [q] <;> omega
  rw [e1, e2]
theorem mt (F : Nat) (s : Bs) (hs : s.length ≤ 1100000) (hF : s.length < F) : fw F s = some (fR s) := by
  unfold fw fR
  obtain ⟨l1, l2⟩ := rn s
  rw [gG (by omega), bm, oc F _ _ (by omega) (by omega), fC, oc F _ _ (by omega) (by omega), fC, Bool.and_assoc, len_dec]
  show some _ = some _
  congr 1
  show ((((Go.Lib.cut s [64]).2.2 && (bif (Go.Lib.cut s [64]).2.2 then iE perB (Go.Lib.cut s [64]).1 else default)) && (bif ((Go.Lib.cut s [64]).2.2 && (bif (Go.Lib.cut s [64]).2.2 then iE perB (Go.Lib.cut s [64]).1 else default)) then iE perB (Go.Lib.cut s [64]).2.1 else default)) && lenB s) = _
  cases (Go.Lib.cut s [64]).2.2 with
  | false => rfl
  | true =>
    rw [ctr, gb]
    cases iE perB (Go.Lib.cut s [64]).1 with
    | false => rfl
    | true => rfl
def mayS (fr rc nm ml : Bs) : Bool := ((fR fr && fR rc) && iE hostB nm) && jb ml
abbrev S7 := Int × Int × Bs × Bs × Bs × Bs × Int
def qb (fr rc nm ml : Bs) : S7 := if mayS fr rc nm ml = true then (0, 0, fr, rc, nm, ml, 0) else (0, 0, [], [], [], [], 1)
theorem start_eq (F : Nat) (fr rc nm ml : Bs) (hfr : fr.length ≤ 1100000) (hrc : rc.length ≤ 1100000) (hnm : nm.length ≤ 1100000) (hml : ml.length ≤ 1100000) (h1 : fr.length < F) (h2 : rc.length < F) (h3 : nm.length < F) (h4 : ml.length < F) :
    ib F fr rc nm ml = some (qb fr rc nm ml) := by
  unfold ib
  rw [mt F fr hfr h1, bR, mt F rc hrc h2, fC, oc F nm _ hnm h3, fC, qm F ml hml h4, fC]
  show (bif (((!fR fr) || (!(bif !(!fR fr) then fR rc else default))) || (!(bif !((!fR fr) || (!(bif !(!fR fr) then fR rc else default))) then iE hostB nm else default))) || (!(bif !(((!fR fr) || (!(bif !(!fR fr) then fR rc else default))) || (!(bif !((!fR fr) || (!(bif !(!fR fr) then fR rc else default))) then iE hostB nm else default))) then jb ml else default)) then some ((0, 0, [], [], [], [], 1) : S7) else grd (okS ml.length) (some ((0, 0, fr, rc, nm, ml, 0) : S7))) = _
  unfold qb mayS
  rw [gG (by omega)]
  cases fR fr with
  | false => rfl
  | true =>
    cases fR rc with
    | false => rfl
    | true =>
      cases iE hostB nm with
      | false => rfl
      | true => cases jb ml <;> rfl
end Go.Cl
namespace Go.Rp
open Go.Pv Go.Av
open Go.Lib (decDigits indexByte)
open Go.Dg (cfl ctr gb gM fo nfl ntr)
theorem kV (F : Nat) (b : Bool) : dK F b = some (bif b then Res.ok () else Res.pan 0) := by cases b <;> rfl
theorem pn (F : Nat) (b : Bs) (c : UInt8) : dR F b c = some (indexByte b c) := rfl
section
variable {σ : Type}
theorem pL (F : Nat) (k : σ → Bs → Option (σ × Option Bool)) (rec : (Bs × σ) → Option (σ × Bool × Bs)) (b : Bs) (st : σ) (hb : b.length ≤ 2000000) :
    dX F k rec b st = match ly b with
      | .wait => some (st, false, b)
      | .bad => some (st, true, [])
      | .ok s => bnd (k st s) fun x => bndo x.2 (some (x.1, true, [])) fun g => bif !g then some (x.1, false, b) else rec (b.drop (s.length + 2), x.1) := by
  have g10 := ib_ge b 10
  have g13 := ib_ge b 13
  have l10 := ib_lt b 10
  have l13 := ib_lt b 13
  unfold dX ly
  rw [pn, bR, pn]
  simp only [kV]
  by_cases h0 : indexByte b 10 < 0
  · rw [bT h0, if_pos h0]
    by_cases hl : b.length < 512
    · rw [decide_eq_true (p := (b.length : Int) < 512) (by omega), if_pos hl]; rfl
    · rw [decide_eq_false (p := (b.length : Int) < 512) (by omega), if_neg hl]; rfl
  · rw [bF h0, if_neg h0]
    by_cases h1 : indexByte b 10 < 512 ∧ 0 < indexByte b 10
    · obtain ⟨h1, h2⟩ := h1
      rw [decide_eq_true h1, decide_eq_true h2, gb, bndc_t, bR, lv, dn (by omega), gb]
      by_cases h3 : indexByte b 13 = indexByte b 10 - 1
      · rw [decide_eq_true h3, ctr, oh, dn (by omega), fp (by omega), bm, if_pos ⟨h1, h2, h3⟩]
        have e1 : to_ b (indexByte b 10 - 1) = b.take (indexByte b 10 - 1).toNat := rfl
        have e2 : eD b (indexByte b 10 + 1) = b.drop ((b.take (indexByte b 10 - 1).toNat).length + 2) := by
          unfold eD
          congr 1
          rw [List.length_take]; omega
        have hI : -9223372036854775808 ≤ indexByte b 10 + 1 ∧ indexByte b 10 + 1 ≤ 9223372036854775807 := by omega
        have hT : 0 ≤ indexByte b 10 + 1 ∧ indexByte b 10 + 1 ≤ b.length := by omega
        rw [e1]
        simp only [dn hI, fp hT, bm, e2]
      · rw [decide_eq_false h3, cfl, gA, if_neg (fun g => h3 g.2.2)]
    · have e : ((decide (indexByte b 10 < 512)) && (decide (0 < indexByte b 10))) = false := by
        by_cases q : indexByte b 10 < 512
        · rw [decide_eq_false (p := 0 < indexByte b 10) (fun r => h1 ⟨q, r⟩), Bool.and_false]
        · rw [decide_eq_false q]; rfl
      rw [e, bndc_f, jq, gM, cfl, gA, if_neg (fun g => h1 ⟨g.1, g.2.1⟩)]
end
abbrev S5 := Int × Int × List Bs × List Rp × Int
def kk (F : Nat) (s : S5) (x : Bs) : Option (S5 × Option Bool) := eL F s.1 s.2.1 s.2.2.1 s.2.2.2.1 s.2.2.2.2 x
def lineR (a : Nat) (c : Int) (ls : List Bs) (l : List Rp) (u : Int) (s : Bs) : S5 × Option Bool :=
  match jx s with
  | none => (((a : Int), c, ls, l, u), none)
  | some n => if ls.length < 100 ∧ ¬ (ls ≠ [] ∧ (n : Int) ≠ c) then
      (if at_ s 3 = 32 then (((a + (s.length + 2) : Nat) : Int), 0, [], l ++ [((n : Int), ls ++ [s.drop 4], iG (n : Int) (s.drop 4))], ((a + (s.length + 2) : Nat) : Int))
       else (((a + (s.length + 2) : Nat) : Int), (n : Int), ls ++ [s.drop 4], l, u), some true)
    else (((a : Int), c, ls, l, u), none)
theorem kk_eq (F : Nat) (hF : 2000 < F) (a : Nat) (c : Int) (ls : List Bs) (l : List Rp) (u : Int) (s : Bs) (hs : s.length ≤ 510) (ha : a ≤ 2000000) (hls : ls.length ≤ 100) (hl : l.length ≤ 2000000) :
    kk F ((a : Int), c, ls, l, u) s = some (lineR a c ls l u s) := by
  unfold kk eL lineR jx
  simp only
  by_cases h4 : 4 ≤ s.length
  · have hd4 : decide ((4 : Int) ≤ (s.length : Int)) = true := decide_eq_true (by omega)
    have hg : ∀ (b : Bool) (x : Option (S5 × Option Bool)), fg b (cY 3 s.length) x = x := fun b x => kC fun _ => by omega
    rw [hd4, hg, bm, hg, bm, gb]
    simp only [kV]
    obtain ⟨g, hgd⟩ : ∃ g, g = at_ s 3 := ⟨_, rfl⟩
    rw [← hgd]
    by_cases hsg : g = 45 ∨ g = 32
    · have esg : ((decide (g = 45)) || (decide (g = 32))) = true := by
        rcases hsg with e | e <;> rw [e] <;> decide
      rw [if_pos ⟨h4, hsg⟩, esg, gb]
      by_cases h100 : ls.length < 100
      · rw [decide_eq_true (p := (ls.length : Int) < 100) (by omega), ctr, oh, fp (by omega), bm]
        have e3 : to_ s 3 = s.take 3 := rfl
        have e4 : eD s 4 = s.drop 4 := rfl
        obtain ⟨x, ex, hx⟩ := jf F (s.take 3) (by simp; omega) hF
        rw [e3, ex, bE]
        cases hn : gL (s.take 3) with
        | none => rfl
        | some n =>
          rw [hx n hn, show (some n).isSome = true from rfl, gb]
          simp only
          by_cases hr : 200 ≤ n ∧ n ≤ 599
          · rw [if_pos hr, decide_eq_true (p := (200 : Int) ≤ (n : Int)) (by omega), decide_eq_true (p := (n : Int) ≤ 599) (by omega), gb, gb]
            simp only
            by_cases hc : ls ≠ [] ∧ (n : Int) ≠ c
            · have e : ((decide ((ls.length : Int) = 0)) || (decide ((n : Int) = c))) = false := by
                rw [decide_eq_false hc.2, Bool.or_false]
                refine decide_eq_false fun g => hc.1 (List.length_eq_zero_iff.1 (by omega))
              rw [e, cfl, gA, if_neg (fun g => g.2 hc)]
            · have e : ((decide ((ls.length : Int) = 0)) || (decide ((n : Int) = c))) = true := by
                by_cases q : (n : Int) = c
                · rw [decide_eq_true q, Bool.or_true]
                · have : ls = [] := by
                    by_cases q2 : ls = []
                    · exact q2
                    · exact absurd ⟨q2, q⟩ hc
                  rw [this]; rfl
              rw [e, ctr, oh, fp (by omega), bm, e4, ce (by simp; omega), bm, if_pos ⟨h100, hc⟩]
              unfold gp
              have ea : (a : Int) + ((s.length : Int) + 2) = ((a + (s.length + 2) : Nat) : Int) := by omega
              rw [dn (by omega), dn (by omega), cu (by omega), bm, ← hgd, ea]
              by_cases h32 : g = 32
              · rw [bT h32, if_pos h32, fp (by omega), bm, e4]
                rcases more_eq F hF n (s.drop 4) (by simp; omega) with em | em
                · rw [em, show iG (n : Int) (s.drop 4) = ((iG (n : Int) (s.drop 4)).1, (iG (n : Int) (s.drop 4)).2.1, (iG (n : Int) (s.drop 4)).2.2) from rfl, cx]
                  unfold ko
                  rw [ce (by simp; omega), bm, bE]
                · omega
              · rw [bF h32, if_neg h32]
          · have e : (((decide ((200 : Int) ≤ (n : Int))) && (decide ((n : Int) ≤ 599))) && ((decide ((ls.length : Int) = 0)) || (decide ((n : Int) = c)))) = false := by
              by_cases q : 200 ≤ n
              · rw [decide_eq_false (p := (n : Int) ≤ 599) (by omega), Bool.and_false, gM]
              · rw [decide_eq_false (p := (200 : Int) ≤ (n : Int)) (by omega), gM, gM]
            rw [e, cfl, gA, if_neg hr]
      · rw [decide_eq_false (p := (ls.length : Int) < 100) (by omega), cfl, gA]
        cases hn : gL (s.take 3) with
        | none => rfl
        | some n =>
          simp only
          by_cases hr : 200 ≤ n ∧ n ≤ 599
          · rw [if_pos hr]; simp only; rw [if_neg (fun q => h100 q.1)]
          · rw [if_neg hr]
    · have esg : ((decide (g = 45)) || (decide (g = 32))) = false := by
        rw [decide_eq_false (fun e => hsg (.inl e)), decide_eq_false (fun e => hsg (.inr e))]; rfl
      rw [if_neg (fun q => hsg q.2), esg, gM, cfl, gA]
  · have hd4 : decide ((4 : Int) ≤ (s.length : Int)) = false := decide_eq_false (by omega)
    rw [hd4, jq, bm, gM, jq, bm, gM, gM, kV, cfl, gA, if_neg (fun q => h4 q.1)]
theorem il (d : Nat) : ∀ (k : Nat) (c : Int) (ls : List Bs) (a : Nat) (b : Bs), kj k c ls (a + d) b = match kj k c ls a b with | .ok x n => .ok x (n + d) | y => y
  | 0, c, ls, a, b => by
    unfold kj
    cases ly b <;> rfl
  | k + 1, c, ls, a, b => by
    unfold kj
    cases ly b with
    | wait => rfl
    | bad => rfl
    | ok s =>
      simp only
      cases jx s with
      | none => rfl
      | some n =>
        simp only
        by_cases h1 : ls ≠ [] ∧ (n : Int) ≠ c
        · rw [if_pos h1, if_pos h1]
        · rw [if_neg h1, if_neg h1]
          by_cases h2 : at_ s 3 = 32
          · rw [if_pos h2, if_pos h2]
            simp only
            rw [show a + d + (s.length + 2) = a + (s.length + 2) + d by omega]
          · rw [if_neg h2, if_neg h2, show a + d + (s.length + 2) = a + (s.length + 2) + d by omega]
            exact il d k _ _ _ _
abbrev LL (F : Nat) (m : Nat) (b : Bs) (st : S5) : Option (S5 × Bool × Bs) := dW F (kk F) m (b, st)
theorem qn (F : Nat) (hF : 2000 < F) (m : Nat) (b : Bs) (a : Nat) (c : Int) (ls : List Bs) (l : List Rp) (u : Int) (hb : b.length ≤ 1000000) (ha : a ≤ 1000000) (hls : ls.length ≤ 100) (hl : l.length ≤ 1000000) :
    LL F (m + 1) b ((a : Int), c, ls, l, u) = match ly b with
      | .wait => some (((a : Int), c, ls, l, u), false, b)
      | .bad => some (((a : Int), c, ls, l, u), true, [])
      | .ok s => match jx s with
        | none => some (((a : Int), c, ls, l, u), true, [])
        | some n => if ls.length < 100 ∧ ¬ (ls ≠ [] ∧ (n : Int) ≠ c) then
            (if at_ s 3 = 32 then LL F m (b.drop (s.length + 2)) (((a + (s.length + 2) : Nat) : Int), 0, [], l ++ [((n : Int), ls ++ [s.drop 4], iG (n : Int) (s.drop 4))], ((a + (s.length + 2) : Nat) : Int))
             else LL F m (b.drop (s.length + 2)) (((a + (s.length + 2) : Nat) : Int), (n : Int), ls ++ [s.drop 4], l, u))
          else some (((a : Int), c, ls, l, u), true, []) := by
  have e : LL F (m + 1) b ((a : Int), c, ls, l, u) = dX F (kk F) (dW F (kk F) m) b ((a : Int), c, ls, l, u) := rfl
  rw [e, pL F _ _ b _ (by omega)]
  cases hb : ly b with
  | wait => rfl
  | bad => rfl
  | ok s =>
    simp only
    obtain ⟨t, _, _, hsl⟩ := ln_ok hb
    rw [kk_eq F hF a c ls l u s hsl (by omega) (by omega) (by omega), bR]
    unfold lineR
    cases jx s with
    | none => rfl
    | some n =>
      simp only
      by_cases h1 : ls.length < 100 ∧ ¬ (ls ≠ [] ∧ (n : Int) ≠ c)
      · simp only [if_pos h1]
        by_cases h2 : at_ s 3 = 32
        · simp only [if_pos h2]; rfl
        · simp only [if_neg h2]; rfl
      · simp only [if_neg h1]; rfl
theorem jh (F : Nat) (hF : 2000 < F) (l : List Rp) (u : Int) (hl : l.length ≤ 1000000) : ∀ (j m : Nat) (b : Bs) (a : Nat) (c : Int) (ls : List Bs), ls.length + j = 100 → b.length < m → a + b.length ≤ 1000000 →
    match kj j c ls a b with
    | .wait => ∃ st b', LL F m b ((a : Int), c, ls, l, u) = some (st, false, b') ∧ st.2.2.2.1 = l ∧ st.2.2.2.2 = u
    | .bad => ∃ st b', LL F m b ((a : Int), c, ls, l, u) = some (st, true, b') ∧ st.2.2.2.1 = l ∧ st.2.2.2.2 = u
    | .ok x n => ∃ m', (b.drop (n - a)).length < m' ∧ a < n ∧ LL F m b ((a : Int), c, ls, l, u) = LL F m' (b.drop (n - a)) ((n : Int), 0, [], l ++ [x], (n : Int))
  | j, 0, b, a, c, ls, hj, hm, ha => by omega
  | 0, m + 1, b, a, c, ls, hj, hm, ha => by
    rw [qn F hF m b a c ls l u (by omega) (by omega) (by omega) hl]
    unfold kj
    cases hb : ly b with
    | wait => exact ⟨_, _, rfl, rfl, rfl⟩
    | bad => exact ⟨_, _, rfl, rfl, rfl⟩
    | ok s =>
      simp only
      cases jx s with
      | none => exact ⟨_, _, rfl, rfl, rfl⟩
      | some n =>
        simp only
        rw [if_neg (fun q => by omega)]
        exact ⟨_, _, rfl, rfl, rfl⟩
  | j + 1, m + 1, b, a, c, ls, hj, hm, ha => by
    rw [qn F hF m b a c ls l u (by omega) (by omega) (by omega) hl]
    unfold kj
    cases hb : ly b with
    | wait => exact ⟨_, _, rfl, rfl, rfl⟩
    | bad => exact ⟨_, _, rfl, rfl, rfl⟩
    | ok s =>
      have hln := ln_len hb
      simp only
      cases jx s with
      | none => exact ⟨_, _, rfl, rfl, rfl⟩
      | some n =>
        simp only
        by_cases h1 : ls ≠ [] ∧ (n : Int) ≠ c
        · have h1' : ¬ (ls.length < 100 ∧ ¬ (ls ≠ [] ∧ (n : Int) ≠ c)) := fun q => q.2 h1
          simp only [if_pos h1, if_neg h1']
          exact ⟨_, _, rfl, rfl, rfl⟩
        · have h1' : ls.length < 100 ∧ ¬ (ls ≠ [] ∧ (n : Int) ≠ c) := ⟨by omega, h1⟩
          simp only [if_neg h1, if_pos h1']
          by_cases h2 : at_ s 3 = 32
          · simp only [if_pos h2]
            refine ⟨m, ?_, by omega, ?_⟩
            · rw [List.length_drop]; omega
            · rw [show a + (s.length + 2) - a = s.length + 2 by omega]
          · simp only [if_neg h2]
            have ih := jh F hF l u hl j m (b.drop (s.length + 2)) (a + (s.length + 2)) (n : Int) (ls ++ [s.drop 4]) (by simp; omega) (by rw [List.length_drop]; omega) (by rw [List.length_drop]; omega)
            cases hq : kj j (n : Int) (ls ++ [s.drop 4]) (a + (s.length + 2)) (b.drop (s.length + 2)) with
            | wait => rw [hq] at ih; exact ih
            | bad => rw [hq] at ih; exact ih
            | ok x n' =>
              rw [hq] at ih
              simp only at ih ⊢
              obtain ⟨m', i1, i2, i3⟩ := ih
              have ed : (b.drop (s.length + 2)).drop (n' - (a + (s.length + 2))) = b.drop (n' - a) := by
                rw [List.drop_drop]; congr 1; omega
              rw [ed] at i1 i3
              exact ⟨m', i1, by omega, i3⟩
theorem qN (F : Nat) (hF : 2000 < F) {b : Bs} {l2 : List Rp} {u : Nat} {bd : Bool} (h : All b l2 u bd) : ∀ (m a : Nat) (l : List Rp), b.length < m → a + b.length ≤ 1000000 → l.length ≤ a →
    ∃ st b', LL F m b ((a : Int), 0, [], l, (a : Int)) = some (st, bd, b') ∧ st.2.2.2.1 = l ++ l2 ∧ st.2.2.2.2 = ((a + u : Nat) : Int) := by
  induction h with
  | @wait b e =>
    intro m a l hm ha hl
    have := jh F hF l (a : Int) (by omega) 100 m b a 0 [] rfl hm ha
    have sh := il a 100 0 [] 0 b
    rw [Nat.zero_add, show kj 100 0 [] 0 b = .wait from e] at sh
    rw [sh] at this
    obtain ⟨st, b', h1, h2, h3⟩ := this;exact ⟨st, b', h1, by rw [h2, List.append_nil], by rw [h3]; rfl⟩
  | @bad b e =>
    intro m a l hm ha hl
    have := jh F hF l (a : Int) (by omega) 100 m b a 0 [] rfl hm ha
    have sh := il a 100 0 [] 0 b
    rw [Nat.zero_add, show kj 100 0 [] 0 b = .bad from e] at sh
    rw [sh] at this
    obtain ⟨st, b', h1, h2, h3⟩ := this;exact ⟨st, b', h1, by rw [h2, List.append_nil], by rw [h3]; rfl⟩
  | @ok b x n l2 u bd e hr ih =>
    intro m a l hm ha hl
    have hp := one_pos e
    have := jh F hF l (a : Int) (by omega) 100 m b a 0 [] rfl hm ha
    have sh := il a 100 0 [] 0 b
    rw [Nat.zero_add, show kj 100 0 [] 0 b = .ok x n from e] at sh
    rw [sh] at this
    simp only at this
    obtain ⟨m', h1, h2, h3⟩ := this
    rw [show n + a - a = n by omega] at h1 h3
    obtain ⟨st, b', g1, g2, g3⟩ := ih m' (n + a) (l ++ [x]) h1 (by rw [List.length_drop]; omega) (by simp; omega);refine ⟨st, b', by rw [h3]; exact g1, by rw [g2, List.append_assoc]; rfl, by rw [g3]; congr 1; omega⟩
theorem all_eq (F : Nat) (hF : 2000 < F) {b : Bs} {l : List Rp} {u : Nat} {bd : Bool} (h : All b l u bd) (hb : b.length ≤ 1000000) (hbF : b.length < F) : ix F b [] 0 = some (l, (u : Int), bd) := by
  obtain ⟨st, b', h1, h2, h3⟩ := qN F hF h F 0 [] hbF (by omega) (by simp)
  unfold ix je ik
  rw [bR]
  have e : dW F (fun (s : S5) x => eL F s.1 s.2.1 s.2.2.1 s.2.2.2.1 s.2.2.2.2 x) F (b, (0, 0, [], [], 0)) = some (st, bd, b') := h1
  rw [e, cx, h2, h3, Nat.zero_add]
  cases bd <;> rfl
theorem put_eq (F : Nat) (hF : 2000 < F) (B b : Bs) {l : List Rp} {u : Nat} {bd : Bool} (h : All (B ++ b) l u bd) (hb : (B ++ b).length ≤ 1000000) (hbF : (B ++ b).length < F) : kA F B false b = some (l, if bd = true then [] else (B ++ b).drop u, bd) := by
  have hle := h.le
  rw [List.length_append] at hb
  unfold kA gq
  rw [cfl, ce (by omega), bm, all_eq F hF h (by rw [List.length_append]; omega) hbF, cx]
  cases bd with
  | true => rfl
  | false =>
    rw [cfl, fp (by rw [List.length_append]; rw [List.length_append] at hle; omega), bm, mA, gG (by rw [List.length_drop, List.length_append]; omega)]
    rfl
end Go.Rp
namespace Go.Cl
open Go.Pv Go.Av
open Go.Rp (All Rp)
open Go.Dg (cfl ctr gb gM fo nfl ntr)
theorem all_ok {b : Bs} {l : List Rp} {u : Nat} {bd : Bool} (h : All b l u bd) : okR l := fun x hx => by
  obtain ⟨h1, h2, h3, _⟩ := Go.Rp.may_s (h.may.1 x hx);exact ⟨h1, h2.2, fun s hs => Go.Rp.fit_len (h3 s hs)⟩
theorem Run_eq (F : Nat) (hF : 20000 < F) (fr rc nm ml : Bs) (hfr : fr.length ≤ 1000) (hrc : rc.length ≤ 1000) (hnm : nm.length ≤ 1000) (hml : ml.length ≤ 1000) (ph out : Int) (b : Bs) (hb : b.length ≤ 5000) {l : List Rp} {u : Nat} {bd : Bool} (h : All b l u bd) :
    lw F ph out fr rc nm ml b = some ((lK (lJ fr rc nm ml (ph, out, []) l)).1, (lK (lJ fr rc nm ml (ph, out, []) l)).2.1, fr, rc, nm, ml, (lK (lJ fr rc nm ml (ph, out, []) l)).2.2) := by
  have hle := h.le
  have hp := Go.Rp.put_eq F (by omega) [] b (l := l) (u := u) (bd := bd) (by rw [List.nil_append]; exact h) (by rw [List.nil_append]; omega) (by rw [List.nil_append]; omega)
  unfold lw kz lO
  rw [gG (by omega), bR, bR, hp, cx]
  have := run_loop F hF fr rc nm ml hfr hrc hnm hml l (all_ok h) (by omega) F 0 ph out [] (by omega) (by omega) (by simp)
  rw [List.drop_zero] at this
  exact this
end Go.Cl
namespace Go.Cl
open Go.Pv Go.Av
open Go.Dg (cfl ctr gb gM fo nfl ntr)
theorem bif_t {α : Type} {x : Bool} {a b : α} (h : x = true) : (bif x then a else b) = a := by rw [h]; rfl
theorem bif_f {α : Type} {x : Bool} {a b : α} (h : x = false) : (bif x then a else b) = b := by rw [h]; rfl
theorem few_eq (F : Nat) (ph out : Int) (fr rc nm ml : Bs) : hH F ph out fr rc nm ml = some (decide (((fr.length ≤ 100 ∧ rc.length ≤ 100) ∧ nm.length ≤ 100) ∧ ml.length ≤ 600)) := by
  unfold hH
  congr 1
  by_cases h : ((fr.length ≤ 100 ∧ rc.length ≤ 100) ∧ nm.length ≤ 100) ∧ ml.length ≤ 600
  · rw [decide_eq_true h]
    simp only [Bool.and_eq_true, decide_eq_true_eq]
    omega
  · rw [decide_eq_false h]
    simp only [Bool.and_eq_false_iff, decide_eq_false_iff_not]
    omega
theorem awake_eq : fI 2000000 = some true := by decide +kernel
end Go.Cl
namespace Go.Cl
open Go.Pv Go.Av
open Go.Rp (All)
open Go.Dg (cfl ctr gb gM fo nfl ntr)
theorem pre5 (fr rc nm ml : Bs) : ge fr rc nm ml 5 = ((((([69, 72, 76, 79, 32] ++ nm) ++ [13, 10, 77, 65, 73, 76, 32, 70, 82, 79, 77, 58, 60]) ++ fr) ++ [62, 13, 10, 82, 67, 80, 84, 32, 84, 79, 58, 60]) ++ rc) ++ [62, 13, 10, 68, 65, 84, 65, 13, 10] ++ gK ml := by
  simp [ge, eV, mH, jV, jU, jX]
theorem oo (fr rc nm ml : Bs) : ∀ k, k ≤ 5 → (ge fr rc nm ml k).length ≤ (ge fr rc nm ml 5).length := by
  intro k hk
  by_cases h : k = 5
  · rw [h]; exact Nat.le_refl _
  · obtain ⟨b, hb⟩ := pg fr rc nm ml k (by omega)
    rw [hb, List.length_append]; omega
theorem iv_short {fr rc nm ml : Bs} {ph out : Int} {a : Bs} (h : Iv fr rc nm ml ph out a) : a.length ≤ (ge fr rc nm ml 5).length + 6 := by
  have hq : quitD.length = 6 := rfl
  cases h with
  | go k h => have := oo fr rc nm ml k h; omega
  | stop k out h ho => have := oo fr rc nm ml k h; rw [List.length_append]; omega
  | off k h => have := oo fr rc nm ml k h; omega
  | done k out h ho => have := oo fr rc nm ml k h; rw [List.length_append]; omega
theorem nX (F : Nat) (hF : 20000 < F) (hw : fI F = some true) (ph out : Int) (fr rc nm ml b : Bs) : dp F ph out fr rc nm ml b = some true := by
  unfold dp
  rw [hw, bR, few_eq, bR]
  by_cases h : (((fr.length ≤ 100 ∧ rc.length ≤ 100) ∧ nm.length ≤ 100) ∧ ml.length ≤ 600) ∧ b.length ≤ 2000
  · obtain ⟨l, u, bd, hA⟩ := All.ex _ b (Nat.lt_succ_self _)
    rw [bif_f]
    · rw [start_eq F fr rc nm ml (by omega) (by omega) (by omega) (by omega) (by omega) (by omega) (by omega) (by omega), bR]
      unfold qb
      by_cases hm : mayS fr rc nm ml = true
      · have hmay : jb ml = true := by
          unfold mayS at hm
          simp only [Bool.and_eq_true] at hm
          exact hm.2
        have hI := (Iv.run fr rc nm ml l (Iv.go (fr := fr) (rc := rc) (nm := nm) (ml := ml) 0 (by omega))).fin
        obtain ⟨hI, h7⟩ := hI
        rw [if_pos hm]
        simp only [decide_true]
        rw [ntr, cfl, Run_eq F hF fr rc nm ml (by omega) (by omega) (by omega) (by omega) 0 0 b (by omega) hA, bR]
        simp only
        obtain ⟨e, he⟩ : ∃ e, e = lK (lJ fr rc nm ml (0, 0, []) l) := ⟨_, rfl⟩
        have hI : Iv fr rc nm ml e.1 e.2.1 e.2.2 := by rw [he]; exact hI
        have h7 : e.1 = 7 := by rw [he]; exact h7
        rw [← he]
        have hsl := kn ml
        have e5 : ([69, 72, 76, 79, 32] : Bs).length = 5 := rfl
        have e13 : ([13, 10, 77, 65, 73, 76, 32, 70, 82, 79, 77, 58, 60] : Bs).length = 13 := rfl
        have e12 : ([62, 13, 10, 82, 67, 80, 84, 32, 84, 79, 58, 60] : Bs).length = 12 := rfl
        have e9 : ([62, 13, 10, 68, 65, 84, 65, 13, 10] : Bs).length = 9 := rfl
        have e6 : ([81, 85, 73, 84, 13, 10] : Bs).length = 6 := rfl
        have hp5 := pre5 fr rc nm ml
        have hl5 := congrArg List.length hp5
        simp only [List.length_append, e5, e13, e12, e9] at hl5
        rw [ce (by omega), bm, ce (by rw [List.length_append]; omega), bm, ce (by rw [List.length_append, List.length_append]; omega), bm, ce (by rw [List.length_append, List.length_append, List.length_append]; omega), bm, ce (by rw [List.length_append, List.length_append, List.length_append, List.length_append]; omega), bm, ce (by rw [List.length_append, List.length_append, List.length_append, List.length_append, List.length_append]; omega), bm, kW F ml (by omega) (by omega), bE, ce (by rw [List.length_append, List.length_append, List.length_append, List.length_append, List.length_append, List.length_append]; omega), bm, ← hp5]
        rw [h7] at hI ⊢
        obtain ⟨k1, k2, k3⟩ := once fr rc nm ml hmay hI
        have hsh := iv_short hI
        generalize hw5 : ge fr rc nm ml 5 = w at *
        have hq : w ++ [81, 85, 73, 84, 13, 10] = w ++ quitD := rfl
        have gT : ∀ (x : Option Bool), fg (decide ((w.length : Int) ≤ (e.2.2.length : Int))) (ie (w.length : Int) e.2.2.length) x = x := fun x => by
          by_cases z : w.length ≤ e.2.2.length
          · rw [decide_eq_true (p := (w.length : Int) ≤ (e.2.2.length : Int)) (by omega), lv, fp (by omega)]
          · rw [decide_eq_false (p := (w.length : Int) ≤ (e.2.2.length : Int)) (by omega), jq]
        rw [gT, bm, to_nat, e6, ce (by omega), bm, decide_eq_true (p := (7 : Int) = 7) rfl, ntr, fo, decide_eq_false k1, cfl, hq]
        have htk : (decide ((w.length : Int) ≤ (e.2.2.length : Int)) && decide (e.2.2.take w.length = w)) = decide (e.2.2.take w.length = w) := by
          by_cases z : e.2.2.take w.length = w
          · have := congrArg List.length z
            rw [List.length_take] at this
            rw [decide_eq_true z, decide_eq_true (by omega)]; rfl
          · rw [decide_eq_false z, Bool.and_false]
        rw [htk]
        by_cases g : e.2.1 = 1
        · have ha := k2 g
          rw [bT g, ha, List.take_left' rfl, decide_eq_true rfl, decide_eq_true rfl]; rfl
        · rw [bF g]
          by_cases z : e.2.2.take w.length = w
          · rcases k3 g z with y | y
            · rw [decide_eq_true y, Bool.or_true, Bool.true_or]
            · rw [decide_eq_true y, Bool.or_true]
          · rw [decide_eq_false z, nfl, Bool.true_or, Bool.true_or]
      · rw [if_neg hm]
        simp only
        rw [show decide ((1 : Int) = 0) = false from rfl, nfl, ctr]
        rfl
    · simp only [Bool.or_eq_false_iff, Bool.not_eq_false', decide_eq_true_eq, decide_eq_false_iff_not]
      exact ⟨⟨trivial, h.1⟩, by omega⟩
  · rw [bif_t]
    simp only [Bool.or_eq_true, Bool.not_eq_true', decide_eq_true_eq, decide_eq_false_iff_not]
    omega
theorem ClientOnce_t (ph out : Int) (fr rc nm ml b : Bs) : dp 2000000 ph out fr rc nm ml b = some true := nX 2000000 (by omega) awake_eq ph out fr rc nm ml b
end Go.Cl
namespace Go.Av
open Go.RowKit Go.ChangeShapes Go.WideShapes
section
variable {H : Type} {enc : TypeId × Value → H} {P : Program} {w : World}
def nZ {H : Type} (enc : TypeId × Value → H) (P : Program) (w : World) (t : TypeId) {α : Type} (E : α → List AV) (p : α → Prop) : Prop :=
  ∀ fuel cs d, DataW.trod enc P w 0 (fun _ => true) true fuel t cs = some d → ∃ x, p x ∧ RelL (Info.start w) w (E x) cs
theorem opens_int {t : TypeId} {k : IntKind} (ht : P.underlying t = some (.int k)) : nZ enc P w t (fun n : Int => [.v (.int k n)]) (fun n => (Lit.int k n).wf = true) := by
  intro fuel cs d h;obtain ⟨n, rfl, _, hw⟩ := DataW.trod_int ht h;exact ⟨n, hw, .cons (.v _) .nil⟩
theorem opens_str {t : TypeId} (ht : P.underlying t = some .string) : nZ enc P w t (fun s : List UInt8 => [S s]) (fun s => s.length ≤ maxLen) := by
  intro fuel cs d h;obtain ⟨s, rfl, _, hw⟩ := DataW.trod_string ht h;refine ⟨s.data.toList, by simpa using hw, .cons (mj _ _ s) .nil⟩
theorem opens_bytes {t e : TypeId} (ht : P.underlying t = some (.slice e)) (he : P.underlying e = some (.int .u8)) (hc : P.cellsOf e = 1) :
    nZ enc P w t (fun l : List UInt8 => [slE Enc.byte l none]) (fun l => l.length ≤ maxLen) := by
  intro fuel cs d h
  rcases open_ints ht he hc h with ⟨rfl, _⟩ | ⟨x, len, cap, zs, rfl, _, hl, hm, hz, _, hcell, hw⟩
  · exact ⟨[], by simp, .cons (.slz _ _ _) .nil⟩
  · simp only [if_true] at hz
    obtain ⟨l, hl', hm', r⟩ := rel_bytes (w := w) (a := some x) (len := len) (cap := cap) (zs := zs) (.inr ⟨x, rfl, hl, hm, hz, hcell, hw⟩);exact ⟨l, by omega, .cons r .nil⟩
def oB {H : Type} (enc : TypeId × Value → H) (P : Program) (w : World) (tot off : Nat) (fs : List Field) {α : Type} (E : α → List AV) (p : α → Prop) : Prop :=
  ∀ (n : Nat) (cs : List Value), cs.length = tot → (∀ f ∈ fs, ∃ d, DataW.trod enc P w 0 (fun _ => true) true n f.type ((cs.drop f.offset).take (P.cellsOf f.type)) = some d) → ∃ x, p x ∧ RelL (Info.start w) w (E x) (cs.drop off)
theorem opensF_nil {tot : Nat} : oB enc P w tot tot [] (fun _ : Unit => []) (fun _ => True) := fun n cs hl _ => ⟨(), trivial, by rw [be (by omega)]; exact .nil⟩
theorem opensF_cons {tot off k : Nat} {f : Field} {fs : List Field} {α β : Type} {E : α → List AV} {p : α → Prop} {F : β → List AV} {q : β → Prop} (ho : f.offset = off) (hk : P.cellsOf f.type = k)
    (h : nZ enc P w f.type E p) (g : oB enc P w tot (off + k) fs F q) : oB enc P w tot off (f :: fs) (fun x : α × β => E x.1 ++ F x.2) (fun x => p x.1 ∧ q x.2) := by
  intro n cs hl H;obtain ⟨d, hd⟩ := H f (by simp);obtain ⟨x, hx, rx⟩ := h _ _ _ hd
  obtain ⟨y, hy, ry⟩ := g n cs hl fun f' hf' => H f' (by simp [hf'])
  refine ⟨(x, y), ⟨hx, hy⟩, ?_⟩
  rw [ho, hk] at rx
  have := rx.append ry
  rwa [← List.drop_drop, List.take_append_drop] at this
theorem opens_struct {t : TypeId} {fs : Array Field} {tot : Nat} {α : Type} {E : α → List AV} {p : α → Prop} (ht : P.underlying t = some (.struct fs)) (hc : P.cellsOf t = tot) (h : oB enc P w tot 0 fs.toList E p) :
    nZ enc P w t E p := by
  intro fuel cs d hd;obtain ⟨xs, n, _, _, hl, hlen, each⟩ := DataW.trod_struct ht hd
  obtain ⟨x, hx, rx⟩ := h n cs (by omega) fun f hf => by
    obtain ⟨i, hi, rfl⟩ := List.getElem_of_mem hf
    have hi' : i < fs.size := by simpa using hi
    rw [each i _ (by simp [hi'])]
    exact ⟨xs[i]'(by omega), aA _⟩
  exact ⟨x, hx, by simpa using rx⟩
theorem open_agg {t : TypeId} {fs : Array Field} {r : Reach} {b0 : Nat} {v : Value} {d : DataW H} {ps : List MemPlace} {α : Type} {E : α → List AV} {p : α → Prop} (ht : P.underlying t = some (.struct fs))
    (hval : Value.okWide P w r b0 t v) (hd : DataW.Trod enc P w 0 (fun _ => true) true t v d ps) (h : nZ enc P w t E p) : ∃ x, p x ∧ Rel (Info.start w) w (.agg (E x)) v := by
  obtain ⟨cs, rfl, _⟩ := okWide_struct ht hval;obtain ⟨fuel, hf⟩ := hd;obtain ⟨x, hx, rx⟩ := h _ _ _ hf;refine ⟨x, hx, ?_⟩
  have := Rel.agg _ _ rx.1 rx.2
  simpa [Value.cells] using this
end
end Go.Av
