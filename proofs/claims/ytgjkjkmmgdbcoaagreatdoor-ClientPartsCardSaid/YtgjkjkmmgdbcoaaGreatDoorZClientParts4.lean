/-
  Texts in one (only what ClientParts needs): CliAW, CliLP, CliLW, LClientPartsP, LClientPartsW, ClD, DgN, ClE, RqA, ClF, CliRP, ClG, ClS, RqC, RqB, RqSp, RqM, RqW, RqL, ClA.
-/
import Derived.Test.YtgjkjkmmgdbcoaaGreatDoorZClientParts3
import Derived.Test.YtgjkjkmmgdbcoaaGreatDoorShelf
import Derived.Lib.ItoaNum
import Derived.Lib.IndexLaws
import Derived.Test.YtgjkjkmmgdbcoaaGreatDoorChecked
import Derived.Lib.IndexMore
import Derived.Laws.Closers25
import Derived.Laws.RangeAny
import Derived.Lib.IndexAny
import Derived.Lib.SplitLaws
import Derived.Lib.IndexBytes
set_option linter.unusedVariables false
set_option linter.unusedSimpArgs false
namespace Go.Proofs.YtgjkjkmmgdbcoaaGreatDoor
open Go.RowKit Go.Av Go.Pv
theorem oe : ∀ (args : Array Value) (w : World), (callFunc 17 args).run Tryz.prog w = .ok (.enter 17 args) w := fun _ _ => by kernel_rfl
theorem rQ : ∀ (args : Array Value) (w : World), (callFunc 23 args).run Tryz.prog w = .ok (.enter 23 args) w := fun _ _ => by kernel_rfl
theorem oc : ∀ (args : Array Value) (w : World), (callFunc 27 args).run Tryz.prog w = .ok (.enter 27 args) w := fun _ _ => by kernel_rfl
theorem lu : ∀ (args : Array Value) (w : World), (callFunc 28 args).run Tryz.prog w = .ok (.enter 28 args) w := fun _ _ => by kernel_rfl
theorem rP : ∀ (args : Array Value) (w : World), (callFunc 29 args).run Tryz.prog w = .ok (.enter 29 args) w := fun _ _ => by kernel_rfl
theorem oa : ∀ (args : Array Value) (w : World), (callFunc 30 args).run Tryz.prog w = .ok (.enter 30 args) w := fun _ _ => by kernel_rfl
theorem lr : ∀ (args : Array Value) (w : World), (callFunc 34 args).run Tryz.prog w = .ok (.enter 34 args) w := fun _ _ => by kernel_rfl
theorem rO : ∀ (args : Array Value) (w : World), (callFunc 35 args).run Tryz.prog w = .ok (.enter 35 args) w := fun _ _ => by kernel_rfl
theorem rM : ∀ (args : Array Value) (w : World), (callFunc 36 args).run Tryz.prog w = .ok (.enter 36 args) w := fun _ _ => by kernel_rfl
theorem nZ : ∀ (args : Array Value) (w : World), (callFunc 37 args).run Tryz.prog w = .ok (.enter 37 args) w := fun _ _ => by kernel_rfl
theorem lq : ∀ (args : Array Value) (w : World), (callFunc 38 args).run Tryz.prog w = .ok (.enter 38 args) w := fun _ _ => by kernel_rfl
theorem nY : ∀ (args : Array Value) (w : World), (callFunc 44 args).run Tryz.prog w = .ok (.enter 44 args) w := fun _ _ => by kernel_rfl
theorem rJ : ∀ (args : Array Value) (w : World), (callFunc 45 args).run Tryz.prog w = .ok (.enter 45 args) w := fun _ _ => by kernel_rfl
theorem rI : ∀ (args : Array Value) (w : World), (callFunc 46 args).run Tryz.prog w = .ok (.enter 46 args) w := fun _ _ => by kernel_rfl
theorem rH : ∀ (args : Array Value) (w : World), (callFunc 47 args).run Tryz.prog w = .ok (.enter 47 args) w := fun _ _ => by kernel_rfl
theorem rD : ∀ (args : Array Value) (w : World), (callFunc 51 args).run Tryz.prog w = .ok (.enter 51 args) w := fun _ _ => by kernel_rfl
theorem cY : ∀ (args : Array Value) (w : World), (callFunc 57 args).run Tryz.prog w = .ok (.enter 57 args) w := fun _ _ => by kernel_rfl
theorem jr : ∀ (args : Array Value) (w : World), (callFunc 58 args).run Tryz.prog w = .ok (.enter 58 args) w := fun _ _ => by kernel_rfl
theorem nU : ∀ (args : Array Value) (w : World), (callFunc 80 args).run Tryz.prog w = .ok (.enter 80 args) w := fun _ _ => by kernel_rfl
theorem nT : ∀ (args : Array Value) (w : World), (callFunc 81 args).run Tryz.prog w = .ok (.enter 81 args) w := fun _ _ => by kernel_rfl
theorem nS : ∀ (args : Array Value) (w : World), (callFunc 82 args).run Tryz.prog w = .ok (.enter 82 args) w := fun _ _ => by kernel_rfl
theorem nR : ∀ (args : Array Value) (w : World), (callFunc 83 args).run Tryz.prog w = .ok (.enter 83 args) w := fun _ _ => by kernel_rfl
theorem nQ : ∀ (args : Array Value) (w : World), (callFunc 84 args).run Tryz.prog w = .ok (.enter 84 args) w := fun _ _ => by kernel_rfl
theorem nP : ∀ (args : Array Value) (w : World), (callFunc 85 args).run Tryz.prog w = .ok (.enter 85 args) w := fun _ _ => by kernel_rfl
theorem nN : ∀ (args : Array Value) (w : World), (callFunc 86 args).run Tryz.prog w = .ok (.enter 86 args) w := fun _ _ => by kernel_rfl
theorem ij : ∀ (args : Array Value) (w : World), (callFunc 87 args).run Tryz.prog w = .ok (.enter 87 args) w := fun _ _ => by kernel_rfl
theorem mD : ∀ (args : Array Value) (w : World), (callFunc 110 args).run Tryz.prog w = .ok (.enter 110 args) w := fun _ _ => by kernel_rfl
set_option maxRecDepth 100000 in
set_option maxHeartbeats 1000000 in
theorem lh (F : Nat) (a1 : List UInt8) (a2 : List UInt8) (r3 : Bool) (H : kT F a1 a2 = some r3) : ACalls Tryz.prog 28 [S a1, S a2] [] (Ret (B r3) []) := by
 unfold kT at H
 refine ax Tryz.func28 rfl rfl ?_;show AW _ _ 25 _ _ _;refine aj <| ac ?_;show AR _ _ _ _ _ [0] _;refine za rfl <| al <| ck (X := Unit) (fun _ => ⟨[(0, S a1)], [], []⟩) (fun _ => iA a1 = some r3) ?_ ?_
 ·refine aj <| ac ?_;show AR _ _ _ _ _ [0, 1, 2] _;refine zm rfl <| zS rfl (bz ak rfl) <| zm rfl <| al <| bx <| AW.loop (X := Nat × Int) (fun (n6, y4) => ⟨[(0, S a1), (1, S a2), (7, i64 (a1.length : Int)), (8, i64 y4)], [], []⟩) (fun (n6, y4) => ke a1 a2 n6 y4 = some r3) (fun (n6, y4) => n6) (F, 0) H (bh [] (.cons (.refl _) (.cons (.refl _) (.cons (.refl _) (.cons (.refl _) (.nil _))))) rfl) ?_;rintro ⟨n6, y4⟩ H;obtain ⟨n6, rfl, H⟩ := gj H;replace H : kf a1 a2 (ke a1 a2 n6) y4 = some r3 := H
  unfold kf at H
  refine aj <| ac ?_;show AR _ _ _ _ _ [0] _;refine zS rfl (ct rfl rfl) <| al <| aj <| aG rfl (fun c7 => ?_) (fun c7 => ?_)
  ·replace H := bo c7 H;refine aM <| aj <| bx <| aj <| ac ?_;show AR _ _ _ _ _ [0, 1] _;refine zm rfl <| za rfl <| al <| aj ?_;obtain ⟨g8, H⟩ := bb H;obtain ⟨x9, e10, H⟩ := cE H;obtain ⟨x11, e12, H⟩ := cE H;refine ac ?_;show AR _ _ _ _ _ [0, 1, 2, 3, 4, 5] _;refine zm rfl <| zm rfl <| zm rfl <| zS rfl (bD ak rfl rfl g8 e10) <| an rfl rfl (aQ rfl rD rfl (show ACalls _ _ _ [] (Ret (i64 x11) []) from by subst e12; exact nd a2 x9) ?_);refine zS rfl (ct rfl rfl) <| al <| aG rfl (fun c13 => ?_) (fun c13 => ?_)
   ·replace H := bo c13 H;refine aj <| ac ?_;show AR _ _ _ _ _ [0] _;refine za rfl <| al <| aU ?_;obtain rfl := aC H;exact And.intro rfl (Exists.intro _ (Exists.intro _ ⟨aV rfl (.refl _), aK [] rfl, rfl, rfl⟩))
   ·replace H := bc c13 H;refine aM ?_;obtain ⟨g14, H⟩ := bb H;refine ac ?_;show AR _ _ _ _ _ [0, 1] _;refine zS rfl (fZ rfl rfl g14) <| zm rfl <| al ?_;exact Exists.intro (n6, y4 + 1) ⟨H, Nat.lt_succ_self _, bh [] (.cons (.refl _) (.cons (.refl _) (.cons (.refl _) (.cons (.refl _) (.nil _))))) rfl⟩
  ·replace H := bc c7 H;refine AW.exit ?_;exact Exists.intro () ⟨H, bh [] (.cons (.refl _) (.nil _)) rfl⟩
 rintro _ H;replace H : iA a1 = some r3 := H
 unfold iA at H
 refine aj <| ac ?_;show AR _ _ _ _ _ [0, 1, 2, 3, 4, 5, 6, 7] _;refine zm rfl <| zS rfl (qM rfl rfl) <| zm rfl <| aN (l := [7]) 24 (B ((!decide (a1 = ([] : List UInt8))) && (decide ((a1.length : Int) ≤ 60)))) (fun K => ?_) ?_
 ·rcases af (!decide (a1 = ([] : List UInt8))) with h16 | h16
  ·refine zM h16 rfl <| zU h16 rfl (bz ak rfl) <| zU h16 rfl (dD rfl rfl) <| zS rfl (az (av := .v _) rfl h16 rfl) ?_;exact K _ 3 _ (aq (ca h16)) rfl rfl
  ·refine zF h16 rfl <| zF h16 rfl <| zF h16 rfl <| zS rfl (aw (av := .v _) rfl h16 rfl) ?_;exact K _ 3 _ (aq (cb h16)) rfl rfl
 refine za rfl <| al <| aU ?_;obtain rfl := aC H;exact And.intro rfl (Exists.intro _ (Exists.intro _ ⟨aV rfl (.refl _), aK [] rfl, rfl, rfl⟩))
set_option maxRecDepth 100000 in
set_option maxHeartbeats 1000000 in
theorem kw (F : Nat) (a1 : List UInt8) (r2 : Bool) (H : iB F a1 = some r2) : ACalls Tryz.prog 27 [S a1] [] (Ret (B r2) []) := by
 unfold iB at H
 refine ax Tryz.func27 rfl rfl ?_;show AW _ _ 31 _ _ _;refine aj <| ac ?_;show AR _ _ _ _ _ [0] _;refine za rfl <| al <| aj ?_;obtain ⟨g3, H⟩ := bb H;obtain ⟨x4, e5, H⟩ := cE H;refine ac ?_;show AR _ _ _ _ _ [0, 1, 2, 3, 4, 5, 6, 7, 8] _;refine zm rfl <| an rfl rfl (aQ rfl nY rfl (show ACalls _ _ _ [] (Ret (.tup [S x4.1, S x4.2.1, B x4.2.2]) []) from by subst e5; exact oI a1 ([64] : List UInt8) (dE g3)) ?_);refine zS rfl (ag (av := .tup _) rfl) <| zS rfl (aH (av := .v _) rfl rfl) <| zS rfl (aH (av := .v _) rfl rfl) <| zS rfl (aH (av := .v _) rfl rfl) <| za rfl <| za rfl <| za rfl <| al <| aj ?_;obtain ⟨x7, e8, H⟩ := eT H;obtain ⟨x10, e11, H⟩ := eT H;refine ac ?_;show AR _ _ _ _ _ [0, 1, 2, 3, 4, 5, 6, 7, 8, 9, 10, 11, 12, 13, 14, 15, 16, 17, 18, 19] _;refine zm rfl <| zm rfl <| aN (l := [5, 6, 7, 8, 9, 10, 11, 12, 13, 14, 15, 16, 17, 18, 19]) 16 (B (x4.2.2 && x7)) (fun K => ?_) ?_
 ·rcases af x4.2.2 with h6 | h6
  ·refine zM h6 rfl <| zT h6 rfl (aQ rfl lu rfl (lh F x4.1 md x7 (e8 h6)) ?_);refine zS rfl (az (av := .v _) rfl h6 rfl) ?_;exact K _ 2 _ (aq (ca h6)) rfl rfl
  ·refine zF h6 rfl <| zF h6 rfl <| zS rfl (aw (av := .v _) rfl h6 rfl) ?_;exact K _ 2 _ (aq (cb h6)) rfl rfl
 refine zm rfl <| aN (l := [9, 10, 11, 12, 13, 14, 15, 16, 17, 18, 19]) 20 (B ((x4.2.2 && x7) && x10)) (fun K => ?_) ?_
 ·rcases af (x4.2.2 && x7) with h9 | h9
  ·refine zM h9 rfl <| zT h9 rfl (aQ rfl lu rfl (lh F x4.2.1 md x10 (e11 h9)) ?_);refine zS rfl (az (av := .v _) rfl h9 rfl) ?_;exact K _ 2 _ (aq (ca h9)) rfl rfl
  ·refine zF h9 rfl <| zF h9 rfl <| zS rfl (aw (av := .v _) rfl h9 rfl) ?_;exact K _ 2 _ (aq (cb h9)) rfl rfl
 refine zm rfl <| aN (l := [14, 15, 16, 17, 18, 19]) 25 (B (((x4.2.2 && x7) && x10) && (decide (3 ≤ (a1.length : Int))))) (fun K => ?_) ?_
 ·rcases af ((x4.2.2 && x7) && x10) with h12 | h12
  ·refine zM h12 rfl <| zU h12 rfl (bz ak rfl) <| zU h12 rfl (fh rfl rfl) <| zS rfl (az (av := .v _) rfl h12 rfl) ?_;exact K _ 3 _ (aq (ca h12)) rfl rfl
  ·refine zF h12 rfl <| zF h12 rfl <| zF h12 rfl <| zS rfl (aw (av := .v _) rfl h12 rfl) ?_;exact K _ 3 _ (aq (cb h12)) rfl rfl
 refine zm rfl <| aN (l := [19]) 30 (B ((((x4.2.2 && x7) && x10) && (decide (3 ≤ (a1.length : Int)))) && (decide ((a1.length : Int) ≤ 60)))) (fun K => ?_) ?_
 ·rcases af (((x4.2.2 && x7) && x10) && (decide (3 ≤ (a1.length : Int)))) with h13 | h13
  ·refine zM h13 rfl <| zU h13 rfl (bz ak rfl) <| zU h13 rfl (dD rfl rfl) <| zS rfl (az (av := .v _) rfl h13 rfl) ?_;exact K _ 3 _ (aq (ca h13)) rfl rfl
  ·refine zF h13 rfl <| zF h13 rfl <| zF h13 rfl <| zS rfl (aw (av := .v _) rfl h13 rfl) ?_;exact K _ 3 _ (aq (cb h13)) rfl rfl
 refine za rfl <| al <| aU ?_;obtain rfl := aC H;exact And.intro rfl (Exists.intro _ (Exists.intro _ ⟨aV rfl (.refl _), aK [] rfl, rfl, rfl⟩))
abbrev _root_.Go.Av.aJ := @Tryz.underlying24
set_option maxRecDepth 100000 in
set_option maxHeartbeats 1000000 in
theorem pY (F : Nat) (a1 : List UInt8) (a2 : List UInt8) (a3 : List UInt8) (a4 : List UInt8) (q5 : Option Nat) (r6 : Int) (r7 : Int) (r8 : List UInt8) (r9 : List UInt8) (r10 : List UInt8) (r11 : List UInt8) (r12 : Int) (H : mP F a1 a2 a3 a4 = some (r6, r7, r8, r9, r10, r11, r12)) : ACalls Tryz.prog 12 [S a1, S a2, S a3, slE Enc.byte a4 q5] [] (Ret (.tup [.agg [i64 r6, i64 r7, S r8, S r9, S r10, slE Enc.byte r11 none], i64 r12]) []) := by
 unfold mP at H
 refine ax Tryz.func12 rfl rfl ?_;show AW _ _ 35 _ _ _;refine aj <| ac ?_;show AR _ _ _ _ _ [0, 1] _;refine zX rfl (bN (zs := [.int .i64 0, .int .i64 0, .string ⟨#[]⟩, .string ⟨#[]⟩, .string ⟨#[]⟩, .slice none 0 0]) (by kernel_rfl)) ?_;rintro _ _ ⟨o13, rfl, rfl⟩;refine za rfl <| al <| aj <| aj ?_;obtain ⟨x14, e15, H⟩ := cZ H;obtain ⟨x17, e18, H⟩ := eT H;obtain ⟨x20, e21, H⟩ := eT H;obtain ⟨x23, e24, H⟩ := eT H;refine ac ?_;show AR _ _ _ _ _ [0, 1, 2, 3, 4, 5, 6, 7, 8, 9, 10, 11, 12, 13, 14, 15, 16, 17] _;refine zm rfl <| an rfl rfl (aQ rfl oc rfl (kw F a1 x14 e15) ?_);refine zS rfl (dF rfl) <| zm rfl <| aN (l := [8, 9, 10, 11, 12, 13, 14, 15, 16, 17]) 17 (B ((!x14) || (!x17))) (fun K => ?_) ?_
 ·rcases af (!x14) with h16 | h16
  ·refine zF h16 rfl <| zF h16 rfl <| zF h16 rfl <| zS rfl (az (av := .v _) rfl h16 rfl) ?_;exact K _ 3 _ (aq (gH h16)) rfl rfl
  ·refine zM h16 rfl <| zT h16 rfl (aQ rfl oc rfl (kw F a2 x17 (e18 (nf h16))) ?_);refine zU h16 rfl (dF rfl) <| zS rfl (aw (av := .v _) rfl h16 rfl) ?_;exact K _ 3 _ (aq (gI h16)) rfl rfl
 refine zm rfl <| aN (l := [13, 14, 15, 16, 17]) 22 (B (((!x14) || (!x17)) || (!x20))) (fun K => ?_) ?_
 ·rcases af ((!x14) || (!x17)) with h19 | h19
  ·refine zF h19 rfl <| zF h19 rfl <| zF h19 rfl <| zS rfl (az (av := .v _) rfl h19 rfl) ?_;exact K _ 3 _ (aq (gH h19)) rfl rfl
  ·refine zM h19 rfl <| zT h19 rfl (aQ rfl lu rfl (lh F a3 qS x20 (e21 (nf h19))) ?_);refine zU h19 rfl (dF rfl) <| zS rfl (aw (av := .v _) rfl h19 rfl) ?_;exact K _ 3 _ (aq (gI h19)) rfl rfl
 refine zm rfl <| aN (l := []) 27 (B ((((!x14) || (!x17)) || (!x20)) || (!x23))) (fun K => ?_) ?_
 ·rcases af (((!x14) || (!x17)) || (!x20)) with h22 | h22
  ·refine zF h22 rfl <| zF h22 rfl <| zF h22 rfl <| zS rfl (az (av := .v _) rfl h22 rfl) ?_;exact K _ 3 _ (aq (gH h22)) rfl rfl
  ·refine zU h22 rfl (ag (av := slE _ _ _) rfl) <| zT h22 rfl (aQ rfl rP rfl (nq F a4 q5 x23 (e24 (nf h22))) ?_);refine zU h22 rfl (dF rfl) <| zS rfl (aw (av := .v _) rfl h22 rfl) ?_;exact K _ 3 _ (aq (gI h22)) rfl rfl
 refine al <| aG rfl (fun c25 => ?_) (fun c25 => ?_)
 ·replace H := bo c25 H;refine aj <| ac ?_;show AR _ _ _ _ _ [0, 1, 2] _;refine zS rfl (jD (zs := [.int .i64 0, .int .i64 0, .string ⟨#[]⟩, .string ⟨#[]⟩, .string ⟨#[]⟩, .slice none 0 0]) (ps := [(0, 1), (1, 1), (2, 1), (3, 1), (4, 1), (5, 1)]) (cs := [i64 0, i64 0, S ([] : List UInt8), S ([] : List UInt8), S ([] : List UInt8), fE]) (by kernel_rfl) rfl rfl) <| s0 rfl rfl (aP (i := 0) (vs := [i64 0, i64 0, S ([] : List UInt8), S ([] : List UInt8), S ([] : List UInt8), fE]) (by kernel_rfl) rfl rfl (by simp [br, slE]) rfl (ab rfl)) <| za rfl <| al <| aU ?_;obtain ⟨rfl, rfl, rfl, rfl, rfl, rfl, rfl⟩ := res7 H;exact And.intro rfl (Exists.intro _ (Exists.intro _ ⟨di (dM rfl (CellV.aggW (cs := [i64 0, i64 0, S ([] : List UInt8), S ([] : List UInt8), S ([] : List UInt8), fE]) (dk (off := 0) (cs := [i64 0, i64 0, S ([] : List UInt8), S ([] : List UInt8), S ([] : List UInt8), fE]) (n := 6) 0 aJ rfl (by kernel_rfl) rfl rfl (ab rfl)) (.cons (.refl _) (.cons (.refl _) (.cons (.refl _) (.cons (.refl _) (.cons (.refl _) (.cons (.nil _) (.nil)))))))) ((show PlaceV _ _ _ (.tmp _) _ from (.refl _)))), aK [] rfl, rfl, rfl⟩))
 ·replace H := bc c25 H;refine aM <| aj ?_;obtain ⟨g26, H⟩ := bb H;refine ac ?_;show AR _ _ _ _ _ [0, 1, 2, 3, 4, 5, 6, 7] _;refine zm rfl <| zm rfl <| zm rfl <| zS rfl (ag (av := slE _ _ _) rfl) <| an rfl rfl (aQ rfl oa rfl (iY a4 q5 (dE g26)) ?_);refine zS rfl (jD (zs := [.int .i64 0, .int .i64 0, .string ⟨#[]⟩, .string ⟨#[]⟩, .string ⟨#[]⟩, .slice none 0 0]) (ps := [(0, 1), (1, 1), (2, 1), (3, 1), (4, 1), (5, 1)]) (cs := [i64 0, i64 0, S a1, S a2, S a3, slE Enc.byte a4 none]) (by kernel_rfl) rfl rfl) <| s0 rfl rfl (aP (i := 0) (vs := [i64 0, i64 0, S a1, S a2, S a3, slE Enc.byte a4 none]) (by kernel_rfl) rfl rfl (by simp [br, slE]) rfl (ab rfl)) <| za rfl <| al <| aU ?_;obtain ⟨rfl, rfl, rfl, rfl, rfl, rfl, rfl⟩ := res7 H;exact And.intro rfl (Exists.intro _ (Exists.intro _ ⟨di (dM rfl (dk (off := 0) (cs := [i64 0, i64 0, S a1, S a2, S a3, slE Enc.byte a4 none]) (n := 6) 0 aJ rfl (by kernel_rfl) rfl rfl (ab rfl)) ((show PlaceV _ _ _ (.tmp _) _ from (.refl _)))), aK [] rfl, rfl, rfl⟩))
set_option maxRecDepth 100000 in
set_option maxHeartbeats 1000000 in
theorem pX (F : Nat) (a1 : List UInt8) (a2 : List UInt8) (r3 : Bool) (H : jh F a1 a2 = some r3) : ACalls Tryz.prog 45 [S a1, S a2] [] (Ret (B r3) []) := by
 unfold jh at H
 refine ax Tryz.func45 rfl rfl ?_;show AW _ _ 34 _ _ _;refine aj <| ac ?_;show AR _ _ _ _ _ [0] _;refine za rfl <| al <| aj ?_;obtain ⟨g4, H⟩ := bb H;refine ac ?_;show AR _ _ _ _ _ [0, 1, 2] _;refine zm rfl <| zX rfl (mm ak aa aR rfl g4) ?_;rintro _ _ ⟨o5, n6, rfl, rfl⟩;refine zS rfl (ay (av := .vw _ _ _ _) rfl) <| al <| ck (X := (List UInt8)) (fun y25 => ⟨[(1, S a2), (5, .vw o5 0 a1.length (a1.length + n6))], [], [.obj o5 (Enc.byte.fl y25 ++ List.replicate n6 .any)]⟩) (fun y25 => fU a1 a2 y25 = some r3) ?_ ?_
 ·refine aj <| ac ?_;show AR _ _ _ _ _ [0, 1, 2] _;refine zS rfl (ag (av := .vw _ _ _ _) rfl) <| zS rfl (qf aa rfl) <| zm rfl <| al <| bx <| AW.loop (X := Nat × Int × (List UInt8)) (fun (n10, y7, y8) => ⟨[(1, S a2), (5, .vw o5 0 a1.length (a1.length + n6)), (10, .vw o5 0 a1.length (a1.length + n6)), (11, i64 (a1.length : Int)), (12, i64 y7)], [], [.obj o5 (Enc.byte.fl y8 ++ List.replicate n6 .any)]⟩) (fun (n10, y7, y8) => dL a1 a2 n10 (y7, y8) = some r3) (fun (n10, y7, y8) => n10) (F, 0, a1) H (bh [0] (.cons (.refl _) (.cons (.refl _) (.cons (.refl _) (.cons (.refl _) (.cons (.refl _) (.nil _)))))) rfl) ?_;rintro ⟨n10, y7, y8⟩ H;obtain ⟨n10, rfl, H⟩ := gj H;replace H : eH a1 a2 (dL a1 a2 n10) y7 y8 = some r3 := H
  unfold eH at H
  refine aj <| ac ?_;show AR _ _ _ _ _ [0] _;refine zS rfl (ct rfl rfl) <| al <| aj <| aG rfl (fun c11 => ?_) (fun c11 => ?_)
  ·replace H := bo c11 H;refine aM <| ck (X := (List UInt8)) (fun y22 => ⟨[(1, S a2), (5, .vw o5 0 a1.length (a1.length + n6)), (10, .vw o5 0 a1.length (a1.length + n6)), (11, i64 (a1.length : Int)), (12, i64 y7)], [], [.obj o5 (Enc.byte.fl y22 ++ List.replicate n6 .any)]⟩) (fun y22 => fc y7 (dL a1 a2 n10) y22 = some r3) ?_ ?_
   ·refine bx <| aj ?_;obtain ⟨g12, H⟩ := bb H;obtain ⟨g13, H⟩ := bb H;obtain ⟨x14, e15, H⟩ := cE H;refine ac ?_;show AR _ _ _ _ _ [0, 1, 2, 3, 4] _;refine zm rfl <| zS rfl (iG aa (by kernel_rfl) rfl rfl g12) <| zR rfl (qi (k := 0) aR rfl rfl rfl g13 e15) <| za rfl <| za rfl <| al <| aj <| ac ?_;show AR _ _ _ _ _ [0, 1, 2, 3, 4, 5] _;refine zm rfl <| zS rfl (fh rfl rfl) <| zm rfl <| aN (l := []) 22 (B ((decide (65 ≤ (x14.toNat : Int))) && (decide ((x14.toNat : Int) ≤ 90)))) (fun K => ?_) ?_
    ·rcases af (decide (65 ≤ (x14.toNat : Int))) with h16 | h16
     ·refine zM h16 rfl <| zU h16 rfl (dD rfl rfl) <| zS rfl (az (av := .v _) rfl h16 rfl) ?_;exact K _ 2 _ (aq (ca h16)) rfl rfl
     ·refine zF h16 rfl <| zF h16 rfl <| zS rfl (aw (av := .v _) rfl h16 rfl) ?_;exact K _ 2 _ (aq (cb h16)) rfl rfl
    refine al <| aG rfl (fun c17 => ?_) (fun c17 => ?_)
    ·replace H := bo c17 H;obtain ⟨g18, H⟩ := bb H;obtain ⟨g19, H⟩ := bb H;obtain ⟨x20, e21, H⟩ := cE H;refine ac ?_;show AR _ _ _ _ _ [0, 1, 2, 3, 4, 5, 6] _;refine zS rfl (ag (av := .vw _ _ _ _) rfl) <| zm rfl <| zm rfl <| zS rfl (g_add8 (a := x14) (b := 97) rfl rfl) <| zS rfl (oS (a := x14 + 97) (b := 65) rfl rfl) <| zS rfl (iG aa (by kernel_rfl) rfl rfl g18) <| s0 rfl rfl (pp (k := 0) (c := ((x14 + 97) - 65)) (by kernel_rfl) rfl rfl rfl g19 e21) <| al ?_;exact Exists.intro x20 ⟨H, bh [0] (.cons (.refl _) (.cons (.refl _) (.cons (.refl _) (.cons (.refl _) (.cons (.refl _) (.nil _)))))) rfl⟩
    ·replace H := bc c17 H;refine aM ?_;exact Exists.intro y8 ⟨H, bh [0] (.cons (.refl _) (.cons (.refl _) (.cons (.refl _) (.cons (.refl _) (.cons (.refl _) (.nil _)))))) rfl⟩
   rintro y22 H;replace H : fc y7 (dL a1 a2 n10) y22 = some r3 := H
   unfold fc at H
   obtain ⟨g24, H⟩ := bb H;refine ac ?_;show AR _ _ _ _ _ [0, 1] _;refine zS rfl (fZ rfl rfl g24) <| zm rfl <| al ?_;exact Exists.intro (n10, y7 + 1, y22) ⟨H, Nat.lt_succ_self _, bh [0] (.cons (.refl _) (.cons (.refl _) (.cons (.refl _) (.cons (.refl _) (.cons (.refl _) (.nil _)))))) rfl⟩
  ·replace H := bc c11 H;refine AW.exit ?_;exact Exists.intro y8 ⟨H, bh [0] (.cons (.refl _) (.cons (.refl _) (.nil _))) rfl⟩
 rintro y25 H;replace H : fU a1 a2 y25 = some r3 := H
 unfold fU at H
 refine aj ?_;obtain ⟨g27, H⟩ := bb H;refine ac ?_;show AR _ _ _ _ _ [0, 1, 2, 3, 4] _;refine zS rfl (ag (av := .vw _ _ _ _) rfl) <| zR rfl (lc (k := 0) aa aR ak rfl g27 rfl) <| zm rfl <| zS rfl (fC rfl rfl) <| za rfl <| al <| aU ?_;obtain rfl := aC H;exact And.intro rfl (Exists.intro _ (Exists.intro _ ⟨aV rfl (.refl _), aK [] rfl, rfl, rfl⟩))
set_option maxRecDepth 100000 in
set_option maxHeartbeats 1000000 in
theorem rf (F : Nat) (a1 : Int) (a2 : List (List UInt8)) (a3 : Int) (a4 : Int) (a5 : Int) (r6 : Int) (H : kY F a1 a2 a3 a4 a5 = some r6) : ACalls Tryz.prog 23 [.agg [i64 a1, slE Enc.str a2 none, i64 a3, i64 a4, i64 a5]] [] (Ret (i64 r6) []) := by
 unfold kY at H
 refine ax Tryz.func23 rfl rfl ?_;show AW _ _ 58 _ _ _;refine aj <| ac ?_;show AR _ _ _ _ _ [0, 1] _;refine zR rfl (cm rfl (.inr ⟨_, rfl⟩)) <| za rfl <| al <| ck (X := Unit) (fun _ => ⟨[], [], []⟩) (fun _ => iC = some r6) ?_ ?_
 ·refine aj <| ac ?_;show AR _ _ _ _ _ [0, 1, 2, 3] _;refine zS rfl (aO (n := 1) (by kernel_rfl) rfl (ab rfl)) <| zS rfl (aL aA rfl rfl) <| zS rfl (aW aA rfl) <| zm rfl <| al <| bx <| AW.loop (X := Nat × Int) (fun (n9, y7) => ⟨[(11, slE Enc.str a2 none), (12, i64 (a2.length : Int)), (13, i64 y7)], [], []⟩) (fun (n9, y7) => eI F a2 n9 y7 = some r6) (fun (n9, y7) => n9) (F, 0) H (bh [] (.cons (.refl _) (.cons (.refl _) (.cons (.refl _) (.nil _)))) rfl) ?_;rintro ⟨n9, y7⟩ H;obtain ⟨n9, rfl, H⟩ := gj H;replace H : dX F a2 (eI F a2 n9) y7 = some r6 := H
  unfold dX at H
  refine aj <| ac ?_;show AR _ _ _ _ _ [0] _;refine zS rfl (ct rfl rfl) <| al <| aj <| aG rfl (fun c10 => ?_) (fun c10 => ?_)
  ·replace H := bo c10 H;refine aM <| ck (X := Unit) (fun _ => ⟨[(11, slE Enc.str a2 none), (12, i64 (a2.length : Int)), (13, i64 y7)], [], []⟩) (fun _ => fK y7 (eI F a2 n9) = some r6) ?_ ?_
   ·refine bx <| aj ?_;obtain ⟨g11, H⟩ := bb H;obtain ⟨x12, e13, H⟩ := cE H;refine ac ?_;show AR _ _ _ _ _ [0, 1, 2, 3, 4] _;refine zm rfl <| zS rfl (dt (E := Enc.str) aA (by kernel_rfl) rfl rfl g11 e13) <| zS rfl (aL ak rfl rfl) <| za rfl <| za rfl <| al <| aj ?_;obtain ⟨g14, H⟩ := bb H;obtain ⟨x15, e16, H⟩ := cE H;refine ac ?_;show AR _ _ _ _ _ [0, 1, 2, 3, 4, 5, 6, 7, 8] _;refine zm rfl <| an rfl rfl (aQ rfl nY rfl (show ACalls _ _ _ [] (Ret (.tup [S x15.1, S x15.2.1, B x15.2.2]) []) from by subst e16; exact oI x12 ([32] : List UInt8) (dE g14)) ?_);refine zS rfl (ag (av := .tup _) rfl) <| zS rfl (aH (av := .v _) rfl rfl) <| zS rfl (aH (av := .v _) rfl rfl) <| zS rfl (aH (av := .v _) rfl rfl) <| za rfl <| za rfl <| za rfl <| al <| aj <| aj ?_;obtain ⟨x19, e20, H⟩ := eT H;obtain ⟨g24, H⟩ := ew H;obtain ⟨g25, H⟩ := ew H;obtain ⟨g26, H⟩ := ew H;obtain ⟨x27, e28, H⟩ := cE H;refine ac ?_;show AR _ _ _ _ _ [0, 1, 2, 3, 4, 5, 6, 7, 8, 9, 10, 11, 12, 13, 14, 15, 16, 17, 18, 19, 20, 21, 22, 23, 24] _;refine zm rfl <| zS rfl (bX rfl rfl) <| zm rfl <| aN (l := [6, 7, 8, 9, 10, 11, 12, 13, 14, 15, 16, 17, 18, 19, 20, 21, 22, 23, 24]) 29 (B ((decide (y7 = 0)) || (!x15.2.2))) (fun K => ?_) ?_
    ·rcases af (decide (y7 = 0)) with h17 | h17
     ·refine zF h17 rfl <| zF h17 rfl <| zS rfl (az (av := .v _) rfl h17 rfl) ?_;exact K _ 2 _ (aq (gH h17)) rfl rfl
     ·refine zM h17 rfl <| zU h17 rfl (dF rfl) <| zS rfl (aw (av := .v _) rfl h17 rfl) ?_;exact K _ 2 _ (aq (gI h17)) rfl rfl
    refine zm rfl <| aN (l := [11, 12, 13, 14, 15, 16, 17, 18, 19, 20, 21, 22, 23, 24]) 34 (B (((decide (y7 = 0)) || (!x15.2.2)) || (!x19))) (fun K => ?_) ?_
    ·rcases af ((decide (y7 = 0)) || (!x15.2.2)) with h18 | h18
     ·refine zF h18 rfl <| zF h18 rfl <| zF h18 rfl <| zS rfl (az (av := .v _) rfl h18 rfl) ?_;exact K _ 3 _ (aq (gH h18)) rfl rfl
     ·refine zM h18 rfl <| zT h18 rfl (aQ rfl rJ rfl (pX F x15.1 ([115, 105, 122, 101] : List UInt8) x19 (e20 (nf h18))) ?_);refine zU h18 rfl (dF rfl) <| zS rfl (aw (av := .v _) rfl h18 rfl) ?_;exact K _ 3 _ (aq (gI h18)) rfl rfl
    refine zm rfl <| aN (l := [15, 16, 17, 18, 19, 20, 21, 22, 23, 24]) 38 (B ((((decide (y7 = 0)) || (!x15.2.2)) || (!x19)) || (decide (x15.2.1 = ([] : List UInt8))))) (fun K => ?_) ?_
    ·rcases af (((decide (y7 = 0)) || (!x15.2.2)) || (!x19)) with h21 | h21
     ·refine zF h21 rfl <| zF h21 rfl <| zS rfl (az (av := .v _) rfl h21 rfl) ?_;exact K _ 2 _ (aq (gH h21)) rfl rfl
     ·refine zM h21 rfl <| zU h21 rfl (fC rfl rfl) <| zS rfl (aw (av := .v _) rfl h21 rfl) ?_;exact K _ 2 _ (aq (gI h21)) rfl rfl
    refine zm rfl <| aN (l := [20, 21, 22, 23, 24]) 43 (B (((((decide (y7 = 0)) || (!x15.2.2)) || (!x19)) || (decide (x15.2.1 = ([] : List UInt8)))) || (decide (9 < (x15.2.1.length : Int))))) (fun K => ?_) ?_
    ·rcases af ((((decide (y7 = 0)) || (!x15.2.2)) || (!x19)) || (decide (x15.2.1 = ([] : List UInt8)))) with h22 | h22
     ·refine zF h22 rfl <| zF h22 rfl <| zF h22 rfl <| zS rfl (az (av := .v _) rfl h22 rfl) ?_;exact K _ 3 _ (aq (gH h22)) rfl rfl
     ·refine zM h22 rfl <| zU h22 rfl (bz ak rfl) <| zU h22 rfl (gi rfl rfl) <| zS rfl (aw (av := .v _) rfl h22 rfl) ?_;exact K _ 3 _ (aq (gI h22)) rfl rfl
    refine zm rfl <| aN (l := []) 48 (B ((((((decide (y7 = 0)) || (!x15.2.2)) || (!x19)) || (decide (x15.2.1 = ([] : List UInt8)))) || (decide (9 < (x15.2.1.length : Int)))) || (!decide (x27 = ([] : List UInt8))))) (fun K => ?_) ?_
    ·rcases af (((((decide (y7 = 0)) || (!x15.2.2)) || (!x19)) || (decide (x15.2.1 = ([] : List UInt8)))) || (decide (9 < (x15.2.1.length : Int)))) with h23 | h23
     ·refine zF h23 rfl <| zF h23 rfl <| zF h23 rfl <| zS rfl (az (av := .v _) rfl h23 rfl) ?_;exact K _ 3 _ (aq (gH h23)) rfl rfl
     ·refine zM h23 rfl <| zT h23 rfl (aQ rfl rI rfl (show ACalls _ _ _ [] (Ret (S x27) []) from by subst e28; exact lib_Trim x15.2.1 ([48, 49, 50, 51, 52, 53, 54, 55, 56, 57] : List UInt8) (dE (g24 (nf h23))) (dE (g25 (nf h23))) (g26 (nf h23))) ?_);refine zU h23 rfl (qM rfl rfl) <| zS rfl (aw (av := .v _) rfl h23 rfl) ?_;exact K _ 3 _ (aq (gI h23)) rfl rfl
    refine al <| aG rfl (fun c29 => ?_) (fun c29 => ?_)
    ·replace H := bo c29 H;refine AW.exit ?_;exact Exists.intro () ⟨H, bh [] (.cons (.refl _) (.cons (.refl _) (.cons (.refl _) (.nil _)))) rfl⟩
    ·replace H := bc c29 H;refine aM <| aj ?_;obtain ⟨x30, x31, e32, H⟩ := dq H;refine ac ?_;show AR _ _ _ _ _ [0, 1, 2, 3, 4, 5, 6] _;refine zm rfl <| an rfl rfl (aQ rfl rH rfl (iU F x15.2.1 x30 x31 e32) ?_);refine zS rfl (ag (av := .tup _) rfl) <| zS rfl (aH (av := .v _) rfl rfl) <| zS rfl (aH (av := eAny _ _) rfl rfl) <| za rfl <| zS rfl (ay (av := eAny _ _) rfl) <| al <| aj <| ac ?_;show AR _ _ _ _ _ [0, 1] _;refine zS rfl (ag (av := eAny _ _) rfl) <| zS rfl (mB cV rfl rfl) <| al <| aG rfl (fun c33 => ?_) (fun c33 => ?_)
     ·replace H := bo c33 H;refine aj <| ac ?_;show AR _ _ _ _ _ [0, 1] _;refine zm rfl <| za rfl <| al <| aU ?_;obtain rfl := aC H;exact And.intro rfl (Exists.intro _ (Exists.intro _ ⟨aV rfl (.refl _), aK [] rfl, rfl, rfl⟩))
     ·replace H := bc c33 H;refine aM ?_;exact Exists.intro () ⟨H, bh [] (.cons (.refl _) (.cons (.refl _) (.cons (.refl _) (.nil _)))) rfl⟩
   rintro _ H;replace H : fK y7 (eI F a2 n9) = some r6 := H
   unfold fK at H
   obtain ⟨g35, H⟩ := bb H;refine ac ?_;show AR _ _ _ _ _ [0, 1] _;refine zS rfl (fZ rfl rfl g35) <| zm rfl <| al ?_;exact Exists.intro (n9, y7 + 1) ⟨H, Nat.lt_succ_self _, bh [] (.cons (.refl _) (.cons (.refl _) (.cons (.refl _) (.nil _)))) rfl⟩
  ·replace H := bc c10 H;refine AW.exit ?_;exact Exists.intro () ⟨H, bh [] (.nil _) rfl⟩
 rintro _ H;replace H : iC = some r6 := H
 unfold iC at H
 refine aj <| ac ?_;show AR _ _ _ _ _ [0] _;refine za rfl <| al <| aU ?_;obtain rfl := aC H;exact And.intro rfl (Exists.intro _ (Exists.intro _ ⟨aV rfl (.refl _), aK [] rfl, rfl, rfl⟩))
set_option maxRecDepth 100000 in
set_option maxHeartbeats 1000000 in
theorem ic (F : Nat) (o1 : Nat) (a2 : Int) (a3 : Int) (a4 : List UInt8) (a5 : List UInt8) (a6 : List UInt8) (a7 : List UInt8) (a8 : List UInt8) (t9 : Nat) (a10 : Int) (a11 : List (List UInt8)) (q12 : Option Nat) (r13 : Int) (r14 : List UInt8) (H : gt F a2 a3 a4 a5 a6 a7 a8 a10 a11 = some (r13, r14)) : ACalls Tryz.prog 87 [.pt o1 0, i64 a10, slE Enc.str a11 q12] [.obj o1 [i64 a2, i64 a3, S a4, S a5, S a6, slE Enc.byte a7 none, slE Enc.byte a8 (some t9)], .tok t9 5] (fun e A' => e = .ret (.tup []) ∧ ∃ t15, A' = [.obj o1 [i64 r13, i64 a3, S a4, S a5, S a6, slE Enc.byte a7 none, slE Enc.byte r14 (some t15)], .tok t15 5]) := by
 unfold gt at H
 refine ax Tryz.func87 rfl rfl ?_;show AW _ _ 22 _ _ _;refine aj <| ac ?_;show AR _ _ _ _ _ [0, 1, 2, 3, 4, 5] _;refine zS rfl (ag (av := .pt _ _) rfl) <| zm rfl <| zS rfl (am rfl) <| zS rfl (ah (n := 0) (by kernel_rfl) rfl) <| zS rfl (ah (n := 0) (by kernel_rfl) rfl) <| s0 rfl rfl (ap (i := 0) (c := .v _) (by kernel_rfl) rfl rfl rfl rfl (ab rfl)) <| al ?_;obtain ⟨g16, H⟩ := bb H;obtain ⟨x17, e18, H⟩ := cE H;obtain ⟨g19, H⟩ := bb H;obtain ⟨x20, e21, H⟩ := cE H;obtain ⟨g23, H⟩ := bb H;obtain ⟨x24, e25, H⟩ := cE H;refine bq (by kernel_rfl) ?_;show AI _ _ _ _ _ 12 (Array.replicate 12 false) _;refine zk 0 rfl (ag (av := .pt _ _) rfl) ?_;show AI _ _ _ _ _ _ #[true, false, false, false, false, false, false, false, false, false, false, false] _;refine zk 1 rfl (ag (av := .pt _ _) rfl) ?_;show AI _ _ _ _ _ _ #[true, true, false, false, false, false, false, false, false, false, false, false] _;refine zk 2 rfl (am rfl) ?_;show AI _ _ _ _ _ _ #[true, true, true, false, false, false, false, false, false, false, false, false] _;refine zk 3 rfl (ah (n := 6) (by kernel_rfl) rfl) ?_;show AI _ _ _ _ _ _ #[true, true, true, true, false, false, false, false, false, false, false, false] _;refine zk 5 rfl (ag (av := slE _ _ _) rfl) ?_;show AI _ _ _ _ _ _ #[true, true, true, true, false, true, false, false, false, false, false, false] _;refine cl (i := 4) (j := 6) (by kernel_rfl) rfl rfl rfl rfl ?_ ?_
 ·refine aI rfl (ai (i := 0) aa rfl rfl rfl rfl) ?_;show AI _ _ _ _ _ _ #[true, true, true, true, true, true, false, false, false, false, false, false] _;refine aE (i := 6) (by kernel_rfl) rfl rfl <| bO rfl mD rfl (show ACalls _ _ _ [] (Ret (S x17) []) from by subst e18; exact kx a11 ([] : List UInt8) q12 (kL g16).1 (kL g16).2) ?_;show AI _ _ _ _ _ _ #[true, true, true, true, true, true, true, false, false, false, false, false] _;refine zk 7 rfl (g_cat rfl rfl g19 e21) ?_;show AI _ _ _ _ _ _ #[true, true, true, true, true, true, true, true, false, false, false, false] _;refine aE (i := 8) (by kernel_rfl) rfl rfl <| cH rfl (iw (bytes := 1) 1 aa ak rfl (by kernel_rfl) rfl rfl rfl rfl g23 e25) ?_;rintro _ _ ⟨t22, rfl, rfl⟩;show AI _ _ _ _ _ _ #[true, true, true, true, true, true, true, true, true, false, false, false] _;refine zk 9 rfl (am rfl) ?_;show AI _ _ _ _ _ _ #[true, true, true, true, true, true, true, true, true, true, false, false] _;refine zk 10 rfl (ah (n := 6) (by kernel_rfl) rfl) ?_;show AI _ _ _ _ _ _ #[true, true, true, true, true, true, true, true, true, true, true, false] _;refine aE (i := 11) (by kernel_rfl) rfl rfl <| bL (ap (i := 0) (c := slE _ _ _) (by kernel_rfl) rfl rfl rfl rfl (ab rfl)) ?_;show AI _ _ _ _ _ _ #[true, true, true, true, true, true, true, true, true, true, true, true] _;refine ba rfl ?_;obtain ⟨rfl, rfl⟩ := fF H
  exact And.intro rfl (Exists.intro _ (Exists.intro _ ⟨aZ rfl, aK [0, 0] rfl, rfl, t22, rfl⟩))
 ·refine bO rfl mD rfl (show ACalls _ _ _ [] (Ret (S x17) []) from by subst e18; exact kx a11 ([] : List UInt8) q12 (kL g16).1 (kL g16).2) ?_;show AI _ _ _ _ _ _ #[true, true, true, true, false, true, true, false, false, false, false, false] _;refine zk 7 rfl (g_cat rfl rfl g19 e21) ?_;show AI _ _ _ _ _ _ #[true, true, true, true, false, true, true, true, false, false, false, false] _;refine aE (i := 4) (by kernel_rfl) rfl rfl <| aI rfl (ai (i := 0) aa rfl rfl rfl rfl) ?_;show AI _ _ _ _ _ _ #[true, true, true, true, true, true, true, true, false, false, false, false] _;refine aE (i := 8) (by kernel_rfl) rfl rfl <| cH rfl (iw (bytes := 1) 1 aa ak rfl (by kernel_rfl) rfl rfl rfl rfl g23 e25) ?_;rintro _ _ ⟨t26, rfl, rfl⟩;show AI _ _ _ _ _ _ #[true, true, true, true, true, true, true, true, true, false, false, false] _;refine zk 9 rfl (am rfl) ?_;show AI _ _ _ _ _ _ #[true, true, true, true, true, true, true, true, true, true, false, false] _;refine zk 10 rfl (ah (n := 6) (by kernel_rfl) rfl) ?_;show AI _ _ _ _ _ _ #[true, true, true, true, true, true, true, true, true, true, true, false] _;refine aE (i := 11) (by kernel_rfl) rfl rfl <| bL (ap (i := 0) (c := slE _ _ _) (by kernel_rfl) rfl rfl rfl rfl (ab rfl)) ?_;show AI _ _ _ _ _ _ #[true, true, true, true, true, true, true, true, true, true, true, true] _;refine ba rfl ?_;obtain ⟨rfl, rfl⟩ := fF H
  exact And.intro rfl (Exists.intro _ (Exists.intro _ ⟨aZ rfl, aK [0, 0] rfl, rfl, t26, rfl⟩))
set_option maxRecDepth 100000 in
set_option maxHeartbeats 1000000 in
theorem jk (F : Nat) (o1 : Nat) (a2 : Int) (a3 : Int) (a4 : List UInt8) (a5 : List UInt8) (a6 : List UInt8) (a7 : List UInt8) (a8 : List UInt8) (t9 : Nat) (a10 : Int) (r11 : Int) (r12 : Int) (r13 : List UInt8) (H : hC F a2 a3 a4 a5 a6 a7 a8 a10 = some (r11, r12, r13)) : ACalls Tryz.prog 58 [.pt o1 0, i64 a10] [.obj o1 [i64 a2, i64 a3, S a4, S a5, S a6, slE Enc.byte a7 none, slE Enc.byte a8 (some t9)], .tok t9 5] (fun e A' => e = .ret (.tup []) ∧ ∃ t14, A' = [.obj o1 [i64 r11, i64 r12, S a4, S a5, S a6, slE Enc.byte a7 none, slE Enc.byte r13 (some t14)], .tok t14 5]) := by
 unfold hC at H
 refine ax Tryz.func58 rfl rfl ?_;show AW _ _ 12 _ _ _;refine aj <| ac ?_;show AR _ _ _ _ _ [0, 1, 2, 3, 4, 5] _;refine zS rfl (ag (av := .pt _ _) rfl) <| zm rfl <| zS rfl (am rfl) <| zS rfl (ah (n := 0) (by kernel_rfl) rfl) <| zS rfl (ah (n := 1) (by kernel_rfl) rfl) <| s0 rfl rfl (ap (i := 0) (c := .v _) (by kernel_rfl) rfl rfl rfl rfl (ab rfl)) <| al ?_;obtain ⟨x15, x16, e17, H⟩ := dq H;refine ac ?_;show AR _ _ _ _ _ [0, 1, 2] _;refine zS rfl (ag (av := .pt _ _) rfl) <| zR rfl (dz (E := Enc.str) (bytes := 16) (xs := [.const _]) (l := ([([81, 85, 73, 84] : List UInt8)] : List (List UInt8))) aA (by kernel_rfl) rfl rfl (by decide) rfl rfl) <| an rfl rfl (bM [0, 0] rfl ij rfl (ic F o1 a2 a10 a4 a5 a6 a7 a8 t9 6 ([([81, 85, 73, 84] : List UInt8)] : List (List UInt8)) none x15 x16 e17) rfl (fun c A' h => by cases h.1) ?_)
 rintro av A' ⟨h, t18, rfl⟩; cases h
 refine al ?_;obtain ⟨rfl, rfl, rfl⟩ := gn H;exact And.intro rfl (Exists.intro _ (Exists.intro _ ⟨aZ rfl, aK [0, 0] rfl, rfl, t18, rfl⟩))
set_option maxRecDepth 100000 in
set_option maxHeartbeats 1000000 in
theorem li (F : Nat) (o1 : Nat) (a2 : Int) (a3 : Int) (a4 : List UInt8) (a5 : List UInt8) (a6 : List UInt8) (a7 : List UInt8) (a8 : List UInt8) (t9 : Nat) (r10 : Int) (r11 : Int) (H : hH F a2 a3 a4 a5 a6 a7 a8 = some (r10, r11)) : ACalls Tryz.prog 38 [.pt o1 0] [.obj o1 [i64 a2, i64 a3, S a4, S a5, S a6, slE Enc.byte a7 none, slE Enc.byte a8 (some t9)], .tok t9 5] (fun e A' => e = .ret (.tup []) ∧ A' = [.obj o1 [i64 r10, i64 r11, S a4, S a5, S a6, slE Enc.byte a7 none, slE Enc.byte a8 (some t9)], .tok t9 5]) := by
 unfold hH at H
 refine ax Tryz.func38 rfl rfl ?_;show AW _ _ 16 _ _ _;refine aj <| ac ?_;show AR _ _ _ _ _ [0, 1, 2, 3, 4] _;refine zS rfl (ag (av := .pt _ _) rfl) <| zS rfl (am rfl) <| zS rfl (ah (n := 0) (by kernel_rfl) rfl) <| zS rfl (ah (n := 0) (by kernel_rfl) rfl) <| s0 rfl rfl (ap (i := 0) (c := .v _) (by kernel_rfl) rfl rfl rfl rfl (ab rfl)) <| al <| aj <| ac ?_;show AR _ _ _ _ _ [0, 1, 2, 3, 4, 5] _;refine zS rfl (ag (av := .pt _ _) rfl) <| zS rfl (am rfl) <| zS rfl (ah (n := 0) (by kernel_rfl) rfl) <| zS rfl (ah (n := 1) (by kernel_rfl) rfl) <| zR rfl (ai (i := 0) ar rfl rfl rfl rfl) <| zS rfl (bX rfl rfl) <| al <| aG rfl (fun c12 => ?_) (fun c12 => ?_)
 ·replace H := bo c12 H;refine ac ?_;show AR _ _ _ _ _ [0, 1, 2, 3, 4] _;refine zS rfl (ag (av := .pt _ _) rfl) <| zS rfl (am rfl) <| zS rfl (ah (n := 0) (by kernel_rfl) rfl) <| zS rfl (ah (n := 1) (by kernel_rfl) rfl) <| s0 rfl rfl (ap (i := 0) (c := .v _) (by kernel_rfl) rfl rfl rfl rfl (ab rfl)) <| al ?_;obtain ⟨rfl, rfl⟩ := fF H;exact And.intro rfl (Exists.intro _ (Exists.intro _ ⟨aZ rfl, aK [0, 0] rfl, rfl, rfl⟩))
 ·replace H := bc c12 H;refine aM ?_;obtain ⟨rfl, rfl⟩ := fF H;exact And.intro rfl (Exists.intro _ (Exists.intro _ ⟨aZ rfl, aK [0, 0] rfl, rfl, rfl⟩))
set_option maxRecDepth 100000 in
set_option maxHeartbeats 1000000 in
theorem mu (F : Nat) (o1 : Nat) (a2 : Int) (a3 : Int) (a4 : List UInt8) (a5 : List UInt8) (a6 : List UInt8) (a7 : List UInt8) (a8 : List UInt8) (t9 : Nat) (a10 : Int) (a11 : List (List UInt8)) (a12 : Int) (a13 : Int) (a14 : Int) (r15 : Bool) (r16 : Int) (r17 : List UInt8) (H : jj F a2 a3 a4 a5 a6 a7 a8 a10 a11 a12 a13 a14 = some (r15, r16, r17)) : ACalls Tryz.prog 80 [.pt o1 0, .agg [i64 a10, slE Enc.str a11 none, i64 a12, i64 a13, i64 a14]] [.obj o1 [i64 a2, i64 a3, S a4, S a5, S a6, slE Enc.byte a7 none, slE Enc.byte a8 (some t9)], .tok t9 5] (fun e A' => e = .ret (B r15) ∧ ∃ t18, A' = [.obj o1 [i64 r16, i64 a3, S a4, S a5, S a6, slE Enc.byte a7 none, slE Enc.byte r17 (some t18)], .tok t18 5]) := by
 unfold jj at H
 refine ax Tryz.func80 rfl rfl ?_;show AW _ _ 16 _ _ _;refine aj <| ac ?_;show AR _ _ _ _ _ [0, 1] _;refine zR rfl (cm rfl (.inr ⟨_, rfl⟩)) <| za rfl <| al <| aj <| aj <| ac ?_;show AR _ _ _ _ _ [0, 1, 2] _;refine zS rfl (aO (n := 0) (by kernel_rfl) rfl (ab rfl)) <| zS rfl (aL ar rfl rfl) <| zS rfl (eP rfl rfl) <| al <| aG rfl (fun c19 => ?_) (fun c19 => ?_)
 ·replace H := bo c19 H;refine aj <| ac ?_;show AR _ _ _ _ _ [0] _;refine za rfl <| al <| aU ?_;obtain ⟨rfl, rfl, rfl⟩ := gn H;exact And.intro rfl (Exists.intro _ (Exists.intro _ ⟨aV rfl (.refl _), aK [0, 0] rfl, rfl, t9, rfl⟩))
 ·replace H := bc c19 H;refine aM <| aj ?_;obtain ⟨x20, x21, e22, H⟩ := dq H;refine ac ?_;show AR _ _ _ _ _ [0, 1, 2, 3, 4, 5, 6, 7] _;refine zS rfl (ag (av := .pt _ _) rfl) <| zS rfl (ag (av := .pt _ _) rfl) <| zS rfl (am rfl) <| zS rfl (ah (n := 0) (by kernel_rfl) rfl) <| zS rfl (ah (n := 4) (by kernel_rfl) rfl) <| zR rfl (ai (i := 0) ak rfl rfl rfl rfl) <| zR rfl (dz (E := Enc.str) (bytes := 16) (xs := [.const _, .tmp 13]) (l := ([([69, 72, 76, 79, 32] : List UInt8), a6] : List (List UInt8))) aA (by kernel_rfl) rfl rfl (by decide) rfl rfl) <| an rfl rfl (bM [0, 0] rfl ij rfl (ic F o1 a2 a3 a4 a5 a6 a7 a8 t9 1 ([([69, 72, 76, 79, 32] : List UInt8), a6] : List (List UInt8)) none x20 x21 e22) rfl (fun c A' h => by cases h.1) ?_)
  rintro av A' ⟨h, t23, rfl⟩; cases h
  refine al <| aj <| ac ?_;show AR _ _ _ _ _ [0] _;refine za rfl <| al <| aU ?_;obtain ⟨rfl, rfl, rfl⟩ := gn H;exact And.intro rfl (Exists.intro _ (Exists.intro _ ⟨aV rfl (.refl _), aK [0, 0] rfl, rfl, t23, rfl⟩))
set_option maxRecDepth 100000 in
set_option maxHeartbeats 1000000 in
theorem mt (F : Nat) (o1 : Nat) (a2 : Int) (a3 : Int) (a4 : List UInt8) (a5 : List UInt8) (a6 : List UInt8) (a7 : List UInt8) (a8 : List UInt8) (t9 : Nat) (a10 : Int) (a11 : List (List UInt8)) (a12 : Int) (a13 : Int) (a14 : Int) (r15 : Bool) (r16 : Int) (r17 : Int) (r18 : List UInt8) (H : ji F a2 a3 a4 a5 a6 a7 a8 a10 a11 a12 a13 a14 = some (r15, r16, r17, r18)) : ACalls Tryz.prog 81 [.pt o1 0, .agg [i64 a10, slE Enc.str a11 none, i64 a12, i64 a13, i64 a14]] [.obj o1 [i64 a2, i64 a3, S a4, S a5, S a6, slE Enc.byte a7 none, slE Enc.byte a8 (some t9)], .tok t9 5] (fun e A' => e = .ret (B r15) ∧ ∃ t19, A' = [.obj o1 [i64 r16, i64 r17, S a4, S a5, S a6, slE Enc.byte a7 none, slE Enc.byte r18 (some t19)], .tok t19 5]) := by
 unfold ji at H
 refine ax Tryz.func81 rfl rfl ?_;show AW _ _ 41 _ _ _;refine aj <| ac ?_;show AR _ _ _ _ _ [0, 1] _;refine zR rfl (cm rfl (.inr ⟨_, rfl⟩)) <| za rfl <| al <| aj <| aj <| ac ?_;show AR _ _ _ _ _ [0, 1, 2, 3] _;refine zS rfl (aO (n := 0) (by kernel_rfl) rfl (ab rfl)) <| zS rfl (aL ar rfl rfl) <| zS rfl (iq rfl rfl (by decide)) <| zS rfl (eP rfl rfl) <| al <| aG rfl (fun c20 => ?_) (fun c20 => ?_)
 ·replace H := bo c20 H;refine aj <| ac ?_;show AR _ _ _ _ _ [0] _;refine za rfl <| al <| aU ?_;obtain ⟨rfl, rfl, rfl, rfl⟩ := res4 H;exact And.intro rfl (Exists.intro _ (Exists.intro _ ⟨aV rfl (.refl _), aK [0, 0] rfl, rfl, t9, rfl⟩))
 ·replace H := bc c20 H;refine aM <| aj ?_;obtain ⟨x21, x22, e23, H⟩ := dq H;refine ac ?_;show AR _ _ _ _ _ [0, 1, 2, 3, 4, 5, 6, 7, 8, 9, 10] _;refine zS rfl (ag (av := .pt _ _) rfl) <| zS rfl (am rfl) <| zS rfl (ah (n := 0) (by kernel_rfl) rfl) <| zS rfl (ah (n := 5) (by kernel_rfl) rfl) <| zR rfl (ai (i := 0) aa rfl rfl rfl rfl) <| an rfl rfl (aQ rfl oe rfl (lx F a7 none x21 x22 e23) ?_);refine zS rfl (ag (av := .tup _) rfl) <| zS rfl (aH (av := slE _ _ _) rfl rfl) <| zS rfl (aH (av := .v _) rfl rfl) <| zS rfl (ay (av := slE _ _ _) rfl) <| za rfl <| al <| aj <| aj ?_;obtain ⟨x24, e25, H⟩ := cZ H;refine ac ?_;show AR _ _ _ _ _ [0, 1, 2] _;refine zS rfl (aY bm rfl (n := 5) (by kernel_rfl) rfl (ab rfl)) <| an rfl rfl (aQ rfl rQ rfl (rf F a10 a11 a12 a13 a14 x24 e25) ?_);refine za rfl <| al <| aj <| ac ?_;show AR _ _ _ _ _ [0, 1, 2, 3, 4, 5, 6, 7] _;refine zm rfl <| zS rfl (gi rfl rfl) <| zm rfl <| aN (l := []) 30 (B ((decide (0 < x24)) && (decide (x24 < (x21.length : Int))))) (fun K => ?_) ?_
  ·rcases af (decide (0 < x24)) with h26 | h26
   ·refine zM h26 rfl <| zU h26 rfl (ag (av := slE _ _ _) rfl) <| zU h26 rfl (aW aa rfl) <| zU h26 rfl (ct rfl rfl) <| zS rfl (az (av := .v _) rfl h26 rfl) ?_;exact K _ 4 _ (aq (ca h26)) rfl rfl
   ·refine zF h26 rfl <| zF h26 rfl <| zF h26 rfl <| zF h26 rfl <| zS rfl (aw (av := .v _) rfl h26 rfl) ?_;exact K _ 4 _ (aq (cb h26)) rfl rfl
  refine al <| aG rfl (fun c27 => ?_) (fun c27 => ?_)
  ·replace H := bo c27 H;refine aj ?_;obtain ⟨x28, x29, x30, e31, H⟩ := fi H;refine ac ?_;show AR _ _ _ _ _ [0, 1] _;refine zS rfl (ag (av := .pt _ _) rfl) <| an rfl rfl (bM [0, 0] rfl jr rfl (jk F o1 a2 a3 a4 a5 a6 a7 a8 t9 3 x28 x29 x30 e31) rfl (fun c A' h => by cases h.1) ?_)
   rintro av A' ⟨h, t32, rfl⟩; cases h
   refine al <| aj <| ac ?_;show AR _ _ _ _ _ [0] _;refine za rfl <| al <| aU ?_;obtain ⟨rfl, rfl, rfl, rfl⟩ := res4 H;exact And.intro rfl (Exists.intro _ (Exists.intro _ ⟨aV rfl (.refl _), aK [0, 0] rfl, rfl, t32, rfl⟩))
  ·replace H := bc c27 H;refine aM <| aj ?_;obtain ⟨x33, x34, e35, H⟩ := dq H;refine ac ?_;show AR _ _ _ _ _ [0, 1, 2, 3, 4, 5, 6, 7] _;refine zS rfl (ag (av := .pt _ _) rfl) <| zS rfl (ag (av := .pt _ _) rfl) <| zS rfl (am rfl) <| zS rfl (ah (n := 0) (by kernel_rfl) rfl) <| zS rfl (ah (n := 2) (by kernel_rfl) rfl) <| zR rfl (ai (i := 0) ak rfl rfl rfl rfl) <| zR rfl (dz (E := Enc.str) (bytes := 16) (xs := [.const _, .tmp 38, .const _]) (l := ([([77, 65, 73, 76, 32, 70, 82, 79, 77, 58, 60] : List UInt8), a4, ([62] : List UInt8)] : List (List UInt8))) aA (by kernel_rfl) rfl rfl (by decide) rfl rfl) <| an rfl rfl (bM [0, 0] rfl ij rfl (ic F o1 a2 a3 a4 a5 a6 a7 a8 t9 2 ([([77, 65, 73, 76, 32, 70, 82, 79, 77, 58, 60] : List UInt8), a4, ([62] : List UInt8)] : List (List UInt8)) none x33 x34 e35) rfl (fun c A' h => by cases h.1) ?_)
   rintro av A' ⟨h, t36, rfl⟩; cases h
   refine al <| aj <| ac ?_;show AR _ _ _ _ _ [0] _;refine za rfl <| al <| aU ?_;obtain ⟨rfl, rfl, rfl, rfl⟩ := res4 H;exact And.intro rfl (Exists.intro _ (Exists.intro _ ⟨aV rfl (.refl _), aK [0, 0] rfl, rfl, t36, rfl⟩))
set_option maxRecDepth 100000 in
set_option maxHeartbeats 1000000 in
theorem nu (F : Nat) (o1 : Nat) (a2 : Int) (a3 : Int) (a4 : List UInt8) (a5 : List UInt8) (a6 : List UInt8) (a7 : List UInt8) (a8 : List UInt8) (t9 : Nat) (a10 : Int) (a11 : List (List UInt8)) (a12 : Int) (a13 : Int) (a14 : Int) (r15 : Bool) (r16 : Int) (r17 : List UInt8) (H : kU F a2 a3 a4 a5 a6 a7 a8 a10 a11 a12 a13 a14 = some (r15, r16, r17)) : ACalls Tryz.prog 82 [.pt o1 0, .agg [i64 a10, slE Enc.str a11 none, i64 a12, i64 a13, i64 a14]] [.obj o1 [i64 a2, i64 a3, S a4, S a5, S a6, slE Enc.byte a7 none, slE Enc.byte a8 (some t9)], .tok t9 5] (fun e A' => e = .ret (B r15) ∧ ∃ t18, A' = [.obj o1 [i64 r16, i64 a3, S a4, S a5, S a6, slE Enc.byte a7 none, slE Enc.byte r17 (some t18)], .tok t18 5]) := by
 unfold kU at H
 refine ax Tryz.func82 rfl rfl ?_;show AW _ _ 17 _ _ _;refine aj <| ac ?_;show AR _ _ _ _ _ [0, 1] _;refine zR rfl (cm rfl (.inr ⟨_, rfl⟩)) <| za rfl <| al <| aj <| aj <| ac ?_;show AR _ _ _ _ _ [0, 1, 2, 3] _;refine zS rfl (aO (n := 0) (by kernel_rfl) rfl (ab rfl)) <| zS rfl (aL ar rfl rfl) <| zS rfl (iq rfl rfl (by decide)) <| zS rfl (eP rfl rfl) <| al <| aG rfl (fun c19 => ?_) (fun c19 => ?_)
 ·replace H := bo c19 H;refine aj <| ac ?_;show AR _ _ _ _ _ [0] _;refine za rfl <| al <| aU ?_;obtain ⟨rfl, rfl, rfl⟩ := gn H;exact And.intro rfl (Exists.intro _ (Exists.intro _ ⟨aV rfl (.refl _), aK [0, 0] rfl, rfl, t9, rfl⟩))
 ·replace H := bc c19 H;refine aM <| aj ?_;obtain ⟨x20, x21, e22, H⟩ := dq H;refine ac ?_;show AR _ _ _ _ _ [0, 1, 2, 3, 4, 5, 6, 7] _;refine zS rfl (ag (av := .pt _ _) rfl) <| zS rfl (ag (av := .pt _ _) rfl) <| zS rfl (am rfl) <| zS rfl (ah (n := 0) (by kernel_rfl) rfl) <| zS rfl (ah (n := 3) (by kernel_rfl) rfl) <| zR rfl (ai (i := 0) ak rfl rfl rfl rfl) <| zR rfl (dz (E := Enc.str) (bytes := 16) (xs := [.const _, .tmp 14, .const _]) (l := ([([82, 67, 80, 84, 32, 84, 79, 58, 60] : List UInt8), a5, ([62] : List UInt8)] : List (List UInt8))) aA (by kernel_rfl) rfl rfl (by decide) rfl rfl) <| an rfl rfl (bM [0, 0] rfl ij rfl (ic F o1 a2 a3 a4 a5 a6 a7 a8 t9 3 ([([82, 67, 80, 84, 32, 84, 79, 58, 60] : List UInt8), a5, ([62] : List UInt8)] : List (List UInt8)) none x20 x21 e22) rfl (fun c A' h => by cases h.1) ?_)
  rintro av A' ⟨h, t23, rfl⟩; cases h
  refine al <| aj <| ac ?_;show AR _ _ _ _ _ [0] _;refine za rfl <| al <| aU ?_;obtain ⟨rfl, rfl, rfl⟩ := gn H;exact And.intro rfl (Exists.intro _ (Exists.intro _ ⟨aV rfl (.refl _), aK [0, 0] rfl, rfl, t23, rfl⟩))
set_option maxRecDepth 100000 in
set_option maxHeartbeats 1000000 in
theorem ns (F : Nat) (o1 : Nat) (a2 : Int) (a3 : Int) (a4 : List UInt8) (a5 : List UInt8) (a6 : List UInt8) (a7 : List UInt8) (a8 : List UInt8) (t9 : Nat) (a10 : Int) (a11 : List (List UInt8)) (a12 : Int) (a13 : Int) (a14 : Int) (r15 : Bool) (r16 : Int) (r17 : List UInt8) (H : kS F a2 a3 a4 a5 a6 a7 a8 a10 a11 a12 a13 a14 = some (r15, r16, r17)) : ACalls Tryz.prog 83 [.pt o1 0, .agg [i64 a10, slE Enc.str a11 none, i64 a12, i64 a13, i64 a14]] [.obj o1 [i64 a2, i64 a3, S a4, S a5, S a6, slE Enc.byte a7 none, slE Enc.byte a8 (some t9)], .tok t9 5] (fun e A' => e = .ret (B r15) ∧ ∃ t18, A' = [.obj o1 [i64 r16, i64 a3, S a4, S a5, S a6, slE Enc.byte a7 none, slE Enc.byte r17 (some t18)], .tok t18 5]) := by
 unfold kS at H
 refine ax Tryz.func83 rfl rfl ?_;show AW _ _ 12 _ _ _;refine aj <| ac ?_;show AR _ _ _ _ _ [0, 1] _;refine zR rfl (cm rfl (.inr ⟨_, rfl⟩)) <| za rfl <| al <| aj <| aj <| ac ?_;show AR _ _ _ _ _ [0, 1, 2, 3] _;refine zS rfl (aO (n := 0) (by kernel_rfl) rfl (ab rfl)) <| zS rfl (aL ar rfl rfl) <| zS rfl (iq rfl rfl (by decide)) <| zS rfl (eP rfl rfl) <| al <| aG rfl (fun c19 => ?_) (fun c19 => ?_)
 ·replace H := bo c19 H;refine aj <| ac ?_;show AR _ _ _ _ _ [0] _;refine za rfl <| al <| aU ?_;obtain ⟨rfl, rfl, rfl⟩ := gn H;exact And.intro rfl (Exists.intro _ (Exists.intro _ ⟨aV rfl (.refl _), aK [0, 0] rfl, rfl, t9, rfl⟩))
 ·replace H := bc c19 H;refine aM <| aj ?_;obtain ⟨x20, x21, e22, H⟩ := dq H;refine ac ?_;show AR _ _ _ _ _ [0, 1, 2] _;refine zS rfl (ag (av := .pt _ _) rfl) <| zR rfl (dz (E := Enc.str) (bytes := 16) (xs := [.const _]) (l := ([([68, 65, 84, 65] : List UInt8)] : List (List UInt8))) aA (by kernel_rfl) rfl rfl (by decide) rfl rfl) <| an rfl rfl (bM [0, 0] rfl ij rfl (ic F o1 a2 a3 a4 a5 a6 a7 a8 t9 4 ([([68, 65, 84, 65] : List UInt8)] : List (List UInt8)) none x20 x21 e22) rfl (fun c A' h => by cases h.1) ?_)
  rintro av A' ⟨h, t23, rfl⟩; cases h
  refine al <| aj <| ac ?_;show AR _ _ _ _ _ [0] _;refine za rfl <| al <| aU ?_;obtain ⟨rfl, rfl, rfl⟩ := gn H;exact And.intro rfl (Exists.intro _ (Exists.intro _ ⟨aV rfl (.refl _), aK [0, 0] rfl, rfl, t23, rfl⟩))
set_option maxRecDepth 100000 in
set_option maxHeartbeats 1000000 in
theorem nv (F : Nat) (o1 : Nat) (a2 : Int) (a3 : Int) (a4 : List UInt8) (a5 : List UInt8) (a6 : List UInt8) (a7 : List UInt8) (a8 : List UInt8) (t9 : Nat) (a10 : Int) (a11 : List (List UInt8)) (a12 : Int) (a13 : Int) (a14 : Int) (r15 : Bool) (r16 : Int) (r17 : List UInt8) (H : kV F a2 a3 a4 a5 a6 a7 a8 a10 a11 a12 a13 a14 = some (r15, r16, r17)) : ACalls Tryz.prog 84 [.pt o1 0, .agg [i64 a10, slE Enc.str a11 none, i64 a12, i64 a13, i64 a14]] [.obj o1 [i64 a2, i64 a3, S a4, S a5, S a6, slE Enc.byte a7 none, slE Enc.byte a8 (some t9)], .tok t9 5] (fun e A' => e = .ret (B r15) ∧ ∃ t18, A' = [.obj o1 [i64 r16, i64 a3, S a4, S a5, S a6, slE Enc.byte a7 none, slE Enc.byte r17 (some t18)], .tok t18 5]) := by
 unfold kV at H
 refine ax Tryz.func84 rfl rfl ?_;show AW _ _ 32 _ _ _;refine aj <| ac ?_;show AR _ _ _ _ _ [0, 1] _;refine zR rfl (cm rfl (.inr ⟨_, rfl⟩)) <| za rfl <| al <| aj <| aj <| ac ?_;show AR _ _ _ _ _ [0, 1, 2] _;refine zS rfl (aO (n := 0) (by kernel_rfl) rfl (ab rfl)) <| zS rfl (aL ar rfl rfl) <| zS rfl (eP rfl rfl) <| al <| aG rfl (fun c19 => ?_) (fun c19 => ?_)
 ·replace H := bo c19 H;refine aj <| ac ?_;show AR _ _ _ _ _ [0] _;refine za rfl <| al <| aU ?_;obtain ⟨rfl, rfl, rfl⟩ := gn H;exact And.intro rfl (Exists.intro _ (Exists.intro _ ⟨aV rfl (.refl _), aK [0, 0] rfl, rfl, t9, rfl⟩))
 ·replace H := bc c19 H;refine aM <| aj ?_;obtain ⟨x20, x21, e22, H⟩ := dq H;refine ac ?_;show AR _ _ _ _ _ [0, 1, 2, 3, 4, 5, 6, 7, 8, 9, 10] _;refine zS rfl (ag (av := .pt _ _) rfl) <| zS rfl (am rfl) <| zS rfl (ah (n := 0) (by kernel_rfl) rfl) <| zS rfl (ah (n := 5) (by kernel_rfl) rfl) <| zR rfl (ai (i := 0) aa rfl rfl rfl rfl) <| an rfl rfl (aQ rfl oe rfl (lx F a7 none x20 x21 e22) ?_);refine zS rfl (ag (av := .tup _) rfl) <| zS rfl (aH (av := slE _ _ _) rfl rfl) <| zS rfl (aH (av := .v _) rfl rfl) <| zS rfl (ay (av := slE _ _ _) rfl) <| za rfl <| al <| aj ?_;obtain ⟨g24, H⟩ := bb H;obtain ⟨x25, e26, H⟩ := cE H;refine ac ?_;show AR _ _ _ _ _ [0, 1, 2, 3, 4, 5, 6, 7, 8, 9, 10, 11, 12, 13, 14] _;refine zS rfl (ag (av := .pt _ _) rfl) <| zS rfl (ag (av := .pt _ _) rfl) <| zS rfl (ag (av := .pt _ _) rfl) <| zS rfl (am rfl) <| zS rfl (ah (n := 6) (by kernel_rfl) rfl) <| zR rfl (ai (i := 0) aa rfl rfl rfl rfl) <| zS rfl (ag (av := slE _ _ _) rfl) <| zX rfl (dy (E := Enc.byte) (bytes := 1) 1 aa aa rfl (by kernel_rfl) rfl rfl rfl rfl g24 e26) ?_;rintro _ _ ⟨t23, rfl, rfl⟩
  refine zS rfl (am rfl) <| zS rfl (ah (n := 0) (by kernel_rfl) rfl) <| zS rfl (ah (n := 0) (by kernel_rfl) rfl) <| s0 rfl rfl (ap (i := 0) (c := .v _) (by kernel_rfl) rfl rfl rfl rfl (ab rfl)) <| zS rfl (am rfl) <| zS rfl (ah (n := 6) (by kernel_rfl) rfl) <| s0 rfl rfl (ap (i := 0) (c := slE _ _ _) (by kernel_rfl) rfl rfl rfl rfl (ab rfl)) <| al <| aj <| ac ?_;show AR _ _ _ _ _ [0] _;refine za rfl <| al <| aU ?_;obtain ⟨rfl, rfl, rfl⟩ := gn H;exact And.intro rfl (Exists.intro _ (Exists.intro _ ⟨aV rfl (.refl _), aK [0, 0] rfl, rfl, t23, rfl⟩))
set_option maxRecDepth 100000 in
set_option maxHeartbeats 1000000 in
theorem nw (F : Nat) (o1 : Nat) (a2 : Int) (a3 : Int) (a4 : List UInt8) (a5 : List UInt8) (a6 : List UInt8) (a7 : List UInt8) (a8 : List UInt8) (t9 : Nat) (a10 : Int) (a11 : List (List UInt8)) (a12 : Int) (a13 : Int) (a14 : Int) (r15 : Bool) (r16 : Int) (r17 : Int) (r18 : List UInt8) (H : kW F a2 a3 a4 a5 a6 a7 a8 a10 a11 a12 a13 a14 = some (r15, r16, r17, r18)) : ACalls Tryz.prog 85 [.pt o1 0, .agg [i64 a10, slE Enc.str a11 none, i64 a12, i64 a13, i64 a14]] [.obj o1 [i64 a2, i64 a3, S a4, S a5, S a6, slE Enc.byte a7 none, slE Enc.byte a8 (some t9)], .tok t9 5] (fun e A' => e = .ret (B r15) ∧ ∃ t19, A' = [.obj o1 [i64 r16, i64 r17, S a4, S a5, S a6, slE Enc.byte a7 none, slE Enc.byte r18 (some t19)], .tok t19 5]) := by
 unfold kW at H
 refine ax Tryz.func85 rfl rfl ?_;show AW _ _ 11 _ _ _;refine aj <| ac ?_;show AR _ _ _ _ _ [0, 1] _;refine zR rfl (cm rfl (.inr ⟨_, rfl⟩)) <| za rfl <| al <| aj <| aj <| ac ?_;show AR _ _ _ _ _ [0, 1, 2, 3] _;refine zS rfl (aO (n := 0) (by kernel_rfl) rfl (ab rfl)) <| zS rfl (aL ar rfl rfl) <| zS rfl (iq rfl rfl (by decide)) <| zS rfl (eP rfl rfl) <| al <| aG rfl (fun c20 => ?_) (fun c20 => ?_)
 ·replace H := bo c20 H;refine aj <| ac ?_;show AR _ _ _ _ _ [0] _;refine za rfl <| al <| aU ?_;obtain ⟨rfl, rfl, rfl, rfl⟩ := res4 H;exact And.intro rfl (Exists.intro _ (Exists.intro _ ⟨aV rfl (.refl _), aK [0, 0] rfl, rfl, t9, rfl⟩))
 ·replace H := bc c20 H;refine aM <| aj ?_;obtain ⟨x21, x22, x23, e24, H⟩ := fi H;refine ac ?_;show AR _ _ _ _ _ [0, 1] _;refine zS rfl (ag (av := .pt _ _) rfl) <| an rfl rfl (bM [0, 0] rfl jr rfl (jk F o1 a2 a3 a4 a5 a6 a7 a8 t9 1 x21 x22 x23 e24) rfl (fun c A' h => by cases h.1) ?_)
  rintro av A' ⟨h, t25, rfl⟩; cases h
  refine al <| aj <| ac ?_;show AR _ _ _ _ _ [0] _;refine za rfl <| al <| aU ?_;obtain ⟨rfl, rfl, rfl, rfl⟩ := res4 H;exact And.intro rfl (Exists.intro _ (Exists.intro _ ⟨aV rfl (.refl _), aK [0, 0] rfl, rfl, t25, rfl⟩))
set_option maxRecDepth 100000 in
set_option maxHeartbeats 1000000 in
theorem nt (F : Nat) (o1 : Nat) (a2 : Int) (a3 : Int) (a4 : List UInt8) (a5 : List UInt8) (a6 : List UInt8) (a7 : List UInt8) (a8 : List UInt8) (t9 : Nat) (a10 : Int) (a11 : List (List UInt8)) (a12 : Int) (a13 : Int) (a14 : Int) (r15 : Bool) (r16 : Int) (H : me F a2 a3 a4 a5 a6 a7 a8 a10 a11 a12 a13 a14 = some (r15, r16)) : ACalls Tryz.prog 86 [.pt o1 0, .agg [i64 a10, slE Enc.str a11 none, i64 a12, i64 a13, i64 a14]] [.obj o1 [i64 a2, i64 a3, S a4, S a5, S a6, slE Enc.byte a7 none, slE Enc.byte a8 (some t9)], .tok t9 5] (fun e A' => e = .ret (B r15) ∧ A' = [.obj o1 [i64 r16, i64 a3, S a4, S a5, S a6, slE Enc.byte a7 none, slE Enc.byte a8 (some t9)], .tok t9 5]) := by
 unfold me at H
 refine ax Tryz.func86 rfl rfl ?_;show AW _ _ 9 _ _ _;refine aj <| ac ?_;show AR _ _ _ _ _ [0, 1] _;refine zR rfl (cm rfl (.inr ⟨_, rfl⟩)) <| za rfl <| al <| aj <| ac ?_;show AR _ _ _ _ _ [0, 1, 2, 3, 4] _;refine zS rfl (ag (av := .pt _ _) rfl) <| zS rfl (am rfl) <| zS rfl (ah (n := 0) (by kernel_rfl) rfl) <| zS rfl (ah (n := 0) (by kernel_rfl) rfl) <| s0 rfl rfl (ap (i := 0) (c := .v _) (by kernel_rfl) rfl rfl rfl rfl (ab rfl)) <| al <| aj <| ac ?_;show AR _ _ _ _ _ [0] _;refine za rfl <| al <| aU ?_;obtain ⟨rfl, rfl⟩ := fF H;exact And.intro rfl (Exists.intro _ (Exists.intro _ ⟨aV rfl (.refl _), aK [0, 0] rfl, rfl, rfl⟩))
abbrev _root_.Go.Av.bk := @Tryz.underlying92
set_option maxRecDepth 100000 in
set_option maxHeartbeats 1000000 in
theorem cr (F : Nat) (H : ez F = some ()) : ACalls Tryz.prog 57 [] [] (Ret (.agg [.v (.func (.func 80) #[] #[]), .v (.func (.func 81) #[] #[]), .v (.func (.func 82) #[] #[]), .v (.func (.func 83) #[] #[]), .v (.func (.func 84) #[] #[]), .v (.func (.func 85) #[] #[]), .v (.func (.func 86) #[] #[])]) []) := by
 unfold ez at H
 refine ax Tryz.func57 rfl rfl ?_;show AW _ _ 2 _ _ _;refine aj <| ac ?_;show AR _ _ _ _ _ [0] _;refine zX rfl (bN (zs := [.nilFunc, .nilFunc, .nilFunc, .nilFunc, .nilFunc, .nilFunc, .nilFunc]) (by kernel_rfl)) ?_;rintro _ _ ⟨o1, rfl, rfl⟩;refine al <| aj <| ac ?_;show AR _ _ _ _ _ [0, 1] _;refine zS rfl (qk (zs := [.nilFunc, .nilFunc, .nilFunc, .nilFunc, .nilFunc, .nilFunc, .nilFunc]) (k := 1) (cs := [.v (.func (.func 80) #[] #[]), .v (.func (.func 81) #[] #[]), .v (.func (.func 82) #[] #[]), .v (.func (.func 83) #[] #[]), .v (.func (.func 84) #[] #[]), .v (.func (.func 85) #[] #[]), .v (.func (.func 86) #[] #[])]) bk (by kernel_rfl) (by kernel_rfl) rfl rfl (by kernel_rfl)) <| s0 rfl rfl (aP (i := 0) (vs := [.v (.func (.func 80) #[] #[]), .v (.func (.func 81) #[] #[]), .v (.func (.func 82) #[] #[]), .v (.func (.func 83) #[] #[]), .v (.func (.func 84) #[] #[]), .v (.func (.func 85) #[] #[]), .v (.func (.func 86) #[] #[])]) (by kernel_rfl) rfl rfl (by simp [br, slE]) rfl (ab rfl)) <| al <| aU ?_;exact And.intro rfl (Exists.intro _ (Exists.intro _ ⟨di (dN rfl (dk (off := 0) (cs := [.v (.func (.func 80) #[] #[]), .v (.func (.func 81) #[] #[]), .v (.func (.func 82) #[] #[]), .v (.func (.func 83) #[] #[]), .v (.func (.func 84) #[] #[]), .v (.func (.func 85) #[] #[]), .v (.func (.func 86) #[] #[])]) (n := 7) 0 bk rfl (by kernel_rfl) rfl rfl (ab rfl))), aK [] rfl, rfl, rfl⟩))
abbrev _root_.Go.Av.bA := @Tryz.underlying91
set_option maxRecDepth 100000 in
set_option maxHeartbeats 1000000 in
theorem nr (F : Nat) (o1 : Nat) (a2 : Int) (a3 : Int) (a4 : List UInt8) (a5 : List UInt8) (a6 : List UInt8) (a7 : List UInt8) (a8 : List UInt8) (t9 : Nat) (a10 : Int) (a11 : List (List UInt8)) (a12 : Int) (a13 : Int) (a14 : Int) (r15 : Int) (r16 : Int) (r17 : List UInt8) (H : jF F a2 a3 a4 a5 a6 a7 a8 a10 a11 a12 a13 a14 = some (r15, r16, r17)) : ACalls Tryz.prog 37 [.pt o1 0, .agg [i64 a10, slE Enc.str a11 none, i64 a12, i64 a13, i64 a14]] [.obj o1 [i64 a2, i64 a3, S a4, S a5, S a6, slE Enc.byte a7 none, slE Enc.byte a8 (some t9)], .tok t9 5] (fun e A' => e = .ret (.tup []) ∧ ∃ t18, A' = [.obj o1 [i64 r15, i64 r16, S a4, S a5, S a6, slE Enc.byte a7 none, slE Enc.byte r17 (some t18)], .tok t18 5]) := by
 unfold jF at H
 refine ax Tryz.func37 rfl rfl ?_;show AW _ _ 49 _ _ _;refine aj <| ac ?_;show AR _ _ _ _ _ [0] _;refine zR rfl (cm rfl (.inr ⟨_, rfl⟩)) <| al <| bx <| aj <| ac ?_;show AR _ _ _ _ _ [0, 1, 2, 3, 4, 5, 6, 7, 8, 9, 10, 11, 12, 13, 14] _;refine zS rfl (ag (av := .pt _ _) rfl) <| zS rfl (am rfl) <| zS rfl (ah (n := 0) (by kernel_rfl) rfl) <| zS rfl (ah (n := 0) (by kernel_rfl) rfl) <| zR rfl (ai (i := 0) ar rfl rfl rfl rfl) <| zS rfl (ct rfl rfl) <| zm rfl <| aN (l := [14]) 20 (B ((decide (a2 < 0)) || (decide (7 ≤ a2)))) (fun K => ?_) ?_
 ·rcases af (decide (a2 < 0)) with h19 | h19
  ·refine zF h19 rfl <| zF h19 rfl <| zF h19 rfl <| zF h19 rfl <| zF h19 rfl <| zF h19 rfl <| zS rfl (az (av := .v _) rfl h19 rfl) ?_;exact K _ 6 _ (aq (gH h19)) rfl rfl
  ·refine zU h19 rfl (ag (av := .pt _ _) rfl) <| zU h19 rfl (am rfl) <| zU h19 rfl (ah (n := 0) (by kernel_rfl) rfl) <| zU h19 rfl (ah (n := 0) (by kernel_rfl) rfl) <| zT h19 rfl (bK rfl rfl (ai (i := 0) ar rfl rfl rfl rfl) ?_);refine zU h19 rfl (fh rfl rfl) <| zS rfl (aw (av := .v _) rfl h19 rfl) ?_;exact K _ 6 _ (aq (gI h19)) rfl rfl
 refine za rfl <| al <| aG rfl (fun c20 => ?_) (fun c20 => ?_)
 ·replace H := bo c20 H;refine aM ?_;obtain ⟨rfl, rfl, rfl⟩ := gn H;exact And.intro rfl (Exists.intro _ (Exists.intro _ ⟨aZ rfl, aK [0, 0] rfl, rfl, t9, rfl⟩))
 ·replace H := bc c20 H;refine aj <| ac ?_;show AR _ _ _ _ _ [0, 1, 2, 3] _;refine zS rfl (aO (n := 0) (by kernel_rfl) rfl (ab rfl)) <| zS rfl (aL ar rfl rfl) <| zS rfl (bX rfl rfl) <| za rfl <| al <| aG rfl (fun c21 => ?_) (fun c21 => ?_)
  ·replace H := bo c21 H;obtain ⟨x22, x23, e24, H⟩ := dq H;refine ac ?_;show AR _ _ _ _ _ [0, 1] _;refine zS rfl (ag (av := .pt _ _) rfl) <| an rfl rfl (bM [0, 0] rfl lq rfl (li F o1 a2 a3 a4 a5 a6 a7 a8 t9 x22 x23 e24) rfl (fun c A' h => by cases h.1) ?_)
   rintro av A' ⟨h, rfl⟩; cases h
   refine al ?_;obtain ⟨rfl, rfl, rfl⟩ := gn H;exact And.intro rfl (Exists.intro _ (Exists.intro _ ⟨aZ rfl, aK [0, 0] rfl, rfl, t9, rfl⟩))
  ·replace H := bc c21 H;refine ck (X := Bool × Int × Int × (List UInt8) × Nat) (fun (y74, y75, y76, y77, t78) => ⟨[(0, .pt o1 0), (3, .cp [i64 a10, slE Enc.str a11 none, i64 a12, i64 a13, i64 a14]), (27, B y74)], [], [.obj o1 [i64 y75, i64 y76, S a4, S a5, S a6, slE Enc.byte a7 none, slE Enc.byte y77 (some t78)], .tok t78 5]⟩) (fun (y74, y75, y76, y77, t78) => cF F a4 a5 a6 a7 a10 y74 y75 y76 y77 = some (r15, r16, r17)) ?_ ?_
   ·obtain ⟨g25, H⟩ := bb H
    rcases idx7 g25 with rfl | rfl | rfl | rfl | rfl | rfl | rfl
    ·replace H := bo (by decide) H;obtain ⟨_, e26, H⟩ := cZ H;obtain ⟨x27, x28, x29, e30, H⟩ := fi H;refine bq (by kernel_rfl) ?_;show AI _ _ _ _ _ 11 (Array.replicate 11 false) _;refine zk 1 rfl (ag (av := .pt _ _) rfl) ?_;show AI _ _ _ _ _ _ #[false, true, false, false, false, false, false, false, false, false, false] _;refine zk 2 rfl (am rfl) ?_;show AI _ _ _ _ _ _ #[false, true, true, false, false, false, false, false, false, false, false] _;refine zk 3 rfl (ah (n := 0) (by kernel_rfl) rfl) ?_;show AI _ _ _ _ _ _ #[false, true, true, true, false, false, false, false, false, false, false] _;refine zk 4 rfl (ah (n := 0) (by kernel_rfl) rfl) ?_;show AI _ _ _ _ _ _ #[false, true, true, true, true, false, false, false, false, false, false] _;refine zk 7 rfl (ag (av := .pt _ _) rfl) ?_;show AI _ _ _ _ _ _ #[false, true, true, true, true, false, false, true, false, false, false] _;refine zk 8 rfl (aY bm rfl (n := 5) (by kernel_rfl) rfl (ab rfl)) ?_;show AI _ _ _ _ _ _ #[false, true, true, true, true, false, false, true, true, false, false] _;refine cl (i := 0) (j := 5) (by kernel_rfl) rfl rfl rfl rfl ?_ ?_
     ·refine bO rfl cY rfl (cr F e26) ?_;show AI _ _ _ _ _ _ #[true, true, true, true, true, false, false, true, true, false, false] _;refine aE (i := 5) (by kernel_rfl) rfl rfl <| aI rfl (ai (i := 0) ar rfl rfl rfl rfl) ?_;show AI _ _ _ _ _ _ #[true, true, true, true, true, true, false, true, true, false, false] _;refine zk 6 rfl (bV (i := 0) (k := 1) (c := .v _) bk bA rfl (by kernel_rfl) rfl rfl rfl rfl) ?_;show AI _ _ _ _ _ _ #[true, true, true, true, true, true, true, true, true, false, false] _;refine aE (i := 9) (by kernel_rfl) rfl rfl <| cu [0, 0] rfl (.inr ⟨rfl, rfl, rfl⟩) nU rfl (mu F o1 0 a3 a4 a5 a6 a7 a8 t9 a10 a11 a12 a13 a14 x27 x28 x29 e30) rfl (fun c A' h => by cases h.1) ?_
      rintro av A' ⟨h, t31, rfl⟩; cases h
      show AI _ _ _ _ _ _ #[true, true, true, true, true, true, true, true, true, true, false] _;refine zk 10 rfl (asg rfl) ?_;show AI _ _ _ _ _ _ #[true, true, true, true, true, true, true, true, true, true, true] _;refine ba rfl ?_;exact Exists.intro (x27, x28, a3, x29, t31) ⟨H, bh [0, 0] (.cons (.refl _) (.cons (.refl _) (.cons (.refl _) (.nil _)))) rfl⟩
     ·refine aI rfl (ai (i := 0) ar rfl rfl rfl rfl) ?_;show AI _ _ _ _ _ _ #[false, true, true, true, true, true, false, true, true, false, false] _;refine aE (i := 0) (by kernel_rfl) rfl rfl <| bO rfl cY rfl (cr F e26) ?_;show AI _ _ _ _ _ _ #[true, true, true, true, true, true, false, true, true, false, false] _;refine zk 6 rfl (bV (i := 0) (k := 1) (c := .v _) bk bA rfl (by kernel_rfl) rfl rfl rfl rfl) ?_;show AI _ _ _ _ _ _ #[true, true, true, true, true, true, true, true, true, false, false] _;refine aE (i := 9) (by kernel_rfl) rfl rfl <| cu [0, 0] rfl (.inr ⟨rfl, rfl, rfl⟩) nU rfl (mu F o1 0 a3 a4 a5 a6 a7 a8 t9 a10 a11 a12 a13 a14 x27 x28 x29 e30) rfl (fun c A' h => by cases h.1) ?_
      rintro av A' ⟨h, t32, rfl⟩; cases h
      show AI _ _ _ _ _ _ #[true, true, true, true, true, true, true, true, true, true, false] _;refine zk 10 rfl (asg rfl) ?_;show AI _ _ _ _ _ _ #[true, true, true, true, true, true, true, true, true, true, true] _;refine ba rfl ?_;exact Exists.intro (x27, x28, a3, x29, t32) ⟨H, bh [0, 0] (.cons (.refl _) (.cons (.refl _) (.cons (.refl _) (.nil _)))) rfl⟩
    ·replace H := bc (by decide) H;replace H := bo (by decide) H;obtain ⟨_, e33, H⟩ := cZ H;obtain ⟨x34, x35, x36, x37, e38, H⟩ := bnd4_s H;refine bq (by kernel_rfl) ?_;show AI _ _ _ _ _ 11 (Array.replicate 11 false) _;refine zk 1 rfl (ag (av := .pt _ _) rfl) ?_;show AI _ _ _ _ _ _ #[false, true, false, false, false, false, false, false, false, false, false] _;refine zk 2 rfl (am rfl) ?_;show AI _ _ _ _ _ _ #[false, true, true, false, false, false, false, false, false, false, false] _;refine zk 3 rfl (ah (n := 0) (by kernel_rfl) rfl) ?_;show AI _ _ _ _ _ _ #[false, true, true, true, false, false, false, false, false, false, false] _;refine zk 4 rfl (ah (n := 0) (by kernel_rfl) rfl) ?_;show AI _ _ _ _ _ _ #[false, true, true, true, true, false, false, false, false, false, false] _;refine zk 7 rfl (ag (av := .pt _ _) rfl) ?_;show AI _ _ _ _ _ _ #[false, true, true, true, true, false, false, true, false, false, false] _;refine zk 8 rfl (aY bm rfl (n := 5) (by kernel_rfl) rfl (ab rfl)) ?_;show AI _ _ _ _ _ _ #[false, true, true, true, true, false, false, true, true, false, false] _;refine cl (i := 0) (j := 5) (by kernel_rfl) rfl rfl rfl rfl ?_ ?_
     ·refine bO rfl cY rfl (cr F e33) ?_;show AI _ _ _ _ _ _ #[true, true, true, true, true, false, false, true, true, false, false] _;refine aE (i := 5) (by kernel_rfl) rfl rfl <| aI rfl (ai (i := 0) ar rfl rfl rfl rfl) ?_;show AI _ _ _ _ _ _ #[true, true, true, true, true, true, false, true, true, false, false] _;refine zk 6 rfl (bV (i := 1) (k := 1) (c := .v _) bk bA rfl (by kernel_rfl) rfl rfl rfl rfl) ?_;show AI _ _ _ _ _ _ #[true, true, true, true, true, true, true, true, true, false, false] _;refine aE (i := 9) (by kernel_rfl) rfl rfl <| cu [0, 0] rfl (.inr ⟨rfl, rfl, rfl⟩) nT rfl (mt F o1 1 a3 a4 a5 a6 a7 a8 t9 a10 a11 a12 a13 a14 x34 x35 x36 x37 e38) rfl (fun c A' h => by cases h.1) ?_
      rintro av A' ⟨h, t39, rfl⟩; cases h
      show AI _ _ _ _ _ _ #[true, true, true, true, true, true, true, true, true, true, false] _;refine zk 10 rfl (asg rfl) ?_;show AI _ _ _ _ _ _ #[true, true, true, true, true, true, true, true, true, true, true] _;refine ba rfl ?_;exact Exists.intro (x34, x35, x36, x37, t39) ⟨H, bh [0, 0] (.cons (.refl _) (.cons (.refl _) (.cons (.refl _) (.nil _)))) rfl⟩
     ·refine aI rfl (ai (i := 0) ar rfl rfl rfl rfl) ?_;show AI _ _ _ _ _ _ #[false, true, true, true, true, true, false, true, true, false, false] _;refine aE (i := 0) (by kernel_rfl) rfl rfl <| bO rfl cY rfl (cr F e33) ?_;show AI _ _ _ _ _ _ #[true, true, true, true, true, true, false, true, true, false, false] _;refine zk 6 rfl (bV (i := 1) (k := 1) (c := .v _) bk bA rfl (by kernel_rfl) rfl rfl rfl rfl) ?_;show AI _ _ _ _ _ _ #[true, true, true, true, true, true, true, true, true, false, false] _;refine aE (i := 9) (by kernel_rfl) rfl rfl <| cu [0, 0] rfl (.inr ⟨rfl, rfl, rfl⟩) nT rfl (mt F o1 1 a3 a4 a5 a6 a7 a8 t9 a10 a11 a12 a13 a14 x34 x35 x36 x37 e38) rfl (fun c A' h => by cases h.1) ?_
      rintro av A' ⟨h, t40, rfl⟩; cases h
      show AI _ _ _ _ _ _ #[true, true, true, true, true, true, true, true, true, true, false] _;refine zk 10 rfl (asg rfl) ?_;show AI _ _ _ _ _ _ #[true, true, true, true, true, true, true, true, true, true, true] _;refine ba rfl ?_;exact Exists.intro (x34, x35, x36, x37, t40) ⟨H, bh [0, 0] (.cons (.refl _) (.cons (.refl _) (.cons (.refl _) (.nil _)))) rfl⟩
    ·replace H := bc (by decide) H;replace H := bc (by decide) H;replace H := bo (by decide) H;obtain ⟨_, e41, H⟩ := cZ H;obtain ⟨x42, x43, x44, e45, H⟩ := fi H;refine bq (by kernel_rfl) ?_;show AI _ _ _ _ _ 11 (Array.replicate 11 false) _;refine zk 1 rfl (ag (av := .pt _ _) rfl) ?_;show AI _ _ _ _ _ _ #[false, true, false, false, false, false, false, false, false, false, false] _;refine zk 2 rfl (am rfl) ?_;show AI _ _ _ _ _ _ #[false, true, true, false, false, false, false, false, false, false, false] _;refine zk 3 rfl (ah (n := 0) (by kernel_rfl) rfl) ?_;show AI _ _ _ _ _ _ #[false, true, true, true, false, false, false, false, false, false, false] _;refine zk 4 rfl (ah (n := 0) (by kernel_rfl) rfl) ?_;show AI _ _ _ _ _ _ #[false, true, true, true, true, false, false, false, false, false, false] _;refine zk 7 rfl (ag (av := .pt _ _) rfl) ?_;show AI _ _ _ _ _ _ #[false, true, true, true, true, false, false, true, false, false, false] _;refine zk 8 rfl (aY bm rfl (n := 5) (by kernel_rfl) rfl (ab rfl)) ?_;show AI _ _ _ _ _ _ #[false, true, true, true, true, false, false, true, true, false, false] _;refine cl (i := 0) (j := 5) (by kernel_rfl) rfl rfl rfl rfl ?_ ?_
     ·refine bO rfl cY rfl (cr F e41) ?_;show AI _ _ _ _ _ _ #[true, true, true, true, true, false, false, true, true, false, false] _;refine aE (i := 5) (by kernel_rfl) rfl rfl <| aI rfl (ai (i := 0) ar rfl rfl rfl rfl) ?_;show AI _ _ _ _ _ _ #[true, true, true, true, true, true, false, true, true, false, false] _;refine zk 6 rfl (bV (i := 2) (k := 1) (c := .v _) bk bA rfl (by kernel_rfl) rfl rfl rfl rfl) ?_;show AI _ _ _ _ _ _ #[true, true, true, true, true, true, true, true, true, false, false] _;refine aE (i := 9) (by kernel_rfl) rfl rfl <| cu [0, 0] rfl (.inr ⟨rfl, rfl, rfl⟩) nS rfl (nu F o1 2 a3 a4 a5 a6 a7 a8 t9 a10 a11 a12 a13 a14 x42 x43 x44 e45) rfl (fun c A' h => by cases h.1) ?_
      rintro av A' ⟨h, t46, rfl⟩; cases h
      show AI _ _ _ _ _ _ #[true, true, true, true, true, true, true, true, true, true, false] _;refine zk 10 rfl (asg rfl) ?_;show AI _ _ _ _ _ _ #[true, true, true, true, true, true, true, true, true, true, true] _;refine ba rfl ?_;exact Exists.intro (x42, x43, a3, x44, t46) ⟨H, bh [0, 0] (.cons (.refl _) (.cons (.refl _) (.cons (.refl _) (.nil _)))) rfl⟩
     ·refine aI rfl (ai (i := 0) ar rfl rfl rfl rfl) ?_;show AI _ _ _ _ _ _ #[false, true, true, true, true, true, false, true, true, false, false] _;refine aE (i := 0) (by kernel_rfl) rfl rfl <| bO rfl cY rfl (cr F e41) ?_;show AI _ _ _ _ _ _ #[true, true, true, true, true, true, false, true, true, false, false] _;refine zk 6 rfl (bV (i := 2) (k := 1) (c := .v _) bk bA rfl (by kernel_rfl) rfl rfl rfl rfl) ?_;show AI _ _ _ _ _ _ #[true, true, true, true, true, true, true, true, true, false, false] _;refine aE (i := 9) (by kernel_rfl) rfl rfl <| cu [0, 0] rfl (.inr ⟨rfl, rfl, rfl⟩) nS rfl (nu F o1 2 a3 a4 a5 a6 a7 a8 t9 a10 a11 a12 a13 a14 x42 x43 x44 e45) rfl (fun c A' h => by cases h.1) ?_
      rintro av A' ⟨h, t47, rfl⟩; cases h
      show AI _ _ _ _ _ _ #[true, true, true, true, true, true, true, true, true, true, false] _;refine zk 10 rfl (asg rfl) ?_;show AI _ _ _ _ _ _ #[true, true, true, true, true, true, true, true, true, true, true] _;refine ba rfl ?_;exact Exists.intro (x42, x43, a3, x44, t47) ⟨H, bh [0, 0] (.cons (.refl _) (.cons (.refl _) (.cons (.refl _) (.nil _)))) rfl⟩
    ·replace H := bc (by decide) H;replace H := bc (by decide) H;replace H := bc (by decide) H;replace H := bo (by decide) H;obtain ⟨_, e48, H⟩ := cZ H;obtain ⟨x49, x50, x51, e52, H⟩ := fi H;refine bq (by kernel_rfl) ?_;show AI _ _ _ _ _ 11 (Array.replicate 11 false) _;refine zk 1 rfl (ag (av := .pt _ _) rfl) ?_;show AI _ _ _ _ _ _ #[false, true, false, false, false, false, false, false, false, false, false] _;refine zk 2 rfl (am rfl) ?_;show AI _ _ _ _ _ _ #[false, true, true, false, false, false, false, false, false, false, false] _;refine zk 3 rfl (ah (n := 0) (by kernel_rfl) rfl) ?_;show AI _ _ _ _ _ _ #[false, true, true, true, false, false, false, false, false, false, false] _;refine zk 4 rfl (ah (n := 0) (by kernel_rfl) rfl) ?_;show AI _ _ _ _ _ _ #[false, true, true, true, true, false, false, false, false, false, false] _;refine zk 7 rfl (ag (av := .pt _ _) rfl) ?_;show AI _ _ _ _ _ _ #[false, true, true, true, true, false, false, true, false, false, false] _;refine zk 8 rfl (aY bm rfl (n := 5) (by kernel_rfl) rfl (ab rfl)) ?_;show AI _ _ _ _ _ _ #[false, true, true, true, true, false, false, true, true, false, false] _;refine cl (i := 0) (j := 5) (by kernel_rfl) rfl rfl rfl rfl ?_ ?_
     ·refine bO rfl cY rfl (cr F e48) ?_;show AI _ _ _ _ _ _ #[true, true, true, true, true, false, false, true, true, false, false] _;refine aE (i := 5) (by kernel_rfl) rfl rfl <| aI rfl (ai (i := 0) ar rfl rfl rfl rfl) ?_;show AI _ _ _ _ _ _ #[true, true, true, true, true, true, false, true, true, false, false] _;refine zk 6 rfl (bV (i := 3) (k := 1) (c := .v _) bk bA rfl (by kernel_rfl) rfl rfl rfl rfl) ?_;show AI _ _ _ _ _ _ #[true, true, true, true, true, true, true, true, true, false, false] _;refine aE (i := 9) (by kernel_rfl) rfl rfl <| cu [0, 0] rfl (.inr ⟨rfl, rfl, rfl⟩) nR rfl (ns F o1 3 a3 a4 a5 a6 a7 a8 t9 a10 a11 a12 a13 a14 x49 x50 x51 e52) rfl (fun c A' h => by cases h.1) ?_
      rintro av A' ⟨h, t53, rfl⟩; cases h
      show AI _ _ _ _ _ _ #[true, true, true, true, true, true, true, true, true, true, false] _;refine zk 10 rfl (asg rfl) ?_;show AI _ _ _ _ _ _ #[true, true, true, true, true, true, true, true, true, true, true] _;refine ba rfl ?_;exact Exists.intro (x49, x50, a3, x51, t53) ⟨H, bh [0, 0] (.cons (.refl _) (.cons (.refl _) (.cons (.refl _) (.nil _)))) rfl⟩
     ·refine aI rfl (ai (i := 0) ar rfl rfl rfl rfl) ?_;show AI _ _ _ _ _ _ #[false, true, true, true, true, true, false, true, true, false, false] _;refine aE (i := 0) (by kernel_rfl) rfl rfl <| bO rfl cY rfl (cr F e48) ?_;show AI _ _ _ _ _ _ #[true, true, true, true, true, true, false, true, true, false, false] _;refine zk 6 rfl (bV (i := 3) (k := 1) (c := .v _) bk bA rfl (by kernel_rfl) rfl rfl rfl rfl) ?_;show AI _ _ _ _ _ _ #[true, true, true, true, true, true, true, true, true, false, false] _;refine aE (i := 9) (by kernel_rfl) rfl rfl <| cu [0, 0] rfl (.inr ⟨rfl, rfl, rfl⟩) nR rfl (ns F o1 3 a3 a4 a5 a6 a7 a8 t9 a10 a11 a12 a13 a14 x49 x50 x51 e52) rfl (fun c A' h => by cases h.1) ?_
      rintro av A' ⟨h, t54, rfl⟩; cases h
      show AI _ _ _ _ _ _ #[true, true, true, true, true, true, true, true, true, true, false] _;refine zk 10 rfl (asg rfl) ?_;show AI _ _ _ _ _ _ #[true, true, true, true, true, true, true, true, true, true, true] _;refine ba rfl ?_;exact Exists.intro (x49, x50, a3, x51, t54) ⟨H, bh [0, 0] (.cons (.refl _) (.cons (.refl _) (.cons (.refl _) (.nil _)))) rfl⟩
    ·replace H := bc (by decide) H;replace H := bc (by decide) H;replace H := bc (by decide) H;replace H := bc (by decide) H;replace H := bo (by decide) H;obtain ⟨_, e55, H⟩ := cZ H;obtain ⟨x56, x57, x58, e59, H⟩ := fi H;refine bq (by kernel_rfl) ?_;show AI _ _ _ _ _ 11 (Array.replicate 11 false) _;refine zk 1 rfl (ag (av := .pt _ _) rfl) ?_;show AI _ _ _ _ _ _ #[false, true, false, false, false, false, false, false, false, false, false] _;refine zk 2 rfl (am rfl) ?_;show AI _ _ _ _ _ _ #[false, true, true, false, false, false, false, false, false, false, false] _;refine zk 3 rfl (ah (n := 0) (by kernel_rfl) rfl) ?_;show AI _ _ _ _ _ _ #[false, true, true, true, false, false, false, false, false, false, false] _;refine zk 4 rfl (ah (n := 0) (by kernel_rfl) rfl) ?_;show AI _ _ _ _ _ _ #[false, true, true, true, true, false, false, false, false, false, false] _;refine zk 7 rfl (ag (av := .pt _ _) rfl) ?_;show AI _ _ _ _ _ _ #[false, true, true, true, true, false, false, true, false, false, false] _;refine zk 8 rfl (aY bm rfl (n := 5) (by kernel_rfl) rfl (ab rfl)) ?_;show AI _ _ _ _ _ _ #[false, true, true, true, true, false, false, true, true, false, false] _;refine cl (i := 0) (j := 5) (by kernel_rfl) rfl rfl rfl rfl ?_ ?_
     ·refine bO rfl cY rfl (cr F e55) ?_;show AI _ _ _ _ _ _ #[true, true, true, true, true, false, false, true, true, false, false] _;refine aE (i := 5) (by kernel_rfl) rfl rfl <| aI rfl (ai (i := 0) ar rfl rfl rfl rfl) ?_;show AI _ _ _ _ _ _ #[true, true, true, true, true, true, false, true, true, false, false] _;refine zk 6 rfl (bV (i := 4) (k := 1) (c := .v _) bk bA rfl (by kernel_rfl) rfl rfl rfl rfl) ?_;show AI _ _ _ _ _ _ #[true, true, true, true, true, true, true, true, true, false, false] _;refine aE (i := 9) (by kernel_rfl) rfl rfl <| cu [0, 0] rfl (.inr ⟨rfl, rfl, rfl⟩) nQ rfl (nv F o1 4 a3 a4 a5 a6 a7 a8 t9 a10 a11 a12 a13 a14 x56 x57 x58 e59) rfl (fun c A' h => by cases h.1) ?_
      rintro av A' ⟨h, t60, rfl⟩; cases h
      show AI _ _ _ _ _ _ #[true, true, true, true, true, true, true, true, true, true, false] _;refine zk 10 rfl (asg rfl) ?_;show AI _ _ _ _ _ _ #[true, true, true, true, true, true, true, true, true, true, true] _;refine ba rfl ?_;exact Exists.intro (x56, x57, a3, x58, t60) ⟨H, bh [0, 0] (.cons (.refl _) (.cons (.refl _) (.cons (.refl _) (.nil _)))) rfl⟩
     ·refine aI rfl (ai (i := 0) ar rfl rfl rfl rfl) ?_;show AI _ _ _ _ _ _ #[false, true, true, true, true, true, false, true, true, false, false] _;refine aE (i := 0) (by kernel_rfl) rfl rfl <| bO rfl cY rfl (cr F e55) ?_;show AI _ _ _ _ _ _ #[true, true, true, true, true, true, false, true, true, false, false] _;refine zk 6 rfl (bV (i := 4) (k := 1) (c := .v _) bk bA rfl (by kernel_rfl) rfl rfl rfl rfl) ?_;show AI _ _ _ _ _ _ #[true, true, true, true, true, true, true, true, true, false, false] _;refine aE (i := 9) (by kernel_rfl) rfl rfl <| cu [0, 0] rfl (.inr ⟨rfl, rfl, rfl⟩) nQ rfl (nv F o1 4 a3 a4 a5 a6 a7 a8 t9 a10 a11 a12 a13 a14 x56 x57 x58 e59) rfl (fun c A' h => by cases h.1) ?_
      rintro av A' ⟨h, t61, rfl⟩; cases h
      show AI _ _ _ _ _ _ #[true, true, true, true, true, true, true, true, true, true, false] _;refine zk 10 rfl (asg rfl) ?_;show AI _ _ _ _ _ _ #[true, true, true, true, true, true, true, true, true, true, true] _;refine ba rfl ?_;exact Exists.intro (x56, x57, a3, x58, t61) ⟨H, bh [0, 0] (.cons (.refl _) (.cons (.refl _) (.cons (.refl _) (.nil _)))) rfl⟩
    ·replace H := bc (by decide) H;replace H := bc (by decide) H;replace H := bc (by decide) H;replace H := bc (by decide) H;replace H := bc (by decide) H;replace H := bo (by decide) H;obtain ⟨_, e62, H⟩ := cZ H;obtain ⟨x63, x64, x65, x66, e67, H⟩ := bnd4_s H;refine bq (by kernel_rfl) ?_;show AI _ _ _ _ _ 11 (Array.replicate 11 false) _;refine zk 1 rfl (ag (av := .pt _ _) rfl) ?_;show AI _ _ _ _ _ _ #[false, true, false, false, false, false, false, false, false, false, false] _;refine zk 2 rfl (am rfl) ?_;show AI _ _ _ _ _ _ #[false, true, true, false, false, false, false, false, false, false, false] _;refine zk 3 rfl (ah (n := 0) (by kernel_rfl) rfl) ?_;show AI _ _ _ _ _ _ #[false, true, true, true, false, false, false, false, false, false, false] _;refine zk 4 rfl (ah (n := 0) (by kernel_rfl) rfl) ?_;show AI _ _ _ _ _ _ #[false, true, true, true, true, false, false, false, false, false, false] _;refine zk 7 rfl (ag (av := .pt _ _) rfl) ?_;show AI _ _ _ _ _ _ #[false, true, true, true, true, false, false, true, false, false, false] _;refine zk 8 rfl (aY bm rfl (n := 5) (by kernel_rfl) rfl (ab rfl)) ?_;show AI _ _ _ _ _ _ #[false, true, true, true, true, false, false, true, true, false, false] _;refine cl (i := 0) (j := 5) (by kernel_rfl) rfl rfl rfl rfl ?_ ?_
     ·refine bO rfl cY rfl (cr F e62) ?_;show AI _ _ _ _ _ _ #[true, true, true, true, true, false, false, true, true, false, false] _;refine aE (i := 5) (by kernel_rfl) rfl rfl <| aI rfl (ai (i := 0) ar rfl rfl rfl rfl) ?_;show AI _ _ _ _ _ _ #[true, true, true, true, true, true, false, true, true, false, false] _;refine zk 6 rfl (bV (i := 5) (k := 1) (c := .v _) bk bA rfl (by kernel_rfl) rfl rfl rfl rfl) ?_;show AI _ _ _ _ _ _ #[true, true, true, true, true, true, true, true, true, false, false] _;refine aE (i := 9) (by kernel_rfl) rfl rfl <| cu [0, 0] rfl (.inr ⟨rfl, rfl, rfl⟩) nP rfl (nw F o1 5 a3 a4 a5 a6 a7 a8 t9 a10 a11 a12 a13 a14 x63 x64 x65 x66 e67) rfl (fun c A' h => by cases h.1) ?_
      rintro av A' ⟨h, t68, rfl⟩; cases h
      show AI _ _ _ _ _ _ #[true, true, true, true, true, true, true, true, true, true, false] _;refine zk 10 rfl (asg rfl) ?_;show AI _ _ _ _ _ _ #[true, true, true, true, true, true, true, true, true, true, true] _;refine ba rfl ?_;exact Exists.intro (x63, x64, x65, x66, t68) ⟨H, bh [0, 0] (.cons (.refl _) (.cons (.refl _) (.cons (.refl _) (.nil _)))) rfl⟩
     ·refine aI rfl (ai (i := 0) ar rfl rfl rfl rfl) ?_;show AI _ _ _ _ _ _ #[false, true, true, true, true, true, false, true, true, false, false] _;refine aE (i := 0) (by kernel_rfl) rfl rfl <| bO rfl cY rfl (cr F e62) ?_;show AI _ _ _ _ _ _ #[true, true, true, true, true, true, false, true, true, false, false] _;refine zk 6 rfl (bV (i := 5) (k := 1) (c := .v _) bk bA rfl (by kernel_rfl) rfl rfl rfl rfl) ?_;show AI _ _ _ _ _ _ #[true, true, true, true, true, true, true, true, true, false, false] _;refine aE (i := 9) (by kernel_rfl) rfl rfl <| cu [0, 0] rfl (.inr ⟨rfl, rfl, rfl⟩) nP rfl (nw F o1 5 a3 a4 a5 a6 a7 a8 t9 a10 a11 a12 a13 a14 x63 x64 x65 x66 e67) rfl (fun c A' h => by cases h.1) ?_
      rintro av A' ⟨h, t69, rfl⟩; cases h
      show AI _ _ _ _ _ _ #[true, true, true, true, true, true, true, true, true, true, false] _;refine zk 10 rfl (asg rfl) ?_;show AI _ _ _ _ _ _ #[true, true, true, true, true, true, true, true, true, true, true] _;refine ba rfl ?_;exact Exists.intro (x63, x64, x65, x66, t69) ⟨H, bh [0, 0] (.cons (.refl _) (.cons (.refl _) (.cons (.refl _) (.nil _)))) rfl⟩
    ·replace H := bc (by decide) H;replace H := bc (by decide) H;replace H := bc (by decide) H;replace H := bc (by decide) H;replace H := bc (by decide) H;replace H := bc (by decide) H;obtain ⟨_, e70, H⟩ := cZ H;obtain ⟨x71, x72, e73, H⟩ := dq H;refine bq (by kernel_rfl) ?_;show AI _ _ _ _ _ 11 (Array.replicate 11 false) _;refine zk 1 rfl (ag (av := .pt _ _) rfl) ?_;show AI _ _ _ _ _ _ #[false, true, false, false, false, false, false, false, false, false, false] _;refine zk 2 rfl (am rfl) ?_;show AI _ _ _ _ _ _ #[false, true, true, false, false, false, false, false, false, false, false] _;refine zk 3 rfl (ah (n := 0) (by kernel_rfl) rfl) ?_;show AI _ _ _ _ _ _ #[false, true, true, true, false, false, false, false, false, false, false] _;refine zk 4 rfl (ah (n := 0) (by kernel_rfl) rfl) ?_;show AI _ _ _ _ _ _ #[false, true, true, true, true, false, false, false, false, false, false] _;refine zk 7 rfl (ag (av := .pt _ _) rfl) ?_;show AI _ _ _ _ _ _ #[false, true, true, true, true, false, false, true, false, false, false] _;refine zk 8 rfl (aY bm rfl (n := 5) (by kernel_rfl) rfl (ab rfl)) ?_;show AI _ _ _ _ _ _ #[false, true, true, true, true, false, false, true, true, false, false] _;refine cl (i := 0) (j := 5) (by kernel_rfl) rfl rfl rfl rfl ?_ ?_
     ·refine bO rfl cY rfl (cr F e70) ?_;show AI _ _ _ _ _ _ #[true, true, true, true, true, false, false, true, true, false, false] _;refine aE (i := 5) (by kernel_rfl) rfl rfl <| aI rfl (ai (i := 0) ar rfl rfl rfl rfl) ?_;show AI _ _ _ _ _ _ #[true, true, true, true, true, true, false, true, true, false, false] _;refine zk 6 rfl (bV (i := 6) (k := 1) (c := .v _) bk bA rfl (by kernel_rfl) rfl rfl rfl rfl) ?_;show AI _ _ _ _ _ _ #[true, true, true, true, true, true, true, true, true, false, false] _;refine aE (i := 9) (by kernel_rfl) rfl rfl <| cu [0, 0] rfl (.inr ⟨rfl, rfl, rfl⟩) nN rfl (nt F o1 6 a3 a4 a5 a6 a7 a8 t9 a10 a11 a12 a13 a14 x71 x72 e73) rfl (fun c A' h => by cases h.1) ?_
      rintro av A' ⟨h, rfl⟩; cases h
      show AI _ _ _ _ _ _ #[true, true, true, true, true, true, true, true, true, true, false] _;refine zk 10 rfl (asg rfl) ?_;show AI _ _ _ _ _ _ #[true, true, true, true, true, true, true, true, true, true, true] _;refine ba rfl ?_;exact Exists.intro (x71, x72, a3, a8, t9) ⟨H, bh [0, 0] (.cons (.refl _) (.cons (.refl _) (.cons (.refl _) (.nil _)))) rfl⟩
     ·refine aI rfl (ai (i := 0) ar rfl rfl rfl rfl) ?_;show AI _ _ _ _ _ _ #[false, true, true, true, true, true, false, true, true, false, false] _;refine aE (i := 0) (by kernel_rfl) rfl rfl <| bO rfl cY rfl (cr F e70) ?_;show AI _ _ _ _ _ _ #[true, true, true, true, true, true, false, true, true, false, false] _;refine zk 6 rfl (bV (i := 6) (k := 1) (c := .v _) bk bA rfl (by kernel_rfl) rfl rfl rfl rfl) ?_;show AI _ _ _ _ _ _ #[true, true, true, true, true, true, true, true, true, false, false] _;refine aE (i := 9) (by kernel_rfl) rfl rfl <| cu [0, 0] rfl (.inr ⟨rfl, rfl, rfl⟩) nN rfl (nt F o1 6 a3 a4 a5 a6 a7 a8 t9 a10 a11 a12 a13 a14 x71 x72 e73) rfl (fun c A' h => by cases h.1) ?_
      rintro av A' ⟨h, rfl⟩; cases h
      show AI _ _ _ _ _ _ #[true, true, true, true, true, true, true, true, true, true, false] _;refine zk 10 rfl (asg rfl) ?_;show AI _ _ _ _ _ _ #[true, true, true, true, true, true, true, true, true, true, true] _;refine ba rfl ?_;exact Exists.intro (x71, x72, a3, a8, t9) ⟨H, bh [0, 0] (.cons (.refl _) (.cons (.refl _) (.cons (.refl _) (.nil _)))) rfl⟩
   rintro ⟨y74, y75, y76, y77, t78⟩ H;replace H : cF F a4 a5 a6 a7 a10 y74 y75 y76 y77 = some (r15, r16, r17) := H
   unfold cF at H
   refine aG rfl (fun c80 => ?_) (fun c80 => ?_)
   ·replace H := bo c80 H;refine aM ?_;obtain ⟨rfl, rfl, rfl⟩ := gn H;exact And.intro rfl (Exists.intro _ (Exists.intro _ ⟨aZ rfl, aK [0, 0] rfl, rfl, t78, rfl⟩))
   ·replace H := bc c80 H;refine aj <| ac ?_;show AR _ _ _ _ _ [0, 1, 2, 3, 4, 5, 6, 7, 8] _;refine zS rfl (aO (n := 0) (by kernel_rfl) rfl (ab rfl)) <| zS rfl (aL ar rfl rfl) <| zS rfl (fh rfl rfl) <| zm rfl <| aN (l := [8]) 46 (B ((decide (500 ≤ a10)) && (decide (a10 ≤ 599)))) (fun K => ?_) ?_
    ·rcases af (decide (500 ≤ a10)) with h81 | h81
     ·refine zU h81 rfl (aO (n := 0) (by kernel_rfl) rfl (ab rfl)) <| zU h81 rfl (aL ar rfl rfl) <| zU h81 rfl (dD rfl rfl) <| zS rfl (az (av := .v _) rfl h81 rfl) ?_;exact K _ 3 _ (aq (ca h81)) rfl rfl
     ·refine zF h81 rfl <| zF h81 rfl <| zF h81 rfl <| zS rfl (aw (av := .v _) rfl h81 rfl) ?_;exact K _ 3 _ (aq (cb h81)) rfl rfl
    refine za rfl <| al <| aG rfl (fun c82 => ?_) (fun c82 => ?_)
    ·replace H := bo c82 H;obtain ⟨x83, x84, x85, e86, H⟩ := fi H;refine ac ?_;show AR _ _ _ _ _ [0, 1] _;refine zS rfl (ag (av := .pt _ _) rfl) <| an rfl rfl (bM [0, 0] rfl jr rfl (jk F o1 y75 y76 a4 a5 a6 a7 y77 t78 3 x83 x84 x85 e86) rfl (fun c A' h => by cases h.1) ?_)
     rintro av A' ⟨h, t87, rfl⟩; cases h
     refine al ?_;obtain ⟨rfl, rfl, rfl⟩ := gn H;exact And.intro rfl (Exists.intro _ (Exists.intro _ ⟨aZ rfl, aK [0, 0] rfl, rfl, t87, rfl⟩))
    ·replace H := bc c82 H;obtain ⟨x88, x89, x90, e91, H⟩ := fi H;refine ac ?_;show AR _ _ _ _ _ [0, 1] _;refine zS rfl (ag (av := .pt _ _) rfl) <| an rfl rfl (bM [0, 0] rfl jr rfl (jk F o1 y75 y76 a4 a5 a6 a7 y77 t78 2 x88 x89 x90 e91) rfl (fun c A' h => by cases h.1) ?_)
     rintro av A' ⟨h, t92, rfl⟩; cases h
     refine al ?_;obtain ⟨rfl, rfl, rfl⟩ := gn H;exact And.intro rfl (Exists.intro _ (Exists.intro _ ⟨aZ rfl, aK [0, 0] rfl, rfl, t92, rfl⟩))
set_option maxRecDepth 100000 in
set_option maxHeartbeats 1000000 in
theorem jU (F : Nat) (a1 : Int) (a2 : Int) (a3 : List UInt8) (a4 : List UInt8) (a5 : List UInt8) (a6 : List UInt8) (H : gc F a1 a2 a3 a4 a5 a6 = some ()) : ACalls Tryz.prog 34 [.agg [i64 a1, i64 a2, S a3, S a4, S a5, slE Enc.byte a6 none]] [] (fun e A' => ∃ ob1 : Nat, e = .ret (.pt ob1 0) ∧ A' = [.obj ob1 [i64 a1, i64 a2, S a3, S a4, S a5, slE Enc.byte a6 none, fE]]) := by
 unfold gc at H
 refine ax Tryz.func34 rfl rfl ?_;show AW _ _ 10 _ _ _;refine aj <| ac ?_;show AR _ _ _ _ _ [0, 1] _;refine zX rfl (jC rfl (.inr ⟨_, rfl⟩)) ?_;rintro _ _ ⟨o7, rfl, rfl⟩;refine za rfl <| al <| aj ?_;obtain ⟨g8, H⟩ := bb H;refine ac ?_;show AR _ _ _ _ _ [0, 1, 2, 3, 4] _;refine zS rfl (ah (n := 5) (by kernel_rfl) rfl) <| zR rfl (ai (i := 0) aa rfl rfl rfl rfl) <| an rfl rfl (aQ rfl oa rfl (iY a6 none (dE g8)) ?_);refine zS rfl (ah (n := 5) (by kernel_rfl) rfl) <| s0 rfl rfl (ap (i := 0) (c := slE _ _ _) (by kernel_rfl) rfl rfl rfl rfl (ab rfl)) <| al <| aj <| ac ?_;show AR _ _ _ _ _ [0, 1, 2, 3] _;refine zR rfl (bU (i := 0) (n := 6) aJ rfl (by kernel_rfl) rfl rfl (ab rfl)) <| zS rfl (jD (zs := [.int .i64 0, .int .i64 0, .string ⟨#[]⟩, .string ⟨#[]⟩, .string ⟨#[]⟩, .slice none 0 0, .slice none 0 0]) (ps := [(0, 6), (6, 1)]) (cs := [i64 a1, i64 a2, S a3, S a4, S a5, slE Enc.byte a6 none, fE]) (by kernel_rfl) rfl rfl) <| zX rfl (jC rfl (.inr ⟨_, rfl⟩)) ?_;rintro _ _ ⟨o9, rfl, rfl⟩;refine zS rfl (ay (av := .pt _ _) rfl) <| al <| aU ?_;exact And.intro rfl (Exists.intro _ (Exists.intro _ ⟨aV rfl (.refl _), aK [0] rfl, o9, rfl, rfl⟩))
set_option maxRecDepth 100000 in
set_option maxHeartbeats 1000000 in
theorem re (F : Nat) (a1 : Int) (a2 : Int) (a3 : List UInt8) (a4 : List UInt8) (a5 : List UInt8) (a6 : List UInt8) (a7 : Int) (a8 : List (List UInt8)) (a9 : Int) (a10 : Int) (a11 : Int) (r12 : Int) (r13 : Int) (r14 : List UInt8) (r15 : List UInt8) (r16 : List UInt8) (r17 : List UInt8) (r18 : List UInt8) (H : kX F a1 a2 a3 a4 a5 a6 a7 a8 a9 a10 a11 = some (r12, r13, r14, r15, r16, r17, r18)) : ACalls Tryz.prog 18 [.agg [i64 a1, i64 a2, S a3, S a4, S a5, slE Enc.byte a6 none], .agg [i64 a7, slE Enc.str a8 none, i64 a9, i64 a10, i64 a11]] [] (Ret (.tup [.agg [i64 r12, i64 r13, S r14, S r15, S r16, slE Enc.byte r17 none], slE Enc.byte r18 none]) []) := by
 unfold kX at H
 refine ax Tryz.func18 rfl rfl ?_;show AW _ _ 20 _ _ _;refine aj <| ac ?_;show AR _ _ _ _ _ [0, 1, 2, 3] _;refine zR rfl (cm rfl (.inr ⟨_, rfl⟩)) <| zR rfl (cm rfl (.inr ⟨_, rfl⟩)) <| zX rfl (bN (zs := [.int .i64 0, .int .i64 0, .string ⟨#[]⟩, .string ⟨#[]⟩, .string ⟨#[]⟩, .slice none 0 0]) (by kernel_rfl)) ?_;rintro _ _ ⟨o19, rfl, rfl⟩;refine za rfl <| al <| aj ?_;obtain ⟨_, e20, H⟩ := cZ H;refine ac ?_;show AR _ _ _ _ _ [0, 1, 2] _;refine zS rfl (aY aJ rfl (n := 6) (by kernel_rfl) rfl (ab rfl)) <| an rfl rfl (bM [] rfl lr rfl (jU F a1 a2 a3 a4 a5 a6 e20) rfl (fun c A' h => by obtain ⟨_, h, _⟩ := h; cases h) ?_)
 rintro av A' ⟨o21, h, rfl⟩; cases h
 refine zS rfl (ay (av := .pt _ _) rfl) <| al <| aj ?_;obtain ⟨x23, x24, x25, e26, H⟩ := fi H;refine ac ?_;show AR _ _ _ _ _ [0, 1, 2] _;refine zS rfl (ag (av := .pt _ _) rfl) <| zS rfl (aY bm rfl (n := 5) (by kernel_rfl) rfl (ab rfl)) ?_
 refine AR.nil_objAt 0 6 1 5 rfl rfl fun t22 => ?_
 show AR _ _ _ _ _ _ ⟨_, _, [.tok t22 5, .obj o21 [i64 a1, i64 a2, S a3, S a4, S a5, slE Enc.byte a6 none, slE Enc.byte [] (some t22)], .obj o19 [i64 0, i64 0, S ([] : List UInt8), S ([] : List UInt8), S ([] : List UInt8), fE]]⟩;refine an rfl rfl (bM [1, 0] rfl nZ rfl (nr F o21 a1 a2 a3 a4 a5 a6 [] t22 a7 a8 a9 a10 a11 x23 x24 x25 e26) rfl (fun c A' h => by cases h.1) ?_)
 rintro av A' ⟨h, t27, rfl⟩; cases h
 refine al <| aj <| bq (by kernel_rfl) ?_;show AI _ _ _ _ _ 10 (Array.replicate 10 false) _;refine zk 0 rfl (ag (av := .pt _ _) rfl) ?_;show AI _ _ _ _ _ _ #[true, false, false, false, false, false, false, false, false, false] _;refine zk 1 rfl (am rfl) ?_;show AI _ _ _ _ _ _ #[true, true, false, false, false, false, false, false, false, false] _;refine zk 2 rfl (ah (n := 0) (by kernel_rfl) rfl) ?_;show AI _ _ _ _ _ _ #[true, true, true, false, false, false, false, false, false, false] _;refine zk 4 rfl (ag (av := .pt _ _) rfl) ?_;show AI _ _ _ _ _ _ #[true, true, true, false, true, false, false, false, false, false] _;refine zk 5 rfl (am rfl) ?_;show AI _ _ _ _ _ _ #[true, true, true, false, true, true, false, false, false, false] _;refine zk 6 rfl (ah (n := 6) (by kernel_rfl) rfl) ?_;show AI _ _ _ _ _ _ #[true, true, true, false, true, true, true, false, false, false] _;refine cl (i := 3) (j := 7) (by kernel_rfl) rfl rfl rfl rfl ?_ ?_
 ·refine aI rfl (bU (i := 0) (n := 6) aJ rfl (by kernel_rfl) rfl rfl (ab rfl)) ?_;show AI _ _ _ _ _ _ #[true, true, true, true, true, true, true, false, false, false] _;refine cl (i := 7) (j := 8) (by kernel_rfl) rfl rfl rfl rfl ?_ ?_
  ·refine aI rfl (ai (i := 0) aa rfl rfl rfl rfl) ?_;show AI _ _ _ _ _ _ #[true, true, true, true, true, true, true, true, false, false] _;refine aE (i := 8) (by kernel_rfl) rfl rfl <| bL (aP (i := 2) (vs := [i64 x23, i64 x24, S a3, S a4, S a5, slE Enc.byte a6 none]) (by kernel_rfl) rfl rfl (by simp [br, slE]) rfl (ab rfl)) ?_;show AI _ _ _ _ _ _ #[true, true, true, true, true, true, true, true, true, false] _;refine zk 9 rfl (ay (av := slE _ _ _) rfl) ?_;show AI _ _ _ _ _ _ #[true, true, true, true, true, true, true, true, true, true] _;refine ba rfl <| aU ?_;obtain ⟨rfl, rfl, rfl, rfl, rfl, rfl, rfl⟩ := res7 H;exact And.intro rfl (Exists.intro _ (Exists.intro _ ⟨di (dM rfl (dk (off := 0) (cs := [i64 x23, i64 x24, S a3, S a4, S a5, slE Enc.byte a6 none]) (n := 6) 2 aJ rfl (by kernel_rfl) rfl rfl (ab rfl)) ((show PlaceV _ _ _ (.tmp _) _ from (.tok _ _ _)))), aK [] rfl, rfl, rfl⟩))
  ·refine bL (aP (i := 2) (vs := [i64 x23, i64 x24, S a3, S a4, S a5, slE Enc.byte a6 none]) (by kernel_rfl) rfl rfl (by simp [br, slE]) rfl (ab rfl)) ?_;show AI _ _ _ _ _ _ #[true, true, true, true, true, true, true, false, true, false] _;refine aE (i := 7) (by kernel_rfl) rfl rfl <| aI rfl (ai (i := 0) aa rfl rfl rfl rfl) ?_;show AI _ _ _ _ _ _ #[true, true, true, true, true, true, true, true, true, false] _;refine zk 9 rfl (ay (av := slE _ _ _) rfl) ?_;show AI _ _ _ _ _ _ #[true, true, true, true, true, true, true, true, true, true] _;refine ba rfl <| aU ?_;obtain ⟨rfl, rfl, rfl, rfl, rfl, rfl, rfl⟩ := res7 H;exact And.intro rfl (Exists.intro _ (Exists.intro _ ⟨di (dM rfl (dk (off := 0) (cs := [i64 x23, i64 x24, S a3, S a4, S a5, slE Enc.byte a6 none]) (n := 6) 2 aJ rfl (by kernel_rfl) rfl rfl (ab rfl)) ((show PlaceV _ _ _ (.tmp _) _ from (.tok _ _ _)))), aK [] rfl, rfl, rfl⟩))
 ·refine aI rfl (ai (i := 0) aa rfl rfl rfl rfl) ?_;show AI _ _ _ _ _ _ #[true, true, true, false, true, true, true, true, false, false] _;refine aE (i := 3) (by kernel_rfl) rfl rfl <| aI rfl (bU (i := 0) (n := 6) aJ rfl (by kernel_rfl) rfl rfl (ab rfl)) ?_;show AI _ _ _ _ _ _ #[true, true, true, true, true, true, true, true, false, false] _;refine aE (i := 8) (by kernel_rfl) rfl rfl <| bL (aP (i := 2) (vs := [i64 x23, i64 x24, S a3, S a4, S a5, slE Enc.byte a6 none]) (by kernel_rfl) rfl rfl (by simp [br, slE]) rfl (ab rfl)) ?_;show AI _ _ _ _ _ _ #[true, true, true, true, true, true, true, true, true, false] _;refine zk 9 rfl (ay (av := slE _ _ _) rfl) ?_;show AI _ _ _ _ _ _ #[true, true, true, true, true, true, true, true, true, true] _;refine ba rfl <| aU ?_;obtain ⟨rfl, rfl, rfl, rfl, rfl, rfl, rfl⟩ := res7 H;exact And.intro rfl (Exists.intro _ (Exists.intro _ ⟨di (dM rfl (dk (off := 0) (cs := [i64 x23, i64 x24, S a3, S a4, S a5, slE Enc.byte a6 none]) (n := 6) 2 aJ rfl (by kernel_rfl) rfl rfl (ab rfl)) ((show PlaceV _ _ _ (.tmp _) _ from (.tok _ _ _)))), aK [] rfl, rfl, rfl⟩))
set_option maxRecDepth 100000 in
set_option maxHeartbeats 1000000 in
theorem rg (F : Nat) (a1 : Int) (a2 : Int) (a3 : List UInt8) (a4 : List UInt8) (a5 : List UInt8) (a6 : List UInt8) (r7 : Int) (r8 : Int) (r9 : List UInt8) (r10 : List UInt8) (r11 : List UInt8) (r12 : List UInt8) (H : kZ F a1 a2 a3 a4 a5 a6 = some (r7, r8, r9, r10, r11, r12)) : ACalls Tryz.prog 20 [.agg [i64 a1, i64 a2, S a3, S a4, S a5, slE Enc.byte a6 none]] [] (Ret (.agg [i64 r7, i64 r8, S r9, S r10, S r11, slE Enc.byte r12 none]) []) := by
 unfold kZ at H
 refine ax Tryz.func20 rfl rfl ?_;show AW _ _ 12 _ _ _;refine aj <| ac ?_;show AR _ _ _ _ _ [0, 1] _;refine zR rfl (cm rfl (.inr ⟨_, rfl⟩)) <| zX rfl (bN (zs := [.int .i64 0, .int .i64 0, .string ⟨#[]⟩, .string ⟨#[]⟩, .string ⟨#[]⟩, .slice none 0 0]) (by kernel_rfl)) ?_;rintro _ _ ⟨o13, rfl, rfl⟩;refine al <| aj ?_;obtain ⟨_, e14, H⟩ := cZ H;refine ac ?_;show AR _ _ _ _ _ [0, 1, 2] _;refine zS rfl (aY aJ rfl (n := 6) (by kernel_rfl) rfl (ab rfl)) <| an rfl rfl (bM [] rfl lr rfl (jU F a1 a2 a3 a4 a5 a6 e14) rfl (fun c A' h => by obtain ⟨_, h, _⟩ := h; cases h) ?_)
 rintro av A' ⟨o15, h, rfl⟩; cases h
 refine zS rfl (ay (av := .pt _ _) rfl) <| al <| aj ?_;obtain ⟨x17, x18, e19, H⟩ := dq H;refine ac ?_;show AR _ _ _ _ _ [0, 1] _;refine zS rfl (ag (av := .pt _ _) rfl) ?_
 refine AR.nil_objAt 0 6 1 5 rfl rfl fun t16 => ?_
 show AR _ _ _ _ _ _ ⟨_, _, [.tok t16 5, .obj o15 [i64 a1, i64 a2, S a3, S a4, S a5, slE Enc.byte a6 none, slE Enc.byte [] (some t16)], .obj o13 [i64 0, i64 0, S ([] : List UInt8), S ([] : List UInt8), S ([] : List UInt8), fE]]⟩;refine an rfl rfl (bM [1, 0] rfl lq rfl (li F o15 a1 a2 a3 a4 a5 a6 [] t16 x17 x18 e19) rfl (fun c A' h => by cases h.1) ?_)
 rintro av A' ⟨h, rfl⟩; cases h
 refine al <| aj <| ac ?_;show AR _ _ _ _ _ [0, 1, 2, 3, 4] _;refine zS rfl (ag (av := .pt _ _) rfl) <| zS rfl (am rfl) <| zS rfl (ah (n := 0) (by kernel_rfl) rfl) <| zR rfl (bU (i := 0) (n := 6) aJ rfl (by kernel_rfl) rfl rfl (ab rfl)) <| s0 rfl rfl (aP (i := 2) (vs := [i64 x17, i64 x18, S a3, S a4, S a5, slE Enc.byte a6 none]) (by kernel_rfl) rfl rfl (by simp [br, slE]) rfl (ab rfl)) <| al <| aU ?_;obtain ⟨rfl, rfl, rfl, rfl, rfl, rfl⟩ := res6 H;exact And.intro rfl (Exists.intro _ (Exists.intro _ ⟨di (dN rfl (dk (off := 0) (cs := [i64 x17, i64 x18, S a3, S a4, S a5, slE Enc.byte a6 none]) (n := 6) 2 aJ rfl (by kernel_rfl) rfl rfl (ab rfl))), aK [] rfl, rfl, rfl⟩))
set_option maxRecDepth 100000 in
set_option maxHeartbeats 1000000 in
theorem gJ (F : Nat) (a1 : Int) (a2 : Int) (a3 : List UInt8) (a4 : List UInt8) (a5 : List UInt8) (a6 : List UInt8) (a7 : List UInt8) (q8 : Option Nat) (r9 : Int) (r10 : Int) (r11 : List UInt8) (r12 : List UInt8) (r13 : List UInt8) (r14 : List UInt8) (r15 : List UInt8) (H : lK F a1 a2 a3 a4 a5 a6 a7 = some (r9, r10, r11, r12, r13, r14, r15)) : ACalls Tryz.prog 15 [.agg [i64 a1, i64 a2, S a3, S a4, S a5, slE Enc.byte a6 none], slE Enc.byte a7 q8] [] (Ret (.tup [.agg [i64 r9, i64 r10, S r11, S r12, S r13, slE Enc.byte r14 none], slE Enc.byte r15 none]) []) := by
 unfold lK at H
 refine ax Tryz.func15 rfl rfl ?_;show AW _ _ 39 _ _ _;refine aj <| ac ?_;show AR _ _ _ _ _ [0, 1, 2] _;refine zR rfl (cm rfl (.inr ⟨_, rfl⟩)) <| zX rfl (bN (zs := [.int .i64 0, .int .i64 0, .string ⟨#[]⟩, .string ⟨#[]⟩, .string ⟨#[]⟩, .slice none 0 0]) (by kernel_rfl)) ?_;rintro _ _ ⟨o16, rfl, rfl⟩;refine za rfl <| al <| aj ?_;obtain ⟨_, e17, H⟩ := cZ H;refine ac ?_;show AR _ _ _ _ _ [0, 1, 2] _;refine zS rfl (aY aJ rfl (n := 6) (by kernel_rfl) rfl (ab rfl)) <| an rfl rfl (bM [] rfl lr rfl (jU F a1 a2 a3 a4 a5 a6 e17) rfl (fun c A' h => by obtain ⟨_, h, _⟩ := h; cases h) ?_)
 rintro av A' ⟨o18, h, rfl⟩; cases h
 refine zS rfl (ay (av := .pt _ _) rfl) <| al ?_
 refine AW.nil_objAt 0 6 1 5 rfl rfl fun t19 => ?_
 show AW _ _ _ _ _ ⟨_, _, [.tok t19 5, .obj o18 [i64 a1, i64 a2, S a3, S a4, S a5, slE Enc.byte a6 none, slE Enc.byte [] (some t19)], .obj o16 [i64 0, i64 0, S ([] : List UInt8), S ([] : List UInt8), S ([] : List UInt8), fE]]⟩;refine ck (X := Int × Int × (List UInt8) × Nat) (fun (y46, y47, y48, t49) => ⟨[(4, .pt o16 0), (6, .pt o18 0)], [], [.obj o18 [i64 y46, i64 y47, S a3, S a4, S a5, slE Enc.byte a6 none, slE Enc.byte y48 (some t49)], .obj o16 [i64 0, i64 0, S ([] : List UInt8), S ([] : List UInt8), S ([] : List UInt8), fE], .tok t49 5]⟩) (fun (y46, y47, y48, t49) => ik F a3 a4 a5 a6 y46 y47 y48 = some (r9, r10, r11, r12, r13, r14, r15)) ?_ ?_
 ·refine aj ?_;obtain ⟨_, e20, H⟩ := cZ H;obtain ⟨x23, x24, x25, e26, H⟩ := fi H;refine ac ?_;show AR _ _ _ _ _ [0, 1, 2, 3, 4] _;refine an rfl rfl (bM [] rfl rO rfl (np F e20) rfl (fun c A' h => by obtain ⟨_, h, _⟩ := h; cases h) ?_)
  rintro av A' ⟨o21, h, rfl⟩; cases h
  refine zS rfl (ag (av := slE _ _ _) rfl) ?_
  refine AR.nil_objAt 0 0 1 5 rfl rfl fun t22 => ?_
  show AR _ _ _ _ _ _ ⟨_, _, [.tok t22 5, .obj o21 [slE Enc.byte [] (some t22), B false], .tok t19 5, .obj o18 [i64 a1, i64 a2, S a3, S a4, S a5, slE Enc.byte a6 none, slE Enc.byte [] (some t19)], .obj o16 [i64 0, i64 0, S ([] : List UInt8), S ([] : List UInt8), S ([] : List UInt8), fE]]⟩;refine an rfl rfl (bM [1, 0] rfl rM rfl (nl F o21 [] t22 false a7 q8 x23 x24 x25 e26) rfl (fun c A' h => by cases h.1) ?_)
  rintro av A' ⟨h, t27, rfl⟩; cases h
  refine zS rfl (aW bl rfl) <| zm rfl <| al <| bx <| AW.loop (X := Nat × Int × Int × Int × (List UInt8) × Nat) (fun (n34, y28, y29, y30, y31, t32) => ⟨[(4, .pt o16 0), (6, .pt o18 0), (13, slE (au Enc.int (au (Enc.sl Enc.str) (au Enc.int (au Enc.int Enc.int)))) x23 none), (14, i64 (x23.length : Int)), (15, i64 y28)], [], [.obj o18 [i64 y29, i64 y30, S a3, S a4, S a5, slE Enc.byte a6 none, slE Enc.byte y31 (some t32)], .obj o16 [i64 0, i64 0, S ([] : List UInt8), S ([] : List UInt8), S ([] : List UInt8), fE], .tok t32 5]⟩) (fun (n34, y28, y29, y30, y31, t32) => il F a3 a4 a5 a6 x23 n34 (y28, y29, y30, y31) = some (r9, r10, r11, r12, r13, r14, r15)) (fun (n34, y28, y29, y30, y31, t32) => n34) (F, 0, a1, a2, [], t19) H (bh [3, 3, 2] (.cons (.refl _) (.cons (.refl _) (.cons (.refl _) (.cons (.refl _) (.cons (.refl _) (.nil _)))))) rfl) ?_;rintro ⟨n34, y28, y29, y30, y31, t32⟩ H;obtain ⟨n34, rfl, H⟩ := gj H;replace H : im F a3 a4 a5 a6 x23 (il F a3 a4 a5 a6 x23 n34) y28 y29 y30 y31 = some (r9, r10, r11, r12, r13, r14, r15) := H
  unfold im at H
  refine aj <| ac ?_;show AR _ _ _ _ _ [0] _;refine zS rfl (ct rfl rfl) <| al <| aj <| aG rfl (fun c35 => ?_) (fun c35 => ?_)
  ·replace H := bo c35 H;refine aM <| aj <| bx <| aj ?_;obtain ⟨g36, H⟩ := bb H;obtain ⟨x37, e38, H⟩ := cE H;refine ac ?_;show AR _ _ _ _ _ [0, 1, 2, 3] _;refine zS rfl (dt (E := (au Enc.int (au (Enc.sl Enc.str) (au Enc.int (au Enc.int Enc.int))))) bl (by kernel_rfl) rfl rfl g36 e38) <| zS rfl (aY bm rfl (n := 5) (by kernel_rfl) rfl (ab rfl)) <| zX rfl (bN (zs := [.int .i64 0, .slice none 0 0, .int .i64 0, .int .i64 0, .int .i64 0]) (by kernel_rfl)) ?_;rintro _ _ ⟨o39, rfl, rfl⟩;refine s0 rfl rfl (aP (i := 0) (vs := [i64 x37.1, slE Enc.str x37.2.1 none, i64 x37.2.2.1, i64 x37.2.2.2.1, i64 x37.2.2.2.2]) (by kernel_rfl) rfl rfl (by simp [br, slE]) rfl (ab rfl)) <| AR.freezeCp 8 0 rfl rfl ?_;show AR _ _ _ _ _ _ ⟨_, _, [.obj o18 [i64 y29, i64 y30, S a3, S a4, S a5, slE Enc.byte a6 none, slE Enc.byte y31 (some t32)], .obj o16 [i64 0, i64 0, S ([] : List UInt8), S ([] : List UInt8), S ([] : List UInt8), fE], .tok t32 5]⟩;refine al ?_;obtain ⟨x40, x41, x42, e43, H⟩ := fi H;refine ac ?_;show AR _ _ _ _ _ [0, 1, 2] _;refine zS rfl (ag (av := .pt _ _) rfl) <| zS rfl (aY bm rfl (n := 5) (by kernel_rfl) rfl (ab rfl)) <| an rfl rfl (bM [0, 1] rfl nZ rfl (nr F o18 y29 y30 a3 a4 a5 a6 y31 t32 x37.1 x37.2.1 x37.2.2.1 x37.2.2.2.1 x37.2.2.2.2 x40 x41 x42 e43) rfl (fun c A' h => by cases h.1) ?_)
   rintro av A' ⟨h, t44, rfl⟩; cases h
   refine al ?_;obtain ⟨g45, H⟩ := bb H;refine ac ?_;show AR _ _ _ _ _ [0, 1] _;refine zS rfl (fZ rfl rfl g45) <| zm rfl <| al ?_;exact Exists.intro (n34, y28 + 1, x40, x41, x42, t44) ⟨H, Nat.lt_succ_self _, bh [0, 1, 0] (.cons (.refl _) (.cons (.refl _) (.cons (.refl _) (.cons (.refl _) (.cons (.refl _) (.nil _)))))) rfl⟩
  ·replace H := bc c35 H;refine AW.exit ?_;exact Exists.intro (y29, y30, y31, t32) ⟨H, bh [0, 0, 0] (.cons (.refl _) (.cons (.refl _) (.nil _))) rfl⟩
 rintro ⟨y46, y47, y48, t49⟩ H;replace H : ik F a3 a4 a5 a6 y46 y47 y48 = some (r9, r10, r11, r12, r13, r14, r15) := H
 unfold ik at H
 refine ck (X := Int × Int) (fun (y55, y56) => ⟨[(4, .pt o16 0), (6, .pt o18 0)], [], [.obj o18 [i64 y55, i64 y56, S a3, S a4, S a5, slE Enc.byte a6 none, slE Enc.byte y48 (some t49)], .obj o16 [i64 0, i64 0, S ([] : List UInt8), S ([] : List UInt8), S ([] : List UInt8), fE], .tok t49 5]⟩) (fun (y55, y56) => gz a3 a4 a5 a6 y48 y55 y56 = some (r9, r10, r11, r12, r13, r14, r15)) ?_ ?_
 ·refine aj <| ac ?_;show AR _ _ _ _ _ [0, 1, 2, 3, 4, 5] _;refine zS rfl (ag (av := .pt _ _) rfl) <| zS rfl (am rfl) <| zS rfl (ah (n := 0) (by kernel_rfl) rfl) <| zS rfl (ah (n := 0) (by kernel_rfl) rfl) <| zR rfl (ai (i := 0) ar rfl rfl rfl rfl) <| zS rfl (eP rfl rfl) <| al <| aG rfl (fun c51 => ?_) (fun c51 => ?_)
  ·replace H := bo c51 H;obtain ⟨x52, x53, e54, H⟩ := dq H;refine ac ?_;show AR _ _ _ _ _ [0, 1] _;refine zS rfl (ag (av := .pt _ _) rfl) <| an rfl rfl (bM [0, 1] rfl lq rfl (li F o18 y46 y47 a3 a4 a5 a6 y48 t49 x52 x53 e54) rfl (fun c A' h => by cases h.1) ?_)
   rintro av A' ⟨h, rfl⟩; cases h
   refine al ?_;exact Exists.intro (x52, x53) ⟨H, bh [0, 1, 0] (.cons (.refl _) (.cons (.refl _) (.nil _))) rfl⟩
  ·replace H := bc c51 H;refine aM ?_;exact Exists.intro (y46, y47) ⟨H, bh [0, 0, 0] (.cons (.refl _) (.cons (.refl _) (.nil _))) rfl⟩
 rintro ⟨y55, y56⟩ H;replace H : gz a3 a4 a5 a6 y48 y55 y56 = some (r9, r10, r11, r12, r13, r14, r15) := H
 unfold gz at H
 refine aj <| bq (by kernel_rfl) ?_;show AI _ _ _ _ _ 10 (Array.replicate 10 false) _;refine zk 0 rfl (ag (av := .pt _ _) rfl) ?_;show AI _ _ _ _ _ _ #[true, false, false, false, false, false, false, false, false, false] _;refine zk 1 rfl (am rfl) ?_;show AI _ _ _ _ _ _ #[true, true, false, false, false, false, false, false, false, false] _;refine zk 2 rfl (ah (n := 0) (by kernel_rfl) rfl) ?_;show AI _ _ _ _ _ _ #[true, true, true, false, false, false, false, false, false, false] _;refine zk 4 rfl (ag (av := .pt _ _) rfl) ?_;show AI _ _ _ _ _ _ #[true, true, true, false, true, false, false, false, false, false] _;refine zk 5 rfl (am rfl) ?_;show AI _ _ _ _ _ _ #[true, true, true, false, true, true, false, false, false, false] _;refine zk 6 rfl (ah (n := 6) (by kernel_rfl) rfl) ?_;show AI _ _ _ _ _ _ #[true, true, true, false, true, true, true, false, false, false] _;refine cl (i := 3) (j := 7) (by kernel_rfl) rfl rfl rfl rfl ?_ ?_
 ·refine aI rfl (bU (i := 0) (n := 6) aJ rfl (by kernel_rfl) rfl rfl (ab rfl)) ?_;show AI _ _ _ _ _ _ #[true, true, true, true, true, true, true, false, false, false] _;refine cl (i := 7) (j := 8) (by kernel_rfl) rfl rfl rfl rfl ?_ ?_
  ·refine aI rfl (ai (i := 0) aa rfl rfl rfl rfl) ?_;show AI _ _ _ _ _ _ #[true, true, true, true, true, true, true, true, false, false] _;refine aE (i := 8) (by kernel_rfl) rfl rfl <| bL (aP (i := 1) (vs := [i64 y55, i64 y56, S a3, S a4, S a5, slE Enc.byte a6 none]) (by kernel_rfl) rfl rfl (by simp [br, slE]) rfl (ab rfl)) ?_;show AI _ _ _ _ _ _ #[true, true, true, true, true, true, true, true, true, false] _;refine zk 9 rfl (ay (av := slE _ _ _) rfl) ?_;show AI _ _ _ _ _ _ #[true, true, true, true, true, true, true, true, true, true] _;refine ba rfl <| aU ?_;obtain ⟨rfl, rfl, rfl, rfl, rfl, rfl, rfl⟩ := res7 H;exact And.intro rfl (Exists.intro _ (Exists.intro _ ⟨di (dM rfl (dk (off := 0) (cs := [i64 y55, i64 y56, S a3, S a4, S a5, slE Enc.byte a6 none]) (n := 6) 1 aJ rfl (by kernel_rfl) rfl rfl (ab rfl)) ((show PlaceV _ _ _ (.tmp _) _ from (.tok _ _ _)))), aK [] rfl, rfl, rfl⟩))
  ·refine bL (aP (i := 1) (vs := [i64 y55, i64 y56, S a3, S a4, S a5, slE Enc.byte a6 none]) (by kernel_rfl) rfl rfl (by simp [br, slE]) rfl (ab rfl)) ?_;show AI _ _ _ _ _ _ #[true, true, true, true, true, true, true, false, true, false] _;refine aE (i := 7) (by kernel_rfl) rfl rfl <| aI rfl (ai (i := 0) aa rfl rfl rfl rfl) ?_;show AI _ _ _ _ _ _ #[true, true, true, true, true, true, true, true, true, false] _;refine zk 9 rfl (ay (av := slE _ _ _) rfl) ?_;show AI _ _ _ _ _ _ #[true, true, true, true, true, true, true, true, true, true] _;refine ba rfl <| aU ?_;obtain ⟨rfl, rfl, rfl, rfl, rfl, rfl, rfl⟩ := res7 H;exact And.intro rfl (Exists.intro _ (Exists.intro _ ⟨di (dM rfl (dk (off := 0) (cs := [i64 y55, i64 y56, S a3, S a4, S a5, slE Enc.byte a6 none]) (n := 6) 1 aJ rfl (by kernel_rfl) rfl rfl (ab rfl)) ((show PlaceV _ _ _ (.tmp _) _ from (.tok _ _ _)))), aK [] rfl, rfl, rfl⟩))
 ·refine aI rfl (ai (i := 0) aa rfl rfl rfl rfl) ?_;show AI _ _ _ _ _ _ #[true, true, true, false, true, true, true, true, false, false] _;refine aE (i := 3) (by kernel_rfl) rfl rfl <| aI rfl (bU (i := 0) (n := 6) aJ rfl (by kernel_rfl) rfl rfl (ab rfl)) ?_;show AI _ _ _ _ _ _ #[true, true, true, true, true, true, true, true, false, false] _;refine aE (i := 8) (by kernel_rfl) rfl rfl <| bL (aP (i := 1) (vs := [i64 y55, i64 y56, S a3, S a4, S a5, slE Enc.byte a6 none]) (by kernel_rfl) rfl rfl (by simp [br, slE]) rfl (ab rfl)) ?_;show AI _ _ _ _ _ _ #[true, true, true, true, true, true, true, true, true, false] _;refine zk 9 rfl (ay (av := slE _ _ _) rfl) ?_;show AI _ _ _ _ _ _ #[true, true, true, true, true, true, true, true, true, true] _;refine ba rfl <| aU ?_;obtain ⟨rfl, rfl, rfl, rfl, rfl, rfl, rfl⟩ := res7 H;exact And.intro rfl (Exists.intro _ (Exists.intro _ ⟨di (dM rfl (dk (off := 0) (cs := [i64 y55, i64 y56, S a3, S a4, S a5, slE Enc.byte a6 none]) (n := 6) 1 aJ rfl (by kernel_rfl) rfl rfl (ab rfl)) ((show PlaceV _ _ _ (.tmp _) _ from (.tok _ _ _)))), aK [] rfl, rfl, rfl⟩))
end Go.Proofs.YtgjkjkmmgdbcoaaGreatDoor
namespace Go.Pv
def qR : List UInt8 := [69, 72, 76, 79, 32, 104, 13, 10, 77, 65, 73, 76, 32, 70, 82, 79, 77, 58, 60, 97, 64, 98, 62, 13, 10, 82, 67, 80, 84, 32, 84, 79, 58, 60, 99, 64, 100, 62, 13, 10, 68, 65, 84, 65, 13, 10, 120, 13, 10, 46, 13, 10, 81, 85, 73, 84, 13, 10]
def ka (F : Nat) : Option ((List UInt8)) :=
some ([50, 50, 48, 32, 97, 13, 10, 50, 53, 48, 45, 97, 13, 10, 50, 53] ++ [48, 32, 83, 73, 90, 69, 32, 49, 48, 48, 48, 48, 48, 13, 10, 50] ++ [53, 48, 32, 111, 107, 13, 10, 50, 53, 48, 32, 111, 107, 13, 10, 51] ++ [53, 52, 32, 103, 111, 13, 10, 50, 53, 48, 32, 111, 107, 13, 10, 50] ++ [50, 49, 32, 98, 121, 101, 13, 10] : List UInt8)
def fk (x3 : Int × Int × (List UInt8) × (List UInt8) × (List UInt8) × (List UInt8) × Int) (y14 : List UInt8) (y15 : Int) (y16 : Int) (y17 : List UInt8) (y18 : List UInt8) (y19 : List UInt8) (y20 : List UInt8) : Option Bool :=
some ((((decide (x3.2.2.2.2.2.2 = 0)) && (decide (y16 = 1))) && (decide (y15 = 7))) && (decide (y14 = qR)))
def fS (F : Nat) : Option Bool :=
bnd (mP F ([97, 64, 98] : List UInt8) ([99, 64, 100] : List UInt8) ([104] : List UInt8) ([120, 13, 10] : List UInt8)) fun x3 =>
bnd (ka F) fun x6 =>
bnd (lK F x3.1 x3.2.1 x3.2.2.1 x3.2.2.2.1 x3.2.2.2.2.1 x3.2.2.2.2.2.1 x6) fun x8 =>
fk x3 x8.2.2.2.2.2.2 x8.1 x8.2.1 x8.2.2.1 x8.2.2.2.1 x8.2.2.2.2.1 x8.2.2.2.2.2.1
def ii (F : Nat) (a1 : Int) (a2 : Int) (a3 : List UInt8) (a4 : List UInt8) (a5 : List UInt8) (a6 : List UInt8) : Option Bool :=
some ((((decide ((a3.length : Int) ≤ 100)) && (decide ((a4.length : Int) ≤ 100))) && (decide ((a5.length : Int) ≤ 100))) && (decide ((a6.length : Int) ≤ 600)))
def gE (F : Nat) (a1 : Int) (a2 : Int) (a3 : List UInt8) (a4 : List UInt8) (a5 : List UInt8) (a6 : List UInt8) (a7 : Int) (a8 : Int) (a9 : List UInt8) (a10 : List UInt8) (a11 : List UInt8) (a12 : List UInt8) : Option Bool :=
some ((((((decide (a1 = a7)) && (decide (a2 = a8))) && (decide (a3 = a9))) && (decide (a4 = a10))) && (decide (a5 = a11))) && (decide (a6 = a12)))
end Go.Pv
namespace Go.Proofs.YtgjkjkmmgdbcoaaGreatDoor
open Go.RowKit Go.Av Go.Pv
theorem rS : ∀ (args : Array Value) (w : World), (callFunc 12 args).run Tryz.prog w = .ok (.enter 12 args) w := fun _ _ => by kernel_rfl
theorem lv : ∀ (args : Array Value) (w : World), (callFunc 15 args).run Tryz.prog w = .ok (.enter 15 args) w := fun _ _ => by kernel_rfl
theorem od : ∀ (args : Array Value) (w : World), (callFunc 26 args).run Tryz.prog w = .ok (.enter 26 args) w := fun _ _ => by kernel_rfl
set_option maxRecDepth 100000 in
set_option maxHeartbeats 1000000 in
theorem kv (F : Nat) (r1 : List UInt8) (H : ka F = some r1) : ACalls Tryz.prog 26 [] [] (Ret (slE Enc.byte r1 none) []) := by
 unfold ka at H
 refine ax Tryz.func26 rfl rfl ?_;show AW _ _ 3 _ _ _;refine aj <| ac ?_;show AR _ _ _ _ _ [0] _;refine za rfl <| al <| aj <| ac ?_;show AR _ _ _ _ _ [0, 1, 2] _;refine zX rfl (gG (E := Enc.byte) (bytes := 1) (xs := [.const _, .const _, .const _, .const _, .const _, .const _, .const _, .const _, .const _, .const _, .const _, .const _, .const _, .const _, .const _, .const _] ++ [.const _, .const _, .const _, .const _, .const _, .const _, .const _, .const _, .const _, .const _, .const _, .const _, .const _, .const _, .const _, .const _] ++ [.const _, .const _, .const _, .const _, .const _, .const _, .const _, .const _, .const _, .const _, .const _, .const _, .const _, .const _, .const _, .const _] ++ [.const _, .const _, .const _, .const _, .const _, .const _, .const _, .const _, .const _, .const _, .const _, .const _, .const _, .const _, .const _, .const _] ++ [.const _, .const _, .const _, .const _, .const _, .const _, .const _, .const _]) (l := ([50, 50, 48, 32, 97, 13, 10, 50, 53, 48, 45, 97, 13, 10, 50, 53] ++ [48, 32, 83, 73, 90, 69, 32, 49, 48, 48, 48, 48, 48, 13, 10, 50] ++ [53, 48, 32, 111, 107, 13, 10, 50, 53, 48, 32, 111, 107, 13, 10, 51] ++ [53, 52, 32, 103, 111, 13, 10, 50, 53, 48, 32, 111, 107, 13, 10, 50] ++ [50, 49, 32, 98, 121, 101, 13, 10] : List UInt8)) aa (by kernel_rfl) rfl rfl (by decide) rfl rfl) ?_;rintro _ _ ⟨t2, rfl, rfl⟩;refine zR rfl (eR 0 aa aR rfl (by simp) rfl) <| zS rfl (ay (av := slE _ _ _) rfl) <| al <| aU ?_
 obtain rfl := aC H;exact And.intro rfl (Exists.intro _ (Exists.intro _ ⟨aV rfl (.tok _ _ _), aK [] rfl, rfl, rfl⟩))
set_option maxRecDepth 100000 in
set_option maxHeartbeats 1000000 in
theorem mX (F : Nat) (r1 : Bool) (H : fS F = some r1) : ACalls Tryz.prog 10 [] [] (Ret (B r1) []) := by
 unfold fS at H
 refine ax Tryz.func10 rfl rfl ?_;show AW _ _ 34 _ _ _;refine aj <| ac ?_;show AR _ _ _ _ _ [0] _;refine za rfl <| al <| aj ?_;obtain ⟨x3, e4, H⟩ := cZ H;refine ac ?_;show AR _ _ _ _ _ [0, 1, 2, 3, 4, 5, 6, 7, 8] _;refine zX rfl (gG (E := Enc.byte) (bytes := 1) (xs := [.const _, .const _, .const _]) (l := ([120, 13, 10] : List UInt8)) aa (by kernel_rfl) rfl rfl (by decide) rfl rfl) ?_;rintro _ _ ⟨t2, rfl, rfl⟩;refine zR rfl (eR 0 aa aR rfl (by simp) rfl) <| an rfl rfl (aQ rfl rS rfl (pY F ([97, 64, 98] : List UInt8) ([99, 64, 100] : List UInt8) ([104] : List UInt8) ([120, 13, 10] : List UInt8) (some t2) x3.1 x3.2.1 x3.2.2.1 x3.2.2.2.1 x3.2.2.2.2.1 x3.2.2.2.2.2.1 x3.2.2.2.2.2.2 e4) ?_);refine zS rfl (ag (av := .tup _) rfl) <| zS rfl (aH (av := .agg _) rfl rfl) <| zS rfl (aH (av := .v _) rfl rfl) <| zX rfl (bN (zs := [.int .i64 0, .int .i64 0, .string ⟨#[]⟩, .string ⟨#[]⟩, .string ⟨#[]⟩, .slice none 0 0]) (by kernel_rfl)) ?_;rintro _ _ ⟨o5, rfl, rfl⟩;refine s0 rfl rfl (aP (i := 0) (vs := [i64 x3.1, i64 x3.2.1, S x3.2.2.1, S x3.2.2.2.1, S x3.2.2.2.2.1, slE Enc.byte x3.2.2.2.2.2.1 none]) (by kernel_rfl) rfl rfl (by simp [br, slE]) rfl (ab rfl)) <| AR.freezeCp 1 0 rfl rfl ?_;show AR _ _ _ _ _ _ ⟨_, _, [.tok t2 5]⟩
 refine za rfl <| al <| ck (X := Nat × (List UInt8) × Int × Int × (List UInt8) × (List UInt8) × (List UInt8) × (List UInt8)) (fun (o13, y14, y15, y16, y17, y18, y19, y20) => ⟨[(2, i64 x3.2.2.2.2.2.2), (3, .pt o13 0), (4, slE Enc.byte y14 none)], [], [.obj o13 [i64 y15, i64 y16, S y17, S y18, S y19, slE Enc.byte y20 none]]⟩) (fun (o13, y14, y15, y16, y17, y18, y19, y20) => fk x3 y14 y15 y16 y17 y18 y19 y20 = some r1) ?_ ?_
 ·obtain ⟨x6, e7, H⟩ := cZ H;obtain ⟨x8, e9, H⟩ := cZ H;refine bq (by kernel_rfl) ?_;show AI _ _ _ _ _ 9 (Array.replicate 9 false) _;refine zk 0 rfl (aY aJ rfl (n := 6) (by kernel_rfl) rfl (ab rfl)) ?_;show AI _ _ _ _ _ _ #[true, false, false, false, false, false, false, false, false] _;refine cl (i := 1) (j := 6) (by kernel_rfl) rfl rfl rfl rfl ?_ ?_
  ·refine bO rfl od rfl (kv F x6 e7) ?_;show AI _ _ _ _ _ _ #[true, true, false, false, false, false, false, false, false] _;refine cl (i := 2) (j := 6) (by kernel_rfl) rfl rfl rfl rfl ?_ ?_
   ·refine bO rfl lv rfl (gJ F x3.1 x3.2.1 x3.2.2.1 x3.2.2.2.1 x3.2.2.2.2.1 x3.2.2.2.2.2.1 x6 none x8.1 x8.2.1 x8.2.2.1 x8.2.2.2.1 x8.2.2.2.2.1 x8.2.2.2.2.2.1 x8.2.2.2.2.2.2 e9) ?_;show AI _ _ _ _ _ _ #[true, true, true, false, false, false, false, false, false] _;refine zk 3 rfl (ag (av := .tup _) rfl) ?_;show AI _ _ _ _ _ _ #[true, true, true, true, false, false, false, false, false] _;refine zk 4 rfl (aH (av := .agg _) rfl rfl) ?_;show AI _ _ _ _ _ _ #[true, true, true, true, true, false, false, false, false] _;refine zk 5 rfl (aH (av := slE _ _ _) rfl rfl) ?_;show AI _ _ _ _ _ _ #[true, true, true, true, true, true, false, false, false] _;refine aE (i := 6) (by kernel_rfl) rfl rfl <| cH rfl (bN (zs := [.int .i64 0, .int .i64 0, .string ⟨#[]⟩, .string ⟨#[]⟩, .string ⟨#[]⟩, .slice none 0 0]) (by kernel_rfl)) ?_;rintro _ _ ⟨o10, rfl, rfl⟩;show AI _ _ _ _ _ _ #[true, true, true, true, true, true, true, false, false] _;refine aE (i := 7) (by kernel_rfl) rfl rfl <| bL (aP (i := 0) (vs := [i64 x8.1, i64 x8.2.1, S x8.2.2.1, S x8.2.2.2.1, S x8.2.2.2.2.1, slE Enc.byte x8.2.2.2.2.2.1 none]) (by kernel_rfl) rfl rfl (by simp [br, slE]) rfl (ab rfl)) ?_;show AI _ _ _ _ _ _ #[true, true, true, true, true, true, true, true, false] _;refine zk 8 rfl (ay (av := slE _ _ _) rfl) ?_;show AI _ _ _ _ _ _ #[true, true, true, true, true, true, true, true, true] _;refine ba rfl ?_
    exact Exists.intro (o10, x8.2.2.2.2.2.2, x8.1, x8.2.1, x8.2.2.1, x8.2.2.2.1, x8.2.2.2.2.1, x8.2.2.2.2.2.1) ⟨H, bh [0] (.cons (.refl _) (.cons (.refl _) (.cons (.refl _) (.nil _)))) rfl⟩
   ·refine cH rfl (bN (zs := [.int .i64 0, .int .i64 0, .string ⟨#[]⟩, .string ⟨#[]⟩, .string ⟨#[]⟩, .slice none 0 0]) (by kernel_rfl)) ?_;rintro _ _ ⟨o11, rfl, rfl⟩;show AI _ _ _ _ _ _ #[true, true, false, false, false, false, true, false, false] _;refine aE (i := 2) (by kernel_rfl) rfl rfl <| bO rfl lv rfl (gJ F x3.1 x3.2.1 x3.2.2.1 x3.2.2.2.1 x3.2.2.2.2.1 x3.2.2.2.2.2.1 x6 none x8.1 x8.2.1 x8.2.2.1 x8.2.2.2.1 x8.2.2.2.2.1 x8.2.2.2.2.2.1 x8.2.2.2.2.2.2 e9) ?_;show AI _ _ _ _ _ _ #[true, true, true, false, false, false, true, false, false] _;refine zk 3 rfl (ag (av := .tup _) rfl) ?_;show AI _ _ _ _ _ _ #[true, true, true, true, false, false, true, false, false] _;refine zk 4 rfl (aH (av := .agg _) rfl rfl) ?_;show AI _ _ _ _ _ _ #[true, true, true, true, true, false, true, false, false] _;refine zk 5 rfl (aH (av := slE _ _ _) rfl rfl) ?_;show AI _ _ _ _ _ _ #[true, true, true, true, true, true, true, false, false] _;refine aE (i := 7) (by kernel_rfl) rfl rfl <| bL (aP (i := 0) (vs := [i64 x8.1, i64 x8.2.1, S x8.2.2.1, S x8.2.2.2.1, S x8.2.2.2.2.1, slE Enc.byte x8.2.2.2.2.2.1 none]) (by kernel_rfl) rfl rfl (by simp [br, slE]) rfl (ab rfl)) ?_;show AI _ _ _ _ _ _ #[true, true, true, true, true, true, true, true, false] _;refine zk 8 rfl (ay (av := slE _ _ _) rfl) ?_;show AI _ _ _ _ _ _ #[true, true, true, true, true, true, true, true, true] _;refine ba rfl ?_
    exact Exists.intro (o11, x8.2.2.2.2.2.2, x8.1, x8.2.1, x8.2.2.1, x8.2.2.2.1, x8.2.2.2.2.1, x8.2.2.2.2.2.1) ⟨H, bh [0] (.cons (.refl _) (.cons (.refl _) (.cons (.refl _) (.nil _)))) rfl⟩
  ·refine cH rfl (bN (zs := [.int .i64 0, .int .i64 0, .string ⟨#[]⟩, .string ⟨#[]⟩, .string ⟨#[]⟩, .slice none 0 0]) (by kernel_rfl)) ?_;rintro _ _ ⟨o12, rfl, rfl⟩;show AI _ _ _ _ _ _ #[true, false, false, false, false, false, true, false, false] _;refine aE (i := 1) (by kernel_rfl) rfl rfl <| bO rfl od rfl (kv F x6 e7) ?_;show AI _ _ _ _ _ _ #[true, true, false, false, false, false, true, false, false] _;refine aE (i := 2) (by kernel_rfl) rfl rfl <| bO rfl lv rfl (gJ F x3.1 x3.2.1 x3.2.2.1 x3.2.2.2.1 x3.2.2.2.2.1 x3.2.2.2.2.2.1 x6 none x8.1 x8.2.1 x8.2.2.1 x8.2.2.2.1 x8.2.2.2.2.1 x8.2.2.2.2.2.1 x8.2.2.2.2.2.2 e9) ?_;show AI _ _ _ _ _ _ #[true, true, true, false, false, false, true, false, false] _;refine zk 3 rfl (ag (av := .tup _) rfl) ?_;show AI _ _ _ _ _ _ #[true, true, true, true, false, false, true, false, false] _;refine zk 4 rfl (aH (av := .agg _) rfl rfl) ?_;show AI _ _ _ _ _ _ #[true, true, true, true, true, false, true, false, false] _;refine zk 5 rfl (aH (av := slE _ _ _) rfl rfl) ?_;show AI _ _ _ _ _ _ #[true, true, true, true, true, true, true, false, false] _;refine aE (i := 7) (by kernel_rfl) rfl rfl <| bL (aP (i := 0) (vs := [i64 x8.1, i64 x8.2.1, S x8.2.2.1, S x8.2.2.2.1, S x8.2.2.2.2.1, slE Enc.byte x8.2.2.2.2.2.1 none]) (by kernel_rfl) rfl rfl (by simp [br, slE]) rfl (ab rfl)) ?_;show AI _ _ _ _ _ _ #[true, true, true, true, true, true, true, true, false] _;refine zk 8 rfl (ay (av := slE _ _ _) rfl) ?_
   show AI _ _ _ _ _ _ #[true, true, true, true, true, true, true, true, true] _;refine ba rfl ?_;exact Exists.intro (o12, x8.2.2.2.2.2.2, x8.1, x8.2.1, x8.2.2.1, x8.2.2.2.1, x8.2.2.2.2.1, x8.2.2.2.2.2.1) ⟨H, bh [0] (.cons (.refl _) (.cons (.refl _) (.cons (.refl _) (.nil _)))) rfl⟩
 rintro ⟨o13, y14, y15, y16, y17, y18, y19, y20⟩ H;replace H : fk x3 y14 y15 y16 y17 y18 y19 y20 = some r1 := H
 unfold fk at H
 refine aj <| ac ?_;show AR _ _ _ _ _ [0, 1, 2, 3, 4, 5, 6, 7, 8, 9, 10, 11, 12, 13, 14, 15, 16, 17] _;refine zm rfl <| zS rfl (bX rfl rfl) <| zm rfl <| aN (l := [7, 8, 9, 10, 11, 12, 13, 14, 15, 16, 17]) 23 (B ((decide (x3.2.2.2.2.2.2 = 0)) && (decide (y16 = 1)))) (fun K => ?_) ?_
 ·rcases af (decide (x3.2.2.2.2.2.2 = 0)) with h22 | h22
  ·refine zU h22 rfl (ah (n := 1) (by kernel_rfl) rfl) <| zT h22 rfl (bK rfl rfl (ai (i := 0) ar rfl rfl rfl rfl) ?_);refine zU h22 rfl (bX rfl rfl) <| zS rfl (az (av := .v _) rfl h22 rfl) ?_;exact K _ 3 _ (aq (ca h22)) rfl rfl
  ·refine zF h22 rfl <| zF h22 rfl <| zF h22 rfl <| zS rfl (aw (av := .v _) rfl h22 rfl) ?_;exact K _ 3 _ (aq (cb h22)) rfl rfl
 refine zm rfl <| aN (l := [12, 13, 14, 15, 16, 17]) 28 (B (((decide (x3.2.2.2.2.2.2 = 0)) && (decide (y16 = 1))) && (decide (y15 = 7)))) (fun K => ?_) ?_
 ·rcases af ((decide (x3.2.2.2.2.2.2 = 0)) && (decide (y16 = 1))) with h23 | h23
  ·refine zU h23 rfl (ah (n := 0) (by kernel_rfl) rfl) <| zT h23 rfl (bK rfl rfl (ai (i := 0) ar rfl rfl rfl rfl) ?_);refine zU h23 rfl (bX rfl rfl) <| zS rfl (az (av := .v _) rfl h23 rfl) ?_;exact K _ 3 _ (aq (ca h23)) rfl rfl
  ·refine zF h23 rfl <| zF h23 rfl <| zF h23 rfl <| zS rfl (aw (av := .v _) rfl h23 rfl) ?_;exact K _ 3 _ (aq (cb h23)) rfl rfl
 refine zm rfl <| aN (l := [17]) 33 (B ((((decide (x3.2.2.2.2.2.2 = 0)) && (decide (y16 = 1))) && (decide (y15 = 7))) && (decide (y14 = qR)))) (fun K => ?_) ?_
 ·rcases af (((decide (x3.2.2.2.2.2.2 = 0)) && (decide (y16 = 1))) && (decide (y15 = 7))) with h24 | h24
  ·refine zU h24 rfl (ag (av := slE _ _ _) rfl) <| zU h24 rfl (cA aa aR ak rfl) <| zU h24 rfl (fC rfl rfl) <| zS rfl (az (av := .v _) rfl h24 rfl) ?_;exact K _ 3 _ (aq (ca h24)) rfl rfl
  ·refine zF h24 rfl <| zF h24 rfl <| zF h24 rfl <| zS rfl (aw (av := .v _) rfl h24 rfl) ?_;exact K _ 3 _ (aq (cb h24)) rfl rfl
 refine za rfl <| al <| aU ?_;obtain rfl := aC H;exact And.intro rfl (Exists.intro _ (Exists.intro _ ⟨aV rfl (.refl _), aK [] rfl, rfl, rfl⟩))
set_option maxRecDepth 100000 in
set_option maxHeartbeats 1000000 in
theorem oZ (F : Nat) (a1 : Int) (a2 : Int) (a3 : List UInt8) (a4 : List UInt8) (a5 : List UInt8) (a6 : List UInt8) (r7 : Bool) (H : ii F a1 a2 a3 a4 a5 a6 = some r7) : ACalls Tryz.prog 11 [.agg [i64 a1, i64 a2, S a3, S a4, S a5, slE Enc.byte a6 none]] [] (Ret (B r7) []) := by
 unfold ii at H
 refine ax Tryz.func11 rfl rfl ?_;show AW _ _ 25 _ _ _;refine aj <| ac ?_;show AR _ _ _ _ _ [0, 1] _;refine zR rfl (cm rfl (.inr ⟨_, rfl⟩)) <| za rfl <| al <| aj <| ac ?_;show AR _ _ _ _ _ [0, 1, 2, 3, 4, 5, 6, 7, 8, 9, 10, 11, 12, 13, 14, 15, 16, 17, 18, 19, 20, 21, 22] _;refine zS rfl (aO (n := 2) (by kernel_rfl) rfl (ab rfl)) <| zS rfl (aL ak rfl rfl) <| zS rfl (bz ak rfl) <| zS rfl (dD rfl rfl) <| zm rfl <| aN (l := [10, 11, 12, 13, 14, 15, 16, 17, 18, 19, 20, 21, 22]) 12 (B ((decide ((a3.length : Int) ≤ 100)) && (decide ((a4.length : Int) ≤ 100)))) (fun K => ?_) ?_
 ·rcases af (decide ((a3.length : Int) ≤ 100)) with h8 | h8
  ·refine zU h8 rfl (aO (n := 3) (by kernel_rfl) rfl (ab rfl)) <| zU h8 rfl (aL ak rfl rfl) <| zU h8 rfl (bz ak rfl) <| zU h8 rfl (dD rfl rfl) <| zS rfl (az (av := .v _) rfl h8 rfl) ?_;exact K _ 4 _ (aq (ca h8)) rfl rfl
  ·refine zF h8 rfl <| zF h8 rfl <| zF h8 rfl <| zF h8 rfl <| zS rfl (aw (av := .v _) rfl h8 rfl) ?_;exact K _ 4 _ (aq (cb h8)) rfl rfl
 refine zm rfl <| aN (l := [16, 17, 18, 19, 20, 21, 22]) 18 (B (((decide ((a3.length : Int) ≤ 100)) && (decide ((a4.length : Int) ≤ 100))) && (decide ((a5.length : Int) ≤ 100)))) (fun K => ?_) ?_
 ·rcases af ((decide ((a3.length : Int) ≤ 100)) && (decide ((a4.length : Int) ≤ 100))) with h9 | h9
  ·refine zU h9 rfl (aO (n := 4) (by kernel_rfl) rfl (ab rfl)) <| zU h9 rfl (aL ak rfl rfl) <| zU h9 rfl (bz ak rfl) <| zU h9 rfl (dD rfl rfl) <| zS rfl (az (av := .v _) rfl h9 rfl) ?_;exact K _ 4 _ (aq (ca h9)) rfl rfl
  ·refine zF h9 rfl <| zF h9 rfl <| zF h9 rfl <| zF h9 rfl <| zS rfl (aw (av := .v _) rfl h9 rfl) ?_;exact K _ 4 _ (aq (cb h9)) rfl rfl
 refine zm rfl <| aN (l := [22]) 24 (B ((((decide ((a3.length : Int) ≤ 100)) && (decide ((a4.length : Int) ≤ 100))) && (decide ((a5.length : Int) ≤ 100))) && (decide ((a6.length : Int) ≤ 600)))) (fun K => ?_) ?_
 ·rcases af (((decide ((a3.length : Int) ≤ 100)) && (decide ((a4.length : Int) ≤ 100))) && (decide ((a5.length : Int) ≤ 100))) with h10 | h10
  ·refine zU h10 rfl (aO (n := 5) (by kernel_rfl) rfl (ab rfl)) <| zU h10 rfl (aL aa rfl rfl) <| zU h10 rfl (aW aa rfl) <| zU h10 rfl (dD rfl rfl) <| zS rfl (az (av := .v _) rfl h10 rfl) ?_;exact K _ 4 _ (aq (ca h10)) rfl rfl
  ·refine zF h10 rfl <| zF h10 rfl <| zF h10 rfl <| zF h10 rfl <| zS rfl (aw (av := .v _) rfl h10 rfl) ?_;exact K _ 4 _ (aq (cb h10)) rfl rfl
 refine za rfl <| al <| aU ?_;obtain rfl := aC H;exact And.intro rfl (Exists.intro _ (Exists.intro _ ⟨aV rfl (.refl _), aK [] rfl, rfl, rfl⟩))
set_option maxRecDepth 100000 in
set_option maxHeartbeats 1000000 in
theorem ot (F : Nat) (a1 : Int) (a2 : Int) (a3 : List UInt8) (a4 : List UInt8) (a5 : List UInt8) (a6 : List UInt8) (a7 : Int) (a8 : Int) (a9 : List UInt8) (a10 : List UInt8) (a11 : List UInt8) (a12 : List UInt8) (r13 : Bool) (H : gE F a1 a2 a3 a4 a5 a6 a7 a8 a9 a10 a11 a12 = some r13) : ACalls Tryz.prog 14 [.agg [i64 a1, i64 a2, S a3, S a4, S a5, slE Enc.byte a6 none], .agg [i64 a7, i64 a8, S a9, S a10, S a11, slE Enc.byte a12 none]] [] (Ret (B r13) []) := by
 unfold gE at H
 refine ax Tryz.func14 rfl rfl ?_;show AW _ _ 47 _ _ _;refine aj <| ac ?_;show AR _ _ _ _ _ [0, 1, 2] _;refine zR rfl (cm rfl (.inr ⟨_, rfl⟩)) <| zR rfl (cm rfl (.inr ⟨_, rfl⟩)) <| za rfl <| al <| aj <| ac ?_;show AR _ _ _ _ _ [0, 1, 2, 3, 4, 5, 6, 7, 8, 9, 10, 11, 12, 13, 14, 15, 16, 17, 18, 19, 20, 21, 22, 23, 24, 25, 26, 27, 28, 29, 30, 31, 32, 33, 34, 35, 36, 37, 38, 39, 40, 41, 42] _;refine zS rfl (aO (n := 0) (by kernel_rfl) rfl (ab rfl)) <| zS rfl (aL ar rfl rfl) <| zS rfl (aO (n := 0) (by kernel_rfl) rfl (ab rfl)) <| zS rfl (aL ar rfl rfl) <| zS rfl (bX rfl rfl) <| zm rfl <| aN (l := [12, 13, 14, 15, 16, 17, 18, 19, 20, 21, 22, 23, 24, 25, 26, 27, 28, 29, 30, 31, 32, 33, 34, 35, 36, 37, 38, 39, 40, 41, 42]) 16 (B ((decide (a1 = a7)) && (decide (a2 = a8)))) (fun K => ?_) ?_
 ·rcases af (decide (a1 = a7)) with h14 | h14
  ·refine zU h14 rfl (aO (n := 1) (by kernel_rfl) rfl (ab rfl)) <| zU h14 rfl (aL ar rfl rfl) <| zU h14 rfl (aO (n := 1) (by kernel_rfl) rfl (ab rfl)) <| zU h14 rfl (aL ar rfl rfl) <| zU h14 rfl (bX rfl rfl) <| zS rfl (az (av := .v _) rfl h14 rfl) ?_;exact K _ 5 _ (aq (ca h14)) rfl rfl
  ·refine zF h14 rfl <| zF h14 rfl <| zF h14 rfl <| zF h14 rfl <| zF h14 rfl <| zS rfl (aw (av := .v _) rfl h14 rfl) ?_;exact K _ 5 _ (aq (cb h14)) rfl rfl
 refine zm rfl <| aN (l := [19, 20, 21, 22, 23, 24, 25, 26, 27, 28, 29, 30, 31, 32, 33, 34, 35, 36, 37, 38, 39, 40, 41, 42]) 23 (B (((decide (a1 = a7)) && (decide (a2 = a8))) && (decide (a3 = a9)))) (fun K => ?_) ?_
 ·rcases af ((decide (a1 = a7)) && (decide (a2 = a8))) with h15 | h15
  ·refine zU h15 rfl (aO (n := 2) (by kernel_rfl) rfl (ab rfl)) <| zU h15 rfl (aL ak rfl rfl) <| zU h15 rfl (aO (n := 2) (by kernel_rfl) rfl (ab rfl)) <| zU h15 rfl (aL ak rfl rfl) <| zU h15 rfl (fC rfl rfl) <| zS rfl (az (av := .v _) rfl h15 rfl) ?_;exact K _ 5 _ (aq (ca h15)) rfl rfl
  ·refine zF h15 rfl <| zF h15 rfl <| zF h15 rfl <| zF h15 rfl <| zF h15 rfl <| zS rfl (aw (av := .v _) rfl h15 rfl) ?_;exact K _ 5 _ (aq (cb h15)) rfl rfl
 refine zm rfl <| aN (l := [26, 27, 28, 29, 30, 31, 32, 33, 34, 35, 36, 37, 38, 39, 40, 41, 42]) 30 (B ((((decide (a1 = a7)) && (decide (a2 = a8))) && (decide (a3 = a9))) && (decide (a4 = a10)))) (fun K => ?_) ?_
 ·rcases af (((decide (a1 = a7)) && (decide (a2 = a8))) && (decide (a3 = a9))) with h16 | h16
  ·refine zU h16 rfl (aO (n := 3) (by kernel_rfl) rfl (ab rfl)) <| zU h16 rfl (aL ak rfl rfl) <| zU h16 rfl (aO (n := 3) (by kernel_rfl) rfl (ab rfl)) <| zU h16 rfl (aL ak rfl rfl) <| zU h16 rfl (fC rfl rfl) <| zS rfl (az (av := .v _) rfl h16 rfl) ?_;exact K _ 5 _ (aq (ca h16)) rfl rfl
  ·refine zF h16 rfl <| zF h16 rfl <| zF h16 rfl <| zF h16 rfl <| zF h16 rfl <| zS rfl (aw (av := .v _) rfl h16 rfl) ?_;exact K _ 5 _ (aq (cb h16)) rfl rfl
 refine zm rfl <| aN (l := [33, 34, 35, 36, 37, 38, 39, 40, 41, 42]) 37 (B (((((decide (a1 = a7)) && (decide (a2 = a8))) && (decide (a3 = a9))) && (decide (a4 = a10))) && (decide (a5 = a11)))) (fun K => ?_) ?_
 ·rcases af ((((decide (a1 = a7)) && (decide (a2 = a8))) && (decide (a3 = a9))) && (decide (a4 = a10))) with h17 | h17
  ·refine zU h17 rfl (aO (n := 4) (by kernel_rfl) rfl (ab rfl)) <| zU h17 rfl (aL ak rfl rfl) <| zU h17 rfl (aO (n := 4) (by kernel_rfl) rfl (ab rfl)) <| zU h17 rfl (aL ak rfl rfl) <| zU h17 rfl (fC rfl rfl) <| zS rfl (az (av := .v _) rfl h17 rfl) ?_;exact K _ 5 _ (aq (ca h17)) rfl rfl
  ·refine zF h17 rfl <| zF h17 rfl <| zF h17 rfl <| zF h17 rfl <| zF h17 rfl <| zS rfl (aw (av := .v _) rfl h17 rfl) ?_;exact K _ 5 _ (aq (cb h17)) rfl rfl
 refine zm rfl <| aN (l := [42]) 46 (B ((((((decide (a1 = a7)) && (decide (a2 = a8))) && (decide (a3 = a9))) && (decide (a4 = a10))) && (decide (a5 = a11))) && (decide (a6 = a12)))) (fun K => ?_) ?_
 ·rcases af (((((decide (a1 = a7)) && (decide (a2 = a8))) && (decide (a3 = a9))) && (decide (a4 = a10))) && (decide (a5 = a11))) with h18 | h18
  ·refine zU h18 rfl (aO (n := 5) (by kernel_rfl) rfl (ab rfl)) <| zU h18 rfl (aL aa rfl rfl) <| zU h18 rfl (cA aa aR ak rfl) <| zU h18 rfl (aO (n := 5) (by kernel_rfl) rfl (ab rfl)) <| zU h18 rfl (aL aa rfl rfl) <| zU h18 rfl (cA aa aR ak rfl) <| zU h18 rfl (fC rfl rfl) <| zS rfl (az (av := .v _) rfl h18 rfl) ?_;exact K _ 7 _ (aq (ca h18)) rfl rfl
  ·refine zF h18 rfl <| zF h18 rfl <| zF h18 rfl <| zF h18 rfl <| zF h18 rfl <| zF h18 rfl <| zF h18 rfl <| zS rfl (aw (av := .v _) rfl h18 rfl) ?_;exact K _ 7 _ (aq (cb h18)) rfl rfl
 refine za rfl <| al <| aU ?_;obtain rfl := aC H;exact And.intro rfl (Exists.intro _ (Exists.intro _ ⟨aV rfl (.refl _), aK [] rfl, rfl, rfl⟩))
end Go.Proofs.YtgjkjkmmgdbcoaaGreatDoor
namespace Go.Pv
def cS (F : Nat) (y66 : List UInt8) (y78 : Int) (y79 : Int) (y80 : List UInt8) (y81 : List UInt8) (y82 : List UInt8) (y83 : List UInt8) (y101 : List UInt8) (y102 : Int) (y103 : Int) (y104 : List UInt8) (y105 : List UInt8) (y106 : List UInt8) (y107 : List UInt8) : Option Bool :=
bnd (gE F y78 y79 y80 y81 y82 y83 y102 y103 y104 y105 y106 y107) fun x109 =>
some (x109 && (decide (y101 = y66)))
def cf (F : Nat) (a1 : Int) (a2 : Int) (a3 : List UInt8) (a4 : List UInt8) (a5 : List UInt8) (a6 : List UInt8) (a7 : List UInt8) (a9 : List UInt8) (y66 : List UInt8) (y78 : Int) (y79 : Int) (y80 : List UInt8) (y81 : List UInt8) (y82 : List UInt8) (y83 : List UInt8) : Option Bool :=
grd (eN a7.length) <|
grd (eN (a7.length + a9.length)) <|
lt (a7 ++ a9) fun x89 =>
bnd (lK F a1 a2 a3 a4 a5 a6 x89) fun x91 =>
cS F y66 y78 y79 y80 y81 y82 y83 x91.2.2.2.2.2.2 x91.1 x91.2.1 x91.2.2.1 x91.2.2.2.1 x91.2.2.2.2.1 x91.2.2.2.2.2.1
def cB (F : Nat) (a1 : Int) (a2 : Int) (a3 : List UInt8) (a4 : List UInt8) (a5 : List UInt8) (a6 : List UInt8) (a7 : List UInt8) (a9 : List UInt8) (y66 : List UInt8) (y68 : Int) (y69 : Int) (y70 : List UInt8) (y71 : List UInt8) (y72 : List UInt8) (y73 : List UInt8) : Option Bool :=
bif !decide (y68 = 7) then
  bnd (kZ F y68 y69 y70 y71 y72 y73) fun x76 =>
  cf F a1 a2 a3 a4 a5 a6 a7 a9 y66 x76.1 x76.2.1 x76.2.2.1 x76.2.2.2.1 x76.2.2.2.2.1 x76.2.2.2.2.2
else
  cf F a1 a2 a3 a4 a5 a6 a7 a9 y66 y68 y69 y70 y71 y72 y73
def ce (F : Nat) (y30 : List UInt8) (y32 : Int) (y33 : Int) (y34 : Int) (y35 : List UInt8) (y36 : List UInt8) (y37 : List UInt8) (y38 : List UInt8) (rec39 : ((List UInt8) × Int × Int × Int × (List UInt8) × (List UInt8) × (List UInt8) × (List UInt8)) → Option Bool) (y52 : Int) (y53 : List (List UInt8)) (y54 : Int) (y55 : Int) (y56 : Int) : Option Bool :=
bnd (kX F y33 y34 y35 y36 y37 y38 y52 y53 y54 y55 y56) fun x58 =>
grd (eN (y30.length + x58.2.2.2.2.2.2.length)) <|
lt (y30 ++ x58.2.2.2.2.2.2) fun x63 =>
grd (okI (y32 + 1)) <|
rec39 (x63, y32 + 1, x58.1, x58.2.1, x58.2.2.1, x58.2.2.2.1, x58.2.2.2.2.1, x58.2.2.2.2.2.1)
def cT (F : Nat) (a1 : Int) (a2 : Int) (a3 : List UInt8) (a4 : List UInt8) (a5 : List UInt8) (a6 : List UInt8) (a7 : List UInt8) (a9 : List UInt8) (x20 : List (Int × (List (List UInt8)) × Int × Int × Int)) (x23 : List (Int × (List (List UInt8)) × Int × Int × Int)) (rec39 : ((List UInt8) × Int × Int × Int × (List UInt8) × (List UInt8) × (List UInt8) × (List UInt8)) → Option Bool) (y30 : List UInt8) (y32 : Int) (y33 : Int) (y34 : Int) (y35 : List UInt8) (y36 : List UInt8) (y37 : List UInt8) (y38 : List UInt8) : Option Bool :=
grd (okI ((x20.length : Int) + (x23.length : Int))) <|
bif decide (y32 < (x20.length : Int) + (x23.length : Int)) then
  bif decide (y32 < (x20.length : Int)) then
    grd (dj y32 x20.length) <|
    lt (at_ x20 y32) fun x46 =>
    ce F y30 y32 y33 y34 y35 y36 y37 y38 rec39 x46.1 x46.2.1 x46.2.2.1 x46.2.2.2.1 x46.2.2.2.2
  else
    grd (okI (y32 - (x20.length : Int))) <|
    grd (dj (y32 - (x20.length : Int)) x23.length) <|
    lt (at_ x23 (y32 - (x20.length : Int))) fun x50 =>
    ce F y30 y32 y33 y34 y35 y36 y37 y38 rec39 x50.1 x50.2.1 x50.2.2.1 x50.2.2.2.1 x50.2.2.2.2
else
  cB F a1 a2 a3 a4 a5 a6 a7 a9 y30 y33 y34 y35 y36 y37 y38
def bW (F : Nat) (a1 : Int) (a2 : Int) (a3 : List UInt8) (a4 : List UInt8) (a5 : List UInt8) (a6 : List UInt8) (a7 : List UInt8) (a9 : List UInt8) (x20 : List (Int × (List (List UInt8)) × Int × Int × Int)) (x23 : List (Int × (List (List UInt8)) × Int × Int × Int)) (n : Nat) : ((List UInt8) × Int × Int × Int × (List UInt8) × (List UInt8) × (List UInt8) × (List UInt8)) → Option Bool :=
  loop (fun rec x => cT F a1 a2 a3 a4 a5 a6 a7 a9 x20 x23 rec x.1 x.2.1 x.2.2.1 x.2.2.2.1 x.2.2.2.2.1 x.2.2.2.2.2.1 x.2.2.2.2.2.2.1 x.2.2.2.2.2.2.2) n
def dr (F : Nat) (a1 : Int) (a2 : Int) (a3 : List UInt8) (a4 : List UInt8) (a5 : List UInt8) (a6 : List UInt8) (a7 : List UInt8) (a9 : List UInt8) : Option Bool :=
bnd (fS F) fun x12 =>
bnd (ii F a1 a2 a3 a4 a5 a6) fun x14 =>
bif (((!x12) || (!x14)) || (decide (1000 < (a7.length : Int)))) || (decide (1000 < (a9.length : Int))) then
  some x12
else
  gL (ip F a7) fun x20 x21 =>
  gL (ip F a9) fun x23 x24 =>
  bif (!decide (x21 = 0)) || (!decide (x24 = 0)) then
    some true
  else
    bW F a1 a2 a3 a4 a5 a6 a7 a9 x20 x23 F ([], 0, a1, a2, a3, a4, a5, a6)
end Go.Pv
namespace Go.Proofs.YtgjkjkmmgdbcoaaGreatDoor
open Go.RowKit Go.Av Go.Pv
theorem kr : ∀ (args : Array Value) (w : World), (callFunc 10 args).run Tryz.prog w = .ok (.enter 10 args) w := fun _ _ => by kernel_rfl
theorem kq : ∀ (args : Array Value) (w : World), (callFunc 11 args).run Tryz.prog w = .ok (.enter 11 args) w := fun _ _ => by kernel_rfl
theorem ko : ∀ (args : Array Value) (w : World), (callFunc 14 args).run Tryz.prog w = .ok (.enter 14 args) w := fun _ _ => by kernel_rfl
theorem eA : ∀ (args : Array Value) (w : World), (callFunc 15 args).run Tryz.prog w = .ok (.enter 15 args) w := fun _ _ => by kernel_rfl
theorem kn : ∀ (args : Array Value) (w : World), (callFunc 18 args).run Tryz.prog w = .ok (.enter 18 args) w := fun _ _ => by kernel_rfl
theorem km : ∀ (args : Array Value) (w : World), (callFunc 20 args).run Tryz.prog w = .ok (.enter 20 args) w := fun _ _ => by kernel_rfl
theorem gO : ∀ (args : Array Value) (w : World), (callFunc 25 args).run Tryz.prog w = .ok (.enter 25 args) w := fun _ _ => by kernel_rfl
set_option maxRecDepth 100000 in
set_option maxHeartbeats 1000000 in
theorem ju (F : Nat) (a1 : Int) (a2 : Int) (a3 : List UInt8) (a4 : List UInt8) (a5 : List UInt8) (a6 : List UInt8) (a7 : List UInt8) (q8 : Option Nat) (a9 : List UInt8) (q10 : Option Nat) (r11 : Bool) (H : dr F a1 a2 a3 a4 a5 a6 a7 a9 = some r11) : ACalls Tryz.prog 9 [.agg [i64 a1, i64 a2, S a3, S a4, S a5, slE Enc.byte a6 none], slE Enc.byte a7 q8, slE Enc.byte a9 q10] [] (Ret (B r11) []) := by
 unfold dr at H
 refine ax Tryz.func9 rfl rfl ?_;show AW _ _ 118 _ _ _;refine aj <| ac ?_;show AR _ _ _ _ _ [0, 1] _;refine zR rfl (cm rfl (.inr ⟨_, rfl⟩)) <| za rfl <| al <| aj ?_;obtain ⟨x12, e13, H⟩ := cZ H;refine ac ?_;show AR _ _ _ _ _ [0, 1] _;refine an rfl rfl (aQ rfl kr rfl (mX F x12 e13) ?_);refine za rfl <| al <| aj ?_;obtain ⟨x14, e15, H⟩ := cZ H;refine ac ?_;show AR _ _ _ _ _ [0, 1, 2] _;refine zS rfl (aY aJ rfl (n := 6) (by kernel_rfl) rfl (ab rfl)) <| an rfl rfl (aQ rfl kq rfl (oZ F a1 a2 a3 a4 a5 a6 x14 e15) ?_);refine za rfl <| al <| aj <| aj <| ac ?_;show AR _ _ _ _ _ [0, 1, 2, 3, 4, 5, 6, 7, 8, 9, 10, 11, 12, 13, 14, 15] _;refine zm rfl <| zS rfl (dF rfl) <| zm rfl <| aN (l := [6, 7, 8, 9, 10, 11, 12, 13, 14, 15]) 30 (B ((!x12) || (!x14))) (fun K => ?_) ?_
 ·rcases af (!x12) with h16 | h16
  ·refine zF h16 rfl <| zF h16 rfl <| zS rfl (az (av := .v _) rfl h16 rfl) ?_;exact K _ 2 _ (aq (gH h16)) rfl rfl
  ·refine zM h16 rfl <| zU h16 rfl (dF rfl) <| zS rfl (aw (av := .v _) rfl h16 rfl) ?_;exact K _ 2 _ (aq (gI h16)) rfl rfl
 refine zm rfl <| aN (l := [11, 12, 13, 14, 15]) 35 (B (((!x12) || (!x14)) || (decide (1000 < (a7.length : Int))))) (fun K => ?_) ?_
 ·rcases af ((!x12) || (!x14)) with h17 | h17
  ·refine zF h17 rfl <| zF h17 rfl <| zF h17 rfl <| zS rfl (az (av := .v _) rfl h17 rfl) ?_;exact K _ 3 _ (aq (gH h17)) rfl rfl
  ·refine zU h17 rfl (ag (av := slE _ _ _) rfl) <| zU h17 rfl (aW aa rfl) <| zU h17 rfl (gi rfl rfl) <| zS rfl (aw (av := .v _) rfl h17 rfl) ?_;exact K _ 3 _ (aq (gI h17)) rfl rfl
 refine zm rfl <| aN (l := []) 40 (B ((((!x12) || (!x14)) || (decide (1000 < (a7.length : Int)))) || (decide (1000 < (a9.length : Int))))) (fun K => ?_) ?_
 ·rcases af (((!x12) || (!x14)) || (decide (1000 < (a7.length : Int)))) with h18 | h18
  ·refine zF h18 rfl <| zF h18 rfl <| zF h18 rfl <| zS rfl (az (av := .v _) rfl h18 rfl) ?_;exact K _ 3 _ (aq (gH h18)) rfl rfl
  ·refine zU h18 rfl (ag (av := slE _ _ _) rfl) <| zU h18 rfl (aW aa rfl) <| zU h18 rfl (gi rfl rfl) <| zS rfl (aw (av := .v _) rfl h18 rfl) ?_;exact K _ 3 _ (aq (gI h18)) rfl rfl
 refine al <| aG rfl (fun c19 => ?_) (fun c19 => ?_)
 ·replace H := bo c19 H;refine aj <| ac ?_;show AR _ _ _ _ _ [0, 1] _;refine zm rfl <| za rfl <| al <| aU ?_;obtain rfl := aC H;exact And.intro rfl (Exists.intro _ (Exists.intro _ ⟨aV rfl (.refl _), aK [] rfl, rfl, rfl⟩))
 ·replace H := bc c19 H;refine aM <| aj ?_;obtain ⟨x20, x21, e22, H⟩ := dq H;refine ac ?_;show AR _ _ _ _ _ [0, 1, 2, 3, 4, 5, 6] _;refine zS rfl (ag (av := slE _ _ _) rfl) <| an rfl rfl (aQ rfl gO rfl (mr F a7 q8 x20 x21 e22) ?_);refine zS rfl (ag (av := .tup _) rfl) <| zS rfl (aH (av := slE _ _ _) rfl rfl) <| zS rfl (aH (av := .v _) rfl rfl) <| zS rfl (ay (av := slE _ _ _) rfl) <| za rfl <| al <| aj ?_;obtain ⟨x23, x24, e25, H⟩ := dq H;refine ac ?_;show AR _ _ _ _ _ [0, 1, 2, 3, 4, 5, 6] _;refine zS rfl (ag (av := slE _ _ _) rfl) <| an rfl rfl (aQ rfl gO rfl (mr F a9 q10 x23 x24 e25) ?_);refine zS rfl (ag (av := .tup _) rfl) <| zS rfl (aH (av := slE _ _ _) rfl rfl) <| zS rfl (aH (av := .v _) rfl rfl) <| zS rfl (ay (av := slE _ _ _) rfl) <| za rfl <| al <| aj <| aj <| ac ?_;show AR _ _ _ _ _ [0, 1, 2, 3, 4, 5] _;refine zm rfl <| zS rfl (eP rfl rfl) <| zm rfl <| aN (l := []) 57 (B ((!decide (x21 = 0)) || (!decide (x24 = 0)))) (fun K => ?_) ?_
  ·rcases af (!decide (x21 = 0)) with h26 | h26
   ·refine zF h26 rfl <| zF h26 rfl <| zS rfl (az (av := .v _) rfl h26 rfl) ?_;exact K _ 2 _ (aq (gH h26)) rfl rfl
   ·refine zM h26 rfl <| zU h26 rfl (eP rfl rfl) <| zS rfl (aw (av := .v _) rfl h26 rfl) ?_;exact K _ 2 _ (aq (gI h26)) rfl rfl
  refine al <| aG rfl (fun c27 => ?_) (fun c27 => ?_)
  ·replace H := bo c27 H;refine aj <| ac ?_;show AR _ _ _ _ _ [0] _;refine za rfl <| al <| aU ?_;obtain rfl := aC H;exact And.intro rfl (Exists.intro _ (Exists.intro _ ⟨aV rfl (.refl _), aK [] rfl, rfl, rfl⟩))
  ·replace H := bc c27 H;refine aM <| aj <| ac ?_;show AR _ _ _ _ _ [0, 1, 2] _;refine zS rfl (aY aJ rfl (n := 6) (by kernel_rfl) rfl (ab rfl)) <| zX rfl (bN (zs := [.int .i64 0, .int .i64 0, .string ⟨#[]⟩, .string ⟨#[]⟩, .string ⟨#[]⟩, .slice none 0 0]) (by kernel_rfl)) ?_;rintro _ _ ⟨o28, rfl, rfl⟩;refine s0 rfl rfl (aP (i := 0) (vs := [i64 a1, i64 a2, S a3, S a4, S a5, slE Enc.byte a6 none]) (by kernel_rfl) rfl rfl (by simp [br, slE]) rfl (ab rfl)) <| al <| aj <| ac ?_;show AR _ _ _ _ _ [0] _;refine za rfl <| al ?_
   refine oA 14 1 5 rfl fun t29 => ?_
   show AW _ _ _ _ _ ⟨(14, slE Enc.byte [] (some t29)) :: _, _, _⟩;refine ck (X := (List UInt8) × Nat × Int × Int × (List UInt8) × (List UInt8) × (List UInt8) × (List UInt8)) (fun (y66, t67, y68, y69, y70, y71, y72, y73) => ⟨[(1, slE Enc.byte a7 q8), (2, slE Enc.byte a9 q10), (3, .cp [i64 a1, i64 a2, S a3, S a4, S a5, slE Enc.byte a6 none]), (13, .pt o28 0), (14, slE Enc.byte y66 (some t67))], [], [.obj o28 [i64 y68, i64 y69, S y70, S y71, S y72, slE Enc.byte y73 none], .tok t67 5]⟩) (fun (y66, t67, y68, y69, y70, y71, y72, y73) => cB F a1 a2 a3 a4 a5 a6 a7 a9 y66 y68 y69 y70 y71 y72 y73 = some r11) ?_ ?_
   ·refine aj <| ac ?_;show AR _ _ _ _ _ [0] _;refine za rfl <| al <| bx <| AW.loop (X := Nat × (List UInt8) × Nat × Int × Int × Int × (List UInt8) × (List UInt8) × (List UInt8) × (List UInt8)) (fun (n40, y30, t31, y32, y33, y34, y35, y36, y37, y38) => ⟨[(1, slE Enc.byte a7 q8), (2, slE Enc.byte a9 q10), (3, .cp [i64 a1, i64 a2, S a3, S a4, S a5, slE Enc.byte a6 none]), (9, slE (au Enc.int (au (Enc.sl Enc.str) (au Enc.int (au Enc.int Enc.int)))) x20 none), (11, slE (au Enc.int (au (Enc.sl Enc.str) (au Enc.int (au Enc.int Enc.int)))) x23 none), (13, .pt o28 0), (14, slE Enc.byte y30 (some t31)), (15, i64 y32)], [], [.obj o28 [i64 y33, i64 y34, S y35, S y36, S y37, slE Enc.byte y38 none], .tok t31 5]⟩) (fun (n40, y30, t31, y32, y33, y34, y35, y36, y37, y38) => bW F a1 a2 a3 a4 a5 a6 a7 a9 x20 x23 n40 (y30, y32, y33, y34, y35, y36, y37, y38) = some r11) (fun (n40, y30, t31, y32, y33, y34, y35, y36, y37, y38) => n40) (F, [], t29, 0, a1, a2, a3, a4, a5, a6) H (bh [1, 0] (.cons (.refl _) (.cons (.refl _) (.cons (.refl _) (.cons (.refl _) (.cons (.refl _) (.cons (.refl _) (.cons (.refl _) (.cons (.refl _) (.nil _))))))))) rfl) ?_;rintro ⟨n40, y30, t31, y32, y33, y34, y35, y36, y37, y38⟩ H;obtain ⟨n40, rfl, H⟩ := gj H;replace H : cT F a1 a2 a3 a4 a5 a6 a7 a9 x20 x23 (bW F a1 a2 a3 a4 a5 a6 a7 a9 x20 x23 n40) y30 y32 y33 y34 y35 y36 y37 y38 = some r11 := H
    unfold cT at H
    refine aj <| aj ?_;obtain ⟨g41, H⟩ := bb H;refine ac ?_;show AR _ _ _ _ _ [0, 1, 2, 3, 4, 5, 6] _;refine zm rfl <| zS rfl (ag (av := slE _ _ _) rfl) <| zS rfl (aW bl rfl) <| zS rfl (ag (av := slE _ _ _) rfl) <| zS rfl (aW bl rfl) <| zS rfl (fZ rfl rfl g41) <| zS rfl (ct rfl rfl) <| al <| aG rfl (fun c42 => ?_) (fun c42 => ?_)
    ·replace H := bo c42 H;refine aM <| aj <| bx <| aj <| ac ?_;show AR _ _ _ _ _ [0] _;refine zX rfl (bN (zs := [.int .i64 0, .slice none 0 0, .int .i64 0, .int .i64 0, .int .i64 0]) (by kernel_rfl)) ?_;rintro _ _ ⟨o43, rfl, rfl⟩;refine al <| ck (X := Int × (List (List UInt8)) × Int × Int × Int) (fun (y52, y53, y54, y55, y56) => ⟨[(1, slE Enc.byte a7 q8), (2, slE Enc.byte a9 q10), (3, .cp [i64 a1, i64 a2, S a3, S a4, S a5, slE Enc.byte a6 none]), (9, slE (au Enc.int (au (Enc.sl Enc.str) (au Enc.int (au Enc.int Enc.int)))) x20 none), (11, slE (au Enc.int (au (Enc.sl Enc.str) (au Enc.int (au Enc.int Enc.int)))) x23 none), (13, .pt o28 0), (14, slE Enc.byte y30 (some t31)), (15, i64 y32), (16, .pt o43 0)], [], [.obj o43 [i64 y52, slE Enc.str y53 none, i64 y54, i64 y55, i64 y56], .obj o28 [i64 y33, i64 y34, S y35, S y36, S y37, slE Enc.byte y38 none], .tok t31 5]⟩) (fun (y52, y53, y54, y55, y56) => ce F y30 y32 y33 y34 y35 y36 y37 y38 (bW F a1 a2 a3 a4 a5 a6 a7 a9 x20 x23 n40) y52 y53 y54 y55 y56 = some r11) ?_ ?_
     ·refine aj <| ac ?_;show AR _ _ _ _ _ [0, 1, 2, 3] _;refine zm rfl <| zS rfl (ag (av := slE _ _ _) rfl) <| zS rfl (aW bl rfl) <| zS rfl (ct rfl rfl) <| al <| aG rfl (fun c44 => ?_) (fun c44 => ?_)
      ·replace H := bo c44 H;obtain ⟨g45, H⟩ := bb H;obtain ⟨x46, e47, H⟩ := cE H;refine ac ?_;show AR _ _ _ _ _ [0, 1, 2, 3, 4] _;refine zS rfl (ag (av := slE _ _ _) rfl) <| zm rfl <| zS rfl (dt (E := (au Enc.int (au (Enc.sl Enc.str) (au Enc.int (au Enc.int Enc.int))))) bl (by kernel_rfl) rfl rfl g45 e47) <| zS rfl (aY bm rfl (n := 5) (by kernel_rfl) rfl (ab rfl)) <| s0 rfl rfl (aP (i := 0) (vs := [i64 x46.1, slE Enc.str x46.2.1 none, i64 x46.2.2.1, i64 x46.2.2.2.1, i64 x46.2.2.2.2]) (by kernel_rfl) rfl rfl (by simp [br, slE]) rfl (ab rfl)) <| al ?_;exact Exists.intro (x46.1, x46.2.1, x46.2.2.1, x46.2.2.2.1, x46.2.2.2.2) ⟨H, bh [0, 0, 0] (.cons (.refl _) (.cons (.refl _) (.cons (.refl _) (.cons (.refl _) (.cons (.refl _) (.cons (.refl _) (.cons (.refl _) (.cons (.refl _) (.cons (.refl _) (.nil _)))))))))) rfl⟩
      ·replace H := bc c44 H;obtain ⟨g48, H⟩ := bb H;obtain ⟨g49, H⟩ := bb H;obtain ⟨x50, e51, H⟩ := cE H;refine ac ?_;show AR _ _ _ _ _ [0, 1, 2, 3, 4, 5, 6, 7] _;refine zS rfl (ag (av := slE _ _ _) rfl) <| zm rfl <| zS rfl (ag (av := slE _ _ _) rfl) <| zS rfl (aW bl rfl) <| zS rfl (oC rfl rfl g48) <| zS rfl (dt (E := (au Enc.int (au (Enc.sl Enc.str) (au Enc.int (au Enc.int Enc.int))))) bl (by kernel_rfl) rfl rfl g49 e51) <| zS rfl (aY bm rfl (n := 5) (by kernel_rfl) rfl (ab rfl)) <| s0 rfl rfl (aP (i := 0) (vs := [i64 x50.1, slE Enc.str x50.2.1 none, i64 x50.2.2.1, i64 x50.2.2.2.1, i64 x50.2.2.2.2]) (by kernel_rfl) rfl rfl (by simp [br, slE]) rfl (ab rfl)) <| al ?_;exact Exists.intro (x50.1, x50.2.1, x50.2.2.1, x50.2.2.2.1, x50.2.2.2.2) ⟨H, bh [0, 0, 0] (.cons (.refl _) (.cons (.refl _) (.cons (.refl _) (.cons (.refl _) (.cons (.refl _) (.cons (.refl _) (.cons (.refl _) (.cons (.refl _) (.cons (.refl _) (.nil _)))))))))) rfl⟩
     rintro ⟨y52, y53, y54, y55, y56⟩ H;replace H : ce F y30 y32 y33 y34 y35 y36 y37 y38 (bW F a1 a2 a3 a4 a5 a6 a7 a9 x20 x23 n40) y52 y53 y54 y55 y56 = some r11 := H
     unfold ce at H
     refine aj ?_;obtain ⟨x58, e59, H⟩ := cZ H;refine ac ?_;show AR _ _ _ _ _ [0, 1, 2, 3, 4, 5, 6, 7, 8] _;refine zR rfl (bU (i := 1) (n := 6) aJ rfl (by kernel_rfl) rfl rfl (ab rfl)) <| zR rfl (bU (i := 0) (n := 5) bm rfl (by kernel_rfl) rfl rfl (ab rfl)) <| an rfl rfl (aQ rfl kn rfl (re F y33 y34 y35 y36 y37 y38 y52 y53 y54 y55 y56 x58.1 x58.2.1 x58.2.2.1 x58.2.2.2.1 x58.2.2.2.2.1 x58.2.2.2.2.2.1 x58.2.2.2.2.2.2 e59) ?_);refine zS rfl (ag (av := .tup _) rfl) <| zS rfl (aH (av := .agg _) rfl rfl) <| zS rfl (aH (av := slE _ _ _) rfl rfl) <| zX rfl (bN (zs := [.int .i64 0, .int .i64 0, .string ⟨#[]⟩, .string ⟨#[]⟩, .string ⟨#[]⟩, .slice none 0 0]) (by kernel_rfl)) ?_;rintro _ _ ⟨o60, rfl, rfl⟩;refine s0 rfl rfl (aP (i := 0) (vs := [i64 x58.1, i64 x58.2.1, S x58.2.2.1, S x58.2.2.2.1, S x58.2.2.2.2.1, slE Enc.byte x58.2.2.2.2.2.1 none]) (by kernel_rfl) rfl rfl (by simp [br, slE]) rfl (ab rfl)) <| AR.freezeCp 17 0 rfl rfl ?_;show AR _ _ _ _ _ _ ⟨_, _, [.obj o43 [i64 y52, slE Enc.str y53 none, i64 y54, i64 y55, i64 y56], .obj o28 [i64 y33, i64 y34, S y35, S y36, S y37, slE Enc.byte y38 none], .tok t31 5]⟩;refine zS rfl (ay (av := slE _ _ _) rfl) <| al <| aj <| ac ?_;show AR _ _ _ _ _ [0, 1] _
     refine zS rfl (aY aJ rfl (n := 6) (by kernel_rfl) rfl (ab rfl)) <| s0 rfl rfl (aP (i := 1) (vs := [i64 x58.1, i64 x58.2.1, S x58.2.2.1, S x58.2.2.2.1, S x58.2.2.2.2.1, slE Enc.byte x58.2.2.2.2.2.1 none]) (by kernel_rfl) rfl rfl (by simp [br, slE]) rfl (ab rfl)) <| al ?_;obtain ⟨g62, H⟩ := bb H;obtain ⟨x63, e64, H⟩ := cE H;refine ac ?_;show AR _ _ _ _ _ [0, 1, 2, 3] _;refine zS rfl (ag (av := slE _ _ _) rfl) <| zS rfl (ag (av := slE _ _ _) rfl) <| zX rfl (dy (E := Enc.byte) (bytes := 1) 2 aa aa rfl (by kernel_rfl) rfl rfl rfl rfl g62 e64) ?_;rintro _ _ ⟨t61, rfl, rfl⟩;refine zS rfl (ay (av := slE _ _ _) rfl) <| al ?_;obtain ⟨g65, H⟩ := bb H;refine ac ?_;show AR _ _ _ _ _ [0, 1, 2] _;refine zm rfl <| zS rfl (fZ rfl rfl g65) <| za rfl <| al ?_;exact Exists.intro (n40, x63, t61, y32 + 1, x58.1, x58.2.1, x58.2.2.1, x58.2.2.2.1, x58.2.2.2.2.1, x58.2.2.2.2.2.1) ⟨H, Nat.lt_succ_self _, bh [1, 1] (.cons (.refl _) (.cons (.refl _) (.cons (.refl _) (.cons (.refl _) (.cons (.refl _) (.cons (.refl _) (.cons (.refl _) (.cons (.refl _) (.nil _))))))))) rfl⟩
    ·replace H := bc c42 H;refine AW.exit ?_;exact Exists.intro (y30, t31, y33, y34, y35, y36, y37, y38) ⟨H, bh [0, 0] (.cons (.refl _) (.cons (.refl _) (.cons (.refl _) (.cons (.refl _) (.cons (.refl _) (.nil _)))))) rfl⟩
   rintro ⟨y66, t67, y68, y69, y70, y71, y72, y73⟩ H;replace H : cB F a1 a2 a3 a4 a5 a6 a7 a9 y66 y68 y69 y70 y71 y72 y73 = some r11 := H
   unfold cB at H
   refine ck (X := Int × Int × (List UInt8) × (List UInt8) × (List UInt8) × (List UInt8)) (fun (y78, y79, y80, y81, y82, y83) => ⟨[(1, slE Enc.byte a7 q8), (2, slE Enc.byte a9 q10), (3, .cp [i64 a1, i64 a2, S a3, S a4, S a5, slE Enc.byte a6 none]), (13, .pt o28 0), (14, slE Enc.byte y66 (some t67))], [], [.obj o28 [i64 y78, i64 y79, S y80, S y81, S y82, slE Enc.byte y83 none], .tok t67 5]⟩) (fun (y78, y79, y80, y81, y82, y83) => cf F a1 a2 a3 a4 a5 a6 a7 a9 y66 y78 y79 y80 y81 y82 y83 = some r11) ?_ ?_
   ·refine aj <| ac ?_;show AR _ _ _ _ _ [0, 1, 2] _;refine zS rfl (ah (n := 0) (by kernel_rfl) rfl) <| zR rfl (ai (i := 0) ar rfl rfl rfl rfl) <| zS rfl (eP rfl rfl) <| al <| aG rfl (fun c75 => ?_) (fun c75 => ?_)
    ·replace H := bo c75 H;obtain ⟨x76, e77, H⟩ := cZ H;refine ac ?_;show AR _ _ _ _ _ [0, 1, 2] _;refine zR rfl (bU (i := 0) (n := 6) aJ rfl (by kernel_rfl) rfl rfl (ab rfl)) <| an rfl rfl (aQ rfl km rfl (rg F y68 y69 y70 y71 y72 y73 x76.1 x76.2.1 x76.2.2.1 x76.2.2.2.1 x76.2.2.2.2.1 x76.2.2.2.2.2 e77) ?_);refine s0 rfl rfl (aP (i := 0) (vs := [i64 x76.1, i64 x76.2.1, S x76.2.2.1, S x76.2.2.2.1, S x76.2.2.2.2.1, slE Enc.byte x76.2.2.2.2.2 none]) (by kernel_rfl) rfl rfl (by simp [br, slE]) rfl (ab rfl)) <| al ?_;exact Exists.intro (x76.1, x76.2.1, x76.2.2.1, x76.2.2.2.1, x76.2.2.2.2.1, x76.2.2.2.2.2) ⟨H, bh [0, 0] (.cons (.refl _) (.cons (.refl _) (.cons (.refl _) (.cons (.refl _) (.cons (.refl _) (.nil _)))))) rfl⟩
    ·replace H := bc c75 H;refine aM ?_;exact Exists.intro (y68, y69, y70, y71, y72, y73) ⟨H, bh [0, 0] (.cons (.refl _) (.cons (.refl _) (.cons (.refl _) (.cons (.refl _) (.cons (.refl _) (.nil _)))))) rfl⟩
   rintro ⟨y78, y79, y80, y81, y82, y83⟩ H;replace H : cf F a1 a2 a3 a4 a5 a6 a7 a9 y66 y78 y79 y80 y81 y82 y83 = some r11 := H
   unfold cf at H
   refine ck (X := Nat × (List UInt8) × Int × Int × (List UInt8) × (List UInt8) × (List UInt8) × (List UInt8)) (fun (o100, y101, y102, y103, y104, y105, y106, y107) => ⟨[(13, .pt o28 0), (14, slE Enc.byte y66 (some t67)), (19, .pt o100 0), (20, slE Enc.byte y101 none)], [], [.obj o100 [i64 y102, i64 y103, S y104, S y105, S y106, slE Enc.byte y107 none], .obj o28 [i64 y78, i64 y79, S y80, S y81, S y82, slE Enc.byte y83 none], .tok t67 5]⟩) (fun (o100, y101, y102, y103, y104, y105, y106, y107) => cS F y66 y78 y79 y80 y81 y82 y83 y101 y102 y103 y104 y105 y106 y107 = some r11) ?_ ?_
   ·obtain ⟨g86, H⟩ := bb H;obtain ⟨g88, H⟩ := bb H;obtain ⟨x89, e90, H⟩ := cE H;obtain ⟨x91, e92, H⟩ := cZ H;refine bq (by kernel_rfl) ?_;show AI _ _ _ _ _ 12 (Array.replicate 12 false) _;refine zk 0 rfl (aY aJ rfl (n := 6) (by kernel_rfl) rfl (ab rfl)) ?_;show AI _ _ _ _ _ _ #[true, false, false, false, false, false, false, false, false, false, false, false] _;refine zk 1 rfl (ag (av := slE _ _ _) rfl) ?_;show AI _ _ _ _ _ _ #[true, true, false, false, false, false, false, false, false, false, false, false] _;refine zk 3 rfl (ag (av := slE _ _ _) rfl) ?_;show AI _ _ _ _ _ _ #[true, true, false, true, false, false, false, false, false, false, false, false] _;refine cl (i := 2) (j := 9) (by kernel_rfl) rfl rfl rfl rfl ?_ ?_
    ·refine cH rfl (kA (E := Enc.byte) (bytes := 1) aa aa rfl (by kernel_rfl) rfl rfl rfl g86) ?_;rintro _ _ ⟨t85, rfl, rfl⟩;show AI _ _ _ _ _ _ #[true, true, true, true, false, false, false, false, false, false, false, false] _;refine cl (i := 4) (j := 9) (by kernel_rfl) rfl rfl rfl rfl ?_ ?_
     ·refine cH rfl (dy (E := Enc.byte) (bytes := 1) 0 aa aa rfl (by kernel_rfl) rfl rfl rfl rfl g88 e90) ?_;rintro _ _ ⟨t87, rfl, rfl⟩;show AI _ _ _ _ _ _ #[true, true, true, true, true, false, false, false, false, false, false, false] _;refine cl (i := 5) (j := 9) (by kernel_rfl) rfl rfl rfl rfl ?_ ?_
      ·refine bO rfl eA rfl (gJ F a1 a2 a3 a4 a5 a6 x89 (some t87) x91.1 x91.2.1 x91.2.2.1 x91.2.2.2.1 x91.2.2.2.2.1 x91.2.2.2.2.2.1 x91.2.2.2.2.2.2 e92) ?_;show AI _ _ _ _ _ _ #[true, true, true, true, true, true, false, false, false, false, false, false] _;refine zk 6 rfl (ag (av := .tup _) rfl) ?_;show AI _ _ _ _ _ _ #[true, true, true, true, true, true, true, false, false, false, false, false] _;refine zk 7 rfl (aH (av := .agg _) rfl rfl) ?_;show AI _ _ _ _ _ _ #[true, true, true, true, true, true, true, true, false, false, false, false] _;refine zk 8 rfl (aH (av := slE _ _ _) rfl rfl) ?_;show AI _ _ _ _ _ _ #[true, true, true, true, true, true, true, true, true, false, false, false] _;refine aE (i := 9) (by kernel_rfl) rfl rfl <| cH rfl (bN (zs := [.int .i64 0, .int .i64 0, .string ⟨#[]⟩, .string ⟨#[]⟩, .string ⟨#[]⟩, .slice none 0 0]) (by kernel_rfl)) ?_;rintro _ _ ⟨o93, rfl, rfl⟩;show AI _ _ _ _ _ _ #[true, true, true, true, true, true, true, true, true, true, false, false] _;refine aE (i := 10) (by kernel_rfl) rfl rfl <| bL (aP (i := 0) (vs := [i64 x91.1, i64 x91.2.1, S x91.2.2.1, S x91.2.2.2.1, S x91.2.2.2.2.1, slE Enc.byte x91.2.2.2.2.2.1 none]) (by kernel_rfl) rfl rfl (by simp [br, slE]) rfl (ab rfl)) ?_;show AI _ _ _ _ _ _ #[true, true, true, true, true, true, true, true, true, true, true, false] _;refine zk 11 rfl (ay (av := slE _ _ _) rfl) ?_;show AI _ _ _ _ _ _ #[true, true, true, true, true, true, true, true, true, true, true, true] _
       refine ba rfl ?_;exact Exists.intro (o93, x91.2.2.2.2.2.2, x91.1, x91.2.1, x91.2.2.1, x91.2.2.2.1, x91.2.2.2.2.1, x91.2.2.2.2.2.1) ⟨H, bh [0, 1, 1] (.cons (.refl _) (.cons (.refl _) (.cons (.refl _) (.cons (.refl _) (.nil _))))) rfl⟩
      ·refine cH rfl (bN (zs := [.int .i64 0, .int .i64 0, .string ⟨#[]⟩, .string ⟨#[]⟩, .string ⟨#[]⟩, .slice none 0 0]) (by kernel_rfl)) ?_;rintro _ _ ⟨o94, rfl, rfl⟩;show AI _ _ _ _ _ _ #[true, true, true, true, true, false, false, false, false, true, false, false] _;refine aE (i := 5) (by kernel_rfl) rfl rfl <| bO rfl eA rfl (gJ F a1 a2 a3 a4 a5 a6 x89 (some t87) x91.1 x91.2.1 x91.2.2.1 x91.2.2.2.1 x91.2.2.2.2.1 x91.2.2.2.2.2.1 x91.2.2.2.2.2.2 e92) ?_;show AI _ _ _ _ _ _ #[true, true, true, true, true, true, false, false, false, true, false, false] _;refine zk 6 rfl (ag (av := .tup _) rfl) ?_;show AI _ _ _ _ _ _ #[true, true, true, true, true, true, true, false, false, true, false, false] _;refine zk 7 rfl (aH (av := .agg _) rfl rfl) ?_;show AI _ _ _ _ _ _ #[true, true, true, true, true, true, true, true, false, true, false, false] _;refine zk 8 rfl (aH (av := slE _ _ _) rfl rfl) ?_;show AI _ _ _ _ _ _ #[true, true, true, true, true, true, true, true, true, true, false, false] _;refine aE (i := 10) (by kernel_rfl) rfl rfl <| bL (aP (i := 0) (vs := [i64 x91.1, i64 x91.2.1, S x91.2.2.1, S x91.2.2.2.1, S x91.2.2.2.2.1, slE Enc.byte x91.2.2.2.2.2.1 none]) (by kernel_rfl) rfl rfl (by simp [br, slE]) rfl (ab rfl)) ?_;show AI _ _ _ _ _ _ #[true, true, true, true, true, true, true, true, true, true, true, false] _;refine zk 11 rfl (ay (av := slE _ _ _) rfl) ?_;show AI _ _ _ _ _ _ #[true, true, true, true, true, true, true, true, true, true, true, true] _
       refine ba rfl ?_;exact Exists.intro (o94, x91.2.2.2.2.2.2, x91.1, x91.2.1, x91.2.2.1, x91.2.2.2.1, x91.2.2.2.2.1, x91.2.2.2.2.2.1) ⟨H, bh [0, 1, 1] (.cons (.refl _) (.cons (.refl _) (.cons (.refl _) (.cons (.refl _) (.nil _))))) rfl⟩
     ·refine cH rfl (bN (zs := [.int .i64 0, .int .i64 0, .string ⟨#[]⟩, .string ⟨#[]⟩, .string ⟨#[]⟩, .slice none 0 0]) (by kernel_rfl)) ?_;rintro _ _ ⟨o95, rfl, rfl⟩;show AI _ _ _ _ _ _ #[true, true, true, true, false, false, false, false, false, true, false, false] _;refine aE (i := 4) (by kernel_rfl) rfl rfl <| cH rfl (dy (E := Enc.byte) (bytes := 1) 1 aa aa rfl (by kernel_rfl) rfl rfl rfl rfl g88 e90) ?_;rintro _ _ ⟨t96, rfl, rfl⟩;show AI _ _ _ _ _ _ #[true, true, true, true, true, false, false, false, false, true, false, false] _;refine aE (i := 5) (by kernel_rfl) rfl rfl <| bO rfl eA rfl (gJ F a1 a2 a3 a4 a5 a6 x89 (some t96) x91.1 x91.2.1 x91.2.2.1 x91.2.2.2.1 x91.2.2.2.2.1 x91.2.2.2.2.2.1 x91.2.2.2.2.2.2 e92) ?_;show AI _ _ _ _ _ _ #[true, true, true, true, true, true, false, false, false, true, false, false] _;refine zk 6 rfl (ag (av := .tup _) rfl) ?_;show AI _ _ _ _ _ _ #[true, true, true, true, true, true, true, false, false, true, false, false] _;refine zk 7 rfl (aH (av := .agg _) rfl rfl) ?_;show AI _ _ _ _ _ _ #[true, true, true, true, true, true, true, true, false, true, false, false] _;refine zk 8 rfl (aH (av := slE _ _ _) rfl rfl) ?_;show AI _ _ _ _ _ _ #[true, true, true, true, true, true, true, true, true, true, false, false] _
      refine aE (i := 10) (by kernel_rfl) rfl rfl <| bL (aP (i := 0) (vs := [i64 x91.1, i64 x91.2.1, S x91.2.2.1, S x91.2.2.2.1, S x91.2.2.2.2.1, slE Enc.byte x91.2.2.2.2.2.1 none]) (by kernel_rfl) rfl rfl (by simp [br, slE]) rfl (ab rfl)) ?_;show AI _ _ _ _ _ _ #[true, true, true, true, true, true, true, true, true, true, true, false] _;refine zk 11 rfl (ay (av := slE _ _ _) rfl) ?_;show AI _ _ _ _ _ _ #[true, true, true, true, true, true, true, true, true, true, true, true] _;refine ba rfl ?_;exact Exists.intro (o95, x91.2.2.2.2.2.2, x91.1, x91.2.1, x91.2.2.1, x91.2.2.2.1, x91.2.2.2.2.1, x91.2.2.2.2.2.1) ⟨H, bh [0, 1, 1] (.cons (.refl _) (.cons (.refl _) (.cons (.refl _) (.cons (.refl _) (.nil _))))) rfl⟩
    ·refine cH rfl (bN (zs := [.int .i64 0, .int .i64 0, .string ⟨#[]⟩, .string ⟨#[]⟩, .string ⟨#[]⟩, .slice none 0 0]) (by kernel_rfl)) ?_;rintro _ _ ⟨o97, rfl, rfl⟩;show AI _ _ _ _ _ _ #[true, true, false, true, false, false, false, false, false, true, false, false] _;refine aE (i := 2) (by kernel_rfl) rfl rfl <| cH rfl (kA (E := Enc.byte) (bytes := 1) aa aa rfl (by kernel_rfl) rfl rfl rfl g86) ?_;rintro _ _ ⟨t98, rfl, rfl⟩;show AI _ _ _ _ _ _ #[true, true, true, true, false, false, false, false, false, true, false, false] _;refine aE (i := 4) (by kernel_rfl) rfl rfl <| cH rfl (dy (E := Enc.byte) (bytes := 1) 0 aa aa rfl (by kernel_rfl) rfl rfl rfl rfl g88 e90) ?_;rintro _ _ ⟨t99, rfl, rfl⟩;show AI _ _ _ _ _ _ #[true, true, true, true, true, false, false, false, false, true, false, false] _;refine aE (i := 5) (by kernel_rfl) rfl rfl <| bO rfl eA rfl (gJ F a1 a2 a3 a4 a5 a6 x89 (some t99) x91.1 x91.2.1 x91.2.2.1 x91.2.2.2.1 x91.2.2.2.2.1 x91.2.2.2.2.2.1 x91.2.2.2.2.2.2 e92) ?_;show AI _ _ _ _ _ _ #[true, true, true, true, true, true, false, false, false, true, false, false] _;refine zk 6 rfl (ag (av := .tup _) rfl) ?_;show AI _ _ _ _ _ _ #[true, true, true, true, true, true, true, false, false, true, false, false] _;refine zk 7 rfl (aH (av := .agg _) rfl rfl) ?_;show AI _ _ _ _ _ _ #[true, true, true, true, true, true, true, true, false, true, false, false] _;refine zk 8 rfl (aH (av := slE _ _ _) rfl rfl) ?_
     show AI _ _ _ _ _ _ #[true, true, true, true, true, true, true, true, true, true, false, false] _;refine aE (i := 10) (by kernel_rfl) rfl rfl <| bL (aP (i := 1) (vs := [i64 x91.1, i64 x91.2.1, S x91.2.2.1, S x91.2.2.2.1, S x91.2.2.2.2.1, slE Enc.byte x91.2.2.2.2.2.1 none]) (by kernel_rfl) rfl rfl (by simp [br, slE]) rfl (ab rfl)) ?_;show AI _ _ _ _ _ _ #[true, true, true, true, true, true, true, true, true, true, true, false] _;refine zk 11 rfl (ay (av := slE _ _ _) rfl) ?_;show AI _ _ _ _ _ _ #[true, true, true, true, true, true, true, true, true, true, true, true] _;refine ba rfl ?_;exact Exists.intro (o97, x91.2.2.2.2.2.2, x91.1, x91.2.1, x91.2.2.1, x91.2.2.2.1, x91.2.2.2.2.1, x91.2.2.2.2.2.1) ⟨H, bh [1, 1, 1] (.cons (.refl _) (.cons (.refl _) (.cons (.refl _) (.cons (.refl _) (.nil _))))) rfl⟩
   rintro ⟨o100, y101, y102, y103, y104, y105, y106, y107⟩ H;replace H : cS F y66 y78 y79 y80 y81 y82 y83 y101 y102 y103 y104 y105 y106 y107 = some r11 := H
   unfold cS at H
   refine aj ?_;obtain ⟨x109, e110, H⟩ := cZ H;refine ac ?_;show AR _ _ _ _ _ [0, 1, 2, 3] _;refine zR rfl (bU (i := 1) (n := 6) aJ rfl (by kernel_rfl) rfl rfl (ab rfl)) <| zR rfl (bU (i := 0) (n := 6) aJ rfl (by kernel_rfl) rfl rfl (ab rfl)) <| an rfl rfl (aQ rfl ko rfl (ot F y78 y79 y80 y81 y82 y83 y102 y103 y104 y105 y106 y107 x109 e110) ?_);refine za rfl <| al <| aj <| ac ?_;show AR _ _ _ _ _ [0, 1, 2, 3, 4, 5, 6, 7, 8] _;refine zm rfl <| zm rfl <| aN (l := [8]) 117 (B (x109 && (decide (y101 = y66)))) (fun K => ?_) ?_
   ·rcases af x109 with h111 | h111
    ·refine zU h111 rfl (ag (av := slE _ _ _) rfl) <| zU h111 rfl (cA aa aR ak rfl) <| zU h111 rfl (ag (av := slE _ _ _) rfl) <| zU h111 rfl (cA aa aR ak rfl) <| zU h111 rfl (fC rfl rfl) <| zS rfl (az (av := .v _) rfl h111 rfl) ?_;exact K _ 5 _ (aq (ca h111)) rfl rfl
    ·refine zF h111 rfl <| zF h111 rfl <| zF h111 rfl <| zF h111 rfl <| zF h111 rfl <| zS rfl (aw (av := .v _) rfl h111 rfl) ?_;exact K _ 5 _ (aq (cb h111)) rfl rfl
   refine za rfl <| al <| aU ?_;obtain rfl := aC H;exact And.intro rfl (Exists.intro _ (Exists.intro _ ⟨aV rfl (.refl _), aK [] rfl, rfl, rfl⟩))
end Go.Proofs.YtgjkjkmmgdbcoaaGreatDoor
namespace Go.Cl
open Go.Pv Go.Av
abbrev Bs := List UInt8
def NoCr (l : Bs) : Prop := ∀ c ∈ l, c ≠ 13 ∧ c ≠ 10
def lnD (l : Bs) : Bs := l ++ [13, 10]
def flD (ls : List Bs) : Bs := (ls.map lnD).flatten
def okD : Bool → Bs → Bool
  | p, [] => !p
  | p, c :: r => if c = 13 then !p && okD true r else if c = 10 then p && okD false r else !p && okD false r
def endD (b : Bs) : Bool := decide (b = []) || decide (b.getLast? = some 10)
def nj (b : Bs) : Bool := okD false b && endD b
theorem qz (p : Bool) (r : Bs) : okD p (13 :: r) = (!p && okD true r) := rfl
theorem qA (p : Bool) (r : Bs) : okD p (10 :: r) = (p && okD false r) := rfl
theorem okD_c (p : Bool) {c : UInt8} (r : Bs) (h : c ≠ 13) (g : c ≠ 10) : okD p (c :: r) = (!p && okD false r) := by
  show (if c = 13 then !p && okD true r else if c = 10 then p && okD false r else !p && okD false r) = _
  rw [if_neg h, if_neg g]
def pr : Bool → Bs → Nat
  | p, [] => 0
  | p, c :: r => (if p = true ∧ c = 10 then 1 else 0) + pr (decide (c = 13)) r
theorem pr_le : ∀ (b : Bs) (p : Bool), pr p b ≤ b.count 10 ∧ pr p b ≤ b.count 13 + (if p = true then 1 else 0)
  | [], p => by simp [pr]
  | c :: r, p => by
    obtain ⟨h1, h2⟩ := pr_le r (decide (c = 13))
    unfold pr
    rw [List.count_cons, List.count_cons]
    by_cases a : c = 13
    · subst a
      simp at h1 h2 ⊢
      omega
    · by_cases g : c = 10
      · subst g
        simp at h1 h2 ⊢
        cases p <;> simp <;> omega
      · have e1 : (c == 13) = false := by simpa using a
        have e2 : (c == 10) = false := by simpa using g
        rw [decide_eq_false a] at h1 h2 ⊢
        rw [e1, e2]
        simp [g] at h1 h2 ⊢
        omega
theorem pr_ok : ∀ (b : Bs) (p : Bool), (pr p b = b.count 10 ∧ pr p b = b.count 13 + (if p = true then 1 else 0)) ↔ okD p b = true
  | [], p => by cases p <;> simp [pr, okD]
  | c :: r, p => by
    have hl := pr_le r
    by_cases a : c = 13
    · subst a
      have ih := pr_ok r true
      have hl := hl true
      rw [qz]
      unfold pr
      rw [List.count_cons, List.count_cons]
      cases p with
      | false => simp at ih hl ⊢; rw [← ih]
      | true => simp at ih hl ⊢; omega
    · by_cases g : c = 10
      · subst g
        have ih := pr_ok r false
        have hl := hl false
        rw [qA]
        unfold pr
        rw [List.count_cons, List.count_cons]
        cases p with
        | false => simp at ih hl ⊢; omega
        | true => simp at ih hl ⊢; rw [← ih]; constructor <;> rintro ⟨x, y⟩ <;> constructor <;> omega
      · have e1 : (c == 13) = false := by simpa using a
        have e2 : (c == 10) = false := by simpa using g
        have ih := pr_ok r false
        have hl := hl false
        rw [okD_c p r a g]
        unfold pr
        rw [List.count_cons, List.count_cons, e1, e2, decide_eq_false a]
        cases p with
        | false => simp at ih hl ⊢; rw [← ih]
        | true => simp [g] at ih hl ⊢; omega
theorem gl_app (a : Bs) {b : Bs} (h : b ≠ []) : (a ++ b).getLast? = b.getLast? := by
  rw [List.getLast?_append]
  cases e : b.getLast? with
  | none => exact absurd (List.getLast?_eq_none_iff.1 e) h
  | some x => rfl
theorem ll : ∀ (m : Nat) (b l : Bs), b.length < m → NoCr l → okD false b = true → (l ++ b = [] ∨ (l ++ b).getLast? = some 10) → ∃ ls, (∀ x ∈ ls, NoCr x) ∧ l ++ b = flD ls
  | 0, b, l, h, _, _, _ => by omega
  | m + 1, [], l, h, hl, hk, he => by
    rw [List.append_nil] at he
    have : l = [] := by
      rcases he with e | e
      · exact e
      · by_cases g : l = []
        · exact g
        · have := List.mem_of_getLast? e
          exact absurd rfl (hl 10 this).2
    subst this;exact ⟨[], by simp, rfl⟩
  | m + 1, c :: b, l, h, hl, hk, he => by
    by_cases a : c = 13
    · subst a
      rw [qz] at hk
      cases b with
      | nil => simp [okD] at hk
      | cons d b =>
        have hd : d = 10 := by
          by_cases g : d = 10
          · exact g
          · by_cases g2 : d = 13
            · subst g2; rw [qz] at hk; simp at hk
            · rw [okD_c _ _ g2 g] at hk; simp at hk
        subst hd
        rw [qA] at hk
        have hk' : okD false b = true := by simpa using hk
        have he' : [] ++ b = [] ∨ ([] ++ b).getLast? = some 10 := by
          rw [List.nil_append]
          by_cases g : b = []
          · exact .inl g
          · right
            rcases he with e | e
            · simp at e
            · rw [show l ++ 13 :: 10 :: b = (l ++ [13, 10]) ++ b by simp, gl_app _ g] at e
              exact e
        obtain ⟨ls, h1, h2⟩ := ll m b [] (by simp at h; omega) (by intro x hx; cases hx) hk' he'
        rw [List.nil_append] at h2
        refine ⟨l :: ls, fun x hx => ?_, by rw [h2]; simp [flD, lnD]⟩
        rcases List.mem_cons.1 hx with rfl | hx
        · exact hl
        · exact h1 x hx
    · by_cases g : c = 10
      · subst g; rw [qA] at hk; simp at hk
      · rw [okD_c _ _ a g] at hk
        have hk' : okD false b = true := by simpa using hk
        have := ll m b (l ++ [c]) (by simp at h; omega) (fun x hx => by
          rcases List.mem_append.1 hx with hx | hx
          · exact hl x hx
          · rw [List.mem_singleton.1 hx]; exact ⟨a, g⟩) hk' (by rw [List.append_assoc]; exact he)
        rw [List.append_assoc] at this
        exact this
theorem nF {b : Bs} (h : nj b = true) : ∃ ls, (∀ l ∈ ls, NoCr l) ∧ b = flD ls := by
  unfold nj endD at h
  simp only [Bool.and_eq_true, Bool.or_eq_true, decide_eq_true_eq] at h
  obtain ⟨ls, h1, h2⟩ := ll (b.length + 1) b [] (Nat.lt_succ_self _) (by intro x hx; cases hx) h.1 h.2;exact ⟨ls, h1, h2⟩
def stD : Bool → Bs → Bs
  | _, [] => []
  | s, c :: r => (if s = true ∧ c = 46 then [46, c] else [c]) ++ stD (decide (c = 10)) r
def kC (b : Bs) : Bs := if nj b = true then stD true b ++ [46, 13, 10] else []
def lW (l : Bs) : Bs := if l.head? = some 46 then 46 :: lnD l else lnD l
theorem st_in : ∀ (l r : Bs), NoCr l → stD false (l ++ 13 :: 10 :: r) = l ++ 13 :: 10 :: stD true r
  | [], r, _ => by simp [stD]
  | c :: l, r, h => by
    obtain ⟨h1, h2⟩ := h c (by simp);show (if false = true ∧ c = 46 then [46, c] else [c]) ++ stD (decide (c = 10)) (l ++ 13 :: 10 :: r) = _
    rw [decide_eq_false h2, st_in l r fun x hx => h x (by simp [hx])]
    simp
theorem st_ln (l r : Bs) (h : NoCr l) : stD true (l ++ 13 :: 10 :: r) = lW l ++ stD true r := by
  cases l with
  | nil => simp [stD, lW, lnD]
  | cons c l =>
    obtain ⟨h1, h2⟩ := h c (by simp);show (if true = true ∧ c = 46 then [46, c] else [c]) ++ stD (decide (c = 10)) (l ++ 13 :: 10 :: r) = _
    rw [decide_eq_false h2, st_in l r fun x hx => h x (by simp [hx])]
    unfold lW lnD
    by_cases g : c = 46
    · subst g; simp
    · simp [g]
theorem mG : ∀ ls : List Bs, (∀ l ∈ ls, NoCr l) → stD true (flD ls) = (ls.map lW).flatten
  | [], _ => rfl
  | l :: ls, h => by
    have e : flD (l :: ls) = l ++ 13 :: 10 :: flD ls := by simp [flD, lnD]
    rw [e, st_ln l _ (h l (by simp)), mG ls fun x hx => h x (by simp [hx])]
    simp
theorem qx : ∀ (b : Bs) (s : Bool), (stD s b).length ≤ 2 * b.length
  | [], _ => by simp [stD]
  | c :: r, s => by
    have := qx r (decide (c = 10))
    unfold stD
    rw [List.length_append]
    split <;> simp <;> omega
theorem mI (b : Bs) : (kC b).length ≤ 2 * b.length + 3 := by
  unfold kC
  split
  · have := qx b true
    simp; omega
  · simp
end Go.Cl
namespace Go.Dg
open Go.Pv Go.Av
open Go.Lib (decDigits)
abbrev Bs := List UInt8
theorem eu {n : Nat} (h : n < 10) : decDigits n = [UInt8.ofNat (48 + n)] := by rw [decDigits, dif_pos h]
theorem gk {n : Nat} (h : ¬ n < 10) : decDigits n = decDigits (n / 10) ++ [UInt8.ofNat (48 + n % 10)] := by rw [decDigits, dif_neg h]
theorem ir (n : Nat) : Go.Lib.itoa (n : Int) = decDigits n := by
  unfold Go.Lib.itoa
  rw [if_neg (by omega), Int.toNat_natCast]
theorem gx (k : Nat) (h : k < 10) : (UInt8.ofNat (48 + k)).toNat = 48 + k := by
  have : ∀ k : Fin 10, (UInt8.ofNat (48 + k.val)).toNat = 48 + k.val := by decide +kernel
  exact this ⟨k, h⟩
def Dig (c : UInt8) : Prop := 48 ≤ c.toNat ∧ c.toNat ≤ 57
theorem dd_dig : ∀ (m n : Nat), n < m → ∀ c ∈ decDigits n, Dig c := by
  intro m
  induction m with
  | zero => intro n h; omega
  | succ m ih =>
    intro n h c hc
    by_cases hn : n < 10
    · rw [eu hn] at hc
      rw [List.mem_singleton.1 hc]; unfold Dig; rw [gx n hn]; omega
    · rw [gk hn] at hc
      rcases List.mem_append.1 hc with hc | hc
      · exact ih (n / 10) (by omega) c hc
      · rw [List.mem_singleton.1 hc]; unfold Dig; rw [gx _ (by omega)]; omega
theorem mc (n : Nat) : ∀ c ∈ decDigits n, Dig c := dd_dig (n + 1) n (by omega)
theorem oU : ∀ (m n : Nat), n < 10 ^ m → (decDigits n).length ≤ m + 1 := by
  intro m
  induction m with
  | zero => intro n h; rw [eu (by omega)]; simp
  | succ m ih =>
    intro n h
    by_cases hn : n < 10
    · rw [eu hn]; simp
    · have h10 : n / 10 < 10 ^ m := by rw [Nat.pow_succ] at h; omega
      rw [gk hn, List.length_append]
      have := ih _ h10
      simp; omega
theorem mS (n : Nat) : 1 ≤ (decDigits n).length := by
  by_cases hn : n < 10
  · rw [eu hn]; simp
  · rw [gk hn]; simp
def val (v : Nat) : Bs → Nat
  | [] => v
  | c :: r => val (10 * v + (c.toNat - 48)) r
theorem qG : ∀ (a b : Bs) (v : Nat), val v (a ++ b) = val (val v a) b
  | [], b, v => rfl
  | c :: r, b, v => qG r b _
theorem val_dd : ∀ (m n : Nat), n < m → val 0 (decDigits n) = n := by
  intro m
  induction m with
  | zero => intro n h; omega
  | succ m ih =>
    intro n h
    by_cases hn : n < 10
    · rw [eu hn]; show 10 * 0 + ((UInt8.ofNat (48 + n)).toNat - 48) = n; rw [gx n hn]; omega
    · rw [gk hn, qG, ih (n / 10) (by omega)]
      show 10 * (n / 10) + ((UInt8.ofNat (48 + n % 10)).toNat - 48) = n
      rw [gx _ (by omega)]; omega
theorem oG (n : Nat) : val 0 (decDigits n) = n := val_dd (n + 1) n (by omega)
end Go.Dg
namespace Go.Cl
open Go.Pv Go.Av
theorem mL (x : UInt8) (r u : Bs) : Go.Lib.index (x :: r) u = if u.isPrefixOf (x :: r) = true then 0 else if Go.Lib.index r u = -1 then -1 else Go.Lib.index r u + 1 := by
  by_cases h : u.isPrefixOf (x :: r) = true
  · simp [Go.Lib.index, h]
  · simp [Go.Lib.index, h]
theorem pr_idx : ∀ (b : Bs), (Go.Lib.index b [13, 10] = -1 ∧ pr false b = 0) ∨ ∃ i : Nat, Go.Lib.index b [13, 10] = (i : Int) ∧ i + 2 ≤ b.length ∧ pr false b = 1 + pr false (b.drop (i + 2))
  | [] => .inl ⟨by simp [Go.Lib.index], rfl⟩
  | c :: r => by
    have ih := pr_idx r
    by_cases h : c = 13
    · subst h
      cases r with
      | nil => left; exact ⟨by simp [Go.Lib.index], by simp [pr]⟩
      | cons d r =>
        by_cases g : d = 10
        · subst g
          right
          exact ⟨0, by simp [Go.Lib.index], by simp, by simp [pr]⟩
        · have hx : ([13, 10] : Bs).isPrefixOf (13 :: d :: r) = false := by
            have : (10 == d) = false := by simpa using fun q => g q.symm
            simp [List.isPrefixOf, this]
          have e : pr false (13 :: d :: r) = pr false (d :: r) := by simp [pr, g]
          rw [mL, hx, e]
          simp only [Bool.false_eq_true, if_false]
          rcases ih with ⟨h1, h2⟩ | ⟨i, h1, h2, h3⟩
          · left; rw [if_pos h1]; exact ⟨rfl, h2⟩
          · right
            refine ⟨i + 1, ?_, by simp at h2 ⊢; omega, ?_⟩
            · rw [if_neg (by omega), h1]; rfl
            · rw [h3]; rfl
    · have hx : ([13, 10] : Bs).isPrefixOf (c :: r) = false := by
        have : (13 == c) = false := by simpa using fun q => h q.symm
        simp [List.isPrefixOf, this]
      have e : pr false (c :: r) = pr false r := by simp [pr, h]
      rw [mL, hx, e]
      simp only [Bool.false_eq_true, if_false]
      rcases ih with ⟨h1, h2⟩ | ⟨i, h1, h2, h3⟩
      · left; rw [if_pos h1]; exact ⟨rfl, h2⟩
      · right
        refine ⟨i + 1, ?_, by simp at h2 ⊢; omega, ?_⟩
        · rw [if_neg (by omega), h1]; rfl
        · rw [h3]; rfl
theorem idx_ln : ∀ (l r : Bs), NoCr l → Go.Lib.index (l ++ 13 :: 10 :: r) [13, 10] = (l.length : Int)
  | [], r, _ => by simp [Go.Lib.index]
  | c :: l, r, h => by
    obtain ⟨h1, h2⟩ := h c (by simp)
    have hx : ([13, 10] : Bs).isPrefixOf (c :: (l ++ 13 :: 10 :: r)) = false := by
      have : (13 == c) = false := by simpa using fun q => h1 q.symm
      simp [List.isPrefixOf, this]
    show Go.Lib.index (c :: (l ++ 13 :: 10 :: r)) [13, 10] = _
    rw [mL, hx, idx_ln l r fun x hx => h x (by simp [hx])]
    simp only [Bool.false_eq_true, if_false]
    rw [if_neg (by omega)]
    simp
theorem idx_nil : Go.Lib.index [] [13, 10] = -1 := by simp [Go.Lib.index]
def gp (c : UInt8) : UInt8 := if 65 ≤ c.toNat ∧ c.toNat ≤ 90 then c + 97 - 65 else c
def kE (c : UInt8) : Bool := decide (48 ≤ c.toNat) && decide (c.toNat ≤ 57)
def mT (s : Bs) : Option Nat :=
  if (6 ≤ s.length ∧ s.length ≤ 14) ∧ (s.take 5).map gp = [115, 105, 122, 101, 32] ∧ (s.drop 5).all kE = true then some (Go.Dg.val 0 (s.drop 5)) else none
def pQ : List Bs → Nat
  | [] => 0
  | s :: r => match mT s with | some n => n | none => pQ r
def fg (ls : List Bs) : Nat := pQ (ls.drop 1)
def quitD : Bs := [81, 85, 73, 84, 13, 10]
def ehloD (nm : Bs) : Bs := [69, 72, 76, 79, 32] ++ nm ++ [13, 10]
def oB (fr : Bs) : Bs := [77, 65, 73, 76, 32, 70, 82, 79, 77, 58, 60] ++ fr ++ [62, 13, 10]
def pR (rc : Bs) : Bs := [82, 67, 80, 84, 32, 84, 79, 58, 60] ++ rc ++ [62, 13, 10]
def dataD : Bs := [68, 65, 84, 65, 13, 10]
def fy (ph c : Int) : Bool := if ph = 0 then decide (c = 220) else if ph = 4 then decide (c = 354) else decide (200 ≤ c) && decide (c ≤ 299)
abbrev St := Int × Int × Bs
section
variable (fr rc nm ml : Bs)
def goP (ph out : Int) (ls : List Bs) : St :=
  if ph = 0 then (1, out, ehloD nm) else if ph = 1 then (if 0 < fg ls ∧ fg ls < (kC ml).length then (6, 3, quitD) else (2, out, oB fr))
  else if ph = 2 then (3, out, pR rc) else if ph = 3 then (4, out, dataD) else if ph = 4 then (5, out, kC ml) else (6, 1, quitD)
def eD (ph out c : Int) (ls : List Bs) : St :=
  if ph < 0 ∨ 7 ≤ ph then (ph, out, []) else if c = 421 then (7, (if out = 0 then 2 else out), []) else if ph = 6 then (7, out, [])
  else if fy ph c = true then goP fr rc nm ml ph out ls else (6, (if 500 ≤ c ∧ c ≤ 599 then 3 else 2), quitD)
def lf {M : Type} : St → List (Int × List Bs × M) → St
  | s, [] => s
  | s, x :: r => lf ((eD fr rc nm ml s.1 s.2.1 x.1 x.2.1).1, (eD fr rc nm ml s.1 s.2.1 x.1 x.2.1).2.1, s.2.2 ++ (eD fr rc nm ml s.1 s.2.1 x.1 x.2.1).2.2) r
def kD (s : St) : St := if s.1 = 7 then s else (7, (if s.2.1 = 0 then 2 else s.2.1), s.2.2)
theorem nz (out c : Int) (ls : List Bs) : eD fr rc nm ml 7 out c ls = (7, out, []) := by unfold eD; rw [if_pos (by omega)]
def partD : Nat → Bs
  | 0 => ehloD nm
  | 1 => oB fr
  | 2 => pR rc
  | 3 => dataD
  | _ => kC ml
def preD : Nat → Bs
  | 0 => []
  | k + 1 => preD k ++ partD fr rc nm ml k
inductive Iv : Int → Int → Bs → Prop
  | go (k : Nat) (h : k ≤ 5) : Iv (k : Int) 0 (preD fr rc nm ml k)
  | stop (k : Nat) (out : Int) (h : k ≤ 5) (ho : out = 2 ∨ out = 3 ∨ (out = 1 ∧ k = 5)) : Iv 6 out (preD fr rc nm ml k ++ quitD)
  | off (k : Nat) (h : k ≤ 5) : Iv 7 2 (preD fr rc nm ml k)
  | done (k : Nat) (out : Int) (h : k ≤ 5) (ho : out = 2 ∨ out = 3 ∨ (out = 1 ∧ k = 5)) : Iv 7 out (preD fr rc nm ml k ++ quitD)
theorem Iv.step {ph out : Int} {a : Bs} (h : Iv fr rc nm ml ph out a) (c : Int) (ls : List Bs) :
    Iv fr rc nm ml (eD fr rc nm ml ph out c ls).1 (eD fr rc nm ml ph out c ls).2.1 (a ++ (eD fr rc nm ml ph out c ls).2.2) := by
  cases h with
  | go k h =>
    unfold eD
    rw [if_neg (by omega)]
    by_cases h1 : c = 421
    · rw [if_pos h1]
      simp only [List.append_nil, if_true]
      exact .off k h
    · rw [if_neg h1, if_neg (by omega)]
      by_cases h2 : fy (k : Int) c = true
      · rw [if_pos h2]
        unfold goP
        have : k = 0 ∨ k = 1 ∨ k = 2 ∨ k = 3 ∨ k = 4 ∨ k = 5 := by omega
        rcases this with rfl | rfl | rfl | rfl | rfl | rfl
        · exact Iv.go 1 (by omega)
        · by_cases q : 0 < fg ls ∧ fg ls < (kC ml).length
          · rw [if_neg (by decide), if_pos (by decide), if_pos q]
            exact Iv.stop 1 3 (by omega) (by omega)
          · rw [if_neg (by decide), if_pos (by decide), if_neg q]
            exact Iv.go 2 (by omega)
        · exact Iv.go 3 (by omega)
        · exact Iv.go 4 (by omega)
        · exact Iv.go 5 (by omega)
        · exact Iv.stop 5 1 (by omega) (by omega)
      · rw [if_neg h2]
        by_cases q : 500 ≤ c ∧ c ≤ 599
        · rw [if_pos q]; exact .stop k 3 h (by omega)
        · rw [if_neg q]; exact .stop k 2 h (by omega)
  | stop k out h ho =>
    have hne : ¬ out = 0 := by omega
    unfold eD
    rw [if_neg (by omega)]
    by_cases h1 : c = 421
    · rw [if_pos h1, if_neg hne]
      simp only [List.append_nil]
      exact .done k _ h ho
    · rw [if_neg h1, if_pos rfl]
      simp only [List.append_nil]
      exact .done k _ h ho
  | off k h => rw [nz]; simp only [List.append_nil]; exact .off k h
  | done k out h ho => rw [nz]; simp only [List.append_nil]; exact .done k _ h ho
theorem Iv.run {M : Type} : ∀ (l : List (Int × List Bs × M)) {ph out : Int} {a : Bs}, Iv fr rc nm ml ph out a → Iv fr rc nm ml (lf fr rc nm ml (ph, out, a) l).1 (lf fr rc nm ml (ph, out, a) l).2.1 (lf fr rc nm ml (ph, out, a) l).2.2
  | [], _, _, _, h => h
  | x :: r, _, _, _, h => Iv.run r (h.step fr rc nm ml x.1 x.2.1)
end
end Go.Cl
namespace Go.Dg
open Go.Pv Go.Av
open Go.Lib (decDigits)
theorem hU (x : Bool) : (true && x) = x := Eq.symm (Eq.symm rfl)
theorem ia (x : Bool) : (false && x) = false := Eq.symm (Eq.symm rfl)
theorem fo (x : Bool) : (false || x) = x := Eq.symm (Eq.symm rfl)
theorem nfl : (!false) = true := Eq.symm (Eq.symm rfl)
theorem ntr : (!true) = false := Eq.symm (Eq.symm rfl)
theorem cfl {α : Type} (a b : α) : (bif false then a else b) = b := Eq.symm (Eq.symm rfl)
theorem ctr {α : Type} (a b : α) : (bif true then a else b) = a := Eq.symm (Eq.symm rfl)
def Tot (o : Option (Int × Int)) : Prop := ∃ x k, o = some (x, k) ∧ (k = 0 ∨ k = 1 ∨ k = 2)
theorem Tot.z (x : Int) : Tot (some (x, 0)) := ⟨x, 0, rfl, .inl rfl⟩
theorem Tot.o (x : Int) : Tot (some (x, 1)) := ⟨x, 1, rfl, .inr (.inl rfl)⟩
theorem Tot.t (x : Int) : Tot (some (x, 2)) := ⟨x, 2, rfl, .inr (.inr rfl)⟩
theorem eC {c : Bool} {a b : Option (Int × Int)} (ha : Tot a) (hb : Tot b) : Tot (bif c then a else b) := by cases c <;> assumption
theorem tot_bndc {c : Bool} {v : UInt8} {f : UInt8 → Option (Int × Int)} (h : ∀ x, Tot (f x)) : Tot (iO c (some v) f) := by
  cases c
  · exact h _
  · exact h _
theorem j3_tot (y17 : Int) (y23 y24 : Int) (rec : (Bool × Int × Int) → Option (Int × Int)) (y43 : UInt8) (h : ∀ v, Tot (rec (false, v, y24 + 1))) (hb : -9223372036854775808 ≤ y24 + 1 ∧ y24 + 1 ≤ 9223372036854775807) :
    Tot (cX 10 y17 false y23 y24 rec y43) := by
  unfold cX dm
  refine eC (.t _) (eC (.o _) (eC (.o _) ?_))
  rw [dl hb]
  exact h _
theorem rh (F : Nat) (s : Bs) (c : Int) (hs : s.length ≤ 1000) : ∀ (n i : Nat) (v : Int), s.length - i < n → i ≤ s.length → Tot (cg F s 10 c n (false, v, (i : Int))) := by
  intro n
  induction n with
  | zero => intro i v h; omega
  | succ n ih =>
    intro i v hn hi;show Tot (ee F s 10 c (cg F s 10 c n) false v (i : Int))
    unfold ee
    by_cases h : i < s.length
    · have e : ((i : Int) + 1) = ((i + 1 : Nat) : Int) := by omega
      have hr : ∀ v, Tot (cg F s 10 c n (false, v, (i : Int) + 1)) := fun v => by rw [e]; exact ih (i + 1) v (by omega) (by omega)
      have h10 : decide ((10 : Int) = 0) = false := by decide
      rw [bT (by omega), cz (by omega), bG, h10, Bool.and_false, cfl]
      refine eC (j3_tot _ _ _ _ _ hr (by omega)) ?_
      unfold et
      rw [bJ]
      refine tot_bndc fun x38 => eC ?_ (.t _)
      rw [bJ]
      exact j3_tot _ _ _ _ _ hr (by omega)
    · rw [bF (by omega)]
      unfold ec
      rw [bndc_f, ia, cfl]
      exact .z _
theorem uint_tot (F : Nat) (s : Bs) (hs : s.length ≤ 1000) (hF : s.length < F) : Tot (fq F s 10 0) := by
  unfold fq
  refine eC (.t _) ?_
  have h1 : ((decide ((2 : Int) ≤ 10)) && (decide ((10 : Int) ≤ 36))) = true := by decide
  rw [h1, grd_t]
  unfold dY dZ
  rw [lU rfl, bT rfl]
  unfold cW
  have h2 : decide (0 ≤ IntKind.u64.wrap 64) = true := by decide +kernel
  rw [h2, grd_t, cO (by omega)]
  exact rh F s _ hs F 0 0 (by omega) (by omega)
theorem qh (b : Bool) (x : Int) : Tot (dn b x) := by
  unfold dn dp
  have h2 : decide (0 ≤ IntKind.u64.wrap 63) = true := by decide +kernel
  rw [h2, grd_t]
  exact eC (.o _) (eC (.o _) (eC (.z _) (.z _)))
theorem kb (F : Nat) (s : Bs) (b : Bool) (hs : s.length ≤ 1000) (hF : s.length < F) : Tot (cI F 10 0 s b) := by
  unfold cI
  obtain ⟨x, k, e, hk⟩ := uint_tot F s hs hF
  rw [e, bw]
  by_cases h2 : k = 2
  · subst h2
    have : ((!decide ((2 : Int) = 0)) && (!decide ((2 : Int) = 1))) = true := by decide
    rw [this, ctr]
    exact .t _
  · have : ((!decide (k = 0)) && (!decide (k = 1))) = false := by
      rcases hk with rfl | rfl | rfl
      · decide
      · decide
      · exact absurd rfl h2
    rw [this, cfl, lU rfl]
    exact qh _ _
theorem int_tot (F : Nat) (s : Bs) (hs : s.length ≤ 1000) (hF : s.length < F) : Tot (ft F s 10 0) := by
  unfold ft
  by_cases h : s = []
  · rw [bT h]; exact .t _
  · have hp : 0 < s.length := List.length_pos_iff.2 h
    have hf : (eQ s 1).length ≤ s.length := by unfold eQ; simp
    rw [bF h, cz (by omega), bG]
    refine eC ?_ (eC ?_ (kb F s _ hs hF))
    · rw [fW (by omega), bG]; exact kb F _ _ (by omega) (by omega)
    · rw [fW (by omega), bG]; exact kb F _ _ (by omega) (by omega)
theorem jO (a s : Bs) (ha : a ≠ []) (hs : s.length ≤ 18) : ∀ (n i v : Nat), s.length - i < n → i ≤ s.length → v < 10 ^ i → Tot (dU a s n ((v : Int), (i : Int))) := by
  intro n
  induction n with
  | zero => intro i v h; omega
  | succ n ih =>
    intro i v hn hi hv;show Tot (dV a s (dU a s n) (v : Int) (i : Int))
    unfold dV
    have hv18 : v < 10 ^ 18 := Nat.lt_of_lt_of_le hv (Nat.pow_le_pow_right (by omega) (by omega))
    by_cases h : i < s.length
    · have hv17 : v < 10 ^ 17 := Nat.lt_of_lt_of_le hv (Nat.pow_le_pow_right (by omega) (by omega))
      rw [bT (by omega), cz (by omega), bG]
      obtain ⟨c, hc⟩ : ∃ c, c = at_ s (i : Int) := ⟨_, rfl⟩
      rw [← hc]
      by_cases h9 : 9 < (c - 48).toNat
      · rw [bT (by omega)]; exact .t _
      · have e1 : ((v : Int) * 10) + ((c - 48).toNat : Int) = ((v * 10 + (c - 48).toNat : Nat) : Int) := by omega
        have e2 : ((i : Int) + 1) = ((i + 1 : Nat) : Int) := by omega
        rw [bF (by omega), dl (by omega), dl (by omega), dl (by omega), e1, e2]
        refine ih (i + 1) _ (by omega) (by omega) ?_
        rw [Nat.pow_succ]; omega
    · rw [bF (by omega)]
      unfold dS dT
      have hp : 0 < a.length := List.length_pos_iff.2 ha
      rw [cz (by omega), bG]
      refine eC ?_ (.z _)
      rw [dl (by omega)]; exact .z _
theorem atoi_tot (F : Nat) (s : Bs) (hs : s.length ≤ 1000) (hF : s.length < F) : Tot (fB F s) := by
  unfold fB dR fH
  by_cases h : 0 < s.length ∧ s.length < 19
  · have hc : ((decide (0 < (s.length : Int))) && (decide ((s.length : Int) < 19))) = true := by
      rw [decide_eq_true (by omega), decide_eq_true (by omega)]; rfl
    have hne : s ≠ [] := List.length_pos_iff.1 h.1
    have hf : (eQ s 1).length ≤ s.length := by unfold eQ; simp
    rw [hc, ctr, cz (by omega), bG]
    have hg : ∀ (c : Bool) (x : Option (Int × Int)), fG c (dj 0 s.length) x = x := fun c x => kR fun _ => by omega
    rw [hg, bG]
    refine eC ?_ ?_
    · rw [fW (by omega), bG]
      refine eC (.t _) ?_
      rw [cO (by omega)]
      exact jO s _ hne (by omega) F 0 0 (by omega) (by omega) (by omega)
    · rw [cO (by omega)]
      exact jO s _ hne (by omega) F 0 0 (by omega) (by omega) (by omega)
  · have hc : ((decide (0 < (s.length : Int))) && (decide ((s.length : Int) < 19))) = false := by
      by_cases h0 : 0 < s.length
      · rw [decide_eq_false (show ¬ ((s.length : Int) < 19) by omega), Bool.and_false]
      · rw [decide_eq_false (show ¬ (0 < (s.length : Int)) by omega)]; rfl
    rw [hc, cfl]
    obtain ⟨x, k, e, hk⟩ := int_tot F s hs hF
    rw [e, bw]
    exact ⟨x, k, rfl, hk⟩
theorem mQ (F : Nat) (s : Bs) (hs : s.length ≤ 1000) (hF : s.length < F) : ∃ x k, cx F s = some (x, k) := by
  unfold cx
  obtain ⟨x, k, e, hk⟩ := atoi_tot F s hs hF
  rw [e, bw]
  by_cases h0 : k = 0
  · subst h0; exact ⟨x, 0, by rw [decide_eq_true rfl, ntr, cfl]⟩
  · refine ⟨x, 1, ?_⟩
    rw [decide_eq_false h0, nfl, ctr, gQ (by omega), lU (by omega)]
theorem qQ (c : UInt8) (h : Dig c) : (c - 48).toNat = c.toNat - 48 := by
  have : ∀ k : Fin 256, (48 ≤ k.val ∧ k.val ≤ 57) → (UInt8.ofNat k.val - 48).toNat = k.val - 48 := by decide +kernel
  have h1 := this ⟨c.toNat, c.toNat_lt⟩ h
  simpa using h1
theorem atoi_loop (a : Bs) (s : Bs) (hs : s.length ≤ 18) (hd : ∀ c ∈ s, Dig c) : ∀ (n i v : Nat), s.length - i < n → i ≤ s.length → v < 10 ^ i → dU a s n ((v : Int), (i : Int)) = dS a ((val v (s.drop i) : Nat) : Int) := by
  intro n
  induction n with
  | zero => intro i v h; omega
  | succ n ih =>
    intro i v hn hi hv;show dV a s (dU a s n) (v : Int) (i : Int) = _
    unfold dV
    by_cases h : i < s.length
    · have hv17 : v < 10 ^ 17 := Nat.lt_of_lt_of_le hv (Nat.pow_le_pow_right (by omega) (by omega))
      have hdr : s.drop i = s[i] :: s.drop (i + 1) := bp h
      have hc := hd _ (List.getElem_mem h)
      have hsub := qQ _ hc
      obtain ⟨hc1, hc2⟩ := hc
      rw [bT (by omega), cz (by omega), bG, ib h]
      have e1 : ((v : Int) * 10) + ((s[i] - 48).toNat : Int) = ((10 * v + (s[i].toNat - 48) : Nat) : Int) := by rw [hsub]; omega
      have e2 : ((i : Int) + 1) = ((i + 1 : Nat) : Int) := by omega
      rw [bF (by rw [hsub]; omega), dl (by omega), dl (by omega), dl (by omega), e1, e2, ih (i + 1) _ (by omega) (by omega) (by rw [Nat.pow_succ]; omega), hdr]
      rfl
    · rw [bF (by omega), bi (by omega)]; rfl
theorem qW (F : Nat) (n : Nat) (hn : n ≤ 1073741824) (hF : 100 < F) : cx F (decDigits n) = some ((n : Int), 0) := by
  have hl : (decDigits n).length ≤ 11 := oU 10 n (by omega)
  have hp := mS n
  have hd := mc n
  have h0 : at_ (decDigits n) 0 = (decDigits n)[0] := oM (by omega)
  have hd0 := hd _ (List.getElem_mem (show 0 < (decDigits n).length by omega))
  have n45 : (decDigits n)[0] ≠ 45 := fun e => by rw [e] at hd0; exact absurd hd0.1 (by decide)
  have n43 : (decDigits n)[0] ≠ 43 := fun e => by rw [e] at hd0; exact absurd hd0.1 (by decide)
  have hc : ((decide (0 < ((decDigits n).length : Int))) && (decide (((decDigits n).length : Int) < 19))) = true := by
    rw [decide_eq_true (by omega), decide_eq_true (by omega)]; rfl
  have hg : ∀ (c : Bool) (x : Option (Int × Int)), fG c (dj 0 (decDigits n).length) x = x := fun c x => kR fun _ => by omega
  have e : fB F (decDigits n) = some ((n : Int), 0) := by
    unfold fB dR
    rw [hc, ctr, cz (by omega), bG, hg, bG, h0, decide_eq_false n45, decide_eq_false n43, fo, cfl, cO (by omega)]
    have := atoi_loop (decDigits n) (decDigits n) (by omega) hd F 0 0 (by omega) (by omega) (by omega)
    refine Eq.trans this ?_
    rw [List.drop_zero, oG]
    unfold dS dT
    rw [cz (by omega), bG, h0, decide_eq_false n45, cfl]
  unfold cx
  rw [e, bw, decide_eq_true rfl, ntr, cfl]
end Go.Dg
namespace Go.Cl
open Go.Pv Go.Av
open Go.Dg (cfl ctr hU ia fo nfl ntr)
theorem gcS {α : Type} {k : Option α} {c : Bool} {n : Nat} (h : n < 4294967281) : fG c (okS n) k = k := by
  cases c
  · exact ki
  · rw [mR, gQ h]
theorem qt : ∀ (n : Nat) (y : Bs) (k : Nat), y.length < n → y.length ≤ 1100000 → k + y.length ≤ 3000000 →
    eF [13, 10] n (y, (k : Int)) = some ((k + pr false y : Nat) : Int) := by
  intro n
  induction n with
  | zero => intro y k h; omega
  | succ n ih =>
    intro y k hn hy hk;show eG [13, 10] (eF [13, 10] n) y (k : Int) = _
    unfold eG
    have e2 : ([13, 10] : Bs).length = 2 := Eq.symm (Eq.symm rfl)
    rw [e2, gQ (by omega), lU (by omega), gQ (by omega), bG]
    rcases pr_idx y with ⟨h1, h2⟩ | ⟨i, h1, h2, h3⟩
    · rw [h1, bT rfl, h2]; rfl
    · have e : (i : Int) + ((2 : Nat) : Int) = ((i + 2 : Nat) : Int) := by omega
      rw [h1, bF (by omega), dl (by omega), dl (by omega), fW (by omega), bG, e, mM, jt, ih (y.drop (i + 2)) (k + 1) (by rw [List.length_drop]; omega) (by rw [List.length_drop]; omega) (by rw [List.length_drop]; omega), h3]
      congr 1
      omega
theorem rV (F : Nat) (b : Bs) (hb : b.length ≤ 1100000) (hF : b.length < F) : du F b [13, 10] = some ((pr false b : Nat) : Int) := by
  unfold du
  have := qt F b 0 hF hb (by omega)
  rw [Nat.zero_add] at this
  exact this
theorem count_one (F : Nat) (b : Bs) (c : UInt8) : du F b [c] = some ((b.count c : Nat) : Int) := by
  unfold du
  rfl
theorem okS_suf {b : Bs} (h : Go.Lib.hasSuffix b [13, 10] = true) : b.getLast? = some 10 := by
  unfold Go.Lib.hasSuffix at h
  obtain ⟨p, hp⟩ := List.isSuffixOf_iff_suffix.1 h
  rw [← hp]; simp
theorem suf_of {ls : List Bs} (hn : ls ≠ []) : Go.Lib.hasSuffix (flD ls) [13, 10] = true := by
  unfold Go.Lib.hasSuffix
  refine List.isSuffixOf_iff_suffix.2 ?_;obtain ⟨p, l, rfl⟩ : ∃ p l, ls = p ++ [l] := ⟨ls.dropLast, ls.getLast hn, (List.dropLast_concat_getLast hn).symm⟩;refine ⟨flD p ++ l, ?_⟩
  simp [flD, lnD]
theorem may_dot (F : Nat) (b : Bs) (hb : b.length ≤ 1100000) (hF : b.length < F) : jE F b = some (nj b) := by
  unfold jE
  rw [rV F b hb hF, bJ, count_one, bJ, count_one, oh, gcS (by omega), bG]
  congr 1
  have hk := pr_ok b false
  simp only [Bool.false_eq_true, if_false, Nat.add_zero] at hk
  by_cases h1 : b.count 13 = pr false b
  · have d1 : decide (((b.count 13 : Nat) : Int) = ((pr false b : Nat) : Int)) = true := decide_eq_true (by omega)
    rw [d1, ctr, hU]
    by_cases h2 : b.count 10 = pr false b
    · have d2 : decide (((b.count 10 : Nat) : Int) = ((pr false b : Nat) : Int)) = true := decide_eq_true (by omega)
      have ho := hk.1 ⟨h2.symm, h1.symm⟩
      rw [d2, hU]
      unfold nj
      rw [ho, hU]
      unfold endD
      by_cases h0 : b = []
      · subst h0; rfl
      · have hl : 0 < b.length := List.length_pos_iff.2 h0
        rw [decide_eq_false (p := ((b.length : Int) = 0)) (by omega), decide_eq_false h0, fo, fo]
        cases hs : Go.Lib.hasSuffix b [13, 10] with
        | true => rw [okS_suf hs]; rfl
        | false =>
          symm
          refine decide_eq_false fun hq => ?_
          have hm : nj b = true := by unfold nj endD; rw [ho, hq]; simp
          obtain ⟨ls, _, hb⟩ := nF hm
          have : ls ≠ [] := fun e => h0 (by rw [hb, e]; rfl)
          have := suf_of this
          rw [← hb, hs] at this
          cases this
    · have d2 : decide (((b.count 10 : Nat) : Int) = ((pr false b : Nat) : Int)) = false := decide_eq_false (by omega)
      have ho : okD false b = false := by
        cases q : okD false b with
        | false => rfl
        | true => exact absurd (hk.2 q).1.symm h2
      rw [d2, ia]
      unfold nj; rw [ho]; rfl
  · have d1 : decide (((b.count 13 : Nat) : Int) = ((pr false b : Nat) : Int)) = false := decide_eq_false (by omega)
    have ho : okD false b = false := by
      cases q : okD false b with
      | false => rfl
      | true => exact absurd (hk.2 q).2.symm h1
    rw [d1, ia, ia]
    unfold nj; rw [ho]; rfl
theorem fl_cons (l : Bs) (ls : List Bs) : flD (l :: ls) = l ++ 13 :: 10 :: flD ls := by simp [flD, lnD]
theorem stuff_k (acc l : Bs) (ha : acc.length + l.length ≤ 10000000) : cy acc (lnD l) = some (acc ++ lW l, true) := by
  unfold cy eM
  have hln : (lnD l).length = l.length + 2 := by simp [lnD]
  rw [cz (by omega), bG, oM (by omega)]
  cases l with
  | nil =>
    have : (lnD [])[0]'(by simp [lnD]) = 13 := rfl
    rw [this, bF (by decide), cO (by omega), bG]
    rfl
  | cons c l =>
    have : (lnD (c :: l))[0]'(by simp [lnD]) = c := rfl
    rw [this]
    simp only [List.length_cons] at ha hln
    by_cases h : c = 46
    · subst h
      rw [bT rfl, cO (by simp; omega), bG, cO (by simp; omega), bG]
      simp [lW]
    · rw [bF h, cO (by omega), bG]
      simp [lW, h]
theorem mA : ∀ (ls : List Bs) (n : Nat) (acc : Bs), (∀ l ∈ ls, NoCr l) → ls.length < n → (flD ls).length ≤ 1100000 → acc.length + 2 * (flD ls).length ≤ 5000000 →
    er (fun s x => cy s x) n (flD ls, acc) = some (acc ++ (ls.map lW).flatten, [])
  | ls, 0, acc, _, hn, _, _ => by omega
  | [], n + 1, acc, h, hn, hl, ha => by
    show dx (fun s x => cy s x) (er (fun s x => cy s x) n) [] acc = _
    unfold dx
    have e2 : ([13, 10] : Bs).length = 2 := Eq.symm (Eq.symm rfl)
    have e0 : ([] : Bs).length = 0 := Eq.symm (Eq.symm rfl)
    rw [e2, e0, gQ (by omega), lU (by omega), gQ (by omega), bG, idx_nil, bT (by decide)]
    simp
  | l :: ls, n + 1, acc, h, hn, hl, ha => by
    show dx (fun s x => cy s x) (er (fun s x => cy s x) n) (flD (l :: ls)) acc = _
    unfold dx
    have e2 : ([13, 10] : Bs).length = 2 := Eq.symm (Eq.symm rfl)
    have hlen : (flD (l :: ls)).length = l.length + 2 + (flD ls).length := by rw [fl_cons]; simp; omega
    have hi : Go.Lib.index (flD (l :: ls)) [13, 10] = (l.length : Int) := by rw [fl_cons]; exact idx_ln l _ (h l (by simp))
    have e : (l.length : Int) + 2 = ((l.length + 2 : Nat) : Int) := by omega
    have ht : (flD (l :: ls)).take (l.length + 2) = lnD l := by
      rw [fl_cons, show l ++ 13 :: 10 :: flD ls = lnD l ++ flD ls by simp [lnD], List.take_left' (by simp [lnD])]
    have hd : (flD (l :: ls)).drop (l.length + 2) = flD ls := by
      rw [fl_cons, show l ++ 13 :: 10 :: flD ls = lnD l ++ flD ls by simp [lnD], List.drop_left' (by simp [lnD])]
    have hk : (fun (s x : Bs) => cy s x) acc (lnD l) = some (acc ++ lW l, true) := stuff_k acc l (by omega)
    have hdl : (lW l).length ≤ l.length + 3 := by unfold lW lnD; split <;> simp
    rw [e2, gQ (by omega), lU (by omega), gQ (by omega), bG, hi, bF (by omega), dl (by omega), fW (by omega), bG, e, to_nat, ht, hk, bw, ntr, cfl, dl (by omega), fW (by omega), bG, mM, hd]
    rw [mA ls n (acc ++ lW l) (fun x hx => h x (by simp [hx])) (by simp at hn; omega) (by omega) (by rw [List.length_append]; omega)]
    simp
theorem fl_len (ls : List Bs) : 2 * ls.length ≤ (flD ls).length := by
  induction ls with
  | nil => simp [flD]
  | cons l ls ih => rw [fl_cons]; simp; omega
theorem ny (F : Nat) (b : Bs) (hb : b.length ≤ 1100000) (hF : b.length < F) : gy F b = some (kC b, if nj b = true then 0 else 1) := by
  unfold gy js iz
  rw [may_dot F b hb hF, bJ]
  unfold kC
  cases hm : nj b with
  | false => rfl
  | true =>
    rw [ntr, cfl, bJ]
    obtain ⟨ls, hc, rfl⟩ := nF hm
    have := fl_len ls
    rw [mA ls F [] hc (by omega) hb (by simp; omega), bw]
    unfold fw
    rw [mG ls hc]
    have hle : ((ls.map lW).flatten).length ≤ 2 * (flD ls).length := by rw [← mG ls hc]; exact qx _ _
    rw [cO (by simp at hle ⊢; omega), bG]
    rfl
end Go.Cl
namespace Go.Cl
open Go.Pv Go.Av
open Go.Dg (cfl ctr hU ia fo nfl ntr)
theorem low_sp (c : UInt8) : gp c = 32 ↔ c = 32 := by
  have : ∀ k : Fin 256, gp (UInt8.ofNat k.val) = 32 ↔ UInt8.ofNat k.val = 32 := by decide +kernel
  have h1 := this ⟨c.toNat, c.toNat_lt⟩
  simpa using h1
theorem low_t {c : UInt8} (h : 65 ≤ c.toNat ∧ c.toNat ≤ 90) : gp c = c + 97 - 65 := by unfold gp; rw [if_pos h]
theorem low_f {c : UInt8} (h : ¬ (65 ≤ c.toNat ∧ c.toNat ≤ 90)) : gp c = c := by unfold gp; rw [if_neg h]
theorem low_c (c : UInt8) : ((decide (65 ≤ (c.toNat : Int))) && (decide ((c.toNat : Int) ≤ 90))) = decide (65 ≤ c.toNat ∧ c.toNat ≤ 90) := by
  by_cases h : 65 ≤ c.toNat
  · by_cases g : c.toNat ≤ 90
    · rw [decide_eq_true (by omega), decide_eq_true (by omega), decide_eq_true ⟨h, g⟩]; rfl
    · rw [decide_eq_true (by omega), decide_eq_false (by omega), decide_eq_false (by omega)]; rfl
  · rw [decide_eq_false (p := 65 ≤ (c.toNat : Int)) (by omega), decide_eq_false (p := 65 ≤ c.toNat ∧ c.toNat ≤ 90) (by omega)]; rfl
theorem mx (w : Bs) : ∀ (r p : Bs) (n : Nat), r.length < n → (p ++ r).length ≤ 1000000 →
    dL (p ++ r) w n ((p.length : Int), p.map gp ++ r) = some (decide ((p ++ r).map gp = w))
  | r, p, 0, hn, _ => by omega
  | [], p, n + 1, hn, hl => by
    rw [List.append_nil, List.append_nil] at *
    show eH p w (dL p w n) (p.length : Int) (p.map gp) = _
    unfold eH fU
    rw [bF (by omega), lU (by rw [List.length_map])]
  | c :: r, p, n + 1, hn, hl => by
    show eH (p ++ c :: r) w (dL (p ++ c :: r) w n) (p.length : Int) (p.map gp ++ c :: r) = _
    have h1 : p.length < (p ++ c :: r).length := by simp
    have h2 : p.length < (p.map gp ++ c :: r).length := by simp
    have ea : (p.map gp ++ c :: r)[p.length] = c := by
      rw [List.getElem_append_right (by simp)]; simp
    have ih := mx w r (p ++ [c]) n (by simp at hn; omega) (by simpa using hl)
    have e1 : p ++ [c] ++ r = p ++ c :: r := by simp
    have e2 : (p ++ [c]).map gp ++ r = p.map gp ++ gp c :: r := by simp
    have e3 : ((p ++ [c]).length : Int) = (p.length : Int) + 1 := by simp
    rw [e1, e2, e3] at ih
    unfold eH fc
    rw [bT (by omega), cz (by omega), cz (by omega), bG, ib h2, ea, low_c]
    by_cases h : 65 ≤ c.toNat ∧ c.toNat ≤ 90
    · have es : (p.map gp ++ c :: r).set p.length (c + 97 - 65) = p.map gp ++ (c + 97 - 65) :: r := by
        rw [List.set_append_right _ _ (by simp)]; simp
      rw [bT h, cz (by omega), cz (by omega), bG, Int.toNat_natCast, es, dl (by omega), ← low_t h]
      exact ih
    · rw [bF h, dl (by omega)]
      rw [low_f h] at ih
      exact ih
theorem small_eq (F : Nat) (s w : Bs) (hs : s.length ≤ 1000000) (hF : s.length < F) : jh F s w = some (decide (s.map gp = w)) := by
  unfold jh
  rw [cO (by omega)]
  exact mx w s [] F hF hs
theorem dig_dg {c : UInt8} (h : kE c = true) : Go.Dg.Dig c := by
  unfold kE at h
  simp only [Bool.and_eq_true, decide_eq_true_eq] at h
  exact h
theorem Atoi_dig (F : Nat) (s : Bs) (h1 : 1 ≤ s.length) (h9 : s.length ≤ 9) (hd : ∀ c ∈ s, Go.Dg.Dig c) (hF : 100 < F) : cx F s = some (((Go.Dg.val 0 s : Nat) : Int), 0) := by
  have h0 : at_ s 0 = s[0] := oM (by omega)
  have hd0 := hd _ (List.getElem_mem (show 0 < s.length by omega))
  have n45 : s[0] ≠ 45 := fun e => by rw [e] at hd0; exact absurd hd0.1 (by decide)
  have n43 : s[0] ≠ 43 := fun e => by rw [e] at hd0; exact absurd hd0.1 (by decide)
  have hc : ((decide (0 < (s.length : Int))) && (decide ((s.length : Int) < 19))) = true := by
    rw [decide_eq_true (by omega), decide_eq_true (by omega)]; rfl
  have hg : ∀ (c : Bool) (x : Option (Int × Int)), fG c (dj 0 s.length) x = x := fun c x => kR fun _ => by omega
  have e : fB F s = some (((Go.Dg.val 0 s : Nat) : Int), 0) := by
    unfold fB dR
    rw [hc, ctr, cz (by omega), bG, hg, bG, h0, decide_eq_false n45, decide_eq_false n43, fo, cfl, cO (by omega)]
    have := Go.Dg.atoi_loop s s (by omega) hd F 0 0 (by omega) (by omega) (by omega)
    refine Eq.trans this ?_
    rw [List.drop_zero]
    unfold dS dT
    rw [cz (by omega), bG, h0, decide_eq_false n45, cfl]
  unfold cx
  rw [e, bw, decide_eq_true rfl, ntr, cfl]
abbrev digs : Bs := [48, 49, 50, 51, 52, 53, 54, 55, 56, 57]
theorem digs_c (c : UInt8) : digs.contains c = kE c := by
  have : ∀ k : Fin 256, digs.contains (UInt8.ofNat k.val) = kE (UInt8.ofNat k.val) := by decide +kernel
  have h1 := this ⟨c.toNat, c.toNat_lt⟩
  simpa using h1
theorem oT (f : UInt8 → Bool) : ∀ l : Bs, l.dropWhile f = [] ↔ ∀ x ∈ l, f x = true
  | [] => by simp
  | c :: l => by
    have ih := oT f l
    cases h : f c with
    | true => simp [List.dropWhile_cons, h, ih]
    | false => simp [List.dropWhile_cons, h]
theorem ri (t : Bs) : decide (Go.Lib.trimS t digs = []) = t.all kE := by
  unfold Go.Lib.trimS Go.Lib.trimLeftS Go.Lib.trimRightS
  have e : (fun x => digs.contains x) = kE := funext digs_c
  rw [e]
  cases h : t.all kE with
  | true =>
    rw [List.all_eq_true] at h
    refine decide_eq_true ?_
    have : t.reverse.dropWhile kE = [] := by
      rw [oT]; intro x hx; exact h x (List.mem_reverse.1 hx)
    rw [this]; rfl
  | false =>
    rw [List.all_eq_false] at h
    obtain ⟨x, hx, hn⟩ := h
    refine decide_eq_false fun q => ?_
    rw [oT] at q
    have hne : t.reverse.dropWhile kE ≠ [] := by
      intro e
      rw [oT] at e
      exact hn (e x (List.mem_reverse.2 hx))
    have := List.head_dropWhile_not kE (l := t.reverse) hne
    have hm := q _ (List.mem_reverse.2 (List.head_mem hne))
    rw [hm] at this
    simp at this
theorem qO (b c : UInt8) (l : Bs) : Go.Lib.index (b :: l) [c] = if b = c then 0 else if Go.Lib.index l [c] = -1 then -1 else Go.Lib.index l [c] + 1 := by
  by_cases h : b = c
  · subst h; simp [Go.Lib.index]
  · simp [Go.Lib.index, h, Ne.symm h]
theorem cut_hit (c : UInt8) (l : Bs) : Go.Lib.cut (c :: l) [c] = ([], l, true) := by
  unfold Go.Lib.cut
  rw [qO, if_pos rfl]; rfl
theorem pO {b c : UInt8} (h : ¬ b = c) (l : Bs) : Go.Lib.cut (b :: l) [c] = (b :: (Go.Lib.cut l [c]).1, (Go.Lib.cut l [c]).2) := by
  have hge := Go.Lib.index_ge l [c]
  unfold Go.Lib.cut
  rw [qO, if_neg h]
  by_cases hm : Go.Lib.index l [c] = -1
  · rw [if_pos hm, hm]; rfl
  · rw [if_neg hm, if_pos (by omega), if_pos (by omega)]
    have h3 : (Go.Lib.index l [c] + 1).toNat = (Go.Lib.index l [c]).toNat + 1 := by omega
    rw [h3]
    simp only [List.take_succ_cons, List.length_singleton, List.drop_succ_cons]
theorem qD (c : UInt8) (r : Bs) : ∀ d : Bs, (∀ x ∈ d, x ≠ c) → Go.Lib.cut (d ++ c :: r) [c] = (d, r, true)
  | [], _ => cut_hit c r
  | b :: d, h => by
    rw [List.cons_append, pO (h b (List.mem_cons_self ..)), qD c r d fun x hx => h x (List.mem_cons_of_mem _ hx)]
theorem qC (c : UInt8) : ∀ d : Bs, (∀ x ∈ d, x ≠ c) → Go.Lib.cut d [c] = (d, [], false)
  | [], _ => by simp [Go.Lib.cut, Go.Lib.index]
  | b :: d, h => by rw [pO (h b (by simp)), qC c d fun x hx => h x (by simp [hx])]
theorem mH (c : UInt8) : ∀ s : Bs, (∀ x ∈ s, x ≠ c) ∨ ∃ p q, s = p ++ c :: q ∧ ∀ x ∈ p, x ≠ c
  | [] => .inl fun x hx => by cases hx
  | b :: s => by
    by_cases h : b = c
    · subst h; exact .inr ⟨[], s, rfl, fun x hx => by cases hx⟩
    · rcases mH c s with g | ⟨p, q, rfl, g⟩
      · left; intro x hx
        rcases List.mem_cons.1 hx with rfl | hx
        · exact h
        · exact g x hx
      · right; refine ⟨b :: p, q, rfl, fun x hx => ?_⟩
        rcases List.mem_cons.1 hx with rfl | hx
        · exact h
        · exact g x hx
def sizeC (w t : Bs) (is : Bool) : Option Nat := if (((is = true ∧ w.map gp = [115, 105, 122, 101]) ∧ t ≠ []) ∧ t.length ≤ 9) ∧ t.all kE = true then some (Go.Dg.val 0 t) else none
theorem pI {s : Bs} (h6 : 6 ≤ s.length) (h : (s.take 5).map gp = [115, 105, 122, 101, 32]) : ∃ p q, s = p ++ 32 :: q ∧ (∀ x ∈ p, x ≠ 32) ∧ p.map gp = [115, 105, 122, 101] ∧ p.length = 4 := by
  match s, h6, h with
  | a :: b :: c :: d :: e :: q, _, h =>
    simp only [List.take_succ_cons, List.take_zero, List.map_cons, List.map_nil, List.cons.injEq, and_true] at h
    obtain ⟨ha, hb, hc, hd, he⟩ := h
    have he := (low_sp e).1 he
    have hn : ∀ {x y : UInt8}, gp x = y → y ≠ 32 → x ≠ 32 := fun {x y} h1 h2 h3 => h2 (by rw [← h1]; exact (low_sp x).2 h3)
    subst he;refine ⟨[a, b, c, d], q, rfl, ?_, by simp [ha, hb, hc, hd], rfl⟩;intro x hx
    simp only [List.mem_cons, List.not_mem_nil, or_false] at hx
    rcases hx with rfl | rfl | rfl | rfl
    · exact hn ha (by decide)
    · exact hn hb (by decide)
    · exact hn hc (by decide)
    · exact hn hd (by decide)
theorem qU {c : UInt8} : ∀ {p p' q q' : Bs}, (∀ x ∈ p, x ≠ c) → (∀ x ∈ p', x ≠ c) → p ++ c :: q = p' ++ c :: q' → p = p' ∧ q = q'
  | [], [], q, q', _, _, h => ⟨rfl, by simpa using h⟩
  | [], b :: p', q, q', _, h2, h => by
    simp at h; exact absurd h.1.symm (h2 b (by simp))
  | a :: p, [], q, q', h1, _, h => by
    simp at h; exact absurd h.1 (h1 a (by simp))
  | a :: p, b :: p', q, q', h1, h2, h => by
    simp only [List.cons_append, List.cons.injEq] at h
    obtain ⟨e1, e2⟩ := qU (fun x hx => h1 x (by simp [hx])) (fun x hx => h2 x (by simp [hx])) h.2;exact ⟨by rw [h.1, e1], e2⟩
theorem sizeW_eq (s : Bs) : mT s = sizeC (Go.Lib.cut s [32]).1 (Go.Lib.cut s [32]).2.1 (Go.Lib.cut s [32]).2.2 := by
  rcases mH 32 s with h | ⟨p, q, rfl, h⟩
  · rw [qC 32 s h]
    unfold sizeC mT
    have : ¬ ((6 ≤ s.length ∧ s.length ≤ 14) ∧ (s.take 5).map gp = [115, 105, 122, 101, 32] ∧ (s.drop 5).all kE = true) := fun g => by
      obtain ⟨p, q, rfl, _⟩ := pI g.1.1 g.2.1;exact h 32 (by simp) rfl
    rw [if_neg this, if_neg (by rintro ⟨⟨⟨⟨q, _⟩, _⟩, _⟩, _⟩; cases q)]
  · rw [qD 32 q p h]
    unfold sizeC mT
    by_cases g : p.map gp = [115, 105, 122, 101]
    · have hl : p.length = 4 := by have := congrArg List.length g; simpa using this
      have e1 : (p ++ 32 :: q).take 5 = p ++ [32] := by rw [show p ++ 32 :: q = (p ++ [32]) ++ q by simp, List.take_left' (by simp [hl])]
      have e2 : (p ++ 32 :: q).drop 5 = q := by rw [show p ++ 32 :: q = (p ++ [32]) ++ q by simp, List.drop_left' (by simp [hl])]
      have e3 : (p ++ [32]).map gp = [115, 105, 122, 101, 32] := by rw [List.map_append, g]; rfl
      have e4 : (p ++ 32 :: q).length = 5 + q.length := by simp [hl]; omega
      rw [e1, e2, e3, e4]
      by_cases k : ((1 ≤ q.length) ∧ q.length ≤ 9) ∧ q.all kE = true
      · rw [if_pos ⟨by omega, rfl, k.2⟩, if_pos ⟨⟨⟨⟨rfl, g⟩, fun e => by have e : q = [] := e; rw [e] at k; simp at k⟩, k.1.2⟩, k.2⟩]
      · rw [if_neg (fun z => k ⟨by omega, z.2.2⟩), if_neg (fun z => k ⟨⟨List.length_pos_iff.2 z.1.1.2, z.1.2⟩, z.2⟩)]
    · rw [if_neg (fun z => by
        obtain ⟨p', q', e, h', g', _⟩ := pI z.1.1 z.2.1;obtain ⟨rfl, _⟩ := qU h h' e
        exact g g'), if_neg (fun z => g z.1.1.1.2)]
theorem cut_len (s : Bs) : (Go.Lib.cut s [32]).1.length ≤ s.length ∧ (Go.Lib.cut s [32]).2.1.length ≤ s.length := by
  rcases mH 32 s with h | ⟨p, q, rfl, h⟩
  · rw [qC 32 s h]; simp
  · rw [qD 32 q p h]; simp; omega
theorem qa (s : Bs) (r : List Bs) : pQ (s :: r) = match mT s with | some n => n | none => pQ r := rfl
theorem nB (F : Nat) (hF : 2000 < F) (ls : List Bs) (rec : Int → Option Int) (i : Nat) (hi : i < ls.length) (hl : (ls[i]).length ≤ 1000) (hn : ls.length ≤ 1000000) :
    dX F ls rec (i : Int) = match (if i = 0 then none else mT ls[i]) with | some n => some ((n : Nat) : Int) | none => rec ((i + 1 : Nat) : Int) := by
  unfold dX
  obtain ⟨s, hs⟩ : ∃ s, s = ls[i] := ⟨_, rfl⟩
  rw [← hs] at hl ⊢
  obtain ⟨l1, l2⟩ := cut_len s
  rw [bT (by omega), cz (by omega), bG, ib hi, ← hs, gQ (by omega), bG, small_eq F _ _ (by omega) (by omega), oh]
  rw [gcS (by omega), gcS (by decide)]
  have ga : ∀ (c : Bool) (x : Option Int), fG c (oW ([48, 49, 50, 51, 52, 53, 54, 55, 56, 57] : List UInt8)) x = x := fun c x => by
    cases c
    · exact ki
    · rw [mR]; rfl
  rw [ga, bG]
  unfold fK
  rw [dl (by omega), jt]
  by_cases h0 : i = 0
  · subst h0
    rw [if_pos rfl, show decide (((0 : Nat) : Int) = 0) = true from rfl, Bool.true_or, Bool.true_or, Bool.true_or, Bool.true_or, Bool.true_or, ctr]
  · rw [if_neg h0, sizeW_eq s, decide_eq_false (p := (i : Int) = 0) (by omega), fo]
    generalize (Go.Lib.cut s [32]).1 = w at *
    generalize (Go.Lib.cut s [32]).2.1 = t at *
    generalize (Go.Lib.cut s [32]).2.2 = is at *
    unfold sizeC
    cases is with
    | false =>
      rw [nfl, Bool.true_or, Bool.true_or, Bool.true_or, Bool.true_or, ctr, if_neg (fun z => by cases z.1.1.1.1)]
    | true =>
      rw [ntr, nfl, ctr, fo]
      by_cases g : w.map gp = [115, 105, 122, 101]
      · rw [decide_eq_true g, ntr, fo]
        by_cases g0 : t = []
        · rw [decide_eq_true g0, Bool.true_or, Bool.true_or, ctr, if_neg (fun z => z.1.1.2 g0)]
        · rw [decide_eq_false g0, fo]
          by_cases g9 : t.length ≤ 9
          · rw [decide_eq_false (p := (9 : Int) < (t.length : Int)) (by omega), fo, show decide (Go.Lib.trimS t ([48, 49, 50, 51, 52, 53, 54, 55, 56, 57] : List UInt8) = []) = t.all kE from ri t]
            cases gd : t.all kE with
            | false =>
              rw [nfl, ctr, if_neg (fun z => by cases z.2)]
            | true =>
              have hp := List.length_pos_iff.2 g0
              rw [ntr, cfl, if_pos ⟨⟨⟨⟨rfl, g⟩, g0⟩, g9⟩, rfl⟩, Atoi_dig F t hp g9 (fun c hc => dig_dg (List.all_eq_true.1 gd c hc)) (by omega), bw, bT rfl]
          · rw [decide_eq_true (p := (9 : Int) < (t.length : Int)) (by omega), Bool.true_or, ctr, if_neg (fun z => g9 z.1.2)]
      · rw [decide_eq_false g, nfl, Bool.true_or, Bool.true_or, Bool.true_or, ctr, if_neg (fun z => g z.1.1.1.2)]
theorem rk (F : Nat) (hF : 2000 < F) (ls : List Bs) (hl : ∀ s ∈ ls, s.length ≤ 1000) (hn : ls.length ≤ 1000000) : ∀ (n i : Nat), ls.length - i < n → i ≤ ls.length → 0 < i →
    eI F ls n (i : Int) = some ((pQ (ls.drop i) : Nat) : Int) := by
  intro n
  induction n with
  | zero => intro i h; omega
  | succ n ih =>
    intro i hn' hi hp;show dX F ls (eI F ls n) (i : Int) = _
    by_cases h : i < ls.length
    · rw [nB F hF ls _ i h (hl _ (List.getElem_mem h)) hn, if_neg (by omega), bp h, qa]
      cases mT ls[i] with
      | some k => rfl
      | none => exact ih (i + 1) (by omega) (by omega) (by omega)
    · unfold dX
      rw [bF (by omega), bi (by omega)]; rfl
theorem size_eq (F : Nat) (hF : 2000 < F) (c : Int) (ls : List Bs) (x y z : Int) (hl : ∀ s ∈ ls, s.length ≤ 1000) (hn : ls.length ≤ 1000000) (hlF : ls.length < F) : kY F c ls x y z = some ((fg ls : Nat) : Int) := by
  unfold kY fg
  obtain ⟨m, rfl⟩ : ∃ m, F = m + 1 := ⟨F - 1, by omega⟩;show dX (m + 1) ls (eI (m + 1) ls m) ((0 : Nat) : Int) = _
  by_cases h : 0 < ls.length
  · rw [nB (m + 1) hF ls _ 0 h (hl _ (List.getElem_mem h)) hn, if_pos rfl]
    exact rk (m + 1) hF ls hl hn m 1 (by omega) (by omega) (by omega)
  · unfold dX
    rw [bF (by omega), bi (by omega)]; rfl
end Go.Cl
namespace Go.Cl
open Go.Pv Go.Av
open Go.Dg (cfl ctr hU ia fo nfl ntr)
theorem hund (c : Int) (h0 : -9223372036854775808 ≤ c) (h1 : c ≤ 9223372036854775807) : decide (IntKind.i64.wrap (Int.tdiv c 100) = 2) = (decide (200 ≤ c) && decide (c ≤ 299)) := by
  rw [wrap_i64_tdiv c 100 h0 h1 (by omega)]
  by_cases hn : 0 ≤ c
  · rw [Int.tdiv_eq_ediv_of_nonneg hn]
    by_cases a : 200 ≤ c
    · by_cases b : c ≤ 299
      · rw [decide_eq_true (by omega), decide_eq_true a, decide_eq_true b]; rfl
      · rw [decide_eq_false (by omega), decide_eq_true a, decide_eq_false b]; rfl
    · rw [decide_eq_false (by omega), decide_eq_false a]; rfl
  · have hk : c.tdiv 100 ≤ 0 := by
      have e := Int.neg_tdiv (a := -c) (b := 100)
      rw [Int.neg_neg] at e
      have := Int.tdiv_nonneg (a := -c) (b := 100) (by omega) (by omega)
      omega
    rw [decide_eq_false (by omega), decide_eq_false (by omega)]; rfl
theorem kQ (F : Nat) (a2 a3 : Int) (a4 a5 a6 a7 a8 : Bs) (ph : Int) (l : List Bs) (x : Bs) (hj : Str.join [] l = x) (hl : Str.total l ≤ 1000000) (hn : l.length ≤ 10) (hx : x.length ≤ 1000000) (ha : a8.length ≤ 100000000) :
    gt F a2 a3 a4 a5 a6 a7 a8 ph l = some (ph, a8 ++ (x ++ [13, 10])) := by
  unfold gt
  have e0 : ([] : Bs).length = 0 := Eq.symm (Eq.symm rfl)
  have e2 : ([13, 10] : Bs).length = 2 := Eq.symm (Eq.symm rfl)
  rw [grd_Join (by rw [e0]; omega), bG, hj, e2, cO (by omega), bG, cO (by rw [List.length_append, e2]; omega), bG]
theorem lX (F : Nat) (a2 a3 : Int) (a4 a5 a6 a7 a8 : Bs) (o : Int) (ha : a8.length ≤ 100000000) : hC F a2 a3 a4 a5 a6 a7 a8 o = some (6, o, a8 ++ quitD) := by
  unfold hC
  rw [kQ F a2 o a4 a5 a6 a7 a8 6 _ [81, 85, 73, 84] rfl (by decide) (by decide) (by decide) ha, bw]
  rfl
section
variable (F : Nat) (fr rc nm ml : Bs) (c : Int) (ls : List Bs) (m0 m1 m2 : Int)
theorem step_j (ph out : Int) (acc : Bs) (ha : acc.length ≤ 100000000) (b : Bool) : cF F fr rc nm ml c b ph out acc = some (if b = true then (ph, out, acc) else (6, (if 500 ≤ c ∧ c ≤ 599 then 3 else 2), acc ++ quitD)) := by
  unfold cF
  cases b with
  | true => rfl
  | false =>
    rw [cfl, if_neg (by decide)]
    by_cases h : 500 ≤ c ∧ c ≤ 599
    · rw [if_pos h, decide_eq_true h.1, decide_eq_true h.2, hU, ctr, lX F _ _ _ _ _ _ _ _ ha, cn]
    · have : ((decide (500 ≤ c)) && (decide (c ≤ 599))) = false := by
        by_cases q : 500 ≤ c
        · rw [decide_eq_false (p := c ≤ 599) (fun z => h ⟨q, z⟩), Bool.and_false]
        · rw [decide_eq_false q]; rfl
      rw [if_neg h, this, cfl, lX F _ _ _ _ _ _ _ _ ha, cn]
theorem greet_eq (hnm : nm.length ≤ 1000) (ph out : Int) (acc : Bs) (ha : acc.length ≤ 100000000) : jj F ph out fr rc nm ml acc c ls m0 m1 m2 = some (if fy 0 c = true then (true, 1, acc ++ ehloD nm) else (false, ph, acc)) := by
  have eg : fy 0 c = decide (c = 220) := by simp [fy]
  unfold jj
  rw [eg]
  by_cases h : c = 220
  · rw [decide_eq_true h, ntr, cfl, if_pos rfl, kQ F ph out fr rc nm ml acc 1 _ ([69, 72, 76, 79, 32] ++ nm) (by simp [Str.join, Str.rest]) (by simp [Str.total]; omega) (by simp) (by simp; omega) ha, bw]
    rfl
  · rw [decide_eq_false h, nfl, ctr, if_neg (by decide)]
theorem data_eq (hF : 2000 < F) (hml : ml.length ≤ 1000) (ph out : Int) (acc : Bs) (ha : acc.length ≤ 100000000) : kV F ph out fr rc nm ml acc c ls m0 m1 m2 = some (if fy 4 c = true then (true, 5, acc ++ kC ml) else (false, ph, acc)) := by
  have eg : fy 4 c = decide (c = 354) := by simp [fy]
  unfold kV
  rw [eg]
  by_cases h : c = 354
  · have := mI ml
    rw [decide_eq_true h, ntr, cfl, if_pos rfl, ny F ml (by omega) (by omega), bw, cO (by omega), bG]
  · rw [decide_eq_false h, nfl, ctr, if_neg (by decide)]
theorem kM (h0 : -9223372036854775808 ≤ c) (h1 : c ≤ 9223372036854775807) {ph : Int} (hp : ph = 1 ∨ ph = 2 ∨ ph = 3 ∨ ph = 5) : fy ph c = decide (IntKind.i64.wrap (Int.tdiv c 100) = 2) := by
  rw [hund c h0 h1]
  unfold fy
  rw [if_neg (by omega), if_neg (by omega)]
theorem hello_eq (hF : 2000 < F) (hfr : fr.length ≤ 1000) (hml : ml.length ≤ 1000) (h0 : -9223372036854775808 ≤ c) (h1 : c ≤ 9223372036854775807) (hls : ∀ s ∈ ls, s.length ≤ 1000) (hln : ls.length ≤ 1000) (ph out : Int) (acc : Bs) (ha : acc.length ≤ 100000000) : ji F ph out fr rc nm ml acc c ls m0 m1 m2 = some (if fy 1 c = true then (if 0 < fg ls ∧ fg ls < (kC ml).length then (true, 6, 3, acc ++ quitD) else (true, 2, out, acc ++ oB fr)) else (false, ph, out, acc)) := by
  unfold ji
  rw [kM c h0 h1 (.inl rfl)]
  cases h : decide (IntKind.i64.wrap (Int.tdiv c 100) = 2) with
  | false => rw [nfl, ctr, if_neg (by decide)]
  | true =>
    rw [ntr, cfl, if_pos rfl, ny F ml (by omega) (by omega), bw, size_eq F hF c ls m0 m1 m2 hls (by omega) (by omega), bJ]
    by_cases q : 0 < fg ls ∧ fg ls < (kC ml).length
    · rw [if_pos q, decide_eq_true (p := (0 : Int) < ((fg ls : Nat) : Int)) (by omega), decide_eq_true (p := ((fg ls : Nat) : Int) < ((kC ml).length : Int)) (by omega), hU, ctr, lX F _ _ _ _ _ _ _ _ ha, cn]
    · have : ((decide ((0 : Int) < ((fg ls : Nat) : Int))) && (decide (((fg ls : Nat) : Int) < ((kC ml).length : Int)))) = false := by
        by_cases g : 0 < fg ls
        · rw [decide_eq_false (p := ((fg ls : Nat) : Int) < ((kC ml).length : Int)) (fun z => q ⟨g, by omega⟩), Bool.and_false]
        · rw [decide_eq_false (p := (0 : Int) < ((fg ls : Nat) : Int)) (by omega)]; rfl
      rw [if_neg q, this, cfl, kQ F ph out fr rc nm ml acc 2 _ ([77, 65, 73, 76, 32, 70, 82, 79, 77, 58, 60] ++ fr ++ [62]) (by simp [Str.join, Str.rest]) (by simp [Str.total]; omega) (by simp) (by simp; omega) ha, bw]
      simp [oB]
theorem from_eq (hrc : rc.length ≤ 1000) (h0 : -9223372036854775808 ≤ c) (h1 : c ≤ 9223372036854775807) (ph out : Int) (acc : Bs) (ha : acc.length ≤ 100000000) : kU F ph out fr rc nm ml acc c ls m0 m1 m2 = some (if fy 2 c = true then (true, 3, acc ++ pR rc) else (false, ph, acc)) := by
  unfold kU
  rw [kM c h0 h1 (.inr (.inl rfl))]
  cases h : decide (IntKind.i64.wrap (Int.tdiv c 100) = 2) with
  | false => rw [nfl, ctr, if_neg (by decide)]
  | true =>
    rw [ntr, cfl, if_pos rfl, kQ F ph out fr rc nm ml acc 3 _ ([82, 67, 80, 84, 32, 84, 79, 58, 60] ++ rc ++ [62]) (by simp [Str.join, Str.rest]) (by simp [Str.total]; omega) (by simp) (by simp; omega) ha, bw]
    simp [pR]
theorem rcpt_eq (h0 : -9223372036854775808 ≤ c) (h1 : c ≤ 9223372036854775807) (ph out : Int) (acc : Bs) (ha : acc.length ≤ 100000000) : kS F ph out fr rc nm ml acc c ls m0 m1 m2 = some (if fy 3 c = true then (true, 4, acc ++ dataD) else (false, ph, acc)) := by
  unfold kS
  rw [kM c h0 h1 (.inr (.inr (.inl rfl)))]
  cases h : decide (IntKind.i64.wrap (Int.tdiv c 100) = 2) with
  | false => rw [nfl, ctr, if_neg (by decide)]
  | true =>
    rw [ntr, cfl, if_pos rfl, kQ F ph out fr rc nm ml acc 4 _ [68, 65, 84, 65] rfl (by decide) (by decide) (by decide) ha, bw]
    rfl
theorem body_eq (h0 : -9223372036854775808 ≤ c) (h1 : c ≤ 9223372036854775807) (ph out : Int) (acc : Bs) (ha : acc.length ≤ 100000000) : kW F ph out fr rc nm ml acc c ls m0 m1 m2 = some (if fy 5 c = true then (true, 6, 1, acc ++ quitD) else (false, ph, out, acc)) := by
  unfold kW
  rw [kM c h0 h1 (.inr (.inr (.inr rfl)))]
  cases h : decide (IntKind.i64.wrap (Int.tdiv c 100) = 2) with
  | false => rw [nfl, ctr, if_neg (by decide)]
  | true => rw [ntr, cfl, if_pos rfl, lX F _ _ _ _ _ _ _ _ ha, cn]
theorem qH (hF : 2000 < F) (hfr : fr.length ≤ 1000) (hrc : rc.length ≤ 1000) (hnm : nm.length ≤ 1000) (hml : ml.length ≤ 1000) (h0 : -9223372036854775808 ≤ c) (h1 : c ≤ 9223372036854775807) (hls : ∀ s ∈ ls, s.length ≤ 1000) (hln : ls.length ≤ 1000) (ph out : Int) (acc : Bs) (ha : acc.length ≤ 100000000) : jF F ph out fr rc nm ml acc c ls m0 m1 m2 = some ((eD fr rc nm ml ph out c ls).1, (eD fr rc nm ml ph out c ls).2.1, acc ++ (eD fr rc nm ml ph out c ls).2.2) := by
  unfold jF eD
  by_cases h : ph < 0 ∨ 7 ≤ ph
  · have : ((decide (ph < 0)) || (decide (7 ≤ ph))) = true := by
      rcases h with h | h
      · rw [decide_eq_true h]; rfl
      · rw [decide_eq_true h, Bool.or_true]
    rw [if_pos h, this, ctr, List.append_nil]
  · rw [if_neg h, decide_eq_false (fun z => h (.inl z)), decide_eq_false (fun z => h (.inr z)), fo, cfl]
    by_cases h2 : c = 421
    · rw [if_pos h2, bT h2]
      unfold hH
      by_cases g : out = 0
      · rw [bT g, bw, if_pos g, List.append_nil]
      · rw [bF g, bw, if_neg g, List.append_nil]
    · rw [if_neg h2, bF h2, cz (by omega)]
      unfold ez
      have hj := fun (ph out : Int) (acc : Bs) (ha : acc.length ≤ 100000000) (b : Bool) => step_j F fr rc nm ml c ph out acc ha b
      have hq : ph = 0 ∨ ph = 1 ∨ ph = 2 ∨ ph = 3 ∨ ph = 4 ∨ ph = 5 ∨ ph = 6 := by omega
      have hsl := mI ml
      rcases hq with rfl | rfl | rfl | rfl | rfl | rfl | rfl
      · rw [bT rfl, bJ, greet_eq F fr rc nm ml c ls m0 m1 m2 hnm 0 out acc ha, if_neg (show ¬ ((0 : Int) = 6) by decide)]
        by_cases q : fy 0 c = true
        · rw [if_pos q, if_pos q, cn]; rfl
        · rw [if_neg q, if_neg q, cn, hj _ _ _ ha]; rfl
      · rw [bF (by decide), bT rfl, bJ, hello_eq F fr rc nm ml c ls m0 m1 m2 hF hfr hml h0 h1 hls hln 1 out acc ha, if_neg (show ¬ ((1 : Int) = 6) by decide)]
        by_cases q : fy 1 c = true
        · rw [if_pos q, if_pos q]
          have eg : goP fr rc nm ml 1 out ls = if 0 < fg ls ∧ fg ls < (kC ml).length then (6, 3, quitD) else (2, out, oB fr) := by simp [goP]
          rw [eg]
          by_cases g : 0 < fg ls ∧ fg ls < (kC ml).length
          · rw [if_pos g, if_pos g]; rfl
          · rw [if_neg g, if_neg g]; rfl
        · rw [if_neg q, if_neg q]
          show cF F fr rc nm ml c false 1 out acc = _
          rw [hj _ _ _ ha]; rfl
      · rw [bF (by decide), bF (by decide), bT rfl, bJ, from_eq F fr rc nm ml c ls m0 m1 m2 hrc h0 h1 2 out acc ha, if_neg (show ¬ ((2 : Int) = 6) by decide)]
        by_cases q : fy 2 c = true
        · rw [if_pos q, if_pos q, cn]; rfl
        · rw [if_neg q, if_neg q, cn, hj _ _ _ ha]; rfl
      · rw [bF (by decide), bF (by decide), bF (by decide), bT rfl, bJ, rcpt_eq F fr rc nm ml c ls m0 m1 m2 h0 h1 3 out acc ha, if_neg (show ¬ ((3 : Int) = 6) by decide)]
        by_cases q : fy 3 c = true
        · rw [if_pos q, if_pos q, cn]; rfl
        · rw [if_neg q, if_neg q, cn, hj _ _ _ ha]; rfl
      · rw [bF (by decide), bF (by decide), bF (by decide), bF (by decide), bT rfl, bJ, data_eq F fr rc nm ml c ls m0 m1 m2 hF hml 4 out acc ha, if_neg (show ¬ ((4 : Int) = 6) by decide)]
        by_cases q : fy 4 c = true
        · rw [if_pos q, if_pos q, cn]; rfl
        · rw [if_neg q, if_neg q, cn, hj _ _ _ ha]; rfl
      · rw [bF (by decide), bF (by decide), bF (by decide), bF (by decide), bF (by decide), bT rfl, bJ, body_eq F fr rc nm ml c ls m0 m1 m2 h0 h1 5 out acc ha, if_neg (show ¬ ((5 : Int) = 6) by decide)]
        by_cases q : fy 5 c = true
        · rw [if_pos q, if_pos q]; rfl
        · rw [if_neg q, if_neg q]
          show cF F fr rc nm ml c false 5 out acc = _
          rw [hj _ _ _ ha]; rfl
      · rw [bF (by decide), bF (by decide), bF (by decide), bF (by decide), bF (by decide), bF (by decide), bJ, if_pos rfl]
        unfold me
        rw [bw, hj _ _ _ ha, if_pos rfl, List.append_nil]
theorem Step_eq (hF : 2000 < F) (hfr : fr.length ≤ 1000) (hrc : rc.length ≤ 1000) (hnm : nm.length ≤ 1000) (hml : ml.length ≤ 1000) (h0 : -9223372036854775808 ≤ c) (h1 : c ≤ 9223372036854775807) (hls : ∀ s ∈ ls, s.length ≤ 1000) (hln : ls.length ≤ 1000) (ph out : Int) : kX F ph out fr rc nm ml c ls m0 m1 m2 = some ((eD fr rc nm ml ph out c ls).1, (eD fr rc nm ml ph out c ls).2.1, fr, rc, nm, ml, (eD fr rc nm ml ph out c ls).2.2) := by
  unfold kX gc
  rw [gQ (by omega), bJ, qH F fr rc nm ml c ls m0 m1 m2 hF hfr hrc hnm hml h0 h1 hls hln ph out [] (by simp), cn]
  rfl
end
theorem Drop_eq (F : Nat) (ph out : Int) (fr rc nm ml : Bs) (hml : ml.length ≤ 1000000) : kZ F ph out fr rc nm ml = some (7, (if out = 0 then 2 else out), fr, rc, nm, ml) := by
  unfold kZ gc hH
  rw [gQ (by omega), bJ]
  by_cases h : out = 0
  · rw [bT h, if_pos h]; rfl
  · rw [bF h, if_neg h]; rfl
abbrev RL := List (Int × List Bs × Int × Int × Int)
def okR (L : RL) : Prop := ∀ x ∈ L, (200 ≤ x.1 ∧ x.1 ≤ 599) ∧ x.2.1.length ≤ 100 ∧ ∀ s ∈ x.2.1, s.length ≤ 506
theorem pC (fr rc nm ml : Bs) (hfr : fr.length ≤ 1000) (hrc : rc.length ≤ 1000) (hnm : nm.length ≤ 1000) (hml : ml.length ≤ 1000) (ph out c : Int) (ls : List Bs) : (eD fr rc nm ml ph out c ls).2.2.length ≤ 5000 := by
  have := mI ml
  have hq : quitD.length = 6 := rfl
  unfold eD
  split
  · simp
  split
  · simp
  split
  · simp
  split
  · unfold goP
    split
    · simp [ehloD]; omega
    split
    · split
      · simp [quitD]
      · simp [oB]; omega
    split
    · simp [pR]; omega
    split
    · simp [dataD]
    split
    · simp only; omega
    · simp [quitD]
  · simp [quitD]
theorem pD (fr rc nm ml : Bs) {M : Type} (s : St) (x : Int × List Bs × M) (r : List (Int × List Bs × M)) : lf fr rc nm ml s (x :: r) = lf fr rc nm ml ((eD fr rc nm ml s.1 s.2.1 x.1 x.2.1).1, (eD fr rc nm ml s.1 s.2.1 x.1 x.2.1).2.1, s.2.2 ++ (eD fr rc nm ml s.1 s.2.1 x.1 x.2.1).2.2) r := rfl
theorem run_loop (F : Nat) (hF : 20000 < F) (fr rc nm ml : Bs) (hfr : fr.length ≤ 1000) (hrc : rc.length ≤ 1000) (hnm : nm.length ≤ 1000) (hml : ml.length ≤ 1000) (L : RL) (hL : okR L) (hn : L.length ≤ 10000) : ∀ (n i : Nat) (ph out : Int) (acc : Bs), L.length - i < n → i ≤ L.length → acc.length ≤ 5000 * i →
    il F fr rc nm ml L n ((i : Int), ph, out, acc) = some ((kD (lf fr rc nm ml (ph, out, acc) (L.drop i))).1, (kD (lf fr rc nm ml (ph, out, acc) (L.drop i))).2.1, fr, rc, nm, ml, (kD (lf fr rc nm ml (ph, out, acc) (L.drop i))).2.2) := by
  intro n
  induction n with
  | zero => intro i ph out acc h; omega
  | succ n ih =>
    intro i ph out acc hn' hi ha;show im F fr rc nm ml L (il F fr rc nm ml L n) (i : Int) ph out acc = _
    unfold im
    by_cases h : i < L.length
    · obtain ⟨hc, hl, hs⟩ := hL _ (List.getElem_mem h)
      have ho := pC fr rc nm ml hfr hrc hnm hml ph out (L[i]).1 (L[i]).2.1
      rw [bT (by omega), cz (by omega), bG, ib h, qH F fr rc nm ml (L[i]).1 (L[i]).2.1 _ _ _ (by omega) hfr hrc hnm hml (by omega) (by omega) (fun s q => by have := hs s q; omega) (by omega) ph out acc (by omega), cn, dl (by omega), jt]
      rw [ih (i + 1) _ _ _ (by omega) (by omega) (by rw [List.length_append]; omega), bp h, pD]
    · rw [bF (by omega), bi (by omega)]
      unfold ik gz kD hH
      show _ = some ((if ph = 7 then (ph, out, acc) else (7, (if out = 0 then 2 else out), acc)).1, (if ph = 7 then (ph, out, acc) else (7, (if out = 0 then 2 else out), acc)).2.1, fr, rc, nm, ml, (if ph = 7 then (ph, out, acc) else (7, (if out = 0 then 2 else out), acc)).2.2)
      by_cases g : ph = 7
      · rw [decide_eq_true g, ntr, cfl, if_pos g]
      · rw [decide_eq_false g, nfl, ctr, if_neg g]
        by_cases k : out = 0
        · rw [bT k, if_pos k]; rfl
        · rw [bF k, if_neg k]; rfl
end Go.Cl
namespace Go.Rp
open Go.Pv Go.Av
abbrev Bs := List UInt8
theorem po (s : Bs) (c : UInt8) : -1 ≤ Go.Lib.indexByte s c ∧ Go.Lib.indexByte s c < s.length := by
  induction s with
  | nil => simp [Go.Lib.indexByte]
  | cons b r ih =>
    unfold Go.Lib.indexByte
    split
    · first | (simp; done) | (simp; omega)
    · split
      · first | (simp; done) | (simp; omega)
      · rename_i h
        have h' : ¬ Go.Lib.indexByte r c = -1 := by simpa using h
        simp; omega
theorem getD_at (s : Bs) (k : Nat) (h : k < s.length) : (⟨s.toArray⟩ : ByteArray).get! k = s[k] := by
  show (s.toArray)[k]! = _
  simp [h]
def crlf (b : UInt8) : Bool := decide (b = 13) || decide (b = 10)
end Go.Rp
namespace Go.Rp
open Go.Pv Go.Av
open Go.Lib (decDigits)
open Go.Dg (val eu gk mc mS oU oG Dig qQ gx ir mQ qW cfl ctr hU ia fo nfl ntr)
def dgB (c : UInt8) : Bool := decide (48 ≤ c.toNat) && decide (c.toNat ≤ 57)
theorem oD {c : UInt8} (h : dgB c = true) : Dig c := by
  unfold dgB at h
  show 48 ≤ c.toNat ∧ c.toNat ≤ 57
  simpa using h
theorem dgB_of {c : UInt8} (h : Dig c) : dgB c = true := by
  unfold dgB
  rw [decide_eq_true h.1, decide_eq_true h.2]; rfl
def okN (s : Bs) : Bool := ((decide (1 ≤ s.length) && decide (s.length ≤ 3)) && s.all dgB) && !(decide (s.head? = some 48) && decide (1 < s.length))
def gW (s : Bs) : Option Nat := if okN s = true then some (val 0 s) else none
theorem iu (c : UInt8) (h : Dig c) (n : Nat) (hn : n = c.toNat - 48) : UInt8.ofNat (48 + n) = c := by
  obtain ⟨h1, h2⟩ := h;subst hn
  rw [show 48 + (c.toNat - 48) = c.toNat by omega, UInt8.ofNat_toNat]
theorem dd2 {n : Nat} (h : 10 ≤ n) (h2 : n < 100) : decDigits n = [UInt8.ofNat (48 + n / 10), UInt8.ofNat (48 + n % 10)] := by
  rw [gk (by omega), eu (by omega)]; rfl
theorem dd3 {n : Nat} (h : 100 ≤ n) (h2 : n < 1000) : decDigits n = [UInt8.ofNat (48 + n / 10 / 10), UInt8.ofNat (48 + n / 10 % 10), UInt8.ofNat (48 + n % 10)] := by
  rw [gk (by omega), dd2 (by omega) (by omega)]; rfl
theorem dd_lt {n : Nat} (h : (decDigits n).length ≤ 3) : n < 1000 := by
  by_cases h1 : n < 1000
  · exact h1
  · rw [gk (by omega), gk (n := n / 10) (by omega), gk (n := n / 10 / 10) (by omega)] at h
    have := mS (n / 10 / 10 / 10)
    simp only [List.length_append, List.length_cons, List.length_nil] at h
    omega
theorem num_dd {s : Bs} {n : Nat} (h : gW s = some n) : s = decDigits n ∧ n < 1000 := by
  unfold gW at h
  by_cases hk : okN s = true
  · rw [if_pos hk] at h
    have hn : val 0 s = n := aC h
    unfold okN at hk
    simp only [Bool.and_eq_true, decide_eq_true_eq, Bool.not_eq_true', Bool.and_eq_false_iff, decide_eq_false_iff_not] at hk
    obtain ⟨⟨⟨h1, h2⟩, h3⟩, h4⟩ := hk
    match s, h1, h2, h3, h4, hn with
    | [a], _, _, h3, h4, hn =>
      have ha := oD (List.all_eq_true.1 h3 a (by simp))
      have hv : val 0 [a] = a.toNat - 48 := by show 10 * 0 + (a.toNat - 48) = _; omega
      have ha' := ha; obtain ⟨ha1, ha2⟩ := ha'
      refine ⟨?_, by omega⟩
      rw [← hn, hv, eu (by omega), iu a ha _ rfl]
    | [a, b], _, _, h3, h4, hn =>
      have ha := oD (List.all_eq_true.1 h3 a (by simp))
      have hb := oD (List.all_eq_true.1 h3 b (by simp))
      have hv : val 0 [a, b] = 10 * (a.toNat - 48) + (b.toNat - 48) := by show 10 * (10 * 0 + (a.toNat - 48)) + (b.toNat - 48) = _; omega
      have ha' := ha; obtain ⟨ha1, ha2⟩ := ha'
      have hb' := hb; obtain ⟨hb1, hb2⟩ := hb'
      have hne : a.toNat ≠ 48 := by
        intro e
        have : a = 48 := UInt8.toNat.inj e
        rcases h4 with h4 | h4
        · exact h4 (by rw [this]; rfl)
        · exact h4 (by simp)
      refine ⟨?_, by omega⟩
      rw [← hn, hv, dd2 (by omega) (by omega), iu a ha _ (by omega), iu b hb _ (by omega)]
    | [a, b, c], _, _, h3, h4, hn =>
      have ha := oD (List.all_eq_true.1 h3 a (by simp))
      have hb := oD (List.all_eq_true.1 h3 b (by simp))
      have hc := oD (List.all_eq_true.1 h3 c (by simp))
      have hv : val 0 [a, b, c] = 100 * (a.toNat - 48) + 10 * (b.toNat - 48) + (c.toNat - 48) := by show 10 * (10 * (10 * 0 + (a.toNat - 48)) + (b.toNat - 48)) + (c.toNat - 48) = _; omega
      have ha' := ha; obtain ⟨ha1, ha2⟩ := ha'
      have hb' := hb; obtain ⟨hb1, hb2⟩ := hb'
      have hc' := hc; obtain ⟨hc1, hc2⟩ := hc'
      have hne : a.toNat ≠ 48 := by
        intro e
        have : a = 48 := UInt8.toNat.inj e
        rcases h4 with h4 | h4
        · exact h4 (by rw [this]; rfl)
        · exact h4 (by simp)
      refine ⟨?_, by omega⟩
      rw [← hn, hv, dd3 (by omega) (by omega), iu a ha _ (by omega), iu b hb _ (by omega), iu c hc _ (by omega)]
    | [], h1, _, _, _, _ => simp at h1
    | a :: b :: c :: d :: r, _, h2, _, _, _ => simp at h2
  · rw [if_neg hk] at h; cases h
theorem dd_head {n : Nat} (h : n < 1000) : ¬ ((decDigits n).head? = some 48 ∧ 1 < (decDigits n).length) := by
  rintro ⟨h1, h2⟩
  by_cases h10 : n < 10
  · rw [eu h10] at h2; simp at h2
  · have key : ∀ k, k < 10 → 1 ≤ k → UInt8.ofNat (48 + k) ≠ 48 := by
      intro k hk h1 e
      have := congrArg UInt8.toNat e
      rw [gx k hk] at this
      have e48 : (48 : UInt8).toNat = 48 := rfl
      omega
    by_cases h100 : n < 100
    · rw [dd2 (by omega) h100] at h1
      exact key (n / 10) (by omega) (by omega) (aC h1)
    · rw [dd3 (by omega) h] at h1
      exact key (n / 10 / 10) (by omega) (by omega) (aC h1)
theorem dd_num {n : Nat} (h : n < 1000) : gW (decDigits n) = some n := by
  have h3 : (decDigits n).length ≤ 3 := by
    by_cases h10 : n < 10
    · rw [eu h10]; simp
    · by_cases h100 : n < 100
      · rw [dd2 (by omega) h100]; simp
      · rw [dd3 (by omega) h]; simp
  have hk : okN (decDigits n) = true := by
    unfold okN
    rw [decide_eq_true (mS n), decide_eq_true h3, List.all_eq_true.2 fun c hc => dgB_of (mc n c hc)]
    have := dd_head h
    by_cases g : (decDigits n).head? = some 48
    · rw [decide_eq_false (p := 1 < (decDigits n).length) fun q => this ⟨g, q⟩, Bool.and_false]; rfl
    · rw [decide_eq_false g]; rfl
  unfold gW
  rw [if_pos hk, oG]
def mV (o : Option (Int × Int)) : Prop := ∃ x k, o = some (x, k) ∧ -9223372036854775808 ≤ x ∧ x ≤ 9223372036854775807
theorem lk {c : Bool} {a b : Option (Int × Int)} (ha : mV a) (hb : mV b) : mV (bif c then a else b) := by cases c <;> assumption
theorem lH (a s : Bs) (ha : a ≠ []) (hs : s.length ≤ 18) : ∀ (n i v : Nat), s.length - i < n → i ≤ s.length → v < 10 ^ i → mV (dU a s n ((v : Int), (i : Int))) := by
  intro n
  induction n with
  | zero => intro i v h; omega
  | succ n ih =>
    intro i v hn hi hv;show mV (dV a s (dU a s n) (v : Int) (i : Int))
    unfold dV
    have hv18 : v < 10 ^ 18 := Nat.lt_of_lt_of_le hv (Nat.pow_le_pow_right (by omega) (by omega))
    by_cases h : i < s.length
    · have hv17 : v < 10 ^ 17 := Nat.lt_of_lt_of_le hv (Nat.pow_le_pow_right (by omega) (by omega))
      rw [bT (by omega), cz (by omega), bG]
      obtain ⟨c, hc⟩ : ∃ c, c = at_ s (i : Int) := ⟨_, rfl⟩
      rw [← hc]
      by_cases h9 : 9 < (c - 48).toNat
      · rw [bT (by omega)]; exact ⟨0, 2, rfl, by omega, by omega⟩
      · have e1 : ((v : Int) * 10) + ((c - 48).toNat : Int) = ((v * 10 + (c - 48).toNat : Nat) : Int) := by omega
        have e2 : ((i : Int) + 1) = ((i + 1 : Nat) : Int) := by omega
        rw [bF (by omega), dl (by omega), dl (by omega), dl (by omega), e1, e2]
        refine ih (i + 1) _ (by omega) (by omega) ?_
        rw [Nat.pow_succ]; omega
    · rw [bF (by omega)]
      unfold dS dT
      have hp : 0 < a.length := List.length_pos_iff.2 ha
      rw [cz (by omega), bG]
      refine lk ?_ ⟨_, 0, rfl, by omega, by omega⟩
      rw [dl (by omega)]; exact ⟨_, 0, rfl, by omega, by omega⟩
theorem atoi_b (F : Nat) (s : Bs) (hs : s.length ≤ 3) (hF : 10 < F) : mV (cx F s) := by
  have key : mV (fB F s) := by
    unfold fB dR fH
    by_cases h : 0 < s.length
    · have hc : ((decide (0 < (s.length : Int))) && (decide ((s.length : Int) < 19))) = true := by
        rw [decide_eq_true (by omega), decide_eq_true (by omega)]; rfl
      have hne : s ≠ [] := List.length_pos_iff.1 h
      have hf : (eQ s 1).length ≤ s.length := by unfold eQ; simp
      rw [hc, ctr, cz (by omega), bG]
      have hg : ∀ (c : Bool) (x : Option (Int × Int)), fG c (dj 0 s.length) x = x := fun c x => kR fun _ => by omega
      rw [hg, bG]
      refine lk ?_ ?_
      · rw [fW (by omega), bG]
        refine lk ⟨0, 2, rfl, by omega, by omega⟩ ?_
        rw [cO (by omega)]
        exact lH s _ hne (by omega) F 0 0 (by omega) (by omega) (by omega)
      · rw [cO (by omega)]
        exact lH s _ hne (by omega) F 0 0 (by omega) (by omega) (by omega)
    · have e : s = [] := List.eq_nil_of_length_eq_zero (by omega)
      subst e;exact ⟨0, 2, rfl, by omega, by omega⟩
  obtain ⟨x, k, e, h1, h2⟩ := key;obtain ⟨x2, k2, e2⟩ := mQ F s (by omega) (by omega);refine ⟨x2, k2, e2, ?_⟩
  unfold cx at e2
  rw [e, bw] at e2
  have : x2 = x := by
    by_cases h0 : k = 0
    · subst h0; rw [decide_eq_true rfl, ntr, cfl] at e2; cases e2; rfl
    · rw [decide_eq_false h0, nfl, ctr] at e2
      obtain ⟨_, e2⟩ := bb e2;obtain ⟨_, e2⟩ := bb e2
      cases e2; rfl
  rw [this]; exact ⟨h1, h2⟩
theorem jn (F : Nat) (s : Bs) (hs : s.length ≤ 1000) (hF : 2000 < F) : ∃ x : Int, fI F s = some (x, (gW s).isSome) ∧ ∀ n, gW s = some n → x = n := by
  obtain ⟨x, k, e⟩ := mQ F s hs (by omega)
  have hdd : ∀ n, gW s = some n → x = (n : Int) ∧ k = 0 ∧ s.length ≤ 3 ∧ s = decDigits n := by
    intro n hn;obtain ⟨h1, h2⟩ := num_dd hn
    have h3 : s.length ≤ 3 := by
      unfold gW at hn
      by_cases hk : okN s = true
      · unfold okN at hk
        simp only [Bool.and_eq_true, decide_eq_true_eq] at hk
        exact hk.1.1.2
      · rw [if_neg hk] at hn; cases hn
    have := qW F n (by omega) (by omega)
    rw [← h1, e] at this
    cases this
    exact ⟨rfl, rfl, h3, h1⟩
  unfold fI
  rw [e, bw]
  by_cases hc : k = 0 ∧ s.length ≤ 3
  · obtain ⟨rfl, h3⟩ := hc
    obtain ⟨x', k', e', hb⟩ := atoi_b F s h3 (by omega)
    rw [e] at e'; cases e'
    have hcc : ((decide ((0 : Int) = 0)) && (decide ((s.length : Int) ≤ 3))) = true := by
      rw [decide_eq_true (by omega : (s.length : Int) ≤ 3)]; rfl
    rw [hcc, mR, dl hb, bG]
    refine ⟨x, ?_, fun n hn => (hdd n hn).1⟩
    congr 2
    cases hn : gW s with
    | some n =>
      obtain ⟨h1, _, _, h4⟩ := hdd n hn
      rw [h1, ir, decide_eq_true h4.symm, decide_eq_true (Int.natCast_nonneg n)]; rfl
    | none =>
      by_cases h0 : 0 ≤ x
      · have h1 : ¬ Go.Lib.itoa x = s := by
          intro g
          have e2 : x = ((x.toNat : Nat) : Int) := by omega
          rw [e2, ir] at g
          rw [← g, dd_num (dd_lt (by rw [g]; exact h3))] at hn
          cases hn
        rw [decide_eq_false h1]; rfl
      · rw [decide_eq_false h0, Bool.and_false]; rfl
  · have hcc : ((decide (k = 0)) && (decide ((s.length : Int) ≤ 3))) = false := by
      by_cases h0 : k = 0
      · rw [decide_eq_false (p := (s.length : Int) ≤ 3) (by omega), Bool.and_false]
      · rw [decide_eq_false h0]; rfl
    rw [hcc, ki, bG]
    refine ⟨x, ?_, fun n hn => (hdd n hn).1⟩
    congr 2
    cases hn : gW s with
    | some n => obtain ⟨_, h2, h3, _⟩ := hdd n hn; exact absurd ⟨h2, h3⟩ hc
    | none => rfl
end Go.Rp
namespace Go.Rp
open Go.Pv Go.Av
def sp (c : UInt8) : Bs → List Bs
  | [] => [[]]
  | b :: r => if b = c then [] :: sp c r else match sp c r with
    | [] => [[b]]
    | p :: ps => (b :: p) :: ps
theorem sp_ne (c : UInt8) (s : Bs) : sp c s ≠ [] := by
  cases s with
  | nil => simp [sp]
  | cons b r => unfold sp; split; simp; split <;> simp
theorem gB (b c : UInt8) (l : Bs) : Go.Lib.index (b :: l) [c] = if b = c then 0 else if Go.Lib.index l [c] = -1 then -1 else Go.Lib.index l [c] + 1 := by
  by_cases h : b = c
  · subst h; simp [Go.Lib.index]
  · simp [Go.Lib.index, h, Ne.symm h]
def prep (cur : Bs) : List Bs → List Bs
  | [] => [cur]
  | p :: ps => (cur ++ p) :: ps
theorem jW {b c : UInt8} (h : ¬ b = c) (r : Bs) : sp c (b :: r) = prep [b] (sp c r) := by
  simp only [sp, h, if_false]
  cases sp c r <;> rfl
theorem jX (c : UInt8) (r : Bs) : sp c (c :: r) = [] :: sp c r := by simp [sp]
theorem nA (c : UInt8) : ∀ (s : Bs), Go.Lib.splitK [c] 0 (s.count c) s = sp c s
  | [] => rfl
  | b :: l => by
    have ih := nA c l
    have hi := gB b c l
    have hge := Go.Lib.index_ge l [c]
    by_cases h : b = c
    · subst h
      rw [List.count_cons_self, jX, Go.Lib.splitK, hi]
      simp [ih]
    · rw [List.count_cons_of_ne h, jW h, ← ih]
      cases hk : l.count c with
      | zero => simp [Go.Lib.splitK, prep]
      | succ k =>
        rw [Go.Lib.splitK, Go.Lib.splitK, hi]
        simp only [h, if_false]
        by_cases hm : Go.Lib.index l [c] = -1
        · simp [hm, prep]
        · obtain ⟨j, hj⟩ := Int.eq_ofNat_of_zero_le (show 0 ≤ Go.Lib.index l [c] by omega)
          have h2 : ¬ (Go.Lib.index l [c] + 1 = -1) := by omega
          have h3 : (Go.Lib.index l [c] + 1).toNat = j + 1 := by omega
          have h4 : (Go.Lib.index l [c]).toNat = j := by omega
          simp [hm, h2, h3, h4, prep]
theorem rj (s : Bs) (c : UInt8) : Go.Lib.split s [c] = sp c s := by
  unfold Go.Lib.split
  rw [Go.Lib.count_one, nA]
end Go.Rp
namespace Go.Rp
open Go.Pv Go.Av
open Go.Lib (decDigits)
open Go.Dg (ir cfl ctr hU ia fo nfl ntr)
abbrev M3 := Int × Int × Int
def more3 (c : Int) : List Bs → M3
  | [a, b, d] => if c / 100 = 3 then (0, 0, 0) else match gW a, gW b, gW d with
    | some x, some y, some z => if (x : Int) = c / 100 then ((x : Int), (y : Int), (z : Int)) else (0, 0, 0)
    | _, _, _ => (0, 0, 0)
  | _ => (0, 0, 0)
theorem pk (c : Int) (a b d : Bs) : more3 c [a, b, d] = if c / 100 = 3 then (0, 0, 0) else match gW a, gW b, gW d with
    | some x, some y, some z => if (x : Int) = c / 100 then ((x : Int), (y : Int), (z : Int)) else (0, 0, 0)
    | _, _, _ => (0, 0, 0) := rfl
def iQ (c : Int) (s : Bs) : M3 := more3 c (sp 46 ((sp 32 s).headD []))
theorem mO : ∀ s : Bs, (Go.Lib.cut s [32]).1 = (sp 32 s).headD []
  | [] => rfl
  | b :: r => by
    have ih := mO r
    by_cases h : b = 32
    · subst h
      rw [jX]
      unfold Go.Lib.cut
      rw [gB, if_pos rfl]
      rfl
    · rw [jW h]
      cases hs : sp 32 r with
      | nil => exact absurd hs (sp_ne 32 r)
      | cons p ps =>
        rw [hs] at ih
        show (Go.Lib.cut (b :: r) [32]).1 = b :: p
        have ih' : (Go.Lib.cut r [32]).1 = p := ih
        rw [← ih']
        unfold Go.Lib.cut
        rw [gB, if_neg h]
        by_cases hn : Go.Lib.index r [32] = -1
        · rw [if_pos hn, if_neg (by omega), if_neg (by rw [hn]; omega)]
        · rw [if_neg hn]
          by_cases h0 : 0 ≤ Go.Lib.index r [32]
          · rw [if_pos (by omega), if_pos h0, show (Go.Lib.index r [32] + 1).toNat = (Go.Lib.index r [32]).toNat + 1 by omega]; rfl
          · have : Go.Lib.index r [32] = -1 := by
              have := Go.Lib.index_one r 32
              have h2 := Go.Lib.indexByte_ge r 32
              omega
            exact absurd this hn
theorem head_len (s : Bs) : ((sp 32 s).headD []).length ≤ s.length := by
  rw [← mO]
  unfold Go.Lib.cut
  split <;> simp
  exact Nat.min_le_right _ _
theorem lY (c : UInt8) : ∀ s : Bs, ∀ w ∈ sp c s, w.length ≤ s.length
  | [], w, h => by
    have : w = [] := by simpa [sp] using h
    rw [this]; simp
  | b :: r, w, h => by
    by_cases hb : b = c
    · subst hb
      rw [jX] at h
      rcases List.mem_cons.1 h with rfl | h
      · simp
      · have := lY b r w h; simp; omega
    · rw [jW hb] at h
      cases hs : sp c r with
      | nil => exact absurd hs (sp_ne c r)
      | cons p ps =>
        rw [hs] at h
        rcases List.mem_cons.1 h with rfl | h
        · have := lY c r p (by rw [hs]; simp)
          simp; omega
        · have := lY c r w (by rw [hs]; simp [h])
          simp; omega
theorem more_eq (F : Nat) (hF : 2000 < F) (c : Nat) (s : Bs) (hs : s.length ≤ 900) : jg F (c : Int) s = some (iQ (c : Int) s) ∨ 1000000 < c := by
  by_cases hc : 1000000 < c
  · exact .inr hc
  refine .inl ?_
  have hl := head_len s
  unfold jg iQ
  rw [gQ (by omega), bG, mO, gQ (by omega), lU (by decide), bG, rj]
  generalize hw : sp 46 ((sp 32 s).headD []) = w
  have hlens : ∀ x ∈ w, x.length ≤ 1000 := fun x hx => by
    have := lY 46 ((sp 32 s).headD []) x (by rw [hw]; exact hx)
    omega
  have hg : ∀ (b : Bool) (x : Option M3), fG b (mU (c : Int) 100) x = x := by
    intro b x
    cases b
    · exact ki
    · rw [mR, qP (by omega)]
  rw [hg]
  match w, hlens with
  | [], _ => rfl
  | [a], _ => rfl
  | [a, b], _ => rfl
  | a :: b :: d :: e :: r, _ =>
    have : decide (((a :: b :: d :: e :: r).length : Int) = 3) = false := decide_eq_false (by simp; omega)
    rw [this, nfl, Bool.true_or, ctr]; rfl
  | [a, b, d], hlens =>
    have e3 : decide ((([a, b, d] : List Bs).length : Int) = 3) = true := rfl
    rw [e3, ntr, fo]
    rw [pk]
    by_cases h3 : (c : Int) / 100 = 3
    · rw [bT h3, if_pos h3]
    · rw [bF h3, if_neg h3]
      obtain ⟨xa, ea, ha⟩ := jn F a (hlens a (by simp)) hF;obtain ⟨xb, eb, hb⟩ := jn F b (hlens b (by simp)) hF;obtain ⟨xd, ed, hd⟩ := jn F d (hlens d (by simp)) hF;obtain ⟨G, hG⟩ : ∃ G, F = G + 4 := ⟨F - 4, by omega⟩
      have step : ∀ (n : Nat) (i : Int) (u v w : Int), dd F (c : Int) [a, b, d] (n + 1) (i, u, v, w) = dJ F (c : Int) [a, b, d] (dd F (c : Int) [a, b, d] n) i u v w := fun _ _ _ _ _ => rfl
      have lF : ∀ x, dd F (c : Int) [a, b, d] F x = dd F (c : Int) [a, b, d] (G + 3 + 1) x := fun x => by rw [hG]
      rw [lF, step]
      unfold dJ
      have a0 : at_ [a, b, d] 0 = a := rfl
      have a1 : at_ [a, b, d] (0 + 1) = b := rfl
      have a2 : at_ [a, b, d] (0 + 1 + 1) = d := rfl
      rw [bT (by simp), cz (by simp), bG, a0, ea, bw]
      cases hna : gW a with
      | none => rfl
      | some x =>
        rw [show (some x).isSome = true from rfl, ntr, cfl, cz (by simp), cz (by simp), bG, dl (by omega), ha x hna]
        show dd F (c : Int) [a, b, d] (G + 2 + 1) (0 + 1, (x : Int), 0, 0) = _
        rw [step]
        unfold dJ
        rw [bT (by simp), cz (by simp), bG, a1, eb, bw]
        cases hnb : gW b with
        | none => rfl
        | some y =>
          rw [show (some y).isSome = true from rfl, ntr, cfl, cz (by simp), cz (by simp), bG, dl (by omega), hb y hnb]
          show dd F (c : Int) [a, b, d] (G + 1 + 1) (0 + 1 + 1, (x : Int), (y : Int), 0) = _
          rw [step]
          unfold dJ
          rw [bT (by simp), cz (by simp), bG, a2, ed, bw]
          cases hnd : gW d with
          | none => rfl
          | some z =>
            rw [show (some z).isSome = true from rfl, ntr, cfl, cz (by simp), cz (by simp), bG, dl (by omega), hd z hnd]
            show dd F (c : Int) [a, b, d] (G + 1) (0 + 1 + 1 + 1, (x : Int), (y : Int), (z : Int)) = _
            rw [step]
            unfold dJ fQ eY
            rw [bF (by simp), qP (by omega)]
            by_cases hx : (x : Int) = (c : Int) / 100
            · rw [bT hx]; simp only [if_pos hx]
            · rw [bF hx]; simp only [if_neg hx]
end Go.Rp
namespace Go.Rp
open Go.Pv Go.Av
open Go.Lib (decDigits)
open Go.Dg (ir cfl ctr hU ia fo nfl ntr eu gk oU)
def fitB (s : Bs) : Bool := !(s.any crlf) && decide (s.length ≤ 506)
def lst (ls : List Bs) : Bs := at_ ls ((ls.length : Int) - 1)
def mayB (c : Int) (ls : List Bs) (m : M3) : Bool := (((decide (200 ≤ c) && decide (c ≤ 599)) && (decide (1 ≤ ls.length) && decide (ls.length ≤ 100))) && ls.all fitB) && decide (m = iQ c (lst ls))
def lnW (d : Bs) (g : UInt8) (s : Bs) : Bs := d ++ g :: (s ++ [13, 10])
def wrL (d : Bs) : List Bs → Bs
  | [] => []
  | s :: r => lnW d (if r = [] then 32 else 45) s ++ wrL d r
def wrA (c : Int) (ls : List Bs) : Bs := wrL (decDigits c.toNat) ls
theorem may_s {c : Int} {ls : List Bs} {m : M3} (h : mayB c ls m = true) : (200 ≤ c ∧ c ≤ 599) ∧ (1 ≤ ls.length ∧ ls.length ≤ 100) ∧ (∀ s ∈ ls, fitB s = true) ∧ m = iQ c (lst ls) := by
  unfold mayB at h
  simp only [Bool.and_eq_true, decide_eq_true_eq] at h
  exact ⟨h.1.1.1, h.1.1.2, fun s hs => List.all_eq_true.1 h.1.2 s hs, h.2⟩
theorem fit_len {s : Bs} (h : fitB s = true) : s.length ≤ 506 := by
  unfold fitB at h
  simp only [Bool.and_eq_true, decide_eq_true_eq] at h
  exact h.2
end Go.Rp
namespace Go.Rp
open Go.Pv Go.Av
open Go.Lib (decDigits indexByte)
open Go.Dg (val Dig ir cfl ctr hU ia fo nfl ntr eu gk oU mc mS)
theorem lT (b : Bs) (c : UInt8) : -1 ≤ indexByte b c := Go.Lib.indexByte_ge b c
theorem ib_lt (b : Bs) (c : UInt8) : indexByte b c < b.length := (po b c).2
theorem ib_app {b : Bs} {c : UInt8} (h : 0 ≤ indexByte b c) (r : Bs) : indexByte (b ++ r) c = indexByte b c := by
  induction b with
  | nil => exact absurd (show (0 : Int) ≤ -1 from h) (by decide)
  | cons a b ih =>
    have hg := lT b c
    unfold Go.Lib.indexByte at h
    show indexByte (a :: (b ++ r)) c = indexByte (a :: b) c
    unfold Go.Lib.indexByte
    by_cases e : (a == c) = true
    · rw [if_pos e, if_pos e]
    · rw [if_neg e] at h
      rw [if_neg e, if_neg e]
      by_cases e2 : indexByte b c = -1
      · rw [e2] at h; exact absurd h (by decide)
      · rw [ih (by omega)]
theorem nH {b : Bs} {c : UInt8} (h : indexByte b c = -1) (r : Bs) : indexByte (b ++ r) c = -1 ∨ (b.length : Int) ≤ indexByte (b ++ r) c := by
  induction b with
  | nil =>
    have hg := lT r c
    show indexByte r c = -1 ∨ (0 : Int) ≤ indexByte r c
    omega
  | cons a b ih =>
    unfold Go.Lib.indexByte at h
    show indexByte (a :: (b ++ r)) c = -1 ∨ ((a :: b).length : Int) ≤ indexByte (a :: (b ++ r)) c
    by_cases e : (a == c) = true
    · rw [if_pos e] at h; exact absurd h (by decide)
    · rw [if_neg e] at h
      have hb : indexByte b c = -1 := by
        by_cases e2 : indexByte b c = -1
        · exact e2
        · have hg := lT b c
          have e3 : (indexByte b c == -1) = false := by simpa using e2
          rw [e3] at h
          simp only [Bool.false_eq_true, if_false] at h
          omega
      unfold Go.Lib.indexByte
      rw [if_neg e]
      rcases ih hb with g | g
      · rw [g]; exact .inl rfl
      · have e3 : (indexByte (b ++ r) c == -1) = false := by
          have : ¬ indexByte (b ++ r) c = -1 := by omega
          simpa using this
        rw [e3]
        simp only [Bool.false_eq_true, if_false]
        right; simp; omega
theorem ib_at (p q : Bs) (c : UInt8) (h : ∀ b ∈ p, b ≠ c) : indexByte (p ++ c :: q) c = (p.length : Int) := by
  induction p with
  | nil => simp [Go.Lib.indexByte]
  | cons a p ih =>
    have e : ¬ (a == c) = true := by simpa using h a (by simp)
    have ih' := ih fun b hb => h b (by simp [hb])
    show indexByte (a :: (p ++ c :: q)) c = _
    unfold Go.Lib.indexByte
    rw [if_neg e, ih']
    have e3 : (((p.length : Nat) : Int) == -1) = false := by
      simp
    rw [e3]
    simp
theorem pL {b : Bs} {c : UInt8} {i : Nat} (h : indexByte b c = (i : Int)) : ∃ p q, b = p ++ c :: q ∧ p.length = i ∧ ∀ x ∈ p, x ≠ c := by
  induction b generalizing i with
  | nil => have : (-1 : Int) = (i : Int) := h; omega
  | cons a b ih =>
    unfold Go.Lib.indexByte at h
    by_cases e : (a == c) = true
    · rw [if_pos e] at h
      refine ⟨[], b, ?_, by simp only [List.length_nil]; omega, by simp⟩
      rw [show a = c by simpa using e]; rfl
    · rw [if_neg e] at h
      by_cases e2 : indexByte b c = -1
      · rw [e2] at h
        have : (-1 : Int) = (i : Int) := h
        omega
      · have e3 : (indexByte b c == -1) = false := by simpa using e2
        rw [e3] at h
        simp only [Bool.false_eq_true, if_false] at h
        have hg := lT b c
        obtain ⟨p, q, h1, h2, h3⟩ := ih (i := i - 1) (by omega);refine ⟨a :: p, q, by rw [h1]; rfl, by simp; omega, fun x hx => ?_⟩
        rcases List.mem_cons.1 hx with rfl | hx
        · intro e4; exact e (by simp [e4])
        · exact h3 x hx
inductive Ln | wait | bad | ok (s : Bs)
def hZ (b : Bs) : Ln :=
  if indexByte b 10 < 0 then (if b.length < 512 then .wait else .bad)
  else if indexByte b 10 < 512 ∧ 0 < indexByte b 10 ∧ indexByte b 13 = indexByte b 10 - 1 then .ok (b.take (indexByte b 10 - 1).toNat) else .bad
theorem ln_ok {b s : Bs} (h : hZ b = .ok s) : ∃ t, b = s ++ 13 :: 10 :: t ∧ (∀ x ∈ s, crlf x = false) ∧ s.length ≤ 510 := by
  unfold hZ at h
  by_cases h0 : indexByte b 10 < 0
  · rw [if_pos h0] at h
    split at h <;> cases h
  · rw [if_neg h0] at h
    split at h
    · rename_i hc
      obtain ⟨h1, h2, h3⟩ := hc
      have hs : b.take (indexByte b 10 - 1).toNat = s := by injection h
      obtain ⟨p, q, e1, e2, e3⟩ := pL (b := b) (c := 10) (i := (indexByte b 10).toNat) (by omega);obtain ⟨p', q', g1, g2, g3⟩ := pL (b := b) (c := 13) (i := (indexByte b 10 - 1).toNat) (by omega)
      have hp' : p' = s := by rw [← hs, ← g2, g1, List.take_left' rfl]
      have hp : p = p' ++ [13] := by
        have a1 : b.take (indexByte b 10).toNat = p := by rw [← e2, e1, List.take_left' rfl]
        have a2 : b.take (indexByte b 10).toNat = p' ++ [13] := by
          have l : (indexByte b 10).toNat = (p' ++ [13]).length := by simp; omega
          rw [l, g1, show p' ++ 13 :: q' = (p' ++ [13]) ++ q' by simp, List.take_left' rfl]
        rw [← a1, a2]
      refine ⟨q, by rw [← hp', e1, hp]; simp, fun x hx => ?_, by rw [← hp']; omega⟩
      unfold crlf
      rw [← hp'] at hx
      rw [decide_eq_false (g3 x hx), decide_eq_false (e3 x (by rw [hp]; simp [hx]))]; rfl
    · cases h
theorem ln_of (s t : Bs) (h : ∀ x ∈ s, crlf x = false) (hl : s.length ≤ 510) : hZ (s ++ 13 :: 10 :: t) = .ok s := by
  have h13 : ∀ x ∈ s, x ≠ 13 := fun x hx e => by have := h x hx; rw [e] at this; revert this; decide
  have h10 : ∀ x ∈ s ++ [13], x ≠ 10 := fun x hx e => by
    rcases List.mem_append.1 hx with hx | hx
    · have := h x hx; rw [e] at this; revert this; decide
    · rw [List.mem_singleton.1 hx] at e; revert e; decide
  have e1 := ib_at s (10 :: t) 13 h13
  have e2 := ib_at (s ++ [13]) t 10 h10
  rw [show (s ++ [13]) ++ 10 :: t = s ++ 13 :: 10 :: t by simp] at e2
  have e2' : indexByte (s ++ 13 :: 10 :: t) 10 = (s.length : Int) + 1 := by rw [e2]; simp
  unfold hZ
  rw [e1, e2', if_neg (by omega), if_pos (by omega), show ((s.length : Int) + 1 - 1).toNat = s.length by omega, List.take_left']
  rfl
theorem nG {b s : Bs} (h : hZ b = .ok s) (r : Bs) : hZ (b ++ r) = .ok s := by
  obtain ⟨t, rfl, h1, h2⟩ := ln_ok h
  rw [show (s ++ 13 :: 10 :: t) ++ r = s ++ 13 :: 10 :: (t ++ r) by simp]
  exact ln_of s _ h1 h2
theorem mz {b : Bs} (h : hZ b = .bad) (r : Bs) : hZ (b ++ r) = .bad := by
  have hl : (b ++ r).length = b.length + r.length := List.length_append
  unfold hZ at h ⊢
  have g10 := lT b 10
  have g13 := lT b 13
  by_cases h0 : indexByte b 10 < 0
  · rw [if_pos h0] at h
    have hb : ¬ b.length < 512 := by
      intro g; rw [if_pos g] at h; cases h
    rcases nH (show indexByte b 10 = -1 by omega) r with g | g
    · rw [g, if_pos (by omega), if_neg (by omega)]
    · rw [if_neg (by omega), if_neg (by omega)]
  · rw [if_neg h0] at h
    have hb : ¬ (indexByte b 10 < 512 ∧ 0 < indexByte b 10 ∧ indexByte b 13 = indexByte b 10 - 1) := by
      intro g; rw [if_pos g] at h; cases h
    have hlt := ib_lt b 10
    rw [ib_app (by omega) r, if_neg h0]
    by_cases h13 : 0 ≤ indexByte b 13
    · rw [ib_app h13 r, if_neg hb]
    · rcases nH (show indexByte b 13 = -1 by omega) r with g | g
      · rw [g, if_neg (by omega)]
      · rw [if_neg (by omega)]
theorem qB {b s : Bs} (h : hZ b = .ok s) : s.length + 2 ≤ b.length := by
  obtain ⟨t, rfl, _, _⟩ := ln_ok h
  simp
def iR (s : Bs) : Option Nat :=
  if 4 ≤ s.length ∧ (at_ s 3 = 45 ∨ at_ s 3 = 32) then
    match gW (s.take 3) with
    | some n => if 200 ≤ n ∧ n ≤ 599 then some n else none
    | none => none
  else none
theorem code_s {s : Bs} {n : Nat} (h : iR s = some n) : 4 ≤ s.length ∧ (at_ s 3 = 45 ∨ at_ s 3 = 32) ∧ (200 ≤ n ∧ n ≤ 599) ∧ gW (s.take 3) = some n := by
  unfold iR at h
  split at h
  · rename_i hc
    cases hn : gW (s.take 3) with
    | none => rw [hn] at h; cases h
    | some k =>
      rw [hn] at h
      simp only at h
      split at h
      · cases h; rename_i hk; exact ⟨hc.1, hc.2, hk, rfl⟩
      · cases h
  · cases h
abbrev Rp := Int × List Bs × M3
inductive One | wait | bad | ok (x : Rp) (n : Nat)
def iM : Nat → Int → List Bs → Nat → Bs → One
  | 0, _, _, _, b => match hZ b with
    | .wait => .wait
    | _ => .bad
  | k + 1, c, ls, at', b => match hZ b with
    | .wait => .wait
    | .bad => .bad
    | .ok s => match iR s with
      | none => .bad
      | some n => if ls ≠ [] ∧ (n : Int) ≠ c then .bad else
        if at_ s 3 = 32 then .ok ((n : Int), ls ++ [s.drop 4], iQ (n : Int) (s.drop 4)) (at' + (s.length + 2))
        else iM k (n : Int) (ls ++ [s.drop 4]) (at' + (s.length + 2)) (b.drop (s.length + 2))
def one (b : Bs) : One := iM 100 0 [] 0 b
theorem pF (r : Bs) : ∀ (k : Nat) (c : Int) (ls : List Bs) (a : Nat) (b : Bs), iM k c ls a b ≠ .wait → iM k c ls a (b ++ r) = iM k c ls a b
  | 0, c, ls, a, b, h => by
    unfold iM at h ⊢
    cases hb : hZ b with
    | wait => rw [hb] at h; exact absurd rfl h
    | bad => rw [mz hb r]
    | ok s => rw [nG hb r]
  | k + 1, c, ls, a, b, h => by
    unfold iM at h ⊢
    cases hb : hZ b with
    | wait => rw [hb] at h; exact absurd rfl h
    | bad => rw [mz hb r]
    | ok s =>
      rw [hb] at h
      rw [nG hb r]
      simp only at h ⊢
      cases hc : iR s with
      | none => rfl
      | some n =>
        rw [hc] at h
        simp only at h ⊢
        by_cases h1 : ls ≠ [] ∧ (n : Int) ≠ c
        · rw [if_pos h1, if_pos h1]
        · rw [if_neg h1] at h
          rw [if_neg h1, if_neg h1]
          by_cases h2 : at_ s 3 = 32
          · rw [if_pos h2, if_pos h2]
          · rw [if_neg h2] at h
            rw [if_neg h2, if_neg h2, List.drop_append_of_le_length (qB hb)]
            exact pF r k _ _ _ _ h
theorem oH : ∀ (k : Nat) (c : Int) (ls : List Bs) (a : Nat) (b : Bs) (x : Rp) (n : Nat), iM k c ls a b = .ok x n →
    ∃ (d : Nat) (l2 : List Bs), x = ((d : Int), ls ++ l2, iQ (d : Int) (lst l2)) ∧ l2 ≠ [] ∧ l2.length ≤ k ∧ (∀ s ∈ l2, fitB s = true) ∧ (200 ≤ d ∧ d ≤ 599) ∧ (ls ≠ [] → (d : Int) = c) ∧ a < n ∧ n ≤ a + b.length ∧ b.take (n - a) = wrL (decDigits d) l2
  | 0, c, ls, a, b, x, n, h => by
    unfold iM at h
    split at h <;> cases h
  | k + 1, c, ls, a, b, x, n, h => by
    unfold iM at h
    cases hb : hZ b with
    | wait => rw [hb] at h; cases h
    | bad => rw [hb] at h; cases h
    | ok s =>
      rw [hb] at h
      simp only at h
      cases hc : iR s with
      | none => rw [hc] at h; cases h
      | some m =>
        rw [hc] at h
        simp only at h
        by_cases h1 : ls ≠ [] ∧ (m : Int) ≠ c
        · rw [if_pos h1] at h; cases h
        rw [if_neg h1] at h
        have hcode : ls ≠ [] → (m : Int) = c := fun g => by
          by_cases e : (m : Int) = c
          · exact e
          · exact absurd ⟨g, e⟩ h1
        obtain ⟨t, ht, hs, hl⟩ := ln_ok hb;obtain ⟨c1, c2, c3, c4⟩ := code_s hc;obtain ⟨d1, d2⟩ := num_dd c4
        have hlen := qB hb
        have hfit : fitB (s.drop 4) = true := by
          unfold fitB
          rw [decide_eq_true (p := (s.drop 4).length ≤ 506) (by simp; omega), Bool.and_true]
          have : (s.drop 4).any crlf = false := by
            rw [List.any_eq_false]
            intro y hy
            rw [hs y (List.mem_of_mem_drop hy)]; simp
          rw [this]; rfl
        have hsplit : s = decDigits m ++ at_ s 3 :: s.drop 4 := by
          have e3 : at_ s 3 = s[3] := ib (i := 3) (by omega)
          rw [← d1, e3]
          have := bp (l := s) (i := 3) (by omega)
          conv => lhs; rw [← List.take_append_drop 3 s, this]
        have hln : b.take (s.length + 2) = lnW (decDigits m) (at_ s 3) (s.drop 4) := by
          conv => lhs; rw [ht]
          rw [show s ++ 13 :: 10 :: t = (s ++ [13, 10]) ++ t by simp, show s.length + 2 = (s ++ [13, 10]).length by simp, List.take_left' rfl]
          unfold lnW
          conv => lhs; rw [hsplit]
          simp
        by_cases h2 : at_ s 3 = 32
        · rw [if_pos h2] at h
          injection h with hx hn
          subst hx; subst hn
          refine ⟨m, [s.drop 4], rfl, by simp, by simp, fun y hy => ?_, c3, hcode, by omega, by omega, ?_⟩
          · rw [List.mem_singleton.1 hy]; exact hfit
          · rw [show a + (s.length + 2) - a = s.length + 2 by omega, hln, h2]
            unfold wrL
            rw [if_pos rfl]; unfold wrL; simp
        · rw [if_neg h2] at h
          obtain ⟨d, l2, e1, e2, e3, e4, e5, e6, e7, e8, e9⟩ := oH k _ _ _ _ x n h
          have hd : (d : Int) = (m : Int) := e6 (by simp)
          have hdm : d = m := by omega
          subst hdm;refine ⟨d, s.drop 4 :: l2, ?_, by simp, by simp; omega, fun y hy => ?_, e5, hcode, by omega, by simp at e8; omega, ?_⟩
          · rw [e1]
            have : lst (s.drop 4 :: l2) = lst l2 := by
              have hp : 0 < l2.length := List.length_pos_iff.2 e2
              unfold lst
              rw [show (((s.drop 4 :: l2).length : Int) - 1) = ((l2.length - 1 + 1 : Nat) : Int) by simp; omega, show ((l2.length : Int) - 1) = ((l2.length - 1 : Nat) : Int) by omega, ib (by simp only [List.length_cons]; omega), ib (by omega)]
              rfl
            rw [this, List.append_assoc]; rfl
          · rcases List.mem_cons.1 hy with rfl | hy
            · exact hfit
            · exact e4 y hy
          · have g3 : at_ s 3 = 45 := by
              rcases c2 with g | g
              · exact g
              · exact absurd g h2
            have hle : s.length + 2 ≤ n - a := by omega
            have : b.take (n - a) = b.take (s.length + 2) ++ (b.drop (s.length + 2)).take (n - (a + (s.length + 2))) := by
              rw [show n - a = (s.length + 2) + (n - (a + (s.length + 2))) by omega, List.take_add]
            rw [this, e9, hln, g3]
            show _ = lnW (decDigits d) (if l2 = [] then 32 else 45) (s.drop 4) ++ wrL (decDigits d) l2
            rw [if_neg e2]
inductive All : Bs → List Rp → Nat → Bool → Prop
  | wait {b : Bs} : one b = .wait → All b [] 0 false
  | bad {b : Bs} : one b = .bad → All b [] 0 true
  | ok {b : Bs} {x : Rp} {n : Nat} {l : List Rp} {u : Nat} {bd : Bool} : one b = .ok x n → All (b.drop n) l u bd → All b (x :: l) (n + u) bd
theorem one_pos {b : Bs} {x : Rp} {n : Nat} (h : one b = .ok x n) : 0 < n ∧ n ≤ b.length := by
  obtain ⟨d, l2, _, _, _, _, _, _, h7, h8, _⟩ := oH 100 0 [] 0 b x n h
  omega
theorem All.ex : ∀ (m : Nat) (b : Bs), b.length < m → ∃ l u bd, All b l u bd
  | 0, b, h => by omega
  | m + 1, b, h => by
    cases hb : one b with
    | wait => exact ⟨_, _, _, .wait hb⟩
    | bad => exact ⟨_, _, _, .bad hb⟩
    | ok x n =>
      obtain ⟨h1, h2⟩ := one_pos hb;obtain ⟨l, u, bd, hh⟩ := All.ex m (b.drop n) (by simp; omega);exact ⟨_, _, _, .ok hb hh⟩
theorem All.le {b : Bs} {l : List Rp} {u : Nat} {bd : Bool} (h : All b l u bd) : u ≤ b.length ∧ l.length ≤ u := by
  induction h with
  | wait e => simp
  | bad e => simp
  | ok e _ ih =>
    have := one_pos e
    simp at ih ⊢
    omega
theorem one_app {b : Bs} (r : Bs) (h : one b ≠ .wait) : one (b ++ r) = one b := pF r 100 0 [] 0 b h
theorem All.app {b : Bs} {l : List Rp} {u : Nat} (h : All b l u false) {c : Bs} {l' : List Rp} {u' : Nat} {bd' : Bool} (h' : All (b.drop u ++ c) l' u' bd') : All (b ++ c) (l ++ l') (u + u') bd' := by
  generalize hq : false = q at h
  induction h with
  | wait e => simpa using h'
  | bad e => cases hq
  | @ok b x n l u bd e hr ih =>
    have hp := one_pos e
    have h2 := ih (by rw [List.drop_drop]; exact h') hq
    have := All.ok (b := b ++ c) (x := x) (n := n) (l := l ++ l') (u := u + u') (bd := bd') (by rw [one_app c (by rw [e]; intro g; cases g), e]) (by rw [List.drop_append_of_le_length hp.2]; exact h2)
    rw [Nat.add_assoc]
    exact this
def wrX (x : Rp) : Bs := wrA x.1 x.2.1
def mayX (x : Rp) : Bool := mayB x.1 x.2.1 x.2.2
theorem pl (l : List Bs) : ([] : List Bs) ++ l = l := rfl
theorem one_may {b : Bs} {x : Rp} {n : Nat} (h : one b = .ok x n) : mayX x = true ∧ wrX x = b.take n := by
  obtain ⟨d, l2, h1, h2, h3, h4, h5, _, _, _, h9⟩ := oH 100 0 [] 0 b x n h;subst h1
  have hp : 1 ≤ l2.length := List.length_pos_iff.2 h2
  refine ⟨?_, ?_⟩
  · unfold mayX mayB
    simp only [Bool.and_eq_true, decide_eq_true_eq, pl]
    exact ⟨⟨⟨⟨by omega, by omega⟩, hp, h3⟩, List.all_eq_true.2 h4⟩, trivial⟩
  · rw [Nat.sub_zero] at h9
    rw [h9]; rfl
theorem All.may {b : Bs} {l : List Rp} {u : Nat} {bd : Bool} (h : All b l u bd) : (∀ x ∈ l, mayX x = true) ∧ (l.map wrX).flatten = b.take u := by
  induction h with
  | wait e => exact ⟨by simp, by simp⟩
  | bad e => exact ⟨by simp, by simp⟩
  | ok e _ ih =>
    obtain ⟨h1, h2⟩ := one_may e;refine ⟨fun y hy => ?_, ?_⟩
    · rcases List.mem_cons.1 hy with rfl | hy
      · exact h1
      · exact ih.1 y hy
    · rw [List.map_cons, List.flatten_cons, h2, ih.2, List.take_add]
end Go.Rp
