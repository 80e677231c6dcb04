/-
  Texts in one (only what ClientModel needs): CliAW, CliLP, CliLW, LClientModelP, LClientModelW, ClD, DgN, ClE, RqA, ClF, CliRP, ClG, ClS, RqC, RqB, RqSp, RqM, RqW.
-/
import Derived.Test.YtgjkjkmmgdbcoaaGreatDoorZClientModel3
import Derived.Test.YtgjkjkmmgdbcoaaGreatDoorShelf
import Derived.Lib.ItoaNum
import Derived.Lib.IndexLaws
import Derived.Test.YtgjkjkmmgdbcoaaGreatDoorChecked
import Derived.Lib.IndexMore
import Derived.Laws.Closers25
import Derived.Laws.RangeAny
import Derived.Lib.IndexAny
import Derived.Lib.SplitLaws
import Derived.Lib.IndexBytes
set_option linter.unusedVariables false
set_option linter.unusedSimpArgs false
namespace Go.Proofs.YtgjkjkmmgdbcoaaGreatDoor
open Go.RowKit Go.Av Go.Pv
theorem nM : ∀ (args : Array Value) (w : World), (callFunc 17 args).run Tryz.prog w = .ok (.enter 17 args) w := fun _ _ => by kernel_rfl
theorem ru : ∀ (args : Array Value) (w : World), (callFunc 23 args).run Tryz.prog w = .ok (.enter 23 args) w := fun _ _ => by kernel_rfl
theorem nK : ∀ (args : Array Value) (w : World), (callFunc 27 args).run Tryz.prog w = .ok (.enter 27 args) w := fun _ _ => by kernel_rfl
theorem lf : ∀ (args : Array Value) (w : World), (callFunc 28 args).run Tryz.prog w = .ok (.enter 28 args) w := fun _ _ => by kernel_rfl
theorem rt : ∀ (args : Array Value) (w : World), (callFunc 29 args).run Tryz.prog w = .ok (.enter 29 args) w := fun _ _ => by kernel_rfl
theorem nJ : ∀ (args : Array Value) (w : World), (callFunc 30 args).run Tryz.prog w = .ok (.enter 30 args) w := fun _ _ => by kernel_rfl
theorem nI : ∀ (args : Array Value) (w : World), (callFunc 34 args).run Tryz.prog w = .ok (.enter 34 args) w := fun _ _ => by kernel_rfl
theorem rq : ∀ (args : Array Value) (w : World), (callFunc 35 args).run Tryz.prog w = .ok (.enter 35 args) w := fun _ _ => by kernel_rfl
theorem rn : ∀ (args : Array Value) (w : World), (callFunc 36 args).run Tryz.prog w = .ok (.enter 36 args) w := fun _ _ => by kernel_rfl
theorem nH : ∀ (args : Array Value) (w : World), (callFunc 37 args).run Tryz.prog w = .ok (.enter 37 args) w := fun _ _ => by kernel_rfl
theorem nG : ∀ (args : Array Value) (w : World), (callFunc 38 args).run Tryz.prog w = .ok (.enter 38 args) w := fun _ _ => by kernel_rfl
theorem nF : ∀ (args : Array Value) (w : World), (callFunc 44 args).run Tryz.prog w = .ok (.enter 44 args) w := fun _ _ => by kernel_rfl
theorem rk : ∀ (args : Array Value) (w : World), (callFunc 45 args).run Tryz.prog w = .ok (.enter 45 args) w := fun _ _ => by kernel_rfl
theorem rj : ∀ (args : Array Value) (w : World), (callFunc 46 args).run Tryz.prog w = .ok (.enter 46 args) w := fun _ _ => by kernel_rfl
theorem ri : ∀ (args : Array Value) (w : World), (callFunc 47 args).run Tryz.prog w = .ok (.enter 47 args) w := fun _ _ => by kernel_rfl
theorem rg : ∀ (args : Array Value) (w : World), (callFunc 51 args).run Tryz.prog w = .ok (.enter 51 args) w := fun _ _ => by kernel_rfl
theorem di : ∀ (args : Array Value) (w : World), (callFunc 57 args).run Tryz.prog w = .ok (.enter 57 args) w := fun _ _ => by kernel_rfl
theorem jx : ∀ (args : Array Value) (w : World), (callFunc 58 args).run Tryz.prog w = .ok (.enter 58 args) w := fun _ _ => by kernel_rfl
theorem nB : ∀ (args : Array Value) (w : World), (callFunc 80 args).run Tryz.prog w = .ok (.enter 80 args) w := fun _ _ => by kernel_rfl
theorem nA : ∀ (args : Array Value) (w : World), (callFunc 81 args).run Tryz.prog w = .ok (.enter 81 args) w := fun _ _ => by kernel_rfl
theorem nz : ∀ (args : Array Value) (w : World), (callFunc 82 args).run Tryz.prog w = .ok (.enter 82 args) w := fun _ _ => by kernel_rfl
theorem ny : ∀ (args : Array Value) (w : World), (callFunc 83 args).run Tryz.prog w = .ok (.enter 83 args) w := fun _ _ => by kernel_rfl
theorem nx : ∀ (args : Array Value) (w : World), (callFunc 84 args).run Tryz.prog w = .ok (.enter 84 args) w := fun _ _ => by kernel_rfl
theorem nw : ∀ (args : Array Value) (w : World), (callFunc 85 args).run Tryz.prog w = .ok (.enter 85 args) w := fun _ _ => by kernel_rfl
theorem nv : ∀ (args : Array Value) (w : World), (callFunc 86 args).run Tryz.prog w = .ok (.enter 86 args) w := fun _ _ => by kernel_rfl
theorem ir : ∀ (args : Array Value) (w : World), (callFunc 87 args).run Tryz.prog w = .ok (.enter 87 args) w := fun _ _ => by kernel_rfl
theorem mq : ∀ (args : Array Value) (w : World), (callFunc 110 args).run Tryz.prog w = .ok (.enter 110 args) w := fun _ _ => by kernel_rfl
set_option maxRecDepth 100000 in
set_option maxHeartbeats 1000000 in
theorem kZ (F : Nat) (a1 : List UInt8) (a2 : List UInt8) (r3 : Bool) (H : iR F a1 a2 = some r3) : ACalls Tryz.prog 28 [S a1, S a2] [] (Ret (B r3) []) := by
 unfold iR at H
 refine aA Tryz.func28 rfl rfl ?_;show AW _ _ 25 _ _ _;refine aj <| ac ?_;show AR _ _ _ _ _ [0] _;refine za rfl <| ak <| bX (X := Unit) (fun _ => ⟨[(0, S a1)], [], []⟩) (fun _ => gO a1 = some r3) ?_ ?_
 ·refine aj <| ac ?_;show AR _ _ _ _ _ [0, 1, 2] _;refine zm rfl <| zS rfl (bx al rfl) <| zm rfl <| ak <| bi <| dC (X := Nat × Int) (fun (n6, y4) => ⟨[(0, S a1), (1, S a2), (7, i64 (a1.length : Int)), (8, i64 y4)], [], []⟩) (fun (n6, y4) => gP a1 a2 n6 y4 = some r3) (fun (n6, y4) => n6) (F, 0) H (aY [] (.cons (.refl _) (.cons (.refl _) (.cons (.refl _) (.cons (.refl _) (.nil _))))) rfl) ?_;rintro ⟨n6, y4⟩ H;obtain ⟨n6, rfl, H⟩ := fg H;replace H : gQ a1 a2 (gP a1 a2 n6) y4 = some r3 := H
  unfold gQ at H
  refine aj <| ac ?_;show AR _ _ _ _ _ [0] _;refine zS rfl (cf rfl rfl) <| ak <| aj <| aG rfl (fun c7 => ?_) (fun c7 => ?_)
  ·replace H := bk c7 H;refine aM <| aj <| bi <| aj <| ac ?_;show AR _ _ _ _ _ [0, 1] _;refine zm rfl <| za rfl <| ak <| aj ?_;obtain ⟨g8, H⟩ := aX H;obtain ⟨x9, e10, H⟩ := cc H;obtain ⟨x11, e12, H⟩ := cc H;refine ac ?_;show AR _ _ _ _ _ [0, 1, 2, 3, 4, 5] _;refine zm rfl <| zm rfl <| zm rfl <| zS rfl (bC al rfl rfl g8 e10) <| ao rfl rfl (aQ rfl rg rfl (show ACalls _ _ _ [] (Ret (i64 x11) []) from by subst e12; exact mP a2 x9) ?_);refine zS rfl (cf rfl rfl) <| ak <| aG rfl (fun c13 => ?_) (fun c13 => ?_)
   ·replace H := bk c13 H;refine aj <| ac ?_;show AR _ _ _ _ _ [0] _;refine za rfl <| ak <| aR ?_;obtain rfl := aC H;exact And.intro rfl (Exists.intro _ (Exists.intro _ ⟨aV rfl (.refl _), aL [] rfl, rfl, rfl⟩))
   ·replace H := bb c13 H;refine aM ?_;obtain ⟨g14, H⟩ := aX H;refine ac ?_;show AR _ _ _ _ _ [0, 1] _;refine zS rfl (eZ rfl rfl g14) <| zm rfl <| ak ?_;exact Exists.intro (n6, y4 + 1) ⟨H, Nat.lt_succ_self _, aY [] (.cons (.refl _) (.cons (.refl _) (.cons (.refl _) (.cons (.refl _) (.nil _))))) rfl⟩
  ·replace H := bb c7 H;refine dk ?_;exact Exists.intro () ⟨H, aY [] (.cons (.refl _) (.nil _)) rfl⟩
 rintro _ H;replace H : gO a1 = some r3 := H
 unfold gO at H
 refine aj <| ac ?_;show AR _ _ _ _ _ [0, 1, 2, 3, 4, 5, 6, 7] _;refine zm rfl <| zS rfl (ol rfl rfl) <| zm rfl <| aN (l := [7]) 24 (B ((!decide (a1 = ([] : List UInt8))) && (decide ((a1.length : Int) ≤ 60)))) (fun K => ?_) ?_
 ·rcases af (!decide (a1 = ([] : List UInt8))) with h16 | h16
  ·refine zM h16 rfl <| zU h16 rfl (bx al rfl) <| zU h16 rfl (dU rfl rfl) <| zS rfl (ax (av := .v _) rfl h16 rfl) ?_;exact K _ 3 _ (ap (bZ h16)) rfl rfl
  ·refine zF h16 rfl <| zF h16 rfl <| zF h16 rfl <| zS rfl (aw (av := .v _) rfl h16 rfl) ?_;exact K _ 3 _ (ap (ca h16)) rfl rfl
 refine za rfl <| ak <| aR ?_;obtain rfl := aC H;exact And.intro rfl (Exists.intro _ (Exists.intro _ ⟨aV rfl (.refl _), aL [] rfl, rfl, rfl⟩))
set_option maxRecDepth 100000 in
set_option maxHeartbeats 1000000 in
theorem ku (F : Nat) (a1 : List UInt8) (r2 : Bool) (H : fX F a1 = some r2) : ACalls Tryz.prog 27 [S a1] [] (Ret (B r2) []) := by
 unfold fX at H
 refine aA Tryz.func27 rfl rfl ?_;show AW _ _ 31 _ _ _;refine aj <| ac ?_;show AR _ _ _ _ _ [0] _;refine za rfl <| ak <| aj ?_;obtain ⟨g3, H⟩ := aX H;obtain ⟨x4, e5, H⟩ := cc H;refine ac ?_;show AR _ _ _ _ _ [0, 1, 2, 3, 4, 5, 6, 7, 8] _;refine zm rfl <| ao rfl rfl (aQ rfl nF rfl (show ACalls _ _ _ [] (Ret (.tup [S x4.1, S x4.2.1, B x4.2.2]) []) from by subst e5; exact oo a1 ([64] : List UInt8) (dV g3)) ?_);refine zS rfl (ag (av := .tup _) rfl) <| zS rfl (aF (av := .v _) rfl rfl) <| zS rfl (aF (av := .v _) rfl rfl) <| zS rfl (aF (av := .v _) rfl rfl) <| za rfl <| za rfl <| za rfl <| ak <| aj ?_;obtain ⟨x7, e8, H⟩ := fE H;obtain ⟨x10, e11, H⟩ := fE H;refine ac ?_;show AR _ _ _ _ _ [0, 1, 2, 3, 4, 5, 6, 7, 8, 9, 10, 11, 12, 13, 14, 15, 16, 17, 18, 19] _;refine zm rfl <| zm rfl <| aN (l := [5, 6, 7, 8, 9, 10, 11, 12, 13, 14, 15, 16, 17, 18, 19]) 16 (B (x4.2.2 && x7)) (fun K => ?_) ?_
 ·rcases af x4.2.2 with h6 | h6
  ·refine zM h6 rfl <| zT h6 rfl (aQ rfl lf rfl (kZ F x4.1 clia_k1 x7 (e8 h6)) ?_);refine zS rfl (ax (av := .v _) rfl h6 rfl) ?_;exact K _ 2 _ (ap (bZ h6)) rfl rfl
  ·refine zF h6 rfl <| zF h6 rfl <| zS rfl (aw (av := .v _) rfl h6 rfl) ?_;exact K _ 2 _ (ap (ca h6)) rfl rfl
 refine zm rfl <| aN (l := [9, 10, 11, 12, 13, 14, 15, 16, 17, 18, 19]) 20 (B ((x4.2.2 && x7) && x10)) (fun K => ?_) ?_
 ·rcases af (x4.2.2 && x7) with h9 | h9
  ·refine zM h9 rfl <| zT h9 rfl (aQ rfl lf rfl (kZ F x4.2.1 clia_k1 x10 (e11 h9)) ?_);refine zS rfl (ax (av := .v _) rfl h9 rfl) ?_;exact K _ 2 _ (ap (bZ h9)) rfl rfl
  ·refine zF h9 rfl <| zF h9 rfl <| zS rfl (aw (av := .v _) rfl h9 rfl) ?_;exact K _ 2 _ (ap (ca h9)) rfl rfl
 refine zm rfl <| aN (l := [14, 15, 16, 17, 18, 19]) 25 (B (((x4.2.2 && x7) && x10) && (decide (3 ≤ (a1.length : Int))))) (fun K => ?_) ?_
 ·rcases af ((x4.2.2 && x7) && x10) with h12 | h12
  ·refine zM h12 rfl <| zU h12 rfl (bx al rfl) <| zU h12 rfl (ff rfl rfl) <| zS rfl (ax (av := .v _) rfl h12 rfl) ?_;exact K _ 3 _ (ap (bZ h12)) rfl rfl
  ·refine zF h12 rfl <| zF h12 rfl <| zF h12 rfl <| zS rfl (aw (av := .v _) rfl h12 rfl) ?_;exact K _ 3 _ (ap (ca h12)) rfl rfl
 refine zm rfl <| aN (l := [19]) 30 (B ((((x4.2.2 && x7) && x10) && (decide (3 ≤ (a1.length : Int)))) && (decide ((a1.length : Int) ≤ 60)))) (fun K => ?_) ?_
 ·rcases af (((x4.2.2 && x7) && x10) && (decide (3 ≤ (a1.length : Int)))) with h13 | h13
  ·refine zM h13 rfl <| zU h13 rfl (bx al rfl) <| zU h13 rfl (dU rfl rfl) <| zS rfl (ax (av := .v _) rfl h13 rfl) ?_;exact K _ 3 _ (ap (bZ h13)) rfl rfl
  ·refine zF h13 rfl <| zF h13 rfl <| zF h13 rfl <| zS rfl (aw (av := .v _) rfl h13 rfl) ?_;exact K _ 3 _ (ap (ca h13)) rfl rfl
 refine za rfl <| ak <| aR ?_;obtain rfl := aC H;exact And.intro rfl (Exists.intro _ (Exists.intro _ ⟨aV rfl (.refl _), aL [] rfl, rfl, rfl⟩))
abbrev _root_.Go.Av.aO := @Tryz.underlying24
set_option maxRecDepth 100000 in
set_option maxHeartbeats 1000000 in
theorem mf (F : Nat) (a1 : List UInt8) (a2 : List UInt8) (a3 : List UInt8) (a4 : List UInt8) (q5 : Option Nat) (r6 : Int) (r7 : Int) (r8 : List UInt8) (r9 : List UInt8) (r10 : List UInt8) (r11 : List UInt8) (r12 : Int) (H : iw F a1 a2 a3 a4 = some (r6, r7, r8, r9, r10, r11, r12)) : ACalls Tryz.prog 12 [S a1, S a2, S a3, slE Enc.byte a4 q5] [] (Ret (.tup [.agg [i64 r6, i64 r7, S r8, S r9, S r10, slE Enc.byte r11 none], i64 r12]) []) := by
 unfold iw at H
 refine aA Tryz.func12 rfl rfl ?_;show AW _ _ 35 _ _ _;refine aj <| ac ?_;show AR _ _ _ _ _ [0, 1] _;refine zX rfl (bQ (zs := [.int .i64 0, .int .i64 0, .string ⟨#[]⟩, .string ⟨#[]⟩, .string ⟨#[]⟩, .slice none 0 0]) (by kernel_rfl)) ?_;rintro _ _ ⟨o13, rfl, rfl⟩;refine za rfl <| ak <| aj <| aj ?_;obtain ⟨x14, e15, H⟩ := dG H;obtain ⟨x17, e18, H⟩ := fE H;obtain ⟨x20, e21, H⟩ := fE H;obtain ⟨x23, e24, H⟩ := fE H;refine ac ?_;show AR _ _ _ _ _ [0, 1, 2, 3, 4, 5, 6, 7, 8, 9, 10, 11, 12, 13, 14, 15, 16, 17] _;refine zm rfl <| ao rfl rfl (aQ rfl nK rfl (ku F a1 x14 e15) ?_);refine zS rfl (dP rfl) <| zm rfl <| aN (l := [8, 9, 10, 11, 12, 13, 14, 15, 16, 17]) 17 (B ((!x14) || (!x17))) (fun K => ?_) ?_
 ·rcases af (!x14) with h16 | h16
  ·refine zF h16 rfl <| zF h16 rfl <| zF h16 rfl <| zS rfl (ax (av := .v _) rfl h16 rfl) ?_;exact K _ 3 _ (ap (fT h16)) rfl rfl
  ·refine zM h16 rfl <| zT h16 rfl (aQ rfl nK rfl (ku F a2 x17 (e18 (nf h16))) ?_);refine zU h16 rfl (dP rfl) <| zS rfl (aw (av := .v _) rfl h16 rfl) ?_;exact K _ 3 _ (ap (fU h16)) rfl rfl
 refine zm rfl <| aN (l := [13, 14, 15, 16, 17]) 22 (B (((!x14) || (!x17)) || (!x20))) (fun K => ?_) ?_
 ·rcases af ((!x14) || (!x17)) with h19 | h19
  ·refine zF h19 rfl <| zF h19 rfl <| zF h19 rfl <| zS rfl (ax (av := .v _) rfl h19 rfl) ?_;exact K _ 3 _ (ap (fT h19)) rfl rfl
  ·refine zM h19 rfl <| zT h19 rfl (aQ rfl lf rfl (kZ F a3 clia_k2 x20 (e21 (nf h19))) ?_);refine zU h19 rfl (dP rfl) <| zS rfl (aw (av := .v _) rfl h19 rfl) ?_;exact K _ 3 _ (ap (fU h19)) rfl rfl
 refine zm rfl <| aN (l := []) 27 (B ((((!x14) || (!x17)) || (!x20)) || (!x23))) (fun K => ?_) ?_
 ·rcases af (((!x14) || (!x17)) || (!x20)) with h22 | h22
  ·refine zF h22 rfl <| zF h22 rfl <| zF h22 rfl <| zS rfl (ax (av := .v _) rfl h22 rfl) ?_;exact K _ 3 _ (ap (fT h22)) rfl rfl
  ·refine zU h22 rfl (ag (av := slE _ _ _) rfl) <| zT h22 rfl (aQ rfl rt rfl (mV F a4 q5 x23 (e24 (nf h22))) ?_);refine zU h22 rfl (dP rfl) <| zS rfl (aw (av := .v _) rfl h22 rfl) ?_;exact K _ 3 _ (ap (fU h22)) rfl rfl
 refine ak <| aG rfl (fun c25 => ?_) (fun c25 => ?_)
 ·replace H := bk c25 H;refine aj <| ac ?_;show AR _ _ _ _ _ [0, 1, 2] _;refine zS rfl (fR (zs := [.int .i64 0, .int .i64 0, .string ⟨#[]⟩, .string ⟨#[]⟩, .string ⟨#[]⟩, .slice none 0 0]) (ps := [(0, 1), (1, 1), (2, 1), (3, 1), (4, 1), (5, 1)]) (cs := [i64 0, i64 0, S ([] : List UInt8), S ([] : List UInt8), S ([] : List UInt8), gu]) (by kernel_rfl) rfl rfl) <| s0 rfl rfl (aP (i := 0) (vs := [i64 0, i64 0, S ([] : List UInt8), S ([] : List UInt8), S ([] : List UInt8), gu]) (by kernel_rfl) rfl rfl (by simp [bw, slE]) rfl (ab rfl)) <| za rfl <| ak <| aR ?_;obtain ⟨rfl, rfl, rfl, rfl, rfl, rfl, rfl⟩ := res7 H;exact And.intro rfl (Exists.intro _ (Exists.intro _ ⟨dD (ed rfl (CellV.aggW (cs := [i64 0, i64 0, S ([] : List UInt8), S ([] : List UInt8), S ([] : List UInt8), gu]) (dI (off := 0) (cs := [i64 0, i64 0, S ([] : List UInt8), S ([] : List UInt8), S ([] : List UInt8), gu]) (n := 6) 0 aO rfl (by kernel_rfl) rfl rfl (ab rfl)) (.cons (.refl _) (.cons (.refl _) (.cons (.refl _) (.cons (.refl _) (.cons (.refl _) (.cons (.nil _) (.nil)))))))) ((show PlaceV _ _ _ (.tmp _) _ from (.refl _)))), aL [] rfl, rfl, rfl⟩))
 ·replace H := bb c25 H;refine aM <| aj ?_;obtain ⟨g26, H⟩ := aX H;refine ac ?_;show AR _ _ _ _ _ [0, 1, 2, 3, 4, 5, 6, 7] _;refine zm rfl <| zm rfl <| zm rfl <| zS rfl (ag (av := slE _ _ _) rfl) <| ao rfl rfl (aQ rfl nJ rfl (je a4 q5 (dV g26)) ?_);refine zS rfl (fR (zs := [.int .i64 0, .int .i64 0, .string ⟨#[]⟩, .string ⟨#[]⟩, .string ⟨#[]⟩, .slice none 0 0]) (ps := [(0, 1), (1, 1), (2, 1), (3, 1), (4, 1), (5, 1)]) (cs := [i64 0, i64 0, S a1, S a2, S a3, slE Enc.byte a4 none]) (by kernel_rfl) rfl rfl) <| s0 rfl rfl (aP (i := 0) (vs := [i64 0, i64 0, S a1, S a2, S a3, slE Enc.byte a4 none]) (by kernel_rfl) rfl rfl (by simp [bw, slE]) rfl (ab rfl)) <| za rfl <| ak <| aR ?_;obtain ⟨rfl, rfl, rfl, rfl, rfl, rfl, rfl⟩ := res7 H;exact And.intro rfl (Exists.intro _ (Exists.intro _ ⟨dD (ed rfl (dI (off := 0) (cs := [i64 0, i64 0, S a1, S a2, S a3, slE Enc.byte a4 none]) (n := 6) 0 aO rfl (by kernel_rfl) rfl rfl (ab rfl)) ((show PlaceV _ _ _ (.tmp _) _ from (.refl _)))), aL [] rfl, rfl, rfl⟩))
set_option maxRecDepth 100000 in
set_option maxHeartbeats 1000000 in
theorem pK (F : Nat) (a1 : List UInt8) (a2 : List UInt8) (r3 : Bool) (H : jo F a1 a2 = some r3) : ACalls Tryz.prog 45 [S a1, S a2] [] (Ret (B r3) []) := by
 unfold jo at H
 refine aA Tryz.func45 rfl rfl ?_;show AW _ _ 34 _ _ _;refine aj <| ac ?_;show AR _ _ _ _ _ [0] _;refine za rfl <| ak <| aj ?_;obtain ⟨g4, H⟩ := aX H;refine ac ?_;show AR _ _ _ _ _ [0, 1, 2] _;refine zm rfl <| zX rfl (lY al aa aJ rfl g4) ?_;rintro _ _ ⟨o5, n6, rfl, rfl⟩;refine zS rfl (ay (av := .vw _ _ _ _) rfl) <| ak <| bX (X := (List UInt8)) (fun y25 => ⟨[(1, S a2), (5, .vw o5 0 a1.length (a1.length + n6))], [], [.obj o5 (Enc.byte.fl y25 ++ List.replicate n6 .any)]⟩) (fun y25 => gm a1 a2 y25 = some r3) ?_ ?_
 ·refine aj <| ac ?_;show AR _ _ _ _ _ [0, 1, 2] _;refine zS rfl (ag (av := .vw _ _ _ _) rfl) <| zS rfl (pS aa rfl) <| zm rfl <| ak <| bi <| dC (X := Nat × Int × (List UInt8)) (fun (n10, y7, y8) => ⟨[(1, S a2), (5, .vw o5 0 a1.length (a1.length + n6)), (10, .vw o5 0 a1.length (a1.length + n6)), (11, i64 (a1.length : Int)), (12, i64 y7)], [], [.obj o5 (Enc.byte.fl y8 ++ List.replicate n6 .any)]⟩) (fun (n10, y7, y8) => ec a1 a2 n10 (y7, y8) = some r3) (fun (n10, y7, y8) => n10) (F, 0, a1) H (aY [0] (.cons (.refl _) (.cons (.refl _) (.cons (.refl _) (.cons (.refl _) (.cons (.refl _) (.nil _)))))) rfl) ?_;rintro ⟨n10, y7, y8⟩ H;obtain ⟨n10, rfl, H⟩ := fg H;replace H : eK a1 a2 (ec a1 a2 n10) y7 y8 = some r3 := H
  unfold eK at H
  refine aj <| ac ?_;show AR _ _ _ _ _ [0] _;refine zS rfl (cf rfl rfl) <| ak <| aj <| aG rfl (fun c11 => ?_) (fun c11 => ?_)
  ·replace H := bk c11 H;refine aM <| bX (X := (List UInt8)) (fun y22 => ⟨[(1, S a2), (5, .vw o5 0 a1.length (a1.length + n6)), (10, .vw o5 0 a1.length (a1.length + n6)), (11, i64 (a1.length : Int)), (12, i64 y7)], [], [.obj o5 (Enc.byte.fl y22 ++ List.replicate n6 .any)]⟩) (fun y22 => fy y7 (ec a1 a2 n10) y22 = some r3) ?_ ?_
   ·refine bi <| aj ?_;obtain ⟨g12, H⟩ := aX H;obtain ⟨g13, H⟩ := aX H;obtain ⟨x14, e15, H⟩ := cc H;refine ac ?_;show AR _ _ _ _ _ [0, 1, 2, 3, 4] _;refine zm rfl <| zS rfl (iJ aa (by kernel_rfl) rfl rfl g12) <| zR rfl (pU (k := 0) aJ rfl rfl rfl g13 e15) <| za rfl <| za rfl <| ak <| aj <| ac ?_;show AR _ _ _ _ _ [0, 1, 2, 3, 4, 5] _;refine zm rfl <| zS rfl (ff rfl rfl) <| zm rfl <| aN (l := []) 22 (B ((decide (65 ≤ (x14.toNat : Int))) && (decide ((x14.toNat : Int) ≤ 90)))) (fun K => ?_) ?_
    ·rcases af (decide (65 ≤ (x14.toNat : Int))) with h16 | h16
     ·refine zM h16 rfl <| zU h16 rfl (dU rfl rfl) <| zS rfl (ax (av := .v _) rfl h16 rfl) ?_;exact K _ 2 _ (ap (bZ h16)) rfl rfl
     ·refine zF h16 rfl <| zF h16 rfl <| zS rfl (aw (av := .v _) rfl h16 rfl) ?_;exact K _ 2 _ (ap (ca h16)) rfl rfl
    refine ak <| aG rfl (fun c17 => ?_) (fun c17 => ?_)
    ·replace H := bk c17 H;obtain ⟨g18, H⟩ := aX H;obtain ⟨g19, H⟩ := aX H;obtain ⟨x20, e21, H⟩ := cc H;refine ac ?_;show AR _ _ _ _ _ [0, 1, 2, 3, 4, 5, 6] _;refine zS rfl (ag (av := .vw _ _ _ _) rfl) <| zm rfl <| zm rfl <| zS rfl (g_add8 (a := x14) (b := 97) rfl rfl) <| zS rfl (oC (a := x14 + 97) (b := 65) rfl rfl) <| zS rfl (iJ aa (by kernel_rfl) rfl rfl g18) <| s0 rfl rfl (pb (k := 0) (c := ((x14 + 97) - 65)) (by kernel_rfl) rfl rfl rfl g19 e21) <| ak ?_;exact Exists.intro x20 ⟨H, aY [0] (.cons (.refl _) (.cons (.refl _) (.cons (.refl _) (.cons (.refl _) (.cons (.refl _) (.nil _)))))) rfl⟩
    ·replace H := bb c17 H;refine aM ?_;exact Exists.intro y8 ⟨H, aY [0] (.cons (.refl _) (.cons (.refl _) (.cons (.refl _) (.cons (.refl _) (.cons (.refl _) (.nil _)))))) rfl⟩
   rintro y22 H;replace H : fy y7 (ec a1 a2 n10) y22 = some r3 := H
   unfold fy at H
   obtain ⟨g24, H⟩ := aX H;refine ac ?_;show AR _ _ _ _ _ [0, 1] _;refine zS rfl (eZ rfl rfl g24) <| zm rfl <| ak ?_;exact Exists.intro (n10, y7 + 1, y22) ⟨H, Nat.lt_succ_self _, aY [0] (.cons (.refl _) (.cons (.refl _) (.cons (.refl _) (.cons (.refl _) (.cons (.refl _) (.nil _)))))) rfl⟩
  ·replace H := bb c11 H;refine dk ?_;exact Exists.intro y8 ⟨H, aY [0] (.cons (.refl _) (.cons (.refl _) (.nil _))) rfl⟩
 rintro y25 H;replace H : gm a1 a2 y25 = some r3 := H
 unfold gm at H
 refine aj ?_;obtain ⟨g27, H⟩ := aX H;refine ac ?_;show AR _ _ _ _ _ [0, 1, 2, 3, 4] _;refine zS rfl (ag (av := .vw _ _ _ _) rfl) <| zR rfl (kW (k := 0) aa aJ al rfl g27 rfl) <| zm rfl <| zS rfl (iM rfl rfl) <| za rfl <| ak <| aR ?_;obtain rfl := aC H;exact And.intro rfl (Exists.intro _ (Exists.intro _ ⟨aV rfl (.refl _), aL [] rfl, rfl, rfl⟩))
set_option maxRecDepth 100000 in
set_option maxHeartbeats 1000000 in
theorem qK (F : Nat) (a1 : Int) (a2 : List (List UInt8)) (a3 : Int) (a4 : Int) (a5 : Int) (r6 : Int) (H : kT F a1 a2 a3 a4 a5 = some r6) : ACalls Tryz.prog 23 [.agg [i64 a1, slE Enc.str a2 none, i64 a3, i64 a4, i64 a5]] [] (Ret (i64 r6) []) := by
 unfold kT at H
 refine aA Tryz.func23 rfl rfl ?_;show AW _ _ 58 _ _ _;refine aj <| ac ?_;show AR _ _ _ _ _ [0, 1] _;refine zR rfl (cM rfl (.inr ⟨_, rfl⟩)) <| za rfl <| ak <| bX (X := Unit) (fun _ => ⟨[], [], []⟩) (fun _ => iG = some r6) ?_ ?_
 ·refine aj <| ac ?_;show AR _ _ _ _ _ [0, 1, 2, 3] _;refine zS rfl (be (n := 1) (by kernel_rfl) rfl (ab rfl)) <| zS rfl (aI az rfl rfl) <| zS rfl (aU az rfl) <| zm rfl <| ak <| bi <| dC (X := Nat × Int) (fun (n9, y7) => ⟨[(11, slE Enc.str a2 none), (12, i64 (a2.length : Int)), (13, i64 y7)], [], []⟩) (fun (n9, y7) => eQ F a2 n9 y7 = some r6) (fun (n9, y7) => n9) (F, 0) H (aY [] (.cons (.refl _) (.cons (.refl _) (.cons (.refl _) (.nil _)))) rfl) ?_;rintro ⟨n9, y7⟩ H;obtain ⟨n9, rfl, H⟩ := fg H;replace H : eh F a2 (eQ F a2 n9) y7 = some r6 := H
  unfold eh at H
  refine aj <| ac ?_;show AR _ _ _ _ _ [0] _;refine zS rfl (cf rfl rfl) <| ak <| aj <| aG rfl (fun c10 => ?_) (fun c10 => ?_)
  ·replace H := bk c10 H;refine aM <| bX (X := Unit) (fun _ => ⟨[(11, slE Enc.str a2 none), (12, i64 (a2.length : Int)), (13, i64 y7)], [], []⟩) (fun _ => fY y7 (eQ F a2 n9) = some r6) ?_ ?_
   ·refine bi <| aj ?_;obtain ⟨g11, H⟩ := aX H;obtain ⟨x12, e13, H⟩ := cc H;refine ac ?_;show AR _ _ _ _ _ [0, 1, 2, 3, 4] _;refine zm rfl <| zS rfl (bq (E := Enc.str) az (by kernel_rfl) rfl rfl g11 e13) <| zS rfl (aI al rfl rfl) <| za rfl <| za rfl <| ak <| aj ?_;obtain ⟨g14, H⟩ := aX H;obtain ⟨x15, e16, H⟩ := cc H;refine ac ?_;show AR _ _ _ _ _ [0, 1, 2, 3, 4, 5, 6, 7, 8] _;refine zm rfl <| ao rfl rfl (aQ rfl nF rfl (show ACalls _ _ _ [] (Ret (.tup [S x15.1, S x15.2.1, B x15.2.2]) []) from by subst e16; exact oo x12 ([32] : List UInt8) (dV g14)) ?_);refine zS rfl (ag (av := .tup _) rfl) <| zS rfl (aF (av := .v _) rfl rfl) <| zS rfl (aF (av := .v _) rfl rfl) <| zS rfl (aF (av := .v _) rfl rfl) <| za rfl <| za rfl <| za rfl <| ak <| aj <| aj ?_;obtain ⟨x19, e20, H⟩ := fE H;obtain ⟨g24, H⟩ := cE H;obtain ⟨g25, H⟩ := cE H;obtain ⟨g26, H⟩ := cE H;obtain ⟨x27, e28, H⟩ := cc H;refine ac ?_;show AR _ _ _ _ _ [0, 1, 2, 3, 4, 5, 6, 7, 8, 9, 10, 11, 12, 13, 14, 15, 16, 17, 18, 19, 20, 21, 22, 23, 24] _;refine zm rfl <| zS rfl (bN rfl rfl) <| zm rfl <| aN (l := [6, 7, 8, 9, 10, 11, 12, 13, 14, 15, 16, 17, 18, 19, 20, 21, 22, 23, 24]) 29 (B ((decide (y7 = 0)) || (!x15.2.2))) (fun K => ?_) ?_
    ·rcases af (decide (y7 = 0)) with h17 | h17
     ·refine zF h17 rfl <| zF h17 rfl <| zS rfl (ax (av := .v _) rfl h17 rfl) ?_;exact K _ 2 _ (ap (fT h17)) rfl rfl
     ·refine zM h17 rfl <| zU h17 rfl (dP rfl) <| zS rfl (aw (av := .v _) rfl h17 rfl) ?_;exact K _ 2 _ (ap (fU h17)) rfl rfl
    refine zm rfl <| aN (l := [11, 12, 13, 14, 15, 16, 17, 18, 19, 20, 21, 22, 23, 24]) 34 (B (((decide (y7 = 0)) || (!x15.2.2)) || (!x19))) (fun K => ?_) ?_
    ·rcases af ((decide (y7 = 0)) || (!x15.2.2)) with h18 | h18
     ·refine zF h18 rfl <| zF h18 rfl <| zF h18 rfl <| zS rfl (ax (av := .v _) rfl h18 rfl) ?_;exact K _ 3 _ (ap (fT h18)) rfl rfl
     ·refine zM h18 rfl <| zT h18 rfl (aQ rfl rk rfl (pK F x15.1 ([115, 105, 122, 101] : List UInt8) x19 (e20 (nf h18))) ?_);refine zU h18 rfl (dP rfl) <| zS rfl (aw (av := .v _) rfl h18 rfl) ?_;exact K _ 3 _ (ap (fU h18)) rfl rfl
    refine zm rfl <| aN (l := [15, 16, 17, 18, 19, 20, 21, 22, 23, 24]) 38 (B ((((decide (y7 = 0)) || (!x15.2.2)) || (!x19)) || (decide (x15.2.1 = ([] : List UInt8))))) (fun K => ?_) ?_
    ·rcases af (((decide (y7 = 0)) || (!x15.2.2)) || (!x19)) with h21 | h21
     ·refine zF h21 rfl <| zF h21 rfl <| zS rfl (ax (av := .v _) rfl h21 rfl) ?_;exact K _ 2 _ (ap (fT h21)) rfl rfl
     ·refine zM h21 rfl <| zU h21 rfl (iM rfl rfl) <| zS rfl (aw (av := .v _) rfl h21 rfl) ?_;exact K _ 2 _ (ap (fU h21)) rfl rfl
    refine zm rfl <| aN (l := [20, 21, 22, 23, 24]) 43 (B (((((decide (y7 = 0)) || (!x15.2.2)) || (!x19)) || (decide (x15.2.1 = ([] : List UInt8)))) || (decide (9 < (x15.2.1.length : Int))))) (fun K => ?_) ?_
    ·rcases af ((((decide (y7 = 0)) || (!x15.2.2)) || (!x19)) || (decide (x15.2.1 = ([] : List UInt8)))) with h22 | h22
     ·refine zF h22 rfl <| zF h22 rfl <| zF h22 rfl <| zS rfl (ax (av := .v _) rfl h22 rfl) ?_;exact K _ 3 _ (ap (fT h22)) rfl rfl
     ·refine zM h22 rfl <| zU h22 rfl (bx al rfl) <| zU h22 rfl (ii rfl rfl) <| zS rfl (aw (av := .v _) rfl h22 rfl) ?_;exact K _ 3 _ (ap (fU h22)) rfl rfl
    refine zm rfl <| aN (l := []) 48 (B ((((((decide (y7 = 0)) || (!x15.2.2)) || (!x19)) || (decide (x15.2.1 = ([] : List UInt8)))) || (decide (9 < (x15.2.1.length : Int)))) || (!decide (x27 = ([] : List UInt8))))) (fun K => ?_) ?_
    ·rcases af (((((decide (y7 = 0)) || (!x15.2.2)) || (!x19)) || (decide (x15.2.1 = ([] : List UInt8)))) || (decide (9 < (x15.2.1.length : Int)))) with h23 | h23
     ·refine zF h23 rfl <| zF h23 rfl <| zF h23 rfl <| zS rfl (ax (av := .v _) rfl h23 rfl) ?_;exact K _ 3 _ (ap (fT h23)) rfl rfl
     ·refine zM h23 rfl <| zT h23 rfl (aQ rfl rj rfl (show ACalls _ _ _ [] (Ret (S x27) []) from by subst e28; exact lib_Trim x15.2.1 ([48, 49, 50, 51, 52, 53, 54, 55, 56, 57] : List UInt8) (dV (g24 (nf h23))) (dV (g25 (nf h23))) (g26 (nf h23))) ?_);refine zU h23 rfl (ol rfl rfl) <| zS rfl (aw (av := .v _) rfl h23 rfl) ?_;exact K _ 3 _ (ap (fU h23)) rfl rfl
    refine ak <| aG rfl (fun c29 => ?_) (fun c29 => ?_)
    ·replace H := bk c29 H;refine dk ?_;exact Exists.intro () ⟨H, aY [] (.cons (.refl _) (.cons (.refl _) (.cons (.refl _) (.nil _)))) rfl⟩
    ·replace H := bb c29 H;refine aM <| aj ?_;obtain ⟨x30, x31, e32, H⟩ := dL H;refine ac ?_;show AR _ _ _ _ _ [0, 1, 2, 3, 4, 5, 6] _;refine zm rfl <| ao rfl rfl (aQ rfl ri rfl (ja F x15.2.1 x30 x31 e32) ?_);refine zS rfl (ag (av := .tup _) rfl) <| zS rfl (aF (av := .v _) rfl rfl) <| zS rfl (aF (av := eAny _ _) rfl rfl) <| za rfl <| zS rfl (ay (av := eAny _ _) rfl) <| ak <| aj <| ac ?_;show AR _ _ _ _ _ [0, 1] _;refine zS rfl (ag (av := eAny _ _) rfl) <| zS rfl (mn df rfl rfl) <| ak <| aG rfl (fun c33 => ?_) (fun c33 => ?_)
     ·replace H := bk c33 H;refine aj <| ac ?_;show AR _ _ _ _ _ [0, 1] _;refine zm rfl <| za rfl <| ak <| aR ?_;obtain rfl := aC H;exact And.intro rfl (Exists.intro _ (Exists.intro _ ⟨aV rfl (.refl _), aL [] rfl, rfl, rfl⟩))
     ·replace H := bb c33 H;refine aM ?_;exact Exists.intro () ⟨H, aY [] (.cons (.refl _) (.cons (.refl _) (.cons (.refl _) (.nil _)))) rfl⟩
   rintro _ H;replace H : fY y7 (eQ F a2 n9) = some r6 := H
   unfold fY at H
   obtain ⟨g35, H⟩ := aX H;refine ac ?_;show AR _ _ _ _ _ [0, 1] _;refine zS rfl (eZ rfl rfl g35) <| zm rfl <| ak ?_;exact Exists.intro (n9, y7 + 1) ⟨H, Nat.lt_succ_self _, aY [] (.cons (.refl _) (.cons (.refl _) (.cons (.refl _) (.nil _)))) rfl⟩
  ·replace H := bb c10 H;refine dk ?_;exact Exists.intro () ⟨H, aY [] (.nil _) rfl⟩
 rintro _ H;replace H : iG = some r6 := H
 unfold iG at H
 refine aj <| ac ?_;show AR _ _ _ _ _ [0] _;refine za rfl <| ak <| aR ?_;obtain rfl := aC H;exact And.intro rfl (Exists.intro _ (Exists.intro _ ⟨aV rfl (.refl _), aL [] rfl, rfl, rfl⟩))
set_option maxRecDepth 100000 in
set_option maxHeartbeats 1000000 in
theorem ij (F : Nat) (o1 : Nat) (a2 : Int) (a3 : Int) (a4 : List UInt8) (a5 : List UInt8) (a6 : List UInt8) (a7 : List UInt8) (a8 : List UInt8) (t9 : Nat) (a10 : Int) (a11 : List (List UInt8)) (q12 : Option Nat) (r13 : Int) (r14 : List UInt8) (H : gH F a2 a3 a4 a5 a6 a7 a8 a10 a11 = some (r13, r14)) : ACalls Tryz.prog 87 [.pt o1 0, i64 a10, slE Enc.str a11 q12] [.obj o1 [i64 a2, i64 a3, S a4, S a5, S a6, slE Enc.byte a7 none, slE Enc.byte a8 (some t9)], .tok t9 5] (fun e A' => e = .ret (.tup []) ∧ ∃ t15, A' = [.obj o1 [i64 r13, i64 a3, S a4, S a5, S a6, slE Enc.byte a7 none, slE Enc.byte r14 (some t15)], .tok t15 5]) := by
 unfold gH at H
 refine aA Tryz.func87 rfl rfl ?_;show AW _ _ 22 _ _ _;refine aj <| ac ?_;show AR _ _ _ _ _ [0, 1, 2, 3, 4, 5] _;refine zS rfl (ag (av := .pt _ _) rfl) <| zm rfl <| zS rfl (am rfl) <| zS rfl (ah (n := 0) (by kernel_rfl) rfl) <| zS rfl (ah (n := 0) (by kernel_rfl) rfl) <| s0 rfl rfl (ar (i := 0) (c := .v _) (by kernel_rfl) rfl rfl rfl rfl (ab rfl)) <| ak ?_;obtain ⟨g16, H⟩ := aX H;obtain ⟨x17, e18, H⟩ := cc H;obtain ⟨g19, H⟩ := aX H;obtain ⟨x20, e21, H⟩ := cc H;obtain ⟨g23, H⟩ := aX H;obtain ⟨x24, e25, H⟩ := cc H;refine bn (by kernel_rfl) ?_;show AI _ _ _ _ _ 12 (Array.replicate 12 false) _;refine zk 0 rfl (ag (av := .pt _ _) rfl) ?_;show AI _ _ _ _ _ _ #[true, false, false, false, false, false, false, false, false, false, false, false] _;refine zk 1 rfl (ag (av := .pt _ _) rfl) ?_;show AI _ _ _ _ _ _ #[true, true, false, false, false, false, false, false, false, false, false, false] _;refine zk 2 rfl (am rfl) ?_;show AI _ _ _ _ _ _ #[true, true, true, false, false, false, false, false, false, false, false, false] _;refine zk 3 rfl (ah (n := 6) (by kernel_rfl) rfl) ?_;show AI _ _ _ _ _ _ #[true, true, true, true, false, false, false, false, false, false, false, false] _;refine zk 5 rfl (ag (av := slE _ _ _) rfl) ?_;show AI _ _ _ _ _ _ #[true, true, true, true, false, true, false, false, false, false, false, false] _;refine cj (i := 4) (j := 6) (by kernel_rfl) rfl rfl rfl rfl ?_ ?_
 ·refine aH rfl (ai (i := 0) aa rfl rfl rfl rfl) ?_;show AI _ _ _ _ _ _ #[true, true, true, true, true, true, false, false, false, false, false, false] _;refine aE (i := 6) (by kernel_rfl) rfl rfl <| bD rfl mq rfl (show ACalls _ _ _ [] (Ret (S x17) []) from by subst e18; exact kv a11 ([] : List UInt8) q12 (kG g16).1 (kG g16).2) ?_;show AI _ _ _ _ _ _ #[true, true, true, true, true, true, true, false, false, false, false, false] _;refine zk 7 rfl (g_cat rfl rfl g19 e21) ?_;show AI _ _ _ _ _ _ #[true, true, true, true, true, true, true, true, false, false, false, false] _;refine aE (i := 8) (by kernel_rfl) rfl rfl <| dc rfl (iA (bytes := 1) 1 aa al rfl (by kernel_rfl) rfl rfl rfl rfl g23 e25) ?_;rintro _ _ ⟨t22, rfl, rfl⟩;show AI _ _ _ _ _ _ #[true, true, true, true, true, true, true, true, true, false, false, false] _;refine zk 9 rfl (am rfl) ?_;show AI _ _ _ _ _ _ #[true, true, true, true, true, true, true, true, true, true, false, false] _;refine zk 10 rfl (ah (n := 6) (by kernel_rfl) rfl) ?_;show AI _ _ _ _ _ _ #[true, true, true, true, true, true, true, true, true, true, true, false] _;refine aE (i := 11) (by kernel_rfl) rfl rfl <| bE (ar (i := 0) (c := slE _ _ _) (by kernel_rfl) rfl rfl rfl rfl (ab rfl)) ?_;show AI _ _ _ _ _ _ #[true, true, true, true, true, true, true, true, true, true, true, true] _;refine aZ rfl ?_;obtain ⟨rfl, rfl⟩ := fD H
  exact And.intro rfl (Exists.intro _ (Exists.intro _ ⟨bc rfl, aL [0, 0] rfl, rfl, t22, rfl⟩))
 ·refine bD rfl mq rfl (show ACalls _ _ _ [] (Ret (S x17) []) from by subst e18; exact kv a11 ([] : List UInt8) q12 (kG g16).1 (kG g16).2) ?_;show AI _ _ _ _ _ _ #[true, true, true, true, false, true, true, false, false, false, false, false] _;refine zk 7 rfl (g_cat rfl rfl g19 e21) ?_;show AI _ _ _ _ _ _ #[true, true, true, true, false, true, true, true, false, false, false, false] _;refine aE (i := 4) (by kernel_rfl) rfl rfl <| aH rfl (ai (i := 0) aa rfl rfl rfl rfl) ?_;show AI _ _ _ _ _ _ #[true, true, true, true, true, true, true, true, false, false, false, false] _;refine aE (i := 8) (by kernel_rfl) rfl rfl <| dc rfl (iA (bytes := 1) 1 aa al rfl (by kernel_rfl) rfl rfl rfl rfl g23 e25) ?_;rintro _ _ ⟨t26, rfl, rfl⟩;show AI _ _ _ _ _ _ #[true, true, true, true, true, true, true, true, true, false, false, false] _;refine zk 9 rfl (am rfl) ?_;show AI _ _ _ _ _ _ #[true, true, true, true, true, true, true, true, true, true, false, false] _;refine zk 10 rfl (ah (n := 6) (by kernel_rfl) rfl) ?_;show AI _ _ _ _ _ _ #[true, true, true, true, true, true, true, true, true, true, true, false] _;refine aE (i := 11) (by kernel_rfl) rfl rfl <| bE (ar (i := 0) (c := slE _ _ _) (by kernel_rfl) rfl rfl rfl rfl (ab rfl)) ?_;show AI _ _ _ _ _ _ #[true, true, true, true, true, true, true, true, true, true, true, true] _;refine aZ rfl ?_;obtain ⟨rfl, rfl⟩ := fD H
  exact And.intro rfl (Exists.intro _ (Exists.intro _ ⟨bc rfl, aL [0, 0] rfl, rfl, t26, rfl⟩))
set_option maxRecDepth 100000 in
set_option maxHeartbeats 1000000 in
theorem jt (F : Nat) (o1 : Nat) (a2 : Int) (a3 : Int) (a4 : List UInt8) (a5 : List UInt8) (a6 : List UInt8) (a7 : List UInt8) (a8 : List UInt8) (t9 : Nat) (a10 : Int) (r11 : Int) (r12 : Int) (r13 : List UInt8) (H : ia F a2 a3 a4 a5 a6 a7 a8 a10 = some (r11, r12, r13)) : ACalls Tryz.prog 58 [.pt o1 0, i64 a10] [.obj o1 [i64 a2, i64 a3, S a4, S a5, S a6, slE Enc.byte a7 none, slE Enc.byte a8 (some t9)], .tok t9 5] (fun e A' => e = .ret (.tup []) ∧ ∃ t14, A' = [.obj o1 [i64 r11, i64 r12, S a4, S a5, S a6, slE Enc.byte a7 none, slE Enc.byte r13 (some t14)], .tok t14 5]) := by
 unfold ia at H
 refine aA Tryz.func58 rfl rfl ?_;show AW _ _ 12 _ _ _;refine aj <| ac ?_;show AR _ _ _ _ _ [0, 1, 2, 3, 4, 5] _;refine zS rfl (ag (av := .pt _ _) rfl) <| zm rfl <| zS rfl (am rfl) <| zS rfl (ah (n := 0) (by kernel_rfl) rfl) <| zS rfl (ah (n := 1) (by kernel_rfl) rfl) <| s0 rfl rfl (ar (i := 0) (c := .v _) (by kernel_rfl) rfl rfl rfl rfl (ab rfl)) <| ak ?_;obtain ⟨x15, x16, e17, H⟩ := dL H;refine ac ?_;show AR _ _ _ _ _ [0, 1, 2] _;refine zS rfl (ag (av := .pt _ _) rfl) <| zR rfl (bU (E := Enc.str) (bytes := 16) (xs := [.const _]) (l := ([([81, 85, 73, 84] : List UInt8)] : List (List UInt8))) az (by kernel_rfl) rfl rfl (by decide) rfl rfl) <| ao rfl rfl (co [0, 0] rfl ir rfl (ij F o1 a2 a10 a4 a5 a6 a7 a8 t9 6 ([([81, 85, 73, 84] : List UInt8)] : List (List UInt8)) none x15 x16 e17) rfl (fun c A' h => by cases h.1) ?_)
 rintro av A' ⟨h, t18, rfl⟩; cases h
 refine ak ?_;obtain ⟨rfl, rfl, rfl⟩ := gC H;exact And.intro rfl (Exists.intro _ (Exists.intro _ ⟨bc rfl, aL [0, 0] rfl, rfl, t18, rfl⟩))
set_option maxRecDepth 100000 in
set_option maxHeartbeats 1000000 in
theorem na (F : Nat) (o1 : Nat) (a2 : Int) (a3 : Int) (a4 : List UInt8) (a5 : List UInt8) (a6 : List UInt8) (a7 : List UInt8) (a8 : List UInt8) (t9 : Nat) (r10 : Int) (r11 : Int) (H : kP F a2 a3 a4 a5 a6 a7 a8 = some (r10, r11)) : ACalls Tryz.prog 38 [.pt o1 0] [.obj o1 [i64 a2, i64 a3, S a4, S a5, S a6, slE Enc.byte a7 none, slE Enc.byte a8 (some t9)], .tok t9 5] (fun e A' => e = .ret (.tup []) ∧ A' = [.obj o1 [i64 r10, i64 r11, S a4, S a5, S a6, slE Enc.byte a7 none, slE Enc.byte a8 (some t9)], .tok t9 5]) := by
 unfold kP at H
 refine aA Tryz.func38 rfl rfl ?_;show AW _ _ 16 _ _ _;refine aj <| ac ?_;show AR _ _ _ _ _ [0, 1, 2, 3, 4] _;refine zS rfl (ag (av := .pt _ _) rfl) <| zS rfl (am rfl) <| zS rfl (ah (n := 0) (by kernel_rfl) rfl) <| zS rfl (ah (n := 0) (by kernel_rfl) rfl) <| s0 rfl rfl (ar (i := 0) (c := .v _) (by kernel_rfl) rfl rfl rfl rfl (ab rfl)) <| ak <| aj <| ac ?_;show AR _ _ _ _ _ [0, 1, 2, 3, 4, 5] _;refine zS rfl (ag (av := .pt _ _) rfl) <| zS rfl (am rfl) <| zS rfl (ah (n := 0) (by kernel_rfl) rfl) <| zS rfl (ah (n := 1) (by kernel_rfl) rfl) <| zR rfl (ai (i := 0) aq rfl rfl rfl rfl) <| zS rfl (bN rfl rfl) <| ak <| aG rfl (fun c12 => ?_) (fun c12 => ?_)
 ·replace H := bk c12 H;refine ac ?_;show AR _ _ _ _ _ [0, 1, 2, 3, 4] _;refine zS rfl (ag (av := .pt _ _) rfl) <| zS rfl (am rfl) <| zS rfl (ah (n := 0) (by kernel_rfl) rfl) <| zS rfl (ah (n := 1) (by kernel_rfl) rfl) <| s0 rfl rfl (ar (i := 0) (c := .v _) (by kernel_rfl) rfl rfl rfl rfl (ab rfl)) <| ak ?_;obtain ⟨rfl, rfl⟩ := fD H;exact And.intro rfl (Exists.intro _ (Exists.intro _ ⟨bc rfl, aL [0, 0] rfl, rfl, rfl⟩))
 ·replace H := bb c12 H;refine aM ?_;obtain ⟨rfl, rfl⟩ := fD H;exact And.intro rfl (Exists.intro _ (Exists.intro _ ⟨bc rfl, aL [0, 0] rfl, rfl, rfl⟩))
set_option maxRecDepth 100000 in
set_option maxHeartbeats 1000000 in
theorem md (F : Nat) (o1 : Nat) (a2 : Int) (a3 : Int) (a4 : List UInt8) (a5 : List UInt8) (a6 : List UInt8) (a7 : List UInt8) (a8 : List UInt8) (t9 : Nat) (a10 : Int) (a11 : List (List UInt8)) (a12 : Int) (a13 : Int) (a14 : Int) (r15 : Bool) (r16 : Int) (r17 : List UInt8) (H : jq F a2 a3 a4 a5 a6 a7 a8 a10 a11 a12 a13 a14 = some (r15, r16, r17)) : ACalls Tryz.prog 80 [.pt o1 0, .agg [i64 a10, slE Enc.str a11 none, i64 a12, i64 a13, i64 a14]] [.obj o1 [i64 a2, i64 a3, S a4, S a5, S a6, slE Enc.byte a7 none, slE Enc.byte a8 (some t9)], .tok t9 5] (fun e A' => e = .ret (B r15) ∧ ∃ t18, A' = [.obj o1 [i64 r16, i64 a3, S a4, S a5, S a6, slE Enc.byte a7 none, slE Enc.byte r17 (some t18)], .tok t18 5]) := by
 unfold jq at H
 refine aA Tryz.func80 rfl rfl ?_;show AW _ _ 16 _ _ _;refine aj <| ac ?_;show AR _ _ _ _ _ [0, 1] _;refine zR rfl (cM rfl (.inr ⟨_, rfl⟩)) <| za rfl <| ak <| aj <| aj <| ac ?_;show AR _ _ _ _ _ [0, 1, 2] _;refine zS rfl (be (n := 0) (by kernel_rfl) rfl (ab rfl)) <| zS rfl (aI aq rfl rfl) <| zS rfl (eE rfl rfl) <| ak <| aG rfl (fun c19 => ?_) (fun c19 => ?_)
 ·replace H := bk c19 H;refine aj <| ac ?_;show AR _ _ _ _ _ [0] _;refine za rfl <| ak <| aR ?_;obtain ⟨rfl, rfl, rfl⟩ := gC H;exact And.intro rfl (Exists.intro _ (Exists.intro _ ⟨aV rfl (.refl _), aL [0, 0] rfl, rfl, t9, rfl⟩))
 ·replace H := bb c19 H;refine aM <| aj ?_;obtain ⟨x20, x21, e22, H⟩ := dL H;refine ac ?_;show AR _ _ _ _ _ [0, 1, 2, 3, 4, 5, 6, 7] _;refine zS rfl (ag (av := .pt _ _) rfl) <| zS rfl (ag (av := .pt _ _) rfl) <| zS rfl (am rfl) <| zS rfl (ah (n := 0) (by kernel_rfl) rfl) <| zS rfl (ah (n := 4) (by kernel_rfl) rfl) <| zR rfl (ai (i := 0) al rfl rfl rfl rfl) <| zR rfl (bU (E := Enc.str) (bytes := 16) (xs := [.const _, .tmp 13]) (l := ([([69, 72, 76, 79, 32] : List UInt8), a6] : List (List UInt8))) az (by kernel_rfl) rfl rfl (by decide) rfl rfl) <| ao rfl rfl (co [0, 0] rfl ir rfl (ij F o1 a2 a3 a4 a5 a6 a7 a8 t9 1 ([([69, 72, 76, 79, 32] : List UInt8), a6] : List (List UInt8)) none x20 x21 e22) rfl (fun c A' h => by cases h.1) ?_)
  rintro av A' ⟨h, t23, rfl⟩; cases h
  refine ak <| aj <| ac ?_;show AR _ _ _ _ _ [0] _;refine za rfl <| ak <| aR ?_;obtain ⟨rfl, rfl, rfl⟩ := gC H;exact And.intro rfl (Exists.intro _ (Exists.intro _ ⟨aV rfl (.refl _), aL [0, 0] rfl, rfl, t23, rfl⟩))
set_option maxRecDepth 100000 in
set_option maxHeartbeats 1000000 in
theorem mc (F : Nat) (o1 : Nat) (a2 : Int) (a3 : Int) (a4 : List UInt8) (a5 : List UInt8) (a6 : List UInt8) (a7 : List UInt8) (a8 : List UInt8) (t9 : Nat) (a10 : Int) (a11 : List (List UInt8)) (a12 : Int) (a13 : Int) (a14 : Int) (r15 : Bool) (r16 : Int) (r17 : Int) (r18 : List UInt8) (H : jp F a2 a3 a4 a5 a6 a7 a8 a10 a11 a12 a13 a14 = some (r15, r16, r17, r18)) : ACalls Tryz.prog 81 [.pt o1 0, .agg [i64 a10, slE Enc.str a11 none, i64 a12, i64 a13, i64 a14]] [.obj o1 [i64 a2, i64 a3, S a4, S a5, S a6, slE Enc.byte a7 none, slE Enc.byte a8 (some t9)], .tok t9 5] (fun e A' => e = .ret (B r15) ∧ ∃ t19, A' = [.obj o1 [i64 r16, i64 r17, S a4, S a5, S a6, slE Enc.byte a7 none, slE Enc.byte r18 (some t19)], .tok t19 5]) := by
 unfold jp at H
 refine aA Tryz.func81 rfl rfl ?_;show AW _ _ 41 _ _ _;refine aj <| ac ?_;show AR _ _ _ _ _ [0, 1] _;refine zR rfl (cM rfl (.inr ⟨_, rfl⟩)) <| za rfl <| ak <| aj <| aj <| ac ?_;show AR _ _ _ _ _ [0, 1, 2, 3] _;refine zS rfl (be (n := 0) (by kernel_rfl) rfl (ab rfl)) <| zS rfl (aI aq rfl rfl) <| zS rfl (iv rfl rfl (by decide)) <| zS rfl (eE rfl rfl) <| ak <| aG rfl (fun c20 => ?_) (fun c20 => ?_)
 ·replace H := bk c20 H;refine aj <| ac ?_;show AR _ _ _ _ _ [0] _;refine za rfl <| ak <| aR ?_;obtain ⟨rfl, rfl, rfl, rfl⟩ := res4 H;exact And.intro rfl (Exists.intro _ (Exists.intro _ ⟨aV rfl (.refl _), aL [0, 0] rfl, rfl, t9, rfl⟩))
 ·replace H := bb c20 H;refine aM <| aj ?_;obtain ⟨x21, x22, e23, H⟩ := dL H;refine ac ?_;show AR _ _ _ _ _ [0, 1, 2, 3, 4, 5, 6, 7, 8, 9, 10] _;refine zS rfl (ag (av := .pt _ _) rfl) <| zS rfl (am rfl) <| zS rfl (ah (n := 0) (by kernel_rfl) rfl) <| zS rfl (ah (n := 5) (by kernel_rfl) rfl) <| zR rfl (ai (i := 0) aa rfl rfl rfl rfl) <| ao rfl rfl (aQ rfl nM rfl (lk F a7 none x21 x22 e23) ?_);refine zS rfl (ag (av := .tup _) rfl) <| zS rfl (aF (av := slE _ _ _) rfl rfl) <| zS rfl (aF (av := .v _) rfl rfl) <| zS rfl (ay (av := slE _ _ _) rfl) <| za rfl <| ak <| aj <| aj ?_;obtain ⟨x24, e25, H⟩ := dG H;refine ac ?_;show AR _ _ _ _ _ [0, 1, 2] _;refine zS rfl (bt bJ rfl (n := 5) (by kernel_rfl) rfl (ab rfl)) <| ao rfl rfl (aQ rfl ru rfl (qK F a10 a11 a12 a13 a14 x24 e25) ?_);refine za rfl <| ak <| aj <| ac ?_;show AR _ _ _ _ _ [0, 1, 2, 3, 4, 5, 6, 7] _;refine zm rfl <| zS rfl (ii rfl rfl) <| zm rfl <| aN (l := []) 30 (B ((decide (0 < x24)) && (decide (x24 < (x21.length : Int))))) (fun K => ?_) ?_
  ·rcases af (decide (0 < x24)) with h26 | h26
   ·refine zM h26 rfl <| zU h26 rfl (ag (av := slE _ _ _) rfl) <| zU h26 rfl (aU aa rfl) <| zU h26 rfl (cf rfl rfl) <| zS rfl (ax (av := .v _) rfl h26 rfl) ?_;exact K _ 4 _ (ap (bZ h26)) rfl rfl
   ·refine zF h26 rfl <| zF h26 rfl <| zF h26 rfl <| zF h26 rfl <| zS rfl (aw (av := .v _) rfl h26 rfl) ?_;exact K _ 4 _ (ap (ca h26)) rfl rfl
  refine ak <| aG rfl (fun c27 => ?_) (fun c27 => ?_)
  ·replace H := bk c27 H;refine aj ?_;obtain ⟨x28, x29, x30, e31, H⟩ := fV H;refine ac ?_;show AR _ _ _ _ _ [0, 1] _;refine zS rfl (ag (av := .pt _ _) rfl) <| ao rfl rfl (co [0, 0] rfl jx rfl (jt F o1 a2 a3 a4 a5 a6 a7 a8 t9 3 x28 x29 x30 e31) rfl (fun c A' h => by cases h.1) ?_)
   rintro av A' ⟨h, t32, rfl⟩; cases h
   refine ak <| aj <| ac ?_;show AR _ _ _ _ _ [0] _;refine za rfl <| ak <| aR ?_;obtain ⟨rfl, rfl, rfl, rfl⟩ := res4 H;exact And.intro rfl (Exists.intro _ (Exists.intro _ ⟨aV rfl (.refl _), aL [0, 0] rfl, rfl, t32, rfl⟩))
  ·replace H := bb c27 H;refine aM <| aj ?_;obtain ⟨x33, x34, e35, H⟩ := dL H;refine ac ?_;show AR _ _ _ _ _ [0, 1, 2, 3, 4, 5, 6, 7] _;refine zS rfl (ag (av := .pt _ _) rfl) <| zS rfl (ag (av := .pt _ _) rfl) <| zS rfl (am rfl) <| zS rfl (ah (n := 0) (by kernel_rfl) rfl) <| zS rfl (ah (n := 2) (by kernel_rfl) rfl) <| zR rfl (ai (i := 0) al rfl rfl rfl rfl) <| zR rfl (bU (E := Enc.str) (bytes := 16) (xs := [.const _, .tmp 38, .const _]) (l := ([([77, 65, 73, 76, 32, 70, 82, 79, 77, 58, 60] : List UInt8), a4, ([62] : List UInt8)] : List (List UInt8))) az (by kernel_rfl) rfl rfl (by decide) rfl rfl) <| ao rfl rfl (co [0, 0] rfl ir rfl (ij F o1 a2 a3 a4 a5 a6 a7 a8 t9 2 ([([77, 65, 73, 76, 32, 70, 82, 79, 77, 58, 60] : List UInt8), a4, ([62] : List UInt8)] : List (List UInt8)) none x33 x34 e35) rfl (fun c A' h => by cases h.1) ?_)
   rintro av A' ⟨h, t36, rfl⟩; cases h
   refine ak <| aj <| ac ?_;show AR _ _ _ _ _ [0] _;refine za rfl <| ak <| aR ?_;obtain ⟨rfl, rfl, rfl, rfl⟩ := res4 H;exact And.intro rfl (Exists.intro _ (Exists.intro _ ⟨aV rfl (.refl _), aL [0, 0] rfl, rfl, t36, rfl⟩))
set_option maxRecDepth 100000 in
set_option maxHeartbeats 1000000 in
theorem mZ (F : Nat) (o1 : Nat) (a2 : Int) (a3 : Int) (a4 : List UInt8) (a5 : List UInt8) (a6 : List UInt8) (a7 : List UInt8) (a8 : List UInt8) (t9 : Nat) (a10 : Int) (a11 : List (List UInt8)) (a12 : Int) (a13 : Int) (a14 : Int) (r15 : Bool) (r16 : Int) (r17 : List UInt8) (H : kO F a2 a3 a4 a5 a6 a7 a8 a10 a11 a12 a13 a14 = some (r15, r16, r17)) : ACalls Tryz.prog 82 [.pt o1 0, .agg [i64 a10, slE Enc.str a11 none, i64 a12, i64 a13, i64 a14]] [.obj o1 [i64 a2, i64 a3, S a4, S a5, S a6, slE Enc.byte a7 none, slE Enc.byte a8 (some t9)], .tok t9 5] (fun e A' => e = .ret (B r15) ∧ ∃ t18, A' = [.obj o1 [i64 r16, i64 a3, S a4, S a5, S a6, slE Enc.byte a7 none, slE Enc.byte r17 (some t18)], .tok t18 5]) := by
 unfold kO at H
 refine aA Tryz.func82 rfl rfl ?_;show AW _ _ 17 _ _ _;refine aj <| ac ?_;show AR _ _ _ _ _ [0, 1] _;refine zR rfl (cM rfl (.inr ⟨_, rfl⟩)) <| za rfl <| ak <| aj <| aj <| ac ?_;show AR _ _ _ _ _ [0, 1, 2, 3] _;refine zS rfl (be (n := 0) (by kernel_rfl) rfl (ab rfl)) <| zS rfl (aI aq rfl rfl) <| zS rfl (iv rfl rfl (by decide)) <| zS rfl (eE rfl rfl) <| ak <| aG rfl (fun c19 => ?_) (fun c19 => ?_)
 ·replace H := bk c19 H;refine aj <| ac ?_;show AR _ _ _ _ _ [0] _;refine za rfl <| ak <| aR ?_;obtain ⟨rfl, rfl, rfl⟩ := gC H;exact And.intro rfl (Exists.intro _ (Exists.intro _ ⟨aV rfl (.refl _), aL [0, 0] rfl, rfl, t9, rfl⟩))
 ·replace H := bb c19 H;refine aM <| aj ?_;obtain ⟨x20, x21, e22, H⟩ := dL H;refine ac ?_;show AR _ _ _ _ _ [0, 1, 2, 3, 4, 5, 6, 7] _;refine zS rfl (ag (av := .pt _ _) rfl) <| zS rfl (ag (av := .pt _ _) rfl) <| zS rfl (am rfl) <| zS rfl (ah (n := 0) (by kernel_rfl) rfl) <| zS rfl (ah (n := 3) (by kernel_rfl) rfl) <| zR rfl (ai (i := 0) al rfl rfl rfl rfl) <| zR rfl (bU (E := Enc.str) (bytes := 16) (xs := [.const _, .tmp 14, .const _]) (l := ([([82, 67, 80, 84, 32, 84, 79, 58, 60] : List UInt8), a5, ([62] : List UInt8)] : List (List UInt8))) az (by kernel_rfl) rfl rfl (by decide) rfl rfl) <| ao rfl rfl (co [0, 0] rfl ir rfl (ij F o1 a2 a3 a4 a5 a6 a7 a8 t9 3 ([([82, 67, 80, 84, 32, 84, 79, 58, 60] : List UInt8), a5, ([62] : List UInt8)] : List (List UInt8)) none x20 x21 e22) rfl (fun c A' h => by cases h.1) ?_)
  rintro av A' ⟨h, t23, rfl⟩; cases h
  refine ak <| aj <| ac ?_;show AR _ _ _ _ _ [0] _;refine za rfl <| ak <| aR ?_;obtain ⟨rfl, rfl, rfl⟩ := gC H;exact And.intro rfl (Exists.intro _ (Exists.intro _ ⟨aV rfl (.refl _), aL [0, 0] rfl, rfl, t23, rfl⟩))
set_option maxRecDepth 100000 in
set_option maxHeartbeats 1000000 in
theorem mX (F : Nat) (o1 : Nat) (a2 : Int) (a3 : Int) (a4 : List UInt8) (a5 : List UInt8) (a6 : List UInt8) (a7 : List UInt8) (a8 : List UInt8) (t9 : Nat) (a10 : Int) (a11 : List (List UInt8)) (a12 : Int) (a13 : Int) (a14 : Int) (r15 : Bool) (r16 : Int) (r17 : List UInt8) (H : kN F a2 a3 a4 a5 a6 a7 a8 a10 a11 a12 a13 a14 = some (r15, r16, r17)) : ACalls Tryz.prog 83 [.pt o1 0, .agg [i64 a10, slE Enc.str a11 none, i64 a12, i64 a13, i64 a14]] [.obj o1 [i64 a2, i64 a3, S a4, S a5, S a6, slE Enc.byte a7 none, slE Enc.byte a8 (some t9)], .tok t9 5] (fun e A' => e = .ret (B r15) ∧ ∃ t18, A' = [.obj o1 [i64 r16, i64 a3, S a4, S a5, S a6, slE Enc.byte a7 none, slE Enc.byte r17 (some t18)], .tok t18 5]) := by
 unfold kN at H
 refine aA Tryz.func83 rfl rfl ?_;show AW _ _ 12 _ _ _;refine aj <| ac ?_;show AR _ _ _ _ _ [0, 1] _;refine zR rfl (cM rfl (.inr ⟨_, rfl⟩)) <| za rfl <| ak <| aj <| aj <| ac ?_;show AR _ _ _ _ _ [0, 1, 2, 3] _;refine zS rfl (be (n := 0) (by kernel_rfl) rfl (ab rfl)) <| zS rfl (aI aq rfl rfl) <| zS rfl (iv rfl rfl (by decide)) <| zS rfl (eE rfl rfl) <| ak <| aG rfl (fun c19 => ?_) (fun c19 => ?_)
 ·replace H := bk c19 H;refine aj <| ac ?_;show AR _ _ _ _ _ [0] _;refine za rfl <| ak <| aR ?_;obtain ⟨rfl, rfl, rfl⟩ := gC H;exact And.intro rfl (Exists.intro _ (Exists.intro _ ⟨aV rfl (.refl _), aL [0, 0] rfl, rfl, t9, rfl⟩))
 ·replace H := bb c19 H;refine aM <| aj ?_;obtain ⟨x20, x21, e22, H⟩ := dL H;refine ac ?_;show AR _ _ _ _ _ [0, 1, 2] _;refine zS rfl (ag (av := .pt _ _) rfl) <| zR rfl (bU (E := Enc.str) (bytes := 16) (xs := [.const _]) (l := ([([68, 65, 84, 65] : List UInt8)] : List (List UInt8))) az (by kernel_rfl) rfl rfl (by decide) rfl rfl) <| ao rfl rfl (co [0, 0] rfl ir rfl (ij F o1 a2 a3 a4 a5 a6 a7 a8 t9 4 ([([68, 65, 84, 65] : List UInt8)] : List (List UInt8)) none x20 x21 e22) rfl (fun c A' h => by cases h.1) ?_)
  rintro av A' ⟨h, t23, rfl⟩; cases h
  refine ak <| aj <| ac ?_;show AR _ _ _ _ _ [0] _;refine za rfl <| ak <| aR ?_;obtain ⟨rfl, rfl, rfl⟩ := gC H;exact And.intro rfl (Exists.intro _ (Exists.intro _ ⟨aV rfl (.refl _), aL [0, 0] rfl, rfl, t23, rfl⟩))
set_option maxRecDepth 100000 in
set_option maxHeartbeats 1000000 in
theorem nc (F : Nat) (o1 : Nat) (a2 : Int) (a3 : Int) (a4 : List UInt8) (a5 : List UInt8) (a6 : List UInt8) (a7 : List UInt8) (a8 : List UInt8) (t9 : Nat) (a10 : Int) (a11 : List (List UInt8)) (a12 : Int) (a13 : Int) (a14 : Int) (r15 : Bool) (r16 : Int) (r17 : List UInt8) (H : kQ F a2 a3 a4 a5 a6 a7 a8 a10 a11 a12 a13 a14 = some (r15, r16, r17)) : ACalls Tryz.prog 84 [.pt o1 0, .agg [i64 a10, slE Enc.str a11 none, i64 a12, i64 a13, i64 a14]] [.obj o1 [i64 a2, i64 a3, S a4, S a5, S a6, slE Enc.byte a7 none, slE Enc.byte a8 (some t9)], .tok t9 5] (fun e A' => e = .ret (B r15) ∧ ∃ t18, A' = [.obj o1 [i64 r16, i64 a3, S a4, S a5, S a6, slE Enc.byte a7 none, slE Enc.byte r17 (some t18)], .tok t18 5]) := by
 unfold kQ at H
 refine aA Tryz.func84 rfl rfl ?_;show AW _ _ 32 _ _ _;refine aj <| ac ?_;show AR _ _ _ _ _ [0, 1] _;refine zR rfl (cM rfl (.inr ⟨_, rfl⟩)) <| za rfl <| ak <| aj <| aj <| ac ?_;show AR _ _ _ _ _ [0, 1, 2] _;refine zS rfl (be (n := 0) (by kernel_rfl) rfl (ab rfl)) <| zS rfl (aI aq rfl rfl) <| zS rfl (eE rfl rfl) <| ak <| aG rfl (fun c19 => ?_) (fun c19 => ?_)
 ·replace H := bk c19 H;refine aj <| ac ?_;show AR _ _ _ _ _ [0] _;refine za rfl <| ak <| aR ?_;obtain ⟨rfl, rfl, rfl⟩ := gC H;exact And.intro rfl (Exists.intro _ (Exists.intro _ ⟨aV rfl (.refl _), aL [0, 0] rfl, rfl, t9, rfl⟩))
 ·replace H := bb c19 H;refine aM <| aj ?_;obtain ⟨x20, x21, e22, H⟩ := dL H;refine ac ?_;show AR _ _ _ _ _ [0, 1, 2, 3, 4, 5, 6, 7, 8, 9, 10] _;refine zS rfl (ag (av := .pt _ _) rfl) <| zS rfl (am rfl) <| zS rfl (ah (n := 0) (by kernel_rfl) rfl) <| zS rfl (ah (n := 5) (by kernel_rfl) rfl) <| zR rfl (ai (i := 0) aa rfl rfl rfl rfl) <| ao rfl rfl (aQ rfl nM rfl (lk F a7 none x20 x21 e22) ?_);refine zS rfl (ag (av := .tup _) rfl) <| zS rfl (aF (av := slE _ _ _) rfl rfl) <| zS rfl (aF (av := .v _) rfl rfl) <| zS rfl (ay (av := slE _ _ _) rfl) <| za rfl <| ak <| aj ?_;obtain ⟨g24, H⟩ := aX H;obtain ⟨x25, e26, H⟩ := cc H;refine ac ?_;show AR _ _ _ _ _ [0, 1, 2, 3, 4, 5, 6, 7, 8, 9, 10, 11, 12, 13, 14] _;refine zS rfl (ag (av := .pt _ _) rfl) <| zS rfl (ag (av := .pt _ _) rfl) <| zS rfl (ag (av := .pt _ _) rfl) <| zS rfl (am rfl) <| zS rfl (ah (n := 6) (by kernel_rfl) rfl) <| zR rfl (ai (i := 0) aa rfl rfl rfl rfl) <| zS rfl (ag (av := slE _ _ _) rfl) <| zX rfl (dK (E := Enc.byte) (bytes := 1) 1 aa aa rfl (by kernel_rfl) rfl rfl rfl rfl g24 e26) ?_;rintro _ _ ⟨t23, rfl, rfl⟩
  refine zS rfl (am rfl) <| zS rfl (ah (n := 0) (by kernel_rfl) rfl) <| zS rfl (ah (n := 0) (by kernel_rfl) rfl) <| s0 rfl rfl (ar (i := 0) (c := .v _) (by kernel_rfl) rfl rfl rfl rfl (ab rfl)) <| zS rfl (am rfl) <| zS rfl (ah (n := 6) (by kernel_rfl) rfl) <| s0 rfl rfl (ar (i := 0) (c := slE _ _ _) (by kernel_rfl) rfl rfl rfl rfl (ab rfl)) <| ak <| aj <| ac ?_;show AR _ _ _ _ _ [0] _;refine za rfl <| ak <| aR ?_;obtain ⟨rfl, rfl, rfl⟩ := gC H;exact And.intro rfl (Exists.intro _ (Exists.intro _ ⟨aV rfl (.refl _), aL [0, 0] rfl, rfl, t23, rfl⟩))
set_option maxRecDepth 100000 in
set_option maxHeartbeats 1000000 in
theorem nd (F : Nat) (o1 : Nat) (a2 : Int) (a3 : Int) (a4 : List UInt8) (a5 : List UInt8) (a6 : List UInt8) (a7 : List UInt8) (a8 : List UInt8) (t9 : Nat) (a10 : Int) (a11 : List (List UInt8)) (a12 : Int) (a13 : Int) (a14 : Int) (r15 : Bool) (r16 : Int) (r17 : Int) (r18 : List UInt8) (H : kR F a2 a3 a4 a5 a6 a7 a8 a10 a11 a12 a13 a14 = some (r15, r16, r17, r18)) : ACalls Tryz.prog 85 [.pt o1 0, .agg [i64 a10, slE Enc.str a11 none, i64 a12, i64 a13, i64 a14]] [.obj o1 [i64 a2, i64 a3, S a4, S a5, S a6, slE Enc.byte a7 none, slE Enc.byte a8 (some t9)], .tok t9 5] (fun e A' => e = .ret (B r15) ∧ ∃ t19, A' = [.obj o1 [i64 r16, i64 r17, S a4, S a5, S a6, slE Enc.byte a7 none, slE Enc.byte r18 (some t19)], .tok t19 5]) := by
 unfold kR at H
 refine aA Tryz.func85 rfl rfl ?_;show AW _ _ 11 _ _ _;refine aj <| ac ?_;show AR _ _ _ _ _ [0, 1] _;refine zR rfl (cM rfl (.inr ⟨_, rfl⟩)) <| za rfl <| ak <| aj <| aj <| ac ?_;show AR _ _ _ _ _ [0, 1, 2, 3] _;refine zS rfl (be (n := 0) (by kernel_rfl) rfl (ab rfl)) <| zS rfl (aI aq rfl rfl) <| zS rfl (iv rfl rfl (by decide)) <| zS rfl (eE rfl rfl) <| ak <| aG rfl (fun c20 => ?_) (fun c20 => ?_)
 ·replace H := bk c20 H;refine aj <| ac ?_;show AR _ _ _ _ _ [0] _;refine za rfl <| ak <| aR ?_;obtain ⟨rfl, rfl, rfl, rfl⟩ := res4 H;exact And.intro rfl (Exists.intro _ (Exists.intro _ ⟨aV rfl (.refl _), aL [0, 0] rfl, rfl, t9, rfl⟩))
 ·replace H := bb c20 H;refine aM <| aj ?_;obtain ⟨x21, x22, x23, e24, H⟩ := fV H;refine ac ?_;show AR _ _ _ _ _ [0, 1] _;refine zS rfl (ag (av := .pt _ _) rfl) <| ao rfl rfl (co [0, 0] rfl jx rfl (jt F o1 a2 a3 a4 a5 a6 a7 a8 t9 1 x21 x22 x23 e24) rfl (fun c A' h => by cases h.1) ?_)
  rintro av A' ⟨h, t25, rfl⟩; cases h
  refine ak <| aj <| ac ?_;show AR _ _ _ _ _ [0] _;refine za rfl <| ak <| aR ?_;obtain ⟨rfl, rfl, rfl, rfl⟩ := res4 H;exact And.intro rfl (Exists.intro _ (Exists.intro _ ⟨aV rfl (.refl _), aL [0, 0] rfl, rfl, t25, rfl⟩))
set_option maxRecDepth 100000 in
set_option maxHeartbeats 1000000 in
theorem mY (F : Nat) (o1 : Nat) (a2 : Int) (a3 : Int) (a4 : List UInt8) (a5 : List UInt8) (a6 : List UInt8) (a7 : List UInt8) (a8 : List UInt8) (t9 : Nat) (a10 : Int) (a11 : List (List UInt8)) (a12 : Int) (a13 : Int) (a14 : Int) (r15 : Bool) (r16 : Int) (H : lR F a2 a3 a4 a5 a6 a7 a8 a10 a11 a12 a13 a14 = some (r15, r16)) : ACalls Tryz.prog 86 [.pt o1 0, .agg [i64 a10, slE Enc.str a11 none, i64 a12, i64 a13, i64 a14]] [.obj o1 [i64 a2, i64 a3, S a4, S a5, S a6, slE Enc.byte a7 none, slE Enc.byte a8 (some t9)], .tok t9 5] (fun e A' => e = .ret (B r15) ∧ A' = [.obj o1 [i64 r16, i64 a3, S a4, S a5, S a6, slE Enc.byte a7 none, slE Enc.byte a8 (some t9)], .tok t9 5]) := by
 unfold lR at H
 refine aA Tryz.func86 rfl rfl ?_;show AW _ _ 9 _ _ _;refine aj <| ac ?_;show AR _ _ _ _ _ [0, 1] _;refine zR rfl (cM rfl (.inr ⟨_, rfl⟩)) <| za rfl <| ak <| aj <| ac ?_;show AR _ _ _ _ _ [0, 1, 2, 3, 4] _;refine zS rfl (ag (av := .pt _ _) rfl) <| zS rfl (am rfl) <| zS rfl (ah (n := 0) (by kernel_rfl) rfl) <| zS rfl (ah (n := 0) (by kernel_rfl) rfl) <| s0 rfl rfl (ar (i := 0) (c := .v _) (by kernel_rfl) rfl rfl rfl rfl (ab rfl)) <| ak <| aj <| ac ?_;show AR _ _ _ _ _ [0] _;refine za rfl <| ak <| aR ?_;obtain ⟨rfl, rfl⟩ := fD H;exact And.intro rfl (Exists.intro _ (Exists.intro _ ⟨aV rfl (.refl _), aL [0, 0] rfl, rfl, rfl⟩))
abbrev _root_.Go.Av.bo := @Tryz.underlying92
set_option maxRecDepth 100000 in
set_option maxHeartbeats 1000000 in
theorem cx (F : Nat) (H : eB F = some ()) : ACalls Tryz.prog 57 [] [] (Ret (.agg [.v (.func (.func 80) #[] #[]), .v (.func (.func 81) #[] #[]), .v (.func (.func 82) #[] #[]), .v (.func (.func 83) #[] #[]), .v (.func (.func 84) #[] #[]), .v (.func (.func 85) #[] #[]), .v (.func (.func 86) #[] #[])]) []) := by
 unfold eB at H
 refine aA Tryz.func57 rfl rfl ?_;show AW _ _ 2 _ _ _;refine aj <| ac ?_;show AR _ _ _ _ _ [0] _;refine zX rfl (bQ (zs := [.nilFunc, .nilFunc, .nilFunc, .nilFunc, .nilFunc, .nilFunc, .nilFunc]) (by kernel_rfl)) ?_;rintro _ _ ⟨o1, rfl, rfl⟩;refine ak <| aj <| ac ?_;show AR _ _ _ _ _ [0, 1] _;refine zS rfl (pW (zs := [.nilFunc, .nilFunc, .nilFunc, .nilFunc, .nilFunc, .nilFunc, .nilFunc]) (k := 1) (cs := [.v (.func (.func 80) #[] #[]), .v (.func (.func 81) #[] #[]), .v (.func (.func 82) #[] #[]), .v (.func (.func 83) #[] #[]), .v (.func (.func 84) #[] #[]), .v (.func (.func 85) #[] #[]), .v (.func (.func 86) #[] #[])]) bo (by kernel_rfl) (by kernel_rfl) rfl rfl (by kernel_rfl)) <| s0 rfl rfl (aP (i := 0) (vs := [.v (.func (.func 80) #[] #[]), .v (.func (.func 81) #[] #[]), .v (.func (.func 82) #[] #[]), .v (.func (.func 83) #[] #[]), .v (.func (.func 84) #[] #[]), .v (.func (.func 85) #[] #[]), .v (.func (.func 86) #[] #[])]) (by kernel_rfl) rfl rfl (by simp [bw, slE]) rfl (ab rfl)) <| ak <| aR ?_;exact And.intro rfl (Exists.intro _ (Exists.intro _ ⟨dD (eL rfl (dI (off := 0) (cs := [.v (.func (.func 80) #[] #[]), .v (.func (.func 81) #[] #[]), .v (.func (.func 82) #[] #[]), .v (.func (.func 83) #[] #[]), .v (.func (.func 84) #[] #[]), .v (.func (.func 85) #[] #[]), .v (.func (.func 86) #[] #[])]) (n := 7) 0 bo rfl (by kernel_rfl) rfl rfl (ab rfl))), aL [] rfl, rfl, rfl⟩))
abbrev _root_.Go.Av.bz := @Tryz.underlying91
set_option maxRecDepth 100000 in
set_option maxHeartbeats 1000000 in
theorem mW (F : Nat) (o1 : Nat) (a2 : Int) (a3 : Int) (a4 : List UInt8) (a5 : List UInt8) (a6 : List UInt8) (a7 : List UInt8) (a8 : List UInt8) (t9 : Nat) (a10 : Int) (a11 : List (List UInt8)) (a12 : Int) (a13 : Int) (a14 : Int) (r15 : Int) (r16 : Int) (r17 : List UInt8) (H : jJ F a2 a3 a4 a5 a6 a7 a8 a10 a11 a12 a13 a14 = some (r15, r16, r17)) : ACalls Tryz.prog 37 [.pt o1 0, .agg [i64 a10, slE Enc.str a11 none, i64 a12, i64 a13, i64 a14]] [.obj o1 [i64 a2, i64 a3, S a4, S a5, S a6, slE Enc.byte a7 none, slE Enc.byte a8 (some t9)], .tok t9 5] (fun e A' => e = .ret (.tup []) ∧ ∃ t18, A' = [.obj o1 [i64 r15, i64 r16, S a4, S a5, S a6, slE Enc.byte a7 none, slE Enc.byte r17 (some t18)], .tok t18 5]) := by
 unfold jJ at H
 refine aA Tryz.func37 rfl rfl ?_;show AW _ _ 49 _ _ _;refine aj <| ac ?_;show AR _ _ _ _ _ [0] _;refine zR rfl (cM rfl (.inr ⟨_, rfl⟩)) <| ak <| bi <| aj <| ac ?_;show AR _ _ _ _ _ [0, 1, 2, 3, 4, 5, 6, 7, 8, 9, 10, 11, 12, 13, 14] _;refine zS rfl (ag (av := .pt _ _) rfl) <| zS rfl (am rfl) <| zS rfl (ah (n := 0) (by kernel_rfl) rfl) <| zS rfl (ah (n := 0) (by kernel_rfl) rfl) <| zR rfl (ai (i := 0) aq rfl rfl rfl rfl) <| zS rfl (cf rfl rfl) <| zm rfl <| aN (l := [14]) 20 (B ((decide (a2 < 0)) || (decide (7 ≤ a2)))) (fun K => ?_) ?_
 ·rcases af (decide (a2 < 0)) with h19 | h19
  ·refine zF h19 rfl <| zF h19 rfl <| zF h19 rfl <| zF h19 rfl <| zF h19 rfl <| zF h19 rfl <| zS rfl (ax (av := .v _) rfl h19 rfl) ?_;exact K _ 6 _ (ap (fT h19)) rfl rfl
  ·refine zU h19 rfl (ag (av := .pt _ _) rfl) <| zU h19 rfl (am rfl) <| zU h19 rfl (ah (n := 0) (by kernel_rfl) rfl) <| zU h19 rfl (ah (n := 0) (by kernel_rfl) rfl) <| zT h19 rfl (bM rfl rfl (ai (i := 0) aq rfl rfl rfl rfl) ?_);refine zU h19 rfl (ff rfl rfl) <| zS rfl (aw (av := .v _) rfl h19 rfl) ?_;exact K _ 6 _ (ap (fU h19)) rfl rfl
 refine za rfl <| ak <| aG rfl (fun c20 => ?_) (fun c20 => ?_)
 ·replace H := bk c20 H;refine aM ?_;obtain ⟨rfl, rfl, rfl⟩ := gC H;exact And.intro rfl (Exists.intro _ (Exists.intro _ ⟨bc rfl, aL [0, 0] rfl, rfl, t9, rfl⟩))
 ·replace H := bb c20 H;refine aj <| ac ?_;show AR _ _ _ _ _ [0, 1, 2, 3] _;refine zS rfl (be (n := 0) (by kernel_rfl) rfl (ab rfl)) <| zS rfl (aI aq rfl rfl) <| zS rfl (bN rfl rfl) <| za rfl <| ak <| aG rfl (fun c21 => ?_) (fun c21 => ?_)
  ·replace H := bk c21 H;obtain ⟨x22, x23, e24, H⟩ := dL H;refine ac ?_;show AR _ _ _ _ _ [0, 1] _;refine zS rfl (ag (av := .pt _ _) rfl) <| ao rfl rfl (co [0, 0] rfl nG rfl (na F o1 a2 a3 a4 a5 a6 a7 a8 t9 x22 x23 e24) rfl (fun c A' h => by cases h.1) ?_)
   rintro av A' ⟨h, rfl⟩; cases h
   refine ak ?_;obtain ⟨rfl, rfl, rfl⟩ := gC H;exact And.intro rfl (Exists.intro _ (Exists.intro _ ⟨bc rfl, aL [0, 0] rfl, rfl, t9, rfl⟩))
  ·replace H := bb c21 H;refine bX (X := Bool × Int × Int × (List UInt8) × Nat) (fun (y74, y75, y76, y77, t78) => ⟨[(0, .pt o1 0), (3, .cp [i64 a10, slE Enc.str a11 none, i64 a12, i64 a13, i64 a14]), (27, B y74)], [], [.obj o1 [i64 y75, i64 y76, S a4, S a5, S a6, slE Enc.byte a7 none, slE Enc.byte y77 (some t78)], .tok t78 5]⟩) (fun (y74, y75, y76, y77, t78) => cI F a4 a5 a6 a7 a10 y74 y75 y76 y77 = some (r15, r16, r17)) ?_ ?_
   ·obtain ⟨g25, H⟩ := aX H
    rcases idx7 g25 with rfl | rfl | rfl | rfl | rfl | rfl | rfl
    ·replace H := bk (by decide) H;obtain ⟨_, e26, H⟩ := dG H;obtain ⟨x27, x28, x29, e30, H⟩ := fV H;refine bn (by kernel_rfl) ?_;show AI _ _ _ _ _ 11 (Array.replicate 11 false) _;refine zk 1 rfl (ag (av := .pt _ _) rfl) ?_;show AI _ _ _ _ _ _ #[false, true, false, false, false, false, false, false, false, false, false] _;refine zk 2 rfl (am rfl) ?_;show AI _ _ _ _ _ _ #[false, true, true, false, false, false, false, false, false, false, false] _;refine zk 3 rfl (ah (n := 0) (by kernel_rfl) rfl) ?_;show AI _ _ _ _ _ _ #[false, true, true, true, false, false, false, false, false, false, false] _;refine zk 4 rfl (ah (n := 0) (by kernel_rfl) rfl) ?_;show AI _ _ _ _ _ _ #[false, true, true, true, true, false, false, false, false, false, false] _;refine zk 7 rfl (ag (av := .pt _ _) rfl) ?_;show AI _ _ _ _ _ _ #[false, true, true, true, true, false, false, true, false, false, false] _;refine zk 8 rfl (bt bJ rfl (n := 5) (by kernel_rfl) rfl (ab rfl)) ?_;show AI _ _ _ _ _ _ #[false, true, true, true, true, false, false, true, true, false, false] _;refine cj (i := 0) (j := 5) (by kernel_rfl) rfl rfl rfl rfl ?_ ?_
     ·refine bD rfl di rfl (cx F e26) ?_;show AI _ _ _ _ _ _ #[true, true, true, true, true, false, false, true, true, false, false] _;refine aE (i := 5) (by kernel_rfl) rfl rfl <| aH rfl (ai (i := 0) aq rfl rfl rfl rfl) ?_;show AI _ _ _ _ _ _ #[true, true, true, true, true, true, false, true, true, false, false] _;refine zk 6 rfl (bV (i := 0) (k := 1) (c := .v _) bo bz rfl (by kernel_rfl) rfl rfl rfl rfl) ?_;show AI _ _ _ _ _ _ #[true, true, true, true, true, true, true, true, true, false, false] _;refine aE (i := 9) (by kernel_rfl) rfl rfl <| cy [0, 0] rfl (.inr ⟨rfl, rfl, rfl⟩) nB rfl (md F o1 0 a3 a4 a5 a6 a7 a8 t9 a10 a11 a12 a13 a14 x27 x28 x29 e30) rfl (fun c A' h => by cases h.1) ?_
      rintro av A' ⟨h, t31, rfl⟩; cases h
      show AI _ _ _ _ _ _ #[true, true, true, true, true, true, true, true, true, true, false] _;refine zk 10 rfl (asg rfl) ?_;show AI _ _ _ _ _ _ #[true, true, true, true, true, true, true, true, true, true, true] _;refine aZ rfl ?_;exact Exists.intro (x27, x28, a3, x29, t31) ⟨H, aY [0, 0] (.cons (.refl _) (.cons (.refl _) (.cons (.refl _) (.nil _)))) rfl⟩
     ·refine aH rfl (ai (i := 0) aq rfl rfl rfl rfl) ?_;show AI _ _ _ _ _ _ #[false, true, true, true, true, true, false, true, true, false, false] _;refine aE (i := 0) (by kernel_rfl) rfl rfl <| bD rfl di rfl (cx F e26) ?_;show AI _ _ _ _ _ _ #[true, true, true, true, true, true, false, true, true, false, false] _;refine zk 6 rfl (bV (i := 0) (k := 1) (c := .v _) bo bz rfl (by kernel_rfl) rfl rfl rfl rfl) ?_;show AI _ _ _ _ _ _ #[true, true, true, true, true, true, true, true, true, false, false] _;refine aE (i := 9) (by kernel_rfl) rfl rfl <| cy [0, 0] rfl (.inr ⟨rfl, rfl, rfl⟩) nB rfl (md F o1 0 a3 a4 a5 a6 a7 a8 t9 a10 a11 a12 a13 a14 x27 x28 x29 e30) rfl (fun c A' h => by cases h.1) ?_
      rintro av A' ⟨h, t32, rfl⟩; cases h
      show AI _ _ _ _ _ _ #[true, true, true, true, true, true, true, true, true, true, false] _;refine zk 10 rfl (asg rfl) ?_;show AI _ _ _ _ _ _ #[true, true, true, true, true, true, true, true, true, true, true] _;refine aZ rfl ?_;exact Exists.intro (x27, x28, a3, x29, t32) ⟨H, aY [0, 0] (.cons (.refl _) (.cons (.refl _) (.cons (.refl _) (.nil _)))) rfl⟩
    ·replace H := bb (by decide) H;replace H := bk (by decide) H;obtain ⟨_, e33, H⟩ := dG H;obtain ⟨x34, x35, x36, x37, e38, H⟩ := bnd4_s H;refine bn (by kernel_rfl) ?_;show AI _ _ _ _ _ 11 (Array.replicate 11 false) _;refine zk 1 rfl (ag (av := .pt _ _) rfl) ?_;show AI _ _ _ _ _ _ #[false, true, false, false, false, false, false, false, false, false, false] _;refine zk 2 rfl (am rfl) ?_;show AI _ _ _ _ _ _ #[false, true, true, false, false, false, false, false, false, false, false] _;refine zk 3 rfl (ah (n := 0) (by kernel_rfl) rfl) ?_;show AI _ _ _ _ _ _ #[false, true, true, true, false, false, false, false, false, false, false] _;refine zk 4 rfl (ah (n := 0) (by kernel_rfl) rfl) ?_;show AI _ _ _ _ _ _ #[false, true, true, true, true, false, false, false, false, false, false] _;refine zk 7 rfl (ag (av := .pt _ _) rfl) ?_;show AI _ _ _ _ _ _ #[false, true, true, true, true, false, false, true, false, false, false] _;refine zk 8 rfl (bt bJ rfl (n := 5) (by kernel_rfl) rfl (ab rfl)) ?_;show AI _ _ _ _ _ _ #[false, true, true, true, true, false, false, true, true, false, false] _;refine cj (i := 0) (j := 5) (by kernel_rfl) rfl rfl rfl rfl ?_ ?_
     ·refine bD rfl di rfl (cx F e33) ?_;show AI _ _ _ _ _ _ #[true, true, true, true, true, false, false, true, true, false, false] _;refine aE (i := 5) (by kernel_rfl) rfl rfl <| aH rfl (ai (i := 0) aq rfl rfl rfl rfl) ?_;show AI _ _ _ _ _ _ #[true, true, true, true, true, true, false, true, true, false, false] _;refine zk 6 rfl (bV (i := 1) (k := 1) (c := .v _) bo bz rfl (by kernel_rfl) rfl rfl rfl rfl) ?_;show AI _ _ _ _ _ _ #[true, true, true, true, true, true, true, true, true, false, false] _;refine aE (i := 9) (by kernel_rfl) rfl rfl <| cy [0, 0] rfl (.inr ⟨rfl, rfl, rfl⟩) nA rfl (mc F o1 1 a3 a4 a5 a6 a7 a8 t9 a10 a11 a12 a13 a14 x34 x35 x36 x37 e38) rfl (fun c A' h => by cases h.1) ?_
      rintro av A' ⟨h, t39, rfl⟩; cases h
      show AI _ _ _ _ _ _ #[true, true, true, true, true, true, true, true, true, true, false] _;refine zk 10 rfl (asg rfl) ?_;show AI _ _ _ _ _ _ #[true, true, true, true, true, true, true, true, true, true, true] _;refine aZ rfl ?_;exact Exists.intro (x34, x35, x36, x37, t39) ⟨H, aY [0, 0] (.cons (.refl _) (.cons (.refl _) (.cons (.refl _) (.nil _)))) rfl⟩
     ·refine aH rfl (ai (i := 0) aq rfl rfl rfl rfl) ?_;show AI _ _ _ _ _ _ #[false, true, true, true, true, true, false, true, true, false, false] _;refine aE (i := 0) (by kernel_rfl) rfl rfl <| bD rfl di rfl (cx F e33) ?_;show AI _ _ _ _ _ _ #[true, true, true, true, true, true, false, true, true, false, false] _;refine zk 6 rfl (bV (i := 1) (k := 1) (c := .v _) bo bz rfl (by kernel_rfl) rfl rfl rfl rfl) ?_;show AI _ _ _ _ _ _ #[true, true, true, true, true, true, true, true, true, false, false] _;refine aE (i := 9) (by kernel_rfl) rfl rfl <| cy [0, 0] rfl (.inr ⟨rfl, rfl, rfl⟩) nA rfl (mc F o1 1 a3 a4 a5 a6 a7 a8 t9 a10 a11 a12 a13 a14 x34 x35 x36 x37 e38) rfl (fun c A' h => by cases h.1) ?_
      rintro av A' ⟨h, t40, rfl⟩; cases h
      show AI _ _ _ _ _ _ #[true, true, true, true, true, true, true, true, true, true, false] _;refine zk 10 rfl (asg rfl) ?_;show AI _ _ _ _ _ _ #[true, true, true, true, true, true, true, true, true, true, true] _;refine aZ rfl ?_;exact Exists.intro (x34, x35, x36, x37, t40) ⟨H, aY [0, 0] (.cons (.refl _) (.cons (.refl _) (.cons (.refl _) (.nil _)))) rfl⟩
    ·replace H := bb (by decide) H;replace H := bb (by decide) H;replace H := bk (by decide) H;obtain ⟨_, e41, H⟩ := dG H;obtain ⟨x42, x43, x44, e45, H⟩ := fV H;refine bn (by kernel_rfl) ?_;show AI _ _ _ _ _ 11 (Array.replicate 11 false) _;refine zk 1 rfl (ag (av := .pt _ _) rfl) ?_;show AI _ _ _ _ _ _ #[false, true, false, false, false, false, false, false, false, false, false] _;refine zk 2 rfl (am rfl) ?_;show AI _ _ _ _ _ _ #[false, true, true, false, false, false, false, false, false, false, false] _;refine zk 3 rfl (ah (n := 0) (by kernel_rfl) rfl) ?_;show AI _ _ _ _ _ _ #[false, true, true, true, false, false, false, false, false, false, false] _;refine zk 4 rfl (ah (n := 0) (by kernel_rfl) rfl) ?_;show AI _ _ _ _ _ _ #[false, true, true, true, true, false, false, false, false, false, false] _;refine zk 7 rfl (ag (av := .pt _ _) rfl) ?_;show AI _ _ _ _ _ _ #[false, true, true, true, true, false, false, true, false, false, false] _;refine zk 8 rfl (bt bJ rfl (n := 5) (by kernel_rfl) rfl (ab rfl)) ?_;show AI _ _ _ _ _ _ #[false, true, true, true, true, false, false, true, true, false, false] _;refine cj (i := 0) (j := 5) (by kernel_rfl) rfl rfl rfl rfl ?_ ?_
     ·refine bD rfl di rfl (cx F e41) ?_;show AI _ _ _ _ _ _ #[true, true, true, true, true, false, false, true, true, false, false] _;refine aE (i := 5) (by kernel_rfl) rfl rfl <| aH rfl (ai (i := 0) aq rfl rfl rfl rfl) ?_;show AI _ _ _ _ _ _ #[true, true, true, true, true, true, false, true, true, false, false] _;refine zk 6 rfl (bV (i := 2) (k := 1) (c := .v _) bo bz rfl (by kernel_rfl) rfl rfl rfl rfl) ?_;show AI _ _ _ _ _ _ #[true, true, true, true, true, true, true, true, true, false, false] _;refine aE (i := 9) (by kernel_rfl) rfl rfl <| cy [0, 0] rfl (.inr ⟨rfl, rfl, rfl⟩) nz rfl (mZ F o1 2 a3 a4 a5 a6 a7 a8 t9 a10 a11 a12 a13 a14 x42 x43 x44 e45) rfl (fun c A' h => by cases h.1) ?_
      rintro av A' ⟨h, t46, rfl⟩; cases h
      show AI _ _ _ _ _ _ #[true, true, true, true, true, true, true, true, true, true, false] _;refine zk 10 rfl (asg rfl) ?_;show AI _ _ _ _ _ _ #[true, true, true, true, true, true, true, true, true, true, true] _;refine aZ rfl ?_;exact Exists.intro (x42, x43, a3, x44, t46) ⟨H, aY [0, 0] (.cons (.refl _) (.cons (.refl _) (.cons (.refl _) (.nil _)))) rfl⟩
     ·refine aH rfl (ai (i := 0) aq rfl rfl rfl rfl) ?_;show AI _ _ _ _ _ _ #[false, true, true, true, true, true, false, true, true, false, false] _;refine aE (i := 0) (by kernel_rfl) rfl rfl <| bD rfl di rfl (cx F e41) ?_;show AI _ _ _ _ _ _ #[true, true, true, true, true, true, false, true, true, false, false] _;refine zk 6 rfl (bV (i := 2) (k := 1) (c := .v _) bo bz rfl (by kernel_rfl) rfl rfl rfl rfl) ?_;show AI _ _ _ _ _ _ #[true, true, true, true, true, true, true, true, true, false, false] _;refine aE (i := 9) (by kernel_rfl) rfl rfl <| cy [0, 0] rfl (.inr ⟨rfl, rfl, rfl⟩) nz rfl (mZ F o1 2 a3 a4 a5 a6 a7 a8 t9 a10 a11 a12 a13 a14 x42 x43 x44 e45) rfl (fun c A' h => by cases h.1) ?_
      rintro av A' ⟨h, t47, rfl⟩; cases h
      show AI _ _ _ _ _ _ #[true, true, true, true, true, true, true, true, true, true, false] _;refine zk 10 rfl (asg rfl) ?_;show AI _ _ _ _ _ _ #[true, true, true, true, true, true, true, true, true, true, true] _;refine aZ rfl ?_;exact Exists.intro (x42, x43, a3, x44, t47) ⟨H, aY [0, 0] (.cons (.refl _) (.cons (.refl _) (.cons (.refl _) (.nil _)))) rfl⟩
    ·replace H := bb (by decide) H;replace H := bb (by decide) H;replace H := bb (by decide) H;replace H := bk (by decide) H;obtain ⟨_, e48, H⟩ := dG H;obtain ⟨x49, x50, x51, e52, H⟩ := fV H;refine bn (by kernel_rfl) ?_;show AI _ _ _ _ _ 11 (Array.replicate 11 false) _;refine zk 1 rfl (ag (av := .pt _ _) rfl) ?_;show AI _ _ _ _ _ _ #[false, true, false, false, false, false, false, false, false, false, false] _;refine zk 2 rfl (am rfl) ?_;show AI _ _ _ _ _ _ #[false, true, true, false, false, false, false, false, false, false, false] _;refine zk 3 rfl (ah (n := 0) (by kernel_rfl) rfl) ?_;show AI _ _ _ _ _ _ #[false, true, true, true, false, false, false, false, false, false, false] _;refine zk 4 rfl (ah (n := 0) (by kernel_rfl) rfl) ?_;show AI _ _ _ _ _ _ #[false, true, true, true, true, false, false, false, false, false, false] _;refine zk 7 rfl (ag (av := .pt _ _) rfl) ?_;show AI _ _ _ _ _ _ #[false, true, true, true, true, false, false, true, false, false, false] _;refine zk 8 rfl (bt bJ rfl (n := 5) (by kernel_rfl) rfl (ab rfl)) ?_;show AI _ _ _ _ _ _ #[false, true, true, true, true, false, false, true, true, false, false] _;refine cj (i := 0) (j := 5) (by kernel_rfl) rfl rfl rfl rfl ?_ ?_
     ·refine bD rfl di rfl (cx F e48) ?_;show AI _ _ _ _ _ _ #[true, true, true, true, true, false, false, true, true, false, false] _;refine aE (i := 5) (by kernel_rfl) rfl rfl <| aH rfl (ai (i := 0) aq rfl rfl rfl rfl) ?_;show AI _ _ _ _ _ _ #[true, true, true, true, true, true, false, true, true, false, false] _;refine zk 6 rfl (bV (i := 3) (k := 1) (c := .v _) bo bz rfl (by kernel_rfl) rfl rfl rfl rfl) ?_;show AI _ _ _ _ _ _ #[true, true, true, true, true, true, true, true, true, false, false] _;refine aE (i := 9) (by kernel_rfl) rfl rfl <| cy [0, 0] rfl (.inr ⟨rfl, rfl, rfl⟩) ny rfl (mX F o1 3 a3 a4 a5 a6 a7 a8 t9 a10 a11 a12 a13 a14 x49 x50 x51 e52) rfl (fun c A' h => by cases h.1) ?_
      rintro av A' ⟨h, t53, rfl⟩; cases h
      show AI _ _ _ _ _ _ #[true, true, true, true, true, true, true, true, true, true, false] _;refine zk 10 rfl (asg rfl) ?_;show AI _ _ _ _ _ _ #[true, true, true, true, true, true, true, true, true, true, true] _;refine aZ rfl ?_;exact Exists.intro (x49, x50, a3, x51, t53) ⟨H, aY [0, 0] (.cons (.refl _) (.cons (.refl _) (.cons (.refl _) (.nil _)))) rfl⟩
     ·refine aH rfl (ai (i := 0) aq rfl rfl rfl rfl) ?_;show AI _ _ _ _ _ _ #[false, true, true, true, true, true, false, true, true, false, false] _;refine aE (i := 0) (by kernel_rfl) rfl rfl <| bD rfl di rfl (cx F e48) ?_;show AI _ _ _ _ _ _ #[true, true, true, true, true, true, false, true, true, false, false] _;refine zk 6 rfl (bV (i := 3) (k := 1) (c := .v _) bo bz rfl (by kernel_rfl) rfl rfl rfl rfl) ?_;show AI _ _ _ _ _ _ #[true, true, true, true, true, true, true, true, true, false, false] _;refine aE (i := 9) (by kernel_rfl) rfl rfl <| cy [0, 0] rfl (.inr ⟨rfl, rfl, rfl⟩) ny rfl (mX F o1 3 a3 a4 a5 a6 a7 a8 t9 a10 a11 a12 a13 a14 x49 x50 x51 e52) rfl (fun c A' h => by cases h.1) ?_
      rintro av A' ⟨h, t54, rfl⟩; cases h
      show AI _ _ _ _ _ _ #[true, true, true, true, true, true, true, true, true, true, false] _;refine zk 10 rfl (asg rfl) ?_;show AI _ _ _ _ _ _ #[true, true, true, true, true, true, true, true, true, true, true] _;refine aZ rfl ?_;exact Exists.intro (x49, x50, a3, x51, t54) ⟨H, aY [0, 0] (.cons (.refl _) (.cons (.refl _) (.cons (.refl _) (.nil _)))) rfl⟩
    ·replace H := bb (by decide) H;replace H := bb (by decide) H;replace H := bb (by decide) H;replace H := bb (by decide) H;replace H := bk (by decide) H;obtain ⟨_, e55, H⟩ := dG H;obtain ⟨x56, x57, x58, e59, H⟩ := fV H;refine bn (by kernel_rfl) ?_;show AI _ _ _ _ _ 11 (Array.replicate 11 false) _;refine zk 1 rfl (ag (av := .pt _ _) rfl) ?_;show AI _ _ _ _ _ _ #[false, true, false, false, false, false, false, false, false, false, false] _;refine zk 2 rfl (am rfl) ?_;show AI _ _ _ _ _ _ #[false, true, true, false, false, false, false, false, false, false, false] _;refine zk 3 rfl (ah (n := 0) (by kernel_rfl) rfl) ?_;show AI _ _ _ _ _ _ #[false, true, true, true, false, false, false, false, false, false, false] _;refine zk 4 rfl (ah (n := 0) (by kernel_rfl) rfl) ?_;show AI _ _ _ _ _ _ #[false, true, true, true, true, false, false, false, false, false, false] _;refine zk 7 rfl (ag (av := .pt _ _) rfl) ?_;show AI _ _ _ _ _ _ #[false, true, true, true, true, false, false, true, false, false, false] _;refine zk 8 rfl (bt bJ rfl (n := 5) (by kernel_rfl) rfl (ab rfl)) ?_;show AI _ _ _ _ _ _ #[false, true, true, true, true, false, false, true, true, false, false] _;refine cj (i := 0) (j := 5) (by kernel_rfl) rfl rfl rfl rfl ?_ ?_
     ·refine bD rfl di rfl (cx F e55) ?_;show AI _ _ _ _ _ _ #[true, true, true, true, true, false, false, true, true, false, false] _;refine aE (i := 5) (by kernel_rfl) rfl rfl <| aH rfl (ai (i := 0) aq rfl rfl rfl rfl) ?_;show AI _ _ _ _ _ _ #[true, true, true, true, true, true, false, true, true, false, false] _;refine zk 6 rfl (bV (i := 4) (k := 1) (c := .v _) bo bz rfl (by kernel_rfl) rfl rfl rfl rfl) ?_;show AI _ _ _ _ _ _ #[true, true, true, true, true, true, true, true, true, false, false] _;refine aE (i := 9) (by kernel_rfl) rfl rfl <| cy [0, 0] rfl (.inr ⟨rfl, rfl, rfl⟩) nx rfl (nc F o1 4 a3 a4 a5 a6 a7 a8 t9 a10 a11 a12 a13 a14 x56 x57 x58 e59) rfl (fun c A' h => by cases h.1) ?_
      rintro av A' ⟨h, t60, rfl⟩; cases h
      show AI _ _ _ _ _ _ #[true, true, true, true, true, true, true, true, true, true, false] _;refine zk 10 rfl (asg rfl) ?_;show AI _ _ _ _ _ _ #[true, true, true, true, true, true, true, true, true, true, true] _;refine aZ rfl ?_;exact Exists.intro (x56, x57, a3, x58, t60) ⟨H, aY [0, 0] (.cons (.refl _) (.cons (.refl _) (.cons (.refl _) (.nil _)))) rfl⟩
     ·refine aH rfl (ai (i := 0) aq rfl rfl rfl rfl) ?_;show AI _ _ _ _ _ _ #[false, true, true, true, true, true, false, true, true, false, false] _;refine aE (i := 0) (by kernel_rfl) rfl rfl <| bD rfl di rfl (cx F e55) ?_;show AI _ _ _ _ _ _ #[true, true, true, true, true, true, false, true, true, false, false] _;refine zk 6 rfl (bV (i := 4) (k := 1) (c := .v _) bo bz rfl (by kernel_rfl) rfl rfl rfl rfl) ?_;show AI _ _ _ _ _ _ #[true, true, true, true, true, true, true, true, true, false, false] _;refine aE (i := 9) (by kernel_rfl) rfl rfl <| cy [0, 0] rfl (.inr ⟨rfl, rfl, rfl⟩) nx rfl (nc F o1 4 a3 a4 a5 a6 a7 a8 t9 a10 a11 a12 a13 a14 x56 x57 x58 e59) rfl (fun c A' h => by cases h.1) ?_
      rintro av A' ⟨h, t61, rfl⟩; cases h
      show AI _ _ _ _ _ _ #[true, true, true, true, true, true, true, true, true, true, false] _;refine zk 10 rfl (asg rfl) ?_;show AI _ _ _ _ _ _ #[true, true, true, true, true, true, true, true, true, true, true] _;refine aZ rfl ?_;exact Exists.intro (x56, x57, a3, x58, t61) ⟨H, aY [0, 0] (.cons (.refl _) (.cons (.refl _) (.cons (.refl _) (.nil _)))) rfl⟩
    ·replace H := bb (by decide) H;replace H := bb (by decide) H;replace H := bb (by decide) H;replace H := bb (by decide) H;replace H := bb (by decide) H;replace H := bk (by decide) H;obtain ⟨_, e62, H⟩ := dG H;obtain ⟨x63, x64, x65, x66, e67, H⟩ := bnd4_s H;refine bn (by kernel_rfl) ?_;show AI _ _ _ _ _ 11 (Array.replicate 11 false) _;refine zk 1 rfl (ag (av := .pt _ _) rfl) ?_;show AI _ _ _ _ _ _ #[false, true, false, false, false, false, false, false, false, false, false] _;refine zk 2 rfl (am rfl) ?_;show AI _ _ _ _ _ _ #[false, true, true, false, false, false, false, false, false, false, false] _;refine zk 3 rfl (ah (n := 0) (by kernel_rfl) rfl) ?_;show AI _ _ _ _ _ _ #[false, true, true, true, false, false, false, false, false, false, false] _;refine zk 4 rfl (ah (n := 0) (by kernel_rfl) rfl) ?_;show AI _ _ _ _ _ _ #[false, true, true, true, true, false, false, false, false, false, false] _;refine zk 7 rfl (ag (av := .pt _ _) rfl) ?_;show AI _ _ _ _ _ _ #[false, true, true, true, true, false, false, true, false, false, false] _;refine zk 8 rfl (bt bJ rfl (n := 5) (by kernel_rfl) rfl (ab rfl)) ?_;show AI _ _ _ _ _ _ #[false, true, true, true, true, false, false, true, true, false, false] _;refine cj (i := 0) (j := 5) (by kernel_rfl) rfl rfl rfl rfl ?_ ?_
     ·refine bD rfl di rfl (cx F e62) ?_;show AI _ _ _ _ _ _ #[true, true, true, true, true, false, false, true, true, false, false] _;refine aE (i := 5) (by kernel_rfl) rfl rfl <| aH rfl (ai (i := 0) aq rfl rfl rfl rfl) ?_;show AI _ _ _ _ _ _ #[true, true, true, true, true, true, false, true, true, false, false] _;refine zk 6 rfl (bV (i := 5) (k := 1) (c := .v _) bo bz rfl (by kernel_rfl) rfl rfl rfl rfl) ?_;show AI _ _ _ _ _ _ #[true, true, true, true, true, true, true, true, true, false, false] _;refine aE (i := 9) (by kernel_rfl) rfl rfl <| cy [0, 0] rfl (.inr ⟨rfl, rfl, rfl⟩) nw rfl (nd F o1 5 a3 a4 a5 a6 a7 a8 t9 a10 a11 a12 a13 a14 x63 x64 x65 x66 e67) rfl (fun c A' h => by cases h.1) ?_
      rintro av A' ⟨h, t68, rfl⟩; cases h
      show AI _ _ _ _ _ _ #[true, true, true, true, true, true, true, true, true, true, false] _;refine zk 10 rfl (asg rfl) ?_;show AI _ _ _ _ _ _ #[true, true, true, true, true, true, true, true, true, true, true] _;refine aZ rfl ?_;exact Exists.intro (x63, x64, x65, x66, t68) ⟨H, aY [0, 0] (.cons (.refl _) (.cons (.refl _) (.cons (.refl _) (.nil _)))) rfl⟩
     ·refine aH rfl (ai (i := 0) aq rfl rfl rfl rfl) ?_;show AI _ _ _ _ _ _ #[false, true, true, true, true, true, false, true, true, false, false] _;refine aE (i := 0) (by kernel_rfl) rfl rfl <| bD rfl di rfl (cx F e62) ?_;show AI _ _ _ _ _ _ #[true, true, true, true, true, true, false, true, true, false, false] _;refine zk 6 rfl (bV (i := 5) (k := 1) (c := .v _) bo bz rfl (by kernel_rfl) rfl rfl rfl rfl) ?_;show AI _ _ _ _ _ _ #[true, true, true, true, true, true, true, true, true, false, false] _;refine aE (i := 9) (by kernel_rfl) rfl rfl <| cy [0, 0] rfl (.inr ⟨rfl, rfl, rfl⟩) nw rfl (nd F o1 5 a3 a4 a5 a6 a7 a8 t9 a10 a11 a12 a13 a14 x63 x64 x65 x66 e67) rfl (fun c A' h => by cases h.1) ?_
      rintro av A' ⟨h, t69, rfl⟩; cases h
      show AI _ _ _ _ _ _ #[true, true, true, true, true, true, true, true, true, true, false] _;refine zk 10 rfl (asg rfl) ?_;show AI _ _ _ _ _ _ #[true, true, true, true, true, true, true, true, true, true, true] _;refine aZ rfl ?_;exact Exists.intro (x63, x64, x65, x66, t69) ⟨H, aY [0, 0] (.cons (.refl _) (.cons (.refl _) (.cons (.refl _) (.nil _)))) rfl⟩
    ·replace H := bb (by decide) H;replace H := bb (by decide) H;replace H := bb (by decide) H;replace H := bb (by decide) H;replace H := bb (by decide) H;replace H := bb (by decide) H;obtain ⟨_, e70, H⟩ := dG H;obtain ⟨x71, x72, e73, H⟩ := dL H;refine bn (by kernel_rfl) ?_;show AI _ _ _ _ _ 11 (Array.replicate 11 false) _;refine zk 1 rfl (ag (av := .pt _ _) rfl) ?_;show AI _ _ _ _ _ _ #[false, true, false, false, false, false, false, false, false, false, false] _;refine zk 2 rfl (am rfl) ?_;show AI _ _ _ _ _ _ #[false, true, true, false, false, false, false, false, false, false, false] _;refine zk 3 rfl (ah (n := 0) (by kernel_rfl) rfl) ?_;show AI _ _ _ _ _ _ #[false, true, true, true, false, false, false, false, false, false, false] _;refine zk 4 rfl (ah (n := 0) (by kernel_rfl) rfl) ?_;show AI _ _ _ _ _ _ #[false, true, true, true, true, false, false, false, false, false, false] _;refine zk 7 rfl (ag (av := .pt _ _) rfl) ?_;show AI _ _ _ _ _ _ #[false, true, true, true, true, false, false, true, false, false, false] _;refine zk 8 rfl (bt bJ rfl (n := 5) (by kernel_rfl) rfl (ab rfl)) ?_;show AI _ _ _ _ _ _ #[false, true, true, true, true, false, false, true, true, false, false] _;refine cj (i := 0) (j := 5) (by kernel_rfl) rfl rfl rfl rfl ?_ ?_
     ·refine bD rfl di rfl (cx F e70) ?_;show AI _ _ _ _ _ _ #[true, true, true, true, true, false, false, true, true, false, false] _;refine aE (i := 5) (by kernel_rfl) rfl rfl <| aH rfl (ai (i := 0) aq rfl rfl rfl rfl) ?_;show AI _ _ _ _ _ _ #[true, true, true, true, true, true, false, true, true, false, false] _;refine zk 6 rfl (bV (i := 6) (k := 1) (c := .v _) bo bz rfl (by kernel_rfl) rfl rfl rfl rfl) ?_;show AI _ _ _ _ _ _ #[true, true, true, true, true, true, true, true, true, false, false] _;refine aE (i := 9) (by kernel_rfl) rfl rfl <| cy [0, 0] rfl (.inr ⟨rfl, rfl, rfl⟩) nv rfl (mY F o1 6 a3 a4 a5 a6 a7 a8 t9 a10 a11 a12 a13 a14 x71 x72 e73) rfl (fun c A' h => by cases h.1) ?_
      rintro av A' ⟨h, rfl⟩; cases h
      show AI _ _ _ _ _ _ #[true, true, true, true, true, true, true, true, true, true, false] _;refine zk 10 rfl (asg rfl) ?_;show AI _ _ _ _ _ _ #[true, true, true, true, true, true, true, true, true, true, true] _;refine aZ rfl ?_;exact Exists.intro (x71, x72, a3, a8, t9) ⟨H, aY [0, 0] (.cons (.refl _) (.cons (.refl _) (.cons (.refl _) (.nil _)))) rfl⟩
     ·refine aH rfl (ai (i := 0) aq rfl rfl rfl rfl) ?_;show AI _ _ _ _ _ _ #[false, true, true, true, true, true, false, true, true, false, false] _;refine aE (i := 0) (by kernel_rfl) rfl rfl <| bD rfl di rfl (cx F e70) ?_;show AI _ _ _ _ _ _ #[true, true, true, true, true, true, false, true, true, false, false] _;refine zk 6 rfl (bV (i := 6) (k := 1) (c := .v _) bo bz rfl (by kernel_rfl) rfl rfl rfl rfl) ?_;show AI _ _ _ _ _ _ #[true, true, true, true, true, true, true, true, true, false, false] _;refine aE (i := 9) (by kernel_rfl) rfl rfl <| cy [0, 0] rfl (.inr ⟨rfl, rfl, rfl⟩) nv rfl (mY F o1 6 a3 a4 a5 a6 a7 a8 t9 a10 a11 a12 a13 a14 x71 x72 e73) rfl (fun c A' h => by cases h.1) ?_
      rintro av A' ⟨h, rfl⟩; cases h
      show AI _ _ _ _ _ _ #[true, true, true, true, true, true, true, true, true, true, false] _;refine zk 10 rfl (asg rfl) ?_;show AI _ _ _ _ _ _ #[true, true, true, true, true, true, true, true, true, true, true] _;refine aZ rfl ?_;exact Exists.intro (x71, x72, a3, a8, t9) ⟨H, aY [0, 0] (.cons (.refl _) (.cons (.refl _) (.cons (.refl _) (.nil _)))) rfl⟩
   rintro ⟨y74, y75, y76, y77, t78⟩ H;replace H : cI F a4 a5 a6 a7 a10 y74 y75 y76 y77 = some (r15, r16, r17) := H
   unfold cI at H
   refine aG rfl (fun c80 => ?_) (fun c80 => ?_)
   ·replace H := bk c80 H;refine aM ?_;obtain ⟨rfl, rfl, rfl⟩ := gC H;exact And.intro rfl (Exists.intro _ (Exists.intro _ ⟨bc rfl, aL [0, 0] rfl, rfl, t78, rfl⟩))
   ·replace H := bb c80 H;refine aj <| ac ?_;show AR _ _ _ _ _ [0, 1, 2, 3, 4, 5, 6, 7, 8] _;refine zS rfl (be (n := 0) (by kernel_rfl) rfl (ab rfl)) <| zS rfl (aI aq rfl rfl) <| zS rfl (ff rfl rfl) <| zm rfl <| aN (l := [8]) 46 (B ((decide (500 ≤ a10)) && (decide (a10 ≤ 599)))) (fun K => ?_) ?_
    ·rcases af (decide (500 ≤ a10)) with h81 | h81
     ·refine zU h81 rfl (be (n := 0) (by kernel_rfl) rfl (ab rfl)) <| zU h81 rfl (aI aq rfl rfl) <| zU h81 rfl (dU rfl rfl) <| zS rfl (ax (av := .v _) rfl h81 rfl) ?_;exact K _ 3 _ (ap (bZ h81)) rfl rfl
     ·refine zF h81 rfl <| zF h81 rfl <| zF h81 rfl <| zS rfl (aw (av := .v _) rfl h81 rfl) ?_;exact K _ 3 _ (ap (ca h81)) rfl rfl
    refine za rfl <| ak <| aG rfl (fun c82 => ?_) (fun c82 => ?_)
    ·replace H := bk c82 H;obtain ⟨x83, x84, x85, e86, H⟩ := fV H;refine ac ?_;show AR _ _ _ _ _ [0, 1] _;refine zS rfl (ag (av := .pt _ _) rfl) <| ao rfl rfl (co [0, 0] rfl jx rfl (jt F o1 y75 y76 a4 a5 a6 a7 y77 t78 3 x83 x84 x85 e86) rfl (fun c A' h => by cases h.1) ?_)
     rintro av A' ⟨h, t87, rfl⟩; cases h
     refine ak ?_;obtain ⟨rfl, rfl, rfl⟩ := gC H;exact And.intro rfl (Exists.intro _ (Exists.intro _ ⟨bc rfl, aL [0, 0] rfl, rfl, t87, rfl⟩))
    ·replace H := bb c82 H;obtain ⟨x88, x89, x90, e91, H⟩ := fV H;refine ac ?_;show AR _ _ _ _ _ [0, 1] _;refine zS rfl (ag (av := .pt _ _) rfl) <| ao rfl rfl (co [0, 0] rfl jx rfl (jt F o1 y75 y76 a4 a5 a6 a7 y77 t78 2 x88 x89 x90 e91) rfl (fun c A' h => by cases h.1) ?_)
     rintro av A' ⟨h, t92, rfl⟩; cases h
     refine ak ?_;obtain ⟨rfl, rfl, rfl⟩ := gC H;exact And.intro rfl (Exists.intro _ (Exists.intro _ ⟨bc rfl, aL [0, 0] rfl, rfl, t92, rfl⟩))
set_option maxRecDepth 100000 in
set_option maxHeartbeats 1000000 in
theorem me (F : Nat) (a1 : Int) (a2 : Int) (a3 : List UInt8) (a4 : List UInt8) (a5 : List UInt8) (a6 : List UInt8) (H : jr F a1 a2 a3 a4 a5 a6 = some ()) : ACalls Tryz.prog 34 [.agg [i64 a1, i64 a2, S a3, S a4, S a5, slE Enc.byte a6 none]] [] (fun e A' => ∃ ob1 : Nat, e = .ret (.pt ob1 0) ∧ A' = [.obj ob1 [i64 a1, i64 a2, S a3, S a4, S a5, slE Enc.byte a6 none, gu]]) := by
 unfold jr at H
 refine aA Tryz.func34 rfl rfl ?_;show AW _ _ 10 _ _ _;refine aj <| ac ?_;show AR _ _ _ _ _ [0, 1] _;refine zX rfl (jH rfl (.inr ⟨_, rfl⟩)) ?_;rintro _ _ ⟨o7, rfl, rfl⟩;refine za rfl <| ak <| aj ?_;obtain ⟨g8, H⟩ := aX H;refine ac ?_;show AR _ _ _ _ _ [0, 1, 2, 3, 4] _;refine zS rfl (ah (n := 5) (by kernel_rfl) rfl) <| zR rfl (ai (i := 0) aa rfl rfl rfl rfl) <| ao rfl rfl (aQ rfl nJ rfl (je a6 none (dV g8)) ?_);refine zS rfl (ah (n := 5) (by kernel_rfl) rfl) <| s0 rfl rfl (ar (i := 0) (c := slE _ _ _) (by kernel_rfl) rfl rfl rfl rfl (ab rfl)) <| ak <| aj <| ac ?_;show AR _ _ _ _ _ [0, 1, 2, 3] _;refine zR rfl (bR (i := 0) (n := 6) aO rfl (by kernel_rfl) rfl rfl (ab rfl)) <| zS rfl (fR (zs := [.int .i64 0, .int .i64 0, .string ⟨#[]⟩, .string ⟨#[]⟩, .string ⟨#[]⟩, .slice none 0 0, .slice none 0 0]) (ps := [(0, 6), (6, 1)]) (cs := [i64 a1, i64 a2, S a3, S a4, S a5, slE Enc.byte a6 none, gu]) (by kernel_rfl) rfl rfl) <| zX rfl (jH rfl (.inr ⟨_, rfl⟩)) ?_;rintro _ _ ⟨o9, rfl, rfl⟩;refine zS rfl (ay (av := .pt _ _) rfl) <| ak <| aR ?_;exact And.intro rfl (Exists.intro _ (Exists.intro _ ⟨aV rfl (.refl _), aL [0] rfl, o9, rfl, rfl⟩))
set_option maxRecDepth 100000 in
set_option maxHeartbeats 1000000 in
theorem fA (F : Nat) (a1 : Int) (a2 : Int) (a3 : List UInt8) (a4 : List UInt8) (a5 : List UInt8) (a6 : List UInt8) (a7 : Int) (a8 : List (List UInt8)) (a9 : Int) (a10 : Int) (a11 : Int) (r12 : Int) (r13 : Int) (r14 : List UInt8) (r15 : List UInt8) (r16 : List UInt8) (r17 : List UInt8) (r18 : List UInt8) (H : kS F a1 a2 a3 a4 a5 a6 a7 a8 a9 a10 a11 = some (r12, r13, r14, r15, r16, r17, r18)) : ACalls Tryz.prog 18 [.agg [i64 a1, i64 a2, S a3, S a4, S a5, slE Enc.byte a6 none], .agg [i64 a7, slE Enc.str a8 none, i64 a9, i64 a10, i64 a11]] [] (Ret (.tup [.agg [i64 r12, i64 r13, S r14, S r15, S r16, slE Enc.byte r17 none], slE Enc.byte r18 none]) []) := by
 unfold kS at H
 refine aA Tryz.func18 rfl rfl ?_;show AW _ _ 20 _ _ _;refine aj <| ac ?_;show AR _ _ _ _ _ [0, 1, 2, 3] _;refine zR rfl (cM rfl (.inr ⟨_, rfl⟩)) <| zR rfl (cM rfl (.inr ⟨_, rfl⟩)) <| zX rfl (bQ (zs := [.int .i64 0, .int .i64 0, .string ⟨#[]⟩, .string ⟨#[]⟩, .string ⟨#[]⟩, .slice none 0 0]) (by kernel_rfl)) ?_;rintro _ _ ⟨o19, rfl, rfl⟩;refine za rfl <| ak <| aj ?_;obtain ⟨_, e20, H⟩ := dG H;refine ac ?_;show AR _ _ _ _ _ [0, 1, 2] _;refine zS rfl (bt aO rfl (n := 6) (by kernel_rfl) rfl (ab rfl)) <| ao rfl rfl (co [] rfl nI rfl (me F a1 a2 a3 a4 a5 a6 e20) rfl (fun c A' h => by obtain ⟨_, h, _⟩ := h; cases h) ?_)
 rintro av A' ⟨o21, h, rfl⟩; cases h
 refine zS rfl (ay (av := .pt _ _) rfl) <| ak <| aj ?_;obtain ⟨x23, x24, x25, e26, H⟩ := fV H;refine ac ?_;show AR _ _ _ _ _ [0, 1, 2] _;refine zS rfl (ag (av := .pt _ _) rfl) <| zS rfl (bt bJ rfl (n := 5) (by kernel_rfl) rfl (ab rfl)) ?_
 refine AR.nil_objAt 0 6 1 5 rfl rfl fun t22 => ?_
 show AR _ _ _ _ _ _ ⟨_, _, [.tok t22 5, .obj o21 [i64 a1, i64 a2, S a3, S a4, S a5, slE Enc.byte a6 none, slE Enc.byte [] (some t22)], .obj o19 [i64 0, i64 0, S ([] : List UInt8), S ([] : List UInt8), S ([] : List UInt8), gu]]⟩;refine ao rfl rfl (co [1, 0] rfl nH rfl (mW F o21 a1 a2 a3 a4 a5 a6 [] t22 a7 a8 a9 a10 a11 x23 x24 x25 e26) rfl (fun c A' h => by cases h.1) ?_)
 rintro av A' ⟨h, t27, rfl⟩; cases h
 refine ak <| aj <| bn (by kernel_rfl) ?_;show AI _ _ _ _ _ 10 (Array.replicate 10 false) _;refine zk 0 rfl (ag (av := .pt _ _) rfl) ?_;show AI _ _ _ _ _ _ #[true, false, false, false, false, false, false, false, false, false] _;refine zk 1 rfl (am rfl) ?_;show AI _ _ _ _ _ _ #[true, true, false, false, false, false, false, false, false, false] _;refine zk 2 rfl (ah (n := 0) (by kernel_rfl) rfl) ?_;show AI _ _ _ _ _ _ #[true, true, true, false, false, false, false, false, false, false] _;refine zk 4 rfl (ag (av := .pt _ _) rfl) ?_;show AI _ _ _ _ _ _ #[true, true, true, false, true, false, false, false, false, false] _;refine zk 5 rfl (am rfl) ?_;show AI _ _ _ _ _ _ #[true, true, true, false, true, true, false, false, false, false] _;refine zk 6 rfl (ah (n := 6) (by kernel_rfl) rfl) ?_;show AI _ _ _ _ _ _ #[true, true, true, false, true, true, true, false, false, false] _;refine cj (i := 3) (j := 7) (by kernel_rfl) rfl rfl rfl rfl ?_ ?_
 ·refine aH rfl (bR (i := 0) (n := 6) aO rfl (by kernel_rfl) rfl rfl (ab rfl)) ?_;show AI _ _ _ _ _ _ #[true, true, true, true, true, true, true, false, false, false] _;refine cj (i := 7) (j := 8) (by kernel_rfl) rfl rfl rfl rfl ?_ ?_
  ·refine aH rfl (ai (i := 0) aa rfl rfl rfl rfl) ?_;show AI _ _ _ _ _ _ #[true, true, true, true, true, true, true, true, false, false] _;refine aE (i := 8) (by kernel_rfl) rfl rfl <| bE (aP (i := 2) (vs := [i64 x23, i64 x24, S a3, S a4, S a5, slE Enc.byte a6 none]) (by kernel_rfl) rfl rfl (by simp [bw, slE]) rfl (ab rfl)) ?_;show AI _ _ _ _ _ _ #[true, true, true, true, true, true, true, true, true, false] _;refine zk 9 rfl (ay (av := slE _ _ _) rfl) ?_;show AI _ _ _ _ _ _ #[true, true, true, true, true, true, true, true, true, true] _;refine aZ rfl <| aR ?_;obtain ⟨rfl, rfl, rfl, rfl, rfl, rfl, rfl⟩ := res7 H;exact And.intro rfl (Exists.intro _ (Exists.intro _ ⟨dD (ed rfl (dI (off := 0) (cs := [i64 x23, i64 x24, S a3, S a4, S a5, slE Enc.byte a6 none]) (n := 6) 2 aO rfl (by kernel_rfl) rfl rfl (ab rfl)) ((show PlaceV _ _ _ (.tmp _) _ from (.tok _ _ _)))), aL [] rfl, rfl, rfl⟩))
  ·refine bE (aP (i := 2) (vs := [i64 x23, i64 x24, S a3, S a4, S a5, slE Enc.byte a6 none]) (by kernel_rfl) rfl rfl (by simp [bw, slE]) rfl (ab rfl)) ?_;show AI _ _ _ _ _ _ #[true, true, true, true, true, true, true, false, true, false] _;refine aE (i := 7) (by kernel_rfl) rfl rfl <| aH rfl (ai (i := 0) aa rfl rfl rfl rfl) ?_;show AI _ _ _ _ _ _ #[true, true, true, true, true, true, true, true, true, false] _;refine zk 9 rfl (ay (av := slE _ _ _) rfl) ?_;show AI _ _ _ _ _ _ #[true, true, true, true, true, true, true, true, true, true] _;refine aZ rfl <| aR ?_;obtain ⟨rfl, rfl, rfl, rfl, rfl, rfl, rfl⟩ := res7 H;exact And.intro rfl (Exists.intro _ (Exists.intro _ ⟨dD (ed rfl (dI (off := 0) (cs := [i64 x23, i64 x24, S a3, S a4, S a5, slE Enc.byte a6 none]) (n := 6) 2 aO rfl (by kernel_rfl) rfl rfl (ab rfl)) ((show PlaceV _ _ _ (.tmp _) _ from (.tok _ _ _)))), aL [] rfl, rfl, rfl⟩))
 ·refine aH rfl (ai (i := 0) aa rfl rfl rfl rfl) ?_;show AI _ _ _ _ _ _ #[true, true, true, false, true, true, true, true, false, false] _;refine aE (i := 3) (by kernel_rfl) rfl rfl <| aH rfl (bR (i := 0) (n := 6) aO rfl (by kernel_rfl) rfl rfl (ab rfl)) ?_;show AI _ _ _ _ _ _ #[true, true, true, true, true, true, true, true, false, false] _;refine aE (i := 8) (by kernel_rfl) rfl rfl <| bE (aP (i := 2) (vs := [i64 x23, i64 x24, S a3, S a4, S a5, slE Enc.byte a6 none]) (by kernel_rfl) rfl rfl (by simp [bw, slE]) rfl (ab rfl)) ?_;show AI _ _ _ _ _ _ #[true, true, true, true, true, true, true, true, true, false] _;refine zk 9 rfl (ay (av := slE _ _ _) rfl) ?_;show AI _ _ _ _ _ _ #[true, true, true, true, true, true, true, true, true, true] _;refine aZ rfl <| aR ?_;obtain ⟨rfl, rfl, rfl, rfl, rfl, rfl, rfl⟩ := res7 H;exact And.intro rfl (Exists.intro _ (Exists.intro _ ⟨dD (ed rfl (dI (off := 0) (cs := [i64 x23, i64 x24, S a3, S a4, S a5, slE Enc.byte a6 none]) (n := 6) 2 aO rfl (by kernel_rfl) rfl rfl (ab rfl)) ((show PlaceV _ _ _ (.tmp _) _ from (.tok _ _ _)))), aL [] rfl, rfl, rfl⟩))
set_option maxRecDepth 100000 in
set_option maxHeartbeats 1000000 in
theorem mw (F : Nat) (a1 : Int) (a2 : Int) (a3 : List UInt8) (a4 : List UInt8) (a5 : List UInt8) (a6 : List UInt8) (a7 : List UInt8) (q8 : Option Nat) (r9 : Int) (r10 : Int) (r11 : List UInt8) (r12 : List UInt8) (r13 : List UInt8) (r14 : List UInt8) (r15 : List UInt8) (H : qm F a1 a2 a3 a4 a5 a6 a7 = some (r9, r10, r11, r12, r13, r14, r15)) : ACalls Tryz.prog 15 [.agg [i64 a1, i64 a2, S a3, S a4, S a5, slE Enc.byte a6 none], slE Enc.byte a7 q8] [] (Ret (.tup [.agg [i64 r9, i64 r10, S r11, S r12, S r13, slE Enc.byte r14 none], slE Enc.byte r15 none]) []) := by
 unfold qm at H
 refine aA Tryz.func15 rfl rfl ?_;show AW _ _ 39 _ _ _;refine aj <| ac ?_;show AR _ _ _ _ _ [0, 1, 2] _;refine zR rfl (cM rfl (.inr ⟨_, rfl⟩)) <| zX rfl (bQ (zs := [.int .i64 0, .int .i64 0, .string ⟨#[]⟩, .string ⟨#[]⟩, .string ⟨#[]⟩, .slice none 0 0]) (by kernel_rfl)) ?_;rintro _ _ ⟨o16, rfl, rfl⟩;refine za rfl <| ak <| aj ?_;obtain ⟨_, e17, H⟩ := dG H;refine ac ?_;show AR _ _ _ _ _ [0, 1, 2] _;refine zS rfl (bt aO rfl (n := 6) (by kernel_rfl) rfl (ab rfl)) <| ao rfl rfl (co [] rfl nI rfl (me F a1 a2 a3 a4 a5 a6 e17) rfl (fun c A' h => by obtain ⟨_, h, _⟩ := h; cases h) ?_)
 rintro av A' ⟨o18, h, rfl⟩; cases h
 refine zS rfl (ay (av := .pt _ _) rfl) <| ak ?_
 refine AW.nil_objAt 0 6 1 5 rfl rfl fun t19 => ?_
 show AW _ _ _ _ _ ⟨_, _, [.tok t19 5, .obj o18 [i64 a1, i64 a2, S a3, S a4, S a5, slE Enc.byte a6 none, slE Enc.byte [] (some t19)], .obj o16 [i64 0, i64 0, S ([] : List UInt8), S ([] : List UInt8), S ([] : List UInt8), gu]]⟩;refine bX (X := Int × Int × (List UInt8) × Nat) (fun (y46, y47, y48, t49) => ⟨[(4, .pt o16 0), (6, .pt o18 0)], [], [.obj o18 [i64 y46, i64 y47, S a3, S a4, S a5, slE Enc.byte a6 none, slE Enc.byte y48 (some t49)], .obj o16 [i64 0, i64 0, S ([] : List UInt8), S ([] : List UInt8), S ([] : List UInt8), gu], .tok t49 5]⟩) (fun (y46, y47, y48, t49) => jz F a3 a4 a5 a6 y46 y47 y48 = some (r9, r10, r11, r12, r13, r14, r15)) ?_ ?_
 ·refine aj ?_;obtain ⟨_, e20, H⟩ := dG H;obtain ⟨x23, x24, x25, e26, H⟩ := fV H;refine ac ?_;show AR _ _ _ _ _ [0, 1, 2, 3, 4] _;refine ao rfl rfl (co [] rfl rq rfl (qJ F e20) rfl (fun c A' h => by obtain ⟨_, h, _⟩ := h; cases h) ?_)
  rintro av A' ⟨o21, h, rfl⟩; cases h
  refine zS rfl (ag (av := slE _ _ _) rfl) ?_
  refine AR.nil_objAt 0 0 1 5 rfl rfl fun t22 => ?_
  show AR _ _ _ _ _ _ ⟨_, _, [.tok t22 5, .obj o21 [slE Enc.byte [] (some t22), B false], .tok t19 5, .obj o18 [i64 a1, i64 a2, S a3, S a4, S a5, slE Enc.byte a6 none, slE Enc.byte [] (some t19)], .obj o16 [i64 0, i64 0, S ([] : List UInt8), S ([] : List UInt8), S ([] : List UInt8), gu]]⟩;refine ao rfl rfl (co [1, 0] rfl rn rfl (qI F o21 [] t22 false a7 q8 x23 x24 x25 e26) rfl (fun c A' h => by cases h.1) ?_)
  rintro av A' ⟨h, t27, rfl⟩; cases h
  refine zS rfl (aU cg rfl) <| zm rfl <| ak <| bi <| dC (X := Nat × Int × Int × Int × (List UInt8) × Nat) (fun (n34, y28, y29, y30, y31, t32) => ⟨[(4, .pt o16 0), (6, .pt o18 0), (13, slE (aD Enc.int (aD (Enc.sl Enc.str) (aD Enc.int (aD Enc.int Enc.int)))) x23 none), (14, i64 (x23.length : Int)), (15, i64 y28)], [], [.obj o18 [i64 y29, i64 y30, S a3, S a4, S a5, slE Enc.byte a6 none, slE Enc.byte y31 (some t32)], .obj o16 [i64 0, i64 0, S ([] : List UInt8), S ([] : List UInt8), S ([] : List UInt8), gu], .tok t32 5]⟩) (fun (n34, y28, y29, y30, y31, t32) => lh F a3 a4 a5 a6 x23 n34 (y28, y29, y30, y31) = some (r9, r10, r11, r12, r13, r14, r15)) (fun (n34, y28, y29, y30, y31, t32) => n34) (F, 0, a1, a2, [], t19) H (aY [3, 3, 2] (.cons (.refl _) (.cons (.refl _) (.cons (.refl _) (.cons (.refl _) (.cons (.refl _) (.nil _)))))) rfl) ?_;rintro ⟨n34, y28, y29, y30, y31, t32⟩ H;obtain ⟨n34, rfl, H⟩ := fg H;replace H : li F a3 a4 a5 a6 x23 (lh F a3 a4 a5 a6 x23 n34) y28 y29 y30 y31 = some (r9, r10, r11, r12, r13, r14, r15) := H
  unfold li at H
  refine aj <| ac ?_;show AR _ _ _ _ _ [0] _;refine zS rfl (cf rfl rfl) <| ak <| aj <| aG rfl (fun c35 => ?_) (fun c35 => ?_)
  ·replace H := bk c35 H;refine aM <| aj <| bi <| aj ?_;obtain ⟨g36, H⟩ := aX H;obtain ⟨x37, e38, H⟩ := cc H;refine ac ?_;show AR _ _ _ _ _ [0, 1, 2, 3] _;refine zS rfl (bq (E := (aD Enc.int (aD (Enc.sl Enc.str) (aD Enc.int (aD Enc.int Enc.int))))) cg (by kernel_rfl) rfl rfl g36 e38) <| zS rfl (bt bJ rfl (n := 5) (by kernel_rfl) rfl (ab rfl)) <| zX rfl (bQ (zs := [.int .i64 0, .slice none 0 0, .int .i64 0, .int .i64 0, .int .i64 0]) (by kernel_rfl)) ?_;rintro _ _ ⟨o39, rfl, rfl⟩;refine s0 rfl rfl (aP (i := 0) (vs := [i64 x37.1, slE Enc.str x37.2.1 none, i64 x37.2.2.1, i64 x37.2.2.2.1, i64 x37.2.2.2.2]) (by kernel_rfl) rfl rfl (by simp [bw, slE]) rfl (ab rfl)) <| AR.freezeCp 8 0 rfl rfl ?_;show AR _ _ _ _ _ _ ⟨_, _, [.obj o18 [i64 y29, i64 y30, S a3, S a4, S a5, slE Enc.byte a6 none, slE Enc.byte y31 (some t32)], .obj o16 [i64 0, i64 0, S ([] : List UInt8), S ([] : List UInt8), S ([] : List UInt8), gu], .tok t32 5]⟩;refine ak ?_;obtain ⟨x40, x41, x42, e43, H⟩ := fV H;refine ac ?_;show AR _ _ _ _ _ [0, 1, 2] _;refine zS rfl (ag (av := .pt _ _) rfl) <| zS rfl (bt bJ rfl (n := 5) (by kernel_rfl) rfl (ab rfl)) <| ao rfl rfl (co [0, 1] rfl nH rfl (mW F o18 y29 y30 a3 a4 a5 a6 y31 t32 x37.1 x37.2.1 x37.2.2.1 x37.2.2.2.1 x37.2.2.2.2 x40 x41 x42 e43) rfl (fun c A' h => by cases h.1) ?_)
   rintro av A' ⟨h, t44, rfl⟩; cases h
   refine ak ?_;obtain ⟨g45, H⟩ := aX H;refine ac ?_;show AR _ _ _ _ _ [0, 1] _;refine zS rfl (eZ rfl rfl g45) <| zm rfl <| ak ?_;exact Exists.intro (n34, y28 + 1, x40, x41, x42, t44) ⟨H, Nat.lt_succ_self _, aY [0, 1, 0] (.cons (.refl _) (.cons (.refl _) (.cons (.refl _) (.cons (.refl _) (.cons (.refl _) (.nil _)))))) rfl⟩
  ·replace H := bb c35 H;refine dk ?_;exact Exists.intro (y29, y30, y31, t32) ⟨H, aY [0, 0, 0] (.cons (.refl _) (.cons (.refl _) (.nil _))) rfl⟩
 rintro ⟨y46, y47, y48, t49⟩ H;replace H : jz F a3 a4 a5 a6 y46 y47 y48 = some (r9, r10, r11, r12, r13, r14, r15) := H
 unfold jz at H
 refine bX (X := Int × Int) (fun (y55, y56) => ⟨[(4, .pt o16 0), (6, .pt o18 0)], [], [.obj o18 [i64 y55, i64 y56, S a3, S a4, S a5, slE Enc.byte a6 none, slE Enc.byte y48 (some t49)], .obj o16 [i64 0, i64 0, S ([] : List UInt8), S ([] : List UInt8), S ([] : List UInt8), gu], .tok t49 5]⟩) (fun (y55, y56) => iu a3 a4 a5 a6 y48 y55 y56 = some (r9, r10, r11, r12, r13, r14, r15)) ?_ ?_
 ·refine aj <| ac ?_;show AR _ _ _ _ _ [0, 1, 2, 3, 4, 5] _;refine zS rfl (ag (av := .pt _ _) rfl) <| zS rfl (am rfl) <| zS rfl (ah (n := 0) (by kernel_rfl) rfl) <| zS rfl (ah (n := 0) (by kernel_rfl) rfl) <| zR rfl (ai (i := 0) aq rfl rfl rfl rfl) <| zS rfl (eE rfl rfl) <| ak <| aG rfl (fun c51 => ?_) (fun c51 => ?_)
  ·replace H := bk c51 H;obtain ⟨x52, x53, e54, H⟩ := dL H;refine ac ?_;show AR _ _ _ _ _ [0, 1] _;refine zS rfl (ag (av := .pt _ _) rfl) <| ao rfl rfl (co [0, 1] rfl nG rfl (na F o18 y46 y47 a3 a4 a5 a6 y48 t49 x52 x53 e54) rfl (fun c A' h => by cases h.1) ?_)
   rintro av A' ⟨h, rfl⟩; cases h
   refine ak ?_;exact Exists.intro (x52, x53) ⟨H, aY [0, 1, 0] (.cons (.refl _) (.cons (.refl _) (.nil _))) rfl⟩
  ·replace H := bb c51 H;refine aM ?_;exact Exists.intro (y46, y47) ⟨H, aY [0, 0, 0] (.cons (.refl _) (.cons (.refl _) (.nil _))) rfl⟩
 rintro ⟨y55, y56⟩ H;replace H : iu a3 a4 a5 a6 y48 y55 y56 = some (r9, r10, r11, r12, r13, r14, r15) := H
 unfold iu at H
 refine aj <| bn (by kernel_rfl) ?_;show AI _ _ _ _ _ 10 (Array.replicate 10 false) _;refine zk 0 rfl (ag (av := .pt _ _) rfl) ?_;show AI _ _ _ _ _ _ #[true, false, false, false, false, false, false, false, false, false] _;refine zk 1 rfl (am rfl) ?_;show AI _ _ _ _ _ _ #[true, true, false, false, false, false, false, false, false, false] _;refine zk 2 rfl (ah (n := 0) (by kernel_rfl) rfl) ?_;show AI _ _ _ _ _ _ #[true, true, true, false, false, false, false, false, false, false] _;refine zk 4 rfl (ag (av := .pt _ _) rfl) ?_;show AI _ _ _ _ _ _ #[true, true, true, false, true, false, false, false, false, false] _;refine zk 5 rfl (am rfl) ?_;show AI _ _ _ _ _ _ #[true, true, true, false, true, true, false, false, false, false] _;refine zk 6 rfl (ah (n := 6) (by kernel_rfl) rfl) ?_;show AI _ _ _ _ _ _ #[true, true, true, false, true, true, true, false, false, false] _;refine cj (i := 3) (j := 7) (by kernel_rfl) rfl rfl rfl rfl ?_ ?_
 ·refine aH rfl (bR (i := 0) (n := 6) aO rfl (by kernel_rfl) rfl rfl (ab rfl)) ?_;show AI _ _ _ _ _ _ #[true, true, true, true, true, true, true, false, false, false] _;refine cj (i := 7) (j := 8) (by kernel_rfl) rfl rfl rfl rfl ?_ ?_
  ·refine aH rfl (ai (i := 0) aa rfl rfl rfl rfl) ?_;show AI _ _ _ _ _ _ #[true, true, true, true, true, true, true, true, false, false] _;refine aE (i := 8) (by kernel_rfl) rfl rfl <| bE (aP (i := 1) (vs := [i64 y55, i64 y56, S a3, S a4, S a5, slE Enc.byte a6 none]) (by kernel_rfl) rfl rfl (by simp [bw, slE]) rfl (ab rfl)) ?_;show AI _ _ _ _ _ _ #[true, true, true, true, true, true, true, true, true, false] _;refine zk 9 rfl (ay (av := slE _ _ _) rfl) ?_;show AI _ _ _ _ _ _ #[true, true, true, true, true, true, true, true, true, true] _;refine aZ rfl <| aR ?_;obtain ⟨rfl, rfl, rfl, rfl, rfl, rfl, rfl⟩ := res7 H;exact And.intro rfl (Exists.intro _ (Exists.intro _ ⟨dD (ed rfl (dI (off := 0) (cs := [i64 y55, i64 y56, S a3, S a4, S a5, slE Enc.byte a6 none]) (n := 6) 1 aO rfl (by kernel_rfl) rfl rfl (ab rfl)) ((show PlaceV _ _ _ (.tmp _) _ from (.tok _ _ _)))), aL [] rfl, rfl, rfl⟩))
  ·refine bE (aP (i := 1) (vs := [i64 y55, i64 y56, S a3, S a4, S a5, slE Enc.byte a6 none]) (by kernel_rfl) rfl rfl (by simp [bw, slE]) rfl (ab rfl)) ?_;show AI _ _ _ _ _ _ #[true, true, true, true, true, true, true, false, true, false] _;refine aE (i := 7) (by kernel_rfl) rfl rfl <| aH rfl (ai (i := 0) aa rfl rfl rfl rfl) ?_;show AI _ _ _ _ _ _ #[true, true, true, true, true, true, true, true, true, false] _;refine zk 9 rfl (ay (av := slE _ _ _) rfl) ?_;show AI _ _ _ _ _ _ #[true, true, true, true, true, true, true, true, true, true] _;refine aZ rfl <| aR ?_;obtain ⟨rfl, rfl, rfl, rfl, rfl, rfl, rfl⟩ := res7 H;exact And.intro rfl (Exists.intro _ (Exists.intro _ ⟨dD (ed rfl (dI (off := 0) (cs := [i64 y55, i64 y56, S a3, S a4, S a5, slE Enc.byte a6 none]) (n := 6) 1 aO rfl (by kernel_rfl) rfl rfl (ab rfl)) ((show PlaceV _ _ _ (.tmp _) _ from (.tok _ _ _)))), aL [] rfl, rfl, rfl⟩))
 ·refine aH rfl (ai (i := 0) aa rfl rfl rfl rfl) ?_;show AI _ _ _ _ _ _ #[true, true, true, false, true, true, true, true, false, false] _;refine aE (i := 3) (by kernel_rfl) rfl rfl <| aH rfl (bR (i := 0) (n := 6) aO rfl (by kernel_rfl) rfl rfl (ab rfl)) ?_;show AI _ _ _ _ _ _ #[true, true, true, true, true, true, true, true, false, false] _;refine aE (i := 8) (by kernel_rfl) rfl rfl <| bE (aP (i := 1) (vs := [i64 y55, i64 y56, S a3, S a4, S a5, slE Enc.byte a6 none]) (by kernel_rfl) rfl rfl (by simp [bw, slE]) rfl (ab rfl)) ?_;show AI _ _ _ _ _ _ #[true, true, true, true, true, true, true, true, true, false] _;refine zk 9 rfl (ay (av := slE _ _ _) rfl) ?_;show AI _ _ _ _ _ _ #[true, true, true, true, true, true, true, true, true, true] _;refine aZ rfl <| aR ?_;obtain ⟨rfl, rfl, rfl, rfl, rfl, rfl, rfl⟩ := res7 H;exact And.intro rfl (Exists.intro _ (Exists.intro _ ⟨dD (ed rfl (dI (off := 0) (cs := [i64 y55, i64 y56, S a3, S a4, S a5, slE Enc.byte a6 none]) (n := 6) 1 aO rfl (by kernel_rfl) rfl rfl (ab rfl)) ((show PlaceV _ _ _ (.tmp _) _ from (.tok _ _ _)))), aL [] rfl, rfl, rfl⟩))
end Go.Proofs.YtgjkjkmmgdbcoaaGreatDoor
namespace Go.Pv
def qA : List UInt8 := [69, 72, 76, 79, 32, 104, 13, 10, 77, 65, 73, 76, 32, 70, 82, 79, 77, 58, 60, 97, 64, 98, 62, 13, 10, 82, 67, 80, 84, 32, 84, 79, 58, 60, 99, 64, 100, 62, 13, 10, 68, 65, 84, 65, 13, 10, 120, 13, 10, 46, 13, 10, 81, 85, 73, 84, 13, 10]
def kc (F : Nat) : Option ((List UInt8)) :=
some ([50, 50, 48, 32, 97, 13, 10, 50, 53, 48, 45, 97, 13, 10, 50, 53] ++ [48, 32, 83, 73, 90, 69, 32, 49, 48, 48, 48, 48, 48, 13, 10, 50] ++ [53, 48, 32, 111, 107, 13, 10, 50, 53, 48, 32, 111, 107, 13, 10, 51] ++ [53, 52, 32, 103, 111, 13, 10, 50, 53, 48, 32, 111, 107, 13, 10, 50] ++ [50, 49, 32, 98, 121, 101, 13, 10] : List UInt8)
def fG (x3 : Int × Int × (List UInt8) × (List UInt8) × (List UInt8) × (List UInt8) × Int) (y14 : List UInt8) (y15 : Int) (y16 : Int) (y17 : List UInt8) (y18 : List UInt8) (y19 : List UInt8) (y20 : List UInt8) : Option Bool :=
some ((((decide (x3.2.2.2.2.2.2 = 0)) && (decide (y16 = 1))) && (decide (y15 = 7))) && (decide (y14 = qA)))
def gk (F : Nat) : Option Bool :=
bnd (iw F ([97, 64, 98] : List UInt8) ([99, 64, 100] : List UInt8) ([104] : List UInt8) ([120, 13, 10] : List UInt8)) fun x3 =>
bnd (kc F) fun x6 =>
bnd (qm F x3.1 x3.2.1 x3.2.2.1 x3.2.2.2.1 x3.2.2.2.2.1 x3.2.2.2.2.2.1 x6) fun x8 =>
fG x3 x8.2.2.2.2.2.2 x8.1 x8.2.1 x8.2.2.1 x8.2.2.2.1 x8.2.2.2.2.1 x8.2.2.2.2.2.1
def iq (F : Nat) (a1 : Int) (a2 : Int) (a3 : List UInt8) (a4 : List UInt8) (a5 : List UInt8) (a6 : List UInt8) : Option Bool :=
some ((((decide ((a3.length : Int) ≤ 100)) && (decide ((a4.length : Int) ≤ 100))) && (decide ((a5.length : Int) ≤ 100))) && (decide ((a6.length : Int) ≤ 600)))
def eT (a1 : List UInt8) : Option Bool :=
dT (!(decide ((a1.length : Int) = 0))) (okI ((a1.length : Int) - 1)) <|
dT (!(decide ((a1.length : Int) = 0))) (cA ((a1.length : Int) - 1) a1.length) <|
lt (at_ a1 ((a1.length : Int) - 1)) fun x34 =>
some ((decide ((a1.length : Int) = 0)) || (decide (x34 = 10)))
def fM (a1 : List UInt8) (rec5 : Int → Option Bool) (y4 : Int) : Option Bool :=
bif decide (y4 < (a1.length : Int)) then
  grd (cA y4 a1.length) <|
  lt (at_ a1 y4) fun x9 =>
  dT (decide (x9 = 13)) (okI (y4 + 1)) <|
  dT ((decide (x9 = 13)) && (!(decide ((a1.length : Int) ≤ y4 + 1)))) (okI (y4 + 1)) <|
  dT ((decide (x9 = 13)) && (!(decide ((a1.length : Int) ≤ y4 + 1)))) (cA (y4 + 1) a1.length) <|
  lt (at_ a1 (y4 + 1)) fun x16 =>
  dT (!((decide (x9 = 13)) && ((decide ((a1.length : Int) ≤ y4 + 1)) || (!decide (x16 = 10))))) (cA y4 a1.length) <|
  lt (at_ a1 y4) fun x20 =>
  dT (((!((decide (x9 = 13)) && ((decide ((a1.length : Int) ≤ y4 + 1)) || (!decide (x16 = 10))))) && (decide (x20 = 10))) && (!(decide (y4 = 0)))) (okI (y4 - 1)) <|
  dT (((!((decide (x9 = 13)) && ((decide ((a1.length : Int) ≤ y4 + 1)) || (!decide (x16 = 10))))) && (decide (x20 = 10))) && (!(decide (y4 = 0)))) (cA (y4 - 1) a1.length) <|
  lt (at_ a1 (y4 - 1)) fun x26 =>
  bif ((decide (x9 = 13)) && ((decide ((a1.length : Int) ≤ y4 + 1)) || (!decide (x16 = 10)))) || ((decide (x20 = 10)) && ((decide (y4 = 0)) || (!decide (x26 = 13)))) then
    some false
  else
    grd (okI (y4 + 1)) <|
    rec5 (y4 + 1)
else
  eT a1
def fL (a1 : List UInt8) (n : Nat) : Int → Option Bool :=
  loop (fun rec x => fM a1 rec x) n
def im (F : Nat) (a1 : List UInt8) : Option Bool :=
fL a1 F 0
def eF (y40 : List UInt8) : Option ((List UInt8) × Int) :=
grd (eW (y40.length + ([46, 13, 10] : List UInt8).length)) <|
lt (y40 ++ ([46, 13, 10] : List UInt8)) fun x45 =>
some (x45, 0)
def dw (a1 : List UInt8) (y11 : Int) (rec12 : ((List UInt8) × Int) → Option ((List UInt8) × Int)) (y29 : List UInt8) : Option ((List UInt8) × Int) :=
grd (cA y11 a1.length) <|
lt (at_ a1 y11) fun x33 =>
grd (eW (y29.length + ([x33] : List UInt8).length)) <|
lt (y29 ++ ([x33] : List UInt8)) fun x37 =>
grd (okI (y11 + 1)) <|
rec12 (x37, y11 + 1)
def eG (a1 : List UInt8) (rec12 : ((List UInt8) × Int) → Option ((List UInt8) × Int)) (y9 : List UInt8) (y11 : Int) : Option ((List UInt8) × Int) :=
bif decide (y11 < (a1.length : Int)) then
  grd (cA y11 a1.length) <|
  lt (at_ a1 y11) fun x16 =>
  dT ((decide (x16 = 46)) && (!(decide (y11 = 0)))) (okI (y11 - 1)) <|
  dT ((decide (x16 = 46)) && (!(decide (y11 = 0)))) (cA (y11 - 1) a1.length) <|
  lt (at_ a1 (y11 - 1)) fun x22 =>
  bif (decide (x16 = 46)) && ((decide (y11 = 0)) || (decide (x22 = 10))) then
    grd (eW (y9.length + ([46] : List UInt8).length)) <|
    lt (y9 ++ ([46] : List UInt8)) fun x27 =>
    dw a1 y11 rec12 x27
  else
    dw a1 y11 rec12 y9
else
  eF y9
def dd (a1 : List UInt8) (n : Nat) : ((List UInt8) × Int) → Option ((List UInt8) × Int) :=
  loop (fun rec x => eG a1 rec x.1 x.2) n
def gi (F : Nat) (a1 : List UInt8) : Option ((List UInt8) × Int) :=
bnd (im F a1) fun x5 =>
bif !x5 then
  some ([], 1)
else
  dd a1 F ([], 0)
def dm (F : Nat) (a1 : List UInt8) (y35 : List UInt8) : Option ((List UInt8) × Int) :=
hP (gi F y35) fun x38 x39 =>
bif (!decide (x39 = 0)) || (!decide (x38 = a1)) then
  some ([], 2)
else
  some (y35, 0)
def cP (y9 : Int) (rec10 : ((List UInt8) × Int) → Option ((List UInt8) × Int)) (y31 : List UInt8) : Option ((List UInt8) × Int) :=
grd (okI (y9 + 1)) <|
rec10 (y31, y9 + 1)
def cr (F : Nat) (a1 : List UInt8) (rec10 : ((List UInt8) × Int) → Option ((List UInt8) × Int)) (y7 : List UInt8) (y9 : Int) : Option ((List UInt8) × Int) :=
grd (okI ((a1.length : Int) - 3)) <|
bif decide (y9 < (a1.length : Int) - 3) then
  grd (cA y9 a1.length) <|
  lt (at_ a1 y9) fun x15 =>
  dT ((decide (x15 = 46)) && (!(decide (y9 = 0)))) (okI (y9 - 1)) <|
  dT ((decide (x15 = 46)) && (!(decide (y9 = 0)))) (cA (y9 - 1) a1.length) <|
  lt (at_ a1 (y9 - 1)) fun x21 =>
  bif (decide (x15 = 46)) && ((decide (y9 = 0)) || (decide (x21 = 10))) then
    cP y9 rec10 y7
  else
    grd (cA y9 a1.length) <|
    lt (at_ a1 y9) fun x25 =>
    grd (eW (y7.length + ([x25] : List UInt8).length)) <|
    lt (y7 ++ ([x25] : List UInt8)) fun x29 =>
    cP y9 rec10 x29
else
  dm F a1 y7
def bH (F : Nat) (a1 : List UInt8) (n : Nat) : ((List UInt8) × Int) → Option ((List UInt8) × Int) :=
  loop (fun rec x => cr F a1 rec x.1 x.2) n
def fa (F : Nat) (a1 : List UInt8) : Option ((List UInt8) × Int) :=
bif decide ((a1.length : Int) < 3) then
  some ([], 2)
else
  bH F a1 F ([], 0)
end Go.Pv
namespace Go.Proofs.YtgjkjkmmgdbcoaaGreatDoor
open Go.RowKit Go.Av Go.Pv
theorem rA : ∀ (args : Array Value) (w : World), (callFunc 12 args).run Tryz.prog w = .ok (.enter 12 args) w := fun _ _ => by kernel_rfl
theorem lg : ∀ (args : Array Value) (w : World), (callFunc 15 args).run Tryz.prog w = .ok (.enter 15 args) w := fun _ _ => by kernel_rfl
theorem nL : ∀ (args : Array Value) (w : World), (callFunc 26 args).run Tryz.prog w = .ok (.enter 26 args) w := fun _ _ => by kernel_rfl
theorem rr : ∀ (args : Array Value) (w : World), (callFunc 33 args).run Tryz.prog w = .ok (.enter 33 args) w := fun _ _ => by kernel_rfl
theorem rm : ∀ (args : Array Value) (w : World), (callFunc 41 args).run Tryz.prog w = .ok (.enter 41 args) w := fun _ _ => by kernel_rfl
set_option maxRecDepth 100000 in
set_option maxHeartbeats 1000000 in
theorem kt (F : Nat) (r1 : List UInt8) (H : kc F = some r1) : ACalls Tryz.prog 26 [] [] (Ret (slE Enc.byte r1 none) []) := by
 unfold kc at H
 refine aA Tryz.func26 rfl rfl ?_;show AW _ _ 3 _ _ _;refine aj <| ac ?_;show AR _ _ _ _ _ [0] _;refine za rfl <| ak <| aj <| ac ?_;show AR _ _ _ _ _ [0, 1, 2] _;refine zX rfl (gN (E := Enc.byte) (bytes := 1) (xs := [.const _, .const _, .const _, .const _, .const _, .const _, .const _, .const _, .const _, .const _, .const _, .const _, .const _, .const _, .const _, .const _] ++ [.const _, .const _, .const _, .const _, .const _, .const _, .const _, .const _, .const _, .const _, .const _, .const _, .const _, .const _, .const _, .const _] ++ [.const _, .const _, .const _, .const _, .const _, .const _, .const _, .const _, .const _, .const _, .const _, .const _, .const _, .const _, .const _, .const _] ++ [.const _, .const _, .const _, .const _, .const _, .const _, .const _, .const _, .const _, .const _, .const _, .const _, .const _, .const _, .const _, .const _] ++ [.const _, .const _, .const _, .const _, .const _, .const _, .const _, .const _]) (l := ([50, 50, 48, 32, 97, 13, 10, 50, 53, 48, 45, 97, 13, 10, 50, 53] ++ [48, 32, 83, 73, 90, 69, 32, 49, 48, 48, 48, 48, 48, 13, 10, 50] ++ [53, 48, 32, 111, 107, 13, 10, 50, 53, 48, 32, 111, 107, 13, 10, 51] ++ [53, 52, 32, 103, 111, 13, 10, 50, 53, 48, 32, 111, 107, 13, 10, 50] ++ [50, 49, 32, 98, 121, 101, 13, 10] : List UInt8)) aa (by kernel_rfl) rfl rfl (by decide) rfl rfl) ?_;rintro _ _ ⟨t2, rfl, rfl⟩;refine zR rfl (fb 0 aa aJ rfl (by simp) rfl) <| zS rfl (ay (av := slE _ _ _) rfl) <| ak <| aR ?_
 obtain rfl := aC H;exact And.intro rfl (Exists.intro _ (Exists.intro _ ⟨aV rfl (.tok _ _ _), aL [] rfl, rfl, rfl⟩))
set_option maxRecDepth 100000 in
set_option maxHeartbeats 1000000 in
theorem mK (F : Nat) (r1 : Bool) (H : gk F = some r1) : ACalls Tryz.prog 10 [] [] (Ret (B r1) []) := by
 unfold gk at H
 refine aA Tryz.func10 rfl rfl ?_;show AW _ _ 34 _ _ _;refine aj <| ac ?_;show AR _ _ _ _ _ [0] _;refine za rfl <| ak <| aj ?_;obtain ⟨x3, e4, H⟩ := dG H;refine ac ?_;show AR _ _ _ _ _ [0, 1, 2, 3, 4, 5, 6, 7, 8] _;refine zX rfl (gN (E := Enc.byte) (bytes := 1) (xs := [.const _, .const _, .const _]) (l := ([120, 13, 10] : List UInt8)) aa (by kernel_rfl) rfl rfl (by decide) rfl rfl) ?_;rintro _ _ ⟨t2, rfl, rfl⟩;refine zR rfl (fb 0 aa aJ rfl (by simp) rfl) <| ao rfl rfl (aQ rfl rA rfl (mf F ([97, 64, 98] : List UInt8) ([99, 64, 100] : List UInt8) ([104] : List UInt8) ([120, 13, 10] : List UInt8) (some t2) x3.1 x3.2.1 x3.2.2.1 x3.2.2.2.1 x3.2.2.2.2.1 x3.2.2.2.2.2.1 x3.2.2.2.2.2.2 e4) ?_);refine zS rfl (ag (av := .tup _) rfl) <| zS rfl (aF (av := .agg _) rfl rfl) <| zS rfl (aF (av := .v _) rfl rfl) <| zX rfl (bQ (zs := [.int .i64 0, .int .i64 0, .string ⟨#[]⟩, .string ⟨#[]⟩, .string ⟨#[]⟩, .slice none 0 0]) (by kernel_rfl)) ?_;rintro _ _ ⟨o5, rfl, rfl⟩;refine s0 rfl rfl (aP (i := 0) (vs := [i64 x3.1, i64 x3.2.1, S x3.2.2.1, S x3.2.2.2.1, S x3.2.2.2.2.1, slE Enc.byte x3.2.2.2.2.2.1 none]) (by kernel_rfl) rfl rfl (by simp [bw, slE]) rfl (ab rfl)) <| AR.freezeCp 1 0 rfl rfl ?_;show AR _ _ _ _ _ _ ⟨_, _, [.tok t2 5]⟩
 refine za rfl <| ak <| bX (X := Nat × (List UInt8) × Int × Int × (List UInt8) × (List UInt8) × (List UInt8) × (List UInt8)) (fun (o13, y14, y15, y16, y17, y18, y19, y20) => ⟨[(2, i64 x3.2.2.2.2.2.2), (3, .pt o13 0), (4, slE Enc.byte y14 none)], [], [.obj o13 [i64 y15, i64 y16, S y17, S y18, S y19, slE Enc.byte y20 none]]⟩) (fun (o13, y14, y15, y16, y17, y18, y19, y20) => fG x3 y14 y15 y16 y17 y18 y19 y20 = some r1) ?_ ?_
 ·obtain ⟨x6, e7, H⟩ := dG H;obtain ⟨x8, e9, H⟩ := dG H;refine bn (by kernel_rfl) ?_;show AI _ _ _ _ _ 9 (Array.replicate 9 false) _;refine zk 0 rfl (bt aO rfl (n := 6) (by kernel_rfl) rfl (ab rfl)) ?_;show AI _ _ _ _ _ _ #[true, false, false, false, false, false, false, false, false] _;refine cj (i := 1) (j := 6) (by kernel_rfl) rfl rfl rfl rfl ?_ ?_
  ·refine bD rfl nL rfl (kt F x6 e7) ?_;show AI _ _ _ _ _ _ #[true, true, false, false, false, false, false, false, false] _;refine cj (i := 2) (j := 6) (by kernel_rfl) rfl rfl rfl rfl ?_ ?_
   ·refine bD rfl lg rfl (mw F x3.1 x3.2.1 x3.2.2.1 x3.2.2.2.1 x3.2.2.2.2.1 x3.2.2.2.2.2.1 x6 none x8.1 x8.2.1 x8.2.2.1 x8.2.2.2.1 x8.2.2.2.2.1 x8.2.2.2.2.2.1 x8.2.2.2.2.2.2 e9) ?_;show AI _ _ _ _ _ _ #[true, true, true, false, false, false, false, false, false] _;refine zk 3 rfl (ag (av := .tup _) rfl) ?_;show AI _ _ _ _ _ _ #[true, true, true, true, false, false, false, false, false] _;refine zk 4 rfl (aF (av := .agg _) rfl rfl) ?_;show AI _ _ _ _ _ _ #[true, true, true, true, true, false, false, false, false] _;refine zk 5 rfl (aF (av := slE _ _ _) rfl rfl) ?_;show AI _ _ _ _ _ _ #[true, true, true, true, true, true, false, false, false] _;refine aE (i := 6) (by kernel_rfl) rfl rfl <| dc rfl (bQ (zs := [.int .i64 0, .int .i64 0, .string ⟨#[]⟩, .string ⟨#[]⟩, .string ⟨#[]⟩, .slice none 0 0]) (by kernel_rfl)) ?_;rintro _ _ ⟨o10, rfl, rfl⟩;show AI _ _ _ _ _ _ #[true, true, true, true, true, true, true, false, false] _;refine aE (i := 7) (by kernel_rfl) rfl rfl <| bE (aP (i := 0) (vs := [i64 x8.1, i64 x8.2.1, S x8.2.2.1, S x8.2.2.2.1, S x8.2.2.2.2.1, slE Enc.byte x8.2.2.2.2.2.1 none]) (by kernel_rfl) rfl rfl (by simp [bw, slE]) rfl (ab rfl)) ?_;show AI _ _ _ _ _ _ #[true, true, true, true, true, true, true, true, false] _;refine zk 8 rfl (ay (av := slE _ _ _) rfl) ?_;show AI _ _ _ _ _ _ #[true, true, true, true, true, true, true, true, true] _;refine aZ rfl ?_
    exact Exists.intro (o10, x8.2.2.2.2.2.2, x8.1, x8.2.1, x8.2.2.1, x8.2.2.2.1, x8.2.2.2.2.1, x8.2.2.2.2.2.1) ⟨H, aY [0] (.cons (.refl _) (.cons (.refl _) (.cons (.refl _) (.nil _)))) rfl⟩
   ·refine dc rfl (bQ (zs := [.int .i64 0, .int .i64 0, .string ⟨#[]⟩, .string ⟨#[]⟩, .string ⟨#[]⟩, .slice none 0 0]) (by kernel_rfl)) ?_;rintro _ _ ⟨o11, rfl, rfl⟩;show AI _ _ _ _ _ _ #[true, true, false, false, false, false, true, false, false] _;refine aE (i := 2) (by kernel_rfl) rfl rfl <| bD rfl lg rfl (mw F x3.1 x3.2.1 x3.2.2.1 x3.2.2.2.1 x3.2.2.2.2.1 x3.2.2.2.2.2.1 x6 none x8.1 x8.2.1 x8.2.2.1 x8.2.2.2.1 x8.2.2.2.2.1 x8.2.2.2.2.2.1 x8.2.2.2.2.2.2 e9) ?_;show AI _ _ _ _ _ _ #[true, true, true, false, false, false, true, false, false] _;refine zk 3 rfl (ag (av := .tup _) rfl) ?_;show AI _ _ _ _ _ _ #[true, true, true, true, false, false, true, false, false] _;refine zk 4 rfl (aF (av := .agg _) rfl rfl) ?_;show AI _ _ _ _ _ _ #[true, true, true, true, true, false, true, false, false] _;refine zk 5 rfl (aF (av := slE _ _ _) rfl rfl) ?_;show AI _ _ _ _ _ _ #[true, true, true, true, true, true, true, false, false] _;refine aE (i := 7) (by kernel_rfl) rfl rfl <| bE (aP (i := 0) (vs := [i64 x8.1, i64 x8.2.1, S x8.2.2.1, S x8.2.2.2.1, S x8.2.2.2.2.1, slE Enc.byte x8.2.2.2.2.2.1 none]) (by kernel_rfl) rfl rfl (by simp [bw, slE]) rfl (ab rfl)) ?_;show AI _ _ _ _ _ _ #[true, true, true, true, true, true, true, true, false] _;refine zk 8 rfl (ay (av := slE _ _ _) rfl) ?_;show AI _ _ _ _ _ _ #[true, true, true, true, true, true, true, true, true] _;refine aZ rfl ?_
    exact Exists.intro (o11, x8.2.2.2.2.2.2, x8.1, x8.2.1, x8.2.2.1, x8.2.2.2.1, x8.2.2.2.2.1, x8.2.2.2.2.2.1) ⟨H, aY [0] (.cons (.refl _) (.cons (.refl _) (.cons (.refl _) (.nil _)))) rfl⟩
  ·refine dc rfl (bQ (zs := [.int .i64 0, .int .i64 0, .string ⟨#[]⟩, .string ⟨#[]⟩, .string ⟨#[]⟩, .slice none 0 0]) (by kernel_rfl)) ?_;rintro _ _ ⟨o12, rfl, rfl⟩;show AI _ _ _ _ _ _ #[true, false, false, false, false, false, true, false, false] _;refine aE (i := 1) (by kernel_rfl) rfl rfl <| bD rfl nL rfl (kt F x6 e7) ?_;show AI _ _ _ _ _ _ #[true, true, false, false, false, false, true, false, false] _;refine aE (i := 2) (by kernel_rfl) rfl rfl <| bD rfl lg rfl (mw F x3.1 x3.2.1 x3.2.2.1 x3.2.2.2.1 x3.2.2.2.2.1 x3.2.2.2.2.2.1 x6 none x8.1 x8.2.1 x8.2.2.1 x8.2.2.2.1 x8.2.2.2.2.1 x8.2.2.2.2.2.1 x8.2.2.2.2.2.2 e9) ?_;show AI _ _ _ _ _ _ #[true, true, true, false, false, false, true, false, false] _;refine zk 3 rfl (ag (av := .tup _) rfl) ?_;show AI _ _ _ _ _ _ #[true, true, true, true, false, false, true, false, false] _;refine zk 4 rfl (aF (av := .agg _) rfl rfl) ?_;show AI _ _ _ _ _ _ #[true, true, true, true, true, false, true, false, false] _;refine zk 5 rfl (aF (av := slE _ _ _) rfl rfl) ?_;show AI _ _ _ _ _ _ #[true, true, true, true, true, true, true, false, false] _;refine aE (i := 7) (by kernel_rfl) rfl rfl <| bE (aP (i := 0) (vs := [i64 x8.1, i64 x8.2.1, S x8.2.2.1, S x8.2.2.2.1, S x8.2.2.2.2.1, slE Enc.byte x8.2.2.2.2.2.1 none]) (by kernel_rfl) rfl rfl (by simp [bw, slE]) rfl (ab rfl)) ?_;show AI _ _ _ _ _ _ #[true, true, true, true, true, true, true, true, false] _;refine zk 8 rfl (ay (av := slE _ _ _) rfl) ?_
   show AI _ _ _ _ _ _ #[true, true, true, true, true, true, true, true, true] _;refine aZ rfl ?_;exact Exists.intro (o12, x8.2.2.2.2.2.2, x8.1, x8.2.1, x8.2.2.1, x8.2.2.2.1, x8.2.2.2.2.1, x8.2.2.2.2.2.1) ⟨H, aY [0] (.cons (.refl _) (.cons (.refl _) (.cons (.refl _) (.nil _)))) rfl⟩
 rintro ⟨o13, y14, y15, y16, y17, y18, y19, y20⟩ H;replace H : fG x3 y14 y15 y16 y17 y18 y19 y20 = some r1 := H
 unfold fG at H
 refine aj <| ac ?_;show AR _ _ _ _ _ [0, 1, 2, 3, 4, 5, 6, 7, 8, 9, 10, 11, 12, 13, 14, 15, 16, 17] _;refine zm rfl <| zS rfl (bN rfl rfl) <| zm rfl <| aN (l := [7, 8, 9, 10, 11, 12, 13, 14, 15, 16, 17]) 23 (B ((decide (x3.2.2.2.2.2.2 = 0)) && (decide (y16 = 1)))) (fun K => ?_) ?_
 ·rcases af (decide (x3.2.2.2.2.2.2 = 0)) with h22 | h22
  ·refine zU h22 rfl (ah (n := 1) (by kernel_rfl) rfl) <| zT h22 rfl (bM rfl rfl (ai (i := 0) aq rfl rfl rfl rfl) ?_);refine zU h22 rfl (bN rfl rfl) <| zS rfl (ax (av := .v _) rfl h22 rfl) ?_;exact K _ 3 _ (ap (bZ h22)) rfl rfl
  ·refine zF h22 rfl <| zF h22 rfl <| zF h22 rfl <| zS rfl (aw (av := .v _) rfl h22 rfl) ?_;exact K _ 3 _ (ap (ca h22)) rfl rfl
 refine zm rfl <| aN (l := [12, 13, 14, 15, 16, 17]) 28 (B (((decide (x3.2.2.2.2.2.2 = 0)) && (decide (y16 = 1))) && (decide (y15 = 7)))) (fun K => ?_) ?_
 ·rcases af ((decide (x3.2.2.2.2.2.2 = 0)) && (decide (y16 = 1))) with h23 | h23
  ·refine zU h23 rfl (ah (n := 0) (by kernel_rfl) rfl) <| zT h23 rfl (bM rfl rfl (ai (i := 0) aq rfl rfl rfl rfl) ?_);refine zU h23 rfl (bN rfl rfl) <| zS rfl (ax (av := .v _) rfl h23 rfl) ?_;exact K _ 3 _ (ap (bZ h23)) rfl rfl
  ·refine zF h23 rfl <| zF h23 rfl <| zF h23 rfl <| zS rfl (aw (av := .v _) rfl h23 rfl) ?_;exact K _ 3 _ (ap (ca h23)) rfl rfl
 refine zm rfl <| aN (l := [17]) 33 (B ((((decide (x3.2.2.2.2.2.2 = 0)) && (decide (y16 = 1))) && (decide (y15 = 7))) && (decide (y14 = qA)))) (fun K => ?_) ?_
 ·rcases af (((decide (x3.2.2.2.2.2.2 = 0)) && (decide (y16 = 1))) && (decide (y15 = 7))) with h24 | h24
  ·refine zU h24 rfl (ag (av := slE _ _ _) rfl) <| zU h24 rfl (cB aa aJ al rfl) <| zU h24 rfl (iM rfl rfl) <| zS rfl (ax (av := .v _) rfl h24 rfl) ?_;exact K _ 3 _ (ap (bZ h24)) rfl rfl
  ·refine zF h24 rfl <| zF h24 rfl <| zF h24 rfl <| zS rfl (aw (av := .v _) rfl h24 rfl) ?_;exact K _ 3 _ (ap (ca h24)) rfl rfl
 refine za rfl <| ak <| aR ?_;obtain rfl := aC H;exact And.intro rfl (Exists.intro _ (Exists.intro _ ⟨aV rfl (.refl _), aL [] rfl, rfl, rfl⟩))
set_option maxRecDepth 100000 in
set_option maxHeartbeats 1000000 in
theorem oM (F : Nat) (a1 : Int) (a2 : Int) (a3 : List UInt8) (a4 : List UInt8) (a5 : List UInt8) (a6 : List UInt8) (r7 : Bool) (H : iq F a1 a2 a3 a4 a5 a6 = some r7) : ACalls Tryz.prog 11 [.agg [i64 a1, i64 a2, S a3, S a4, S a5, slE Enc.byte a6 none]] [] (Ret (B r7) []) := by
 unfold iq at H
 refine aA Tryz.func11 rfl rfl ?_;show AW _ _ 25 _ _ _;refine aj <| ac ?_;show AR _ _ _ _ _ [0, 1] _;refine zR rfl (cM rfl (.inr ⟨_, rfl⟩)) <| za rfl <| ak <| aj <| ac ?_;show AR _ _ _ _ _ [0, 1, 2, 3, 4, 5, 6, 7, 8, 9, 10, 11, 12, 13, 14, 15, 16, 17, 18, 19, 20, 21, 22] _;refine zS rfl (be (n := 2) (by kernel_rfl) rfl (ab rfl)) <| zS rfl (aI al rfl rfl) <| zS rfl (bx al rfl) <| zS rfl (dU rfl rfl) <| zm rfl <| aN (l := [10, 11, 12, 13, 14, 15, 16, 17, 18, 19, 20, 21, 22]) 12 (B ((decide ((a3.length : Int) ≤ 100)) && (decide ((a4.length : Int) ≤ 100)))) (fun K => ?_) ?_
 ·rcases af (decide ((a3.length : Int) ≤ 100)) with h8 | h8
  ·refine zU h8 rfl (be (n := 3) (by kernel_rfl) rfl (ab rfl)) <| zU h8 rfl (aI al rfl rfl) <| zU h8 rfl (bx al rfl) <| zU h8 rfl (dU rfl rfl) <| zS rfl (ax (av := .v _) rfl h8 rfl) ?_;exact K _ 4 _ (ap (bZ h8)) rfl rfl
  ·refine zF h8 rfl <| zF h8 rfl <| zF h8 rfl <| zF h8 rfl <| zS rfl (aw (av := .v _) rfl h8 rfl) ?_;exact K _ 4 _ (ap (ca h8)) rfl rfl
 refine zm rfl <| aN (l := [16, 17, 18, 19, 20, 21, 22]) 18 (B (((decide ((a3.length : Int) ≤ 100)) && (decide ((a4.length : Int) ≤ 100))) && (decide ((a5.length : Int) ≤ 100)))) (fun K => ?_) ?_
 ·rcases af ((decide ((a3.length : Int) ≤ 100)) && (decide ((a4.length : Int) ≤ 100))) with h9 | h9
  ·refine zU h9 rfl (be (n := 4) (by kernel_rfl) rfl (ab rfl)) <| zU h9 rfl (aI al rfl rfl) <| zU h9 rfl (bx al rfl) <| zU h9 rfl (dU rfl rfl) <| zS rfl (ax (av := .v _) rfl h9 rfl) ?_;exact K _ 4 _ (ap (bZ h9)) rfl rfl
  ·refine zF h9 rfl <| zF h9 rfl <| zF h9 rfl <| zF h9 rfl <| zS rfl (aw (av := .v _) rfl h9 rfl) ?_;exact K _ 4 _ (ap (ca h9)) rfl rfl
 refine zm rfl <| aN (l := [22]) 24 (B ((((decide ((a3.length : Int) ≤ 100)) && (decide ((a4.length : Int) ≤ 100))) && (decide ((a5.length : Int) ≤ 100))) && (decide ((a6.length : Int) ≤ 600)))) (fun K => ?_) ?_
 ·rcases af (((decide ((a3.length : Int) ≤ 100)) && (decide ((a4.length : Int) ≤ 100))) && (decide ((a5.length : Int) ≤ 100))) with h10 | h10
  ·refine zU h10 rfl (be (n := 5) (by kernel_rfl) rfl (ab rfl)) <| zU h10 rfl (aI aa rfl rfl) <| zU h10 rfl (aU aa rfl) <| zU h10 rfl (dU rfl rfl) <| zS rfl (ax (av := .v _) rfl h10 rfl) ?_;exact K _ 4 _ (ap (bZ h10)) rfl rfl
  ·refine zF h10 rfl <| zF h10 rfl <| zF h10 rfl <| zF h10 rfl <| zS rfl (aw (av := .v _) rfl h10 rfl) ?_;exact K _ 4 _ (ap (ca h10)) rfl rfl
 refine za rfl <| ak <| aR ?_;obtain rfl := aC H;exact And.intro rfl (Exists.intro _ (Exists.intro _ ⟨aV rfl (.refl _), aL [] rfl, rfl, rfl⟩))
set_option maxRecDepth 100000 in
set_option maxHeartbeats 1000000 in
theorem oL (F : Nat) (a1 : List UInt8) (q2 : Option Nat) (r3 : Bool) (H : im F a1 = some r3) : ACalls Tryz.prog 33 [slE Enc.byte a1 q2] [] (Ret (B r3) []) := by
 unfold im at H
 refine aA Tryz.func33 rfl rfl ?_;show AW _ _ 61 _ _ _;refine aj <| ac ?_;show AR _ _ _ _ _ [0] _;refine za rfl <| ak <| bX (X := Unit) (fun _ => ⟨[(0, slE Enc.byte a1 q2)], [], []⟩) (fun _ => eT a1 = some r3) ?_ ?_
 ·refine aj <| ac ?_;show AR _ _ _ _ _ [0] _;refine za rfl <| ak <| bi <| dC (X := Nat × Int) (fun (n6, y4) => ⟨[(0, slE Enc.byte a1 q2), (3, i64 y4)], [], []⟩) (fun (n6, y4) => fL a1 n6 y4 = some r3) (fun (n6, y4) => n6) (F, 0) H (aY [] (.cons (.refl _) (.cons (.refl _) (.nil _))) rfl) ?_;rintro ⟨n6, y4⟩ H;obtain ⟨n6, rfl, H⟩ := fg H;replace H : fM a1 (fL a1 n6) y4 = some r3 := H
  unfold fM at H
  refine aj <| aj <| ac ?_;show AR _ _ _ _ _ [0, 1, 2, 3] _;refine zm rfl <| zS rfl (ag (av := slE _ _ _) rfl) <| zS rfl (aU aa rfl) <| zS rfl (cf rfl rfl) <| ak <| aG rfl (fun c7 => ?_) (fun c7 => ?_)
  ·replace H := bk c7 H;refine aM <| aj <| bi <| aj ?_;obtain ⟨g8, H⟩ := aX H;obtain ⟨x9, e10, H⟩ := cc H;obtain ⟨g12, H⟩ := cE H;obtain ⟨g14, H⟩ := cE H;obtain ⟨g15, H⟩ := cE H;obtain ⟨x16, e17, H⟩ := cc H;obtain ⟨g19, H⟩ := cE H;obtain ⟨x20, e21, H⟩ := cc H;obtain ⟨g24, H⟩ := cE H;obtain ⟨g25, H⟩ := cE H;obtain ⟨x26, e27, H⟩ := cc H;refine ac ?_;show AR _ _ _ _ _ [0, 1, 2, 3, 4, 5, 6, 7, 8, 9, 10, 11, 12, 13, 14, 15, 16, 17, 18, 19, 20, 21, 22, 23, 24, 25, 26, 27, 28, 29, 30, 31, 32, 33, 34, 35, 36, 37, 38] _;refine zS rfl (ag (av := slE _ _ _) rfl) <| zm rfl <| zS rfl (bq (E := Enc.byte) aa (by kernel_rfl) rfl rfl g8 e10) <| zS rfl (aI aJ rfl rfl) <| zS rfl (eo (a := x9) (b := 13) rfl rfl) <| zm rfl <| aN (l := [20, 21, 22, 23, 24, 25, 26, 27, 28, 29, 30, 31, 32, 33, 34, 35, 36, 37, 38]) 29 (B ((decide (x9 = 13)) && ((decide ((a1.length : Int) ≤ y4 + 1)) || (!decide (x16 = 10))))) (fun K => ?_) ?_
   ·rcases af (decide (x9 = 13)) with h11 | h11
    ·refine zM h11 rfl <| zU h11 rfl (eZ rfl rfl (g12 h11)) <| zU h11 rfl (ag (av := slE _ _ _) rfl) <| zU h11 rfl (aU aa rfl) <| zU h11 rfl (ff rfl rfl) <| zM h11 rfl <| aN (l := [19, 20, 21, 22, 23, 24, 25, 26, 27, 28, 29, 30, 31, 32, 33, 34, 35, 36, 37, 38]) 28 (B ((decide ((a1.length : Int) ≤ y4 + 1)) || (!decide (x16 = 10)))) (fun K => ?_) ?_
     ·rcases af (decide ((a1.length : Int) ≤ y4 + 1)) with h13 | h13
      ·refine zF h13 rfl <| zF h13 rfl <| zF h13 rfl <| zF h13 rfl <| zF h13 rfl <| zF h13 rfl <| zU h11 rfl (ax (av := .v _) rfl h13 rfl) ?_;exact K _ 6 _ (ap (fT h13)) rfl rfl
      ·refine zU h13 rfl (ag (av := slE _ _ _) rfl) <| zM h13 rfl <| zU h13 rfl (eZ rfl rfl (g14 (dN h11 (nf h13)))) <| zU h13 rfl (bq (E := Enc.byte) aa (by kernel_rfl) rfl rfl (g15 (dN h11 (nf h13))) e17) <| zU h13 rfl (aI aJ rfl rfl) <| zU h13 rfl (g_ne8 (a := x16) (b := 10) rfl rfl) <| zU h11 rfl (aw (av := .v _) rfl h13 rfl) ?_;exact K _ 6 _ (ap (fU h13)) rfl rfl
     refine zS rfl (ax (av := .v _) rfl h11 rfl) ?_;exact K _ 7 _ (ap (bZ h11)) rfl rfl
    ·refine zF h11 rfl <| zF h11 rfl <| zF h11 rfl <| zF h11 rfl <| zF h11 rfl <| zF h11 rfl <| gU rfl rfl rfl rfl rfl <| gU rfl rfl rfl rfl rfl <| gU rfl rfl rfl rfl rfl <| gU rfl rfl rfl rfl rfl <| gU rfl rfl rfl rfl rfl <| gU rfl rfl rfl rfl rfl <| zF h11 rfl <| zS rfl (aw (av := .v _) rfl h11 rfl) ?_;exact K _ 13 _ (ap (ca h11)) rfl rfl
   refine zm rfl <| aN (l := []) 48 (B (((decide (x9 = 13)) && ((decide ((a1.length : Int) ≤ y4 + 1)) || (!decide (x16 = 10)))) || ((decide (x20 = 10)) && ((decide (y4 = 0)) || (!decide (x26 = 13)))))) (fun K => ?_) ?_
   ·rcases af ((decide (x9 = 13)) && ((decide ((a1.length : Int) ≤ y4 + 1)) || (!decide (x16 = 10)))) with h18 | h18
    ·refine zF h18 rfl <| zF h18 rfl <| zF h18 rfl <| zF h18 rfl <| zF h18 rfl <| zF h18 rfl <| gU rfl rfl rfl rfl rfl <| gU rfl rfl rfl rfl rfl <| gU rfl rfl rfl rfl rfl <| gU rfl rfl rfl rfl rfl <| gU rfl rfl rfl rfl rfl <| gU rfl rfl rfl rfl rfl <| gU rfl rfl rfl rfl rfl <| gU rfl rfl rfl rfl rfl <| gU rfl rfl rfl rfl rfl <| gU rfl rfl rfl rfl rfl <| zF h18 rfl <| zS rfl (ax (av := .v _) rfl h18 rfl) ?_;exact K _ 17 _ (ap (fT h18)) rfl rfl
    ·refine zU h18 rfl (ag (av := slE _ _ _) rfl) <| zM h18 rfl <| zU h18 rfl (bq (E := Enc.byte) aa (by kernel_rfl) rfl rfl (g19 (nf h18)) e21) <| zU h18 rfl (aI aJ rfl rfl) <| zU h18 rfl (eo (a := x20) (b := 10) rfl rfl) <| zM h18 rfl <| aN (l := [38]) 47 (B ((decide (x20 = 10)) && ((decide (y4 = 0)) || (!decide (x26 = 13))))) (fun K => ?_) ?_
     ·rcases af (decide (x20 = 10)) with h22 | h22
      ·refine zM h22 rfl <| zU h22 rfl (bN rfl rfl) <| zM h22 rfl <| aN (l := [37, 38]) 46 (B ((decide (y4 = 0)) || (!decide (x26 = 13)))) (fun K => ?_) ?_
       ·rcases af (decide (y4 = 0)) with h23 | h23
        ·refine zF h23 rfl <| zF h23 rfl <| zF h23 rfl <| zF h23 rfl <| zF h23 rfl <| zF h23 rfl <| zU h22 rfl (ax (av := .v _) rfl h23 rfl) ?_;exact K _ 6 _ (ap (fT h23)) rfl rfl
        ·refine zU h23 rfl (ag (av := slE _ _ _) rfl) <| zM h23 rfl <| zU h23 rfl (kg rfl rfl (g24 (dN (dN (nf h18) h22) (nf h23)))) <| zU h23 rfl (bq (E := Enc.byte) aa (by kernel_rfl) rfl rfl (g25 (dN (dN (nf h18) h22) (nf h23))) e27) <| zU h23 rfl (aI aJ rfl rfl) <| zU h23 rfl (g_ne8 (a := x26) (b := 13) rfl rfl) <| zU h22 rfl (aw (av := .v _) rfl h23 rfl) ?_;exact K _ 6 _ (ap (fU h23)) rfl rfl
       refine zU h18 rfl (ax (av := .v _) rfl h22 rfl) ?_;exact K _ 4 _ (ap (bZ h22)) rfl rfl
      ·refine zF h22 rfl <| zF h22 rfl <| zF h22 rfl <| gU rfl rfl rfl rfl rfl <| gU rfl rfl rfl rfl rfl <| gU rfl rfl rfl rfl rfl <| gU rfl rfl rfl rfl rfl <| gU rfl rfl rfl rfl rfl <| gU rfl rfl rfl rfl rfl <| zF h22 rfl <| zU h18 rfl (aw (av := .v _) rfl h22 rfl) ?_;exact K _ 10 _ (ap (ca h22)) rfl rfl
     refine zS rfl (aw (av := .v _) rfl h18 rfl) ?_;exact K _ 7 _ (ap (fU h18)) rfl rfl
   refine ak <| aG rfl (fun c28 => ?_) (fun c28 => ?_)
   ·replace H := bk c28 H;refine aj <| ac ?_;show AR _ _ _ _ _ [0] _;refine za rfl <| ak <| aR ?_;obtain rfl := aC H;exact And.intro rfl (Exists.intro _ (Exists.intro _ ⟨aV rfl (.refl _), aL [] rfl, rfl, rfl⟩))
   ·replace H := bb c28 H;refine aM ?_;obtain ⟨g29, H⟩ := aX H;refine ac ?_;show AR _ _ _ _ _ [0, 1, 2] _;refine zm rfl <| zS rfl (eZ rfl rfl g29) <| za rfl <| ak ?_;exact Exists.intro (n6, y4 + 1) ⟨H, Nat.lt_succ_self _, aY [] (.cons (.refl _) (.cons (.refl _) (.nil _))) rfl⟩
  ·replace H := bb c7 H;refine dk ?_;exact Exists.intro () ⟨H, aY [] (.cons (.refl _) (.nil _)) rfl⟩
 rintro _ H;replace H : eT a1 = some r3 := H
 unfold eT at H
 refine aj ?_;obtain ⟨g32, H⟩ := cE H;obtain ⟨g33, H⟩ := cE H;obtain ⟨x34, e35, H⟩ := cc H;refine ac ?_;show AR _ _ _ _ _ [0, 1, 2, 3, 4, 5, 6, 7, 8, 9, 10, 11, 12] _;refine zS rfl (ag (av := slE _ _ _) rfl) <| zS rfl (aU aa rfl) <| zS rfl (bN rfl rfl) <| zm rfl <| aN (l := [12]) 60 (B ((decide ((a1.length : Int) = 0)) || (decide (x34 = 10)))) (fun K => ?_) ?_
 ·rcases af (decide ((a1.length : Int) = 0)) with h31 | h31
  ·refine zF h31 rfl <| zF h31 rfl <| zF h31 rfl <| zF h31 rfl <| zF h31 rfl <| zF h31 rfl <| zF h31 rfl <| zS rfl (ax (av := .v _) rfl h31 rfl) ?_;exact K _ 7 _ (ap (fT h31)) rfl rfl
  ·refine zU h31 rfl (ag (av := slE _ _ _) rfl) <| zU h31 rfl (ag (av := slE _ _ _) rfl) <| zU h31 rfl (aU aa rfl) <| zU h31 rfl (kg rfl rfl (g32 (nf h31))) <| zU h31 rfl (bq (E := Enc.byte) aa (by kernel_rfl) rfl rfl (g33 (nf h31)) e35) <| zU h31 rfl (aI aJ rfl rfl) <| zU h31 rfl (eo (a := x34) (b := 10) rfl rfl) <| zS rfl (aw (av := .v _) rfl h31 rfl) ?_;exact K _ 7 _ (ap (fU h31)) rfl rfl
 refine za rfl <| ak <| aR ?_;obtain rfl := aC H;exact And.intro rfl (Exists.intro _ (Exists.intro _ ⟨aV rfl (.refl _), aL [] rfl, rfl, rfl⟩))
set_option maxRecDepth 100000 in
set_option maxHeartbeats 1000000 in
theorem mJ (F : Nat) (a1 : List UInt8) (q2 : Option Nat) (r3 : List UInt8) (r4 : Int) (H : gi F a1 = some (r3, r4)) : ACalls Tryz.prog 41 [slE Enc.byte a1 q2] [] (Ret (.tup [slE Enc.byte r3 none, i64 r4]) []) := by
 unfold gi at H
 refine aA Tryz.func41 rfl rfl ?_;show AW _ _ 47 _ _ _;refine aj <| ac ?_;show AR _ _ _ _ _ [0, 1] _;refine za rfl <| za rfl <| ak <| aj ?_;obtain ⟨x5, e6, H⟩ := dG H;refine ac ?_;show AR _ _ _ _ _ [0, 1, 2] _;refine zS rfl (ag (av := slE _ _ _) rfl) <| ao rfl rfl (aQ rfl rr rfl (oL F a1 q2 x5 e6) ?_);refine za rfl <| ak <| aj <| aj <| ac ?_;show AR _ _ _ _ _ [0, 1] _;refine zm rfl <| zS rfl (dP rfl) <| ak <| aG rfl (fun c7 => ?_) (fun c7 => ?_)
 ·replace H := bk c7 H;refine aj <| ac ?_;show AR _ _ _ _ _ [0, 1] _;refine za rfl <| za rfl <| ak <| aR ?_;obtain ⟨rfl, rfl⟩ := fD H;exact And.intro rfl (Exists.intro _ (Exists.intro _ ⟨bK rfl (.nil _) (.refl _), aL [] rfl, rfl, rfl⟩))
 ·replace H := bb c7 H;refine aM <| aj <| ac ?_;show AR _ _ _ _ _ [0] _;refine za rfl <| ak ?_
  refine ky 5 1 5 rfl fun t8 => ?_
  show AW _ _ _ _ _ ⟨(5, slE Enc.byte [] (some t8)) :: _, _, _⟩;refine bX (X := (List UInt8) × Nat) (fun (y40, t41) => ⟨[(5, slE Enc.byte y40 (some t41))], [], [.tok t41 5]⟩) (fun (y40, t41) => eF y40 = some (r3, r4)) ?_ ?_
  ·refine aj <| ac ?_;show AR _ _ _ _ _ [0] _;refine za rfl <| ak <| bi <| dC (X := Nat × (List UInt8) × Nat × Int) (fun (n13, y9, t10, y11) => ⟨[(0, slE Enc.byte a1 q2), (5, slE Enc.byte y9 (some t10)), (6, i64 y11)], [], [.tok t10 5]⟩) (fun (n13, y9, t10, y11) => dd a1 n13 (y9, y11) = some (r3, r4)) (fun (n13, y9, t10, y11) => n13) (F, [], t8, 0) H (aY [0] (.cons (.refl _) (.cons (.refl _) (.cons (.refl _) (.nil _)))) rfl) ?_;rintro ⟨n13, y9, t10, y11⟩ H;obtain ⟨n13, rfl, H⟩ := fg H;replace H : eG a1 (dd a1 n13) y9 y11 = some (r3, r4) := H
   unfold eG at H
   refine aj <| aj <| ac ?_;show AR _ _ _ _ _ [0, 1, 2, 3] _;refine zm rfl <| zS rfl (ag (av := slE _ _ _) rfl) <| zS rfl (aU aa rfl) <| zS rfl (cf rfl rfl) <| ak <| aG rfl (fun c14 => ?_) (fun c14 => ?_)
   ·replace H := bk c14 H;refine aM <| aj <| bi <| bX (X := (List UInt8) × Nat) (fun (y29, t30) => ⟨[(0, slE Enc.byte a1 q2), (5, slE Enc.byte y29 (some t30)), (6, i64 y11)], [], [.tok t30 5]⟩) (fun (y29, t30) => dw a1 y11 (dd a1 n13) y29 = some (r3, r4)) ?_ ?_
    ·refine aj ?_;obtain ⟨g15, H⟩ := aX H;obtain ⟨x16, e17, H⟩ := cc H;obtain ⟨g20, H⟩ := cE H;obtain ⟨g21, H⟩ := cE H;obtain ⟨x22, e23, H⟩ := cc H;refine ac ?_;show AR _ _ _ _ _ [0, 1, 2, 3, 4, 5, 6, 7, 8, 9, 10, 11, 12, 13, 14, 15, 16] _;refine zS rfl (ag (av := slE _ _ _) rfl) <| zm rfl <| zS rfl (bq (E := Enc.byte) aa (by kernel_rfl) rfl rfl g15 e17) <| zS rfl (aI aJ rfl rfl) <| zS rfl (eo (a := x16) (b := 46) rfl rfl) <| zm rfl <| aN (l := []) 33 (B ((decide (x16 = 46)) && ((decide (y11 = 0)) || (decide (x22 = 10))))) (fun K => ?_) ?_
     ·rcases af (decide (x16 = 46)) with h18 | h18
      ·refine zM h18 rfl <| zU h18 rfl (bN rfl rfl) <| zM h18 rfl <| aN (l := [16]) 32 (B ((decide (y11 = 0)) || (decide (x22 = 10)))) (fun K => ?_) ?_
       ·rcases af (decide (y11 = 0)) with h19 | h19
        ·refine zF h19 rfl <| zF h19 rfl <| zF h19 rfl <| zF h19 rfl <| zF h19 rfl <| zF h19 rfl <| zU h18 rfl (ax (av := .v _) rfl h19 rfl) ?_;exact K _ 6 _ (ap (fT h19)) rfl rfl
        ·refine zU h19 rfl (ag (av := slE _ _ _) rfl) <| zM h19 rfl <| zU h19 rfl (kg rfl rfl (g20 (dN h18 (nf h19)))) <| zU h19 rfl (bq (E := Enc.byte) aa (by kernel_rfl) rfl rfl (g21 (dN h18 (nf h19))) e23) <| zU h19 rfl (aI aJ rfl rfl) <| zU h19 rfl (eo (a := x22) (b := 10) rfl rfl) <| zU h18 rfl (aw (av := .v _) rfl h19 rfl) ?_;exact K _ 6 _ (ap (fU h19)) rfl rfl
       refine zS rfl (ax (av := .v _) rfl h18 rfl) ?_;exact K _ 4 _ (ap (bZ h18)) rfl rfl
      ·refine zF h18 rfl <| zF h18 rfl <| zF h18 rfl <| gU rfl rfl rfl rfl rfl <| gU rfl rfl rfl rfl rfl <| gU rfl rfl rfl rfl rfl <| gU rfl rfl rfl rfl rfl <| gU rfl rfl rfl rfl rfl <| gU rfl rfl rfl rfl rfl <| zF h18 rfl <| zS rfl (aw (av := .v _) rfl h18 rfl) ?_;exact K _ 10 _ (ap (ca h18)) rfl rfl
     refine ak <| aG rfl (fun c24 => ?_) (fun c24 => ?_)
     ·replace H := bk c24 H;obtain ⟨g26, H⟩ := aX H;obtain ⟨x27, e28, H⟩ := cc H;refine ac ?_;show AR _ _ _ _ _ [0, 1, 2, 3] _;refine zS rfl (ag (av := slE _ _ _) rfl) <| zR rfl (bU (E := Enc.byte) (bytes := 1) (xs := [.const _]) (l := ([46] : List UInt8)) aa (by kernel_rfl) rfl rfl (by decide) rfl rfl) <| zX rfl (dK (E := Enc.byte) (bytes := 1) 0 aa aa rfl (by kernel_rfl) rfl rfl rfl rfl g26 e28) ?_;rintro _ _ ⟨t25, rfl, rfl⟩;refine zS rfl (ay (av := slE _ _ _) rfl) <| ak ?_;exact Exists.intro (x27, t25) ⟨H, aY [0] (.cons (.refl _) (.cons (.refl _) (.cons (.refl _) (.nil _)))) rfl⟩
     ·replace H := bb c24 H;refine aM ?_;exact Exists.intro (y9, t10) ⟨H, aY [0] (.cons (.refl _) (.cons (.refl _) (.cons (.refl _) (.nil _)))) rfl⟩
    rintro ⟨y29, t30⟩ H;replace H : dw a1 y11 (dd a1 n13) y29 = some (r3, r4) := H
    unfold dw at H
    obtain ⟨g32, H⟩ := aX H;obtain ⟨x33, e34, H⟩ := cc H;obtain ⟨g36, H⟩ := aX H;obtain ⟨x37, e38, H⟩ := cc H;refine ac ?_;show AR _ _ _ _ _ [0, 1, 2, 3, 4, 5, 6, 7] _;refine zS rfl (ag (av := slE _ _ _) rfl) <| zS rfl (ag (av := slE _ _ _) rfl) <| zm rfl <| zS rfl (bq (E := Enc.byte) aa (by kernel_rfl) rfl rfl g32 e34) <| zS rfl (aI aJ rfl rfl) <| zR rfl (bU (E := Enc.byte) (bytes := 1) (xs := [.tmp 41]) (l := ([x33] : List UInt8)) aa (by kernel_rfl) rfl rfl (by decide) rfl rfl) <| zX rfl (dK (E := Enc.byte) (bytes := 1) 0 aa aa rfl (by kernel_rfl) rfl rfl rfl rfl g36 e38) ?_;rintro _ _ ⟨t35, rfl, rfl⟩;refine zS rfl (ay (av := slE _ _ _) rfl) <| ak ?_;obtain ⟨g39, H⟩ := aX H;refine ac ?_;show AR _ _ _ _ _ [0, 1, 2] _;refine zm rfl <| zS rfl (eZ rfl rfl g39) <| za rfl <| ak ?_;exact Exists.intro (n13, x37, t35, y11 + 1) ⟨H, Nat.lt_succ_self _, aY [0] (.cons (.refl _) (.cons (.refl _) (.cons (.refl _) (.nil _)))) rfl⟩
   ·replace H := bb c14 H;refine dk ?_;exact Exists.intro (y9, t10) ⟨H, aY [0] (.cons (.refl _) (.nil _)) rfl⟩
  rintro ⟨y40, t41⟩ H;replace H : eF y40 = some (r3, r4) := H
  unfold eF at H
  refine aj ?_;obtain ⟨g44, H⟩ := aX H;obtain ⟨x45, e46, H⟩ := cc H;refine ac ?_;show AR _ _ _ _ _ [0, 1, 2, 3, 4] _;refine zS rfl (ag (av := slE _ _ _) rfl) <| zR rfl (bU (E := Enc.byte) (bytes := 1) (xs := [.const _, .const _, .const _]) (l := ([46, 13, 10] : List UInt8)) aa (by kernel_rfl) rfl rfl (by decide) rfl rfl) <| zX rfl (dK (E := Enc.byte) (bytes := 1) 0 aa aa rfl (by kernel_rfl) rfl rfl rfl rfl g44 e46) ?_;rintro _ _ ⟨t43, rfl, rfl⟩;refine zS rfl (ay (av := slE _ _ _) rfl) <| za rfl <| ak <| aR ?_;obtain ⟨rfl, rfl⟩ := fD H;exact And.intro rfl (Exists.intro _ (Exists.intro _ ⟨bK rfl (.tok _ _ _) (.refl _), aL [] rfl, rfl, rfl⟩))
set_option maxRecDepth 100000 in
set_option maxHeartbeats 1000000 in
theorem lD (F : Nat) (a1 : List UInt8) (q2 : Option Nat) (r3 : List UInt8) (r4 : Int) (H : fa F a1 = some (r3, r4)) : ACalls Tryz.prog 19 [slE Enc.byte a1 q2] [] (Ret (.tup [slE Enc.byte r3 none, i64 r4]) []) := by
 unfold fa at H
 refine aA Tryz.func19 rfl rfl ?_;show AW _ _ 57 _ _ _;refine aj <| ac ?_;show AR _ _ _ _ _ [0, 1] _;refine za rfl <| za rfl <| ak <| aj <| aj <| ac ?_;show AR _ _ _ _ _ [0, 1, 2] _;refine zS rfl (ag (av := slE _ _ _) rfl) <| zS rfl (aU aa rfl) <| zS rfl (cf rfl rfl) <| ak <| aG rfl (fun c5 => ?_) (fun c5 => ?_)
 ·replace H := bk c5 H;refine aj <| ac ?_;show AR _ _ _ _ _ [0, 1] _;refine za rfl <| za rfl <| ak <| aR ?_;obtain ⟨rfl, rfl⟩ := fD H;exact And.intro rfl (Exists.intro _ (Exists.intro _ ⟨bK rfl (.nil _) (.refl _), aL [] rfl, rfl, rfl⟩))
 ·replace H := bb c5 H;refine aM <| aj <| ac ?_;show AR _ _ _ _ _ [0] _;refine za rfl <| ak ?_
  refine ky 4 1 5 rfl fun t6 => ?_
  show AW _ _ _ _ _ ⟨(4, slE Enc.byte [] (some t6)) :: _, _, _⟩;refine bX (X := (List UInt8) × Nat) (fun (y35, t36) => ⟨[(0, slE Enc.byte a1 q2), (4, slE Enc.byte y35 (some t36))], [], [.tok t36 5]⟩) (fun (y35, t36) => dm F a1 y35 = some (r3, r4)) ?_ ?_
  ·refine aj <| ac ?_;show AR _ _ _ _ _ [0] _;refine za rfl <| ak <| bi <| dC (X := Nat × (List UInt8) × Nat × Int) (fun (n11, y7, t8, y9) => ⟨[(0, slE Enc.byte a1 q2), (4, slE Enc.byte y7 (some t8)), (5, i64 y9)], [], [.tok t8 5]⟩) (fun (n11, y7, t8, y9) => bH F a1 n11 (y7, y9) = some (r3, r4)) (fun (n11, y7, t8, y9) => n11) (F, [], t6, 0) H (aY [0] (.cons (.refl _) (.cons (.refl _) (.cons (.refl _) (.nil _)))) rfl) ?_;rintro ⟨n11, y7, t8, y9⟩ H;obtain ⟨n11, rfl, H⟩ := fg H;replace H : cr F a1 (bH F a1 n11) y7 y9 = some (r3, r4) := H
   unfold cr at H
   refine aj <| aj ?_;obtain ⟨g12, H⟩ := aX H;refine ac ?_;show AR _ _ _ _ _ [0, 1, 2, 3, 4] _;refine zm rfl <| zS rfl (ag (av := slE _ _ _) rfl) <| zS rfl (aU aa rfl) <| zS rfl (kg rfl rfl g12) <| zS rfl (cf rfl rfl) <| ak <| aG rfl (fun c13 => ?_) (fun c13 => ?_)
   ·replace H := bk c13 H;refine aM <| bX (X := (List UInt8) × Nat) (fun (y31, t32) => ⟨[(0, slE Enc.byte a1 q2), (4, slE Enc.byte y31 (some t32)), (5, i64 y9)], [], [.tok t32 5]⟩) (fun (y31, t32) => cP y9 (bH F a1 n11) y31 = some (r3, r4)) ?_ ?_
    ·refine bi <| aj <| aj ?_;obtain ⟨g14, H⟩ := aX H;obtain ⟨x15, e16, H⟩ := cc H;obtain ⟨g19, H⟩ := cE H;obtain ⟨g20, H⟩ := cE H;obtain ⟨x21, e22, H⟩ := cc H;refine ac ?_;show AR _ _ _ _ _ [0, 1, 2, 3, 4, 5, 6, 7, 8, 9, 10, 11, 12, 13, 14, 15, 16] _;refine zS rfl (ag (av := slE _ _ _) rfl) <| zm rfl <| zS rfl (bq (E := Enc.byte) aa (by kernel_rfl) rfl rfl g14 e16) <| zS rfl (aI aJ rfl rfl) <| zS rfl (eo (a := x15) (b := 46) rfl rfl) <| zm rfl <| aN (l := []) 34 (B ((decide (x15 = 46)) && ((decide (y9 = 0)) || (decide (x21 = 10))))) (fun K => ?_) ?_
     ·rcases af (decide (x15 = 46)) with h17 | h17
      ·refine zM h17 rfl <| zU h17 rfl (bN rfl rfl) <| zM h17 rfl <| aN (l := [16]) 33 (B ((decide (y9 = 0)) || (decide (x21 = 10)))) (fun K => ?_) ?_
       ·rcases af (decide (y9 = 0)) with h18 | h18
        ·refine zF h18 rfl <| zF h18 rfl <| zF h18 rfl <| zF h18 rfl <| zF h18 rfl <| zF h18 rfl <| zU h17 rfl (ax (av := .v _) rfl h18 rfl) ?_;exact K _ 6 _ (ap (fT h18)) rfl rfl
        ·refine zU h18 rfl (ag (av := slE _ _ _) rfl) <| zM h18 rfl <| zU h18 rfl (kg rfl rfl (g19 (dN h17 (nf h18)))) <| zU h18 rfl (bq (E := Enc.byte) aa (by kernel_rfl) rfl rfl (g20 (dN h17 (nf h18))) e22) <| zU h18 rfl (aI aJ rfl rfl) <| zU h18 rfl (eo (a := x21) (b := 10) rfl rfl) <| zU h17 rfl (aw (av := .v _) rfl h18 rfl) ?_;exact K _ 6 _ (ap (fU h18)) rfl rfl
       refine zS rfl (ax (av := .v _) rfl h17 rfl) ?_;exact K _ 4 _ (ap (bZ h17)) rfl rfl
      ·refine zF h17 rfl <| zF h17 rfl <| zF h17 rfl <| gU rfl rfl rfl rfl rfl <| gU rfl rfl rfl rfl rfl <| gU rfl rfl rfl rfl rfl <| gU rfl rfl rfl rfl rfl <| gU rfl rfl rfl rfl rfl <| gU rfl rfl rfl rfl rfl <| zF h17 rfl <| zS rfl (aw (av := .v _) rfl h17 rfl) ?_;exact K _ 10 _ (ap (ca h17)) rfl rfl
     refine ak <| aG rfl (fun c23 => ?_) (fun c23 => ?_)
     ·replace H := bk c23 H;refine dk ?_;exact Exists.intro (y7, t8) ⟨H, aY [0] (.cons (.refl _) (.cons (.refl _) (.cons (.refl _) (.nil _)))) rfl⟩
     ·replace H := bb c23 H;refine aM ?_;obtain ⟨g24, H⟩ := aX H;obtain ⟨x25, e26, H⟩ := cc H;obtain ⟨g28, H⟩ := aX H;obtain ⟨x29, e30, H⟩ := cc H;refine ac ?_;show AR _ _ _ _ _ [0, 1, 2, 3, 4, 5, 6, 7] _;refine zS rfl (ag (av := slE _ _ _) rfl) <| zS rfl (ag (av := slE _ _ _) rfl) <| zm rfl <| zS rfl (bq (E := Enc.byte) aa (by kernel_rfl) rfl rfl g24 e26) <| zS rfl (aI aJ rfl rfl) <| zR rfl (bU (E := Enc.byte) (bytes := 1) (xs := [.tmp 39]) (l := ([x25] : List UInt8)) aa (by kernel_rfl) rfl rfl (by decide) rfl rfl) <| zX rfl (dK (E := Enc.byte) (bytes := 1) 0 aa aa rfl (by kernel_rfl) rfl rfl rfl rfl g28 e30) ?_;rintro _ _ ⟨t27, rfl, rfl⟩;refine zS rfl (ay (av := slE _ _ _) rfl) <| ak ?_;exact Exists.intro (x29, t27) ⟨H, aY [0] (.cons (.refl _) (.cons (.refl _) (.cons (.refl _) (.nil _)))) rfl⟩
    rintro ⟨y31, t32⟩ H;replace H : cP y9 (bH F a1 n11) y31 = some (r3, r4) := H
    unfold cP at H
    obtain ⟨g34, H⟩ := aX H;refine ac ?_;show AR _ _ _ _ _ [0, 1, 2] _;refine zm rfl <| zS rfl (eZ rfl rfl g34) <| za rfl <| ak ?_;exact Exists.intro (n11, y31, t32, y9 + 1) ⟨H, Nat.lt_succ_self _, aY [0] (.cons (.refl _) (.cons (.refl _) (.cons (.refl _) (.nil _)))) rfl⟩
   ·replace H := bb c13 H;refine dk ?_;exact Exists.intro (y7, t8) ⟨H, aY [0] (.cons (.refl _) (.cons (.refl _) (.nil _))) rfl⟩
  rintro ⟨y35, t36⟩ H;replace H : dm F a1 y35 = some (r3, r4) := H
  unfold dm at H
  refine aj ?_;obtain ⟨x38, x39, e40, H⟩ := dL H;refine ac ?_;show AR _ _ _ _ _ [0, 1, 2, 3, 4, 5, 6] _;refine zS rfl (ag (av := slE _ _ _) rfl) <| ao rfl rfl (aQ rfl rm rfl (mJ F y35 (some t36) x38 x39 e40) ?_);refine zS rfl (ag (av := .tup _) rfl) <| zS rfl (aF (av := slE _ _ _) rfl rfl) <| zS rfl (aF (av := .v _) rfl rfl) <| zS rfl (ay (av := slE _ _ _) rfl) <| za rfl <| ak <| aj <| aj <| ac ?_;show AR _ _ _ _ _ [0, 1, 2, 3, 4, 5, 6, 7, 8] _;refine zm rfl <| zS rfl (eE rfl rfl) <| zm rfl <| aN (l := []) 55 (B ((!decide (x39 = 0)) || (!decide (x38 = a1)))) (fun K => ?_) ?_
  ·rcases af (!decide (x39 = 0)) with h41 | h41
   ·refine zF h41 rfl <| zF h41 rfl <| zF h41 rfl <| zF h41 rfl <| zF h41 rfl <| zS rfl (ax (av := .v _) rfl h41 rfl) ?_;exact K _ 5 _ (ap (fT h41)) rfl rfl
   ·refine zU h41 rfl (ag (av := slE _ _ _) rfl) <| zU h41 rfl (cB aa aJ al rfl) <| zU h41 rfl (ag (av := slE _ _ _) rfl) <| zU h41 rfl (cB aa aJ al rfl) <| zU h41 rfl (ol rfl rfl) <| zS rfl (aw (av := .v _) rfl h41 rfl) ?_;exact K _ 5 _ (ap (fU h41)) rfl rfl
  refine ak <| aG rfl (fun c42 => ?_) (fun c42 => ?_)
  ·replace H := bk c42 H;refine aj <| ac ?_;show AR _ _ _ _ _ [0, 1] _;refine za rfl <| za rfl <| ak <| aR ?_;obtain ⟨rfl, rfl⟩ := fD H;exact And.intro rfl (Exists.intro _ (Exists.intro _ ⟨bK rfl (.nil _) (.refl _), aL [] rfl, rfl, rfl⟩))
  ·replace H := bb c42 H;refine aM <| aj <| ac ?_;show AR _ _ _ _ _ [0, 1, 2] _;refine zS rfl (ag (av := slE _ _ _) rfl) <| zS rfl (ay (av := slE _ _ _) rfl) <| za rfl <| ak <| aR ?_;obtain ⟨rfl, rfl⟩ := fD H;exact And.intro rfl (Exists.intro _ (Exists.intro _ ⟨bK rfl (.tok _ _ _) (.refl _), aL [] rfl, rfl, rfl⟩))
end Go.Proofs.YtgjkjkmmgdbcoaaGreatDoor
namespace Go.Pv
def cX (F : Nat) (a6 : List UInt8) (y96 : List UInt8) (y97 : Int) (y98 : Int) (y99 : List UInt8) (y100 : List UInt8) (y101 : List UInt8) (y102 : List UInt8) : Option Bool :=
hP (fa F y96) fun x104 x105 =>
some ((((decide (x105 = 0)) && (decide (x104 = a6))) && (decide (y98 = 1))) && (decide (y97 = 7)))
def cD (y55 : Int) (rec62 : ((List UInt8) × Int × Int × Int × (List UInt8) × (List UInt8) × (List UInt8) × (List UInt8)) → Option Bool) (y87 : List UInt8) (y88 : Int) (y89 : Int) (y90 : List UInt8) (y91 : List UInt8) (y92 : List UInt8) (y93 : List UInt8) : Option Bool :=
grd (okI (y55 + 1)) <|
rec62 (y87, y55 + 1, y88, y89, y90, y91, y92, y93)
def cW (y54 : List UInt8) (y55 : Int) (rec62 : ((List UInt8) × Int × Int × Int × (List UInt8) × (List UInt8) × (List UInt8) × (List UInt8)) → Option Bool) (y78 : List UInt8) (y79 : Int) (y80 : Int) (y81 : List UInt8) (y82 : List UInt8) (y83 : List UInt8) (y84 : List UInt8) : Option Bool :=
bif decide (y55 = 4) then
  cD y55 rec62 y78 y79 y80 y81 y82 y83 y84
else
  cD y55 rec62 y54 y79 y80 y81 y82 y83 y84
def ck (F : Nat) (a6 : List UInt8) (x36 : Int) (x39 : Int) (x42 : Int) (x45 : Int) (rec62 : ((List UInt8) × Int × Int × Int × (List UInt8) × (List UInt8) × (List UInt8) × (List UInt8)) → Option Bool) (y54 : List UInt8) (y55 : Int) (y56 : Int) (y57 : Int) (y58 : List UInt8) (y59 : List UInt8) (y60 : List UInt8) (y61 : List UInt8) : Option Bool :=
bif decide (y55 < (([220, x36, x39, x42, 354, x45, 221] : List Int).length : Int)) then
  grd (cA y55 ([220, x36, x39, x42, 354, x45, 221] : List Int).length) <|
  lt (at_ ([220, x36, x39, x42, 354, x45, 221] : List Int) y55) fun x66 =>
  bnd (kS F y56 y57 y58 y59 y60 y61 x66 ([([111, 107] : List UInt8)] : List (List UInt8)) 0 0 0) fun x68 =>
  cW y54 y55 rec62 x68.2.2.2.2.2.2 x68.1 x68.2.1 x68.2.2.1 x68.2.2.2.1 x68.2.2.2.2.1 x68.2.2.2.2.2.1
else
  cX F a6 y54 y56 y57 y58 y59 y60 y61
def bl (F : Nat) (a6 : List UInt8) (x36 : Int) (x39 : Int) (x42 : Int) (x45 : Int) (n : Nat) : ((List UInt8) × Int × Int × Int × (List UInt8) × (List UInt8) × (List UInt8) × (List UInt8)) → Option Bool :=
  loop (fun rec x => ck F a6 x36 x39 x42 x45 rec x.1 x.2.1 x.2.2.1 x.2.2.2.1 x.2.2.2.2.1 x.2.2.2.2.2.1 x.2.2.2.2.2.2.1 x.2.2.2.2.2.2.2) n
def cV (F : Nat) (a6 : List UInt8) (a7 : List Int) (x14 : Int × Int × (List UInt8) × (List UInt8) × (List UInt8) × (List UInt8) × Int) : Option Bool :=
grd (cA 0 a7.length) <|
lt (at_ a7 0) fun x36 =>
grd (cA 1 a7.length) <|
lt (at_ a7 1) fun x39 =>
grd (cA 2 a7.length) <|
lt (at_ a7 2) fun x42 =>
grd (cA 3 a7.length) <|
lt (at_ a7 3) fun x45 =>
bl F a6 x36 x39 x42 x45 F ([], 0, x14.1, x14.2.1, x14.2.2.1, x14.2.2.2.1, x14.2.2.2.2.1, x14.2.2.2.2.2.1)
def cZ (F : Nat) (a6 : List UInt8) (a7 : List Int) (x14 : Int × Int × (List UInt8) × (List UInt8) × (List UInt8) × (List UInt8) × Int) (rec22 : Int → Option Bool) (y21 : Int) : Option Bool :=
bif decide (y21 < 4) then
  grd (cA y21 a7.length) <|
  lt (at_ a7 y21) fun x26 =>
  dT (!(decide (x26 < 200))) (cA y21 a7.length) <|
  lt (at_ a7 y21) fun x30 =>
  bif (decide (x26 < 200)) || (decide (299 < x30)) then
    some true
  else
    grd (okI (y21 + 1)) <|
    rec22 (y21 + 1)
else
  cV F a6 a7 x14
def cY (F : Nat) (a6 : List UInt8) (a7 : List Int) (x14 : Int × Int × (List UInt8) × (List UInt8) × (List UInt8) × (List UInt8) × Int) (n : Nat) : Int → Option Bool :=
  loop (fun rec x => cZ F a6 a7 x14 rec x) n
def dB (F : Nat) (a1 : Int) (a2 : Int) (a3 : List UInt8) (a4 : List UInt8) (a5 : List UInt8) (a6 : List UInt8) (a7 : List Int) : Option Bool :=
bnd (gk F) fun x10 =>
bnd (iq F a1 a2 a3 a4 a5 a6) fun x12 =>
bnd (iw F a3 a4 a5 a6) fun x14 =>
bif (((!x10) || (!x12)) || (!decide (x14.2.2.2.2.2.2 = 0))) || (!decide ((a7.length : Int) = 4)) then
  some x10
else
  cY F a6 a7 x14 F 0
end Go.Pv
namespace Go.Proofs.YtgjkjkmmgdbcoaaGreatDoor
open Go.RowKit Go.Av Go.Pv
theorem ko : ∀ (args : Array Value) (w : World), (callFunc 10 args).run Tryz.prog w = .ok (.enter 10 args) w := fun _ _ => by kernel_rfl
theorem kn : ∀ (args : Array Value) (w : World), (callFunc 11 args).run Tryz.prog w = .ok (.enter 11 args) w := fun _ _ => by kernel_rfl
theorem km : ∀ (args : Array Value) (w : World), (callFunc 12 args).run Tryz.prog w = .ok (.enter 12 args) w := fun _ _ => by kernel_rfl
theorem ct : ∀ (args : Array Value) (w : World), (callFunc 18 args).run Tryz.prog w = .ok (.enter 18 args) w := fun _ _ => by kernel_rfl
theorem kl : ∀ (args : Array Value) (w : World), (callFunc 19 args).run Tryz.prog w = .ok (.enter 19 args) w := fun _ _ => by kernel_rfl
abbrev _root_.Go.Av.bP := @Tryz.underlying36
set_option maxRecDepth 100000 in
set_option maxHeartbeats 1000000 in
theorem jA (F : Nat) (a1 : Int) (a2 : Int) (a3 : List UInt8) (a4 : List UInt8) (a5 : List UInt8) (a6 : List UInt8) (a7 : List Int) (q8 : Option Nat) (r9 : Bool) (H : dB F a1 a2 a3 a4 a5 a6 a7 = some r9) : ACalls Tryz.prog 5 [.agg [i64 a1, i64 a2, S a3, S a4, S a5, slE Enc.byte a6 none], slE Enc.int a7 q8] [] (Ret (B r9) []) := by
 unfold dB at H
 refine aA Tryz.func5 rfl rfl ?_;show AW _ _ 123 _ _ _;refine aj <| ac ?_;show AR _ _ _ _ _ [0, 1] _;refine zR rfl (cM rfl (.inr ⟨_, rfl⟩)) <| za rfl <| ak <| aj ?_;obtain ⟨x10, e11, H⟩ := dG H;refine ac ?_;show AR _ _ _ _ _ [0, 1] _;refine ao rfl rfl (aQ rfl ko rfl (mK F x10 e11) ?_);refine za rfl <| ak <| aj ?_;obtain ⟨x12, e13, H⟩ := dG H;refine ac ?_;show AR _ _ _ _ _ [0, 1, 2] _;refine zS rfl (bt aO rfl (n := 6) (by kernel_rfl) rfl (ab rfl)) <| ao rfl rfl (aQ rfl kn rfl (oM F a1 a2 a3 a4 a5 a6 x12 e13) ?_);refine za rfl <| ak <| aj ?_;obtain ⟨x14, e15, H⟩ := dG H;refine ac ?_;show AR _ _ _ _ _ [0, 1, 2, 3, 4, 5, 6, 7, 8, 9, 10, 11, 12, 13, 14] _;refine zS rfl (be (n := 2) (by kernel_rfl) rfl (ab rfl)) <| zS rfl (aI al rfl rfl) <| zS rfl (be (n := 3) (by kernel_rfl) rfl (ab rfl)) <| zS rfl (aI al rfl rfl) <| zS rfl (be (n := 4) (by kernel_rfl) rfl (ab rfl)) <| zS rfl (aI al rfl rfl) <| zS rfl (be (n := 5) (by kernel_rfl) rfl (ab rfl)) <| zS rfl (aI aa rfl rfl) <| ao rfl rfl (aQ rfl km rfl (mf F a3 a4 a5 a6 none x14.1 x14.2.1 x14.2.2.1 x14.2.2.2.1 x14.2.2.2.2.1 x14.2.2.2.2.2.1 x14.2.2.2.2.2.2 e15) ?_)
 refine zS rfl (ag (av := .tup _) rfl) <| zS rfl (aF (av := .agg _) rfl rfl) <| zS rfl (aF (av := .v _) rfl rfl) <| zX rfl (bQ (zs := [.int .i64 0, .int .i64 0, .string ⟨#[]⟩, .string ⟨#[]⟩, .string ⟨#[]⟩, .slice none 0 0]) (by kernel_rfl)) ?_;rintro _ _ ⟨o16, rfl, rfl⟩;refine s0 rfl rfl (aP (i := 0) (vs := [i64 x14.1, i64 x14.2.1, S x14.2.2.1, S x14.2.2.2.1, S x14.2.2.2.2.1, slE Enc.byte x14.2.2.2.2.2.1 none]) (by kernel_rfl) rfl rfl (by simp [bw, slE]) rfl (ab rfl)) <| za rfl <| ak <| aj <| aj <| ac ?_;show AR _ _ _ _ _ [0, 1, 2, 3, 4, 5, 6, 7, 8, 9, 10, 11, 12, 13, 14] _;refine zm rfl <| zS rfl (dP rfl) <| zm rfl <| aN (l := [6, 7, 8, 9, 10, 11, 12, 13, 14]) 37 (B ((!x10) || (!x12))) (fun K => ?_) ?_
 ·rcases af (!x10) with h17 | h17
  ·refine zF h17 rfl <| zF h17 rfl <| zS rfl (ax (av := .v _) rfl h17 rfl) ?_;exact K _ 2 _ (ap (fT h17)) rfl rfl
  ·refine zM h17 rfl <| zU h17 rfl (dP rfl) <| zS rfl (aw (av := .v _) rfl h17 rfl) ?_;exact K _ 2 _ (ap (fU h17)) rfl rfl
 refine zm rfl <| aN (l := [10, 11, 12, 13, 14]) 41 (B (((!x10) || (!x12)) || (!decide (x14.2.2.2.2.2.2 = 0)))) (fun K => ?_) ?_
 ·rcases af ((!x10) || (!x12)) with h18 | h18
  ·refine zF h18 rfl <| zF h18 rfl <| zS rfl (ax (av := .v _) rfl h18 rfl) ?_;exact K _ 2 _ (ap (fT h18)) rfl rfl
  ·refine zM h18 rfl <| zU h18 rfl (eE rfl rfl) <| zS rfl (aw (av := .v _) rfl h18 rfl) ?_;exact K _ 2 _ (ap (fU h18)) rfl rfl
 refine zm rfl <| aN (l := []) 46 (B ((((!x10) || (!x12)) || (!decide (x14.2.2.2.2.2.2 = 0))) || (!decide ((a7.length : Int) = 4)))) (fun K => ?_) ?_
 ·rcases af (((!x10) || (!x12)) || (!decide (x14.2.2.2.2.2.2 = 0))) with h19 | h19
  ·refine zF h19 rfl <| zF h19 rfl <| zF h19 rfl <| zS rfl (ax (av := .v _) rfl h19 rfl) ?_;exact K _ 3 _ (ap (fT h19)) rfl rfl
  ·refine zU h19 rfl (ag (av := slE _ _ _) rfl) <| zU h19 rfl (aU bP rfl) <| zU h19 rfl (eE rfl rfl) <| zS rfl (aw (av := .v _) rfl h19 rfl) ?_;exact K _ 3 _ (ap (fU h19)) rfl rfl
 refine ak <| aG rfl (fun c20 => ?_) (fun c20 => ?_)
 ·replace H := bk c20 H;refine aj <| ac ?_;show AR _ _ _ _ _ [0, 1] _;refine zm rfl <| za rfl <| ak <| aR ?_;obtain rfl := aC H;exact And.intro rfl (Exists.intro _ (Exists.intro _ ⟨aV rfl (.refl _), aL [] rfl, rfl, rfl⟩))
 ·replace H := bb c20 H;refine aM <| bX (X := Unit) (fun _ => ⟨[(1, slE Enc.int a7 q8), (2, .cp [i64 a1, i64 a2, S a3, S a4, S a5, slE Enc.byte a6 none]), (7, .pt o16 0)], [], [.obj o16 [i64 x14.1, i64 x14.2.1, S x14.2.2.1, S x14.2.2.2.1, S x14.2.2.2.2.1, slE Enc.byte x14.2.2.2.2.2.1 none]]⟩) (fun _ => cV F a6 a7 x14 = some r9) ?_ ?_
  ·refine aj <| ac ?_;show AR _ _ _ _ _ [0] _;refine za rfl <| ak <| bi <| dC (X := Nat × Int) (fun (n23, y21) => ⟨[(1, slE Enc.int a7 q8), (2, .cp [i64 a1, i64 a2, S a3, S a4, S a5, slE Enc.byte a6 none]), (7, .pt o16 0), (9, i64 y21)], [], [.obj o16 [i64 x14.1, i64 x14.2.1, S x14.2.2.1, S x14.2.2.2.1, S x14.2.2.2.2.1, slE Enc.byte x14.2.2.2.2.2.1 none]]⟩) (fun (n23, y21) => cY F a6 a7 x14 n23 y21 = some r9) (fun (n23, y21) => n23) (F, 0) H (aY [0] (.cons (.refl _) (.cons (.refl _) (.cons (.refl _) (.cons (.refl _) (.nil _))))) rfl) ?_;rintro ⟨n23, y21⟩ H;obtain ⟨n23, rfl, H⟩ := fg H;replace H : cZ F a6 a7 x14 (cY F a6 a7 x14 n23) y21 = some r9 := H
   unfold cZ at H
   refine aj <| aj <| ac ?_;show AR _ _ _ _ _ [0, 1] _;refine zm rfl <| zS rfl (cf rfl rfl) <| ak <| aG rfl (fun c24 => ?_) (fun c24 => ?_)
   ·replace H := bk c24 H;refine aM <| aj <| bi <| aj ?_;obtain ⟨g25, H⟩ := aX H;obtain ⟨x26, e27, H⟩ := cc H;obtain ⟨g29, H⟩ := cE H;obtain ⟨x30, e31, H⟩ := cc H;refine ac ?_;show AR _ _ _ _ _ [0, 1, 2, 3, 4, 5, 6, 7, 8, 9, 10, 11] _;refine zS rfl (ag (av := slE _ _ _) rfl) <| zm rfl <| zS rfl (bq (E := Enc.int) bP (by kernel_rfl) rfl rfl g25 e27) <| zS rfl (aI aq rfl rfl) <| zS rfl (cf rfl rfl) <| zm rfl <| aN (l := []) 63 (B ((decide (x26 < 200)) || (decide (299 < x30)))) (fun K => ?_) ?_
    ·rcases af (decide (x26 < 200)) with h28 | h28
     ·refine zF h28 rfl <| zF h28 rfl <| zF h28 rfl <| zF h28 rfl <| zF h28 rfl <| zS rfl (ax (av := .v _) rfl h28 rfl) ?_;exact K _ 5 _ (ap (fT h28)) rfl rfl
     ·refine zU h28 rfl (ag (av := slE _ _ _) rfl) <| zM h28 rfl <| zU h28 rfl (bq (E := Enc.int) bP (by kernel_rfl) rfl rfl (g29 (nf h28)) e31) <| zU h28 rfl (aI aq rfl rfl) <| zU h28 rfl (ii rfl rfl) <| zS rfl (aw (av := .v _) rfl h28 rfl) ?_;exact K _ 5 _ (ap (fU h28)) rfl rfl
    refine ak <| aG rfl (fun c32 => ?_) (fun c32 => ?_)
    ·replace H := bk c32 H;refine aj <| ac ?_;show AR _ _ _ _ _ [0] _;refine za rfl <| ak <| aR ?_;obtain rfl := aC H;exact And.intro rfl (Exists.intro _ (Exists.intro _ ⟨aV rfl (.refl _), aL [] rfl, rfl, rfl⟩))
    ·replace H := bb c32 H;refine aM ?_;obtain ⟨g33, H⟩ := aX H;refine ac ?_;show AR _ _ _ _ _ [0, 1, 2] _;refine zm rfl <| zS rfl (eZ rfl rfl g33) <| za rfl <| ak ?_;exact Exists.intro (n23, y21 + 1) ⟨H, Nat.lt_succ_self _, aY [0] (.cons (.refl _) (.cons (.refl _) (.cons (.refl _) (.cons (.refl _) (.nil _))))) rfl⟩
   ·replace H := bb c24 H;refine dk ?_;exact Exists.intro () ⟨H, aY [0] (.cons (.refl _) (.cons (.refl _) (.cons (.refl _) (.nil _)))) rfl⟩
  rintro _ H;replace H : cV F a6 a7 x14 = some r9 := H
  unfold cV at H
  refine aj ?_;obtain ⟨g35, H⟩ := aX H;obtain ⟨x36, e37, H⟩ := cc H;obtain ⟨g38, H⟩ := aX H;obtain ⟨x39, e40, H⟩ := cc H;obtain ⟨g41, H⟩ := aX H;obtain ⟨x42, e43, H⟩ := cc H;obtain ⟨g44, H⟩ := aX H;obtain ⟨x45, e46, H⟩ := cc H;refine bn (by kernel_rfl) ?_;show AI _ _ _ _ _ 14 (Array.replicate 14 false) _;refine zk 0 rfl (ag (av := slE _ _ _) rfl) ?_;show AI _ _ _ _ _ _ #[true, false, false, false, false, false, false, false, false, false, false, false, false, false] _;refine zk 1 rfl (bq (E := Enc.int) bP (by kernel_rfl) rfl rfl g35 e37) ?_;show AI _ _ _ _ _ _ #[true, true, false, false, false, false, false, false, false, false, false, false, false, false] _;refine zk 2 rfl (aI aq rfl rfl) ?_;show AI _ _ _ _ _ _ #[true, true, true, false, false, false, false, false, false, false, false, false, false, false] _;refine zk 3 rfl (ag (av := slE _ _ _) rfl) ?_;show AI _ _ _ _ _ _ #[true, true, true, true, false, false, false, false, false, false, false, false, false, false] _;refine zk 4 rfl (bq (E := Enc.int) bP (by kernel_rfl) rfl rfl g38 e40) ?_;show AI _ _ _ _ _ _ #[true, true, true, true, true, false, false, false, false, false, false, false, false, false] _;refine zk 5 rfl (aI aq rfl rfl) ?_;show AI _ _ _ _ _ _ #[true, true, true, true, true, true, false, false, false, false, false, false, false, false] _;refine zk 6 rfl (ag (av := slE _ _ _) rfl) ?_
  show AI _ _ _ _ _ _ #[true, true, true, true, true, true, true, false, false, false, false, false, false, false] _;refine zk 7 rfl (bq (E := Enc.int) bP (by kernel_rfl) rfl rfl g41 e43) ?_;show AI _ _ _ _ _ _ #[true, true, true, true, true, true, true, true, false, false, false, false, false, false] _;refine zk 8 rfl (aI aq rfl rfl) ?_;show AI _ _ _ _ _ _ #[true, true, true, true, true, true, true, true, true, false, false, false, false, false] _;refine zk 9 rfl (ag (av := slE _ _ _) rfl) ?_;show AI _ _ _ _ _ _ #[true, true, true, true, true, true, true, true, true, true, false, false, false, false] _;refine zk 10 rfl (bq (E := Enc.int) bP (by kernel_rfl) rfl rfl g44 e46) ?_;show AI _ _ _ _ _ _ #[true, true, true, true, true, true, true, true, true, true, true, false, false, false] _;refine zk 11 rfl (aI aq rfl rfl) ?_;show AI _ _ _ _ _ _ #[true, true, true, true, true, true, true, true, true, true, true, true, false, false] _;refine aE (i := 12) (by kernel_rfl) rfl rfl <| aH rfl (bU (E := Enc.int) (bytes := 8) (xs := [.const _, .tmp 66, .tmp 69, .tmp 72, .const _, .tmp 75, .const _]) (l := ([220, x36, x39, x42, 354, x45, 221] : List Int)) bP (by kernel_rfl) rfl rfl (by decide) rfl rfl) ?_;show AI _ _ _ _ _ _ #[true, true, true, true, true, true, true, true, true, true, true, true, true, false] _;refine zk 13 rfl (ay (av := slE _ _ _) rfl) ?_
  show AI _ _ _ _ _ _ #[true, true, true, true, true, true, true, true, true, true, true, true, true, true] _;refine aZ rfl <| aj <| ac ?_;show AR _ _ _ _ _ [0] _;refine za rfl <| ak <| bX (X := (List UInt8) × Int × Int × (List UInt8) × (List UInt8) × (List UInt8) × (List UInt8)) (fun (y96, y97, y98, y99, y100, y101, y102) => ⟨[(2, .cp [i64 a1, i64 a2, S a3, S a4, S a5, slE Enc.byte a6 none]), (7, .pt o16 0), (11, slE Enc.byte y96 none)], [], [.obj o16 [i64 y97, i64 y98, S y99, S y100, S y101, slE Enc.byte y102 none]]⟩) (fun (y96, y97, y98, y99, y100, y101, y102) => cX F a6 y96 y97 y98 y99 y100 y101 y102 = some r9) ?_ ?_
  ·refine aj <| ac ?_;show AR _ _ _ _ _ [0] _;refine za rfl <| ak <| bi <| dC (X := Nat × (List UInt8) × Int × Int × Int × (List UInt8) × (List UInt8) × (List UInt8) × (List UInt8)) (fun (n63, y54, y55, y56, y57, y58, y59, y60, y61) => ⟨[(2, .cp [i64 a1, i64 a2, S a3, S a4, S a5, slE Enc.byte a6 none]), (7, .pt o16 0), (10, slE Enc.int ([220, x36, x39, x42, 354, x45, 221] : List Int) none), (11, slE Enc.byte y54 none), (12, i64 y55)], [], [.obj o16 [i64 y56, i64 y57, S y58, S y59, S y60, slE Enc.byte y61 none]]⟩) (fun (n63, y54, y55, y56, y57, y58, y59, y60, y61) => bl F a6 x36 x39 x42 x45 n63 (y54, y55, y56, y57, y58, y59, y60, y61) = some r9) (fun (n63, y54, y55, y56, y57, y58, y59, y60, y61) => n63) (F, [], 0, x14.1, x14.2.1, x14.2.2.1, x14.2.2.2.1, x14.2.2.2.2.1, x14.2.2.2.2.2.1) H (aY [0] (.cons (.refl _) (.cons (.refl _) (.cons (.refl _) (.cons (.nil _) (.cons (.refl _) (.nil _)))))) rfl) ?_;rintro ⟨n63, y54, y55, y56, y57, y58, y59, y60, y61⟩ H;obtain ⟨n63, rfl, H⟩ := fg H;replace H : ck F a6 x36 x39 x42 x45 (bl F a6 x36 x39 x42 x45 n63) y54 y55 y56 y57 y58 y59 y60 y61 = some r9 := H
   unfold ck at H
   refine aj <| aj <| ac ?_;show AR _ _ _ _ _ [0, 1, 2, 3] _;refine zm rfl <| zS rfl (ag (av := slE _ _ _) rfl) <| zS rfl (aU bP rfl) <| zS rfl (cf rfl rfl) <| ak <| aG rfl (fun c64 => ?_) (fun c64 => ?_)
   ·replace H := bk c64 H;refine aM <| bX (X := (List UInt8) × Int × Int × (List UInt8) × (List UInt8) × (List UInt8) × (List UInt8)) (fun (y87, y88, y89, y90, y91, y92, y93) => ⟨[(2, .cp [i64 a1, i64 a2, S a3, S a4, S a5, slE Enc.byte a6 none]), (7, .pt o16 0), (10, slE Enc.int ([220, x36, x39, x42, 354, x45, 221] : List Int) none), (11, slE Enc.byte y87 none), (12, i64 y55)], [], [.obj o16 [i64 y88, i64 y89, S y90, S y91, S y92, slE Enc.byte y93 none]]⟩) (fun (y87, y88, y89, y90, y91, y92, y93) => cD y55 (bl F a6 x36 x39 x42 x45 n63) y87 y88 y89 y90 y91 y92 y93 = some r9) ?_ ?_
    ·refine bi <| bX (X := Nat × (List UInt8) × Int × Int × (List UInt8) × (List UInt8) × (List UInt8) × (List UInt8)) (fun (o77, y78, y79, y80, y81, y82, y83, y84) => ⟨[(2, .cp [i64 a1, i64 a2, S a3, S a4, S a5, slE Enc.byte a6 none]), (7, .pt o16 0), (10, slE Enc.int ([220, x36, x39, x42, 354, x45, 221] : List Int) none), (11, slE Enc.byte y54 none), (12, i64 y55), (13, .pt o77 0), (14, slE Enc.byte y78 none)], [], [.obj o77 [i64 y79, i64 y80, S y81, S y82, S y83, slE Enc.byte y84 none], .obj o16 [i64 y56, i64 y57, S y58, S y59, S y60, slE Enc.byte y61 none]]⟩) (fun (o77, y78, y79, y80, y81, y82, y83, y84) => cW y54 y55 (bl F a6 x36 x39 x42 x45 n63) y78 y79 y80 y81 y82 y83 y84 = some r9) ?_ ?_
     ·obtain ⟨g65, H⟩ := aX H;obtain ⟨x66, e67, H⟩ := cc H;obtain ⟨x68, e69, H⟩ := dG H;refine bn (by kernel_rfl) ?_;show AI _ _ _ _ _ 14 (Array.replicate 14 false) _;refine zk 1 rfl (ag (av := slE _ _ _) rfl) ?_;show AI _ _ _ _ _ _ #[false, true, false, false, false, false, false, false, false, false, false, false, false, false] _;refine zk 2 rfl (mv rfl) ?_;show AI _ _ _ _ _ _ #[false, true, true, false, false, false, false, false, false, false, false, false, false, false] _;refine zk 3 rfl (bq (E := Enc.int) bP (by kernel_rfl) rfl rfl g65 e67) ?_;show AI _ _ _ _ _ _ #[false, true, true, true, false, false, false, false, false, false, false, false, false, false] _;refine zk 4 rfl (aI aq rfl rfl) ?_;show AI _ _ _ _ _ _ #[false, true, true, true, true, false, false, false, false, false, false, false, false, false] _;refine mE (i := 0) (j := 5) (l := 11) (by kernel_rfl) rfl rfl rfl rfl rfl rfl ?_ ?_ ?_
      ·refine aH rfl (bR (i := 0) (n := 6) aO rfl (by kernel_rfl) rfl rfl (ab rfl)) ?_;show AI _ _ _ _ _ _ #[true, true, true, true, true, false, false, false, false, false, false, false, false, false] _;refine cj (i := 5) (j := 11) (by kernel_rfl) rfl rfl rfl rfl ?_ ?_
       ·refine aH rfl (bU (E := Enc.str) (bytes := 16) (xs := [.const _]) (l := ([([111, 107] : List UInt8)] : List (List UInt8))) az (by kernel_rfl) rfl rfl (by decide) rfl rfl) ?_;show AI _ _ _ _ _ _ #[true, true, true, true, true, true, false, false, false, false, false, false, false, false] _;refine zk 6 rfl (fR (zs := [.int .i64 0, .slice none 0 0, .int .i64 0, .int .i64 0, .int .i64 0]) (ps := [(0, 1), (1, 1), (2, 3)]) (cs := [i64 x66, slE Enc.str ([([111, 107] : List UInt8)] : List (List UInt8)) none, i64 0, i64 0, i64 0]) (by kernel_rfl) rfl rfl) ?_;show AI _ _ _ _ _ _ #[true, true, true, true, true, true, true, false, false, false, false, false, false, false] _;refine cj (i := 7) (j := 11) (by kernel_rfl) rfl rfl rfl rfl ?_ ?_
        ·refine bD rfl ct rfl (fA F y56 y57 y58 y59 y60 y61 x66 ([([111, 107] : List UInt8)] : List (List UInt8)) 0 0 0 x68.1 x68.2.1 x68.2.2.1 x68.2.2.2.1 x68.2.2.2.2.1 x68.2.2.2.2.2.1 x68.2.2.2.2.2.2 e69) ?_;show AI _ _ _ _ _ _ #[true, true, true, true, true, true, true, true, false, false, false, false, false, false] _;refine zk 8 rfl (ag (av := .tup _) rfl) ?_;show AI _ _ _ _ _ _ #[true, true, true, true, true, true, true, true, true, false, false, false, false, false] _;refine zk 9 rfl (aF (av := .agg _) rfl rfl) ?_;show AI _ _ _ _ _ _ #[true, true, true, true, true, true, true, true, true, true, false, false, false, false] _;refine zk 10 rfl (aF (av := slE _ _ _) rfl rfl) ?_;show AI _ _ _ _ _ _ #[true, true, true, true, true, true, true, true, true, true, true, false, false, false] _;refine aE (i := 11) (by kernel_rfl) rfl rfl <| dc rfl (bQ (zs := [.int .i64 0, .int .i64 0, .string ⟨#[]⟩, .string ⟨#[]⟩, .string ⟨#[]⟩, .slice none 0 0]) (by kernel_rfl)) ?_;rintro _ _ ⟨o70, rfl, rfl⟩;show AI _ _ _ _ _ _ #[true, true, true, true, true, true, true, true, true, true, true, true, false, false] _;refine aE (i := 12) (by kernel_rfl) rfl rfl <| bE (aP (i := 0) (vs := [i64 x68.1, i64 x68.2.1, S x68.2.2.1, S x68.2.2.2.1, S x68.2.2.2.2.1, slE Enc.byte x68.2.2.2.2.2.1 none]) (by kernel_rfl) rfl rfl (by simp [bw, slE]) rfl (ab rfl)) ?_;show AI _ _ _ _ _ _ #[true, true, true, true, true, true, true, true, true, true, true, true, true, false] _
         refine zk 13 rfl (ay (av := slE _ _ _) rfl) ?_;show AI _ _ _ _ _ _ #[true, true, true, true, true, true, true, true, true, true, true, true, true, true] _;refine aZ rfl ?_;exact Exists.intro (o70, x68.2.2.2.2.2.2, x68.1, x68.2.1, x68.2.2.1, x68.2.2.2.1, x68.2.2.2.2.1, x68.2.2.2.2.2.1) ⟨H, aY [0, 0] (.cons (.refl _) (.cons (.refl _) (.cons (.refl _) (.cons (.refl _) (.cons (.refl _) (.cons (.refl _) (.cons (.refl _) (.nil _)))))))) rfl⟩
        ·refine dc rfl (bQ (zs := [.int .i64 0, .int .i64 0, .string ⟨#[]⟩, .string ⟨#[]⟩, .string ⟨#[]⟩, .slice none 0 0]) (by kernel_rfl)) ?_;rintro _ _ ⟨o71, rfl, rfl⟩;show AI _ _ _ _ _ _ #[true, true, true, true, true, true, true, false, false, false, false, true, false, false] _;refine aE (i := 7) (by kernel_rfl) rfl rfl <| bD rfl ct rfl (fA F y56 y57 y58 y59 y60 y61 x66 ([([111, 107] : List UInt8)] : List (List UInt8)) 0 0 0 x68.1 x68.2.1 x68.2.2.1 x68.2.2.2.1 x68.2.2.2.2.1 x68.2.2.2.2.2.1 x68.2.2.2.2.2.2 e69) ?_;show AI _ _ _ _ _ _ #[true, true, true, true, true, true, true, true, false, false, false, true, false, false] _;refine zk 8 rfl (ag (av := .tup _) rfl) ?_;show AI _ _ _ _ _ _ #[true, true, true, true, true, true, true, true, true, false, false, true, false, false] _;refine zk 9 rfl (aF (av := .agg _) rfl rfl) ?_;show AI _ _ _ _ _ _ #[true, true, true, true, true, true, true, true, true, true, false, true, false, false] _;refine zk 10 rfl (aF (av := slE _ _ _) rfl rfl) ?_;show AI _ _ _ _ _ _ #[true, true, true, true, true, true, true, true, true, true, true, true, false, false] _;refine aE (i := 12) (by kernel_rfl) rfl rfl <| bE (aP (i := 0) (vs := [i64 x68.1, i64 x68.2.1, S x68.2.2.1, S x68.2.2.2.1, S x68.2.2.2.2.1, slE Enc.byte x68.2.2.2.2.2.1 none]) (by kernel_rfl) rfl rfl (by simp [bw, slE]) rfl (ab rfl)) ?_;show AI _ _ _ _ _ _ #[true, true, true, true, true, true, true, true, true, true, true, true, true, false] _
         refine zk 13 rfl (ay (av := slE _ _ _) rfl) ?_;show AI _ _ _ _ _ _ #[true, true, true, true, true, true, true, true, true, true, true, true, true, true] _;refine aZ rfl ?_;exact Exists.intro (o71, x68.2.2.2.2.2.2, x68.1, x68.2.1, x68.2.2.1, x68.2.2.2.1, x68.2.2.2.2.1, x68.2.2.2.2.2.1) ⟨H, aY [0, 0] (.cons (.refl _) (.cons (.refl _) (.cons (.refl _) (.cons (.refl _) (.cons (.refl _) (.cons (.refl _) (.cons (.refl _) (.nil _)))))))) rfl⟩
       ·refine dc rfl (bQ (zs := [.int .i64 0, .int .i64 0, .string ⟨#[]⟩, .string ⟨#[]⟩, .string ⟨#[]⟩, .slice none 0 0]) (by kernel_rfl)) ?_;rintro _ _ ⟨o72, rfl, rfl⟩;show AI _ _ _ _ _ _ #[true, true, true, true, true, false, false, false, false, false, false, true, false, false] _;refine aE (i := 5) (by kernel_rfl) rfl rfl <| aH rfl (bU (E := Enc.str) (bytes := 16) (xs := [.const _]) (l := ([([111, 107] : List UInt8)] : List (List UInt8))) az (by kernel_rfl) rfl rfl (by decide) rfl rfl) ?_;show AI _ _ _ _ _ _ #[true, true, true, true, true, true, false, false, false, false, false, true, false, false] _;refine zk 6 rfl (fR (zs := [.int .i64 0, .slice none 0 0, .int .i64 0, .int .i64 0, .int .i64 0]) (ps := [(0, 1), (1, 1), (2, 3)]) (cs := [i64 x66, slE Enc.str ([([111, 107] : List UInt8)] : List (List UInt8)) none, i64 0, i64 0, i64 0]) (by kernel_rfl) rfl rfl) ?_;show AI _ _ _ _ _ _ #[true, true, true, true, true, true, true, false, false, false, false, true, false, false] _;refine aE (i := 7) (by kernel_rfl) rfl rfl <| bD rfl ct rfl (fA F y56 y57 y58 y59 y60 y61 x66 ([([111, 107] : List UInt8)] : List (List UInt8)) 0 0 0 x68.1 x68.2.1 x68.2.2.1 x68.2.2.2.1 x68.2.2.2.2.1 x68.2.2.2.2.2.1 x68.2.2.2.2.2.2 e69) ?_;show AI _ _ _ _ _ _ #[true, true, true, true, true, true, true, true, false, false, false, true, false, false] _;refine zk 8 rfl (ag (av := .tup _) rfl) ?_;show AI _ _ _ _ _ _ #[true, true, true, true, true, true, true, true, true, false, false, true, false, false] _
        refine zk 9 rfl (aF (av := .agg _) rfl rfl) ?_;show AI _ _ _ _ _ _ #[true, true, true, true, true, true, true, true, true, true, false, true, false, false] _;refine zk 10 rfl (aF (av := slE _ _ _) rfl rfl) ?_;show AI _ _ _ _ _ _ #[true, true, true, true, true, true, true, true, true, true, true, true, false, false] _;refine aE (i := 12) (by kernel_rfl) rfl rfl <| bE (aP (i := 0) (vs := [i64 x68.1, i64 x68.2.1, S x68.2.2.1, S x68.2.2.2.1, S x68.2.2.2.2.1, slE Enc.byte x68.2.2.2.2.2.1 none]) (by kernel_rfl) rfl rfl (by simp [bw, slE]) rfl (ab rfl)) ?_;show AI _ _ _ _ _ _ #[true, true, true, true, true, true, true, true, true, true, true, true, true, false] _;refine zk 13 rfl (ay (av := slE _ _ _) rfl) ?_;show AI _ _ _ _ _ _ #[true, true, true, true, true, true, true, true, true, true, true, true, true, true] _;refine aZ rfl ?_;exact Exists.intro (o72, x68.2.2.2.2.2.2, x68.1, x68.2.1, x68.2.2.1, x68.2.2.2.1, x68.2.2.2.2.1, x68.2.2.2.2.2.1) ⟨H, aY [0, 0] (.cons (.refl _) (.cons (.refl _) (.cons (.refl _) (.cons (.refl _) (.cons (.refl _) (.cons (.refl _) (.cons (.refl _) (.nil _)))))))) rfl⟩
      ·refine aH rfl (bU (E := Enc.str) (bytes := 16) (xs := [.const _]) (l := ([([111, 107] : List UInt8)] : List (List UInt8))) az (by kernel_rfl) rfl rfl (by decide) rfl rfl) ?_;show AI _ _ _ _ _ _ #[false, true, true, true, true, true, false, false, false, false, false, false, false, false] _;refine zk 6 rfl (fR (zs := [.int .i64 0, .slice none 0 0, .int .i64 0, .int .i64 0, .int .i64 0]) (ps := [(0, 1), (1, 1), (2, 3)]) (cs := [i64 x66, slE Enc.str ([([111, 107] : List UInt8)] : List (List UInt8)) none, i64 0, i64 0, i64 0]) (by kernel_rfl) rfl rfl) ?_;show AI _ _ _ _ _ _ #[false, true, true, true, true, true, true, false, false, false, false, false, false, false] _;refine cj (i := 0) (j := 11) (by kernel_rfl) rfl rfl rfl rfl ?_ ?_
       ·refine aH rfl (bR (i := 0) (n := 6) aO rfl (by kernel_rfl) rfl rfl (ab rfl)) ?_;show AI _ _ _ _ _ _ #[true, true, true, true, true, true, true, false, false, false, false, false, false, false] _;refine cj (i := 7) (j := 11) (by kernel_rfl) rfl rfl rfl rfl ?_ ?_
        ·refine bD rfl ct rfl (fA F y56 y57 y58 y59 y60 y61 x66 ([([111, 107] : List UInt8)] : List (List UInt8)) 0 0 0 x68.1 x68.2.1 x68.2.2.1 x68.2.2.2.1 x68.2.2.2.2.1 x68.2.2.2.2.2.1 x68.2.2.2.2.2.2 e69) ?_;show AI _ _ _ _ _ _ #[true, true, true, true, true, true, true, true, false, false, false, false, false, false] _;refine zk 8 rfl (ag (av := .tup _) rfl) ?_;show AI _ _ _ _ _ _ #[true, true, true, true, true, true, true, true, true, false, false, false, false, false] _;refine zk 9 rfl (aF (av := .agg _) rfl rfl) ?_;show AI _ _ _ _ _ _ #[true, true, true, true, true, true, true, true, true, true, false, false, false, false] _;refine zk 10 rfl (aF (av := slE _ _ _) rfl rfl) ?_;show AI _ _ _ _ _ _ #[true, true, true, true, true, true, true, true, true, true, true, false, false, false] _;refine aE (i := 11) (by kernel_rfl) rfl rfl <| dc rfl (bQ (zs := [.int .i64 0, .int .i64 0, .string ⟨#[]⟩, .string ⟨#[]⟩, .string ⟨#[]⟩, .slice none 0 0]) (by kernel_rfl)) ?_;rintro _ _ ⟨o73, rfl, rfl⟩;show AI _ _ _ _ _ _ #[true, true, true, true, true, true, true, true, true, true, true, true, false, false] _;refine aE (i := 12) (by kernel_rfl) rfl rfl <| bE (aP (i := 0) (vs := [i64 x68.1, i64 x68.2.1, S x68.2.2.1, S x68.2.2.2.1, S x68.2.2.2.2.1, slE Enc.byte x68.2.2.2.2.2.1 none]) (by kernel_rfl) rfl rfl (by simp [bw, slE]) rfl (ab rfl)) ?_;show AI _ _ _ _ _ _ #[true, true, true, true, true, true, true, true, true, true, true, true, true, false] _
         refine zk 13 rfl (ay (av := slE _ _ _) rfl) ?_;show AI _ _ _ _ _ _ #[true, true, true, true, true, true, true, true, true, true, true, true, true, true] _;refine aZ rfl ?_;exact Exists.intro (o73, x68.2.2.2.2.2.2, x68.1, x68.2.1, x68.2.2.1, x68.2.2.2.1, x68.2.2.2.2.1, x68.2.2.2.2.2.1) ⟨H, aY [0, 0] (.cons (.refl _) (.cons (.refl _) (.cons (.refl _) (.cons (.refl _) (.cons (.refl _) (.cons (.refl _) (.cons (.refl _) (.nil _)))))))) rfl⟩
        ·refine dc rfl (bQ (zs := [.int .i64 0, .int .i64 0, .string ⟨#[]⟩, .string ⟨#[]⟩, .string ⟨#[]⟩, .slice none 0 0]) (by kernel_rfl)) ?_;rintro _ _ ⟨o74, rfl, rfl⟩;show AI _ _ _ _ _ _ #[true, true, true, true, true, true, true, false, false, false, false, true, false, false] _;refine aE (i := 7) (by kernel_rfl) rfl rfl <| bD rfl ct rfl (fA F y56 y57 y58 y59 y60 y61 x66 ([([111, 107] : List UInt8)] : List (List UInt8)) 0 0 0 x68.1 x68.2.1 x68.2.2.1 x68.2.2.2.1 x68.2.2.2.2.1 x68.2.2.2.2.2.1 x68.2.2.2.2.2.2 e69) ?_;show AI _ _ _ _ _ _ #[true, true, true, true, true, true, true, true, false, false, false, true, false, false] _;refine zk 8 rfl (ag (av := .tup _) rfl) ?_;show AI _ _ _ _ _ _ #[true, true, true, true, true, true, true, true, true, false, false, true, false, false] _;refine zk 9 rfl (aF (av := .agg _) rfl rfl) ?_;show AI _ _ _ _ _ _ #[true, true, true, true, true, true, true, true, true, true, false, true, false, false] _;refine zk 10 rfl (aF (av := slE _ _ _) rfl rfl) ?_;show AI _ _ _ _ _ _ #[true, true, true, true, true, true, true, true, true, true, true, true, false, false] _;refine aE (i := 12) (by kernel_rfl) rfl rfl <| bE (aP (i := 0) (vs := [i64 x68.1, i64 x68.2.1, S x68.2.2.1, S x68.2.2.2.1, S x68.2.2.2.2.1, slE Enc.byte x68.2.2.2.2.2.1 none]) (by kernel_rfl) rfl rfl (by simp [bw, slE]) rfl (ab rfl)) ?_;show AI _ _ _ _ _ _ #[true, true, true, true, true, true, true, true, true, true, true, true, true, false] _
         refine zk 13 rfl (ay (av := slE _ _ _) rfl) ?_;show AI _ _ _ _ _ _ #[true, true, true, true, true, true, true, true, true, true, true, true, true, true] _;refine aZ rfl ?_;exact Exists.intro (o74, x68.2.2.2.2.2.2, x68.1, x68.2.1, x68.2.2.1, x68.2.2.2.1, x68.2.2.2.2.1, x68.2.2.2.2.2.1) ⟨H, aY [0, 0] (.cons (.refl _) (.cons (.refl _) (.cons (.refl _) (.cons (.refl _) (.cons (.refl _) (.cons (.refl _) (.cons (.refl _) (.nil _)))))))) rfl⟩
       ·refine dc rfl (bQ (zs := [.int .i64 0, .int .i64 0, .string ⟨#[]⟩, .string ⟨#[]⟩, .string ⟨#[]⟩, .slice none 0 0]) (by kernel_rfl)) ?_;rintro _ _ ⟨o75, rfl, rfl⟩;show AI _ _ _ _ _ _ #[false, true, true, true, true, true, true, false, false, false, false, true, false, false] _;refine aE (i := 0) (by kernel_rfl) rfl rfl <| aH rfl (bR (i := 1) (n := 6) aO rfl (by kernel_rfl) rfl rfl (ab rfl)) ?_;show AI _ _ _ _ _ _ #[true, true, true, true, true, true, true, false, false, false, false, true, false, false] _;refine aE (i := 7) (by kernel_rfl) rfl rfl <| bD rfl ct rfl (fA F y56 y57 y58 y59 y60 y61 x66 ([([111, 107] : List UInt8)] : List (List UInt8)) 0 0 0 x68.1 x68.2.1 x68.2.2.1 x68.2.2.2.1 x68.2.2.2.2.1 x68.2.2.2.2.2.1 x68.2.2.2.2.2.2 e69) ?_;show AI _ _ _ _ _ _ #[true, true, true, true, true, true, true, true, false, false, false, true, false, false] _;refine zk 8 rfl (ag (av := .tup _) rfl) ?_;show AI _ _ _ _ _ _ #[true, true, true, true, true, true, true, true, true, false, false, true, false, false] _;refine zk 9 rfl (aF (av := .agg _) rfl rfl) ?_;show AI _ _ _ _ _ _ #[true, true, true, true, true, true, true, true, true, true, false, true, false, false] _;refine zk 10 rfl (aF (av := slE _ _ _) rfl rfl) ?_;show AI _ _ _ _ _ _ #[true, true, true, true, true, true, true, true, true, true, true, true, false, false] _
        refine aE (i := 12) (by kernel_rfl) rfl rfl <| bE (aP (i := 0) (vs := [i64 x68.1, i64 x68.2.1, S x68.2.2.1, S x68.2.2.2.1, S x68.2.2.2.2.1, slE Enc.byte x68.2.2.2.2.2.1 none]) (by kernel_rfl) rfl rfl (by simp [bw, slE]) rfl (ab rfl)) ?_;show AI _ _ _ _ _ _ #[true, true, true, true, true, true, true, true, true, true, true, true, true, false] _;refine zk 13 rfl (ay (av := slE _ _ _) rfl) ?_;show AI _ _ _ _ _ _ #[true, true, true, true, true, true, true, true, true, true, true, true, true, true] _;refine aZ rfl ?_;exact Exists.intro (o75, x68.2.2.2.2.2.2, x68.1, x68.2.1, x68.2.2.1, x68.2.2.2.1, x68.2.2.2.2.1, x68.2.2.2.2.2.1) ⟨H, aY [0, 0] (.cons (.refl _) (.cons (.refl _) (.cons (.refl _) (.cons (.refl _) (.cons (.refl _) (.cons (.refl _) (.cons (.refl _) (.nil _)))))))) rfl⟩
      ·refine dc rfl (bQ (zs := [.int .i64 0, .int .i64 0, .string ⟨#[]⟩, .string ⟨#[]⟩, .string ⟨#[]⟩, .slice none 0 0]) (by kernel_rfl)) ?_;rintro _ _ ⟨o76, rfl, rfl⟩;show AI _ _ _ _ _ _ #[false, true, true, true, true, false, false, false, false, false, false, true, false, false] _;refine cj (i := 0) (j := 5) (by kernel_rfl) rfl rfl rfl rfl ?_ ?_
       ·refine aH rfl (bR (i := 1) (n := 6) aO rfl (by kernel_rfl) rfl rfl (ab rfl)) ?_;show AI _ _ _ _ _ _ #[true, true, true, true, true, false, false, false, false, false, false, true, false, false] _;refine aE (i := 5) (by kernel_rfl) rfl rfl <| aH rfl (bU (E := Enc.str) (bytes := 16) (xs := [.const _]) (l := ([([111, 107] : List UInt8)] : List (List UInt8))) az (by kernel_rfl) rfl rfl (by decide) rfl rfl) ?_;show AI _ _ _ _ _ _ #[true, true, true, true, true, true, false, false, false, false, false, true, false, false] _;refine zk 6 rfl (fR (zs := [.int .i64 0, .slice none 0 0, .int .i64 0, .int .i64 0, .int .i64 0]) (ps := [(0, 1), (1, 1), (2, 3)]) (cs := [i64 x66, slE Enc.str ([([111, 107] : List UInt8)] : List (List UInt8)) none, i64 0, i64 0, i64 0]) (by kernel_rfl) rfl rfl) ?_;show AI _ _ _ _ _ _ #[true, true, true, true, true, true, true, false, false, false, false, true, false, false] _;refine aE (i := 7) (by kernel_rfl) rfl rfl <| bD rfl ct rfl (fA F y56 y57 y58 y59 y60 y61 x66 ([([111, 107] : List UInt8)] : List (List UInt8)) 0 0 0 x68.1 x68.2.1 x68.2.2.1 x68.2.2.2.1 x68.2.2.2.2.1 x68.2.2.2.2.2.1 x68.2.2.2.2.2.2 e69) ?_;show AI _ _ _ _ _ _ #[true, true, true, true, true, true, true, true, false, false, false, true, false, false] _;refine zk 8 rfl (ag (av := .tup _) rfl) ?_;show AI _ _ _ _ _ _ #[true, true, true, true, true, true, true, true, true, false, false, true, false, false] _;refine zk 9 rfl (aF (av := .agg _) rfl rfl) ?_
        show AI _ _ _ _ _ _ #[true, true, true, true, true, true, true, true, true, true, false, true, false, false] _;refine zk 10 rfl (aF (av := slE _ _ _) rfl rfl) ?_;show AI _ _ _ _ _ _ #[true, true, true, true, true, true, true, true, true, true, true, true, false, false] _;refine aE (i := 12) (by kernel_rfl) rfl rfl <| bE (aP (i := 0) (vs := [i64 x68.1, i64 x68.2.1, S x68.2.2.1, S x68.2.2.2.1, S x68.2.2.2.2.1, slE Enc.byte x68.2.2.2.2.2.1 none]) (by kernel_rfl) rfl rfl (by simp [bw, slE]) rfl (ab rfl)) ?_;show AI _ _ _ _ _ _ #[true, true, true, true, true, true, true, true, true, true, true, true, true, false] _;refine zk 13 rfl (ay (av := slE _ _ _) rfl) ?_;show AI _ _ _ _ _ _ #[true, true, true, true, true, true, true, true, true, true, true, true, true, true] _;refine aZ rfl ?_;exact Exists.intro (o76, x68.2.2.2.2.2.2, x68.1, x68.2.1, x68.2.2.1, x68.2.2.2.1, x68.2.2.2.2.1, x68.2.2.2.2.2.1) ⟨H, aY [0, 0] (.cons (.refl _) (.cons (.refl _) (.cons (.refl _) (.cons (.refl _) (.cons (.refl _) (.cons (.refl _) (.cons (.refl _) (.nil _)))))))) rfl⟩
       ·refine aH rfl (bU (E := Enc.str) (bytes := 16) (xs := [.const _]) (l := ([([111, 107] : List UInt8)] : List (List UInt8))) az (by kernel_rfl) rfl rfl (by decide) rfl rfl) ?_;show AI _ _ _ _ _ _ #[false, true, true, true, true, true, false, false, false, false, false, true, false, false] _;refine zk 6 rfl (fR (zs := [.int .i64 0, .slice none 0 0, .int .i64 0, .int .i64 0, .int .i64 0]) (ps := [(0, 1), (1, 1), (2, 3)]) (cs := [i64 x66, slE Enc.str ([([111, 107] : List UInt8)] : List (List UInt8)) none, i64 0, i64 0, i64 0]) (by kernel_rfl) rfl rfl) ?_;show AI _ _ _ _ _ _ #[false, true, true, true, true, true, true, false, false, false, false, true, false, false] _;refine aE (i := 0) (by kernel_rfl) rfl rfl <| aH rfl (bR (i := 1) (n := 6) aO rfl (by kernel_rfl) rfl rfl (ab rfl)) ?_;show AI _ _ _ _ _ _ #[true, true, true, true, true, true, true, false, false, false, false, true, false, false] _;refine aE (i := 7) (by kernel_rfl) rfl rfl <| bD rfl ct rfl (fA F y56 y57 y58 y59 y60 y61 x66 ([([111, 107] : List UInt8)] : List (List UInt8)) 0 0 0 x68.1 x68.2.1 x68.2.2.1 x68.2.2.2.1 x68.2.2.2.2.1 x68.2.2.2.2.2.1 x68.2.2.2.2.2.2 e69) ?_;show AI _ _ _ _ _ _ #[true, true, true, true, true, true, true, true, false, false, false, true, false, false] _;refine zk 8 rfl (ag (av := .tup _) rfl) ?_;show AI _ _ _ _ _ _ #[true, true, true, true, true, true, true, true, true, false, false, true, false, false] _;refine zk 9 rfl (aF (av := .agg _) rfl rfl) ?_
        show AI _ _ _ _ _ _ #[true, true, true, true, true, true, true, true, true, true, false, true, false, false] _;refine zk 10 rfl (aF (av := slE _ _ _) rfl rfl) ?_;show AI _ _ _ _ _ _ #[true, true, true, true, true, true, true, true, true, true, true, true, false, false] _;refine aE (i := 12) (by kernel_rfl) rfl rfl <| bE (aP (i := 0) (vs := [i64 x68.1, i64 x68.2.1, S x68.2.2.1, S x68.2.2.2.1, S x68.2.2.2.2.1, slE Enc.byte x68.2.2.2.2.2.1 none]) (by kernel_rfl) rfl rfl (by simp [bw, slE]) rfl (ab rfl)) ?_;show AI _ _ _ _ _ _ #[true, true, true, true, true, true, true, true, true, true, true, true, true, false] _;refine zk 13 rfl (ay (av := slE _ _ _) rfl) ?_;show AI _ _ _ _ _ _ #[true, true, true, true, true, true, true, true, true, true, true, true, true, true] _;refine aZ rfl ?_;exact Exists.intro (o76, x68.2.2.2.2.2.2, x68.1, x68.2.1, x68.2.2.1, x68.2.2.2.1, x68.2.2.2.2.1, x68.2.2.2.2.2.1) ⟨H, aY [0, 0] (.cons (.refl _) (.cons (.refl _) (.cons (.refl _) (.cons (.refl _) (.cons (.refl _) (.cons (.refl _) (.cons (.refl _) (.nil _)))))))) rfl⟩
     rintro ⟨o77, y78, y79, y80, y81, y82, y83, y84⟩ H;replace H : cW y54 y55 (bl F a6 x36 x39 x42 x45 n63) y78 y79 y80 y81 y82 y83 y84 = some r9 := H
     unfold cW at H
     refine aj <| ac ?_;show AR _ _ _ _ _ [0, 1] _;refine zR rfl (bR (i := 0) (n := 6) aO rfl (by kernel_rfl) rfl rfl (ab rfl)) <| s0 rfl rfl (aP (i := 1) (vs := [i64 y79, i64 y80, S y81, S y82, S y83, slE Enc.byte y84 none]) (by kernel_rfl) rfl rfl (by simp [bw, slE]) rfl (ab rfl)) <| ak <| aj <| ac ?_;show AR _ _ _ _ _ [0, 1] _;refine zm rfl <| zS rfl (bN rfl rfl) <| ak <| aG rfl (fun c86 => ?_) (fun c86 => ?_)
     ·replace H := bk c86 H;refine ac ?_;show AR _ _ _ _ _ [0, 1] _;refine zS rfl (ag (av := slE _ _ _) rfl) <| zS rfl (ay (av := slE _ _ _) rfl) <| ak ?_;exact Exists.intro (y78, y79, y80, y81, y82, y83, y84) ⟨H, aY [1] (.cons (.refl _) (.cons (.refl _) (.cons (.refl _) (.cons (.refl _) (.cons (.refl _) (.nil _)))))) rfl⟩
     ·replace H := bb c86 H;refine aM ?_;exact Exists.intro (y54, y79, y80, y81, y82, y83, y84) ⟨H, aY [1] (.cons (.refl _) (.cons (.refl _) (.cons (.refl _) (.cons (.refl _) (.cons (.refl _) (.nil _)))))) rfl⟩
    rintro ⟨y87, y88, y89, y90, y91, y92, y93⟩ H;replace H : cD y55 (bl F a6 x36 x39 x42 x45 n63) y87 y88 y89 y90 y91 y92 y93 = some r9 := H
    unfold cD at H
    obtain ⟨g95, H⟩ := aX H;refine ac ?_;show AR _ _ _ _ _ [0, 1, 2] _;refine zm rfl <| zS rfl (eZ rfl rfl g95) <| za rfl <| ak ?_;exact Exists.intro (n63, y87, y55 + 1, y88, y89, y90, y91, y92, y93) ⟨H, Nat.lt_succ_self _, aY [0] (.cons (.refl _) (.cons (.refl _) (.cons (.refl _) (.cons (.refl _) (.cons (.refl _) (.nil _)))))) rfl⟩
   ·replace H := bb c64 H;refine dk ?_;exact Exists.intro (y54, y56, y57, y58, y59, y60, y61) ⟨H, aY [0] (.cons (.refl _) (.cons (.refl _) (.cons (.refl _) (.nil _)))) rfl⟩
  rintro ⟨y96, y97, y98, y99, y100, y101, y102⟩ H;replace H : cX F a6 y96 y97 y98 y99 y100 y101 y102 = some r9 := H
  unfold cX at H
  refine aj ?_;obtain ⟨x104, x105, e106, H⟩ := dL H;refine ac ?_;show AR _ _ _ _ _ [0, 1, 2, 3, 4, 5, 6] _;refine zS rfl (ag (av := slE _ _ _) rfl) <| ao rfl rfl (aQ rfl kl rfl (lD F y96 none x104 x105 e106) ?_);refine zS rfl (ag (av := .tup _) rfl) <| zS rfl (aF (av := slE _ _ _) rfl rfl) <| zS rfl (aF (av := .v _) rfl rfl) <| zS rfl (ay (av := slE _ _ _) rfl) <| za rfl <| ak <| aj <| ac ?_;show AR _ _ _ _ _ [0, 1, 2, 3, 4, 5, 6, 7, 8, 9, 10, 11, 12, 13, 14, 15, 16, 17, 18, 19, 20] _;refine zm rfl <| zS rfl (bN rfl rfl) <| zm rfl <| aN (l := [10, 11, 12, 13, 14, 15, 16, 17, 18, 19, 20]) 112 (B ((decide (x105 = 0)) && (decide (x104 = a6)))) (fun K => ?_) ?_
  ·rcases af (decide (x105 = 0)) with h107 | h107
   ·refine zU h107 rfl (ag (av := slE _ _ _) rfl) <| zU h107 rfl (cB aa aJ al rfl) <| zU h107 rfl (be (n := 5) (by kernel_rfl) rfl (ab rfl)) <| zU h107 rfl (aI aa rfl rfl) <| zU h107 rfl (cB aa aJ al rfl) <| zU h107 rfl (iM rfl rfl) <| zS rfl (ax (av := .v _) rfl h107 rfl) ?_;exact K _ 6 _ (ap (bZ h107)) rfl rfl
   ·refine zF h107 rfl <| zF h107 rfl <| zF h107 rfl <| zF h107 rfl <| zF h107 rfl <| zF h107 rfl <| zS rfl (aw (av := .v _) rfl h107 rfl) ?_;exact K _ 6 _ (ap (ca h107)) rfl rfl
  refine zm rfl <| aN (l := [15, 16, 17, 18, 19, 20]) 117 (B (((decide (x105 = 0)) && (decide (x104 = a6))) && (decide (y98 = 1)))) (fun K => ?_) ?_
  ·rcases af ((decide (x105 = 0)) && (decide (x104 = a6))) with h108 | h108
   ·refine zU h108 rfl (ah (n := 1) (by kernel_rfl) rfl) <| zT h108 rfl (bM rfl rfl (ai (i := 0) aq rfl rfl rfl rfl) ?_);refine zU h108 rfl (bN rfl rfl) <| zS rfl (ax (av := .v _) rfl h108 rfl) ?_;exact K _ 3 _ (ap (bZ h108)) rfl rfl
   ·refine zF h108 rfl <| zF h108 rfl <| zF h108 rfl <| zS rfl (aw (av := .v _) rfl h108 rfl) ?_;exact K _ 3 _ (ap (ca h108)) rfl rfl
  refine zm rfl <| aN (l := [20]) 122 (B ((((decide (x105 = 0)) && (decide (x104 = a6))) && (decide (y98 = 1))) && (decide (y97 = 7)))) (fun K => ?_) ?_
  ·rcases af (((decide (x105 = 0)) && (decide (x104 = a6))) && (decide (y98 = 1))) with h109 | h109
   ·refine zU h109 rfl (ah (n := 0) (by kernel_rfl) rfl) <| zT h109 rfl (bM rfl rfl (ai (i := 0) aq rfl rfl rfl rfl) ?_);refine zU h109 rfl (bN rfl rfl) <| zS rfl (ax (av := .v _) rfl h109 rfl) ?_;exact K _ 3 _ (ap (bZ h109)) rfl rfl
   ·refine zF h109 rfl <| zF h109 rfl <| zF h109 rfl <| zS rfl (aw (av := .v _) rfl h109 rfl) ?_;exact K _ 3 _ (ap (ca h109)) rfl rfl
  refine za rfl <| ak <| aR ?_;obtain rfl := aC H;exact And.intro rfl (Exists.intro _ (Exists.intro _ ⟨aV rfl (.refl _), aL [] rfl, rfl, rfl⟩))
end Go.Proofs.YtgjkjkmmgdbcoaaGreatDoor
namespace Go.Cl
open Go.Pv Go.Av
abbrev Bs := List UInt8
def NoCr (l : Bs) : Prop := ∀ c ∈ l, c ≠ 13 ∧ c ≠ 10
def lnD (l : Bs) : Bs := l ++ [13, 10]
def flD (ls : List Bs) : Bs := (ls.map lnD).flatten
def okD : Bool → Bs → Bool
  | p, [] => !p
  | p, c :: r => if c = 13 then !p && okD true r else if c = 10 then p && okD false r else !p && okD false r
def endD (b : Bs) : Bool := decide (b = []) || decide (b.getLast? = some 10)
def iU (b : Bs) : Bool := okD false b && endD b
theorem mF (p : Bool) (r : Bs) : okD p (13 :: r) = (!p && okD true r) := rfl
theorem oA (p : Bool) (r : Bs) : okD p (10 :: r) = (p && okD false r) := rfl
theorem pG (p : Bool) {c : UInt8} (r : Bs) (h : c ≠ 13) (g : c ≠ 10) : okD p (c :: r) = (!p && okD false r) := by
  show (if c = 13 then !p && okD true r else if c = 10 then p && okD false r else !p && okD false r) = _
  rw [if_neg h, if_neg g]
def pr : Bool → Bs → Nat
  | p, [] => 0
  | p, c :: r => (if p = true ∧ c = 10 then 1 else 0) + pr (decide (c = 13)) r
theorem pr_le : ∀ (b : Bs) (p : Bool), pr p b ≤ b.count 10 ∧ pr p b ≤ b.count 13 + (if p = true then 1 else 0)
  | [], p => by simp [pr]
  | c :: r, p => by
    obtain ⟨h1, h2⟩ := pr_le r (decide (c = 13))
    unfold pr
    rw [List.count_cons, List.count_cons]
    by_cases a : c = 13
    · subst a
      simp at h1 h2 ⊢
      omega
    · by_cases g : c = 10
      · subst g
        simp at h1 h2 ⊢
        cases p <;> simp <;> omega
      · have e1 : (c == 13) = false := by simpa using a
        have e2 : (c == 10) = false := by simpa using g
        rw [decide_eq_false a] at h1 h2 ⊢
        rw [e1, e2]
        simp [g] at h1 h2 ⊢
        omega
theorem pr_ok : ∀ (b : Bs) (p : Bool), (pr p b = b.count 10 ∧ pr p b = b.count 13 + (if p = true then 1 else 0)) ↔ okD p b = true
  | [], p => by cases p <;> simp [pr, okD]
  | c :: r, p => by
    have hl := pr_le r
    by_cases a : c = 13
    · subst a
      have ih := pr_ok r true
      have hl := hl true
      rw [mF]
      unfold pr
      rw [List.count_cons, List.count_cons]
      cases p with
      | false => simp at ih hl ⊢; rw [← ih]
      | true => simp at ih hl ⊢; omega
    · by_cases g : c = 10
      · subst g
        have ih := pr_ok r false
        have hl := hl false
        rw [oA]
        unfold pr
        rw [List.count_cons, List.count_cons]
        cases p with
        | false => simp at ih hl ⊢; omega
        | true => simp at ih hl ⊢; rw [← ih]; constructor <;> rintro ⟨x, y⟩ <;> constructor <;> omega
      · have e1 : (c == 13) = false := by simpa using a
        have e2 : (c == 10) = false := by simpa using g
        have ih := pr_ok r false
        have hl := hl false
        rw [pG p r a g]
        unfold pr
        rw [List.count_cons, List.count_cons, e1, e2, decide_eq_false a]
        cases p with
        | false => simp at ih hl ⊢; rw [← ih]
        | true => simp [g] at ih hl ⊢; omega
theorem gl_app (a : Bs) {b : Bs} (h : b ≠ []) : (a ++ b).getLast? = b.getLast? := by
  rw [List.getLast?_append]
  cases e : b.getLast? with
  | none => exact absurd (List.getLast?_eq_none_iff.1 e) h
  | some x => rfl
theorem lb : ∀ (m : Nat) (b l : Bs), b.length < m → NoCr l → okD false b = true → (l ++ b = [] ∨ (l ++ b).getLast? = some 10) → ∃ ls, (∀ x ∈ ls, NoCr x) ∧ l ++ b = flD ls
  | 0, b, l, h, _, _, _ => by omega
  | m + 1, [], l, h, hl, hk, he => by
    rw [List.append_nil] at he
    have : l = [] := by
      rcases he with e | e
      · exact e
      · by_cases g : l = []
        · exact g
        · have := List.mem_of_getLast? e
          exact absurd rfl (hl 10 this).2
    subst this;exact ⟨[], by simp, rfl⟩
  | m + 1, c :: b, l, h, hl, hk, he => by
    by_cases a : c = 13
    · subst a
      rw [mF] at hk
      cases b with
      | nil => simp [okD] at hk
      | cons d b =>
        have hd : d = 10 := by
          by_cases g : d = 10
          · exact g
          · by_cases g2 : d = 13
            · subst g2; rw [mF] at hk; simp at hk
            · rw [pG _ _ g2 g] at hk; simp at hk
        subst hd
        rw [oA] at hk
        have hk' : okD false b = true := by simpa using hk
        have he' : [] ++ b = [] ∨ ([] ++ b).getLast? = some 10 := by
          rw [List.nil_append]
          by_cases g : b = []
          · exact .inl g
          · right
            rcases he with e | e
            · simp at e
            · rw [show l ++ 13 :: 10 :: b = (l ++ [13, 10]) ++ b by simp, gl_app _ g] at e
              exact e
        obtain ⟨ls, h1, h2⟩ := lb m b [] (by simp at h; omega) (by intro x hx; cases hx) hk' he'
        rw [List.nil_append] at h2
        refine ⟨l :: ls, fun x hx => ?_, by rw [h2]; simp [flD, lnD]⟩
        rcases List.mem_cons.1 hx with rfl | hx
        · exact hl
        · exact h1 x hx
    · by_cases g : c = 10
      · subst g; rw [oA] at hk; simp at hk
      · rw [pG _ _ a g] at hk
        have hk' : okD false b = true := by simpa using hk
        have := lb m b (l ++ [c]) (by simp at h; omega) (fun x hx => by
          rcases List.mem_append.1 hx with hx | hx
          · exact hl x hx
          · rw [List.mem_singleton.1 hx]; exact ⟨a, g⟩) hk' (by rw [List.append_assoc]; exact he)
        rw [List.append_assoc] at this
        exact this
theorem np {b : Bs} (h : iU b = true) : ∃ ls, (∀ l ∈ ls, NoCr l) ∧ b = flD ls := by
  unfold iU endD at h
  simp only [Bool.and_eq_true, Bool.or_eq_true, decide_eq_true_eq] at h
  obtain ⟨ls, h1, h2⟩ := lb (b.length + 1) b [] (Nat.lt_succ_self _) (by intro x hx; cases hx) h.1 h.2;exact ⟨ls, h1, h2⟩
def stD : Bool → Bs → Bs
  | _, [] => []
  | s, c :: r => (if s = true ∧ c = 46 then [46, c] else [c]) ++ stD (decide (c = 10)) r
def gR (b : Bs) : Bs := if iU b = true then stD true b ++ [46, 13, 10] else []
def lM (l : Bs) : Bs := if l.head? = some 46 then 46 :: lnD l else lnD l
theorem st_in : ∀ (l r : Bs), NoCr l → stD false (l ++ 13 :: 10 :: r) = l ++ 13 :: 10 :: stD true r
  | [], r, _ => by simp [stD]
  | c :: l, r, h => by
    obtain ⟨h1, h2⟩ := h c (by simp);show (if false = true ∧ c = 46 then [46, c] else [c]) ++ stD (decide (c = 10)) (l ++ 13 :: 10 :: r) = _
    rw [decide_eq_false h2, st_in l r fun x hx => h x (by simp [hx])]
    simp
theorem st_ln (l r : Bs) (h : NoCr l) : stD true (l ++ 13 :: 10 :: r) = lM l ++ stD true r := by
  cases l with
  | nil => simp [stD, lM, lnD]
  | cons c l =>
    obtain ⟨h1, h2⟩ := h c (by simp);show (if true = true ∧ c = 46 then [46, c] else [c]) ++ stD (decide (c = 10)) (l ++ 13 :: 10 :: r) = _
    rw [decide_eq_false h2, st_in l r fun x hx => h x (by simp [hx])]
    unfold lM lnD
    by_cases g : c = 46
    · subst g; simp
    · simp [g]
theorem mx : ∀ ls : List Bs, (∀ l ∈ ls, NoCr l) → stD true (flD ls) = (ls.map lM).flatten
  | [], _ => rfl
  | l :: ls, h => by
    have e : flD (l :: ls) = l ++ 13 :: 10 :: flD ls := by simp [flD, lnD]
    rw [e, st_ln l _ (h l (by simp)), mx ls fun x hx => h x (by simp [hx])]
    simp
theorem ow : ∀ (b : Bs) (s : Bool), (stD s b).length ≤ 2 * b.length
  | [], _ => by simp [stD]
  | c :: r, s => by
    have := ow r (decide (c = 10))
    unfold stD
    rw [List.length_append]
    split <;> simp <;> omega
theorem po (b : Bs) : (gR b).length ≤ 2 * b.length + 3 := by
  unfold gR
  split
  · have := ow b true
    simp; omega
  · simp
end Go.Cl
namespace Go.Dg
open Go.Pv Go.Av
open Go.Lib (decDigits)
abbrev Bs := List UInt8
theorem fj {n : Nat} (h : n < 10) : decDigits n = [UInt8.ofNat (48 + n)] := by rw [decDigits, dif_pos h]
theorem iV {n : Nat} (h : ¬ n < 10) : decDigits n = decDigits (n / 10) ++ [UInt8.ofNat (48 + n % 10)] := by rw [decDigits, dif_neg h]
theorem kH (n : Nat) : Go.Lib.itoa (n : Int) = decDigits n := by
  unfold Go.Lib.itoa
  rw [if_neg (by omega), Int.toNat_natCast]
theorem ip (k : Nat) (h : k < 10) : (UInt8.ofNat (48 + k)).toNat = 48 + k := by
  have : ∀ k : Fin 10, (UInt8.ofNat (48 + k.val)).toNat = 48 + k.val := by decide +kernel
  exact this ⟨k, h⟩
def Dig (c : UInt8) : Prop := 48 ≤ c.toNat ∧ c.toNat ≤ 57
theorem dd_dig : ∀ (m n : Nat), n < m → ∀ c ∈ decDigits n, Dig c := by
  intro m
  induction m with
  | zero => intro n h; omega
  | succ m ih =>
    intro n h c hc
    by_cases hn : n < 10
    · rw [fj hn] at hc
      rw [List.mem_singleton.1 hc]; unfold Dig; rw [ip n hn]; omega
    · rw [iV hn] at hc
      rcases List.mem_append.1 hc with hc | hc
      · exact ih (n / 10) (by omega) c hc
      · rw [List.mem_singleton.1 hc]; unfold Dig; rw [ip _ (by omega)]; omega
theorem ou (n : Nat) : ∀ c ∈ decDigits n, Dig c := dd_dig (n + 1) n (by omega)
theorem oE : ∀ (m n : Nat), n < 10 ^ m → (decDigits n).length ≤ m + 1 := by
  intro m
  induction m with
  | zero => intro n h; rw [fj (by omega)]; simp
  | succ m ih =>
    intro n h
    by_cases hn : n < 10
    · rw [fj hn]; simp
    · have h10 : n / 10 < 10 ^ m := by rw [Nat.pow_succ] at h; omega
      rw [iV hn, List.length_append]
      have := ih _ h10
      simp; omega
theorem ql (n : Nat) : 1 ≤ (decDigits n).length := by
  by_cases hn : n < 10
  · rw [fj hn]; simp
  · rw [iV hn]; simp
def val (v : Nat) : Bs → Nat
  | [] => v
  | c :: r => val (10 * v + (c.toNat - 48)) r
theorem qp : ∀ (a b : Bs) (v : Nat), val v (a ++ b) = val (val v a) b
  | [], b, v => rfl
  | c :: r, b, v => qp r b _
theorem val_dd : ∀ (m n : Nat), n < m → val 0 (decDigits n) = n := by
  intro m
  induction m with
  | zero => intro n h; omega
  | succ m ih =>
    intro n h
    by_cases hn : n < 10
    · rw [fj hn]; show 10 * 0 + ((UInt8.ofNat (48 + n)).toNat - 48) = n; rw [ip n hn]; omega
    · rw [iV hn, qp, ih (n / 10) (by omega)]
      show 10 * (n / 10) + ((UInt8.ofNat (48 + n % 10)).toNat - 48) = n
      rw [ip _ (by omega)]; omega
theorem qo (n : Nat) : val 0 (decDigits n) = n := val_dd (n + 1) n (by omega)
end Go.Dg
namespace Go.Cl
open Go.Pv Go.Av
theorem mC (x : UInt8) (r u : Bs) : Go.Lib.index (x :: r) u = if u.isPrefixOf (x :: r) = true then 0 else if Go.Lib.index r u = -1 then -1 else Go.Lib.index r u + 1 := by
  by_cases h : u.isPrefixOf (x :: r) = true
  · simp [Go.Lib.index, h]
  · simp [Go.Lib.index, h]
theorem pr_idx : ∀ (b : Bs), (Go.Lib.index b [13, 10] = -1 ∧ pr false b = 0) ∨ ∃ i : Nat, Go.Lib.index b [13, 10] = (i : Int) ∧ i + 2 ≤ b.length ∧ pr false b = 1 + pr false (b.drop (i + 2))
  | [] => .inl ⟨by simp [Go.Lib.index], rfl⟩
  | c :: r => by
    have ih := pr_idx r
    by_cases h : c = 13
    · subst h
      cases r with
      | nil => left; exact ⟨by simp [Go.Lib.index], by simp [pr]⟩
      | cons d r =>
        by_cases g : d = 10
        · subst g
          right
          exact ⟨0, by simp [Go.Lib.index], by simp, by simp [pr]⟩
        · have hx : ([13, 10] : Bs).isPrefixOf (13 :: d :: r) = false := by
            have : (10 == d) = false := by simpa using fun q => g q.symm
            simp [List.isPrefixOf, this]
          have e : pr false (13 :: d :: r) = pr false (d :: r) := by simp [pr, g]
          rw [mC, hx, e]
          simp only [Bool.false_eq_true, if_false]
          rcases ih with ⟨h1, h2⟩ | ⟨i, h1, h2, h3⟩
          · left; rw [if_pos h1]; exact ⟨rfl, h2⟩
          · right
            refine ⟨i + 1, ?_, by simp at h2 ⊢; omega, ?_⟩
            · rw [if_neg (by omega), h1]; rfl
            · rw [h3]; rfl
    · have hx : ([13, 10] : Bs).isPrefixOf (c :: r) = false := by
        have : (13 == c) = false := by simpa using fun q => h q.symm
        simp [List.isPrefixOf, this]
      have e : pr false (c :: r) = pr false r := by simp [pr, h]
      rw [mC, hx, e]
      simp only [Bool.false_eq_true, if_false]
      rcases ih with ⟨h1, h2⟩ | ⟨i, h1, h2, h3⟩
      · left; rw [if_pos h1]; exact ⟨rfl, h2⟩
      · right
        refine ⟨i + 1, ?_, by simp at h2 ⊢; omega, ?_⟩
        · rw [if_neg (by omega), h1]; rfl
        · rw [h3]; rfl
theorem idx_ln : ∀ (l r : Bs), NoCr l → Go.Lib.index (l ++ 13 :: 10 :: r) [13, 10] = (l.length : Int)
  | [], r, _ => by simp [Go.Lib.index]
  | c :: l, r, h => by
    obtain ⟨h1, h2⟩ := h c (by simp)
    have hx : ([13, 10] : Bs).isPrefixOf (c :: (l ++ 13 :: 10 :: r)) = false := by
      have : (13 == c) = false := by simpa using fun q => h1 q.symm
      simp [List.isPrefixOf, this]
    show Go.Lib.index (c :: (l ++ 13 :: 10 :: r)) [13, 10] = _
    rw [mC, hx, idx_ln l r fun x hx => h x (by simp [hx])]
    simp only [Bool.false_eq_true, if_false]
    rw [if_neg (by omega)]
    simp
theorem idx_nil : Go.Lib.index [] [13, 10] = -1 := by simp [Go.Lib.index]
def gD (c : UInt8) : UInt8 := if 65 ≤ c.toNat ∧ c.toNat ≤ 90 then c + 97 - 65 else c
def kA (c : UInt8) : Bool := decide (48 ≤ c.toNat) && decide (c.toNat ≤ 57)
def mG (s : Bs) : Option Nat :=
  if (6 ≤ s.length ∧ s.length ≤ 14) ∧ (s.take 5).map gD = [115, 105, 122, 101, 32] ∧ (s.drop 5).all kA = true then some (Go.Dg.val 0 (s.drop 5)) else none
def pC : List Bs → Nat
  | [] => 0
  | s :: r => match mG s with | some n => n | none => pC r
def fk (ls : List Bs) : Nat := pC (ls.drop 1)
def jL : Bs := [81, 85, 73, 84, 13, 10]
def ehloD (nm : Bs) : Bs := [69, 72, 76, 79, 32] ++ nm ++ [13, 10]
def oc (fr : Bs) : Bs := [77, 65, 73, 76, 32, 70, 82, 79, 77, 58, 60] ++ fr ++ [62, 13, 10]
def pD (rc : Bs) : Bs := [82, 67, 80, 84, 32, 84, 79, 58, 60] ++ rc ++ [62, 13, 10]
def dataD : Bs := [68, 65, 84, 65, 13, 10]
def fm (ph c : Int) : Bool := if ph = 0 then decide (c = 220) else if ph = 4 then decide (c = 354) else decide (200 ≤ c) && decide (c ≤ 299)
abbrev St := Int × Int × Bs
section
variable (fr rc nm ml : Bs)
def goP (ph out : Int) (ls : List Bs) : St :=
  if ph = 0 then (1, out, ehloD nm) else if ph = 1 then (if 0 < fk ls ∧ fk ls < (gR ml).length then (6, 3, jL) else (2, out, oc fr))
  else if ph = 2 then (3, out, pD rc) else if ph = 3 then (4, out, dataD) else if ph = 4 then (5, out, gR ml) else (6, 1, jL)
def dp (ph out c : Int) (ls : List Bs) : St :=
  if ph < 0 ∨ 7 ≤ ph then (ph, out, []) else if c = 421 then (7, (if out = 0 then 2 else out), []) else if ph = 6 then (7, out, [])
  else if fm ph c = true then goP fr rc nm ml ph out ls else (6, (if 500 ≤ c ∧ c ≤ 599 then 3 else 2), jL)
def runP {M : Type} : St → List (Int × List Bs × M) → St
  | s, [] => s
  | s, x :: r => runP ((dp fr rc nm ml s.1 s.2.1 x.1 x.2.1).1, (dp fr rc nm ml s.1 s.2.1 x.1 x.2.1).2.1, s.2.2 ++ (dp fr rc nm ml s.1 s.2.1 x.1 x.2.1).2.2) r
theorem nh (out c : Int) (ls : List Bs) : dp fr rc nm ml 7 out c ls = (7, out, []) := by unfold dp; rw [if_pos (by omega)]
def partD : Nat → Bs
  | 0 => ehloD nm
  | 1 => oc fr
  | 2 => pD rc
  | 3 => dataD
  | _ => gR ml
def preD : Nat → Bs
  | 0 => []
  | k + 1 => preD k ++ partD fr rc nm ml k
inductive Iv : Int → Int → Bs → Prop
  | go (k : Nat) (h : k ≤ 5) : Iv (k : Int) 0 (preD fr rc nm ml k)
  | stop (k : Nat) (out : Int) (h : k ≤ 5) (ho : out = 2 ∨ out = 3 ∨ (out = 1 ∧ k = 5)) : Iv 6 out (preD fr rc nm ml k ++ jL)
  | off (k : Nat) (h : k ≤ 5) : Iv 7 2 (preD fr rc nm ml k)
  | done (k : Nat) (out : Int) (h : k ≤ 5) (ho : out = 2 ∨ out = 3 ∨ (out = 1 ∧ k = 5)) : Iv 7 out (preD fr rc nm ml k ++ jL)
theorem Iv.step {ph out : Int} {a : Bs} (h : Iv fr rc nm ml ph out a) (c : Int) (ls : List Bs) :
    Iv fr rc nm ml (dp fr rc nm ml ph out c ls).1 (dp fr rc nm ml ph out c ls).2.1 (a ++ (dp fr rc nm ml ph out c ls).2.2) := by
  cases h with
  | go k h =>
    unfold dp
    rw [if_neg (by omega)]
    by_cases h1 : c = 421
    · rw [if_pos h1]
      simp only [List.append_nil, if_true]
      exact .off k h
    · rw [if_neg h1, if_neg (by omega)]
      by_cases h2 : fm (k : Int) c = true
      · rw [if_pos h2]
        unfold goP
        have : k = 0 ∨ k = 1 ∨ k = 2 ∨ k = 3 ∨ k = 4 ∨ k = 5 := by omega
        rcases this with rfl | rfl | rfl | rfl | rfl | rfl
        · exact Iv.go 1 (by omega)
        · by_cases q : 0 < fk ls ∧ fk ls < (gR ml).length
          · rw [if_neg (by decide), if_pos (by decide), if_pos q]
            exact Iv.stop 1 3 (by omega) (by omega)
          · rw [if_neg (by decide), if_pos (by decide), if_neg q]
            exact Iv.go 2 (by omega)
        · exact Iv.go 3 (by omega)
        · exact Iv.go 4 (by omega)
        · exact Iv.go 5 (by omega)
        · exact Iv.stop 5 1 (by omega) (by omega)
      · rw [if_neg h2]
        by_cases q : 500 ≤ c ∧ c ≤ 599
        · rw [if_pos q]; exact .stop k 3 h (by omega)
        · rw [if_neg q]; exact .stop k 2 h (by omega)
  | stop k out h ho =>
    have hne : ¬ out = 0 := by omega
    unfold dp
    rw [if_neg (by omega)]
    by_cases h1 : c = 421
    · rw [if_pos h1, if_neg hne]
      simp only [List.append_nil]
      exact .done k _ h ho
    · rw [if_neg h1, if_pos rfl]
      simp only [List.append_nil]
      exact .done k _ h ho
  | off k h => rw [nh]; simp only [List.append_nil]; exact .off k h
  | done k out h ho => rw [nh]; simp only [List.append_nil]; exact .done k _ h ho
theorem Iv.run {M : Type} : ∀ (l : List (Int × List Bs × M)) {ph out : Int} {a : Bs}, Iv fr rc nm ml ph out a → Iv fr rc nm ml (runP fr rc nm ml (ph, out, a) l).1 (runP fr rc nm ml (ph, out, a) l).2.1 (runP fr rc nm ml (ph, out, a) l).2.2
  | [], _, _, _, h => h
  | x :: r, _, _, _, h => Iv.run r (h.step fr rc nm ml x.1 x.2.1)
end
end Go.Cl
namespace Go.Dg
open Go.Pv Go.Av
open Go.Lib (decDigits)
theorem gz (x : Bool) : (true && x) = x := Eq.symm (Eq.symm rfl)
theorem iX (x : Bool) : (false && x) = false := Eq.symm (Eq.symm rfl)
theorem fo (x : Bool) : (false || x) = x := Eq.symm (Eq.symm rfl)
theorem nfl : (!false) = true := Eq.symm (Eq.symm rfl)
theorem ntr : (!true) = false := Eq.symm (Eq.symm rfl)
theorem cfl {α : Type} (a b : α) : (bif false then a else b) = b := Eq.symm (Eq.symm rfl)
theorem ctr {α : Type} (a b : α) : (bif true then a else b) = a := Eq.symm (Eq.symm rfl)
def Tot (o : Option (Int × Int)) : Prop := ∃ x k, o = some (x, k) ∧ (k = 0 ∨ k = 1 ∨ k = 2)
theorem Tot.z (x : Int) : Tot (some (x, 0)) := ⟨x, 0, rfl, .inl rfl⟩
theorem Tot.o (x : Int) : Tot (some (x, 1)) := ⟨x, 1, rfl, .inr (.inl rfl)⟩
theorem Tot.t (x : Int) : Tot (some (x, 2)) := ⟨x, 2, rfl, .inr (.inr rfl)⟩
theorem eD {c : Bool} {a b : Option (Int × Int)} (ha : Tot a) (hb : Tot b) : Tot (bif c then a else b) := by cases c <;> assumption
theorem tot_bndc {c : Bool} {v : UInt8} {f : UInt8 → Option (Int × Int)} (h : ∀ x, Tot (f x)) : Tot (js c (some v) f) := by
  cases c
  · exact h _
  · exact h _
theorem j3_tot (y17 : Int) (y23 y24 : Int) (rec : (Bool × Int × Int) → Option (Int × Int)) (y43 : UInt8) (h : ∀ v, Tot (rec (false, v, y24 + 1))) (hb : -9223372036854775808 ≤ y24 + 1 ∧ y24 + 1 ≤ 9223372036854775807) :
    Tot (dh 10 y17 false y23 y24 rec y43) := by
  unfold dh dy
  refine eD (.t _) (eD (.o _) (eD (.o _) ?_))
  rw [dW hb]
  exact h _
theorem qL (F : Nat) (s : Bs) (c : Int) (hs : s.length ≤ 1000) : ∀ (n i : Nat) (v : Int), s.length - i < n → i ≤ s.length → Tot (cm F s 10 c n (false, v, (i : Int))) := by
  intro n
  induction n with
  | zero => intro i v h; omega
  | succ n ih =>
    intro i v hn hi;show Tot (el F s 10 c (cm F s 10 c n) false v (i : Int))
    unfold el
    by_cases h : i < s.length
    · have e : ((i : Int) + 1) = ((i + 1 : Nat) : Int) := by omega
      have hr : ∀ v, Tot (cm F s 10 c n (false, v, (i : Int) + 1)) := fun v => by rw [e]; exact ih (i + 1) v (by omega) (by omega)
      have h10 : decide ((10 : Int) = 0) = false := by decide
      rw [bT (by omega), cK (by omega), bO, h10, Bool.and_false, cfl]
      refine eD (j3_tot _ _ _ _ _ hr (by omega)) ?_
      unfold eA
      rw [cC]
      refine tot_bndc fun x38 => eD ?_ (.t _)
      rw [cC]
      exact j3_tot _ _ _ _ _ hr (by omega)
    · rw [bF (by omega)]
      unfold ek
      rw [bndc_f, iX, cfl]
      exact .z _
theorem uint_tot (F : Nat) (s : Bs) (hs : s.length ≤ 1000) (hF : s.length < F) : Tot (fJ F s 10 0) := by
  unfold fJ
  refine eD (.t _) ?_
  have h1 : ((decide ((2 : Int) ≤ 10)) && (decide ((10 : Int) ≤ 36))) = true := by decide
  rw [h1, grd_t]
  unfold ei ej
  rw [mH rfl, bT rfl]
  unfold dg
  have h2 : decide (0 ≤ IntKind.u64.wrap 64) = true := by decide +kernel
  rw [h2, grd_t, dx (by omega)]
  exact qL F s _ hs F 0 0 (by omega) (by omega)
theorem pT (b : Bool) (x : Int) : Tot (dz b x) := by
  unfold dz dA
  have h2 : decide (0 ≤ IntKind.u64.wrap 63) = true := by decide +kernel
  rw [h2, grd_t]
  exact eD (.o _) (eD (.o _) (eD (.z _) (.z _)))
theorem kd (F : Nat) (s : Bs) (b : Bool) (hs : s.length ≤ 1000) (hF : s.length < F) : Tot (cL F 10 0 s b) := by
  unfold cL
  obtain ⟨x, k, e, hk⟩ := uint_tot F s hs hF
  rw [e, cl]
  by_cases h2 : k = 2
  · subst h2
    have : ((!decide ((2 : Int) = 0)) && (!decide ((2 : Int) = 1))) = true := by decide
    rw [this, ctr]
    exact .t _
  · have : ((!decide (k = 0)) && (!decide (k = 1))) = false := by
      rcases hk with rfl | rfl | rfl
      · decide
      · decide
      · exact absurd rfl h2
    rw [this, cfl, mH rfl]
    exact pT _ _
theorem int_tot (F : Nat) (s : Bs) (hs : s.length ≤ 1000) (hF : s.length < F) : Tot (fK F s 10 0) := by
  unfold fK
  by_cases h : s = []
  · rw [bT h]; exact .t _
  · have hp : 0 < s.length := List.length_pos_iff.2 h
    have hf : (gr s 1).length ≤ s.length := by unfold gr; simp
    rw [bF h, cK (by omega), bO]
    refine eD ?_ (eD ?_ (kd F s _ hs hF))
    · rw [lB (by omega), bO]; exact kd F _ _ (by omega) (by omega)
    · rw [lB (by omega), bO]; exact kd F _ _ (by omega) (by omega)
theorem jT (a s : Bs) (ha : a ≠ []) (hs : s.length ≤ 18) : ∀ (n i v : Nat), s.length - i < n → i ≤ s.length → v < 10 ^ i → Tot (fq a s n ((v : Int), (i : Int))) := by
  intro n
  induction n with
  | zero => intro i v h; omega
  | succ n ih =>
    intro i v hn hi hv;show Tot (ft a s (fq a s n) (v : Int) (i : Int))
    unfold ft
    have hv18 : v < 10 ^ 18 := Nat.lt_of_lt_of_le hv (Nat.pow_le_pow_right (by omega) (by omega))
    by_cases h : i < s.length
    · have hv17 : v < 10 ^ 17 := Nat.lt_of_lt_of_le hv (Nat.pow_le_pow_right (by omega) (by omega))
      rw [bT (by omega), cK (by omega), bO]
      obtain ⟨c, hc⟩ : ∃ c, c = at_ s (i : Int) := ⟨_, rfl⟩
      rw [← hc]
      by_cases h9 : 9 < (c - 48).toNat
      · rw [bT (by omega)]; exact .t _
      · have e1 : ((v : Int) * 10) + ((c - 48).toNat : Int) = ((v * 10 + (c - 48).toNat : Nat) : Int) := by omega
        have e2 : ((i : Int) + 1) = ((i + 1 : Nat) : Int) := by omega
        rw [bF (by omega), dW (by omega), dW (by omega), dW (by omega), e1, e2]
        refine ih (i + 1) _ (by omega) (by omega) ?_
        rw [Nat.pow_succ]; omega
    · rw [bF (by omega)]
      unfold eN eO
      have hp : 0 < a.length := List.length_pos_iff.2 ha
      rw [cK (by omega), bO]
      refine eD ?_ (.z _)
      rw [dW (by omega)]; exact .z _
theorem atoi_tot (F : Nat) (s : Bs) (hs : s.length ≤ 1000) (hF : s.length < F) : Tot (gG F s) := by
  unfold gG eM gL
  by_cases h : 0 < s.length ∧ s.length < 19
  · have hc : ((decide (0 < (s.length : Int))) && (decide ((s.length : Int) < 19))) = true := by
      rw [decide_eq_true (by omega), decide_eq_true (by omega)]; rfl
    have hne : s ≠ [] := List.length_pos_iff.1 h.1
    have hf : (gr s 1).length ≤ s.length := by unfold gr; simp
    rw [hc, ctr, cK (by omega), bO]
    have hg : ∀ (c : Bool) (x : Option (Int × Int)), dT c (cA 0 s.length) x = x := fun c x => fQ fun _ => by omega
    rw [hg, bO]
    refine eD ?_ ?_
    · rw [lB (by omega), bO]
      refine eD (.t _) ?_
      rw [dx (by omega)]
      exact jT s _ hne (by omega) F 0 0 (by omega) (by omega) (by omega)
    · rw [dx (by omega)]
      exact jT s _ hne (by omega) F 0 0 (by omega) (by omega) (by omega)
  · have hc : ((decide (0 < (s.length : Int))) && (decide ((s.length : Int) < 19))) = false := by
      by_cases h0 : 0 < s.length
      · rw [decide_eq_false (show ¬ ((s.length : Int) < 19) by omega), Bool.and_false]
      · rw [decide_eq_false (show ¬ (0 < (s.length : Int)) by omega)]; rfl
    rw [hc, cfl]
    obtain ⟨x, k, e, hk⟩ := int_tot F s hs hF
    rw [e, cl]
    exact ⟨x, k, rfl, hk⟩
theorem Atoi_tot (F : Nat) (s : Bs) (hs : s.length ≤ 1000) (hF : s.length < F) : ∃ x k, cT F s = some (x, k) := by
  unfold cT
  obtain ⟨x, k, e, hk⟩ := atoi_tot F s hs hF
  rw [e, cl]
  by_cases h0 : k = 0
  · subst h0; exact ⟨x, 0, by rw [decide_eq_true rfl, ntr, cfl]⟩
  · refine ⟨x, 1, ?_⟩
    rw [decide_eq_false h0, nfl, ctr, iZ (by omega), mH (by omega)]
theorem qz (c : UInt8) (h : Dig c) : (c - 48).toNat = c.toNat - 48 := by
  have : ∀ k : Fin 256, (48 ≤ k.val ∧ k.val ≤ 57) → (UInt8.ofNat k.val - 48).toNat = k.val - 48 := by decide +kernel
  have h1 := this ⟨c.toNat, c.toNat_lt⟩ h
  simpa using h1
theorem atoi_loop (a : Bs) (s : Bs) (hs : s.length ≤ 18) (hd : ∀ c ∈ s, Dig c) : ∀ (n i v : Nat), s.length - i < n → i ≤ s.length → v < 10 ^ i → fq a s n ((v : Int), (i : Int)) = eN a ((val v (s.drop i) : Nat) : Int) := by
  intro n
  induction n with
  | zero => intro i v h; omega
  | succ n ih =>
    intro i v hn hi hv;show ft a s (fq a s n) (v : Int) (i : Int) = _
    unfold ft
    by_cases h : i < s.length
    · have hv17 : v < 10 ^ 17 := Nat.lt_of_lt_of_le hv (Nat.pow_le_pow_right (by omega) (by omega))
      have hdr : s.drop i = s[i] :: s.drop (i + 1) := bj h
      have hc := hd _ (List.getElem_mem h)
      have hsub := qz _ hc
      obtain ⟨hc1, hc2⟩ := hc
      rw [bT (by omega), cK (by omega), bO, dM h]
      have e1 : ((v : Int) * 10) + ((s[i] - 48).toNat : Int) = ((10 * v + (s[i].toNat - 48) : Nat) : Int) := by rw [hsub]; omega
      have e2 : ((i : Int) + 1) = ((i + 1 : Nat) : Int) := by omega
      rw [bF (by rw [hsub]; omega), dW (by omega), dW (by omega), dW (by omega), e1, e2, ih (i + 1) _ (by omega) (by omega) (by rw [Nat.pow_succ]; omega), hdr]
      rfl
    · rw [bF (by omega), ba (by omega)]; rfl
theorem Atoi_dd (F : Nat) (n : Nat) (hn : n ≤ 1073741824) (hF : 100 < F) : cT F (decDigits n) = some ((n : Int), 0) := by
  have hl : (decDigits n).length ≤ 11 := oE 10 n (by omega)
  have hp := ql n
  have hd := ou n
  have h0 : at_ (decDigits n) 0 = (decDigits n)[0] := lS (by omega)
  have hd0 := hd _ (List.getElem_mem (show 0 < (decDigits n).length by omega))
  have n45 : (decDigits n)[0] ≠ 45 := fun e => by rw [e] at hd0; exact absurd hd0.1 (by decide)
  have n43 : (decDigits n)[0] ≠ 43 := fun e => by rw [e] at hd0; exact absurd hd0.1 (by decide)
  have hc : ((decide (0 < ((decDigits n).length : Int))) && (decide (((decDigits n).length : Int) < 19))) = true := by
    rw [decide_eq_true (by omega), decide_eq_true (by omega)]; rfl
  have hg : ∀ (c : Bool) (x : Option (Int × Int)), dT c (cA 0 (decDigits n).length) x = x := fun c x => fQ fun _ => by omega
  have e : gG F (decDigits n) = some ((n : Int), 0) := by
    unfold gG eM
    rw [hc, ctr, cK (by omega), bO, hg, bO, h0, decide_eq_false n45, decide_eq_false n43, fo, cfl, dx (by omega)]
    have := atoi_loop (decDigits n) (decDigits n) (by omega) hd F 0 0 (by omega) (by omega) (by omega)
    refine Eq.trans this ?_
    rw [List.drop_zero, qo]
    unfold eN eO
    rw [cK (by omega), bO, h0, decide_eq_false n45, cfl]
  unfold cT
  rw [e, cl, decide_eq_true rfl, ntr, cfl]
end Go.Dg
namespace Go.Cl
open Go.Pv Go.Av
open Go.Dg (cfl ctr gz iX fo nfl ntr)
theorem gcS {α : Type} {k : Option α} {c : Bool} {n : Nat} (h : n < 4294967281) : dT c (okS n) k = k := by
  cases c
  · exact qk
  · rw [qj, iZ h]
theorem gcI {α : Type} {k : Option α} {c : Bool} {n : Int} (h : -9223372036854775808 ≤ n ∧ n ≤ 9223372036854775807) : dT c (okI n) k = k := by
  cases c
  · exact qk
  · rw [qj, dW h]
theorem qf : ∀ (n : Nat) (y : Bs) (k : Nat), y.length < n → y.length ≤ 1100000 → k + y.length ≤ 3000000 →
    eI [13, 10] n (y, (k : Int)) = some ((k + pr false y : Nat) : Int) := by
  intro n
  induction n with
  | zero => intro y k h; omega
  | succ n ih =>
    intro y k hn hy hk;show eJ [13, 10] (eI [13, 10] n) y (k : Int) = _
    unfold eJ
    have e2 : ([13, 10] : Bs).length = 2 := Eq.symm (Eq.symm rfl)
    rw [e2, iZ (by omega), mH (by omega), iZ (by omega), bO]
    rcases pr_idx y with ⟨h1, h2⟩ | ⟨i, h1, h2, h3⟩
    · rw [h1, bT rfl, h2]; rfl
    · have e : (i : Int) + ((2 : Nat) : Int) = ((i + 2 : Nat) : Int) := by omega
      rw [h1, bF (by omega), dW (by omega), dW (by omega), lB (by omega), bO, e, py, eY, ih (y.drop (i + 2)) (k + 1) (by rw [List.length_drop]; omega) (by rw [List.length_drop]; omega) (by rw [List.length_drop]; omega), h3]
      congr 1
      omega
theorem rE (F : Nat) (b : Bs) (hb : b.length ≤ 1100000) (hF : b.length < F) : dE F b [13, 10] = some ((pr false b : Nat) : Int) := by
  unfold dE
  have := qf F b 0 hF hb (by omega)
  rw [Nat.zero_add] at this
  exact this
theorem nN (F : Nat) (b : Bs) (c : UInt8) : dE F b [c] = some ((b.count c : Nat) : Int) := by
  unfold dE
  rfl
theorem okS_suf {b : Bs} (h : Go.Lib.hasSuffix b [13, 10] = true) : b.getLast? = some 10 := by
  unfold Go.Lib.hasSuffix at h
  obtain ⟨p, hp⟩ := List.isSuffixOf_iff_suffix.1 h
  rw [← hp]; simp
theorem suf_of {ls : List Bs} (hn : ls ≠ []) : Go.Lib.hasSuffix (flD ls) [13, 10] = true := by
  unfold Go.Lib.hasSuffix
  refine List.isSuffixOf_iff_suffix.2 ?_;obtain ⟨p, l, rfl⟩ : ∃ p l, ls = p ++ [l] := ⟨ls.dropLast, ls.getLast hn, (List.dropLast_concat_getLast hn).symm⟩;refine ⟨flD p ++ l, ?_⟩
  simp [flD, lnD]
theorem qx (F : Nat) (b : Bs) (hb : b.length ≤ 1100000) (hF : b.length < F) : jI F b = some (iU b) := by
  unfold jI
  rw [rE F b hb hF, cC, nN, cC, nN, gc, gcS (by omega), bO]
  congr 1
  have hk := pr_ok b false
  simp only [Bool.false_eq_true, if_false, Nat.add_zero] at hk
  by_cases h1 : b.count 13 = pr false b
  · have d1 : decide (((b.count 13 : Nat) : Int) = ((pr false b : Nat) : Int)) = true := decide_eq_true (by omega)
    rw [d1, ctr, gz]
    by_cases h2 : b.count 10 = pr false b
    · have d2 : decide (((b.count 10 : Nat) : Int) = ((pr false b : Nat) : Int)) = true := decide_eq_true (by omega)
      have ho := hk.1 ⟨h2.symm, h1.symm⟩
      rw [d2, gz]
      unfold iU
      rw [ho, gz]
      unfold endD
      by_cases h0 : b = []
      · subst h0; rfl
      · have hl : 0 < b.length := List.length_pos_iff.2 h0
        rw [decide_eq_false (p := ((b.length : Int) = 0)) (by omega), decide_eq_false h0, fo, fo]
        cases hs : Go.Lib.hasSuffix b [13, 10] with
        | true => rw [okS_suf hs]; rfl
        | false =>
          symm
          refine decide_eq_false fun hq => ?_
          have hm : iU b = true := by unfold iU endD; rw [ho, hq]; simp
          obtain ⟨ls, _, hb⟩ := np hm
          have : ls ≠ [] := fun e => h0 (by rw [hb, e]; rfl)
          have := suf_of this
          rw [← hb, hs] at this
          cases this
    · have d2 : decide (((b.count 10 : Nat) : Int) = ((pr false b : Nat) : Int)) = false := decide_eq_false (by omega)
      have ho : okD false b = false := by
        cases q : okD false b with
        | false => rfl
        | true => exact absurd (hk.2 q).1.symm h2
      rw [d2, iX]
      unfold iU; rw [ho]; rfl
  · have d1 : decide (((b.count 13 : Nat) : Int) = ((pr false b : Nat) : Int)) = false := decide_eq_false (by omega)
    have ho : okD false b = false := by
      cases q : okD false b with
      | false => rfl
      | true => exact absurd (hk.2 q).2.symm h1
    rw [d1, iX, iX]
    unfold iU; rw [ho]; rfl
theorem fl_cons (l : Bs) (ls : List Bs) : flD (l :: ls) = l ++ 13 :: 10 :: flD ls := by simp [flD, lnD]
theorem stuff_k (acc l : Bs) (ha : acc.length + l.length ≤ 10000000) : cz acc (lnD l) = some (acc ++ lM l, true) := by
  unfold cz eV
  have hln : (lnD l).length = l.length + 2 := by simp [lnD]
  rw [cK (by omega), bO, lS (by omega)]
  cases l with
  | nil =>
    have : (lnD [])[0]'(by simp [lnD]) = 13 := rfl
    rw [this, bF (by decide), dx (by omega), bO]
    rfl
  | cons c l =>
    have : (lnD (c :: l))[0]'(by simp [lnD]) = c := rfl
    rw [this]
    simp only [List.length_cons] at ha hln
    by_cases h : c = 46
    · subst h
      rw [bT rfl, dx (by simp; omega), bO, dx (by simp; omega), bO]
      simp [lM]
    · rw [bF h, dx (by omega), bO]
      simp [lM, h]
theorem mm : ∀ (ls : List Bs) (n : Nat) (acc : Bs), (∀ l ∈ ls, NoCr l) → ls.length < n → (flD ls).length ≤ 1100000 → acc.length + 2 * (flD ls).length ≤ 5000000 →
    ez (fun s x => cz s x) n (flD ls, acc) = some (acc ++ (ls.map lM).flatten, [])
  | ls, 0, acc, _, hn, _, _ => by omega
  | [], n + 1, acc, h, hn, hl, ha => by
    show dJ (fun s x => cz s x) (ez (fun s x => cz s x) n) [] acc = _
    unfold dJ
    have e2 : ([13, 10] : Bs).length = 2 := Eq.symm (Eq.symm rfl)
    have e0 : ([] : Bs).length = 0 := Eq.symm (Eq.symm rfl)
    rw [e2, e0, iZ (by omega), mH (by omega), iZ (by omega), bO, idx_nil, bT (by decide)]
    simp
  | l :: ls, n + 1, acc, h, hn, hl, ha => by
    show dJ (fun s x => cz s x) (ez (fun s x => cz s x) n) (flD (l :: ls)) acc = _
    unfold dJ
    have e2 : ([13, 10] : Bs).length = 2 := Eq.symm (Eq.symm rfl)
    have hlen : (flD (l :: ls)).length = l.length + 2 + (flD ls).length := by rw [fl_cons]; simp; omega
    have hi : Go.Lib.index (flD (l :: ls)) [13, 10] = (l.length : Int) := by rw [fl_cons]; exact idx_ln l _ (h l (by simp))
    have e : (l.length : Int) + 2 = ((l.length + 2 : Nat) : Int) := by omega
    have ht : (flD (l :: ls)).take (l.length + 2) = lnD l := by
      rw [fl_cons, show l ++ 13 :: 10 :: flD ls = lnD l ++ flD ls by simp [lnD], List.take_left' (by simp [lnD])]
    have hd : (flD (l :: ls)).drop (l.length + 2) = flD ls := by
      rw [fl_cons, show l ++ 13 :: 10 :: flD ls = lnD l ++ flD ls by simp [lnD], List.drop_left' (by simp [lnD])]
    have hk : (fun (s x : Bs) => cz s x) acc (lnD l) = some (acc ++ lM l, true) := stuff_k acc l (by omega)
    have hdl : (lM l).length ≤ l.length + 3 := by unfold lM lnD; split <;> simp
    rw [e2, iZ (by omega), mH (by omega), iZ (by omega), bO, hi, bF (by omega), dW (by omega), lB (by omega), bO, e, to_nat, ht, hk, cl, ntr, cfl, dW (by omega), lB (by omega), bO, py, hd]
    rw [mm ls n (acc ++ lM l) (fun x hx => h x (by simp [hx])) (by simp at hn; omega) (by omega) (by rw [List.length_append]; omega)]
    simp
theorem fl_len (ls : List Bs) : 2 * ls.length ≤ (flD ls).length := by
  induction ls with
  | nil => simp [flD]
  | cons l ls ih => rw [fl_cons]; simp; omega
theorem ng (F : Nat) (b : Bs) (hb : b.length ≤ 1100000) (hF : b.length < F) : gJ F b = some (gR b, if iU b = true then 0 else 1) := by
  unfold gJ jy iE
  rw [qx F b hb hF, cC]
  unfold gR
  cases hm : iU b with
  | false => rfl
  | true =>
    rw [ntr, cfl, cC]
    obtain ⟨ls, hc, rfl⟩ := np hm
    have := fl_len ls
    rw [mm ls F [] hc (by omega) hb (by simp; omega), cl]
    unfold fO
    rw [mx ls hc]
    have hle : ((ls.map lM).flatten).length ≤ 2 * (flD ls).length := by rw [← mx ls hc]; exact ow _ _
    rw [dx (by simp at hle ⊢; omega), bO]
    rfl
def p13 (b : Bs) (i : Nat) : Bool := decide (0 < i) && decide (b[i - 1]? = some 13)
def p10 (b : Bs) (i : Nat) : Bool := decide (i = 0) || decide (b[i - 1]? = some 10)
theorem pE {b : Bs} {i : Nat} (h : i < b.length) : p13 b (i + 1) = decide (b[i] = 13) := by
  unfold p13
  rw [decide_eq_true (by omega), gz, Nat.add_sub_cancel, au h]
  simp
theorem p10_s {b : Bs} {i : Nat} (h : i < b.length) : p10 b (i + 1) = decide (b[i] = 10) := by
  unfold p10
  rw [decide_eq_false (by omega), fo, Nat.add_sub_cancel, au h]
  simp
theorem rmay_end (b : Bs) (hb : b.length ≤ 1100000) : eT b = some (endD b) := by
  unfold eT endD
  by_cases h : b = []
  · subst h; rfl
  · have hl : 0 < b.length := List.length_pos_iff.2 h
    have e : (b.length : Int) - 1 = ((b.length - 1 : Nat) : Int) := by omega
    rw [gcI (by omega), fQ (fun _ => by omega), bO, e, dM (by omega), decide_eq_false (p := ((b.length : Int) = 0)) (by omega), decide_eq_false h, fo, fo, List.getLast?_eq_getElem?, au (by omega)]
    simp
theorem qQ (b : Bs) (hb : b.length ≤ 1100000) : ∀ (n i : Nat), b.length - i < n → i ≤ b.length → (p13 b i = true → (b.drop i).head? = some 10) →
    fL b n (i : Int) = some (okD (p13 b i) (b.drop i) && endD b) := by
  intro n
  induction n with
  | zero => intro i h; omega
  | succ n ih =>
    intro i hn hi hp;show fM b (fL b n) (i : Int) = _
    unfold fM
    by_cases h : i < b.length
    · have ea : at_ b (i : Int) = b[i] := dM h
      have en : ∀ q : i + 1 < b.length, at_ b ((i : Int) + 1) = b[i + 1] := fun q => by rw [eY]; exact dM q
      have hd : b.drop i = b[i] :: b.drop (i + 1) := bj h
      rw [bT (by omega), cK (by omega), bO, ea, gcI (by omega), gcI (by omega)]
      have g1 : ∀ (x : Option Bool), dT ((decide (b[i] = 13)) && (!(decide ((b.length : Int) ≤ (i : Int) + 1)))) (cA ((i : Int) + 1) b.length) x = x := fun x => fQ fun e => by
        simp only [Bool.and_eq_true, Bool.not_eq_true', decide_eq_false_iff_not] at e
        omega
      rw [g1, bO, fQ (fun _ => by omega), bO, gcI (by omega)]
      have g2 : ∀ (c : Bool) (x : Option Bool), dT (c && (!(decide ((i : Int) = 0)))) (cA ((i : Int) - 1) b.length) x = x := fun c x => fQ fun e => by
        simp only [Bool.and_eq_true, Bool.not_eq_true', decide_eq_false_iff_not] at e
        omega
      rw [g2, bO, hd]
      have ep : p13 b i = (decide (0 < i) && decide (at_ b ((i : Int) - 1) = 13)) := by
        unfold p13
        by_cases h0 : 0 < i
        · rw [show (i : Int) - 1 = ((i - 1 : Nat) : Int) by omega, dM (by omega), au (by omega)]
          simp
        · rw [decide_eq_false h0, iX, iX]
      by_cases c13 : b[i] = 13
      · have hp' : p13 b i = false := by
          cases q : p13 b i with
          | false => rfl
          | true =>
            have := hp q
            rw [hd, c13] at this
            simp at this
        rw [c13, hp', mF, decide_eq_true (p := (13 : UInt8) = 13) rfl, gz, show decide ((13 : UInt8) = 10) = false from rfl, iX, Bool.or_false, nfl, gz]
        by_cases q : i + 1 < b.length
        · have hd2 : b.drop (i + 1) = b[i + 1] :: b.drop (i + 2) := bj q
          rw [en q, decide_eq_false (p := (b.length : Int) ≤ (i : Int) + 1) (by omega), fo]
          by_cases c10 : b[i + 1] = 10
          · rw [decide_eq_true c10, ntr, cfl, dW (by omega), eY, ih (i + 1) (by omega) (by omega) (fun _ => by rw [hd2, c10]; rfl), pE h, decide_eq_true c13]
          · rw [decide_eq_false c10, nfl, ctr, hd2]
            have : okD true (b[i + 1] :: b.drop (i + 2)) = false := by
              by_cases g : b[i + 1] = 13
              · rw [g, mF]; rfl
              · rw [pG _ _ g c10]; rfl
            rw [this]; rfl
        · rw [decide_eq_true (p := (b.length : Int) ≤ (i : Int) + 1) (by omega), Bool.true_or, ctr, ba (by omega)]
          rfl
      · have e13 : decide (b[i] = 13) = false := decide_eq_false c13
        rw [e13, iX, fo]
        by_cases c10 : b[i] = 10
        · rw [c10, oA, decide_eq_true (p := (10 : UInt8) = 10) rfl, gz, ep]
          by_cases h0 : 0 < i
          · rw [decide_eq_false (p := (i : Int) = 0) (by omega), fo, decide_eq_true h0, gz]
            by_cases g : at_ b ((i : Int) - 1) = 13
            · rw [decide_eq_true g, ntr, cfl, gz, dW (by omega), eY, ih (i + 1) (by omega) (by omega) (fun q => by rw [pE h, e13] at q; cases q), pE h, e13]
            · rw [decide_eq_false g, nfl, ctr]; rfl
          · rw [decide_eq_true (p := (i : Int) = 0) (by omega), Bool.true_or, ctr, decide_eq_false h0]; rfl
        · have hp' : p13 b i = false := by
            cases q : p13 b i with
            | false => rfl
            | true =>
              have := hp q
              rw [hd] at this
              exact absurd (aC this) c10
          rw [decide_eq_false c10, iX, cfl, hp', pG _ _ c13 c10, nfl, gz, dW (by omega), eY, ih (i + 1) (by omega) (by omega) (fun q => by rw [pE h, e13] at q; cases q), pE h, e13]
    · rw [bF (by omega), rmay_end b hb, ba (by omega)]
      have hp' : p13 b i = false := by
        cases q : p13 b i with
        | false => rfl
        | true =>
          have := hp q
          rw [ba (by omega)] at this
          cases this
      rw [hp']; rfl
theorem qR (F : Nat) (b : Bs) (hb : b.length ≤ 1100000) (hF : b.length < F) : im F b = some (iU b) := by
  unfold im
  have := qQ b hb F 0 (by omega) (by omega) (fun q => by cases q)
  exact this
theorem oQ (b : Bs) (hb : b.length ≤ 1100000) : ∀ (n i : Nat) (acc : Bs), b.length - i < n → i ≤ b.length → acc.length ≤ 2 * i →
    dd b n (acc, (i : Int)) = some (acc ++ stD (p10 b i) (b.drop i) ++ [46, 13, 10], 0) := by
  intro n
  induction n with
  | zero => intro i acc h; omega
  | succ n ih =>
    intro i acc hn hi ha;show eG b (dd b n) acc (i : Int) = _
    unfold eG
    by_cases h : i < b.length
    · have ea : at_ b (i : Int) = b[i] := dM h
      have hd : b.drop i = b[i] :: b.drop (i + 1) := bj h
      have g2 : ∀ (c : Bool) (x : Option (Bs × Int)), dT (c && (!(decide ((i : Int) = 0)))) (cA ((i : Int) - 1) b.length) x = x := fun c x => fQ fun e => by
        simp only [Bool.and_eq_true, Bool.not_eq_true', decide_eq_false_iff_not] at e
        omega
      have ep : p10 b i = (decide ((i : Int) = 0) || decide (at_ b ((i : Int) - 1) = 10)) := by
        unfold p10
        by_cases h0 : i = 0
        · rw [decide_eq_true h0, decide_eq_true (p := (i : Int) = 0) (by omega), Bool.true_or, Bool.true_or]
        · rw [decide_eq_false h0, decide_eq_false (p := (i : Int) = 0) (by omega), fo, fo, show (i : Int) - 1 = ((i - 1 : Nat) : Int) by omega, dM (by omega), au (by omega)]
          simp
      have key : ∀ acc' : Bs, acc'.length ≤ 2 * i + 1 → dw b (i : Int) (dd b n) acc' = some (acc' ++ [b[i]] ++ stD (decide (b[i] = 10)) (b.drop (i + 1)) ++ [46, 13, 10], 0) := fun acc' h' => by
        unfold dw
        have e1 : ([b[i]] : Bs).length = 1 := rfl
        rw [cK (by omega), bO, ea, e1, dx (by omega), bO, dW (by omega), eY, ih (i + 1) _ (by omega) (by omega) (by rw [List.length_append]; simp; omega), p10_s h]
      rw [bT (by omega), cK (by omega), bO, ea, gcI (by omega), g2, bO, hd, ← ep]
      have es : stD (p10 b i) (b[i] :: b.drop (i + 1)) = (if p10 b i = true ∧ b[i] = 46 then [46, b[i]] else [b[i]]) ++ stD (decide (b[i] = 10)) (b.drop (i + 1)) := rfl
      rw [es]
      by_cases q : p10 b i = true ∧ b[i] = 46
      · rw [if_pos q, q.1, decide_eq_true q.2, gz, ctr]
        have e1 : ([46] : Bs).length = 1 := rfl
        rw [e1, dx (by omega), bO, key _ (by rw [List.length_append, e1]; omega)]
        simp
      · have : (decide (b[i] = 46) && p10 b i) = false := by
          cases q1 : p10 b i with
          | false => rw [Bool.and_false]
          | true => rw [decide_eq_false (fun e => q ⟨q1, e⟩)]; rfl
        rw [if_neg q, this, cfl, key _ (by omega)]
        simp
    · rw [bF (by omega), ba (by omega)]
      unfold eF
      have e3 : ([46, 13, 10] : Bs).length = 3 := rfl
      rw [e3, dx (by omega), bO]
      simp [stD]
theorem qP (F : Nat) (b : Bs) (hb : b.length ≤ 1100000) (hF : b.length < F) : gi F b = some (gR b, if iU b = true then 0 else 1) := by
  unfold gi gR
  rw [qR F b hb hF, cC]
  cases hm : iU b with
  | false => rfl
  | true =>
    rw [ntr, cfl]
    have := oQ b hb F 0 [] (by omega) (by omega) (by simp)
    exact this
end Go.Cl
namespace Go.Cl
open Go.Pv Go.Av
open Go.Dg (cfl ctr gz iX fo nfl ntr)
theorem low_sp (c : UInt8) : gD c = 32 ↔ c = 32 := by
  have : ∀ k : Fin 256, gD (UInt8.ofNat k.val) = 32 ↔ UInt8.ofNat k.val = 32 := by decide +kernel
  have h1 := this ⟨c.toNat, c.toNat_lt⟩
  simpa using h1
theorem low_t {c : UInt8} (h : 65 ≤ c.toNat ∧ c.toNat ≤ 90) : gD c = c + 97 - 65 := by unfold gD; rw [if_pos h]
theorem low_f {c : UInt8} (h : ¬ (65 ≤ c.toNat ∧ c.toNat ≤ 90)) : gD c = c := by unfold gD; rw [if_neg h]
theorem low_c (c : UInt8) : ((decide (65 ≤ (c.toNat : Int))) && (decide ((c.toNat : Int) ≤ 90))) = decide (65 ≤ c.toNat ∧ c.toNat ≤ 90) := by
  by_cases h : 65 ≤ c.toNat
  · by_cases g : c.toNat ≤ 90
    · rw [decide_eq_true (by omega), decide_eq_true (by omega), decide_eq_true ⟨h, g⟩]; rfl
    · rw [decide_eq_true (by omega), decide_eq_false (by omega), decide_eq_false (by omega)]; rfl
  · rw [decide_eq_false (p := 65 ≤ (c.toNat : Int)) (by omega), decide_eq_false (p := 65 ≤ c.toNat ∧ c.toNat ≤ 90) (by omega)]; rfl
theorem mh (w : Bs) : ∀ (r p : Bs) (n : Nat), r.length < n → (p ++ r).length ≤ 1000000 →
    ec (p ++ r) w n ((p.length : Int), p.map gD ++ r) = some (decide ((p ++ r).map gD = w))
  | r, p, 0, hn, _ => by omega
  | [], p, n + 1, hn, hl => by
    rw [List.append_nil, List.append_nil] at *
    show eK p w (ec p w n) (p.length : Int) (p.map gD) = _
    unfold eK gm
    rw [bF (by omega), mH (by rw [List.length_map])]
  | c :: r, p, n + 1, hn, hl => by
    show eK (p ++ c :: r) w (ec (p ++ c :: r) w n) (p.length : Int) (p.map gD ++ c :: r) = _
    have h1 : p.length < (p ++ c :: r).length := by simp
    have h2 : p.length < (p.map gD ++ c :: r).length := by simp
    have ea : (p.map gD ++ c :: r)[p.length] = c := by
      rw [List.getElem_append_right (by simp)]; simp
    have ih := mh w r (p ++ [c]) n (by simp at hn; omega) (by simpa using hl)
    have e1 : p ++ [c] ++ r = p ++ c :: r := by simp
    have e2 : (p ++ [c]).map gD ++ r = p.map gD ++ gD c :: r := by simp
    have e3 : ((p ++ [c]).length : Int) = (p.length : Int) + 1 := by simp
    rw [e1, e2, e3] at ih
    unfold eK fy
    rw [bT (by omega), cK (by omega), cK (by omega), bO, dM h2, ea, low_c]
    by_cases h : 65 ≤ c.toNat ∧ c.toNat ≤ 90
    · have es : (p.map gD ++ c :: r).set p.length (c + 97 - 65) = p.map gD ++ (c + 97 - 65) :: r := by
        rw [List.set_append_right _ _ (by simp)]; simp
      rw [bT h, cK (by omega), cK (by omega), bO, Int.toNat_natCast, es, dW (by omega), ← low_t h]
      exact ih
    · rw [bF h, dW (by omega)]
      rw [low_f h] at ih
      exact ih
theorem small_eq (F : Nat) (s w : Bs) (hs : s.length ≤ 1000000) (hF : s.length < F) : jo F s w = some (decide (s.map gD = w)) := by
  unfold jo
  rw [dx (by omega)]
  exact mh w s [] F hF hs
theorem dig_dg {c : UInt8} (h : kA c = true) : Go.Dg.Dig c := by
  unfold kA at h
  simp only [Bool.and_eq_true, decide_eq_true_eq] at h
  exact h
theorem Atoi_dig (F : Nat) (s : Bs) (h1 : 1 ≤ s.length) (h9 : s.length ≤ 9) (hd : ∀ c ∈ s, Go.Dg.Dig c) (hF : 100 < F) : cT F s = some (((Go.Dg.val 0 s : Nat) : Int), 0) := by
  have h0 : at_ s 0 = s[0] := lS (by omega)
  have hd0 := hd _ (List.getElem_mem (show 0 < s.length by omega))
  have n45 : s[0] ≠ 45 := fun e => by rw [e] at hd0; exact absurd hd0.1 (by decide)
  have n43 : s[0] ≠ 43 := fun e => by rw [e] at hd0; exact absurd hd0.1 (by decide)
  have hc : ((decide (0 < (s.length : Int))) && (decide ((s.length : Int) < 19))) = true := by
    rw [decide_eq_true (by omega), decide_eq_true (by omega)]; rfl
  have hg : ∀ (c : Bool) (x : Option (Int × Int)), dT c (cA 0 s.length) x = x := fun c x => fQ fun _ => by omega
  have e : gG F s = some (((Go.Dg.val 0 s : Nat) : Int), 0) := by
    unfold gG eM
    rw [hc, ctr, cK (by omega), bO, hg, bO, h0, decide_eq_false n45, decide_eq_false n43, fo, cfl, dx (by omega)]
    have := Go.Dg.atoi_loop s s (by omega) hd F 0 0 (by omega) (by omega) (by omega)
    refine Eq.trans this ?_
    rw [List.drop_zero]
    unfold eN eO
    rw [cK (by omega), bO, h0, decide_eq_false n45, cfl]
  unfold cT
  rw [e, cl, decide_eq_true rfl, ntr, cfl]
abbrev digs : Bs := [48, 49, 50, 51, 52, 53, 54, 55, 56, 57]
theorem digs_c (c : UInt8) : digs.contains c = kA c := by
  have : ∀ k : Fin 256, digs.contains (UInt8.ofNat k.val) = kA (UInt8.ofNat k.val) := by decide +kernel
  have h1 := this ⟨c.toNat, c.toNat_lt⟩
  simpa using h1
theorem oD (f : UInt8 → Bool) : ∀ l : Bs, l.dropWhile f = [] ↔ ∀ x ∈ l, f x = true
  | [] => by simp
  | c :: l => by
    have ih := oD f l
    cases h : f c with
    | true => simp [List.dropWhile_cons, h, ih]
    | false => simp [List.dropWhile_cons, h]
theorem qM (t : Bs) : decide (Go.Lib.trimS t digs = []) = t.all kA := by
  unfold Go.Lib.trimS Go.Lib.trimLeftS Go.Lib.trimRightS
  have e : (fun x => digs.contains x) = kA := funext digs_c
  rw [e]
  cases h : t.all kA with
  | true =>
    rw [List.all_eq_true] at h
    refine decide_eq_true ?_
    have : t.reverse.dropWhile kA = [] := by
      rw [oD]; intro x hx; exact h x (List.mem_reverse.1 hx)
    rw [this]; rfl
  | false =>
    rw [List.all_eq_false] at h
    obtain ⟨x, hx, hn⟩ := h
    refine decide_eq_false fun q => ?_
    rw [oD] at q
    have hne : t.reverse.dropWhile kA ≠ [] := by
      intro e
      rw [oD] at e
      exact hn (e x (List.mem_reverse.2 hx))
    have := List.head_dropWhile_not kA (l := t.reverse) hne
    have hm := q _ (List.mem_reverse.2 (List.head_mem hne))
    rw [hm] at this
    simp at this
theorem qy (b c : UInt8) (l : Bs) : Go.Lib.index (b :: l) [c] = if b = c then 0 else if Go.Lib.index l [c] = -1 then -1 else Go.Lib.index l [c] + 1 := by
  by_cases h : b = c
  · subst h; simp [Go.Lib.index]
  · simp [Go.Lib.index, h, Ne.symm h]
theorem cut_hit (c : UInt8) (l : Bs) : Go.Lib.cut (c :: l) [c] = ([], l, true) := by
  unfold Go.Lib.cut
  rw [qy, if_pos rfl]; rfl
theorem pB {b c : UInt8} (h : ¬ b = c) (l : Bs) : Go.Lib.cut (b :: l) [c] = (b :: (Go.Lib.cut l [c]).1, (Go.Lib.cut l [c]).2) := by
  have hge := Go.Lib.index_ge l [c]
  unfold Go.Lib.cut
  rw [qy, if_neg h]
  by_cases hm : Go.Lib.index l [c] = -1
  · rw [if_pos hm, hm]; rfl
  · rw [if_neg hm, if_pos (by omega), if_pos (by omega)]
    have h3 : (Go.Lib.index l [c] + 1).toNat = (Go.Lib.index l [c]).toNat + 1 := by omega
    rw [h3]
    simp only [List.take_succ_cons, List.length_singleton, List.drop_succ_cons]
theorem oH (c : UInt8) (r : Bs) : ∀ d : Bs, (∀ x ∈ d, x ≠ c) → Go.Lib.cut (d ++ c :: r) [c] = (d, r, true)
  | [], _ => cut_hit c r
  | b :: d, h => by
    rw [List.cons_append, pB (h b (List.mem_cons_self ..)), oH c r d fun x hx => h x (List.mem_cons_of_mem _ hx)]
theorem oG (c : UInt8) : ∀ d : Bs, (∀ x ∈ d, x ≠ c) → Go.Lib.cut d [c] = (d, [], false)
  | [], _ => by simp [Go.Lib.cut, Go.Lib.index]
  | b :: d, h => by rw [pB (h b (by simp)), oG c d fun x hx => h x (by simp [hx])]
theorem jn (c : UInt8) : ∀ s : Bs, (∀ x ∈ s, x ≠ c) ∨ ∃ p q, s = p ++ c :: q ∧ ∀ x ∈ p, x ≠ c
  | [] => .inl fun x hx => by cases hx
  | b :: s => by
    by_cases h : b = c
    · subst h; exact .inr ⟨[], s, rfl, fun x hx => by cases hx⟩
    · rcases jn c s with g | ⟨p, q, rfl, g⟩
      · left; intro x hx
        rcases List.mem_cons.1 hx with rfl | hx
        · exact h
        · exact g x hx
      · right; refine ⟨b :: p, q, rfl, fun x hx => ?_⟩
        rcases List.mem_cons.1 hx with rfl | hx
        · exact h
        · exact g x hx
def sizeC (w t : Bs) (is : Bool) : Option Nat := if (((is = true ∧ w.map gD = [115, 105, 122, 101]) ∧ t ≠ []) ∧ t.length ≤ 9) ∧ t.all kA = true then some (Go.Dg.val 0 t) else none
theorem pv {s : Bs} (h6 : 6 ≤ s.length) (h : (s.take 5).map gD = [115, 105, 122, 101, 32]) : ∃ p q, s = p ++ 32 :: q ∧ (∀ x ∈ p, x ≠ 32) ∧ p.map gD = [115, 105, 122, 101] ∧ p.length = 4 := by
  match s, h6, h with
  | a :: b :: c :: d :: e :: q, _, h =>
    simp only [List.take_succ_cons, List.take_zero, List.map_cons, List.map_nil, List.cons.injEq, and_true] at h
    obtain ⟨ha, hb, hc, hd, he⟩ := h
    have he := (low_sp e).1 he
    have hn : ∀ {x y : UInt8}, gD x = y → y ≠ 32 → x ≠ 32 := fun {x y} h1 h2 h3 => h2 (by rw [← h1]; exact (low_sp x).2 h3)
    subst he;refine ⟨[a, b, c, d], q, rfl, ?_, by simp [ha, hb, hc, hd], rfl⟩;intro x hx
    simp only [List.mem_cons, List.not_mem_nil, or_false] at hx
    rcases hx with rfl | rfl | rfl | rfl
    · exact hn ha (by decide)
    · exact hn hb (by decide)
    · exact hn hc (by decide)
    · exact hn hd (by decide)
theorem qC {c : UInt8} : ∀ {p p' q q' : Bs}, (∀ x ∈ p, x ≠ c) → (∀ x ∈ p', x ≠ c) → p ++ c :: q = p' ++ c :: q' → p = p' ∧ q = q'
  | [], [], q, q', _, _, h => ⟨rfl, by simpa using h⟩
  | [], b :: p', q, q', _, h2, h => by
    simp at h; exact absurd h.1.symm (h2 b (by simp))
  | a :: p, [], q, q', h1, _, h => by
    simp at h; exact absurd h.1 (h1 a (by simp))
  | a :: p, b :: p', q, q', h1, h2, h => by
    simp only [List.cons_append, List.cons.injEq] at h
    obtain ⟨e1, e2⟩ := qC (fun x hx => h1 x (by simp [hx])) (fun x hx => h2 x (by simp [hx])) h.2;exact ⟨by rw [h.1, e1], e2⟩
theorem sizeW_eq (s : Bs) : mG s = sizeC (Go.Lib.cut s [32]).1 (Go.Lib.cut s [32]).2.1 (Go.Lib.cut s [32]).2.2 := by
  rcases jn 32 s with h | ⟨p, q, rfl, h⟩
  · rw [oG 32 s h]
    unfold sizeC mG
    have : ¬ ((6 ≤ s.length ∧ s.length ≤ 14) ∧ (s.take 5).map gD = [115, 105, 122, 101, 32] ∧ (s.drop 5).all kA = true) := fun g => by
      obtain ⟨p, q, rfl, _⟩ := pv g.1.1 g.2.1;exact h 32 (by simp) rfl
    rw [if_neg this, if_neg (by rintro ⟨⟨⟨⟨q, _⟩, _⟩, _⟩, _⟩; cases q)]
  · rw [oH 32 q p h]
    unfold sizeC mG
    by_cases g : p.map gD = [115, 105, 122, 101]
    · have hl : p.length = 4 := by have := congrArg List.length g; simpa using this
      have e1 : (p ++ 32 :: q).take 5 = p ++ [32] := by rw [show p ++ 32 :: q = (p ++ [32]) ++ q by simp, List.take_left' (by simp [hl])]
      have e2 : (p ++ 32 :: q).drop 5 = q := by rw [show p ++ 32 :: q = (p ++ [32]) ++ q by simp, List.drop_left' (by simp [hl])]
      have e3 : (p ++ [32]).map gD = [115, 105, 122, 101, 32] := by rw [List.map_append, g]; rfl
      have e4 : (p ++ 32 :: q).length = 5 + q.length := by simp [hl]; omega
      rw [e1, e2, e3, e4]
      by_cases k : ((1 ≤ q.length) ∧ q.length ≤ 9) ∧ q.all kA = true
      · rw [if_pos ⟨by omega, rfl, k.2⟩, if_pos ⟨⟨⟨⟨rfl, g⟩, fun e => by have e : q = [] := e; rw [e] at k; simp at k⟩, k.1.2⟩, k.2⟩]
      · rw [if_neg (fun z => k ⟨by omega, z.2.2⟩), if_neg (fun z => k ⟨⟨List.length_pos_iff.2 z.1.1.2, z.1.2⟩, z.2⟩)]
    · rw [if_neg (fun z => by
        obtain ⟨p', q', e, h', g', _⟩ := pv z.1.1 z.2.1;obtain ⟨rfl, _⟩ := qC h h' e
        exact g g'), if_neg (fun z => g z.1.1.1.2)]
theorem cut_len (s : Bs) : (Go.Lib.cut s [32]).1.length ≤ s.length ∧ (Go.Lib.cut s [32]).2.1.length ≤ s.length := by
  rcases jn 32 s with h | ⟨p, q, rfl, h⟩
  · rw [oG 32 s h]; simp
  · rw [oH 32 q p h]; simp; omega
theorem pM (s : Bs) (r : List Bs) : pC (s :: r) = match mG s with | some n => n | none => pC r := rfl
theorem ni (F : Nat) (hF : 2000 < F) (ls : List Bs) (rec : Int → Option Int) (i : Nat) (hi : i < ls.length) (hl : (ls[i]).length ≤ 1000) (hn : ls.length ≤ 1000000) :
    eh F ls rec (i : Int) = match (if i = 0 then none else mG ls[i]) with | some n => some ((n : Nat) : Int) | none => rec ((i + 1 : Nat) : Int) := by
  unfold eh
  obtain ⟨s, hs⟩ : ∃ s, s = ls[i] := ⟨_, rfl⟩
  rw [← hs] at hl ⊢
  obtain ⟨l1, l2⟩ := cut_len s
  rw [bT (by omega), cK (by omega), bO, dM hi, ← hs, iZ (by omega), bO, small_eq F _ _ (by omega) (by omega), gc]
  rw [gcS (by omega), gcS (by decide)]
  have ga : ∀ (c : Bool) (x : Option Int), dT c (oJ ([48, 49, 50, 51, 52, 53, 54, 55, 56, 57] : List UInt8)) x = x := fun c x => by
    cases c
    · exact qk
    · rw [qj]; rfl
  rw [ga, bO]
  unfold fY
  rw [dW (by omega), eY]
  by_cases h0 : i = 0
  · subst h0
    rw [if_pos rfl, show decide (((0 : Nat) : Int) = 0) = true from rfl, Bool.true_or, Bool.true_or, Bool.true_or, Bool.true_or, Bool.true_or, ctr]
  · rw [if_neg h0, sizeW_eq s, decide_eq_false (p := (i : Int) = 0) (by omega), fo]
    generalize (Go.Lib.cut s [32]).1 = w at *
    generalize (Go.Lib.cut s [32]).2.1 = t at *
    generalize (Go.Lib.cut s [32]).2.2 = is at *
    unfold sizeC
    cases is with
    | false =>
      rw [nfl, Bool.true_or, Bool.true_or, Bool.true_or, Bool.true_or, ctr, if_neg (fun z => by cases z.1.1.1.1)]
    | true =>
      rw [ntr, nfl, ctr, fo]
      by_cases g : w.map gD = [115, 105, 122, 101]
      · rw [decide_eq_true g, ntr, fo]
        by_cases g0 : t = []
        · rw [decide_eq_true g0, Bool.true_or, Bool.true_or, ctr, if_neg (fun z => z.1.1.2 g0)]
        · rw [decide_eq_false g0, fo]
          by_cases g9 : t.length ≤ 9
          · rw [decide_eq_false (p := (9 : Int) < (t.length : Int)) (by omega), fo, show decide (Go.Lib.trimS t ([48, 49, 50, 51, 52, 53, 54, 55, 56, 57] : List UInt8) = []) = t.all kA from qM t]
            cases gd : t.all kA with
            | false =>
              rw [nfl, ctr, if_neg (fun z => by cases z.2)]
            | true =>
              have hp := List.length_pos_iff.2 g0
              rw [ntr, cfl, if_pos ⟨⟨⟨⟨rfl, g⟩, g0⟩, g9⟩, rfl⟩, Atoi_dig F t hp g9 (fun c hc => dig_dg (List.all_eq_true.1 gd c hc)) (by omega), cl, bT rfl]
          · rw [decide_eq_true (p := (9 : Int) < (t.length : Int)) (by omega), Bool.true_or, ctr, if_neg (fun z => g9 z.1.2)]
      · rw [decide_eq_false g, nfl, Bool.true_or, Bool.true_or, Bool.true_or, ctr, if_neg (fun z => g z.1.1.1.2)]
theorem qN (F : Nat) (hF : 2000 < F) (ls : List Bs) (hl : ∀ s ∈ ls, s.length ≤ 1000) (hn : ls.length ≤ 1000000) : ∀ (n i : Nat), ls.length - i < n → i ≤ ls.length → 0 < i →
    eQ F ls n (i : Int) = some ((pC (ls.drop i) : Nat) : Int) := by
  intro n
  induction n with
  | zero => intro i h; omega
  | succ n ih =>
    intro i hn' hi hp;show eh F ls (eQ F ls n) (i : Int) = _
    by_cases h : i < ls.length
    · rw [ni F hF ls _ i h (hl _ (List.getElem_mem h)) hn, if_neg (by omega), bj h, pM]
      cases mG ls[i] with
      | some k => rfl
      | none => exact ih (i + 1) (by omega) (by omega) (by omega)
    · unfold eh
      rw [bF (by omega), ba (by omega)]; rfl
theorem size_eq (F : Nat) (hF : 2000 < F) (c : Int) (ls : List Bs) (x y z : Int) (hl : ∀ s ∈ ls, s.length ≤ 1000) (hn : ls.length ≤ 1000000) (hlF : ls.length < F) : kT F c ls x y z = some ((fk ls : Nat) : Int) := by
  unfold kT fk
  obtain ⟨m, rfl⟩ : ∃ m, F = m + 1 := ⟨F - 1, by omega⟩;show eh (m + 1) ls (eQ (m + 1) ls m) ((0 : Nat) : Int) = _
  by_cases h : 0 < ls.length
  · rw [ni (m + 1) hF ls _ 0 h (hl _ (List.getElem_mem h)) hn, if_pos rfl]
    exact qN (m + 1) hF ls hl hn m 1 (by omega) (by omega) (by omega)
  · unfold eh
    rw [bF (by omega), ba (by omega)]; rfl
end Go.Cl
namespace Go.Cl
open Go.Pv Go.Av
open Go.Dg (cfl ctr gz iX fo nfl ntr)
theorem hund (c : Int) (h0 : -9223372036854775808 ≤ c) (h1 : c ≤ 9223372036854775807) : decide (IntKind.i64.wrap (Int.tdiv c 100) = 2) = (decide (200 ≤ c) && decide (c ≤ 299)) := by
  rw [wrap_i64_tdiv c 100 h0 h1 (by omega)]
  by_cases hn : 0 ≤ c
  · rw [Int.tdiv_eq_ediv_of_nonneg hn]
    by_cases a : 200 ≤ c
    · by_cases b : c ≤ 299
      · rw [decide_eq_true (by omega), decide_eq_true a, decide_eq_true b]; rfl
      · rw [decide_eq_false (by omega), decide_eq_true a, decide_eq_false b]; rfl
    · rw [decide_eq_false (by omega), decide_eq_false a]; rfl
  · have hk : c.tdiv 100 ≤ 0 := by
      have e := Int.neg_tdiv (a := -c) (b := 100)
      rw [Int.neg_neg] at e
      have := Int.tdiv_nonneg (a := -c) (b := 100) (by omega) (by omega)
      omega
    rw [decide_eq_false (by omega), decide_eq_false (by omega)]; rfl
theorem kM (F : Nat) (a2 a3 : Int) (a4 a5 a6 a7 a8 : Bs) (ph : Int) (l : List Bs) (x : Bs) (hj : Str.join [] l = x) (hl : Str.total l ≤ 1000000) (hn : l.length ≤ 10) (hx : x.length ≤ 1000000) (ha : a8.length ≤ 100000000) :
    gH F a2 a3 a4 a5 a6 a7 a8 ph l = some (ph, a8 ++ (x ++ [13, 10])) := by
  unfold gH
  have e0 : ([] : Bs).length = 0 := Eq.symm (Eq.symm rfl)
  have e2 : ([13, 10] : Bs).length = 2 := Eq.symm (Eq.symm rfl)
  rw [grd_Join (by rw [e0]; omega), bO, hj, e2, dx (by omega), bO, dx (by rw [List.length_append, e2]; omega), bO]
theorem lN (F : Nat) (a2 a3 : Int) (a4 a5 a6 a7 a8 : Bs) (o : Int) (ha : a8.length ≤ 100000000) : ia F a2 a3 a4 a5 a6 a7 a8 o = some (6, o, a8 ++ jL) := by
  unfold ia
  rw [kM F a2 o a4 a5 a6 a7 a8 6 _ [81, 85, 73, 84] rfl (by decide) (by decide) (by decide) ha, cl]
  rfl
section
variable (F : Nat) (fr rc nm ml : Bs) (c : Int) (ls : List Bs) (m0 m1 m2 : Int)
theorem step_j (ph out : Int) (acc : Bs) (ha : acc.length ≤ 100000000) (b : Bool) : cI F fr rc nm ml c b ph out acc = some (if b = true then (ph, out, acc) else (6, (if 500 ≤ c ∧ c ≤ 599 then 3 else 2), acc ++ jL)) := by
  unfold cI
  cases b with
  | true => rfl
  | false =>
    rw [cfl, if_neg (by decide)]
    by_cases h : 500 ≤ c ∧ c ≤ 599
    · rw [if_pos h, decide_eq_true h.1, decide_eq_true h.2, gz, ctr, lN F _ _ _ _ _ _ _ _ ha, dv]
    · have : ((decide (500 ≤ c)) && (decide (c ≤ 599))) = false := by
        by_cases q : 500 ≤ c
        · rw [decide_eq_false (p := c ≤ 599) (fun z => h ⟨q, z⟩), Bool.and_false]
        · rw [decide_eq_false q]; rfl
      rw [if_neg h, this, cfl, lN F _ _ _ _ _ _ _ _ ha, dv]
theorem greet_eq (hnm : nm.length ≤ 1000) (ph out : Int) (acc : Bs) (ha : acc.length ≤ 100000000) : jq F ph out fr rc nm ml acc c ls m0 m1 m2 = some (if fm 0 c = true then (true, 1, acc ++ ehloD nm) else (false, ph, acc)) := by
  have eg : fm 0 c = decide (c = 220) := by simp [fm]
  unfold jq
  rw [eg]
  by_cases h : c = 220
  · rw [decide_eq_true h, ntr, cfl, if_pos rfl, kM F ph out fr rc nm ml acc 1 _ ([69, 72, 76, 79, 32] ++ nm) (by simp [Str.join, Str.rest]) (by simp [Str.total]; omega) (by simp) (by simp; omega) ha, cl]
    rfl
  · rw [decide_eq_false h, nfl, ctr, if_neg (by decide)]
theorem data_eq (hF : 2000 < F) (hml : ml.length ≤ 1000) (ph out : Int) (acc : Bs) (ha : acc.length ≤ 100000000) : kQ F ph out fr rc nm ml acc c ls m0 m1 m2 = some (if fm 4 c = true then (true, 5, acc ++ gR ml) else (false, ph, acc)) := by
  have eg : fm 4 c = decide (c = 354) := by simp [fm]
  unfold kQ
  rw [eg]
  by_cases h : c = 354
  · have := po ml
    rw [decide_eq_true h, ntr, cfl, if_pos rfl, ng F ml (by omega) (by omega), cl, dx (by omega), bO]
  · rw [decide_eq_false h, nfl, ctr, if_neg (by decide)]
theorem kI (h0 : -9223372036854775808 ≤ c) (h1 : c ≤ 9223372036854775807) {ph : Int} (hp : ph = 1 ∨ ph = 2 ∨ ph = 3 ∨ ph = 5) : fm ph c = decide (IntKind.i64.wrap (Int.tdiv c 100) = 2) := by
  rw [hund c h0 h1]
  unfold fm
  rw [if_neg (by omega), if_neg (by omega)]
theorem hello_eq (hF : 2000 < F) (hfr : fr.length ≤ 1000) (hml : ml.length ≤ 1000) (h0 : -9223372036854775808 ≤ c) (h1 : c ≤ 9223372036854775807) (hls : ∀ s ∈ ls, s.length ≤ 1000) (hln : ls.length ≤ 1000) (ph out : Int) (acc : Bs) (ha : acc.length ≤ 100000000) : jp F ph out fr rc nm ml acc c ls m0 m1 m2 = some (if fm 1 c = true then (if 0 < fk ls ∧ fk ls < (gR ml).length then (true, 6, 3, acc ++ jL) else (true, 2, out, acc ++ oc fr)) else (false, ph, out, acc)) := by
  unfold jp
  rw [kI c h0 h1 (.inl rfl)]
  cases h : decide (IntKind.i64.wrap (Int.tdiv c 100) = 2) with
  | false => rw [nfl, ctr, if_neg (by decide)]
  | true =>
    rw [ntr, cfl, if_pos rfl, ng F ml (by omega) (by omega), cl, size_eq F hF c ls m0 m1 m2 hls (by omega) (by omega), cC]
    by_cases q : 0 < fk ls ∧ fk ls < (gR ml).length
    · rw [if_pos q, decide_eq_true (p := (0 : Int) < ((fk ls : Nat) : Int)) (by omega), decide_eq_true (p := ((fk ls : Nat) : Int) < ((gR ml).length : Int)) (by omega), gz, ctr, lN F _ _ _ _ _ _ _ _ ha, dv]
    · have : ((decide ((0 : Int) < ((fk ls : Nat) : Int))) && (decide (((fk ls : Nat) : Int) < ((gR ml).length : Int)))) = false := by
        by_cases g : 0 < fk ls
        · rw [decide_eq_false (p := ((fk ls : Nat) : Int) < ((gR ml).length : Int)) (fun z => q ⟨g, by omega⟩), Bool.and_false]
        · rw [decide_eq_false (p := (0 : Int) < ((fk ls : Nat) : Int)) (by omega)]; rfl
      rw [if_neg q, this, cfl, kM F ph out fr rc nm ml acc 2 _ ([77, 65, 73, 76, 32, 70, 82, 79, 77, 58, 60] ++ fr ++ [62]) (by simp [Str.join, Str.rest]) (by simp [Str.total]; omega) (by simp) (by simp; omega) ha, cl]
      simp [oc]
theorem from_eq (hrc : rc.length ≤ 1000) (h0 : -9223372036854775808 ≤ c) (h1 : c ≤ 9223372036854775807) (ph out : Int) (acc : Bs) (ha : acc.length ≤ 100000000) : kO F ph out fr rc nm ml acc c ls m0 m1 m2 = some (if fm 2 c = true then (true, 3, acc ++ pD rc) else (false, ph, acc)) := by
  unfold kO
  rw [kI c h0 h1 (.inr (.inl rfl))]
  cases h : decide (IntKind.i64.wrap (Int.tdiv c 100) = 2) with
  | false => rw [nfl, ctr, if_neg (by decide)]
  | true =>
    rw [ntr, cfl, if_pos rfl, kM F ph out fr rc nm ml acc 3 _ ([82, 67, 80, 84, 32, 84, 79, 58, 60] ++ rc ++ [62]) (by simp [Str.join, Str.rest]) (by simp [Str.total]; omega) (by simp) (by simp; omega) ha, cl]
    simp [pD]
theorem rcpt_eq (h0 : -9223372036854775808 ≤ c) (h1 : c ≤ 9223372036854775807) (ph out : Int) (acc : Bs) (ha : acc.length ≤ 100000000) : kN F ph out fr rc nm ml acc c ls m0 m1 m2 = some (if fm 3 c = true then (true, 4, acc ++ dataD) else (false, ph, acc)) := by
  unfold kN
  rw [kI c h0 h1 (.inr (.inr (.inl rfl)))]
  cases h : decide (IntKind.i64.wrap (Int.tdiv c 100) = 2) with
  | false => rw [nfl, ctr, if_neg (by decide)]
  | true =>
    rw [ntr, cfl, if_pos rfl, kM F ph out fr rc nm ml acc 4 _ [68, 65, 84, 65] rfl (by decide) (by decide) (by decide) ha, cl]
    rfl
theorem body_eq (h0 : -9223372036854775808 ≤ c) (h1 : c ≤ 9223372036854775807) (ph out : Int) (acc : Bs) (ha : acc.length ≤ 100000000) : kR F ph out fr rc nm ml acc c ls m0 m1 m2 = some (if fm 5 c = true then (true, 6, 1, acc ++ jL) else (false, ph, out, acc)) := by
  unfold kR
  rw [kI c h0 h1 (.inr (.inr (.inr rfl)))]
  cases h : decide (IntKind.i64.wrap (Int.tdiv c 100) = 2) with
  | false => rw [nfl, ctr, if_neg (by decide)]
  | true => rw [ntr, cfl, if_pos rfl, lN F _ _ _ _ _ _ _ _ ha, dv]
theorem step_eq (hF : 2000 < F) (hfr : fr.length ≤ 1000) (hrc : rc.length ≤ 1000) (hnm : nm.length ≤ 1000) (hml : ml.length ≤ 1000) (h0 : -9223372036854775808 ≤ c) (h1 : c ≤ 9223372036854775807) (hls : ∀ s ∈ ls, s.length ≤ 1000) (hln : ls.length ≤ 1000) (ph out : Int) (acc : Bs) (ha : acc.length ≤ 100000000) : jJ F ph out fr rc nm ml acc c ls m0 m1 m2 = some ((dp fr rc nm ml ph out c ls).1, (dp fr rc nm ml ph out c ls).2.1, acc ++ (dp fr rc nm ml ph out c ls).2.2) := by
  unfold jJ dp
  by_cases h : ph < 0 ∨ 7 ≤ ph
  · have : ((decide (ph < 0)) || (decide (7 ≤ ph))) = true := by
      rcases h with h | h
      · rw [decide_eq_true h]; rfl
      · rw [decide_eq_true h, Bool.or_true]
    rw [if_pos h, this, ctr, List.append_nil]
  · rw [if_neg h, decide_eq_false (fun z => h (.inl z)), decide_eq_false (fun z => h (.inr z)), fo, cfl]
    by_cases h2 : c = 421
    · rw [if_pos h2, bT h2]
      unfold kP
      by_cases g : out = 0
      · rw [bT g, cl, if_pos g, List.append_nil]
      · rw [bF g, cl, if_neg g, List.append_nil]
    · rw [if_neg h2, bF h2, cK (by omega)]
      unfold eB
      have hj := fun (ph out : Int) (acc : Bs) (ha : acc.length ≤ 100000000) (b : Bool) => step_j F fr rc nm ml c ph out acc ha b
      have hq : ph = 0 ∨ ph = 1 ∨ ph = 2 ∨ ph = 3 ∨ ph = 4 ∨ ph = 5 ∨ ph = 6 := by omega
      have hsl := po ml
      rcases hq with rfl | rfl | rfl | rfl | rfl | rfl | rfl
      · rw [bT rfl, cC, greet_eq F fr rc nm ml c ls m0 m1 m2 hnm 0 out acc ha, if_neg (show ¬ ((0 : Int) = 6) by decide)]
        by_cases q : fm 0 c = true
        · rw [if_pos q, if_pos q, dv]; rfl
        · rw [if_neg q, if_neg q, dv, hj _ _ _ ha]; rfl
      · rw [bF (by decide), bT rfl, cC, hello_eq F fr rc nm ml c ls m0 m1 m2 hF hfr hml h0 h1 hls hln 1 out acc ha, if_neg (show ¬ ((1 : Int) = 6) by decide)]
        by_cases q : fm 1 c = true
        · rw [if_pos q, if_pos q]
          have eg : goP fr rc nm ml 1 out ls = if 0 < fk ls ∧ fk ls < (gR ml).length then (6, 3, jL) else (2, out, oc fr) := by simp [goP]
          rw [eg]
          by_cases g : 0 < fk ls ∧ fk ls < (gR ml).length
          · rw [if_pos g, if_pos g]; rfl
          · rw [if_neg g, if_neg g]; rfl
        · rw [if_neg q, if_neg q]
          show cI F fr rc nm ml c false 1 out acc = _
          rw [hj _ _ _ ha]; rfl
      · rw [bF (by decide), bF (by decide), bT rfl, cC, from_eq F fr rc nm ml c ls m0 m1 m2 hrc h0 h1 2 out acc ha, if_neg (show ¬ ((2 : Int) = 6) by decide)]
        by_cases q : fm 2 c = true
        · rw [if_pos q, if_pos q, dv]; rfl
        · rw [if_neg q, if_neg q, dv, hj _ _ _ ha]; rfl
      · rw [bF (by decide), bF (by decide), bF (by decide), bT rfl, cC, rcpt_eq F fr rc nm ml c ls m0 m1 m2 h0 h1 3 out acc ha, if_neg (show ¬ ((3 : Int) = 6) by decide)]
        by_cases q : fm 3 c = true
        · rw [if_pos q, if_pos q, dv]; rfl
        · rw [if_neg q, if_neg q, dv, hj _ _ _ ha]; rfl
      · rw [bF (by decide), bF (by decide), bF (by decide), bF (by decide), bT rfl, cC, data_eq F fr rc nm ml c ls m0 m1 m2 hF hml 4 out acc ha, if_neg (show ¬ ((4 : Int) = 6) by decide)]
        by_cases q : fm 4 c = true
        · rw [if_pos q, if_pos q, dv]; rfl
        · rw [if_neg q, if_neg q, dv, hj _ _ _ ha]; rfl
      · rw [bF (by decide), bF (by decide), bF (by decide), bF (by decide), bF (by decide), bT rfl, cC, body_eq F fr rc nm ml c ls m0 m1 m2 h0 h1 5 out acc ha, if_neg (show ¬ ((5 : Int) = 6) by decide)]
        by_cases q : fm 5 c = true
        · rw [if_pos q, if_pos q]; rfl
        · rw [if_neg q, if_neg q]
          show cI F fr rc nm ml c false 5 out acc = _
          rw [hj _ _ _ ha]; rfl
      · rw [bF (by decide), bF (by decide), bF (by decide), bF (by decide), bF (by decide), bF (by decide), cC, if_pos rfl]
        unfold lR
        rw [cl, hj _ _ _ ha, if_pos rfl, List.append_nil]
theorem Step_eq (hF : 2000 < F) (hfr : fr.length ≤ 1000) (hrc : rc.length ≤ 1000) (hnm : nm.length ≤ 1000) (hml : ml.length ≤ 1000) (h0 : -9223372036854775808 ≤ c) (h1 : c ≤ 9223372036854775807) (hls : ∀ s ∈ ls, s.length ≤ 1000) (hln : ls.length ≤ 1000) (ph out : Int) : kS F ph out fr rc nm ml c ls m0 m1 m2 = some ((dp fr rc nm ml ph out c ls).1, (dp fr rc nm ml ph out c ls).2.1, fr, rc, nm, ml, (dp fr rc nm ml ph out c ls).2.2) := by
  unfold kS jr
  rw [iZ (by omega), cC, step_eq F fr rc nm ml c ls m0 m1 m2 hF hfr hrc hnm hml h0 h1 hls hln ph out [] (by simp), dv]
  rfl
end
end Go.Cl
namespace Go.Rp
open Go.Pv Go.Av
abbrev Bs := List UInt8
theorem nX {c : UInt8} {s : Bs} (h : ∀ b ∈ s, b ≠ c) : Go.Lib.indexByte s c = -1 := by
  induction s with
  | nil => rfl
  | cons b r ih =>
    have h1 : (b == c) = false := by simpa using h b (by simp)
    have h2 := ih fun x hx => h x (by simp [hx])
    unfold Go.Lib.indexByte
    rw [h1, h2]; rfl
theorem pa (s : Bs) (c : UInt8) : -1 ≤ Go.Lib.indexByte s c ∧ Go.Lib.indexByte s c < s.length := by
  induction s with
  | nil => simp [Go.Lib.indexByte]
  | cons b r ih =>
    unfold Go.Lib.indexByte
    split
    · first | (simp; done) | (simp; omega)
    · split
      · first | (simp; done) | (simp; omega)
      · rename_i h
        have h' : ¬ Go.Lib.indexByte r c = -1 := by simpa using h
        simp; omega
theorem getD_at (s : Bs) (k : Nat) (h : k < s.length) : (⟨s.toArray⟩ : ByteArray).get! k = s[k] := by
  show (s.toArray)[k]! = _
  simp [h]
def crlf (b : UInt8) : Bool := decide (b = 13) || decide (b = 10)
end Go.Rp
namespace Go.Rp
open Go.Pv Go.Av
open Go.Lib (decDigits)
open Go.Dg (val fj iV ou ql oE qo Dig qz ip kH Atoi_tot Atoi_dd cfl ctr gz iX fo nfl ntr)
def dgB (c : UInt8) : Bool := decide (48 ≤ c.toNat) && decide (c.toNat ≤ 57)
theorem od {c : UInt8} (h : dgB c = true) : Dig c := by
  unfold dgB at h
  show 48 ≤ c.toNat ∧ c.toNat ≤ 57
  simpa using h
def okN (s : Bs) : Bool := ((decide (1 ≤ s.length) && decide (s.length ≤ 3)) && s.all dgB) && !(decide (s.head? = some 48) && decide (1 < s.length))
def numB (s : Bs) : Option Nat := if okN s = true then some (val 0 s) else none
theorem ix (c : UInt8) (h : Dig c) (n : Nat) (hn : n = c.toNat - 48) : UInt8.ofNat (48 + n) = c := by
  obtain ⟨h1, h2⟩ := h;subst hn
  rw [show 48 + (c.toNat - 48) = c.toNat by omega, UInt8.ofNat_toNat]
theorem dd2 {n : Nat} (h : 10 ≤ n) (h2 : n < 100) : decDigits n = [UInt8.ofNat (48 + n / 10), UInt8.ofNat (48 + n % 10)] := by
  rw [iV (by omega), fj (by omega)]; rfl
theorem dd3 {n : Nat} (h : 100 ≤ n) (h2 : n < 1000) : decDigits n = [UInt8.ofNat (48 + n / 10 / 10), UInt8.ofNat (48 + n / 10 % 10), UInt8.ofNat (48 + n % 10)] := by
  rw [iV (by omega), dd2 (by omega) (by omega)]; rfl
theorem num_dd {s : Bs} {n : Nat} (h : numB s = some n) : s = decDigits n ∧ n < 1000 := by
  unfold numB at h
  by_cases hk : okN s = true
  · rw [if_pos hk] at h
    have hn : val 0 s = n := aC h
    unfold okN at hk
    simp only [Bool.and_eq_true, decide_eq_true_eq, Bool.not_eq_true', Bool.and_eq_false_iff, decide_eq_false_iff_not] at hk
    obtain ⟨⟨⟨h1, h2⟩, h3⟩, h4⟩ := hk
    match s, h1, h2, h3, h4, hn with
    | [a], _, _, h3, h4, hn =>
      have ha := od (List.all_eq_true.1 h3 a (by simp))
      have hv : val 0 [a] = a.toNat - 48 := by show 10 * 0 + (a.toNat - 48) = _; omega
      have ha' := ha; obtain ⟨ha1, ha2⟩ := ha'
      refine ⟨?_, by omega⟩
      rw [← hn, hv, fj (by omega), ix a ha _ rfl]
    | [a, b], _, _, h3, h4, hn =>
      have ha := od (List.all_eq_true.1 h3 a (by simp))
      have hb := od (List.all_eq_true.1 h3 b (by simp))
      have hv : val 0 [a, b] = 10 * (a.toNat - 48) + (b.toNat - 48) := by show 10 * (10 * 0 + (a.toNat - 48)) + (b.toNat - 48) = _; omega
      have ha' := ha; obtain ⟨ha1, ha2⟩ := ha'
      have hb' := hb; obtain ⟨hb1, hb2⟩ := hb'
      have hne : a.toNat ≠ 48 := by
        intro e
        have : a = 48 := UInt8.toNat.inj e
        rcases h4 with h4 | h4
        · exact h4 (by rw [this]; rfl)
        · exact h4 (by simp)
      refine ⟨?_, by omega⟩
      rw [← hn, hv, dd2 (by omega) (by omega), ix a ha _ (by omega), ix b hb _ (by omega)]
    | [a, b, c], _, _, h3, h4, hn =>
      have ha := od (List.all_eq_true.1 h3 a (by simp))
      have hb := od (List.all_eq_true.1 h3 b (by simp))
      have hc := od (List.all_eq_true.1 h3 c (by simp))
      have hv : val 0 [a, b, c] = 100 * (a.toNat - 48) + 10 * (b.toNat - 48) + (c.toNat - 48) := by show 10 * (10 * (10 * 0 + (a.toNat - 48)) + (b.toNat - 48)) + (c.toNat - 48) = _; omega
      have ha' := ha; obtain ⟨ha1, ha2⟩ := ha'
      have hb' := hb; obtain ⟨hb1, hb2⟩ := hb'
      have hc' := hc; obtain ⟨hc1, hc2⟩ := hc'
      have hne : a.toNat ≠ 48 := by
        intro e
        have : a = 48 := UInt8.toNat.inj e
        rcases h4 with h4 | h4
        · exact h4 (by rw [this]; rfl)
        · exact h4 (by simp)
      refine ⟨?_, by omega⟩
      rw [← hn, hv, dd3 (by omega) (by omega), ix a ha _ (by omega), ix b hb _ (by omega), ix c hc _ (by omega)]
    | [], h1, _, _, _, _ => simp at h1
    | a :: b :: c :: d :: r, _, h2, _, _, _ => simp at h2
  · rw [if_neg hk] at h; cases h
end Go.Rp
namespace Go.Rp
open Go.Pv Go.Av
def sp (c : UInt8) : Bs → List Bs
  | [] => [[]]
  | b :: r => if b = c then [] :: sp c r else match sp c r with
    | [] => [[b]]
    | p :: ps => (b :: p) :: ps
end Go.Rp
namespace Go.Rp
open Go.Pv Go.Av
open Go.Lib (decDigits)
open Go.Dg (kH cfl ctr gz iX fo nfl ntr)
abbrev M3 := Int × Int × Int
def more3 (c : Int) : List Bs → M3
  | [a, b, d] => if c / 100 = 3 then (0, 0, 0) else match numB a, numB b, numB d with
    | some x, some y, some z => if (x : Int) = c / 100 then ((x : Int), (y : Int), (z : Int)) else (0, 0, 0)
    | _, _, _ => (0, 0, 0)
  | _ => (0, 0, 0)
def moreB (c : Int) (s : Bs) : M3 := more3 c (sp 46 ((sp 32 s).headD []))
end Go.Rp
namespace Go.Rp
open Go.Pv Go.Av
open Go.Lib (decDigits)
open Go.Dg (kH cfl ctr gz iX fo nfl ntr fj iV oE)
def fitB (s : Bs) : Bool := !(s.any crlf) && decide (s.length ≤ 506)
def lst (ls : List Bs) : Bs := at_ ls ((ls.length : Int) - 1)
def lnW (d : Bs) (g : UInt8) (s : Bs) : Bs := d ++ g :: (s ++ [13, 10])
def wrL (d : Bs) : List Bs → Bs
  | [] => []
  | s :: r => lnW d (if r = [] then 32 else 45) s ++ wrL d r
end Go.Rp
