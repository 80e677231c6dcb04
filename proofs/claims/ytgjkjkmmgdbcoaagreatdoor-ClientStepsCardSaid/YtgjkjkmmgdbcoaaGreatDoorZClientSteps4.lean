/-
  Texts in one (only what ClientSteps needs): CliAW, CliLP, CliLW, CliRP, CliRW, LClientStepsP, LClientStepsW, ClD, DgN, ClE, RqA, ClF.
-/
import Derived.Test.YtgjkjkmmgdbcoaaGreatDoorZClientSteps3
import Derived.Test.YtgjkjkmmgdbcoaaGreatDoorShelf
import Derived.Lib.ItoaNum
import Derived.Lib.IndexLaws
import Derived.Test.YtgjkjkmmgdbcoaaGreatDoorChecked
import Derived.Lib.IndexMore
set_option linter.unusedVariables false
set_option linter.unusedSimpArgs false
namespace Go.Proofs.YtgjkjkmmgdbcoaaGreatDoor
open Go.RowKit Go.Av Go.Pv
theorem ot : ∀ (args : Array Value) (w : World), (callFunc 17 args).run Tryz.prog w = .ok (.enter 17 args) w := fun _ _ => by kernel_rfl
theorem se : ∀ (args : Array Value) (w : World), (callFunc 23 args).run Tryz.prog w = .ok (.enter 23 args) w := fun _ _ => by kernel_rfl
theorem oo : ∀ (args : Array Value) (w : World), (callFunc 27 args).run Tryz.prog w = .ok (.enter 27 args) w := fun _ _ => by kernel_rfl
theorem lJ : ∀ (args : Array Value) (w : World), (callFunc 28 args).run Tryz.prog w = .ok (.enter 28 args) w := fun _ _ => by kernel_rfl
theorem sc : ∀ (args : Array Value) (w : World), (callFunc 29 args).run Tryz.prog w = .ok (.enter 29 args) w := fun _ _ => by kernel_rfl
theorem om : ∀ (args : Array Value) (w : World), (callFunc 30 args).run Tryz.prog w = .ok (.enter 30 args) w := fun _ _ => by kernel_rfl
theorem lI : ∀ (args : Array Value) (w : World), (callFunc 34 args).run Tryz.prog w = .ok (.enter 34 args) w := fun _ _ => by kernel_rfl
theorem sa : ∀ (args : Array Value) (w : World), (callFunc 35 args).run Tryz.prog w = .ok (.enter 35 args) w := fun _ _ => by kernel_rfl
theorem rZ : ∀ (args : Array Value) (w : World), (callFunc 36 args).run Tryz.prog w = .ok (.enter 36 args) w := fun _ _ => by kernel_rfl
theorem ol : ∀ (args : Array Value) (w : World), (callFunc 37 args).run Tryz.prog w = .ok (.enter 37 args) w := fun _ _ => by kernel_rfl
theorem lH : ∀ (args : Array Value) (w : World), (callFunc 38 args).run Tryz.prog w = .ok (.enter 38 args) w := fun _ _ => by kernel_rfl
theorem oh : ∀ (args : Array Value) (w : World), (callFunc 44 args).run Tryz.prog w = .ok (.enter 44 args) w := fun _ _ => by kernel_rfl
theorem rU : ∀ (args : Array Value) (w : World), (callFunc 45 args).run Tryz.prog w = .ok (.enter 45 args) w := fun _ _ => by kernel_rfl
theorem rT : ∀ (args : Array Value) (w : World), (callFunc 46 args).run Tryz.prog w = .ok (.enter 46 args) w := fun _ _ => by kernel_rfl
theorem rS : ∀ (args : Array Value) (w : World), (callFunc 47 args).run Tryz.prog w = .ok (.enter 47 args) w := fun _ _ => by kernel_rfl
theorem rP : ∀ (args : Array Value) (w : World), (callFunc 51 args).run Tryz.prog w = .ok (.enter 51 args) w := fun _ _ => by kernel_rfl
theorem de : ∀ (args : Array Value) (w : World), (callFunc 57 args).run Tryz.prog w = .ok (.enter 57 args) w := fun _ _ => by kernel_rfl
theorem jD : ∀ (args : Array Value) (w : World), (callFunc 58 args).run Tryz.prog w = .ok (.enter 58 args) w := fun _ _ => by kernel_rfl
theorem oc : ∀ (args : Array Value) (w : World), (callFunc 80 args).run Tryz.prog w = .ok (.enter 80 args) w := fun _ _ => by kernel_rfl
theorem oa : ∀ (args : Array Value) (w : World), (callFunc 81 args).run Tryz.prog w = .ok (.enter 81 args) w := fun _ _ => by kernel_rfl
theorem nZ : ∀ (args : Array Value) (w : World), (callFunc 82 args).run Tryz.prog w = .ok (.enter 82 args) w := fun _ _ => by kernel_rfl
theorem nY : ∀ (args : Array Value) (w : World), (callFunc 83 args).run Tryz.prog w = .ok (.enter 83 args) w := fun _ _ => by kernel_rfl
theorem nX : ∀ (args : Array Value) (w : World), (callFunc 84 args).run Tryz.prog w = .ok (.enter 84 args) w := fun _ _ => by kernel_rfl
theorem nW : ∀ (args : Array Value) (w : World), (callFunc 85 args).run Tryz.prog w = .ok (.enter 85 args) w := fun _ _ => by kernel_rfl
theorem nV : ∀ (args : Array Value) (w : World), (callFunc 86 args).run Tryz.prog w = .ok (.enter 86 args) w := fun _ _ => by kernel_rfl
theorem iC : ∀ (args : Array Value) (w : World), (callFunc 87 args).run Tryz.prog w = .ok (.enter 87 args) w := fun _ _ => by kernel_rfl
theorem mR : ∀ (args : Array Value) (w : World), (callFunc 110 args).run Tryz.prog w = .ok (.enter 110 args) w := fun _ _ => by kernel_rfl
set_option maxRecDepth 100000 in
set_option maxHeartbeats 1000000 in
theorem lB (F : Nat) (a1 : List UInt8) (a2 : List UInt8) (r3 : Bool) (H : lj F a1 a2 = some r3) : ACalls Tryz.prog 28 [S a1, S a2] [] (Ret (B r3) []) := by
 unfold lj at H
 refine az Tryz.func28 rfl rfl ?_;show AW _ _ 25 _ _ _;refine ah <| ac ?_;show AR _ _ _ _ _ [0] _;refine za rfl <| ai <| bX (X := Unit) (fun _ => ⟨[(0, S a1)], [], []⟩) (fun _ => iV a1 = some r3) ?_ ?_
 ·refine ah <| ac ?_;show AR _ _ _ _ _ [0, 1, 2] _;refine zm rfl <| zS rfl (bn aj rfl) <| zm rfl <| ai <| bh <| dv (X := Nat × Int) (fun (n6, y4) => ⟨[(0, S a1), (1, S a2), (7, i64 (a1.length : Int)), (8, i64 y4)], [], []⟩) (fun (n6, y4) => kt a1 a2 n6 y4 = some r3) (fun (n6, y4) => n6) (F, 0) H (bc [] (.cons (.refl _) (.cons (.refl _) (.cons (.refl _) (.cons (.refl _) (.nil _))))) rfl) ?_;rintro ⟨n6, y4⟩ H;obtain ⟨n6, rfl, H⟩ := fc H;replace H : ku a1 a2 (kt a1 a2 n6) y4 = some r3 := H
  unfold ku at H
  refine ah <| ac ?_;show AR _ _ _ _ _ [0] _;refine zS rfl (cc rfl rfl) <| ai <| ah <| aF rfl (fun c7 => ?_) (fun c7 => ?_)
  ·replace H := bf c7 H;refine aL <| ah <| bh <| ah <| ac ?_;show AR _ _ _ _ _ [0, 1] _;refine zm rfl <| za rfl <| ai <| ah ?_;obtain ⟨g8, H⟩ := ba H;obtain ⟨x9, e10, H⟩ := cd H;obtain ⟨x11, e12, H⟩ := cd H;refine ac ?_;show AR _ _ _ _ _ [0, 1, 2, 3, 4, 5] _;refine zm rfl <| zm rfl <| zm rfl <| zS rfl (bq aj rfl rfl g8 e10) <| an rfl rfl (aV rfl rP rfl (show ACalls _ _ _ [] (Ret (i64 x11) []) from by subst e12; exact nt a2 x9) ?_);refine zS rfl (cc rfl rfl) <| ai <| aF rfl (fun c13 => ?_) (fun c13 => ?_)
   ·replace H := bf c13 H;refine ah <| ac ?_;show AR _ _ _ _ _ [0] _;refine za rfl <| ai <| aU ?_;obtain rfl := aC H;exact And.intro rfl (Exists.intro _ (Exists.intro _ ⟨aW rfl (.refl _), aI [] rfl, rfl, rfl⟩))
   ·replace H := aZ c13 H;refine aL ?_;obtain ⟨g14, H⟩ := ba H;refine ac ?_;show AR _ _ _ _ _ [0, 1] _;refine zS rfl (eJ rfl rfl g14) <| zm rfl <| ai ?_;exact Exists.intro (n6, y4 + 1) ⟨H, Nat.lt_succ_self _, bc [] (.cons (.refl _) (.cons (.refl _) (.cons (.refl _) (.cons (.refl _) (.nil _))))) rfl⟩
  ·replace H := aZ c7 H;refine dd ?_;exact Exists.intro () ⟨H, bc [] (.cons (.refl _) (.nil _)) rfl⟩
 rintro _ H;replace H : iV a1 = some r3 := H
 unfold iV at H
 refine ah <| ac ?_;show AR _ _ _ _ _ [0, 1, 2, 3, 4, 5, 6, 7] _;refine zm rfl <| zS rfl (oO rfl rfl) <| zm rfl <| aP (l := [7]) 24 (B ((!decide (a1 = ([] : List UInt8))) && (decide ((a1.length : Int) ≤ 60)))) (fun K => ?_) ?_
 ·rcases af (!decide (a1 = ([] : List UInt8))) with h16 | h16
  ·refine zM h16 rfl <| zU h16 rfl (bn aj rfl) <| zU h16 rfl (dj rfl rfl) <| zS rfl (ay (av := .v _) rfl h16 rfl) ?_;exact K _ 3 _ (ap (bK h16)) rfl rfl
  ·refine zF h16 rfl <| zF h16 rfl <| zF h16 rfl <| zS rfl (aw (av := .v _) rfl h16 rfl) ?_;exact K _ 3 _ (ap (bL h16)) rfl rfl
 refine za rfl <| ai <| aU ?_;obtain rfl := aC H;exact And.intro rfl (Exists.intro _ (Exists.intro _ ⟨aW rfl (.refl _), aI [] rfl, rfl, rfl⟩))
set_option maxRecDepth 100000 in
set_option maxHeartbeats 1000000 in
theorem kP (F : Nat) (a1 : List UInt8) (r2 : Bool) (H : iW F a1 = some r2) : ACalls Tryz.prog 27 [S a1] [] (Ret (B r2) []) := by
 unfold iW at H
 refine az Tryz.func27 rfl rfl ?_;show AW _ _ 31 _ _ _;refine ah <| ac ?_;show AR _ _ _ _ _ [0] _;refine za rfl <| ai <| ah ?_;obtain ⟨g3, H⟩ := ba H;obtain ⟨x4, e5, H⟩ := cd H;refine ac ?_;show AR _ _ _ _ _ [0, 1, 2, 3, 4, 5, 6, 7, 8] _;refine zm rfl <| an rfl rfl (aV rfl oh rfl (show ACalls _ _ _ [] (Ret (.tup [S x4.1, S x4.2.1, B x4.2.2]) []) from by subst e5; exact oP a1 ([64] : List UInt8) (dR g3)) ?_);refine zS rfl (ak (av := .tup _) rfl) <| zS rfl (aM (av := .v _) rfl rfl) <| zS rfl (aM (av := .v _) rfl rfl) <| zS rfl (aM (av := .v _) rfl rfl) <| za rfl <| za rfl <| za rfl <| ai <| ah ?_;obtain ⟨x7, e8, H⟩ := eG H;obtain ⟨x10, e11, H⟩ := eG H;refine ac ?_;show AR _ _ _ _ _ [0, 1, 2, 3, 4, 5, 6, 7, 8, 9, 10, 11, 12, 13, 14, 15, 16, 17, 18, 19] _;refine zm rfl <| zm rfl <| aP (l := [5, 6, 7, 8, 9, 10, 11, 12, 13, 14, 15, 16, 17, 18, 19]) 16 (B (x4.2.2 && x7)) (fun K => ?_) ?_
 ·rcases af x4.2.2 with h6 | h6
  ·refine zM h6 rfl <| zT h6 rfl (aV rfl lJ rfl (lB F x4.1 mx x7 (e8 h6)) ?_);refine zS rfl (ay (av := .v _) rfl h6 rfl) ?_;exact K _ 2 _ (ap (bK h6)) rfl rfl
  ·refine zF h6 rfl <| zF h6 rfl <| zS rfl (aw (av := .v _) rfl h6 rfl) ?_;exact K _ 2 _ (ap (bL h6)) rfl rfl
 refine zm rfl <| aP (l := [9, 10, 11, 12, 13, 14, 15, 16, 17, 18, 19]) 20 (B ((x4.2.2 && x7) && x10)) (fun K => ?_) ?_
 ·rcases af (x4.2.2 && x7) with h9 | h9
  ·refine zM h9 rfl <| zT h9 rfl (aV rfl lJ rfl (lB F x4.2.1 mx x10 (e11 h9)) ?_);refine zS rfl (ay (av := .v _) rfl h9 rfl) ?_;exact K _ 2 _ (ap (bK h9)) rfl rfl
  ·refine zF h9 rfl <| zF h9 rfl <| zS rfl (aw (av := .v _) rfl h9 rfl) ?_;exact K _ 2 _ (ap (bL h9)) rfl rfl
 refine zm rfl <| aP (l := [14, 15, 16, 17, 18, 19]) 25 (B (((x4.2.2 && x7) && x10) && (decide (3 ≤ (a1.length : Int))))) (fun K => ?_) ?_
 ·rcases af ((x4.2.2 && x7) && x10) with h12 | h12
  ·refine zM h12 rfl <| zU h12 rfl (bn aj rfl) <| zU h12 rfl (dQ rfl rfl) <| zS rfl (ay (av := .v _) rfl h12 rfl) ?_;exact K _ 3 _ (ap (bK h12)) rfl rfl
  ·refine zF h12 rfl <| zF h12 rfl <| zF h12 rfl <| zS rfl (aw (av := .v _) rfl h12 rfl) ?_;exact K _ 3 _ (ap (bL h12)) rfl rfl
 refine zm rfl <| aP (l := [19]) 30 (B ((((x4.2.2 && x7) && x10) && (decide (3 ≤ (a1.length : Int)))) && (decide ((a1.length : Int) ≤ 60)))) (fun K => ?_) ?_
 ·rcases af (((x4.2.2 && x7) && x10) && (decide (3 ≤ (a1.length : Int)))) with h13 | h13
  ·refine zM h13 rfl <| zU h13 rfl (bn aj rfl) <| zU h13 rfl (dj rfl rfl) <| zS rfl (ay (av := .v _) rfl h13 rfl) ?_;exact K _ 3 _ (ap (bK h13)) rfl rfl
  ·refine zF h13 rfl <| zF h13 rfl <| zF h13 rfl <| zS rfl (aw (av := .v _) rfl h13 rfl) ?_;exact K _ 3 _ (ap (bL h13)) rfl rfl
 refine za rfl <| ai <| aU ?_;obtain rfl := aC H;exact And.intro rfl (Exists.intro _ (Exists.intro _ ⟨aW rfl (.refl _), aI [] rfl, rfl, rfl⟩))
abbrev _root_.Go.Av.au := @Tryz.underlying24
set_option maxRecDepth 100000 in
set_option maxHeartbeats 1000000 in
theorem qg (F : Nat) (a1 : List UInt8) (a2 : List UInt8) (a3 : List UInt8) (a4 : List UInt8) (q5 : Option Nat) (r6 : Int) (r7 : Int) (r8 : List UInt8) (r9 : List UInt8) (r10 : List UInt8) (r11 : List UInt8) (r12 : Int) (H : ne F a1 a2 a3 a4 = some (r6, r7, r8, r9, r10, r11, r12)) : ACalls Tryz.prog 12 [S a1, S a2, S a3, slE Enc.byte a4 q5] [] (Ret (.tup [.agg [i64 r6, i64 r7, S r8, S r9, S r10, slE Enc.byte r11 none], i64 r12]) []) := by
 unfold ne at H
 refine az Tryz.func12 rfl rfl ?_;show AW _ _ 35 _ _ _;refine ah <| ac ?_;show AR _ _ _ _ _ [0, 1] _;refine zX rfl (bH (zs := [.int .i64 0, .int .i64 0, .string ⟨#[]⟩, .string ⟨#[]⟩, .string ⟨#[]⟩, .slice none 0 0]) (by kernel_rfl)) ?_;rintro _ _ ⟨o13, rfl, rfl⟩;refine za rfl <| ai <| ah <| ah ?_;obtain ⟨x14, e15, H⟩ := cH H;obtain ⟨x17, e18, H⟩ := eG H;obtain ⟨x20, e21, H⟩ := eG H;obtain ⟨x23, e24, H⟩ := eG H;refine ac ?_;show AR _ _ _ _ _ [0, 1, 2, 3, 4, 5, 6, 7, 8, 9, 10, 11, 12, 13, 14, 15, 16, 17] _;refine zm rfl <| an rfl rfl (aV rfl oo rfl (kP F a1 x14 e15) ?_);refine zS rfl (dw rfl) <| zm rfl <| aP (l := [8, 9, 10, 11, 12, 13, 14, 15, 16, 17]) 17 (B ((!x14) || (!x17))) (fun K => ?_) ?_
 ·rcases af (!x14) with h16 | h16
  ·refine zF h16 rfl <| zF h16 rfl <| zF h16 rfl <| zS rfl (ay (av := .v _) rfl h16 rfl) ?_;exact K _ 3 _ (ap (fZ h16)) rfl rfl
  ·refine zM h16 rfl <| zT h16 rfl (aV rfl oo rfl (kP F a2 x17 (e18 (nf h16))) ?_);refine zU h16 rfl (dw rfl) <| zS rfl (aw (av := .v _) rfl h16 rfl) ?_;exact K _ 3 _ (ap (gb h16)) rfl rfl
 refine zm rfl <| aP (l := [13, 14, 15, 16, 17]) 22 (B (((!x14) || (!x17)) || (!x20))) (fun K => ?_) ?_
 ·rcases af ((!x14) || (!x17)) with h19 | h19
  ·refine zF h19 rfl <| zF h19 rfl <| zF h19 rfl <| zS rfl (ay (av := .v _) rfl h19 rfl) ?_;exact K _ 3 _ (ap (fZ h19)) rfl rfl
  ·refine zM h19 rfl <| zT h19 rfl (aV rfl lJ rfl (lB F a3 ra x20 (e21 (nf h19))) ?_);refine zU h19 rfl (dw rfl) <| zS rfl (aw (av := .v _) rfl h19 rfl) ?_;exact K _ 3 _ (ap (gb h19)) rfl rfl
 refine zm rfl <| aP (l := []) 27 (B ((((!x14) || (!x17)) || (!x20)) || (!x23))) (fun K => ?_) ?_
 ·rcases af (((!x14) || (!x17)) || (!x20)) with h22 | h22
  ·refine zF h22 rfl <| zF h22 rfl <| zF h22 rfl <| zS rfl (ay (av := .v _) rfl h22 rfl) ?_;exact K _ 3 _ (ap (fZ h22)) rfl rfl
  ·refine zU h22 rfl (ak (av := slE _ _ _) rfl) <| zT h22 rfl (aV rfl sc rfl (nz F a4 q5 x23 (e24 (nf h22))) ?_);refine zU h22 rfl (dw rfl) <| zS rfl (aw (av := .v _) rfl h22 rfl) ?_;exact K _ 3 _ (ap (gb h22)) rfl rfl
 refine ai <| aF rfl (fun c25 => ?_) (fun c25 => ?_)
 ·replace H := bf c25 H;refine ah <| ac ?_;show AR _ _ _ _ _ [0, 1, 2] _;refine zS rfl (jO (zs := [.int .i64 0, .int .i64 0, .string ⟨#[]⟩, .string ⟨#[]⟩, .string ⟨#[]⟩, .slice none 0 0]) (ps := [(0, 1), (1, 1), (2, 1), (3, 1), (4, 1), (5, 1)]) (cs := [i64 0, i64 0, S ([] : List UInt8), S ([] : List UInt8), S ([] : List UInt8), fm]) (by kernel_rfl) rfl rfl) <| s0 rfl rfl (aQ (i := 0) (vs := [i64 0, i64 0, S ([] : List UInt8), S ([] : List UInt8), S ([] : List UInt8), fm]) (by kernel_rfl) rfl rfl (by simp [bo, slE]) rfl (aa rfl)) <| za rfl <| ai <| aU ?_;obtain ⟨rfl, rfl, rfl, rfl, rfl, rfl, rfl⟩ := jU H;exact And.intro rfl (Exists.intro _ (Exists.intro _ ⟨bR (bU rfl (CellV.aggW (cs := [i64 0, i64 0, S ([] : List UInt8), S ([] : List UInt8), S ([] : List UInt8), fm]) (bV (off := 0) (cs := [i64 0, i64 0, S ([] : List UInt8), S ([] : List UInt8), S ([] : List UInt8), fm]) (n := 6) 0 au rfl (by kernel_rfl) rfl rfl (aa rfl)) (.cons (.refl _) (.cons (.refl _) (.cons (.refl _) (.cons (.refl _) (.cons (.refl _) (.cons (.nil _) (.nil)))))))) ((show PlaceV _ _ _ (.tmp _) _ from (.refl _)))), aI [] rfl, rfl, rfl⟩))
 ·replace H := aZ c25 H;refine aL <| ah ?_;obtain ⟨g26, H⟩ := ba H;refine ac ?_;show AR _ _ _ _ _ [0, 1, 2, 3, 4, 5, 6, 7] _;refine zm rfl <| zm rfl <| zm rfl <| zS rfl (ak (av := slE _ _ _) rfl) <| an rfl rfl (aV rfl om rfl (jm a4 q5 (dR g26)) ?_);refine zS rfl (jO (zs := [.int .i64 0, .int .i64 0, .string ⟨#[]⟩, .string ⟨#[]⟩, .string ⟨#[]⟩, .slice none 0 0]) (ps := [(0, 1), (1, 1), (2, 1), (3, 1), (4, 1), (5, 1)]) (cs := [i64 0, i64 0, S a1, S a2, S a3, slE Enc.byte a4 none]) (by kernel_rfl) rfl rfl) <| s0 rfl rfl (aQ (i := 0) (vs := [i64 0, i64 0, S a1, S a2, S a3, slE Enc.byte a4 none]) (by kernel_rfl) rfl rfl (by simp [bo, slE]) rfl (aa rfl)) <| za rfl <| ai <| aU ?_;obtain ⟨rfl, rfl, rfl, rfl, rfl, rfl, rfl⟩ := jU H;exact And.intro rfl (Exists.intro _ (Exists.intro _ ⟨bR (bU rfl (bV (off := 0) (cs := [i64 0, i64 0, S a1, S a2, S a3, slE Enc.byte a4 none]) (n := 6) 0 au rfl (by kernel_rfl) rfl rfl (aa rfl)) ((show PlaceV _ _ _ (.tmp _) _ from (.refl _)))), aI [] rfl, rfl, rfl⟩))
set_option maxRecDepth 100000 in
set_option maxHeartbeats 1000000 in
theorem qf (F : Nat) (a1 : List UInt8) (a2 : List UInt8) (r3 : Bool) (H : jv F a1 a2 = some r3) : ACalls Tryz.prog 45 [S a1, S a2] [] (Ret (B r3) []) := by
 unfold jv at H
 refine az Tryz.func45 rfl rfl ?_;show AW _ _ 34 _ _ _;refine ah <| ac ?_;show AR _ _ _ _ _ [0] _;refine za rfl <| ai <| ah ?_;obtain ⟨g4, H⟩ := ba H;refine ac ?_;show AR _ _ _ _ _ [0, 1, 2] _;refine zm rfl <| zX rfl (mD aj ab aJ rfl g4) ?_;rintro _ _ ⟨o5, n6, rfl, rfl⟩;refine zS rfl (aA (av := .vw _ _ _ _) rfl) <| ai <| bX (X := (List UInt8)) (fun y25 => ⟨[(1, S a2), (5, .vw o5 0 a1.length (a1.length + n6))], [], [.obj o5 (Enc.byte.fl y25 ++ List.replicate n6 .any)]⟩) (fun y25 => gA a1 a2 y25 = some r3) ?_ ?_
 ·refine ah <| ac ?_;show AR _ _ _ _ _ [0, 1, 2] _;refine zS rfl (ak (av := .vw _ _ _ _) rfl) <| zS rfl (qo ab rfl) <| zm rfl <| ai <| bh <| dv (X := Nat × Int × (List UInt8)) (fun (n10, y7, y8) => ⟨[(1, S a2), (5, .vw o5 0 a1.length (a1.length + n6)), (10, .vw o5 0 a1.length (a1.length + n6)), (11, i64 (a1.length : Int)), (12, i64 y7)], [], [.obj o5 (Enc.byte.fl y8 ++ List.replicate n6 .any)]⟩) (fun (n10, y7, y8) => dY a1 a2 n10 (y7, y8) = some r3) (fun (n10, y7, y8) => n10) (F, 0, a1) H (bc [0] (.cons (.refl _) (.cons (.refl _) (.cons (.refl _) (.cons (.refl _) (.cons (.refl _) (.nil _)))))) rfl) ?_;rintro ⟨n10, y7, y8⟩ H;obtain ⟨n10, rfl, H⟩ := fc H;replace H : eQ a1 a2 (dY a1 a2 n10) y7 y8 = some r3 := H
  unfold eQ at H
  refine ah <| ac ?_;show AR _ _ _ _ _ [0] _;refine zS rfl (cc rfl rfl) <| ai <| ah <| aF rfl (fun c11 => ?_) (fun c11 => ?_)
  ·replace H := bf c11 H;refine aL <| bX (X := (List UInt8)) (fun y22 => ⟨[(1, S a2), (5, .vw o5 0 a1.length (a1.length + n6)), (10, .vw o5 0 a1.length (a1.length + n6)), (11, i64 (a1.length : Int)), (12, i64 y7)], [], [.obj o5 (Enc.byte.fl y22 ++ List.replicate n6 .any)]⟩) (fun y22 => fC y7 (dY a1 a2 n10) y22 = some r3) ?_ ?_
   ·refine bh <| ah ?_;obtain ⟨g12, H⟩ := ba H;obtain ⟨g13, H⟩ := ba H;obtain ⟨x14, e15, H⟩ := cd H;refine ac ?_;show AR _ _ _ _ _ [0, 1, 2, 3, 4] _;refine zm rfl <| zS rfl (ja ab (by kernel_rfl) rfl rfl g12) <| zR rfl (qq (k := 0) aJ rfl rfl rfl g13 e15) <| za rfl <| za rfl <| ai <| ah <| ac ?_;show AR _ _ _ _ _ [0, 1, 2, 3, 4, 5] _;refine zm rfl <| zS rfl (dQ rfl rfl) <| zm rfl <| aP (l := []) 22 (B ((decide (65 ≤ (x14.toNat : Int))) && (decide ((x14.toNat : Int) ≤ 90)))) (fun K => ?_) ?_
    ·rcases af (decide (65 ≤ (x14.toNat : Int))) with h16 | h16
     ·refine zM h16 rfl <| zU h16 rfl (dj rfl rfl) <| zS rfl (ay (av := .v _) rfl h16 rfl) ?_;exact K _ 2 _ (ap (bK h16)) rfl rfl
     ·refine zF h16 rfl <| zF h16 rfl <| zS rfl (aw (av := .v _) rfl h16 rfl) ?_;exact K _ 2 _ (ap (bL h16)) rfl rfl
    refine ai <| aF rfl (fun c17 => ?_) (fun c17 => ?_)
    ·replace H := bf c17 H;obtain ⟨g18, H⟩ := ba H;obtain ⟨g19, H⟩ := ba H;obtain ⟨x20, e21, H⟩ := cd H;refine ac ?_;show AR _ _ _ _ _ [0, 1, 2, 3, 4, 5, 6] _;refine zS rfl (ak (av := .vw _ _ _ _) rfl) <| zm rfl <| zm rfl <| zS rfl (qG (a := x14) (b := 97) rfl rfl) <| zS rfl (pb (a := x14 + 97) (b := 65) rfl rfl) <| zS rfl (ja ab (by kernel_rfl) rfl rfl g18) <| s0 rfl rfl (pz (k := 0) (c := ((x14 + 97) - 65)) (by kernel_rfl) rfl rfl rfl g19 e21) <| ai ?_;exact Exists.intro x20 ⟨H, bc [0] (.cons (.refl _) (.cons (.refl _) (.cons (.refl _) (.cons (.refl _) (.cons (.refl _) (.nil _)))))) rfl⟩
    ·replace H := aZ c17 H;refine aL ?_;exact Exists.intro y8 ⟨H, bc [0] (.cons (.refl _) (.cons (.refl _) (.cons (.refl _) (.cons (.refl _) (.cons (.refl _) (.nil _)))))) rfl⟩
   rintro y22 H;replace H : fC y7 (dY a1 a2 n10) y22 = some r3 := H
   unfold fC at H
   obtain ⟨g24, H⟩ := ba H;refine ac ?_;show AR _ _ _ _ _ [0, 1] _;refine zS rfl (eJ rfl rfl g24) <| zm rfl <| ai ?_;exact Exists.intro (n10, y7 + 1, y22) ⟨H, Nat.lt_succ_self _, bc [0] (.cons (.refl _) (.cons (.refl _) (.cons (.refl _) (.cons (.refl _) (.cons (.refl _) (.nil _)))))) rfl⟩
  ·replace H := aZ c11 H;refine dd ?_;exact Exists.intro y8 ⟨H, bc [0] (.cons (.refl _) (.cons (.refl _) (.nil _))) rfl⟩
 rintro y25 H;replace H : gA a1 a2 y25 = some r3 := H
 unfold gA at H
 refine ah ?_;obtain ⟨g27, H⟩ := ba H;refine ac ?_;show AR _ _ _ _ _ [0, 1, 2, 3, 4] _;refine zS rfl (ak (av := .vw _ _ _ _) rfl) <| zR rfl (lv (k := 0) ab aJ aj rfl g27 rfl) <| zm rfl <| zS rfl (fU rfl rfl) <| za rfl <| ai <| aU ?_;obtain rfl := aC H;exact And.intro rfl (Exists.intro _ (Exists.intro _ ⟨aW rfl (.refl _), aI [] rfl, rfl, rfl⟩))
set_option maxRecDepth 100000 in
set_option maxHeartbeats 1000000 in
theorem nG (F : Nat) (a1 : Int) (a2 : List (List UInt8)) (a3 : Int) (a4 : Int) (a5 : Int) (r6 : Int) (H : jR F a1 a2 a3 a4 a5 = some r6) : ACalls Tryz.prog 23 [.agg [i64 a1, slE Enc.str a2 none, i64 a3, i64 a4, i64 a5]] [] (Ret (i64 r6) []) := by
 unfold jR at H
 refine az Tryz.func23 rfl rfl ?_;show AW _ _ 58 _ _ _;refine ah <| ac ?_;show AR _ _ _ _ _ [0, 1] _;refine zR rfl (ce rfl (.inr ⟨_, rfl⟩)) <| za rfl <| ai <| bX (X := Unit) (fun _ => ⟨[], [], []⟩) (fun _ => iX = some r6) ?_ ?_
 ·refine ah <| ac ?_;show AR _ _ _ _ _ [0, 1, 2, 3] _;refine zS rfl (aH (n := 1) (by kernel_rfl) rfl (aa rfl)) <| zS rfl (aE ax rfl rfl) <| zS rfl (aY ax rfl) <| zm rfl <| ai <| bh <| dv (X := Nat × Int) (fun (n9, y7) => ⟨[(11, slE Enc.str a2 none), (12, i64 (a2.length : Int)), (13, i64 y7)], [], []⟩) (fun (n9, y7) => eV F a2 n9 y7 = some r6) (fun (n9, y7) => n9) (F, 0) H (bc [] (.cons (.refl _) (.cons (.refl _) (.cons (.refl _) (.nil _)))) rfl) ?_;rintro ⟨n9, y7⟩ H;obtain ⟨n9, rfl, H⟩ := fc H;replace H : ef F a2 (eV F a2 n9) y7 = some r6 := H
  unfold ef at H
  refine ah <| ac ?_;show AR _ _ _ _ _ [0] _;refine zS rfl (cc rfl rfl) <| ai <| ah <| aF rfl (fun c10 => ?_) (fun c10 => ?_)
  ·replace H := bf c10 H;refine aL <| bX (X := Unit) (fun _ => ⟨[(11, slE Enc.str a2 none), (12, i64 (a2.length : Int)), (13, i64 y7)], [], []⟩) (fun _ => gj y7 (eV F a2 n9) = some r6) ?_ ?_
   ·refine bh <| ah ?_;obtain ⟨g11, H⟩ := ba H;obtain ⟨x12, e13, H⟩ := cd H;refine ac ?_;show AR _ _ _ _ _ [0, 1, 2, 3, 4] _;refine zm rfl <| zS rfl (cb (E := Enc.str) ax (by kernel_rfl) rfl rfl g11 e13) <| zS rfl (aE aj rfl rfl) <| za rfl <| za rfl <| ai <| ah ?_;obtain ⟨g14, H⟩ := ba H;obtain ⟨x15, e16, H⟩ := cd H;refine ac ?_;show AR _ _ _ _ _ [0, 1, 2, 3, 4, 5, 6, 7, 8] _;refine zm rfl <| an rfl rfl (aV rfl oh rfl (show ACalls _ _ _ [] (Ret (.tup [S x15.1, S x15.2.1, B x15.2.2]) []) from by subst e16; exact oP x12 ([32] : List UInt8) (dR g14)) ?_);refine zS rfl (ak (av := .tup _) rfl) <| zS rfl (aM (av := .v _) rfl rfl) <| zS rfl (aM (av := .v _) rfl rfl) <| zS rfl (aM (av := .v _) rfl rfl) <| za rfl <| za rfl <| za rfl <| ai <| ah <| ah ?_;obtain ⟨x19, e20, H⟩ := eG H;obtain ⟨g24, H⟩ := cD H;obtain ⟨g25, H⟩ := cD H;obtain ⟨g26, H⟩ := cD H;obtain ⟨x27, e28, H⟩ := cd H;refine ac ?_;show AR _ _ _ _ _ [0, 1, 2, 3, 4, 5, 6, 7, 8, 9, 10, 11, 12, 13, 14, 15, 16, 17, 18, 19, 20, 21, 22, 23, 24] _;refine zm rfl <| zS rfl (bw rfl rfl) <| zm rfl <| aP (l := [6, 7, 8, 9, 10, 11, 12, 13, 14, 15, 16, 17, 18, 19, 20, 21, 22, 23, 24]) 29 (B ((decide (y7 = 0)) || (!x15.2.2))) (fun K => ?_) ?_
    ·rcases af (decide (y7 = 0)) with h17 | h17
     ·refine zF h17 rfl <| zF h17 rfl <| zS rfl (ay (av := .v _) rfl h17 rfl) ?_;exact K _ 2 _ (ap (fZ h17)) rfl rfl
     ·refine zM h17 rfl <| zU h17 rfl (dw rfl) <| zS rfl (aw (av := .v _) rfl h17 rfl) ?_;exact K _ 2 _ (ap (gb h17)) rfl rfl
    refine zm rfl <| aP (l := [11, 12, 13, 14, 15, 16, 17, 18, 19, 20, 21, 22, 23, 24]) 34 (B (((decide (y7 = 0)) || (!x15.2.2)) || (!x19))) (fun K => ?_) ?_
    ·rcases af ((decide (y7 = 0)) || (!x15.2.2)) with h18 | h18
     ·refine zF h18 rfl <| zF h18 rfl <| zF h18 rfl <| zS rfl (ay (av := .v _) rfl h18 rfl) ?_;exact K _ 3 _ (ap (fZ h18)) rfl rfl
     ·refine zM h18 rfl <| zT h18 rfl (aV rfl rU rfl (qf F x15.1 ([115, 105, 122, 101] : List UInt8) x19 (e20 (nf h18))) ?_);refine zU h18 rfl (dw rfl) <| zS rfl (aw (av := .v _) rfl h18 rfl) ?_;exact K _ 3 _ (ap (gb h18)) rfl rfl
    refine zm rfl <| aP (l := [15, 16, 17, 18, 19, 20, 21, 22, 23, 24]) 38 (B ((((decide (y7 = 0)) || (!x15.2.2)) || (!x19)) || (decide (x15.2.1 = ([] : List UInt8))))) (fun K => ?_) ?_
    ·rcases af (((decide (y7 = 0)) || (!x15.2.2)) || (!x19)) with h21 | h21
     ·refine zF h21 rfl <| zF h21 rfl <| zS rfl (ay (av := .v _) rfl h21 rfl) ?_;exact K _ 2 _ (ap (fZ h21)) rfl rfl
     ·refine zM h21 rfl <| zU h21 rfl (fU rfl rfl) <| zS rfl (aw (av := .v _) rfl h21 rfl) ?_;exact K _ 2 _ (ap (gb h21)) rfl rfl
    refine zm rfl <| aP (l := [20, 21, 22, 23, 24]) 43 (B (((((decide (y7 = 0)) || (!x15.2.2)) || (!x19)) || (decide (x15.2.1 = ([] : List UInt8)))) || (decide (9 < (x15.2.1.length : Int))))) (fun K => ?_) ?_
    ·rcases af ((((decide (y7 = 0)) || (!x15.2.2)) || (!x19)) || (decide (x15.2.1 = ([] : List UInt8)))) with h22 | h22
     ·refine zF h22 rfl <| zF h22 rfl <| zF h22 rfl <| zS rfl (ay (av := .v _) rfl h22 rfl) ?_;exact K _ 3 _ (ap (fZ h22)) rfl rfl
     ·refine zM h22 rfl <| zU h22 rfl (bn aj rfl) <| zU h22 rfl (gC rfl rfl) <| zS rfl (aw (av := .v _) rfl h22 rfl) ?_;exact K _ 3 _ (ap (gb h22)) rfl rfl
    refine zm rfl <| aP (l := []) 48 (B ((((((decide (y7 = 0)) || (!x15.2.2)) || (!x19)) || (decide (x15.2.1 = ([] : List UInt8)))) || (decide (9 < (x15.2.1.length : Int)))) || (!decide (x27 = ([] : List UInt8))))) (fun K => ?_) ?_
    ·rcases af (((((decide (y7 = 0)) || (!x15.2.2)) || (!x19)) || (decide (x15.2.1 = ([] : List UInt8)))) || (decide (9 < (x15.2.1.length : Int)))) with h23 | h23
     ·refine zF h23 rfl <| zF h23 rfl <| zF h23 rfl <| zS rfl (ay (av := .v _) rfl h23 rfl) ?_;exact K _ 3 _ (ap (fZ h23)) rfl rfl
     ·refine zM h23 rfl <| zT h23 rfl (aV rfl rT rfl (show ACalls _ _ _ [] (Ret (S x27) []) from by subst e28; exact lib_Trim x15.2.1 ([48, 49, 50, 51, 52, 53, 54, 55, 56, 57] : List UInt8) (dR (g24 (nf h23))) (dR (g25 (nf h23))) (g26 (nf h23))) ?_);refine zU h23 rfl (oO rfl rfl) <| zS rfl (aw (av := .v _) rfl h23 rfl) ?_;exact K _ 3 _ (ap (gb h23)) rfl rfl
    refine ai <| aF rfl (fun c29 => ?_) (fun c29 => ?_)
    ·replace H := bf c29 H;refine dd ?_;exact Exists.intro () ⟨H, bc [] (.cons (.refl _) (.cons (.refl _) (.cons (.refl _) (.nil _)))) rfl⟩
    ·replace H := aZ c29 H;refine aL <| ah ?_;obtain ⟨x30, x31, e32, H⟩ := dJ H;refine ac ?_;show AR _ _ _ _ _ [0, 1, 2, 3, 4, 5, 6] _;refine zm rfl <| an rfl rfl (aV rfl rS rfl (ji F x15.2.1 x30 x31 e32) ?_);refine zS rfl (ak (av := .tup _) rfl) <| zS rfl (aM (av := .v _) rfl rfl) <| zS rfl (aM (av := eAny _ _) rfl rfl) <| za rfl <| zS rfl (aA (av := eAny _ _) rfl) <| ai <| ah <| ac ?_;show AR _ _ _ _ _ [0, 1] _;refine zS rfl (ak (av := eAny _ _) rfl) <| zS rfl (mP cZ rfl rfl) <| ai <| aF rfl (fun c33 => ?_) (fun c33 => ?_)
     ·replace H := bf c33 H;refine ah <| ac ?_;show AR _ _ _ _ _ [0, 1] _;refine zm rfl <| za rfl <| ai <| aU ?_;obtain rfl := aC H;exact And.intro rfl (Exists.intro _ (Exists.intro _ ⟨aW rfl (.refl _), aI [] rfl, rfl, rfl⟩))
     ·replace H := aZ c33 H;refine aL ?_;exact Exists.intro () ⟨H, bc [] (.cons (.refl _) (.cons (.refl _) (.cons (.refl _) (.nil _)))) rfl⟩
   rintro _ H;replace H : gj y7 (eV F a2 n9) = some r6 := H
   unfold gj at H
   obtain ⟨g35, H⟩ := ba H;refine ac ?_;show AR _ _ _ _ _ [0, 1] _;refine zS rfl (eJ rfl rfl g35) <| zm rfl <| ai ?_;exact Exists.intro (n9, y7 + 1) ⟨H, Nat.lt_succ_self _, bc [] (.cons (.refl _) (.cons (.refl _) (.cons (.refl _) (.nil _)))) rfl⟩
  ·replace H := aZ c10 H;refine dd ?_;exact Exists.intro () ⟨H, bc [] (.nil _) rfl⟩
 rintro _ H;replace H : iX = some r6 := H
 unfold iX at H
 refine ah <| ac ?_;show AR _ _ _ _ _ [0] _;refine za rfl <| ai <| aU ?_;obtain rfl := aC H;exact And.intro rfl (Exists.intro _ (Exists.intro _ ⟨aW rfl (.refl _), aI [] rfl, rfl, rfl⟩))
set_option maxRecDepth 100000 in
set_option maxHeartbeats 1000000 in
theorem iw (F : Nat) (o1 : Nat) (a2 : Int) (a3 : Int) (a4 : List UInt8) (a5 : List UInt8) (a6 : List UInt8) (a7 : List UInt8) (a8 : List UInt8) (t9 : Nat) (a10 : Int) (a11 : List (List UInt8)) (q12 : Option Nat) (r13 : Int) (r14 : List UInt8) (H : gS F a2 a3 a4 a5 a6 a7 a8 a10 a11 = some (r13, r14)) : ACalls Tryz.prog 87 [.pt o1 0, i64 a10, slE Enc.str a11 q12] [.obj o1 [i64 a2, i64 a3, S a4, S a5, S a6, slE Enc.byte a7 none, slE Enc.byte a8 (some t9)], .tok t9 5] (fun e A' => e = .ret (.tup []) ∧ ∃ t15, A' = [.obj o1 [i64 r13, i64 a3, S a4, S a5, S a6, slE Enc.byte a7 none, slE Enc.byte r14 (some t15)], .tok t15 5]) := by
 unfold gS at H
 refine az Tryz.func87 rfl rfl ?_;show AW _ _ 22 _ _ _;refine ah <| ac ?_;show AR _ _ _ _ _ [0, 1, 2, 3, 4, 5] _;refine zS rfl (ak (av := .pt _ _) rfl) <| zm rfl <| zS rfl (am rfl) <| zS rfl (ag (n := 0) (by kernel_rfl) rfl) <| zS rfl (ag (n := 0) (by kernel_rfl) rfl) <| s0 rfl rfl (ar (i := 0) (c := .v _) (by kernel_rfl) rfl rfl rfl rfl (aa rfl)) <| ai ?_;obtain ⟨g16, H⟩ := ba H;obtain ⟨x17, e18, H⟩ := cd H;obtain ⟨g19, H⟩ := ba H;obtain ⟨x20, e21, H⟩ := cd H;obtain ⟨g23, H⟩ := ba H;obtain ⟨x24, e25, H⟩ := cd H;refine br (by kernel_rfl) ?_;show AI _ _ _ _ _ 12 (Array.replicate 12 false) _;refine zk 0 rfl (ak (av := .pt _ _) rfl) ?_;show AI _ _ _ _ _ _ #[true, false, false, false, false, false, false, false, false, false, false, false] _;refine zk 1 rfl (ak (av := .pt _ _) rfl) ?_;show AI _ _ _ _ _ _ #[true, true, false, false, false, false, false, false, false, false, false, false] _;refine zk 2 rfl (am rfl) ?_;show AI _ _ _ _ _ _ #[true, true, true, false, false, false, false, false, false, false, false, false] _;refine zk 3 rfl (ag (n := 6) (by kernel_rfl) rfl) ?_;show AI _ _ _ _ _ _ #[true, true, true, true, false, false, false, false, false, false, false, false] _;refine zk 5 rfl (ak (av := slE _ _ _) rfl) ?_;show AI _ _ _ _ _ _ #[true, true, true, true, false, true, false, false, false, false, false, false] _;refine cB (i := 4) (j := 6) (by kernel_rfl) rfl rfl rfl rfl ?_ ?_
 ·refine aN rfl (al (i := 0) ab rfl rfl rfl rfl) ?_;show AI _ _ _ _ _ _ #[true, true, true, true, true, true, false, false, false, false, false, false] _;refine aK (i := 6) (by kernel_rfl) rfl rfl <| bM rfl mR rfl (show ACalls _ _ _ [] (Ret (S x17) []) from by subst e18; exact kQ a11 ([] : List UInt8) q12 (la g16).1 (la g16).2) ?_;show AI _ _ _ _ _ _ #[true, true, true, true, true, true, true, false, false, false, false, false] _;refine zk 7 rfl (lz rfl rfl g19 e21) ?_;show AI _ _ _ _ _ _ #[true, true, true, true, true, true, true, true, false, false, false, false] _;refine aK (i := 8) (by kernel_rfl) rfl rfl <| AIO.opx rfl (iO (bytes := 1) 1 ab aj rfl (by kernel_rfl) rfl rfl rfl rfl g23 e25) ?_;rintro _ _ ⟨t22, rfl, rfl⟩;show AI _ _ _ _ _ _ #[true, true, true, true, true, true, true, true, true, false, false, false] _;refine zk 9 rfl (am rfl) ?_;show AI _ _ _ _ _ _ #[true, true, true, true, true, true, true, true, true, true, false, false] _;refine zk 10 rfl (ag (n := 6) (by kernel_rfl) rfl) ?_;show AI _ _ _ _ _ _ #[true, true, true, true, true, true, true, true, true, true, true, false] _;refine aK (i := 11) (by kernel_rfl) rfl rfl <| bZ (ar (i := 0) (c := slE _ _ _) (by kernel_rfl) rfl rfl rfl rfl (aa rfl)) ?_;show AI _ _ _ _ _ _ #[true, true, true, true, true, true, true, true, true, true, true, true] _;refine bi rfl ?_;obtain ⟨rfl, rfl⟩ := fY H
  exact And.intro rfl (Exists.intro _ (Exists.intro _ ⟨bg rfl, aI [0, 0] rfl, rfl, t22, rfl⟩))
 ·refine bM rfl mR rfl (show ACalls _ _ _ [] (Ret (S x17) []) from by subst e18; exact kQ a11 ([] : List UInt8) q12 (la g16).1 (la g16).2) ?_;show AI _ _ _ _ _ _ #[true, true, true, true, false, true, true, false, false, false, false, false] _;refine zk 7 rfl (lz rfl rfl g19 e21) ?_;show AI _ _ _ _ _ _ #[true, true, true, true, false, true, true, true, false, false, false, false] _;refine aK (i := 4) (by kernel_rfl) rfl rfl <| aN rfl (al (i := 0) ab rfl rfl rfl rfl) ?_;show AI _ _ _ _ _ _ #[true, true, true, true, true, true, true, true, false, false, false, false] _;refine aK (i := 8) (by kernel_rfl) rfl rfl <| AIO.opx rfl (iO (bytes := 1) 1 ab aj rfl (by kernel_rfl) rfl rfl rfl rfl g23 e25) ?_;rintro _ _ ⟨t26, rfl, rfl⟩;show AI _ _ _ _ _ _ #[true, true, true, true, true, true, true, true, true, false, false, false] _;refine zk 9 rfl (am rfl) ?_;show AI _ _ _ _ _ _ #[true, true, true, true, true, true, true, true, true, true, false, false] _;refine zk 10 rfl (ag (n := 6) (by kernel_rfl) rfl) ?_;show AI _ _ _ _ _ _ #[true, true, true, true, true, true, true, true, true, true, true, false] _;refine aK (i := 11) (by kernel_rfl) rfl rfl <| bZ (ar (i := 0) (c := slE _ _ _) (by kernel_rfl) rfl rfl rfl rfl (aa rfl)) ?_;show AI _ _ _ _ _ _ #[true, true, true, true, true, true, true, true, true, true, true, true] _;refine bi rfl ?_;obtain ⟨rfl, rfl⟩ := fY H
  exact And.intro rfl (Exists.intro _ (Exists.intro _ ⟨bg rfl, aI [0, 0] rfl, rfl, t26, rfl⟩))
set_option maxRecDepth 100000 in
set_option maxHeartbeats 1000000 in
theorem jz (F : Nat) (o1 : Nat) (a2 : Int) (a3 : Int) (a4 : List UInt8) (a5 : List UInt8) (a6 : List UInt8) (a7 : List UInt8) (a8 : List UInt8) (t9 : Nat) (a10 : Int) (r11 : Int) (r12 : Int) (r13 : List UInt8) (H : ip F a2 a3 a4 a5 a6 a7 a8 a10 = some (r11, r12, r13)) : ACalls Tryz.prog 58 [.pt o1 0, i64 a10] [.obj o1 [i64 a2, i64 a3, S a4, S a5, S a6, slE Enc.byte a7 none, slE Enc.byte a8 (some t9)], .tok t9 5] (fun e A' => e = .ret (.tup []) ∧ ∃ t14, A' = [.obj o1 [i64 r11, i64 r12, S a4, S a5, S a6, slE Enc.byte a7 none, slE Enc.byte r13 (some t14)], .tok t14 5]) := by
 unfold ip at H
 refine az Tryz.func58 rfl rfl ?_;show AW _ _ 12 _ _ _;refine ah <| ac ?_;show AR _ _ _ _ _ [0, 1, 2, 3, 4, 5] _;refine zS rfl (ak (av := .pt _ _) rfl) <| zm rfl <| zS rfl (am rfl) <| zS rfl (ag (n := 0) (by kernel_rfl) rfl) <| zS rfl (ag (n := 1) (by kernel_rfl) rfl) <| s0 rfl rfl (ar (i := 0) (c := .v _) (by kernel_rfl) rfl rfl rfl rfl (aa rfl)) <| ai ?_;obtain ⟨x15, x16, e17, H⟩ := dJ H;refine ac ?_;show AR _ _ _ _ _ [0, 1, 2] _;refine zS rfl (ak (av := .pt _ _) rfl) <| zR rfl (cJ (E := Enc.str) (bytes := 16) (xs := [.const _]) (l := ([([81, 85, 73, 84] : List UInt8)] : List (List UInt8))) ax (by kernel_rfl) rfl rfl (by decide) rfl rfl) <| an rfl rfl (cf [0, 0] rfl iC rfl (iw F o1 a2 a10 a4 a5 a6 a7 a8 t9 6 ([([81, 85, 73, 84] : List UInt8)] : List (List UInt8)) none x15 x16 e17) rfl (fun c A' h => by cases h.1) ?_)
 rintro av A' ⟨h, t18, rfl⟩; cases h
 refine ai ?_;obtain ⟨rfl, rfl, rfl⟩ := gO H;exact And.intro rfl (Exists.intro _ (Exists.intro _ ⟨bg rfl, aI [0, 0] rfl, rfl, t18, rfl⟩))
set_option maxRecDepth 100000 in
set_option maxHeartbeats 1000000 in
theorem lC (F : Nat) (o1 : Nat) (a2 : Int) (a3 : Int) (a4 : List UInt8) (a5 : List UInt8) (a6 : List UInt8) (a7 : List UInt8) (a8 : List UInt8) (t9 : Nat) (r10 : Int) (r11 : Int) (H : jf F a2 a3 a4 a5 a6 a7 a8 = some (r10, r11)) : ACalls Tryz.prog 38 [.pt o1 0] [.obj o1 [i64 a2, i64 a3, S a4, S a5, S a6, slE Enc.byte a7 none, slE Enc.byte a8 (some t9)], .tok t9 5] (fun e A' => e = .ret (.tup []) ∧ A' = [.obj o1 [i64 r10, i64 r11, S a4, S a5, S a6, slE Enc.byte a7 none, slE Enc.byte a8 (some t9)], .tok t9 5]) := by
 unfold jf at H
 refine az Tryz.func38 rfl rfl ?_;show AW _ _ 16 _ _ _;refine ah <| ac ?_;show AR _ _ _ _ _ [0, 1, 2, 3, 4] _;refine zS rfl (ak (av := .pt _ _) rfl) <| zS rfl (am rfl) <| zS rfl (ag (n := 0) (by kernel_rfl) rfl) <| zS rfl (ag (n := 0) (by kernel_rfl) rfl) <| s0 rfl rfl (ar (i := 0) (c := .v _) (by kernel_rfl) rfl rfl rfl rfl (aa rfl)) <| ai <| ah <| ac ?_;show AR _ _ _ _ _ [0, 1, 2, 3, 4, 5] _;refine zS rfl (ak (av := .pt _ _) rfl) <| zS rfl (am rfl) <| zS rfl (ag (n := 0) (by kernel_rfl) rfl) <| zS rfl (ag (n := 1) (by kernel_rfl) rfl) <| zR rfl (al (i := 0) aq rfl rfl rfl rfl) <| zS rfl (bw rfl rfl) <| ai <| aF rfl (fun c12 => ?_) (fun c12 => ?_)
 ·replace H := bf c12 H;refine ac ?_;show AR _ _ _ _ _ [0, 1, 2, 3, 4] _;refine zS rfl (ak (av := .pt _ _) rfl) <| zS rfl (am rfl) <| zS rfl (ag (n := 0) (by kernel_rfl) rfl) <| zS rfl (ag (n := 1) (by kernel_rfl) rfl) <| s0 rfl rfl (ar (i := 0) (c := .v _) (by kernel_rfl) rfl rfl rfl rfl (aa rfl)) <| ai ?_;obtain ⟨rfl, rfl⟩ := fY H;exact And.intro rfl (Exists.intro _ (Exists.intro _ ⟨bg rfl, aI [0, 0] rfl, rfl, rfl⟩))
 ·replace H := aZ c12 H;refine aL ?_;obtain ⟨rfl, rfl⟩ := fY H;exact And.intro rfl (Exists.intro _ (Exists.intro _ ⟨bg rfl, aI [0, 0] rfl, rfl, rfl⟩))
set_option maxRecDepth 100000 in
set_option maxHeartbeats 1000000 in
theorem mI (F : Nat) (o1 : Nat) (a2 : Int) (a3 : Int) (a4 : List UInt8) (a5 : List UInt8) (a6 : List UInt8) (a7 : List UInt8) (a8 : List UInt8) (t9 : Nat) (a10 : Int) (a11 : List (List UInt8)) (a12 : Int) (a13 : Int) (a14 : Int) (r15 : Bool) (r16 : Int) (r17 : List UInt8) (H : jx F a2 a3 a4 a5 a6 a7 a8 a10 a11 a12 a13 a14 = some (r15, r16, r17)) : ACalls Tryz.prog 80 [.pt o1 0, .agg [i64 a10, slE Enc.str a11 none, i64 a12, i64 a13, i64 a14]] [.obj o1 [i64 a2, i64 a3, S a4, S a5, S a6, slE Enc.byte a7 none, slE Enc.byte a8 (some t9)], .tok t9 5] (fun e A' => e = .ret (B r15) ∧ ∃ t18, A' = [.obj o1 [i64 r16, i64 a3, S a4, S a5, S a6, slE Enc.byte a7 none, slE Enc.byte r17 (some t18)], .tok t18 5]) := by
 unfold jx at H
 refine az Tryz.func80 rfl rfl ?_;show AW _ _ 16 _ _ _;refine ah <| ac ?_;show AR _ _ _ _ _ [0, 1] _;refine zR rfl (ce rfl (.inr ⟨_, rfl⟩)) <| za rfl <| ai <| ah <| ah <| ac ?_;show AR _ _ _ _ _ [0, 1, 2] _;refine zS rfl (aH (n := 0) (by kernel_rfl) rfl (aa rfl)) <| zS rfl (aE aq rfl rfl) <| zS rfl (fT rfl rfl) <| ai <| aF rfl (fun c19 => ?_) (fun c19 => ?_)
 ·replace H := bf c19 H;refine ah <| ac ?_;show AR _ _ _ _ _ [0] _;refine za rfl <| ai <| aU ?_;obtain ⟨rfl, rfl, rfl⟩ := gO H;exact And.intro rfl (Exists.intro _ (Exists.intro _ ⟨aW rfl (.refl _), aI [0, 0] rfl, rfl, t9, rfl⟩))
 ·replace H := aZ c19 H;refine aL <| ah ?_;obtain ⟨x20, x21, e22, H⟩ := dJ H;refine ac ?_;show AR _ _ _ _ _ [0, 1, 2, 3, 4, 5, 6, 7] _;refine zS rfl (ak (av := .pt _ _) rfl) <| zS rfl (ak (av := .pt _ _) rfl) <| zS rfl (am rfl) <| zS rfl (ag (n := 0) (by kernel_rfl) rfl) <| zS rfl (ag (n := 4) (by kernel_rfl) rfl) <| zR rfl (al (i := 0) aj rfl rfl rfl rfl) <| zR rfl (cJ (E := Enc.str) (bytes := 16) (xs := [.const _, .tmp 13]) (l := ([([69, 72, 76, 79, 32] : List UInt8), a6] : List (List UInt8))) ax (by kernel_rfl) rfl rfl (by decide) rfl rfl) <| an rfl rfl (cf [0, 0] rfl iC rfl (iw F o1 a2 a3 a4 a5 a6 a7 a8 t9 1 ([([69, 72, 76, 79, 32] : List UInt8), a6] : List (List UInt8)) none x20 x21 e22) rfl (fun c A' h => by cases h.1) ?_)
  rintro av A' ⟨h, t23, rfl⟩; cases h
  refine ai <| ah <| ac ?_;show AR _ _ _ _ _ [0] _;refine za rfl <| ai <| aU ?_;obtain ⟨rfl, rfl, rfl⟩ := gO H;exact And.intro rfl (Exists.intro _ (Exists.intro _ ⟨aW rfl (.refl _), aI [0, 0] rfl, rfl, t23, rfl⟩))
set_option maxRecDepth 100000 in
set_option maxHeartbeats 1000000 in
theorem mH (F : Nat) (o1 : Nat) (a2 : Int) (a3 : Int) (a4 : List UInt8) (a5 : List UInt8) (a6 : List UInt8) (a7 : List UInt8) (a8 : List UInt8) (t9 : Nat) (a10 : Int) (a11 : List (List UInt8)) (a12 : Int) (a13 : Int) (a14 : Int) (r15 : Bool) (r16 : Int) (r17 : Int) (r18 : List UInt8) (H : jw F a2 a3 a4 a5 a6 a7 a8 a10 a11 a12 a13 a14 = some (r15, r16, r17, r18)) : ACalls Tryz.prog 81 [.pt o1 0, .agg [i64 a10, slE Enc.str a11 none, i64 a12, i64 a13, i64 a14]] [.obj o1 [i64 a2, i64 a3, S a4, S a5, S a6, slE Enc.byte a7 none, slE Enc.byte a8 (some t9)], .tok t9 5] (fun e A' => e = .ret (B r15) ∧ ∃ t19, A' = [.obj o1 [i64 r16, i64 r17, S a4, S a5, S a6, slE Enc.byte a7 none, slE Enc.byte r18 (some t19)], .tok t19 5]) := by
 unfold jw at H
 refine az Tryz.func81 rfl rfl ?_;show AW _ _ 41 _ _ _;refine ah <| ac ?_;show AR _ _ _ _ _ [0, 1] _;refine zR rfl (ce rfl (.inr ⟨_, rfl⟩)) <| za rfl <| ai <| ah <| ah <| ac ?_;show AR _ _ _ _ _ [0, 1, 2, 3] _;refine zS rfl (aH (n := 0) (by kernel_rfl) rfl (aa rfl)) <| zS rfl (aE aq rfl rfl) <| zS rfl (iG rfl rfl (by decide)) <| zS rfl (fT rfl rfl) <| ai <| aF rfl (fun c20 => ?_) (fun c20 => ?_)
 ·replace H := bf c20 H;refine ah <| ac ?_;show AR _ _ _ _ _ [0] _;refine za rfl <| ai <| aU ?_;obtain ⟨rfl, rfl, rfl, rfl⟩ := res4 H;exact And.intro rfl (Exists.intro _ (Exists.intro _ ⟨aW rfl (.refl _), aI [0, 0] rfl, rfl, t9, rfl⟩))
 ·replace H := aZ c20 H;refine aL <| ah ?_;obtain ⟨x21, x22, e23, H⟩ := dJ H;refine ac ?_;show AR _ _ _ _ _ [0, 1, 2, 3, 4, 5, 6, 7, 8, 9, 10] _;refine zS rfl (ak (av := .pt _ _) rfl) <| zS rfl (am rfl) <| zS rfl (ag (n := 0) (by kernel_rfl) rfl) <| zS rfl (ag (n := 5) (by kernel_rfl) rfl) <| zR rfl (al (i := 0) ab rfl rfl rfl rfl) <| an rfl rfl (aV rfl ot rfl (lP F a7 none x21 x22 e23) ?_);refine zS rfl (ak (av := .tup _) rfl) <| zS rfl (aM (av := slE _ _ _) rfl rfl) <| zS rfl (aM (av := .v _) rfl rfl) <| zS rfl (aA (av := slE _ _ _) rfl) <| za rfl <| ai <| ah <| ah ?_;obtain ⟨x24, e25, H⟩ := cH H;refine ac ?_;show AR _ _ _ _ _ [0, 1, 2] _;refine zS rfl (aR be rfl (n := 5) (by kernel_rfl) rfl (aa rfl)) <| an rfl rfl (aV rfl se rfl (nG F a10 a11 a12 a13 a14 x24 e25) ?_);refine za rfl <| ai <| ah <| ac ?_;show AR _ _ _ _ _ [0, 1, 2, 3, 4, 5, 6, 7] _;refine zm rfl <| zS rfl (gC rfl rfl) <| zm rfl <| aP (l := []) 30 (B ((decide (0 < x24)) && (decide (x24 < (x21.length : Int))))) (fun K => ?_) ?_
  ·rcases af (decide (0 < x24)) with h26 | h26
   ·refine zM h26 rfl <| zU h26 rfl (ak (av := slE _ _ _) rfl) <| zU h26 rfl (aY ab rfl) <| zU h26 rfl (cc rfl rfl) <| zS rfl (ay (av := .v _) rfl h26 rfl) ?_;exact K _ 4 _ (ap (bK h26)) rfl rfl
   ·refine zF h26 rfl <| zF h26 rfl <| zF h26 rfl <| zF h26 rfl <| zS rfl (aw (av := .v _) rfl h26 rfl) ?_;exact K _ 4 _ (ap (bL h26)) rfl rfl
  refine ai <| aF rfl (fun c27 => ?_) (fun c27 => ?_)
  ·replace H := bf c27 H;refine ah ?_;obtain ⟨x28, x29, x30, e31, H⟩ := fW H;refine ac ?_;show AR _ _ _ _ _ [0, 1] _;refine zS rfl (ak (av := .pt _ _) rfl) <| an rfl rfl (cf [0, 0] rfl jD rfl (jz F o1 a2 a3 a4 a5 a6 a7 a8 t9 3 x28 x29 x30 e31) rfl (fun c A' h => by cases h.1) ?_)
   rintro av A' ⟨h, t32, rfl⟩; cases h
   refine ai <| ah <| ac ?_;show AR _ _ _ _ _ [0] _;refine za rfl <| ai <| aU ?_;obtain ⟨rfl, rfl, rfl, rfl⟩ := res4 H;exact And.intro rfl (Exists.intro _ (Exists.intro _ ⟨aW rfl (.refl _), aI [0, 0] rfl, rfl, t32, rfl⟩))
  ·replace H := aZ c27 H;refine aL <| ah ?_;obtain ⟨x33, x34, e35, H⟩ := dJ H;refine ac ?_;show AR _ _ _ _ _ [0, 1, 2, 3, 4, 5, 6, 7] _;refine zS rfl (ak (av := .pt _ _) rfl) <| zS rfl (ak (av := .pt _ _) rfl) <| zS rfl (am rfl) <| zS rfl (ag (n := 0) (by kernel_rfl) rfl) <| zS rfl (ag (n := 2) (by kernel_rfl) rfl) <| zR rfl (al (i := 0) aj rfl rfl rfl rfl) <| zR rfl (cJ (E := Enc.str) (bytes := 16) (xs := [.const _, .tmp 38, .const _]) (l := ([([77, 65, 73, 76, 32, 70, 82, 79, 77, 58, 60] : List UInt8), a4, ([62] : List UInt8)] : List (List UInt8))) ax (by kernel_rfl) rfl rfl (by decide) rfl rfl) <| an rfl rfl (cf [0, 0] rfl iC rfl (iw F o1 a2 a3 a4 a5 a6 a7 a8 t9 2 ([([77, 65, 73, 76, 32, 70, 82, 79, 77, 58, 60] : List UInt8), a4, ([62] : List UInt8)] : List (List UInt8)) none x33 x34 e35) rfl (fun c A' h => by cases h.1) ?_)
   rintro av A' ⟨h, t36, rfl⟩; cases h
   refine ai <| ah <| ac ?_;show AR _ _ _ _ _ [0] _;refine za rfl <| ai <| aU ?_;obtain ⟨rfl, rfl, rfl, rfl⟩ := res4 H;exact And.intro rfl (Exists.intro _ (Exists.intro _ ⟨aW rfl (.refl _), aI [0, 0] rfl, rfl, t36, rfl⟩))
set_option maxRecDepth 100000 in
set_option maxHeartbeats 1000000 in
theorem nD (F : Nat) (o1 : Nat) (a2 : Int) (a3 : Int) (a4 : List UInt8) (a5 : List UInt8) (a6 : List UInt8) (a7 : List UInt8) (a8 : List UInt8) (t9 : Nat) (a10 : Int) (a11 : List (List UInt8)) (a12 : Int) (a13 : Int) (a14 : Int) (r15 : Bool) (r16 : Int) (r17 : List UInt8) (H : lk F a2 a3 a4 a5 a6 a7 a8 a10 a11 a12 a13 a14 = some (r15, r16, r17)) : ACalls Tryz.prog 82 [.pt o1 0, .agg [i64 a10, slE Enc.str a11 none, i64 a12, i64 a13, i64 a14]] [.obj o1 [i64 a2, i64 a3, S a4, S a5, S a6, slE Enc.byte a7 none, slE Enc.byte a8 (some t9)], .tok t9 5] (fun e A' => e = .ret (B r15) ∧ ∃ t18, A' = [.obj o1 [i64 r16, i64 a3, S a4, S a5, S a6, slE Enc.byte a7 none, slE Enc.byte r17 (some t18)], .tok t18 5]) := by
 unfold lk at H
 refine az Tryz.func82 rfl rfl ?_;show AW _ _ 17 _ _ _;refine ah <| ac ?_;show AR _ _ _ _ _ [0, 1] _;refine zR rfl (ce rfl (.inr ⟨_, rfl⟩)) <| za rfl <| ai <| ah <| ah <| ac ?_;show AR _ _ _ _ _ [0, 1, 2, 3] _;refine zS rfl (aH (n := 0) (by kernel_rfl) rfl (aa rfl)) <| zS rfl (aE aq rfl rfl) <| zS rfl (iG rfl rfl (by decide)) <| zS rfl (fT rfl rfl) <| ai <| aF rfl (fun c19 => ?_) (fun c19 => ?_)
 ·replace H := bf c19 H;refine ah <| ac ?_;show AR _ _ _ _ _ [0] _;refine za rfl <| ai <| aU ?_;obtain ⟨rfl, rfl, rfl⟩ := gO H;exact And.intro rfl (Exists.intro _ (Exists.intro _ ⟨aW rfl (.refl _), aI [0, 0] rfl, rfl, t9, rfl⟩))
 ·replace H := aZ c19 H;refine aL <| ah ?_;obtain ⟨x20, x21, e22, H⟩ := dJ H;refine ac ?_;show AR _ _ _ _ _ [0, 1, 2, 3, 4, 5, 6, 7] _;refine zS rfl (ak (av := .pt _ _) rfl) <| zS rfl (ak (av := .pt _ _) rfl) <| zS rfl (am rfl) <| zS rfl (ag (n := 0) (by kernel_rfl) rfl) <| zS rfl (ag (n := 3) (by kernel_rfl) rfl) <| zR rfl (al (i := 0) aj rfl rfl rfl rfl) <| zR rfl (cJ (E := Enc.str) (bytes := 16) (xs := [.const _, .tmp 14, .const _]) (l := ([([82, 67, 80, 84, 32, 84, 79, 58, 60] : List UInt8), a5, ([62] : List UInt8)] : List (List UInt8))) ax (by kernel_rfl) rfl rfl (by decide) rfl rfl) <| an rfl rfl (cf [0, 0] rfl iC rfl (iw F o1 a2 a3 a4 a5 a6 a7 a8 t9 3 ([([82, 67, 80, 84, 32, 84, 79, 58, 60] : List UInt8), a5, ([62] : List UInt8)] : List (List UInt8)) none x20 x21 e22) rfl (fun c A' h => by cases h.1) ?_)
  rintro av A' ⟨h, t23, rfl⟩; cases h
  refine ai <| ah <| ac ?_;show AR _ _ _ _ _ [0] _;refine za rfl <| ai <| aU ?_;obtain ⟨rfl, rfl, rfl⟩ := gO H;exact And.intro rfl (Exists.intro _ (Exists.intro _ ⟨aW rfl (.refl _), aI [0, 0] rfl, rfl, t23, rfl⟩))
set_option maxRecDepth 100000 in
set_option maxHeartbeats 1000000 in
theorem nB (F : Nat) (o1 : Nat) (a2 : Int) (a3 : Int) (a4 : List UInt8) (a5 : List UInt8) (a6 : List UInt8) (a7 : List UInt8) (a8 : List UInt8) (t9 : Nat) (a10 : Int) (a11 : List (List UInt8)) (a12 : Int) (a13 : Int) (a14 : Int) (r15 : Bool) (r16 : Int) (r17 : List UInt8) (H : li F a2 a3 a4 a5 a6 a7 a8 a10 a11 a12 a13 a14 = some (r15, r16, r17)) : ACalls Tryz.prog 83 [.pt o1 0, .agg [i64 a10, slE Enc.str a11 none, i64 a12, i64 a13, i64 a14]] [.obj o1 [i64 a2, i64 a3, S a4, S a5, S a6, slE Enc.byte a7 none, slE Enc.byte a8 (some t9)], .tok t9 5] (fun e A' => e = .ret (B r15) ∧ ∃ t18, A' = [.obj o1 [i64 r16, i64 a3, S a4, S a5, S a6, slE Enc.byte a7 none, slE Enc.byte r17 (some t18)], .tok t18 5]) := by
 unfold li at H
 refine az Tryz.func83 rfl rfl ?_;show AW _ _ 12 _ _ _;refine ah <| ac ?_;show AR _ _ _ _ _ [0, 1] _;refine zR rfl (ce rfl (.inr ⟨_, rfl⟩)) <| za rfl <| ai <| ah <| ah <| ac ?_;show AR _ _ _ _ _ [0, 1, 2, 3] _;refine zS rfl (aH (n := 0) (by kernel_rfl) rfl (aa rfl)) <| zS rfl (aE aq rfl rfl) <| zS rfl (iG rfl rfl (by decide)) <| zS rfl (fT rfl rfl) <| ai <| aF rfl (fun c19 => ?_) (fun c19 => ?_)
 ·replace H := bf c19 H;refine ah <| ac ?_;show AR _ _ _ _ _ [0] _;refine za rfl <| ai <| aU ?_;obtain ⟨rfl, rfl, rfl⟩ := gO H;exact And.intro rfl (Exists.intro _ (Exists.intro _ ⟨aW rfl (.refl _), aI [0, 0] rfl, rfl, t9, rfl⟩))
 ·replace H := aZ c19 H;refine aL <| ah ?_;obtain ⟨x20, x21, e22, H⟩ := dJ H;refine ac ?_;show AR _ _ _ _ _ [0, 1, 2] _;refine zS rfl (ak (av := .pt _ _) rfl) <| zR rfl (cJ (E := Enc.str) (bytes := 16) (xs := [.const _]) (l := ([([68, 65, 84, 65] : List UInt8)] : List (List UInt8))) ax (by kernel_rfl) rfl rfl (by decide) rfl rfl) <| an rfl rfl (cf [0, 0] rfl iC rfl (iw F o1 a2 a3 a4 a5 a6 a7 a8 t9 4 ([([68, 65, 84, 65] : List UInt8)] : List (List UInt8)) none x20 x21 e22) rfl (fun c A' h => by cases h.1) ?_)
  rintro av A' ⟨h, t23, rfl⟩; cases h
  refine ai <| ah <| ac ?_;show AR _ _ _ _ _ [0] _;refine za rfl <| ai <| aU ?_;obtain ⟨rfl, rfl, rfl⟩ := gO H;exact And.intro rfl (Exists.intro _ (Exists.intro _ ⟨aW rfl (.refl _), aI [0, 0] rfl, rfl, t23, rfl⟩))
set_option maxRecDepth 100000 in
set_option maxHeartbeats 1000000 in
theorem nE (F : Nat) (o1 : Nat) (a2 : Int) (a3 : Int) (a4 : List UInt8) (a5 : List UInt8) (a6 : List UInt8) (a7 : List UInt8) (a8 : List UInt8) (t9 : Nat) (a10 : Int) (a11 : List (List UInt8)) (a12 : Int) (a13 : Int) (a14 : Int) (r15 : Bool) (r16 : Int) (r17 : List UInt8) (H : ll F a2 a3 a4 a5 a6 a7 a8 a10 a11 a12 a13 a14 = some (r15, r16, r17)) : ACalls Tryz.prog 84 [.pt o1 0, .agg [i64 a10, slE Enc.str a11 none, i64 a12, i64 a13, i64 a14]] [.obj o1 [i64 a2, i64 a3, S a4, S a5, S a6, slE Enc.byte a7 none, slE Enc.byte a8 (some t9)], .tok t9 5] (fun e A' => e = .ret (B r15) ∧ ∃ t18, A' = [.obj o1 [i64 r16, i64 a3, S a4, S a5, S a6, slE Enc.byte a7 none, slE Enc.byte r17 (some t18)], .tok t18 5]) := by
 unfold ll at H
 refine az Tryz.func84 rfl rfl ?_;show AW _ _ 32 _ _ _;refine ah <| ac ?_;show AR _ _ _ _ _ [0, 1] _;refine zR rfl (ce rfl (.inr ⟨_, rfl⟩)) <| za rfl <| ai <| ah <| ah <| ac ?_;show AR _ _ _ _ _ [0, 1, 2] _;refine zS rfl (aH (n := 0) (by kernel_rfl) rfl (aa rfl)) <| zS rfl (aE aq rfl rfl) <| zS rfl (fT rfl rfl) <| ai <| aF rfl (fun c19 => ?_) (fun c19 => ?_)
 ·replace H := bf c19 H;refine ah <| ac ?_;show AR _ _ _ _ _ [0] _;refine za rfl <| ai <| aU ?_;obtain ⟨rfl, rfl, rfl⟩ := gO H;exact And.intro rfl (Exists.intro _ (Exists.intro _ ⟨aW rfl (.refl _), aI [0, 0] rfl, rfl, t9, rfl⟩))
 ·replace H := aZ c19 H;refine aL <| ah ?_;obtain ⟨x20, x21, e22, H⟩ := dJ H;refine ac ?_;show AR _ _ _ _ _ [0, 1, 2, 3, 4, 5, 6, 7, 8, 9, 10] _;refine zS rfl (ak (av := .pt _ _) rfl) <| zS rfl (am rfl) <| zS rfl (ag (n := 0) (by kernel_rfl) rfl) <| zS rfl (ag (n := 5) (by kernel_rfl) rfl) <| zR rfl (al (i := 0) ab rfl rfl rfl rfl) <| an rfl rfl (aV rfl ot rfl (lP F a7 none x20 x21 e22) ?_);refine zS rfl (ak (av := .tup _) rfl) <| zS rfl (aM (av := slE _ _ _) rfl rfl) <| zS rfl (aM (av := .v _) rfl rfl) <| zS rfl (aA (av := slE _ _ _) rfl) <| za rfl <| ai <| ah ?_;obtain ⟨g24, H⟩ := ba H;obtain ⟨x25, e26, H⟩ := cd H;refine ac ?_;show AR _ _ _ _ _ [0, 1, 2, 3, 4, 5, 6, 7, 8, 9, 10, 11, 12, 13, 14] _;refine zS rfl (ak (av := .pt _ _) rfl) <| zS rfl (ak (av := .pt _ _) rfl) <| zS rfl (ak (av := .pt _ _) rfl) <| zS rfl (am rfl) <| zS rfl (ag (n := 6) (by kernel_rfl) rfl) <| zR rfl (al (i := 0) ab rfl rfl rfl rfl) <| zS rfl (ak (av := slE _ _ _) rfl) <| zX rfl (dS (E := Enc.byte) (bytes := 1) 1 ab ab rfl (by kernel_rfl) rfl rfl rfl rfl g24 e26) ?_;rintro _ _ ⟨t23, rfl, rfl⟩
  refine zS rfl (am rfl) <| zS rfl (ag (n := 0) (by kernel_rfl) rfl) <| zS rfl (ag (n := 0) (by kernel_rfl) rfl) <| s0 rfl rfl (ar (i := 0) (c := .v _) (by kernel_rfl) rfl rfl rfl rfl (aa rfl)) <| zS rfl (am rfl) <| zS rfl (ag (n := 6) (by kernel_rfl) rfl) <| s0 rfl rfl (ar (i := 0) (c := slE _ _ _) (by kernel_rfl) rfl rfl rfl rfl (aa rfl)) <| ai <| ah <| ac ?_;show AR _ _ _ _ _ [0] _;refine za rfl <| ai <| aU ?_;obtain ⟨rfl, rfl, rfl⟩ := gO H;exact And.intro rfl (Exists.intro _ (Exists.intro _ ⟨aW rfl (.refl _), aI [0, 0] rfl, rfl, t23, rfl⟩))
set_option maxRecDepth 100000 in
set_option maxHeartbeats 1000000 in
theorem nF (F : Nat) (o1 : Nat) (a2 : Int) (a3 : Int) (a4 : List UInt8) (a5 : List UInt8) (a6 : List UInt8) (a7 : List UInt8) (a8 : List UInt8) (t9 : Nat) (a10 : Int) (a11 : List (List UInt8)) (a12 : Int) (a13 : Int) (a14 : Int) (r15 : Bool) (r16 : Int) (r17 : Int) (r18 : List UInt8) (H : lm F a2 a3 a4 a5 a6 a7 a8 a10 a11 a12 a13 a14 = some (r15, r16, r17, r18)) : ACalls Tryz.prog 85 [.pt o1 0, .agg [i64 a10, slE Enc.str a11 none, i64 a12, i64 a13, i64 a14]] [.obj o1 [i64 a2, i64 a3, S a4, S a5, S a6, slE Enc.byte a7 none, slE Enc.byte a8 (some t9)], .tok t9 5] (fun e A' => e = .ret (B r15) ∧ ∃ t19, A' = [.obj o1 [i64 r16, i64 r17, S a4, S a5, S a6, slE Enc.byte a7 none, slE Enc.byte r18 (some t19)], .tok t19 5]) := by
 unfold lm at H
 refine az Tryz.func85 rfl rfl ?_;show AW _ _ 11 _ _ _;refine ah <| ac ?_;show AR _ _ _ _ _ [0, 1] _;refine zR rfl (ce rfl (.inr ⟨_, rfl⟩)) <| za rfl <| ai <| ah <| ah <| ac ?_;show AR _ _ _ _ _ [0, 1, 2, 3] _;refine zS rfl (aH (n := 0) (by kernel_rfl) rfl (aa rfl)) <| zS rfl (aE aq rfl rfl) <| zS rfl (iG rfl rfl (by decide)) <| zS rfl (fT rfl rfl) <| ai <| aF rfl (fun c20 => ?_) (fun c20 => ?_)
 ·replace H := bf c20 H;refine ah <| ac ?_;show AR _ _ _ _ _ [0] _;refine za rfl <| ai <| aU ?_;obtain ⟨rfl, rfl, rfl, rfl⟩ := res4 H;exact And.intro rfl (Exists.intro _ (Exists.intro _ ⟨aW rfl (.refl _), aI [0, 0] rfl, rfl, t9, rfl⟩))
 ·replace H := aZ c20 H;refine aL <| ah ?_;obtain ⟨x21, x22, x23, e24, H⟩ := fW H;refine ac ?_;show AR _ _ _ _ _ [0, 1] _;refine zS rfl (ak (av := .pt _ _) rfl) <| an rfl rfl (cf [0, 0] rfl jD rfl (jz F o1 a2 a3 a4 a5 a6 a7 a8 t9 1 x21 x22 x23 e24) rfl (fun c A' h => by cases h.1) ?_)
  rintro av A' ⟨h, t25, rfl⟩; cases h
  refine ai <| ah <| ac ?_;show AR _ _ _ _ _ [0] _;refine za rfl <| ai <| aU ?_;obtain ⟨rfl, rfl, rfl, rfl⟩ := res4 H;exact And.intro rfl (Exists.intro _ (Exists.intro _ ⟨aW rfl (.refl _), aI [0, 0] rfl, rfl, t25, rfl⟩))
set_option maxRecDepth 100000 in
set_option maxHeartbeats 1000000 in
theorem nC (F : Nat) (o1 : Nat) (a2 : Int) (a3 : Int) (a4 : List UInt8) (a5 : List UInt8) (a6 : List UInt8) (a7 : List UInt8) (a8 : List UInt8) (t9 : Nat) (a10 : Int) (a11 : List (List UInt8)) (a12 : Int) (a13 : Int) (a14 : Int) (r15 : Bool) (r16 : Int) (H : my F a2 a3 a4 a5 a6 a7 a8 a10 a11 a12 a13 a14 = some (r15, r16)) : ACalls Tryz.prog 86 [.pt o1 0, .agg [i64 a10, slE Enc.str a11 none, i64 a12, i64 a13, i64 a14]] [.obj o1 [i64 a2, i64 a3, S a4, S a5, S a6, slE Enc.byte a7 none, slE Enc.byte a8 (some t9)], .tok t9 5] (fun e A' => e = .ret (B r15) ∧ A' = [.obj o1 [i64 r16, i64 a3, S a4, S a5, S a6, slE Enc.byte a7 none, slE Enc.byte a8 (some t9)], .tok t9 5]) := by
 unfold my at H
 refine az Tryz.func86 rfl rfl ?_;show AW _ _ 9 _ _ _;refine ah <| ac ?_;show AR _ _ _ _ _ [0, 1] _;refine zR rfl (ce rfl (.inr ⟨_, rfl⟩)) <| za rfl <| ai <| ah <| ac ?_;show AR _ _ _ _ _ [0, 1, 2, 3, 4] _;refine zS rfl (ak (av := .pt _ _) rfl) <| zS rfl (am rfl) <| zS rfl (ag (n := 0) (by kernel_rfl) rfl) <| zS rfl (ag (n := 0) (by kernel_rfl) rfl) <| s0 rfl rfl (ar (i := 0) (c := .v _) (by kernel_rfl) rfl rfl rfl rfl (aa rfl)) <| ai <| ah <| ac ?_;show AR _ _ _ _ _ [0] _;refine za rfl <| ai <| aU ?_;obtain ⟨rfl, rfl⟩ := fY H;exact And.intro rfl (Exists.intro _ (Exists.intro _ ⟨aW rfl (.refl _), aI [0, 0] rfl, rfl, rfl⟩))
abbrev _root_.Go.Av.bt := @Tryz.underlying92
set_option maxRecDepth 100000 in
set_option maxHeartbeats 1000000 in
theorem cx (F : Nat) (H : eC F = some ()) : ACalls Tryz.prog 57 [] [] (Ret (.agg [.v (.func (.func 80) #[] #[]), .v (.func (.func 81) #[] #[]), .v (.func (.func 82) #[] #[]), .v (.func (.func 83) #[] #[]), .v (.func (.func 84) #[] #[]), .v (.func (.func 85) #[] #[]), .v (.func (.func 86) #[] #[])]) []) := by
 unfold eC at H
 refine az Tryz.func57 rfl rfl ?_;show AW _ _ 2 _ _ _;refine ah <| ac ?_;show AR _ _ _ _ _ [0] _;refine zX rfl (bH (zs := [.nilFunc, .nilFunc, .nilFunc, .nilFunc, .nilFunc, .nilFunc, .nilFunc]) (by kernel_rfl)) ?_;rintro _ _ ⟨o1, rfl, rfl⟩;refine ai <| ah <| ac ?_;show AR _ _ _ _ _ [0, 1] _;refine zS rfl (qs (zs := [.nilFunc, .nilFunc, .nilFunc, .nilFunc, .nilFunc, .nilFunc, .nilFunc]) (k := 1) (cs := [.v (.func (.func 80) #[] #[]), .v (.func (.func 81) #[] #[]), .v (.func (.func 82) #[] #[]), .v (.func (.func 83) #[] #[]), .v (.func (.func 84) #[] #[]), .v (.func (.func 85) #[] #[]), .v (.func (.func 86) #[] #[])]) bt (by kernel_rfl) (by kernel_rfl) rfl rfl (by kernel_rfl)) <| s0 rfl rfl (aQ (i := 0) (vs := [.v (.func (.func 80) #[] #[]), .v (.func (.func 81) #[] #[]), .v (.func (.func 82) #[] #[]), .v (.func (.func 83) #[] #[]), .v (.func (.func 84) #[] #[]), .v (.func (.func 85) #[] #[]), .v (.func (.func 86) #[] #[])]) (by kernel_rfl) rfl rfl (by simp [bo, slE]) rfl (aa rfl)) <| ai <| aU ?_;exact And.intro rfl (Exists.intro _ (Exists.intro _ ⟨bR (dD rfl (bV (off := 0) (cs := [.v (.func (.func 80) #[] #[]), .v (.func (.func 81) #[] #[]), .v (.func (.func 82) #[] #[]), .v (.func (.func 83) #[] #[]), .v (.func (.func 84) #[] #[]), .v (.func (.func 85) #[] #[]), .v (.func (.func 86) #[] #[])]) (n := 7) 0 bt rfl (by kernel_rfl) rfl rfl (aa rfl))), aI [] rfl, rfl, rfl⟩))
abbrev _root_.Go.Av.bB := @Tryz.underlying91
set_option maxRecDepth 100000 in
set_option maxHeartbeats 1000000 in
theorem nA (F : Nat) (o1 : Nat) (a2 : Int) (a3 : Int) (a4 : List UInt8) (a5 : List UInt8) (a6 : List UInt8) (a7 : List UInt8) (a8 : List UInt8) (t9 : Nat) (a10 : Int) (a11 : List (List UInt8)) (a12 : Int) (a13 : Int) (a14 : Int) (r15 : Int) (r16 : Int) (r17 : List UInt8) (H : jQ F a2 a3 a4 a5 a6 a7 a8 a10 a11 a12 a13 a14 = some (r15, r16, r17)) : ACalls Tryz.prog 37 [.pt o1 0, .agg [i64 a10, slE Enc.str a11 none, i64 a12, i64 a13, i64 a14]] [.obj o1 [i64 a2, i64 a3, S a4, S a5, S a6, slE Enc.byte a7 none, slE Enc.byte a8 (some t9)], .tok t9 5] (fun e A' => e = .ret (.tup []) ∧ ∃ t18, A' = [.obj o1 [i64 r15, i64 r16, S a4, S a5, S a6, slE Enc.byte a7 none, slE Enc.byte r17 (some t18)], .tok t18 5]) := by
 unfold jQ at H
 refine az Tryz.func37 rfl rfl ?_;show AW _ _ 49 _ _ _;refine ah <| ac ?_;show AR _ _ _ _ _ [0] _;refine zR rfl (ce rfl (.inr ⟨_, rfl⟩)) <| ai <| bh <| ah <| ac ?_;show AR _ _ _ _ _ [0, 1, 2, 3, 4, 5, 6, 7, 8, 9, 10, 11, 12, 13, 14] _;refine zS rfl (ak (av := .pt _ _) rfl) <| zS rfl (am rfl) <| zS rfl (ag (n := 0) (by kernel_rfl) rfl) <| zS rfl (ag (n := 0) (by kernel_rfl) rfl) <| zR rfl (al (i := 0) aq rfl rfl rfl rfl) <| zS rfl (cc rfl rfl) <| zm rfl <| aP (l := [14]) 20 (B ((decide (a2 < 0)) || (decide (7 ≤ a2)))) (fun K => ?_) ?_
 ·rcases af (decide (a2 < 0)) with h19 | h19
  ·refine zF h19 rfl <| zF h19 rfl <| zF h19 rfl <| zF h19 rfl <| zF h19 rfl <| zF h19 rfl <| zS rfl (ay (av := .v _) rfl h19 rfl) ?_;exact K _ 6 _ (ap (fZ h19)) rfl rfl
  ·refine zU h19 rfl (ak (av := .pt _ _) rfl) <| zU h19 rfl (am rfl) <| zU h19 rfl (ag (n := 0) (by kernel_rfl) rfl) <| zU h19 rfl (ag (n := 0) (by kernel_rfl) rfl) <| zT h19 rfl (bJ rfl rfl (al (i := 0) aq rfl rfl rfl rfl) ?_);refine zU h19 rfl (dQ rfl rfl) <| zS rfl (aw (av := .v _) rfl h19 rfl) ?_;exact K _ 6 _ (ap (gb h19)) rfl rfl
 refine za rfl <| ai <| aF rfl (fun c20 => ?_) (fun c20 => ?_)
 ·replace H := bf c20 H;refine aL ?_;obtain ⟨rfl, rfl, rfl⟩ := gO H;exact And.intro rfl (Exists.intro _ (Exists.intro _ ⟨bg rfl, aI [0, 0] rfl, rfl, t9, rfl⟩))
 ·replace H := aZ c20 H;refine ah <| ac ?_;show AR _ _ _ _ _ [0, 1, 2, 3] _;refine zS rfl (aH (n := 0) (by kernel_rfl) rfl (aa rfl)) <| zS rfl (aE aq rfl rfl) <| zS rfl (bw rfl rfl) <| za rfl <| ai <| aF rfl (fun c21 => ?_) (fun c21 => ?_)
  ·replace H := bf c21 H;obtain ⟨x22, x23, e24, H⟩ := dJ H;refine ac ?_;show AR _ _ _ _ _ [0, 1] _;refine zS rfl (ak (av := .pt _ _) rfl) <| an rfl rfl (cf [0, 0] rfl lH rfl (lC F o1 a2 a3 a4 a5 a6 a7 a8 t9 x22 x23 e24) rfl (fun c A' h => by cases h.1) ?_)
   rintro av A' ⟨h, rfl⟩; cases h
   refine ai ?_;obtain ⟨rfl, rfl, rfl⟩ := gO H;exact And.intro rfl (Exists.intro _ (Exists.intro _ ⟨bg rfl, aI [0, 0] rfl, rfl, t9, rfl⟩))
  ·replace H := aZ c21 H;refine bX (X := Bool × Int × Int × (List UInt8) × Nat) (fun (y74, y75, y76, y77, t78) => ⟨[(0, .pt o1 0), (3, .cp [i64 a10, slE Enc.str a11 none, i64 a12, i64 a13, i64 a14]), (27, B y74)], [], [.obj o1 [i64 y75, i64 y76, S a4, S a5, S a6, slE Enc.byte a7 none, slE Enc.byte y77 (some t78)], .tok t78 5]⟩) (fun (y74, y75, y76, y77, t78) => cK F a4 a5 a6 a7 a10 y74 y75 y76 y77 = some (r15, r16, r17)) ?_ ?_
   ·obtain ⟨g25, H⟩ := ba H
    rcases idx7 g25 with rfl | rfl | rfl | rfl | rfl | rfl | rfl
    ·replace H := bf (by decide) H;obtain ⟨_, e26, H⟩ := cH H;obtain ⟨x27, x28, x29, e30, H⟩ := fW H;refine br (by kernel_rfl) ?_;show AI _ _ _ _ _ 11 (Array.replicate 11 false) _;refine zk 1 rfl (ak (av := .pt _ _) rfl) ?_;show AI _ _ _ _ _ _ #[false, true, false, false, false, false, false, false, false, false, false] _;refine zk 2 rfl (am rfl) ?_;show AI _ _ _ _ _ _ #[false, true, true, false, false, false, false, false, false, false, false] _;refine zk 3 rfl (ag (n := 0) (by kernel_rfl) rfl) ?_;show AI _ _ _ _ _ _ #[false, true, true, true, false, false, false, false, false, false, false] _;refine zk 4 rfl (ag (n := 0) (by kernel_rfl) rfl) ?_;show AI _ _ _ _ _ _ #[false, true, true, true, true, false, false, false, false, false, false] _;refine zk 7 rfl (ak (av := .pt _ _) rfl) ?_;show AI _ _ _ _ _ _ #[false, true, true, true, true, false, false, true, false, false, false] _;refine zk 8 rfl (aR be rfl (n := 5) (by kernel_rfl) rfl (aa rfl)) ?_;show AI _ _ _ _ _ _ #[false, true, true, true, true, false, false, true, true, false, false] _;refine cB (i := 0) (j := 5) (by kernel_rfl) rfl rfl rfl rfl ?_ ?_
     ·refine bM rfl de rfl (cx F e26) ?_;show AI _ _ _ _ _ _ #[true, true, true, true, true, false, false, true, true, false, false] _;refine aK (i := 5) (by kernel_rfl) rfl rfl <| aN rfl (al (i := 0) aq rfl rfl rfl rfl) ?_;show AI _ _ _ _ _ _ #[true, true, true, true, true, true, false, true, true, false, false] _;refine zk 6 rfl (ca (i := 0) (k := 1) (c := .v _) bt bB rfl (by kernel_rfl) rfl rfl rfl rfl) ?_;show AI _ _ _ _ _ _ #[true, true, true, true, true, true, true, true, true, false, false] _;refine aK (i := 9) (by kernel_rfl) rfl rfl <| cy [0, 0] rfl (.inr ⟨rfl, rfl, rfl⟩) oc rfl (mI F o1 0 a3 a4 a5 a6 a7 a8 t9 a10 a11 a12 a13 a14 x27 x28 x29 e30) rfl (fun c A' h => by cases h.1) ?_
      rintro av A' ⟨h, t31, rfl⟩; cases h
      show AI _ _ _ _ _ _ #[true, true, true, true, true, true, true, true, true, true, false] _;refine zk 10 rfl (asg rfl) ?_;show AI _ _ _ _ _ _ #[true, true, true, true, true, true, true, true, true, true, true] _;refine bi rfl ?_;exact Exists.intro (x27, x28, a3, x29, t31) ⟨H, bc [0, 0] (.cons (.refl _) (.cons (.refl _) (.cons (.refl _) (.nil _)))) rfl⟩
     ·refine aN rfl (al (i := 0) aq rfl rfl rfl rfl) ?_;show AI _ _ _ _ _ _ #[false, true, true, true, true, true, false, true, true, false, false] _;refine aK (i := 0) (by kernel_rfl) rfl rfl <| bM rfl de rfl (cx F e26) ?_;show AI _ _ _ _ _ _ #[true, true, true, true, true, true, false, true, true, false, false] _;refine zk 6 rfl (ca (i := 0) (k := 1) (c := .v _) bt bB rfl (by kernel_rfl) rfl rfl rfl rfl) ?_;show AI _ _ _ _ _ _ #[true, true, true, true, true, true, true, true, true, false, false] _;refine aK (i := 9) (by kernel_rfl) rfl rfl <| cy [0, 0] rfl (.inr ⟨rfl, rfl, rfl⟩) oc rfl (mI F o1 0 a3 a4 a5 a6 a7 a8 t9 a10 a11 a12 a13 a14 x27 x28 x29 e30) rfl (fun c A' h => by cases h.1) ?_
      rintro av A' ⟨h, t32, rfl⟩; cases h
      show AI _ _ _ _ _ _ #[true, true, true, true, true, true, true, true, true, true, false] _;refine zk 10 rfl (asg rfl) ?_;show AI _ _ _ _ _ _ #[true, true, true, true, true, true, true, true, true, true, true] _;refine bi rfl ?_;exact Exists.intro (x27, x28, a3, x29, t32) ⟨H, bc [0, 0] (.cons (.refl _) (.cons (.refl _) (.cons (.refl _) (.nil _)))) rfl⟩
    ·replace H := aZ (by decide) H;replace H := bf (by decide) H;obtain ⟨_, e33, H⟩ := cH H;obtain ⟨x34, x35, x36, x37, e38, H⟩ := bnd4_s H;refine br (by kernel_rfl) ?_;show AI _ _ _ _ _ 11 (Array.replicate 11 false) _;refine zk 1 rfl (ak (av := .pt _ _) rfl) ?_;show AI _ _ _ _ _ _ #[false, true, false, false, false, false, false, false, false, false, false] _;refine zk 2 rfl (am rfl) ?_;show AI _ _ _ _ _ _ #[false, true, true, false, false, false, false, false, false, false, false] _;refine zk 3 rfl (ag (n := 0) (by kernel_rfl) rfl) ?_;show AI _ _ _ _ _ _ #[false, true, true, true, false, false, false, false, false, false, false] _;refine zk 4 rfl (ag (n := 0) (by kernel_rfl) rfl) ?_;show AI _ _ _ _ _ _ #[false, true, true, true, true, false, false, false, false, false, false] _;refine zk 7 rfl (ak (av := .pt _ _) rfl) ?_;show AI _ _ _ _ _ _ #[false, true, true, true, true, false, false, true, false, false, false] _;refine zk 8 rfl (aR be rfl (n := 5) (by kernel_rfl) rfl (aa rfl)) ?_;show AI _ _ _ _ _ _ #[false, true, true, true, true, false, false, true, true, false, false] _;refine cB (i := 0) (j := 5) (by kernel_rfl) rfl rfl rfl rfl ?_ ?_
     ·refine bM rfl de rfl (cx F e33) ?_;show AI _ _ _ _ _ _ #[true, true, true, true, true, false, false, true, true, false, false] _;refine aK (i := 5) (by kernel_rfl) rfl rfl <| aN rfl (al (i := 0) aq rfl rfl rfl rfl) ?_;show AI _ _ _ _ _ _ #[true, true, true, true, true, true, false, true, true, false, false] _;refine zk 6 rfl (ca (i := 1) (k := 1) (c := .v _) bt bB rfl (by kernel_rfl) rfl rfl rfl rfl) ?_;show AI _ _ _ _ _ _ #[true, true, true, true, true, true, true, true, true, false, false] _;refine aK (i := 9) (by kernel_rfl) rfl rfl <| cy [0, 0] rfl (.inr ⟨rfl, rfl, rfl⟩) oa rfl (mH F o1 1 a3 a4 a5 a6 a7 a8 t9 a10 a11 a12 a13 a14 x34 x35 x36 x37 e38) rfl (fun c A' h => by cases h.1) ?_
      rintro av A' ⟨h, t39, rfl⟩; cases h
      show AI _ _ _ _ _ _ #[true, true, true, true, true, true, true, true, true, true, false] _;refine zk 10 rfl (asg rfl) ?_;show AI _ _ _ _ _ _ #[true, true, true, true, true, true, true, true, true, true, true] _;refine bi rfl ?_;exact Exists.intro (x34, x35, x36, x37, t39) ⟨H, bc [0, 0] (.cons (.refl _) (.cons (.refl _) (.cons (.refl _) (.nil _)))) rfl⟩
     ·refine aN rfl (al (i := 0) aq rfl rfl rfl rfl) ?_;show AI _ _ _ _ _ _ #[false, true, true, true, true, true, false, true, true, false, false] _;refine aK (i := 0) (by kernel_rfl) rfl rfl <| bM rfl de rfl (cx F e33) ?_;show AI _ _ _ _ _ _ #[true, true, true, true, true, true, false, true, true, false, false] _;refine zk 6 rfl (ca (i := 1) (k := 1) (c := .v _) bt bB rfl (by kernel_rfl) rfl rfl rfl rfl) ?_;show AI _ _ _ _ _ _ #[true, true, true, true, true, true, true, true, true, false, false] _;refine aK (i := 9) (by kernel_rfl) rfl rfl <| cy [0, 0] rfl (.inr ⟨rfl, rfl, rfl⟩) oa rfl (mH F o1 1 a3 a4 a5 a6 a7 a8 t9 a10 a11 a12 a13 a14 x34 x35 x36 x37 e38) rfl (fun c A' h => by cases h.1) ?_
      rintro av A' ⟨h, t40, rfl⟩; cases h
      show AI _ _ _ _ _ _ #[true, true, true, true, true, true, true, true, true, true, false] _;refine zk 10 rfl (asg rfl) ?_;show AI _ _ _ _ _ _ #[true, true, true, true, true, true, true, true, true, true, true] _;refine bi rfl ?_;exact Exists.intro (x34, x35, x36, x37, t40) ⟨H, bc [0, 0] (.cons (.refl _) (.cons (.refl _) (.cons (.refl _) (.nil _)))) rfl⟩
    ·replace H := aZ (by decide) H;replace H := aZ (by decide) H;replace H := bf (by decide) H;obtain ⟨_, e41, H⟩ := cH H;obtain ⟨x42, x43, x44, e45, H⟩ := fW H;refine br (by kernel_rfl) ?_;show AI _ _ _ _ _ 11 (Array.replicate 11 false) _;refine zk 1 rfl (ak (av := .pt _ _) rfl) ?_;show AI _ _ _ _ _ _ #[false, true, false, false, false, false, false, false, false, false, false] _;refine zk 2 rfl (am rfl) ?_;show AI _ _ _ _ _ _ #[false, true, true, false, false, false, false, false, false, false, false] _;refine zk 3 rfl (ag (n := 0) (by kernel_rfl) rfl) ?_;show AI _ _ _ _ _ _ #[false, true, true, true, false, false, false, false, false, false, false] _;refine zk 4 rfl (ag (n := 0) (by kernel_rfl) rfl) ?_;show AI _ _ _ _ _ _ #[false, true, true, true, true, false, false, false, false, false, false] _;refine zk 7 rfl (ak (av := .pt _ _) rfl) ?_;show AI _ _ _ _ _ _ #[false, true, true, true, true, false, false, true, false, false, false] _;refine zk 8 rfl (aR be rfl (n := 5) (by kernel_rfl) rfl (aa rfl)) ?_;show AI _ _ _ _ _ _ #[false, true, true, true, true, false, false, true, true, false, false] _;refine cB (i := 0) (j := 5) (by kernel_rfl) rfl rfl rfl rfl ?_ ?_
     ·refine bM rfl de rfl (cx F e41) ?_;show AI _ _ _ _ _ _ #[true, true, true, true, true, false, false, true, true, false, false] _;refine aK (i := 5) (by kernel_rfl) rfl rfl <| aN rfl (al (i := 0) aq rfl rfl rfl rfl) ?_;show AI _ _ _ _ _ _ #[true, true, true, true, true, true, false, true, true, false, false] _;refine zk 6 rfl (ca (i := 2) (k := 1) (c := .v _) bt bB rfl (by kernel_rfl) rfl rfl rfl rfl) ?_;show AI _ _ _ _ _ _ #[true, true, true, true, true, true, true, true, true, false, false] _;refine aK (i := 9) (by kernel_rfl) rfl rfl <| cy [0, 0] rfl (.inr ⟨rfl, rfl, rfl⟩) nZ rfl (nD F o1 2 a3 a4 a5 a6 a7 a8 t9 a10 a11 a12 a13 a14 x42 x43 x44 e45) rfl (fun c A' h => by cases h.1) ?_
      rintro av A' ⟨h, t46, rfl⟩; cases h
      show AI _ _ _ _ _ _ #[true, true, true, true, true, true, true, true, true, true, false] _;refine zk 10 rfl (asg rfl) ?_;show AI _ _ _ _ _ _ #[true, true, true, true, true, true, true, true, true, true, true] _;refine bi rfl ?_;exact Exists.intro (x42, x43, a3, x44, t46) ⟨H, bc [0, 0] (.cons (.refl _) (.cons (.refl _) (.cons (.refl _) (.nil _)))) rfl⟩
     ·refine aN rfl (al (i := 0) aq rfl rfl rfl rfl) ?_;show AI _ _ _ _ _ _ #[false, true, true, true, true, true, false, true, true, false, false] _;refine aK (i := 0) (by kernel_rfl) rfl rfl <| bM rfl de rfl (cx F e41) ?_;show AI _ _ _ _ _ _ #[true, true, true, true, true, true, false, true, true, false, false] _;refine zk 6 rfl (ca (i := 2) (k := 1) (c := .v _) bt bB rfl (by kernel_rfl) rfl rfl rfl rfl) ?_;show AI _ _ _ _ _ _ #[true, true, true, true, true, true, true, true, true, false, false] _;refine aK (i := 9) (by kernel_rfl) rfl rfl <| cy [0, 0] rfl (.inr ⟨rfl, rfl, rfl⟩) nZ rfl (nD F o1 2 a3 a4 a5 a6 a7 a8 t9 a10 a11 a12 a13 a14 x42 x43 x44 e45) rfl (fun c A' h => by cases h.1) ?_
      rintro av A' ⟨h, t47, rfl⟩; cases h
      show AI _ _ _ _ _ _ #[true, true, true, true, true, true, true, true, true, true, false] _;refine zk 10 rfl (asg rfl) ?_;show AI _ _ _ _ _ _ #[true, true, true, true, true, true, true, true, true, true, true] _;refine bi rfl ?_;exact Exists.intro (x42, x43, a3, x44, t47) ⟨H, bc [0, 0] (.cons (.refl _) (.cons (.refl _) (.cons (.refl _) (.nil _)))) rfl⟩
    ·replace H := aZ (by decide) H;replace H := aZ (by decide) H;replace H := aZ (by decide) H;replace H := bf (by decide) H;obtain ⟨_, e48, H⟩ := cH H;obtain ⟨x49, x50, x51, e52, H⟩ := fW H;refine br (by kernel_rfl) ?_;show AI _ _ _ _ _ 11 (Array.replicate 11 false) _;refine zk 1 rfl (ak (av := .pt _ _) rfl) ?_;show AI _ _ _ _ _ _ #[false, true, false, false, false, false, false, false, false, false, false] _;refine zk 2 rfl (am rfl) ?_;show AI _ _ _ _ _ _ #[false, true, true, false, false, false, false, false, false, false, false] _;refine zk 3 rfl (ag (n := 0) (by kernel_rfl) rfl) ?_;show AI _ _ _ _ _ _ #[false, true, true, true, false, false, false, false, false, false, false] _;refine zk 4 rfl (ag (n := 0) (by kernel_rfl) rfl) ?_;show AI _ _ _ _ _ _ #[false, true, true, true, true, false, false, false, false, false, false] _;refine zk 7 rfl (ak (av := .pt _ _) rfl) ?_;show AI _ _ _ _ _ _ #[false, true, true, true, true, false, false, true, false, false, false] _;refine zk 8 rfl (aR be rfl (n := 5) (by kernel_rfl) rfl (aa rfl)) ?_;show AI _ _ _ _ _ _ #[false, true, true, true, true, false, false, true, true, false, false] _;refine cB (i := 0) (j := 5) (by kernel_rfl) rfl rfl rfl rfl ?_ ?_
     ·refine bM rfl de rfl (cx F e48) ?_;show AI _ _ _ _ _ _ #[true, true, true, true, true, false, false, true, true, false, false] _;refine aK (i := 5) (by kernel_rfl) rfl rfl <| aN rfl (al (i := 0) aq rfl rfl rfl rfl) ?_;show AI _ _ _ _ _ _ #[true, true, true, true, true, true, false, true, true, false, false] _;refine zk 6 rfl (ca (i := 3) (k := 1) (c := .v _) bt bB rfl (by kernel_rfl) rfl rfl rfl rfl) ?_;show AI _ _ _ _ _ _ #[true, true, true, true, true, true, true, true, true, false, false] _;refine aK (i := 9) (by kernel_rfl) rfl rfl <| cy [0, 0] rfl (.inr ⟨rfl, rfl, rfl⟩) nY rfl (nB F o1 3 a3 a4 a5 a6 a7 a8 t9 a10 a11 a12 a13 a14 x49 x50 x51 e52) rfl (fun c A' h => by cases h.1) ?_
      rintro av A' ⟨h, t53, rfl⟩; cases h
      show AI _ _ _ _ _ _ #[true, true, true, true, true, true, true, true, true, true, false] _;refine zk 10 rfl (asg rfl) ?_;show AI _ _ _ _ _ _ #[true, true, true, true, true, true, true, true, true, true, true] _;refine bi rfl ?_;exact Exists.intro (x49, x50, a3, x51, t53) ⟨H, bc [0, 0] (.cons (.refl _) (.cons (.refl _) (.cons (.refl _) (.nil _)))) rfl⟩
     ·refine aN rfl (al (i := 0) aq rfl rfl rfl rfl) ?_;show AI _ _ _ _ _ _ #[false, true, true, true, true, true, false, true, true, false, false] _;refine aK (i := 0) (by kernel_rfl) rfl rfl <| bM rfl de rfl (cx F e48) ?_;show AI _ _ _ _ _ _ #[true, true, true, true, true, true, false, true, true, false, false] _;refine zk 6 rfl (ca (i := 3) (k := 1) (c := .v _) bt bB rfl (by kernel_rfl) rfl rfl rfl rfl) ?_;show AI _ _ _ _ _ _ #[true, true, true, true, true, true, true, true, true, false, false] _;refine aK (i := 9) (by kernel_rfl) rfl rfl <| cy [0, 0] rfl (.inr ⟨rfl, rfl, rfl⟩) nY rfl (nB F o1 3 a3 a4 a5 a6 a7 a8 t9 a10 a11 a12 a13 a14 x49 x50 x51 e52) rfl (fun c A' h => by cases h.1) ?_
      rintro av A' ⟨h, t54, rfl⟩; cases h
      show AI _ _ _ _ _ _ #[true, true, true, true, true, true, true, true, true, true, false] _;refine zk 10 rfl (asg rfl) ?_;show AI _ _ _ _ _ _ #[true, true, true, true, true, true, true, true, true, true, true] _;refine bi rfl ?_;exact Exists.intro (x49, x50, a3, x51, t54) ⟨H, bc [0, 0] (.cons (.refl _) (.cons (.refl _) (.cons (.refl _) (.nil _)))) rfl⟩
    ·replace H := aZ (by decide) H;replace H := aZ (by decide) H;replace H := aZ (by decide) H;replace H := aZ (by decide) H;replace H := bf (by decide) H;obtain ⟨_, e55, H⟩ := cH H;obtain ⟨x56, x57, x58, e59, H⟩ := fW H;refine br (by kernel_rfl) ?_;show AI _ _ _ _ _ 11 (Array.replicate 11 false) _;refine zk 1 rfl (ak (av := .pt _ _) rfl) ?_;show AI _ _ _ _ _ _ #[false, true, false, false, false, false, false, false, false, false, false] _;refine zk 2 rfl (am rfl) ?_;show AI _ _ _ _ _ _ #[false, true, true, false, false, false, false, false, false, false, false] _;refine zk 3 rfl (ag (n := 0) (by kernel_rfl) rfl) ?_;show AI _ _ _ _ _ _ #[false, true, true, true, false, false, false, false, false, false, false] _;refine zk 4 rfl (ag (n := 0) (by kernel_rfl) rfl) ?_;show AI _ _ _ _ _ _ #[false, true, true, true, true, false, false, false, false, false, false] _;refine zk 7 rfl (ak (av := .pt _ _) rfl) ?_;show AI _ _ _ _ _ _ #[false, true, true, true, true, false, false, true, false, false, false] _;refine zk 8 rfl (aR be rfl (n := 5) (by kernel_rfl) rfl (aa rfl)) ?_;show AI _ _ _ _ _ _ #[false, true, true, true, true, false, false, true, true, false, false] _;refine cB (i := 0) (j := 5) (by kernel_rfl) rfl rfl rfl rfl ?_ ?_
     ·refine bM rfl de rfl (cx F e55) ?_;show AI _ _ _ _ _ _ #[true, true, true, true, true, false, false, true, true, false, false] _;refine aK (i := 5) (by kernel_rfl) rfl rfl <| aN rfl (al (i := 0) aq rfl rfl rfl rfl) ?_;show AI _ _ _ _ _ _ #[true, true, true, true, true, true, false, true, true, false, false] _;refine zk 6 rfl (ca (i := 4) (k := 1) (c := .v _) bt bB rfl (by kernel_rfl) rfl rfl rfl rfl) ?_;show AI _ _ _ _ _ _ #[true, true, true, true, true, true, true, true, true, false, false] _;refine aK (i := 9) (by kernel_rfl) rfl rfl <| cy [0, 0] rfl (.inr ⟨rfl, rfl, rfl⟩) nX rfl (nE F o1 4 a3 a4 a5 a6 a7 a8 t9 a10 a11 a12 a13 a14 x56 x57 x58 e59) rfl (fun c A' h => by cases h.1) ?_
      rintro av A' ⟨h, t60, rfl⟩; cases h
      show AI _ _ _ _ _ _ #[true, true, true, true, true, true, true, true, true, true, false] _;refine zk 10 rfl (asg rfl) ?_;show AI _ _ _ _ _ _ #[true, true, true, true, true, true, true, true, true, true, true] _;refine bi rfl ?_;exact Exists.intro (x56, x57, a3, x58, t60) ⟨H, bc [0, 0] (.cons (.refl _) (.cons (.refl _) (.cons (.refl _) (.nil _)))) rfl⟩
     ·refine aN rfl (al (i := 0) aq rfl rfl rfl rfl) ?_;show AI _ _ _ _ _ _ #[false, true, true, true, true, true, false, true, true, false, false] _;refine aK (i := 0) (by kernel_rfl) rfl rfl <| bM rfl de rfl (cx F e55) ?_;show AI _ _ _ _ _ _ #[true, true, true, true, true, true, false, true, true, false, false] _;refine zk 6 rfl (ca (i := 4) (k := 1) (c := .v _) bt bB rfl (by kernel_rfl) rfl rfl rfl rfl) ?_;show AI _ _ _ _ _ _ #[true, true, true, true, true, true, true, true, true, false, false] _;refine aK (i := 9) (by kernel_rfl) rfl rfl <| cy [0, 0] rfl (.inr ⟨rfl, rfl, rfl⟩) nX rfl (nE F o1 4 a3 a4 a5 a6 a7 a8 t9 a10 a11 a12 a13 a14 x56 x57 x58 e59) rfl (fun c A' h => by cases h.1) ?_
      rintro av A' ⟨h, t61, rfl⟩; cases h
      show AI _ _ _ _ _ _ #[true, true, true, true, true, true, true, true, true, true, false] _;refine zk 10 rfl (asg rfl) ?_;show AI _ _ _ _ _ _ #[true, true, true, true, true, true, true, true, true, true, true] _;refine bi rfl ?_;exact Exists.intro (x56, x57, a3, x58, t61) ⟨H, bc [0, 0] (.cons (.refl _) (.cons (.refl _) (.cons (.refl _) (.nil _)))) rfl⟩
    ·replace H := aZ (by decide) H;replace H := aZ (by decide) H;replace H := aZ (by decide) H;replace H := aZ (by decide) H;replace H := aZ (by decide) H;replace H := bf (by decide) H;obtain ⟨_, e62, H⟩ := cH H;obtain ⟨x63, x64, x65, x66, e67, H⟩ := bnd4_s H;refine br (by kernel_rfl) ?_;show AI _ _ _ _ _ 11 (Array.replicate 11 false) _;refine zk 1 rfl (ak (av := .pt _ _) rfl) ?_;show AI _ _ _ _ _ _ #[false, true, false, false, false, false, false, false, false, false, false] _;refine zk 2 rfl (am rfl) ?_;show AI _ _ _ _ _ _ #[false, true, true, false, false, false, false, false, false, false, false] _;refine zk 3 rfl (ag (n := 0) (by kernel_rfl) rfl) ?_;show AI _ _ _ _ _ _ #[false, true, true, true, false, false, false, false, false, false, false] _;refine zk 4 rfl (ag (n := 0) (by kernel_rfl) rfl) ?_;show AI _ _ _ _ _ _ #[false, true, true, true, true, false, false, false, false, false, false] _;refine zk 7 rfl (ak (av := .pt _ _) rfl) ?_;show AI _ _ _ _ _ _ #[false, true, true, true, true, false, false, true, false, false, false] _;refine zk 8 rfl (aR be rfl (n := 5) (by kernel_rfl) rfl (aa rfl)) ?_;show AI _ _ _ _ _ _ #[false, true, true, true, true, false, false, true, true, false, false] _;refine cB (i := 0) (j := 5) (by kernel_rfl) rfl rfl rfl rfl ?_ ?_
     ·refine bM rfl de rfl (cx F e62) ?_;show AI _ _ _ _ _ _ #[true, true, true, true, true, false, false, true, true, false, false] _;refine aK (i := 5) (by kernel_rfl) rfl rfl <| aN rfl (al (i := 0) aq rfl rfl rfl rfl) ?_;show AI _ _ _ _ _ _ #[true, true, true, true, true, true, false, true, true, false, false] _;refine zk 6 rfl (ca (i := 5) (k := 1) (c := .v _) bt bB rfl (by kernel_rfl) rfl rfl rfl rfl) ?_;show AI _ _ _ _ _ _ #[true, true, true, true, true, true, true, true, true, false, false] _;refine aK (i := 9) (by kernel_rfl) rfl rfl <| cy [0, 0] rfl (.inr ⟨rfl, rfl, rfl⟩) nW rfl (nF F o1 5 a3 a4 a5 a6 a7 a8 t9 a10 a11 a12 a13 a14 x63 x64 x65 x66 e67) rfl (fun c A' h => by cases h.1) ?_
      rintro av A' ⟨h, t68, rfl⟩; cases h
      show AI _ _ _ _ _ _ #[true, true, true, true, true, true, true, true, true, true, false] _;refine zk 10 rfl (asg rfl) ?_;show AI _ _ _ _ _ _ #[true, true, true, true, true, true, true, true, true, true, true] _;refine bi rfl ?_;exact Exists.intro (x63, x64, x65, x66, t68) ⟨H, bc [0, 0] (.cons (.refl _) (.cons (.refl _) (.cons (.refl _) (.nil _)))) rfl⟩
     ·refine aN rfl (al (i := 0) aq rfl rfl rfl rfl) ?_;show AI _ _ _ _ _ _ #[false, true, true, true, true, true, false, true, true, false, false] _;refine aK (i := 0) (by kernel_rfl) rfl rfl <| bM rfl de rfl (cx F e62) ?_;show AI _ _ _ _ _ _ #[true, true, true, true, true, true, false, true, true, false, false] _;refine zk 6 rfl (ca (i := 5) (k := 1) (c := .v _) bt bB rfl (by kernel_rfl) rfl rfl rfl rfl) ?_;show AI _ _ _ _ _ _ #[true, true, true, true, true, true, true, true, true, false, false] _;refine aK (i := 9) (by kernel_rfl) rfl rfl <| cy [0, 0] rfl (.inr ⟨rfl, rfl, rfl⟩) nW rfl (nF F o1 5 a3 a4 a5 a6 a7 a8 t9 a10 a11 a12 a13 a14 x63 x64 x65 x66 e67) rfl (fun c A' h => by cases h.1) ?_
      rintro av A' ⟨h, t69, rfl⟩; cases h
      show AI _ _ _ _ _ _ #[true, true, true, true, true, true, true, true, true, true, false] _;refine zk 10 rfl (asg rfl) ?_;show AI _ _ _ _ _ _ #[true, true, true, true, true, true, true, true, true, true, true] _;refine bi rfl ?_;exact Exists.intro (x63, x64, x65, x66, t69) ⟨H, bc [0, 0] (.cons (.refl _) (.cons (.refl _) (.cons (.refl _) (.nil _)))) rfl⟩
    ·replace H := aZ (by decide) H;replace H := aZ (by decide) H;replace H := aZ (by decide) H;replace H := aZ (by decide) H;replace H := aZ (by decide) H;replace H := aZ (by decide) H;obtain ⟨_, e70, H⟩ := cH H;obtain ⟨x71, x72, e73, H⟩ := dJ H;refine br (by kernel_rfl) ?_;show AI _ _ _ _ _ 11 (Array.replicate 11 false) _;refine zk 1 rfl (ak (av := .pt _ _) rfl) ?_;show AI _ _ _ _ _ _ #[false, true, false, false, false, false, false, false, false, false, false] _;refine zk 2 rfl (am rfl) ?_;show AI _ _ _ _ _ _ #[false, true, true, false, false, false, false, false, false, false, false] _;refine zk 3 rfl (ag (n := 0) (by kernel_rfl) rfl) ?_;show AI _ _ _ _ _ _ #[false, true, true, true, false, false, false, false, false, false, false] _;refine zk 4 rfl (ag (n := 0) (by kernel_rfl) rfl) ?_;show AI _ _ _ _ _ _ #[false, true, true, true, true, false, false, false, false, false, false] _;refine zk 7 rfl (ak (av := .pt _ _) rfl) ?_;show AI _ _ _ _ _ _ #[false, true, true, true, true, false, false, true, false, false, false] _;refine zk 8 rfl (aR be rfl (n := 5) (by kernel_rfl) rfl (aa rfl)) ?_;show AI _ _ _ _ _ _ #[false, true, true, true, true, false, false, true, true, false, false] _;refine cB (i := 0) (j := 5) (by kernel_rfl) rfl rfl rfl rfl ?_ ?_
     ·refine bM rfl de rfl (cx F e70) ?_;show AI _ _ _ _ _ _ #[true, true, true, true, true, false, false, true, true, false, false] _;refine aK (i := 5) (by kernel_rfl) rfl rfl <| aN rfl (al (i := 0) aq rfl rfl rfl rfl) ?_;show AI _ _ _ _ _ _ #[true, true, true, true, true, true, false, true, true, false, false] _;refine zk 6 rfl (ca (i := 6) (k := 1) (c := .v _) bt bB rfl (by kernel_rfl) rfl rfl rfl rfl) ?_;show AI _ _ _ _ _ _ #[true, true, true, true, true, true, true, true, true, false, false] _;refine aK (i := 9) (by kernel_rfl) rfl rfl <| cy [0, 0] rfl (.inr ⟨rfl, rfl, rfl⟩) nV rfl (nC F o1 6 a3 a4 a5 a6 a7 a8 t9 a10 a11 a12 a13 a14 x71 x72 e73) rfl (fun c A' h => by cases h.1) ?_
      rintro av A' ⟨h, rfl⟩; cases h
      show AI _ _ _ _ _ _ #[true, true, true, true, true, true, true, true, true, true, false] _;refine zk 10 rfl (asg rfl) ?_;show AI _ _ _ _ _ _ #[true, true, true, true, true, true, true, true, true, true, true] _;refine bi rfl ?_;exact Exists.intro (x71, x72, a3, a8, t9) ⟨H, bc [0, 0] (.cons (.refl _) (.cons (.refl _) (.cons (.refl _) (.nil _)))) rfl⟩
     ·refine aN rfl (al (i := 0) aq rfl rfl rfl rfl) ?_;show AI _ _ _ _ _ _ #[false, true, true, true, true, true, false, true, true, false, false] _;refine aK (i := 0) (by kernel_rfl) rfl rfl <| bM rfl de rfl (cx F e70) ?_;show AI _ _ _ _ _ _ #[true, true, true, true, true, true, false, true, true, false, false] _;refine zk 6 rfl (ca (i := 6) (k := 1) (c := .v _) bt bB rfl (by kernel_rfl) rfl rfl rfl rfl) ?_;show AI _ _ _ _ _ _ #[true, true, true, true, true, true, true, true, true, false, false] _;refine aK (i := 9) (by kernel_rfl) rfl rfl <| cy [0, 0] rfl (.inr ⟨rfl, rfl, rfl⟩) nV rfl (nC F o1 6 a3 a4 a5 a6 a7 a8 t9 a10 a11 a12 a13 a14 x71 x72 e73) rfl (fun c A' h => by cases h.1) ?_
      rintro av A' ⟨h, rfl⟩; cases h
      show AI _ _ _ _ _ _ #[true, true, true, true, true, true, true, true, true, true, false] _;refine zk 10 rfl (asg rfl) ?_;show AI _ _ _ _ _ _ #[true, true, true, true, true, true, true, true, true, true, true] _;refine bi rfl ?_;exact Exists.intro (x71, x72, a3, a8, t9) ⟨H, bc [0, 0] (.cons (.refl _) (.cons (.refl _) (.cons (.refl _) (.nil _)))) rfl⟩
   rintro ⟨y74, y75, y76, y77, t78⟩ H;replace H : cK F a4 a5 a6 a7 a10 y74 y75 y76 y77 = some (r15, r16, r17) := H
   unfold cK at H
   refine aF rfl (fun c80 => ?_) (fun c80 => ?_)
   ·replace H := bf c80 H;refine aL ?_;obtain ⟨rfl, rfl, rfl⟩ := gO H;exact And.intro rfl (Exists.intro _ (Exists.intro _ ⟨bg rfl, aI [0, 0] rfl, rfl, t78, rfl⟩))
   ·replace H := aZ c80 H;refine ah <| ac ?_;show AR _ _ _ _ _ [0, 1, 2, 3, 4, 5, 6, 7, 8] _;refine zS rfl (aH (n := 0) (by kernel_rfl) rfl (aa rfl)) <| zS rfl (aE aq rfl rfl) <| zS rfl (dQ rfl rfl) <| zm rfl <| aP (l := [8]) 46 (B ((decide (500 ≤ a10)) && (decide (a10 ≤ 599)))) (fun K => ?_) ?_
    ·rcases af (decide (500 ≤ a10)) with h81 | h81
     ·refine zU h81 rfl (aH (n := 0) (by kernel_rfl) rfl (aa rfl)) <| zU h81 rfl (aE aq rfl rfl) <| zU h81 rfl (dj rfl rfl) <| zS rfl (ay (av := .v _) rfl h81 rfl) ?_;exact K _ 3 _ (ap (bK h81)) rfl rfl
     ·refine zF h81 rfl <| zF h81 rfl <| zF h81 rfl <| zS rfl (aw (av := .v _) rfl h81 rfl) ?_;exact K _ 3 _ (ap (bL h81)) rfl rfl
    refine za rfl <| ai <| aF rfl (fun c82 => ?_) (fun c82 => ?_)
    ·replace H := bf c82 H;obtain ⟨x83, x84, x85, e86, H⟩ := fW H;refine ac ?_;show AR _ _ _ _ _ [0, 1] _;refine zS rfl (ak (av := .pt _ _) rfl) <| an rfl rfl (cf [0, 0] rfl jD rfl (jz F o1 y75 y76 a4 a5 a6 a7 y77 t78 3 x83 x84 x85 e86) rfl (fun c A' h => by cases h.1) ?_)
     rintro av A' ⟨h, t87, rfl⟩; cases h
     refine ai ?_;obtain ⟨rfl, rfl, rfl⟩ := gO H;exact And.intro rfl (Exists.intro _ (Exists.intro _ ⟨bg rfl, aI [0, 0] rfl, rfl, t87, rfl⟩))
    ·replace H := aZ c82 H;obtain ⟨x88, x89, x90, e91, H⟩ := fW H;refine ac ?_;show AR _ _ _ _ _ [0, 1] _;refine zS rfl (ak (av := .pt _ _) rfl) <| an rfl rfl (cf [0, 0] rfl jD rfl (jz F o1 y75 y76 a4 a5 a6 a7 y77 t78 2 x88 x89 x90 e91) rfl (fun c A' h => by cases h.1) ?_)
     rintro av A' ⟨h, t92, rfl⟩; cases h
     refine ai ?_;obtain ⟨rfl, rfl, rfl⟩ := gO H;exact And.intro rfl (Exists.intro _ (Exists.intro _ ⟨bg rfl, aI [0, 0] rfl, rfl, t92, rfl⟩))
set_option maxRecDepth 100000 in
set_option maxHeartbeats 1000000 in
theorem ki (F : Nat) (a1 : Int) (a2 : Int) (a3 : List UInt8) (a4 : List UInt8) (a5 : List UInt8) (a6 : List UInt8) (H : hH F a1 a2 a3 a4 a5 a6 = some ()) : ACalls Tryz.prog 34 [.agg [i64 a1, i64 a2, S a3, S a4, S a5, slE Enc.byte a6 none]] [] (fun e A' => ∃ ob1 : Nat, e = .ret (.pt ob1 0) ∧ A' = [.obj ob1 [i64 a1, i64 a2, S a3, S a4, S a5, slE Enc.byte a6 none, fm]]) := by
 unfold hH at H
 refine az Tryz.func34 rfl rfl ?_;show AW _ _ 10 _ _ _;refine ah <| ac ?_;show AR _ _ _ _ _ [0, 1] _;refine zX rfl (gR rfl (.inr ⟨_, rfl⟩)) ?_;rintro _ _ ⟨o7, rfl, rfl⟩;refine za rfl <| ai <| ah ?_;obtain ⟨g8, H⟩ := ba H;refine ac ?_;show AR _ _ _ _ _ [0, 1, 2, 3, 4] _;refine zS rfl (ag (n := 5) (by kernel_rfl) rfl) <| zR rfl (al (i := 0) ab rfl rfl rfl rfl) <| an rfl rfl (aV rfl om rfl (jm a6 none (dR g8)) ?_);refine zS rfl (ag (n := 5) (by kernel_rfl) rfl) <| s0 rfl rfl (ar (i := 0) (c := slE _ _ _) (by kernel_rfl) rfl rfl rfl rfl (aa rfl)) <| ai <| ah <| ac ?_;show AR _ _ _ _ _ [0, 1, 2, 3] _;refine zR rfl (bx (i := 0) (n := 6) au rfl (by kernel_rfl) rfl rfl (aa rfl)) <| zS rfl (jO (zs := [.int .i64 0, .int .i64 0, .string ⟨#[]⟩, .string ⟨#[]⟩, .string ⟨#[]⟩, .slice none 0 0, .slice none 0 0]) (ps := [(0, 6), (6, 1)]) (cs := [i64 a1, i64 a2, S a3, S a4, S a5, slE Enc.byte a6 none, fm]) (by kernel_rfl) rfl rfl) <| zX rfl (gR rfl (.inr ⟨_, rfl⟩)) ?_;rintro _ _ ⟨o9, rfl, rfl⟩;refine zS rfl (aA (av := .pt _ _) rfl) <| ai <| aU ?_;exact And.intro rfl (Exists.intro _ (Exists.intro _ ⟨aW rfl (.refl _), aI [0] rfl, o9, rfl, rfl⟩))
set_option maxRecDepth 100000 in
set_option maxHeartbeats 1000000 in
theorem rq (F : Nat) (a1 : Int) (a2 : Int) (a3 : List UInt8) (a4 : List UInt8) (a5 : List UInt8) (a6 : List UInt8) (a7 : Int) (a8 : List (List UInt8)) (a9 : Int) (a10 : Int) (a11 : Int) (r12 : Int) (r13 : Int) (r14 : List UInt8) (r15 : List UInt8) (r16 : List UInt8) (r17 : List UInt8) (r18 : List UInt8) (H : ln F a1 a2 a3 a4 a5 a6 a7 a8 a9 a10 a11 = some (r12, r13, r14, r15, r16, r17, r18)) : ACalls Tryz.prog 18 [.agg [i64 a1, i64 a2, S a3, S a4, S a5, slE Enc.byte a6 none], .agg [i64 a7, slE Enc.str a8 none, i64 a9, i64 a10, i64 a11]] [] (Ret (.tup [.agg [i64 r12, i64 r13, S r14, S r15, S r16, slE Enc.byte r17 none], slE Enc.byte r18 none]) []) := by
 unfold ln at H
 refine az Tryz.func18 rfl rfl ?_;show AW _ _ 20 _ _ _;refine ah <| ac ?_;show AR _ _ _ _ _ [0, 1, 2, 3] _;refine zR rfl (ce rfl (.inr ⟨_, rfl⟩)) <| zR rfl (ce rfl (.inr ⟨_, rfl⟩)) <| zX rfl (bH (zs := [.int .i64 0, .int .i64 0, .string ⟨#[]⟩, .string ⟨#[]⟩, .string ⟨#[]⟩, .slice none 0 0]) (by kernel_rfl)) ?_;rintro _ _ ⟨o19, rfl, rfl⟩;refine za rfl <| ai <| ah ?_;obtain ⟨_, e20, H⟩ := cH H;refine ac ?_;show AR _ _ _ _ _ [0, 1, 2] _;refine zS rfl (aR au rfl (n := 6) (by kernel_rfl) rfl (aa rfl)) <| an rfl rfl (cf [] rfl lI rfl (ki F a1 a2 a3 a4 a5 a6 e20) rfl (fun c A' h => by obtain ⟨_, h, _⟩ := h; cases h) ?_)
 rintro av A' ⟨o21, h, rfl⟩; cases h
 refine zS rfl (aA (av := .pt _ _) rfl) <| ai <| ah ?_;obtain ⟨x23, x24, x25, e26, H⟩ := fW H;refine ac ?_;show AR _ _ _ _ _ [0, 1, 2] _;refine zS rfl (ak (av := .pt _ _) rfl) <| zS rfl (aR be rfl (n := 5) (by kernel_rfl) rfl (aa rfl)) ?_
 refine AR.nil_objAt 0 6 1 5 rfl rfl fun t22 => ?_
 show AR _ _ _ _ _ _ ⟨_, _, [.tok t22 5, .obj o21 [i64 a1, i64 a2, S a3, S a4, S a5, slE Enc.byte a6 none, slE Enc.byte [] (some t22)], .obj o19 [i64 0, i64 0, S ([] : List UInt8), S ([] : List UInt8), S ([] : List UInt8), fm]]⟩;refine an rfl rfl (cf [1, 0] rfl ol rfl (nA F o21 a1 a2 a3 a4 a5 a6 [] t22 a7 a8 a9 a10 a11 x23 x24 x25 e26) rfl (fun c A' h => by cases h.1) ?_)
 rintro av A' ⟨h, t27, rfl⟩; cases h
 refine ai <| ah <| br (by kernel_rfl) ?_;show AI _ _ _ _ _ 10 (Array.replicate 10 false) _;refine zk 0 rfl (ak (av := .pt _ _) rfl) ?_;show AI _ _ _ _ _ _ #[true, false, false, false, false, false, false, false, false, false] _;refine zk 1 rfl (am rfl) ?_;show AI _ _ _ _ _ _ #[true, true, false, false, false, false, false, false, false, false] _;refine zk 2 rfl (ag (n := 0) (by kernel_rfl) rfl) ?_;show AI _ _ _ _ _ _ #[true, true, true, false, false, false, false, false, false, false] _;refine zk 4 rfl (ak (av := .pt _ _) rfl) ?_;show AI _ _ _ _ _ _ #[true, true, true, false, true, false, false, false, false, false] _;refine zk 5 rfl (am rfl) ?_;show AI _ _ _ _ _ _ #[true, true, true, false, true, true, false, false, false, false] _;refine zk 6 rfl (ag (n := 6) (by kernel_rfl) rfl) ?_;show AI _ _ _ _ _ _ #[true, true, true, false, true, true, true, false, false, false] _;refine cB (i := 3) (j := 7) (by kernel_rfl) rfl rfl rfl rfl ?_ ?_
 ·refine aN rfl (bx (i := 0) (n := 6) au rfl (by kernel_rfl) rfl rfl (aa rfl)) ?_;show AI _ _ _ _ _ _ #[true, true, true, true, true, true, true, false, false, false] _;refine cB (i := 7) (j := 8) (by kernel_rfl) rfl rfl rfl rfl ?_ ?_
  ·refine aN rfl (al (i := 0) ab rfl rfl rfl rfl) ?_;show AI _ _ _ _ _ _ #[true, true, true, true, true, true, true, true, false, false] _;refine aK (i := 8) (by kernel_rfl) rfl rfl <| bZ (aQ (i := 2) (vs := [i64 x23, i64 x24, S a3, S a4, S a5, slE Enc.byte a6 none]) (by kernel_rfl) rfl rfl (by simp [bo, slE]) rfl (aa rfl)) ?_;show AI _ _ _ _ _ _ #[true, true, true, true, true, true, true, true, true, false] _;refine zk 9 rfl (aA (av := slE _ _ _) rfl) ?_;show AI _ _ _ _ _ _ #[true, true, true, true, true, true, true, true, true, true] _;refine bi rfl <| aU ?_;obtain ⟨rfl, rfl, rfl, rfl, rfl, rfl, rfl⟩ := jU H;exact And.intro rfl (Exists.intro _ (Exists.intro _ ⟨bR (bU rfl (bV (off := 0) (cs := [i64 x23, i64 x24, S a3, S a4, S a5, slE Enc.byte a6 none]) (n := 6) 2 au rfl (by kernel_rfl) rfl rfl (aa rfl)) ((show PlaceV _ _ _ (.tmp _) _ from (.tok _ _ _)))), aI [] rfl, rfl, rfl⟩))
  ·refine bZ (aQ (i := 2) (vs := [i64 x23, i64 x24, S a3, S a4, S a5, slE Enc.byte a6 none]) (by kernel_rfl) rfl rfl (by simp [bo, slE]) rfl (aa rfl)) ?_;show AI _ _ _ _ _ _ #[true, true, true, true, true, true, true, false, true, false] _;refine aK (i := 7) (by kernel_rfl) rfl rfl <| aN rfl (al (i := 0) ab rfl rfl rfl rfl) ?_;show AI _ _ _ _ _ _ #[true, true, true, true, true, true, true, true, true, false] _;refine zk 9 rfl (aA (av := slE _ _ _) rfl) ?_;show AI _ _ _ _ _ _ #[true, true, true, true, true, true, true, true, true, true] _;refine bi rfl <| aU ?_;obtain ⟨rfl, rfl, rfl, rfl, rfl, rfl, rfl⟩ := jU H;exact And.intro rfl (Exists.intro _ (Exists.intro _ ⟨bR (bU rfl (bV (off := 0) (cs := [i64 x23, i64 x24, S a3, S a4, S a5, slE Enc.byte a6 none]) (n := 6) 2 au rfl (by kernel_rfl) rfl rfl (aa rfl)) ((show PlaceV _ _ _ (.tmp _) _ from (.tok _ _ _)))), aI [] rfl, rfl, rfl⟩))
 ·refine aN rfl (al (i := 0) ab rfl rfl rfl rfl) ?_;show AI _ _ _ _ _ _ #[true, true, true, false, true, true, true, true, false, false] _;refine aK (i := 3) (by kernel_rfl) rfl rfl <| aN rfl (bx (i := 0) (n := 6) au rfl (by kernel_rfl) rfl rfl (aa rfl)) ?_;show AI _ _ _ _ _ _ #[true, true, true, true, true, true, true, true, false, false] _;refine aK (i := 8) (by kernel_rfl) rfl rfl <| bZ (aQ (i := 2) (vs := [i64 x23, i64 x24, S a3, S a4, S a5, slE Enc.byte a6 none]) (by kernel_rfl) rfl rfl (by simp [bo, slE]) rfl (aa rfl)) ?_;show AI _ _ _ _ _ _ #[true, true, true, true, true, true, true, true, true, false] _;refine zk 9 rfl (aA (av := slE _ _ _) rfl) ?_;show AI _ _ _ _ _ _ #[true, true, true, true, true, true, true, true, true, true] _;refine bi rfl <| aU ?_;obtain ⟨rfl, rfl, rfl, rfl, rfl, rfl, rfl⟩ := jU H;exact And.intro rfl (Exists.intro _ (Exists.intro _ ⟨bR (bU rfl (bV (off := 0) (cs := [i64 x23, i64 x24, S a3, S a4, S a5, slE Enc.byte a6 none]) (n := 6) 2 au rfl (by kernel_rfl) rfl rfl (aa rfl)) ((show PlaceV _ _ _ (.tmp _) _ from (.tok _ _ _)))), aI [] rfl, rfl, rfl⟩))
set_option maxRecDepth 100000 in
set_option maxHeartbeats 1000000 in
theorem rr (F : Nat) (a1 : Int) (a2 : Int) (a3 : List UInt8) (a4 : List UInt8) (a5 : List UInt8) (a6 : List UInt8) (r7 : Int) (r8 : Int) (r9 : List UInt8) (r10 : List UInt8) (r11 : List UInt8) (r12 : List UInt8) (H : lq F a1 a2 a3 a4 a5 a6 = some (r7, r8, r9, r10, r11, r12)) : ACalls Tryz.prog 20 [.agg [i64 a1, i64 a2, S a3, S a4, S a5, slE Enc.byte a6 none]] [] (Ret (.agg [i64 r7, i64 r8, S r9, S r10, S r11, slE Enc.byte r12 none]) []) := by
 unfold lq at H
 refine az Tryz.func20 rfl rfl ?_;show AW _ _ 12 _ _ _;refine ah <| ac ?_;show AR _ _ _ _ _ [0, 1] _;refine zR rfl (ce rfl (.inr ⟨_, rfl⟩)) <| zX rfl (bH (zs := [.int .i64 0, .int .i64 0, .string ⟨#[]⟩, .string ⟨#[]⟩, .string ⟨#[]⟩, .slice none 0 0]) (by kernel_rfl)) ?_;rintro _ _ ⟨o13, rfl, rfl⟩;refine ai <| ah ?_;obtain ⟨_, e14, H⟩ := cH H;refine ac ?_;show AR _ _ _ _ _ [0, 1, 2] _;refine zS rfl (aR au rfl (n := 6) (by kernel_rfl) rfl (aa rfl)) <| an rfl rfl (cf [] rfl lI rfl (ki F a1 a2 a3 a4 a5 a6 e14) rfl (fun c A' h => by obtain ⟨_, h, _⟩ := h; cases h) ?_)
 rintro av A' ⟨o15, h, rfl⟩; cases h
 refine zS rfl (aA (av := .pt _ _) rfl) <| ai <| ah ?_;obtain ⟨x17, x18, e19, H⟩ := dJ H;refine ac ?_;show AR _ _ _ _ _ [0, 1] _;refine zS rfl (ak (av := .pt _ _) rfl) ?_
 refine AR.nil_objAt 0 6 1 5 rfl rfl fun t16 => ?_
 show AR _ _ _ _ _ _ ⟨_, _, [.tok t16 5, .obj o15 [i64 a1, i64 a2, S a3, S a4, S a5, slE Enc.byte a6 none, slE Enc.byte [] (some t16)], .obj o13 [i64 0, i64 0, S ([] : List UInt8), S ([] : List UInt8), S ([] : List UInt8), fm]]⟩;refine an rfl rfl (cf [1, 0] rfl lH rfl (lC F o15 a1 a2 a3 a4 a5 a6 [] t16 x17 x18 e19) rfl (fun c A' h => by cases h.1) ?_)
 rintro av A' ⟨h, rfl⟩; cases h
 refine ai <| ah <| ac ?_;show AR _ _ _ _ _ [0, 1, 2, 3, 4] _;refine zS rfl (ak (av := .pt _ _) rfl) <| zS rfl (am rfl) <| zS rfl (ag (n := 0) (by kernel_rfl) rfl) <| zR rfl (bx (i := 0) (n := 6) au rfl (by kernel_rfl) rfl rfl (aa rfl)) <| s0 rfl rfl (aQ (i := 2) (vs := [i64 x17, i64 x18, S a3, S a4, S a5, slE Enc.byte a6 none]) (by kernel_rfl) rfl rfl (by simp [bo, slE]) rfl (aa rfl)) <| ai <| aU ?_;obtain ⟨rfl, rfl, rfl, rfl, rfl, rfl⟩ := res6 H;exact And.intro rfl (Exists.intro _ (Exists.intro _ ⟨bR (dD rfl (bV (off := 0) (cs := [i64 x17, i64 x18, S a3, S a4, S a5, slE Enc.byte a6 none]) (n := 6) 2 au rfl (by kernel_rfl) rfl rfl (aa rfl))), aI [] rfl, rfl, rfl⟩))
set_option maxRecDepth 100000 in
set_option maxHeartbeats 1000000 in
theorem mU (F : Nat) (a1 : Int) (a2 : Int) (a3 : List UInt8) (a4 : List UInt8) (a5 : List UInt8) (a6 : List UInt8) (a7 : List UInt8) (q8 : Option Nat) (r9 : Int) (r10 : Int) (r11 : List UInt8) (r12 : List UInt8) (r13 : List UInt8) (r14 : List UInt8) (r15 : List UInt8) (H : qL F a1 a2 a3 a4 a5 a6 a7 = some (r9, r10, r11, r12, r13, r14, r15)) : ACalls Tryz.prog 15 [.agg [i64 a1, i64 a2, S a3, S a4, S a5, slE Enc.byte a6 none], slE Enc.byte a7 q8] [] (Ret (.tup [.agg [i64 r9, i64 r10, S r11, S r12, S r13, slE Enc.byte r14 none], slE Enc.byte r15 none]) []) := by
 unfold qL at H
 refine az Tryz.func15 rfl rfl ?_;show AW _ _ 39 _ _ _;refine ah <| ac ?_;show AR _ _ _ _ _ [0, 1, 2] _;refine zR rfl (ce rfl (.inr ⟨_, rfl⟩)) <| zX rfl (bH (zs := [.int .i64 0, .int .i64 0, .string ⟨#[]⟩, .string ⟨#[]⟩, .string ⟨#[]⟩, .slice none 0 0]) (by kernel_rfl)) ?_;rintro _ _ ⟨o16, rfl, rfl⟩;refine za rfl <| ai <| ah ?_;obtain ⟨_, e17, H⟩ := cH H;refine ac ?_;show AR _ _ _ _ _ [0, 1, 2] _;refine zS rfl (aR au rfl (n := 6) (by kernel_rfl) rfl (aa rfl)) <| an rfl rfl (cf [] rfl lI rfl (ki F a1 a2 a3 a4 a5 a6 e17) rfl (fun c A' h => by obtain ⟨_, h, _⟩ := h; cases h) ?_)
 rintro av A' ⟨o18, h, rfl⟩; cases h
 refine zS rfl (aA (av := .pt _ _) rfl) <| ai ?_
 refine AW.nil_objAt 0 6 1 5 rfl rfl fun t19 => ?_
 show AW _ _ _ _ _ ⟨_, _, [.tok t19 5, .obj o18 [i64 a1, i64 a2, S a3, S a4, S a5, slE Enc.byte a6 none, slE Enc.byte [] (some t19)], .obj o16 [i64 0, i64 0, S ([] : List UInt8), S ([] : List UInt8), S ([] : List UInt8), fm]]⟩;refine bX (X := Int × Int × (List UInt8) × Nat) (fun (y46, y47, y48, t49) => ⟨[(4, .pt o16 0), (6, .pt o18 0)], [], [.obj o18 [i64 y46, i64 y47, S a3, S a4, S a5, slE Enc.byte a6 none, slE Enc.byte y48 (some t49)], .obj o16 [i64 0, i64 0, S ([] : List UInt8), S ([] : List UInt8), S ([] : List UInt8), fm], .tok t49 5]⟩) (fun (y46, y47, y48, t49) => jG F a3 a4 a5 a6 y46 y47 y48 = some (r9, r10, r11, r12, r13, r14, r15)) ?_ ?_
 ·refine ah ?_;obtain ⟨_, e20, H⟩ := cH H;obtain ⟨x23, x24, x25, e26, H⟩ := fW H;refine ac ?_;show AR _ _ _ _ _ [0, 1, 2, 3, 4] _;refine an rfl rfl (cf [] rfl sa rfl (rn F e20) rfl (fun c A' h => by obtain ⟨_, h, _⟩ := h; cases h) ?_)
  rintro av A' ⟨o21, h, rfl⟩; cases h
  refine zS rfl (ak (av := slE _ _ _) rfl) ?_
  refine AR.nil_objAt 0 0 1 5 rfl rfl fun t22 => ?_
  show AR _ _ _ _ _ _ ⟨_, _, [.tok t22 5, .obj o21 [slE Enc.byte [] (some t22), B false], .tok t19 5, .obj o18 [i64 a1, i64 a2, S a3, S a4, S a5, slE Enc.byte a6 none, slE Enc.byte [] (some t19)], .obj o16 [i64 0, i64 0, S ([] : List UInt8), S ([] : List UInt8), S ([] : List UInt8), fm]]⟩;refine an rfl rfl (cf [1, 0] rfl rZ rfl (rm F o21 [] t22 false a7 q8 x23 x24 x25 e26) rfl (fun c A' h => by cases h.1) ?_)
  rintro av A' ⟨h, t27, rfl⟩; cases h
  refine zS rfl (aY cj rfl) <| zm rfl <| ai <| bh <| dv (X := Nat × Int × Int × Int × (List UInt8) × Nat) (fun (n34, y28, y29, y30, y31, t32) => ⟨[(4, .pt o16 0), (6, .pt o18 0), (13, slE (aG Enc.int (aG (Enc.sl Enc.str) (aG Enc.int (aG Enc.int Enc.int)))) x23 none), (14, i64 (x23.length : Int)), (15, i64 y28)], [], [.obj o18 [i64 y29, i64 y30, S a3, S a4, S a5, slE Enc.byte a6 none, slE Enc.byte y31 (some t32)], .obj o16 [i64 0, i64 0, S ([] : List UInt8), S ([] : List UInt8), S ([] : List UInt8), fm], .tok t32 5]⟩) (fun (n34, y28, y29, y30, y31, t32) => lL F a3 a4 a5 a6 x23 n34 (y28, y29, y30, y31) = some (r9, r10, r11, r12, r13, r14, r15)) (fun (n34, y28, y29, y30, y31, t32) => n34) (F, 0, a1, a2, [], t19) H (bc [3, 3, 2] (.cons (.refl _) (.cons (.refl _) (.cons (.refl _) (.cons (.refl _) (.cons (.refl _) (.nil _)))))) rfl) ?_;rintro ⟨n34, y28, y29, y30, y31, t32⟩ H;obtain ⟨n34, rfl, H⟩ := fc H;replace H : lM F a3 a4 a5 a6 x23 (lL F a3 a4 a5 a6 x23 n34) y28 y29 y30 y31 = some (r9, r10, r11, r12, r13, r14, r15) := H
  unfold lM at H
  refine ah <| ac ?_;show AR _ _ _ _ _ [0] _;refine zS rfl (cc rfl rfl) <| ai <| ah <| aF rfl (fun c35 => ?_) (fun c35 => ?_)
  ·replace H := bf c35 H;refine aL <| ah <| bh <| ah ?_;obtain ⟨g36, H⟩ := ba H;obtain ⟨x37, e38, H⟩ := cd H;refine ac ?_;show AR _ _ _ _ _ [0, 1, 2, 3] _;refine zS rfl (cb (E := (aG Enc.int (aG (Enc.sl Enc.str) (aG Enc.int (aG Enc.int Enc.int))))) cj (by kernel_rfl) rfl rfl g36 e38) <| zS rfl (aR be rfl (n := 5) (by kernel_rfl) rfl (aa rfl)) <| zX rfl (bH (zs := [.int .i64 0, .slice none 0 0, .int .i64 0, .int .i64 0, .int .i64 0]) (by kernel_rfl)) ?_;rintro _ _ ⟨o39, rfl, rfl⟩;refine s0 rfl rfl (aQ (i := 0) (vs := [i64 x37.1, slE Enc.str x37.2.1 none, i64 x37.2.2.1, i64 x37.2.2.2.1, i64 x37.2.2.2.2]) (by kernel_rfl) rfl rfl (by simp [bo, slE]) rfl (aa rfl)) <| ec 8 0 rfl rfl ?_;show AR _ _ _ _ _ _ ⟨_, _, [.obj o18 [i64 y29, i64 y30, S a3, S a4, S a5, slE Enc.byte a6 none, slE Enc.byte y31 (some t32)], .obj o16 [i64 0, i64 0, S ([] : List UInt8), S ([] : List UInt8), S ([] : List UInt8), fm], .tok t32 5]⟩;refine ai ?_;obtain ⟨x40, x41, x42, e43, H⟩ := fW H;refine ac ?_;show AR _ _ _ _ _ [0, 1, 2] _;refine zS rfl (ak (av := .pt _ _) rfl) <| zS rfl (aR be rfl (n := 5) (by kernel_rfl) rfl (aa rfl)) <| an rfl rfl (cf [0, 1] rfl ol rfl (nA F o18 y29 y30 a3 a4 a5 a6 y31 t32 x37.1 x37.2.1 x37.2.2.1 x37.2.2.2.1 x37.2.2.2.2 x40 x41 x42 e43) rfl (fun c A' h => by cases h.1) ?_)
   rintro av A' ⟨h, t44, rfl⟩; cases h
   refine ai ?_;obtain ⟨g45, H⟩ := ba H;refine ac ?_;show AR _ _ _ _ _ [0, 1] _;refine zS rfl (eJ rfl rfl g45) <| zm rfl <| ai ?_;exact Exists.intro (n34, y28 + 1, x40, x41, x42, t44) ⟨H, Nat.lt_succ_self _, bc [0, 1, 0] (.cons (.refl _) (.cons (.refl _) (.cons (.refl _) (.cons (.refl _) (.cons (.refl _) (.nil _)))))) rfl⟩
  ·replace H := aZ c35 H;refine dd ?_;exact Exists.intro (y29, y30, y31, t32) ⟨H, bc [0, 0, 0] (.cons (.refl _) (.cons (.refl _) (.nil _))) rfl⟩
 rintro ⟨y46, y47, y48, t49⟩ H;replace H : jG F a3 a4 a5 a6 y46 y47 y48 = some (r9, r10, r11, r12, r13, r14, r15) := H
 unfold jG at H
 refine bX (X := Int × Int) (fun (y55, y56) => ⟨[(4, .pt o16 0), (6, .pt o18 0)], [], [.obj o18 [i64 y55, i64 y56, S a3, S a4, S a5, slE Enc.byte a6 none, slE Enc.byte y48 (some t49)], .obj o16 [i64 0, i64 0, S ([] : List UInt8), S ([] : List UInt8), S ([] : List UInt8), fm], .tok t49 5]⟩) (fun (y55, y56) => iD a3 a4 a5 a6 y48 y55 y56 = some (r9, r10, r11, r12, r13, r14, r15)) ?_ ?_
 ·refine ah <| ac ?_;show AR _ _ _ _ _ [0, 1, 2, 3, 4, 5] _;refine zS rfl (ak (av := .pt _ _) rfl) <| zS rfl (am rfl) <| zS rfl (ag (n := 0) (by kernel_rfl) rfl) <| zS rfl (ag (n := 0) (by kernel_rfl) rfl) <| zR rfl (al (i := 0) aq rfl rfl rfl rfl) <| zS rfl (fT rfl rfl) <| ai <| aF rfl (fun c51 => ?_) (fun c51 => ?_)
  ·replace H := bf c51 H;obtain ⟨x52, x53, e54, H⟩ := dJ H;refine ac ?_;show AR _ _ _ _ _ [0, 1] _;refine zS rfl (ak (av := .pt _ _) rfl) <| an rfl rfl (cf [0, 1] rfl lH rfl (lC F o18 y46 y47 a3 a4 a5 a6 y48 t49 x52 x53 e54) rfl (fun c A' h => by cases h.1) ?_)
   rintro av A' ⟨h, rfl⟩; cases h
   refine ai ?_;exact Exists.intro (x52, x53) ⟨H, bc [0, 1, 0] (.cons (.refl _) (.cons (.refl _) (.nil _))) rfl⟩
  ·replace H := aZ c51 H;refine aL ?_;exact Exists.intro (y46, y47) ⟨H, bc [0, 0, 0] (.cons (.refl _) (.cons (.refl _) (.nil _))) rfl⟩
 rintro ⟨y55, y56⟩ H;replace H : iD a3 a4 a5 a6 y48 y55 y56 = some (r9, r10, r11, r12, r13, r14, r15) := H
 unfold iD at H
 refine ah <| br (by kernel_rfl) ?_;show AI _ _ _ _ _ 10 (Array.replicate 10 false) _;refine zk 0 rfl (ak (av := .pt _ _) rfl) ?_;show AI _ _ _ _ _ _ #[true, false, false, false, false, false, false, false, false, false] _;refine zk 1 rfl (am rfl) ?_;show AI _ _ _ _ _ _ #[true, true, false, false, false, false, false, false, false, false] _;refine zk 2 rfl (ag (n := 0) (by kernel_rfl) rfl) ?_;show AI _ _ _ _ _ _ #[true, true, true, false, false, false, false, false, false, false] _;refine zk 4 rfl (ak (av := .pt _ _) rfl) ?_;show AI _ _ _ _ _ _ #[true, true, true, false, true, false, false, false, false, false] _;refine zk 5 rfl (am rfl) ?_;show AI _ _ _ _ _ _ #[true, true, true, false, true, true, false, false, false, false] _;refine zk 6 rfl (ag (n := 6) (by kernel_rfl) rfl) ?_;show AI _ _ _ _ _ _ #[true, true, true, false, true, true, true, false, false, false] _;refine cB (i := 3) (j := 7) (by kernel_rfl) rfl rfl rfl rfl ?_ ?_
 ·refine aN rfl (bx (i := 0) (n := 6) au rfl (by kernel_rfl) rfl rfl (aa rfl)) ?_;show AI _ _ _ _ _ _ #[true, true, true, true, true, true, true, false, false, false] _;refine cB (i := 7) (j := 8) (by kernel_rfl) rfl rfl rfl rfl ?_ ?_
  ·refine aN rfl (al (i := 0) ab rfl rfl rfl rfl) ?_;show AI _ _ _ _ _ _ #[true, true, true, true, true, true, true, true, false, false] _;refine aK (i := 8) (by kernel_rfl) rfl rfl <| bZ (aQ (i := 1) (vs := [i64 y55, i64 y56, S a3, S a4, S a5, slE Enc.byte a6 none]) (by kernel_rfl) rfl rfl (by simp [bo, slE]) rfl (aa rfl)) ?_;show AI _ _ _ _ _ _ #[true, true, true, true, true, true, true, true, true, false] _;refine zk 9 rfl (aA (av := slE _ _ _) rfl) ?_;show AI _ _ _ _ _ _ #[true, true, true, true, true, true, true, true, true, true] _;refine bi rfl <| aU ?_;obtain ⟨rfl, rfl, rfl, rfl, rfl, rfl, rfl⟩ := jU H;exact And.intro rfl (Exists.intro _ (Exists.intro _ ⟨bR (bU rfl (bV (off := 0) (cs := [i64 y55, i64 y56, S a3, S a4, S a5, slE Enc.byte a6 none]) (n := 6) 1 au rfl (by kernel_rfl) rfl rfl (aa rfl)) ((show PlaceV _ _ _ (.tmp _) _ from (.tok _ _ _)))), aI [] rfl, rfl, rfl⟩))
  ·refine bZ (aQ (i := 1) (vs := [i64 y55, i64 y56, S a3, S a4, S a5, slE Enc.byte a6 none]) (by kernel_rfl) rfl rfl (by simp [bo, slE]) rfl (aa rfl)) ?_;show AI _ _ _ _ _ _ #[true, true, true, true, true, true, true, false, true, false] _;refine aK (i := 7) (by kernel_rfl) rfl rfl <| aN rfl (al (i := 0) ab rfl rfl rfl rfl) ?_;show AI _ _ _ _ _ _ #[true, true, true, true, true, true, true, true, true, false] _;refine zk 9 rfl (aA (av := slE _ _ _) rfl) ?_;show AI _ _ _ _ _ _ #[true, true, true, true, true, true, true, true, true, true] _;refine bi rfl <| aU ?_;obtain ⟨rfl, rfl, rfl, rfl, rfl, rfl, rfl⟩ := jU H;exact And.intro rfl (Exists.intro _ (Exists.intro _ ⟨bR (bU rfl (bV (off := 0) (cs := [i64 y55, i64 y56, S a3, S a4, S a5, slE Enc.byte a6 none]) (n := 6) 1 au rfl (by kernel_rfl) rfl rfl (aa rfl)) ((show PlaceV _ _ _ (.tmp _) _ from (.tok _ _ _)))), aI [] rfl, rfl, rfl⟩))
 ·refine aN rfl (al (i := 0) ab rfl rfl rfl rfl) ?_;show AI _ _ _ _ _ _ #[true, true, true, false, true, true, true, true, false, false] _;refine aK (i := 3) (by kernel_rfl) rfl rfl <| aN rfl (bx (i := 0) (n := 6) au rfl (by kernel_rfl) rfl rfl (aa rfl)) ?_;show AI _ _ _ _ _ _ #[true, true, true, true, true, true, true, true, false, false] _;refine aK (i := 8) (by kernel_rfl) rfl rfl <| bZ (aQ (i := 1) (vs := [i64 y55, i64 y56, S a3, S a4, S a5, slE Enc.byte a6 none]) (by kernel_rfl) rfl rfl (by simp [bo, slE]) rfl (aa rfl)) ?_;show AI _ _ _ _ _ _ #[true, true, true, true, true, true, true, true, true, false] _;refine zk 9 rfl (aA (av := slE _ _ _) rfl) ?_;show AI _ _ _ _ _ _ #[true, true, true, true, true, true, true, true, true, true] _;refine bi rfl <| aU ?_;obtain ⟨rfl, rfl, rfl, rfl, rfl, rfl, rfl⟩ := jU H;exact And.intro rfl (Exists.intro _ (Exists.intro _ ⟨bR (bU rfl (bV (off := 0) (cs := [i64 y55, i64 y56, S a3, S a4, S a5, slE Enc.byte a6 none]) (n := 6) 1 au rfl (by kernel_rfl) rfl rfl (aa rfl)) ((show PlaceV _ _ _ (.tmp _) _ from (.tok _ _ _)))), aI [] rfl, rfl, rfl⟩))
end Go.Proofs.YtgjkjkmmgdbcoaaGreatDoor
namespace Go.Pv
def qZ : List UInt8 := [69, 72, 76, 79, 32, 104, 13, 10, 77, 65, 73, 76, 32, 70, 82, 79, 77, 58, 60, 97, 64, 98, 62, 13, 10, 82, 67, 80, 84, 32, 84, 79, 58, 60, 99, 64, 100, 62, 13, 10, 68, 65, 84, 65, 13, 10, 120, 13, 10, 46, 13, 10, 81, 85, 73, 84, 13, 10]
def kn (F : Nat) : Option ((List UInt8)) :=
some ([50, 50, 48, 32, 97, 13, 10, 50, 53, 48, 45, 97, 13, 10, 50, 53] ++ [48, 32, 83, 73, 90, 69, 32, 49, 48, 48, 48, 48, 48, 13, 10, 50] ++ [53, 48, 32, 111, 107, 13, 10, 50, 53, 48, 32, 111, 107, 13, 10, 51] ++ [53, 52, 32, 103, 111, 13, 10, 50, 53, 48, 32, 111, 107, 13, 10, 50] ++ [50, 49, 32, 98, 121, 101, 13, 10] : List UInt8)
def fH (x3 : Int × Int × (List UInt8) × (List UInt8) × (List UInt8) × (List UInt8) × Int) (y14 : List UInt8) (y15 : Int) (y16 : Int) (y17 : List UInt8) (y18 : List UInt8) (y19 : List UInt8) (y20 : List UInt8) : Option Bool :=
some ((((decide (x3.2.2.2.2.2.2 = 0)) && (decide (y16 = 1))) && (decide (y15 = 7))) && (decide (y14 = qZ)))
def gy (F : Nat) : Option Bool :=
bnd (ne F ([97, 64, 98] : List UInt8) ([99, 64, 100] : List UInt8) ([104] : List UInt8) ([120, 13, 10] : List UInt8)) fun x3 =>
bnd (kn F) fun x6 =>
bnd (qL F x3.1 x3.2.1 x3.2.2.1 x3.2.2.2.1 x3.2.2.2.2.1 x3.2.2.2.2.2.1 x6) fun x8 =>
fH x3 x8.2.2.2.2.2.2 x8.1 x8.2.1 x8.2.2.1 x8.2.2.2.1 x8.2.2.2.2.1 x8.2.2.2.2.2.1
def iB (F : Nat) (a1 : Int) (a2 : Int) (a3 : List UInt8) (a4 : List UInt8) (a5 : List UInt8) (a6 : List UInt8) : Option Bool :=
some ((((decide ((a3.length : Int) ≤ 100)) && (decide ((a4.length : Int) ≤ 100))) && (decide ((a5.length : Int) ≤ 100))) && (decide ((a6.length : Int) ≤ 600)))
def ge (F : Nat) (a1 : Int) (a2 : Int) (a3 : List UInt8) (a4 : List UInt8) (a5 : List UInt8) (a6 : List UInt8) (a7 : Int) (a8 : Int) (a9 : List UInt8) (a10 : List UInt8) (a11 : List UInt8) (a12 : List UInt8) : Option Bool :=
some ((((((decide (a1 = a7)) && (decide (a2 = a8))) && (decide (a3 = a9))) && (decide (a4 = a10))) && (decide (a5 = a11))) && (decide (a6 = a12)))
def eY (a1 : List UInt8) : Option Bool :=
dP (!(decide ((a1.length : Int) = 0))) (okI ((a1.length : Int) - 1)) <|
dP (!(decide ((a1.length : Int) = 0))) (cI ((a1.length : Int) - 1) a1.length) <|
lt (at_ a1 ((a1.length : Int) - 1)) fun x34 =>
some ((decide ((a1.length : Int) = 0)) || (decide (x34 = 10)))
def fN (a1 : List UInt8) (rec5 : Int → Option Bool) (y4 : Int) : Option Bool :=
bif decide (y4 < (a1.length : Int)) then
  grd (cI y4 a1.length) <|
  lt (at_ a1 y4) fun x9 =>
  dP (decide (x9 = 13)) (okI (y4 + 1)) <|
  dP ((decide (x9 = 13)) && (!(decide ((a1.length : Int) ≤ y4 + 1)))) (okI (y4 + 1)) <|
  dP ((decide (x9 = 13)) && (!(decide ((a1.length : Int) ≤ y4 + 1)))) (cI (y4 + 1) a1.length) <|
  lt (at_ a1 (y4 + 1)) fun x16 =>
  dP (!((decide (x9 = 13)) && ((decide ((a1.length : Int) ≤ y4 + 1)) || (!decide (x16 = 10))))) (cI y4 a1.length) <|
  lt (at_ a1 y4) fun x20 =>
  dP (((!((decide (x9 = 13)) && ((decide ((a1.length : Int) ≤ y4 + 1)) || (!decide (x16 = 10))))) && (decide (x20 = 10))) && (!(decide (y4 = 0)))) (okI (y4 - 1)) <|
  dP (((!((decide (x9 = 13)) && ((decide ((a1.length : Int) ≤ y4 + 1)) || (!decide (x16 = 10))))) && (decide (x20 = 10))) && (!(decide (y4 = 0)))) (cI (y4 - 1) a1.length) <|
  lt (at_ a1 (y4 - 1)) fun x26 =>
  bif ((decide (x9 = 13)) && ((decide ((a1.length : Int) ≤ y4 + 1)) || (!decide (x16 = 10)))) || ((decide (x20 = 10)) && ((decide (y4 = 0)) || (!decide (x26 = 13)))) then
    some false
  else
    grd (okI (y4 + 1)) <|
    rec5 (y4 + 1)
else
  eY a1
def fM (a1 : List UInt8) (n : Nat) : Int → Option Bool :=
  loop (fun rec x => fN a1 rec x) n
def iz (F : Nat) (a1 : List UInt8) : Option Bool :=
fM a1 F 0
def eK (y40 : List UInt8) : Option ((List UInt8) × Int) :=
grd (dF (y40.length + ([46, 13, 10] : List UInt8).length)) <|
lt (y40 ++ ([46, 13, 10] : List UInt8)) fun x45 =>
some (x45, 0)
def dr (a1 : List UInt8) (y11 : Int) (rec12 : ((List UInt8) × Int) → Option ((List UInt8) × Int)) (y29 : List UInt8) : Option ((List UInt8) × Int) :=
grd (cI y11 a1.length) <|
lt (at_ a1 y11) fun x33 =>
grd (dF (y29.length + ([x33] : List UInt8).length)) <|
lt (y29 ++ ([x33] : List UInt8)) fun x37 =>
grd (okI (y11 + 1)) <|
rec12 (x37, y11 + 1)
def eL (a1 : List UInt8) (rec12 : ((List UInt8) × Int) → Option ((List UInt8) × Int)) (y9 : List UInt8) (y11 : Int) : Option ((List UInt8) × Int) :=
bif decide (y11 < (a1.length : Int)) then
  grd (cI y11 a1.length) <|
  lt (at_ a1 y11) fun x16 =>
  dP ((decide (x16 = 46)) && (!(decide (y11 = 0)))) (okI (y11 - 1)) <|
  dP ((decide (x16 = 46)) && (!(decide (y11 = 0)))) (cI (y11 - 1) a1.length) <|
  lt (at_ a1 (y11 - 1)) fun x22 =>
  bif (decide (x16 = 46)) && ((decide (y11 = 0)) || (decide (x22 = 10))) then
    grd (dF (y9.length + ([46] : List UInt8).length)) <|
    lt (y9 ++ ([46] : List UInt8)) fun x27 =>
    dr a1 y11 rec12 x27
  else
    dr a1 y11 rec12 y9
else
  eK y9
def cW (a1 : List UInt8) (n : Nat) : ((List UInt8) × Int) → Option ((List UInt8) × Int) :=
  loop (fun rec x => eL a1 rec x.1 x.2) n
def gu (F : Nat) (a1 : List UInt8) : Option ((List UInt8) × Int) :=
bnd (iz F a1) fun x5 =>
bif !x5 then
  some ([], 1)
else
  cW a1 F ([], 0)
end Go.Pv
namespace Go.Proofs.YtgjkjkmmgdbcoaaGreatDoor
open Go.RowKit Go.Av Go.Pv
theorem sh : ∀ (args : Array Value) (w : World), (callFunc 12 args).run Tryz.prog w = .ok (.enter 12 args) w := fun _ _ => by kernel_rfl
theorem lK : ∀ (args : Array Value) (w : World), (callFunc 15 args).run Tryz.prog w = .ok (.enter 15 args) w := fun _ _ => by kernel_rfl
theorem oq : ∀ (args : Array Value) (w : World), (callFunc 26 args).run Tryz.prog w = .ok (.enter 26 args) w := fun _ _ => by kernel_rfl
theorem sb : ∀ (args : Array Value) (w : World), (callFunc 33 args).run Tryz.prog w = .ok (.enter 33 args) w := fun _ _ => by kernel_rfl
set_option maxRecDepth 100000 in
set_option maxHeartbeats 1000000 in
theorem kO (F : Nat) (r1 : List UInt8) (H : kn F = some r1) : ACalls Tryz.prog 26 [] [] (Ret (slE Enc.byte r1 none) []) := by
 unfold kn at H
 refine az Tryz.func26 rfl rfl ?_;show AW _ _ 3 _ _ _;refine ah <| ac ?_;show AR _ _ _ _ _ [0] _;refine za rfl <| ai <| ah <| ac ?_;show AR _ _ _ _ _ [0, 1, 2] _;refine zX rfl (gh (E := Enc.byte) (bytes := 1) (xs := [.const _, .const _, .const _, .const _, .const _, .const _, .const _, .const _, .const _, .const _, .const _, .const _, .const _, .const _, .const _, .const _] ++ [.const _, .const _, .const _, .const _, .const _, .const _, .const _, .const _, .const _, .const _, .const _, .const _, .const _, .const _, .const _, .const _] ++ [.const _, .const _, .const _, .const _, .const _, .const _, .const _, .const _, .const _, .const _, .const _, .const _, .const _, .const _, .const _, .const _] ++ [.const _, .const _, .const _, .const _, .const _, .const _, .const _, .const _, .const _, .const _, .const _, .const _, .const _, .const _, .const _, .const _] ++ [.const _, .const _, .const _, .const _, .const _, .const _, .const _, .const _]) (l := ([50, 50, 48, 32, 97, 13, 10, 50, 53, 48, 45, 97, 13, 10, 50, 53] ++ [48, 32, 83, 73, 90, 69, 32, 49, 48, 48, 48, 48, 48, 13, 10, 50] ++ [53, 48, 32, 111, 107, 13, 10, 50, 53, 48, 32, 111, 107, 13, 10, 51] ++ [53, 52, 32, 103, 111, 13, 10, 50, 53, 48, 32, 111, 107, 13, 10, 50] ++ [50, 49, 32, 98, 121, 101, 13, 10] : List UInt8)) ab (by kernel_rfl) rfl rfl (by decide) rfl rfl) ?_;rintro _ _ ⟨t2, rfl, rfl⟩;refine zR rfl (ez 0 ab aJ rfl (by simp) rfl) <| zS rfl (aA (av := slE _ _ _) rfl) <| ai <| aU ?_
 obtain rfl := aC H;exact And.intro rfl (Exists.intro _ (Exists.intro _ ⟨aW rfl (.tok _ _ _), aI [] rfl, rfl, rfl⟩))
set_option maxRecDepth 100000 in
set_option maxHeartbeats 1000000 in
theorem nl (F : Nat) (r1 : Bool) (H : gy F = some r1) : ACalls Tryz.prog 10 [] [] (Ret (B r1) []) := by
 unfold gy at H
 refine az Tryz.func10 rfl rfl ?_;show AW _ _ 34 _ _ _;refine ah <| ac ?_;show AR _ _ _ _ _ [0] _;refine za rfl <| ai <| ah ?_;obtain ⟨x3, e4, H⟩ := cH H;refine ac ?_;show AR _ _ _ _ _ [0, 1, 2, 3, 4, 5, 6, 7, 8] _;refine zX rfl (gh (E := Enc.byte) (bytes := 1) (xs := [.const _, .const _, .const _]) (l := ([120, 13, 10] : List UInt8)) ab (by kernel_rfl) rfl rfl (by decide) rfl rfl) ?_;rintro _ _ ⟨t2, rfl, rfl⟩;refine zR rfl (ez 0 ab aJ rfl (by simp) rfl) <| an rfl rfl (aV rfl sh rfl (qg F ([97, 64, 98] : List UInt8) ([99, 64, 100] : List UInt8) ([104] : List UInt8) ([120, 13, 10] : List UInt8) (some t2) x3.1 x3.2.1 x3.2.2.1 x3.2.2.2.1 x3.2.2.2.2.1 x3.2.2.2.2.2.1 x3.2.2.2.2.2.2 e4) ?_);refine zS rfl (ak (av := .tup _) rfl) <| zS rfl (aM (av := .agg _) rfl rfl) <| zS rfl (aM (av := .v _) rfl rfl) <| zX rfl (bH (zs := [.int .i64 0, .int .i64 0, .string ⟨#[]⟩, .string ⟨#[]⟩, .string ⟨#[]⟩, .slice none 0 0]) (by kernel_rfl)) ?_;rintro _ _ ⟨o5, rfl, rfl⟩;refine s0 rfl rfl (aQ (i := 0) (vs := [i64 x3.1, i64 x3.2.1, S x3.2.2.1, S x3.2.2.2.1, S x3.2.2.2.2.1, slE Enc.byte x3.2.2.2.2.2.1 none]) (by kernel_rfl) rfl rfl (by simp [bo, slE]) rfl (aa rfl)) <| ec 1 0 rfl rfl ?_;show AR _ _ _ _ _ _ ⟨_, _, [.tok t2 5]⟩
 refine za rfl <| ai <| bX (X := Nat × (List UInt8) × Int × Int × (List UInt8) × (List UInt8) × (List UInt8) × (List UInt8)) (fun (o13, y14, y15, y16, y17, y18, y19, y20) => ⟨[(2, i64 x3.2.2.2.2.2.2), (3, .pt o13 0), (4, slE Enc.byte y14 none)], [], [.obj o13 [i64 y15, i64 y16, S y17, S y18, S y19, slE Enc.byte y20 none]]⟩) (fun (o13, y14, y15, y16, y17, y18, y19, y20) => fH x3 y14 y15 y16 y17 y18 y19 y20 = some r1) ?_ ?_
 ·obtain ⟨x6, e7, H⟩ := cH H;obtain ⟨x8, e9, H⟩ := cH H;refine br (by kernel_rfl) ?_;show AI _ _ _ _ _ 9 (Array.replicate 9 false) _;refine zk 0 rfl (aR au rfl (n := 6) (by kernel_rfl) rfl (aa rfl)) ?_;show AI _ _ _ _ _ _ #[true, false, false, false, false, false, false, false, false] _;refine cB (i := 1) (j := 6) (by kernel_rfl) rfl rfl rfl rfl ?_ ?_
  ·refine bM rfl oq rfl (kO F x6 e7) ?_;show AI _ _ _ _ _ _ #[true, true, false, false, false, false, false, false, false] _;refine cB (i := 2) (j := 6) (by kernel_rfl) rfl rfl rfl rfl ?_ ?_
   ·refine bM rfl lK rfl (mU F x3.1 x3.2.1 x3.2.2.1 x3.2.2.2.1 x3.2.2.2.2.1 x3.2.2.2.2.2.1 x6 none x8.1 x8.2.1 x8.2.2.1 x8.2.2.2.1 x8.2.2.2.2.1 x8.2.2.2.2.2.1 x8.2.2.2.2.2.2 e9) ?_;show AI _ _ _ _ _ _ #[true, true, true, false, false, false, false, false, false] _;refine zk 3 rfl (ak (av := .tup _) rfl) ?_;show AI _ _ _ _ _ _ #[true, true, true, true, false, false, false, false, false] _;refine zk 4 rfl (aM (av := .agg _) rfl rfl) ?_;show AI _ _ _ _ _ _ #[true, true, true, true, true, false, false, false, false] _;refine zk 5 rfl (aM (av := slE _ _ _) rfl rfl) ?_;show AI _ _ _ _ _ _ #[true, true, true, true, true, true, false, false, false] _;refine aK (i := 6) (by kernel_rfl) rfl rfl <| AIO.opx rfl (bH (zs := [.int .i64 0, .int .i64 0, .string ⟨#[]⟩, .string ⟨#[]⟩, .string ⟨#[]⟩, .slice none 0 0]) (by kernel_rfl)) ?_;rintro _ _ ⟨o10, rfl, rfl⟩;show AI _ _ _ _ _ _ #[true, true, true, true, true, true, true, false, false] _;refine aK (i := 7) (by kernel_rfl) rfl rfl <| bZ (aQ (i := 0) (vs := [i64 x8.1, i64 x8.2.1, S x8.2.2.1, S x8.2.2.2.1, S x8.2.2.2.2.1, slE Enc.byte x8.2.2.2.2.2.1 none]) (by kernel_rfl) rfl rfl (by simp [bo, slE]) rfl (aa rfl)) ?_;show AI _ _ _ _ _ _ #[true, true, true, true, true, true, true, true, false] _;refine zk 8 rfl (aA (av := slE _ _ _) rfl) ?_;show AI _ _ _ _ _ _ #[true, true, true, true, true, true, true, true, true] _;refine bi rfl ?_
    exact Exists.intro (o10, x8.2.2.2.2.2.2, x8.1, x8.2.1, x8.2.2.1, x8.2.2.2.1, x8.2.2.2.2.1, x8.2.2.2.2.2.1) ⟨H, bc [0] (.cons (.refl _) (.cons (.refl _) (.cons (.refl _) (.nil _)))) rfl⟩
   ·refine AIO.opx rfl (bH (zs := [.int .i64 0, .int .i64 0, .string ⟨#[]⟩, .string ⟨#[]⟩, .string ⟨#[]⟩, .slice none 0 0]) (by kernel_rfl)) ?_;rintro _ _ ⟨o11, rfl, rfl⟩;show AI _ _ _ _ _ _ #[true, true, false, false, false, false, true, false, false] _;refine aK (i := 2) (by kernel_rfl) rfl rfl <| bM rfl lK rfl (mU F x3.1 x3.2.1 x3.2.2.1 x3.2.2.2.1 x3.2.2.2.2.1 x3.2.2.2.2.2.1 x6 none x8.1 x8.2.1 x8.2.2.1 x8.2.2.2.1 x8.2.2.2.2.1 x8.2.2.2.2.2.1 x8.2.2.2.2.2.2 e9) ?_;show AI _ _ _ _ _ _ #[true, true, true, false, false, false, true, false, false] _;refine zk 3 rfl (ak (av := .tup _) rfl) ?_;show AI _ _ _ _ _ _ #[true, true, true, true, false, false, true, false, false] _;refine zk 4 rfl (aM (av := .agg _) rfl rfl) ?_;show AI _ _ _ _ _ _ #[true, true, true, true, true, false, true, false, false] _;refine zk 5 rfl (aM (av := slE _ _ _) rfl rfl) ?_;show AI _ _ _ _ _ _ #[true, true, true, true, true, true, true, false, false] _;refine aK (i := 7) (by kernel_rfl) rfl rfl <| bZ (aQ (i := 0) (vs := [i64 x8.1, i64 x8.2.1, S x8.2.2.1, S x8.2.2.2.1, S x8.2.2.2.2.1, slE Enc.byte x8.2.2.2.2.2.1 none]) (by kernel_rfl) rfl rfl (by simp [bo, slE]) rfl (aa rfl)) ?_;show AI _ _ _ _ _ _ #[true, true, true, true, true, true, true, true, false] _;refine zk 8 rfl (aA (av := slE _ _ _) rfl) ?_;show AI _ _ _ _ _ _ #[true, true, true, true, true, true, true, true, true] _;refine bi rfl ?_
    exact Exists.intro (o11, x8.2.2.2.2.2.2, x8.1, x8.2.1, x8.2.2.1, x8.2.2.2.1, x8.2.2.2.2.1, x8.2.2.2.2.2.1) ⟨H, bc [0] (.cons (.refl _) (.cons (.refl _) (.cons (.refl _) (.nil _)))) rfl⟩
  ·refine AIO.opx rfl (bH (zs := [.int .i64 0, .int .i64 0, .string ⟨#[]⟩, .string ⟨#[]⟩, .string ⟨#[]⟩, .slice none 0 0]) (by kernel_rfl)) ?_;rintro _ _ ⟨o12, rfl, rfl⟩;show AI _ _ _ _ _ _ #[true, false, false, false, false, false, true, false, false] _;refine aK (i := 1) (by kernel_rfl) rfl rfl <| bM rfl oq rfl (kO F x6 e7) ?_;show AI _ _ _ _ _ _ #[true, true, false, false, false, false, true, false, false] _;refine aK (i := 2) (by kernel_rfl) rfl rfl <| bM rfl lK rfl (mU F x3.1 x3.2.1 x3.2.2.1 x3.2.2.2.1 x3.2.2.2.2.1 x3.2.2.2.2.2.1 x6 none x8.1 x8.2.1 x8.2.2.1 x8.2.2.2.1 x8.2.2.2.2.1 x8.2.2.2.2.2.1 x8.2.2.2.2.2.2 e9) ?_;show AI _ _ _ _ _ _ #[true, true, true, false, false, false, true, false, false] _;refine zk 3 rfl (ak (av := .tup _) rfl) ?_;show AI _ _ _ _ _ _ #[true, true, true, true, false, false, true, false, false] _;refine zk 4 rfl (aM (av := .agg _) rfl rfl) ?_;show AI _ _ _ _ _ _ #[true, true, true, true, true, false, true, false, false] _;refine zk 5 rfl (aM (av := slE _ _ _) rfl rfl) ?_;show AI _ _ _ _ _ _ #[true, true, true, true, true, true, true, false, false] _;refine aK (i := 7) (by kernel_rfl) rfl rfl <| bZ (aQ (i := 0) (vs := [i64 x8.1, i64 x8.2.1, S x8.2.2.1, S x8.2.2.2.1, S x8.2.2.2.2.1, slE Enc.byte x8.2.2.2.2.2.1 none]) (by kernel_rfl) rfl rfl (by simp [bo, slE]) rfl (aa rfl)) ?_;show AI _ _ _ _ _ _ #[true, true, true, true, true, true, true, true, false] _;refine zk 8 rfl (aA (av := slE _ _ _) rfl) ?_
   show AI _ _ _ _ _ _ #[true, true, true, true, true, true, true, true, true] _;refine bi rfl ?_;exact Exists.intro (o12, x8.2.2.2.2.2.2, x8.1, x8.2.1, x8.2.2.1, x8.2.2.2.1, x8.2.2.2.2.1, x8.2.2.2.2.2.1) ⟨H, bc [0] (.cons (.refl _) (.cons (.refl _) (.cons (.refl _) (.nil _)))) rfl⟩
 rintro ⟨o13, y14, y15, y16, y17, y18, y19, y20⟩ H;replace H : fH x3 y14 y15 y16 y17 y18 y19 y20 = some r1 := H
 unfold fH at H
 refine ah <| ac ?_;show AR _ _ _ _ _ [0, 1, 2, 3, 4, 5, 6, 7, 8, 9, 10, 11, 12, 13, 14, 15, 16, 17] _;refine zm rfl <| zS rfl (bw rfl rfl) <| zm rfl <| aP (l := [7, 8, 9, 10, 11, 12, 13, 14, 15, 16, 17]) 23 (B ((decide (x3.2.2.2.2.2.2 = 0)) && (decide (y16 = 1)))) (fun K => ?_) ?_
 ·rcases af (decide (x3.2.2.2.2.2.2 = 0)) with h22 | h22
  ·refine zU h22 rfl (ag (n := 1) (by kernel_rfl) rfl) <| zT h22 rfl (bJ rfl rfl (al (i := 0) aq rfl rfl rfl rfl) ?_);refine zU h22 rfl (bw rfl rfl) <| zS rfl (ay (av := .v _) rfl h22 rfl) ?_;exact K _ 3 _ (ap (bK h22)) rfl rfl
  ·refine zF h22 rfl <| zF h22 rfl <| zF h22 rfl <| zS rfl (aw (av := .v _) rfl h22 rfl) ?_;exact K _ 3 _ (ap (bL h22)) rfl rfl
 refine zm rfl <| aP (l := [12, 13, 14, 15, 16, 17]) 28 (B (((decide (x3.2.2.2.2.2.2 = 0)) && (decide (y16 = 1))) && (decide (y15 = 7)))) (fun K => ?_) ?_
 ·rcases af ((decide (x3.2.2.2.2.2.2 = 0)) && (decide (y16 = 1))) with h23 | h23
  ·refine zU h23 rfl (ag (n := 0) (by kernel_rfl) rfl) <| zT h23 rfl (bJ rfl rfl (al (i := 0) aq rfl rfl rfl rfl) ?_);refine zU h23 rfl (bw rfl rfl) <| zS rfl (ay (av := .v _) rfl h23 rfl) ?_;exact K _ 3 _ (ap (bK h23)) rfl rfl
  ·refine zF h23 rfl <| zF h23 rfl <| zF h23 rfl <| zS rfl (aw (av := .v _) rfl h23 rfl) ?_;exact K _ 3 _ (ap (bL h23)) rfl rfl
 refine zm rfl <| aP (l := [17]) 33 (B ((((decide (x3.2.2.2.2.2.2 = 0)) && (decide (y16 = 1))) && (decide (y15 = 7))) && (decide (y14 = qZ)))) (fun K => ?_) ?_
 ·rcases af (((decide (x3.2.2.2.2.2.2 = 0)) && (decide (y16 = 1))) && (decide (y15 = 7))) with h24 | h24
  ·refine zU h24 rfl (ak (av := slE _ _ _) rfl) <| zU h24 rfl (cm ab aJ aj rfl) <| zU h24 rfl (fU rfl rfl) <| zS rfl (ay (av := .v _) rfl h24 rfl) ?_;exact K _ 3 _ (ap (bK h24)) rfl rfl
  ·refine zF h24 rfl <| zF h24 rfl <| zF h24 rfl <| zS rfl (aw (av := .v _) rfl h24 rfl) ?_;exact K _ 3 _ (ap (bL h24)) rfl rfl
 refine za rfl <| ai <| aU ?_;obtain rfl := aC H;exact And.intro rfl (Exists.intro _ (Exists.intro _ ⟨aW rfl (.refl _), aI [] rfl, rfl, rfl⟩))
set_option maxRecDepth 100000 in
set_option maxHeartbeats 1000000 in
theorem pl (F : Nat) (a1 : Int) (a2 : Int) (a3 : List UInt8) (a4 : List UInt8) (a5 : List UInt8) (a6 : List UInt8) (r7 : Bool) (H : iB F a1 a2 a3 a4 a5 a6 = some r7) : ACalls Tryz.prog 11 [.agg [i64 a1, i64 a2, S a3, S a4, S a5, slE Enc.byte a6 none]] [] (Ret (B r7) []) := by
 unfold iB at H
 refine az Tryz.func11 rfl rfl ?_;show AW _ _ 25 _ _ _;refine ah <| ac ?_;show AR _ _ _ _ _ [0, 1] _;refine zR rfl (ce rfl (.inr ⟨_, rfl⟩)) <| za rfl <| ai <| ah <| ac ?_;show AR _ _ _ _ _ [0, 1, 2, 3, 4, 5, 6, 7, 8, 9, 10, 11, 12, 13, 14, 15, 16, 17, 18, 19, 20, 21, 22] _;refine zS rfl (aH (n := 2) (by kernel_rfl) rfl (aa rfl)) <| zS rfl (aE aj rfl rfl) <| zS rfl (bn aj rfl) <| zS rfl (dj rfl rfl) <| zm rfl <| aP (l := [10, 11, 12, 13, 14, 15, 16, 17, 18, 19, 20, 21, 22]) 12 (B ((decide ((a3.length : Int) ≤ 100)) && (decide ((a4.length : Int) ≤ 100)))) (fun K => ?_) ?_
 ·rcases af (decide ((a3.length : Int) ≤ 100)) with h8 | h8
  ·refine zU h8 rfl (aH (n := 3) (by kernel_rfl) rfl (aa rfl)) <| zU h8 rfl (aE aj rfl rfl) <| zU h8 rfl (bn aj rfl) <| zU h8 rfl (dj rfl rfl) <| zS rfl (ay (av := .v _) rfl h8 rfl) ?_;exact K _ 4 _ (ap (bK h8)) rfl rfl
  ·refine zF h8 rfl <| zF h8 rfl <| zF h8 rfl <| zF h8 rfl <| zS rfl (aw (av := .v _) rfl h8 rfl) ?_;exact K _ 4 _ (ap (bL h8)) rfl rfl
 refine zm rfl <| aP (l := [16, 17, 18, 19, 20, 21, 22]) 18 (B (((decide ((a3.length : Int) ≤ 100)) && (decide ((a4.length : Int) ≤ 100))) && (decide ((a5.length : Int) ≤ 100)))) (fun K => ?_) ?_
 ·rcases af ((decide ((a3.length : Int) ≤ 100)) && (decide ((a4.length : Int) ≤ 100))) with h9 | h9
  ·refine zU h9 rfl (aH (n := 4) (by kernel_rfl) rfl (aa rfl)) <| zU h9 rfl (aE aj rfl rfl) <| zU h9 rfl (bn aj rfl) <| zU h9 rfl (dj rfl rfl) <| zS rfl (ay (av := .v _) rfl h9 rfl) ?_;exact K _ 4 _ (ap (bK h9)) rfl rfl
  ·refine zF h9 rfl <| zF h9 rfl <| zF h9 rfl <| zF h9 rfl <| zS rfl (aw (av := .v _) rfl h9 rfl) ?_;exact K _ 4 _ (ap (bL h9)) rfl rfl
 refine zm rfl <| aP (l := [22]) 24 (B ((((decide ((a3.length : Int) ≤ 100)) && (decide ((a4.length : Int) ≤ 100))) && (decide ((a5.length : Int) ≤ 100))) && (decide ((a6.length : Int) ≤ 600)))) (fun K => ?_) ?_
 ·rcases af (((decide ((a3.length : Int) ≤ 100)) && (decide ((a4.length : Int) ≤ 100))) && (decide ((a5.length : Int) ≤ 100))) with h10 | h10
  ·refine zU h10 rfl (aH (n := 5) (by kernel_rfl) rfl (aa rfl)) <| zU h10 rfl (aE ab rfl rfl) <| zU h10 rfl (aY ab rfl) <| zU h10 rfl (dj rfl rfl) <| zS rfl (ay (av := .v _) rfl h10 rfl) ?_;exact K _ 4 _ (ap (bK h10)) rfl rfl
  ·refine zF h10 rfl <| zF h10 rfl <| zF h10 rfl <| zF h10 rfl <| zS rfl (aw (av := .v _) rfl h10 rfl) ?_;exact K _ 4 _ (ap (bL h10)) rfl rfl
 refine za rfl <| ai <| aU ?_;obtain rfl := aC H;exact And.intro rfl (Exists.intro _ (Exists.intro _ ⟨aW rfl (.refl _), aI [] rfl, rfl, rfl⟩))
set_option maxRecDepth 100000 in
set_option maxHeartbeats 1000000 in
theorem kM (F : Nat) (a1 : Int) (a2 : Int) (a3 : List UInt8) (a4 : List UInt8) (a5 : List UInt8) (a6 : List UInt8) (a7 : Int) (a8 : Int) (a9 : List UInt8) (a10 : List UInt8) (a11 : List UInt8) (a12 : List UInt8) (r13 : Bool) (H : ge F a1 a2 a3 a4 a5 a6 a7 a8 a9 a10 a11 a12 = some r13) : ACalls Tryz.prog 14 [.agg [i64 a1, i64 a2, S a3, S a4, S a5, slE Enc.byte a6 none], .agg [i64 a7, i64 a8, S a9, S a10, S a11, slE Enc.byte a12 none]] [] (Ret (B r13) []) := by
 unfold ge at H
 refine az Tryz.func14 rfl rfl ?_;show AW _ _ 47 _ _ _;refine ah <| ac ?_;show AR _ _ _ _ _ [0, 1, 2] _;refine zR rfl (ce rfl (.inr ⟨_, rfl⟩)) <| zR rfl (ce rfl (.inr ⟨_, rfl⟩)) <| za rfl <| ai <| ah <| ac ?_;show AR _ _ _ _ _ [0, 1, 2, 3, 4, 5, 6, 7, 8, 9, 10, 11, 12, 13, 14, 15, 16, 17, 18, 19, 20, 21, 22, 23, 24, 25, 26, 27, 28, 29, 30, 31, 32, 33, 34, 35, 36, 37, 38, 39, 40, 41, 42] _;refine zS rfl (aH (n := 0) (by kernel_rfl) rfl (aa rfl)) <| zS rfl (aE aq rfl rfl) <| zS rfl (aH (n := 0) (by kernel_rfl) rfl (aa rfl)) <| zS rfl (aE aq rfl rfl) <| zS rfl (bw rfl rfl) <| zm rfl <| aP (l := [12, 13, 14, 15, 16, 17, 18, 19, 20, 21, 22, 23, 24, 25, 26, 27, 28, 29, 30, 31, 32, 33, 34, 35, 36, 37, 38, 39, 40, 41, 42]) 16 (B ((decide (a1 = a7)) && (decide (a2 = a8)))) (fun K => ?_) ?_
 ·rcases af (decide (a1 = a7)) with h14 | h14
  ·refine zU h14 rfl (aH (n := 1) (by kernel_rfl) rfl (aa rfl)) <| zU h14 rfl (aE aq rfl rfl) <| zU h14 rfl (aH (n := 1) (by kernel_rfl) rfl (aa rfl)) <| zU h14 rfl (aE aq rfl rfl) <| zU h14 rfl (bw rfl rfl) <| zS rfl (ay (av := .v _) rfl h14 rfl) ?_;exact K _ 5 _ (ap (bK h14)) rfl rfl
  ·refine zF h14 rfl <| zF h14 rfl <| zF h14 rfl <| zF h14 rfl <| zF h14 rfl <| zS rfl (aw (av := .v _) rfl h14 rfl) ?_;exact K _ 5 _ (ap (bL h14)) rfl rfl
 refine zm rfl <| aP (l := [19, 20, 21, 22, 23, 24, 25, 26, 27, 28, 29, 30, 31, 32, 33, 34, 35, 36, 37, 38, 39, 40, 41, 42]) 23 (B (((decide (a1 = a7)) && (decide (a2 = a8))) && (decide (a3 = a9)))) (fun K => ?_) ?_
 ·rcases af ((decide (a1 = a7)) && (decide (a2 = a8))) with h15 | h15
  ·refine zU h15 rfl (aH (n := 2) (by kernel_rfl) rfl (aa rfl)) <| zU h15 rfl (aE aj rfl rfl) <| zU h15 rfl (aH (n := 2) (by kernel_rfl) rfl (aa rfl)) <| zU h15 rfl (aE aj rfl rfl) <| zU h15 rfl (fU rfl rfl) <| zS rfl (ay (av := .v _) rfl h15 rfl) ?_;exact K _ 5 _ (ap (bK h15)) rfl rfl
  ·refine zF h15 rfl <| zF h15 rfl <| zF h15 rfl <| zF h15 rfl <| zF h15 rfl <| zS rfl (aw (av := .v _) rfl h15 rfl) ?_;exact K _ 5 _ (ap (bL h15)) rfl rfl
 refine zm rfl <| aP (l := [26, 27, 28, 29, 30, 31, 32, 33, 34, 35, 36, 37, 38, 39, 40, 41, 42]) 30 (B ((((decide (a1 = a7)) && (decide (a2 = a8))) && (decide (a3 = a9))) && (decide (a4 = a10)))) (fun K => ?_) ?_
 ·rcases af (((decide (a1 = a7)) && (decide (a2 = a8))) && (decide (a3 = a9))) with h16 | h16
  ·refine zU h16 rfl (aH (n := 3) (by kernel_rfl) rfl (aa rfl)) <| zU h16 rfl (aE aj rfl rfl) <| zU h16 rfl (aH (n := 3) (by kernel_rfl) rfl (aa rfl)) <| zU h16 rfl (aE aj rfl rfl) <| zU h16 rfl (fU rfl rfl) <| zS rfl (ay (av := .v _) rfl h16 rfl) ?_;exact K _ 5 _ (ap (bK h16)) rfl rfl
  ·refine zF h16 rfl <| zF h16 rfl <| zF h16 rfl <| zF h16 rfl <| zF h16 rfl <| zS rfl (aw (av := .v _) rfl h16 rfl) ?_;exact K _ 5 _ (ap (bL h16)) rfl rfl
 refine zm rfl <| aP (l := [33, 34, 35, 36, 37, 38, 39, 40, 41, 42]) 37 (B (((((decide (a1 = a7)) && (decide (a2 = a8))) && (decide (a3 = a9))) && (decide (a4 = a10))) && (decide (a5 = a11)))) (fun K => ?_) ?_
 ·rcases af ((((decide (a1 = a7)) && (decide (a2 = a8))) && (decide (a3 = a9))) && (decide (a4 = a10))) with h17 | h17
  ·refine zU h17 rfl (aH (n := 4) (by kernel_rfl) rfl (aa rfl)) <| zU h17 rfl (aE aj rfl rfl) <| zU h17 rfl (aH (n := 4) (by kernel_rfl) rfl (aa rfl)) <| zU h17 rfl (aE aj rfl rfl) <| zU h17 rfl (fU rfl rfl) <| zS rfl (ay (av := .v _) rfl h17 rfl) ?_;exact K _ 5 _ (ap (bK h17)) rfl rfl
  ·refine zF h17 rfl <| zF h17 rfl <| zF h17 rfl <| zF h17 rfl <| zF h17 rfl <| zS rfl (aw (av := .v _) rfl h17 rfl) ?_;exact K _ 5 _ (ap (bL h17)) rfl rfl
 refine zm rfl <| aP (l := [42]) 46 (B ((((((decide (a1 = a7)) && (decide (a2 = a8))) && (decide (a3 = a9))) && (decide (a4 = a10))) && (decide (a5 = a11))) && (decide (a6 = a12)))) (fun K => ?_) ?_
 ·rcases af (((((decide (a1 = a7)) && (decide (a2 = a8))) && (decide (a3 = a9))) && (decide (a4 = a10))) && (decide (a5 = a11))) with h18 | h18
  ·refine zU h18 rfl (aH (n := 5) (by kernel_rfl) rfl (aa rfl)) <| zU h18 rfl (aE ab rfl rfl) <| zU h18 rfl (cm ab aJ aj rfl) <| zU h18 rfl (aH (n := 5) (by kernel_rfl) rfl (aa rfl)) <| zU h18 rfl (aE ab rfl rfl) <| zU h18 rfl (cm ab aJ aj rfl) <| zU h18 rfl (fU rfl rfl) <| zS rfl (ay (av := .v _) rfl h18 rfl) ?_;exact K _ 7 _ (ap (bK h18)) rfl rfl
  ·refine zF h18 rfl <| zF h18 rfl <| zF h18 rfl <| zF h18 rfl <| zF h18 rfl <| zF h18 rfl <| zF h18 rfl <| zS rfl (aw (av := .v _) rfl h18 rfl) ?_;exact K _ 7 _ (ap (bL h18)) rfl rfl
 refine za rfl <| ai <| aU ?_;obtain rfl := aC H;exact And.intro rfl (Exists.intro _ (Exists.intro _ ⟨aW rfl (.refl _), aI [] rfl, rfl, rfl⟩))
set_option maxRecDepth 100000 in
set_option maxHeartbeats 1000000 in
theorem pk (F : Nat) (a1 : List UInt8) (q2 : Option Nat) (r3 : Bool) (H : iz F a1 = some r3) : ACalls Tryz.prog 33 [slE Enc.byte a1 q2] [] (Ret (B r3) []) := by
 unfold iz at H
 refine az Tryz.func33 rfl rfl ?_;show AW _ _ 61 _ _ _;refine ah <| ac ?_;show AR _ _ _ _ _ [0] _;refine za rfl <| ai <| bX (X := Unit) (fun _ => ⟨[(0, slE Enc.byte a1 q2)], [], []⟩) (fun _ => eY a1 = some r3) ?_ ?_
 ·refine ah <| ac ?_;show AR _ _ _ _ _ [0] _;refine za rfl <| ai <| bh <| dv (X := Nat × Int) (fun (n6, y4) => ⟨[(0, slE Enc.byte a1 q2), (3, i64 y4)], [], []⟩) (fun (n6, y4) => fM a1 n6 y4 = some r3) (fun (n6, y4) => n6) (F, 0) H (bc [] (.cons (.refl _) (.cons (.refl _) (.nil _))) rfl) ?_;rintro ⟨n6, y4⟩ H;obtain ⟨n6, rfl, H⟩ := fc H;replace H : fN a1 (fM a1 n6) y4 = some r3 := H
  unfold fN at H
  refine ah <| ah <| ac ?_;show AR _ _ _ _ _ [0, 1, 2, 3] _;refine zm rfl <| zS rfl (ak (av := slE _ _ _) rfl) <| zS rfl (aY ab rfl) <| zS rfl (cc rfl rfl) <| ai <| aF rfl (fun c7 => ?_) (fun c7 => ?_)
  ·replace H := bf c7 H;refine aL <| ah <| bh <| ah ?_;obtain ⟨g8, H⟩ := ba H;obtain ⟨x9, e10, H⟩ := cd H;obtain ⟨g12, H⟩ := cD H;obtain ⟨g14, H⟩ := cD H;obtain ⟨g15, H⟩ := cD H;obtain ⟨x16, e17, H⟩ := cd H;obtain ⟨g19, H⟩ := cD H;obtain ⟨x20, e21, H⟩ := cd H;obtain ⟨g24, H⟩ := cD H;obtain ⟨g25, H⟩ := cD H;obtain ⟨x26, e27, H⟩ := cd H;refine ac ?_;show AR _ _ _ _ _ [0, 1, 2, 3, 4, 5, 6, 7, 8, 9, 10, 11, 12, 13, 14, 15, 16, 17, 18, 19, 20, 21, 22, 23, 24, 25, 26, 27, 28, 29, 30, 31, 32, 33, 34, 35, 36, 37, 38] _;refine zS rfl (ak (av := slE _ _ _) rfl) <| zm rfl <| zS rfl (cb (E := Enc.byte) ab (by kernel_rfl) rfl rfl g8 e10) <| zS rfl (aE aJ rfl rfl) <| zS rfl (eI (a := x9) (b := 13) rfl rfl) <| zm rfl <| aP (l := [20, 21, 22, 23, 24, 25, 26, 27, 28, 29, 30, 31, 32, 33, 34, 35, 36, 37, 38]) 29 (B ((decide (x9 = 13)) && ((decide ((a1.length : Int) ≤ y4 + 1)) || (!decide (x16 = 10))))) (fun K => ?_) ?_
   ·rcases af (decide (x9 = 13)) with h11 | h11
    ·refine zM h11 rfl <| zU h11 rfl (eJ rfl rfl (g12 h11)) <| zU h11 rfl (ak (av := slE _ _ _) rfl) <| zU h11 rfl (aY ab rfl) <| zU h11 rfl (dQ rfl rfl) <| zM h11 rfl <| aP (l := [19, 20, 21, 22, 23, 24, 25, 26, 27, 28, 29, 30, 31, 32, 33, 34, 35, 36, 37, 38]) 28 (B ((decide ((a1.length : Int) ≤ y4 + 1)) || (!decide (x16 = 10)))) (fun K => ?_) ?_
     ·rcases af (decide ((a1.length : Int) ≤ y4 + 1)) with h13 | h13
      ·refine zF h13 rfl <| zF h13 rfl <| zF h13 rfl <| zF h13 rfl <| zF h13 rfl <| zF h13 rfl <| zU h11 rfl (ay (av := .v _) rfl h13 rfl) ?_;exact K _ 6 _ (ap (fZ h13)) rfl rfl
      ·refine zU h13 rfl (ak (av := slE _ _ _) rfl) <| zM h13 rfl <| zU h13 rfl (eJ rfl rfl (g14 (eb h11 (nf h13)))) <| zU h13 rfl (cb (E := Enc.byte) ab (by kernel_rfl) rfl rfl (g15 (eb h11 (nf h13))) e17) <| zU h13 rfl (aE aJ rfl rfl) <| zU h13 rfl (g_ne8 (a := x16) (b := 10) rfl rfl) <| zU h11 rfl (aw (av := .v _) rfl h13 rfl) ?_;exact K _ 6 _ (ap (gb h13)) rfl rfl
     refine zS rfl (ay (av := .v _) rfl h11 rfl) ?_;exact K _ 7 _ (ap (bK h11)) rfl rfl
    ·refine zF h11 rfl <| zF h11 rfl <| zF h11 rfl <| zF h11 rfl <| zF h11 rfl <| zF h11 rfl <| gU rfl rfl rfl rfl rfl <| gU rfl rfl rfl rfl rfl <| gU rfl rfl rfl rfl rfl <| gU rfl rfl rfl rfl rfl <| gU rfl rfl rfl rfl rfl <| gU rfl rfl rfl rfl rfl <| zF h11 rfl <| zS rfl (aw (av := .v _) rfl h11 rfl) ?_;exact K _ 13 _ (ap (bL h11)) rfl rfl
   refine zm rfl <| aP (l := []) 48 (B (((decide (x9 = 13)) && ((decide ((a1.length : Int) ≤ y4 + 1)) || (!decide (x16 = 10)))) || ((decide (x20 = 10)) && ((decide (y4 = 0)) || (!decide (x26 = 13)))))) (fun K => ?_) ?_
   ·rcases af ((decide (x9 = 13)) && ((decide ((a1.length : Int) ≤ y4 + 1)) || (!decide (x16 = 10)))) with h18 | h18
    ·refine zF h18 rfl <| zF h18 rfl <| zF h18 rfl <| zF h18 rfl <| zF h18 rfl <| zF h18 rfl <| gU rfl rfl rfl rfl rfl <| gU rfl rfl rfl rfl rfl <| gU rfl rfl rfl rfl rfl <| gU rfl rfl rfl rfl rfl <| gU rfl rfl rfl rfl rfl <| gU rfl rfl rfl rfl rfl <| gU rfl rfl rfl rfl rfl <| gU rfl rfl rfl rfl rfl <| gU rfl rfl rfl rfl rfl <| gU rfl rfl rfl rfl rfl <| zF h18 rfl <| zS rfl (ay (av := .v _) rfl h18 rfl) ?_;exact K _ 17 _ (ap (fZ h18)) rfl rfl
    ·refine zU h18 rfl (ak (av := slE _ _ _) rfl) <| zM h18 rfl <| zU h18 rfl (cb (E := Enc.byte) ab (by kernel_rfl) rfl rfl (g19 (nf h18)) e21) <| zU h18 rfl (aE aJ rfl rfl) <| zU h18 rfl (eI (a := x20) (b := 10) rfl rfl) <| zM h18 rfl <| aP (l := [38]) 47 (B ((decide (x20 = 10)) && ((decide (y4 = 0)) || (!decide (x26 = 13))))) (fun K => ?_) ?_
     ·rcases af (decide (x20 = 10)) with h22 | h22
      ·refine zM h22 rfl <| zU h22 rfl (bw rfl rfl) <| zM h22 rfl <| aP (l := [37, 38]) 46 (B ((decide (y4 = 0)) || (!decide (x26 = 13)))) (fun K => ?_) ?_
       ·rcases af (decide (y4 = 0)) with h23 | h23
        ·refine zF h23 rfl <| zF h23 rfl <| zF h23 rfl <| zF h23 rfl <| zF h23 rfl <| zF h23 rfl <| zU h22 rfl (ay (av := .v _) rfl h23 rfl) ?_;exact K _ 6 _ (ap (fZ h23)) rfl rfl
        ·refine zU h23 rfl (ak (av := slE _ _ _) rfl) <| zM h23 rfl <| zU h23 rfl (ly rfl rfl (g24 (eb (eb (nf h18) h22) (nf h23)))) <| zU h23 rfl (cb (E := Enc.byte) ab (by kernel_rfl) rfl rfl (g25 (eb (eb (nf h18) h22) (nf h23))) e27) <| zU h23 rfl (aE aJ rfl rfl) <| zU h23 rfl (g_ne8 (a := x26) (b := 13) rfl rfl) <| zU h22 rfl (aw (av := .v _) rfl h23 rfl) ?_;exact K _ 6 _ (ap (gb h23)) rfl rfl
       refine zU h18 rfl (ay (av := .v _) rfl h22 rfl) ?_;exact K _ 4 _ (ap (bK h22)) rfl rfl
      ·refine zF h22 rfl <| zF h22 rfl <| zF h22 rfl <| gU rfl rfl rfl rfl rfl <| gU rfl rfl rfl rfl rfl <| gU rfl rfl rfl rfl rfl <| gU rfl rfl rfl rfl rfl <| gU rfl rfl rfl rfl rfl <| gU rfl rfl rfl rfl rfl <| zF h22 rfl <| zU h18 rfl (aw (av := .v _) rfl h22 rfl) ?_;exact K _ 10 _ (ap (bL h22)) rfl rfl
     refine zS rfl (aw (av := .v _) rfl h18 rfl) ?_;exact K _ 7 _ (ap (gb h18)) rfl rfl
   refine ai <| aF rfl (fun c28 => ?_) (fun c28 => ?_)
   ·replace H := bf c28 H;refine ah <| ac ?_;show AR _ _ _ _ _ [0] _;refine za rfl <| ai <| aU ?_;obtain rfl := aC H;exact And.intro rfl (Exists.intro _ (Exists.intro _ ⟨aW rfl (.refl _), aI [] rfl, rfl, rfl⟩))
   ·replace H := aZ c28 H;refine aL ?_;obtain ⟨g29, H⟩ := ba H;refine ac ?_;show AR _ _ _ _ _ [0, 1, 2] _;refine zm rfl <| zS rfl (eJ rfl rfl g29) <| za rfl <| ai ?_;exact Exists.intro (n6, y4 + 1) ⟨H, Nat.lt_succ_self _, bc [] (.cons (.refl _) (.cons (.refl _) (.nil _))) rfl⟩
  ·replace H := aZ c7 H;refine dd ?_;exact Exists.intro () ⟨H, bc [] (.cons (.refl _) (.nil _)) rfl⟩
 rintro _ H;replace H : eY a1 = some r3 := H
 unfold eY at H
 refine ah ?_;obtain ⟨g32, H⟩ := cD H;obtain ⟨g33, H⟩ := cD H;obtain ⟨x34, e35, H⟩ := cd H;refine ac ?_;show AR _ _ _ _ _ [0, 1, 2, 3, 4, 5, 6, 7, 8, 9, 10, 11, 12] _;refine zS rfl (ak (av := slE _ _ _) rfl) <| zS rfl (aY ab rfl) <| zS rfl (bw rfl rfl) <| zm rfl <| aP (l := [12]) 60 (B ((decide ((a1.length : Int) = 0)) || (decide (x34 = 10)))) (fun K => ?_) ?_
 ·rcases af (decide ((a1.length : Int) = 0)) with h31 | h31
  ·refine zF h31 rfl <| zF h31 rfl <| zF h31 rfl <| zF h31 rfl <| zF h31 rfl <| zF h31 rfl <| zF h31 rfl <| zS rfl (ay (av := .v _) rfl h31 rfl) ?_;exact K _ 7 _ (ap (fZ h31)) rfl rfl
  ·refine zU h31 rfl (ak (av := slE _ _ _) rfl) <| zU h31 rfl (ak (av := slE _ _ _) rfl) <| zU h31 rfl (aY ab rfl) <| zU h31 rfl (ly rfl rfl (g32 (nf h31))) <| zU h31 rfl (cb (E := Enc.byte) ab (by kernel_rfl) rfl rfl (g33 (nf h31)) e35) <| zU h31 rfl (aE aJ rfl rfl) <| zU h31 rfl (eI (a := x34) (b := 10) rfl rfl) <| zS rfl (aw (av := .v _) rfl h31 rfl) ?_;exact K _ 7 _ (ap (gb h31)) rfl rfl
 refine za rfl <| ai <| aU ?_;obtain rfl := aC H;exact And.intro rfl (Exists.intro _ (Exists.intro _ ⟨aW rfl (.refl _), aI [] rfl, rfl, rfl⟩))
set_option maxRecDepth 100000 in
set_option maxHeartbeats 1000000 in
theorem nj (F : Nat) (a1 : List UInt8) (q2 : Option Nat) (r3 : List UInt8) (r4 : Int) (H : gu F a1 = some (r3, r4)) : ACalls Tryz.prog 41 [slE Enc.byte a1 q2] [] (Ret (.tup [slE Enc.byte r3 none, i64 r4]) []) := by
 unfold gu at H
 refine az Tryz.func41 rfl rfl ?_;show AW _ _ 47 _ _ _;refine ah <| ac ?_;show AR _ _ _ _ _ [0, 1] _;refine za rfl <| za rfl <| ai <| ah ?_;obtain ⟨x5, e6, H⟩ := cH H;refine ac ?_;show AR _ _ _ _ _ [0, 1, 2] _;refine zS rfl (ak (av := slE _ _ _) rfl) <| an rfl rfl (aV rfl sb rfl (pk F a1 q2 x5 e6) ?_);refine za rfl <| ai <| ah <| ah <| ac ?_;show AR _ _ _ _ _ [0, 1] _;refine zm rfl <| zS rfl (dw rfl) <| ai <| aF rfl (fun c7 => ?_) (fun c7 => ?_)
 ·replace H := bf c7 H;refine ah <| ac ?_;show AR _ _ _ _ _ [0, 1] _;refine za rfl <| za rfl <| ai <| aU ?_;obtain ⟨rfl, rfl⟩ := fY H;exact And.intro rfl (Exists.intro _ (Exists.intro _ ⟨bQ rfl (.nil _) (.refl _), aI [] rfl, rfl, rfl⟩))
 ·replace H := aZ c7 H;refine aL <| ah <| ac ?_;show AR _ _ _ _ _ [0] _;refine za rfl <| ai ?_
  refine oI 5 1 5 rfl fun t8 => ?_
  show AW _ _ _ _ _ ⟨(5, slE Enc.byte [] (some t8)) :: _, _, _⟩;refine bX (X := (List UInt8) × Nat) (fun (y40, t41) => ⟨[(5, slE Enc.byte y40 (some t41))], [], [.tok t41 5]⟩) (fun (y40, t41) => eK y40 = some (r3, r4)) ?_ ?_
  ·refine ah <| ac ?_;show AR _ _ _ _ _ [0] _;refine za rfl <| ai <| bh <| dv (X := Nat × (List UInt8) × Nat × Int) (fun (n13, y9, t10, y11) => ⟨[(0, slE Enc.byte a1 q2), (5, slE Enc.byte y9 (some t10)), (6, i64 y11)], [], [.tok t10 5]⟩) (fun (n13, y9, t10, y11) => cW a1 n13 (y9, y11) = some (r3, r4)) (fun (n13, y9, t10, y11) => n13) (F, [], t8, 0) H (bc [0] (.cons (.refl _) (.cons (.refl _) (.cons (.refl _) (.nil _)))) rfl) ?_;rintro ⟨n13, y9, t10, y11⟩ H;obtain ⟨n13, rfl, H⟩ := fc H;replace H : eL a1 (cW a1 n13) y9 y11 = some (r3, r4) := H
   unfold eL at H
   refine ah <| ah <| ac ?_;show AR _ _ _ _ _ [0, 1, 2, 3] _;refine zm rfl <| zS rfl (ak (av := slE _ _ _) rfl) <| zS rfl (aY ab rfl) <| zS rfl (cc rfl rfl) <| ai <| aF rfl (fun c14 => ?_) (fun c14 => ?_)
   ·replace H := bf c14 H;refine aL <| ah <| bh <| bX (X := (List UInt8) × Nat) (fun (y29, t30) => ⟨[(0, slE Enc.byte a1 q2), (5, slE Enc.byte y29 (some t30)), (6, i64 y11)], [], [.tok t30 5]⟩) (fun (y29, t30) => dr a1 y11 (cW a1 n13) y29 = some (r3, r4)) ?_ ?_
    ·refine ah ?_;obtain ⟨g15, H⟩ := ba H;obtain ⟨x16, e17, H⟩ := cd H;obtain ⟨g20, H⟩ := cD H;obtain ⟨g21, H⟩ := cD H;obtain ⟨x22, e23, H⟩ := cd H;refine ac ?_;show AR _ _ _ _ _ [0, 1, 2, 3, 4, 5, 6, 7, 8, 9, 10, 11, 12, 13, 14, 15, 16] _;refine zS rfl (ak (av := slE _ _ _) rfl) <| zm rfl <| zS rfl (cb (E := Enc.byte) ab (by kernel_rfl) rfl rfl g15 e17) <| zS rfl (aE aJ rfl rfl) <| zS rfl (eI (a := x16) (b := 46) rfl rfl) <| zm rfl <| aP (l := []) 33 (B ((decide (x16 = 46)) && ((decide (y11 = 0)) || (decide (x22 = 10))))) (fun K => ?_) ?_
     ·rcases af (decide (x16 = 46)) with h18 | h18
      ·refine zM h18 rfl <| zU h18 rfl (bw rfl rfl) <| zM h18 rfl <| aP (l := [16]) 32 (B ((decide (y11 = 0)) || (decide (x22 = 10)))) (fun K => ?_) ?_
       ·rcases af (decide (y11 = 0)) with h19 | h19
        ·refine zF h19 rfl <| zF h19 rfl <| zF h19 rfl <| zF h19 rfl <| zF h19 rfl <| zF h19 rfl <| zU h18 rfl (ay (av := .v _) rfl h19 rfl) ?_;exact K _ 6 _ (ap (fZ h19)) rfl rfl
        ·refine zU h19 rfl (ak (av := slE _ _ _) rfl) <| zM h19 rfl <| zU h19 rfl (ly rfl rfl (g20 (eb h18 (nf h19)))) <| zU h19 rfl (cb (E := Enc.byte) ab (by kernel_rfl) rfl rfl (g21 (eb h18 (nf h19))) e23) <| zU h19 rfl (aE aJ rfl rfl) <| zU h19 rfl (eI (a := x22) (b := 10) rfl rfl) <| zU h18 rfl (aw (av := .v _) rfl h19 rfl) ?_;exact K _ 6 _ (ap (gb h19)) rfl rfl
       refine zS rfl (ay (av := .v _) rfl h18 rfl) ?_;exact K _ 4 _ (ap (bK h18)) rfl rfl
      ·refine zF h18 rfl <| zF h18 rfl <| zF h18 rfl <| gU rfl rfl rfl rfl rfl <| gU rfl rfl rfl rfl rfl <| gU rfl rfl rfl rfl rfl <| gU rfl rfl rfl rfl rfl <| gU rfl rfl rfl rfl rfl <| gU rfl rfl rfl rfl rfl <| zF h18 rfl <| zS rfl (aw (av := .v _) rfl h18 rfl) ?_;exact K _ 10 _ (ap (bL h18)) rfl rfl
     refine ai <| aF rfl (fun c24 => ?_) (fun c24 => ?_)
     ·replace H := bf c24 H;obtain ⟨g26, H⟩ := ba H;obtain ⟨x27, e28, H⟩ := cd H;refine ac ?_;show AR _ _ _ _ _ [0, 1, 2, 3] _;refine zS rfl (ak (av := slE _ _ _) rfl) <| zR rfl (cJ (E := Enc.byte) (bytes := 1) (xs := [.const _]) (l := ([46] : List UInt8)) ab (by kernel_rfl) rfl rfl (by decide) rfl rfl) <| zX rfl (dS (E := Enc.byte) (bytes := 1) 0 ab ab rfl (by kernel_rfl) rfl rfl rfl rfl g26 e28) ?_;rintro _ _ ⟨t25, rfl, rfl⟩;refine zS rfl (aA (av := slE _ _ _) rfl) <| ai ?_;exact Exists.intro (x27, t25) ⟨H, bc [0] (.cons (.refl _) (.cons (.refl _) (.cons (.refl _) (.nil _)))) rfl⟩
     ·replace H := aZ c24 H;refine aL ?_;exact Exists.intro (y9, t10) ⟨H, bc [0] (.cons (.refl _) (.cons (.refl _) (.cons (.refl _) (.nil _)))) rfl⟩
    rintro ⟨y29, t30⟩ H;replace H : dr a1 y11 (cW a1 n13) y29 = some (r3, r4) := H
    unfold dr at H
    obtain ⟨g32, H⟩ := ba H;obtain ⟨x33, e34, H⟩ := cd H;obtain ⟨g36, H⟩ := ba H;obtain ⟨x37, e38, H⟩ := cd H;refine ac ?_;show AR _ _ _ _ _ [0, 1, 2, 3, 4, 5, 6, 7] _;refine zS rfl (ak (av := slE _ _ _) rfl) <| zS rfl (ak (av := slE _ _ _) rfl) <| zm rfl <| zS rfl (cb (E := Enc.byte) ab (by kernel_rfl) rfl rfl g32 e34) <| zS rfl (aE aJ rfl rfl) <| zR rfl (cJ (E := Enc.byte) (bytes := 1) (xs := [.tmp 41]) (l := ([x33] : List UInt8)) ab (by kernel_rfl) rfl rfl (by decide) rfl rfl) <| zX rfl (dS (E := Enc.byte) (bytes := 1) 0 ab ab rfl (by kernel_rfl) rfl rfl rfl rfl g36 e38) ?_;rintro _ _ ⟨t35, rfl, rfl⟩;refine zS rfl (aA (av := slE _ _ _) rfl) <| ai ?_;obtain ⟨g39, H⟩ := ba H;refine ac ?_;show AR _ _ _ _ _ [0, 1, 2] _;refine zm rfl <| zS rfl (eJ rfl rfl g39) <| za rfl <| ai ?_;exact Exists.intro (n13, x37, t35, y11 + 1) ⟨H, Nat.lt_succ_self _, bc [0] (.cons (.refl _) (.cons (.refl _) (.cons (.refl _) (.nil _)))) rfl⟩
   ·replace H := aZ c14 H;refine dd ?_;exact Exists.intro (y9, t10) ⟨H, bc [0] (.cons (.refl _) (.nil _)) rfl⟩
  rintro ⟨y40, t41⟩ H;replace H : eK y40 = some (r3, r4) := H
  unfold eK at H
  refine ah ?_;obtain ⟨g44, H⟩ := ba H;obtain ⟨x45, e46, H⟩ := cd H;refine ac ?_;show AR _ _ _ _ _ [0, 1, 2, 3, 4] _;refine zS rfl (ak (av := slE _ _ _) rfl) <| zR rfl (cJ (E := Enc.byte) (bytes := 1) (xs := [.const _, .const _, .const _]) (l := ([46, 13, 10] : List UInt8)) ab (by kernel_rfl) rfl rfl (by decide) rfl rfl) <| zX rfl (dS (E := Enc.byte) (bytes := 1) 0 ab ab rfl (by kernel_rfl) rfl rfl rfl rfl g44 e46) ?_;rintro _ _ ⟨t43, rfl, rfl⟩;refine zS rfl (aA (av := slE _ _ _) rfl) <| za rfl <| ai <| aU ?_;obtain ⟨rfl, rfl⟩ := fY H;exact And.intro rfl (Exists.intro _ (Exists.intro _ ⟨bQ rfl (.tok _ _ _) (.refl _), aI [] rfl, rfl, rfl⟩))
end Go.Proofs.YtgjkjkmmgdbcoaaGreatDoor
namespace Go.Pv
def eM (y19 : List UInt8) : Option ((List UInt8)) :=
some y19
def dN (y3 : List UInt8) (y4 : Int) (rec5 : ((List UInt8) × Int) → Option ((List UInt8))) (y13 : UInt8) : Option ((List UInt8)) :=
grd (dF (y3.length + ([y13] : List UInt8).length)) <|
lt (y3 ++ ([y13] : List UInt8)) fun x16 =>
grd (okI (y4 + 1)) <|
rec5 (x16, y4 + 1)
def dt (a1 : List UInt8) (rec5 : ((List UInt8) × Int) → Option ((List UInt8))) (y3 : List UInt8) (y4 : Int) : Option ((List UInt8)) :=
bif decide (y4 < (a1.length : Int)) then
  grd (cI y4 a1.length) <|
  lt (at_ a1 y4) fun x9 =>
  bif (decide (65 ≤ (x9.toNat : Int))) && (decide ((x9.toNat : Int) ≤ 90)) then
    dN y3 y4 rec5 (x9 + 32)
  else
    dN y3 y4 rec5 x9
else
  eM y3
def cX (a1 : List UInt8) (n : Nat) : ((List UInt8) × Int) → Option ((List UInt8)) :=
  loop (fun rec x => dt a1 rec x.1 x.2) n
def gw (F : Nat) (a1 : List UInt8) : Option ((List UInt8)) :=
cX a1 F (([] : List UInt8), 0)
def gm : Option Int :=
some 0
def dh (y7 : Int) (rec8 : Int → Option Int) : Option Int :=
grd (okI (y7 + 1)) <|
rec8 (y7 + 1)
def fg (y7 : Int) (rec8 : Int → Option Int) (y43 : Int) (y44 : Bool) : Option Int :=
bif y44 then
  some y43
else
  dh y7 rec8
def fi (y7 : Int) (x12 : List UInt8) (rec8 : Int → Option Int) (rec25 : (Int × Bool × Int) → Option Int) (y22 : Int) (y23 : Bool) (y24 : Int) : Option Int :=
bif decide (y24 < (x12.length : Int)) then
  dP y23 (cI y24 x12.length) <|
  lt (at_ x12 y24) fun x30 =>
  dP (y23 && (decide (48 ≤ (x30.toNat : Int)))) (cI y24 x12.length) <|
  lt (at_ x12 y24) fun x34 =>
  grd (okI (10 * y22)) <|
  grd (cI y24 x12.length) <|
  lt (at_ x12 y24) fun x38 =>
  grd (okI ((10 * y22) + (x38.toNat : Int))) <|
  grd (okI (((10 * y22) + (x38.toNat : Int)) - 48)) <|
  grd (okI (y24 + 1)) <|
  rec25 (((10 * y22) + (x38.toNat : Int)) - 48, (y23 && (decide (48 ≤ (x30.toNat : Int)))) && (decide ((x34.toNat : Int) ≤ 57)), y24 + 1)
else
  fg y7 rec8 y22 y23
def fh (y7 : Int) (x12 : List UInt8) (rec8 : Int → Option Int) (n : Nat) : (Int × Bool × Int) → Option Int :=
  loop (fun rec x => fi y7 x12 rec8 rec x.1 x.2.1 x.2.2) n
def dH (F : Nat) (a2 : List (List UInt8)) (rec8 : Int → Option Int) (y7 : Int) : Option Int :=
bif decide (y7 < (a2.length : Int)) then
  grd (cI y7 a2.length) <|
  lt (at_ a2 y7) fun x12 =>
  dP (!((decide ((x12.length : Int) < 6)) || (decide (14 < (x12.length : Int))))) (iv 5 x12.length) <|
  lt (to_ x12 5) fun x17 =>
  iJ (!((decide ((x12.length : Int) < 6)) || (decide (14 < (x12.length : Int))))) (gw F x17) fun x19 =>
  bif ((decide ((x12.length : Int) < 6)) || (decide (14 < (x12.length : Int)))) || (!decide (x19 = ([115, 105, 122, 101, 32] : List UInt8))) then
    dh y7 rec8
  else
    fh y7 x12 rec8 F (0, true, 5)
else
  gm
def cr (F : Nat) (a2 : List (List UInt8)) (n : Nat) : Int → Option Int :=
  loop (fun rec x => dH F a2 rec x) n
def gc (F : Nat) (a1 : Int) (a2 : List (List UInt8)) (a3 : Int) (a4 : Int) (a5 : Int) : Option Int :=
cr F a2 F 1
def fx (F : Nat) (a1 : Int) (a2 : Int) (a3 : List UInt8) (a4 : List UInt8) (a5 : List UInt8) (a6 : List UInt8) (a7 : Int) : Option (Int × Int × (List UInt8) × (List UInt8) × (List UInt8) × (List UInt8) × (List UInt8)) :=
some (6, a7, a3, a4, a5, a6, ([81, 85, 73, 84, 13, 10] : List UInt8))
def eu (a3 : List UInt8) (a4 : List UInt8) (a5 : List UInt8) (a6 : List UInt8) (y16 : Int) : Option (Int × Int × (List UInt8) × (List UInt8) × (List UInt8) × (List UInt8)) :=
some (7, y16, a3, a4, a5, a6)
def gg (F : Nat) (a1 : Int) (a2 : Int) (a3 : List UInt8) (a4 : List UInt8) (a5 : List UInt8) (a6 : List UInt8) : Option (Int × Int × (List UInt8) × (List UInt8) × (List UInt8) × (List UInt8)) :=
bif decide (a2 = 0) then
  eu a3 a4 a5 a6 2
else
  eu a3 a4 a5 a6 a2
def hB (F : Nat) (a1 : Int) (a2 : Int) : Option Bool :=
bif decide (a1 = 0) then
  some (decide (a2 = 220))
else
  bif decide (a1 = 4) then
    some (decide (a2 = 354))
  else
    some ((decide (200 ≤ a2)) && (decide (a2 ≤ 299)))
def dg (a2 : Int) (a3 : List UInt8) (a4 : List UInt8) (a5 : List UInt8) (a6 : List UInt8) (y74 : List UInt8) (y75 : Int) : Option (Int × Int × (List UInt8) × (List UInt8) × (List UInt8) × (List UInt8) × (List UInt8)) :=
grd (dF y74.length) <|
some (y75, a2, a3, a4, a5, a6, y74)
def hC (F : Nat) (a1 : Int) (a2 : Int) (a3 : List UInt8) (a4 : List UInt8) (a5 : List UInt8) (a6 : List UInt8) (a7 : Int) (a8 : List (List UInt8)) (a9 : Int) (a10 : Int) (a11 : Int) : Option (Int × Int × (List UInt8) × (List UInt8) × (List UInt8) × (List UInt8) × (List UInt8)) :=
bif (decide (a1 < 0)) || (decide (7 ≤ a1)) then
  some (a1, a2, a3, a4, a5, a6, [])
else
  bif decide (a7 = 421) then
    bnd (gg F a1 a2 a3 a4 a5 a6) fun x24 =>
    some (x24.1, x24.2.1, x24.2.2.1, x24.2.2.2.1, x24.2.2.2.2.1, x24.2.2.2.2.2, [])
  else
    bif decide (a1 = 6) then
      some (7, a2, a3, a4, a5, a6, [])
    else
      bnd (hB F a1 a7) fun x27 =>
      bif !x27 then
        bif (decide (500 ≤ a7)) && (decide (a7 ≤ 599)) then
          bnd (fx F a1 a2 a3 a4 a5 a6 3) fun x32 =>
          some (x32.1, x32.2.1, x32.2.2.1, x32.2.2.2.1, x32.2.2.2.2.1, x32.2.2.2.2.2.1, x32.2.2.2.2.2.2)
        else
          bnd (fx F a1 a2 a3 a4 a5 a6 2) fun x35 =>
          some (x35.1, x35.2.1, x35.2.2.1, x35.2.2.2.1, x35.2.2.2.2.1, x35.2.2.2.2.2.1, x35.2.2.2.2.2.2)
      else
        ij (gu F a6) fun x38 x39 =>
        bif decide (a1 = 0) then
          grd (dF (([69, 72, 76, 79, 32] : List UInt8).length + a5.length)) <|
          lt (([69, 72, 76, 79, 32] : List UInt8) ++ a5) fun x43 =>
          grd (dF (x43.length + ([13, 10] : List UInt8).length)) <|
          lt (x43 ++ ([13, 10] : List UInt8)) fun x46 =>
          dg a2 a3 a4 a5 a6 x46 1
        else
          bif decide (a1 = 1) then
            bnd (gc F a7 a8 a9 a10 a11) fun x49 =>
            bif (decide (0 < x49)) && (decide (x49 < (x38.length : Int))) then
              bnd (fx F a1 a2 a3 a4 a5 a6 3) fun x53 =>
              some (x53.1, x53.2.1, x53.2.2.1, x53.2.2.2.1, x53.2.2.2.2.1, x53.2.2.2.2.2.1, x53.2.2.2.2.2.2)
            else
              grd (dF (([77, 65, 73, 76, 32, 70, 82, 79, 77, 58, 60] : List UInt8).length + a3.length)) <|
              lt (([77, 65, 73, 76, 32, 70, 82, 79, 77, 58, 60] : List UInt8) ++ a3) fun x57 =>
              grd (dF (x57.length + ([62, 13, 10] : List UInt8).length)) <|
              lt (x57 ++ ([62, 13, 10] : List UInt8)) fun x60 =>
              dg a2 a3 a4 a5 a6 x60 2
          else
            bif decide (a1 = 2) then
              grd (dF (([82, 67, 80, 84, 32, 84, 79, 58, 60] : List UInt8).length + a4.length)) <|
              lt (([82, 67, 80, 84, 32, 84, 79, 58, 60] : List UInt8) ++ a4) fun x64 =>
              grd (dF (x64.length + ([62, 13, 10] : List UInt8).length)) <|
              lt (x64 ++ ([62, 13, 10] : List UInt8)) fun x67 =>
              dg a2 a3 a4 a5 a6 x67 3
            else
              bif decide (a1 = 3) then
                dg a2 a3 a4 a5 a6 ([68, 65, 84, 65, 13, 10] : List UInt8) 4
              else
                bif decide (a1 = 4) then
                  some (5, a2, a3, a4, a5, a6, x38)
                else
                  bnd (fx F a1 a2 a3 a4 a5 a6 1) fun x71 =>
                  some (x71.1, x71.2.1, x71.2.2.1, x71.2.2.2.1, x71.2.2.2.2.1, x71.2.2.2.2.2.1, x71.2.2.2.2.2.2)
end Go.Pv
namespace Go.Proofs.YtgjkjkmmgdbcoaaGreatDoor
open Go.RowKit Go.Av Go.Pv
theorem sf : ∀ (args : Array Value) (w : World), (callFunc 22 args).run Tryz.prog w = .ok (.enter 22 args) w := fun _ _ => by kernel_rfl
theorem sd : ∀ (args : Array Value) (w : World), (callFunc 24 args).run Tryz.prog w = .ok (.enter 24 args) w := fun _ _ => by kernel_rfl
theorem rY : ∀ (args : Array Value) (w : World), (callFunc 41 args).run Tryz.prog w = .ok (.enter 41 args) w := fun _ _ => by kernel_rfl
theorem rX : ∀ (args : Array Value) (w : World), (callFunc 42 args).run Tryz.prog w = .ok (.enter 42 args) w := fun _ _ => by kernel_rfl
theorem jE : ∀ (args : Array Value) (w : World), (callFunc 43 args).run Tryz.prog w = .ok (.enter 43 args) w := fun _ _ => by kernel_rfl
theorem rQ : ∀ (args : Array Value) (w : World), (callFunc 48 args).run Tryz.prog w = .ok (.enter 48 args) w := fun _ _ => by kernel_rfl
set_option maxRecDepth 100000 in
set_option maxHeartbeats 1000000 in
theorem nk (F : Nat) (a1 : List UInt8) (r2 : List UInt8) (H : gw F a1 = some r2) : ACalls Tryz.prog 48 [S a1] [] (Ret (S r2) []) := by
 unfold gw at H
 refine az Tryz.func48 rfl rfl ?_;show AW _ _ 29 _ _ _;refine ah <| ac ?_;show AR _ _ _ _ _ [0] _;refine za rfl <| ai <| ah <| ac ?_;show AR _ _ _ _ _ [0] _;refine za rfl <| ai <| bX (X := (List UInt8)) (fun y19 => ⟨[(3, S y19)], [], []⟩) (fun y19 => eM y19 = some r2) ?_ ?_
 ·refine ah <| ac ?_;show AR _ _ _ _ _ [0] _;refine za rfl <| ai <| bh <| dv (X := Nat × (List UInt8) × Int) (fun (n6, y3, y4) => ⟨[(0, S a1), (3, S y3), (4, i64 y4)], [], []⟩) (fun (n6, y3, y4) => cX a1 n6 (y3, y4) = some r2) (fun (n6, y3, y4) => n6) (F, ([] : List UInt8), 0) H (bc [] (.cons (.refl _) (.cons (.refl _) (.cons (.refl _) (.nil _)))) rfl) ?_;rintro ⟨n6, y3, y4⟩ H;obtain ⟨n6, rfl, H⟩ := fc H;replace H : dt a1 (cX a1 n6) y3 y4 = some r2 := H
  unfold dt at H
  refine ah <| ah <| ac ?_;show AR _ _ _ _ _ [0, 1, 2, 3] _;refine zm rfl <| zm rfl <| zS rfl (bn aj rfl) <| zS rfl (cc rfl rfl) <| ai <| aF rfl (fun c7 => ?_) (fun c7 => ?_)
  ·replace H := bf c7 H;refine aL <| ah <| bh <| ah ?_;obtain ⟨g8, H⟩ := ba H;obtain ⟨x9, e10, H⟩ := cd H;refine ac ?_;show AR _ _ _ _ _ [0, 1, 2, 3] _;refine zm rfl <| zm rfl <| zS rfl (bq aj rfl rfl g8 e10) <| za rfl <| ai <| bX (X := UInt8) (fun y13 => ⟨[(0, S a1), (3, S y3), (4, i64 y4), (5, u8 y13)], [], []⟩) (fun y13 => dN y3 y4 (cX a1 n6) y13 = some r2) ?_ ?_
   ·refine ah <| ac ?_;show AR _ _ _ _ _ [0, 1, 2, 3, 4, 5] _;refine zm rfl <| zS rfl (dQ rfl rfl) <| zm rfl <| aP (l := []) 20 (B ((decide (65 ≤ (x9.toNat : Int))) && (decide ((x9.toNat : Int) ≤ 90)))) (fun K => ?_) ?_
    ·rcases af (decide (65 ≤ (x9.toNat : Int))) with h11 | h11
     ·refine zM h11 rfl <| zU h11 rfl (dj rfl rfl) <| zS rfl (ay (av := .v _) rfl h11 rfl) ?_;exact K _ 2 _ (ap (bK h11)) rfl rfl
     ·refine zF h11 rfl <| zF h11 rfl <| zS rfl (aw (av := .v _) rfl h11 rfl) ?_;exact K _ 2 _ (ap (bL h11)) rfl rfl
    refine ai <| aF rfl (fun c12 => ?_) (fun c12 => ?_)
    ·replace H := bf c12 H;refine ac ?_;show AR _ _ _ _ _ [0, 1, 2] _;refine zm rfl <| zS rfl (qG (a := x9) (b := 32) rfl rfl) <| za rfl <| ai ?_;exact Exists.intro (x9 + 32) ⟨H, bc [] (.cons (.refl _) (.cons (.refl _) (.cons (.refl _) (.cons (.refl _) (.nil _))))) rfl⟩
    ·replace H := aZ c12 H;refine aL ?_;exact Exists.intro x9 ⟨H, bc [] (.cons (.refl _) (.cons (.refl _) (.cons (.refl _) (.cons (.refl _) (.nil _))))) rfl⟩
   rintro y13 H;replace H : dN y3 y4 (cX a1 n6) y13 = some r2 := H
   unfold dN at H
   obtain ⟨g15, H⟩ := ba H;obtain ⟨x16, e17, H⟩ := cd H;refine ac ?_;show AR _ _ _ _ _ [0, 1, 2, 3, 4, 5] _;refine zm rfl <| zm rfl <| zR rfl (cJ (E := Enc.byte) (bytes := 1) (xs := [.tmp 24]) (l := ([y13] : List UInt8)) ab (by kernel_rfl) rfl rfl (by decide) rfl rfl) <| zS rfl (cm ab aJ aj rfl) <| zS rfl (lz rfl rfl g15 e17) <| za rfl <| ai ?_;obtain ⟨g18, H⟩ := ba H;refine ac ?_;show AR _ _ _ _ _ [0, 1, 2] _;refine zm rfl <| zS rfl (eJ rfl rfl g18) <| za rfl <| ai ?_;exact Exists.intro (n6, x16, y4 + 1) ⟨H, Nat.lt_succ_self _, bc [] (.cons (.refl _) (.cons (.refl _) (.cons (.refl _) (.nil _)))) rfl⟩
  ·replace H := aZ c7 H;refine dd ?_;exact Exists.intro y3 ⟨H, bc [] (.cons (.refl _) (.nil _)) rfl⟩
 rintro y19 H;replace H : eM y19 = some r2 := H
 unfold eM at H
 refine ah <| ac ?_;show AR _ _ _ _ _ [0, 1] _;refine zm rfl <| za rfl <| ai <| aU ?_;obtain rfl := aC H;exact And.intro rfl (Exists.intro _ (Exists.intro _ ⟨aW rfl (.refl _), aI [] rfl, rfl, rfl⟩))
set_option maxRecDepth 100000 in
set_option maxHeartbeats 1000000 in
theorem kL (F : Nat) (a1 : Int) (a2 : List (List UInt8)) (a3 : Int) (a4 : Int) (a5 : Int) (r6 : Int) (H : gc F a1 a2 a3 a4 a5 = some r6) : ACalls Tryz.prog 24 [.agg [i64 a1, slE Enc.str a2 none, i64 a3, i64 a4, i64 a5]] [] (Ret (i64 r6) []) := by
 unfold gc at H
 refine az Tryz.func24 rfl rfl ?_;show AW _ _ 63 _ _ _;refine ah <| ac ?_;show AR _ _ _ _ _ [0, 1] _;refine zR rfl (ce rfl (.inr ⟨_, rfl⟩)) <| za rfl <| ai <| bX (X := Unit) (fun _ => ⟨[], [], []⟩) (fun _ => gm = some r6) ?_ ?_
 ·refine ah <| ac ?_;show AR _ _ _ _ _ [0] _;refine za rfl <| ai <| bh <| dv (X := Nat × Int) (fun (n9, y7) => ⟨[(1, .cp [i64 a1, slE Enc.str a2 none, i64 a3, i64 a4, i64 a5]), (3, i64 y7)], [], []⟩) (fun (n9, y7) => cr F a2 n9 y7 = some r6) (fun (n9, y7) => n9) (F, 1) H (bc [] (.cons (.refl _) (.cons (.refl _) (.nil _))) rfl) ?_;rintro ⟨n9, y7⟩ H;obtain ⟨n9, rfl, H⟩ := fc H;replace H : dH F a2 (cr F a2 n9) y7 = some r6 := H
  unfold dH at H
  refine ah <| ah <| ac ?_;show AR _ _ _ _ _ [0, 1, 2, 3, 4] _;refine zm rfl <| zS rfl (aH (n := 1) (by kernel_rfl) rfl (aa rfl)) <| zS rfl (aE ax rfl rfl) <| zS rfl (aY ax rfl) <| zS rfl (cc rfl rfl) <| ai <| aF rfl (fun c10 => ?_) (fun c10 => ?_)
  ·replace H := bf c10 H;refine aL <| bX (X := Unit) (fun _ => ⟨[(1, .cp [i64 a1, slE Enc.str a2 none, i64 a3, i64 a4, i64 a5]), (3, i64 y7)], [], []⟩) (fun _ => dh y7 (cr F a2 n9) = some r6) ?_ ?_
   ·refine bh <| ah ?_;obtain ⟨g11, H⟩ := ba H;obtain ⟨x12, e13, H⟩ := cd H;refine ac ?_;show AR _ _ _ _ _ [0, 1, 2, 3, 4, 5] _;refine zS rfl (aH (n := 1) (by kernel_rfl) rfl (aa rfl)) <| zS rfl (aE ax rfl rfl) <| zm rfl <| zS rfl (cb (E := Enc.str) ax (by kernel_rfl) rfl rfl g11 e13) <| zS rfl (aE aj rfl rfl) <| za rfl <| ai <| ah <| ah ?_;obtain ⟨g16, H⟩ := cD H;obtain ⟨x17, e18, H⟩ := cd H;obtain ⟨x19, e20, H⟩ := eG H;refine ac ?_;show AR _ _ _ _ _ [0, 1, 2, 3, 4, 5, 6, 7, 8, 9, 10, 11, 12, 13] _;refine zm rfl <| zS rfl (bn aj rfl) <| zS rfl (cc rfl rfl) <| zm rfl <| aP (l := [8, 9, 10, 11, 12, 13]) 27 (B ((decide ((x12.length : Int) < 6)) || (decide (14 < (x12.length : Int))))) (fun K => ?_) ?_
    ·rcases af (decide ((x12.length : Int) < 6)) with h14 | h14
     ·refine zF h14 rfl <| zF h14 rfl <| zF h14 rfl <| zS rfl (ay (av := .v _) rfl h14 rfl) ?_;exact K _ 3 _ (ap (fZ h14)) rfl rfl
     ·refine zM h14 rfl <| zU h14 rfl (bn aj rfl) <| zU h14 rfl (gC rfl rfl) <| zS rfl (aw (av := .v _) rfl h14 rfl) ?_;exact K _ 3 _ (ap (gb h14)) rfl rfl
    refine zm rfl <| aP (l := []) 33 (B (((decide ((x12.length : Int) < 6)) || (decide (14 < (x12.length : Int)))) || (!decide (x19 = ([115, 105, 122, 101, 32] : List UInt8))))) (fun K => ?_) ?_
    ·rcases af ((decide ((x12.length : Int) < 6)) || (decide (14 < (x12.length : Int)))) with h15 | h15
     ·refine zF h15 rfl <| zF h15 rfl <| zF h15 rfl <| zF h15 rfl <| zS rfl (ay (av := .v _) rfl h15 rfl) ?_;exact K _ 4 _ (ap (fZ h15)) rfl rfl
     ·refine zM h15 rfl <| zU h15 rfl (pS aj rfl rfl (g16 (nf h15)) e18) <| zT h15 rfl (aV rfl rQ rfl (nk F x17 x19 (e20 (nf h15))) ?_);refine zU h15 rfl (oO rfl rfl) <| zS rfl (aw (av := .v _) rfl h15 rfl) ?_;exact K _ 4 _ (ap (gb h15)) rfl rfl
    refine ai <| aF rfl (fun c21 => ?_) (fun c21 => ?_)
    ·replace H := bf c21 H;refine dd ?_;exact Exists.intro () ⟨H, bc [] (.cons (.refl _) (.cons (.refl _) (.nil _))) rfl⟩
    ·replace H := aZ c21 H;refine aL <| ah <| ac ?_;show AR _ _ _ _ _ [0] _;refine za rfl <| ai <| ah <| ac ?_;show AR _ _ _ _ _ [0] _;refine za rfl <| ai <| bX (X := Int × Bool) (fun (y43, y44) => ⟨[(1, .cp [i64 a1, slE Enc.str a2 none, i64 a3, i64 a4, i64 a5]), (3, i64 y7), (5, i64 y43), (6, B y44)], [], []⟩) (fun (y43, y44) => fg y7 (cr F a2 n9) y43 y44 = some r6) ?_ ?_
     ·refine ah <| ac ?_;show AR _ _ _ _ _ [0] _;refine za rfl <| ai <| bh <| dv (X := Nat × Int × Bool × Int) (fun (n26, y22, y23, y24) => ⟨[(1, .cp [i64 a1, slE Enc.str a2 none, i64 a3, i64 a4, i64 a5]), (3, i64 y7), (4, S x12), (5, i64 y22), (6, B y23), (7, i64 y24)], [], []⟩) (fun (n26, y22, y23, y24) => fh y7 x12 (cr F a2 n9) n26 (y22, y23, y24) = some r6) (fun (n26, y22, y23, y24) => n26) (F, 0, true, 5) H (bc [] (.cons (.refl _) (.cons (.refl _) (.cons (.refl _) (.cons (.refl _) (.cons (.refl _) (.cons (.refl _) (.nil _))))))) rfl) ?_;rintro ⟨n26, y22, y23, y24⟩ H;obtain ⟨n26, rfl, H⟩ := fc H;replace H : fi y7 x12 (cr F a2 n9) (fh y7 x12 (cr F a2 n9) n26) y22 y23 y24 = some r6 := H
      unfold fi at H
      refine ah <| ah <| ac ?_;show AR _ _ _ _ _ [0, 1, 2, 3] _;refine zm rfl <| zm rfl <| zS rfl (bn aj rfl) <| zS rfl (cc rfl rfl) <| ai <| aF rfl (fun c27 => ?_) (fun c27 => ?_)
      ·replace H := bf c27 H;refine aL <| ah <| bh <| ah ?_;obtain ⟨g29, H⟩ := cD H;obtain ⟨x30, e31, H⟩ := cd H;obtain ⟨g33, H⟩ := cD H;obtain ⟨x34, e35, H⟩ := cd H;refine ac ?_;show AR _ _ _ _ _ [0, 1, 2, 3, 4, 5, 6, 7, 8, 9, 10, 11, 12, 13] _;refine zm rfl <| zm rfl <| aP (l := [7, 8, 9, 10, 11, 12, 13]) 46 (B (y23 && (decide (48 ≤ (x30.toNat : Int))))) (fun K => ?_) ?_
       ·rcases af y23 with h28 | h28
        ·refine zM h28 rfl <| zM h28 rfl <| zU h28 rfl (bq aj rfl rfl (g29 h28) e31) <| zU h28 rfl (dQ rfl rfl) <| zS rfl (ay (av := .v _) rfl h28 rfl) ?_;exact K _ 4 _ (ap (bK h28)) rfl rfl
        ·refine zF h28 rfl <| zF h28 rfl <| zF h28 rfl <| zF h28 rfl <| zS rfl (aw (av := .v _) rfl h28 rfl) ?_;exact K _ 4 _ (ap (bL h28)) rfl rfl
       refine zm rfl <| aP (l := [13]) 52 (B ((y23 && (decide (48 ≤ (x30.toNat : Int)))) && (decide ((x34.toNat : Int) ≤ 57)))) (fun K => ?_) ?_
       ·rcases af (y23 && (decide (48 ≤ (x30.toNat : Int)))) with h32 | h32
        ·refine zM h32 rfl <| zM h32 rfl <| zU h32 rfl (bq aj rfl rfl (g33 h32) e35) <| zU h32 rfl (dj rfl rfl) <| zS rfl (ay (av := .v _) rfl h32 rfl) ?_;exact K _ 4 _ (ap (bK h32)) rfl rfl
        ·refine zF h32 rfl <| zF h32 rfl <| zF h32 rfl <| zF h32 rfl <| zS rfl (aw (av := .v _) rfl h32 rfl) ?_;exact K _ 4 _ (ap (bL h32)) rfl rfl
       refine za rfl <| ai ?_;obtain ⟨g36, H⟩ := ba H;obtain ⟨g37, H⟩ := ba H;obtain ⟨x38, e39, H⟩ := cd H;obtain ⟨g40, H⟩ := ba H;obtain ⟨g41, H⟩ := ba H;refine ac ?_;show AR _ _ _ _ _ [0, 1, 2, 3, 4, 5, 6, 7, 8] _;refine zm rfl <| zS rfl (g_mul rfl rfl g36) <| zm rfl <| zm rfl <| zS rfl (bq aj rfl rfl g37 e39) <| zS rfl (lW (c := x38) (by kernel_rfl) aq rfl) <| zS rfl (eJ rfl rfl g40) <| zS rfl (ly rfl rfl g41) <| za rfl <| ai ?_;obtain ⟨g42, H⟩ := ba H;refine ac ?_;show AR _ _ _ _ _ [0, 1, 2] _;refine zm rfl <| zS rfl (eJ rfl rfl g42) <| za rfl <| ai ?_;exact Exists.intro (n26, ((10 * y22) + (x38.toNat : Int)) - 48, (y23 && (decide (48 ≤ (x30.toNat : Int)))) && (decide ((x34.toNat : Int) ≤ 57)), y24 + 1) ⟨H, Nat.lt_succ_self _, bc [] (.cons (.refl _) (.cons (.refl _) (.cons (.refl _) (.cons (.refl _) (.cons (.refl _) (.cons (.refl _) (.nil _))))))) rfl⟩
      ·replace H := aZ c27 H;refine dd ?_;exact Exists.intro (y22, y23) ⟨H, bc [] (.cons (.refl _) (.cons (.refl _) (.cons (.refl _) (.cons (.refl _) (.nil _))))) rfl⟩
     rintro ⟨y43, y44⟩ H;replace H : fg y7 (cr F a2 n9) y43 y44 = some r6 := H
     unfold fg at H
     refine ah <| ac ?_;show AR _ _ _ _ _ [0] _;refine zm rfl <| ai <| aF rfl (fun c46 => ?_) (fun c46 => ?_)
     ·replace H := bf c46 H;refine ah <| ac ?_;show AR _ _ _ _ _ [0, 1] _;refine zm rfl <| za rfl <| ai <| aU ?_;obtain rfl := aC H;exact And.intro rfl (Exists.intro _ (Exists.intro _ ⟨aW rfl (.refl _), aI [] rfl, rfl, rfl⟩))
     ·replace H := aZ c46 H;refine aL ?_;exact Exists.intro () ⟨H, bc [] (.cons (.refl _) (.cons (.refl _) (.nil _))) rfl⟩
   rintro _ H;replace H : dh y7 (cr F a2 n9) = some r6 := H
   unfold dh at H
   obtain ⟨g48, H⟩ := ba H;refine ac ?_;show AR _ _ _ _ _ [0, 1, 2] _;refine zm rfl <| zS rfl (eJ rfl rfl g48) <| za rfl <| ai ?_;exact Exists.intro (n9, y7 + 1) ⟨H, Nat.lt_succ_self _, bc [] (.cons (.refl _) (.cons (.refl _) (.nil _))) rfl⟩
  ·replace H := aZ c10 H;refine dd ?_;exact Exists.intro () ⟨H, bc [] (.nil _) rfl⟩
 rintro _ H;replace H : gm = some r6 := H
 unfold gm at H
 refine ah <| ac ?_;show AR _ _ _ _ _ [0] _;refine za rfl <| ai <| aU ?_;obtain rfl := aC H;exact And.intro rfl (Exists.intro _ (Exists.intro _ ⟨aW rfl (.refl _), aI [] rfl, rfl, rfl⟩))
set_option maxRecDepth 100000 in
set_option maxHeartbeats 1000000 in
theorem gM (F : Nat) (a1 : Int) (a2 : Int) (a3 : List UInt8) (a4 : List UInt8) (a5 : List UInt8) (a6 : List UInt8) (a7 : Int) (r8 : Int) (r9 : Int) (r10 : List UInt8) (r11 : List UInt8) (r12 : List UInt8) (r13 : List UInt8) (r14 : List UInt8) (H : fx F a1 a2 a3 a4 a5 a6 a7 = some (r8, r9, r10, r11, r12, r13, r14)) : ACalls Tryz.prog 43 [.agg [i64 a1, i64 a2, S a3, S a4, S a5, slE Enc.byte a6 none], i64 a7] [] (Ret (.tup [.agg [i64 r8, i64 r9, S r10, S r11, S r12, slE Enc.byte r13 none], slE Enc.byte r14 none]) []) := by
 unfold fx at H
 refine az Tryz.func43 rfl rfl ?_;show AW _ _ 12 _ _ _;refine ah <| ac ?_;show AR _ _ _ _ _ [0, 1, 2] _;refine zX rfl (gR rfl (.inr ⟨_, rfl⟩)) ?_;rintro _ _ ⟨o15, rfl, rfl⟩;refine zX rfl (bH (zs := [.int .i64 0, .int .i64 0, .string ⟨#[]⟩, .string ⟨#[]⟩, .string ⟨#[]⟩, .slice none 0 0]) (by kernel_rfl)) ?_;rintro _ _ ⟨o16, rfl, rfl⟩;refine za rfl <| ai <| ah <| ac ?_;show AR _ _ _ _ _ [0, 1, 2] _;refine zm rfl <| zS rfl (ag (n := 1) (by kernel_rfl) rfl) <| s0 rfl rfl (ar (i := 1) (c := .v _) (by kernel_rfl) rfl rfl rfl rfl (aa rfl)) <| ai <| ah <| ac ?_;show AR _ _ _ _ _ [0, 1] _;refine zS rfl (ag (n := 0) (by kernel_rfl) rfl) <| s0 rfl rfl (ar (i := 1) (c := .v _) (by kernel_rfl) rfl rfl rfl rfl (aa rfl)) <| ai <| ah <| ac ?_;show AR _ _ _ _ _ [0, 1, 2, 3, 4] _;refine zR rfl (bx (i := 1) (n := 6) au rfl (by kernel_rfl) rfl rfl (aa rfl)) <| zX rfl (gh (E := Enc.byte) (bytes := 1) (xs := [.const _, .const _, .const _, .const _, .const _, .const _]) (l := ([81, 85, 73, 84, 13, 10] : List UInt8)) ab (by kernel_rfl) rfl rfl (by decide) rfl rfl) ?_;rintro _ _ ⟨t17, rfl, rfl⟩
 refine zR rfl (ez 0 ab aJ rfl (by simp) rfl) <| s0 rfl rfl (aQ (i := 1) (vs := [i64 6, i64 a7, S a3, S a4, S a5, slE Enc.byte a6 none]) (by kernel_rfl) rfl rfl (by simp [bo, slE]) rfl (aa rfl)) <| zS rfl (aA (av := slE _ _ _) rfl) <| ai <| aU ?_;obtain ⟨rfl, rfl, rfl, rfl, rfl, rfl, rfl⟩ := jU H;exact And.intro rfl (Exists.intro _ (Exists.intro _ ⟨bR (bU rfl (bV (off := 0) (cs := [i64 6, i64 a7, S a3, S a4, S a5, slE Enc.byte a6 none]) (n := 6) 1 au rfl (by kernel_rfl) rfl rfl (aa rfl)) ((show PlaceV _ _ _ (.tmp _) _ from (.tok _ _ _)))), aI [] rfl, rfl, rfl⟩))
set_option maxRecDepth 100000 in
set_option maxHeartbeats 1000000 in
theorem kN (F : Nat) (a1 : Int) (a2 : Int) (a3 : List UInt8) (a4 : List UInt8) (a5 : List UInt8) (a6 : List UInt8) (r7 : Int) (r8 : Int) (r9 : List UInt8) (r10 : List UInt8) (r11 : List UInt8) (r12 : List UInt8) (H : gg F a1 a2 a3 a4 a5 a6 = some (r7, r8, r9, r10, r11, r12)) : ACalls Tryz.prog 22 [.agg [i64 a1, i64 a2, S a3, S a4, S a5, slE Enc.byte a6 none]] [] (Ret (.agg [i64 r7, i64 r8, S r9, S r10, S r11, slE Enc.byte r12 none]) []) := by
 unfold gg at H
 refine az Tryz.func22 rfl rfl ?_;show AW _ _ 9 _ _ _;refine ah <| ac ?_;show AR _ _ _ _ _ [0, 1] _;refine zX rfl (gR rfl (.inr ⟨_, rfl⟩)) ?_;rintro _ _ ⟨o13, rfl, rfl⟩;refine zX rfl (bH (zs := [.int .i64 0, .int .i64 0, .string ⟨#[]⟩, .string ⟨#[]⟩, .string ⟨#[]⟩, .slice none 0 0]) (by kernel_rfl)) ?_;rintro _ _ ⟨o14, rfl, rfl⟩;refine ai <| ah <| ac ?_;show AR _ _ _ _ _ [0, 1] _;refine zS rfl (ag (n := 0) (by kernel_rfl) rfl) <| s0 rfl rfl (ar (i := 1) (c := .v _) (by kernel_rfl) rfl rfl rfl rfl (aa rfl)) <| ai <| bX (X := Int) (fun y16 => ⟨[(1, .pt o13 0), (2, .pt o14 0)], [], [.obj o14 [i64 0, i64 0, S ([] : List UInt8), S ([] : List UInt8), S ([] : List UInt8), fm], .obj o13 [i64 7, i64 y16, S a3, S a4, S a5, slE Enc.byte a6 none]]⟩) (fun y16 => eu a3 a4 a5 a6 y16 = some (r7, r8, r9, r10, r11, r12)) ?_ ?_
 ·refine ah <| ac ?_;show AR _ _ _ _ _ [0, 1, 2] _;refine zS rfl (ag (n := 1) (by kernel_rfl) rfl) <| zR rfl (al (i := 1) aq rfl rfl rfl rfl) <| zS rfl (bw rfl rfl) <| ai <| aF rfl (fun c15 => ?_) (fun c15 => ?_)
  ·replace H := bf c15 H;refine ac ?_;show AR _ _ _ _ _ [0, 1] _;refine zS rfl (ag (n := 1) (by kernel_rfl) rfl) <| s0 rfl rfl (ar (i := 1) (c := .v _) (by kernel_rfl) rfl rfl rfl rfl (aa rfl)) <| ai ?_;exact Exists.intro 2 ⟨H, bc [0, 0] (.cons (.refl _) (.cons (.refl _) (.nil _))) rfl⟩
  ·replace H := aZ c15 H;refine aL ?_;exact Exists.intro a2 ⟨H, bc [0, 0] (.cons (.refl _) (.cons (.refl _) (.nil _))) rfl⟩
 rintro y16 H;replace H : eu a3 a4 a5 a6 y16 = some (r7, r8, r9, r10, r11, r12) := H
 unfold eu at H
 refine ah <| ac ?_;show AR _ _ _ _ _ [0, 1] _;refine zR rfl (bx (i := 1) (n := 6) au rfl (by kernel_rfl) rfl rfl (aa rfl)) <| s0 rfl rfl (aQ (i := 0) (vs := [i64 7, i64 y16, S a3, S a4, S a5, slE Enc.byte a6 none]) (by kernel_rfl) rfl rfl (by simp [bo, slE]) rfl (aa rfl)) <| ai <| aU ?_;obtain ⟨rfl, rfl, rfl, rfl, rfl, rfl⟩ := res6 H;exact And.intro rfl (Exists.intro _ (Exists.intro _ ⟨bR (dD rfl (bV (off := 0) (cs := [i64 7, i64 y16, S a3, S a4, S a5, slE Enc.byte a6 none]) (n := 6) 0 au rfl (by kernel_rfl) rfl rfl (aa rfl))), aI [] rfl, rfl, rfl⟩))
set_option maxRecDepth 100000 in
set_option maxHeartbeats 1000000 in
theorem oz (F : Nat) (a1 : Int) (a2 : Int) (r3 : Bool) (H : hB F a1 a2 = some r3) : ACalls Tryz.prog 42 [i64 a1, i64 a2] [] (Ret (B r3) []) := by
 unfold hB at H
 refine az Tryz.func42 rfl rfl ?_;show AW _ _ 20 _ _ _;refine ah <| ac ?_;show AR _ _ _ _ _ [0] _;refine za rfl <| ai <| ah <| ah <| ac ?_;show AR _ _ _ _ _ [0] _;refine zm rfl <| ai <| bh <| ah <| ac ?_;show AR _ _ _ _ _ [0, 1] _;refine zS rfl (bw rfl rfl) <| za rfl <| ai <| aF rfl (fun c4 => ?_) (fun c4 => ?_)
 ·replace H := bf c4 H;refine ah <| ac ?_;show AR _ _ _ _ _ [0, 1, 2] _;refine zm rfl <| zS rfl (bw rfl rfl) <| za rfl <| ai <| aU ?_;obtain rfl := aC H;exact And.intro rfl (Exists.intro _ (Exists.intro _ ⟨aW rfl (.refl _), aI [] rfl, rfl, rfl⟩))
 ·replace H := aZ c4 H;refine ah <| ac ?_;show AR _ _ _ _ _ [0, 1] _;refine zS rfl (bw rfl rfl) <| za rfl <| ai <| aF rfl (fun c5 => ?_) (fun c5 => ?_)
  ·replace H := bf c5 H;refine ah <| ac ?_;show AR _ _ _ _ _ [0, 1, 2] _;refine zm rfl <| zS rfl (bw rfl rfl) <| za rfl <| ai <| aU ?_;obtain rfl := aC H;exact And.intro rfl (Exists.intro _ (Exists.intro _ ⟨aW rfl (.refl _), aI [] rfl, rfl, rfl⟩))
  ·replace H := aZ c5 H;refine aL <| ah <| ac ?_;show AR _ _ _ _ _ [0, 1, 2, 3, 4, 5, 6] _;refine zm rfl <| zS rfl (dQ rfl rfl) <| zm rfl <| aP (l := [6]) 19 (B ((decide (200 ≤ a2)) && (decide (a2 ≤ 299)))) (fun K => ?_) ?_
   ·rcases af (decide (200 ≤ a2)) with h6 | h6
    ·refine zM h6 rfl <| zU h6 rfl (dj rfl rfl) <| zS rfl (ay (av := .v _) rfl h6 rfl) ?_;exact K _ 2 _ (ap (bK h6)) rfl rfl
    ·refine zF h6 rfl <| zF h6 rfl <| zS rfl (aw (av := .v _) rfl h6 rfl) ?_;exact K _ 2 _ (ap (bL h6)) rfl rfl
   refine za rfl <| ai <| aU ?_;obtain rfl := aC H;exact And.intro rfl (Exists.intro _ (Exists.intro _ ⟨aW rfl (.refl _), aI [] rfl, rfl, rfl⟩))
set_option maxRecDepth 100000 in
set_option maxHeartbeats 1000000 in
theorem oA (F : Nat) (a1 : Int) (a2 : Int) (a3 : List UInt8) (a4 : List UInt8) (a5 : List UInt8) (a6 : List UInt8) (a7 : Int) (a8 : List (List UInt8)) (a9 : Int) (a10 : Int) (a11 : Int) (r12 : Int) (r13 : Int) (r14 : List UInt8) (r15 : List UInt8) (r16 : List UInt8) (r17 : List UInt8) (r18 : List UInt8) (H : hC F a1 a2 a3 a4 a5 a6 a7 a8 a9 a10 a11 = some (r12, r13, r14, r15, r16, r17, r18)) : ACalls Tryz.prog 21 [.agg [i64 a1, i64 a2, S a3, S a4, S a5, slE Enc.byte a6 none], .agg [i64 a7, slE Enc.str a8 none, i64 a9, i64 a10, i64 a11]] [] (Ret (.tup [.agg [i64 r12, i64 r13, S r14, S r15, S r16, slE Enc.byte r17 none], slE Enc.byte r18 none]) []) := by
 unfold hC at H
 refine az Tryz.func21 rfl rfl ?_;show AW _ _ 131 _ _ _;refine ah <| ac ?_;show AR _ _ _ _ _ [0, 1, 2, 3] _;refine zX rfl (gR rfl (.inr ⟨_, rfl⟩)) ?_;rintro _ _ ⟨o19, rfl, rfl⟩;refine zR rfl (ce rfl (.inr ⟨_, rfl⟩)) <| zX rfl (bH (zs := [.int .i64 0, .int .i64 0, .string ⟨#[]⟩, .string ⟨#[]⟩, .string ⟨#[]⟩, .slice none 0 0]) (by kernel_rfl)) ?_;rintro _ _ ⟨o20, rfl, rfl⟩;refine za rfl <| ai <| ah <| ah <| ac ?_;show AR _ _ _ _ _ [0, 1, 2, 3, 4, 5, 6, 7] _;refine zS rfl (ag (n := 0) (by kernel_rfl) rfl) <| zR rfl (al (i := 1) aq rfl rfl rfl rfl) <| zS rfl (cc rfl rfl) <| zm rfl <| aP (l := []) 26 (B ((decide (a1 < 0)) || (decide (7 ≤ a1)))) (fun K => ?_) ?_
 ·rcases af (decide (a1 < 0)) with h21 | h21
  ·refine zF h21 rfl <| zF h21 rfl <| zF h21 rfl <| zS rfl (ay (av := .v _) rfl h21 rfl) ?_;exact K _ 3 _ (ap (fZ h21)) rfl rfl
  ·refine zU h21 rfl (ag (n := 0) (by kernel_rfl) rfl) <| zT h21 rfl (bJ rfl rfl (al (i := 1) aq rfl rfl rfl rfl) ?_);refine zU h21 rfl (dQ rfl rfl) <| zS rfl (aw (av := .v _) rfl h21 rfl) ?_;exact K _ 3 _ (ap (gb h21)) rfl rfl
 refine ai <| aF rfl (fun c22 => ?_) (fun c22 => ?_)
 ·replace H := bf c22 H;refine ah <| ac ?_;show AR _ _ _ _ _ [0, 1, 2] _;refine zR rfl (bx (i := 1) (n := 6) au rfl (by kernel_rfl) rfl rfl (aa rfl)) <| s0 rfl rfl (aQ (i := 0) (vs := [i64 a1, i64 a2, S a3, S a4, S a5, slE Enc.byte a6 none]) (by kernel_rfl) rfl rfl (by simp [bo, slE]) rfl (aa rfl)) <| za rfl <| ai <| aU ?_;obtain ⟨rfl, rfl, rfl, rfl, rfl, rfl, rfl⟩ := jU H;exact And.intro rfl (Exists.intro _ (Exists.intro _ ⟨bR (bU rfl (bV (off := 0) (cs := [i64 a1, i64 a2, S a3, S a4, S a5, slE Enc.byte a6 none]) (n := 6) 0 au rfl (by kernel_rfl) rfl rfl (aa rfl)) ((show PlaceV _ _ _ (.tmp _) _ from (.nil _)))), aI [] rfl, rfl, rfl⟩))
 ·replace H := aZ c22 H;refine aL <| ah <| ah <| ac ?_;show AR _ _ _ _ _ [0, 1, 2] _;refine zS rfl (aH (n := 0) (by kernel_rfl) rfl (aa rfl)) <| zS rfl (aE aq rfl rfl) <| zS rfl (bw rfl rfl) <| ai <| aF rfl (fun c23 => ?_) (fun c23 => ?_)
  ·replace H := bf c23 H;refine ah ?_;obtain ⟨x24, e25, H⟩ := cH H;refine ac ?_;show AR _ _ _ _ _ [0, 1, 2, 3] _;refine zR rfl (bx (i := 1) (n := 6) au rfl (by kernel_rfl) rfl rfl (aa rfl)) <| an rfl rfl (aV rfl sf rfl (kN F a1 a2 a3 a4 a5 a6 x24.1 x24.2.1 x24.2.2.1 x24.2.2.2.1 x24.2.2.2.2.1 x24.2.2.2.2.2 e25) ?_);refine s0 rfl rfl (aQ (i := 0) (vs := [i64 x24.1, i64 x24.2.1, S x24.2.2.1, S x24.2.2.2.1, S x24.2.2.2.2.1, slE Enc.byte x24.2.2.2.2.2 none]) (by kernel_rfl) rfl rfl (by simp [bo, slE]) rfl (aa rfl)) <| za rfl <| ai <| aU ?_;obtain ⟨rfl, rfl, rfl, rfl, rfl, rfl, rfl⟩ := jU H;exact And.intro rfl (Exists.intro _ (Exists.intro _ ⟨bR (bU rfl (bV (off := 0) (cs := [i64 x24.1, i64 x24.2.1, S x24.2.2.1, S x24.2.2.2.1, S x24.2.2.2.2.1, slE Enc.byte x24.2.2.2.2.2 none]) (n := 6) 0 au rfl (by kernel_rfl) rfl rfl (aa rfl)) ((show PlaceV _ _ _ (.tmp _) _ from (.nil _)))), aI [] rfl, rfl, rfl⟩))
  ·replace H := aZ c23 H;refine aL <| ah <| ah <| ac ?_;show AR _ _ _ _ _ [0, 1, 2] _;refine zS rfl (ag (n := 0) (by kernel_rfl) rfl) <| zR rfl (al (i := 1) aq rfl rfl rfl rfl) <| zS rfl (bw rfl rfl) <| ai <| aF rfl (fun c26 => ?_) (fun c26 => ?_)
   ·replace H := bf c26 H;refine ah <| ac ?_;show AR _ _ _ _ _ [0, 1] _;refine zS rfl (ag (n := 0) (by kernel_rfl) rfl) <| s0 rfl rfl (ar (i := 1) (c := .v _) (by kernel_rfl) rfl rfl rfl rfl (aa rfl)) <| ai <| ah <| ac ?_;show AR _ _ _ _ _ [0, 1, 2] _;refine zR rfl (bx (i := 1) (n := 6) au rfl (by kernel_rfl) rfl rfl (aa rfl)) <| s0 rfl rfl (aQ (i := 0) (vs := [i64 7, i64 a2, S a3, S a4, S a5, slE Enc.byte a6 none]) (by kernel_rfl) rfl rfl (by simp [bo, slE]) rfl (aa rfl)) <| za rfl <| ai <| aU ?_;obtain ⟨rfl, rfl, rfl, rfl, rfl, rfl, rfl⟩ := jU H;exact And.intro rfl (Exists.intro _ (Exists.intro _ ⟨bR (bU rfl (bV (off := 0) (cs := [i64 7, i64 a2, S a3, S a4, S a5, slE Enc.byte a6 none]) (n := 6) 0 au rfl (by kernel_rfl) rfl rfl (aa rfl)) ((show PlaceV _ _ _ (.tmp _) _ from (.nil _)))), aI [] rfl, rfl, rfl⟩))
   ·replace H := aZ c26 H;refine aL <| ah ?_;obtain ⟨x27, e28, H⟩ := cH H;refine ac ?_;show AR _ _ _ _ _ [0, 1, 2, 3, 4, 5] _;refine zS rfl (ag (n := 0) (by kernel_rfl) rfl) <| zR rfl (al (i := 1) aq rfl rfl rfl rfl) <| zS rfl (aH (n := 0) (by kernel_rfl) rfl (aa rfl)) <| zS rfl (aE aq rfl rfl) <| an rfl rfl (aV rfl rX rfl (oz F a1 a7 x27 e28) ?_);refine za rfl <| ai <| ah <| ah <| ac ?_;show AR _ _ _ _ _ [0, 1] _;refine zm rfl <| zS rfl (dw rfl) <| ai <| aF rfl (fun c29 => ?_) (fun c29 => ?_)
    ·replace H := bf c29 H;refine ah <| ah <| ac ?_;show AR _ _ _ _ _ [0, 1, 2, 3, 4, 5, 6, 7] _;refine zS rfl (aH (n := 0) (by kernel_rfl) rfl (aa rfl)) <| zS rfl (aE aq rfl rfl) <| zS rfl (dQ rfl rfl) <| zm rfl <| aP (l := []) 52 (B ((decide (500 ≤ a7)) && (decide (a7 ≤ 599)))) (fun K => ?_) ?_
     ·rcases af (decide (500 ≤ a7)) with h30 | h30
      ·refine zU h30 rfl (aH (n := 0) (by kernel_rfl) rfl (aa rfl)) <| zU h30 rfl (aE aq rfl rfl) <| zU h30 rfl (dj rfl rfl) <| zS rfl (ay (av := .v _) rfl h30 rfl) ?_;exact K _ 3 _ (ap (bK h30)) rfl rfl
      ·refine zF h30 rfl <| zF h30 rfl <| zF h30 rfl <| zS rfl (aw (av := .v _) rfl h30 rfl) ?_;exact K _ 3 _ (ap (bL h30)) rfl rfl
     refine ai <| aF rfl (fun c31 => ?_) (fun c31 => ?_)
     ·replace H := bf c31 H;refine ah ?_;obtain ⟨x32, e33, H⟩ := cH H;refine ac ?_;show AR _ _ _ _ _ [0, 1, 2, 3, 4, 5, 6, 7] _;refine zR rfl (bx (i := 1) (n := 6) au rfl (by kernel_rfl) rfl rfl (aa rfl)) <| an rfl rfl (aV rfl jE rfl (gM F a1 a2 a3 a4 a5 a6 3 x32.1 x32.2.1 x32.2.2.1 x32.2.2.2.1 x32.2.2.2.2.1 x32.2.2.2.2.2.1 x32.2.2.2.2.2.2 e33) ?_);refine zS rfl (ak (av := .tup _) rfl) <| zS rfl (aM (av := .agg _) rfl rfl) <| zS rfl (aM (av := slE _ _ _) rfl rfl) <| zX rfl (bH (zs := [.int .i64 0, .int .i64 0, .string ⟨#[]⟩, .string ⟨#[]⟩, .string ⟨#[]⟩, .slice none 0 0]) (by kernel_rfl)) ?_;rintro _ _ ⟨o34, rfl, rfl⟩;refine s0 rfl rfl (aQ (i := 0) (vs := [i64 x32.1, i64 x32.2.1, S x32.2.2.1, S x32.2.2.2.1, S x32.2.2.2.2.1, slE Enc.byte x32.2.2.2.2.2.1 none]) (by kernel_rfl) rfl rfl (by simp [bo, slE]) rfl (aa rfl)) <| ec 7 0 rfl rfl ?_;show AR _ _ _ _ _ _ ⟨_, _, [.obj o20 [i64 0, i64 0, S ([] : List UInt8), S ([] : List UInt8), S ([] : List UInt8), fm], .obj o19 [i64 a1, i64 a2, S a3, S a4, S a5, slE Enc.byte a6 none]]⟩;refine zS rfl (aA (av := slE _ _ _) rfl) <| ai <| ah <| ac ?_;show AR _ _ _ _ _ [0, 1, 2, 3] _
      refine zS rfl (aR au rfl (n := 6) (by kernel_rfl) rfl (aa rfl)) <| zS rfl (ak (av := slE _ _ _) rfl) <| s0 rfl rfl (aQ (i := 0) (vs := [i64 x32.1, i64 x32.2.1, S x32.2.2.1, S x32.2.2.2.1, S x32.2.2.2.2.1, slE Enc.byte x32.2.2.2.2.2.1 none]) (by kernel_rfl) rfl rfl (by simp [bo, slE]) rfl (aa rfl)) <| zS rfl (aA (av := slE _ _ _) rfl) <| ai <| aU ?_;obtain ⟨rfl, rfl, rfl, rfl, rfl, rfl, rfl⟩ := jU H;exact And.intro rfl (Exists.intro _ (Exists.intro _ ⟨bR (bU rfl (bV (off := 0) (cs := [i64 x32.1, i64 x32.2.1, S x32.2.2.1, S x32.2.2.2.1, S x32.2.2.2.2.1, slE Enc.byte x32.2.2.2.2.2.1 none]) (n := 6) 0 au rfl (by kernel_rfl) rfl rfl (aa rfl)) ((show PlaceV _ _ _ (.tmp _) _ from (.refl _)))), aI [] rfl, rfl, rfl⟩))
     ·replace H := aZ c31 H;refine aL <| ah ?_;obtain ⟨x35, e36, H⟩ := cH H;refine ac ?_;show AR _ _ _ _ _ [0, 1, 2, 3, 4, 5, 6, 7] _;refine zR rfl (bx (i := 1) (n := 6) au rfl (by kernel_rfl) rfl rfl (aa rfl)) <| an rfl rfl (aV rfl jE rfl (gM F a1 a2 a3 a4 a5 a6 2 x35.1 x35.2.1 x35.2.2.1 x35.2.2.2.1 x35.2.2.2.2.1 x35.2.2.2.2.2.1 x35.2.2.2.2.2.2 e36) ?_);refine zS rfl (ak (av := .tup _) rfl) <| zS rfl (aM (av := .agg _) rfl rfl) <| zS rfl (aM (av := slE _ _ _) rfl rfl) <| zX rfl (bH (zs := [.int .i64 0, .int .i64 0, .string ⟨#[]⟩, .string ⟨#[]⟩, .string ⟨#[]⟩, .slice none 0 0]) (by kernel_rfl)) ?_;rintro _ _ ⟨o37, rfl, rfl⟩;refine s0 rfl rfl (aQ (i := 0) (vs := [i64 x35.1, i64 x35.2.1, S x35.2.2.1, S x35.2.2.2.1, S x35.2.2.2.2.1, slE Enc.byte x35.2.2.2.2.2.1 none]) (by kernel_rfl) rfl rfl (by simp [bo, slE]) rfl (aa rfl)) <| ec 9 0 rfl rfl ?_;show AR _ _ _ _ _ _ ⟨_, _, [.obj o20 [i64 0, i64 0, S ([] : List UInt8), S ([] : List UInt8), S ([] : List UInt8), fm], .obj o19 [i64 a1, i64 a2, S a3, S a4, S a5, slE Enc.byte a6 none]]⟩;refine zS rfl (aA (av := slE _ _ _) rfl) <| ai <| ah <| ac ?_;show AR _ _ _ _ _ [0, 1, 2, 3] _
      refine zS rfl (aR au rfl (n := 6) (by kernel_rfl) rfl (aa rfl)) <| zS rfl (ak (av := slE _ _ _) rfl) <| s0 rfl rfl (aQ (i := 0) (vs := [i64 x35.1, i64 x35.2.1, S x35.2.2.1, S x35.2.2.2.1, S x35.2.2.2.2.1, slE Enc.byte x35.2.2.2.2.2.1 none]) (by kernel_rfl) rfl rfl (by simp [bo, slE]) rfl (aa rfl)) <| zS rfl (aA (av := slE _ _ _) rfl) <| ai <| aU ?_;obtain ⟨rfl, rfl, rfl, rfl, rfl, rfl, rfl⟩ := jU H;exact And.intro rfl (Exists.intro _ (Exists.intro _ ⟨bR (bU rfl (bV (off := 0) (cs := [i64 x35.1, i64 x35.2.1, S x35.2.2.1, S x35.2.2.2.1, S x35.2.2.2.2.1, slE Enc.byte x35.2.2.2.2.2.1 none]) (n := 6) 0 au rfl (by kernel_rfl) rfl rfl (aa rfl)) ((show PlaceV _ _ _ (.tmp _) _ from (.refl _)))), aI [] rfl, rfl, rfl⟩))
    ·replace H := aZ c29 H;refine aL <| ah ?_;obtain ⟨x38, x39, e40, H⟩ := dJ H;refine ac ?_;show AR _ _ _ _ _ [0, 1, 2, 3, 4, 5, 6, 7] _;refine zS rfl (ag (n := 5) (by kernel_rfl) rfl) <| zR rfl (al (i := 1) ab rfl rfl rfl rfl) <| an rfl rfl (aV rfl rY rfl (nj F a6 none x38 x39 e40) ?_);refine zS rfl (ak (av := .tup _) rfl) <| zS rfl (aM (av := slE _ _ _) rfl rfl) <| zS rfl (aM (av := .v _) rfl rfl) <| zS rfl (aA (av := slE _ _ _) rfl) <| za rfl <| ai <| ah <| ac ?_;show AR _ _ _ _ _ [0] _;refine za rfl <| ai <| bX (X := (List UInt8) × Int) (fun (y74, y75) => ⟨[(2, .pt o19 0), (4, .pt o20 0), (13, S y74)], [], [.obj o20 [i64 0, i64 0, S ([] : List UInt8), S ([] : List UInt8), S ([] : List UInt8), fm], .obj o19 [i64 y75, i64 a2, S a3, S a4, S a5, slE Enc.byte a6 none]]⟩) (fun (y74, y75) => dg a2 a3 a4 a5 a6 y74 y75 = some (r12, r13, r14, r15, r16, r17, r18)) ?_ ?_
     ·refine ah <| ac ?_;show AR _ _ _ _ _ [0, 1] _;refine zS rfl (ag (n := 0) (by kernel_rfl) rfl) <| zR rfl (al (i := 1) aq rfl rfl rfl rfl) <| ai <| bh <| ah <| ac ?_;show AR _ _ _ _ _ [0, 1] _;refine zS rfl (bw rfl rfl) <| za rfl <| ai <| aF rfl (fun c41 => ?_) (fun c41 => ?_)
      ·replace H := bf c41 H;refine ah <| ac ?_;show AR _ _ _ _ _ [0, 1] _;refine zS rfl (ag (n := 0) (by kernel_rfl) rfl) <| s0 rfl rfl (ar (i := 1) (c := .v _) (by kernel_rfl) rfl rfl rfl rfl (aa rfl)) <| ai ?_;obtain ⟨g42, H⟩ := ba H;obtain ⟨x43, e44, H⟩ := cd H;obtain ⟨g45, H⟩ := ba H;obtain ⟨x46, e47, H⟩ := cd H;refine ac ?_;show AR _ _ _ _ _ [0, 1, 2, 3, 4] _;refine zS rfl (ag (n := 4) (by kernel_rfl) rfl) <| zR rfl (al (i := 1) aj rfl rfl rfl rfl) <| zS rfl (lz rfl rfl g42 e44) <| zS rfl (lz rfl rfl g45 e47) <| za rfl <| ai ?_;exact Exists.intro (x46, 1) ⟨H, bc [0, 0] (.cons (.refl _) (.cons (.refl _) (.cons (.refl _) (.nil _)))) rfl⟩
      ·replace H := aZ c41 H;refine ah <| ac ?_;show AR _ _ _ _ _ [0, 1] _;refine zS rfl (bw rfl rfl) <| za rfl <| ai <| aF rfl (fun c48 => ?_) (fun c48 => ?_)
       ·replace H := bf c48 H;refine ah ?_;obtain ⟨x49, e50, H⟩ := cH H;refine ac ?_;show AR _ _ _ _ _ [0, 1, 2] _;refine zS rfl (aR be rfl (n := 5) (by kernel_rfl) rfl (aa rfl)) <| an rfl rfl (aV rfl sd rfl (kL F a7 a8 a9 a10 a11 x49 e50) ?_);refine za rfl <| ai <| ah <| ah <| ac ?_;show AR _ _ _ _ _ [0, 1, 2, 3, 4, 5, 6, 7] _;refine zm rfl <| zS rfl (gC rfl rfl) <| zm rfl <| aP (l := []) 100 (B ((decide (0 < x49)) && (decide (x49 < (x38.length : Int))))) (fun K => ?_) ?_
        ·rcases af (decide (0 < x49)) with h51 | h51
         ·refine zM h51 rfl <| zU h51 rfl (ak (av := slE _ _ _) rfl) <| zU h51 rfl (aY ab rfl) <| zU h51 rfl (cc rfl rfl) <| zS rfl (ay (av := .v _) rfl h51 rfl) ?_;exact K _ 4 _ (ap (bK h51)) rfl rfl
         ·refine zF h51 rfl <| zF h51 rfl <| zF h51 rfl <| zF h51 rfl <| zS rfl (aw (av := .v _) rfl h51 rfl) ?_;exact K _ 4 _ (ap (bL h51)) rfl rfl
        refine ai <| aF rfl (fun c52 => ?_) (fun c52 => ?_)
        ·replace H := bf c52 H;refine ah ?_;obtain ⟨x53, e54, H⟩ := cH H;refine ac ?_;show AR _ _ _ _ _ [0, 1, 2, 3, 4, 5, 6, 7] _;refine zR rfl (bx (i := 1) (n := 6) au rfl (by kernel_rfl) rfl rfl (aa rfl)) <| an rfl rfl (aV rfl jE rfl (gM F a1 a2 a3 a4 a5 a6 3 x53.1 x53.2.1 x53.2.2.1 x53.2.2.2.1 x53.2.2.2.2.1 x53.2.2.2.2.2.1 x53.2.2.2.2.2.2 e54) ?_);refine zS rfl (ak (av := .tup _) rfl) <| zS rfl (aM (av := .agg _) rfl rfl) <| zS rfl (aM (av := slE _ _ _) rfl rfl) <| zX rfl (bH (zs := [.int .i64 0, .int .i64 0, .string ⟨#[]⟩, .string ⟨#[]⟩, .string ⟨#[]⟩, .slice none 0 0]) (by kernel_rfl)) ?_;rintro _ _ ⟨o55, rfl, rfl⟩;refine s0 rfl rfl (aQ (i := 0) (vs := [i64 x53.1, i64 x53.2.1, S x53.2.2.1, S x53.2.2.2.1, S x53.2.2.2.2.1, slE Enc.byte x53.2.2.2.2.2.1 none]) (by kernel_rfl) rfl rfl (by simp [bo, slE]) rfl (aa rfl)) <| ec 15 0 rfl rfl ?_;show AR _ _ _ _ _ _ ⟨_, _, [.obj o20 [i64 0, i64 0, S ([] : List UInt8), S ([] : List UInt8), S ([] : List UInt8), fm], .obj o19 [i64 a1, i64 a2, S a3, S a4, S a5, slE Enc.byte a6 none]]⟩;refine zS rfl (aA (av := slE _ _ _) rfl) <| ai <| ah <| ac ?_;show AR _ _ _ _ _ [0, 1, 2, 3] _
         refine zS rfl (aR au rfl (n := 6) (by kernel_rfl) rfl (aa rfl)) <| zS rfl (ak (av := slE _ _ _) rfl) <| s0 rfl rfl (aQ (i := 0) (vs := [i64 x53.1, i64 x53.2.1, S x53.2.2.1, S x53.2.2.2.1, S x53.2.2.2.2.1, slE Enc.byte x53.2.2.2.2.2.1 none]) (by kernel_rfl) rfl rfl (by simp [bo, slE]) rfl (aa rfl)) <| zS rfl (aA (av := slE _ _ _) rfl) <| ai <| aU ?_;obtain ⟨rfl, rfl, rfl, rfl, rfl, rfl, rfl⟩ := jU H;exact And.intro rfl (Exists.intro _ (Exists.intro _ ⟨bR (bU rfl (bV (off := 0) (cs := [i64 x53.1, i64 x53.2.1, S x53.2.2.1, S x53.2.2.2.1, S x53.2.2.2.2.1, slE Enc.byte x53.2.2.2.2.2.1 none]) (n := 6) 0 au rfl (by kernel_rfl) rfl rfl (aa rfl)) ((show PlaceV _ _ _ (.tmp _) _ from (.refl _)))), aI [] rfl, rfl, rfl⟩))
        ·replace H := aZ c52 H;refine aL <| ah <| ac ?_;show AR _ _ _ _ _ [0, 1] _;refine zS rfl (ag (n := 0) (by kernel_rfl) rfl) <| s0 rfl rfl (ar (i := 1) (c := .v _) (by kernel_rfl) rfl rfl rfl rfl (aa rfl)) <| ai ?_;obtain ⟨g56, H⟩ := ba H;obtain ⟨x57, e58, H⟩ := cd H;obtain ⟨g59, H⟩ := ba H;obtain ⟨x60, e61, H⟩ := cd H;refine ac ?_;show AR _ _ _ _ _ [0, 1, 2, 3, 4] _;refine zS rfl (ag (n := 2) (by kernel_rfl) rfl) <| zR rfl (al (i := 1) aj rfl rfl rfl rfl) <| zS rfl (lz rfl rfl g56 e58) <| zS rfl (lz rfl rfl g59 e61) <| za rfl <| ai ?_;exact Exists.intro (x60, 2) ⟨H, bc [0, 0] (.cons (.refl _) (.cons (.refl _) (.cons (.refl _) (.nil _)))) rfl⟩
       ·replace H := aZ c48 H;refine ah <| ac ?_;show AR _ _ _ _ _ [0, 1] _;refine zS rfl (bw rfl rfl) <| za rfl <| ai <| aF rfl (fun c62 => ?_) (fun c62 => ?_)
        ·replace H := bf c62 H;refine ah <| ac ?_;show AR _ _ _ _ _ [0, 1] _;refine zS rfl (ag (n := 0) (by kernel_rfl) rfl) <| s0 rfl rfl (ar (i := 1) (c := .v _) (by kernel_rfl) rfl rfl rfl rfl (aa rfl)) <| ai ?_;obtain ⟨g63, H⟩ := ba H;obtain ⟨x64, e65, H⟩ := cd H;obtain ⟨g66, H⟩ := ba H;obtain ⟨x67, e68, H⟩ := cd H;refine ac ?_;show AR _ _ _ _ _ [0, 1, 2, 3, 4] _;refine zS rfl (ag (n := 3) (by kernel_rfl) rfl) <| zR rfl (al (i := 1) aj rfl rfl rfl rfl) <| zS rfl (lz rfl rfl g63 e65) <| zS rfl (lz rfl rfl g66 e68) <| za rfl <| ai ?_;exact Exists.intro (x67, 3) ⟨H, bc [0, 0] (.cons (.refl _) (.cons (.refl _) (.cons (.refl _) (.nil _)))) rfl⟩
        ·replace H := aZ c62 H;refine ah <| ac ?_;show AR _ _ _ _ _ [0, 1] _;refine zS rfl (bw rfl rfl) <| za rfl <| ai <| aF rfl (fun c69 => ?_) (fun c69 => ?_)
         ·replace H := bf c69 H;refine ah <| ac ?_;show AR _ _ _ _ _ [0, 1] _;refine zS rfl (ag (n := 0) (by kernel_rfl) rfl) <| s0 rfl rfl (ar (i := 1) (c := .v _) (by kernel_rfl) rfl rfl rfl rfl (aa rfl)) <| ai <| ac ?_;show AR _ _ _ _ _ [0] _;refine za rfl <| ai ?_;exact Exists.intro (([68, 65, 84, 65, 13, 10] : List UInt8), 4) ⟨H, bc [0, 0] (.cons (.refl _) (.cons (.refl _) (.cons (.refl _) (.nil _)))) rfl⟩
         ·replace H := aZ c69 H;refine ah <| ac ?_;show AR _ _ _ _ _ [0, 1] _;refine zS rfl (bw rfl rfl) <| za rfl <| ai <| aF rfl (fun c70 => ?_) (fun c70 => ?_)
          ·replace H := bf c70 H;refine ah <| ac ?_;show AR _ _ _ _ _ [0, 1] _;refine zS rfl (ag (n := 0) (by kernel_rfl) rfl) <| s0 rfl rfl (ar (i := 1) (c := .v _) (by kernel_rfl) rfl rfl rfl rfl (aa rfl)) <| ai <| ah <| ac ?_;show AR _ _ _ _ _ [0, 1, 2, 3] _;refine zR rfl (bx (i := 1) (n := 6) au rfl (by kernel_rfl) rfl rfl (aa rfl)) <| zS rfl (ak (av := slE _ _ _) rfl) <| s0 rfl rfl (aQ (i := 0) (vs := [i64 5, i64 a2, S a3, S a4, S a5, slE Enc.byte a6 none]) (by kernel_rfl) rfl rfl (by simp [bo, slE]) rfl (aa rfl)) <| zS rfl (aA (av := slE _ _ _) rfl) <| ai <| aU ?_;obtain ⟨rfl, rfl, rfl, rfl, rfl, rfl, rfl⟩ := jU H;exact And.intro rfl (Exists.intro _ (Exists.intro _ ⟨bR (bU rfl (bV (off := 0) (cs := [i64 5, i64 a2, S a3, S a4, S a5, slE Enc.byte a6 none]) (n := 6) 0 au rfl (by kernel_rfl) rfl rfl (aa rfl)) ((show PlaceV _ _ _ (.tmp _) _ from (.refl _)))), aI [] rfl, rfl, rfl⟩))
          ·replace H := aZ c70 H;refine ah ?_;obtain ⟨x71, e72, H⟩ := cH H;refine ac ?_;show AR _ _ _ _ _ [0, 1, 2, 3, 4, 5, 6, 7] _;refine zR rfl (bx (i := 1) (n := 6) au rfl (by kernel_rfl) rfl rfl (aa rfl)) <| an rfl rfl (aV rfl jE rfl (gM F a1 a2 a3 a4 a5 a6 1 x71.1 x71.2.1 x71.2.2.1 x71.2.2.2.1 x71.2.2.2.2.1 x71.2.2.2.2.2.1 x71.2.2.2.2.2.2 e72) ?_);refine zS rfl (ak (av := .tup _) rfl) <| zS rfl (aM (av := .agg _) rfl rfl) <| zS rfl (aM (av := slE _ _ _) rfl rfl) <| zX rfl (bH (zs := [.int .i64 0, .int .i64 0, .string ⟨#[]⟩, .string ⟨#[]⟩, .string ⟨#[]⟩, .slice none 0 0]) (by kernel_rfl)) ?_;rintro _ _ ⟨o73, rfl, rfl⟩;refine s0 rfl rfl (aQ (i := 0) (vs := [i64 x71.1, i64 x71.2.1, S x71.2.2.1, S x71.2.2.2.1, S x71.2.2.2.2.1, slE Enc.byte x71.2.2.2.2.2.1 none]) (by kernel_rfl) rfl rfl (by simp [bo, slE]) rfl (aa rfl)) <| ec 17 0 rfl rfl ?_;show AR _ _ _ _ _ _ ⟨_, _, [.obj o20 [i64 0, i64 0, S ([] : List UInt8), S ([] : List UInt8), S ([] : List UInt8), fm], .obj o19 [i64 a1, i64 a2, S a3, S a4, S a5, slE Enc.byte a6 none]]⟩;refine zS rfl (aA (av := slE _ _ _) rfl) <| ai <| ah <| ac ?_;show AR _ _ _ _ _ [0, 1, 2, 3] _
           refine zS rfl (aR au rfl (n := 6) (by kernel_rfl) rfl (aa rfl)) <| zS rfl (ak (av := slE _ _ _) rfl) <| s0 rfl rfl (aQ (i := 0) (vs := [i64 x71.1, i64 x71.2.1, S x71.2.2.1, S x71.2.2.2.1, S x71.2.2.2.2.1, slE Enc.byte x71.2.2.2.2.2.1 none]) (by kernel_rfl) rfl rfl (by simp [bo, slE]) rfl (aa rfl)) <| zS rfl (aA (av := slE _ _ _) rfl) <| ai <| aU ?_;obtain ⟨rfl, rfl, rfl, rfl, rfl, rfl, rfl⟩ := jU H;exact And.intro rfl (Exists.intro _ (Exists.intro _ ⟨bR (bU rfl (bV (off := 0) (cs := [i64 x71.1, i64 x71.2.1, S x71.2.2.1, S x71.2.2.2.1, S x71.2.2.2.2.1, slE Enc.byte x71.2.2.2.2.2.1 none]) (n := 6) 0 au rfl (by kernel_rfl) rfl rfl (aa rfl)) ((show PlaceV _ _ _ (.tmp _) _ from (.refl _)))), aI [] rfl, rfl, rfl⟩))
     rintro ⟨y74, y75⟩ H;replace H : dg a2 a3 a4 a5 a6 y74 y75 = some (r12, r13, r14, r15, r16, r17, r18) := H
     unfold dg at H
     refine ah ?_;obtain ⟨g77, H⟩ := ba H;refine ac ?_;show AR _ _ _ _ _ [0, 1, 2, 3, 4] _;refine zR rfl (bx (i := 1) (n := 6) au rfl (by kernel_rfl) rfl rfl (aa rfl)) <| zm rfl <| zX rfl (fX (bytes := 1) aj ab aJ rfl g77) ?_;rintro _ _ ⟨t78, rfl, rfl⟩;refine s0 rfl rfl (aQ (i := 1) (vs := [i64 y75, i64 a2, S a3, S a4, S a5, slE Enc.byte a6 none]) (by kernel_rfl) rfl rfl (by simp [bo, slE]) rfl (aa rfl)) <| zS rfl (aA (av := slE _ _ _) rfl) <| ai <| aU ?_;obtain ⟨rfl, rfl, rfl, rfl, rfl, rfl, rfl⟩ := jU H;exact And.intro rfl (Exists.intro _ (Exists.intro _ ⟨bR (bU rfl (bV (off := 0) (cs := [i64 y75, i64 a2, S a3, S a4, S a5, slE Enc.byte a6 none]) (n := 6) 1 au rfl (by kernel_rfl) rfl rfl (aa rfl)) ((show PlaceV _ _ _ (.tmp _) _ from (.tok _ _ _)))), aI [] rfl, rfl, rfl⟩))
end Go.Proofs.YtgjkjkmmgdbcoaaGreatDoor
namespace Go.Pv
def cC (F : Nat) (a1 : Int) (a2 : Int) (a3 : List UInt8) (a4 : List UInt8) (a5 : List UInt8) (a6 : List UInt8) (a7 : Int) (a8 : List (List UInt8)) (a9 : Int) (a10 : Int) (a11 : Int) : Option Bool :=
bnd (ln F a1 a2 a3 a4 a5 a6 a7 a8 a9 a10 a11) fun x30 =>
bnd (hC F a1 a2 a3 a4 a5 a6 a7 a8 a9 a10 a11) fun x33 =>
bnd (ge F x30.1 x30.2.1 x30.2.2.1 x30.2.2.2.1 x30.2.2.2.2.1 x30.2.2.2.2.2.1 x33.1 x33.2.1 x33.2.2.1 x33.2.2.2.1 x33.2.2.2.2.1 x33.2.2.2.2.2.1) fun x36 =>
bnd (lq F a1 a2 a3 a4 a5 a6) fun x38 =>
bnd (gg F a1 a2 a3 a4 a5 a6) fun x40 =>
bnd (ge F x38.1 x38.2.1 x38.2.2.1 x38.2.2.2.1 x38.2.2.2.2.1 x38.2.2.2.2.2 x40.1 x40.2.1 x40.2.2.1 x40.2.2.2.1 x40.2.2.2.2.1 x40.2.2.2.2.2) fun x42 =>
iJ ((x36 && (decide (x30.2.2.2.2.2.2 = x33.2.2.2.2.2.2))) && x42) (jR F a7 a8 a9 a10 a11) fun x47 =>
iJ ((x36 && (decide (x30.2.2.2.2.2.2 = x33.2.2.2.2.2.2))) && x42) (gc F a7 a8 a9 a10 a11) fun x49 =>
some (((x36 && (decide (x30.2.2.2.2.2.2 = x33.2.2.2.2.2.2))) && x42) && (decide (x47 = x49)))
def cV (F : Nat) (a1 : Int) (a2 : Int) (a3 : List UInt8) (a4 : List UInt8) (a5 : List UInt8) (a6 : List UInt8) (a7 : Int) (a8 : List (List UInt8)) (a9 : Int) (a10 : Int) (a11 : Int) (rec21 : Int → Option Bool) (y20 : Int) : Option Bool :=
bif decide (y20 < (a8.length : Int)) then
  grd (cI y20 a8.length) <|
  lt (at_ a8 y20) fun x25 =>
  bif decide (600 < (x25.length : Int)) then
    some true
  else
    grd (okI (y20 + 1)) <|
    rec21 (y20 + 1)
else
  cC F a1 a2 a3 a4 a5 a6 a7 a8 a9 a10 a11
def cU (F : Nat) (a1 : Int) (a2 : Int) (a3 : List UInt8) (a4 : List UInt8) (a5 : List UInt8) (a6 : List UInt8) (a7 : Int) (a8 : List (List UInt8)) (a9 : Int) (a10 : Int) (a11 : Int) (n : Nat) : Int → Option Bool :=
  loop (fun rec x => cV F a1 a2 a3 a4 a5 a6 a7 a8 a9 a10 a11 rec x) n
def dB (F : Nat) (a1 : Int) (a2 : Int) (a3 : List UInt8) (a4 : List UInt8) (a5 : List UInt8) (a6 : List UInt8) (a7 : Int) (a8 : List (List UInt8)) (a9 : Int) (a10 : Int) (a11 : Int) : Option Bool :=
bnd (gy F) fun x13 =>
bnd (iB F a1 a2 a3 a4 a5 a6) fun x15 =>
bif ((!x13) || (!x15)) || (decide (20 < (a8.length : Int))) then
  some x13
else
  cU F a1 a2 a3 a4 a5 a6 a7 a8 a9 a10 a11 F 0
end Go.Pv
namespace Go.Proofs.YtgjkjkmmgdbcoaaGreatDoor
open Go.RowKit Go.Av Go.Pv
theorem kI : ∀ (args : Array Value) (w : World), (callFunc 10 args).run Tryz.prog w = .ok (.enter 10 args) w := fun _ _ => by kernel_rfl
theorem kH : ∀ (args : Array Value) (w : World), (callFunc 11 args).run Tryz.prog w = .ok (.enter 11 args) w := fun _ _ => by kernel_rfl
theorem hP : ∀ (args : Array Value) (w : World), (callFunc 14 args).run Tryz.prog w = .ok (.enter 14 args) w := fun _ _ => by kernel_rfl
theorem kG : ∀ (args : Array Value) (w : World), (callFunc 18 args).run Tryz.prog w = .ok (.enter 18 args) w := fun _ _ => by kernel_rfl
theorem kF : ∀ (args : Array Value) (w : World), (callFunc 20 args).run Tryz.prog w = .ok (.enter 20 args) w := fun _ _ => by kernel_rfl
theorem kE : ∀ (args : Array Value) (w : World), (callFunc 21 args).run Tryz.prog w = .ok (.enter 21 args) w := fun _ _ => by kernel_rfl
theorem kD : ∀ (args : Array Value) (w : World), (callFunc 22 args).run Tryz.prog w = .ok (.enter 22 args) w := fun _ _ => by kernel_rfl
theorem kC : ∀ (args : Array Value) (w : World), (callFunc 23 args).run Tryz.prog w = .ok (.enter 23 args) w := fun _ _ => by kernel_rfl
theorem kB : ∀ (args : Array Value) (w : World), (callFunc 24 args).run Tryz.prog w = .ok (.enter 24 args) w := fun _ _ => by kernel_rfl
set_option maxRecDepth 100000 in
set_option maxHeartbeats 1000000 in
theorem jH (F : Nat) (a1 : Int) (a2 : Int) (a3 : List UInt8) (a4 : List UInt8) (a5 : List UInt8) (a6 : List UInt8) (a7 : Int) (a8 : List (List UInt8)) (a9 : Int) (a10 : Int) (a11 : Int) (r12 : Bool) (H : dB F a1 a2 a3 a4 a5 a6 a7 a8 a9 a10 a11 = some r12) : ACalls Tryz.prog 8 [.agg [i64 a1, i64 a2, S a3, S a4, S a5, slE Enc.byte a6 none], .agg [i64 a7, slE Enc.str a8 none, i64 a9, i64 a10, i64 a11]] [] (Ret (B r12) []) := by
 unfold dB at H
 refine az Tryz.func8 rfl rfl ?_;show AW _ _ 82 _ _ _;refine ah <| ac ?_;show AR _ _ _ _ _ [0, 1, 2] _;refine zR rfl (ce rfl (.inr ⟨_, rfl⟩)) <| zR rfl (ce rfl (.inr ⟨_, rfl⟩)) <| za rfl <| ai <| ah ?_;obtain ⟨x13, e14, H⟩ := cH H;refine ac ?_;show AR _ _ _ _ _ [0, 1] _;refine an rfl rfl (aV rfl kI rfl (nl F x13 e14) ?_);refine za rfl <| ai <| ah ?_;obtain ⟨x15, e16, H⟩ := cH H;refine ac ?_;show AR _ _ _ _ _ [0, 1, 2] _;refine zS rfl (aR au rfl (n := 6) (by kernel_rfl) rfl (aa rfl)) <| an rfl rfl (aV rfl kH rfl (pl F a1 a2 a3 a4 a5 a6 x15 e16) ?_);refine za rfl <| ai <| ah <| ah <| ac ?_;show AR _ _ _ _ _ [0, 1, 2, 3, 4, 5, 6, 7, 8, 9, 10, 11] _;refine zm rfl <| zS rfl (dw rfl) <| zm rfl <| aP (l := [6, 7, 8, 9, 10, 11]) 22 (B ((!x13) || (!x15))) (fun K => ?_) ?_
 ·rcases af (!x13) with h17 | h17
  ·refine zF h17 rfl <| zF h17 rfl <| zS rfl (ay (av := .v _) rfl h17 rfl) ?_;exact K _ 2 _ (ap (fZ h17)) rfl rfl
  ·refine zM h17 rfl <| zU h17 rfl (dw rfl) <| zS rfl (aw (av := .v _) rfl h17 rfl) ?_;exact K _ 2 _ (ap (gb h17)) rfl rfl
 refine zm rfl <| aP (l := []) 28 (B (((!x13) || (!x15)) || (decide (20 < (a8.length : Int))))) (fun K => ?_) ?_
 ·rcases af ((!x13) || (!x15)) with h18 | h18
  ·refine zF h18 rfl <| zF h18 rfl <| zF h18 rfl <| zF h18 rfl <| zS rfl (ay (av := .v _) rfl h18 rfl) ?_;exact K _ 4 _ (ap (fZ h18)) rfl rfl
  ·refine zU h18 rfl (aH (n := 1) (by kernel_rfl) rfl (aa rfl)) <| zU h18 rfl (aE ax rfl rfl) <| zU h18 rfl (aY ax rfl) <| zU h18 rfl (gC rfl rfl) <| zS rfl (aw (av := .v _) rfl h18 rfl) ?_;exact K _ 4 _ (ap (gb h18)) rfl rfl
 refine ai <| aF rfl (fun c19 => ?_) (fun c19 => ?_)
 ·replace H := bf c19 H;refine ah <| ac ?_;show AR _ _ _ _ _ [0, 1] _;refine zm rfl <| za rfl <| ai <| aU ?_;obtain rfl := aC H;exact And.intro rfl (Exists.intro _ (Exists.intro _ ⟨aW rfl (.refl _), aI [] rfl, rfl, rfl⟩))
 ·replace H := aZ c19 H;refine aL <| bX (X := Unit) (fun _ => ⟨[(2, .cp [i64 a1, i64 a2, S a3, S a4, S a5, slE Enc.byte a6 none]), (3, .cp [i64 a7, slE Enc.str a8 none, i64 a9, i64 a10, i64 a11])], [], []⟩) (fun _ => cC F a1 a2 a3 a4 a5 a6 a7 a8 a9 a10 a11 = some r12) ?_ ?_
  ·refine ah <| ac ?_;show AR _ _ _ _ _ [0] _;refine za rfl <| ai <| bh <| dv (X := Nat × Int) (fun (n22, y20) => ⟨[(2, .cp [i64 a1, i64 a2, S a3, S a4, S a5, slE Enc.byte a6 none]), (3, .cp [i64 a7, slE Enc.str a8 none, i64 a9, i64 a10, i64 a11]), (7, i64 y20)], [], []⟩) (fun (n22, y20) => cU F a1 a2 a3 a4 a5 a6 a7 a8 a9 a10 a11 n22 y20 = some r12) (fun (n22, y20) => n22) (F, 0) H (bc [] (.cons (.refl _) (.cons (.refl _) (.cons (.refl _) (.nil _)))) rfl) ?_;rintro ⟨n22, y20⟩ H;obtain ⟨n22, rfl, H⟩ := fc H;replace H : cV F a1 a2 a3 a4 a5 a6 a7 a8 a9 a10 a11 (cU F a1 a2 a3 a4 a5 a6 a7 a8 a9 a10 a11 n22) y20 = some r12 := H
   unfold cV at H
   refine ah <| ah <| ac ?_;show AR _ _ _ _ _ [0, 1, 2, 3, 4] _;refine zm rfl <| zS rfl (aH (n := 1) (by kernel_rfl) rfl (aa rfl)) <| zS rfl (aE ax rfl rfl) <| zS rfl (aY ax rfl) <| zS rfl (cc rfl rfl) <| ai <| aF rfl (fun c23 => ?_) (fun c23 => ?_)
   ·replace H := bf c23 H;refine aL <| ah <| bh <| ah ?_;obtain ⟨g24, H⟩ := ba H;obtain ⟨x25, e26, H⟩ := cd H;refine ac ?_;show AR _ _ _ _ _ [0, 1, 2, 3, 4, 5, 6] _;refine zS rfl (aH (n := 1) (by kernel_rfl) rfl (aa rfl)) <| zS rfl (aE ax rfl rfl) <| zm rfl <| zS rfl (cb (E := Enc.str) ax (by kernel_rfl) rfl rfl g24 e26) <| zS rfl (aE aj rfl rfl) <| zS rfl (bn aj rfl) <| zS rfl (gC rfl rfl) <| ai <| aF rfl (fun c27 => ?_) (fun c27 => ?_)
    ·replace H := bf c27 H;refine ah <| ac ?_;show AR _ _ _ _ _ [0] _;refine za rfl <| ai <| aU ?_;obtain rfl := aC H;exact And.intro rfl (Exists.intro _ (Exists.intro _ ⟨aW rfl (.refl _), aI [] rfl, rfl, rfl⟩))
    ·replace H := aZ c27 H;refine aL ?_;obtain ⟨g28, H⟩ := ba H;refine ac ?_;show AR _ _ _ _ _ [0, 1, 2] _;refine zm rfl <| zS rfl (eJ rfl rfl g28) <| za rfl <| ai ?_;exact Exists.intro (n22, y20 + 1) ⟨H, Nat.lt_succ_self _, bc [] (.cons (.refl _) (.cons (.refl _) (.cons (.refl _) (.nil _)))) rfl⟩
   ·replace H := aZ c23 H;refine dd ?_;exact Exists.intro () ⟨H, bc [] (.cons (.refl _) (.cons (.refl _) (.nil _))) rfl⟩
  rintro _ H;replace H : cC F a1 a2 a3 a4 a5 a6 a7 a8 a9 a10 a11 = some r12 := H
  unfold cC at H
  refine ah ?_;obtain ⟨x30, e31, H⟩ := cH H;refine ac ?_;show AR _ _ _ _ _ [0, 1, 2, 3, 4, 5, 6, 7, 8] _;refine zS rfl (aR au rfl (n := 6) (by kernel_rfl) rfl (aa rfl)) <| zS rfl (aR be rfl (n := 5) (by kernel_rfl) rfl (aa rfl)) <| an rfl rfl (aV rfl kG rfl (rq F a1 a2 a3 a4 a5 a6 a7 a8 a9 a10 a11 x30.1 x30.2.1 x30.2.2.1 x30.2.2.2.1 x30.2.2.2.2.1 x30.2.2.2.2.2.1 x30.2.2.2.2.2.2 e31) ?_);refine zS rfl (ak (av := .tup _) rfl) <| zS rfl (aM (av := .agg _) rfl rfl) <| zS rfl (aM (av := slE _ _ _) rfl rfl) <| zX rfl (bH (zs := [.int .i64 0, .int .i64 0, .string ⟨#[]⟩, .string ⟨#[]⟩, .string ⟨#[]⟩, .slice none 0 0]) (by kernel_rfl)) ?_;rintro _ _ ⟨o32, rfl, rfl⟩;refine s0 rfl rfl (aQ (i := 0) (vs := [i64 x30.1, i64 x30.2.1, S x30.2.2.1, S x30.2.2.2.1, S x30.2.2.2.2.1, slE Enc.byte x30.2.2.2.2.2.1 none]) (by kernel_rfl) rfl rfl (by simp [bo, slE]) rfl (aa rfl)) <| ec 8 0 rfl rfl ?_;show AR _ _ _ _ _ _ ⟨_, _, []⟩;refine zS rfl (aA (av := slE _ _ _) rfl) <| ai <| ah ?_;obtain ⟨x33, e34, H⟩ := cH H;refine ac ?_;show AR _ _ _ _ _ [0, 1, 2, 3, 4, 5, 6, 7, 8] _
  refine zS rfl (aR au rfl (n := 6) (by kernel_rfl) rfl (aa rfl)) <| zS rfl (aR be rfl (n := 5) (by kernel_rfl) rfl (aa rfl)) <| an rfl rfl (aV rfl kE rfl (oA F a1 a2 a3 a4 a5 a6 a7 a8 a9 a10 a11 x33.1 x33.2.1 x33.2.2.1 x33.2.2.2.1 x33.2.2.2.2.1 x33.2.2.2.2.2.1 x33.2.2.2.2.2.2 e34) ?_);refine zS rfl (ak (av := .tup _) rfl) <| zS rfl (aM (av := .agg _) rfl rfl) <| zS rfl (aM (av := slE _ _ _) rfl rfl) <| zX rfl (bH (zs := [.int .i64 0, .int .i64 0, .string ⟨#[]⟩, .string ⟨#[]⟩, .string ⟨#[]⟩, .slice none 0 0]) (by kernel_rfl)) ?_;rintro _ _ ⟨o35, rfl, rfl⟩;refine s0 rfl rfl (aQ (i := 0) (vs := [i64 x33.1, i64 x33.2.1, S x33.2.2.1, S x33.2.2.2.1, S x33.2.2.2.2.1, slE Enc.byte x33.2.2.2.2.2.1 none]) (by kernel_rfl) rfl rfl (by simp [bo, slE]) rfl (aa rfl)) <| ec 10 0 rfl rfl ?_;show AR _ _ _ _ _ _ ⟨_, _, []⟩;refine zS rfl (aA (av := slE _ _ _) rfl) <| ai <| ah ?_;obtain ⟨x36, e37, H⟩ := cH H;refine ac ?_;show AR _ _ _ _ _ [0, 1, 2, 3] _
  refine zS rfl (aR au rfl (n := 6) (by kernel_rfl) rfl (aa rfl)) <| zS rfl (aR au rfl (n := 6) (by kernel_rfl) rfl (aa rfl)) <| an rfl rfl (aV rfl hP rfl (kM F x30.1 x30.2.1 x30.2.2.1 x30.2.2.2.1 x30.2.2.2.2.1 x30.2.2.2.2.2.1 x33.1 x33.2.1 x33.2.2.1 x33.2.2.2.1 x33.2.2.2.2.1 x33.2.2.2.2.2.1 x36 e37) ?_);refine za rfl <| ai <| ah ?_;obtain ⟨x38, e39, H⟩ := cH H;obtain ⟨x40, e41, H⟩ := cH H;obtain ⟨x42, e43, H⟩ := cH H;refine br (by kernel_rfl) ?_;show AI _ _ _ _ _ 6 (Array.replicate 6 false) _;refine zk 0 rfl (aR au rfl (n := 6) (by kernel_rfl) rfl (aa rfl)) ?_;show AI _ _ _ _ _ _ #[true, false, false, false, false, false] _;refine zk 2 rfl (aR au rfl (n := 6) (by kernel_rfl) rfl (aa rfl)) ?_;show AI _ _ _ _ _ _ #[true, false, true, false, false, false] _;refine aK (i := 1) (by kernel_rfl) rfl rfl <| bM rfl kF rfl (rr F a1 a2 a3 a4 a5 a6 x38.1 x38.2.1 x38.2.2.1 x38.2.2.2.1 x38.2.2.2.2.1 x38.2.2.2.2.2 e39) ?_;show AI _ _ _ _ _ _ #[true, true, true, false, false, false] _;refine aK (i := 3) (by kernel_rfl) rfl rfl <| bM rfl kD rfl (kN F a1 a2 a3 a4 a5 a6 x40.1 x40.2.1 x40.2.2.1 x40.2.2.2.1 x40.2.2.2.2.1 x40.2.2.2.2.2 e41) ?_;show AI _ _ _ _ _ _ #[true, true, true, true, false, false] _
  refine aK (i := 4) (by kernel_rfl) rfl rfl <| bM rfl hP rfl (kM F x38.1 x38.2.1 x38.2.2.1 x38.2.2.2.1 x38.2.2.2.2.1 x38.2.2.2.2.2 x40.1 x40.2.1 x40.2.2.1 x40.2.2.2.1 x40.2.2.2.2.1 x40.2.2.2.2.2 x42 e43) ?_;show AI _ _ _ _ _ _ #[true, true, true, true, true, false] _;refine zk 5 rfl (asg rfl) ?_;show AI _ _ _ _ _ _ #[true, true, true, true, true, true] _;refine bi rfl <| ah ?_;obtain ⟨x47, e48, H⟩ := eG H;obtain ⟨x49, e50, H⟩ := eG H;refine br (by kernel_rfl) ?_;show AI _ _ _ _ _ 19 (Array.replicate 19 false) _;refine zk 0 rfl (mv rfl) ?_;show AI _ _ _ _ _ _ #[true, false, false, false, false, false, false, false, false, false, false, false, false, false, false, false, false, false, false] _;refine zk 1 rfl (mv rfl) ?_;show AI _ _ _ _ _ _ #[true, true, false, false, false, false, false, false, false, false, false, false, false, false, false, false, false, false, false] _;refine AI.meet 11 #[true, true, true, true, true, true, true, true, false, false, false, false, false, false, false, false, false, false, false] 71 (B (x36 && (decide (x30.2.2.2.2.2.2 = x33.2.2.2.2.2.2)))) (fun K7 => ?_) ?_
  ·refine lN (t := 65) rfl (fun h44 => ?_) (fun h44 => ?_)
   ·refine fQ (i := 2) rfl rfl (by kernel_rfl) (by kernel_rfl) (by kernel_rfl) rfl rfl rfl (fun _ _ h => h) h44 (ak (av := slE _ _ _) rfl) ?_;show AI _ _ _ _ _ _ #[true, true, true, false, false, false, false, false, false, false, false, false, false, false, false, false, false, false, false] _;refine fQ (i := 3) rfl rfl (by kernel_rfl) (by kernel_rfl) (by kernel_rfl) rfl rfl rfl (fun _ _ h => h) h44 (cm ab aJ aj rfl) ?_;show AI _ _ _ _ _ _ #[true, true, true, true, false, false, false, false, false, false, false, false, false, false, false, false, false, false, false] _;refine fQ (i := 4) rfl rfl (by kernel_rfl) (by kernel_rfl) (by kernel_rfl) rfl rfl rfl (fun _ _ h => h) h44 (ak (av := slE _ _ _) rfl) ?_;show AI _ _ _ _ _ _ #[true, true, true, true, true, false, false, false, false, false, false, false, false, false, false, false, false, false, false] _;refine fQ (i := 5) rfl rfl (by kernel_rfl) (by kernel_rfl) (by kernel_rfl) rfl rfl rfl (fun _ _ h => h) h44 (cm ab aJ aj rfl) ?_;show AI _ _ _ _ _ _ #[true, true, true, true, true, true, false, false, false, false, false, false, false, false, false, false, false, false, false] _;refine fQ (i := 6) rfl rfl (by kernel_rfl) (by kernel_rfl) (by kernel_rfl) rfl rfl rfl (fun _ _ h => h) h44 (fU rfl rfl) ?_;show AI _ _ _ _ _ _ #[true, true, true, true, true, true, true, false, false, false, false, false, false, false, false, false, false, false, false] _
    refine zk 7 rfl (jM (av' := B (x36 && (decide (x30.2.2.2.2.2.2 = x33.2.2.2.2.2.2)))) (ay (av := .v _) rfl h44 rfl) (ap (bK h44))) ?_;show AI _ _ _ _ _ _ #[true, true, true, true, true, true, true, true, false, false, false, false, false, false, false, false, false, false, false] _;exact K7 _ 5 rfl rfl
   ·refine fR (i := 2) rfl rfl (by kernel_rfl) (by kernel_rfl) (by kernel_rfl) rfl rfl rfl (fun _ _ h => h) h44 ?_;show AI _ _ _ _ _ _ #[true, true, true, false, false, false, false, false, false, false, false, false, false, false, false, false, false, false, false] _;refine fR (i := 3) rfl rfl (by kernel_rfl) (by kernel_rfl) (by kernel_rfl) rfl rfl rfl (fun _ _ h => h) h44 ?_;show AI _ _ _ _ _ _ #[true, true, true, true, false, false, false, false, false, false, false, false, false, false, false, false, false, false, false] _;refine fR (i := 4) rfl rfl (by kernel_rfl) (by kernel_rfl) (by kernel_rfl) rfl rfl rfl (fun _ _ h => h) h44 ?_;show AI _ _ _ _ _ _ #[true, true, true, true, true, false, false, false, false, false, false, false, false, false, false, false, false, false, false] _;refine fR (i := 5) rfl rfl (by kernel_rfl) (by kernel_rfl) (by kernel_rfl) rfl rfl rfl (fun _ _ h => h) h44 ?_;show AI _ _ _ _ _ _ #[true, true, true, true, true, true, false, false, false, false, false, false, false, false, false, false, false, false, false] _;refine fR (i := 6) rfl rfl (by kernel_rfl) (by kernel_rfl) (by kernel_rfl) rfl rfl rfl (fun _ _ h => h) h44 ?_;show AI _ _ _ _ _ _ #[true, true, true, true, true, true, true, false, false, false, false, false, false, false, false, false, false, false, false] _;refine zk 7 rfl (jM (av' := B (x36 && (decide (x30.2.2.2.2.2.2 = x33.2.2.2.2.2.2)))) (aw (av := .v _) rfl h44 rfl) (ap (bL h44))) ?_
    show AI _ _ _ _ _ _ #[true, true, true, true, true, true, true, true, false, false, false, false, false, false, false, false, false, false, false] _;exact K7 _ 5 rfl rfl
  refine zk 8 rfl (mv rfl) ?_;show AI _ _ _ _ _ _ #[true, true, true, true, true, true, true, true, true, false, false, false, false, false, false, false, false, false, false] _;refine AI.meet 8 #[true, true, true, true, true, true, true, true, true, true, true, false, false, false, false, false, false, false, false] 74 (B ((x36 && (decide (x30.2.2.2.2.2.2 = x33.2.2.2.2.2.2))) && x42)) (fun K10 => ?_) ?_
  ·refine lN (t := 72) rfl (fun h45 => ?_) (fun h45 => ?_)
   ·refine fQ (i := 9) rfl rfl (by kernel_rfl) (by kernel_rfl) (by kernel_rfl) rfl rfl rfl (fun _ _ h => h) h45 (mv rfl) ?_;show AI _ _ _ _ _ _ #[true, true, true, true, true, true, true, true, true, true, false, false, false, false, false, false, false, false, false] _;refine zk 10 rfl (jM (av' := B ((x36 && (decide (x30.2.2.2.2.2.2 = x33.2.2.2.2.2.2))) && x42)) (ay (av := .v _) rfl h45 rfl) (ap (bK h45))) ?_;show AI _ _ _ _ _ _ #[true, true, true, true, true, true, true, true, true, true, true, false, false, false, false, false, false, false, false] _;exact K10 _ 1 rfl rfl
   ·refine fR (i := 9) rfl rfl (by kernel_rfl) (by kernel_rfl) (by kernel_rfl) rfl rfl rfl (fun _ _ h => h) h45 ?_;show AI _ _ _ _ _ _ #[true, true, true, true, true, true, true, true, true, true, false, false, false, false, false, false, false, false, false] _;refine zk 10 rfl (jM (av' := B ((x36 && (decide (x30.2.2.2.2.2.2 = x33.2.2.2.2.2.2))) && x42)) (aw (av := .v _) rfl h45 rfl) (ap (bL h45))) ?_;show AI _ _ _ _ _ _ #[true, true, true, true, true, true, true, true, true, true, true, false, false, false, false, false, false, false, false] _;exact K10 _ 1 rfl rfl
  refine zk 11 rfl (mv rfl) ?_;show AI _ _ _ _ _ _ #[true, true, true, true, true, true, true, true, true, true, true, true, false, false, false, false, false, false, false] _;refine AI.meet 1 #[true, true, true, true, true, true, true, true, true, true, true, true, true, true, true, true, true, true, false] 81 (B (((x36 && (decide (x30.2.2.2.2.2.2 = x33.2.2.2.2.2.2))) && x42) && (decide (x47 = x49)))) (fun K17 => ?_) ?_
  ·refine lN (t := 75) rfl (fun h46 => ?_) (fun h46 => ?_)
   ·refine fQ (i := 12) rfl rfl (by kernel_rfl) (by kernel_rfl) (by kernel_rfl) rfl rfl rfl (fun _ _ h => h) h46 (aR be rfl (n := 5) (by kernel_rfl) rfl (aa rfl)) ?_;show AI _ _ _ _ _ _ #[true, true, true, true, true, true, true, true, true, true, true, true, true, false, false, false, false, false, false] _;refine fQ (i := 14) rfl rfl (by kernel_rfl) (by kernel_rfl) (by kernel_rfl) rfl rfl rfl (fun _ _ h => h) h46 (aR be rfl (n := 5) (by kernel_rfl) rfl (aa rfl)) ?_;show AI _ _ _ _ _ _ #[true, true, true, true, true, true, true, true, true, true, true, true, true, false, true, false, false, false, false] _;refine rg (i := 13) (by kernel_rfl) rfl rfl rfl rfl rfl h46 <| bM rfl kC rfl (nG F a7 a8 a9 a10 a11 x47 (e48 h46)) ?_;show AI _ _ _ _ _ _ #[true, true, true, true, true, true, true, true, true, true, true, true, true, true, true, false, false, false, false] _;refine rg (i := 15) (by kernel_rfl) rfl rfl rfl rfl rfl h46 <| bM rfl kB rfl (kL F a7 a8 a9 a10 a11 x49 (e50 h46)) ?_;show AI _ _ _ _ _ _ #[true, true, true, true, true, true, true, true, true, true, true, true, true, true, true, true, false, false, false] _;refine fQ (i := 16) rfl rfl (by kernel_rfl) (by kernel_rfl) (by kernel_rfl) rfl rfl rfl (fun _ _ h => h) h46 (bw rfl rfl) ?_;show AI _ _ _ _ _ _ #[true, true, true, true, true, true, true, true, true, true, true, true, true, true, true, true, true, false, false] _
    refine zk 17 rfl (jM (av' := B (((x36 && (decide (x30.2.2.2.2.2.2 = x33.2.2.2.2.2.2))) && x42) && (decide (x47 = x49)))) (ay (av := .v _) rfl h46 rfl) (ap (bK h46))) ?_;show AI _ _ _ _ _ _ #[true, true, true, true, true, true, true, true, true, true, true, true, true, true, true, true, true, true, false] _;exact K17 _ 5 rfl rfl
   ·refine fR (i := 12) rfl rfl (by kernel_rfl) (by kernel_rfl) (by kernel_rfl) rfl rfl rfl (fun _ _ h => h) h46 ?_;show AI _ _ _ _ _ _ #[true, true, true, true, true, true, true, true, true, true, true, true, true, false, false, false, false, false, false] _;refine fR (i := 14) rfl rfl (by kernel_rfl) (by kernel_rfl) (by kernel_rfl) rfl rfl rfl (fun _ _ h => h) h46 ?_;show AI _ _ _ _ _ _ #[true, true, true, true, true, true, true, true, true, true, true, true, true, false, true, false, false, false, false] _;refine kT (i := 13) (by kernel_rfl) rfl rfl rfl rfl rfl rfl rfl h46 ?_;show AI _ _ _ _ _ _ #[true, true, true, true, true, true, true, true, true, true, true, true, true, true, true, false, false, false, false] _;refine kT (i := 15) (by kernel_rfl) rfl rfl rfl rfl rfl rfl rfl h46 ?_;show AI _ _ _ _ _ _ #[true, true, true, true, true, true, true, true, true, true, true, true, true, true, true, true, false, false, false] _;refine fR (i := 16) rfl rfl (by kernel_rfl) (by kernel_rfl) (by kernel_rfl) rfl rfl rfl (fun _ _ h => h) h46 ?_;show AI _ _ _ _ _ _ #[true, true, true, true, true, true, true, true, true, true, true, true, true, true, true, true, true, false, false] _;refine zk 17 rfl (jM (av' := B (((x36 && (decide (x30.2.2.2.2.2.2 = x33.2.2.2.2.2.2))) && x42) && (decide (x47 = x49)))) (aw (av := .v _) rfl h46 rfl) (ap (bL h46))) ?_;show AI _ _ _ _ _ _ #[true, true, true, true, true, true, true, true, true, true, true, true, true, true, true, true, true, true, false] _;exact K17 _ 5 rfl rfl
  refine zk 18 rfl (asg rfl) ?_;show AI _ _ _ _ _ _ #[true, true, true, true, true, true, true, true, true, true, true, true, true, true, true, true, true, true, true] _;refine bi rfl <| aU ?_;obtain rfl := aC H;exact And.intro rfl (Exists.intro _ (Exists.intro _ ⟨aW rfl (.refl _), aI [] rfl, rfl, rfl⟩))
end Go.Proofs.YtgjkjkmmgdbcoaaGreatDoor
namespace Go.Cl
open Go.Pv Go.Av
abbrev Bs := List UInt8
def NoCr (l : Bs) : Prop := ∀ c ∈ l, c ≠ 13 ∧ c ≠ 10
def lnD (l : Bs) : Bs := l ++ [13, 10]
def flD (ls : List Bs) : Bs := (ls.map lnD).flatten
def okD : Bool → Bs → Bool
  | p, [] => !p
  | p, c :: r => if c = 13 then !p && okD true r else if c = 10 then p && okD false r else !p && okD false r
def endD (b : Bs) : Bool := decide (b = []) || decide (b.getLast? = some 10)
def me (b : Bs) : Bool := okD false b && endD b
theorem ng (p : Bool) (r : Bs) : okD p (13 :: r) = (!p && okD true r) := rfl
theorem oY (p : Bool) (r : Bs) : okD p (10 :: r) = (p && okD false r) := rfl
theorem qa (p : Bool) {c : UInt8} (r : Bs) (h : c ≠ 13) (g : c ≠ 10) : okD p (c :: r) = (!p && okD false r) := by
  show (if c = 13 then !p && okD true r else if c = 10 then p && okD false r else !p && okD false r) = _
  rw [if_neg h, if_neg g]
def pr : Bool → Bs → Nat
  | p, [] => 0
  | p, c :: r => (if p = true ∧ c = 10 then 1 else 0) + pr (decide (c = 13)) r
theorem pr_le : ∀ (b : Bs) (p : Bool), pr p b ≤ b.count 10 ∧ pr p b ≤ b.count 13 + (if p = true then 1 else 0)
  | [], p => by simp [pr]
  | c :: r, p => by
    obtain ⟨h1, h2⟩ := pr_le r (decide (c = 13))
    unfold pr
    rw [List.count_cons, List.count_cons]
    by_cases a : c = 13
    · subst a
      simp at h1 h2 ⊢
      omega
    · by_cases g : c = 10
      · subst g
        simp at h1 h2 ⊢
        cases p <;> simp <;> omega
      · have e1 : (c == 13) = false := by simpa using a
        have e2 : (c == 10) = false := by simpa using g
        rw [decide_eq_false a] at h1 h2 ⊢
        rw [e1, e2]
        simp [g] at h1 h2 ⊢
        omega
theorem pr_ok : ∀ (b : Bs) (p : Bool), (pr p b = b.count 10 ∧ pr p b = b.count 13 + (if p = true then 1 else 0)) ↔ okD p b = true
  | [], p => by cases p <;> simp [pr, okD]
  | c :: r, p => by
    have hl := pr_le r
    by_cases a : c = 13
    · subst a
      have ih := pr_ok r true
      have hl := hl true
      rw [ng]
      unfold pr
      rw [List.count_cons, List.count_cons]
      cases p with
      | false => simp at ih hl ⊢; rw [← ih]
      | true => simp at ih hl ⊢; omega
    · by_cases g : c = 10
      · subst g
        have ih := pr_ok r false
        have hl := hl false
        rw [oY]
        unfold pr
        rw [List.count_cons, List.count_cons]
        cases p with
        | false => simp at ih hl ⊢; omega
        | true => simp at ih hl ⊢; rw [← ih]; constructor <;> rintro ⟨x, y⟩ <;> constructor <;> omega
      · have e1 : (c == 13) = false := by simpa using a
        have e2 : (c == 10) = false := by simpa using g
        have ih := pr_ok r false
        have hl := hl false
        rw [qa p r a g]
        unfold pr
        rw [List.count_cons, List.count_cons, e1, e2, decide_eq_false a]
        cases p with
        | false => simp at ih hl ⊢; rw [← ih]
        | true => simp [g] at ih hl ⊢; omega
theorem gl_app (a : Bs) {b : Bs} (h : b ≠ []) : (a ++ b).getLast? = b.getLast? := by
  rw [List.getLast?_append]
  cases e : b.getLast? with
  | none => exact absurd (List.getLast?_eq_none_iff.1 e) h
  | some x => rfl
theorem lE : ∀ (m : Nat) (b l : Bs), b.length < m → NoCr l → okD false b = true → (l ++ b = [] ∨ (l ++ b).getLast? = some 10) → ∃ ls, (∀ x ∈ ls, NoCr x) ∧ l ++ b = flD ls
  | 0, b, l, h, _, _, _ => by omega
  | m + 1, [], l, h, hl, hk, he => by
    rw [List.append_nil] at he
    have : l = [] := by
      rcases he with e | e
      · exact e
      · by_cases g : l = []
        · exact g
        · have := List.mem_of_getLast? e
          exact absurd rfl (hl 10 this).2
    subst this;exact ⟨[], by simp, rfl⟩
  | m + 1, c :: b, l, h, hl, hk, he => by
    by_cases a : c = 13
    · subst a
      rw [ng] at hk
      cases b with
      | nil => simp [okD] at hk
      | cons d b =>
        have hd : d = 10 := by
          by_cases g : d = 10
          · exact g
          · by_cases g2 : d = 13
            · subst g2; rw [ng] at hk; simp at hk
            · rw [qa _ _ g2 g] at hk; simp at hk
        subst hd
        rw [oY] at hk
        have hk' : okD false b = true := by simpa using hk
        have he' : [] ++ b = [] ∨ ([] ++ b).getLast? = some 10 := by
          rw [List.nil_append]
          by_cases g : b = []
          · exact .inl g
          · right
            rcases he with e | e
            · simp at e
            · rw [show l ++ 13 :: 10 :: b = (l ++ [13, 10]) ++ b by simp, gl_app _ g] at e
              exact e
        obtain ⟨ls, h1, h2⟩ := lE m b [] (by simp at h; omega) (by intro x hx; cases hx) hk' he'
        rw [List.nil_append] at h2
        refine ⟨l :: ls, fun x hx => ?_, by rw [h2]; simp [flD, lnD]⟩
        rcases List.mem_cons.1 hx with rfl | hx
        · exact hl
        · exact h1 x hx
    · by_cases g : c = 10
      · subst g; rw [oY] at hk; simp at hk
      · rw [qa _ _ a g] at hk
        have hk' : okD false b = true := by simpa using hk
        have := lE m b (l ++ [c]) (by simp at h; omega) (fun x hx => by
          rcases List.mem_append.1 hx with hx | hx
          · exact hl x hx
          · rw [List.mem_singleton.1 hx]; exact ⟨a, g⟩) hk' (by rw [List.append_assoc]; exact he)
        rw [List.append_assoc] at this
        exact this
theorem nP {b : Bs} (h : me b = true) : ∃ ls, (∀ l ∈ ls, NoCr l) ∧ b = flD ls := by
  unfold me endD at h
  simp only [Bool.and_eq_true, Bool.or_eq_true, decide_eq_true_eq] at h
  obtain ⟨ls, h1, h2⟩ := lE (b.length + 1) b [] (Nat.lt_succ_self _) (by intro x hx; cases hx) h.1 h.2;exact ⟨ls, h1, h2⟩
def stD : Bool → Bs → Bs
  | _, [] => []
  | s, c :: r => (if s = true ∧ c = 46 then [46, c] else [c]) ++ stD (decide (c = 10)) r
def iI (b : Bs) : Bs := if me b = true then stD true b ++ [46, 13, 10] else []
def mq (l : Bs) : Bs := if l.head? = some 46 then 46 :: lnD l else lnD l
theorem st_in : ∀ (l r : Bs), NoCr l → stD false (l ++ 13 :: 10 :: r) = l ++ 13 :: 10 :: stD true r
  | [], r, _ => by simp [stD]
  | c :: l, r, h => by
    obtain ⟨h1, h2⟩ := h c (by simp);show (if false = true ∧ c = 46 then [46, c] else [c]) ++ stD (decide (c = 10)) (l ++ 13 :: 10 :: r) = _
    rw [decide_eq_false h2, st_in l r fun x hx => h x (by simp [hx])]
    simp
theorem st_ln (l r : Bs) (h : NoCr l) : stD true (l ++ 13 :: 10 :: r) = mq l ++ stD true r := by
  cases l with
  | nil => simp [stD, mq, lnD]
  | cons c l =>
    obtain ⟨h1, h2⟩ := h c (by simp);show (if true = true ∧ c = 46 then [46, c] else [c]) ++ stD (decide (c = 10)) (l ++ 13 :: 10 :: r) = _
    rw [decide_eq_false h2, st_in l r fun x hx => h x (by simp [hx])]
    unfold mq lnD
    by_cases g : c = 46
    · subst g; simp
    · simp [g]
theorem mV : ∀ ls : List Bs, (∀ l ∈ ls, NoCr l) → stD true (flD ls) = (ls.map mq).flatten
  | [], _ => rfl
  | l :: ls, h => by
    have e : flD (l :: ls) = l ++ 13 :: 10 :: flD ls := by simp [flD, lnD]
    rw [e, st_ln l _ (h l (by simp)), mV ls fun x hx => h x (by simp [hx])]
    simp
theorem qF : ∀ (b : Bs) (s : Bool), (stD s b).length ≤ 2 * b.length
  | [], _ => by simp [stD]
  | c :: r, s => by
    have := qF r (decide (c = 10))
    unfold stD
    rw [List.length_append]
    split <;> simp <;> omega
theorem pJ (b : Bs) : (iI b).length ≤ 2 * b.length + 3 := by
  unfold iI
  split
  · have := qF b true
    simp; omega
  · simp
end Go.Cl
namespace Go.Dg
open Go.Pv Go.Av
open Go.Lib (decDigits)
abbrev Bs := List UInt8
theorem ft {n : Nat} (h : n < 10) : decDigits n = [UInt8.ofNat (48 + n)] := by rw [decDigits, dif_pos h]
theorem jg {n : Nat} (h : ¬ n < 10) : decDigits n = decDigits (n / 10) ++ [UInt8.ofNat (48 + n % 10)] := by rw [decDigits, dif_neg h]
theorem lb (n : Nat) : Go.Lib.itoa (n : Int) = decDigits n := by
  unfold Go.Lib.itoa
  rw [if_neg (by omega), Int.toNat_natCast]
theorem iA (k : Nat) (h : k < 10) : (UInt8.ofNat (48 + k)).toNat = 48 + k := by
  have : ∀ k : Fin 10, (UInt8.ofNat (48 + k.val)).toNat = 48 + k.val := by decide +kernel
  exact this ⟨k, h⟩
def Dig (c : UInt8) : Prop := 48 ≤ c.toNat ∧ c.toNat ≤ 57
theorem dd_dig : ∀ (m n : Nat), n < m → ∀ c ∈ decDigits n, Dig c := by
  intro m
  induction m with
  | zero => intro n h; omega
  | succ m ih =>
    intro n h c hc
    by_cases hn : n < 10
    · rw [ft hn] at hc
      rw [List.mem_singleton.1 hc]; unfold Dig; rw [iA n hn]; omega
    · rw [jg hn] at hc
      rcases List.mem_append.1 hc with hc | hc
      · exact ih (n / 10) (by omega) c hc
      · rw [List.mem_singleton.1 hc]; unfold Dig; rw [iA _ (by omega)]; omega
theorem oT (n : Nat) : ∀ c ∈ decDigits n, Dig c := dd_dig (n + 1) n (by omega)
theorem pe : ∀ (m n : Nat), n < 10 ^ m → (decDigits n).length ≤ m + 1 := by
  intro m
  induction m with
  | zero => intro n h; rw [ft (by omega)]; simp
  | succ m ih =>
    intro n h
    by_cases hn : n < 10
    · rw [ft hn]; simp
    · have h10 : n / 10 < 10 ^ m := by rw [Nat.pow_succ] at h; omega
      rw [jg hn, List.length_append]
      have := ih _ h10
      simp; omega
theorem qI (n : Nat) : 1 ≤ (decDigits n).length := by
  by_cases hn : n < 10
  · rw [ft hn]; simp
  · rw [jg hn]; simp
def val (v : Nat) : Bs → Nat
  | [] => v
  | c :: r => val (10 * v + (c.toNat - 48)) r
theorem qO : ∀ (a b : Bs) (v : Nat), val v (a ++ b) = val (val v a) b
  | [], b, v => rfl
  | c :: r, b, v => qO r b _
theorem val_dd : ∀ (m n : Nat), n < m → val 0 (decDigits n) = n := by
  intro m
  induction m with
  | zero => intro n h; omega
  | succ m ih =>
    intro n h
    by_cases hn : n < 10
    · rw [ft hn]; show 10 * 0 + ((UInt8.ofNat (48 + n)).toNat - 48) = n; rw [iA n hn]; omega
    · rw [jg hn, qO, ih (n / 10) (by omega)]
      show 10 * (n / 10) + ((UInt8.ofNat (48 + n % 10)).toNat - 48) = n
      rw [iA _ (by omega)]; omega
theorem qN (n : Nat) : val 0 (decDigits n) = n := val_dd (n + 1) n (by omega)
end Go.Dg
namespace Go.Cl
open Go.Pv Go.Av
theorem nc (x : UInt8) (r u : Bs) : Go.Lib.index (x :: r) u = if u.isPrefixOf (x :: r) = true then 0 else if Go.Lib.index r u = -1 then -1 else Go.Lib.index r u + 1 := by
  by_cases h : u.isPrefixOf (x :: r) = true
  · simp [Go.Lib.index, h]
  · simp [Go.Lib.index, h]
theorem pr_idx : ∀ (b : Bs), (Go.Lib.index b [13, 10] = -1 ∧ pr false b = 0) ∨ ∃ i : Nat, Go.Lib.index b [13, 10] = (i : Int) ∧ i + 2 ≤ b.length ∧ pr false b = 1 + pr false (b.drop (i + 2))
  | [] => .inl ⟨by simp [Go.Lib.index], rfl⟩
  | c :: r => by
    have ih := pr_idx r
    by_cases h : c = 13
    · subst h
      cases r with
      | nil => left; exact ⟨by simp [Go.Lib.index], by simp [pr]⟩
      | cons d r =>
        by_cases g : d = 10
        · subst g
          right
          exact ⟨0, by simp [Go.Lib.index], by simp, by simp [pr]⟩
        · have hx : ([13, 10] : Bs).isPrefixOf (13 :: d :: r) = false := by
            have : (10 == d) = false := by simpa using fun q => g q.symm
            simp [List.isPrefixOf, this]
          have e : pr false (13 :: d :: r) = pr false (d :: r) := by simp [pr, g]
          rw [nc, hx, e]
          simp only [Bool.false_eq_true, if_false]
          rcases ih with ⟨h1, h2⟩ | ⟨i, h1, h2, h3⟩
          · left; rw [if_pos h1]; exact ⟨rfl, h2⟩
          · right
            refine ⟨i + 1, ?_, by simp at h2 ⊢; omega, ?_⟩
            · rw [if_neg (by omega), h1]; rfl
            · rw [h3]; rfl
    · have hx : ([13, 10] : Bs).isPrefixOf (c :: r) = false := by
        have : (13 == c) = false := by simpa using fun q => h q.symm
        simp [List.isPrefixOf, this]
      have e : pr false (c :: r) = pr false r := by simp [pr, h]
      rw [nc, hx, e]
      simp only [Bool.false_eq_true, if_false]
      rcases ih with ⟨h1, h2⟩ | ⟨i, h1, h2, h3⟩
      · left; rw [if_pos h1]; exact ⟨rfl, h2⟩
      · right
        refine ⟨i + 1, ?_, by simp at h2 ⊢; omega, ?_⟩
        · rw [if_neg (by omega), h1]; rfl
        · rw [h3]; rfl
theorem idx_ln : ∀ (l r : Bs), NoCr l → Go.Lib.index (l ++ 13 :: 10 :: r) [13, 10] = (l.length : Int)
  | [], r, _ => by simp [Go.Lib.index]
  | c :: l, r, h => by
    obtain ⟨h1, h2⟩ := h c (by simp)
    have hx : ([13, 10] : Bs).isPrefixOf (c :: (l ++ 13 :: 10 :: r)) = false := by
      have : (13 == c) = false := by simpa using fun q => h1 q.symm
      simp [List.isPrefixOf, this]
    show Go.Lib.index (c :: (l ++ 13 :: 10 :: r)) [13, 10] = _
    rw [nc, hx, idx_ln l r fun x hx => h x (by simp [hx])]
    simp only [Bool.false_eq_true, if_false]
    rw [if_neg (by omega)]
    simp
theorem idx_nil : Go.Lib.index [] [13, 10] = -1 := by simp [Go.Lib.index]
def ff (c : UInt8) : UInt8 := if 65 ≤ c.toNat ∧ c.toNat ≤ 90 then c + 97 - 65 else c
def ii (c : UInt8) : Bool := decide (48 ≤ c.toNat) && decide (c.toNat ≤ 57)
def kv (s : Bs) : Option Nat :=
  if (6 ≤ s.length ∧ s.length ≤ 14) ∧ (s.take 5).map ff = [115, 105, 122, 101, 32] ∧ (s.drop 5).all ii = true then some (Go.Dg.val 0 (s.drop 5)) else none
def oJ : List Bs → Nat
  | [] => 0
  | s :: r => match kv s with | some n => n | none => oJ r
def dx (ls : List Bs) : Nat := oJ (ls.drop 1)
def kw : Bs := [81, 85, 73, 84, 13, 10]
def ehloD (nm : Bs) : Bs := [69, 72, 76, 79, 32] ++ nm ++ [13, 10]
def qb (fr : Bs) : Bs := [77, 65, 73, 76, 32, 70, 82, 79, 77, 58, 60] ++ fr ++ [62, 13, 10]
def rcptD (rc : Bs) : Bs := [82, 67, 80, 84, 32, 84, 79, 58, 60] ++ rc ++ [62, 13, 10]
def dataD : Bs := [68, 65, 84, 65, 13, 10]
def eH (ph c : Int) : Bool := if ph = 0 then decide (c = 220) else if ph = 4 then decide (c = 354) else decide (200 ≤ c) && decide (c ≤ 299)
abbrev St := Int × Int × Bs
section
variable (fr rc nm ml : Bs)
def goP (ph out : Int) (ls : List Bs) : St :=
  if ph = 0 then (1, out, ehloD nm) else if ph = 1 then (if 0 < dx ls ∧ dx ls < (iI ml).length then (6, 3, kw) else (2, out, qb fr))
  else if ph = 2 then (3, out, rcptD rc) else if ph = 3 then (4, out, dataD) else if ph = 4 then (5, out, iI ml) else (6, 1, kw)
def fF (ph out c : Int) (ls : List Bs) : St :=
  if ph < 0 ∨ 7 ≤ ph then (ph, out, []) else if c = 421 then (7, (if out = 0 then 2 else out), []) else if ph = 6 then (7, out, [])
  else if eH ph c = true then goP fr rc nm ml ph out ls else (6, (if 500 ≤ c ∧ c ≤ 599 then 3 else 2), kw)
def runP {M : Type} : St → List (Int × List Bs × M) → St
  | s, [] => s
  | s, x :: r => runP ((fF fr rc nm ml s.1 s.2.1 x.1 x.2.1).1, (fF fr rc nm ml s.1 s.2.1 x.1 x.2.1).2.1, s.2.2 ++ (fF fr rc nm ml s.1 s.2.1 x.1 x.2.1).2.2) r
theorem nJ (out c : Int) (ls : List Bs) : fF fr rc nm ml 7 out c ls = (7, out, []) := by unfold fF; rw [if_pos (by omega)]
def partD : Nat → Bs
  | 0 => ehloD nm
  | 1 => qb fr
  | 2 => rcptD rc
  | 3 => dataD
  | _ => iI ml
def preD : Nat → Bs
  | 0 => []
  | k + 1 => preD k ++ partD fr rc nm ml k
inductive Iv : Int → Int → Bs → Prop
  | go (k : Nat) (h : k ≤ 5) : Iv (k : Int) 0 (preD fr rc nm ml k)
  | stop (k : Nat) (out : Int) (h : k ≤ 5) (ho : out = 2 ∨ out = 3 ∨ (out = 1 ∧ k = 5)) : Iv 6 out (preD fr rc nm ml k ++ kw)
  | off (k : Nat) (h : k ≤ 5) : Iv 7 2 (preD fr rc nm ml k)
  | done (k : Nat) (out : Int) (h : k ≤ 5) (ho : out = 2 ∨ out = 3 ∨ (out = 1 ∧ k = 5)) : Iv 7 out (preD fr rc nm ml k ++ kw)
theorem Iv.step {ph out : Int} {a : Bs} (h : Iv fr rc nm ml ph out a) (c : Int) (ls : List Bs) :
    Iv fr rc nm ml (fF fr rc nm ml ph out c ls).1 (fF fr rc nm ml ph out c ls).2.1 (a ++ (fF fr rc nm ml ph out c ls).2.2) := by
  cases h with
  | go k h =>
    unfold fF
    rw [if_neg (by omega)]
    by_cases h1 : c = 421
    · rw [if_pos h1]
      simp only [List.append_nil, if_true]
      exact .off k h
    · rw [if_neg h1, if_neg (by omega)]
      by_cases h2 : eH (k : Int) c = true
      · rw [if_pos h2]
        unfold goP
        have : k = 0 ∨ k = 1 ∨ k = 2 ∨ k = 3 ∨ k = 4 ∨ k = 5 := by omega
        rcases this with rfl | rfl | rfl | rfl | rfl | rfl
        · exact Iv.go 1 (by omega)
        · by_cases q : 0 < dx ls ∧ dx ls < (iI ml).length
          · rw [if_neg (by decide), if_pos (by decide), if_pos q]
            exact Iv.stop 1 3 (by omega) (by omega)
          · rw [if_neg (by decide), if_pos (by decide), if_neg q]
            exact Iv.go 2 (by omega)
        · exact Iv.go 3 (by omega)
        · exact Iv.go 4 (by omega)
        · exact Iv.go 5 (by omega)
        · exact Iv.stop 5 1 (by omega) (by omega)
      · rw [if_neg h2]
        by_cases q : 500 ≤ c ∧ c ≤ 599
        · rw [if_pos q]; exact .stop k 3 h (by omega)
        · rw [if_neg q]; exact .stop k 2 h (by omega)
  | stop k out h ho =>
    have hne : ¬ out = 0 := by omega
    unfold fF
    rw [if_neg (by omega)]
    by_cases h1 : c = 421
    · rw [if_pos h1, if_neg hne]
      simp only [List.append_nil]
      exact .done k _ h ho
    · rw [if_neg h1, if_pos rfl]
      simp only [List.append_nil]
      exact .done k _ h ho
  | off k h => rw [nJ]; simp only [List.append_nil]; exact .off k h
  | done k out h ho => rw [nJ]; simp only [List.append_nil]; exact .done k _ h ho
theorem Iv.run {M : Type} : ∀ (l : List (Int × List Bs × M)) {ph out : Int} {a : Bs}, Iv fr rc nm ml ph out a → Iv fr rc nm ml (runP fr rc nm ml (ph, out, a) l).1 (runP fr rc nm ml (ph, out, a) l).2.1 (runP fr rc nm ml (ph, out, a) l).2.2
  | [], _, _, _, h => h
  | x :: r, _, _, _, h => Iv.run r (h.step fr rc nm ml x.1 x.2.1)
end
end Go.Cl
namespace Go.Dg
open Go.Pv Go.Av
open Go.Lib (decDigits)
theorem gr (x : Bool) : (true && x) = x := Eq.symm (Eq.symm rfl)
theorem jh (x : Bool) : (false && x) = false := Eq.symm (Eq.symm rfl)
theorem fo (x : Bool) : (false || x) = x := Eq.symm (Eq.symm rfl)
theorem nfl : (!false) = true := Eq.symm (Eq.symm rfl)
theorem ntr : (!true) = false := Eq.symm (Eq.symm rfl)
theorem cfl {α : Type} (a b : α) : (bif false then a else b) = b := Eq.symm (Eq.symm rfl)
theorem ctr {α : Type} (a b : α) : (bif true then a else b) = a := Eq.symm (Eq.symm rfl)
def Tot (o : Option (Int × Int)) : Prop := ∃ x k, o = some (x, k) ∧ (k = 0 ∨ k = 1 ∨ k = 2)
theorem Tot.z (x : Int) : Tot (some (x, 0)) := ⟨x, 0, rfl, .inl rfl⟩
theorem Tot.o (x : Int) : Tot (some (x, 1)) := ⟨x, 1, rfl, .inr (.inl rfl)⟩
theorem Tot.t (x : Int) : Tot (some (x, 2)) := ⟨x, 2, rfl, .inr (.inr rfl)⟩
theorem eF {c : Bool} {a b : Option (Int × Int)} (ha : Tot a) (hb : Tot b) : Tot (bif c then a else b) := by cases c <;> assumption
theorem tot_bndc {c : Bool} {v : UInt8} {f : UInt8 → Option (Int × Int)} (h : ∀ x, Tot (f x)) : Tot (iJ c (some v) f) := by
  cases c
  · exact h _
  · exact h _
theorem j3_tot (y17 : Int) (y23 y24 : Int) (rec : (Bool × Int × Int) → Option (Int × Int)) (y43 : UInt8) (h : ∀ v, Tot (rec (false, v, y24 + 1))) (hb : -9223372036854775808 ≤ y24 + 1 ∧ y24 + 1 ≤ 9223372036854775807) :
    Tot (dc 10 y17 false y23 y24 rec y43) := by
  unfold dc dy
  refine eF (.t _) (eF (.o _) (eF (.o _) ?_))
  rw [dW hb]
  exact h _
theorem rt (F : Nat) (s : Bs) (c : Int) (hs : s.length ≤ 1000) : ∀ (n i : Nat) (v : Int), s.length - i < n → i ≤ s.length → Tot (co F s 10 c n (false, v, (i : Int))) := by
  intro n
  induction n with
  | zero => intro i v h; omega
  | succ n ih =>
    intro i v hn hi;show Tot (ek F s 10 c (co F s 10 c n) false v (i : Int))
    unfold ek
    by_cases h : i < s.length
    · have e : ((i : Int) + 1) = ((i + 1 : Nat) : Int) := by omega
      have hr : ∀ v, Tot (co F s 10 c n (false, v, (i : Int) + 1)) := fun v => by rw [e]; exact ih (i + 1) v (by omega) (by omega)
      have h10 : decide ((10 : Int) = 0) = false := by decide
      rw [bT (by omega), du (by omega), bN, h10, Bool.and_false, cfl]
      refine eF (j3_tot _ _ _ _ _ hr (by omega)) ?_
      unfold eB
      rw [bS]
      refine tot_bndc fun x38 => eF ?_ (.t _)
      rw [bS]
      exact j3_tot _ _ _ _ _ hr (by omega)
    · rw [bF (by omega)]
      unfold ej
      rw [bndc_f, jh, cfl]
      exact .z _
theorem uint_tot (F : Nat) (s : Bs) (hs : s.length ≤ 1000) (hF : s.length < F) : Tot (fK F s 10 0) := by
  unfold fK
  refine eF (.t _) ?_
  have h1 : ((decide ((2 : Int) ≤ 10)) && (decide ((10 : Int) ≤ 36))) = true := by decide
  rw [h1, grd_t]
  unfold eh ei
  rw [nh rfl, bT rfl]
  unfold da
  have h2 : decide (0 ≤ IntKind.u64.wrap 64) = true := by decide +kernel
  rw [h2, grd_t, cn (by omega)]
  exact rt F s _ hs F 0 0 (by omega) (by omega)
theorem qp (b : Bool) (x : Int) : Tot (dz b x) := by
  unfold dz dA
  have h2 : decide (0 ≤ IntKind.u64.wrap 63) = true := by decide +kernel
  rw [h2, grd_t]
  exact eF (.o _) (eF (.o _) (eF (.z _) (.z _)))
theorem ko (F : Nat) (s : Bs) (b : Bool) (hs : s.length ≤ 1000) (hF : s.length < F) : Tot (cM F 10 0 s b) := by
  unfold cM
  obtain ⟨x, k, e, hk⟩ := uint_tot F s hs hF
  rw [e, cu]
  by_cases h2 : k = 2
  · subst h2
    have : ((!decide ((2 : Int) = 0)) && (!decide ((2 : Int) = 1))) = true := by decide
    rw [this, ctr]
    exact .t _
  · have : ((!decide (k = 0)) && (!decide (k = 1))) = false := by
      rcases hk with rfl | rfl | rfl
      · decide
      · decide
      · exact absurd rfl h2
    rw [this, cfl, nh rfl]
    exact qp _ _
theorem int_tot (F : Nat) (s : Bs) (hs : s.length ≤ 1000) (hF : s.length < F) : Tot (fL F s 10 0) := by
  unfold fL
  by_cases h : s = []
  · rw [bT h]; exact .t _
  · have hp : 0 < s.length := List.length_pos_iff.2 h
    have hf : (gH s 1).length ≤ s.length := by unfold gH; simp
    rw [bF h, du (by omega), bN]
    refine eF ?_ (eF ?_ (ko F s _ hs hF))
    · rw [ky (by omega), bN]; exact ko F _ _ (by omega) (by omega)
    · rw [ky (by omega), bN]; exact ko F _ _ (by omega) (by omega)
theorem kc (a s : Bs) (ha : a ≠ []) (hs : s.length ≤ 18) : ∀ (n i v : Nat), s.length - i < n → i ≤ s.length → v < 10 ^ i → Tot (fv a s n ((v : Int), (i : Int))) := by
  intro n
  induction n with
  | zero => intro i v h; omega
  | succ n ih =>
    intro i v hn hi hv;show Tot (fw a s (fv a s n) (v : Int) (i : Int))
    unfold fw
    have hv18 : v < 10 ^ 18 := Nat.lt_of_lt_of_le hv (Nat.pow_le_pow_right (by omega) (by omega))
    by_cases h : i < s.length
    · have hv17 : v < 10 ^ 17 := Nat.lt_of_lt_of_le hv (Nat.pow_le_pow_right (by omega) (by omega))
      rw [bT (by omega), du (by omega), bN]
      obtain ⟨c, hc⟩ : ∃ c, c = at_ s (i : Int) := ⟨_, rfl⟩
      rw [← hc]
      by_cases h9 : 9 < (c - 48).toNat
      · rw [bT (by omega)]; exact .t _
      · have e1 : ((v : Int) * 10) + ((c - 48).toNat : Int) = ((v * 10 + (c - 48).toNat : Nat) : Int) := by omega
        have e2 : ((i : Int) + 1) = ((i + 1 : Nat) : Int) := by omega
        rw [bF (by omega), dW (by omega), dW (by omega), dW (by omega), e1, e2]
        refine ih (i + 1) _ (by omega) (by omega) ?_
        rw [Nat.pow_succ]; omega
    · rw [bF (by omega)]
      unfold eS eT
      have hp : 0 < a.length := List.length_pos_iff.2 ha
      rw [du (by omega), bN]
      refine eF ?_ (.z _)
      rw [dW (by omega)]; exact .z _
theorem atoi_tot (F : Nat) (s : Bs) (hs : s.length ≤ 1000) (hF : s.length < F) : Tot (gQ F s) := by
  unfold gQ eR gY
  by_cases h : 0 < s.length ∧ s.length < 19
  · have hc : ((decide (0 < (s.length : Int))) && (decide ((s.length : Int) < 19))) = true := by
      rw [decide_eq_true (by omega), decide_eq_true (by omega)]; rfl
    have hne : s ≠ [] := List.length_pos_iff.1 h.1
    have hf : (gH s 1).length ≤ s.length := by unfold gH; simp
    rw [hc, ctr, du (by omega), bN]
    have hg : ∀ (c : Bool) (x : Option (Int × Int)), dP c (cI 0 s.length) x = x := fun c x => gE fun _ => by omega
    rw [hg, bN]
    refine eF ?_ ?_
    · rw [ky (by omega), bN]
      refine eF (.t _) ?_
      rw [cn (by omega)]
      exact kc s _ hne (by omega) F 0 0 (by omega) (by omega) (by omega)
    · rw [cn (by omega)]
      exact kc s _ hne (by omega) F 0 0 (by omega) (by omega) (by omega)
  · have hc : ((decide (0 < (s.length : Int))) && (decide ((s.length : Int) < 19))) = false := by
      by_cases h0 : 0 < s.length
      · rw [decide_eq_false (show ¬ ((s.length : Int) < 19) by omega), Bool.and_false]
      · rw [decide_eq_false (show ¬ (0 < (s.length : Int)) by omega)]; rfl
    rw [hc, cfl]
    obtain ⟨x, k, e, hk⟩ := int_tot F s hs hF
    rw [e, cu]
    exact ⟨x, k, rfl, hk⟩
theorem Atoi_tot (F : Nat) (s : Bs) (hs : s.length ≤ 1000) (hF : s.length < F) : ∃ x k, cS F s = some (x, k) := by
  unfold cS
  obtain ⟨x, k, e, hk⟩ := atoi_tot F s hs hF
  rw [e, cu]
  by_cases h0 : k = 0
  · subst h0; exact ⟨x, 0, by rw [decide_eq_true rfl, ntr, cfl]⟩
  · refine ⟨x, 1, ?_⟩
    rw [decide_eq_false h0, nfl, ctr, jT (by omega), nh (by omega)]
theorem qY (c : UInt8) (h : Dig c) : (c - 48).toNat = c.toNat - 48 := by
  have : ∀ k : Fin 256, (48 ≤ k.val ∧ k.val ≤ 57) → (UInt8.ofNat k.val - 48).toNat = k.val - 48 := by decide +kernel
  have h1 := this ⟨c.toNat, c.toNat_lt⟩ h
  simpa using h1
theorem atoi_loop (a : Bs) (s : Bs) (hs : s.length ≤ 18) (hd : ∀ c ∈ s, Dig c) : ∀ (n i v : Nat), s.length - i < n → i ≤ s.length → v < 10 ^ i → fv a s n ((v : Int), (i : Int)) = eS a ((val v (s.drop i) : Nat) : Int) := by
  intro n
  induction n with
  | zero => intro i v h; omega
  | succ n ih =>
    intro i v hn hi hv;show fw a s (fv a s n) (v : Int) (i : Int) = _
    unfold fw
    by_cases h : i < s.length
    · have hv17 : v < 10 ^ 17 := Nat.lt_of_lt_of_le hv (Nat.pow_le_pow_right (by omega) (by omega))
      have hdr : s.drop i = s[i] :: s.drop (i + 1) := bj h
      have hc := hd _ (List.getElem_mem h)
      have hsub := qY _ hc
      obtain ⟨hc1, hc2⟩ := hc
      rw [bT (by omega), du (by omega), bN, fe h]
      have e1 : ((v : Int) * 10) + ((s[i] - 48).toNat : Int) = ((10 * v + (s[i].toNat - 48) : Nat) : Int) := by rw [hsub]; omega
      have e2 : ((i : Int) + 1) = ((i + 1 : Nat) : Int) := by omega
      rw [bF (by rw [hsub]; omega), dW (by omega), dW (by omega), dW (by omega), e1, e2, ih (i + 1) _ (by omega) (by omega) (by rw [Nat.pow_succ]; omega), hdr]
      rfl
    · rw [bF (by omega), aX (by omega)]; rfl
theorem Atoi_dd (F : Nat) (n : Nat) (hn : n ≤ 1073741824) (hF : 100 < F) : cS F (decDigits n) = some ((n : Int), 0) := by
  have hl : (decDigits n).length ≤ 11 := pe 10 n (by omega)
  have hp := qI n
  have hd := oT n
  have h0 : at_ (decDigits n) 0 = (decDigits n)[0] := oU (by omega)
  have hd0 := hd _ (List.getElem_mem (show 0 < (decDigits n).length by omega))
  have n45 : (decDigits n)[0] ≠ 45 := fun e => by rw [e] at hd0; exact absurd hd0.1 (by decide)
  have n43 : (decDigits n)[0] ≠ 43 := fun e => by rw [e] at hd0; exact absurd hd0.1 (by decide)
  have hc : ((decide (0 < ((decDigits n).length : Int))) && (decide (((decDigits n).length : Int) < 19))) = true := by
    rw [decide_eq_true (by omega), decide_eq_true (by omega)]; rfl
  have hg : ∀ (c : Bool) (x : Option (Int × Int)), dP c (cI 0 (decDigits n).length) x = x := fun c x => gE fun _ => by omega
  have e : gQ F (decDigits n) = some ((n : Int), 0) := by
    unfold gQ eR
    rw [hc, ctr, du (by omega), bN, hg, bN, h0, decide_eq_false n45, decide_eq_false n43, fo, cfl, cn (by omega)]
    have := atoi_loop (decDigits n) (decDigits n) (by omega) hd F 0 0 (by omega) (by omega) (by omega)
    refine Eq.trans this ?_
    rw [List.drop_zero, qN]
    unfold eS eT
    rw [du (by omega), bN, h0, decide_eq_false n45, cfl]
  unfold cS
  rw [e, cu, decide_eq_true rfl, ntr, cfl]
end Go.Dg
namespace Go.Cl
open Go.Pv Go.Av
open Go.Dg (cfl ctr gr jh fo nfl ntr)
theorem gcS {α : Type} {k : Option α} {c : Bool} {n : Nat} (h : n < 4294967281) : dP c (okS n) k = k := by
  cases c
  · exact pa
  · rw [oZ, jT h]
theorem gcI {α : Type} {k : Option α} {c : Bool} {n : Int} (h : -9223372036854775808 ≤ n ∧ n ≤ 9223372036854775807) : dP c (okI n) k = k := by
  cases c
  · exact pa
  · rw [oZ, dW h]
theorem qB : ∀ (n : Nat) (y : Bs) (k : Nat), y.length < n → y.length ≤ 1100000 → k + y.length ≤ 3000000 →
    eO [13, 10] n (y, (k : Int)) = some ((k + pr false y : Nat) : Int) := by
  intro n
  induction n with
  | zero => intro y k h; omega
  | succ n ih =>
    intro y k hn hy hk;show eP [13, 10] (eO [13, 10] n) y (k : Int) = _
    unfold eP
    have e2 : ([13, 10] : Bs).length = 2 := Eq.symm (Eq.symm rfl)
    rw [e2, jT (by omega), nh (by omega), jT (by omega), bN]
    rcases pr_idx y with ⟨h1, h2⟩ | ⟨i, h1, h2, h3⟩
    · rw [h1, bT rfl, h2]; rfl
    · have e : (i : Int) + ((2 : Nat) : Int) = ((i + 2 : Nat) : Int) := by omega
      rw [h1, bF (by omega), dW (by omega), dW (by omega), ky (by omega), bN, e, pT, eD, ih (y.drop (i + 2)) (k + 1) (by rw [List.length_drop]; omega) (by rw [List.length_drop]; omega) (by rw [List.length_drop]; omega), h3]
      congr 1
      omega
theorem sk (F : Nat) (b : Bs) (hb : b.length ≤ 1100000) (hF : b.length < F) : dC F b [13, 10] = some ((pr false b : Nat) : Int) := by
  unfold dC
  have := qB F b 0 hF hb (by omega)
  rw [Nat.zero_add] at this
  exact this
theorem ou (F : Nat) (b : Bs) (c : UInt8) : dC F b [c] = some ((b.count c : Nat) : Int) := by
  unfold dC
  rfl
theorem okS_suf {b : Bs} (h : Go.Lib.hasSuffix b [13, 10] = true) : b.getLast? = some 10 := by
  unfold Go.Lib.hasSuffix at h
  obtain ⟨p, hp⟩ := List.isSuffixOf_iff_suffix.1 h
  rw [← hp]; simp
theorem suf_of {ls : List Bs} (hn : ls ≠ []) : Go.Lib.hasSuffix (flD ls) [13, 10] = true := by
  unfold Go.Lib.hasSuffix
  refine List.isSuffixOf_iff_suffix.2 ?_;obtain ⟨p, l, rfl⟩ : ∃ p l, ls = p ++ [l] := ⟨ls.dropLast, ls.getLast hn, (List.dropLast_concat_getLast hn).symm⟩;refine ⟨flD p ++ l, ?_⟩
  simp [flD, lnD]
theorem may_dot (F : Nat) (b : Bs) (hb : b.length ≤ 1100000) (hF : b.length < F) : jP F b = some (me b) := by
  unfold jP
  rw [sk F b hb hF, bS, ou, bS, ou, iE, gcS (by omega), bN]
  congr 1
  have hk := pr_ok b false
  simp only [Bool.false_eq_true, if_false, Nat.add_zero] at hk
  by_cases h1 : b.count 13 = pr false b
  · have d1 : decide (((b.count 13 : Nat) : Int) = ((pr false b : Nat) : Int)) = true := decide_eq_true (by omega)
    rw [d1, ctr, gr]
    by_cases h2 : b.count 10 = pr false b
    · have d2 : decide (((b.count 10 : Nat) : Int) = ((pr false b : Nat) : Int)) = true := decide_eq_true (by omega)
      have ho := hk.1 ⟨h2.symm, h1.symm⟩
      rw [d2, gr]
      unfold me
      rw [ho, gr]
      unfold endD
      by_cases h0 : b = []
      · subst h0; rfl
      · have hl : 0 < b.length := List.length_pos_iff.2 h0
        rw [decide_eq_false (p := ((b.length : Int) = 0)) (by omega), decide_eq_false h0, fo, fo]
        cases hs : Go.Lib.hasSuffix b [13, 10] with
        | true => rw [okS_suf hs]; rfl
        | false =>
          symm
          refine decide_eq_false fun hq => ?_
          have hm : me b = true := by unfold me endD; rw [ho, hq]; simp
          obtain ⟨ls, _, hb⟩ := nP hm
          have : ls ≠ [] := fun e => h0 (by rw [hb, e]; rfl)
          have := suf_of this
          rw [← hb, hs] at this
          cases this
    · have d2 : decide (((b.count 10 : Nat) : Int) = ((pr false b : Nat) : Int)) = false := decide_eq_false (by omega)
      have ho : okD false b = false := by
        cases q : okD false b with
        | false => rfl
        | true => exact absurd (hk.2 q).1.symm h2
      rw [d2, jh]
      unfold me; rw [ho]; rfl
  · have d1 : decide (((b.count 13 : Nat) : Int) = ((pr false b : Nat) : Int)) = false := decide_eq_false (by omega)
    have ho : okD false b = false := by
      cases q : okD false b with
      | false => rfl
      | true => exact absurd (hk.2 q).2.symm h1
    rw [d1, jh, jh]
    unfold me; rw [ho]; rfl
theorem fl_cons (l : Bs) (ls : List Bs) : flD (l :: ls) = l ++ 13 :: 10 :: flD ls := by simp [flD, lnD]
theorem stuff_k (acc l : Bs) (ha : acc.length + l.length ≤ 10000000) : cA acc (lnD l) = some (acc ++ mq l, true) := by
  unfold cA fa
  have hln : (lnD l).length = l.length + 2 := by simp [lnD]
  rw [du (by omega), bN, oU (by omega)]
  cases l with
  | nil =>
    have : (lnD [])[0]'(by simp [lnD]) = 13 := rfl
    rw [this, bF (by decide), cn (by omega), bN]
    rfl
  | cons c l =>
    have : (lnD (c :: l))[0]'(by simp [lnD]) = c := rfl
    rw [this]
    simp only [List.length_cons] at ha hln
    by_cases h : c = 46
    · subst h
      rw [bT rfl, cn (by simp; omega), bN, cn (by simp; omega), bN]
      simp [mq]
    · rw [bF h, cn (by omega), bN]
      simp [mq, h]
theorem mO : ∀ (ls : List Bs) (n : Nat) (acc : Bs), (∀ l ∈ ls, NoCr l) → ls.length < n → (flD ls).length ≤ 1100000 → acc.length + 2 * (flD ls).length ≤ 5000000 →
    eA (fun s x => cA s x) n (flD ls, acc) = some (acc ++ (ls.map mq).flatten, [])
  | ls, 0, acc, _, hn, _, _ => by omega
  | [], n + 1, acc, h, hn, hl, ha => by
    show dI (fun s x => cA s x) (eA (fun s x => cA s x) n) [] acc = _
    unfold dI
    have e2 : ([13, 10] : Bs).length = 2 := Eq.symm (Eq.symm rfl)
    have e0 : ([] : Bs).length = 0 := Eq.symm (Eq.symm rfl)
    rw [e2, e0, jT (by omega), nh (by omega), jT (by omega), bN, idx_nil, bT (by decide)]
    simp
  | l :: ls, n + 1, acc, h, hn, hl, ha => by
    show dI (fun s x => cA s x) (eA (fun s x => cA s x) n) (flD (l :: ls)) acc = _
    unfold dI
    have e2 : ([13, 10] : Bs).length = 2 := Eq.symm (Eq.symm rfl)
    have hlen : (flD (l :: ls)).length = l.length + 2 + (flD ls).length := by rw [fl_cons]; simp; omega
    have hi : Go.Lib.index (flD (l :: ls)) [13, 10] = (l.length : Int) := by rw [fl_cons]; exact idx_ln l _ (h l (by simp))
    have e : (l.length : Int) + 2 = ((l.length + 2 : Nat) : Int) := by omega
    have ht : (flD (l :: ls)).take (l.length + 2) = lnD l := by
      rw [fl_cons, show l ++ 13 :: 10 :: flD ls = lnD l ++ flD ls by simp [lnD], List.take_left' (by simp [lnD])]
    have hd : (flD (l :: ls)).drop (l.length + 2) = flD ls := by
      rw [fl_cons, show l ++ 13 :: 10 :: flD ls = lnD l ++ flD ls by simp [lnD], List.drop_left' (by simp [lnD])]
    have hk : (fun (s x : Bs) => cA s x) acc (lnD l) = some (acc ++ mq l, true) := stuff_k acc l (by omega)
    have hdl : (mq l).length ≤ l.length + 3 := by unfold mq lnD; split <;> simp
    rw [e2, jT (by omega), nh (by omega), jT (by omega), bN, hi, bF (by omega), dW (by omega), ky (by omega), bN, e, to_nat, ht, hk, cu, ntr, cfl, dW (by omega), ky (by omega), bN, pT, hd]
    rw [mO ls n (acc ++ mq l) (fun x hx => h x (by simp [hx])) (by simp at hn; omega) (by omega) (by rw [List.length_append]; omega)]
    simp
theorem fl_len (ls : List Bs) : 2 * ls.length ≤ (flD ls).length := by
  induction ls with
  | nil => simp [flD]
  | cons l ls ih => rw [fl_cons]; simp; omega
theorem nI (F : Nat) (b : Bs) (hb : b.length ≤ 1100000) (hF : b.length < F) : gW F b = some (iI b, if me b = true then 0 else 1) := by
  unfold gW jF iU
  rw [may_dot F b hb hF, bS]
  unfold iI
  cases hm : me b with
  | false => rfl
  | true =>
    rw [ntr, cfl, bS]
    obtain ⟨ls, hc, rfl⟩ := nP hm
    have := fl_len ls
    rw [mO ls F [] hc (by omega) hb (by simp; omega), cu]
    unfold fP
    rw [mV ls hc]
    have hle : ((ls.map mq).flatten).length ≤ 2 * (flD ls).length := by rw [← mV ls hc]; exact qF _ _
    rw [cn (by simp at hle ⊢; omega), bN]
    rfl
def p13 (b : Bs) (i : Nat) : Bool := decide (0 < i) && decide (b[i - 1]? = some 13)
def p10 (b : Bs) (i : Nat) : Bool := decide (i = 0) || decide (b[i - 1]? = some 10)
theorem pY {b : Bs} {i : Nat} (h : i < b.length) : p13 b (i + 1) = decide (b[i] = 13) := by
  unfold p13
  rw [decide_eq_true (by omega), gr, Nat.add_sub_cancel, aB h]
  simp
theorem p10_s {b : Bs} {i : Nat} (h : i < b.length) : p10 b (i + 1) = decide (b[i] = 10) := by
  unfold p10
  rw [decide_eq_false (by omega), fo, Nat.add_sub_cancel, aB h]
  simp
theorem rmay_end (b : Bs) (hb : b.length ≤ 1100000) : eY b = some (endD b) := by
  unfold eY endD
  by_cases h : b = []
  · subst h; rfl
  · have hl : 0 < b.length := List.length_pos_iff.2 h
    have e : (b.length : Int) - 1 = ((b.length - 1 : Nat) : Int) := by omega
    rw [gcI (by omega), gE (fun _ => by omega), bN, e, fe (by omega), decide_eq_false (p := ((b.length : Int) = 0)) (by omega), decide_eq_false h, fo, fo, List.getLast?_eq_getElem?, aB (by omega)]
    simp
theorem rD (b : Bs) (hb : b.length ≤ 1100000) : ∀ (n i : Nat), b.length - i < n → i ≤ b.length → (p13 b i = true → (b.drop i).head? = some 10) →
    fM b n (i : Int) = some (okD (p13 b i) (b.drop i) && endD b) := by
  intro n
  induction n with
  | zero => intro i h; omega
  | succ n ih =>
    intro i hn hi hp;show fN b (fM b n) (i : Int) = _
    unfold fN
    by_cases h : i < b.length
    · have ea : at_ b (i : Int) = b[i] := fe h
      have en : ∀ q : i + 1 < b.length, at_ b ((i : Int) + 1) = b[i + 1] := fun q => by rw [eD]; exact fe q
      have hd : b.drop i = b[i] :: b.drop (i + 1) := bj h
      rw [bT (by omega), du (by omega), bN, ea, gcI (by omega), gcI (by omega)]
      have g1 : ∀ (x : Option Bool), dP ((decide (b[i] = 13)) && (!(decide ((b.length : Int) ≤ (i : Int) + 1)))) (cI ((i : Int) + 1) b.length) x = x := fun x => gE fun e => by
        simp only [Bool.and_eq_true, Bool.not_eq_true', decide_eq_false_iff_not] at e
        omega
      rw [g1, bN, gE (fun _ => by omega), bN, gcI (by omega)]
      have g2 : ∀ (c : Bool) (x : Option Bool), dP (c && (!(decide ((i : Int) = 0)))) (cI ((i : Int) - 1) b.length) x = x := fun c x => gE fun e => by
        simp only [Bool.and_eq_true, Bool.not_eq_true', decide_eq_false_iff_not] at e
        omega
      rw [g2, bN, hd]
      have ep : p13 b i = (decide (0 < i) && decide (at_ b ((i : Int) - 1) = 13)) := by
        unfold p13
        by_cases h0 : 0 < i
        · rw [show (i : Int) - 1 = ((i - 1 : Nat) : Int) by omega, fe (by omega), aB (by omega)]
          simp
        · rw [decide_eq_false h0, jh, jh]
      by_cases c13 : b[i] = 13
      · have hp' : p13 b i = false := by
          cases q : p13 b i with
          | false => rfl
          | true =>
            have := hp q
            rw [hd, c13] at this
            simp at this
        rw [c13, hp', ng, decide_eq_true (p := (13 : UInt8) = 13) rfl, gr, show decide ((13 : UInt8) = 10) = false from rfl, jh, Bool.or_false, nfl, gr]
        by_cases q : i + 1 < b.length
        · have hd2 : b.drop (i + 1) = b[i + 1] :: b.drop (i + 2) := bj q
          rw [en q, decide_eq_false (p := (b.length : Int) ≤ (i : Int) + 1) (by omega), fo]
          by_cases c10 : b[i + 1] = 10
          · rw [decide_eq_true c10, ntr, cfl, dW (by omega), eD, ih (i + 1) (by omega) (by omega) (fun _ => by rw [hd2, c10]; rfl), pY h, decide_eq_true c13]
          · rw [decide_eq_false c10, nfl, ctr, hd2]
            have : okD true (b[i + 1] :: b.drop (i + 2)) = false := by
              by_cases g : b[i + 1] = 13
              · rw [g, ng]; rfl
              · rw [qa _ _ g c10]; rfl
            rw [this]; rfl
        · rw [decide_eq_true (p := (b.length : Int) ≤ (i : Int) + 1) (by omega), Bool.true_or, ctr, aX (by omega)]
          rfl
      · have e13 : decide (b[i] = 13) = false := decide_eq_false c13
        rw [e13, jh, fo]
        by_cases c10 : b[i] = 10
        · rw [c10, oY, decide_eq_true (p := (10 : UInt8) = 10) rfl, gr, ep]
          by_cases h0 : 0 < i
          · rw [decide_eq_false (p := (i : Int) = 0) (by omega), fo, decide_eq_true h0, gr]
            by_cases g : at_ b ((i : Int) - 1) = 13
            · rw [decide_eq_true g, ntr, cfl, gr, dW (by omega), eD, ih (i + 1) (by omega) (by omega) (fun q => by rw [pY h, e13] at q; cases q), pY h, e13]
            · rw [decide_eq_false g, nfl, ctr]; rfl
          · rw [decide_eq_true (p := (i : Int) = 0) (by omega), Bool.true_or, ctr, decide_eq_false h0]; rfl
        · have hp' : p13 b i = false := by
            cases q : p13 b i with
            | false => rfl
            | true =>
              have := hp q
              rw [hd] at this
              exact absurd (aC this) c10
          rw [decide_eq_false c10, jh, cfl, hp', qa _ _ c13 c10, nfl, gr, dW (by omega), eD, ih (i + 1) (by omega) (by omega) (fun q => by rw [pY h, e13] at q; cases q), pY h, e13]
    · rw [bF (by omega), rmay_end b hb, aX (by omega)]
      have hp' : p13 b i = false := by
        cases q : p13 b i with
        | false => rfl
        | true =>
          have := hp q
          rw [aX (by omega)] at this
          cases this
      rw [hp']; rfl
theorem rE (F : Nat) (b : Bs) (hb : b.length ≤ 1100000) (hF : b.length < F) : iz F b = some (me b) := by
  unfold iz
  have := rD b hb F 0 (by omega) (by omega) (fun q => by cases q)
  exact this
theorem po (b : Bs) (hb : b.length ≤ 1100000) : ∀ (n i : Nat) (acc : Bs), b.length - i < n → i ≤ b.length → acc.length ≤ 2 * i →
    cW b n (acc, (i : Int)) = some (acc ++ stD (p10 b i) (b.drop i) ++ [46, 13, 10], 0) := by
  intro n
  induction n with
  | zero => intro i acc h; omega
  | succ n ih =>
    intro i acc hn hi ha;show eL b (cW b n) acc (i : Int) = _
    unfold eL
    by_cases h : i < b.length
    · have ea : at_ b (i : Int) = b[i] := fe h
      have hd : b.drop i = b[i] :: b.drop (i + 1) := bj h
      have g2 : ∀ (c : Bool) (x : Option (Bs × Int)), dP (c && (!(decide ((i : Int) = 0)))) (cI ((i : Int) - 1) b.length) x = x := fun c x => gE fun e => by
        simp only [Bool.and_eq_true, Bool.not_eq_true', decide_eq_false_iff_not] at e
        omega
      have ep : p10 b i = (decide ((i : Int) = 0) || decide (at_ b ((i : Int) - 1) = 10)) := by
        unfold p10
        by_cases h0 : i = 0
        · rw [decide_eq_true h0, decide_eq_true (p := (i : Int) = 0) (by omega), Bool.true_or, Bool.true_or]
        · rw [decide_eq_false h0, decide_eq_false (p := (i : Int) = 0) (by omega), fo, fo, show (i : Int) - 1 = ((i - 1 : Nat) : Int) by omega, fe (by omega), aB (by omega)]
          simp
      have key : ∀ acc' : Bs, acc'.length ≤ 2 * i + 1 → dr b (i : Int) (cW b n) acc' = some (acc' ++ [b[i]] ++ stD (decide (b[i] = 10)) (b.drop (i + 1)) ++ [46, 13, 10], 0) := fun acc' h' => by
        unfold dr
        have e1 : ([b[i]] : Bs).length = 1 := rfl
        rw [du (by omega), bN, ea, e1, cn (by omega), bN, dW (by omega), eD, ih (i + 1) _ (by omega) (by omega) (by rw [List.length_append]; simp; omega), p10_s h]
      rw [bT (by omega), du (by omega), bN, ea, gcI (by omega), g2, bN, hd, ← ep]
      have es : stD (p10 b i) (b[i] :: b.drop (i + 1)) = (if p10 b i = true ∧ b[i] = 46 then [46, b[i]] else [b[i]]) ++ stD (decide (b[i] = 10)) (b.drop (i + 1)) := rfl
      rw [es]
      by_cases q : p10 b i = true ∧ b[i] = 46
      · rw [if_pos q, q.1, decide_eq_true q.2, gr, ctr]
        have e1 : ([46] : Bs).length = 1 := rfl
        rw [e1, cn (by omega), bN, key _ (by rw [List.length_append, e1]; omega)]
        simp
      · have : (decide (b[i] = 46) && p10 b i) = false := by
          cases q1 : p10 b i with
          | false => rw [Bool.and_false]
          | true => rw [decide_eq_false (fun e => q ⟨q1, e⟩)]; rfl
        rw [if_neg q, this, cfl, key _ (by omega)]
        simp
    · rw [bF (by omega), aX (by omega)]
      unfold eK
      have e3 : ([46, 13, 10] : Bs).length = 3 := rfl
      rw [e3, cn (by omega), bN]
      simp [stD]
theorem rB (F : Nat) (b : Bs) (hb : b.length ≤ 1100000) (hF : b.length < F) : gu F b = some (iI b, if me b = true then 0 else 1) := by
  unfold gu iI
  rw [rE F b hb hF, bS]
  cases hm : me b with
  | false => rfl
  | true =>
    rw [ntr, cfl]
    have := po b hb F 0 [] (by omega) (by omega) (by simp)
    exact this
end Go.Cl
