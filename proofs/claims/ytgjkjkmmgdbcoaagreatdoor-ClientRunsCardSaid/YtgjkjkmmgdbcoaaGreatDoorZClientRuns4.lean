/-
  Texts in one (only what ClientRuns needs): CliAW, CliLP, CliLW, CliRP.
-/
import Derived.Test.YtgjkjkmmgdbcoaaGreatDoorZClientRuns3
import Derived.Test.YtgjkjkmmgdbcoaaGreatDoorShelf
import Derived.Lib.ItoaNum
import Derived.Lib.IndexLaws
import Derived.Test.YtgjkjkmmgdbcoaaGreatDoorChecked
set_option linter.unusedVariables false
set_option linter.unusedSimpArgs false
namespace Go.Proofs.YtgjkjkmmgdbcoaaGreatDoor
open Go.RowKit Go.Av Go.Pv
theorem qy : ∀ (args : Array Value) (w : World), (callFunc 17 args).run Tryz.prog w = .ok (.enter 17 args) w := fun _ _ => by kernel_rfl
theorem uT : ∀ (args : Array Value) (w : World), (callFunc 23 args).run Tryz.prog w = .ok (.enter 23 args) w := fun _ _ => by kernel_rfl
theorem qv : ∀ (args : Array Value) (w : World), (callFunc 27 args).run Tryz.prog w = .ok (.enter 27 args) w := fun _ _ => by kernel_rfl
theorem nw : ∀ (args : Array Value) (w : World), (callFunc 28 args).run Tryz.prog w = .ok (.enter 28 args) w := fun _ _ => by kernel_rfl
theorem uR : ∀ (args : Array Value) (w : World), (callFunc 29 args).run Tryz.prog w = .ok (.enter 29 args) w := fun _ _ => by kernel_rfl
theorem qu : ∀ (args : Array Value) (w : World), (callFunc 30 args).run Tryz.prog w = .ok (.enter 30 args) w := fun _ _ => by kernel_rfl
theorem uN : ∀ (args : Array Value) (w : World), (callFunc 34 args).run Tryz.prog w = .ok (.enter 34 args) w := fun _ _ => by kernel_rfl
theorem uM : ∀ (args : Array Value) (w : World), (callFunc 35 args).run Tryz.prog w = .ok (.enter 35 args) w := fun _ _ => by kernel_rfl
theorem uL : ∀ (args : Array Value) (w : World), (callFunc 36 args).run Tryz.prog w = .ok (.enter 36 args) w := fun _ _ => by kernel_rfl
theorem uK : ∀ (args : Array Value) (w : World), (callFunc 37 args).run Tryz.prog w = .ok (.enter 37 args) w := fun _ _ => by kernel_rfl
theorem qs : ∀ (args : Array Value) (w : World), (callFunc 38 args).run Tryz.prog w = .ok (.enter 38 args) w := fun _ _ => by kernel_rfl
theorem qr : ∀ (args : Array Value) (w : World), (callFunc 44 args).run Tryz.prog w = .ok (.enter 44 args) w := fun _ _ => by kernel_rfl
theorem uF : ∀ (args : Array Value) (w : World), (callFunc 45 args).run Tryz.prog w = .ok (.enter 45 args) w := fun _ _ => by kernel_rfl
theorem uE : ∀ (args : Array Value) (w : World), (callFunc 46 args).run Tryz.prog w = .ok (.enter 46 args) w := fun _ _ => by kernel_rfl
theorem uD : ∀ (args : Array Value) (w : World), (callFunc 47 args).run Tryz.prog w = .ok (.enter 47 args) w := fun _ _ => by kernel_rfl
theorem uA : ∀ (args : Array Value) (w : World), (callFunc 51 args).run Tryz.prog w = .ok (.enter 51 args) w := fun _ _ => by kernel_rfl
theorem dD : ∀ (args : Array Value) (w : World), (callFunc 57 args).run Tryz.prog w = .ok (.enter 57 args) w := fun _ _ => by kernel_rfl
theorem lu : ∀ (args : Array Value) (w : World), (callFunc 58 args).run Tryz.prog w = .ok (.enter 58 args) w := fun _ _ => by kernel_rfl
theorem qn : ∀ (args : Array Value) (w : World), (callFunc 80 args).run Tryz.prog w = .ok (.enter 80 args) w := fun _ _ => by kernel_rfl
theorem qm : ∀ (args : Array Value) (w : World), (callFunc 81 args).run Tryz.prog w = .ok (.enter 81 args) w := fun _ _ => by kernel_rfl
theorem ql : ∀ (args : Array Value) (w : World), (callFunc 82 args).run Tryz.prog w = .ok (.enter 82 args) w := fun _ _ => by kernel_rfl
theorem qk : ∀ (args : Array Value) (w : World), (callFunc 83 args).run Tryz.prog w = .ok (.enter 83 args) w := fun _ _ => by kernel_rfl
theorem qj : ∀ (args : Array Value) (w : World), (callFunc 84 args).run Tryz.prog w = .ok (.enter 84 args) w := fun _ _ => by kernel_rfl
theorem qi : ∀ (args : Array Value) (w : World), (callFunc 85 args).run Tryz.prog w = .ok (.enter 85 args) w := fun _ _ => by kernel_rfl
theorem qh : ∀ (args : Array Value) (w : World), (callFunc 86 args).run Tryz.prog w = .ok (.enter 86 args) w := fun _ _ => by kernel_rfl
theorem ka : ∀ (args : Array Value) (w : World), (callFunc 87 args).run Tryz.prog w = .ok (.enter 87 args) w := fun _ _ => by kernel_rfl
theorem oU : ∀ (args : Array Value) (w : World), (callFunc 110 args).run Tryz.prog w = .ok (.enter 110 args) w := fun _ _ => by kernel_rfl
set_option maxRecDepth 100000 in
set_option maxHeartbeats 1000000 in
theorem nq (F : Nat) (a1 : List UInt8) (a2 : List UInt8) (r3 : Bool) (H : kK F a1 a2 = some r3) : ACalls Tryz.prog 28 [S a1, S a2] [] (Ret (B r3) []) := by
 unfold kK at H
 refine az Tryz.func28 rfl rfl ?_;show AW _ _ 25 _ _ _;refine ah <| ac ?_;show AR _ _ _ _ _ [0] _;refine za rfl <| ai <| bK (X := Unit) (fun _ => ⟨[(0, S a1)], [], []⟩) (fun _ => jv a1 = some r3) ?_ ?_
 ·refine ah <| ac ?_;show AR _ _ _ _ _ [0, 1, 2] _;refine zm rfl <| zS rfl (bb ag rfl) <| zm rfl <| ai <| be <| cN (X := Nat × Int) (fun (n6, y4) => ⟨[(0, S a1), (1, S a2), (7, i64 (a1.length : Int)), (8, i64 y4)], [], []⟩) (fun (n6, y4) => jw a1 a2 n6 y4 = some r3) (fun (n6, y4) => n6) (F, 0) H (aZ [] (.cons (.refl _) (.cons (.refl _) (.cons (.refl _) (.cons (.refl _) (.nil _))))) rfl) ?_;rintro ⟨n6, y4⟩ H;obtain ⟨n6, rfl, H⟩ := dK H;replace H : jx a1 a2 (jw a1 a2 n6) y4 = some r3 := H
  unfold jx at H
  refine ah <| ac ?_;show AR _ _ _ _ _ [0] _;refine zS rfl (bN rfl rfl) <| ai <| ah <| aE rfl (fun c7 => ?_) (fun c7 => ?_)
  ·replace H := bg c7 H;refine aJ <| ah <| be <| ah <| ac ?_;show AR _ _ _ _ _ [0, 1] _;refine zm rfl <| za rfl <| ai <| ah ?_;obtain ⟨g8, H⟩ := aY H;obtain ⟨x9, e10, H⟩ := bP H;obtain ⟨x11, e12, H⟩ := bP H;refine ac ?_;show AR _ _ _ _ _ [0, 1, 2, 3, 4, 5] _;refine zm rfl <| zm rfl <| zm rfl <| zS rfl (bi ag rfl rfl g8 e10) <| aq rfl rfl (aU rfl uA rfl (show ACalls _ _ _ [] (Ret (i64 x11) []) from by subst e12; exact pD a2 x9) ?_);refine zS rfl (bN rfl rfl) <| ai <| aE rfl (fun c13 => ?_) (fun c13 => ?_)
   ·replace H := bg c13 H;refine ah <| ac ?_;show AR _ _ _ _ _ [0] _;refine za rfl <| ai <| aQ ?_;obtain rfl := ay H;exact And.intro rfl (Exists.intro _ (Exists.intro _ ⟨aV rfl (.refl _), aL [] rfl, rfl, rfl⟩))
   ·replace H := ba c13 H;refine aJ ?_;obtain ⟨g14, H⟩ := aY H;refine ac ?_;show AR _ _ _ _ _ [0, 1] _;refine zS rfl (dE rfl rfl g14) <| zm rfl <| ai ?_;exact Exists.intro (n6, y4 + 1) ⟨H, Nat.lt_succ_self _, aZ [] (.cons (.refl _) (.cons (.refl _) (.cons (.refl _) (.cons (.refl _) (.nil _))))) rfl⟩
  ·replace H := ba c7 H;refine cH ?_;exact Exists.intro () ⟨H, aZ [] (.cons (.refl _) (.nil _)) rfl⟩
 rintro _ H;replace H : jv a1 = some r3 := H
 unfold jv at H
 refine ah <| ac ?_;show AR _ _ _ _ _ [0, 1, 2, 3, 4, 5, 6, 7] _;refine zm rfl <| zS rfl (qY rfl rfl) <| zm rfl <| aG (l := [7]) 24 (B ((!decide (a1 = ([] : List UInt8))) && (decide ((a1.length : Int) ≤ 60)))) (fun K => ?_) ?_
 ·rcases af (!decide (a1 = ([] : List UInt8))) with h16 | h16
  ·refine zM h16 rfl <| zU h16 rfl (bb ag rfl) <| zU h16 rfl (cL rfl rfl) <| zS rfl (ap (av := .v _) rfl h16 rfl) ?_;exact K _ 3 _ (am (bI h16)) rfl rfl
  ·refine zF h16 rfl <| zF h16 rfl <| zF h16 rfl <| zS rfl (ao (av := .v _) rfl h16 rfl) ?_;exact K _ 3 _ (am (bJ h16)) rfl rfl
 refine za rfl <| ai <| aQ ?_;obtain rfl := ay H;exact And.intro rfl (Exists.intro _ (Exists.intro _ ⟨aV rfl (.refl _), aL [] rfl, rfl, rfl⟩))
set_option maxRecDepth 100000 in
set_option maxHeartbeats 1000000 in
theorem mw (F : Nat) (a1 : List UInt8) (r2 : Bool) (H : iu F a1 = some r2) : ACalls Tryz.prog 27 [S a1] [] (Ret (B r2) []) := by
 unfold iu at H
 refine az Tryz.func27 rfl rfl ?_;show AW _ _ 31 _ _ _;refine ah <| ac ?_;show AR _ _ _ _ _ [0] _;refine za rfl <| ai <| ah ?_;obtain ⟨g3, H⟩ := aY H;obtain ⟨x4, e5, H⟩ := bP H;refine ac ?_;show AR _ _ _ _ _ [0, 1, 2, 3, 4, 5, 6, 7, 8] _;refine zm rfl <| aq rfl rfl (aU rfl qr rfl (show ACalls _ _ _ [] (Ret (.tup [S x4.1, S x4.2.1, B x4.2.2]) []) from by subst e5; exact rd a1 ([64] : List UInt8) (eI g3)) ?_);refine zS rfl (ak (av := .tup _) rfl) <| zS rfl (aK (av := .v _) rfl rfl) <| zS rfl (aK (av := .v _) rfl rfl) <| zS rfl (aK (av := .v _) rfl rfl) <| za rfl <| za rfl <| za rfl <| ai <| ah ?_;obtain ⟨x7, e8, H⟩ := gy H;obtain ⟨x10, e11, H⟩ := gy H;refine ac ?_;show AR _ _ _ _ _ [0, 1, 2, 3, 4, 5, 6, 7, 8, 9, 10, 11, 12, 13, 14, 15, 16, 17, 18, 19] _;refine zm rfl <| zm rfl <| aG (l := [5, 6, 7, 8, 9, 10, 11, 12, 13, 14, 15, 16, 17, 18, 19]) 16 (B (x4.2.2 && x7)) (fun K => ?_) ?_
 ·rcases af x4.2.2 with h6 | h6
  ·refine zM h6 rfl <| zT h6 rfl (aU rfl nw rfl (nq F x4.1 clia_k1 x7 (e8 h6)) ?_);refine zS rfl (ap (av := .v _) rfl h6 rfl) ?_;exact K _ 2 _ (am (bI h6)) rfl rfl
  ·refine zF h6 rfl <| zF h6 rfl <| zS rfl (ao (av := .v _) rfl h6 rfl) ?_;exact K _ 2 _ (am (bJ h6)) rfl rfl
 refine zm rfl <| aG (l := [9, 10, 11, 12, 13, 14, 15, 16, 17, 18, 19]) 20 (B ((x4.2.2 && x7) && x10)) (fun K => ?_) ?_
 ·rcases af (x4.2.2 && x7) with h9 | h9
  ·refine zM h9 rfl <| zT h9 rfl (aU rfl nw rfl (nq F x4.2.1 clia_k1 x10 (e11 h9)) ?_);refine zS rfl (ap (av := .v _) rfl h9 rfl) ?_;exact K _ 2 _ (am (bI h9)) rfl rfl
  ·refine zF h9 rfl <| zF h9 rfl <| zS rfl (ao (av := .v _) rfl h9 rfl) ?_;exact K _ 2 _ (am (bJ h9)) rfl rfl
 refine zm rfl <| aG (l := [14, 15, 16, 17, 18, 19]) 25 (B (((x4.2.2 && x7) && x10) && (decide (3 ≤ (a1.length : Int))))) (fun K => ?_) ?_
 ·rcases af ((x4.2.2 && x7) && x10) with h12 | h12
  ·refine zM h12 rfl <| zU h12 rfl (bb ag rfl) <| zU h12 rfl (di rfl rfl) <| zS rfl (ap (av := .v _) rfl h12 rfl) ?_;exact K _ 3 _ (am (bI h12)) rfl rfl
  ·refine zF h12 rfl <| zF h12 rfl <| zF h12 rfl <| zS rfl (ao (av := .v _) rfl h12 rfl) ?_;exact K _ 3 _ (am (bJ h12)) rfl rfl
 refine zm rfl <| aG (l := [19]) 30 (B ((((x4.2.2 && x7) && x10) && (decide (3 ≤ (a1.length : Int)))) && (decide ((a1.length : Int) ≤ 60)))) (fun K => ?_) ?_
 ·rcases af (((x4.2.2 && x7) && x10) && (decide (3 ≤ (a1.length : Int)))) with h13 | h13
  ·refine zM h13 rfl <| zU h13 rfl (bb ag rfl) <| zU h13 rfl (cL rfl rfl) <| zS rfl (ap (av := .v _) rfl h13 rfl) ?_;exact K _ 3 _ (am (bI h13)) rfl rfl
  ·refine zF h13 rfl <| zF h13 rfl <| zF h13 rfl <| zS rfl (ao (av := .v _) rfl h13 rfl) ?_;exact K _ 3 _ (am (bJ h13)) rfl rfl
 refine za rfl <| ai <| aQ ?_;obtain rfl := ay H;exact And.intro rfl (Exists.intro _ (Exists.intro _ ⟨aV rfl (.refl _), aL [] rfl, rfl, rfl⟩))
abbrev _root_.Go.Av.aA := @Tryz.underlying24
set_option maxRecDepth 100000 in
set_option maxHeartbeats 1000000 in
theorem oJ (F : Nat) (a1 : List UInt8) (a2 : List UInt8) (a3 : List UInt8) (a4 : List UInt8) (q5 : Option Nat) (r6 : Int) (r7 : Int) (r8 : List UInt8) (r9 : List UInt8) (r10 : List UInt8) (r11 : List UInt8) (r12 : Int) (H : ki F a1 a2 a3 a4 = some (r6, r7, r8, r9, r10, r11, r12)) : ACalls Tryz.prog 12 [S a1, S a2, S a3, slE Enc.byte a4 q5] [] (Ret (.tup [.agg [i64 r6, i64 r7, S r8, S r9, S r10, slE Enc.byte r11 none], i64 r12]) []) := by
 unfold ki at H
 refine az Tryz.func12 rfl rfl ?_;show AW _ _ 35 _ _ _;refine ah <| ac ?_;show AR _ _ _ _ _ [0, 1] _;refine zX rfl (br (zs := [.int .i64 0, .int .i64 0, .string ⟨#[]⟩, .string ⟨#[]⟩, .string ⟨#[]⟩, .slice none 0 0]) (by kernel_rfl)) ?_;rintro _ _ ⟨o13, rfl, rfl⟩;refine za rfl <| ai <| ah <| ah ?_;obtain ⟨x14, e15, H⟩ := cu H;obtain ⟨x17, e18, H⟩ := gy H;obtain ⟨x20, e21, H⟩ := gy H;obtain ⟨x23, e24, H⟩ := gy H;refine ac ?_;show AR _ _ _ _ _ [0, 1, 2, 3, 4, 5, 6, 7, 8, 9, 10, 11, 12, 13, 14, 15, 16, 17] _;refine zm rfl <| aq rfl rfl (aU rfl qv rfl (mw F a1 x14 e15) ?_);refine zS rfl (cW rfl) <| zm rfl <| aG (l := [8, 9, 10, 11, 12, 13, 14, 15, 16, 17]) 17 (B ((!x14) || (!x17))) (fun K => ?_) ?_
 ·rcases af (!x14) with h16 | h16
  ·refine zF h16 rfl <| zF h16 rfl <| zF h16 rfl <| zS rfl (ap (av := .v _) rfl h16 rfl) ?_;exact K _ 3 _ (am (dz h16)) rfl rfl
  ·refine zM h16 rfl <| zT h16 rfl (aU rfl qv rfl (mw F a2 x17 (e18 (nf h16))) ?_);refine zU h16 rfl (cW rfl) <| zS rfl (ao (av := .v _) rfl h16 rfl) ?_;exact K _ 3 _ (am (dA h16)) rfl rfl
 refine zm rfl <| aG (l := [13, 14, 15, 16, 17]) 22 (B (((!x14) || (!x17)) || (!x20))) (fun K => ?_) ?_
 ·rcases af ((!x14) || (!x17)) with h19 | h19
  ·refine zF h19 rfl <| zF h19 rfl <| zF h19 rfl <| zS rfl (ap (av := .v _) rfl h19 rfl) ?_;exact K _ 3 _ (am (dz h19)) rfl rfl
  ·refine zM h19 rfl <| zT h19 rfl (aU rfl nw rfl (nq F a3 clia_k2 x20 (e21 (nf h19))) ?_);refine zU h19 rfl (cW rfl) <| zS rfl (ao (av := .v _) rfl h19 rfl) ?_;exact K _ 3 _ (am (dA h19)) rfl rfl
 refine zm rfl <| aG (l := []) 27 (B ((((!x14) || (!x17)) || (!x20)) || (!x23))) (fun K => ?_) ?_
 ·rcases af (((!x14) || (!x17)) || (!x20)) with h22 | h22
  ·refine zF h22 rfl <| zF h22 rfl <| zF h22 rfl <| zS rfl (ap (av := .v _) rfl h22 rfl) ?_;exact K _ 3 _ (am (dz h22)) rfl rfl
  ·refine zU h22 rfl (ak (av := slE _ _ _) rfl) <| zT h22 rfl (aU rfl uR rfl (pI F a4 q5 x23 (e24 (nf h22))) ?_);refine zU h22 rfl (cW rfl) <| zS rfl (ao (av := .v _) rfl h22 rfl) ?_;exact K _ 3 _ (am (dA h22)) rfl rfl
 refine ai <| aE rfl (fun c25 => ?_) (fun c25 => ?_)
 ·replace H := bg c25 H;refine ah <| ac ?_;show AR _ _ _ _ _ [0, 1, 2] _;refine zS rfl (iQ (zs := [.int .i64 0, .int .i64 0, .string ⟨#[]⟩, .string ⟨#[]⟩, .string ⟨#[]⟩, .slice none 0 0]) (ps := [(0, 1), (1, 1), (2, 1), (3, 1), (4, 1), (5, 1)]) (cs := [i64 0, i64 0, S ([] : List UInt8), S ([] : List UInt8), S ([] : List UInt8), ec]) (by kernel_rfl) rfl rfl) <| s0 rfl rfl (aH (i := 0) (vs := [i64 0, i64 0, S ([] : List UInt8), S ([] : List UInt8), S ([] : List UInt8), ec]) (by kernel_rfl) rfl rfl (by simp [bk, slE]) rfl (aa rfl)) <| za rfl <| ai <| aQ ?_;obtain ⟨rfl, rfl, rfl, rfl, rfl, rfl, rfl⟩ := lH H;exact And.intro rfl (Exists.intro _ (Exists.intro _ ⟨bW (cb rfl (CellV.aggW (cs := [i64 0, i64 0, S ([] : List UInt8), S ([] : List UInt8), S ([] : List UInt8), ec]) (bX (off := 0) (cs := [i64 0, i64 0, S ([] : List UInt8), S ([] : List UInt8), S ([] : List UInt8), ec]) (n := 6) 0 aA rfl (by kernel_rfl) rfl rfl (aa rfl)) (.cons (.refl _) (.cons (.refl _) (.cons (.refl _) (.cons (.refl _) (.cons (.refl _) (.cons (.nil _) (.nil)))))))) ((show PlaceV _ _ _ (.tmp _) _ from (.refl _)))), aL [] rfl, rfl, rfl⟩))
 ·replace H := ba c25 H;refine aJ <| ah ?_;obtain ⟨g26, H⟩ := aY H;refine ac ?_;show AR _ _ _ _ _ [0, 1, 2, 3, 4, 5, 6, 7] _;refine zm rfl <| zm rfl <| zm rfl <| zS rfl (ak (av := slE _ _ _) rfl) <| aq rfl rfl (aU rfl qu rfl (kT a4 q5 (eI g26)) ?_);refine zS rfl (iQ (zs := [.int .i64 0, .int .i64 0, .string ⟨#[]⟩, .string ⟨#[]⟩, .string ⟨#[]⟩, .slice none 0 0]) (ps := [(0, 1), (1, 1), (2, 1), (3, 1), (4, 1), (5, 1)]) (cs := [i64 0, i64 0, S a1, S a2, S a3, slE Enc.byte a4 none]) (by kernel_rfl) rfl rfl) <| s0 rfl rfl (aH (i := 0) (vs := [i64 0, i64 0, S a1, S a2, S a3, slE Enc.byte a4 none]) (by kernel_rfl) rfl rfl (by simp [bk, slE]) rfl (aa rfl)) <| za rfl <| ai <| aQ ?_;obtain ⟨rfl, rfl, rfl, rfl, rfl, rfl, rfl⟩ := lH H;exact And.intro rfl (Exists.intro _ (Exists.intro _ ⟨bW (cb rfl (bX (off := 0) (cs := [i64 0, i64 0, S a1, S a2, S a3, slE Enc.byte a4 none]) (n := 6) 0 aA rfl (by kernel_rfl) rfl rfl (aa rfl)) ((show PlaceV _ _ _ (.tmp _) _ from (.refl _)))), aL [] rfl, rfl, rfl⟩))
set_option maxRecDepth 100000 in
set_option maxHeartbeats 1000000 in
theorem sG (F : Nat) (a1 : List UInt8) (a2 : List UInt8) (r3 : Bool) (H : lf F a1 a2 = some r3) : ACalls Tryz.prog 45 [S a1, S a2] [] (Ret (B r3) []) := by
 unfold lf at H
 refine az Tryz.func45 rfl rfl ?_;show AW _ _ 34 _ _ _;refine ah <| ac ?_;show AR _ _ _ _ _ [0] _;refine za rfl <| ai <| ah ?_;obtain ⟨g4, H⟩ := aY H;refine ac ?_;show AR _ _ _ _ _ [0, 1, 2] _;refine zm rfl <| zX rfl (oC ag ab aO rfl g4) ?_;rintro _ _ ⟨o5, n6, rfl, rfl⟩;refine zS rfl (aB (av := .vw _ _ _ _) rfl) <| ai <| bK (X := (List UInt8)) (fun y25 => ⟨[(1, S a2), (5, .vw o5 0 a1.length (a1.length + n6))], [], [.obj o5 (Enc.byte.fl y25 ++ List.replicate n6 .any)]⟩) (fun y25 => iM a1 a2 y25 = some r3) ?_ ?_
 ·refine ah <| ac ?_;show AR _ _ _ _ _ [0, 1, 2] _;refine zS rfl (ak (av := .vw _ _ _ _) rfl) <| zS rfl (sU ab rfl) <| zm rfl <| ai <| be <| cN (X := Nat × Int × (List UInt8)) (fun (n10, y7, y8) => ⟨[(1, S a2), (5, .vw o5 0 a1.length (a1.length + n6)), (10, .vw o5 0 a1.length (a1.length + n6)), (11, i64 (a1.length : Int)), (12, i64 y7)], [], [.obj o5 (Enc.byte.fl y8 ++ List.replicate n6 .any)]⟩) (fun (n10, y7, y8) => eQ a1 a2 n10 (y7, y8) = some r3) (fun (n10, y7, y8) => n10) (F, 0, a1) H (aZ [0] (.cons (.refl _) (.cons (.refl _) (.cons (.refl _) (.cons (.refl _) (.cons (.refl _) (.nil _)))))) rfl) ?_;rintro ⟨n10, y7, y8⟩ H;obtain ⟨n10, rfl, H⟩ := dK H;replace H : fQ a1 a2 (eQ a1 a2 n10) y7 y8 = some r3 := H
  unfold fQ at H
  refine ah <| ac ?_;show AR _ _ _ _ _ [0] _;refine zS rfl (bN rfl rfl) <| ai <| ah <| aE rfl (fun c11 => ?_) (fun c11 => ?_)
  ·replace H := bg c11 H;refine aJ <| bK (X := (List UInt8)) (fun y22 => ⟨[(1, S a2), (5, .vw o5 0 a1.length (a1.length + n6)), (10, .vw o5 0 a1.length (a1.length + n6)), (11, i64 (a1.length : Int)), (12, i64 y7)], [], [.obj o5 (Enc.byte.fl y22 ++ List.replicate n6 .any)]⟩) (fun y22 => gM y7 (eQ a1 a2 n10) y22 = some r3) ?_ ?_
   ·refine be <| ah ?_;obtain ⟨g12, H⟩ := aY H;obtain ⟨g13, H⟩ := aY H;obtain ⟨x14, e15, H⟩ := bP H;refine ac ?_;show AR _ _ _ _ _ [0, 1, 2, 3, 4] _;refine zm rfl <| zS rfl (kE ab (by kernel_rfl) rfl rfl g12) <| zR rfl (sY (k := 0) aO rfl rfl rfl g13 e15) <| za rfl <| za rfl <| ai <| ah <| ac ?_;show AR _ _ _ _ _ [0, 1, 2, 3, 4, 5] _;refine zm rfl <| zS rfl (di rfl rfl) <| zm rfl <| aG (l := []) 22 (B ((decide (65 ≤ (x14.toNat : Int))) && (decide ((x14.toNat : Int) ≤ 90)))) (fun K => ?_) ?_
    ·rcases af (decide (65 ≤ (x14.toNat : Int))) with h16 | h16
     ·refine zM h16 rfl <| zU h16 rfl (cL rfl rfl) <| zS rfl (ap (av := .v _) rfl h16 rfl) ?_;exact K _ 2 _ (am (bI h16)) rfl rfl
     ·refine zF h16 rfl <| zF h16 rfl <| zS rfl (ao (av := .v _) rfl h16 rfl) ?_;exact K _ 2 _ (am (bJ h16)) rfl rfl
    refine ai <| aE rfl (fun c17 => ?_) (fun c17 => ?_)
    ·replace H := bg c17 H;obtain ⟨g18, H⟩ := aY H;obtain ⟨g19, H⟩ := aY H;obtain ⟨x20, e21, H⟩ := bP H;refine ac ?_;show AR _ _ _ _ _ [0, 1, 2, 3, 4, 5, 6] _;refine zS rfl (ak (av := .vw _ _ _ _) rfl) <| zm rfl <| zm rfl <| zS rfl (tr (a := x14) (b := 97) rfl rfl) <| zS rfl (pk (a := x14 + 97) (b := 65) rfl rfl) <| zS rfl (kE ab (by kernel_rfl) rfl rfl g18) <| s0 rfl rfl (rP (k := 0) (c := ((x14 + 97) - 65)) (by kernel_rfl) rfl rfl rfl g19 e21) <| ai ?_;exact Exists.intro x20 ⟨H, aZ [0] (.cons (.refl _) (.cons (.refl _) (.cons (.refl _) (.cons (.refl _) (.cons (.refl _) (.nil _)))))) rfl⟩
    ·replace H := ba c17 H;refine aJ ?_;exact Exists.intro y8 ⟨H, aZ [0] (.cons (.refl _) (.cons (.refl _) (.cons (.refl _) (.cons (.refl _) (.cons (.refl _) (.nil _)))))) rfl⟩
   rintro y22 H;replace H : gM y7 (eQ a1 a2 n10) y22 = some r3 := H
   unfold gM at H
   obtain ⟨g24, H⟩ := aY H;refine ac ?_;show AR _ _ _ _ _ [0, 1] _;refine zS rfl (dE rfl rfl g24) <| zm rfl <| ai ?_;exact Exists.intro (n10, y7 + 1, y22) ⟨H, Nat.lt_succ_self _, aZ [0] (.cons (.refl _) (.cons (.refl _) (.cons (.refl _) (.cons (.refl _) (.cons (.refl _) (.nil _)))))) rfl⟩
  ·replace H := ba c11 H;refine cH ?_;exact Exists.intro y8 ⟨H, aZ [0] (.cons (.refl _) (.cons (.refl _) (.nil _))) rfl⟩
 rintro y25 H;replace H : iM a1 a2 y25 = some r3 := H
 unfold iM at H
 refine ah ?_;obtain ⟨g27, H⟩ := aY H;refine ac ?_;show AR _ _ _ _ _ [0, 1, 2, 3, 4] _;refine zS rfl (ak (av := .vw _ _ _ _) rfl) <| zR rfl (nc (k := 0) ab aO ag rfl g27 rfl) <| zm rfl <| zS rfl (ig rfl rfl) <| za rfl <| ai <| aQ ?_;obtain rfl := ay H;exact And.intro rfl (Exists.intro _ (Exists.intro _ ⟨aV rfl (.refl _), aL [] rfl, rfl, rfl⟩))
set_option maxRecDepth 100000 in
set_option maxHeartbeats 1000000 in
theorem tW (F : Nat) (a1 : Int) (a2 : List (List UInt8)) (a3 : Int) (a4 : Int) (a5 : Int) (r6 : Int) (H : mX F a1 a2 a3 a4 a5 = some r6) : ACalls Tryz.prog 23 [.agg [i64 a1, slE Enc.str a2 none, i64 a3, i64 a4, i64 a5]] [] (Ret (i64 r6) []) := by
 unfold mX at H
 refine az Tryz.func23 rfl rfl ?_;show AW _ _ 58 _ _ _;refine ah <| ac ?_;show AR _ _ _ _ _ [0, 1] _;refine zR rfl (cP rfl (.inr ⟨_, rfl⟩)) <| za rfl <| ai <| bK (X := Unit) (fun _ => ⟨[], [], []⟩) (fun _ => kA = some r6) ?_ ?_
 ·refine ah <| ac ?_;show AR _ _ _ _ _ [0, 1, 2, 3] _;refine zS rfl (aM (n := 1) (by kernel_rfl) rfl (aa rfl)) <| zS rfl (aF ar rfl rfl) <| zS rfl (bc ar rfl) <| zm rfl <| ai <| be <| cN (X := Nat × Int) (fun (n9, y7) => ⟨[(11, slE Enc.str a2 none), (12, i64 (a2.length : Int)), (13, i64 y7)], [], []⟩) (fun (n9, y7) => fS F a2 n9 y7 = some r6) (fun (n9, y7) => n9) (F, 0) H (aZ [] (.cons (.refl _) (.cons (.refl _) (.cons (.refl _) (.nil _)))) rfl) ?_;rintro ⟨n9, y7⟩ H;obtain ⟨n9, rfl, H⟩ := dK H;replace H : fb F a2 (fS F a2 n9) y7 = some r6 := H
  unfold fb at H
  refine ah <| ac ?_;show AR _ _ _ _ _ [0] _;refine zS rfl (bN rfl rfl) <| ai <| ah <| aE rfl (fun c10 => ?_) (fun c10 => ?_)
  ·replace H := bg c10 H;refine aJ <| bK (X := Unit) (fun _ => ⟨[(11, slE Enc.str a2 none), (12, i64 (a2.length : Int)), (13, i64 y7)], [], []⟩) (fun _ => iv y7 (fS F a2 n9) = some r6) ?_ ?_
   ·refine be <| ah ?_;obtain ⟨g11, H⟩ := aY H;obtain ⟨x12, e13, H⟩ := bP H;refine ac ?_;show AR _ _ _ _ _ [0, 1, 2, 3, 4] _;refine zm rfl <| zS rfl (bL (E := Enc.str) ar (by kernel_rfl) rfl rfl g11 e13) <| zS rfl (aF ag rfl rfl) <| za rfl <| za rfl <| ai <| ah ?_;obtain ⟨g14, H⟩ := aY H;obtain ⟨x15, e16, H⟩ := bP H;refine ac ?_;show AR _ _ _ _ _ [0, 1, 2, 3, 4, 5, 6, 7, 8] _;refine zm rfl <| aq rfl rfl (aU rfl qr rfl (show ACalls _ _ _ [] (Ret (.tup [S x15.1, S x15.2.1, B x15.2.2]) []) from by subst e16; exact rd x12 ([32] : List UInt8) (eI g14)) ?_);refine zS rfl (ak (av := .tup _) rfl) <| zS rfl (aK (av := .v _) rfl rfl) <| zS rfl (aK (av := .v _) rfl rfl) <| zS rfl (aK (av := .v _) rfl rfl) <| za rfl <| za rfl <| za rfl <| ai <| ah <| ah ?_;obtain ⟨x19, e20, H⟩ := gy H;obtain ⟨g24, H⟩ := cq H;obtain ⟨g25, H⟩ := cq H;obtain ⟨g26, H⟩ := cq H;obtain ⟨x27, e28, H⟩ := bP H;refine ac ?_;show AR _ _ _ _ _ [0, 1, 2, 3, 4, 5, 6, 7, 8, 9, 10, 11, 12, 13, 14, 15, 16, 17, 18, 19, 20, 21, 22, 23, 24] _;refine zm rfl <| zS rfl (bt rfl rfl) <| zm rfl <| aG (l := [6, 7, 8, 9, 10, 11, 12, 13, 14, 15, 16, 17, 18, 19, 20, 21, 22, 23, 24]) 29 (B ((decide (y7 = 0)) || (!x15.2.2))) (fun K => ?_) ?_
    ·rcases af (decide (y7 = 0)) with h17 | h17
     ·refine zF h17 rfl <| zF h17 rfl <| zS rfl (ap (av := .v _) rfl h17 rfl) ?_;exact K _ 2 _ (am (dz h17)) rfl rfl
     ·refine zM h17 rfl <| zU h17 rfl (cW rfl) <| zS rfl (ao (av := .v _) rfl h17 rfl) ?_;exact K _ 2 _ (am (dA h17)) rfl rfl
    refine zm rfl <| aG (l := [11, 12, 13, 14, 15, 16, 17, 18, 19, 20, 21, 22, 23, 24]) 34 (B (((decide (y7 = 0)) || (!x15.2.2)) || (!x19))) (fun K => ?_) ?_
    ·rcases af ((decide (y7 = 0)) || (!x15.2.2)) with h18 | h18
     ·refine zF h18 rfl <| zF h18 rfl <| zF h18 rfl <| zS rfl (ap (av := .v _) rfl h18 rfl) ?_;exact K _ 3 _ (am (dz h18)) rfl rfl
     ·refine zM h18 rfl <| zT h18 rfl (aU rfl uF rfl (sG F x15.1 ([115, 105, 122, 101] : List UInt8) x19 (e20 (nf h18))) ?_);refine zU h18 rfl (cW rfl) <| zS rfl (ao (av := .v _) rfl h18 rfl) ?_;exact K _ 3 _ (am (dA h18)) rfl rfl
    refine zm rfl <| aG (l := [15, 16, 17, 18, 19, 20, 21, 22, 23, 24]) 38 (B ((((decide (y7 = 0)) || (!x15.2.2)) || (!x19)) || (decide (x15.2.1 = ([] : List UInt8))))) (fun K => ?_) ?_
    ·rcases af (((decide (y7 = 0)) || (!x15.2.2)) || (!x19)) with h21 | h21
     ·refine zF h21 rfl <| zF h21 rfl <| zS rfl (ap (av := .v _) rfl h21 rfl) ?_;exact K _ 2 _ (am (dz h21)) rfl rfl
     ·refine zM h21 rfl <| zU h21 rfl (ig rfl rfl) <| zS rfl (ao (av := .v _) rfl h21 rfl) ?_;exact K _ 2 _ (am (dA h21)) rfl rfl
    refine zm rfl <| aG (l := [20, 21, 22, 23, 24]) 43 (B (((((decide (y7 = 0)) || (!x15.2.2)) || (!x19)) || (decide (x15.2.1 = ([] : List UInt8)))) || (decide (9 < (x15.2.1.length : Int))))) (fun K => ?_) ?_
    ·rcases af ((((decide (y7 = 0)) || (!x15.2.2)) || (!x19)) || (decide (x15.2.1 = ([] : List UInt8)))) with h22 | h22
     ·refine zF h22 rfl <| zF h22 rfl <| zF h22 rfl <| zS rfl (ap (av := .v _) rfl h22 rfl) ?_;exact K _ 3 _ (am (dz h22)) rfl rfl
     ·refine zM h22 rfl <| zU h22 rfl (bb ag rfl) <| zU h22 rfl (fH rfl rfl) <| zS rfl (ao (av := .v _) rfl h22 rfl) ?_;exact K _ 3 _ (am (dA h22)) rfl rfl
    refine zm rfl <| aG (l := []) 48 (B ((((((decide (y7 = 0)) || (!x15.2.2)) || (!x19)) || (decide (x15.2.1 = ([] : List UInt8)))) || (decide (9 < (x15.2.1.length : Int)))) || (!decide (x27 = ([] : List UInt8))))) (fun K => ?_) ?_
    ·rcases af (((((decide (y7 = 0)) || (!x15.2.2)) || (!x19)) || (decide (x15.2.1 = ([] : List UInt8)))) || (decide (9 < (x15.2.1.length : Int)))) with h23 | h23
     ·refine zF h23 rfl <| zF h23 rfl <| zF h23 rfl <| zS rfl (ap (av := .v _) rfl h23 rfl) ?_;exact K _ 3 _ (am (dz h23)) rfl rfl
     ·refine zM h23 rfl <| zT h23 rfl (aU rfl uE rfl (show ACalls _ _ _ [] (Ret (S x27) []) from by subst e28; exact lib_Trim x15.2.1 ([48, 49, 50, 51, 52, 53, 54, 55, 56, 57] : List UInt8) (eI (g24 (nf h23))) (eI (g25 (nf h23))) (g26 (nf h23))) ?_);refine zU h23 rfl (qY rfl rfl) <| zS rfl (ao (av := .v _) rfl h23 rfl) ?_;exact K _ 3 _ (am (dA h23)) rfl rfl
    refine ai <| aE rfl (fun c29 => ?_) (fun c29 => ?_)
    ·replace H := bg c29 H;refine cH ?_;exact Exists.intro () ⟨H, aZ [] (.cons (.refl _) (.cons (.refl _) (.cons (.refl _) (.nil _)))) rfl⟩
    ·replace H := ba c29 H;refine aJ <| ah ?_;obtain ⟨x30, x31, e32, H⟩ := eu H;refine ac ?_;show AR _ _ _ _ _ [0, 1, 2, 3, 4, 5, 6] _;refine zm rfl <| aq rfl rfl (aU rfl uD rfl (kO F x15.2.1 x30 x31 e32) ?_);refine zS rfl (ak (av := .tup _) rfl) <| zS rfl (aK (av := .v _) rfl rfl) <| zS rfl (aK (av := eAny _ _) rfl rfl) <| za rfl <| zS rfl (aB (av := eAny _ _) rfl) <| ai <| ah <| ac ?_;show AR _ _ _ _ _ [0, 1] _;refine zS rfl (ak (av := eAny _ _) rfl) <| zS rfl (oQ dy rfl rfl) <| ai <| aE rfl (fun c33 => ?_) (fun c33 => ?_)
     ·replace H := bg c33 H;refine ah <| ac ?_;show AR _ _ _ _ _ [0, 1] _;refine zm rfl <| za rfl <| ai <| aQ ?_;obtain rfl := ay H;exact And.intro rfl (Exists.intro _ (Exists.intro _ ⟨aV rfl (.refl _), aL [] rfl, rfl, rfl⟩))
     ·replace H := ba c33 H;refine aJ ?_;exact Exists.intro () ⟨H, aZ [] (.cons (.refl _) (.cons (.refl _) (.cons (.refl _) (.nil _)))) rfl⟩
   rintro _ H;replace H : iv y7 (fS F a2 n9) = some r6 := H
   unfold iv at H
   obtain ⟨g35, H⟩ := aY H;refine ac ?_;show AR _ _ _ _ _ [0, 1] _;refine zS rfl (dE rfl rfl g35) <| zm rfl <| ai ?_;exact Exists.intro (n9, y7 + 1) ⟨H, Nat.lt_succ_self _, aZ [] (.cons (.refl _) (.cons (.refl _) (.cons (.refl _) (.nil _)))) rfl⟩
  ·replace H := ba c10 H;refine cH ?_;exact Exists.intro () ⟨H, aZ [] (.nil _) rfl⟩
 rintro _ H;replace H : kA = some r6 := H
 unfold kA at H
 refine ah <| ac ?_;show AR _ _ _ _ _ [0] _;refine za rfl <| ai <| aQ ?_;obtain rfl := ay H;exact And.intro rfl (Exists.intro _ (Exists.intro _ ⟨aV rfl (.refl _), aL [] rfl, rfl, rfl⟩))
set_option maxRecDepth 100000 in
set_option maxHeartbeats 1000000 in
theorem jU (F : Nat) (o1 : Nat) (a2 : Int) (a3 : Int) (a4 : List UInt8) (a5 : List UInt8) (a6 : List UInt8) (a7 : List UInt8) (a8 : List UInt8) (t9 : Nat) (a10 : Int) (a11 : List (List UInt8)) (q12 : Option Nat) (r13 : Int) (r14 : List UInt8) (H : je F a2 a3 a4 a5 a6 a7 a8 a10 a11 = some (r13, r14)) : ACalls Tryz.prog 87 [.pt o1 0, i64 a10, slE Enc.str a11 q12] [.obj o1 [i64 a2, i64 a3, S a4, S a5, S a6, slE Enc.byte a7 none, slE Enc.byte a8 (some t9)], .tok t9 5] (fun e A' => e = .ret (.tup []) ∧ ∃ t15, A' = [.obj o1 [i64 r13, i64 a3, S a4, S a5, S a6, slE Enc.byte a7 none, slE Enc.byte r14 (some t15)], .tok t15 5]) := by
 unfold je at H
 refine az Tryz.func87 rfl rfl ?_;show AW _ _ 22 _ _ _;refine ah <| ac ?_;show AR _ _ _ _ _ [0, 1, 2, 3, 4, 5] _;refine zS rfl (ak (av := .pt _ _) rfl) <| zm rfl <| zS rfl (an rfl) <| zS rfl (aj (n := 0) (by kernel_rfl) rfl) <| zS rfl (aj (n := 0) (by kernel_rfl) rfl) <| s0 rfl rfl (au (i := 0) (c := .v _) (by kernel_rfl) rfl rfl rfl rfl (aa rfl)) <| ai ?_;obtain ⟨g16, H⟩ := aY H;obtain ⟨x17, e18, H⟩ := bP H;obtain ⟨g19, H⟩ := aY H;obtain ⟨x20, e21, H⟩ := bP H;obtain ⟨g23, H⟩ := aY H;obtain ⟨x24, e25, H⟩ := bP H;refine bA (by kernel_rfl) ?_;show AI _ _ _ _ _ 12 (Array.replicate 12 false) _;refine zk 0 rfl (ak (av := .pt _ _) rfl) ?_;show AI _ _ _ _ _ _ #[true, false, false, false, false, false, false, false, false, false, false, false] _;refine zk 1 rfl (ak (av := .pt _ _) rfl) ?_;show AI _ _ _ _ _ _ #[true, true, false, false, false, false, false, false, false, false, false, false] _;refine zk 2 rfl (an rfl) ?_;show AI _ _ _ _ _ _ #[true, true, true, false, false, false, false, false, false, false, false, false] _;refine zk 3 rfl (aj (n := 6) (by kernel_rfl) rfl) ?_;show AI _ _ _ _ _ _ #[true, true, true, true, false, false, false, false, false, false, false, false] _;refine zk 5 rfl (ak (av := slE _ _ _) rfl) ?_;show AI _ _ _ _ _ _ #[true, true, true, true, false, true, false, false, false, false, false, false] _;refine cA (i := 4) (j := 6) (by kernel_rfl) rfl rfl rfl rfl ?_ ?_
 ·refine aW rfl (al (i := 0) ab rfl rfl rfl rfl) ?_;show AI _ _ _ _ _ _ #[true, true, true, true, true, true, false, false, false, false, false, false] _;refine aN (i := 6) (by kernel_rfl) rfl rfl <| bD rfl oU rfl (show ACalls _ _ _ [] (Ret (S x17) []) from by subst e18; exact mx a11 ([] : List UInt8) q12 (mK g16).1 (mK g16).2) ?_;show AI _ _ _ _ _ _ #[true, true, true, true, true, true, true, false, false, false, false, false] _;refine zk 7 rfl (np rfl rfl g19 e21) ?_;show AI _ _ _ _ _ _ #[true, true, true, true, true, true, true, true, false, false, false, false] _;refine aN (i := 8) (by kernel_rfl) rfl rfl <| dd rfl (kq (bytes := 1) 1 ab ag rfl (by kernel_rfl) rfl rfl rfl rfl g23 e25) ?_;rintro _ _ ⟨t22, rfl, rfl⟩;show AI _ _ _ _ _ _ #[true, true, true, true, true, true, true, true, true, false, false, false] _;refine zk 9 rfl (an rfl) ?_;show AI _ _ _ _ _ _ #[true, true, true, true, true, true, true, true, true, true, false, false] _;refine zk 10 rfl (aj (n := 6) (by kernel_rfl) rfl) ?_;show AI _ _ _ _ _ _ #[true, true, true, true, true, true, true, true, true, true, true, false] _;refine aN (i := 11) (by kernel_rfl) rfl rfl <| cd (au (i := 0) (c := slE _ _ _) (by kernel_rfl) rfl rfl rfl rfl (aa rfl)) ?_;show AI _ _ _ _ _ _ #[true, true, true, true, true, true, true, true, true, true, true, true] _;refine bo rfl ?_;obtain ⟨rfl, rfl⟩ := gw H
  exact And.intro rfl (Exists.intro _ (Exists.intro _ ⟨bp rfl, aL [0, 0] rfl, rfl, t22, rfl⟩))
 ·refine bD rfl oU rfl (show ACalls _ _ _ [] (Ret (S x17) []) from by subst e18; exact mx a11 ([] : List UInt8) q12 (mK g16).1 (mK g16).2) ?_;show AI _ _ _ _ _ _ #[true, true, true, true, false, true, true, false, false, false, false, false] _;refine zk 7 rfl (np rfl rfl g19 e21) ?_;show AI _ _ _ _ _ _ #[true, true, true, true, false, true, true, true, false, false, false, false] _;refine aN (i := 4) (by kernel_rfl) rfl rfl <| aW rfl (al (i := 0) ab rfl rfl rfl rfl) ?_;show AI _ _ _ _ _ _ #[true, true, true, true, true, true, true, true, false, false, false, false] _;refine aN (i := 8) (by kernel_rfl) rfl rfl <| dd rfl (kq (bytes := 1) 1 ab ag rfl (by kernel_rfl) rfl rfl rfl rfl g23 e25) ?_;rintro _ _ ⟨t26, rfl, rfl⟩;show AI _ _ _ _ _ _ #[true, true, true, true, true, true, true, true, true, false, false, false] _;refine zk 9 rfl (an rfl) ?_;show AI _ _ _ _ _ _ #[true, true, true, true, true, true, true, true, true, true, false, false] _;refine zk 10 rfl (aj (n := 6) (by kernel_rfl) rfl) ?_;show AI _ _ _ _ _ _ #[true, true, true, true, true, true, true, true, true, true, true, false] _;refine aN (i := 11) (by kernel_rfl) rfl rfl <| cd (au (i := 0) (c := slE _ _ _) (by kernel_rfl) rfl rfl rfl rfl (aa rfl)) ?_;show AI _ _ _ _ _ _ #[true, true, true, true, true, true, true, true, true, true, true, true] _;refine bo rfl ?_;obtain ⟨rfl, rfl⟩ := gw H
  exact And.intro rfl (Exists.intro _ (Exists.intro _ ⟨bp rfl, aL [0, 0] rfl, rfl, t26, rfl⟩))
set_option maxRecDepth 100000 in
set_option maxHeartbeats 1000000 in
theorem li (F : Nat) (o1 : Nat) (a2 : Int) (a3 : Int) (a4 : List UInt8) (a5 : List UInt8) (a6 : List UInt8) (a7 : List UInt8) (a8 : List UInt8) (t9 : Nat) (a10 : Int) (r11 : Int) (r12 : Int) (r13 : List UInt8) (H : jN F a2 a3 a4 a5 a6 a7 a8 a10 = some (r11, r12, r13)) : ACalls Tryz.prog 58 [.pt o1 0, i64 a10] [.obj o1 [i64 a2, i64 a3, S a4, S a5, S a6, slE Enc.byte a7 none, slE Enc.byte a8 (some t9)], .tok t9 5] (fun e A' => e = .ret (.tup []) ∧ ∃ t14, A' = [.obj o1 [i64 r11, i64 r12, S a4, S a5, S a6, slE Enc.byte a7 none, slE Enc.byte r13 (some t14)], .tok t14 5]) := by
 unfold jN at H
 refine az Tryz.func58 rfl rfl ?_;show AW _ _ 12 _ _ _;refine ah <| ac ?_;show AR _ _ _ _ _ [0, 1, 2, 3, 4, 5] _;refine zS rfl (ak (av := .pt _ _) rfl) <| zm rfl <| zS rfl (an rfl) <| zS rfl (aj (n := 0) (by kernel_rfl) rfl) <| zS rfl (aj (n := 1) (by kernel_rfl) rfl) <| s0 rfl rfl (au (i := 0) (c := .v _) (by kernel_rfl) rfl rfl rfl rfl (aa rfl)) <| ai ?_;obtain ⟨x15, x16, e17, H⟩ := eu H;refine ac ?_;show AR _ _ _ _ _ [0, 1, 2] _;refine zS rfl (ak (av := .pt _ _) rfl) <| zR rfl (cF (E := Enc.str) (bytes := 16) (xs := [.const _]) (l := ([([81, 85, 73, 84] : List UInt8)] : List (List UInt8))) ar (by kernel_rfl) rfl rfl (by decide) rfl rfl) <| aq rfl rfl (cI [0, 0] rfl ka rfl (jU F o1 a2 a10 a4 a5 a6 a7 a8 t9 6 ([([81, 85, 73, 84] : List UInt8)] : List (List UInt8)) none x15 x16 e17) rfl (fun c A' h => by cases h.1) ?_)
 rintro av A' ⟨h, t18, rfl⟩; cases h
 refine ai ?_;obtain ⟨rfl, rfl, rfl⟩ := ia H;exact And.intro rfl (Exists.intro _ (Exists.intro _ ⟨bp rfl, aL [0, 0] rfl, rfl, t18, rfl⟩))
set_option maxRecDepth 100000 in
set_option maxHeartbeats 1000000 in
theorem pM (F : Nat) (o1 : Nat) (a2 : Int) (a3 : Int) (a4 : List UInt8) (a5 : List UInt8) (a6 : List UInt8) (a7 : List UInt8) (a8 : List UInt8) (t9 : Nat) (r10 : Int) (r11 : Int) (H : lD F a2 a3 a4 a5 a6 a7 a8 = some (r10, r11)) : ACalls Tryz.prog 38 [.pt o1 0] [.obj o1 [i64 a2, i64 a3, S a4, S a5, S a6, slE Enc.byte a7 none, slE Enc.byte a8 (some t9)], .tok t9 5] (fun e A' => e = .ret (.tup []) ∧ A' = [.obj o1 [i64 r10, i64 r11, S a4, S a5, S a6, slE Enc.byte a7 none, slE Enc.byte a8 (some t9)], .tok t9 5]) := by
 unfold lD at H
 refine az Tryz.func38 rfl rfl ?_;show AW _ _ 16 _ _ _;refine ah <| ac ?_;show AR _ _ _ _ _ [0, 1, 2, 3, 4] _;refine zS rfl (ak (av := .pt _ _) rfl) <| zS rfl (an rfl) <| zS rfl (aj (n := 0) (by kernel_rfl) rfl) <| zS rfl (aj (n := 0) (by kernel_rfl) rfl) <| s0 rfl rfl (au (i := 0) (c := .v _) (by kernel_rfl) rfl rfl rfl rfl (aa rfl)) <| ai <| ah <| ac ?_;show AR _ _ _ _ _ [0, 1, 2, 3, 4, 5] _;refine zS rfl (ak (av := .pt _ _) rfl) <| zS rfl (an rfl) <| zS rfl (aj (n := 0) (by kernel_rfl) rfl) <| zS rfl (aj (n := 1) (by kernel_rfl) rfl) <| zR rfl (al (i := 0) aw rfl rfl rfl rfl) <| zS rfl (bt rfl rfl) <| ai <| aE rfl (fun c12 => ?_) (fun c12 => ?_)
 ·replace H := bg c12 H;refine ac ?_;show AR _ _ _ _ _ [0, 1, 2, 3, 4] _;refine zS rfl (ak (av := .pt _ _) rfl) <| zS rfl (an rfl) <| zS rfl (aj (n := 0) (by kernel_rfl) rfl) <| zS rfl (aj (n := 1) (by kernel_rfl) rfl) <| s0 rfl rfl (au (i := 0) (c := .v _) (by kernel_rfl) rfl rfl rfl rfl (aa rfl)) <| ai ?_;obtain ⟨rfl, rfl⟩ := gw H;exact And.intro rfl (Exists.intro _ (Exists.intro _ ⟨bp rfl, aL [0, 0] rfl, rfl, rfl⟩))
 ·replace H := ba c12 H;refine aJ ?_;obtain ⟨rfl, rfl⟩ := gw H;exact And.intro rfl (Exists.intro _ (Exists.intro _ ⟨bp rfl, aL [0, 0] rfl, rfl, rfl⟩))
set_option maxRecDepth 100000 in
set_option maxHeartbeats 1000000 in
theorem oI (F : Nat) (o1 : Nat) (a2 : Int) (a3 : Int) (a4 : List UInt8) (a5 : List UInt8) (a6 : List UInt8) (a7 : List UInt8) (a8 : List UInt8) (t9 : Nat) (a10 : Int) (a11 : List (List UInt8)) (a12 : Int) (a13 : Int) (a14 : Int) (r15 : Bool) (r16 : Int) (r17 : List UInt8) (H : lh F a2 a3 a4 a5 a6 a7 a8 a10 a11 a12 a13 a14 = some (r15, r16, r17)) : ACalls Tryz.prog 80 [.pt o1 0, .agg [i64 a10, slE Enc.str a11 none, i64 a12, i64 a13, i64 a14]] [.obj o1 [i64 a2, i64 a3, S a4, S a5, S a6, slE Enc.byte a7 none, slE Enc.byte a8 (some t9)], .tok t9 5] (fun e A' => e = .ret (B r15) ∧ ∃ t18, A' = [.obj o1 [i64 r16, i64 a3, S a4, S a5, S a6, slE Enc.byte a7 none, slE Enc.byte r17 (some t18)], .tok t18 5]) := by
 unfold lh at H
 refine az Tryz.func80 rfl rfl ?_;show AW _ _ 16 _ _ _;refine ah <| ac ?_;show AR _ _ _ _ _ [0, 1] _;refine zR rfl (cP rfl (.inr ⟨_, rfl⟩)) <| za rfl <| ai <| ah <| ah <| ac ?_;show AR _ _ _ _ _ [0, 1, 2] _;refine zS rfl (aM (n := 0) (by kernel_rfl) rfl (aa rfl)) <| zS rfl (aF aw rfl rfl) <| zS rfl (fm rfl rfl) <| ai <| aE rfl (fun c19 => ?_) (fun c19 => ?_)
 ·replace H := bg c19 H;refine ah <| ac ?_;show AR _ _ _ _ _ [0] _;refine za rfl <| ai <| aQ ?_;obtain ⟨rfl, rfl, rfl⟩ := ia H;exact And.intro rfl (Exists.intro _ (Exists.intro _ ⟨aV rfl (.refl _), aL [0, 0] rfl, rfl, t9, rfl⟩))
 ·replace H := ba c19 H;refine aJ <| ah ?_;obtain ⟨x20, x21, e22, H⟩ := eu H;refine ac ?_;show AR _ _ _ _ _ [0, 1, 2, 3, 4, 5, 6, 7] _;refine zS rfl (ak (av := .pt _ _) rfl) <| zS rfl (ak (av := .pt _ _) rfl) <| zS rfl (an rfl) <| zS rfl (aj (n := 0) (by kernel_rfl) rfl) <| zS rfl (aj (n := 4) (by kernel_rfl) rfl) <| zR rfl (al (i := 0) ag rfl rfl rfl rfl) <| zR rfl (cF (E := Enc.str) (bytes := 16) (xs := [.const _, .tmp 13]) (l := ([([69, 72, 76, 79, 32] : List UInt8), a6] : List (List UInt8))) ar (by kernel_rfl) rfl rfl (by decide) rfl rfl) <| aq rfl rfl (cI [0, 0] rfl ka rfl (jU F o1 a2 a3 a4 a5 a6 a7 a8 t9 1 ([([69, 72, 76, 79, 32] : List UInt8), a6] : List (List UInt8)) none x20 x21 e22) rfl (fun c A' h => by cases h.1) ?_)
  rintro av A' ⟨h, t23, rfl⟩; cases h
  refine ai <| ah <| ac ?_;show AR _ _ _ _ _ [0] _;refine za rfl <| ai <| aQ ?_;obtain ⟨rfl, rfl, rfl⟩ := ia H;exact And.intro rfl (Exists.intro _ (Exists.intro _ ⟨aV rfl (.refl _), aL [0, 0] rfl, rfl, t23, rfl⟩))
set_option maxRecDepth 100000 in
set_option maxHeartbeats 1000000 in
theorem oH (F : Nat) (o1 : Nat) (a2 : Int) (a3 : Int) (a4 : List UInt8) (a5 : List UInt8) (a6 : List UInt8) (a7 : List UInt8) (a8 : List UInt8) (t9 : Nat) (a10 : Int) (a11 : List (List UInt8)) (a12 : Int) (a13 : Int) (a14 : Int) (r15 : Bool) (r16 : Int) (r17 : Int) (r18 : List UInt8) (H : lg F a2 a3 a4 a5 a6 a7 a8 a10 a11 a12 a13 a14 = some (r15, r16, r17, r18)) : ACalls Tryz.prog 81 [.pt o1 0, .agg [i64 a10, slE Enc.str a11 none, i64 a12, i64 a13, i64 a14]] [.obj o1 [i64 a2, i64 a3, S a4, S a5, S a6, slE Enc.byte a7 none, slE Enc.byte a8 (some t9)], .tok t9 5] (fun e A' => e = .ret (B r15) ∧ ∃ t19, A' = [.obj o1 [i64 r16, i64 r17, S a4, S a5, S a6, slE Enc.byte a7 none, slE Enc.byte r18 (some t19)], .tok t19 5]) := by
 unfold lg at H
 refine az Tryz.func81 rfl rfl ?_;show AW _ _ 41 _ _ _;refine ah <| ac ?_;show AR _ _ _ _ _ [0, 1] _;refine zR rfl (cP rfl (.inr ⟨_, rfl⟩)) <| za rfl <| ai <| ah <| ah <| ac ?_;show AR _ _ _ _ _ [0, 1, 2, 3] _;refine zS rfl (aM (n := 0) (by kernel_rfl) rfl (aa rfl)) <| zS rfl (aF aw rfl rfl) <| zS rfl (kf rfl rfl (by decide)) <| zS rfl (fm rfl rfl) <| ai <| aE rfl (fun c20 => ?_) (fun c20 => ?_)
 ·replace H := bg c20 H;refine ah <| ac ?_;show AR _ _ _ _ _ [0] _;refine za rfl <| ai <| aQ ?_;obtain ⟨rfl, rfl, rfl, rfl⟩ := res4 H;exact And.intro rfl (Exists.intro _ (Exists.intro _ ⟨aV rfl (.refl _), aL [0, 0] rfl, rfl, t9, rfl⟩))
 ·replace H := ba c20 H;refine aJ <| ah ?_;obtain ⟨x21, x22, e23, H⟩ := eu H;refine ac ?_;show AR _ _ _ _ _ [0, 1, 2, 3, 4, 5, 6, 7, 8, 9, 10] _;refine zS rfl (ak (av := .pt _ _) rfl) <| zS rfl (an rfl) <| zS rfl (aj (n := 0) (by kernel_rfl) rfl) <| zS rfl (aj (n := 5) (by kernel_rfl) rfl) <| zR rfl (al (i := 0) ab rfl rfl rfl rfl) <| aq rfl rfl (aU rfl qy rfl (nB F a7 none x21 x22 e23) ?_);refine zS rfl (ak (av := .tup _) rfl) <| zS rfl (aK (av := slE _ _ _) rfl rfl) <| zS rfl (aK (av := .v _) rfl rfl) <| zS rfl (aB (av := slE _ _ _) rfl) <| za rfl <| ai <| ah <| ah ?_;obtain ⟨x24, e25, H⟩ := cu H;refine ac ?_;show AR _ _ _ _ _ [0, 1, 2] _;refine zS rfl (bh bm rfl (n := 5) (by kernel_rfl) rfl (aa rfl)) <| aq rfl rfl (aU rfl uT rfl (tW F a10 a11 a12 a13 a14 x24 e25) ?_);refine za rfl <| ai <| ah <| ac ?_;show AR _ _ _ _ _ [0, 1, 2, 3, 4, 5, 6, 7] _;refine zm rfl <| zS rfl (fH rfl rfl) <| zm rfl <| aG (l := []) 30 (B ((decide (0 < x24)) && (decide (x24 < (x21.length : Int))))) (fun K => ?_) ?_
  ·rcases af (decide (0 < x24)) with h26 | h26
   ·refine zM h26 rfl <| zU h26 rfl (ak (av := slE _ _ _) rfl) <| zU h26 rfl (bc ab rfl) <| zU h26 rfl (bN rfl rfl) <| zS rfl (ap (av := .v _) rfl h26 rfl) ?_;exact K _ 4 _ (am (bI h26)) rfl rfl
   ·refine zF h26 rfl <| zF h26 rfl <| zF h26 rfl <| zF h26 rfl <| zS rfl (ao (av := .v _) rfl h26 rfl) ?_;exact K _ 4 _ (am (bJ h26)) rfl rfl
  refine ai <| aE rfl (fun c27 => ?_) (fun c27 => ?_)
  ·replace H := bg c27 H;refine ah ?_;obtain ⟨x28, x29, x30, e31, H⟩ := gQ H;refine ac ?_;show AR _ _ _ _ _ [0, 1] _;refine zS rfl (ak (av := .pt _ _) rfl) <| aq rfl rfl (cI [0, 0] rfl lu rfl (li F o1 a2 a3 a4 a5 a6 a7 a8 t9 3 x28 x29 x30 e31) rfl (fun c A' h => by cases h.1) ?_)
   rintro av A' ⟨h, t32, rfl⟩; cases h
   refine ai <| ah <| ac ?_;show AR _ _ _ _ _ [0] _;refine za rfl <| ai <| aQ ?_;obtain ⟨rfl, rfl, rfl, rfl⟩ := res4 H;exact And.intro rfl (Exists.intro _ (Exists.intro _ ⟨aV rfl (.refl _), aL [0, 0] rfl, rfl, t32, rfl⟩))
  ·replace H := ba c27 H;refine aJ <| ah ?_;obtain ⟨x33, x34, e35, H⟩ := eu H;refine ac ?_;show AR _ _ _ _ _ [0, 1, 2, 3, 4, 5, 6, 7] _;refine zS rfl (ak (av := .pt _ _) rfl) <| zS rfl (ak (av := .pt _ _) rfl) <| zS rfl (an rfl) <| zS rfl (aj (n := 0) (by kernel_rfl) rfl) <| zS rfl (aj (n := 2) (by kernel_rfl) rfl) <| zR rfl (al (i := 0) ag rfl rfl rfl rfl) <| zR rfl (cF (E := Enc.str) (bytes := 16) (xs := [.const _, .tmp 38, .const _]) (l := ([([77, 65, 73, 76, 32, 70, 82, 79, 77, 58, 60] : List UInt8), a4, ([62] : List UInt8)] : List (List UInt8))) ar (by kernel_rfl) rfl rfl (by decide) rfl rfl) <| aq rfl rfl (cI [0, 0] rfl ka rfl (jU F o1 a2 a3 a4 a5 a6 a7 a8 t9 2 ([([77, 65, 73, 76, 32, 70, 82, 79, 77, 58, 60] : List UInt8), a4, ([62] : List UInt8)] : List (List UInt8)) none x33 x34 e35) rfl (fun c A' h => by cases h.1) ?_)
   rintro av A' ⟨h, t36, rfl⟩; cases h
   refine ai <| ah <| ac ?_;show AR _ _ _ _ _ [0] _;refine za rfl <| ai <| aQ ?_;obtain ⟨rfl, rfl, rfl, rfl⟩ := res4 H;exact And.intro rfl (Exists.intro _ (Exists.intro _ ⟨aV rfl (.refl _), aL [0, 0] rfl, rfl, t36, rfl⟩))
set_option maxRecDepth 100000 in
set_option maxHeartbeats 1000000 in
theorem pL (F : Nat) (o1 : Nat) (a2 : Int) (a3 : Int) (a4 : List UInt8) (a5 : List UInt8) (a6 : List UInt8) (a7 : List UInt8) (a8 : List UInt8) (t9 : Nat) (a10 : Int) (a11 : List (List UInt8)) (a12 : Int) (a13 : Int) (a14 : Int) (r15 : Bool) (r16 : Int) (r17 : List UInt8) (H : mU F a2 a3 a4 a5 a6 a7 a8 a10 a11 a12 a13 a14 = some (r15, r16, r17)) : ACalls Tryz.prog 82 [.pt o1 0, .agg [i64 a10, slE Enc.str a11 none, i64 a12, i64 a13, i64 a14]] [.obj o1 [i64 a2, i64 a3, S a4, S a5, S a6, slE Enc.byte a7 none, slE Enc.byte a8 (some t9)], .tok t9 5] (fun e A' => e = .ret (B r15) ∧ ∃ t18, A' = [.obj o1 [i64 r16, i64 a3, S a4, S a5, S a6, slE Enc.byte a7 none, slE Enc.byte r17 (some t18)], .tok t18 5]) := by
 unfold mU at H
 refine az Tryz.func82 rfl rfl ?_;show AW _ _ 17 _ _ _;refine ah <| ac ?_;show AR _ _ _ _ _ [0, 1] _;refine zR rfl (cP rfl (.inr ⟨_, rfl⟩)) <| za rfl <| ai <| ah <| ah <| ac ?_;show AR _ _ _ _ _ [0, 1, 2, 3] _;refine zS rfl (aM (n := 0) (by kernel_rfl) rfl (aa rfl)) <| zS rfl (aF aw rfl rfl) <| zS rfl (kf rfl rfl (by decide)) <| zS rfl (fm rfl rfl) <| ai <| aE rfl (fun c19 => ?_) (fun c19 => ?_)
 ·replace H := bg c19 H;refine ah <| ac ?_;show AR _ _ _ _ _ [0] _;refine za rfl <| ai <| aQ ?_;obtain ⟨rfl, rfl, rfl⟩ := ia H;exact And.intro rfl (Exists.intro _ (Exists.intro _ ⟨aV rfl (.refl _), aL [0, 0] rfl, rfl, t9, rfl⟩))
 ·replace H := ba c19 H;refine aJ <| ah ?_;obtain ⟨x20, x21, e22, H⟩ := eu H;refine ac ?_;show AR _ _ _ _ _ [0, 1, 2, 3, 4, 5, 6, 7] _;refine zS rfl (ak (av := .pt _ _) rfl) <| zS rfl (ak (av := .pt _ _) rfl) <| zS rfl (an rfl) <| zS rfl (aj (n := 0) (by kernel_rfl) rfl) <| zS rfl (aj (n := 3) (by kernel_rfl) rfl) <| zR rfl (al (i := 0) ag rfl rfl rfl rfl) <| zR rfl (cF (E := Enc.str) (bytes := 16) (xs := [.const _, .tmp 14, .const _]) (l := ([([82, 67, 80, 84, 32, 84, 79, 58, 60] : List UInt8), a5, ([62] : List UInt8)] : List (List UInt8))) ar (by kernel_rfl) rfl rfl (by decide) rfl rfl) <| aq rfl rfl (cI [0, 0] rfl ka rfl (jU F o1 a2 a3 a4 a5 a6 a7 a8 t9 3 ([([82, 67, 80, 84, 32, 84, 79, 58, 60] : List UInt8), a5, ([62] : List UInt8)] : List (List UInt8)) none x20 x21 e22) rfl (fun c A' h => by cases h.1) ?_)
  rintro av A' ⟨h, t23, rfl⟩; cases h
  refine ai <| ah <| ac ?_;show AR _ _ _ _ _ [0] _;refine za rfl <| ai <| aQ ?_;obtain ⟨rfl, rfl, rfl⟩ := ia H;exact And.intro rfl (Exists.intro _ (Exists.intro _ ⟨aV rfl (.refl _), aL [0, 0] rfl, rfl, t23, rfl⟩))
set_option maxRecDepth 100000 in
set_option maxHeartbeats 1000000 in
theorem pJ (F : Nat) (o1 : Nat) (a2 : Int) (a3 : Int) (a4 : List UInt8) (a5 : List UInt8) (a6 : List UInt8) (a7 : List UInt8) (a8 : List UInt8) (t9 : Nat) (a10 : Int) (a11 : List (List UInt8)) (a12 : Int) (a13 : Int) (a14 : Int) (r15 : Bool) (r16 : Int) (r17 : List UInt8) (H : mT F a2 a3 a4 a5 a6 a7 a8 a10 a11 a12 a13 a14 = some (r15, r16, r17)) : ACalls Tryz.prog 83 [.pt o1 0, .agg [i64 a10, slE Enc.str a11 none, i64 a12, i64 a13, i64 a14]] [.obj o1 [i64 a2, i64 a3, S a4, S a5, S a6, slE Enc.byte a7 none, slE Enc.byte a8 (some t9)], .tok t9 5] (fun e A' => e = .ret (B r15) ∧ ∃ t18, A' = [.obj o1 [i64 r16, i64 a3, S a4, S a5, S a6, slE Enc.byte a7 none, slE Enc.byte r17 (some t18)], .tok t18 5]) := by
 unfold mT at H
 refine az Tryz.func83 rfl rfl ?_;show AW _ _ 12 _ _ _;refine ah <| ac ?_;show AR _ _ _ _ _ [0, 1] _;refine zR rfl (cP rfl (.inr ⟨_, rfl⟩)) <| za rfl <| ai <| ah <| ah <| ac ?_;show AR _ _ _ _ _ [0, 1, 2, 3] _;refine zS rfl (aM (n := 0) (by kernel_rfl) rfl (aa rfl)) <| zS rfl (aF aw rfl rfl) <| zS rfl (kf rfl rfl (by decide)) <| zS rfl (fm rfl rfl) <| ai <| aE rfl (fun c19 => ?_) (fun c19 => ?_)
 ·replace H := bg c19 H;refine ah <| ac ?_;show AR _ _ _ _ _ [0] _;refine za rfl <| ai <| aQ ?_;obtain ⟨rfl, rfl, rfl⟩ := ia H;exact And.intro rfl (Exists.intro _ (Exists.intro _ ⟨aV rfl (.refl _), aL [0, 0] rfl, rfl, t9, rfl⟩))
 ·replace H := ba c19 H;refine aJ <| ah ?_;obtain ⟨x20, x21, e22, H⟩ := eu H;refine ac ?_;show AR _ _ _ _ _ [0, 1, 2] _;refine zS rfl (ak (av := .pt _ _) rfl) <| zR rfl (cF (E := Enc.str) (bytes := 16) (xs := [.const _]) (l := ([([68, 65, 84, 65] : List UInt8)] : List (List UInt8))) ar (by kernel_rfl) rfl rfl (by decide) rfl rfl) <| aq rfl rfl (cI [0, 0] rfl ka rfl (jU F o1 a2 a3 a4 a5 a6 a7 a8 t9 4 ([([68, 65, 84, 65] : List UInt8)] : List (List UInt8)) none x20 x21 e22) rfl (fun c A' h => by cases h.1) ?_)
  rintro av A' ⟨h, t23, rfl⟩; cases h
  refine ai <| ah <| ac ?_;show AR _ _ _ _ _ [0] _;refine za rfl <| ai <| aQ ?_;obtain ⟨rfl, rfl, rfl⟩ := ia H;exact And.intro rfl (Exists.intro _ (Exists.intro _ ⟨aV rfl (.refl _), aL [0, 0] rfl, rfl, t23, rfl⟩))
set_option maxRecDepth 100000 in
set_option maxHeartbeats 1000000 in
theorem pN (F : Nat) (o1 : Nat) (a2 : Int) (a3 : Int) (a4 : List UInt8) (a5 : List UInt8) (a6 : List UInt8) (a7 : List UInt8) (a8 : List UInt8) (t9 : Nat) (a10 : Int) (a11 : List (List UInt8)) (a12 : Int) (a13 : Int) (a14 : Int) (r15 : Bool) (r16 : Int) (r17 : List UInt8) (H : mV F a2 a3 a4 a5 a6 a7 a8 a10 a11 a12 a13 a14 = some (r15, r16, r17)) : ACalls Tryz.prog 84 [.pt o1 0, .agg [i64 a10, slE Enc.str a11 none, i64 a12, i64 a13, i64 a14]] [.obj o1 [i64 a2, i64 a3, S a4, S a5, S a6, slE Enc.byte a7 none, slE Enc.byte a8 (some t9)], .tok t9 5] (fun e A' => e = .ret (B r15) ∧ ∃ t18, A' = [.obj o1 [i64 r16, i64 a3, S a4, S a5, S a6, slE Enc.byte a7 none, slE Enc.byte r17 (some t18)], .tok t18 5]) := by
 unfold mV at H
 refine az Tryz.func84 rfl rfl ?_;show AW _ _ 32 _ _ _;refine ah <| ac ?_;show AR _ _ _ _ _ [0, 1] _;refine zR rfl (cP rfl (.inr ⟨_, rfl⟩)) <| za rfl <| ai <| ah <| ah <| ac ?_;show AR _ _ _ _ _ [0, 1, 2] _;refine zS rfl (aM (n := 0) (by kernel_rfl) rfl (aa rfl)) <| zS rfl (aF aw rfl rfl) <| zS rfl (fm rfl rfl) <| ai <| aE rfl (fun c19 => ?_) (fun c19 => ?_)
 ·replace H := bg c19 H;refine ah <| ac ?_;show AR _ _ _ _ _ [0] _;refine za rfl <| ai <| aQ ?_;obtain ⟨rfl, rfl, rfl⟩ := ia H;exact And.intro rfl (Exists.intro _ (Exists.intro _ ⟨aV rfl (.refl _), aL [0, 0] rfl, rfl, t9, rfl⟩))
 ·replace H := ba c19 H;refine aJ <| ah ?_;obtain ⟨x20, x21, e22, H⟩ := eu H;refine ac ?_;show AR _ _ _ _ _ [0, 1, 2, 3, 4, 5, 6, 7, 8, 9, 10] _;refine zS rfl (ak (av := .pt _ _) rfl) <| zS rfl (an rfl) <| zS rfl (aj (n := 0) (by kernel_rfl) rfl) <| zS rfl (aj (n := 5) (by kernel_rfl) rfl) <| zR rfl (al (i := 0) ab rfl rfl rfl rfl) <| aq rfl rfl (aU rfl qy rfl (nB F a7 none x20 x21 e22) ?_);refine zS rfl (ak (av := .tup _) rfl) <| zS rfl (aK (av := slE _ _ _) rfl rfl) <| zS rfl (aK (av := .v _) rfl rfl) <| zS rfl (aB (av := slE _ _ _) rfl) <| za rfl <| ai <| ah ?_;obtain ⟨g24, H⟩ := aY H;obtain ⟨x25, e26, H⟩ := bP H;refine ac ?_;show AR _ _ _ _ _ [0, 1, 2, 3, 4, 5, 6, 7, 8, 9, 10, 11, 12, 13, 14] _;refine zS rfl (ak (av := .pt _ _) rfl) <| zS rfl (ak (av := .pt _ _) rfl) <| zS rfl (ak (av := .pt _ _) rfl) <| zS rfl (an rfl) <| zS rfl (aj (n := 6) (by kernel_rfl) rfl) <| zR rfl (al (i := 0) ab rfl rfl rfl rfl) <| zS rfl (ak (av := slE _ _ _) rfl) <| zX rfl (df (E := Enc.byte) (bytes := 1) 1 ab ab rfl (by kernel_rfl) rfl rfl rfl rfl g24 e26) ?_;rintro _ _ ⟨t23, rfl, rfl⟩
  refine zS rfl (an rfl) <| zS rfl (aj (n := 0) (by kernel_rfl) rfl) <| zS rfl (aj (n := 0) (by kernel_rfl) rfl) <| s0 rfl rfl (au (i := 0) (c := .v _) (by kernel_rfl) rfl rfl rfl rfl (aa rfl)) <| zS rfl (an rfl) <| zS rfl (aj (n := 6) (by kernel_rfl) rfl) <| s0 rfl rfl (au (i := 0) (c := slE _ _ _) (by kernel_rfl) rfl rfl rfl rfl (aa rfl)) <| ai <| ah <| ac ?_;show AR _ _ _ _ _ [0] _;refine za rfl <| ai <| aQ ?_;obtain ⟨rfl, rfl, rfl⟩ := ia H;exact And.intro rfl (Exists.intro _ (Exists.intro _ ⟨aV rfl (.refl _), aL [0, 0] rfl, rfl, t23, rfl⟩))
set_option maxRecDepth 100000 in
set_option maxHeartbeats 1000000 in
theorem pO (F : Nat) (o1 : Nat) (a2 : Int) (a3 : Int) (a4 : List UInt8) (a5 : List UInt8) (a6 : List UInt8) (a7 : List UInt8) (a8 : List UInt8) (t9 : Nat) (a10 : Int) (a11 : List (List UInt8)) (a12 : Int) (a13 : Int) (a14 : Int) (r15 : Bool) (r16 : Int) (r17 : Int) (r18 : List UInt8) (H : mW F a2 a3 a4 a5 a6 a7 a8 a10 a11 a12 a13 a14 = some (r15, r16, r17, r18)) : ACalls Tryz.prog 85 [.pt o1 0, .agg [i64 a10, slE Enc.str a11 none, i64 a12, i64 a13, i64 a14]] [.obj o1 [i64 a2, i64 a3, S a4, S a5, S a6, slE Enc.byte a7 none, slE Enc.byte a8 (some t9)], .tok t9 5] (fun e A' => e = .ret (B r15) ∧ ∃ t19, A' = [.obj o1 [i64 r16, i64 r17, S a4, S a5, S a6, slE Enc.byte a7 none, slE Enc.byte r18 (some t19)], .tok t19 5]) := by
 unfold mW at H
 refine az Tryz.func85 rfl rfl ?_;show AW _ _ 11 _ _ _;refine ah <| ac ?_;show AR _ _ _ _ _ [0, 1] _;refine zR rfl (cP rfl (.inr ⟨_, rfl⟩)) <| za rfl <| ai <| ah <| ah <| ac ?_;show AR _ _ _ _ _ [0, 1, 2, 3] _;refine zS rfl (aM (n := 0) (by kernel_rfl) rfl (aa rfl)) <| zS rfl (aF aw rfl rfl) <| zS rfl (kf rfl rfl (by decide)) <| zS rfl (fm rfl rfl) <| ai <| aE rfl (fun c20 => ?_) (fun c20 => ?_)
 ·replace H := bg c20 H;refine ah <| ac ?_;show AR _ _ _ _ _ [0] _;refine za rfl <| ai <| aQ ?_;obtain ⟨rfl, rfl, rfl, rfl⟩ := res4 H;exact And.intro rfl (Exists.intro _ (Exists.intro _ ⟨aV rfl (.refl _), aL [0, 0] rfl, rfl, t9, rfl⟩))
 ·replace H := ba c20 H;refine aJ <| ah ?_;obtain ⟨x21, x22, x23, e24, H⟩ := gQ H;refine ac ?_;show AR _ _ _ _ _ [0, 1] _;refine zS rfl (ak (av := .pt _ _) rfl) <| aq rfl rfl (cI [0, 0] rfl lu rfl (li F o1 a2 a3 a4 a5 a6 a7 a8 t9 1 x21 x22 x23 e24) rfl (fun c A' h => by cases h.1) ?_)
  rintro av A' ⟨h, t25, rfl⟩; cases h
  refine ai <| ah <| ac ?_;show AR _ _ _ _ _ [0] _;refine za rfl <| ai <| aQ ?_;obtain ⟨rfl, rfl, rfl, rfl⟩ := res4 H;exact And.intro rfl (Exists.intro _ (Exists.intro _ ⟨aV rfl (.refl _), aL [0, 0] rfl, rfl, t25, rfl⟩))
set_option maxRecDepth 100000 in
set_option maxHeartbeats 1000000 in
theorem pK (F : Nat) (o1 : Nat) (a2 : Int) (a3 : Int) (a4 : List UInt8) (a5 : List UInt8) (a6 : List UInt8) (a7 : List UInt8) (a8 : List UInt8) (t9 : Nat) (a10 : Int) (a11 : List (List UInt8)) (a12 : Int) (a13 : Int) (a14 : Int) (r15 : Bool) (r16 : Int) (H : ow F a2 a3 a4 a5 a6 a7 a8 a10 a11 a12 a13 a14 = some (r15, r16)) : ACalls Tryz.prog 86 [.pt o1 0, .agg [i64 a10, slE Enc.str a11 none, i64 a12, i64 a13, i64 a14]] [.obj o1 [i64 a2, i64 a3, S a4, S a5, S a6, slE Enc.byte a7 none, slE Enc.byte a8 (some t9)], .tok t9 5] (fun e A' => e = .ret (B r15) ∧ A' = [.obj o1 [i64 r16, i64 a3, S a4, S a5, S a6, slE Enc.byte a7 none, slE Enc.byte a8 (some t9)], .tok t9 5]) := by
 unfold ow at H
 refine az Tryz.func86 rfl rfl ?_;show AW _ _ 9 _ _ _;refine ah <| ac ?_;show AR _ _ _ _ _ [0, 1] _;refine zR rfl (cP rfl (.inr ⟨_, rfl⟩)) <| za rfl <| ai <| ah <| ac ?_;show AR _ _ _ _ _ [0, 1, 2, 3, 4] _;refine zS rfl (ak (av := .pt _ _) rfl) <| zS rfl (an rfl) <| zS rfl (aj (n := 0) (by kernel_rfl) rfl) <| zS rfl (aj (n := 0) (by kernel_rfl) rfl) <| s0 rfl rfl (au (i := 0) (c := .v _) (by kernel_rfl) rfl rfl rfl rfl (aa rfl)) <| ai <| ah <| ac ?_;show AR _ _ _ _ _ [0] _;refine za rfl <| ai <| aQ ?_;obtain ⟨rfl, rfl⟩ := gw H;exact And.intro rfl (Exists.intro _ (Exists.intro _ ⟨aV rfl (.refl _), aL [0, 0] rfl, rfl, rfl⟩))
abbrev _root_.Go.Av.bB := @Tryz.underlying92
set_option maxRecDepth 100000 in
set_option maxHeartbeats 1000000 in
theorem cK (F : Nat) (H : fE F = some ()) : ACalls Tryz.prog 57 [] [] (Ret (.agg [.v (.func (.func 80) #[] #[]), .v (.func (.func 81) #[] #[]), .v (.func (.func 82) #[] #[]), .v (.func (.func 83) #[] #[]), .v (.func (.func 84) #[] #[]), .v (.func (.func 85) #[] #[]), .v (.func (.func 86) #[] #[])]) []) := by
 unfold fE at H
 refine az Tryz.func57 rfl rfl ?_;show AW _ _ 2 _ _ _;refine ah <| ac ?_;show AR _ _ _ _ _ [0] _;refine zX rfl (br (zs := [.nilFunc, .nilFunc, .nilFunc, .nilFunc, .nilFunc, .nilFunc, .nilFunc]) (by kernel_rfl)) ?_;rintro _ _ ⟨o1, rfl, rfl⟩;refine ai <| ah <| ac ?_;show AR _ _ _ _ _ [0, 1] _;refine zS rfl (gG (zs := [.nilFunc, .nilFunc, .nilFunc, .nilFunc, .nilFunc, .nilFunc, .nilFunc]) (k := 1) (cs := [.v (.func (.func 80) #[] #[]), .v (.func (.func 81) #[] #[]), .v (.func (.func 82) #[] #[]), .v (.func (.func 83) #[] #[]), .v (.func (.func 84) #[] #[]), .v (.func (.func 85) #[] #[]), .v (.func (.func 86) #[] #[])]) bB (by kernel_rfl) (by kernel_rfl) rfl rfl (by kernel_rfl)) <| s0 rfl rfl (aH (i := 0) (vs := [.v (.func (.func 80) #[] #[]), .v (.func (.func 81) #[] #[]), .v (.func (.func 82) #[] #[]), .v (.func (.func 83) #[] #[]), .v (.func (.func 84) #[] #[]), .v (.func (.func 85) #[] #[]), .v (.func (.func 86) #[] #[])]) (by kernel_rfl) rfl rfl (by simp [bk, slE]) rfl (aa rfl)) <| ai <| aQ ?_;exact And.intro rfl (Exists.intro _ (Exists.intro _ ⟨bW (dw rfl (bX (off := 0) (cs := [.v (.func (.func 80) #[] #[]), .v (.func (.func 81) #[] #[]), .v (.func (.func 82) #[] #[]), .v (.func (.func 83) #[] #[]), .v (.func (.func 84) #[] #[]), .v (.func (.func 85) #[] #[]), .v (.func (.func 86) #[] #[])]) (n := 7) 0 bB rfl (by kernel_rfl) rfl rfl (aa rfl))), aL [] rfl, rfl, rfl⟩))
abbrev _root_.Go.Av.bQ := @Tryz.underlying91
set_option maxRecDepth 100000 in
set_option maxHeartbeats 1000000 in
theorem tV (F : Nat) (o1 : Nat) (a2 : Int) (a3 : Int) (a4 : List UInt8) (a5 : List UInt8) (a6 : List UInt8) (a7 : List UInt8) (a8 : List UInt8) (t9 : Nat) (a10 : Int) (a11 : List (List UInt8)) (a12 : Int) (a13 : Int) (a14 : Int) (r15 : Int) (r16 : Int) (r17 : List UInt8) (H : mS F a2 a3 a4 a5 a6 a7 a8 a10 a11 a12 a13 a14 = some (r15, r16, r17)) : ACalls Tryz.prog 37 [.pt o1 0, .agg [i64 a10, slE Enc.str a11 none, i64 a12, i64 a13, i64 a14]] [.obj o1 [i64 a2, i64 a3, S a4, S a5, S a6, slE Enc.byte a7 none, slE Enc.byte a8 (some t9)], .tok t9 5] (fun e A' => e = .ret (.tup []) ∧ ∃ t18, A' = [.obj o1 [i64 r15, i64 r16, S a4, S a5, S a6, slE Enc.byte a7 none, slE Enc.byte r17 (some t18)], .tok t18 5]) := by
 unfold mS at H
 refine az Tryz.func37 rfl rfl ?_;show AW _ _ 49 _ _ _;refine ah <| ac ?_;show AR _ _ _ _ _ [0] _;refine zR rfl (cP rfl (.inr ⟨_, rfl⟩)) <| ai <| be <| ah <| ac ?_;show AR _ _ _ _ _ [0, 1, 2, 3, 4, 5, 6, 7, 8, 9, 10, 11, 12, 13, 14] _;refine zS rfl (ak (av := .pt _ _) rfl) <| zS rfl (an rfl) <| zS rfl (aj (n := 0) (by kernel_rfl) rfl) <| zS rfl (aj (n := 0) (by kernel_rfl) rfl) <| zR rfl (al (i := 0) aw rfl rfl rfl rfl) <| zS rfl (bN rfl rfl) <| zm rfl <| aG (l := [14]) 20 (B ((decide (a2 < 0)) || (decide (7 ≤ a2)))) (fun K => ?_) ?_
 ·rcases af (decide (a2 < 0)) with h19 | h19
  ·refine zF h19 rfl <| zF h19 rfl <| zF h19 rfl <| zF h19 rfl <| zF h19 rfl <| zF h19 rfl <| zS rfl (ap (av := .v _) rfl h19 rfl) ?_;exact K _ 6 _ (am (dz h19)) rfl rfl
  ·refine zU h19 rfl (ak (av := .pt _ _) rfl) <| zU h19 rfl (an rfl) <| zU h19 rfl (aj (n := 0) (by kernel_rfl) rfl) <| zU h19 rfl (aj (n := 0) (by kernel_rfl) rfl) <| zT h19 rfl (ca rfl rfl (al (i := 0) aw rfl rfl rfl rfl) ?_);refine zU h19 rfl (di rfl rfl) <| zS rfl (ao (av := .v _) rfl h19 rfl) ?_;exact K _ 6 _ (am (dA h19)) rfl rfl
 refine za rfl <| ai <| aE rfl (fun c20 => ?_) (fun c20 => ?_)
 ·replace H := bg c20 H;refine aJ ?_;obtain ⟨rfl, rfl, rfl⟩ := ia H;exact And.intro rfl (Exists.intro _ (Exists.intro _ ⟨bp rfl, aL [0, 0] rfl, rfl, t9, rfl⟩))
 ·replace H := ba c20 H;refine ah <| ac ?_;show AR _ _ _ _ _ [0, 1, 2, 3] _;refine zS rfl (aM (n := 0) (by kernel_rfl) rfl (aa rfl)) <| zS rfl (aF aw rfl rfl) <| zS rfl (bt rfl rfl) <| za rfl <| ai <| aE rfl (fun c21 => ?_) (fun c21 => ?_)
  ·replace H := bg c21 H;obtain ⟨x22, x23, e24, H⟩ := eu H;refine ac ?_;show AR _ _ _ _ _ [0, 1] _;refine zS rfl (ak (av := .pt _ _) rfl) <| aq rfl rfl (cI [0, 0] rfl qs rfl (pM F o1 a2 a3 a4 a5 a6 a7 a8 t9 x22 x23 e24) rfl (fun c A' h => by cases h.1) ?_)
   rintro av A' ⟨h, rfl⟩; cases h
   refine ai ?_;obtain ⟨rfl, rfl, rfl⟩ := ia H;exact And.intro rfl (Exists.intro _ (Exists.intro _ ⟨bp rfl, aL [0, 0] rfl, rfl, t9, rfl⟩))
  ·replace H := ba c21 H;refine bK (X := Bool × Int × Int × (List UInt8) × Nat) (fun (y74, y75, y76, y77, t78) => ⟨[(0, .pt o1 0), (3, .cp [i64 a10, slE Enc.str a11 none, i64 a12, i64 a13, i64 a14]), (27, B y74)], [], [.obj o1 [i64 y75, i64 y76, S a4, S a5, S a6, slE Enc.byte a7 none, slE Enc.byte y77 (some t78)], .tok t78 5]⟩) (fun (y74, y75, y76, y77, t78) => cZ F a4 a5 a6 a7 a10 y74 y75 y76 y77 = some (r15, r16, r17)) ?_ ?_
   ·obtain ⟨g25, H⟩ := aY H
    rcases idx7 g25 with rfl | rfl | rfl | rfl | rfl | rfl | rfl
    ·replace H := bg (by decide) H;obtain ⟨_, e26, H⟩ := cu H;obtain ⟨x27, x28, x29, e30, H⟩ := gQ H;refine bA (by kernel_rfl) ?_;show AI _ _ _ _ _ 11 (Array.replicate 11 false) _;refine zk 1 rfl (ak (av := .pt _ _) rfl) ?_;show AI _ _ _ _ _ _ #[false, true, false, false, false, false, false, false, false, false, false] _;refine zk 2 rfl (an rfl) ?_;show AI _ _ _ _ _ _ #[false, true, true, false, false, false, false, false, false, false, false] _;refine zk 3 rfl (aj (n := 0) (by kernel_rfl) rfl) ?_;show AI _ _ _ _ _ _ #[false, true, true, true, false, false, false, false, false, false, false] _;refine zk 4 rfl (aj (n := 0) (by kernel_rfl) rfl) ?_;show AI _ _ _ _ _ _ #[false, true, true, true, true, false, false, false, false, false, false] _;refine zk 7 rfl (ak (av := .pt _ _) rfl) ?_;show AI _ _ _ _ _ _ #[false, true, true, true, true, false, false, true, false, false, false] _;refine zk 8 rfl (bh bm rfl (n := 5) (by kernel_rfl) rfl (aa rfl)) ?_;show AI _ _ _ _ _ _ #[false, true, true, true, true, false, false, true, true, false, false] _;refine cA (i := 0) (j := 5) (by kernel_rfl) rfl rfl rfl rfl ?_ ?_
     ·refine bD rfl dD rfl (cK F e26) ?_;show AI _ _ _ _ _ _ #[true, true, true, true, true, false, false, true, true, false, false] _;refine aN (i := 5) (by kernel_rfl) rfl rfl <| aW rfl (al (i := 0) aw rfl rfl rfl rfl) ?_;show AI _ _ _ _ _ _ #[true, true, true, true, true, true, false, true, true, false, false] _;refine zk 6 rfl (co (i := 0) (k := 1) (c := .v _) bB bQ rfl (by kernel_rfl) rfl rfl rfl rfl) ?_;show AI _ _ _ _ _ _ #[true, true, true, true, true, true, true, true, true, false, false] _;refine aN (i := 9) (by kernel_rfl) rfl rfl <| cM [0, 0] rfl (.inr ⟨rfl, rfl, rfl⟩) qn rfl (oI F o1 0 a3 a4 a5 a6 a7 a8 t9 a10 a11 a12 a13 a14 x27 x28 x29 e30) rfl (fun c A' h => by cases h.1) ?_
      rintro av A' ⟨h, t31, rfl⟩; cases h
      show AI _ _ _ _ _ _ #[true, true, true, true, true, true, true, true, true, true, false] _;refine zk 10 rfl (asg rfl) ?_;show AI _ _ _ _ _ _ #[true, true, true, true, true, true, true, true, true, true, true] _;refine bo rfl ?_;exact Exists.intro (x27, x28, a3, x29, t31) ⟨H, aZ [0, 0] (.cons (.refl _) (.cons (.refl _) (.cons (.refl _) (.nil _)))) rfl⟩
     ·refine aW rfl (al (i := 0) aw rfl rfl rfl rfl) ?_;show AI _ _ _ _ _ _ #[false, true, true, true, true, true, false, true, true, false, false] _;refine aN (i := 0) (by kernel_rfl) rfl rfl <| bD rfl dD rfl (cK F e26) ?_;show AI _ _ _ _ _ _ #[true, true, true, true, true, true, false, true, true, false, false] _;refine zk 6 rfl (co (i := 0) (k := 1) (c := .v _) bB bQ rfl (by kernel_rfl) rfl rfl rfl rfl) ?_;show AI _ _ _ _ _ _ #[true, true, true, true, true, true, true, true, true, false, false] _;refine aN (i := 9) (by kernel_rfl) rfl rfl <| cM [0, 0] rfl (.inr ⟨rfl, rfl, rfl⟩) qn rfl (oI F o1 0 a3 a4 a5 a6 a7 a8 t9 a10 a11 a12 a13 a14 x27 x28 x29 e30) rfl (fun c A' h => by cases h.1) ?_
      rintro av A' ⟨h, t32, rfl⟩; cases h
      show AI _ _ _ _ _ _ #[true, true, true, true, true, true, true, true, true, true, false] _;refine zk 10 rfl (asg rfl) ?_;show AI _ _ _ _ _ _ #[true, true, true, true, true, true, true, true, true, true, true] _;refine bo rfl ?_;exact Exists.intro (x27, x28, a3, x29, t32) ⟨H, aZ [0, 0] (.cons (.refl _) (.cons (.refl _) (.cons (.refl _) (.nil _)))) rfl⟩
    ·replace H := ba (by decide) H;replace H := bg (by decide) H;obtain ⟨_, e33, H⟩ := cu H;obtain ⟨x34, x35, x36, x37, e38, H⟩ := bnd4_s H;refine bA (by kernel_rfl) ?_;show AI _ _ _ _ _ 11 (Array.replicate 11 false) _;refine zk 1 rfl (ak (av := .pt _ _) rfl) ?_;show AI _ _ _ _ _ _ #[false, true, false, false, false, false, false, false, false, false, false] _;refine zk 2 rfl (an rfl) ?_;show AI _ _ _ _ _ _ #[false, true, true, false, false, false, false, false, false, false, false] _;refine zk 3 rfl (aj (n := 0) (by kernel_rfl) rfl) ?_;show AI _ _ _ _ _ _ #[false, true, true, true, false, false, false, false, false, false, false] _;refine zk 4 rfl (aj (n := 0) (by kernel_rfl) rfl) ?_;show AI _ _ _ _ _ _ #[false, true, true, true, true, false, false, false, false, false, false] _;refine zk 7 rfl (ak (av := .pt _ _) rfl) ?_;show AI _ _ _ _ _ _ #[false, true, true, true, true, false, false, true, false, false, false] _;refine zk 8 rfl (bh bm rfl (n := 5) (by kernel_rfl) rfl (aa rfl)) ?_;show AI _ _ _ _ _ _ #[false, true, true, true, true, false, false, true, true, false, false] _;refine cA (i := 0) (j := 5) (by kernel_rfl) rfl rfl rfl rfl ?_ ?_
     ·refine bD rfl dD rfl (cK F e33) ?_;show AI _ _ _ _ _ _ #[true, true, true, true, true, false, false, true, true, false, false] _;refine aN (i := 5) (by kernel_rfl) rfl rfl <| aW rfl (al (i := 0) aw rfl rfl rfl rfl) ?_;show AI _ _ _ _ _ _ #[true, true, true, true, true, true, false, true, true, false, false] _;refine zk 6 rfl (co (i := 1) (k := 1) (c := .v _) bB bQ rfl (by kernel_rfl) rfl rfl rfl rfl) ?_;show AI _ _ _ _ _ _ #[true, true, true, true, true, true, true, true, true, false, false] _;refine aN (i := 9) (by kernel_rfl) rfl rfl <| cM [0, 0] rfl (.inr ⟨rfl, rfl, rfl⟩) qm rfl (oH F o1 1 a3 a4 a5 a6 a7 a8 t9 a10 a11 a12 a13 a14 x34 x35 x36 x37 e38) rfl (fun c A' h => by cases h.1) ?_
      rintro av A' ⟨h, t39, rfl⟩; cases h
      show AI _ _ _ _ _ _ #[true, true, true, true, true, true, true, true, true, true, false] _;refine zk 10 rfl (asg rfl) ?_;show AI _ _ _ _ _ _ #[true, true, true, true, true, true, true, true, true, true, true] _;refine bo rfl ?_;exact Exists.intro (x34, x35, x36, x37, t39) ⟨H, aZ [0, 0] (.cons (.refl _) (.cons (.refl _) (.cons (.refl _) (.nil _)))) rfl⟩
     ·refine aW rfl (al (i := 0) aw rfl rfl rfl rfl) ?_;show AI _ _ _ _ _ _ #[false, true, true, true, true, true, false, true, true, false, false] _;refine aN (i := 0) (by kernel_rfl) rfl rfl <| bD rfl dD rfl (cK F e33) ?_;show AI _ _ _ _ _ _ #[true, true, true, true, true, true, false, true, true, false, false] _;refine zk 6 rfl (co (i := 1) (k := 1) (c := .v _) bB bQ rfl (by kernel_rfl) rfl rfl rfl rfl) ?_;show AI _ _ _ _ _ _ #[true, true, true, true, true, true, true, true, true, false, false] _;refine aN (i := 9) (by kernel_rfl) rfl rfl <| cM [0, 0] rfl (.inr ⟨rfl, rfl, rfl⟩) qm rfl (oH F o1 1 a3 a4 a5 a6 a7 a8 t9 a10 a11 a12 a13 a14 x34 x35 x36 x37 e38) rfl (fun c A' h => by cases h.1) ?_
      rintro av A' ⟨h, t40, rfl⟩; cases h
      show AI _ _ _ _ _ _ #[true, true, true, true, true, true, true, true, true, true, false] _;refine zk 10 rfl (asg rfl) ?_;show AI _ _ _ _ _ _ #[true, true, true, true, true, true, true, true, true, true, true] _;refine bo rfl ?_;exact Exists.intro (x34, x35, x36, x37, t40) ⟨H, aZ [0, 0] (.cons (.refl _) (.cons (.refl _) (.cons (.refl _) (.nil _)))) rfl⟩
    ·replace H := ba (by decide) H;replace H := ba (by decide) H;replace H := bg (by decide) H;obtain ⟨_, e41, H⟩ := cu H;obtain ⟨x42, x43, x44, e45, H⟩ := gQ H;refine bA (by kernel_rfl) ?_;show AI _ _ _ _ _ 11 (Array.replicate 11 false) _;refine zk 1 rfl (ak (av := .pt _ _) rfl) ?_;show AI _ _ _ _ _ _ #[false, true, false, false, false, false, false, false, false, false, false] _;refine zk 2 rfl (an rfl) ?_;show AI _ _ _ _ _ _ #[false, true, true, false, false, false, false, false, false, false, false] _;refine zk 3 rfl (aj (n := 0) (by kernel_rfl) rfl) ?_;show AI _ _ _ _ _ _ #[false, true, true, true, false, false, false, false, false, false, false] _;refine zk 4 rfl (aj (n := 0) (by kernel_rfl) rfl) ?_;show AI _ _ _ _ _ _ #[false, true, true, true, true, false, false, false, false, false, false] _;refine zk 7 rfl (ak (av := .pt _ _) rfl) ?_;show AI _ _ _ _ _ _ #[false, true, true, true, true, false, false, true, false, false, false] _;refine zk 8 rfl (bh bm rfl (n := 5) (by kernel_rfl) rfl (aa rfl)) ?_;show AI _ _ _ _ _ _ #[false, true, true, true, true, false, false, true, true, false, false] _;refine cA (i := 0) (j := 5) (by kernel_rfl) rfl rfl rfl rfl ?_ ?_
     ·refine bD rfl dD rfl (cK F e41) ?_;show AI _ _ _ _ _ _ #[true, true, true, true, true, false, false, true, true, false, false] _;refine aN (i := 5) (by kernel_rfl) rfl rfl <| aW rfl (al (i := 0) aw rfl rfl rfl rfl) ?_;show AI _ _ _ _ _ _ #[true, true, true, true, true, true, false, true, true, false, false] _;refine zk 6 rfl (co (i := 2) (k := 1) (c := .v _) bB bQ rfl (by kernel_rfl) rfl rfl rfl rfl) ?_;show AI _ _ _ _ _ _ #[true, true, true, true, true, true, true, true, true, false, false] _;refine aN (i := 9) (by kernel_rfl) rfl rfl <| cM [0, 0] rfl (.inr ⟨rfl, rfl, rfl⟩) ql rfl (pL F o1 2 a3 a4 a5 a6 a7 a8 t9 a10 a11 a12 a13 a14 x42 x43 x44 e45) rfl (fun c A' h => by cases h.1) ?_
      rintro av A' ⟨h, t46, rfl⟩; cases h
      show AI _ _ _ _ _ _ #[true, true, true, true, true, true, true, true, true, true, false] _;refine zk 10 rfl (asg rfl) ?_;show AI _ _ _ _ _ _ #[true, true, true, true, true, true, true, true, true, true, true] _;refine bo rfl ?_;exact Exists.intro (x42, x43, a3, x44, t46) ⟨H, aZ [0, 0] (.cons (.refl _) (.cons (.refl _) (.cons (.refl _) (.nil _)))) rfl⟩
     ·refine aW rfl (al (i := 0) aw rfl rfl rfl rfl) ?_;show AI _ _ _ _ _ _ #[false, true, true, true, true, true, false, true, true, false, false] _;refine aN (i := 0) (by kernel_rfl) rfl rfl <| bD rfl dD rfl (cK F e41) ?_;show AI _ _ _ _ _ _ #[true, true, true, true, true, true, false, true, true, false, false] _;refine zk 6 rfl (co (i := 2) (k := 1) (c := .v _) bB bQ rfl (by kernel_rfl) rfl rfl rfl rfl) ?_;show AI _ _ _ _ _ _ #[true, true, true, true, true, true, true, true, true, false, false] _;refine aN (i := 9) (by kernel_rfl) rfl rfl <| cM [0, 0] rfl (.inr ⟨rfl, rfl, rfl⟩) ql rfl (pL F o1 2 a3 a4 a5 a6 a7 a8 t9 a10 a11 a12 a13 a14 x42 x43 x44 e45) rfl (fun c A' h => by cases h.1) ?_
      rintro av A' ⟨h, t47, rfl⟩; cases h
      show AI _ _ _ _ _ _ #[true, true, true, true, true, true, true, true, true, true, false] _;refine zk 10 rfl (asg rfl) ?_;show AI _ _ _ _ _ _ #[true, true, true, true, true, true, true, true, true, true, true] _;refine bo rfl ?_;exact Exists.intro (x42, x43, a3, x44, t47) ⟨H, aZ [0, 0] (.cons (.refl _) (.cons (.refl _) (.cons (.refl _) (.nil _)))) rfl⟩
    ·replace H := ba (by decide) H;replace H := ba (by decide) H;replace H := ba (by decide) H;replace H := bg (by decide) H;obtain ⟨_, e48, H⟩ := cu H;obtain ⟨x49, x50, x51, e52, H⟩ := gQ H;refine bA (by kernel_rfl) ?_;show AI _ _ _ _ _ 11 (Array.replicate 11 false) _;refine zk 1 rfl (ak (av := .pt _ _) rfl) ?_;show AI _ _ _ _ _ _ #[false, true, false, false, false, false, false, false, false, false, false] _;refine zk 2 rfl (an rfl) ?_;show AI _ _ _ _ _ _ #[false, true, true, false, false, false, false, false, false, false, false] _;refine zk 3 rfl (aj (n := 0) (by kernel_rfl) rfl) ?_;show AI _ _ _ _ _ _ #[false, true, true, true, false, false, false, false, false, false, false] _;refine zk 4 rfl (aj (n := 0) (by kernel_rfl) rfl) ?_;show AI _ _ _ _ _ _ #[false, true, true, true, true, false, false, false, false, false, false] _;refine zk 7 rfl (ak (av := .pt _ _) rfl) ?_;show AI _ _ _ _ _ _ #[false, true, true, true, true, false, false, true, false, false, false] _;refine zk 8 rfl (bh bm rfl (n := 5) (by kernel_rfl) rfl (aa rfl)) ?_;show AI _ _ _ _ _ _ #[false, true, true, true, true, false, false, true, true, false, false] _;refine cA (i := 0) (j := 5) (by kernel_rfl) rfl rfl rfl rfl ?_ ?_
     ·refine bD rfl dD rfl (cK F e48) ?_;show AI _ _ _ _ _ _ #[true, true, true, true, true, false, false, true, true, false, false] _;refine aN (i := 5) (by kernel_rfl) rfl rfl <| aW rfl (al (i := 0) aw rfl rfl rfl rfl) ?_;show AI _ _ _ _ _ _ #[true, true, true, true, true, true, false, true, true, false, false] _;refine zk 6 rfl (co (i := 3) (k := 1) (c := .v _) bB bQ rfl (by kernel_rfl) rfl rfl rfl rfl) ?_;show AI _ _ _ _ _ _ #[true, true, true, true, true, true, true, true, true, false, false] _;refine aN (i := 9) (by kernel_rfl) rfl rfl <| cM [0, 0] rfl (.inr ⟨rfl, rfl, rfl⟩) qk rfl (pJ F o1 3 a3 a4 a5 a6 a7 a8 t9 a10 a11 a12 a13 a14 x49 x50 x51 e52) rfl (fun c A' h => by cases h.1) ?_
      rintro av A' ⟨h, t53, rfl⟩; cases h
      show AI _ _ _ _ _ _ #[true, true, true, true, true, true, true, true, true, true, false] _;refine zk 10 rfl (asg rfl) ?_;show AI _ _ _ _ _ _ #[true, true, true, true, true, true, true, true, true, true, true] _;refine bo rfl ?_;exact Exists.intro (x49, x50, a3, x51, t53) ⟨H, aZ [0, 0] (.cons (.refl _) (.cons (.refl _) (.cons (.refl _) (.nil _)))) rfl⟩
     ·refine aW rfl (al (i := 0) aw rfl rfl rfl rfl) ?_;show AI _ _ _ _ _ _ #[false, true, true, true, true, true, false, true, true, false, false] _;refine aN (i := 0) (by kernel_rfl) rfl rfl <| bD rfl dD rfl (cK F e48) ?_;show AI _ _ _ _ _ _ #[true, true, true, true, true, true, false, true, true, false, false] _;refine zk 6 rfl (co (i := 3) (k := 1) (c := .v _) bB bQ rfl (by kernel_rfl) rfl rfl rfl rfl) ?_;show AI _ _ _ _ _ _ #[true, true, true, true, true, true, true, true, true, false, false] _;refine aN (i := 9) (by kernel_rfl) rfl rfl <| cM [0, 0] rfl (.inr ⟨rfl, rfl, rfl⟩) qk rfl (pJ F o1 3 a3 a4 a5 a6 a7 a8 t9 a10 a11 a12 a13 a14 x49 x50 x51 e52) rfl (fun c A' h => by cases h.1) ?_
      rintro av A' ⟨h, t54, rfl⟩; cases h
      show AI _ _ _ _ _ _ #[true, true, true, true, true, true, true, true, true, true, false] _;refine zk 10 rfl (asg rfl) ?_;show AI _ _ _ _ _ _ #[true, true, true, true, true, true, true, true, true, true, true] _;refine bo rfl ?_;exact Exists.intro (x49, x50, a3, x51, t54) ⟨H, aZ [0, 0] (.cons (.refl _) (.cons (.refl _) (.cons (.refl _) (.nil _)))) rfl⟩
    ·replace H := ba (by decide) H;replace H := ba (by decide) H;replace H := ba (by decide) H;replace H := ba (by decide) H;replace H := bg (by decide) H;obtain ⟨_, e55, H⟩ := cu H;obtain ⟨x56, x57, x58, e59, H⟩ := gQ H;refine bA (by kernel_rfl) ?_;show AI _ _ _ _ _ 11 (Array.replicate 11 false) _;refine zk 1 rfl (ak (av := .pt _ _) rfl) ?_;show AI _ _ _ _ _ _ #[false, true, false, false, false, false, false, false, false, false, false] _;refine zk 2 rfl (an rfl) ?_;show AI _ _ _ _ _ _ #[false, true, true, false, false, false, false, false, false, false, false] _;refine zk 3 rfl (aj (n := 0) (by kernel_rfl) rfl) ?_;show AI _ _ _ _ _ _ #[false, true, true, true, false, false, false, false, false, false, false] _;refine zk 4 rfl (aj (n := 0) (by kernel_rfl) rfl) ?_;show AI _ _ _ _ _ _ #[false, true, true, true, true, false, false, false, false, false, false] _;refine zk 7 rfl (ak (av := .pt _ _) rfl) ?_;show AI _ _ _ _ _ _ #[false, true, true, true, true, false, false, true, false, false, false] _;refine zk 8 rfl (bh bm rfl (n := 5) (by kernel_rfl) rfl (aa rfl)) ?_;show AI _ _ _ _ _ _ #[false, true, true, true, true, false, false, true, true, false, false] _;refine cA (i := 0) (j := 5) (by kernel_rfl) rfl rfl rfl rfl ?_ ?_
     ·refine bD rfl dD rfl (cK F e55) ?_;show AI _ _ _ _ _ _ #[true, true, true, true, true, false, false, true, true, false, false] _;refine aN (i := 5) (by kernel_rfl) rfl rfl <| aW rfl (al (i := 0) aw rfl rfl rfl rfl) ?_;show AI _ _ _ _ _ _ #[true, true, true, true, true, true, false, true, true, false, false] _;refine zk 6 rfl (co (i := 4) (k := 1) (c := .v _) bB bQ rfl (by kernel_rfl) rfl rfl rfl rfl) ?_;show AI _ _ _ _ _ _ #[true, true, true, true, true, true, true, true, true, false, false] _;refine aN (i := 9) (by kernel_rfl) rfl rfl <| cM [0, 0] rfl (.inr ⟨rfl, rfl, rfl⟩) qj rfl (pN F o1 4 a3 a4 a5 a6 a7 a8 t9 a10 a11 a12 a13 a14 x56 x57 x58 e59) rfl (fun c A' h => by cases h.1) ?_
      rintro av A' ⟨h, t60, rfl⟩; cases h
      show AI _ _ _ _ _ _ #[true, true, true, true, true, true, true, true, true, true, false] _;refine zk 10 rfl (asg rfl) ?_;show AI _ _ _ _ _ _ #[true, true, true, true, true, true, true, true, true, true, true] _;refine bo rfl ?_;exact Exists.intro (x56, x57, a3, x58, t60) ⟨H, aZ [0, 0] (.cons (.refl _) (.cons (.refl _) (.cons (.refl _) (.nil _)))) rfl⟩
     ·refine aW rfl (al (i := 0) aw rfl rfl rfl rfl) ?_;show AI _ _ _ _ _ _ #[false, true, true, true, true, true, false, true, true, false, false] _;refine aN (i := 0) (by kernel_rfl) rfl rfl <| bD rfl dD rfl (cK F e55) ?_;show AI _ _ _ _ _ _ #[true, true, true, true, true, true, false, true, true, false, false] _;refine zk 6 rfl (co (i := 4) (k := 1) (c := .v _) bB bQ rfl (by kernel_rfl) rfl rfl rfl rfl) ?_;show AI _ _ _ _ _ _ #[true, true, true, true, true, true, true, true, true, false, false] _;refine aN (i := 9) (by kernel_rfl) rfl rfl <| cM [0, 0] rfl (.inr ⟨rfl, rfl, rfl⟩) qj rfl (pN F o1 4 a3 a4 a5 a6 a7 a8 t9 a10 a11 a12 a13 a14 x56 x57 x58 e59) rfl (fun c A' h => by cases h.1) ?_
      rintro av A' ⟨h, t61, rfl⟩; cases h
      show AI _ _ _ _ _ _ #[true, true, true, true, true, true, true, true, true, true, false] _;refine zk 10 rfl (asg rfl) ?_;show AI _ _ _ _ _ _ #[true, true, true, true, true, true, true, true, true, true, true] _;refine bo rfl ?_;exact Exists.intro (x56, x57, a3, x58, t61) ⟨H, aZ [0, 0] (.cons (.refl _) (.cons (.refl _) (.cons (.refl _) (.nil _)))) rfl⟩
    ·replace H := ba (by decide) H;replace H := ba (by decide) H;replace H := ba (by decide) H;replace H := ba (by decide) H;replace H := ba (by decide) H;replace H := bg (by decide) H;obtain ⟨_, e62, H⟩ := cu H;obtain ⟨x63, x64, x65, x66, e67, H⟩ := bnd4_s H;refine bA (by kernel_rfl) ?_;show AI _ _ _ _ _ 11 (Array.replicate 11 false) _;refine zk 1 rfl (ak (av := .pt _ _) rfl) ?_;show AI _ _ _ _ _ _ #[false, true, false, false, false, false, false, false, false, false, false] _;refine zk 2 rfl (an rfl) ?_;show AI _ _ _ _ _ _ #[false, true, true, false, false, false, false, false, false, false, false] _;refine zk 3 rfl (aj (n := 0) (by kernel_rfl) rfl) ?_;show AI _ _ _ _ _ _ #[false, true, true, true, false, false, false, false, false, false, false] _;refine zk 4 rfl (aj (n := 0) (by kernel_rfl) rfl) ?_;show AI _ _ _ _ _ _ #[false, true, true, true, true, false, false, false, false, false, false] _;refine zk 7 rfl (ak (av := .pt _ _) rfl) ?_;show AI _ _ _ _ _ _ #[false, true, true, true, true, false, false, true, false, false, false] _;refine zk 8 rfl (bh bm rfl (n := 5) (by kernel_rfl) rfl (aa rfl)) ?_;show AI _ _ _ _ _ _ #[false, true, true, true, true, false, false, true, true, false, false] _;refine cA (i := 0) (j := 5) (by kernel_rfl) rfl rfl rfl rfl ?_ ?_
     ·refine bD rfl dD rfl (cK F e62) ?_;show AI _ _ _ _ _ _ #[true, true, true, true, true, false, false, true, true, false, false] _;refine aN (i := 5) (by kernel_rfl) rfl rfl <| aW rfl (al (i := 0) aw rfl rfl rfl rfl) ?_;show AI _ _ _ _ _ _ #[true, true, true, true, true, true, false, true, true, false, false] _;refine zk 6 rfl (co (i := 5) (k := 1) (c := .v _) bB bQ rfl (by kernel_rfl) rfl rfl rfl rfl) ?_;show AI _ _ _ _ _ _ #[true, true, true, true, true, true, true, true, true, false, false] _;refine aN (i := 9) (by kernel_rfl) rfl rfl <| cM [0, 0] rfl (.inr ⟨rfl, rfl, rfl⟩) qi rfl (pO F o1 5 a3 a4 a5 a6 a7 a8 t9 a10 a11 a12 a13 a14 x63 x64 x65 x66 e67) rfl (fun c A' h => by cases h.1) ?_
      rintro av A' ⟨h, t68, rfl⟩; cases h
      show AI _ _ _ _ _ _ #[true, true, true, true, true, true, true, true, true, true, false] _;refine zk 10 rfl (asg rfl) ?_;show AI _ _ _ _ _ _ #[true, true, true, true, true, true, true, true, true, true, true] _;refine bo rfl ?_;exact Exists.intro (x63, x64, x65, x66, t68) ⟨H, aZ [0, 0] (.cons (.refl _) (.cons (.refl _) (.cons (.refl _) (.nil _)))) rfl⟩
     ·refine aW rfl (al (i := 0) aw rfl rfl rfl rfl) ?_;show AI _ _ _ _ _ _ #[false, true, true, true, true, true, false, true, true, false, false] _;refine aN (i := 0) (by kernel_rfl) rfl rfl <| bD rfl dD rfl (cK F e62) ?_;show AI _ _ _ _ _ _ #[true, true, true, true, true, true, false, true, true, false, false] _;refine zk 6 rfl (co (i := 5) (k := 1) (c := .v _) bB bQ rfl (by kernel_rfl) rfl rfl rfl rfl) ?_;show AI _ _ _ _ _ _ #[true, true, true, true, true, true, true, true, true, false, false] _;refine aN (i := 9) (by kernel_rfl) rfl rfl <| cM [0, 0] rfl (.inr ⟨rfl, rfl, rfl⟩) qi rfl (pO F o1 5 a3 a4 a5 a6 a7 a8 t9 a10 a11 a12 a13 a14 x63 x64 x65 x66 e67) rfl (fun c A' h => by cases h.1) ?_
      rintro av A' ⟨h, t69, rfl⟩; cases h
      show AI _ _ _ _ _ _ #[true, true, true, true, true, true, true, true, true, true, false] _;refine zk 10 rfl (asg rfl) ?_;show AI _ _ _ _ _ _ #[true, true, true, true, true, true, true, true, true, true, true] _;refine bo rfl ?_;exact Exists.intro (x63, x64, x65, x66, t69) ⟨H, aZ [0, 0] (.cons (.refl _) (.cons (.refl _) (.cons (.refl _) (.nil _)))) rfl⟩
    ·replace H := ba (by decide) H;replace H := ba (by decide) H;replace H := ba (by decide) H;replace H := ba (by decide) H;replace H := ba (by decide) H;replace H := ba (by decide) H;obtain ⟨_, e70, H⟩ := cu H;obtain ⟨x71, x72, e73, H⟩ := eu H;refine bA (by kernel_rfl) ?_;show AI _ _ _ _ _ 11 (Array.replicate 11 false) _;refine zk 1 rfl (ak (av := .pt _ _) rfl) ?_;show AI _ _ _ _ _ _ #[false, true, false, false, false, false, false, false, false, false, false] _;refine zk 2 rfl (an rfl) ?_;show AI _ _ _ _ _ _ #[false, true, true, false, false, false, false, false, false, false, false] _;refine zk 3 rfl (aj (n := 0) (by kernel_rfl) rfl) ?_;show AI _ _ _ _ _ _ #[false, true, true, true, false, false, false, false, false, false, false] _;refine zk 4 rfl (aj (n := 0) (by kernel_rfl) rfl) ?_;show AI _ _ _ _ _ _ #[false, true, true, true, true, false, false, false, false, false, false] _;refine zk 7 rfl (ak (av := .pt _ _) rfl) ?_;show AI _ _ _ _ _ _ #[false, true, true, true, true, false, false, true, false, false, false] _;refine zk 8 rfl (bh bm rfl (n := 5) (by kernel_rfl) rfl (aa rfl)) ?_;show AI _ _ _ _ _ _ #[false, true, true, true, true, false, false, true, true, false, false] _;refine cA (i := 0) (j := 5) (by kernel_rfl) rfl rfl rfl rfl ?_ ?_
     ·refine bD rfl dD rfl (cK F e70) ?_;show AI _ _ _ _ _ _ #[true, true, true, true, true, false, false, true, true, false, false] _;refine aN (i := 5) (by kernel_rfl) rfl rfl <| aW rfl (al (i := 0) aw rfl rfl rfl rfl) ?_;show AI _ _ _ _ _ _ #[true, true, true, true, true, true, false, true, true, false, false] _;refine zk 6 rfl (co (i := 6) (k := 1) (c := .v _) bB bQ rfl (by kernel_rfl) rfl rfl rfl rfl) ?_;show AI _ _ _ _ _ _ #[true, true, true, true, true, true, true, true, true, false, false] _;refine aN (i := 9) (by kernel_rfl) rfl rfl <| cM [0, 0] rfl (.inr ⟨rfl, rfl, rfl⟩) qh rfl (pK F o1 6 a3 a4 a5 a6 a7 a8 t9 a10 a11 a12 a13 a14 x71 x72 e73) rfl (fun c A' h => by cases h.1) ?_
      rintro av A' ⟨h, rfl⟩; cases h
      show AI _ _ _ _ _ _ #[true, true, true, true, true, true, true, true, true, true, false] _;refine zk 10 rfl (asg rfl) ?_;show AI _ _ _ _ _ _ #[true, true, true, true, true, true, true, true, true, true, true] _;refine bo rfl ?_;exact Exists.intro (x71, x72, a3, a8, t9) ⟨H, aZ [0, 0] (.cons (.refl _) (.cons (.refl _) (.cons (.refl _) (.nil _)))) rfl⟩
     ·refine aW rfl (al (i := 0) aw rfl rfl rfl rfl) ?_;show AI _ _ _ _ _ _ #[false, true, true, true, true, true, false, true, true, false, false] _;refine aN (i := 0) (by kernel_rfl) rfl rfl <| bD rfl dD rfl (cK F e70) ?_;show AI _ _ _ _ _ _ #[true, true, true, true, true, true, false, true, true, false, false] _;refine zk 6 rfl (co (i := 6) (k := 1) (c := .v _) bB bQ rfl (by kernel_rfl) rfl rfl rfl rfl) ?_;show AI _ _ _ _ _ _ #[true, true, true, true, true, true, true, true, true, false, false] _;refine aN (i := 9) (by kernel_rfl) rfl rfl <| cM [0, 0] rfl (.inr ⟨rfl, rfl, rfl⟩) qh rfl (pK F o1 6 a3 a4 a5 a6 a7 a8 t9 a10 a11 a12 a13 a14 x71 x72 e73) rfl (fun c A' h => by cases h.1) ?_
      rintro av A' ⟨h, rfl⟩; cases h
      show AI _ _ _ _ _ _ #[true, true, true, true, true, true, true, true, true, true, false] _;refine zk 10 rfl (asg rfl) ?_;show AI _ _ _ _ _ _ #[true, true, true, true, true, true, true, true, true, true, true] _;refine bo rfl ?_;exact Exists.intro (x71, x72, a3, a8, t9) ⟨H, aZ [0, 0] (.cons (.refl _) (.cons (.refl _) (.cons (.refl _) (.nil _)))) rfl⟩
   rintro ⟨y74, y75, y76, y77, t78⟩ H;replace H : cZ F a4 a5 a6 a7 a10 y74 y75 y76 y77 = some (r15, r16, r17) := H
   unfold cZ at H
   refine aE rfl (fun c80 => ?_) (fun c80 => ?_)
   ·replace H := bg c80 H;refine aJ ?_;obtain ⟨rfl, rfl, rfl⟩ := ia H;exact And.intro rfl (Exists.intro _ (Exists.intro _ ⟨bp rfl, aL [0, 0] rfl, rfl, t78, rfl⟩))
   ·replace H := ba c80 H;refine ah <| ac ?_;show AR _ _ _ _ _ [0, 1, 2, 3, 4, 5, 6, 7, 8] _;refine zS rfl (aM (n := 0) (by kernel_rfl) rfl (aa rfl)) <| zS rfl (aF aw rfl rfl) <| zS rfl (di rfl rfl) <| zm rfl <| aG (l := [8]) 46 (B ((decide (500 ≤ a10)) && (decide (a10 ≤ 599)))) (fun K => ?_) ?_
    ·rcases af (decide (500 ≤ a10)) with h81 | h81
     ·refine zU h81 rfl (aM (n := 0) (by kernel_rfl) rfl (aa rfl)) <| zU h81 rfl (aF aw rfl rfl) <| zU h81 rfl (cL rfl rfl) <| zS rfl (ap (av := .v _) rfl h81 rfl) ?_;exact K _ 3 _ (am (bI h81)) rfl rfl
     ·refine zF h81 rfl <| zF h81 rfl <| zF h81 rfl <| zS rfl (ao (av := .v _) rfl h81 rfl) ?_;exact K _ 3 _ (am (bJ h81)) rfl rfl
    refine za rfl <| ai <| aE rfl (fun c82 => ?_) (fun c82 => ?_)
    ·replace H := bg c82 H;obtain ⟨x83, x84, x85, e86, H⟩ := gQ H;refine ac ?_;show AR _ _ _ _ _ [0, 1] _;refine zS rfl (ak (av := .pt _ _) rfl) <| aq rfl rfl (cI [0, 0] rfl lu rfl (li F o1 y75 y76 a4 a5 a6 a7 y77 t78 3 x83 x84 x85 e86) rfl (fun c A' h => by cases h.1) ?_)
     rintro av A' ⟨h, t87, rfl⟩; cases h
     refine ai ?_;obtain ⟨rfl, rfl, rfl⟩ := ia H;exact And.intro rfl (Exists.intro _ (Exists.intro _ ⟨bp rfl, aL [0, 0] rfl, rfl, t87, rfl⟩))
    ·replace H := ba c82 H;obtain ⟨x88, x89, x90, e91, H⟩ := gQ H;refine ac ?_;show AR _ _ _ _ _ [0, 1] _;refine zS rfl (ak (av := .pt _ _) rfl) <| aq rfl rfl (cI [0, 0] rfl lu rfl (li F o1 y75 y76 a4 a5 a6 a7 y77 t78 2 x88 x89 x90 e91) rfl (fun c A' h => by cases h.1) ?_)
     rintro av A' ⟨h, t92, rfl⟩; cases h
     refine ai ?_;obtain ⟨rfl, rfl, rfl⟩ := ia H;exact And.intro rfl (Exists.intro _ (Exists.intro _ ⟨bp rfl, aL [0, 0] rfl, rfl, t92, rfl⟩))
set_option maxRecDepth 100000 in
set_option maxHeartbeats 1000000 in
theorem sH (F : Nat) (a1 : Int) (a2 : Int) (a3 : List UInt8) (a4 : List UInt8) (a5 : List UInt8) (a6 : List UInt8) (H : mO F a1 a2 a3 a4 a5 a6 = some ()) : ACalls Tryz.prog 34 [.agg [i64 a1, i64 a2, S a3, S a4, S a5, slE Enc.byte a6 none]] [] (fun e A' => ∃ ob1 : Nat, e = .ret (.pt ob1 0) ∧ A' = [.obj ob1 [i64 a1, i64 a2, S a3, S a4, S a5, slE Enc.byte a6 none, ec]]) := by
 unfold mO at H
 refine az Tryz.func34 rfl rfl ?_;show AW _ _ 10 _ _ _;refine ah <| ac ?_;show AR _ _ _ _ _ [0, 1] _;refine zX rfl (ie rfl (.inr ⟨_, rfl⟩)) ?_;rintro _ _ ⟨o7, rfl, rfl⟩;refine za rfl <| ai <| ah ?_;obtain ⟨g8, H⟩ := aY H;refine ac ?_;show AR _ _ _ _ _ [0, 1, 2, 3, 4] _;refine zS rfl (aj (n := 5) (by kernel_rfl) rfl) <| zR rfl (al (i := 0) ab rfl rfl rfl rfl) <| aq rfl rfl (aU rfl qu rfl (kT a6 none (eI g8)) ?_);refine zS rfl (aj (n := 5) (by kernel_rfl) rfl) <| s0 rfl rfl (au (i := 0) (c := slE _ _ _) (by kernel_rfl) rfl rfl rfl rfl (aa rfl)) <| ai <| ah <| ac ?_;show AR _ _ _ _ _ [0, 1, 2, 3] _;refine zR rfl (bq (i := 0) (n := 6) aA rfl (by kernel_rfl) rfl rfl (aa rfl)) <| zS rfl (iQ (zs := [.int .i64 0, .int .i64 0, .string ⟨#[]⟩, .string ⟨#[]⟩, .string ⟨#[]⟩, .slice none 0 0, .slice none 0 0]) (ps := [(0, 6), (6, 1)]) (cs := [i64 a1, i64 a2, S a3, S a4, S a5, slE Enc.byte a6 none, ec]) (by kernel_rfl) rfl rfl) <| zX rfl (ie rfl (.inr ⟨_, rfl⟩)) ?_;rintro _ _ ⟨o9, rfl, rfl⟩;refine zS rfl (aB (av := .pt _ _) rfl) <| ai <| aQ ?_;exact And.intro rfl (Exists.intro _ (Exists.intro _ ⟨aV rfl (.refl _), aL [0] rfl, o9, rfl, rfl⟩))
set_option maxRecDepth 100000 in
set_option maxHeartbeats 1000000 in
theorem mD (F : Nat) (a1 : Int) (a2 : Int) (a3 : List UInt8) (a4 : List UInt8) (a5 : List UInt8) (a6 : List UInt8) (a7 : List UInt8) (q8 : Option Nat) (r9 : Int) (r10 : Int) (r11 : List UInt8) (r12 : List UInt8) (r13 : List UInt8) (r14 : List UInt8) (r15 : List UInt8) (H : nQ F a1 a2 a3 a4 a5 a6 a7 = some (r9, r10, r11, r12, r13, r14, r15)) : ACalls Tryz.prog 15 [.agg [i64 a1, i64 a2, S a3, S a4, S a5, slE Enc.byte a6 none], slE Enc.byte a7 q8] [] (Ret (.tup [.agg [i64 r9, i64 r10, S r11, S r12, S r13, slE Enc.byte r14 none], slE Enc.byte r15 none]) []) := by
 unfold nQ at H
 refine az Tryz.func15 rfl rfl ?_;show AW _ _ 39 _ _ _;refine ah <| ac ?_;show AR _ _ _ _ _ [0, 1, 2] _;refine zR rfl (cP rfl (.inr ⟨_, rfl⟩)) <| zX rfl (br (zs := [.int .i64 0, .int .i64 0, .string ⟨#[]⟩, .string ⟨#[]⟩, .string ⟨#[]⟩, .slice none 0 0]) (by kernel_rfl)) ?_;rintro _ _ ⟨o16, rfl, rfl⟩;refine za rfl <| ai <| ah ?_;obtain ⟨_, e17, H⟩ := cu H;refine ac ?_;show AR _ _ _ _ _ [0, 1, 2] _;refine zS rfl (bh aA rfl (n := 6) (by kernel_rfl) rfl (aa rfl)) <| aq rfl rfl (cI [] rfl uN rfl (sH F a1 a2 a3 a4 a5 a6 e17) rfl (fun c A' h => by obtain ⟨_, h, _⟩ := h; cases h) ?_)
 rintro av A' ⟨o18, h, rfl⟩; cases h
 refine zS rfl (aB (av := .pt _ _) rfl) <| ai ?_
 refine AW.nil_objAt 0 6 1 5 rfl rfl fun t19 => ?_
 show AW _ _ _ _ _ ⟨_, _, [.tok t19 5, .obj o18 [i64 a1, i64 a2, S a3, S a4, S a5, slE Enc.byte a6 none, slE Enc.byte [] (some t19)], .obj o16 [i64 0, i64 0, S ([] : List UInt8), S ([] : List UInt8), S ([] : List UInt8), ec]]⟩;refine bK (X := Int × Int × (List UInt8) × Nat) (fun (y46, y47, y48, t49) => ⟨[(4, .pt o16 0), (6, .pt o18 0)], [], [.obj o18 [i64 y46, i64 y47, S a3, S a4, S a5, slE Enc.byte a6 none, slE Enc.byte y48 (some t49)], .obj o16 [i64 0, i64 0, S ([] : List UInt8), S ([] : List UInt8), S ([] : List UInt8), ec], .tok t49 5]⟩) (fun (y46, y47, y48, t49) => kb F a3 a4 a5 a6 y46 y47 y48 = some (r9, r10, r11, r12, r13, r14, r15)) ?_ ?_
 ·refine ah ?_;obtain ⟨_, e20, H⟩ := cu H;obtain ⟨x23, x24, x25, e26, H⟩ := gQ H;refine ac ?_;show AR _ _ _ _ _ [0, 1, 2, 3, 4] _;refine aq rfl rfl (cI [] rfl uM rfl (tU F e20) rfl (fun c A' h => by obtain ⟨_, h, _⟩ := h; cases h) ?_)
  rintro av A' ⟨o21, h, rfl⟩; cases h
  refine zS rfl (ak (av := slE _ _ _) rfl) ?_
  refine AR.nil_objAt 0 0 1 5 rfl rfl fun t22 => ?_
  show AR _ _ _ _ _ _ ⟨_, _, [.tok t22 5, .obj o21 [slE Enc.byte [] (some t22), B false], .tok t19 5, .obj o18 [i64 a1, i64 a2, S a3, S a4, S a5, slE Enc.byte a6 none, slE Enc.byte [] (some t19)], .obj o16 [i64 0, i64 0, S ([] : List UInt8), S ([] : List UInt8), S ([] : List UInt8), ec]]⟩;refine aq rfl rfl (cI [1, 0] rfl uL rfl (tT F o21 [] t22 false a7 q8 x23 x24 x25 e26) rfl (fun c A' h => by cases h.1) ?_)
  rintro av A' ⟨h, t27, rfl⟩; cases h
  refine zS rfl (bc bE rfl) <| zm rfl <| ai <| be <| cN (X := Nat × Int × Int × Int × (List UInt8) × Nat) (fun (n34, y28, y29, y30, y31, t32) => ⟨[(4, .pt o16 0), (6, .pt o18 0), (13, slE (aC Enc.int (aC (Enc.sl Enc.str) (aC Enc.int (aC Enc.int Enc.int)))) x23 none), (14, i64 (x23.length : Int)), (15, i64 y28)], [], [.obj o18 [i64 y29, i64 y30, S a3, S a4, S a5, slE Enc.byte a6 none, slE Enc.byte y31 (some t32)], .obj o16 [i64 0, i64 0, S ([] : List UInt8), S ([] : List UInt8), S ([] : List UInt8), ec], .tok t32 5]⟩) (fun (n34, y28, y29, y30, y31, t32) => kc F a3 a4 a5 a6 x23 n34 (y28, y29, y30, y31) = some (r9, r10, r11, r12, r13, r14, r15)) (fun (n34, y28, y29, y30, y31, t32) => n34) (F, 0, a1, a2, [], t19) H (aZ [3, 3, 2] (.cons (.refl _) (.cons (.refl _) (.cons (.refl _) (.cons (.refl _) (.cons (.refl _) (.nil _)))))) rfl) ?_;rintro ⟨n34, y28, y29, y30, y31, t32⟩ H;obtain ⟨n34, rfl, H⟩ := dK H;replace H : kd F a3 a4 a5 a6 x23 (kc F a3 a4 a5 a6 x23 n34) y28 y29 y30 y31 = some (r9, r10, r11, r12, r13, r14, r15) := H
  unfold kd at H
  refine ah <| ac ?_;show AR _ _ _ _ _ [0] _;refine zS rfl (bN rfl rfl) <| ai <| ah <| aE rfl (fun c35 => ?_) (fun c35 => ?_)
  ·replace H := bg c35 H;refine aJ <| ah <| be <| ah ?_;obtain ⟨g36, H⟩ := aY H;obtain ⟨x37, e38, H⟩ := bP H;refine ac ?_;show AR _ _ _ _ _ [0, 1, 2, 3] _;refine zS rfl (bL (E := (aC Enc.int (aC (Enc.sl Enc.str) (aC Enc.int (aC Enc.int Enc.int))))) bE (by kernel_rfl) rfl rfl g36 e38) <| zS rfl (bh bm rfl (n := 5) (by kernel_rfl) rfl (aa rfl)) <| zX rfl (br (zs := [.int .i64 0, .slice none 0 0, .int .i64 0, .int .i64 0, .int .i64 0]) (by kernel_rfl)) ?_;rintro _ _ ⟨o39, rfl, rfl⟩;refine s0 rfl rfl (aH (i := 0) (vs := [i64 x37.1, slE Enc.str x37.2.1 none, i64 x37.2.2.1, i64 x37.2.2.2.1, i64 x37.2.2.2.2]) (by kernel_rfl) rfl rfl (by simp [bk, slE]) rfl (aa rfl)) <| dx 8 0 rfl rfl ?_;show AR _ _ _ _ _ _ ⟨_, _, [.obj o18 [i64 y29, i64 y30, S a3, S a4, S a5, slE Enc.byte a6 none, slE Enc.byte y31 (some t32)], .obj o16 [i64 0, i64 0, S ([] : List UInt8), S ([] : List UInt8), S ([] : List UInt8), ec], .tok t32 5]⟩;refine ai ?_;obtain ⟨x40, x41, x42, e43, H⟩ := gQ H;refine ac ?_;show AR _ _ _ _ _ [0, 1, 2] _;refine zS rfl (ak (av := .pt _ _) rfl) <| zS rfl (bh bm rfl (n := 5) (by kernel_rfl) rfl (aa rfl)) <| aq rfl rfl (cI [0, 1] rfl uK rfl (tV F o18 y29 y30 a3 a4 a5 a6 y31 t32 x37.1 x37.2.1 x37.2.2.1 x37.2.2.2.1 x37.2.2.2.2 x40 x41 x42 e43) rfl (fun c A' h => by cases h.1) ?_)
   rintro av A' ⟨h, t44, rfl⟩; cases h
   refine ai ?_;obtain ⟨g45, H⟩ := aY H;refine ac ?_;show AR _ _ _ _ _ [0, 1] _;refine zS rfl (dE rfl rfl g45) <| zm rfl <| ai ?_;exact Exists.intro (n34, y28 + 1, x40, x41, x42, t44) ⟨H, Nat.lt_succ_self _, aZ [0, 1, 0] (.cons (.refl _) (.cons (.refl _) (.cons (.refl _) (.cons (.refl _) (.cons (.refl _) (.nil _)))))) rfl⟩
  ·replace H := ba c35 H;refine cH ?_;exact Exists.intro (y29, y30, y31, t32) ⟨H, aZ [0, 0, 0] (.cons (.refl _) (.cons (.refl _) (.nil _))) rfl⟩
 rintro ⟨y46, y47, y48, t49⟩ H;replace H : kb F a3 a4 a5 a6 y46 y47 y48 = some (r9, r10, r11, r12, r13, r14, r15) := H
 unfold kb at H
 refine bK (X := Int × Int) (fun (y55, y56) => ⟨[(4, .pt o16 0), (6, .pt o18 0)], [], [.obj o18 [i64 y55, i64 y56, S a3, S a4, S a5, slE Enc.byte a6 none, slE Enc.byte y48 (some t49)], .obj o16 [i64 0, i64 0, S ([] : List UInt8), S ([] : List UInt8), S ([] : List UInt8), ec], .tok t49 5]⟩) (fun (y55, y56) => jk a3 a4 a5 a6 y48 y55 y56 = some (r9, r10, r11, r12, r13, r14, r15)) ?_ ?_
 ·refine ah <| ac ?_;show AR _ _ _ _ _ [0, 1, 2, 3, 4, 5] _;refine zS rfl (ak (av := .pt _ _) rfl) <| zS rfl (an rfl) <| zS rfl (aj (n := 0) (by kernel_rfl) rfl) <| zS rfl (aj (n := 0) (by kernel_rfl) rfl) <| zR rfl (al (i := 0) aw rfl rfl rfl rfl) <| zS rfl (fm rfl rfl) <| ai <| aE rfl (fun c51 => ?_) (fun c51 => ?_)
  ·replace H := bg c51 H;obtain ⟨x52, x53, e54, H⟩ := eu H;refine ac ?_;show AR _ _ _ _ _ [0, 1] _;refine zS rfl (ak (av := .pt _ _) rfl) <| aq rfl rfl (cI [0, 1] rfl qs rfl (pM F o18 y46 y47 a3 a4 a5 a6 y48 t49 x52 x53 e54) rfl (fun c A' h => by cases h.1) ?_)
   rintro av A' ⟨h, rfl⟩; cases h
   refine ai ?_;exact Exists.intro (x52, x53) ⟨H, aZ [0, 1, 0] (.cons (.refl _) (.cons (.refl _) (.nil _))) rfl⟩
  ·replace H := ba c51 H;refine aJ ?_;exact Exists.intro (y46, y47) ⟨H, aZ [0, 0, 0] (.cons (.refl _) (.cons (.refl _) (.nil _))) rfl⟩
 rintro ⟨y55, y56⟩ H;replace H : jk a3 a4 a5 a6 y48 y55 y56 = some (r9, r10, r11, r12, r13, r14, r15) := H
 unfold jk at H
 refine ah <| bA (by kernel_rfl) ?_;show AI _ _ _ _ _ 10 (Array.replicate 10 false) _;refine zk 0 rfl (ak (av := .pt _ _) rfl) ?_;show AI _ _ _ _ _ _ #[true, false, false, false, false, false, false, false, false, false] _;refine zk 1 rfl (an rfl) ?_;show AI _ _ _ _ _ _ #[true, true, false, false, false, false, false, false, false, false] _;refine zk 2 rfl (aj (n := 0) (by kernel_rfl) rfl) ?_;show AI _ _ _ _ _ _ #[true, true, true, false, false, false, false, false, false, false] _;refine zk 4 rfl (ak (av := .pt _ _) rfl) ?_;show AI _ _ _ _ _ _ #[true, true, true, false, true, false, false, false, false, false] _;refine zk 5 rfl (an rfl) ?_;show AI _ _ _ _ _ _ #[true, true, true, false, true, true, false, false, false, false] _;refine zk 6 rfl (aj (n := 6) (by kernel_rfl) rfl) ?_;show AI _ _ _ _ _ _ #[true, true, true, false, true, true, true, false, false, false] _;refine cA (i := 3) (j := 7) (by kernel_rfl) rfl rfl rfl rfl ?_ ?_
 ·refine aW rfl (bq (i := 0) (n := 6) aA rfl (by kernel_rfl) rfl rfl (aa rfl)) ?_;show AI _ _ _ _ _ _ #[true, true, true, true, true, true, true, false, false, false] _;refine cA (i := 7) (j := 8) (by kernel_rfl) rfl rfl rfl rfl ?_ ?_
  ·refine aW rfl (al (i := 0) ab rfl rfl rfl rfl) ?_;show AI _ _ _ _ _ _ #[true, true, true, true, true, true, true, true, false, false] _;refine aN (i := 8) (by kernel_rfl) rfl rfl <| cd (aH (i := 1) (vs := [i64 y55, i64 y56, S a3, S a4, S a5, slE Enc.byte a6 none]) (by kernel_rfl) rfl rfl (by simp [bk, slE]) rfl (aa rfl)) ?_;show AI _ _ _ _ _ _ #[true, true, true, true, true, true, true, true, true, false] _;refine zk 9 rfl (aB (av := slE _ _ _) rfl) ?_;show AI _ _ _ _ _ _ #[true, true, true, true, true, true, true, true, true, true] _;refine bo rfl <| aQ ?_;obtain ⟨rfl, rfl, rfl, rfl, rfl, rfl, rfl⟩ := lH H;exact And.intro rfl (Exists.intro _ (Exists.intro _ ⟨bW (cb rfl (bX (off := 0) (cs := [i64 y55, i64 y56, S a3, S a4, S a5, slE Enc.byte a6 none]) (n := 6) 1 aA rfl (by kernel_rfl) rfl rfl (aa rfl)) ((show PlaceV _ _ _ (.tmp _) _ from (.tok _ _ _)))), aL [] rfl, rfl, rfl⟩))
  ·refine cd (aH (i := 1) (vs := [i64 y55, i64 y56, S a3, S a4, S a5, slE Enc.byte a6 none]) (by kernel_rfl) rfl rfl (by simp [bk, slE]) rfl (aa rfl)) ?_;show AI _ _ _ _ _ _ #[true, true, true, true, true, true, true, false, true, false] _;refine aN (i := 7) (by kernel_rfl) rfl rfl <| aW rfl (al (i := 0) ab rfl rfl rfl rfl) ?_;show AI _ _ _ _ _ _ #[true, true, true, true, true, true, true, true, true, false] _;refine zk 9 rfl (aB (av := slE _ _ _) rfl) ?_;show AI _ _ _ _ _ _ #[true, true, true, true, true, true, true, true, true, true] _;refine bo rfl <| aQ ?_;obtain ⟨rfl, rfl, rfl, rfl, rfl, rfl, rfl⟩ := lH H;exact And.intro rfl (Exists.intro _ (Exists.intro _ ⟨bW (cb rfl (bX (off := 0) (cs := [i64 y55, i64 y56, S a3, S a4, S a5, slE Enc.byte a6 none]) (n := 6) 1 aA rfl (by kernel_rfl) rfl rfl (aa rfl)) ((show PlaceV _ _ _ (.tmp _) _ from (.tok _ _ _)))), aL [] rfl, rfl, rfl⟩))
 ·refine aW rfl (al (i := 0) ab rfl rfl rfl rfl) ?_;show AI _ _ _ _ _ _ #[true, true, true, false, true, true, true, true, false, false] _;refine aN (i := 3) (by kernel_rfl) rfl rfl <| aW rfl (bq (i := 0) (n := 6) aA rfl (by kernel_rfl) rfl rfl (aa rfl)) ?_;show AI _ _ _ _ _ _ #[true, true, true, true, true, true, true, true, false, false] _;refine aN (i := 8) (by kernel_rfl) rfl rfl <| cd (aH (i := 1) (vs := [i64 y55, i64 y56, S a3, S a4, S a5, slE Enc.byte a6 none]) (by kernel_rfl) rfl rfl (by simp [bk, slE]) rfl (aa rfl)) ?_;show AI _ _ _ _ _ _ #[true, true, true, true, true, true, true, true, true, false] _;refine zk 9 rfl (aB (av := slE _ _ _) rfl) ?_;show AI _ _ _ _ _ _ #[true, true, true, true, true, true, true, true, true, true] _;refine bo rfl <| aQ ?_;obtain ⟨rfl, rfl, rfl, rfl, rfl, rfl, rfl⟩ := lH H;exact And.intro rfl (Exists.intro _ (Exists.intro _ ⟨bW (cb rfl (bX (off := 0) (cs := [i64 y55, i64 y56, S a3, S a4, S a5, slE Enc.byte a6 none]) (n := 6) 1 aA rfl (by kernel_rfl) rfl rfl (aa rfl)) ((show PlaceV _ _ _ (.tmp _) _ from (.tok _ _ _)))), aL [] rfl, rfl, rfl⟩))
end Go.Proofs.YtgjkjkmmgdbcoaaGreatDoor
namespace Go.Pv
def tJ : List UInt8 := [69, 72, 76, 79, 32, 104, 13, 10, 77, 65, 73, 76, 32, 70, 82, 79, 77, 58, 60, 97, 64, 98, 62, 13, 10, 82, 67, 80, 84, 32, 84, 79, 58, 60, 99, 64, 100, 62, 13, 10, 68, 65, 84, 65, 13, 10, 120, 13, 10, 46, 13, 10, 81, 85, 73, 84, 13, 10]
def mb (F : Nat) : Option ((List UInt8)) :=
some ([50, 50, 48, 32, 97, 13, 10, 50, 53, 48, 45, 97, 13, 10, 50, 53] ++ [48, 32, 83, 73, 90, 69, 32, 49, 48, 48, 48, 48, 48, 13, 10, 50] ++ [53, 48, 32, 111, 107, 13, 10, 50, 53, 48, 32, 111, 107, 13, 10, 51] ++ [53, 52, 32, 103, 111, 13, 10, 50, 53, 48, 32, 111, 107, 13, 10, 50] ++ [50, 49, 32, 98, 121, 101, 13, 10] : List UInt8)
def gS (x3 : Int × Int × (List UInt8) × (List UInt8) × (List UInt8) × (List UInt8) × Int) (y14 : List UInt8) (y15 : Int) (y16 : Int) (y17 : List UInt8) (y18 : List UInt8) (y19 : List UInt8) (y20 : List UInt8) : Option Bool :=
some ((((decide (x3.2.2.2.2.2.2 = 0)) && (decide (y16 = 1))) && (decide (y15 = 7))) && (decide (y14 = tJ)))
def iK (F : Nat) : Option Bool :=
bnd (ki F ([97, 64, 98] : List UInt8) ([99, 64, 100] : List UInt8) ([104] : List UInt8) ([120, 13, 10] : List UInt8)) fun x3 =>
bnd (mb F) fun x6 =>
bnd (nQ F x3.1 x3.2.1 x3.2.2.1 x3.2.2.2.1 x3.2.2.2.2.1 x3.2.2.2.2.2.1 x6) fun x8 =>
gS x3 x8.2.2.2.2.2.2 x8.1 x8.2.1 x8.2.2.1 x8.2.2.2.1 x8.2.2.2.2.1 x8.2.2.2.2.2.1
def jZ (F : Nat) (a1 : Int) (a2 : Int) (a3 : List UInt8) (a4 : List UInt8) (a5 : List UInt8) (a6 : List UInt8) : Option Bool :=
some ((((decide ((a3.length : Int) ≤ 100)) && (decide ((a4.length : Int) ≤ 100))) && (decide ((a5.length : Int) ≤ 100))) && (decide ((a6.length : Int) ≤ 600)))
def ip (F : Nat) (a1 : Int) (a2 : Int) (a3 : List UInt8) (a4 : List UInt8) (a5 : List UInt8) (a6 : List UInt8) (a7 : Int) (a8 : Int) (a9 : List UInt8) (a10 : List UInt8) (a11 : List UInt8) (a12 : List UInt8) : Option Bool :=
some ((((((decide (a1 = a7)) && (decide (a2 = a8))) && (decide (a3 = a9))) && (decide (a4 = a10))) && (decide (a5 = a11))) && (decide (a6 = a12)))
def fW (a1 : List UInt8) : Option Bool :=
dk (!(decide ((a1.length : Int) = 0))) (okI ((a1.length : Int) - 1)) <|
dk (!(decide ((a1.length : Int) = 0))) (ct ((a1.length : Int) - 1) a1.length) <|
lt (at_ a1 ((a1.length : Int) - 1)) fun x34 =>
some ((decide ((a1.length : Int) = 0)) || (decide (x34 = 10)))
def hO (a1 : List UInt8) (rec5 : Int → Option Bool) (y4 : Int) : Option Bool :=
bif decide (y4 < (a1.length : Int)) then
  grd (ct y4 a1.length) <|
  lt (at_ a1 y4) fun x9 =>
  dk (decide (x9 = 13)) (okI (y4 + 1)) <|
  dk ((decide (x9 = 13)) && (!(decide ((a1.length : Int) ≤ y4 + 1)))) (okI (y4 + 1)) <|
  dk ((decide (x9 = 13)) && (!(decide ((a1.length : Int) ≤ y4 + 1)))) (ct (y4 + 1) a1.length) <|
  lt (at_ a1 (y4 + 1)) fun x16 =>
  dk (!((decide (x9 = 13)) && ((decide ((a1.length : Int) ≤ y4 + 1)) || (!decide (x16 = 10))))) (ct y4 a1.length) <|
  lt (at_ a1 y4) fun x20 =>
  dk (((!((decide (x9 = 13)) && ((decide ((a1.length : Int) ≤ y4 + 1)) || (!decide (x16 = 10))))) && (decide (x20 = 10))) && (!(decide (y4 = 0)))) (okI (y4 - 1)) <|
  dk (((!((decide (x9 = 13)) && ((decide ((a1.length : Int) ≤ y4 + 1)) || (!decide (x16 = 10))))) && (decide (x20 = 10))) && (!(decide (y4 = 0)))) (ct (y4 - 1) a1.length) <|
  lt (at_ a1 (y4 - 1)) fun x26 =>
  bif ((decide (x9 = 13)) && ((decide ((a1.length : Int) ≤ y4 + 1)) || (!decide (x16 = 10)))) || ((decide (x20 = 10)) && ((decide (y4 = 0)) || (!decide (x26 = 13)))) then
    some false
  else
    grd (okI (y4 + 1)) <|
    rec5 (y4 + 1)
else
  fW a1
def hM (a1 : List UInt8) (n : Nat) : Int → Option Bool :=
  loop (fun rec x => hO a1 rec x) n
def jg (F : Nat) (a1 : List UInt8) : Option Bool :=
hM a1 F 0
def fJ (y40 : List UInt8) : Option ((List UInt8) × Int) :=
grd (dn (y40.length + ([46, 13, 10] : List UInt8).length)) <|
lt (y40 ++ ([46, 13, 10] : List UInt8)) fun x45 =>
some (x45, 0)
def dT (a1 : List UInt8) (y11 : Int) (rec12 : ((List UInt8) × Int) → Option ((List UInt8) × Int)) (y29 : List UInt8) : Option ((List UInt8) × Int) :=
grd (ct y11 a1.length) <|
lt (at_ a1 y11) fun x33 =>
grd (dn (y29.length + ([x33] : List UInt8).length)) <|
lt (y29 ++ ([x33] : List UInt8)) fun x37 =>
grd (okI (y11 + 1)) <|
rec12 (x37, y11 + 1)
def fK (a1 : List UInt8) (rec12 : ((List UInt8) × Int) → Option ((List UInt8) × Int)) (y9 : List UInt8) (y11 : Int) : Option ((List UInt8) × Int) :=
bif decide (y11 < (a1.length : Int)) then
  grd (ct y11 a1.length) <|
  lt (at_ a1 y11) fun x16 =>
  dk ((decide (x16 = 46)) && (!(decide (y11 = 0)))) (okI (y11 - 1)) <|
  dk ((decide (x16 = 46)) && (!(decide (y11 = 0)))) (ct (y11 - 1) a1.length) <|
  lt (at_ a1 (y11 - 1)) fun x22 =>
  bif (decide (x16 = 46)) && ((decide (y11 = 0)) || (decide (x22 = 10))) then
    grd (dn (y9.length + ([46] : List UInt8).length)) <|
    lt (y9 ++ ([46] : List UInt8)) fun x27 =>
    dT a1 y11 rec12 x27
  else
    dT a1 y11 rec12 y9
else
  fJ y9
def dt (a1 : List UInt8) (n : Nat) : ((List UInt8) × Int) → Option ((List UInt8) × Int) :=
  loop (fun rec x => fK a1 rec x.1 x.2) n
def iH (F : Nat) (a1 : List UInt8) : Option ((List UInt8) × Int) :=
bnd (jg F a1) fun x5 =>
bif !x5 then
  some ([], 1)
else
  dt a1 F ([], 0)
end Go.Pv
namespace Go.Proofs.YtgjkjkmmgdbcoaaGreatDoor
open Go.RowKit Go.Av Go.Pv
theorem uV : ∀ (args : Array Value) (w : World), (callFunc 12 args).run Tryz.prog w = .ok (.enter 12 args) w := fun _ _ => by kernel_rfl
theorem ny : ∀ (args : Array Value) (w : World), (callFunc 15 args).run Tryz.prog w = .ok (.enter 15 args) w := fun _ _ => by kernel_rfl
theorem qw : ∀ (args : Array Value) (w : World), (callFunc 26 args).run Tryz.prog w = .ok (.enter 26 args) w := fun _ _ => by kernel_rfl
theorem uP : ∀ (args : Array Value) (w : World), (callFunc 33 args).run Tryz.prog w = .ok (.enter 33 args) w := fun _ _ => by kernel_rfl
set_option maxRecDepth 100000 in
set_option maxHeartbeats 1000000 in
theorem mu (F : Nat) (r1 : List UInt8) (H : mb F = some r1) : ACalls Tryz.prog 26 [] [] (Ret (slE Enc.byte r1 none) []) := by
 unfold mb at H
 refine az Tryz.func26 rfl rfl ?_;show AW _ _ 3 _ _ _;refine ah <| ac ?_;show AR _ _ _ _ _ [0] _;refine za rfl <| ai <| ah <| ac ?_;show AR _ _ _ _ _ [0, 1, 2] _;refine zX rfl (ir (E := Enc.byte) (bytes := 1) (xs := [.const _, .const _, .const _, .const _, .const _, .const _, .const _, .const _, .const _, .const _, .const _, .const _, .const _, .const _, .const _, .const _] ++ [.const _, .const _, .const _, .const _, .const _, .const _, .const _, .const _, .const _, .const _, .const _, .const _, .const _, .const _, .const _, .const _] ++ [.const _, .const _, .const _, .const _, .const _, .const _, .const _, .const _, .const _, .const _, .const _, .const _, .const _, .const _, .const _, .const _] ++ [.const _, .const _, .const _, .const _, .const _, .const _, .const _, .const _, .const _, .const _, .const _, .const _, .const _, .const _, .const _, .const _] ++ [.const _, .const _, .const _, .const _, .const _, .const _, .const _, .const _]) (l := ([50, 50, 48, 32, 97, 13, 10, 50, 53, 48, 45, 97, 13, 10, 50, 53] ++ [48, 32, 83, 73, 90, 69, 32, 49, 48, 48, 48, 48, 48, 13, 10, 50] ++ [53, 48, 32, 111, 107, 13, 10, 50, 53, 48, 32, 111, 107, 13, 10, 51] ++ [53, 52, 32, 103, 111, 13, 10, 50, 53, 48, 32, 111, 107, 13, 10, 50] ++ [50, 49, 32, 98, 121, 101, 13, 10] : List UInt8)) ab (by kernel_rfl) rfl rfl (by decide) rfl rfl) ?_;rintro _ _ ⟨t2, rfl, rfl⟩;refine zR rfl (fA 0 ab aO rfl (by simp) rfl) <| zS rfl (aB (av := slE _ _ _) rfl) <| ai <| aQ ?_
 obtain rfl := ay H;exact And.intro rfl (Exists.intro _ (Exists.intro _ ⟨aV rfl (.tok _ _ _), aL [] rfl, rfl, rfl⟩))
set_option maxRecDepth 100000 in
set_option maxHeartbeats 1000000 in
theorem px (F : Nat) (r1 : Bool) (H : iK F = some r1) : ACalls Tryz.prog 10 [] [] (Ret (B r1) []) := by
 unfold iK at H
 refine az Tryz.func10 rfl rfl ?_;show AW _ _ 34 _ _ _;refine ah <| ac ?_;show AR _ _ _ _ _ [0] _;refine za rfl <| ai <| ah ?_;obtain ⟨x3, e4, H⟩ := cu H;refine ac ?_;show AR _ _ _ _ _ [0, 1, 2, 3, 4, 5, 6, 7, 8] _;refine zX rfl (ir (E := Enc.byte) (bytes := 1) (xs := [.const _, .const _, .const _]) (l := ([120, 13, 10] : List UInt8)) ab (by kernel_rfl) rfl rfl (by decide) rfl rfl) ?_;rintro _ _ ⟨t2, rfl, rfl⟩;refine zR rfl (fA 0 ab aO rfl (by simp) rfl) <| aq rfl rfl (aU rfl uV rfl (oJ F ([97, 64, 98] : List UInt8) ([99, 64, 100] : List UInt8) ([104] : List UInt8) ([120, 13, 10] : List UInt8) (some t2) x3.1 x3.2.1 x3.2.2.1 x3.2.2.2.1 x3.2.2.2.2.1 x3.2.2.2.2.2.1 x3.2.2.2.2.2.2 e4) ?_);refine zS rfl (ak (av := .tup _) rfl) <| zS rfl (aK (av := .agg _) rfl rfl) <| zS rfl (aK (av := .v _) rfl rfl) <| zX rfl (br (zs := [.int .i64 0, .int .i64 0, .string ⟨#[]⟩, .string ⟨#[]⟩, .string ⟨#[]⟩, .slice none 0 0]) (by kernel_rfl)) ?_;rintro _ _ ⟨o5, rfl, rfl⟩;refine s0 rfl rfl (aH (i := 0) (vs := [i64 x3.1, i64 x3.2.1, S x3.2.2.1, S x3.2.2.2.1, S x3.2.2.2.2.1, slE Enc.byte x3.2.2.2.2.2.1 none]) (by kernel_rfl) rfl rfl (by simp [bk, slE]) rfl (aa rfl)) <| dx 1 0 rfl rfl ?_;show AR _ _ _ _ _ _ ⟨_, _, [.tok t2 5]⟩
 refine za rfl <| ai <| bK (X := Nat × (List UInt8) × Int × Int × (List UInt8) × (List UInt8) × (List UInt8) × (List UInt8)) (fun (o13, y14, y15, y16, y17, y18, y19, y20) => ⟨[(2, i64 x3.2.2.2.2.2.2), (3, .pt o13 0), (4, slE Enc.byte y14 none)], [], [.obj o13 [i64 y15, i64 y16, S y17, S y18, S y19, slE Enc.byte y20 none]]⟩) (fun (o13, y14, y15, y16, y17, y18, y19, y20) => gS x3 y14 y15 y16 y17 y18 y19 y20 = some r1) ?_ ?_
 ·obtain ⟨x6, e7, H⟩ := cu H;obtain ⟨x8, e9, H⟩ := cu H;refine bA (by kernel_rfl) ?_;show AI _ _ _ _ _ 9 (Array.replicate 9 false) _;refine zk 0 rfl (bh aA rfl (n := 6) (by kernel_rfl) rfl (aa rfl)) ?_;show AI _ _ _ _ _ _ #[true, false, false, false, false, false, false, false, false] _;refine cA (i := 1) (j := 6) (by kernel_rfl) rfl rfl rfl rfl ?_ ?_
  ·refine bD rfl qw rfl (mu F x6 e7) ?_;show AI _ _ _ _ _ _ #[true, true, false, false, false, false, false, false, false] _;refine cA (i := 2) (j := 6) (by kernel_rfl) rfl rfl rfl rfl ?_ ?_
   ·refine bD rfl ny rfl (mD F x3.1 x3.2.1 x3.2.2.1 x3.2.2.2.1 x3.2.2.2.2.1 x3.2.2.2.2.2.1 x6 none x8.1 x8.2.1 x8.2.2.1 x8.2.2.2.1 x8.2.2.2.2.1 x8.2.2.2.2.2.1 x8.2.2.2.2.2.2 e9) ?_;show AI _ _ _ _ _ _ #[true, true, true, false, false, false, false, false, false] _;refine zk 3 rfl (ak (av := .tup _) rfl) ?_;show AI _ _ _ _ _ _ #[true, true, true, true, false, false, false, false, false] _;refine zk 4 rfl (aK (av := .agg _) rfl rfl) ?_;show AI _ _ _ _ _ _ #[true, true, true, true, true, false, false, false, false] _;refine zk 5 rfl (aK (av := slE _ _ _) rfl rfl) ?_;show AI _ _ _ _ _ _ #[true, true, true, true, true, true, false, false, false] _;refine aN (i := 6) (by kernel_rfl) rfl rfl <| dd rfl (br (zs := [.int .i64 0, .int .i64 0, .string ⟨#[]⟩, .string ⟨#[]⟩, .string ⟨#[]⟩, .slice none 0 0]) (by kernel_rfl)) ?_;rintro _ _ ⟨o10, rfl, rfl⟩;show AI _ _ _ _ _ _ #[true, true, true, true, true, true, true, false, false] _;refine aN (i := 7) (by kernel_rfl) rfl rfl <| cd (aH (i := 0) (vs := [i64 x8.1, i64 x8.2.1, S x8.2.2.1, S x8.2.2.2.1, S x8.2.2.2.2.1, slE Enc.byte x8.2.2.2.2.2.1 none]) (by kernel_rfl) rfl rfl (by simp [bk, slE]) rfl (aa rfl)) ?_;show AI _ _ _ _ _ _ #[true, true, true, true, true, true, true, true, false] _;refine zk 8 rfl (aB (av := slE _ _ _) rfl) ?_;show AI _ _ _ _ _ _ #[true, true, true, true, true, true, true, true, true] _;refine bo rfl ?_
    exact Exists.intro (o10, x8.2.2.2.2.2.2, x8.1, x8.2.1, x8.2.2.1, x8.2.2.2.1, x8.2.2.2.2.1, x8.2.2.2.2.2.1) ⟨H, aZ [0] (.cons (.refl _) (.cons (.refl _) (.cons (.refl _) (.nil _)))) rfl⟩
   ·refine dd rfl (br (zs := [.int .i64 0, .int .i64 0, .string ⟨#[]⟩, .string ⟨#[]⟩, .string ⟨#[]⟩, .slice none 0 0]) (by kernel_rfl)) ?_;rintro _ _ ⟨o11, rfl, rfl⟩;show AI _ _ _ _ _ _ #[true, true, false, false, false, false, true, false, false] _;refine aN (i := 2) (by kernel_rfl) rfl rfl <| bD rfl ny rfl (mD F x3.1 x3.2.1 x3.2.2.1 x3.2.2.2.1 x3.2.2.2.2.1 x3.2.2.2.2.2.1 x6 none x8.1 x8.2.1 x8.2.2.1 x8.2.2.2.1 x8.2.2.2.2.1 x8.2.2.2.2.2.1 x8.2.2.2.2.2.2 e9) ?_;show AI _ _ _ _ _ _ #[true, true, true, false, false, false, true, false, false] _;refine zk 3 rfl (ak (av := .tup _) rfl) ?_;show AI _ _ _ _ _ _ #[true, true, true, true, false, false, true, false, false] _;refine zk 4 rfl (aK (av := .agg _) rfl rfl) ?_;show AI _ _ _ _ _ _ #[true, true, true, true, true, false, true, false, false] _;refine zk 5 rfl (aK (av := slE _ _ _) rfl rfl) ?_;show AI _ _ _ _ _ _ #[true, true, true, true, true, true, true, false, false] _;refine aN (i := 7) (by kernel_rfl) rfl rfl <| cd (aH (i := 0) (vs := [i64 x8.1, i64 x8.2.1, S x8.2.2.1, S x8.2.2.2.1, S x8.2.2.2.2.1, slE Enc.byte x8.2.2.2.2.2.1 none]) (by kernel_rfl) rfl rfl (by simp [bk, slE]) rfl (aa rfl)) ?_;show AI _ _ _ _ _ _ #[true, true, true, true, true, true, true, true, false] _;refine zk 8 rfl (aB (av := slE _ _ _) rfl) ?_;show AI _ _ _ _ _ _ #[true, true, true, true, true, true, true, true, true] _;refine bo rfl ?_
    exact Exists.intro (o11, x8.2.2.2.2.2.2, x8.1, x8.2.1, x8.2.2.1, x8.2.2.2.1, x8.2.2.2.2.1, x8.2.2.2.2.2.1) ⟨H, aZ [0] (.cons (.refl _) (.cons (.refl _) (.cons (.refl _) (.nil _)))) rfl⟩
  ·refine dd rfl (br (zs := [.int .i64 0, .int .i64 0, .string ⟨#[]⟩, .string ⟨#[]⟩, .string ⟨#[]⟩, .slice none 0 0]) (by kernel_rfl)) ?_;rintro _ _ ⟨o12, rfl, rfl⟩;show AI _ _ _ _ _ _ #[true, false, false, false, false, false, true, false, false] _;refine aN (i := 1) (by kernel_rfl) rfl rfl <| bD rfl qw rfl (mu F x6 e7) ?_;show AI _ _ _ _ _ _ #[true, true, false, false, false, false, true, false, false] _;refine aN (i := 2) (by kernel_rfl) rfl rfl <| bD rfl ny rfl (mD F x3.1 x3.2.1 x3.2.2.1 x3.2.2.2.1 x3.2.2.2.2.1 x3.2.2.2.2.2.1 x6 none x8.1 x8.2.1 x8.2.2.1 x8.2.2.2.1 x8.2.2.2.2.1 x8.2.2.2.2.2.1 x8.2.2.2.2.2.2 e9) ?_;show AI _ _ _ _ _ _ #[true, true, true, false, false, false, true, false, false] _;refine zk 3 rfl (ak (av := .tup _) rfl) ?_;show AI _ _ _ _ _ _ #[true, true, true, true, false, false, true, false, false] _;refine zk 4 rfl (aK (av := .agg _) rfl rfl) ?_;show AI _ _ _ _ _ _ #[true, true, true, true, true, false, true, false, false] _;refine zk 5 rfl (aK (av := slE _ _ _) rfl rfl) ?_;show AI _ _ _ _ _ _ #[true, true, true, true, true, true, true, false, false] _;refine aN (i := 7) (by kernel_rfl) rfl rfl <| cd (aH (i := 0) (vs := [i64 x8.1, i64 x8.2.1, S x8.2.2.1, S x8.2.2.2.1, S x8.2.2.2.2.1, slE Enc.byte x8.2.2.2.2.2.1 none]) (by kernel_rfl) rfl rfl (by simp [bk, slE]) rfl (aa rfl)) ?_;show AI _ _ _ _ _ _ #[true, true, true, true, true, true, true, true, false] _;refine zk 8 rfl (aB (av := slE _ _ _) rfl) ?_
   show AI _ _ _ _ _ _ #[true, true, true, true, true, true, true, true, true] _;refine bo rfl ?_;exact Exists.intro (o12, x8.2.2.2.2.2.2, x8.1, x8.2.1, x8.2.2.1, x8.2.2.2.1, x8.2.2.2.2.1, x8.2.2.2.2.2.1) ⟨H, aZ [0] (.cons (.refl _) (.cons (.refl _) (.cons (.refl _) (.nil _)))) rfl⟩
 rintro ⟨o13, y14, y15, y16, y17, y18, y19, y20⟩ H;replace H : gS x3 y14 y15 y16 y17 y18 y19 y20 = some r1 := H
 unfold gS at H
 refine ah <| ac ?_;show AR _ _ _ _ _ [0, 1, 2, 3, 4, 5, 6, 7, 8, 9, 10, 11, 12, 13, 14, 15, 16, 17] _;refine zm rfl <| zS rfl (bt rfl rfl) <| zm rfl <| aG (l := [7, 8, 9, 10, 11, 12, 13, 14, 15, 16, 17]) 23 (B ((decide (x3.2.2.2.2.2.2 = 0)) && (decide (y16 = 1)))) (fun K => ?_) ?_
 ·rcases af (decide (x3.2.2.2.2.2.2 = 0)) with h22 | h22
  ·refine zU h22 rfl (aj (n := 1) (by kernel_rfl) rfl) <| zT h22 rfl (ca rfl rfl (al (i := 0) aw rfl rfl rfl rfl) ?_);refine zU h22 rfl (bt rfl rfl) <| zS rfl (ap (av := .v _) rfl h22 rfl) ?_;exact K _ 3 _ (am (bI h22)) rfl rfl
  ·refine zF h22 rfl <| zF h22 rfl <| zF h22 rfl <| zS rfl (ao (av := .v _) rfl h22 rfl) ?_;exact K _ 3 _ (am (bJ h22)) rfl rfl
 refine zm rfl <| aG (l := [12, 13, 14, 15, 16, 17]) 28 (B (((decide (x3.2.2.2.2.2.2 = 0)) && (decide (y16 = 1))) && (decide (y15 = 7)))) (fun K => ?_) ?_
 ·rcases af ((decide (x3.2.2.2.2.2.2 = 0)) && (decide (y16 = 1))) with h23 | h23
  ·refine zU h23 rfl (aj (n := 0) (by kernel_rfl) rfl) <| zT h23 rfl (ca rfl rfl (al (i := 0) aw rfl rfl rfl rfl) ?_);refine zU h23 rfl (bt rfl rfl) <| zS rfl (ap (av := .v _) rfl h23 rfl) ?_;exact K _ 3 _ (am (bI h23)) rfl rfl
  ·refine zF h23 rfl <| zF h23 rfl <| zF h23 rfl <| zS rfl (ao (av := .v _) rfl h23 rfl) ?_;exact K _ 3 _ (am (bJ h23)) rfl rfl
 refine zm rfl <| aG (l := [17]) 33 (B ((((decide (x3.2.2.2.2.2.2 = 0)) && (decide (y16 = 1))) && (decide (y15 = 7))) && (decide (y14 = tJ)))) (fun K => ?_) ?_
 ·rcases af (((decide (x3.2.2.2.2.2.2 = 0)) && (decide (y16 = 1))) && (decide (y15 = 7))) with h24 | h24
  ·refine zU h24 rfl (ak (av := slE _ _ _) rfl) <| zU h24 rfl (cr ab aO ag rfl) <| zU h24 rfl (ig rfl rfl) <| zS rfl (ap (av := .v _) rfl h24 rfl) ?_;exact K _ 3 _ (am (bI h24)) rfl rfl
  ·refine zF h24 rfl <| zF h24 rfl <| zF h24 rfl <| zS rfl (ao (av := .v _) rfl h24 rfl) ?_;exact K _ 3 _ (am (bJ h24)) rfl rfl
 refine za rfl <| ai <| aQ ?_;obtain rfl := ay H;exact And.intro rfl (Exists.intro _ (Exists.intro _ ⟨aV rfl (.refl _), aL [] rfl, rfl, rfl⟩))
set_option maxRecDepth 100000 in
set_option maxHeartbeats 1000000 in
theorem rC (F : Nat) (a1 : Int) (a2 : Int) (a3 : List UInt8) (a4 : List UInt8) (a5 : List UInt8) (a6 : List UInt8) (r7 : Bool) (H : jZ F a1 a2 a3 a4 a5 a6 = some r7) : ACalls Tryz.prog 11 [.agg [i64 a1, i64 a2, S a3, S a4, S a5, slE Enc.byte a6 none]] [] (Ret (B r7) []) := by
 unfold jZ at H
 refine az Tryz.func11 rfl rfl ?_;show AW _ _ 25 _ _ _;refine ah <| ac ?_;show AR _ _ _ _ _ [0, 1] _;refine zR rfl (cP rfl (.inr ⟨_, rfl⟩)) <| za rfl <| ai <| ah <| ac ?_;show AR _ _ _ _ _ [0, 1, 2, 3, 4, 5, 6, 7, 8, 9, 10, 11, 12, 13, 14, 15, 16, 17, 18, 19, 20, 21, 22] _;refine zS rfl (aM (n := 2) (by kernel_rfl) rfl (aa rfl)) <| zS rfl (aF ag rfl rfl) <| zS rfl (bb ag rfl) <| zS rfl (cL rfl rfl) <| zm rfl <| aG (l := [10, 11, 12, 13, 14, 15, 16, 17, 18, 19, 20, 21, 22]) 12 (B ((decide ((a3.length : Int) ≤ 100)) && (decide ((a4.length : Int) ≤ 100)))) (fun K => ?_) ?_
 ·rcases af (decide ((a3.length : Int) ≤ 100)) with h8 | h8
  ·refine zU h8 rfl (aM (n := 3) (by kernel_rfl) rfl (aa rfl)) <| zU h8 rfl (aF ag rfl rfl) <| zU h8 rfl (bb ag rfl) <| zU h8 rfl (cL rfl rfl) <| zS rfl (ap (av := .v _) rfl h8 rfl) ?_;exact K _ 4 _ (am (bI h8)) rfl rfl
  ·refine zF h8 rfl <| zF h8 rfl <| zF h8 rfl <| zF h8 rfl <| zS rfl (ao (av := .v _) rfl h8 rfl) ?_;exact K _ 4 _ (am (bJ h8)) rfl rfl
 refine zm rfl <| aG (l := [16, 17, 18, 19, 20, 21, 22]) 18 (B (((decide ((a3.length : Int) ≤ 100)) && (decide ((a4.length : Int) ≤ 100))) && (decide ((a5.length : Int) ≤ 100)))) (fun K => ?_) ?_
 ·rcases af ((decide ((a3.length : Int) ≤ 100)) && (decide ((a4.length : Int) ≤ 100))) with h9 | h9
  ·refine zU h9 rfl (aM (n := 4) (by kernel_rfl) rfl (aa rfl)) <| zU h9 rfl (aF ag rfl rfl) <| zU h9 rfl (bb ag rfl) <| zU h9 rfl (cL rfl rfl) <| zS rfl (ap (av := .v _) rfl h9 rfl) ?_;exact K _ 4 _ (am (bI h9)) rfl rfl
  ·refine zF h9 rfl <| zF h9 rfl <| zF h9 rfl <| zF h9 rfl <| zS rfl (ao (av := .v _) rfl h9 rfl) ?_;exact K _ 4 _ (am (bJ h9)) rfl rfl
 refine zm rfl <| aG (l := [22]) 24 (B ((((decide ((a3.length : Int) ≤ 100)) && (decide ((a4.length : Int) ≤ 100))) && (decide ((a5.length : Int) ≤ 100))) && (decide ((a6.length : Int) ≤ 600)))) (fun K => ?_) ?_
 ·rcases af (((decide ((a3.length : Int) ≤ 100)) && (decide ((a4.length : Int) ≤ 100))) && (decide ((a5.length : Int) ≤ 100))) with h10 | h10
  ·refine zU h10 rfl (aM (n := 5) (by kernel_rfl) rfl (aa rfl)) <| zU h10 rfl (aF ab rfl rfl) <| zU h10 rfl (bc ab rfl) <| zU h10 rfl (cL rfl rfl) <| zS rfl (ap (av := .v _) rfl h10 rfl) ?_;exact K _ 4 _ (am (bI h10)) rfl rfl
  ·refine zF h10 rfl <| zF h10 rfl <| zF h10 rfl <| zF h10 rfl <| zS rfl (ao (av := .v _) rfl h10 rfl) ?_;exact K _ 4 _ (am (bJ h10)) rfl rfl
 refine za rfl <| ai <| aQ ?_;obtain rfl := ay H;exact And.intro rfl (Exists.intro _ (Exists.intro _ ⟨aV rfl (.refl _), aL [] rfl, rfl, rfl⟩))
set_option maxRecDepth 100000 in
set_option maxHeartbeats 1000000 in
theorem mr (F : Nat) (a1 : Int) (a2 : Int) (a3 : List UInt8) (a4 : List UInt8) (a5 : List UInt8) (a6 : List UInt8) (a7 : Int) (a8 : Int) (a9 : List UInt8) (a10 : List UInt8) (a11 : List UInt8) (a12 : List UInt8) (r13 : Bool) (H : ip F a1 a2 a3 a4 a5 a6 a7 a8 a9 a10 a11 a12 = some r13) : ACalls Tryz.prog 14 [.agg [i64 a1, i64 a2, S a3, S a4, S a5, slE Enc.byte a6 none], .agg [i64 a7, i64 a8, S a9, S a10, S a11, slE Enc.byte a12 none]] [] (Ret (B r13) []) := by
 unfold ip at H
 refine az Tryz.func14 rfl rfl ?_;show AW _ _ 47 _ _ _;refine ah <| ac ?_;show AR _ _ _ _ _ [0, 1, 2] _;refine zR rfl (cP rfl (.inr ⟨_, rfl⟩)) <| zR rfl (cP rfl (.inr ⟨_, rfl⟩)) <| za rfl <| ai <| ah <| ac ?_;show AR _ _ _ _ _ [0, 1, 2, 3, 4, 5, 6, 7, 8, 9, 10, 11, 12, 13, 14, 15, 16, 17, 18, 19, 20, 21, 22, 23, 24, 25, 26, 27, 28, 29, 30, 31, 32, 33, 34, 35, 36, 37, 38, 39, 40, 41, 42] _;refine zS rfl (aM (n := 0) (by kernel_rfl) rfl (aa rfl)) <| zS rfl (aF aw rfl rfl) <| zS rfl (aM (n := 0) (by kernel_rfl) rfl (aa rfl)) <| zS rfl (aF aw rfl rfl) <| zS rfl (bt rfl rfl) <| zm rfl <| aG (l := [12, 13, 14, 15, 16, 17, 18, 19, 20, 21, 22, 23, 24, 25, 26, 27, 28, 29, 30, 31, 32, 33, 34, 35, 36, 37, 38, 39, 40, 41, 42]) 16 (B ((decide (a1 = a7)) && (decide (a2 = a8)))) (fun K => ?_) ?_
 ·rcases af (decide (a1 = a7)) with h14 | h14
  ·refine zU h14 rfl (aM (n := 1) (by kernel_rfl) rfl (aa rfl)) <| zU h14 rfl (aF aw rfl rfl) <| zU h14 rfl (aM (n := 1) (by kernel_rfl) rfl (aa rfl)) <| zU h14 rfl (aF aw rfl rfl) <| zU h14 rfl (bt rfl rfl) <| zS rfl (ap (av := .v _) rfl h14 rfl) ?_;exact K _ 5 _ (am (bI h14)) rfl rfl
  ·refine zF h14 rfl <| zF h14 rfl <| zF h14 rfl <| zF h14 rfl <| zF h14 rfl <| zS rfl (ao (av := .v _) rfl h14 rfl) ?_;exact K _ 5 _ (am (bJ h14)) rfl rfl
 refine zm rfl <| aG (l := [19, 20, 21, 22, 23, 24, 25, 26, 27, 28, 29, 30, 31, 32, 33, 34, 35, 36, 37, 38, 39, 40, 41, 42]) 23 (B (((decide (a1 = a7)) && (decide (a2 = a8))) && (decide (a3 = a9)))) (fun K => ?_) ?_
 ·rcases af ((decide (a1 = a7)) && (decide (a2 = a8))) with h15 | h15
  ·refine zU h15 rfl (aM (n := 2) (by kernel_rfl) rfl (aa rfl)) <| zU h15 rfl (aF ag rfl rfl) <| zU h15 rfl (aM (n := 2) (by kernel_rfl) rfl (aa rfl)) <| zU h15 rfl (aF ag rfl rfl) <| zU h15 rfl (ig rfl rfl) <| zS rfl (ap (av := .v _) rfl h15 rfl) ?_;exact K _ 5 _ (am (bI h15)) rfl rfl
  ·refine zF h15 rfl <| zF h15 rfl <| zF h15 rfl <| zF h15 rfl <| zF h15 rfl <| zS rfl (ao (av := .v _) rfl h15 rfl) ?_;exact K _ 5 _ (am (bJ h15)) rfl rfl
 refine zm rfl <| aG (l := [26, 27, 28, 29, 30, 31, 32, 33, 34, 35, 36, 37, 38, 39, 40, 41, 42]) 30 (B ((((decide (a1 = a7)) && (decide (a2 = a8))) && (decide (a3 = a9))) && (decide (a4 = a10)))) (fun K => ?_) ?_
 ·rcases af (((decide (a1 = a7)) && (decide (a2 = a8))) && (decide (a3 = a9))) with h16 | h16
  ·refine zU h16 rfl (aM (n := 3) (by kernel_rfl) rfl (aa rfl)) <| zU h16 rfl (aF ag rfl rfl) <| zU h16 rfl (aM (n := 3) (by kernel_rfl) rfl (aa rfl)) <| zU h16 rfl (aF ag rfl rfl) <| zU h16 rfl (ig rfl rfl) <| zS rfl (ap (av := .v _) rfl h16 rfl) ?_;exact K _ 5 _ (am (bI h16)) rfl rfl
  ·refine zF h16 rfl <| zF h16 rfl <| zF h16 rfl <| zF h16 rfl <| zF h16 rfl <| zS rfl (ao (av := .v _) rfl h16 rfl) ?_;exact K _ 5 _ (am (bJ h16)) rfl rfl
 refine zm rfl <| aG (l := [33, 34, 35, 36, 37, 38, 39, 40, 41, 42]) 37 (B (((((decide (a1 = a7)) && (decide (a2 = a8))) && (decide (a3 = a9))) && (decide (a4 = a10))) && (decide (a5 = a11)))) (fun K => ?_) ?_
 ·rcases af ((((decide (a1 = a7)) && (decide (a2 = a8))) && (decide (a3 = a9))) && (decide (a4 = a10))) with h17 | h17
  ·refine zU h17 rfl (aM (n := 4) (by kernel_rfl) rfl (aa rfl)) <| zU h17 rfl (aF ag rfl rfl) <| zU h17 rfl (aM (n := 4) (by kernel_rfl) rfl (aa rfl)) <| zU h17 rfl (aF ag rfl rfl) <| zU h17 rfl (ig rfl rfl) <| zS rfl (ap (av := .v _) rfl h17 rfl) ?_;exact K _ 5 _ (am (bI h17)) rfl rfl
  ·refine zF h17 rfl <| zF h17 rfl <| zF h17 rfl <| zF h17 rfl <| zF h17 rfl <| zS rfl (ao (av := .v _) rfl h17 rfl) ?_;exact K _ 5 _ (am (bJ h17)) rfl rfl
 refine zm rfl <| aG (l := [42]) 46 (B ((((((decide (a1 = a7)) && (decide (a2 = a8))) && (decide (a3 = a9))) && (decide (a4 = a10))) && (decide (a5 = a11))) && (decide (a6 = a12)))) (fun K => ?_) ?_
 ·rcases af (((((decide (a1 = a7)) && (decide (a2 = a8))) && (decide (a3 = a9))) && (decide (a4 = a10))) && (decide (a5 = a11))) with h18 | h18
  ·refine zU h18 rfl (aM (n := 5) (by kernel_rfl) rfl (aa rfl)) <| zU h18 rfl (aF ab rfl rfl) <| zU h18 rfl (cr ab aO ag rfl) <| zU h18 rfl (aM (n := 5) (by kernel_rfl) rfl (aa rfl)) <| zU h18 rfl (aF ab rfl rfl) <| zU h18 rfl (cr ab aO ag rfl) <| zU h18 rfl (ig rfl rfl) <| zS rfl (ap (av := .v _) rfl h18 rfl) ?_;exact K _ 7 _ (am (bI h18)) rfl rfl
  ·refine zF h18 rfl <| zF h18 rfl <| zF h18 rfl <| zF h18 rfl <| zF h18 rfl <| zF h18 rfl <| zF h18 rfl <| zS rfl (ao (av := .v _) rfl h18 rfl) ?_;exact K _ 7 _ (am (bJ h18)) rfl rfl
 refine za rfl <| ai <| aQ ?_;obtain rfl := ay H;exact And.intro rfl (Exists.intro _ (Exists.intro _ ⟨aV rfl (.refl _), aL [] rfl, rfl, rfl⟩))
set_option maxRecDepth 100000 in
set_option maxHeartbeats 1000000 in
theorem nA (F : Nat) (a1 : List UInt8) (q2 : Option Nat) (r3 : Bool) (H : jg F a1 = some r3) : ACalls Tryz.prog 33 [slE Enc.byte a1 q2] [] (Ret (B r3) []) := by
 unfold jg at H
 refine az Tryz.func33 rfl rfl ?_;show AW _ _ 61 _ _ _;refine ah <| ac ?_;show AR _ _ _ _ _ [0] _;refine za rfl <| ai <| bK (X := Unit) (fun _ => ⟨[(0, slE Enc.byte a1 q2)], [], []⟩) (fun _ => fW a1 = some r3) ?_ ?_
 ·refine ah <| ac ?_;show AR _ _ _ _ _ [0] _;refine za rfl <| ai <| be <| cN (X := Nat × Int) (fun (n6, y4) => ⟨[(0, slE Enc.byte a1 q2), (3, i64 y4)], [], []⟩) (fun (n6, y4) => hM a1 n6 y4 = some r3) (fun (n6, y4) => n6) (F, 0) H (aZ [] (.cons (.refl _) (.cons (.refl _) (.nil _))) rfl) ?_;rintro ⟨n6, y4⟩ H;obtain ⟨n6, rfl, H⟩ := dK H;replace H : hO a1 (hM a1 n6) y4 = some r3 := H
  unfold hO at H
  refine ah <| ah <| ac ?_;show AR _ _ _ _ _ [0, 1, 2, 3] _;refine zm rfl <| zS rfl (ak (av := slE _ _ _) rfl) <| zS rfl (bc ab rfl) <| zS rfl (bN rfl rfl) <| ai <| aE rfl (fun c7 => ?_) (fun c7 => ?_)
  ·replace H := bg c7 H;refine aJ <| ah <| be <| ah ?_;obtain ⟨g8, H⟩ := aY H;obtain ⟨x9, e10, H⟩ := bP H;obtain ⟨g12, H⟩ := cq H;obtain ⟨g14, H⟩ := cq H;obtain ⟨g15, H⟩ := cq H;obtain ⟨x16, e17, H⟩ := bP H;obtain ⟨g19, H⟩ := cq H;obtain ⟨x20, e21, H⟩ := bP H;obtain ⟨g24, H⟩ := cq H;obtain ⟨g25, H⟩ := cq H;obtain ⟨x26, e27, H⟩ := bP H;refine ac ?_;show AR _ _ _ _ _ [0, 1, 2, 3, 4, 5, 6, 7, 8, 9, 10, 11, 12, 13, 14, 15, 16, 17, 18, 19, 20, 21, 22, 23, 24, 25, 26, 27, 28, 29, 30, 31, 32, 33, 34, 35, 36, 37, 38] _;refine zS rfl (ak (av := slE _ _ _) rfl) <| zm rfl <| zS rfl (bL (E := Enc.byte) ab (by kernel_rfl) rfl rfl g8 e10) <| zS rfl (aF aO rfl rfl) <| zS rfl (dr (a := x9) (b := 13) rfl rfl) <| zm rfl <| aG (l := [20, 21, 22, 23, 24, 25, 26, 27, 28, 29, 30, 31, 32, 33, 34, 35, 36, 37, 38]) 29 (B ((decide (x9 = 13)) && ((decide ((a1.length : Int) ≤ y4 + 1)) || (!decide (x16 = 10))))) (fun K => ?_) ?_
   ·rcases af (decide (x9 = 13)) with h11 | h11
    ·refine zM h11 rfl <| zU h11 rfl (dE rfl rfl (g12 h11)) <| zU h11 rfl (ak (av := slE _ _ _) rfl) <| zU h11 rfl (bc ab rfl) <| zU h11 rfl (di rfl rfl) <| zM h11 rfl <| aG (l := [19, 20, 21, 22, 23, 24, 25, 26, 27, 28, 29, 30, 31, 32, 33, 34, 35, 36, 37, 38]) 28 (B ((decide ((a1.length : Int) ≤ y4 + 1)) || (!decide (x16 = 10)))) (fun K => ?_) ?_
     ·rcases af (decide ((a1.length : Int) ≤ y4 + 1)) with h13 | h13
      ·refine zF h13 rfl <| zF h13 rfl <| zF h13 rfl <| zF h13 rfl <| zF h13 rfl <| zF h13 rfl <| zU h11 rfl (ap (av := .v _) rfl h13 rfl) ?_;exact K _ 6 _ (am (dz h13)) rfl rfl
      ·refine zU h13 rfl (ak (av := slE _ _ _) rfl) <| zM h13 rfl <| zU h13 rfl (dE rfl rfl (g14 (eH h11 (nf h13)))) <| zU h13 rfl (bL (E := Enc.byte) ab (by kernel_rfl) rfl rfl (g15 (eH h11 (nf h13))) e17) <| zU h13 rfl (aF aO rfl rfl) <| zU h13 rfl (sC (a := x16) (b := 10) rfl rfl) <| zU h11 rfl (ao (av := .v _) rfl h13 rfl) ?_;exact K _ 6 _ (am (dA h13)) rfl rfl
     refine zS rfl (ap (av := .v _) rfl h11 rfl) ?_;exact K _ 7 _ (am (bI h11)) rfl rfl
    ·refine zF h11 rfl <| zF h11 rfl <| zF h11 rfl <| zF h11 rfl <| zF h11 rfl <| zF h11 rfl <| gU rfl rfl rfl rfl rfl <| gU rfl rfl rfl rfl rfl <| gU rfl rfl rfl rfl rfl <| gU rfl rfl rfl rfl rfl <| gU rfl rfl rfl rfl rfl <| gU rfl rfl rfl rfl rfl <| zF h11 rfl <| zS rfl (ao (av := .v _) rfl h11 rfl) ?_;exact K _ 13 _ (am (bJ h11)) rfl rfl
   refine zm rfl <| aG (l := []) 48 (B (((decide (x9 = 13)) && ((decide ((a1.length : Int) ≤ y4 + 1)) || (!decide (x16 = 10)))) || ((decide (x20 = 10)) && ((decide (y4 = 0)) || (!decide (x26 = 13)))))) (fun K => ?_) ?_
   ·rcases af ((decide (x9 = 13)) && ((decide ((a1.length : Int) ≤ y4 + 1)) || (!decide (x16 = 10)))) with h18 | h18
    ·refine zF h18 rfl <| zF h18 rfl <| zF h18 rfl <| zF h18 rfl <| zF h18 rfl <| zF h18 rfl <| gU rfl rfl rfl rfl rfl <| gU rfl rfl rfl rfl rfl <| gU rfl rfl rfl rfl rfl <| gU rfl rfl rfl rfl rfl <| gU rfl rfl rfl rfl rfl <| gU rfl rfl rfl rfl rfl <| gU rfl rfl rfl rfl rfl <| gU rfl rfl rfl rfl rfl <| gU rfl rfl rfl rfl rfl <| gU rfl rfl rfl rfl rfl <| zF h18 rfl <| zS rfl (ap (av := .v _) rfl h18 rfl) ?_;exact K _ 17 _ (am (dz h18)) rfl rfl
    ·refine zU h18 rfl (ak (av := slE _ _ _) rfl) <| zM h18 rfl <| zU h18 rfl (bL (E := Enc.byte) ab (by kernel_rfl) rfl rfl (g19 (nf h18)) e21) <| zU h18 rfl (aF aO rfl rfl) <| zU h18 rfl (dr (a := x20) (b := 10) rfl rfl) <| zM h18 rfl <| aG (l := [38]) 47 (B ((decide (x20 = 10)) && ((decide (y4 = 0)) || (!decide (x26 = 13))))) (fun K => ?_) ?_
     ·rcases af (decide (x20 = 10)) with h22 | h22
      ·refine zM h22 rfl <| zU h22 rfl (bt rfl rfl) <| zM h22 rfl <| aG (l := [37, 38]) 46 (B ((decide (y4 = 0)) || (!decide (x26 = 13)))) (fun K => ?_) ?_
       ·rcases af (decide (y4 = 0)) with h23 | h23
        ·refine zF h23 rfl <| zF h23 rfl <| zF h23 rfl <| zF h23 rfl <| zF h23 rfl <| zF h23 rfl <| zU h22 rfl (ap (av := .v _) rfl h23 rfl) ?_;exact K _ 6 _ (am (dz h23)) rfl rfl
        ·refine zU h23 rfl (ak (av := slE _ _ _) rfl) <| zM h23 rfl <| zU h23 rfl (kN rfl rfl (g24 (eH (eH (nf h18) h22) (nf h23)))) <| zU h23 rfl (bL (E := Enc.byte) ab (by kernel_rfl) rfl rfl (g25 (eH (eH (nf h18) h22) (nf h23))) e27) <| zU h23 rfl (aF aO rfl rfl) <| zU h23 rfl (sC (a := x26) (b := 13) rfl rfl) <| zU h22 rfl (ao (av := .v _) rfl h23 rfl) ?_;exact K _ 6 _ (am (dA h23)) rfl rfl
       refine zU h18 rfl (ap (av := .v _) rfl h22 rfl) ?_;exact K _ 4 _ (am (bI h22)) rfl rfl
      ·refine zF h22 rfl <| zF h22 rfl <| zF h22 rfl <| gU rfl rfl rfl rfl rfl <| gU rfl rfl rfl rfl rfl <| gU rfl rfl rfl rfl rfl <| gU rfl rfl rfl rfl rfl <| gU rfl rfl rfl rfl rfl <| gU rfl rfl rfl rfl rfl <| zF h22 rfl <| zU h18 rfl (ao (av := .v _) rfl h22 rfl) ?_;exact K _ 10 _ (am (bJ h22)) rfl rfl
     refine zS rfl (ao (av := .v _) rfl h18 rfl) ?_;exact K _ 7 _ (am (dA h18)) rfl rfl
   refine ai <| aE rfl (fun c28 => ?_) (fun c28 => ?_)
   ·replace H := bg c28 H;refine ah <| ac ?_;show AR _ _ _ _ _ [0] _;refine za rfl <| ai <| aQ ?_;obtain rfl := ay H;exact And.intro rfl (Exists.intro _ (Exists.intro _ ⟨aV rfl (.refl _), aL [] rfl, rfl, rfl⟩))
   ·replace H := ba c28 H;refine aJ ?_;obtain ⟨g29, H⟩ := aY H;refine ac ?_;show AR _ _ _ _ _ [0, 1, 2] _;refine zm rfl <| zS rfl (dE rfl rfl g29) <| za rfl <| ai ?_;exact Exists.intro (n6, y4 + 1) ⟨H, Nat.lt_succ_self _, aZ [] (.cons (.refl _) (.cons (.refl _) (.nil _))) rfl⟩
  ·replace H := ba c7 H;refine cH ?_;exact Exists.intro () ⟨H, aZ [] (.cons (.refl _) (.nil _)) rfl⟩
 rintro _ H;replace H : fW a1 = some r3 := H
 unfold fW at H
 refine ah ?_;obtain ⟨g32, H⟩ := cq H;obtain ⟨g33, H⟩ := cq H;obtain ⟨x34, e35, H⟩ := bP H;refine ac ?_;show AR _ _ _ _ _ [0, 1, 2, 3, 4, 5, 6, 7, 8, 9, 10, 11, 12] _;refine zS rfl (ak (av := slE _ _ _) rfl) <| zS rfl (bc ab rfl) <| zS rfl (bt rfl rfl) <| zm rfl <| aG (l := [12]) 60 (B ((decide ((a1.length : Int) = 0)) || (decide (x34 = 10)))) (fun K => ?_) ?_
 ·rcases af (decide ((a1.length : Int) = 0)) with h31 | h31
  ·refine zF h31 rfl <| zF h31 rfl <| zF h31 rfl <| zF h31 rfl <| zF h31 rfl <| zF h31 rfl <| zF h31 rfl <| zS rfl (ap (av := .v _) rfl h31 rfl) ?_;exact K _ 7 _ (am (dz h31)) rfl rfl
  ·refine zU h31 rfl (ak (av := slE _ _ _) rfl) <| zU h31 rfl (ak (av := slE _ _ _) rfl) <| zU h31 rfl (bc ab rfl) <| zU h31 rfl (kN rfl rfl (g32 (nf h31))) <| zU h31 rfl (bL (E := Enc.byte) ab (by kernel_rfl) rfl rfl (g33 (nf h31)) e35) <| zU h31 rfl (aF aO rfl rfl) <| zU h31 rfl (dr (a := x34) (b := 10) rfl rfl) <| zS rfl (ao (av := .v _) rfl h31 rfl) ?_;exact K _ 7 _ (am (dA h31)) rfl rfl
 refine za rfl <| ai <| aQ ?_;obtain rfl := ay H;exact And.intro rfl (Exists.intro _ (Exists.intro _ ⟨aV rfl (.refl _), aL [] rfl, rfl, rfl⟩))
set_option maxRecDepth 100000 in
set_option maxHeartbeats 1000000 in
theorem pv (F : Nat) (a1 : List UInt8) (q2 : Option Nat) (r3 : List UInt8) (r4 : Int) (H : iH F a1 = some (r3, r4)) : ACalls Tryz.prog 41 [slE Enc.byte a1 q2] [] (Ret (.tup [slE Enc.byte r3 none, i64 r4]) []) := by
 unfold iH at H
 refine az Tryz.func41 rfl rfl ?_;show AW _ _ 47 _ _ _;refine ah <| ac ?_;show AR _ _ _ _ _ [0, 1] _;refine za rfl <| za rfl <| ai <| ah ?_;obtain ⟨x5, e6, H⟩ := cu H;refine ac ?_;show AR _ _ _ _ _ [0, 1, 2] _;refine zS rfl (ak (av := slE _ _ _) rfl) <| aq rfl rfl (aU rfl uP rfl (nA F a1 q2 x5 e6) ?_);refine za rfl <| ai <| ah <| ah <| ac ?_;show AR _ _ _ _ _ [0, 1] _;refine zm rfl <| zS rfl (cW rfl) <| ai <| aE rfl (fun c7 => ?_) (fun c7 => ?_)
 ·replace H := bg c7 H;refine ah <| ac ?_;show AR _ _ _ _ _ [0, 1] _;refine za rfl <| za rfl <| ai <| aQ ?_;obtain ⟨rfl, rfl⟩ := gw H;exact And.intro rfl (Exists.intro _ (Exists.intro _ ⟨bV rfl (.nil _) (.refl _), aL [] rfl, rfl, rfl⟩))
 ·replace H := ba c7 H;refine aJ <| ah <| ac ?_;show AR _ _ _ _ _ [0] _;refine za rfl <| ai ?_
  refine iZ 5 1 5 rfl fun t8 => ?_
  show AW _ _ _ _ _ ⟨(5, slE Enc.byte [] (some t8)) :: _, _, _⟩;refine bK (X := (List UInt8) × Nat) (fun (y40, t41) => ⟨[(5, slE Enc.byte y40 (some t41))], [], [.tok t41 5]⟩) (fun (y40, t41) => fJ y40 = some (r3, r4)) ?_ ?_
  ·refine ah <| ac ?_;show AR _ _ _ _ _ [0] _;refine za rfl <| ai <| be <| cN (X := Nat × (List UInt8) × Nat × Int) (fun (n13, y9, t10, y11) => ⟨[(0, slE Enc.byte a1 q2), (5, slE Enc.byte y9 (some t10)), (6, i64 y11)], [], [.tok t10 5]⟩) (fun (n13, y9, t10, y11) => dt a1 n13 (y9, y11) = some (r3, r4)) (fun (n13, y9, t10, y11) => n13) (F, [], t8, 0) H (aZ [0] (.cons (.refl _) (.cons (.refl _) (.cons (.refl _) (.nil _)))) rfl) ?_;rintro ⟨n13, y9, t10, y11⟩ H;obtain ⟨n13, rfl, H⟩ := dK H;replace H : fK a1 (dt a1 n13) y9 y11 = some (r3, r4) := H
   unfold fK at H
   refine ah <| ah <| ac ?_;show AR _ _ _ _ _ [0, 1, 2, 3] _;refine zm rfl <| zS rfl (ak (av := slE _ _ _) rfl) <| zS rfl (bc ab rfl) <| zS rfl (bN rfl rfl) <| ai <| aE rfl (fun c14 => ?_) (fun c14 => ?_)
   ·replace H := bg c14 H;refine aJ <| ah <| be <| bK (X := (List UInt8) × Nat) (fun (y29, t30) => ⟨[(0, slE Enc.byte a1 q2), (5, slE Enc.byte y29 (some t30)), (6, i64 y11)], [], [.tok t30 5]⟩) (fun (y29, t30) => dT a1 y11 (dt a1 n13) y29 = some (r3, r4)) ?_ ?_
    ·refine ah ?_;obtain ⟨g15, H⟩ := aY H;obtain ⟨x16, e17, H⟩ := bP H;obtain ⟨g20, H⟩ := cq H;obtain ⟨g21, H⟩ := cq H;obtain ⟨x22, e23, H⟩ := bP H;refine ac ?_;show AR _ _ _ _ _ [0, 1, 2, 3, 4, 5, 6, 7, 8, 9, 10, 11, 12, 13, 14, 15, 16] _;refine zS rfl (ak (av := slE _ _ _) rfl) <| zm rfl <| zS rfl (bL (E := Enc.byte) ab (by kernel_rfl) rfl rfl g15 e17) <| zS rfl (aF aO rfl rfl) <| zS rfl (dr (a := x16) (b := 46) rfl rfl) <| zm rfl <| aG (l := []) 33 (B ((decide (x16 = 46)) && ((decide (y11 = 0)) || (decide (x22 = 10))))) (fun K => ?_) ?_
     ·rcases af (decide (x16 = 46)) with h18 | h18
      ·refine zM h18 rfl <| zU h18 rfl (bt rfl rfl) <| zM h18 rfl <| aG (l := [16]) 32 (B ((decide (y11 = 0)) || (decide (x22 = 10)))) (fun K => ?_) ?_
       ·rcases af (decide (y11 = 0)) with h19 | h19
        ·refine zF h19 rfl <| zF h19 rfl <| zF h19 rfl <| zF h19 rfl <| zF h19 rfl <| zF h19 rfl <| zU h18 rfl (ap (av := .v _) rfl h19 rfl) ?_;exact K _ 6 _ (am (dz h19)) rfl rfl
        ·refine zU h19 rfl (ak (av := slE _ _ _) rfl) <| zM h19 rfl <| zU h19 rfl (kN rfl rfl (g20 (eH h18 (nf h19)))) <| zU h19 rfl (bL (E := Enc.byte) ab (by kernel_rfl) rfl rfl (g21 (eH h18 (nf h19))) e23) <| zU h19 rfl (aF aO rfl rfl) <| zU h19 rfl (dr (a := x22) (b := 10) rfl rfl) <| zU h18 rfl (ao (av := .v _) rfl h19 rfl) ?_;exact K _ 6 _ (am (dA h19)) rfl rfl
       refine zS rfl (ap (av := .v _) rfl h18 rfl) ?_;exact K _ 4 _ (am (bI h18)) rfl rfl
      ·refine zF h18 rfl <| zF h18 rfl <| zF h18 rfl <| gU rfl rfl rfl rfl rfl <| gU rfl rfl rfl rfl rfl <| gU rfl rfl rfl rfl rfl <| gU rfl rfl rfl rfl rfl <| gU rfl rfl rfl rfl rfl <| gU rfl rfl rfl rfl rfl <| zF h18 rfl <| zS rfl (ao (av := .v _) rfl h18 rfl) ?_;exact K _ 10 _ (am (bJ h18)) rfl rfl
     refine ai <| aE rfl (fun c24 => ?_) (fun c24 => ?_)
     ·replace H := bg c24 H;obtain ⟨g26, H⟩ := aY H;obtain ⟨x27, e28, H⟩ := bP H;refine ac ?_;show AR _ _ _ _ _ [0, 1, 2, 3] _;refine zS rfl (ak (av := slE _ _ _) rfl) <| zR rfl (cF (E := Enc.byte) (bytes := 1) (xs := [.const _]) (l := ([46] : List UInt8)) ab (by kernel_rfl) rfl rfl (by decide) rfl rfl) <| zX rfl (df (E := Enc.byte) (bytes := 1) 0 ab ab rfl (by kernel_rfl) rfl rfl rfl rfl g26 e28) ?_;rintro _ _ ⟨t25, rfl, rfl⟩;refine zS rfl (aB (av := slE _ _ _) rfl) <| ai ?_;exact Exists.intro (x27, t25) ⟨H, aZ [0] (.cons (.refl _) (.cons (.refl _) (.cons (.refl _) (.nil _)))) rfl⟩
     ·replace H := ba c24 H;refine aJ ?_;exact Exists.intro (y9, t10) ⟨H, aZ [0] (.cons (.refl _) (.cons (.refl _) (.cons (.refl _) (.nil _)))) rfl⟩
    rintro ⟨y29, t30⟩ H;replace H : dT a1 y11 (dt a1 n13) y29 = some (r3, r4) := H
    unfold dT at H
    obtain ⟨g32, H⟩ := aY H;obtain ⟨x33, e34, H⟩ := bP H;obtain ⟨g36, H⟩ := aY H;obtain ⟨x37, e38, H⟩ := bP H;refine ac ?_;show AR _ _ _ _ _ [0, 1, 2, 3, 4, 5, 6, 7] _;refine zS rfl (ak (av := slE _ _ _) rfl) <| zS rfl (ak (av := slE _ _ _) rfl) <| zm rfl <| zS rfl (bL (E := Enc.byte) ab (by kernel_rfl) rfl rfl g32 e34) <| zS rfl (aF aO rfl rfl) <| zR rfl (cF (E := Enc.byte) (bytes := 1) (xs := [.tmp 41]) (l := ([x33] : List UInt8)) ab (by kernel_rfl) rfl rfl (by decide) rfl rfl) <| zX rfl (df (E := Enc.byte) (bytes := 1) 0 ab ab rfl (by kernel_rfl) rfl rfl rfl rfl g36 e38) ?_;rintro _ _ ⟨t35, rfl, rfl⟩;refine zS rfl (aB (av := slE _ _ _) rfl) <| ai ?_;obtain ⟨g39, H⟩ := aY H;refine ac ?_;show AR _ _ _ _ _ [0, 1, 2] _;refine zm rfl <| zS rfl (dE rfl rfl g39) <| za rfl <| ai ?_;exact Exists.intro (n13, x37, t35, y11 + 1) ⟨H, Nat.lt_succ_self _, aZ [0] (.cons (.refl _) (.cons (.refl _) (.cons (.refl _) (.nil _)))) rfl⟩
   ·replace H := ba c14 H;refine cH ?_;exact Exists.intro (y9, t10) ⟨H, aZ [0] (.cons (.refl _) (.nil _)) rfl⟩
  rintro ⟨y40, t41⟩ H;replace H : fJ y40 = some (r3, r4) := H
  unfold fJ at H
  refine ah ?_;obtain ⟨g44, H⟩ := aY H;obtain ⟨x45, e46, H⟩ := bP H;refine ac ?_;show AR _ _ _ _ _ [0, 1, 2, 3, 4] _;refine zS rfl (ak (av := slE _ _ _) rfl) <| zR rfl (cF (E := Enc.byte) (bytes := 1) (xs := [.const _, .const _, .const _]) (l := ([46, 13, 10] : List UInt8)) ab (by kernel_rfl) rfl rfl (by decide) rfl rfl) <| zX rfl (df (E := Enc.byte) (bytes := 1) 0 ab ab rfl (by kernel_rfl) rfl rfl rfl rfl g44 e46) ?_;rintro _ _ ⟨t43, rfl, rfl⟩;refine zS rfl (aB (av := slE _ _ _) rfl) <| za rfl <| ai <| aQ ?_;obtain ⟨rfl, rfl⟩ := gw H;exact And.intro rfl (Exists.intro _ (Exists.intro _ ⟨bV rfl (.tok _ _ _) (.refl _), aL [] rfl, rfl, rfl⟩))
end Go.Proofs.YtgjkjkmmgdbcoaaGreatDoor
namespace Go.Pv
def fL (y30 : List (List UInt8)) : Option ((List (List UInt8))) :=
some y30
def eE (y8 : Int) (rec9 : ((List (List UInt8)) × Int × Int) → Option ((List (List UInt8)))) (y25 : List (List UInt8)) (y27 : Int) : Option ((List (List UInt8))) :=
grd (okI (y8 + 1)) <|
rec9 (y25, y27, y8 + 1)
def dU (a1 : List UInt8) (a2 : UInt8) (rec9 : ((List (List UInt8)) × Int × Int) → Option ((List (List UInt8)))) (y5 : List (List UInt8)) (y7 : Int) (y8 : Int) : Option ((List (List UInt8))) :=
bif decide (y8 ≤ (a1.length : Int)) then
  dk (!(decide (y8 = (a1.length : Int)))) (ct y8 a1.length) <|
  lt (at_ a1 y8) fun x14 =>
  bif (decide (y8 = (a1.length : Int))) || (decide (x14 = a2)) then
    grd (sz y7 y8 a1.length) <|
    lt (sub a1 y7 y8) fun x18 =>
    grd (dn (y5.length + ([x18] : List (List UInt8)).length)) <|
    lt (y5 ++ ([x18] : List (List UInt8))) fun x22 =>
    grd (okI (y8 + 1)) <|
    eE y8 rec9 x22 (y8 + 1)
  else
    eE y8 rec9 y5 y7
else
  fL y5
def cX (a1 : List UInt8) (a2 : UInt8) (n : Nat) : ((List (List UInt8)) × Int × Int) → Option ((List (List UInt8))) :=
  loop (fun rec x => dU a1 a2 rec x.1 x.2.1 x.2.2) n
def gJ (F : Nat) (a1 : List UInt8) (a2 : UInt8) : Option ((List (List UInt8))) :=
cX a1 a2 F ([], 0, 0)
def fM (y19 : List UInt8) : Option ((List UInt8)) :=
some y19
def eF (y3 : List UInt8) (y4 : Int) (rec5 : ((List UInt8) × Int) → Option ((List UInt8))) (y13 : UInt8) : Option ((List UInt8)) :=
grd (dn (y3.length + ([y13] : List UInt8).length)) <|
lt (y3 ++ ([y13] : List UInt8)) fun x16 =>
grd (okI (y4 + 1)) <|
rec5 (x16, y4 + 1)
def dV (a1 : List UInt8) (rec5 : ((List UInt8) × Int) → Option ((List UInt8))) (y3 : List UInt8) (y4 : Int) : Option ((List UInt8)) :=
bif decide (y4 < (a1.length : Int)) then
  grd (ct y4 a1.length) <|
  lt (at_ a1 y4) fun x9 =>
  bif (decide (65 ≤ (x9.toNat : Int))) && (decide ((x9.toNat : Int) ≤ 90)) then
    eF y3 y4 rec5 (x9 + 32)
  else
    eF y3 y4 rec5 x9
else
  fM y3
def du (a1 : List UInt8) (n : Nat) : ((List UInt8) × Int) → Option ((List UInt8)) :=
  loop (fun rec x => dV a1 rec x.1 x.2) n
def iI (F : Nat) (a1 : List UInt8) : Option ((List UInt8)) :=
du a1 F (([] : List UInt8), 0)
def dL (a1 : List UInt8) (y30 : Int) : Option Bool :=
some (((decide (y30 = 1)) && (decide (3 ≤ (a1.length : Int)))) && (decide ((a1.length : Int) ≤ 60)))
def cw (y5 : Int) (rec6 : (Int × Int) → Option Bool) (y27 : Int) : Option Bool :=
grd (okI (y5 + 1)) <|
rec6 (y27, y5 + 1)
def cl (a1 : List UInt8) (rec6 : (Int × Int) → Option Bool) (y4 : Int) (y5 : Int) : Option Bool :=
bif decide (y5 < (a1.length : Int)) then
  grd (ct y5 a1.length) <|
  lt (at_ a1 y5) fun x10 =>
  bif decide (x10 = 64) then
    grd (okI (y4 + 1)) <|
    dk (!(decide (y5 = 0))) (okI ((a1.length : Int) - 1)) <|
    bif (decide (y5 = 0)) || (decide (y5 = (a1.length : Int) - 1)) then
      some false
    else
      cw y5 rec6 (y4 + 1)
  else
    bif !((((((((decide (97 ≤ (x10.toNat : Int))) && (decide ((x10.toNat : Int) ≤ 122))) || ((decide (65 ≤ (x10.toNat : Int))) && (decide ((x10.toNat : Int) ≤ 90)))) || ((decide (48 ≤ (x10.toNat : Int))) && (decide ((x10.toNat : Int) ≤ 57)))) || (decide (x10 = 46))) || (decide (x10 = 45))) || (decide (x10 = 95))) || (decide (x10 = 43))) then
      some false
    else
      cw y5 rec6 y4
else
  dL a1 y4
def cf (a1 : List UInt8) (n : Nat) : (Int × Int) → Option Bool :=
  loop (fun rec x => cl a1 rec x.1 x.2) n
def fx (F : Nat) (a1 : List UInt8) : Option Bool :=
cf a1 F (0, 0)
def gu (y29 : Int) : Option Int :=
some y29
def fi (a1 : List UInt8) (rec12 : (Int × Int) → Option Int) (y10 : Int) (y11 : Int) : Option Int :=
bif decide (y11 < (a1.length : Int)) then
  grd (ct y11 a1.length) <|
  lt (at_ a1 y11) fun x16 =>
  dk (!(decide ((x16.toNat : Int) < 48))) (ct y11 a1.length) <|
  lt (at_ a1 y11) fun x20 =>
  bif (decide ((x16.toNat : Int) < 48)) || (decide (57 < (x20.toNat : Int))) then
    some (-1)
  else
    grd (okI (10 * y10)) <|
    grd (ct y11 a1.length) <|
    lt (at_ a1 y11) fun x25 =>
    grd (okI ((10 * y10) + ((x25 - 48).toNat : Int))) <|
    grd (okI (y11 + 1)) <|
    rec12 ((10 * y10) + ((x25 - 48).toNat : Int), y11 + 1)
else
  gu y10
def fh (a1 : List UInt8) (n : Nat) : (Int × Int) → Option Int :=
  loop (fun rec x => fi a1 rec x.1 x.2) n
def eh (F : Nat) (a1 : List UInt8) : Option Int :=
dk (!((decide ((a1.length : Int) < 1)) || (decide (3 < (a1.length : Int))))) (ct 0 a1.length) <|
lt (at_ a1 0) fun x6 =>
bif ((decide ((a1.length : Int) < 1)) || (decide (3 < (a1.length : Int)))) || ((decide (x6 = 48)) && (decide (1 < (a1.length : Int)))) then
  some (-1)
else
  fh a1 F (0, 0)
def gr (a1 : Int) (y37 : Int) (y38 : Int) (y39 : Int) : Option (Int × Int × Int) :=
grd (mh a1 100) <|
bif ((!decide (y37 = a1 / 100)) || (decide (y38 < 0))) || (decide (y39 < 0)) then
  some (0, 0, 0)
else
  some (y37, y38, y39)
def ju (F : Nat) (a1 : Int) (a2 : List UInt8) : Option (Int × Int × Int) :=
bnd (gJ F a2 32) fun x7 =>
grd (ct 0 x7.length) <|
lt (at_ x7 0) fun x10 =>
bnd (gJ F x10 46) fun x12 =>
dk (!(!decide ((x12.length : Int) = 3))) (mh a1 100) <|
bif (!decide ((x12.length : Int) = 3)) || (decide (a1 / 100 = 3)) then
  some (0, 0, 0)
else
  grd (ct 0 x12.length) <|
  lt (at_ x12 0) fun x18 =>
  grd (ct 1 x12.length) <|
  lt (at_ x12 1) fun x21 =>
  grd (ct 2 x12.length) <|
  lt (at_ x12 2) fun x24 =>
  bnd (eh F x18) fun x26 =>
  bnd (eh F x21) fun x28 =>
  bnd (eh F x24) fun x30 =>
  gr a1 x26 x28 x30
def gm (a1 : List UInt8) : Option ((List UInt8) × Int) :=
bif decide (511 < (a1.length : Int)) then
  some (([] : List UInt8), 2)
else
  some (([] : List UInt8), 0)
def gl (y5 : Int) (rec6 : Int → Option ((List UInt8) × Int)) : Option ((List UInt8) × Int) :=
grd (okI (y5 + 1)) <|
rec6 (y5 + 1)
def iA (x22 : List UInt8) : Option ((List UInt8) × Int) :=
some (x22, 1)
def gq (x22 : List UInt8) (rec25 : Int → Option ((List UInt8) × Int)) (y24 : Int) : Option ((List UInt8) × Int) :=
bif decide (y24 < (x22.length : Int)) then
  grd (ct y24 x22.length) <|
  lt (at_ x22 y24) fun x29 =>
  bif decide (x29 = 13) then
    some (([] : List UInt8), 2)
  else
    grd (okI (y24 + 1)) <|
    rec25 (y24 + 1)
else
  iA x22
def gn (x22 : List UInt8) (n : Nat) : Int → Option ((List UInt8) × Int) :=
  loop (fun rec x => gq x22 rec x) n
def gp (F : Nat) (a1 : List UInt8) (rec6 : Int → Option ((List UInt8) × Int)) (y5 : Int) : Option ((List UInt8) × Int) :=
bif (decide (y5 < (a1.length : Int))) && (decide (y5 < 512)) then
  grd (ct y5 a1.length) <|
  lt (at_ a1 y5) fun x11 =>
  bif decide (x11 = 10) then
    dk (!(decide (y5 = 0))) (okI (y5 - 1)) <|
    dk (!(decide (y5 = 0))) (ct (y5 - 1) a1.length) <|
    lt (at_ a1 (y5 - 1)) fun x17 =>
    bif (decide (y5 = 0)) || (!decide (x17 = 13)) then
      some (([] : List UInt8), 2)
    else
      grd (okI (y5 - 1)) <|
      grd (iU (y5 - 1) a1.length) <|
      lt (to_ a1 (y5 - 1)) fun x22 =>
      gn x22 F 0
  else
    gl y5 rec6
else
  gm a1
def er (F : Nat) (a1 : List UInt8) (n : Nat) : Int → Option ((List UInt8) × Int) :=
  loop (fun rec x => gp F a1 rec x) n
def kw (F : Nat) (a1 : List UInt8) : Option ((List UInt8) × Int) :=
er F a1 F 0
def jt (F : Nat) (a1 : List UInt8) : Option Int :=
dk (!(decide ((a1.length : Int) < 4))) (ct 0 a1.length) <|
lt (at_ a1 0) fun x5 =>
dk (!((decide ((a1.length : Int) < 4)) || (decide (x5 = 48)))) (ct 3 a1.length) <|
lt (at_ a1 3) fun x9 =>
dk ((!((decide ((a1.length : Int) < 4)) || (decide (x5 = 48)))) && (!decide (x9 = 45))) (ct 3 a1.length) <|
lt (at_ a1 3) fun x13 =>
bif ((decide ((a1.length : Int) < 4)) || (decide (x5 = 48))) || ((!decide (x9 = 45)) && (!decide (x13 = 32))) then
  some (-1)
else
  grd (iU 3 a1.length) <|
  lt (to_ a1 3) fun x17 =>
  bnd (eh F x17) fun x19 =>
  bif (decide (x19 < 200)) || (decide (599 < x19)) then
    some (-1)
  else
    some x19
def hP (F : Nat) (y12 : Int) (rec16 : (Int × Int × (List (List UInt8))) → Option (Int × (List (List UInt8)) × Int × Int × Int × Int)) (x21 : List UInt8) (x25 : Int) (y40 : List (List UInt8)) : Option (Int × (List (List UInt8)) × Int × Int × Int × Int) :=
grd (okI (y12 + (x21.length : Int))) <|
grd (okI ((y12 + (x21.length : Int)) + 2)) <|
grd (ct 3 x21.length) <|
lt (at_ x21 3) fun x46 =>
bif decide (x46 = 32) then
  grd (iU 4 x21.length) <|
  lt (eJ x21 4) fun x50 =>
  mf (ju F x25 x50) fun x52 x53 x54 =>
  some (x25, y40, x52, x53, x54, (y12 + (x21.length : Int)) + 2)
else
  rec16 ((y12 + (x21.length : Int)) + 2, x25, y40)
def cY (F : Nat) (a1 : List UInt8) (rec16 : (Int × Int × (List (List UInt8))) → Option (Int × (List (List UInt8)) × Int × Int × Int × Int)) (y12 : Int) (y13 : Int) (y14 : List (List UInt8)) : Option (Int × (List (List UInt8)) × Int × Int × Int × Int) :=
grd (iU y12 a1.length) <|
lt (eJ a1 y12) fun x19 =>
jJ (kw F x19) fun x21 x22 =>
bif decide (x22 = 0) then
  some (y13, y14, 0, 0, 0, 0)
else
  bnd (jt F x21) fun x25 =>
  bif (((decide (x22 = 2)) || (decide (x25 < 0))) || (decide ((y14.length : Int) = 100))) || ((decide (0 < (y14.length : Int))) && (!decide (x25 = y13))) then
    some (y13, y14, 0, 0, 0, (-1))
  else
    grd (iU 4 x21.length) <|
    lt (eJ x21 4) fun x33 =>
    grd (dn (y14.length + ([x33] : List (List UInt8)).length)) <|
    lt (y14 ++ ([x33] : List (List UInt8))) fun x37 =>
    hP F y12 rec16 x21 x25 x37
def cz (F : Nat) (a1 : List UInt8) (n : Nat) : (Int × Int × (List (List UInt8))) → Option (Int × (List (List UInt8)) × Int × Int × Int × Int) :=
  loop (fun rec x => cY F a1 rec x.1 x.2.1 x.2.2) n
def jh (F : Nat) (a1 : List UInt8) : Option (Int × (List (List UInt8)) × Int × Int × Int × Int) :=
cz F a1 F (0, 0, [])
def dF (F : Nat) (a4 : Bool) (rec23 : ((List (Int × (List (List UInt8)) × Int × Int × Int)) × (List UInt8)) → Option ((List (Int × (List (List UInt8)) × Int × Int × Int)) × (List UInt8) × Bool)) (y19 : List (Int × (List (List UInt8)) × Int × Int × Int)) (y21 : List UInt8) : Option ((List (Int × (List (List UInt8)) × Int × Int × Int)) × (List UInt8) × Bool) :=
bnd (jh F y21) fun x25 =>
bif decide (x25.2.2.2.2.2 < 0) then
  some (y19, [], true)
else
  bif decide (x25.2.2.2.2.2 = 0) then
    some (y19, y21, a4)
  else
    grd (dn (y19.length + ([(x25.1, x25.2.1, (x25.2.2.1, x25.2.2.2.1, x25.2.2.2.2.1))] : List (Int × (List (List UInt8)) × Int × Int × Int)).length)) <|
    lt (y19 ++ ([(x25.1, x25.2.1, (x25.2.2.1, x25.2.2.2.1, x25.2.2.2.2.1))] : List (Int × (List (List UInt8)) × Int × Int × Int))) fun x33 =>
    grd (iU x25.2.2.2.2.2 y21.length) <|
    lt (eJ y21 x25.2.2.2.2.2) fun x36 =>
    grd (dn x36.length) <|
    rec23 (x33, x36)
def eT (F : Nat) (a4 : Bool) (n : Nat) : ((List (Int × (List (List UInt8)) × Int × Int × Int)) × (List UInt8)) → Option ((List (Int × (List (List UInt8)) × Int × Int × Int)) × (List UInt8) × Bool) :=
  loop (fun rec x => dF F a4 rec x.1 x.2) n
def jX (F : Nat) (a2 : List UInt8) (a4 : Bool) (a5 : List UInt8) : Option ((List (Int × (List (List UInt8)) × Int × Int × Int)) × (List UInt8) × Bool) :=
bif a4 then
  some ([], a2, a4)
else
  grd (dn a2.length) <|
  grd (dn (a2.length + a5.length)) <|
  lt (a2 ++ a5) fun x16 =>
  eT F a4 F ([], x16)
def gi (a1 : List UInt8) : Option Bool :=
some ((decide (1 ≤ (a1.length : Int))) && (decide ((a1.length : Int) ≤ 60)))
def gk (a1 : List UInt8) (rec4 : Int → Option Bool) (y3 : Int) : Option Bool :=
bif decide (y3 < (a1.length : Int)) then
  grd (ct y3 a1.length) <|
  lt (at_ a1 y3) fun x8 =>
  bif !((((((decide (97 ≤ (x8.toNat : Int))) && (decide ((x8.toNat : Int) ≤ 122))) || ((decide (65 ≤ (x8.toNat : Int))) && (decide ((x8.toNat : Int) ≤ 90)))) || ((decide (48 ≤ (x8.toNat : Int))) && (decide ((x8.toNat : Int) ≤ 57)))) || (decide (x8 = 46))) || (decide (x8 = 45))) then
    some false
  else
    grd (okI (y3 + 1)) <|
    rec4 (y3 + 1)
else
  gi a1
def gj (a1 : List UInt8) (n : Nat) : Int → Option Bool :=
  loop (fun rec x => gk a1 rec x) n
def js (F : Nat) (a1 : List UInt8) : Option Bool :=
gj a1 F 0
def iG (F : Nat) (a1 : List UInt8) (a2 : List UInt8) (a3 : List UInt8) (a4 : List UInt8) : Option (Int × Int × (List UInt8) × (List UInt8) × (List UInt8) × (List UInt8) × Int) :=
bnd (fx F a1) fun x14 =>
bnd (fx F a2) fun x16 =>
bnd (js F a3) fun x18 =>
bnd (jg F a4) fun x20 =>
bif (((!x14) || (!x16)) || (!x18)) || (!x20) then
  some (0, 0, ([] : List UInt8), ([] : List UInt8), ([] : List UInt8), [], 1)
else
  some (0, 0, a1, a2, a3, a4, 0)
def iz : Option Int :=
some 0
def dI (y7 : Int) (rec8 : Int → Option Int) : Option Int :=
grd (okI (y7 + 1)) <|
rec8 (y7 + 1)
def ge (y7 : Int) (rec8 : Int → Option Int) (y43 : Int) (y44 : Bool) : Option Int :=
bif y44 then
  some y43
else
  dI y7 rec8
def gh (y7 : Int) (x12 : List UInt8) (rec8 : Int → Option Int) (rec25 : (Int × Bool × Int) → Option Int) (y22 : Int) (y23 : Bool) (y24 : Int) : Option Int :=
bif decide (y24 < (x12.length : Int)) then
  dk y23 (ct y24 x12.length) <|
  lt (at_ x12 y24) fun x30 =>
  dk (y23 && (decide (48 ≤ (x30.toNat : Int)))) (ct y24 x12.length) <|
  lt (at_ x12 y24) fun x34 =>
  grd (okI (10 * y22)) <|
  grd (ct y24 x12.length) <|
  lt (at_ x12 y24) fun x38 =>
  grd (okI ((10 * y22) + (x38.toNat : Int))) <|
  grd (okI (((10 * y22) + (x38.toNat : Int)) - 48)) <|
  grd (okI (y24 + 1)) <|
  rec25 (((10 * y22) + (x38.toNat : Int)) - 48, (y23 && (decide (48 ≤ (x30.toNat : Int)))) && (decide ((x34.toNat : Int) ≤ 57)), y24 + 1)
else
  ge y7 rec8 y22 y23
def gg (y7 : Int) (x12 : List UInt8) (rec8 : Int → Option Int) (n : Nat) : (Int × Bool × Int) → Option Int :=
  loop (fun rec x => gh y7 x12 rec8 rec x.1 x.2.1 x.2.2) n
def eo (F : Nat) (a2 : List (List UInt8)) (rec8 : Int → Option Int) (y7 : Int) : Option Int :=
bif decide (y7 < (a2.length : Int)) then
  grd (ct y7 a2.length) <|
  lt (at_ a2 y7) fun x12 =>
  dk (!((decide ((x12.length : Int) < 6)) || (decide (14 < (x12.length : Int))))) (iU 5 x12.length) <|
  lt (to_ x12 5) fun x17 =>
  kM (!((decide ((x12.length : Int) < 6)) || (decide (14 < (x12.length : Int))))) (iI F x17) fun x19 =>
  bif ((decide ((x12.length : Int) < 6)) || (decide (14 < (x12.length : Int)))) || (!decide (x19 = ([115, 105, 122, 101, 32] : List UInt8))) then
    dI y7 rec8
  else
    gg y7 x12 rec8 F (0, true, 5)
else
  iz
def cE (F : Nat) (a2 : List (List UInt8)) (n : Nat) : Int → Option Int :=
  loop (fun rec x => eo F a2 rec x) n
def jr (F : Nat) (a1 : Int) (a2 : List (List UInt8)) (a3 : Int) (a4 : Int) (a5 : Int) : Option Int :=
cE F a2 F 1
def gE (F : Nat) (a1 : Int) (a2 : Int) (a3 : List UInt8) (a4 : List UInt8) (a5 : List UInt8) (a6 : List UInt8) (a7 : Int) : Option (Int × Int × (List UInt8) × (List UInt8) × (List UInt8) × (List UInt8) × (List UInt8)) :=
some (6, a7, a3, a4, a5, a6, ([81, 85, 73, 84, 13, 10] : List UInt8))
def fw (a3 : List UInt8) (a4 : List UInt8) (a5 : List UInt8) (a6 : List UInt8) (y16 : Int) : Option (Int × Int × (List UInt8) × (List UInt8) × (List UInt8) × (List UInt8)) :=
some (7, y16, a3, a4, a5, a6)
def iq (F : Nat) (a1 : Int) (a2 : Int) (a3 : List UInt8) (a4 : List UInt8) (a5 : List UInt8) (a6 : List UInt8) : Option (Int × Int × (List UInt8) × (List UInt8) × (List UInt8) × (List UInt8)) :=
bif decide (a2 = 0) then
  fw a3 a4 a5 a6 2
else
  fw a3 a4 a5 a6 a2
def jp (F : Nat) (a1 : Int) (a2 : Int) : Option Bool :=
bif decide (a1 = 0) then
  some (decide (a2 = 220))
else
  bif decide (a1 = 4) then
    some (decide (a2 = 354))
  else
    some ((decide (200 ≤ a2)) && (decide (a2 ≤ 299)))
def dH (a2 : Int) (a3 : List UInt8) (a4 : List UInt8) (a5 : List UInt8) (a6 : List UInt8) (y74 : List UInt8) (y75 : Int) : Option (Int × Int × (List UInt8) × (List UInt8) × (List UInt8) × (List UInt8) × (List UInt8)) :=
grd (dn y74.length) <|
some (y75, a2, a3, a4, a5, a6, y74)
def jq (F : Nat) (a1 : Int) (a2 : Int) (a3 : List UInt8) (a4 : List UInt8) (a5 : List UInt8) (a6 : List UInt8) (a7 : Int) (a8 : List (List UInt8)) (a9 : Int) (a10 : Int) (a11 : Int) : Option (Int × Int × (List UInt8) × (List UInt8) × (List UInt8) × (List UInt8) × (List UInt8)) :=
bif (decide (a1 < 0)) || (decide (7 ≤ a1)) then
  some (a1, a2, a3, a4, a5, a6, [])
else
  bif decide (a7 = 421) then
    bnd (iq F a1 a2 a3 a4 a5 a6) fun x24 =>
    some (x24.1, x24.2.1, x24.2.2.1, x24.2.2.2.1, x24.2.2.2.2.1, x24.2.2.2.2.2, [])
  else
    bif decide (a1 = 6) then
      some (7, a2, a3, a4, a5, a6, [])
    else
      bnd (jp F a1 a7) fun x27 =>
      bif !x27 then
        bif (decide (500 ≤ a7)) && (decide (a7 ≤ 599)) then
          bnd (gE F a1 a2 a3 a4 a5 a6 3) fun x32 =>
          some (x32.1, x32.2.1, x32.2.2.1, x32.2.2.2.1, x32.2.2.2.2.1, x32.2.2.2.2.2.1, x32.2.2.2.2.2.2)
        else
          bnd (gE F a1 a2 a3 a4 a5 a6 2) fun x35 =>
          some (x35.1, x35.2.1, x35.2.2.1, x35.2.2.2.1, x35.2.2.2.2.1, x35.2.2.2.2.2.1, x35.2.2.2.2.2.2)
      else
        jJ (iH F a6) fun x38 x39 =>
        bif decide (a1 = 0) then
          grd (dn (([69, 72, 76, 79, 32] : List UInt8).length + a5.length)) <|
          lt (([69, 72, 76, 79, 32] : List UInt8) ++ a5) fun x43 =>
          grd (dn (x43.length + ([13, 10] : List UInt8).length)) <|
          lt (x43 ++ ([13, 10] : List UInt8)) fun x46 =>
          dH a2 a3 a4 a5 a6 x46 1
        else
          bif decide (a1 = 1) then
            bnd (jr F a7 a8 a9 a10 a11) fun x49 =>
            bif (decide (0 < x49)) && (decide (x49 < (x38.length : Int))) then
              bnd (gE F a1 a2 a3 a4 a5 a6 3) fun x53 =>
              some (x53.1, x53.2.1, x53.2.2.1, x53.2.2.2.1, x53.2.2.2.2.1, x53.2.2.2.2.2.1, x53.2.2.2.2.2.2)
            else
              grd (dn (([77, 65, 73, 76, 32, 70, 82, 79, 77, 58, 60] : List UInt8).length + a3.length)) <|
              lt (([77, 65, 73, 76, 32, 70, 82, 79, 77, 58, 60] : List UInt8) ++ a3) fun x57 =>
              grd (dn (x57.length + ([62, 13, 10] : List UInt8).length)) <|
              lt (x57 ++ ([62, 13, 10] : List UInt8)) fun x60 =>
              dH a2 a3 a4 a5 a6 x60 2
          else
            bif decide (a1 = 2) then
              grd (dn (([82, 67, 80, 84, 32, 84, 79, 58, 60] : List UInt8).length + a4.length)) <|
              lt (([82, 67, 80, 84, 32, 84, 79, 58, 60] : List UInt8) ++ a4) fun x64 =>
              grd (dn (x64.length + ([62, 13, 10] : List UInt8).length)) <|
              lt (x64 ++ ([62, 13, 10] : List UInt8)) fun x67 =>
              dH a2 a3 a4 a5 a6 x67 3
            else
              bif decide (a1 = 3) then
                dH a2 a3 a4 a5 a6 ([68, 65, 84, 65, 13, 10] : List UInt8) 4
              else
                bif decide (a1 = 4) then
                  some (5, a2, a3, a4, a5, a6, x38)
                else
                  bnd (gE F a1 a2 a3 a4 a5 a6 1) fun x71 =>
                  some (x71.1, x71.2.1, x71.2.2.1, x71.2.2.2.1, x71.2.2.2.2.1, x71.2.2.2.2.2.1, x71.2.2.2.2.2.2)
def fV (y60 : List UInt8) (y72 : Int) (y73 : Int) (y74 : List UInt8) (y75 : List UInt8) (y76 : List UInt8) (y77 : List UInt8) : Option (Int × Int × (List UInt8) × (List UInt8) × (List UInt8) × (List UInt8) × (List UInt8)) :=
some (y72, y73, y74, y75, y76, y77, y60)
def hC (F : Nat) (y60 : List UInt8) (y62 : Int) (y63 : Int) (y64 : List UInt8) (y65 : List UInt8) (y66 : List UInt8) (y67 : List UInt8) : Option (Int × Int × (List UInt8) × (List UInt8) × (List UInt8) × (List UInt8) × (List UInt8)) :=
bif !decide (y62 = 7) then
  bnd (iq F y62 y63 y64 y65 y66 y67) fun x70 =>
  fV y60 x70.1 x70.2.1 x70.2.2.1 x70.2.2.2.1 x70.2.2.2.2.1 x70.2.2.2.2.2
else
  fV y60 y62 y63 y64 y65 y66 y67
def gZ (y26 : List UInt8) (y28 : Int) (rec35 : ((List UInt8) × Int × Int × Int × (List UInt8) × (List UInt8) × (List UInt8) × (List UInt8)) → Option (Int × Int × (List UInt8) × (List UInt8) × (List UInt8) × (List UInt8) × (List UInt8))) (y47 : List UInt8) (y48 : Int) (y49 : Int) (y50 : List UInt8) (y51 : List UInt8) (y52 : List UInt8) (y53 : List UInt8) : Option (Int × Int × (List UInt8) × (List UInt8) × (List UInt8) × (List UInt8) × (List UInt8)) :=
grd (dn (y26.length + y47.length)) <|
lt (y26 ++ y47) fun x57 =>
grd (okI (y28 + 1)) <|
rec35 (x57, y28 + 1, y48, y49, y50, y51, y52, y53)
def hH (F : Nat) (x20 : List (Int × (List (List UInt8)) × Int × Int × Int)) (rec35 : ((List UInt8) × Int × Int × Int × (List UInt8) × (List UInt8) × (List UInt8) × (List UInt8)) → Option (Int × Int × (List UInt8) × (List UInt8) × (List UInt8) × (List UInt8) × (List UInt8))) (y26 : List UInt8) (y28 : Int) (y29 : Int) (y30 : Int) (y31 : List UInt8) (y32 : List UInt8) (y33 : List UInt8) (y34 : List UInt8) : Option (Int × Int × (List UInt8) × (List UInt8) × (List UInt8) × (List UInt8) × (List UInt8)) :=
bif decide (y28 < (x20.length : Int)) then
  grd (ct y28 x20.length) <|
  lt (at_ x20 y28) fun x39 =>
  bnd (jq F y29 y30 y31 y32 y33 y34 x39.1 x39.2.1 x39.2.2.1 x39.2.2.2.1 x39.2.2.2.2) fun x41 =>
  gZ y26 y28 rec35 x41.2.2.2.2.2.2 x41.1 x41.2.1 x41.2.2.1 x41.2.2.2.1 x41.2.2.2.2.1 x41.2.2.2.2.2.1
else
  hC F y26 y29 y30 y31 y32 y33 y34
def eS (F : Nat) (x20 : List (Int × (List (List UInt8)) × Int × Int × Int)) (n : Nat) : ((List UInt8) × Int × Int × Int × (List UInt8) × (List UInt8) × (List UInt8) × (List UInt8)) → Option (Int × Int × (List UInt8) × (List UInt8) × (List UInt8) × (List UInt8) × (List UInt8)) :=
  loop (fun rec x => hH F x20 rec x.1 x.2.1 x.2.2.1 x.2.2.2.1 x.2.2.2.2.1 x.2.2.2.2.2.1 x.2.2.2.2.2.2.1 x.2.2.2.2.2.2.2) n
def jW (F : Nat) (a1 : Int) (a2 : Int) (a3 : List UInt8) (a4 : List UInt8) (a5 : List UInt8) (a6 : List UInt8) (a7 : List UInt8) : Option (Int × Int × (List UInt8) × (List UInt8) × (List UInt8) × (List UInt8) × (List UInt8)) :=
mf (jX F [] false a7) fun x20 x21 x22 =>
eS F x20 F ([], 0, a1, a2, a3, a4, a5, a6)
end Go.Pv
