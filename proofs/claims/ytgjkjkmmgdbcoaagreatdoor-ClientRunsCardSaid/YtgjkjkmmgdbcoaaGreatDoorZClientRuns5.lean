/-
  Texts in one (only what ClientRuns needs): CliRW, LClientRunsP, LClientRunsW, ClD, DgN, ClE, RqA, ClF, ClG, ClS, RqC, RqB, RqSp, RqM, RqW.
-/
import Derived.Test.YtgjkjkmmgdbcoaaGreatDoorZClientRuns4
import Derived.Test.YtgjkjkmmgdbcoaaGreatDoorShelf
import Derived.Lib.ItoaNum
import Derived.Lib.IndexLaws
import Derived.Test.YtgjkjkmmgdbcoaaGreatDoorChecked
import Derived.Lib.IndexMore
import Derived.Laws.Closers25
import Derived.Laws.RangeAny
import Derived.Lib.IndexAny
import Derived.Lib.SplitLaws
import Derived.Lib.IndexBytes
set_option linter.unusedVariables false
set_option linter.unusedSimpArgs false
namespace Go.Proofs.YtgjkjkmmgdbcoaaGreatDoor
open Go.RowKit Go.Av Go.Pv
theorem nx : ∀ (args : Array Value) (w : World), (callFunc 21 args).run Tryz.prog w = .ok (.enter 21 args) w := fun _ _ => by kernel_rfl
theorem qx : ∀ (args : Array Value) (w : World), (callFunc 22 args).run Tryz.prog w = .ok (.enter 22 args) w := fun _ _ => by kernel_rfl
theorem uS : ∀ (args : Array Value) (w : World), (callFunc 24 args).run Tryz.prog w = .ok (.enter 24 args) w := fun _ _ => by kernel_rfl
theorem qt : ∀ (args : Array Value) (w : World), (callFunc 31 args).run Tryz.prog w = .ok (.enter 31 args) w := fun _ _ => by kernel_rfl
theorem uQ : ∀ (args : Array Value) (w : World), (callFunc 32 args).run Tryz.prog w = .ok (.enter 32 args) w := fun _ _ => by kernel_rfl
theorem uO : ∀ (args : Array Value) (w : World), (callFunc 33 args).run Tryz.prog w = .ok (.enter 33 args) w := fun _ _ => by kernel_rfl
theorem uJ : ∀ (args : Array Value) (w : World), (callFunc 39 args).run Tryz.prog w = .ok (.enter 39 args) w := fun _ _ => by kernel_rfl
theorem uI : ∀ (args : Array Value) (w : World), (callFunc 41 args).run Tryz.prog w = .ok (.enter 41 args) w := fun _ _ => by kernel_rfl
theorem uH : ∀ (args : Array Value) (w : World), (callFunc 42 args).run Tryz.prog w = .ok (.enter 42 args) w := fun _ _ => by kernel_rfl
theorem lv : ∀ (args : Array Value) (w : World), (callFunc 43 args).run Tryz.prog w = .ok (.enter 43 args) w := fun _ _ => by kernel_rfl
theorem uB : ∀ (args : Array Value) (w : World), (callFunc 48 args).run Tryz.prog w = .ok (.enter 48 args) w := fun _ _ => by kernel_rfl
theorem uy : ∀ (args : Array Value) (w : World), (callFunc 59 args).run Tryz.prog w = .ok (.enter 59 args) w := fun _ _ => by kernel_rfl
theorem uv : ∀ (args : Array Value) (w : World), (callFunc 88 args).run Tryz.prog w = .ok (.enter 88 args) w := fun _ _ => by kernel_rfl
theorem uu : ∀ (args : Array Value) (w : World), (callFunc 89 args).run Tryz.prog w = .ok (.enter 89 args) w := fun _ _ => by kernel_rfl
theorem ut : ∀ (args : Array Value) (w : World), (callFunc 90 args).run Tryz.prog w = .ok (.enter 90 args) w := fun _ _ => by kernel_rfl
theorem ew : ∀ (args : Array Value) (w : World), (callFunc 111 args).run Tryz.prog w = .ok (.enter 111 args) w := fun _ _ => by kernel_rfl
theorem oT : ∀ (args : Array Value) (w : World), (callFunc 112 args).run Tryz.prog w = .ok (.enter 112 args) w := fun _ _ => by kernel_rfl
set_option maxRecDepth 100000 in
set_option maxHeartbeats 1000000 in
theorem lJ (F : Nat) (a1 : List UInt8) (a2 : UInt8) (r3 : List (List UInt8)) (H : gJ F a1 a2 = some r3) : ACalls Tryz.prog 112 [S a1, u8 a2] [] (Ret (slE Enc.str r3 none) []) := by
 unfold gJ at H
 refine az Tryz.func112 rfl rfl ?_;show AW _ _ 35 _ _ _;refine ah <| ac ?_;show AR _ _ _ _ _ [0] _;refine za rfl <| ai <| ah <| ac ?_;show AR _ _ _ _ _ [0] _;refine za rfl <| ai ?_
 refine iZ 5 1 9 rfl fun t4 => ?_
 show AW _ _ _ _ _ ⟨(5, slE Enc.str [] (some t4)) :: _, _, _⟩;refine ah <| ac ?_;show AR _ _ _ _ _ [0] _;refine za rfl <| ai <| bK (X := (List (List UInt8)) × Nat) (fun (y30, t31) => ⟨[(5, slE Enc.str y30 (some t31))], [], [.tok t31 9]⟩) (fun (y30, t31) => fL y30 = some r3) ?_ ?_
 ·refine ah <| ac ?_;show AR _ _ _ _ _ [0] _;refine za rfl <| ai <| be <| cN (X := Nat × (List (List UInt8)) × Nat × Int × Int) (fun (n10, y5, t6, y7, y8) => ⟨[(0, S a1), (1, u8 a2), (5, slE Enc.str y5 (some t6)), (6, i64 y7), (7, i64 y8)], [], [.tok t6 9]⟩) (fun (n10, y5, t6, y7, y8) => cX a1 a2 n10 (y5, y7, y8) = some r3) (fun (n10, y5, t6, y7, y8) => n10) (F, [], t4, 0, 0) H (aZ [0] (.cons (.refl _) (.cons (.refl _) (.cons (.refl _) (.cons (.refl _) (.cons (.refl _) (.nil _)))))) rfl) ?_;rintro ⟨n10, y5, t6, y7, y8⟩ H;obtain ⟨n10, rfl, H⟩ := dK H;replace H : dU a1 a2 (cX a1 a2 n10) y5 y7 y8 = some r3 := H
  unfold dU at H
  refine ah <| ah <| ac ?_;show AR _ _ _ _ _ [0, 1, 2, 3] _;refine zm rfl <| zm rfl <| zS rfl (bb ag rfl) <| zS rfl (cL rfl rfl) <| ai <| aE rfl (fun c11 => ?_) (fun c11 => ?_)
  ·replace H := bg c11 H;refine aJ <| bK (X := (List (List UInt8)) × Nat × Int) (fun (y25, t26, y27) => ⟨[(0, S a1), (1, u8 a2), (5, slE Enc.str y25 (some t26)), (6, i64 y27), (7, i64 y8)], [], [.tok t26 9]⟩) (fun (y25, t26, y27) => eE y8 (cX a1 a2 n10) y25 y27 = some r3) ?_ ?_
   ·refine be <| ah ?_;obtain ⟨g13, H⟩ := cq H;obtain ⟨x14, e15, H⟩ := bP H;refine ac ?_;show AR _ _ _ _ _ [0, 1, 2, 3, 4, 5, 6, 7, 8, 9, 10] _;refine zm rfl <| zm rfl <| zS rfl (bb ag rfl) <| zS rfl (bt rfl rfl) <| zm rfl <| aG (l := []) 24 (B ((decide (y8 = (a1.length : Int))) || (decide (x14 = a2)))) (fun K => ?_) ?_
    ·rcases af (decide (y8 = (a1.length : Int))) with h12 | h12
     ·refine zF h12 rfl <| zF h12 rfl <| zF h12 rfl <| zF h12 rfl <| zF h12 rfl <| zS rfl (ap (av := .v _) rfl h12 rfl) ?_;exact K _ 5 _ (am (dz h12)) rfl rfl
     ·refine zM h12 rfl <| zM h12 rfl <| zU h12 rfl (bi ag rfl rfl (g13 (nf h12)) e15) <| zM h12 rfl <| zU h12 rfl (dr (a := x14) (b := a2) rfl rfl) <| zS rfl (ao (av := .v _) rfl h12 rfl) ?_;exact K _ 5 _ (am (dA h12)) rfl rfl
    refine ai <| aE rfl (fun c16 => ?_) (fun c16 => ?_)
    ·replace H := bg c16 H;refine ah ?_;obtain ⟨g17, H⟩ := aY H;obtain ⟨x18, e19, H⟩ := bP H;obtain ⟨g21, H⟩ := aY H;obtain ⟨x22, e23, H⟩ := bP H;refine ac ?_;show AR _ _ _ _ _ [0, 1, 2, 3, 4, 5, 6, 7] _;refine zS rfl (ak (av := slE _ _ _) rfl) <| zm rfl <| zm rfl <| zm rfl <| zS rfl (rR ag rfl rfl rfl g17 e19) <| zR rfl (cF (E := Enc.str) (bytes := 16) (xs := [.tmp 29]) (l := ([x18] : List (List UInt8))) ar (by kernel_rfl) rfl rfl (by decide) rfl rfl) <| zX rfl (df (E := Enc.str) (bytes := 16) 0 ar ar rfl (by kernel_rfl) rfl rfl rfl rfl g21 e23) ?_;rintro _ _ ⟨t20, rfl, rfl⟩;refine zS rfl (aB (av := slE _ _ _) rfl) <| ai ?_;obtain ⟨g24, H⟩ := aY H;refine ac ?_;show AR _ _ _ _ _ [0, 1, 2] _;refine zm rfl <| zS rfl (dE rfl rfl g24) <| za rfl <| ai ?_;exact Exists.intro (x22, t20, y8 + 1) ⟨H, aZ [0] (.cons (.refl _) (.cons (.refl _) (.cons (.refl _) (.cons (.refl _) (.cons (.refl _) (.nil _)))))) rfl⟩
    ·replace H := ba c16 H;refine aJ ?_;exact Exists.intro (y5, t6, y7) ⟨H, aZ [0] (.cons (.refl _) (.cons (.refl _) (.cons (.refl _) (.cons (.refl _) (.cons (.refl _) (.nil _)))))) rfl⟩
   rintro ⟨y25, t26, y27⟩ H;replace H : eE y8 (cX a1 a2 n10) y25 y27 = some r3 := H
   unfold eE at H
   obtain ⟨g29, H⟩ := aY H;refine ac ?_;show AR _ _ _ _ _ [0, 1, 2] _;refine zm rfl <| zS rfl (dE rfl rfl g29) <| za rfl <| ai ?_;exact Exists.intro (n10, y25, t26, y27, y8 + 1) ⟨H, Nat.lt_succ_self _, aZ [0] (.cons (.refl _) (.cons (.refl _) (.cons (.refl _) (.cons (.refl _) (.cons (.refl _) (.nil _)))))) rfl⟩
  ·replace H := ba c11 H;refine cH ?_;exact Exists.intro (y5, t6) ⟨H, aZ [0] (.cons (.refl _) (.nil _)) rfl⟩
 rintro ⟨y30, t31⟩ H;replace H : fL y30 = some r3 := H
 unfold fL at H
 refine ah <| ac ?_;show AR _ _ _ _ _ [0, 1] _;refine zS rfl (ak (av := slE _ _ _) rfl) <| zS rfl (aB (av := slE _ _ _) rfl) <| ai <| aQ ?_;obtain rfl := ay H;exact And.intro rfl (Exists.intro _ (Exists.intro _ ⟨aV rfl (.tok _ _ _), aL [] rfl, rfl, rfl⟩))
set_option maxRecDepth 100000 in
set_option maxHeartbeats 1000000 in
theorem pw (F : Nat) (a1 : List UInt8) (r2 : List UInt8) (H : iI F a1 = some r2) : ACalls Tryz.prog 48 [S a1] [] (Ret (S r2) []) := by
 unfold iI at H
 refine az Tryz.func48 rfl rfl ?_;show AW _ _ 29 _ _ _;refine ah <| ac ?_;show AR _ _ _ _ _ [0] _;refine za rfl <| ai <| ah <| ac ?_;show AR _ _ _ _ _ [0] _;refine za rfl <| ai <| bK (X := (List UInt8)) (fun y19 => ⟨[(3, S y19)], [], []⟩) (fun y19 => fM y19 = some r2) ?_ ?_
 ·refine ah <| ac ?_;show AR _ _ _ _ _ [0] _;refine za rfl <| ai <| be <| cN (X := Nat × (List UInt8) × Int) (fun (n6, y3, y4) => ⟨[(0, S a1), (3, S y3), (4, i64 y4)], [], []⟩) (fun (n6, y3, y4) => du a1 n6 (y3, y4) = some r2) (fun (n6, y3, y4) => n6) (F, ([] : List UInt8), 0) H (aZ [] (.cons (.refl _) (.cons (.refl _) (.cons (.refl _) (.nil _)))) rfl) ?_;rintro ⟨n6, y3, y4⟩ H;obtain ⟨n6, rfl, H⟩ := dK H;replace H : dV a1 (du a1 n6) y3 y4 = some r2 := H
  unfold dV at H
  refine ah <| ah <| ac ?_;show AR _ _ _ _ _ [0, 1, 2, 3] _;refine zm rfl <| zm rfl <| zS rfl (bb ag rfl) <| zS rfl (bN rfl rfl) <| ai <| aE rfl (fun c7 => ?_) (fun c7 => ?_)
  ·replace H := bg c7 H;refine aJ <| ah <| be <| ah ?_;obtain ⟨g8, H⟩ := aY H;obtain ⟨x9, e10, H⟩ := bP H;refine ac ?_;show AR _ _ _ _ _ [0, 1, 2, 3] _;refine zm rfl <| zm rfl <| zS rfl (bi ag rfl rfl g8 e10) <| za rfl <| ai <| bK (X := UInt8) (fun y13 => ⟨[(0, S a1), (3, S y3), (4, i64 y4), (5, u8 y13)], [], []⟩) (fun y13 => eF y3 y4 (du a1 n6) y13 = some r2) ?_ ?_
   ·refine ah <| ac ?_;show AR _ _ _ _ _ [0, 1, 2, 3, 4, 5] _;refine zm rfl <| zS rfl (di rfl rfl) <| zm rfl <| aG (l := []) 20 (B ((decide (65 ≤ (x9.toNat : Int))) && (decide ((x9.toNat : Int) ≤ 90)))) (fun K => ?_) ?_
    ·rcases af (decide (65 ≤ (x9.toNat : Int))) with h11 | h11
     ·refine zM h11 rfl <| zU h11 rfl (cL rfl rfl) <| zS rfl (ap (av := .v _) rfl h11 rfl) ?_;exact K _ 2 _ (am (bI h11)) rfl rfl
     ·refine zF h11 rfl <| zF h11 rfl <| zS rfl (ao (av := .v _) rfl h11 rfl) ?_;exact K _ 2 _ (am (bJ h11)) rfl rfl
    refine ai <| aE rfl (fun c12 => ?_) (fun c12 => ?_)
    ·replace H := bg c12 H;refine ac ?_;show AR _ _ _ _ _ [0, 1, 2] _;refine zm rfl <| zS rfl (tr (a := x9) (b := 32) rfl rfl) <| za rfl <| ai ?_;exact Exists.intro (x9 + 32) ⟨H, aZ [] (.cons (.refl _) (.cons (.refl _) (.cons (.refl _) (.cons (.refl _) (.nil _))))) rfl⟩
    ·replace H := ba c12 H;refine aJ ?_;exact Exists.intro x9 ⟨H, aZ [] (.cons (.refl _) (.cons (.refl _) (.cons (.refl _) (.cons (.refl _) (.nil _))))) rfl⟩
   rintro y13 H;replace H : eF y3 y4 (du a1 n6) y13 = some r2 := H
   unfold eF at H
   obtain ⟨g15, H⟩ := aY H;obtain ⟨x16, e17, H⟩ := bP H;refine ac ?_;show AR _ _ _ _ _ [0, 1, 2, 3, 4, 5] _;refine zm rfl <| zm rfl <| zR rfl (cF (E := Enc.byte) (bytes := 1) (xs := [.tmp 24]) (l := ([y13] : List UInt8)) ab (by kernel_rfl) rfl rfl (by decide) rfl rfl) <| zS rfl (cr ab aO ag rfl) <| zS rfl (np rfl rfl g15 e17) <| za rfl <| ai ?_;obtain ⟨g18, H⟩ := aY H;refine ac ?_;show AR _ _ _ _ _ [0, 1, 2] _;refine zm rfl <| zS rfl (dE rfl rfl g18) <| za rfl <| ai ?_;exact Exists.intro (n6, x16, y4 + 1) ⟨H, Nat.lt_succ_self _, aZ [] (.cons (.refl _) (.cons (.refl _) (.cons (.refl _) (.nil _)))) rfl⟩
  ·replace H := ba c7 H;refine cH ?_;exact Exists.intro y3 ⟨H, aZ [] (.cons (.refl _) (.nil _)) rfl⟩
 rintro y19 H;replace H : fM y19 = some r2 := H
 unfold fM at H
 refine ah <| ac ?_;show AR _ _ _ _ _ [0, 1] _;refine zm rfl <| za rfl <| ai <| aQ ?_;obtain rfl := ay H;exact And.intro rfl (Exists.intro _ (Exists.intro _ ⟨aV rfl (.refl _), aL [] rfl, rfl, rfl⟩))
set_option maxRecDepth 100000 in
set_option maxHeartbeats 1000000 in
theorem kB (F : Nat) (a1 : List UInt8) (r2 : Bool) (H : fx F a1 = some r2) : ACalls Tryz.prog 31 [S a1] [] (Ret (B r2) []) := by
 unfold fx at H
 refine az Tryz.func31 rfl rfl ?_;show AW _ _ 79 _ _ _;refine ah <| ac ?_;show AR _ _ _ _ _ [0] _;refine za rfl <| ai <| ah <| ac ?_;show AR _ _ _ _ _ [0] _;refine za rfl <| ai <| bK (X := Int) (fun y30 => ⟨[(0, S a1), (3, i64 y30)], [], []⟩) (fun y30 => dL a1 y30 = some r2) ?_ ?_
 ·refine ah <| ac ?_;show AR _ _ _ _ _ [0] _;refine za rfl <| ai <| be <| cN (X := Nat × Int × Int) (fun (n7, y4, y5) => ⟨[(0, S a1), (3, i64 y4), (4, i64 y5)], [], []⟩) (fun (n7, y4, y5) => cf a1 n7 (y4, y5) = some r2) (fun (n7, y4, y5) => n7) (F, 0, 0) H (aZ [] (.cons (.refl _) (.cons (.refl _) (.cons (.refl _) (.nil _)))) rfl) ?_;rintro ⟨n7, y4, y5⟩ H;obtain ⟨n7, rfl, H⟩ := dK H;replace H : cl a1 (cf a1 n7) y4 y5 = some r2 := H
  unfold cl at H
  refine ah <| ah <| ac ?_;show AR _ _ _ _ _ [0, 1, 2, 3] _;refine zm rfl <| zm rfl <| zS rfl (bb ag rfl) <| zS rfl (bN rfl rfl) <| ai <| aE rfl (fun c8 => ?_) (fun c8 => ?_)
  ·replace H := bg c8 H;refine aJ <| bK (X := Int) (fun y27 => ⟨[(0, S a1), (3, i64 y27), (4, i64 y5)], [], []⟩) (fun y27 => cw y5 (cf a1 n7) y27 = some r2) ?_ ?_
   ·refine be <| ah ?_;obtain ⟨g9, H⟩ := aY H;obtain ⟨x10, e11, H⟩ := bP H;refine ac ?_;show AR _ _ _ _ _ [0, 1, 2, 3] _;refine zm rfl <| zm rfl <| zS rfl (bi ag rfl rfl g9 e11) <| za rfl <| ai <| ah <| ah <| ac ?_;show AR _ _ _ _ _ [0, 1] _;refine zm rfl <| zS rfl (dr (a := x10) (b := 64) rfl rfl) <| ai <| aE rfl (fun c12 => ?_) (fun c12 => ?_)
    ·replace H := bg c12 H;refine ah ?_;obtain ⟨g13, H⟩ := aY H;refine ac ?_;show AR _ _ _ _ _ [0, 1, 2] _;refine zm rfl <| zS rfl (dE rfl rfl g13) <| za rfl <| ai <| ah <| ah ?_;obtain ⟨g15, H⟩ := cq H;refine ac ?_;show AR _ _ _ _ _ [0, 1, 2, 3, 4, 5, 6, 7, 8] _;refine zm rfl <| zS rfl (bt rfl rfl) <| zm rfl <| aG (l := []) 27 (B ((decide (y5 = 0)) || (decide (y5 = (a1.length : Int) - 1)))) (fun K => ?_) ?_
     ·rcases af (decide (y5 = 0)) with h14 | h14
      ·refine zF h14 rfl <| zF h14 rfl <| zF h14 rfl <| zF h14 rfl <| zF h14 rfl <| zS rfl (ap (av := .v _) rfl h14 rfl) ?_;exact K _ 5 _ (am (dz h14)) rfl rfl
      ·refine zM h14 rfl <| zM h14 rfl <| zU h14 rfl (bb ag rfl) <| zU h14 rfl (kN rfl rfl (g15 (nf h14))) <| zU h14 rfl (bt rfl rfl) <| zS rfl (ao (av := .v _) rfl h14 rfl) ?_;exact K _ 5 _ (am (dA h14)) rfl rfl
     refine ai <| aE rfl (fun c16 => ?_) (fun c16 => ?_)
     ·replace H := bg c16 H;refine ah <| ac ?_;show AR _ _ _ _ _ [0] _;refine za rfl <| ai <| aQ ?_;obtain rfl := ay H;exact And.intro rfl (Exists.intro _ (Exists.intro _ ⟨aV rfl (.refl _), aL [] rfl, rfl, rfl⟩))
     ·replace H := ba c16 H;refine aJ <| cH ?_;exact Exists.intro (y4 + 1) ⟨H, aZ [] (.cons (.refl _) (.cons (.refl _) (.cons (.refl _) (.nil _)))) rfl⟩
    ·replace H := ba c12 H;refine aJ <| ah <| ac ?_;show AR _ _ _ _ _ [0, 1, 2, 3, 4, 5, 6, 7, 8, 9, 10, 11, 12, 13, 14, 15, 16, 17, 18, 19, 20, 21, 22, 23, 24, 25, 26, 27, 28, 29, 30, 31, 32, 33, 34, 35, 36, 37, 38] _;refine zm rfl <| zS rfl (di rfl rfl) <| zm rfl <| aG (l := [6, 7, 8, 9, 10, 11, 12, 13, 14, 15, 16, 17, 18, 19, 20, 21, 22, 23, 24, 25, 26, 27, 28, 29, 30, 31, 32, 33, 34, 35, 36, 37, 38]) 33 (B ((decide (97 ≤ (x10.toNat : Int))) && (decide ((x10.toNat : Int) ≤ 122)))) (fun K => ?_) ?_
     ·rcases af (decide (97 ≤ (x10.toNat : Int))) with h17 | h17
      ·refine zM h17 rfl <| zU h17 rfl (cL rfl rfl) <| zS rfl (ap (av := .v _) rfl h17 rfl) ?_;exact K _ 2 _ (am (bI h17)) rfl rfl
      ·refine zF h17 rfl <| zF h17 rfl <| zS rfl (ao (av := .v _) rfl h17 rfl) ?_;exact K _ 2 _ (am (bJ h17)) rfl rfl
     refine zm rfl <| aG (l := [14, 15, 16, 17, 18, 19, 20, 21, 22, 23, 24, 25, 26, 27, 28, 29, 30, 31, 32, 33, 34, 35, 36, 37, 38]) 41 (B (((decide (97 ≤ (x10.toNat : Int))) && (decide ((x10.toNat : Int) ≤ 122))) || ((decide (65 ≤ (x10.toNat : Int))) && (decide ((x10.toNat : Int) ≤ 90))))) (fun K => ?_) ?_
     ·rcases af ((decide (97 ≤ (x10.toNat : Int))) && (decide ((x10.toNat : Int) ≤ 122))) with h18 | h18
      ·refine zF h18 rfl <| zF h18 rfl <| zF h18 rfl <| gU rfl rfl rfl rfl rfl <| gU rfl rfl rfl rfl rfl <| zF h18 rfl <| zS rfl (ap (av := .v _) rfl h18 rfl) ?_;exact K _ 6 _ (am (dz h18)) rfl rfl
      ·refine zM h18 rfl <| zU h18 rfl (di rfl rfl) <| zM h18 rfl <| aG (l := [13, 14, 15, 16, 17, 18, 19, 20, 21, 22, 23, 24, 25, 26, 27, 28, 29, 30, 31, 32, 33, 34, 35, 36, 37, 38]) 40 (B ((decide (65 ≤ (x10.toNat : Int))) && (decide ((x10.toNat : Int) ≤ 90)))) (fun K => ?_) ?_
       ·rcases af (decide (65 ≤ (x10.toNat : Int))) with h19 | h19
        ·refine zM h19 rfl <| zU h19 rfl (cL rfl rfl) <| zU h18 rfl (ap (av := .v _) rfl h19 rfl) ?_;exact K _ 2 _ (am (bI h19)) rfl rfl
        ·refine zF h19 rfl <| zF h19 rfl <| zU h18 rfl (ao (av := .v _) rfl h19 rfl) ?_;exact K _ 2 _ (am (bJ h19)) rfl rfl
       refine zS rfl (ao (av := .v _) rfl h18 rfl) ?_;exact K _ 4 _ (am (dA h18)) rfl rfl
     refine zm rfl <| aG (l := [22, 23, 24, 25, 26, 27, 28, 29, 30, 31, 32, 33, 34, 35, 36, 37, 38]) 49 (B ((((decide (97 ≤ (x10.toNat : Int))) && (decide ((x10.toNat : Int) ≤ 122))) || ((decide (65 ≤ (x10.toNat : Int))) && (decide ((x10.toNat : Int) ≤ 90)))) || ((decide (48 ≤ (x10.toNat : Int))) && (decide ((x10.toNat : Int) ≤ 57))))) (fun K => ?_) ?_
     ·rcases af (((decide (97 ≤ (x10.toNat : Int))) && (decide ((x10.toNat : Int) ≤ 122))) || ((decide (65 ≤ (x10.toNat : Int))) && (decide ((x10.toNat : Int) ≤ 90)))) with h20 | h20
      ·refine zF h20 rfl <| zF h20 rfl <| zF h20 rfl <| gU rfl rfl rfl rfl rfl <| gU rfl rfl rfl rfl rfl <| zF h20 rfl <| zS rfl (ap (av := .v _) rfl h20 rfl) ?_;exact K _ 6 _ (am (dz h20)) rfl rfl
      ·refine zM h20 rfl <| zU h20 rfl (di rfl rfl) <| zM h20 rfl <| aG (l := [21, 22, 23, 24, 25, 26, 27, 28, 29, 30, 31, 32, 33, 34, 35, 36, 37, 38]) 48 (B ((decide (48 ≤ (x10.toNat : Int))) && (decide ((x10.toNat : Int) ≤ 57)))) (fun K => ?_) ?_
       ·rcases af (decide (48 ≤ (x10.toNat : Int))) with h21 | h21
        ·refine zM h21 rfl <| zU h21 rfl (cL rfl rfl) <| zU h20 rfl (ap (av := .v _) rfl h21 rfl) ?_;exact K _ 2 _ (am (bI h21)) rfl rfl
        ·refine zF h21 rfl <| zF h21 rfl <| zU h20 rfl (ao (av := .v _) rfl h21 rfl) ?_;exact K _ 2 _ (am (bJ h21)) rfl rfl
       refine zS rfl (ao (av := .v _) rfl h20 rfl) ?_;exact K _ 4 _ (am (dA h20)) rfl rfl
     refine zm rfl <| aG (l := [26, 27, 28, 29, 30, 31, 32, 33, 34, 35, 36, 37, 38]) 53 (B (((((decide (97 ≤ (x10.toNat : Int))) && (decide ((x10.toNat : Int) ≤ 122))) || ((decide (65 ≤ (x10.toNat : Int))) && (decide ((x10.toNat : Int) ≤ 90)))) || ((decide (48 ≤ (x10.toNat : Int))) && (decide ((x10.toNat : Int) ≤ 57)))) || (decide (x10 = 46)))) (fun K => ?_) ?_
     ·rcases af ((((decide (97 ≤ (x10.toNat : Int))) && (decide ((x10.toNat : Int) ≤ 122))) || ((decide (65 ≤ (x10.toNat : Int))) && (decide ((x10.toNat : Int) ≤ 90)))) || ((decide (48 ≤ (x10.toNat : Int))) && (decide ((x10.toNat : Int) ≤ 57)))) with h22 | h22
      ·refine zF h22 rfl <| zF h22 rfl <| zS rfl (ap (av := .v _) rfl h22 rfl) ?_;exact K _ 2 _ (am (dz h22)) rfl rfl
      ·refine zM h22 rfl <| zU h22 rfl (dr (a := x10) (b := 46) rfl rfl) <| zS rfl (ao (av := .v _) rfl h22 rfl) ?_;exact K _ 2 _ (am (dA h22)) rfl rfl
     refine zm rfl <| aG (l := [30, 31, 32, 33, 34, 35, 36, 37, 38]) 57 (B ((((((decide (97 ≤ (x10.toNat : Int))) && (decide ((x10.toNat : Int) ≤ 122))) || ((decide (65 ≤ (x10.toNat : Int))) && (decide ((x10.toNat : Int) ≤ 90)))) || ((decide (48 ≤ (x10.toNat : Int))) && (decide ((x10.toNat : Int) ≤ 57)))) || (decide (x10 = 46))) || (decide (x10 = 45)))) (fun K => ?_) ?_
     ·rcases af (((((decide (97 ≤ (x10.toNat : Int))) && (decide ((x10.toNat : Int) ≤ 122))) || ((decide (65 ≤ (x10.toNat : Int))) && (decide ((x10.toNat : Int) ≤ 90)))) || ((decide (48 ≤ (x10.toNat : Int))) && (decide ((x10.toNat : Int) ≤ 57)))) || (decide (x10 = 46))) with h23 | h23
      ·refine zF h23 rfl <| zF h23 rfl <| zS rfl (ap (av := .v _) rfl h23 rfl) ?_;exact K _ 2 _ (am (dz h23)) rfl rfl
      ·refine zM h23 rfl <| zU h23 rfl (dr (a := x10) (b := 45) rfl rfl) <| zS rfl (ao (av := .v _) rfl h23 rfl) ?_;exact K _ 2 _ (am (dA h23)) rfl rfl
     refine zm rfl <| aG (l := [34, 35, 36, 37, 38]) 61 (B (((((((decide (97 ≤ (x10.toNat : Int))) && (decide ((x10.toNat : Int) ≤ 122))) || ((decide (65 ≤ (x10.toNat : Int))) && (decide ((x10.toNat : Int) ≤ 90)))) || ((decide (48 ≤ (x10.toNat : Int))) && (decide ((x10.toNat : Int) ≤ 57)))) || (decide (x10 = 46))) || (decide (x10 = 45))) || (decide (x10 = 95)))) (fun K => ?_) ?_
     ·rcases af ((((((decide (97 ≤ (x10.toNat : Int))) && (decide ((x10.toNat : Int) ≤ 122))) || ((decide (65 ≤ (x10.toNat : Int))) && (decide ((x10.toNat : Int) ≤ 90)))) || ((decide (48 ≤ (x10.toNat : Int))) && (decide ((x10.toNat : Int) ≤ 57)))) || (decide (x10 = 46))) || (decide (x10 = 45))) with h24 | h24
      ·refine zF h24 rfl <| zF h24 rfl <| zS rfl (ap (av := .v _) rfl h24 rfl) ?_;exact K _ 2 _ (am (dz h24)) rfl rfl
      ·refine zM h24 rfl <| zU h24 rfl (dr (a := x10) (b := 95) rfl rfl) <| zS rfl (ao (av := .v _) rfl h24 rfl) ?_;exact K _ 2 _ (am (dA h24)) rfl rfl
     refine zm rfl <| aG (l := [38]) 65 (B ((((((((decide (97 ≤ (x10.toNat : Int))) && (decide ((x10.toNat : Int) ≤ 122))) || ((decide (65 ≤ (x10.toNat : Int))) && (decide ((x10.toNat : Int) ≤ 90)))) || ((decide (48 ≤ (x10.toNat : Int))) && (decide ((x10.toNat : Int) ≤ 57)))) || (decide (x10 = 46))) || (decide (x10 = 45))) || (decide (x10 = 95))) || (decide (x10 = 43)))) (fun K => ?_) ?_
     ·rcases af (((((((decide (97 ≤ (x10.toNat : Int))) && (decide ((x10.toNat : Int) ≤ 122))) || ((decide (65 ≤ (x10.toNat : Int))) && (decide ((x10.toNat : Int) ≤ 90)))) || ((decide (48 ≤ (x10.toNat : Int))) && (decide ((x10.toNat : Int) ≤ 57)))) || (decide (x10 = 46))) || (decide (x10 = 45))) || (decide (x10 = 95))) with h25 | h25
      ·refine zF h25 rfl <| zF h25 rfl <| zS rfl (ap (av := .v _) rfl h25 rfl) ?_;exact K _ 2 _ (am (dz h25)) rfl rfl
      ·refine zM h25 rfl <| zU h25 rfl (dr (a := x10) (b := 43) rfl rfl) <| zS rfl (ao (av := .v _) rfl h25 rfl) ?_;exact K _ 2 _ (am (dA h25)) rfl rfl
     refine zS rfl (cW rfl) <| ai <| aE rfl (fun c26 => ?_) (fun c26 => ?_)
     ·replace H := bg c26 H;refine ah <| ac ?_;show AR _ _ _ _ _ [0] _;refine za rfl <| ai <| aQ ?_;obtain rfl := ay H;exact And.intro rfl (Exists.intro _ (Exists.intro _ ⟨aV rfl (.refl _), aL [] rfl, rfl, rfl⟩))
     ·replace H := ba c26 H;refine aJ ?_;exact Exists.intro y4 ⟨H, aZ [] (.cons (.refl _) (.cons (.refl _) (.cons (.refl _) (.nil _)))) rfl⟩
   rintro y27 H;replace H : cw y5 (cf a1 n7) y27 = some r2 := H
   unfold cw at H
   obtain ⟨g29, H⟩ := aY H;refine ac ?_;show AR _ _ _ _ _ [0, 1, 2] _;refine zm rfl <| zS rfl (dE rfl rfl g29) <| za rfl <| ai ?_;exact Exists.intro (n7, y27, y5 + 1) ⟨H, Nat.lt_succ_self _, aZ [] (.cons (.refl _) (.cons (.refl _) (.cons (.refl _) (.nil _)))) rfl⟩
  ·replace H := ba c8 H;refine cH ?_;exact Exists.intro y4 ⟨H, aZ [] (.cons (.refl _) (.cons (.refl _) (.nil _))) rfl⟩
 rintro y30 H;replace H : dL a1 y30 = some r2 := H
 unfold dL at H
 refine ah <| ac ?_;show AR _ _ _ _ _ [0, 1, 2, 3, 4, 5, 6, 7, 8, 9, 10, 11, 12] _;refine zm rfl <| zS rfl (bt rfl rfl) <| zm rfl <| aG (l := [7, 8, 9, 10, 11, 12]) 73 (B ((decide (y30 = 1)) && (decide (3 ≤ (a1.length : Int))))) (fun K => ?_) ?_
 ·rcases af (decide (y30 = 1)) with h32 | h32
  ·refine zM h32 rfl <| zU h32 rfl (bb ag rfl) <| zU h32 rfl (di rfl rfl) <| zS rfl (ap (av := .v _) rfl h32 rfl) ?_;exact K _ 3 _ (am (bI h32)) rfl rfl
  ·refine zF h32 rfl <| zF h32 rfl <| zF h32 rfl <| zS rfl (ao (av := .v _) rfl h32 rfl) ?_;exact K _ 3 _ (am (bJ h32)) rfl rfl
 refine zm rfl <| aG (l := [12]) 78 (B (((decide (y30 = 1)) && (decide (3 ≤ (a1.length : Int)))) && (decide ((a1.length : Int) ≤ 60)))) (fun K => ?_) ?_
 ·rcases af ((decide (y30 = 1)) && (decide (3 ≤ (a1.length : Int)))) with h33 | h33
  ·refine zM h33 rfl <| zU h33 rfl (bb ag rfl) <| zU h33 rfl (cL rfl rfl) <| zS rfl (ap (av := .v _) rfl h33 rfl) ?_;exact K _ 3 _ (am (bI h33)) rfl rfl
  ·refine zF h33 rfl <| zF h33 rfl <| zF h33 rfl <| zS rfl (ao (av := .v _) rfl h33 rfl) ?_;exact K _ 3 _ (am (bJ h33)) rfl rfl
 refine za rfl <| ai <| aQ ?_;obtain rfl := ay H;exact And.intro rfl (Exists.intro _ (Exists.intro _ ⟨aV rfl (.refl _), aL [] rfl, rfl, rfl⟩))
set_option maxRecDepth 100000 in
set_option maxHeartbeats 1000000 in
theorem cO (F : Nat) (a1 : List UInt8) (r2 : Int) (H : eh F a1 = some r2) : ACalls Tryz.prog 111 [S a1] [] (Ret (i64 r2) []) := by
 unfold eh at H
 refine az Tryz.func111 rfl rfl ?_;show AW _ _ 48 _ _ _;refine ah <| ac ?_;show AR _ _ _ _ _ [0] _;refine za rfl <| ai <| ah <| ah ?_;obtain ⟨g5, H⟩ := cq H;obtain ⟨x6, e7, H⟩ := bP H;refine ac ?_;show AR _ _ _ _ _ [0, 1, 2, 3, 4, 5, 6, 7, 8, 9, 10, 11, 12, 13, 14, 15, 16, 17] _;refine zm rfl <| zS rfl (bb ag rfl) <| zS rfl (bN rfl rfl) <| zm rfl <| aG (l := [8, 9, 10, 11, 12, 13, 14, 15, 16, 17]) 12 (B ((decide ((a1.length : Int) < 1)) || (decide (3 < (a1.length : Int))))) (fun K => ?_) ?_
 ·rcases af (decide ((a1.length : Int) < 1)) with h3 | h3
  ·refine zF h3 rfl <| zF h3 rfl <| zF h3 rfl <| zS rfl (ap (av := .v _) rfl h3 rfl) ?_;exact K _ 3 _ (am (dz h3)) rfl rfl
  ·refine zM h3 rfl <| zU h3 rfl (bb ag rfl) <| zU h3 rfl (fH rfl rfl) <| zS rfl (ao (av := .v _) rfl h3 rfl) ?_;exact K _ 3 _ (am (dA h3)) rfl rfl
 refine zm rfl <| aG (l := []) 22 (B (((decide ((a1.length : Int) < 1)) || (decide (3 < (a1.length : Int)))) || ((decide (x6 = 48)) && (decide (1 < (a1.length : Int)))))) (fun K => ?_) ?_
 ·rcases af ((decide ((a1.length : Int) < 1)) || (decide (3 < (a1.length : Int)))) with h4 | h4
  ·refine zF h4 rfl <| zF h4 rfl <| zF h4 rfl <| zF h4 rfl <| gU rfl rfl rfl rfl rfl <| gU rfl rfl rfl rfl rfl <| gU rfl rfl rfl rfl rfl <| zF h4 rfl <| zS rfl (ap (av := .v _) rfl h4 rfl) ?_;exact K _ 8 _ (am (dz h4)) rfl rfl
  ·refine zM h4 rfl <| zU h4 rfl (bi ag rfl rfl (g5 (nf h4)) e7) <| zU h4 rfl (dr (a := x6) (b := 48) rfl rfl) <| zM h4 rfl <| aG (l := [17]) 21 (B ((decide (x6 = 48)) && (decide (1 < (a1.length : Int))))) (fun K => ?_) ?_
   ·rcases af (decide (x6 = 48)) with h8 | h8
    ·refine zM h8 rfl <| zU h8 rfl (bb ag rfl) <| zU h8 rfl (fH rfl rfl) <| zU h4 rfl (ap (av := .v _) rfl h8 rfl) ?_;exact K _ 3 _ (am (bI h8)) rfl rfl
    ·refine zF h8 rfl <| zF h8 rfl <| zF h8 rfl <| zU h4 rfl (ao (av := .v _) rfl h8 rfl) ?_;exact K _ 3 _ (am (bJ h8)) rfl rfl
   refine zS rfl (ao (av := .v _) rfl h4 rfl) ?_;exact K _ 5 _ (am (dA h4)) rfl rfl
 refine ai <| aE rfl (fun c9 => ?_) (fun c9 => ?_)
 ·replace H := bg c9 H;refine ah <| ac ?_;show AR _ _ _ _ _ [0] _;refine za rfl <| ai <| aQ ?_;obtain rfl := ay H;exact And.intro rfl (Exists.intro _ (Exists.intro _ ⟨aV rfl (.refl _), aL [] rfl, rfl, rfl⟩))
 ·replace H := ba c9 H;refine aJ <| ah <| ac ?_;show AR _ _ _ _ _ [0] _;refine za rfl <| ai <| bK (X := Int) (fun y29 => ⟨[(3, i64 y29)], [], []⟩) (fun y29 => gu y29 = some r2) ?_ ?_
  ·refine ah <| ac ?_;show AR _ _ _ _ _ [0] _;refine za rfl <| ai <| be <| cN (X := Nat × Int × Int) (fun (n13, y10, y11) => ⟨[(0, S a1), (3, i64 y10), (4, i64 y11)], [], []⟩) (fun (n13, y10, y11) => fh a1 n13 (y10, y11) = some r2) (fun (n13, y10, y11) => n13) (F, 0, 0) H (aZ [] (.cons (.refl _) (.cons (.refl _) (.cons (.refl _) (.nil _)))) rfl) ?_;rintro ⟨n13, y10, y11⟩ H;obtain ⟨n13, rfl, H⟩ := dK H;replace H : fi a1 (fh a1 n13) y10 y11 = some r2 := H
   unfold fi at H
   refine ah <| ah <| ac ?_;show AR _ _ _ _ _ [0, 1, 2, 3] _;refine zm rfl <| zm rfl <| zS rfl (bb ag rfl) <| zS rfl (bN rfl rfl) <| ai <| aE rfl (fun c14 => ?_) (fun c14 => ?_)
   ·replace H := bg c14 H;refine aJ <| ah <| be <| ah <| ah ?_;obtain ⟨g15, H⟩ := aY H;obtain ⟨x16, e17, H⟩ := bP H;obtain ⟨g19, H⟩ := cq H;obtain ⟨x20, e21, H⟩ := bP H;refine ac ?_;show AR _ _ _ _ _ [0, 1, 2, 3, 4, 5, 6, 7, 8, 9] _;refine zm rfl <| zm rfl <| zS rfl (bi ag rfl rfl g15 e17) <| zS rfl (bN rfl rfl) <| zm rfl <| aG (l := []) 38 (B ((decide ((x16.toNat : Int) < 48)) || (decide (57 < (x20.toNat : Int))))) (fun K => ?_) ?_
    ·rcases af (decide ((x16.toNat : Int) < 48)) with h18 | h18
     ·refine zF h18 rfl <| zF h18 rfl <| zF h18 rfl <| zF h18 rfl <| zS rfl (ap (av := .v _) rfl h18 rfl) ?_;exact K _ 4 _ (am (dz h18)) rfl rfl
     ·refine zM h18 rfl <| zM h18 rfl <| zU h18 rfl (bi ag rfl rfl (g19 (nf h18)) e21) <| zU h18 rfl (fH rfl rfl) <| zS rfl (ao (av := .v _) rfl h18 rfl) ?_;exact K _ 4 _ (am (dA h18)) rfl rfl
    refine ai <| aE rfl (fun c22 => ?_) (fun c22 => ?_)
    ·replace H := bg c22 H;refine ah <| ac ?_;show AR _ _ _ _ _ [0] _;refine za rfl <| ai <| aQ ?_;obtain rfl := ay H;exact And.intro rfl (Exists.intro _ (Exists.intro _ ⟨aV rfl (.refl _), aL [] rfl, rfl, rfl⟩))
    ·replace H := ba c22 H;refine aJ ?_;obtain ⟨g23, H⟩ := aY H;obtain ⟨g24, H⟩ := aY H;obtain ⟨x25, e26, H⟩ := bP H;obtain ⟨g27, H⟩ := aY H;refine ac ?_;show AR _ _ _ _ _ [0, 1, 2, 3, 4, 5, 6, 7, 8] _;refine zm rfl <| zS rfl (g_mul rfl rfl g23) <| zm rfl <| zm rfl <| zS rfl (bi ag rfl rfl g24 e26) <| zS rfl (pk (a := x25) (b := 48) rfl rfl) <| zS rfl (kX (c := x25 - 48) (by kernel_rfl) aw rfl) <| zS rfl (dE rfl rfl g27) <| za rfl <| ai ?_;obtain ⟨g28, H⟩ := aY H;refine ac ?_;show AR _ _ _ _ _ [0, 1, 2] _;refine zm rfl <| zS rfl (dE rfl rfl g28) <| za rfl <| ai ?_;exact Exists.intro (n13, (10 * y10) + ((x25 - 48).toNat : Int), y11 + 1) ⟨H, Nat.lt_succ_self _, aZ [] (.cons (.refl _) (.cons (.refl _) (.cons (.refl _) (.nil _)))) rfl⟩
   ·replace H := ba c14 H;refine cH ?_;exact Exists.intro y10 ⟨H, aZ [] (.cons (.refl _) (.nil _)) rfl⟩
  rintro y29 H;replace H : gu y29 = some r2 := H
  unfold gu at H
  refine ah <| ac ?_;show AR _ _ _ _ _ [0, 1] _;refine zm rfl <| za rfl <| ai <| aQ ?_;obtain rfl := ay H;exact And.intro rfl (Exists.intro _ (Exists.intro _ ⟨aV rfl (.refl _), aL [] rfl, rfl, rfl⟩))
set_option maxRecDepth 100000 in
set_option maxHeartbeats 1000000 in
theorem qJ (F : Nat) (a1 : Int) (a2 : List UInt8) (r3 : Int) (r4 : Int) (r5 : Int) (H : ju F a1 a2 = some (r3, r4, r5)) : ACalls Tryz.prog 90 [i64 a1, S a2] [] (Ret (.agg [i64 r3, i64 r4, i64 r5]) []) := by
 unfold ju at H
 refine az Tryz.func90 rfl rfl ?_;show AW _ _ 51 _ _ _;refine ah <| ac ?_;show AR _ _ _ _ _ [0] _;refine zX rfl (br (zs := [.int .i64 0, .int .i64 0, .int .i64 0]) (by kernel_rfl)) ?_;rintro _ _ ⟨o6, rfl, rfl⟩;refine ai <| ah ?_;obtain ⟨x7, e8, H⟩ := cu H;obtain ⟨g9, H⟩ := aY H;obtain ⟨x10, e11, H⟩ := bP H;obtain ⟨x12, e13, H⟩ := cu H;refine ac ?_;show AR _ _ _ _ _ [0, 1, 2, 3, 4, 5] _;refine zm rfl <| aq rfl rfl (aU rfl oT rfl (lJ F a2 32 x7 e8) ?_);refine zS rfl (bL (E := Enc.str) ar (by kernel_rfl) rfl rfl g9 e11) <| zS rfl (aF ag rfl rfl) <| aq rfl rfl (aU rfl oT rfl (lJ F x10 46 x12 e13) ?_);refine zS rfl (aB (av := slE _ _ _) rfl) <| ai <| ah <| ah ?_;obtain ⟨g15, H⟩ := cq H;refine ac ?_;show AR _ _ _ _ _ [0, 1, 2, 3, 4, 5, 6, 7] _;refine zS rfl (ak (av := slE _ _ _) rfl) <| zS rfl (bc ar rfl) <| zS rfl (fm rfl rfl) <| zm rfl <| aG (l := []) 19 (B ((!decide ((x12.length : Int) = 3)) || (decide (a1 / 100 = 3)))) (fun K => ?_) ?_
 ·rcases af (!decide ((x12.length : Int) = 3)) with h14 | h14
  ·refine zF h14 rfl <| zF h14 rfl <| zF h14 rfl <| zS rfl (ap (av := .v _) rfl h14 rfl) ?_;exact K _ 3 _ (am (dz h14)) rfl rfl
  ·refine zM h14 rfl <| zU h14 rfl (g_quo rfl rfl (g15 (nf h14))) <| zU h14 rfl (bt rfl rfl) <| zS rfl (ao (av := .v _) rfl h14 rfl) ?_;exact K _ 3 _ (am (dA h14)) rfl rfl
 refine ai <| aE rfl (fun c16 => ?_) (fun c16 => ?_)
 ·replace H := bg c16 H;refine ah <| ac ?_;show AR _ _ _ _ _ [0, 1] _;refine zS rfl (gG (zs := [.int .i64 0, .int .i64 0, .int .i64 0]) (k := 1) (cs := [i64 0, i64 0, i64 0]) bj (by kernel_rfl) (by kernel_rfl) rfl rfl (by kernel_rfl)) <| s0 rfl rfl (aH (i := 0) (vs := [i64 0, i64 0, i64 0]) (by kernel_rfl) rfl rfl (by simp [bk, slE]) rfl (aa rfl)) <| ai <| aQ ?_;obtain ⟨rfl, rfl, rfl⟩ := ia H;exact And.intro rfl (Exists.intro _ (Exists.intro _ ⟨bW (dw rfl (bX (off := 0) (cs := [i64 0, i64 0, i64 0]) (n := 3) 0 bj rfl (by kernel_rfl) rfl rfl (aa rfl))), aL [] rfl, rfl, rfl⟩))
 ·replace H := ba c16 H;refine aJ <| bK (X := Nat × Int × Int × Int) (fun (o36, y37, y38, y39) => ⟨[(0, i64 a1), (4, .pt o6 0), (6, .pt o36 0)], [], [.obj o36 [i64 y37, i64 y38, i64 y39], .obj o6 [i64 0, i64 0, i64 0]]⟩) (fun (o36, y37, y38, y39) => gr a1 y37 y38 y39 = some (r3, r4, r5)) ?_ ?_
  ·obtain ⟨g17, H⟩ := aY H;obtain ⟨x18, e19, H⟩ := bP H;obtain ⟨g20, H⟩ := aY H;obtain ⟨x21, e22, H⟩ := bP H;obtain ⟨g23, H⟩ := aY H;obtain ⟨x24, e25, H⟩ := bP H;obtain ⟨x26, e27, H⟩ := cu H;obtain ⟨x28, e29, H⟩ := cu H;obtain ⟨x30, e31, H⟩ := cu H;refine bA (by kernel_rfl) ?_;show AI _ _ _ _ _ 15 (Array.replicate 15 false) _;refine zk 0 rfl (ak (av := slE _ _ _) rfl) ?_;show AI _ _ _ _ _ _ #[true, false, false, false, false, false, false, false, false, false, false, false, false, false, false] _;refine zk 1 rfl (bL (E := Enc.str) ar (by kernel_rfl) rfl rfl g17 e19) ?_;show AI _ _ _ _ _ _ #[true, true, false, false, false, false, false, false, false, false, false, false, false, false, false] _;refine zk 2 rfl (aF ag rfl rfl) ?_;show AI _ _ _ _ _ _ #[true, true, true, false, false, false, false, false, false, false, false, false, false, false, false] _;refine zk 4 rfl (ak (av := slE _ _ _) rfl) ?_;show AI _ _ _ _ _ _ #[true, true, true, false, true, false, false, false, false, false, false, false, false, false, false] _;refine zk 5 rfl (bL (E := Enc.str) ar (by kernel_rfl) rfl rfl g20 e22) ?_;show AI _ _ _ _ _ _ #[true, true, true, false, true, true, false, false, false, false, false, false, false, false, false] _;refine zk 6 rfl (aF ag rfl rfl) ?_;show AI _ _ _ _ _ _ #[true, true, true, false, true, true, true, false, false, false, false, false, false, false, false] _;refine zk 8 rfl (ak (av := slE _ _ _) rfl) ?_
   show AI _ _ _ _ _ _ #[true, true, true, false, true, true, true, false, true, false, false, false, false, false, false] _;refine zk 9 rfl (bL (E := Enc.str) ar (by kernel_rfl) rfl rfl g23 e25) ?_;show AI _ _ _ _ _ _ #[true, true, true, false, true, true, true, false, true, true, false, false, false, false, false] _;refine zk 10 rfl (aF ag rfl rfl) ?_;show AI _ _ _ _ _ _ #[true, true, true, false, true, true, true, false, true, true, true, false, false, false, false] _;refine cA (i := 3) (j := 13) (by kernel_rfl) rfl rfl rfl rfl ?_ ?_
   ·refine bD rfl ew rfl (cO F x18 x26 e27) ?_;show AI _ _ _ _ _ _ #[true, true, true, true, true, true, true, false, true, true, true, false, false, false, false] _;refine cA (i := 7) (j := 13) (by kernel_rfl) rfl rfl rfl rfl ?_ ?_
    ·refine bD rfl ew rfl (cO F x21 x28 e29) ?_;show AI _ _ _ _ _ _ #[true, true, true, true, true, true, true, true, true, true, true, false, false, false, false] _;refine cA (i := 11) (j := 13) (by kernel_rfl) rfl rfl rfl rfl ?_ ?_
     ·refine bD rfl ew rfl (cO F x24 x30 e31) ?_;show AI _ _ _ _ _ _ #[true, true, true, true, true, true, true, true, true, true, true, true, false, false, false] _;refine zk 12 rfl (gG (zs := [.int .i64 0, .int .i64 0, .int .i64 0]) (k := 1) (cs := [i64 x26, i64 x28, i64 x30]) bj (by kernel_rfl) (by kernel_rfl) rfl rfl (by kernel_rfl)) ?_;show AI _ _ _ _ _ _ #[true, true, true, true, true, true, true, true, true, true, true, true, true, false, false] _;refine aN (i := 13) (by kernel_rfl) rfl rfl <| dd rfl (br (zs := [.int .i64 0, .int .i64 0, .int .i64 0]) (by kernel_rfl)) ?_;rintro _ _ ⟨o32, rfl, rfl⟩;show AI _ _ _ _ _ _ #[true, true, true, true, true, true, true, true, true, true, true, true, true, true, false] _;refine aN (i := 14) (by kernel_rfl) rfl rfl <| cd (aH (i := 0) (vs := [i64 x26, i64 x28, i64 x30]) (by kernel_rfl) rfl rfl (by simp [bk, slE]) rfl (aa rfl)) ?_;show AI _ _ _ _ _ _ #[true, true, true, true, true, true, true, true, true, true, true, true, true, true, true] _;refine bo rfl ?_;exact Exists.intro (o32, x26, x28, x30) ⟨H, aZ [0, 0] (.cons (.refl _) (.cons (.refl _) (.cons (.refl _) (.nil _)))) rfl⟩
     ·refine dd rfl (br (zs := [.int .i64 0, .int .i64 0, .int .i64 0]) (by kernel_rfl)) ?_;rintro _ _ ⟨o33, rfl, rfl⟩;show AI _ _ _ _ _ _ #[true, true, true, true, true, true, true, true, true, true, true, false, false, true, false] _;refine aN (i := 11) (by kernel_rfl) rfl rfl <| bD rfl ew rfl (cO F x24 x30 e31) ?_;show AI _ _ _ _ _ _ #[true, true, true, true, true, true, true, true, true, true, true, true, false, true, false] _;refine zk 12 rfl (gG (zs := [.int .i64 0, .int .i64 0, .int .i64 0]) (k := 1) (cs := [i64 x26, i64 x28, i64 x30]) bj (by kernel_rfl) (by kernel_rfl) rfl rfl (by kernel_rfl)) ?_;show AI _ _ _ _ _ _ #[true, true, true, true, true, true, true, true, true, true, true, true, true, true, false] _;refine aN (i := 14) (by kernel_rfl) rfl rfl <| cd (aH (i := 0) (vs := [i64 x26, i64 x28, i64 x30]) (by kernel_rfl) rfl rfl (by simp [bk, slE]) rfl (aa rfl)) ?_;show AI _ _ _ _ _ _ #[true, true, true, true, true, true, true, true, true, true, true, true, true, true, true] _;refine bo rfl ?_;exact Exists.intro (o33, x26, x28, x30) ⟨H, aZ [0, 0] (.cons (.refl _) (.cons (.refl _) (.cons (.refl _) (.nil _)))) rfl⟩
    ·refine dd rfl (br (zs := [.int .i64 0, .int .i64 0, .int .i64 0]) (by kernel_rfl)) ?_;rintro _ _ ⟨o34, rfl, rfl⟩;show AI _ _ _ _ _ _ #[true, true, true, true, true, true, true, false, true, true, true, false, false, true, false] _;refine aN (i := 7) (by kernel_rfl) rfl rfl <| bD rfl ew rfl (cO F x21 x28 e29) ?_;show AI _ _ _ _ _ _ #[true, true, true, true, true, true, true, true, true, true, true, false, false, true, false] _;refine aN (i := 11) (by kernel_rfl) rfl rfl <| bD rfl ew rfl (cO F x24 x30 e31) ?_;show AI _ _ _ _ _ _ #[true, true, true, true, true, true, true, true, true, true, true, true, false, true, false] _;refine zk 12 rfl (gG (zs := [.int .i64 0, .int .i64 0, .int .i64 0]) (k := 1) (cs := [i64 x26, i64 x28, i64 x30]) bj (by kernel_rfl) (by kernel_rfl) rfl rfl (by kernel_rfl)) ?_;show AI _ _ _ _ _ _ #[true, true, true, true, true, true, true, true, true, true, true, true, true, true, false] _;refine aN (i := 14) (by kernel_rfl) rfl rfl <| cd (aH (i := 0) (vs := [i64 x26, i64 x28, i64 x30]) (by kernel_rfl) rfl rfl (by simp [bk, slE]) rfl (aa rfl)) ?_;show AI _ _ _ _ _ _ #[true, true, true, true, true, true, true, true, true, true, true, true, true, true, true] _;refine bo rfl ?_;exact Exists.intro (o34, x26, x28, x30) ⟨H, aZ [0, 0] (.cons (.refl _) (.cons (.refl _) (.cons (.refl _) (.nil _)))) rfl⟩
   ·refine dd rfl (br (zs := [.int .i64 0, .int .i64 0, .int .i64 0]) (by kernel_rfl)) ?_;rintro _ _ ⟨o35, rfl, rfl⟩;show AI _ _ _ _ _ _ #[true, true, true, false, true, true, true, false, true, true, true, false, false, true, false] _;refine aN (i := 3) (by kernel_rfl) rfl rfl <| bD rfl ew rfl (cO F x18 x26 e27) ?_;show AI _ _ _ _ _ _ #[true, true, true, true, true, true, true, false, true, true, true, false, false, true, false] _;refine aN (i := 7) (by kernel_rfl) rfl rfl <| bD rfl ew rfl (cO F x21 x28 e29) ?_;show AI _ _ _ _ _ _ #[true, true, true, true, true, true, true, true, true, true, true, false, false, true, false] _;refine aN (i := 11) (by kernel_rfl) rfl rfl <| bD rfl ew rfl (cO F x24 x30 e31) ?_;show AI _ _ _ _ _ _ #[true, true, true, true, true, true, true, true, true, true, true, true, false, true, false] _;refine zk 12 rfl (gG (zs := [.int .i64 0, .int .i64 0, .int .i64 0]) (k := 1) (cs := [i64 x26, i64 x28, i64 x30]) bj (by kernel_rfl) (by kernel_rfl) rfl rfl (by kernel_rfl)) ?_;show AI _ _ _ _ _ _ #[true, true, true, true, true, true, true, true, true, true, true, true, true, true, false] _;refine aN (i := 14) (by kernel_rfl) rfl rfl <| cd (aH (i := 0) (vs := [i64 x26, i64 x28, i64 x30]) (by kernel_rfl) rfl rfl (by simp [bk, slE]) rfl (aa rfl)) ?_;show AI _ _ _ _ _ _ #[true, true, true, true, true, true, true, true, true, true, true, true, true, true, true] _;refine bo rfl ?_
    exact Exists.intro (o35, x26, x28, x30) ⟨H, aZ [0, 0] (.cons (.refl _) (.cons (.refl _) (.cons (.refl _) (.nil _)))) rfl⟩
  rintro ⟨o36, y37, y38, y39⟩ H;replace H : gr a1 y37 y38 y39 = some (r3, r4, r5) := H
  unfold gr at H
  refine ah <| ah ?_;obtain ⟨g41, H⟩ := aY H;refine ac ?_;show AR _ _ _ _ _ [0, 1, 2, 3, 4, 5, 6, 7, 8, 9, 10, 11, 12, 13, 14] _;refine zS rfl (ef (Ar := 0) (k := 1) (m := 0) bj (by kernel_rfl) rfl rfl rfl (by decide)) <| zR rfl (al (i := 0) aw rfl rfl rfl rfl) <| zm rfl <| zS rfl (g_quo rfl rfl g41) <| zS rfl (fm rfl rfl) <| zm rfl <| aG (l := [10, 11, 12, 13, 14]) 43 (B ((!decide (y37 = a1 / 100)) || (decide (y38 < 0)))) (fun K => ?_) ?_
  ·rcases af (!decide (y37 = a1 / 100)) with h42 | h42
   ·refine zF h42 rfl <| zF h42 rfl <| zF h42 rfl <| zS rfl (ap (av := .v _) rfl h42 rfl) ?_;exact K _ 3 _ (am (dz h42)) rfl rfl
   ·refine zU h42 rfl (ef (Ar := 0) (k := 1) (m := 1) bj (by kernel_rfl) rfl rfl rfl (by decide)) <| zT h42 rfl (ca rfl rfl (al (i := 0) aw rfl rfl rfl rfl) ?_);refine zU h42 rfl (bN rfl rfl) <| zS rfl (ao (av := .v _) rfl h42 rfl) ?_;exact K _ 3 _ (am (dA h42)) rfl rfl
  refine zm rfl <| aG (l := []) 48 (B (((!decide (y37 = a1 / 100)) || (decide (y38 < 0))) || (decide (y39 < 0)))) (fun K => ?_) ?_
  ·rcases af ((!decide (y37 = a1 / 100)) || (decide (y38 < 0))) with h43 | h43
   ·refine zF h43 rfl <| zF h43 rfl <| zF h43 rfl <| zS rfl (ap (av := .v _) rfl h43 rfl) ?_;exact K _ 3 _ (am (dz h43)) rfl rfl
   ·refine zU h43 rfl (ef (Ar := 0) (k := 1) (m := 2) bj (by kernel_rfl) rfl rfl rfl (by decide)) <| zT h43 rfl (ca rfl rfl (al (i := 0) aw rfl rfl rfl rfl) ?_);refine zU h43 rfl (bN rfl rfl) <| zS rfl (ao (av := .v _) rfl h43 rfl) ?_;exact K _ 3 _ (am (dA h43)) rfl rfl
  refine ai <| aE rfl (fun c44 => ?_) (fun c44 => ?_)
  ·replace H := bg c44 H;refine ah <| ac ?_;show AR _ _ _ _ _ [0, 1] _;refine zS rfl (gG (zs := [.int .i64 0, .int .i64 0, .int .i64 0]) (k := 1) (cs := [i64 0, i64 0, i64 0]) bj (by kernel_rfl) (by kernel_rfl) rfl rfl (by kernel_rfl)) <| s0 rfl rfl (aH (i := 1) (vs := [i64 0, i64 0, i64 0]) (by kernel_rfl) rfl rfl (by simp [bk, slE]) rfl (aa rfl)) <| ai <| aQ ?_;obtain ⟨rfl, rfl, rfl⟩ := ia H;exact And.intro rfl (Exists.intro _ (Exists.intro _ ⟨bW (dw rfl (bX (off := 0) (cs := [i64 0, i64 0, i64 0]) (n := 3) 1 bj rfl (by kernel_rfl) rfl rfl (aa rfl))), aL [] rfl, rfl, rfl⟩))
  ·replace H := ba c44 H;refine aJ <| ah <| ac ?_;show AR _ _ _ _ _ [0, 1] _;refine zR rfl (bq (i := 0) (n := 3) bj rfl (by kernel_rfl) rfl rfl (aa rfl)) <| s0 rfl rfl (aH (i := 1) (vs := [i64 y37, i64 y38, i64 y39]) (by kernel_rfl) rfl rfl (by simp [bk, slE]) rfl (aa rfl)) <| ai <| aQ ?_;obtain ⟨rfl, rfl, rfl⟩ := ia H;exact And.intro rfl (Exists.intro _ (Exists.intro _ ⟨bW (dw rfl (bX (off := 0) (cs := [i64 y37, i64 y38, i64 y39]) (n := 3) 1 bj rfl (by kernel_rfl) rfl rfl (aa rfl))), aL [] rfl, rfl, rfl⟩))
set_option maxRecDepth 100000 in
set_option maxHeartbeats 1000000 in
theorem qH (F : Nat) (a1 : List UInt8) (q2 : Option Nat) (r3 : List UInt8) (r4 : Int) (H : kw F a1 = some (r3, r4)) : ACalls Tryz.prog 88 [slE Enc.byte a1 q2] [] (Ret (.tup [S r3, i64 r4]) []) := by
 unfold kw at H
 refine az Tryz.func88 rfl rfl ?_;show AW _ _ 51 _ _ _;refine ah <| ac ?_;show AR _ _ _ _ _ [0, 1] _;refine za rfl <| za rfl <| ai <| bK (X := Unit) (fun _ => ⟨[(0, slE Enc.byte a1 q2)], [], []⟩) (fun _ => gm a1 = some (r3, r4)) ?_ ?_
 ·refine ah <| ac ?_;show AR _ _ _ _ _ [0] _;refine za rfl <| ai <| be <| cN (X := Nat × Int) (fun (n7, y5) => ⟨[(0, slE Enc.byte a1 q2), (4, i64 y5)], [], []⟩) (fun (n7, y5) => er F a1 n7 y5 = some (r3, r4)) (fun (n7, y5) => n7) (F, 0) H (aZ [] (.cons (.refl _) (.cons (.refl _) (.nil _))) rfl) ?_;rintro ⟨n7, y5⟩ H;obtain ⟨n7, rfl, H⟩ := dK H;replace H : gp F a1 (er F a1 n7) y5 = some (r3, r4) := H
  unfold gp at H
  refine ah <| ah <| ac ?_;show AR _ _ _ _ _ [0, 1, 2, 3, 4, 5, 6, 7] _;refine zm rfl <| zS rfl (ak (av := slE _ _ _) rfl) <| zS rfl (bc ab rfl) <| zS rfl (bN rfl rfl) <| zm rfl <| aG (l := []) 14 (B ((decide (y5 < (a1.length : Int))) && (decide (y5 < 512)))) (fun K => ?_) ?_
  ·rcases af (decide (y5 < (a1.length : Int))) with h8 | h8
   ·refine zM h8 rfl <| zU h8 rfl (bN rfl rfl) <| zS rfl (ap (av := .v _) rfl h8 rfl) ?_;exact K _ 2 _ (am (bI h8)) rfl rfl
   ·refine zF h8 rfl <| zF h8 rfl <| zS rfl (ao (av := .v _) rfl h8 rfl) ?_;exact K _ 2 _ (am (bJ h8)) rfl rfl
  refine ai <| aE rfl (fun c9 => ?_) (fun c9 => ?_)
  ·replace H := bg c9 H;refine aJ <| bK (X := Unit) (fun _ => ⟨[(0, slE Enc.byte a1 q2), (4, i64 y5)], [], []⟩) (fun _ => gl y5 (er F a1 n7) = some (r3, r4)) ?_ ?_
   ·refine be <| ah ?_;obtain ⟨g10, H⟩ := aY H;obtain ⟨x11, e12, H⟩ := bP H;refine ac ?_;show AR _ _ _ _ _ [0, 1, 2, 3, 4] _;refine zS rfl (ak (av := slE _ _ _) rfl) <| zm rfl <| zS rfl (bL (E := Enc.byte) ab (by kernel_rfl) rfl rfl g10 e12) <| zS rfl (aF aO rfl rfl) <| zS rfl (dr (a := x11) (b := 10) rfl rfl) <| ai <| aE rfl (fun c13 => ?_) (fun c13 => ?_)
    ·replace H := bg c13 H;refine ah <| ah ?_;obtain ⟨g15, H⟩ := cq H;obtain ⟨g16, H⟩ := cq H;obtain ⟨x17, e18, H⟩ := bP H;refine ac ?_;show AR _ _ _ _ _ [0, 1, 2, 3, 4, 5, 6, 7, 8, 9] _;refine zm rfl <| zS rfl (bt rfl rfl) <| zm rfl <| aG (l := []) 31 (B ((decide (y5 = 0)) || (!decide (x17 = 13)))) (fun K => ?_) ?_
     ·rcases af (decide (y5 = 0)) with h14 | h14
      ·refine zF h14 rfl <| zF h14 rfl <| zF h14 rfl <| zF h14 rfl <| zF h14 rfl <| zF h14 rfl <| zS rfl (ap (av := .v _) rfl h14 rfl) ?_;exact K _ 6 _ (am (dz h14)) rfl rfl
      ·refine zU h14 rfl (ak (av := slE _ _ _) rfl) <| zM h14 rfl <| zU h14 rfl (kN rfl rfl (g15 (nf h14))) <| zU h14 rfl (bL (E := Enc.byte) ab (by kernel_rfl) rfl rfl (g16 (nf h14)) e18) <| zU h14 rfl (aF aO rfl rfl) <| zU h14 rfl (sC (a := x17) (b := 13) rfl rfl) <| zS rfl (ao (av := .v _) rfl h14 rfl) ?_;exact K _ 6 _ (am (dA h14)) rfl rfl
     refine ai <| aE rfl (fun c19 => ?_) (fun c19 => ?_)
     ·replace H := bg c19 H;refine ah <| ac ?_;show AR _ _ _ _ _ [0, 1] _;refine za rfl <| za rfl <| ai <| aQ ?_;obtain ⟨rfl, rfl⟩ := gw H;exact And.intro rfl (Exists.intro _ (Exists.intro _ ⟨bV rfl (.refl _) (.refl _), aL [] rfl, rfl, rfl⟩))
     ·replace H := ba c19 H;refine aJ <| ah ?_;obtain ⟨g20, H⟩ := aY H;obtain ⟨g21, H⟩ := aY H;obtain ⟨x22, e23, H⟩ := bP H;refine ac ?_;show AR _ _ _ _ _ [0, 1, 2, 3, 4, 5] _;refine zS rfl (ak (av := slE _ _ _) rfl) <| zm rfl <| zS rfl (kN rfl rfl g20) <| zS rfl (ou (E := Enc.byte) ab (by kernel_rfl) rfl rfl g21 e23) <| zS rfl (cr ab aO ag rfl) <| za rfl <| ai <| bK (X := Unit) (fun _ => ⟨[(5, S x22)], [], []⟩) (fun _ => iA x22 = some (r3, r4)) ?_ ?_
      ·refine ah <| ac ?_;show AR _ _ _ _ _ [0] _;refine za rfl <| ai <| be <| cN (X := Nat × Int) (fun (n26, y24) => ⟨[(5, S x22), (6, i64 y24)], [], []⟩) (fun (n26, y24) => gn x22 n26 y24 = some (r3, r4)) (fun (n26, y24) => n26) (F, 0) H (aZ [] (.cons (.refl _) (.cons (.refl _) (.nil _))) rfl) ?_;rintro ⟨n26, y24⟩ H;obtain ⟨n26, rfl, H⟩ := dK H;replace H : gq x22 (gn x22 n26) y24 = some (r3, r4) := H
       unfold gq at H
       refine ah <| ah <| ac ?_;show AR _ _ _ _ _ [0, 1, 2, 3] _;refine zm rfl <| zm rfl <| zS rfl (bb ag rfl) <| zS rfl (bN rfl rfl) <| ai <| aE rfl (fun c27 => ?_) (fun c27 => ?_)
       ·replace H := bg c27 H;refine aJ <| ah <| be <| ah ?_;obtain ⟨g28, H⟩ := aY H;obtain ⟨x29, e30, H⟩ := bP H;refine ac ?_;show AR _ _ _ _ _ [0, 1, 2, 3] _;refine zm rfl <| zm rfl <| zS rfl (bi ag rfl rfl g28 e30) <| zS rfl (dr (a := x29) (b := 13) rfl rfl) <| ai <| aE rfl (fun c31 => ?_) (fun c31 => ?_)
        ·replace H := bg c31 H;refine ah <| ac ?_;show AR _ _ _ _ _ [0, 1] _;refine za rfl <| za rfl <| ai <| aQ ?_;obtain ⟨rfl, rfl⟩ := gw H;exact And.intro rfl (Exists.intro _ (Exists.intro _ ⟨bV rfl (.refl _) (.refl _), aL [] rfl, rfl, rfl⟩))
        ·replace H := ba c31 H;refine aJ ?_;obtain ⟨g32, H⟩ := aY H;refine ac ?_;show AR _ _ _ _ _ [0, 1, 2] _;refine zm rfl <| zS rfl (dE rfl rfl g32) <| za rfl <| ai ?_;exact Exists.intro (n26, y24 + 1) ⟨H, Nat.lt_succ_self _, aZ [] (.cons (.refl _) (.cons (.refl _) (.nil _))) rfl⟩
       ·replace H := ba c27 H;refine cH ?_;exact Exists.intro () ⟨H, aZ [] (.cons (.refl _) (.nil _)) rfl⟩
      rintro _ H;replace H : iA x22 = some (r3, r4) := H
      unfold iA at H
      refine ah <| ac ?_;show AR _ _ _ _ _ [0, 1, 2] _;refine zm rfl <| za rfl <| za rfl <| ai <| aQ ?_;obtain ⟨rfl, rfl⟩ := gw H;exact And.intro rfl (Exists.intro _ (Exists.intro _ ⟨bV rfl (.refl _) (.refl _), aL [] rfl, rfl, rfl⟩))
    ·replace H := ba c13 H;refine aJ ?_;exact Exists.intro () ⟨H, aZ [] (.cons (.refl _) (.cons (.refl _) (.nil _))) rfl⟩
   rintro _ H;replace H : gl y5 (er F a1 n7) = some (r3, r4) := H
   unfold gl at H
   obtain ⟨g35, H⟩ := aY H;refine ac ?_;show AR _ _ _ _ _ [0, 1, 2] _;refine zm rfl <| zS rfl (dE rfl rfl g35) <| za rfl <| ai ?_;exact Exists.intro (n7, y5 + 1) ⟨H, Nat.lt_succ_self _, aZ [] (.cons (.refl _) (.cons (.refl _) (.nil _))) rfl⟩
  ·replace H := ba c9 H;refine cH ?_;exact Exists.intro () ⟨H, aZ [] (.cons (.refl _) (.nil _)) rfl⟩
 rintro _ H;replace H : gm a1 = some (r3, r4) := H
 unfold gm at H
 refine ah <| ah <| ac ?_;show AR _ _ _ _ _ [0, 1, 2] _;refine zS rfl (ak (av := slE _ _ _) rfl) <| zS rfl (bc ab rfl) <| zS rfl (fH rfl rfl) <| ai <| aE rfl (fun c37 => ?_) (fun c37 => ?_)
 ·replace H := bg c37 H;refine ah <| ac ?_;show AR _ _ _ _ _ [0, 1] _;refine za rfl <| za rfl <| ai <| aQ ?_;obtain ⟨rfl, rfl⟩ := gw H;exact And.intro rfl (Exists.intro _ (Exists.intro _ ⟨bV rfl (.refl _) (.refl _), aL [] rfl, rfl, rfl⟩))
 ·replace H := ba c37 H;refine aJ <| ah <| ac ?_;show AR _ _ _ _ _ [0, 1] _;refine za rfl <| za rfl <| ai <| aQ ?_;obtain ⟨rfl, rfl⟩ := gw H;exact And.intro rfl (Exists.intro _ (Exists.intro _ ⟨bV rfl (.refl _) (.refl _), aL [] rfl, rfl, rfl⟩))
set_option maxRecDepth 100000 in
set_option maxHeartbeats 1000000 in
theorem qI (F : Nat) (a1 : List UInt8) (r2 : Int) (H : jt F a1 = some r2) : ACalls Tryz.prog 89 [S a1] [] (Ret (i64 r2) []) := by
 unfold jt at H
 refine az Tryz.func89 rfl rfl ?_;show AW _ _ 32 _ _ _;refine ah <| ac ?_;show AR _ _ _ _ _ [0] _;refine za rfl <| ai <| ah <| ah ?_;obtain ⟨g4, H⟩ := cq H;obtain ⟨x5, e6, H⟩ := bP H;obtain ⟨g8, H⟩ := cq H;obtain ⟨x9, e10, H⟩ := bP H;obtain ⟨g12, H⟩ := cq H;obtain ⟨x13, e14, H⟩ := bP H;refine ac ?_;show AR _ _ _ _ _ [0, 1, 2, 3, 4, 5, 6, 7, 8, 9, 10, 11, 12, 13, 14, 15, 16, 17] _;refine zm rfl <| zS rfl (bb ag rfl) <| zS rfl (bN rfl rfl) <| zm rfl <| aG (l := [8, 9, 10, 11, 12, 13, 14, 15, 16, 17]) 11 (B ((decide ((a1.length : Int) < 4)) || (decide (x5 = 48)))) (fun K => ?_) ?_
 ·rcases af (decide ((a1.length : Int) < 4)) with h3 | h3
  ·refine zF h3 rfl <| zF h3 rfl <| zF h3 rfl <| zS rfl (ap (av := .v _) rfl h3 rfl) ?_;exact K _ 3 _ (am (dz h3)) rfl rfl
  ·refine zM h3 rfl <| zU h3 rfl (bi ag rfl rfl (g4 (nf h3)) e6) <| zU h3 rfl (dr (a := x5) (b := 48) rfl rfl) <| zS rfl (ao (av := .v _) rfl h3 rfl) ?_;exact K _ 3 _ (am (dA h3)) rfl rfl
 refine zm rfl <| aG (l := []) 21 (B (((decide ((a1.length : Int) < 4)) || (decide (x5 = 48))) || ((!decide (x9 = 45)) && (!decide (x13 = 32))))) (fun K => ?_) ?_
 ·rcases af ((decide ((a1.length : Int) < 4)) || (decide (x5 = 48))) with h7 | h7
  ·refine zF h7 rfl <| zF h7 rfl <| zF h7 rfl <| zF h7 rfl <| gU rfl rfl rfl rfl rfl <| gU rfl rfl rfl rfl rfl <| gU rfl rfl rfl rfl rfl <| zF h7 rfl <| zS rfl (ap (av := .v _) rfl h7 rfl) ?_;exact K _ 8 _ (am (dz h7)) rfl rfl
  ·refine zM h7 rfl <| zU h7 rfl (bi ag rfl rfl (g8 (nf h7)) e10) <| zU h7 rfl (sC (a := x9) (b := 45) rfl rfl) <| zM h7 rfl <| aG (l := [17]) 20 (B ((!decide (x9 = 45)) && (!decide (x13 = 32)))) (fun K => ?_) ?_
   ·rcases af (!decide (x9 = 45)) with h11 | h11
    ·refine zM h11 rfl <| zU h11 rfl (bi ag rfl rfl (g12 (eH (nf h7) h11)) e14) <| zU h11 rfl (sC (a := x13) (b := 32) rfl rfl) <| zU h7 rfl (ap (av := .v _) rfl h11 rfl) ?_;exact K _ 3 _ (am (bI h11)) rfl rfl
    ·refine zF h11 rfl <| zF h11 rfl <| zF h11 rfl <| zU h7 rfl (ao (av := .v _) rfl h11 rfl) ?_;exact K _ 3 _ (am (bJ h11)) rfl rfl
   refine zS rfl (ao (av := .v _) rfl h7 rfl) ?_;exact K _ 5 _ (am (dA h7)) rfl rfl
 refine ai <| aE rfl (fun c15 => ?_) (fun c15 => ?_)
 ·replace H := bg c15 H;refine ah <| ac ?_;show AR _ _ _ _ _ [0] _;refine za rfl <| ai <| aQ ?_;obtain rfl := ay H;exact And.intro rfl (Exists.intro _ (Exists.intro _ ⟨aV rfl (.refl _), aL [] rfl, rfl, rfl⟩))
 ·replace H := ba c15 H;refine aJ <| ah ?_;obtain ⟨g16, H⟩ := aY H;obtain ⟨x17, e18, H⟩ := bP H;obtain ⟨x19, e20, H⟩ := cu H;refine ac ?_;show AR _ _ _ _ _ [0, 1, 2, 3] _;refine zm rfl <| zS rfl (pe ag rfl rfl g16 e18) <| aq rfl rfl (aU rfl ew rfl (cO F x17 x19 e20) ?_);refine za rfl <| ai <| ah <| ah <| ac ?_;show AR _ _ _ _ _ [0, 1, 2, 3, 4, 5] _;refine zm rfl <| zS rfl (bN rfl rfl) <| zm rfl <| aG (l := []) 30 (B ((decide (x19 < 200)) || (decide (599 < x19)))) (fun K => ?_) ?_
  ·rcases af (decide (x19 < 200)) with h21 | h21
   ·refine zF h21 rfl <| zF h21 rfl <| zS rfl (ap (av := .v _) rfl h21 rfl) ?_;exact K _ 2 _ (am (dz h21)) rfl rfl
   ·refine zM h21 rfl <| zU h21 rfl (fH rfl rfl) <| zS rfl (ao (av := .v _) rfl h21 rfl) ?_;exact K _ 2 _ (am (dA h21)) rfl rfl
  refine ai <| aE rfl (fun c22 => ?_) (fun c22 => ?_)
  ·replace H := bg c22 H;refine ah <| ac ?_;show AR _ _ _ _ _ [0] _;refine za rfl <| ai <| aQ ?_;obtain rfl := ay H;exact And.intro rfl (Exists.intro _ (Exists.intro _ ⟨aV rfl (.refl _), aL [] rfl, rfl, rfl⟩))
  ·replace H := ba c22 H;refine aJ <| ah <| ac ?_;show AR _ _ _ _ _ [0, 1] _;refine zm rfl <| za rfl <| ai <| aQ ?_;obtain rfl := ay H;exact And.intro rfl (Exists.intro _ (Exists.intro _ ⟨aV rfl (.refl _), aL [] rfl, rfl, rfl⟩))
set_option maxRecDepth 100000 in
set_option maxHeartbeats 1000000 in
theorem rA (F : Nat) (a1 : List UInt8) (q2 : Option Nat) (r3 : Int) (r4 : List (List UInt8)) (r5 : Int) (r6 : Int) (r7 : Int) (r8 : Int) (H : jh F a1 = some (r3, r4, r5, r6, r7, r8)) : ACalls Tryz.prog 59 [slE Enc.byte a1 q2] [] (Ret (.tup [.agg [i64 r3, slE Enc.str r4 none, i64 r5, i64 r6, i64 r7], i64 r8]) []) := by
 unfold jh at H
 refine az Tryz.func59 rfl rfl ?_;show AW _ _ 71 _ _ _;refine ah <| ac ?_;show AR _ _ _ _ _ [0, 1] _;refine zX rfl (br (zs := [.int .i64 0, .slice none 0 0, .int .i64 0, .int .i64 0, .int .i64 0]) (by kernel_rfl)) ?_;rintro _ _ ⟨o9, rfl, rfl⟩;refine za rfl <| ai <| ah <| ac ?_;show AR _ _ _ _ _ [0, 1, 2] _;refine zS rfl (iQ (zs := [.int .i64 0, .slice none 0 0, .int .i64 0, .int .i64 0, .int .i64 0]) (ps := [(0, 1), (1, 1), (2, 3)]) (cs := [i64 0, ec, i64 0, i64 0, i64 0]) (by kernel_rfl) rfl rfl) <| zX rfl (br (zs := [.int .i64 0, .slice none 0 0, .int .i64 0, .int .i64 0, .int .i64 0]) (by kernel_rfl)) ?_;rintro _ _ ⟨o10, rfl, rfl⟩;refine s0 rfl rfl (aH (i := 0) (vs := [i64 0, ec, i64 0, i64 0, i64 0]) (by kernel_rfl) rfl rfl (by simp [bk, slE]) rfl (aa rfl)) <| ai ?_
 refine AW.nil_objAt 0 1 1 9 rfl rfl fun t11 => ?_
 show AW _ _ _ _ _ ⟨_, _, [.tok t11 9, .obj o10 [i64 0, slE Enc.str [] (some t11), i64 0, i64 0, i64 0], .obj o9 [i64 0, ec, i64 0, i64 0, i64 0]]⟩;refine ah <| ac ?_;show AR _ _ _ _ _ [0] _;refine za rfl <| ai <| be <| cN (X := Nat × Int × Int × (List (List UInt8)) × Nat) (fun (n17, y12, y13, y14, t15) => ⟨[(0, slE Enc.byte a1 q2), (2, .pt o9 0), (4, .pt o10 0), (5, i64 y12)], [], [.obj o10 [i64 y13, slE Enc.str y14 (some t15), i64 0, i64 0, i64 0], .obj o9 [i64 0, ec, i64 0, i64 0, i64 0], .tok t15 9]⟩) (fun (n17, y12, y13, y14, t15) => cz F a1 n17 (y12, y13, y14) = some (r3, r4, r5, r6, r7, r8)) (fun (n17, y12, y13, y14, t15) => n17) (F, 0, 0, [], t11) H (aZ [1, 1, 0] (.cons (.refl _) (.cons (.refl _) (.cons (.refl _) (.cons (.refl _) (.nil _))))) rfl) ?_;rintro ⟨n17, y12, y13, y14, t15⟩ H;obtain ⟨n17, rfl, H⟩ := dK H;replace H : cY F a1 (cz F a1 n17) y12 y13 y14 = some (r3, r4, r5, r6, r7, r8) := H
 unfold cY at H
 refine be <| ah ?_;obtain ⟨g18, H⟩ := aY H;obtain ⟨x19, e20, H⟩ := bP H;obtain ⟨x21, x22, e23, H⟩ := eu H;refine ac ?_;show AR _ _ _ _ _ [0, 1, 2, 3, 4, 5, 6, 7, 8] _;refine zS rfl (ak (av := slE _ _ _) rfl) <| zm rfl <| zS rfl (cU (E := Enc.byte) ab (by kernel_rfl) rfl rfl g18 e20) <| aq rfl rfl (aU rfl uv rfl (qH F x19 none x21 x22 e23) ?_);refine zS rfl (ak (av := .tup _) rfl) <| zS rfl (aK (av := .v _) rfl rfl) <| zS rfl (aK (av := .v _) rfl rfl) <| za rfl <| za rfl <| ai <| ah <| ah <| ac ?_;show AR _ _ _ _ _ [0, 1] _;refine zm rfl <| zS rfl (bt rfl rfl) <| ai <| aE rfl (fun c24 => ?_) (fun c24 => ?_)
 ·replace H := bg c24 H;refine ah <| ac ?_;show AR _ _ _ _ _ [0, 1, 2] _;refine zR rfl (bq (i := 0) (n := 5) bm rfl (by kernel_rfl) rfl rfl (aa rfl)) <| s0 rfl rfl (aH (i := 1) (vs := [i64 y13, slE Enc.str y14 (some t15), i64 0, i64 0, i64 0]) (by kernel_rfl) rfl rfl (by simp [bk, slE]) rfl (aa rfl)) <| za rfl <| ai <| aQ ?_;obtain ⟨rfl, rfl, rfl, rfl, rfl, rfl⟩ := res6 H;exact And.intro rfl (Exists.intro _ (Exists.intro _ ⟨bW (cb rfl (CellV.aggW (cs := [i64 y13, slE Enc.str y14 (some t15), i64 0, i64 0, i64 0]) (bX (off := 0) (cs := [i64 y13, slE Enc.str y14 (some t15), i64 0, i64 0, i64 0]) (n := 5) 1 bm rfl (by kernel_rfl) rfl rfl (aa rfl)) (.cons (.refl _) (.cons (.tok _ _ _) (.cons (.refl _) (.cons (.refl _) (.cons (.refl _) (.nil))))))) ((show PlaceV _ _ _ (.tmp _) _ from (.refl _)))), aL [] rfl, rfl, rfl⟩))
 ·replace H := ba c24 H;refine aJ <| ah ?_;obtain ⟨x25, e26, H⟩ := cu H;refine ac ?_;show AR _ _ _ _ _ [0, 1, 2] _;refine zm rfl <| aq rfl rfl (aU rfl uu rfl (qI F x21 x25 e26) ?_);refine za rfl <| ai <| ah <| ah <| ac ?_;show AR _ _ _ _ _ [0, 1, 2, 3, 4, 5, 6, 7, 8, 9, 10, 11, 12, 13, 14, 15, 16, 17, 18, 19, 20, 21, 22, 23] _;refine zm rfl <| zS rfl (bt rfl rfl) <| zm rfl <| aG (l := [6, 7, 8, 9, 10, 11, 12, 13, 14, 15, 16, 17, 18, 19, 20, 21, 22, 23]) 27 (B ((decide (x22 = 2)) || (decide (x25 < 0)))) (fun K => ?_) ?_
  ·rcases af (decide (x22 = 2)) with h27 | h27
   ·refine zF h27 rfl <| zF h27 rfl <| zS rfl (ap (av := .v _) rfl h27 rfl) ?_;exact K _ 2 _ (am (dz h27)) rfl rfl
   ·refine zM h27 rfl <| zU h27 rfl (bN rfl rfl) <| zS rfl (ao (av := .v _) rfl h27 rfl) ?_;exact K _ 2 _ (am (dA h27)) rfl rfl
  refine zm rfl <| aG (l := [12, 13, 14, 15, 16, 17, 18, 19, 20, 21, 22, 23]) 33 (B (((decide (x22 = 2)) || (decide (x25 < 0))) || (decide ((y14.length : Int) = 100)))) (fun K => ?_) ?_
  ·rcases af ((decide (x22 = 2)) || (decide (x25 < 0))) with h28 | h28
   ·refine zF h28 rfl <| zF h28 rfl <| zF h28 rfl <| zF h28 rfl <| zS rfl (ap (av := .v _) rfl h28 rfl) ?_;exact K _ 4 _ (am (dz h28)) rfl rfl
   ·refine zU h28 rfl (aj (n := 1) (by kernel_rfl) rfl) <| zT h28 rfl (ca rfl rfl (al (i := 0) ar rfl rfl rfl rfl) ?_);refine zU h28 rfl (bc ar rfl) <| zU h28 rfl (bt rfl rfl) <| zS rfl (ao (av := .v _) rfl h28 rfl) ?_;exact K _ 4 _ (am (dA h28)) rfl rfl
  refine zm rfl <| aG (l := []) 45 (B ((((decide (x22 = 2)) || (decide (x25 < 0))) || (decide ((y14.length : Int) = 100))) || ((decide (0 < (y14.length : Int))) && (!decide (x25 = y13))))) (fun K => ?_) ?_
  ·rcases af (((decide (x22 = 2)) || (decide (x25 < 0))) || (decide ((y14.length : Int) = 100))) with h29 | h29
   ·refine zF h29 rfl <| zF h29 rfl <| zF h29 rfl <| zF h29 rfl <| zF h29 rfl <| gU rfl rfl rfl rfl rfl <| gU rfl rfl rfl rfl rfl <| gU rfl rfl rfl rfl rfl <| gU rfl rfl rfl rfl rfl <| zF h29 rfl <| zS rfl (ap (av := .v _) rfl h29 rfl) ?_;exact K _ 10 _ (am (dz h29)) rfl rfl
   ·refine zU h29 rfl (aj (n := 1) (by kernel_rfl) rfl) <| zT h29 rfl (ca rfl rfl (al (i := 0) ar rfl rfl rfl rfl) ?_);refine zU h29 rfl (bc ar rfl) <| zU h29 rfl (fH rfl rfl) <| zM h29 rfl <| aG (l := [23]) 44 (B ((decide (0 < (y14.length : Int))) && (!decide (x25 = y13)))) (fun K => ?_) ?_
    ·rcases af (decide (0 < (y14.length : Int))) with h30 | h30
     ·refine zM h30 rfl <| zU h30 rfl (aj (n := 0) (by kernel_rfl) rfl) <| zT h30 rfl (ca rfl rfl (al (i := 0) aw rfl rfl rfl rfl) ?_);refine zU h30 rfl (fm rfl rfl) <| zU h29 rfl (ap (av := .v _) rfl h30 rfl) ?_;exact K _ 4 _ (am (bI h30)) rfl rfl
     ·refine zF h30 rfl <| zF h30 rfl <| zF h30 rfl <| zF h30 rfl <| zU h29 rfl (ao (av := .v _) rfl h30 rfl) ?_;exact K _ 4 _ (am (bJ h30)) rfl rfl
    refine zS rfl (ao (av := .v _) rfl h29 rfl) ?_;exact K _ 6 _ (am (dA h29)) rfl rfl
  refine ai <| aE rfl (fun c31 => ?_) (fun c31 => ?_)
  ·replace H := bg c31 H;refine ah <| ac ?_;show AR _ _ _ _ _ [0, 1, 2] _;refine zR rfl (bq (i := 0) (n := 5) bm rfl (by kernel_rfl) rfl rfl (aa rfl)) <| s0 rfl rfl (aH (i := 1) (vs := [i64 y13, slE Enc.str y14 (some t15), i64 0, i64 0, i64 0]) (by kernel_rfl) rfl rfl (by simp [bk, slE]) rfl (aa rfl)) <| za rfl <| ai <| aQ ?_;obtain ⟨rfl, rfl, rfl, rfl, rfl, rfl⟩ := res6 H;exact And.intro rfl (Exists.intro _ (Exists.intro _ ⟨bW (cb rfl (CellV.aggW (cs := [i64 y13, slE Enc.str y14 (some t15), i64 0, i64 0, i64 0]) (bX (off := 0) (cs := [i64 y13, slE Enc.str y14 (some t15), i64 0, i64 0, i64 0]) (n := 5) 1 bm rfl (by kernel_rfl) rfl rfl (aa rfl)) (.cons (.refl _) (.cons (.tok _ _ _) (.cons (.refl _) (.cons (.refl _) (.cons (.refl _) (.nil))))))) ((show PlaceV _ _ _ (.tmp _) _ from (.refl _)))), aL [] rfl, rfl, rfl⟩))
  ·replace H := ba c31 H;refine aJ <| ah <| ac ?_;show AR _ _ _ _ _ [0, 1, 2] _;refine zm rfl <| zS rfl (aj (n := 0) (by kernel_rfl) rfl) <| s0 rfl rfl (au (i := 0) (c := .v _) (by kernel_rfl) rfl rfl rfl rfl (aa rfl)) <| ai <| bK (X := (List (List UInt8)) × Nat) (fun (y40, t41) => ⟨[(0, slE Enc.byte a1 q2), (2, .pt o9 0), (4, .pt o10 0), (5, i64 y12), (6, S x21), (8, i64 x25)], [], [.obj o10 [i64 x25, slE Enc.str y40 (some t41), i64 0, i64 0, i64 0], .obj o9 [i64 0, ec, i64 0, i64 0, i64 0], .tok t41 9]⟩) (fun (y40, t41) => hP F y12 (cz F a1 n17) x21 x25 y40 = some (r3, r4, r5, r6, r7, r8)) ?_ ?_
   ·obtain ⟨g32, H⟩ := aY H;obtain ⟨x33, e34, H⟩ := bP H;obtain ⟨g36, H⟩ := aY H;obtain ⟨x37, e38, H⟩ := bP H;refine bA (by kernel_rfl) ?_;show AI _ _ _ _ _ 8 (Array.replicate 8 false) _;refine zk 0 rfl (aj (n := 1) (by kernel_rfl) rfl) ?_;show AI _ _ _ _ _ _ #[true, false, false, false, false, false, false, false] _;refine zk 2 rfl (mv rfl) ?_;show AI _ _ _ _ _ _ #[true, false, true, false, false, false, false, false] _;refine zk 3 rfl (fR ag rfl rfl g32 e34) ?_;show AI _ _ _ _ _ _ #[true, false, true, true, false, false, false, false] _;refine cA (i := 1) (j := 4) (by kernel_rfl) rfl rfl rfl rfl ?_ ?_
    ·refine aW rfl (al (i := 0) ar rfl rfl rfl rfl) ?_;show AI _ _ _ _ _ _ #[true, true, true, true, false, false, false, false] _;refine aN (i := 4) (by kernel_rfl) rfl rfl <| aW rfl (cF (E := Enc.str) (bytes := 16) (xs := [.tmp 52]) (l := ([x33] : List (List UInt8))) ar (by kernel_rfl) rfl rfl (by decide) rfl rfl) ?_;show AI _ _ _ _ _ _ #[true, true, true, true, true, false, false, false] _;refine aN (i := 5) (by kernel_rfl) rfl rfl <| dd rfl (df (E := Enc.str) (bytes := 16) 2 ar ar rfl (by kernel_rfl) rfl rfl rfl rfl g36 e38) ?_;rintro _ _ ⟨t35, rfl, rfl⟩;show AI _ _ _ _ _ _ #[true, true, true, true, true, true, false, false] _;refine zk 6 rfl (aj (n := 1) (by kernel_rfl) rfl) ?_;show AI _ _ _ _ _ _ #[true, true, true, true, true, true, true, false] _;refine aN (i := 7) (by kernel_rfl) rfl rfl <| cd (au (i := 0) (c := slE _ _ _) (by kernel_rfl) rfl rfl rfl rfl (aa rfl)) ?_;show AI _ _ _ _ _ _ #[true, true, true, true, true, true, true, true] _;refine bo rfl ?_;exact Exists.intro (x37, t35) ⟨H, aZ [0, 0, 0] (.cons (.refl _) (.cons (.refl _) (.cons (.refl _) (.cons (.refl _) (.cons (.refl _) (.cons (.refl _) (.nil _))))))) rfl⟩
    ·refine aW rfl (cF (E := Enc.str) (bytes := 16) (xs := [.tmp 52]) (l := ([x33] : List (List UInt8))) ar (by kernel_rfl) rfl rfl (by decide) rfl rfl) ?_;show AI _ _ _ _ _ _ #[true, false, true, true, true, false, false, false] _;refine aN (i := 1) (by kernel_rfl) rfl rfl <| aW rfl (al (i := 0) ar rfl rfl rfl rfl) ?_;show AI _ _ _ _ _ _ #[true, true, true, true, true, false, false, false] _;refine aN (i := 5) (by kernel_rfl) rfl rfl <| dd rfl (df (E := Enc.str) (bytes := 16) 2 ar ar rfl (by kernel_rfl) rfl rfl rfl rfl g36 e38) ?_;rintro _ _ ⟨t39, rfl, rfl⟩;show AI _ _ _ _ _ _ #[true, true, true, true, true, true, false, false] _;refine zk 6 rfl (aj (n := 1) (by kernel_rfl) rfl) ?_;show AI _ _ _ _ _ _ #[true, true, true, true, true, true, true, false] _;refine aN (i := 7) (by kernel_rfl) rfl rfl <| cd (au (i := 0) (c := slE _ _ _) (by kernel_rfl) rfl rfl rfl rfl (aa rfl)) ?_;show AI _ _ _ _ _ _ #[true, true, true, true, true, true, true, true] _;refine bo rfl ?_;exact Exists.intro (x37, t39) ⟨H, aZ [0, 0, 0] (.cons (.refl _) (.cons (.refl _) (.cons (.refl _) (.cons (.refl _) (.cons (.refl _) (.cons (.refl _) (.nil _))))))) rfl⟩
   rintro ⟨y40, t41⟩ H;replace H : hP F y12 (cz F a1 n17) x21 x25 y40 = some (r3, r4, r5, r6, r7, r8) := H
   unfold hP at H
   refine ah ?_;obtain ⟨g43, H⟩ := aY H;obtain ⟨g44, H⟩ := aY H;refine ac ?_;show AR _ _ _ _ _ [0, 1, 2, 3, 4, 5] _;refine zm rfl <| zm rfl <| zS rfl (bb ag rfl) <| zS rfl (dE rfl rfl g43) <| zS rfl (dE rfl rfl g44) <| za rfl <| ai <| ah ?_;obtain ⟨g45, H⟩ := aY H;obtain ⟨x46, e47, H⟩ := bP H;refine ac ?_;show AR _ _ _ _ _ [0, 1, 2] _;refine zm rfl <| zS rfl (bi ag rfl rfl g45 e47) <| zS rfl (dr (a := x46) (b := 32) rfl rfl) <| ai <| aE rfl (fun c48 => ?_) (fun c48 => ?_)
   ·replace H := bg c48 H;refine ah ?_;obtain ⟨g49, H⟩ := aY H;obtain ⟨x50, e51, H⟩ := bP H;obtain ⟨x52, x53, x54, e55, H⟩ := gQ H;refine ac ?_;show AR _ _ _ _ _ [0, 1, 2, 3, 4, 5] _;refine zm rfl <| zm rfl <| zS rfl (fR ag rfl rfl g49 e51) <| aq rfl rfl (aU rfl ut rfl (qJ F x25 x50 x52 x53 x54 e55) ?_);refine zS rfl (aj (n := 2) (by kernel_rfl) rfl) <| s0 rfl rfl (aH (i := 0) (vs := [i64 x52, i64 x53, i64 x54]) (by kernel_rfl) rfl rfl (by simp [bk, slE]) rfl (aa rfl)) <| ai <| ah <| ac ?_;show AR _ _ _ _ _ [0, 1, 2, 3] _;refine zR rfl (bq (i := 0) (n := 5) bm rfl (by kernel_rfl) rfl rfl (aa rfl)) <| zm rfl <| s0 rfl rfl (aH (i := 1) (vs := [i64 x25, slE Enc.str y40 (some t41), i64 x52, i64 x53, i64 x54]) (by kernel_rfl) rfl rfl (by simp [bk, slE]) rfl (aa rfl)) <| za rfl <| ai <| aQ ?_;obtain ⟨rfl, rfl, rfl, rfl, rfl, rfl⟩ := res6 H;exact And.intro rfl (Exists.intro _ (Exists.intro _ ⟨bW (cb rfl (CellV.aggW (cs := [i64 x25, slE Enc.str y40 (some t41), i64 x52, i64 x53, i64 x54]) (bX (off := 0) (cs := [i64 x25, slE Enc.str y40 (some t41), i64 x52, i64 x53, i64 x54]) (n := 5) 1 bm rfl (by kernel_rfl) rfl rfl (aa rfl)) (.cons (.refl _) (.cons (.tok _ _ _) (.cons (.refl _) (.cons (.refl _) (.cons (.refl _) (.nil))))))) ((show PlaceV _ _ _ (.tmp _) _ from (.refl _)))), aL [] rfl, rfl, rfl⟩))
   ·replace H := ba c48 H;refine aJ ?_;exact Exists.intro (n17, (y12 + (x21.length : Int)) + 2, x25, y40, t41) ⟨H, Nat.lt_succ_self _, aZ [0, 0, 0] (.cons (.refl _) (.cons (.refl _) (.cons (.refl _) (.cons (.refl _) (.nil _))))) rfl⟩
set_option maxRecDepth 100000 in
set_option maxHeartbeats 1000000 in
theorem rB (F : Nat) (o1 : Nat) (a2 : List UInt8) (t3 : Nat) (a4 : Bool) (a5 : List UInt8) (q6 : Option Nat) (r7 : List (Int × (List (List UInt8)) × Int × Int × Int)) (r8 : List UInt8) (r10 : Bool) (H : jX F a2 a4 a5 = some (r7, r8, r10)) : ACalls Tryz.prog 39 [.pt o1 0, slE Enc.byte a5 q6] [.obj o1 [slE Enc.byte a2 (some t3), B a4], .tok t3 5] (fun e A' => e = .ret (slE (aC Enc.int (aC (Enc.sl Enc.str) (aC Enc.int (aC Enc.int Enc.int)))) r7 none) ∧ ∃ t9, A' = [.obj o1 [slE Enc.byte r8 (some t9), B r10], .tok t9 5]) := by
 unfold jX at H
 refine az Tryz.func39 rfl rfl ?_;show AW _ _ 56 _ _ _;refine ah <| ac ?_;show AR _ _ _ _ _ [0] _;refine za rfl <| ai <| ah <| ah <| ac ?_;show AR _ _ _ _ _ [0, 1, 2, 3] _;refine zS rfl (ak (av := .pt _ _) rfl) <| zS rfl (an rfl) <| zS rfl (aj (n := 1) (by kernel_rfl) rfl) <| zR rfl (al (i := 0) Tryz.underlying4 rfl rfl rfl rfl) <| ai <| aE rfl (fun c11 => ?_) (fun c11 => ?_)
 ·replace H := bg c11 H;refine ah <| ac ?_;show AR _ _ _ _ _ [0] _;refine za rfl <| ai <| aQ ?_;obtain ⟨rfl, rfl, rfl⟩ := ia H;exact And.intro rfl (Exists.intro _ (Exists.intro _ ⟨aV rfl (.nil _), aL [0, 0] rfl, rfl, t3, rfl⟩))
 ·replace H := ba c11 H;refine aJ <| ah ?_;obtain ⟨g13, H⟩ := aY H;obtain ⟨g15, H⟩ := aY H;obtain ⟨x16, e17, H⟩ := bP H;refine ac ?_;show AR _ _ _ _ _ [0, 1, 2, 3, 4, 5, 6, 7, 8, 9, 10] _;refine zS rfl (ak (av := .pt _ _) rfl) <| zS rfl (ak (av := .pt _ _) rfl) <| zS rfl (an rfl) <| zS rfl (aj (n := 0) (by kernel_rfl) rfl) <| zR rfl (al (i := 0) ab rfl rfl rfl rfl) <| zX rfl (mB (E := Enc.byte) (bytes := 1) ab ab rfl (by kernel_rfl) rfl rfl rfl g13) ?_;rintro _ _ ⟨t12, rfl, rfl⟩;refine zS rfl (ak (av := slE _ _ _) rfl) <| zX rfl (df (E := Enc.byte) (bytes := 1) 0 ab ab rfl (by kernel_rfl) rfl rfl rfl rfl g15 e17) ?_;rintro _ _ ⟨t14, rfl, rfl⟩;refine zS rfl (an rfl) <| zS rfl (aj (n := 0) (by kernel_rfl) rfl) <| s0 rfl rfl (au (i := 1) (c := slE _ _ _) (by kernel_rfl) rfl rfl rfl rfl (aa rfl)) <| ai <| ah <| ac ?_;show AR _ _ _ _ _ [0] _;refine za rfl <| ai ?_
  refine iZ 5 5 41 rfl fun t18 => ?_
  show AW _ _ _ _ _ ⟨(5, slE (aC Enc.int (aC (Enc.sl Enc.str) (aC Enc.int (aC Enc.int Enc.int)))) [] (some t18)) :: _, _, _⟩;refine be <| cN (X := Nat × (List (Int × (List (List UInt8)) × Int × Int × Int)) × Nat × (List UInt8) × Nat) (fun (n24, y19, t20, y21, t22) => ⟨[(0, .pt o1 0), (5, slE (aC Enc.int (aC (Enc.sl Enc.str) (aC Enc.int (aC Enc.int Enc.int)))) y19 (some t20))], [], [.obj o1 [slE Enc.byte y21 (some t22), B a4], .tok t20 41, .tok t22 5]⟩) (fun (n24, y19, t20, y21, t22) => eT F a4 n24 (y19, y21) = some (r7, r8, r10)) (fun (n24, y19, t20, y21, t22) => n24) (F, [], t18, x16, t14) H (aZ [2, 0, 0] (.cons (.refl _) (.cons (.refl _) (.nil _))) rfl) ?_;rintro ⟨n24, y19, t20, y21, t22⟩ H;obtain ⟨n24, rfl, H⟩ := dK H;replace H : dF F a4 (eT F a4 n24) y19 y21 = some (r7, r8, r10) := H
  unfold dF at H
  refine be <| ah ?_;obtain ⟨x25, e26, H⟩ := cu H;refine ac ?_;show AR _ _ _ _ _ [0, 1, 2, 3, 4, 5, 6, 7, 8, 9, 10] _;refine zS rfl (ak (av := .pt _ _) rfl) <| zS rfl (an rfl) <| zS rfl (aj (n := 0) (by kernel_rfl) rfl) <| zR rfl (al (i := 0) ab rfl rfl rfl rfl) <| aq rfl rfl (aU rfl uy rfl (rA F y21 (some t22) x25.1 x25.2.1 x25.2.2.1 x25.2.2.2.1 x25.2.2.2.2.1 x25.2.2.2.2.2 e26) ?_);refine zS rfl (ak (av := .tup _) rfl) <| zS rfl (aK (av := .agg _) rfl rfl) <| zS rfl (aK (av := .v _) rfl rfl) <| zX rfl (br (zs := [.int .i64 0, .slice none 0 0, .int .i64 0, .int .i64 0, .int .i64 0]) (by kernel_rfl)) ?_;rintro _ _ ⟨o27, rfl, rfl⟩;refine s0 rfl rfl (aH (i := 0) (vs := [i64 x25.1, slE Enc.str x25.2.1 none, i64 x25.2.2.1, i64 x25.2.2.2.1, i64 x25.2.2.2.2.1]) (by kernel_rfl) rfl rfl (by simp [bk, slE]) rfl (aa rfl)) <| dx 6 0 rfl rfl ?_;show AR _ _ _ _ _ _ ⟨_, _, [.obj o1 [slE Enc.byte y21 (some t22), B a4], .tok t20 41, .tok t22 5]⟩;refine za rfl <| ai <| ah <| ah <| ac ?_;show AR _ _ _ _ _ [0, 1] _;refine zm rfl <| zS rfl (bN rfl rfl) <| ai <| aE rfl (fun c28 => ?_) (fun c28 => ?_)
  ·replace H := bg c28 H;refine ah <| ac ?_;show AR _ _ _ _ _ [0, 1, 2, 3] _;refine zS rfl (ak (av := .pt _ _) rfl) <| zS rfl (an rfl) <| zS rfl (aj (n := 1) (by kernel_rfl) rfl) <| s0 rfl rfl (au (i := 0) (c := .v _) (by kernel_rfl) rfl rfl rfl rfl (aa rfl)) <| ai <| ah <| ac ?_;show AR _ _ _ _ _ [0, 1, 2, 3] _;refine zS rfl (ak (av := .pt _ _) rfl) <| zS rfl (an rfl) <| zS rfl (aj (n := 0) (by kernel_rfl) rfl) <| s0 rfl rfl (au (i := 0) (c := .v _) (by kernel_rfl) rfl rfl rfl rfl (aa rfl)) ?_
   refine nY 0 0 1 5 rfl rfl fun t29 => ?_
   show AR _ _ _ _ _ _ ⟨_, _, [.obj o1 [slE Enc.byte [] (some t29), B true], .tok t29 5, .tok t20 41, .tok t22 5]⟩;refine ai <| ah <| ac ?_;show AR _ _ _ _ _ [0, 1] _;refine zS rfl (ak (av := slE _ _ _) rfl) <| zS rfl (aB (av := slE _ _ _) rfl) <| ai <| aQ ?_;obtain ⟨rfl, rfl, rfl⟩ := ia H;exact And.intro rfl (Exists.intro _ (Exists.intro _ ⟨aV rfl (.tok _ _ _), aL [0, 0] rfl, rfl, t29, rfl⟩))
  ·replace H := ba c28 H;refine aJ <| ah <| ah <| ac ?_;show AR _ _ _ _ _ [0, 1] _;refine zm rfl <| zS rfl (bt rfl rfl) <| ai <| aE rfl (fun c30 => ?_) (fun c30 => ?_)
   ·replace H := bg c30 H;refine ah <| ac ?_;show AR _ _ _ _ _ [0, 1] _;refine zS rfl (ak (av := slE _ _ _) rfl) <| zS rfl (aB (av := slE _ _ _) rfl) <| ai <| aQ ?_;obtain ⟨rfl, rfl, rfl⟩ := ia H;exact And.intro rfl (Exists.intro _ (Exists.intro _ ⟨aV rfl (.tok _ _ _), aL [0, 1] rfl, rfl, t22, rfl⟩))
   ·replace H := ba c30 H;refine aJ <| ah ?_;obtain ⟨g32, H⟩ := aY H;obtain ⟨x33, e34, H⟩ := bP H;refine ac ?_;show AR _ _ _ _ _ [0, 1, 2, 3, 4] _;refine zS rfl (ak (av := slE _ _ _) rfl) <| zS rfl (bh bm rfl (n := 5) (by kernel_rfl) rfl (aa rfl)) <| zR rfl (mA (E := (aC Enc.int (aC (Enc.sl Enc.str) (aC Enc.int (aC Enc.int Enc.int))))) (bytes := 56) (zs := [.int .i64 0, .slice none 0 0, .int .i64 0, .int .i64 0, .int .i64 0]) (l := ([(x25.1, x25.2.1, (x25.2.2.1, x25.2.2.2.1, x25.2.2.2.2.1))] : List (Int × (List (List UInt8)) × Int × Int × Int))) bE (by kernel_rfl) (by kernel_rfl) rfl rfl rfl rfl rfl) <| zX rfl (df (E := (aC Enc.int (aC (Enc.sl Enc.str) (aC Enc.int (aC Enc.int Enc.int))))) (bytes := 56) 1 bE bE rfl (by kernel_rfl) rfl rfl rfl rfl g32 e34) ?_;rintro _ _ ⟨t31, rfl, rfl⟩;refine zS rfl (aB (av := slE _ _ _) rfl) <| ai ?_;obtain ⟨g35, H⟩ := aY H;obtain ⟨x36, e37, H⟩ := bP H;obtain ⟨g39, H⟩ := aY H;refine ac ?_;show AR _ _ _ _ _ [0, 1, 2, 3, 4, 5, 6, 7, 8, 9, 10] _
    refine zS rfl (ak (av := .pt _ _) rfl) <| zS rfl (ak (av := .pt _ _) rfl) <| zS rfl (an rfl) <| zS rfl (aj (n := 0) (by kernel_rfl) rfl) <| zR rfl (al (i := 0) ab rfl rfl rfl rfl) <| zm rfl <| zS rfl (cU (E := Enc.byte) ab (by kernel_rfl) rfl rfl g35 e37) <| zX rfl (mB (E := Enc.byte) (bytes := 1) ab ab rfl (by kernel_rfl) rfl rfl rfl g39) ?_;rintro _ _ ⟨t38, rfl, rfl⟩;refine zS rfl (an rfl) <| zS rfl (aj (n := 0) (by kernel_rfl) rfl) <| s0 rfl rfl (au (i := 1) (c := slE _ _ _) (by kernel_rfl) rfl rfl rfl rfl (aa rfl)) <| ai ?_;exact Exists.intro (n24, x33, t31, x36, t38) ⟨H, Nat.lt_succ_self _, aZ [1, 1, 0] (.cons (.refl _) (.cons (.refl _) (.nil _))) rfl⟩
set_option maxRecDepth 100000 in
set_option maxHeartbeats 1000000 in
theorem qG (F : Nat) (a1 : List UInt8) (r2 : Bool) (H : js F a1 = some r2) : ACalls Tryz.prog 32 [S a1] [] (Ret (B r2) []) := by
 unfold js at H
 refine az Tryz.func32 rfl rfl ?_;show AW _ _ 53 _ _ _;refine ah <| ac ?_;show AR _ _ _ _ _ [0] _;refine za rfl <| ai <| bK (X := Unit) (fun _ => ⟨[(0, S a1)], [], []⟩) (fun _ => gi a1 = some r2) ?_ ?_
 ·refine ah <| ac ?_;show AR _ _ _ _ _ [0] _;refine za rfl <| ai <| be <| cN (X := Nat × Int) (fun (n5, y3) => ⟨[(0, S a1), (3, i64 y3)], [], []⟩) (fun (n5, y3) => gj a1 n5 y3 = some r2) (fun (n5, y3) => n5) (F, 0) H (aZ [] (.cons (.refl _) (.cons (.refl _) (.nil _))) rfl) ?_;rintro ⟨n5, y3⟩ H;obtain ⟨n5, rfl, H⟩ := dK H;replace H : gk a1 (gj a1 n5) y3 = some r2 := H
  unfold gk at H
  refine ah <| ah <| ac ?_;show AR _ _ _ _ _ [0, 1, 2, 3] _;refine zm rfl <| zm rfl <| zS rfl (bb ag rfl) <| zS rfl (bN rfl rfl) <| ai <| aE rfl (fun c6 => ?_) (fun c6 => ?_)
  ·replace H := bg c6 H;refine aJ <| ah <| be <| ah ?_;obtain ⟨g7, H⟩ := aY H;obtain ⟨x8, e9, H⟩ := bP H;refine ac ?_;show AR _ _ _ _ _ [0, 1, 2, 3] _;refine zm rfl <| zm rfl <| zS rfl (bi ag rfl rfl g7 e9) <| za rfl <| ai <| ah <| ac ?_;show AR _ _ _ _ _ [0, 1, 2, 3, 4, 5, 6, 7, 8, 9, 10, 11, 12, 13, 14, 15, 16, 17, 18, 19, 20, 21, 22, 23, 24, 25, 26, 27, 28, 29, 30] _;refine zm rfl <| zS rfl (di rfl rfl) <| zm rfl <| aG (l := [6, 7, 8, 9, 10, 11, 12, 13, 14, 15, 16, 17, 18, 19, 20, 21, 22, 23, 24, 25, 26, 27, 28, 29, 30]) 19 (B ((decide (97 ≤ (x8.toNat : Int))) && (decide ((x8.toNat : Int) ≤ 122)))) (fun K => ?_) ?_
   ·rcases af (decide (97 ≤ (x8.toNat : Int))) with h10 | h10
    ·refine zM h10 rfl <| zU h10 rfl (cL rfl rfl) <| zS rfl (ap (av := .v _) rfl h10 rfl) ?_;exact K _ 2 _ (am (bI h10)) rfl rfl
    ·refine zF h10 rfl <| zF h10 rfl <| zS rfl (ao (av := .v _) rfl h10 rfl) ?_;exact K _ 2 _ (am (bJ h10)) rfl rfl
   refine zm rfl <| aG (l := [14, 15, 16, 17, 18, 19, 20, 21, 22, 23, 24, 25, 26, 27, 28, 29, 30]) 27 (B (((decide (97 ≤ (x8.toNat : Int))) && (decide ((x8.toNat : Int) ≤ 122))) || ((decide (65 ≤ (x8.toNat : Int))) && (decide ((x8.toNat : Int) ≤ 90))))) (fun K => ?_) ?_
   ·rcases af ((decide (97 ≤ (x8.toNat : Int))) && (decide ((x8.toNat : Int) ≤ 122))) with h11 | h11
    ·refine zF h11 rfl <| zF h11 rfl <| zF h11 rfl <| gU rfl rfl rfl rfl rfl <| gU rfl rfl rfl rfl rfl <| zF h11 rfl <| zS rfl (ap (av := .v _) rfl h11 rfl) ?_;exact K _ 6 _ (am (dz h11)) rfl rfl
    ·refine zM h11 rfl <| zU h11 rfl (di rfl rfl) <| zM h11 rfl <| aG (l := [13, 14, 15, 16, 17, 18, 19, 20, 21, 22, 23, 24, 25, 26, 27, 28, 29, 30]) 26 (B ((decide (65 ≤ (x8.toNat : Int))) && (decide ((x8.toNat : Int) ≤ 90)))) (fun K => ?_) ?_
     ·rcases af (decide (65 ≤ (x8.toNat : Int))) with h12 | h12
      ·refine zM h12 rfl <| zU h12 rfl (cL rfl rfl) <| zU h11 rfl (ap (av := .v _) rfl h12 rfl) ?_;exact K _ 2 _ (am (bI h12)) rfl rfl
      ·refine zF h12 rfl <| zF h12 rfl <| zU h11 rfl (ao (av := .v _) rfl h12 rfl) ?_;exact K _ 2 _ (am (bJ h12)) rfl rfl
     refine zS rfl (ao (av := .v _) rfl h11 rfl) ?_;exact K _ 4 _ (am (dA h11)) rfl rfl
   refine zm rfl <| aG (l := [22, 23, 24, 25, 26, 27, 28, 29, 30]) 35 (B ((((decide (97 ≤ (x8.toNat : Int))) && (decide ((x8.toNat : Int) ≤ 122))) || ((decide (65 ≤ (x8.toNat : Int))) && (decide ((x8.toNat : Int) ≤ 90)))) || ((decide (48 ≤ (x8.toNat : Int))) && (decide ((x8.toNat : Int) ≤ 57))))) (fun K => ?_) ?_
   ·rcases af (((decide (97 ≤ (x8.toNat : Int))) && (decide ((x8.toNat : Int) ≤ 122))) || ((decide (65 ≤ (x8.toNat : Int))) && (decide ((x8.toNat : Int) ≤ 90)))) with h13 | h13
    ·refine zF h13 rfl <| zF h13 rfl <| zF h13 rfl <| gU rfl rfl rfl rfl rfl <| gU rfl rfl rfl rfl rfl <| zF h13 rfl <| zS rfl (ap (av := .v _) rfl h13 rfl) ?_;exact K _ 6 _ (am (dz h13)) rfl rfl
    ·refine zM h13 rfl <| zU h13 rfl (di rfl rfl) <| zM h13 rfl <| aG (l := [21, 22, 23, 24, 25, 26, 27, 28, 29, 30]) 34 (B ((decide (48 ≤ (x8.toNat : Int))) && (decide ((x8.toNat : Int) ≤ 57)))) (fun K => ?_) ?_
     ·rcases af (decide (48 ≤ (x8.toNat : Int))) with h14 | h14
      ·refine zM h14 rfl <| zU h14 rfl (cL rfl rfl) <| zU h13 rfl (ap (av := .v _) rfl h14 rfl) ?_;exact K _ 2 _ (am (bI h14)) rfl rfl
      ·refine zF h14 rfl <| zF h14 rfl <| zU h13 rfl (ao (av := .v _) rfl h14 rfl) ?_;exact K _ 2 _ (am (bJ h14)) rfl rfl
     refine zS rfl (ao (av := .v _) rfl h13 rfl) ?_;exact K _ 4 _ (am (dA h13)) rfl rfl
   refine zm rfl <| aG (l := [26, 27, 28, 29, 30]) 39 (B (((((decide (97 ≤ (x8.toNat : Int))) && (decide ((x8.toNat : Int) ≤ 122))) || ((decide (65 ≤ (x8.toNat : Int))) && (decide ((x8.toNat : Int) ≤ 90)))) || ((decide (48 ≤ (x8.toNat : Int))) && (decide ((x8.toNat : Int) ≤ 57)))) || (decide (x8 = 46)))) (fun K => ?_) ?_
   ·rcases af ((((decide (97 ≤ (x8.toNat : Int))) && (decide ((x8.toNat : Int) ≤ 122))) || ((decide (65 ≤ (x8.toNat : Int))) && (decide ((x8.toNat : Int) ≤ 90)))) || ((decide (48 ≤ (x8.toNat : Int))) && (decide ((x8.toNat : Int) ≤ 57)))) with h15 | h15
    ·refine zF h15 rfl <| zF h15 rfl <| zS rfl (ap (av := .v _) rfl h15 rfl) ?_;exact K _ 2 _ (am (dz h15)) rfl rfl
    ·refine zM h15 rfl <| zU h15 rfl (dr (a := x8) (b := 46) rfl rfl) <| zS rfl (ao (av := .v _) rfl h15 rfl) ?_;exact K _ 2 _ (am (dA h15)) rfl rfl
   refine zm rfl <| aG (l := [30]) 43 (B ((((((decide (97 ≤ (x8.toNat : Int))) && (decide ((x8.toNat : Int) ≤ 122))) || ((decide (65 ≤ (x8.toNat : Int))) && (decide ((x8.toNat : Int) ≤ 90)))) || ((decide (48 ≤ (x8.toNat : Int))) && (decide ((x8.toNat : Int) ≤ 57)))) || (decide (x8 = 46))) || (decide (x8 = 45)))) (fun K => ?_) ?_
   ·rcases af (((((decide (97 ≤ (x8.toNat : Int))) && (decide ((x8.toNat : Int) ≤ 122))) || ((decide (65 ≤ (x8.toNat : Int))) && (decide ((x8.toNat : Int) ≤ 90)))) || ((decide (48 ≤ (x8.toNat : Int))) && (decide ((x8.toNat : Int) ≤ 57)))) || (decide (x8 = 46))) with h16 | h16
    ·refine zF h16 rfl <| zF h16 rfl <| zS rfl (ap (av := .v _) rfl h16 rfl) ?_;exact K _ 2 _ (am (dz h16)) rfl rfl
    ·refine zM h16 rfl <| zU h16 rfl (dr (a := x8) (b := 45) rfl rfl) <| zS rfl (ao (av := .v _) rfl h16 rfl) ?_;exact K _ 2 _ (am (dA h16)) rfl rfl
   refine zS rfl (cW rfl) <| ai <| aE rfl (fun c17 => ?_) (fun c17 => ?_)
   ·replace H := bg c17 H;refine ah <| ac ?_;show AR _ _ _ _ _ [0] _;refine za rfl <| ai <| aQ ?_;obtain rfl := ay H;exact And.intro rfl (Exists.intro _ (Exists.intro _ ⟨aV rfl (.refl _), aL [] rfl, rfl, rfl⟩))
   ·replace H := ba c17 H;refine aJ ?_;obtain ⟨g18, H⟩ := aY H;refine ac ?_;show AR _ _ _ _ _ [0, 1, 2] _;refine zm rfl <| zS rfl (dE rfl rfl g18) <| za rfl <| ai ?_;exact Exists.intro (n5, y3 + 1) ⟨H, Nat.lt_succ_self _, aZ [] (.cons (.refl _) (.cons (.refl _) (.nil _))) rfl⟩
  ·replace H := ba c6 H;refine cH ?_;exact Exists.intro () ⟨H, aZ [] (.cons (.refl _) (.nil _)) rfl⟩
 rintro _ H;replace H : gi a1 = some r2 := H
 unfold gi at H
 refine ah <| ac ?_;show AR _ _ _ _ _ [0, 1, 2, 3, 4, 5, 6, 7, 8] _;refine zm rfl <| zS rfl (bb ag rfl) <| zS rfl (di rfl rfl) <| zm rfl <| aG (l := [8]) 52 (B ((decide (1 ≤ (a1.length : Int))) && (decide ((a1.length : Int) ≤ 60)))) (fun K => ?_) ?_
 ·rcases af (decide (1 ≤ (a1.length : Int))) with h20 | h20
  ·refine zM h20 rfl <| zU h20 rfl (bb ag rfl) <| zU h20 rfl (cL rfl rfl) <| zS rfl (ap (av := .v _) rfl h20 rfl) ?_;exact K _ 3 _ (am (bI h20)) rfl rfl
  ·refine zF h20 rfl <| zF h20 rfl <| zF h20 rfl <| zS rfl (ao (av := .v _) rfl h20 rfl) ?_;exact K _ 3 _ (am (bJ h20)) rfl rfl
 refine za rfl <| ai <| aQ ?_;obtain rfl := ay H;exact And.intro rfl (Exists.intro _ (Exists.intro _ ⟨aV rfl (.refl _), aL [] rfl, rfl, rfl⟩))
set_option maxRecDepth 100000 in
set_option maxHeartbeats 1000000 in
theorem pu (F : Nat) (a1 : List UInt8) (a2 : List UInt8) (a3 : List UInt8) (a4 : List UInt8) (q5 : Option Nat) (r6 : Int) (r7 : Int) (r8 : List UInt8) (r9 : List UInt8) (r10 : List UInt8) (r11 : List UInt8) (r12 : Int) (H : iG F a1 a2 a3 a4 = some (r6, r7, r8, r9, r10, r11, r12)) : ACalls Tryz.prog 13 [S a1, S a2, S a3, slE Enc.byte a4 q5] [] (Ret (.tup [.agg [i64 r6, i64 r7, S r8, S r9, S r10, slE Enc.byte r11 none], i64 r12]) []) := by
 unfold iG at H
 refine az Tryz.func13 rfl rfl ?_;show AW _ _ 42 _ _ _;refine ah <| ac ?_;show AR _ _ _ _ _ [0, 1] _;refine zX rfl (br (zs := [.int .i64 0, .int .i64 0, .string ⟨#[]⟩, .string ⟨#[]⟩, .string ⟨#[]⟩, .slice none 0 0]) (by kernel_rfl)) ?_;rintro _ _ ⟨o13, rfl, rfl⟩;refine za rfl <| ai <| ah ?_;obtain ⟨x14, e15, H⟩ := cu H;refine ac ?_;show AR _ _ _ _ _ [0, 1, 2] _;refine zm rfl <| aq rfl rfl (aU rfl qt rfl (kB F a1 x14 e15) ?_);refine za rfl <| ai <| ah ?_;obtain ⟨x16, e17, H⟩ := cu H;refine ac ?_;show AR _ _ _ _ _ [0, 1, 2] _;refine zm rfl <| aq rfl rfl (aU rfl qt rfl (kB F a2 x16 e17) ?_);refine za rfl <| ai <| ah ?_;obtain ⟨x18, e19, H⟩ := cu H;refine ac ?_;show AR _ _ _ _ _ [0, 1, 2] _;refine zm rfl <| aq rfl rfl (aU rfl uQ rfl (qG F a3 x18 e19) ?_);refine za rfl <| ai <| ah ?_;obtain ⟨x20, e21, H⟩ := cu H;refine ac ?_;show AR _ _ _ _ _ [0, 1, 2] _;refine zS rfl (ak (av := slE _ _ _) rfl) <| aq rfl rfl (aU rfl uO rfl (nA F a4 q5 x20 e21) ?_);refine za rfl <| ai <| ah <| ah <| ac ?_;show AR _ _ _ _ _ [0, 1, 2, 3, 4, 5, 6, 7, 8, 9, 10, 11, 12, 13] _;refine zm rfl <| zS rfl (cW rfl) <| zm rfl <| aG (l := [6, 7, 8, 9, 10, 11, 12, 13]) 27 (B ((!x14) || (!x16))) (fun K => ?_) ?_
 ·rcases af (!x14) with h22 | h22
  ·refine zF h22 rfl <| zF h22 rfl <| zS rfl (ap (av := .v _) rfl h22 rfl) ?_;exact K _ 2 _ (am (dz h22)) rfl rfl
  ·refine zM h22 rfl <| zU h22 rfl (cW rfl) <| zS rfl (ao (av := .v _) rfl h22 rfl) ?_;exact K _ 2 _ (am (dA h22)) rfl rfl
 refine zm rfl <| aG (l := [10, 11, 12, 13]) 31 (B (((!x14) || (!x16)) || (!x18))) (fun K => ?_) ?_
 ·rcases af ((!x14) || (!x16)) with h23 | h23
  ·refine zF h23 rfl <| zF h23 rfl <| zS rfl (ap (av := .v _) rfl h23 rfl) ?_;exact K _ 2 _ (am (dz h23)) rfl rfl
  ·refine zM h23 rfl <| zU h23 rfl (cW rfl) <| zS rfl (ao (av := .v _) rfl h23 rfl) ?_;exact K _ 2 _ (am (dA h23)) rfl rfl
 refine zm rfl <| aG (l := []) 35 (B ((((!x14) || (!x16)) || (!x18)) || (!x20))) (fun K => ?_) ?_
 ·rcases af (((!x14) || (!x16)) || (!x18)) with h24 | h24
  ·refine zF h24 rfl <| zF h24 rfl <| zS rfl (ap (av := .v _) rfl h24 rfl) ?_;exact K _ 2 _ (am (dz h24)) rfl rfl
  ·refine zM h24 rfl <| zU h24 rfl (cW rfl) <| zS rfl (ao (av := .v _) rfl h24 rfl) ?_;exact K _ 2 _ (am (dA h24)) rfl rfl
 refine ai <| aE rfl (fun c25 => ?_) (fun c25 => ?_)
 ·replace H := bg c25 H;refine ah <| ac ?_;show AR _ _ _ _ _ [0, 1, 2] _;refine zS rfl (iQ (zs := [.int .i64 0, .int .i64 0, .string ⟨#[]⟩, .string ⟨#[]⟩, .string ⟨#[]⟩, .slice none 0 0]) (ps := [(0, 1), (1, 1), (2, 1), (3, 1), (4, 1), (5, 1)]) (cs := [i64 0, i64 0, S ([] : List UInt8), S ([] : List UInt8), S ([] : List UInt8), ec]) (by kernel_rfl) rfl rfl) <| s0 rfl rfl (aH (i := 0) (vs := [i64 0, i64 0, S ([] : List UInt8), S ([] : List UInt8), S ([] : List UInt8), ec]) (by kernel_rfl) rfl rfl (by simp [bk, slE]) rfl (aa rfl)) <| za rfl <| ai <| aQ ?_;obtain ⟨rfl, rfl, rfl, rfl, rfl, rfl, rfl⟩ := lH H;exact And.intro rfl (Exists.intro _ (Exists.intro _ ⟨bW (cb rfl (CellV.aggW (cs := [i64 0, i64 0, S ([] : List UInt8), S ([] : List UInt8), S ([] : List UInt8), ec]) (bX (off := 0) (cs := [i64 0, i64 0, S ([] : List UInt8), S ([] : List UInt8), S ([] : List UInt8), ec]) (n := 6) 0 aA rfl (by kernel_rfl) rfl rfl (aa rfl)) (.cons (.refl _) (.cons (.refl _) (.cons (.refl _) (.cons (.refl _) (.cons (.refl _) (.cons (.nil _) (.nil)))))))) ((show PlaceV _ _ _ (.tmp _) _ from (.refl _)))), aL [] rfl, rfl, rfl⟩))
 ·replace H := ba c25 H;refine aJ <| ah <| ac ?_;show AR _ _ _ _ _ [0, 1, 2, 3, 4, 5, 6] _;refine zm rfl <| zm rfl <| zm rfl <| zS rfl (ak (av := slE _ _ _) rfl) <| zS rfl (iQ (zs := [.int .i64 0, .int .i64 0, .string ⟨#[]⟩, .string ⟨#[]⟩, .string ⟨#[]⟩, .slice none 0 0]) (ps := [(0, 1), (1, 1), (2, 1), (3, 1), (4, 1), (5, 1)]) (cs := [i64 0, i64 0, S a1, S a2, S a3, slE Enc.byte a4 q5]) (by kernel_rfl) rfl rfl) <| s0 rfl rfl (aH (i := 0) (vs := [i64 0, i64 0, S a1, S a2, S a3, slE Enc.byte a4 q5]) (by kernel_rfl) rfl rfl (by simp [bk, slE]) rfl (aa rfl)) <| za rfl <| ai <| aQ ?_;obtain ⟨rfl, rfl, rfl, rfl, rfl, rfl, rfl⟩ := lH H;exact And.intro rfl (Exists.intro _ (Exists.intro _ ⟨bW (cb rfl (CellV.aggW (cs := [i64 0, i64 0, S a1, S a2, S a3, slE Enc.byte a4 q5]) (bX (off := 0) (cs := [i64 0, i64 0, S a1, S a2, S a3, slE Enc.byte a4 q5]) (n := 6) 0 aA rfl (by kernel_rfl) rfl rfl (aa rfl)) (.cons (.refl _) (.cons (.refl _) (.cons (.refl _) (.cons (.refl _) (.cons (.refl _) (.cons (.tok _ _ _) (.nil)))))))) ((show PlaceV _ _ _ (.tmp _) _ from (.refl _)))), aL [] rfl, rfl, rfl⟩))
set_option maxRecDepth 100000 in
set_option maxHeartbeats 1000000 in
theorem qF (F : Nat) (a1 : Int) (a2 : List (List UInt8)) (a3 : Int) (a4 : Int) (a5 : Int) (r6 : Int) (H : jr F a1 a2 a3 a4 a5 = some r6) : ACalls Tryz.prog 24 [.agg [i64 a1, slE Enc.str a2 none, i64 a3, i64 a4, i64 a5]] [] (Ret (i64 r6) []) := by
 unfold jr at H
 refine az Tryz.func24 rfl rfl ?_;show AW _ _ 63 _ _ _;refine ah <| ac ?_;show AR _ _ _ _ _ [0, 1] _;refine zR rfl (cP rfl (.inr ⟨_, rfl⟩)) <| za rfl <| ai <| bK (X := Unit) (fun _ => ⟨[], [], []⟩) (fun _ => iz = some r6) ?_ ?_
 ·refine ah <| ac ?_;show AR _ _ _ _ _ [0] _;refine za rfl <| ai <| be <| cN (X := Nat × Int) (fun (n9, y7) => ⟨[(1, .cp [i64 a1, slE Enc.str a2 none, i64 a3, i64 a4, i64 a5]), (3, i64 y7)], [], []⟩) (fun (n9, y7) => cE F a2 n9 y7 = some r6) (fun (n9, y7) => n9) (F, 1) H (aZ [] (.cons (.refl _) (.cons (.refl _) (.nil _))) rfl) ?_;rintro ⟨n9, y7⟩ H;obtain ⟨n9, rfl, H⟩ := dK H;replace H : eo F a2 (cE F a2 n9) y7 = some r6 := H
  unfold eo at H
  refine ah <| ah <| ac ?_;show AR _ _ _ _ _ [0, 1, 2, 3, 4] _;refine zm rfl <| zS rfl (aM (n := 1) (by kernel_rfl) rfl (aa rfl)) <| zS rfl (aF ar rfl rfl) <| zS rfl (bc ar rfl) <| zS rfl (bN rfl rfl) <| ai <| aE rfl (fun c10 => ?_) (fun c10 => ?_)
  ·replace H := bg c10 H;refine aJ <| bK (X := Unit) (fun _ => ⟨[(1, .cp [i64 a1, slE Enc.str a2 none, i64 a3, i64 a4, i64 a5]), (3, i64 y7)], [], []⟩) (fun _ => dI y7 (cE F a2 n9) = some r6) ?_ ?_
   ·refine be <| ah ?_;obtain ⟨g11, H⟩ := aY H;obtain ⟨x12, e13, H⟩ := bP H;refine ac ?_;show AR _ _ _ _ _ [0, 1, 2, 3, 4, 5] _;refine zS rfl (aM (n := 1) (by kernel_rfl) rfl (aa rfl)) <| zS rfl (aF ar rfl rfl) <| zm rfl <| zS rfl (bL (E := Enc.str) ar (by kernel_rfl) rfl rfl g11 e13) <| zS rfl (aF ag rfl rfl) <| za rfl <| ai <| ah <| ah ?_;obtain ⟨g16, H⟩ := cq H;obtain ⟨x17, e18, H⟩ := bP H;obtain ⟨x19, e20, H⟩ := gy H;refine ac ?_;show AR _ _ _ _ _ [0, 1, 2, 3, 4, 5, 6, 7, 8, 9, 10, 11, 12, 13] _;refine zm rfl <| zS rfl (bb ag rfl) <| zS rfl (bN rfl rfl) <| zm rfl <| aG (l := [8, 9, 10, 11, 12, 13]) 27 (B ((decide ((x12.length : Int) < 6)) || (decide (14 < (x12.length : Int))))) (fun K => ?_) ?_
    ·rcases af (decide ((x12.length : Int) < 6)) with h14 | h14
     ·refine zF h14 rfl <| zF h14 rfl <| zF h14 rfl <| zS rfl (ap (av := .v _) rfl h14 rfl) ?_;exact K _ 3 _ (am (dz h14)) rfl rfl
     ·refine zM h14 rfl <| zU h14 rfl (bb ag rfl) <| zU h14 rfl (fH rfl rfl) <| zS rfl (ao (av := .v _) rfl h14 rfl) ?_;exact K _ 3 _ (am (dA h14)) rfl rfl
    refine zm rfl <| aG (l := []) 33 (B (((decide ((x12.length : Int) < 6)) || (decide (14 < (x12.length : Int)))) || (!decide (x19 = ([115, 105, 122, 101, 32] : List UInt8))))) (fun K => ?_) ?_
    ·rcases af ((decide ((x12.length : Int) < 6)) || (decide (14 < (x12.length : Int)))) with h15 | h15
     ·refine zF h15 rfl <| zF h15 rfl <| zF h15 rfl <| zF h15 rfl <| zS rfl (ap (av := .v _) rfl h15 rfl) ?_;exact K _ 4 _ (am (dz h15)) rfl rfl
     ·refine zM h15 rfl <| zU h15 rfl (pe ag rfl rfl (g16 (nf h15)) e18) <| zT h15 rfl (aU rfl uB rfl (pw F x17 x19 (e20 (nf h15))) ?_);refine zU h15 rfl (qY rfl rfl) <| zS rfl (ao (av := .v _) rfl h15 rfl) ?_;exact K _ 4 _ (am (dA h15)) rfl rfl
    refine ai <| aE rfl (fun c21 => ?_) (fun c21 => ?_)
    ·replace H := bg c21 H;refine cH ?_;exact Exists.intro () ⟨H, aZ [] (.cons (.refl _) (.cons (.refl _) (.nil _))) rfl⟩
    ·replace H := ba c21 H;refine aJ <| ah <| ac ?_;show AR _ _ _ _ _ [0] _;refine za rfl <| ai <| ah <| ac ?_;show AR _ _ _ _ _ [0] _;refine za rfl <| ai <| bK (X := Int × Bool) (fun (y43, y44) => ⟨[(1, .cp [i64 a1, slE Enc.str a2 none, i64 a3, i64 a4, i64 a5]), (3, i64 y7), (5, i64 y43), (6, B y44)], [], []⟩) (fun (y43, y44) => ge y7 (cE F a2 n9) y43 y44 = some r6) ?_ ?_
     ·refine ah <| ac ?_;show AR _ _ _ _ _ [0] _;refine za rfl <| ai <| be <| cN (X := Nat × Int × Bool × Int) (fun (n26, y22, y23, y24) => ⟨[(1, .cp [i64 a1, slE Enc.str a2 none, i64 a3, i64 a4, i64 a5]), (3, i64 y7), (4, S x12), (5, i64 y22), (6, B y23), (7, i64 y24)], [], []⟩) (fun (n26, y22, y23, y24) => gg y7 x12 (cE F a2 n9) n26 (y22, y23, y24) = some r6) (fun (n26, y22, y23, y24) => n26) (F, 0, true, 5) H (aZ [] (.cons (.refl _) (.cons (.refl _) (.cons (.refl _) (.cons (.refl _) (.cons (.refl _) (.cons (.refl _) (.nil _))))))) rfl) ?_;rintro ⟨n26, y22, y23, y24⟩ H;obtain ⟨n26, rfl, H⟩ := dK H;replace H : gh y7 x12 (cE F a2 n9) (gg y7 x12 (cE F a2 n9) n26) y22 y23 y24 = some r6 := H
      unfold gh at H
      refine ah <| ah <| ac ?_;show AR _ _ _ _ _ [0, 1, 2, 3] _;refine zm rfl <| zm rfl <| zS rfl (bb ag rfl) <| zS rfl (bN rfl rfl) <| ai <| aE rfl (fun c27 => ?_) (fun c27 => ?_)
      ·replace H := bg c27 H;refine aJ <| ah <| be <| ah ?_;obtain ⟨g29, H⟩ := cq H;obtain ⟨x30, e31, H⟩ := bP H;obtain ⟨g33, H⟩ := cq H;obtain ⟨x34, e35, H⟩ := bP H;refine ac ?_;show AR _ _ _ _ _ [0, 1, 2, 3, 4, 5, 6, 7, 8, 9, 10, 11, 12, 13] _;refine zm rfl <| zm rfl <| aG (l := [7, 8, 9, 10, 11, 12, 13]) 46 (B (y23 && (decide (48 ≤ (x30.toNat : Int))))) (fun K => ?_) ?_
       ·rcases af y23 with h28 | h28
        ·refine zM h28 rfl <| zM h28 rfl <| zU h28 rfl (bi ag rfl rfl (g29 h28) e31) <| zU h28 rfl (di rfl rfl) <| zS rfl (ap (av := .v _) rfl h28 rfl) ?_;exact K _ 4 _ (am (bI h28)) rfl rfl
        ·refine zF h28 rfl <| zF h28 rfl <| zF h28 rfl <| zF h28 rfl <| zS rfl (ao (av := .v _) rfl h28 rfl) ?_;exact K _ 4 _ (am (bJ h28)) rfl rfl
       refine zm rfl <| aG (l := [13]) 52 (B ((y23 && (decide (48 ≤ (x30.toNat : Int)))) && (decide ((x34.toNat : Int) ≤ 57)))) (fun K => ?_) ?_
       ·rcases af (y23 && (decide (48 ≤ (x30.toNat : Int)))) with h32 | h32
        ·refine zM h32 rfl <| zM h32 rfl <| zU h32 rfl (bi ag rfl rfl (g33 h32) e35) <| zU h32 rfl (cL rfl rfl) <| zS rfl (ap (av := .v _) rfl h32 rfl) ?_;exact K _ 4 _ (am (bI h32)) rfl rfl
        ·refine zF h32 rfl <| zF h32 rfl <| zF h32 rfl <| zF h32 rfl <| zS rfl (ao (av := .v _) rfl h32 rfl) ?_;exact K _ 4 _ (am (bJ h32)) rfl rfl
       refine za rfl <| ai ?_;obtain ⟨g36, H⟩ := aY H;obtain ⟨g37, H⟩ := aY H;obtain ⟨x38, e39, H⟩ := bP H;obtain ⟨g40, H⟩ := aY H;obtain ⟨g41, H⟩ := aY H;refine ac ?_;show AR _ _ _ _ _ [0, 1, 2, 3, 4, 5, 6, 7, 8] _;refine zm rfl <| zS rfl (g_mul rfl rfl g36) <| zm rfl <| zm rfl <| zS rfl (bi ag rfl rfl g37 e39) <| zS rfl (kX (c := x38) (by kernel_rfl) aw rfl) <| zS rfl (dE rfl rfl g40) <| zS rfl (kN rfl rfl g41) <| za rfl <| ai ?_;obtain ⟨g42, H⟩ := aY H;refine ac ?_;show AR _ _ _ _ _ [0, 1, 2] _;refine zm rfl <| zS rfl (dE rfl rfl g42) <| za rfl <| ai ?_;exact Exists.intro (n26, ((10 * y22) + (x38.toNat : Int)) - 48, (y23 && (decide (48 ≤ (x30.toNat : Int)))) && (decide ((x34.toNat : Int) ≤ 57)), y24 + 1) ⟨H, Nat.lt_succ_self _, aZ [] (.cons (.refl _) (.cons (.refl _) (.cons (.refl _) (.cons (.refl _) (.cons (.refl _) (.cons (.refl _) (.nil _))))))) rfl⟩
      ·replace H := ba c27 H;refine cH ?_;exact Exists.intro (y22, y23) ⟨H, aZ [] (.cons (.refl _) (.cons (.refl _) (.cons (.refl _) (.cons (.refl _) (.nil _))))) rfl⟩
     rintro ⟨y43, y44⟩ H;replace H : ge y7 (cE F a2 n9) y43 y44 = some r6 := H
     unfold ge at H
     refine ah <| ac ?_;show AR _ _ _ _ _ [0] _;refine zm rfl <| ai <| aE rfl (fun c46 => ?_) (fun c46 => ?_)
     ·replace H := bg c46 H;refine ah <| ac ?_;show AR _ _ _ _ _ [0, 1] _;refine zm rfl <| za rfl <| ai <| aQ ?_;obtain rfl := ay H;exact And.intro rfl (Exists.intro _ (Exists.intro _ ⟨aV rfl (.refl _), aL [] rfl, rfl, rfl⟩))
     ·replace H := ba c46 H;refine aJ ?_;exact Exists.intro () ⟨H, aZ [] (.cons (.refl _) (.cons (.refl _) (.nil _))) rfl⟩
   rintro _ H;replace H : dI y7 (cE F a2 n9) = some r6 := H
   unfold dI at H
   obtain ⟨g48, H⟩ := aY H;refine ac ?_;show AR _ _ _ _ _ [0, 1, 2] _;refine zm rfl <| zS rfl (dE rfl rfl g48) <| za rfl <| ai ?_;exact Exists.intro (n9, y7 + 1) ⟨H, Nat.lt_succ_self _, aZ [] (.cons (.refl _) (.cons (.refl _) (.nil _))) rfl⟩
  ·replace H := ba c10 H;refine cH ?_;exact Exists.intro () ⟨H, aZ [] (.nil _) rfl⟩
 rintro _ H;replace H : iz = some r6 := H
 unfold iz at H
 refine ah <| ac ?_;show AR _ _ _ _ _ [0] _;refine za rfl <| ai <| aQ ?_;obtain rfl := ay H;exact And.intro rfl (Exists.intro _ (Exists.intro _ ⟨aV rfl (.refl _), aL [] rfl, rfl, rfl⟩))
set_option maxRecDepth 100000 in
set_option maxHeartbeats 1000000 in
theorem iY (F : Nat) (a1 : Int) (a2 : Int) (a3 : List UInt8) (a4 : List UInt8) (a5 : List UInt8) (a6 : List UInt8) (a7 : Int) (r8 : Int) (r9 : Int) (r10 : List UInt8) (r11 : List UInt8) (r12 : List UInt8) (r13 : List UInt8) (r14 : List UInt8) (H : gE F a1 a2 a3 a4 a5 a6 a7 = some (r8, r9, r10, r11, r12, r13, r14)) : ACalls Tryz.prog 43 [.agg [i64 a1, i64 a2, S a3, S a4, S a5, slE Enc.byte a6 none], i64 a7] [] (Ret (.tup [.agg [i64 r8, i64 r9, S r10, S r11, S r12, slE Enc.byte r13 none], slE Enc.byte r14 none]) []) := by
 unfold gE at H
 refine az Tryz.func43 rfl rfl ?_;show AW _ _ 12 _ _ _;refine ah <| ac ?_;show AR _ _ _ _ _ [0, 1, 2] _;refine zX rfl (ie rfl (.inr ⟨_, rfl⟩)) ?_;rintro _ _ ⟨o15, rfl, rfl⟩;refine zX rfl (br (zs := [.int .i64 0, .int .i64 0, .string ⟨#[]⟩, .string ⟨#[]⟩, .string ⟨#[]⟩, .slice none 0 0]) (by kernel_rfl)) ?_;rintro _ _ ⟨o16, rfl, rfl⟩;refine za rfl <| ai <| ah <| ac ?_;show AR _ _ _ _ _ [0, 1, 2] _;refine zm rfl <| zS rfl (aj (n := 1) (by kernel_rfl) rfl) <| s0 rfl rfl (au (i := 1) (c := .v _) (by kernel_rfl) rfl rfl rfl rfl (aa rfl)) <| ai <| ah <| ac ?_;show AR _ _ _ _ _ [0, 1] _;refine zS rfl (aj (n := 0) (by kernel_rfl) rfl) <| s0 rfl rfl (au (i := 1) (c := .v _) (by kernel_rfl) rfl rfl rfl rfl (aa rfl)) <| ai <| ah <| ac ?_;show AR _ _ _ _ _ [0, 1, 2, 3, 4] _;refine zR rfl (bq (i := 1) (n := 6) aA rfl (by kernel_rfl) rfl rfl (aa rfl)) <| zX rfl (ir (E := Enc.byte) (bytes := 1) (xs := [.const _, .const _, .const _, .const _, .const _, .const _]) (l := ([81, 85, 73, 84, 13, 10] : List UInt8)) ab (by kernel_rfl) rfl rfl (by decide) rfl rfl) ?_;rintro _ _ ⟨t17, rfl, rfl⟩
 refine zR rfl (fA 0 ab aO rfl (by simp) rfl) <| s0 rfl rfl (aH (i := 1) (vs := [i64 6, i64 a7, S a3, S a4, S a5, slE Enc.byte a6 none]) (by kernel_rfl) rfl rfl (by simp [bk, slE]) rfl (aa rfl)) <| zS rfl (aB (av := slE _ _ _) rfl) <| ai <| aQ ?_;obtain ⟨rfl, rfl, rfl, rfl, rfl, rfl, rfl⟩ := lH H;exact And.intro rfl (Exists.intro _ (Exists.intro _ ⟨bW (cb rfl (bX (off := 0) (cs := [i64 6, i64 a7, S a3, S a4, S a5, slE Enc.byte a6 none]) (n := 6) 1 aA rfl (by kernel_rfl) rfl rfl (aa rfl)) ((show PlaceV _ _ _ (.tmp _) _ from (.tok _ _ _)))), aL [] rfl, rfl, rfl⟩))
set_option maxRecDepth 100000 in
set_option maxHeartbeats 1000000 in
theorem mt (F : Nat) (a1 : Int) (a2 : Int) (a3 : List UInt8) (a4 : List UInt8) (a5 : List UInt8) (a6 : List UInt8) (r7 : Int) (r8 : Int) (r9 : List UInt8) (r10 : List UInt8) (r11 : List UInt8) (r12 : List UInt8) (H : iq F a1 a2 a3 a4 a5 a6 = some (r7, r8, r9, r10, r11, r12)) : ACalls Tryz.prog 22 [.agg [i64 a1, i64 a2, S a3, S a4, S a5, slE Enc.byte a6 none]] [] (Ret (.agg [i64 r7, i64 r8, S r9, S r10, S r11, slE Enc.byte r12 none]) []) := by
 unfold iq at H
 refine az Tryz.func22 rfl rfl ?_;show AW _ _ 9 _ _ _;refine ah <| ac ?_;show AR _ _ _ _ _ [0, 1] _;refine zX rfl (ie rfl (.inr ⟨_, rfl⟩)) ?_;rintro _ _ ⟨o13, rfl, rfl⟩;refine zX rfl (br (zs := [.int .i64 0, .int .i64 0, .string ⟨#[]⟩, .string ⟨#[]⟩, .string ⟨#[]⟩, .slice none 0 0]) (by kernel_rfl)) ?_;rintro _ _ ⟨o14, rfl, rfl⟩;refine ai <| ah <| ac ?_;show AR _ _ _ _ _ [0, 1] _;refine zS rfl (aj (n := 0) (by kernel_rfl) rfl) <| s0 rfl rfl (au (i := 1) (c := .v _) (by kernel_rfl) rfl rfl rfl rfl (aa rfl)) <| ai <| bK (X := Int) (fun y16 => ⟨[(1, .pt o13 0), (2, .pt o14 0)], [], [.obj o14 [i64 0, i64 0, S ([] : List UInt8), S ([] : List UInt8), S ([] : List UInt8), ec], .obj o13 [i64 7, i64 y16, S a3, S a4, S a5, slE Enc.byte a6 none]]⟩) (fun y16 => fw a3 a4 a5 a6 y16 = some (r7, r8, r9, r10, r11, r12)) ?_ ?_
 ·refine ah <| ac ?_;show AR _ _ _ _ _ [0, 1, 2] _;refine zS rfl (aj (n := 1) (by kernel_rfl) rfl) <| zR rfl (al (i := 1) aw rfl rfl rfl rfl) <| zS rfl (bt rfl rfl) <| ai <| aE rfl (fun c15 => ?_) (fun c15 => ?_)
  ·replace H := bg c15 H;refine ac ?_;show AR _ _ _ _ _ [0, 1] _;refine zS rfl (aj (n := 1) (by kernel_rfl) rfl) <| s0 rfl rfl (au (i := 1) (c := .v _) (by kernel_rfl) rfl rfl rfl rfl (aa rfl)) <| ai ?_;exact Exists.intro 2 ⟨H, aZ [0, 0] (.cons (.refl _) (.cons (.refl _) (.nil _))) rfl⟩
  ·replace H := ba c15 H;refine aJ ?_;exact Exists.intro a2 ⟨H, aZ [0, 0] (.cons (.refl _) (.cons (.refl _) (.nil _))) rfl⟩
 rintro y16 H;replace H : fw a3 a4 a5 a6 y16 = some (r7, r8, r9, r10, r11, r12) := H
 unfold fw at H
 refine ah <| ac ?_;show AR _ _ _ _ _ [0, 1] _;refine zR rfl (bq (i := 1) (n := 6) aA rfl (by kernel_rfl) rfl rfl (aa rfl)) <| s0 rfl rfl (aH (i := 0) (vs := [i64 7, i64 y16, S a3, S a4, S a5, slE Enc.byte a6 none]) (by kernel_rfl) rfl rfl (by simp [bk, slE]) rfl (aa rfl)) <| ai <| aQ ?_;obtain ⟨rfl, rfl, rfl, rfl, rfl, rfl⟩ := res6 H;exact And.intro rfl (Exists.intro _ (Exists.intro _ ⟨bW (dw rfl (bX (off := 0) (cs := [i64 7, i64 y16, S a3, S a4, S a5, slE Enc.byte a6 none]) (n := 6) 0 aA rfl (by kernel_rfl) rfl rfl (aa rfl))), aL [] rfl, rfl, rfl⟩))
set_option maxRecDepth 100000 in
set_option maxHeartbeats 1000000 in
theorem qE (F : Nat) (a1 : Int) (a2 : Int) (r3 : Bool) (H : jp F a1 a2 = some r3) : ACalls Tryz.prog 42 [i64 a1, i64 a2] [] (Ret (B r3) []) := by
 unfold jp at H
 refine az Tryz.func42 rfl rfl ?_;show AW _ _ 20 _ _ _;refine ah <| ac ?_;show AR _ _ _ _ _ [0] _;refine za rfl <| ai <| ah <| ah <| ac ?_;show AR _ _ _ _ _ [0] _;refine zm rfl <| ai <| be <| ah <| ac ?_;show AR _ _ _ _ _ [0, 1] _;refine zS rfl (bt rfl rfl) <| za rfl <| ai <| aE rfl (fun c4 => ?_) (fun c4 => ?_)
 ·replace H := bg c4 H;refine ah <| ac ?_;show AR _ _ _ _ _ [0, 1, 2] _;refine zm rfl <| zS rfl (bt rfl rfl) <| za rfl <| ai <| aQ ?_;obtain rfl := ay H;exact And.intro rfl (Exists.intro _ (Exists.intro _ ⟨aV rfl (.refl _), aL [] rfl, rfl, rfl⟩))
 ·replace H := ba c4 H;refine ah <| ac ?_;show AR _ _ _ _ _ [0, 1] _;refine zS rfl (bt rfl rfl) <| za rfl <| ai <| aE rfl (fun c5 => ?_) (fun c5 => ?_)
  ·replace H := bg c5 H;refine ah <| ac ?_;show AR _ _ _ _ _ [0, 1, 2] _;refine zm rfl <| zS rfl (bt rfl rfl) <| za rfl <| ai <| aQ ?_;obtain rfl := ay H;exact And.intro rfl (Exists.intro _ (Exists.intro _ ⟨aV rfl (.refl _), aL [] rfl, rfl, rfl⟩))
  ·replace H := ba c5 H;refine aJ <| ah <| ac ?_;show AR _ _ _ _ _ [0, 1, 2, 3, 4, 5, 6] _;refine zm rfl <| zS rfl (di rfl rfl) <| zm rfl <| aG (l := [6]) 19 (B ((decide (200 ≤ a2)) && (decide (a2 ≤ 299)))) (fun K => ?_) ?_
   ·rcases af (decide (200 ≤ a2)) with h6 | h6
    ·refine zM h6 rfl <| zU h6 rfl (cL rfl rfl) <| zS rfl (ap (av := .v _) rfl h6 rfl) ?_;exact K _ 2 _ (am (bI h6)) rfl rfl
    ·refine zF h6 rfl <| zF h6 rfl <| zS rfl (ao (av := .v _) rfl h6 rfl) ?_;exact K _ 2 _ (am (bJ h6)) rfl rfl
   refine za rfl <| ai <| aQ ?_;obtain rfl := ay H;exact And.intro rfl (Exists.intro _ (Exists.intro _ ⟨aV rfl (.refl _), aL [] rfl, rfl, rfl⟩))
set_option maxRecDepth 100000 in
set_option maxHeartbeats 1000000 in
theorem km (F : Nat) (a1 : Int) (a2 : Int) (a3 : List UInt8) (a4 : List UInt8) (a5 : List UInt8) (a6 : List UInt8) (a7 : Int) (a8 : List (List UInt8)) (a9 : Int) (a10 : Int) (a11 : Int) (r12 : Int) (r13 : Int) (r14 : List UInt8) (r15 : List UInt8) (r16 : List UInt8) (r17 : List UInt8) (r18 : List UInt8) (H : jq F a1 a2 a3 a4 a5 a6 a7 a8 a9 a10 a11 = some (r12, r13, r14, r15, r16, r17, r18)) : ACalls Tryz.prog 21 [.agg [i64 a1, i64 a2, S a3, S a4, S a5, slE Enc.byte a6 none], .agg [i64 a7, slE Enc.str a8 none, i64 a9, i64 a10, i64 a11]] [] (Ret (.tup [.agg [i64 r12, i64 r13, S r14, S r15, S r16, slE Enc.byte r17 none], slE Enc.byte r18 none]) []) := by
 unfold jq at H
 refine az Tryz.func21 rfl rfl ?_;show AW _ _ 131 _ _ _;refine ah <| ac ?_;show AR _ _ _ _ _ [0, 1, 2, 3] _;refine zX rfl (ie rfl (.inr ⟨_, rfl⟩)) ?_;rintro _ _ ⟨o19, rfl, rfl⟩;refine zR rfl (cP rfl (.inr ⟨_, rfl⟩)) <| zX rfl (br (zs := [.int .i64 0, .int .i64 0, .string ⟨#[]⟩, .string ⟨#[]⟩, .string ⟨#[]⟩, .slice none 0 0]) (by kernel_rfl)) ?_;rintro _ _ ⟨o20, rfl, rfl⟩;refine za rfl <| ai <| ah <| ah <| ac ?_;show AR _ _ _ _ _ [0, 1, 2, 3, 4, 5, 6, 7] _;refine zS rfl (aj (n := 0) (by kernel_rfl) rfl) <| zR rfl (al (i := 1) aw rfl rfl rfl rfl) <| zS rfl (bN rfl rfl) <| zm rfl <| aG (l := []) 26 (B ((decide (a1 < 0)) || (decide (7 ≤ a1)))) (fun K => ?_) ?_
 ·rcases af (decide (a1 < 0)) with h21 | h21
  ·refine zF h21 rfl <| zF h21 rfl <| zF h21 rfl <| zS rfl (ap (av := .v _) rfl h21 rfl) ?_;exact K _ 3 _ (am (dz h21)) rfl rfl
  ·refine zU h21 rfl (aj (n := 0) (by kernel_rfl) rfl) <| zT h21 rfl (ca rfl rfl (al (i := 1) aw rfl rfl rfl rfl) ?_);refine zU h21 rfl (di rfl rfl) <| zS rfl (ao (av := .v _) rfl h21 rfl) ?_;exact K _ 3 _ (am (dA h21)) rfl rfl
 refine ai <| aE rfl (fun c22 => ?_) (fun c22 => ?_)
 ·replace H := bg c22 H;refine ah <| ac ?_;show AR _ _ _ _ _ [0, 1, 2] _;refine zR rfl (bq (i := 1) (n := 6) aA rfl (by kernel_rfl) rfl rfl (aa rfl)) <| s0 rfl rfl (aH (i := 0) (vs := [i64 a1, i64 a2, S a3, S a4, S a5, slE Enc.byte a6 none]) (by kernel_rfl) rfl rfl (by simp [bk, slE]) rfl (aa rfl)) <| za rfl <| ai <| aQ ?_;obtain ⟨rfl, rfl, rfl, rfl, rfl, rfl, rfl⟩ := lH H;exact And.intro rfl (Exists.intro _ (Exists.intro _ ⟨bW (cb rfl (bX (off := 0) (cs := [i64 a1, i64 a2, S a3, S a4, S a5, slE Enc.byte a6 none]) (n := 6) 0 aA rfl (by kernel_rfl) rfl rfl (aa rfl)) ((show PlaceV _ _ _ (.tmp _) _ from (.nil _)))), aL [] rfl, rfl, rfl⟩))
 ·replace H := ba c22 H;refine aJ <| ah <| ah <| ac ?_;show AR _ _ _ _ _ [0, 1, 2] _;refine zS rfl (aM (n := 0) (by kernel_rfl) rfl (aa rfl)) <| zS rfl (aF aw rfl rfl) <| zS rfl (bt rfl rfl) <| ai <| aE rfl (fun c23 => ?_) (fun c23 => ?_)
  ·replace H := bg c23 H;refine ah ?_;obtain ⟨x24, e25, H⟩ := cu H;refine ac ?_;show AR _ _ _ _ _ [0, 1, 2, 3] _;refine zR rfl (bq (i := 1) (n := 6) aA rfl (by kernel_rfl) rfl rfl (aa rfl)) <| aq rfl rfl (aU rfl qx rfl (mt F a1 a2 a3 a4 a5 a6 x24.1 x24.2.1 x24.2.2.1 x24.2.2.2.1 x24.2.2.2.2.1 x24.2.2.2.2.2 e25) ?_);refine s0 rfl rfl (aH (i := 0) (vs := [i64 x24.1, i64 x24.2.1, S x24.2.2.1, S x24.2.2.2.1, S x24.2.2.2.2.1, slE Enc.byte x24.2.2.2.2.2 none]) (by kernel_rfl) rfl rfl (by simp [bk, slE]) rfl (aa rfl)) <| za rfl <| ai <| aQ ?_;obtain ⟨rfl, rfl, rfl, rfl, rfl, rfl, rfl⟩ := lH H;exact And.intro rfl (Exists.intro _ (Exists.intro _ ⟨bW (cb rfl (bX (off := 0) (cs := [i64 x24.1, i64 x24.2.1, S x24.2.2.1, S x24.2.2.2.1, S x24.2.2.2.2.1, slE Enc.byte x24.2.2.2.2.2 none]) (n := 6) 0 aA rfl (by kernel_rfl) rfl rfl (aa rfl)) ((show PlaceV _ _ _ (.tmp _) _ from (.nil _)))), aL [] rfl, rfl, rfl⟩))
  ·replace H := ba c23 H;refine aJ <| ah <| ah <| ac ?_;show AR _ _ _ _ _ [0, 1, 2] _;refine zS rfl (aj (n := 0) (by kernel_rfl) rfl) <| zR rfl (al (i := 1) aw rfl rfl rfl rfl) <| zS rfl (bt rfl rfl) <| ai <| aE rfl (fun c26 => ?_) (fun c26 => ?_)
   ·replace H := bg c26 H;refine ah <| ac ?_;show AR _ _ _ _ _ [0, 1] _;refine zS rfl (aj (n := 0) (by kernel_rfl) rfl) <| s0 rfl rfl (au (i := 1) (c := .v _) (by kernel_rfl) rfl rfl rfl rfl (aa rfl)) <| ai <| ah <| ac ?_;show AR _ _ _ _ _ [0, 1, 2] _;refine zR rfl (bq (i := 1) (n := 6) aA rfl (by kernel_rfl) rfl rfl (aa rfl)) <| s0 rfl rfl (aH (i := 0) (vs := [i64 7, i64 a2, S a3, S a4, S a5, slE Enc.byte a6 none]) (by kernel_rfl) rfl rfl (by simp [bk, slE]) rfl (aa rfl)) <| za rfl <| ai <| aQ ?_;obtain ⟨rfl, rfl, rfl, rfl, rfl, rfl, rfl⟩ := lH H;exact And.intro rfl (Exists.intro _ (Exists.intro _ ⟨bW (cb rfl (bX (off := 0) (cs := [i64 7, i64 a2, S a3, S a4, S a5, slE Enc.byte a6 none]) (n := 6) 0 aA rfl (by kernel_rfl) rfl rfl (aa rfl)) ((show PlaceV _ _ _ (.tmp _) _ from (.nil _)))), aL [] rfl, rfl, rfl⟩))
   ·replace H := ba c26 H;refine aJ <| ah ?_;obtain ⟨x27, e28, H⟩ := cu H;refine ac ?_;show AR _ _ _ _ _ [0, 1, 2, 3, 4, 5] _;refine zS rfl (aj (n := 0) (by kernel_rfl) rfl) <| zR rfl (al (i := 1) aw rfl rfl rfl rfl) <| zS rfl (aM (n := 0) (by kernel_rfl) rfl (aa rfl)) <| zS rfl (aF aw rfl rfl) <| aq rfl rfl (aU rfl uH rfl (qE F a1 a7 x27 e28) ?_);refine za rfl <| ai <| ah <| ah <| ac ?_;show AR _ _ _ _ _ [0, 1] _;refine zm rfl <| zS rfl (cW rfl) <| ai <| aE rfl (fun c29 => ?_) (fun c29 => ?_)
    ·replace H := bg c29 H;refine ah <| ah <| ac ?_;show AR _ _ _ _ _ [0, 1, 2, 3, 4, 5, 6, 7] _;refine zS rfl (aM (n := 0) (by kernel_rfl) rfl (aa rfl)) <| zS rfl (aF aw rfl rfl) <| zS rfl (di rfl rfl) <| zm rfl <| aG (l := []) 52 (B ((decide (500 ≤ a7)) && (decide (a7 ≤ 599)))) (fun K => ?_) ?_
     ·rcases af (decide (500 ≤ a7)) with h30 | h30
      ·refine zU h30 rfl (aM (n := 0) (by kernel_rfl) rfl (aa rfl)) <| zU h30 rfl (aF aw rfl rfl) <| zU h30 rfl (cL rfl rfl) <| zS rfl (ap (av := .v _) rfl h30 rfl) ?_;exact K _ 3 _ (am (bI h30)) rfl rfl
      ·refine zF h30 rfl <| zF h30 rfl <| zF h30 rfl <| zS rfl (ao (av := .v _) rfl h30 rfl) ?_;exact K _ 3 _ (am (bJ h30)) rfl rfl
     refine ai <| aE rfl (fun c31 => ?_) (fun c31 => ?_)
     ·replace H := bg c31 H;refine ah ?_;obtain ⟨x32, e33, H⟩ := cu H;refine ac ?_;show AR _ _ _ _ _ [0, 1, 2, 3, 4, 5, 6, 7] _;refine zR rfl (bq (i := 1) (n := 6) aA rfl (by kernel_rfl) rfl rfl (aa rfl)) <| aq rfl rfl (aU rfl lv rfl (iY F a1 a2 a3 a4 a5 a6 3 x32.1 x32.2.1 x32.2.2.1 x32.2.2.2.1 x32.2.2.2.2.1 x32.2.2.2.2.2.1 x32.2.2.2.2.2.2 e33) ?_);refine zS rfl (ak (av := .tup _) rfl) <| zS rfl (aK (av := .agg _) rfl rfl) <| zS rfl (aK (av := slE _ _ _) rfl rfl) <| zX rfl (br (zs := [.int .i64 0, .int .i64 0, .string ⟨#[]⟩, .string ⟨#[]⟩, .string ⟨#[]⟩, .slice none 0 0]) (by kernel_rfl)) ?_;rintro _ _ ⟨o34, rfl, rfl⟩;refine s0 rfl rfl (aH (i := 0) (vs := [i64 x32.1, i64 x32.2.1, S x32.2.2.1, S x32.2.2.2.1, S x32.2.2.2.2.1, slE Enc.byte x32.2.2.2.2.2.1 none]) (by kernel_rfl) rfl rfl (by simp [bk, slE]) rfl (aa rfl)) <| dx 7 0 rfl rfl ?_;show AR _ _ _ _ _ _ ⟨_, _, [.obj o20 [i64 0, i64 0, S ([] : List UInt8), S ([] : List UInt8), S ([] : List UInt8), ec], .obj o19 [i64 a1, i64 a2, S a3, S a4, S a5, slE Enc.byte a6 none]]⟩;refine zS rfl (aB (av := slE _ _ _) rfl) <| ai <| ah <| ac ?_;show AR _ _ _ _ _ [0, 1, 2, 3] _
      refine zS rfl (bh aA rfl (n := 6) (by kernel_rfl) rfl (aa rfl)) <| zS rfl (ak (av := slE _ _ _) rfl) <| s0 rfl rfl (aH (i := 0) (vs := [i64 x32.1, i64 x32.2.1, S x32.2.2.1, S x32.2.2.2.1, S x32.2.2.2.2.1, slE Enc.byte x32.2.2.2.2.2.1 none]) (by kernel_rfl) rfl rfl (by simp [bk, slE]) rfl (aa rfl)) <| zS rfl (aB (av := slE _ _ _) rfl) <| ai <| aQ ?_;obtain ⟨rfl, rfl, rfl, rfl, rfl, rfl, rfl⟩ := lH H;exact And.intro rfl (Exists.intro _ (Exists.intro _ ⟨bW (cb rfl (bX (off := 0) (cs := [i64 x32.1, i64 x32.2.1, S x32.2.2.1, S x32.2.2.2.1, S x32.2.2.2.2.1, slE Enc.byte x32.2.2.2.2.2.1 none]) (n := 6) 0 aA rfl (by kernel_rfl) rfl rfl (aa rfl)) ((show PlaceV _ _ _ (.tmp _) _ from (.refl _)))), aL [] rfl, rfl, rfl⟩))
     ·replace H := ba c31 H;refine aJ <| ah ?_;obtain ⟨x35, e36, H⟩ := cu H;refine ac ?_;show AR _ _ _ _ _ [0, 1, 2, 3, 4, 5, 6, 7] _;refine zR rfl (bq (i := 1) (n := 6) aA rfl (by kernel_rfl) rfl rfl (aa rfl)) <| aq rfl rfl (aU rfl lv rfl (iY F a1 a2 a3 a4 a5 a6 2 x35.1 x35.2.1 x35.2.2.1 x35.2.2.2.1 x35.2.2.2.2.1 x35.2.2.2.2.2.1 x35.2.2.2.2.2.2 e36) ?_);refine zS rfl (ak (av := .tup _) rfl) <| zS rfl (aK (av := .agg _) rfl rfl) <| zS rfl (aK (av := slE _ _ _) rfl rfl) <| zX rfl (br (zs := [.int .i64 0, .int .i64 0, .string ⟨#[]⟩, .string ⟨#[]⟩, .string ⟨#[]⟩, .slice none 0 0]) (by kernel_rfl)) ?_;rintro _ _ ⟨o37, rfl, rfl⟩;refine s0 rfl rfl (aH (i := 0) (vs := [i64 x35.1, i64 x35.2.1, S x35.2.2.1, S x35.2.2.2.1, S x35.2.2.2.2.1, slE Enc.byte x35.2.2.2.2.2.1 none]) (by kernel_rfl) rfl rfl (by simp [bk, slE]) rfl (aa rfl)) <| dx 9 0 rfl rfl ?_;show AR _ _ _ _ _ _ ⟨_, _, [.obj o20 [i64 0, i64 0, S ([] : List UInt8), S ([] : List UInt8), S ([] : List UInt8), ec], .obj o19 [i64 a1, i64 a2, S a3, S a4, S a5, slE Enc.byte a6 none]]⟩;refine zS rfl (aB (av := slE _ _ _) rfl) <| ai <| ah <| ac ?_;show AR _ _ _ _ _ [0, 1, 2, 3] _
      refine zS rfl (bh aA rfl (n := 6) (by kernel_rfl) rfl (aa rfl)) <| zS rfl (ak (av := slE _ _ _) rfl) <| s0 rfl rfl (aH (i := 0) (vs := [i64 x35.1, i64 x35.2.1, S x35.2.2.1, S x35.2.2.2.1, S x35.2.2.2.2.1, slE Enc.byte x35.2.2.2.2.2.1 none]) (by kernel_rfl) rfl rfl (by simp [bk, slE]) rfl (aa rfl)) <| zS rfl (aB (av := slE _ _ _) rfl) <| ai <| aQ ?_;obtain ⟨rfl, rfl, rfl, rfl, rfl, rfl, rfl⟩ := lH H;exact And.intro rfl (Exists.intro _ (Exists.intro _ ⟨bW (cb rfl (bX (off := 0) (cs := [i64 x35.1, i64 x35.2.1, S x35.2.2.1, S x35.2.2.2.1, S x35.2.2.2.2.1, slE Enc.byte x35.2.2.2.2.2.1 none]) (n := 6) 0 aA rfl (by kernel_rfl) rfl rfl (aa rfl)) ((show PlaceV _ _ _ (.tmp _) _ from (.refl _)))), aL [] rfl, rfl, rfl⟩))
    ·replace H := ba c29 H;refine aJ <| ah ?_;obtain ⟨x38, x39, e40, H⟩ := eu H;refine ac ?_;show AR _ _ _ _ _ [0, 1, 2, 3, 4, 5, 6, 7] _;refine zS rfl (aj (n := 5) (by kernel_rfl) rfl) <| zR rfl (al (i := 1) ab rfl rfl rfl rfl) <| aq rfl rfl (aU rfl uI rfl (pv F a6 none x38 x39 e40) ?_);refine zS rfl (ak (av := .tup _) rfl) <| zS rfl (aK (av := slE _ _ _) rfl rfl) <| zS rfl (aK (av := .v _) rfl rfl) <| zS rfl (aB (av := slE _ _ _) rfl) <| za rfl <| ai <| ah <| ac ?_;show AR _ _ _ _ _ [0] _;refine za rfl <| ai <| bK (X := (List UInt8) × Int) (fun (y74, y75) => ⟨[(2, .pt o19 0), (4, .pt o20 0), (13, S y74)], [], [.obj o20 [i64 0, i64 0, S ([] : List UInt8), S ([] : List UInt8), S ([] : List UInt8), ec], .obj o19 [i64 y75, i64 a2, S a3, S a4, S a5, slE Enc.byte a6 none]]⟩) (fun (y74, y75) => dH a2 a3 a4 a5 a6 y74 y75 = some (r12, r13, r14, r15, r16, r17, r18)) ?_ ?_
     ·refine ah <| ac ?_;show AR _ _ _ _ _ [0, 1] _;refine zS rfl (aj (n := 0) (by kernel_rfl) rfl) <| zR rfl (al (i := 1) aw rfl rfl rfl rfl) <| ai <| be <| ah <| ac ?_;show AR _ _ _ _ _ [0, 1] _;refine zS rfl (bt rfl rfl) <| za rfl <| ai <| aE rfl (fun c41 => ?_) (fun c41 => ?_)
      ·replace H := bg c41 H;refine ah <| ac ?_;show AR _ _ _ _ _ [0, 1] _;refine zS rfl (aj (n := 0) (by kernel_rfl) rfl) <| s0 rfl rfl (au (i := 1) (c := .v _) (by kernel_rfl) rfl rfl rfl rfl (aa rfl)) <| ai ?_;obtain ⟨g42, H⟩ := aY H;obtain ⟨x43, e44, H⟩ := bP H;obtain ⟨g45, H⟩ := aY H;obtain ⟨x46, e47, H⟩ := bP H;refine ac ?_;show AR _ _ _ _ _ [0, 1, 2, 3, 4] _;refine zS rfl (aj (n := 4) (by kernel_rfl) rfl) <| zR rfl (al (i := 1) ag rfl rfl rfl rfl) <| zS rfl (np rfl rfl g42 e44) <| zS rfl (np rfl rfl g45 e47) <| za rfl <| ai ?_;exact Exists.intro (x46, 1) ⟨H, aZ [0, 0] (.cons (.refl _) (.cons (.refl _) (.cons (.refl _) (.nil _)))) rfl⟩
      ·replace H := ba c41 H;refine ah <| ac ?_;show AR _ _ _ _ _ [0, 1] _;refine zS rfl (bt rfl rfl) <| za rfl <| ai <| aE rfl (fun c48 => ?_) (fun c48 => ?_)
       ·replace H := bg c48 H;refine ah ?_;obtain ⟨x49, e50, H⟩ := cu H;refine ac ?_;show AR _ _ _ _ _ [0, 1, 2] _;refine zS rfl (bh bm rfl (n := 5) (by kernel_rfl) rfl (aa rfl)) <| aq rfl rfl (aU rfl uS rfl (qF F a7 a8 a9 a10 a11 x49 e50) ?_);refine za rfl <| ai <| ah <| ah <| ac ?_;show AR _ _ _ _ _ [0, 1, 2, 3, 4, 5, 6, 7] _;refine zm rfl <| zS rfl (fH rfl rfl) <| zm rfl <| aG (l := []) 100 (B ((decide (0 < x49)) && (decide (x49 < (x38.length : Int))))) (fun K => ?_) ?_
        ·rcases af (decide (0 < x49)) with h51 | h51
         ·refine zM h51 rfl <| zU h51 rfl (ak (av := slE _ _ _) rfl) <| zU h51 rfl (bc ab rfl) <| zU h51 rfl (bN rfl rfl) <| zS rfl (ap (av := .v _) rfl h51 rfl) ?_;exact K _ 4 _ (am (bI h51)) rfl rfl
         ·refine zF h51 rfl <| zF h51 rfl <| zF h51 rfl <| zF h51 rfl <| zS rfl (ao (av := .v _) rfl h51 rfl) ?_;exact K _ 4 _ (am (bJ h51)) rfl rfl
        refine ai <| aE rfl (fun c52 => ?_) (fun c52 => ?_)
        ·replace H := bg c52 H;refine ah ?_;obtain ⟨x53, e54, H⟩ := cu H;refine ac ?_;show AR _ _ _ _ _ [0, 1, 2, 3, 4, 5, 6, 7] _;refine zR rfl (bq (i := 1) (n := 6) aA rfl (by kernel_rfl) rfl rfl (aa rfl)) <| aq rfl rfl (aU rfl lv rfl (iY F a1 a2 a3 a4 a5 a6 3 x53.1 x53.2.1 x53.2.2.1 x53.2.2.2.1 x53.2.2.2.2.1 x53.2.2.2.2.2.1 x53.2.2.2.2.2.2 e54) ?_);refine zS rfl (ak (av := .tup _) rfl) <| zS rfl (aK (av := .agg _) rfl rfl) <| zS rfl (aK (av := slE _ _ _) rfl rfl) <| zX rfl (br (zs := [.int .i64 0, .int .i64 0, .string ⟨#[]⟩, .string ⟨#[]⟩, .string ⟨#[]⟩, .slice none 0 0]) (by kernel_rfl)) ?_;rintro _ _ ⟨o55, rfl, rfl⟩;refine s0 rfl rfl (aH (i := 0) (vs := [i64 x53.1, i64 x53.2.1, S x53.2.2.1, S x53.2.2.2.1, S x53.2.2.2.2.1, slE Enc.byte x53.2.2.2.2.2.1 none]) (by kernel_rfl) rfl rfl (by simp [bk, slE]) rfl (aa rfl)) <| dx 15 0 rfl rfl ?_;show AR _ _ _ _ _ _ ⟨_, _, [.obj o20 [i64 0, i64 0, S ([] : List UInt8), S ([] : List UInt8), S ([] : List UInt8), ec], .obj o19 [i64 a1, i64 a2, S a3, S a4, S a5, slE Enc.byte a6 none]]⟩;refine zS rfl (aB (av := slE _ _ _) rfl) <| ai <| ah <| ac ?_;show AR _ _ _ _ _ [0, 1, 2, 3] _
         refine zS rfl (bh aA rfl (n := 6) (by kernel_rfl) rfl (aa rfl)) <| zS rfl (ak (av := slE _ _ _) rfl) <| s0 rfl rfl (aH (i := 0) (vs := [i64 x53.1, i64 x53.2.1, S x53.2.2.1, S x53.2.2.2.1, S x53.2.2.2.2.1, slE Enc.byte x53.2.2.2.2.2.1 none]) (by kernel_rfl) rfl rfl (by simp [bk, slE]) rfl (aa rfl)) <| zS rfl (aB (av := slE _ _ _) rfl) <| ai <| aQ ?_;obtain ⟨rfl, rfl, rfl, rfl, rfl, rfl, rfl⟩ := lH H;exact And.intro rfl (Exists.intro _ (Exists.intro _ ⟨bW (cb rfl (bX (off := 0) (cs := [i64 x53.1, i64 x53.2.1, S x53.2.2.1, S x53.2.2.2.1, S x53.2.2.2.2.1, slE Enc.byte x53.2.2.2.2.2.1 none]) (n := 6) 0 aA rfl (by kernel_rfl) rfl rfl (aa rfl)) ((show PlaceV _ _ _ (.tmp _) _ from (.refl _)))), aL [] rfl, rfl, rfl⟩))
        ·replace H := ba c52 H;refine aJ <| ah <| ac ?_;show AR _ _ _ _ _ [0, 1] _;refine zS rfl (aj (n := 0) (by kernel_rfl) rfl) <| s0 rfl rfl (au (i := 1) (c := .v _) (by kernel_rfl) rfl rfl rfl rfl (aa rfl)) <| ai ?_;obtain ⟨g56, H⟩ := aY H;obtain ⟨x57, e58, H⟩ := bP H;obtain ⟨g59, H⟩ := aY H;obtain ⟨x60, e61, H⟩ := bP H;refine ac ?_;show AR _ _ _ _ _ [0, 1, 2, 3, 4] _;refine zS rfl (aj (n := 2) (by kernel_rfl) rfl) <| zR rfl (al (i := 1) ag rfl rfl rfl rfl) <| zS rfl (np rfl rfl g56 e58) <| zS rfl (np rfl rfl g59 e61) <| za rfl <| ai ?_;exact Exists.intro (x60, 2) ⟨H, aZ [0, 0] (.cons (.refl _) (.cons (.refl _) (.cons (.refl _) (.nil _)))) rfl⟩
       ·replace H := ba c48 H;refine ah <| ac ?_;show AR _ _ _ _ _ [0, 1] _;refine zS rfl (bt rfl rfl) <| za rfl <| ai <| aE rfl (fun c62 => ?_) (fun c62 => ?_)
        ·replace H := bg c62 H;refine ah <| ac ?_;show AR _ _ _ _ _ [0, 1] _;refine zS rfl (aj (n := 0) (by kernel_rfl) rfl) <| s0 rfl rfl (au (i := 1) (c := .v _) (by kernel_rfl) rfl rfl rfl rfl (aa rfl)) <| ai ?_;obtain ⟨g63, H⟩ := aY H;obtain ⟨x64, e65, H⟩ := bP H;obtain ⟨g66, H⟩ := aY H;obtain ⟨x67, e68, H⟩ := bP H;refine ac ?_;show AR _ _ _ _ _ [0, 1, 2, 3, 4] _;refine zS rfl (aj (n := 3) (by kernel_rfl) rfl) <| zR rfl (al (i := 1) ag rfl rfl rfl rfl) <| zS rfl (np rfl rfl g63 e65) <| zS rfl (np rfl rfl g66 e68) <| za rfl <| ai ?_;exact Exists.intro (x67, 3) ⟨H, aZ [0, 0] (.cons (.refl _) (.cons (.refl _) (.cons (.refl _) (.nil _)))) rfl⟩
        ·replace H := ba c62 H;refine ah <| ac ?_;show AR _ _ _ _ _ [0, 1] _;refine zS rfl (bt rfl rfl) <| za rfl <| ai <| aE rfl (fun c69 => ?_) (fun c69 => ?_)
         ·replace H := bg c69 H;refine ah <| ac ?_;show AR _ _ _ _ _ [0, 1] _;refine zS rfl (aj (n := 0) (by kernel_rfl) rfl) <| s0 rfl rfl (au (i := 1) (c := .v _) (by kernel_rfl) rfl rfl rfl rfl (aa rfl)) <| ai <| ac ?_;show AR _ _ _ _ _ [0] _;refine za rfl <| ai ?_;exact Exists.intro (([68, 65, 84, 65, 13, 10] : List UInt8), 4) ⟨H, aZ [0, 0] (.cons (.refl _) (.cons (.refl _) (.cons (.refl _) (.nil _)))) rfl⟩
         ·replace H := ba c69 H;refine ah <| ac ?_;show AR _ _ _ _ _ [0, 1] _;refine zS rfl (bt rfl rfl) <| za rfl <| ai <| aE rfl (fun c70 => ?_) (fun c70 => ?_)
          ·replace H := bg c70 H;refine ah <| ac ?_;show AR _ _ _ _ _ [0, 1] _;refine zS rfl (aj (n := 0) (by kernel_rfl) rfl) <| s0 rfl rfl (au (i := 1) (c := .v _) (by kernel_rfl) rfl rfl rfl rfl (aa rfl)) <| ai <| ah <| ac ?_;show AR _ _ _ _ _ [0, 1, 2, 3] _;refine zR rfl (bq (i := 1) (n := 6) aA rfl (by kernel_rfl) rfl rfl (aa rfl)) <| zS rfl (ak (av := slE _ _ _) rfl) <| s0 rfl rfl (aH (i := 0) (vs := [i64 5, i64 a2, S a3, S a4, S a5, slE Enc.byte a6 none]) (by kernel_rfl) rfl rfl (by simp [bk, slE]) rfl (aa rfl)) <| zS rfl (aB (av := slE _ _ _) rfl) <| ai <| aQ ?_;obtain ⟨rfl, rfl, rfl, rfl, rfl, rfl, rfl⟩ := lH H;exact And.intro rfl (Exists.intro _ (Exists.intro _ ⟨bW (cb rfl (bX (off := 0) (cs := [i64 5, i64 a2, S a3, S a4, S a5, slE Enc.byte a6 none]) (n := 6) 0 aA rfl (by kernel_rfl) rfl rfl (aa rfl)) ((show PlaceV _ _ _ (.tmp _) _ from (.refl _)))), aL [] rfl, rfl, rfl⟩))
          ·replace H := ba c70 H;refine ah ?_;obtain ⟨x71, e72, H⟩ := cu H;refine ac ?_;show AR _ _ _ _ _ [0, 1, 2, 3, 4, 5, 6, 7] _;refine zR rfl (bq (i := 1) (n := 6) aA rfl (by kernel_rfl) rfl rfl (aa rfl)) <| aq rfl rfl (aU rfl lv rfl (iY F a1 a2 a3 a4 a5 a6 1 x71.1 x71.2.1 x71.2.2.1 x71.2.2.2.1 x71.2.2.2.2.1 x71.2.2.2.2.2.1 x71.2.2.2.2.2.2 e72) ?_);refine zS rfl (ak (av := .tup _) rfl) <| zS rfl (aK (av := .agg _) rfl rfl) <| zS rfl (aK (av := slE _ _ _) rfl rfl) <| zX rfl (br (zs := [.int .i64 0, .int .i64 0, .string ⟨#[]⟩, .string ⟨#[]⟩, .string ⟨#[]⟩, .slice none 0 0]) (by kernel_rfl)) ?_;rintro _ _ ⟨o73, rfl, rfl⟩;refine s0 rfl rfl (aH (i := 0) (vs := [i64 x71.1, i64 x71.2.1, S x71.2.2.1, S x71.2.2.2.1, S x71.2.2.2.2.1, slE Enc.byte x71.2.2.2.2.2.1 none]) (by kernel_rfl) rfl rfl (by simp [bk, slE]) rfl (aa rfl)) <| dx 17 0 rfl rfl ?_;show AR _ _ _ _ _ _ ⟨_, _, [.obj o20 [i64 0, i64 0, S ([] : List UInt8), S ([] : List UInt8), S ([] : List UInt8), ec], .obj o19 [i64 a1, i64 a2, S a3, S a4, S a5, slE Enc.byte a6 none]]⟩;refine zS rfl (aB (av := slE _ _ _) rfl) <| ai <| ah <| ac ?_;show AR _ _ _ _ _ [0, 1, 2, 3] _
           refine zS rfl (bh aA rfl (n := 6) (by kernel_rfl) rfl (aa rfl)) <| zS rfl (ak (av := slE _ _ _) rfl) <| s0 rfl rfl (aH (i := 0) (vs := [i64 x71.1, i64 x71.2.1, S x71.2.2.1, S x71.2.2.2.1, S x71.2.2.2.2.1, slE Enc.byte x71.2.2.2.2.2.1 none]) (by kernel_rfl) rfl rfl (by simp [bk, slE]) rfl (aa rfl)) <| zS rfl (aB (av := slE _ _ _) rfl) <| ai <| aQ ?_;obtain ⟨rfl, rfl, rfl, rfl, rfl, rfl, rfl⟩ := lH H;exact And.intro rfl (Exists.intro _ (Exists.intro _ ⟨bW (cb rfl (bX (off := 0) (cs := [i64 x71.1, i64 x71.2.1, S x71.2.2.1, S x71.2.2.2.1, S x71.2.2.2.2.1, slE Enc.byte x71.2.2.2.2.2.1 none]) (n := 6) 0 aA rfl (by kernel_rfl) rfl rfl (aa rfl)) ((show PlaceV _ _ _ (.tmp _) _ from (.refl _)))), aL [] rfl, rfl, rfl⟩))
     rintro ⟨y74, y75⟩ H;replace H : dH a2 a3 a4 a5 a6 y74 y75 = some (r12, r13, r14, r15, r16, r17, r18) := H
     unfold dH at H
     refine ah ?_;obtain ⟨g77, H⟩ := aY H;refine ac ?_;show AR _ _ _ _ _ [0, 1, 2, 3, 4] _;refine zR rfl (bq (i := 1) (n := 6) aA rfl (by kernel_rfl) rfl rfl (aa rfl)) <| zm rfl <| zX rfl (ik (bytes := 1) ag ab aO rfl g77) ?_;rintro _ _ ⟨t78, rfl, rfl⟩;refine s0 rfl rfl (aH (i := 1) (vs := [i64 y75, i64 a2, S a3, S a4, S a5, slE Enc.byte a6 none]) (by kernel_rfl) rfl rfl (by simp [bk, slE]) rfl (aa rfl)) <| zS rfl (aB (av := slE _ _ _) rfl) <| ai <| aQ ?_;obtain ⟨rfl, rfl, rfl, rfl, rfl, rfl, rfl⟩ := lH H;exact And.intro rfl (Exists.intro _ (Exists.intro _ ⟨bW (cb rfl (bX (off := 0) (cs := [i64 y75, i64 a2, S a3, S a4, S a5, slE Enc.byte a6 none]) (n := 6) 1 aA rfl (by kernel_rfl) rfl rfl (aa rfl)) ((show PlaceV _ _ _ (.tmp _) _ from (.tok _ _ _)))), aL [] rfl, rfl, rfl⟩))
set_option maxRecDepth 100000 in
set_option maxHeartbeats 1000000 in
theorem rz (F : Nat) (a1 : Int) (a2 : Int) (a3 : List UInt8) (a4 : List UInt8) (a5 : List UInt8) (a6 : List UInt8) (a7 : List UInt8) (q8 : Option Nat) (r9 : Int) (r10 : Int) (r11 : List UInt8) (r12 : List UInt8) (r13 : List UInt8) (r14 : List UInt8) (r15 : List UInt8) (H : jW F a1 a2 a3 a4 a5 a6 a7 = some (r9, r10, r11, r12, r13, r14, r15)) : ACalls Tryz.prog 16 [.agg [i64 a1, i64 a2, S a3, S a4, S a5, slE Enc.byte a6 none], slE Enc.byte a7 q8] [] (Ret (.tup [.agg [i64 r9, i64 r10, S r11, S r12, S r13, slE Enc.byte r14 none], slE Enc.byte r15 none]) []) := by
 unfold jW at H
 refine az Tryz.func16 rfl rfl ?_;show AW _ _ 43 _ _ _;refine ah <| ac ?_;show AR _ _ _ _ _ [0, 1, 2] _;refine zX rfl (ie rfl (.inr ⟨_, rfl⟩)) ?_;rintro _ _ ⟨o16, rfl, rfl⟩;refine zX rfl (br (zs := [.int .i64 0, .int .i64 0, .string ⟨#[]⟩, .string ⟨#[]⟩, .string ⟨#[]⟩, .slice none 0 0]) (by kernel_rfl)) ?_;rintro _ _ ⟨o17, rfl, rfl⟩;refine za rfl <| ai <| ah <| ac ?_;show AR _ _ _ _ _ [0, 1, 2] _;refine zS rfl (iQ (zs := [.slice none 0 0, .bool false]) (ps := [(0, 1), (1, 1)]) (cs := [ec, B false]) (by kernel_rfl) rfl rfl) <| zX rfl (ie rfl (.inr ⟨_, rfl⟩)) ?_;rintro _ _ ⟨o18, rfl, rfl⟩;refine zS rfl (aB (av := .pt _ _) rfl) <| ai <| ah ?_;obtain ⟨x20, x21, x22, e23, H⟩ := gQ H;refine ac ?_;show AR _ _ _ _ _ [0, 1, 2, 3] _;refine zS rfl (ak (av := .pt _ _) rfl) <| zS rfl (ak (av := slE _ _ _) rfl) ?_
 refine AR.nil_objAt 0 0 1 5 rfl rfl fun t19 => ?_
 show AR _ _ _ _ _ _ ⟨_, _, [.tok t19 5, .obj o18 [slE Enc.byte [] (some t19), B false], .obj o17 [i64 0, i64 0, S ([] : List UInt8), S ([] : List UInt8), S ([] : List UInt8), ec], .obj o16 [i64 a1, i64 a2, S a3, S a4, S a5, slE Enc.byte a6 none]]⟩;refine aq rfl rfl (cI [1, 0] rfl uJ rfl (rB F o18 [] t19 false a7 q8 x20 x21 x22 e23) rfl (fun c A' h => by cases h.1) ?_)
 rintro av A' ⟨h, t24, rfl⟩; cases h
 refine zS rfl (aB (av := slE _ _ _) rfl) <| ai <| ah <| ac ?_;show AR _ _ _ _ _ [0] _;refine za rfl <| ai ?_
 refine iZ 8 1 5 rfl fun t25 => ?_
 show AW _ _ _ _ _ ⟨(8, slE Enc.byte [] (some t25)) :: _, _, _⟩;refine bK (X := (List UInt8) × Nat × Int × Int × (List UInt8) × (List UInt8) × (List UInt8) × (List UInt8)) (fun (y60, t61, y62, y63, y64, y65, y66, y67) => ⟨[(2, .pt o16 0), (4, .pt o17 0), (8, slE Enc.byte y60 (some t61))], [], [.obj o17 [i64 0, i64 0, S ([] : List UInt8), S ([] : List UInt8), S ([] : List UInt8), ec], .obj o16 [i64 y62, i64 y63, S y64, S y65, S y66, slE Enc.byte y67 none], .tok t61 5]⟩) (fun (y60, t61, y62, y63, y64, y65, y66, y67) => hC F y60 y62 y63 y64 y65 y66 y67 = some (r9, r10, r11, r12, r13, r14, r15)) ?_ ?_
 ·refine ah <| ac ?_;show AR _ _ _ _ _ [0] _;refine za rfl <| ai <| be <| cN (X := Nat × (List UInt8) × Nat × Int × Int × Int × (List UInt8) × (List UInt8) × (List UInt8) × (List UInt8)) (fun (n36, y26, t27, y28, y29, y30, y31, y32, y33, y34) => ⟨[(2, .pt o16 0), (4, .pt o17 0), (7, slE (aC Enc.int (aC (Enc.sl Enc.str) (aC Enc.int (aC Enc.int Enc.int)))) x20 none), (8, slE Enc.byte y26 (some t27)), (9, i64 y28)], [], [.obj o17 [i64 0, i64 0, S ([] : List UInt8), S ([] : List UInt8), S ([] : List UInt8), ec], .obj o16 [i64 y29, i64 y30, S y31, S y32, S y33, slE Enc.byte y34 none], .tok t27 5]⟩) (fun (n36, y26, t27, y28, y29, y30, y31, y32, y33, y34) => eS F x20 n36 (y26, y28, y29, y30, y31, y32, y33, y34) = some (r9, r10, r11, r12, r13, r14, r15)) (fun (n36, y26, t27, y28, y29, y30, y31, y32, y33, y34) => n36) (F, [], t25, 0, a1, a2, a3, a4, a5, a6) H (aZ [3, 3, 0] (.cons (.refl _) (.cons (.refl _) (.cons (.refl _) (.cons (.refl _) (.cons (.refl _) (.nil _)))))) rfl) ?_;rintro ⟨n36, y26, t27, y28, y29, y30, y31, y32, y33, y34⟩ H;obtain ⟨n36, rfl, H⟩ := dK H;replace H : hH F x20 (eS F x20 n36) y26 y28 y29 y30 y31 y32 y33 y34 = some (r9, r10, r11, r12, r13, r14, r15) := H
  unfold hH at H
  refine ah <| ah <| ac ?_;show AR _ _ _ _ _ [0, 1, 2, 3] _;refine zm rfl <| zS rfl (ak (av := slE _ _ _) rfl) <| zS rfl (bc bE rfl) <| zS rfl (bN rfl rfl) <| ai <| aE rfl (fun c37 => ?_) (fun c37 => ?_)
  ·replace H := bg c37 H;refine aJ <| ah <| be <| bK (X := Nat × (List UInt8) × Int × Int × (List UInt8) × (List UInt8) × (List UInt8) × (List UInt8)) (fun (o46, y47, y48, y49, y50, y51, y52, y53) => ⟨[(2, .pt o16 0), (4, .pt o17 0), (7, slE (aC Enc.int (aC (Enc.sl Enc.str) (aC Enc.int (aC Enc.int Enc.int)))) x20 none), (8, slE Enc.byte y26 (some t27)), (9, i64 y28), (10, .pt o46 0), (11, slE Enc.byte y47 none)], [], [.obj o46 [i64 y48, i64 y49, S y50, S y51, S y52, slE Enc.byte y53 none], .obj o17 [i64 0, i64 0, S ([] : List UInt8), S ([] : List UInt8), S ([] : List UInt8), ec], .obj o16 [i64 y29, i64 y30, S y31, S y32, S y33, slE Enc.byte y34 none], .tok t27 5]⟩) (fun (o46, y47, y48, y49, y50, y51, y52, y53) => gZ y26 y28 (eS F x20 n36) y47 y48 y49 y50 y51 y52 y53 = some (r9, r10, r11, r12, r13, r14, r15)) ?_ ?_
   ·obtain ⟨g38, H⟩ := aY H;obtain ⟨x39, e40, H⟩ := bP H;obtain ⟨x41, e42, H⟩ := cu H;refine bA (by kernel_rfl) ?_;show AI _ _ _ _ _ 12 (Array.replicate 12 false) _;refine zk 1 rfl (ak (av := slE _ _ _) rfl) ?_;show AI _ _ _ _ _ _ #[false, true, false, false, false, false, false, false, false, false, false, false] _;refine zk 2 rfl (mv rfl) ?_;show AI _ _ _ _ _ _ #[false, true, true, false, false, false, false, false, false, false, false, false] _;refine zk 3 rfl (bL (E := (aC Enc.int (aC (Enc.sl Enc.str) (aC Enc.int (aC Enc.int Enc.int))))) bE (by kernel_rfl) rfl rfl g38 e40) ?_;show AI _ _ _ _ _ _ #[false, true, true, true, false, false, false, false, false, false, false, false] _;refine zk 4 rfl (bh bm rfl (n := 5) (by kernel_rfl) rfl (aa rfl)) ?_;show AI _ _ _ _ _ _ #[false, true, true, true, true, false, false, false, false, false, false, false] _;refine cA (i := 0) (j := 9) (by kernel_rfl) rfl rfl rfl rfl ?_ ?_
    ·refine aW rfl (bq (i := 1) (n := 6) aA rfl (by kernel_rfl) rfl rfl (aa rfl)) ?_;show AI _ _ _ _ _ _ #[true, true, true, true, true, false, false, false, false, false, false, false] _;refine cA (i := 5) (j := 9) (by kernel_rfl) rfl rfl rfl rfl ?_ ?_
     ·refine bD rfl nx rfl (km F y29 y30 y31 y32 y33 y34 x39.1 x39.2.1 x39.2.2.1 x39.2.2.2.1 x39.2.2.2.2 x41.1 x41.2.1 x41.2.2.1 x41.2.2.2.1 x41.2.2.2.2.1 x41.2.2.2.2.2.1 x41.2.2.2.2.2.2 e42) ?_;show AI _ _ _ _ _ _ #[true, true, true, true, true, true, false, false, false, false, false, false] _;refine zk 6 rfl (ak (av := .tup _) rfl) ?_;show AI _ _ _ _ _ _ #[true, true, true, true, true, true, true, false, false, false, false, false] _;refine zk 7 rfl (aK (av := .agg _) rfl rfl) ?_;show AI _ _ _ _ _ _ #[true, true, true, true, true, true, true, true, false, false, false, false] _;refine zk 8 rfl (aK (av := slE _ _ _) rfl rfl) ?_;show AI _ _ _ _ _ _ #[true, true, true, true, true, true, true, true, true, false, false, false] _;refine aN (i := 9) (by kernel_rfl) rfl rfl <| dd rfl (br (zs := [.int .i64 0, .int .i64 0, .string ⟨#[]⟩, .string ⟨#[]⟩, .string ⟨#[]⟩, .slice none 0 0]) (by kernel_rfl)) ?_;rintro _ _ ⟨o43, rfl, rfl⟩;show AI _ _ _ _ _ _ #[true, true, true, true, true, true, true, true, true, true, false, false] _;refine aN (i := 10) (by kernel_rfl) rfl rfl <| cd (aH (i := 0) (vs := [i64 x41.1, i64 x41.2.1, S x41.2.2.1, S x41.2.2.2.1, S x41.2.2.2.2.1, slE Enc.byte x41.2.2.2.2.2.1 none]) (by kernel_rfl) rfl rfl (by simp [bk, slE]) rfl (aa rfl)) ?_;show AI _ _ _ _ _ _ #[true, true, true, true, true, true, true, true, true, true, true, false] _;refine zk 11 rfl (aB (av := slE _ _ _) rfl) ?_
      show AI _ _ _ _ _ _ #[true, true, true, true, true, true, true, true, true, true, true, true] _;refine bo rfl ?_;exact Exists.intro (o43, x41.2.2.2.2.2.2, x41.1, x41.2.1, x41.2.2.1, x41.2.2.2.1, x41.2.2.2.2.1, x41.2.2.2.2.2.1) ⟨H, aZ [0, 0, 0, 0] (.cons (.refl _) (.cons (.refl _) (.cons (.refl _) (.cons (.refl _) (.cons (.refl _) (.cons (.refl _) (.cons (.refl _) (.nil _)))))))) rfl⟩
     ·refine dd rfl (br (zs := [.int .i64 0, .int .i64 0, .string ⟨#[]⟩, .string ⟨#[]⟩, .string ⟨#[]⟩, .slice none 0 0]) (by kernel_rfl)) ?_;rintro _ _ ⟨o44, rfl, rfl⟩;show AI _ _ _ _ _ _ #[true, true, true, true, true, false, false, false, false, true, false, false] _;refine aN (i := 5) (by kernel_rfl) rfl rfl <| bD rfl nx rfl (km F y29 y30 y31 y32 y33 y34 x39.1 x39.2.1 x39.2.2.1 x39.2.2.2.1 x39.2.2.2.2 x41.1 x41.2.1 x41.2.2.1 x41.2.2.2.1 x41.2.2.2.2.1 x41.2.2.2.2.2.1 x41.2.2.2.2.2.2 e42) ?_;show AI _ _ _ _ _ _ #[true, true, true, true, true, true, false, false, false, true, false, false] _;refine zk 6 rfl (ak (av := .tup _) rfl) ?_;show AI _ _ _ _ _ _ #[true, true, true, true, true, true, true, false, false, true, false, false] _;refine zk 7 rfl (aK (av := .agg _) rfl rfl) ?_;show AI _ _ _ _ _ _ #[true, true, true, true, true, true, true, true, false, true, false, false] _;refine zk 8 rfl (aK (av := slE _ _ _) rfl rfl) ?_;show AI _ _ _ _ _ _ #[true, true, true, true, true, true, true, true, true, true, false, false] _;refine aN (i := 10) (by kernel_rfl) rfl rfl <| cd (aH (i := 0) (vs := [i64 x41.1, i64 x41.2.1, S x41.2.2.1, S x41.2.2.2.1, S x41.2.2.2.2.1, slE Enc.byte x41.2.2.2.2.2.1 none]) (by kernel_rfl) rfl rfl (by simp [bk, slE]) rfl (aa rfl)) ?_;show AI _ _ _ _ _ _ #[true, true, true, true, true, true, true, true, true, true, true, false] _;refine zk 11 rfl (aB (av := slE _ _ _) rfl) ?_
      show AI _ _ _ _ _ _ #[true, true, true, true, true, true, true, true, true, true, true, true] _;refine bo rfl ?_;exact Exists.intro (o44, x41.2.2.2.2.2.2, x41.1, x41.2.1, x41.2.2.1, x41.2.2.2.1, x41.2.2.2.2.1, x41.2.2.2.2.2.1) ⟨H, aZ [0, 0, 0, 0] (.cons (.refl _) (.cons (.refl _) (.cons (.refl _) (.cons (.refl _) (.cons (.refl _) (.cons (.refl _) (.cons (.refl _) (.nil _)))))))) rfl⟩
    ·refine dd rfl (br (zs := [.int .i64 0, .int .i64 0, .string ⟨#[]⟩, .string ⟨#[]⟩, .string ⟨#[]⟩, .slice none 0 0]) (by kernel_rfl)) ?_;rintro _ _ ⟨o45, rfl, rfl⟩;show AI _ _ _ _ _ _ #[false, true, true, true, true, false, false, false, false, true, false, false] _;refine aN (i := 0) (by kernel_rfl) rfl rfl <| aW rfl (bq (i := 2) (n := 6) aA rfl (by kernel_rfl) rfl rfl (aa rfl)) ?_;show AI _ _ _ _ _ _ #[true, true, true, true, true, false, false, false, false, true, false, false] _;refine aN (i := 5) (by kernel_rfl) rfl rfl <| bD rfl nx rfl (km F y29 y30 y31 y32 y33 y34 x39.1 x39.2.1 x39.2.2.1 x39.2.2.2.1 x39.2.2.2.2 x41.1 x41.2.1 x41.2.2.1 x41.2.2.2.1 x41.2.2.2.2.1 x41.2.2.2.2.2.1 x41.2.2.2.2.2.2 e42) ?_;show AI _ _ _ _ _ _ #[true, true, true, true, true, true, false, false, false, true, false, false] _;refine zk 6 rfl (ak (av := .tup _) rfl) ?_;show AI _ _ _ _ _ _ #[true, true, true, true, true, true, true, false, false, true, false, false] _;refine zk 7 rfl (aK (av := .agg _) rfl rfl) ?_;show AI _ _ _ _ _ _ #[true, true, true, true, true, true, true, true, false, true, false, false] _;refine zk 8 rfl (aK (av := slE _ _ _) rfl rfl) ?_;show AI _ _ _ _ _ _ #[true, true, true, true, true, true, true, true, true, true, false, false] _
     refine aN (i := 10) (by kernel_rfl) rfl rfl <| cd (aH (i := 0) (vs := [i64 x41.1, i64 x41.2.1, S x41.2.2.1, S x41.2.2.2.1, S x41.2.2.2.2.1, slE Enc.byte x41.2.2.2.2.2.1 none]) (by kernel_rfl) rfl rfl (by simp [bk, slE]) rfl (aa rfl)) ?_;show AI _ _ _ _ _ _ #[true, true, true, true, true, true, true, true, true, true, true, false] _;refine zk 11 rfl (aB (av := slE _ _ _) rfl) ?_;show AI _ _ _ _ _ _ #[true, true, true, true, true, true, true, true, true, true, true, true] _;refine bo rfl ?_;exact Exists.intro (o45, x41.2.2.2.2.2.2, x41.1, x41.2.1, x41.2.2.1, x41.2.2.2.1, x41.2.2.2.2.1, x41.2.2.2.2.2.1) ⟨H, aZ [0, 0, 0, 0] (.cons (.refl _) (.cons (.refl _) (.cons (.refl _) (.cons (.refl _) (.cons (.refl _) (.cons (.refl _) (.cons (.refl _) (.nil _)))))))) rfl⟩
   rintro ⟨o46, y47, y48, y49, y50, y51, y52, y53⟩ H;replace H : gZ y26 y28 (eS F x20 n36) y47 y48 y49 y50 y51 y52 y53 = some (r9, r10, r11, r12, r13, r14, r15) := H
   unfold gZ at H
   refine ah <| ac ?_;show AR _ _ _ _ _ [0, 1] _;refine zR rfl (bq (i := 0) (n := 6) aA rfl (by kernel_rfl) rfl rfl (aa rfl)) <| s0 rfl rfl (aH (i := 2) (vs := [i64 y48, i64 y49, S y50, S y51, S y52, slE Enc.byte y53 none]) (by kernel_rfl) rfl rfl (by simp [bk, slE]) rfl (aa rfl)) <| ai ?_;obtain ⟨g56, H⟩ := aY H;obtain ⟨x57, e58, H⟩ := bP H;refine ac ?_;show AR _ _ _ _ _ [0, 1, 2, 3] _;refine zS rfl (ak (av := slE _ _ _) rfl) <| zS rfl (ak (av := slE _ _ _) rfl) <| zX rfl (df (E := Enc.byte) (bytes := 1) 3 ab ab rfl (by kernel_rfl) rfl rfl rfl rfl g56 e58) ?_;rintro _ _ ⟨t55, rfl, rfl⟩;refine zS rfl (aB (av := slE _ _ _) rfl) <| ai ?_;obtain ⟨g59, H⟩ := aY H;refine ac ?_;show AR _ _ _ _ _ [0, 1, 2] _;refine zm rfl <| zS rfl (dE rfl rfl g59) <| za rfl <| ai ?_;exact Exists.intro (n36, x57, t55, y28 + 1, y48, y49, y50, y51, y52, y53) ⟨H, Nat.lt_succ_self _, aZ [1, 1, 1] (.cons (.refl _) (.cons (.refl _) (.cons (.refl _) (.cons (.refl _) (.cons (.refl _) (.nil _)))))) rfl⟩
  ·replace H := ba c37 H;refine cH ?_;exact Exists.intro (y26, t27, y29, y30, y31, y32, y33, y34) ⟨H, aZ [0, 0, 0] (.cons (.refl _) (.cons (.refl _) (.cons (.refl _) (.nil _)))) rfl⟩
 rintro ⟨y60, t61, y62, y63, y64, y65, y66, y67⟩ H;replace H : hC F y60 y62 y63 y64 y65 y66 y67 = some (r9, r10, r11, r12, r13, r14, r15) := H
 unfold hC at H
 refine bK (X := Int × Int × (List UInt8) × (List UInt8) × (List UInt8) × (List UInt8)) (fun (y72, y73, y74, y75, y76, y77) => ⟨[(2, .pt o16 0), (4, .pt o17 0), (8, slE Enc.byte y60 (some t61))], [], [.obj o17 [i64 0, i64 0, S ([] : List UInt8), S ([] : List UInt8), S ([] : List UInt8), ec], .obj o16 [i64 y72, i64 y73, S y74, S y75, S y76, slE Enc.byte y77 none], .tok t61 5]⟩) (fun (y72, y73, y74, y75, y76, y77) => fV y60 y72 y73 y74 y75 y76 y77 = some (r9, r10, r11, r12, r13, r14, r15)) ?_ ?_
 ·refine ah <| ac ?_;show AR _ _ _ _ _ [0, 1, 2] _;refine zS rfl (aj (n := 0) (by kernel_rfl) rfl) <| zR rfl (al (i := 1) aw rfl rfl rfl rfl) <| zS rfl (fm rfl rfl) <| ai <| aE rfl (fun c69 => ?_) (fun c69 => ?_)
  ·replace H := bg c69 H;obtain ⟨x70, e71, H⟩ := cu H;refine ac ?_;show AR _ _ _ _ _ [0, 1, 2] _;refine zR rfl (bq (i := 1) (n := 6) aA rfl (by kernel_rfl) rfl rfl (aa rfl)) <| aq rfl rfl (aU rfl qx rfl (mt F y62 y63 y64 y65 y66 y67 x70.1 x70.2.1 x70.2.2.1 x70.2.2.2.1 x70.2.2.2.2.1 x70.2.2.2.2.2 e71) ?_);refine s0 rfl rfl (aH (i := 1) (vs := [i64 x70.1, i64 x70.2.1, S x70.2.2.1, S x70.2.2.2.1, S x70.2.2.2.2.1, slE Enc.byte x70.2.2.2.2.2 none]) (by kernel_rfl) rfl rfl (by simp [bk, slE]) rfl (aa rfl)) <| ai ?_;exact Exists.intro (x70.1, x70.2.1, x70.2.2.1, x70.2.2.2.1, x70.2.2.2.2.1, x70.2.2.2.2.2) ⟨H, aZ [0, 0, 0] (.cons (.refl _) (.cons (.refl _) (.cons (.refl _) (.nil _)))) rfl⟩
  ·replace H := ba c69 H;refine aJ ?_;exact Exists.intro (y62, y63, y64, y65, y66, y67) ⟨H, aZ [0, 0, 0] (.cons (.refl _) (.cons (.refl _) (.cons (.refl _) (.nil _)))) rfl⟩
 rintro ⟨y72, y73, y74, y75, y76, y77⟩ H;replace H : fV y60 y72 y73 y74 y75 y76 y77 = some (r9, r10, r11, r12, r13, r14, r15) := H
 unfold fV at H
 refine ah <| ac ?_;show AR _ _ _ _ _ [0, 1, 2, 3] _;refine zR rfl (bq (i := 1) (n := 6) aA rfl (by kernel_rfl) rfl rfl (aa rfl)) <| zS rfl (ak (av := slE _ _ _) rfl) <| s0 rfl rfl (aH (i := 0) (vs := [i64 y72, i64 y73, S y74, S y75, S y76, slE Enc.byte y77 none]) (by kernel_rfl) rfl rfl (by simp [bk, slE]) rfl (aa rfl)) <| zS rfl (aB (av := slE _ _ _) rfl) <| ai <| aQ ?_;obtain ⟨rfl, rfl, rfl, rfl, rfl, rfl, rfl⟩ := lH H;exact And.intro rfl (Exists.intro _ (Exists.intro _ ⟨bW (cb rfl (bX (off := 0) (cs := [i64 y72, i64 y73, S y74, S y75, S y76, slE Enc.byte y77 none]) (n := 6) 0 aA rfl (by kernel_rfl) rfl rfl (aa rfl)) ((show PlaceV _ _ _ (.tmp _) _ from (.tok _ _ _)))), aL [] rfl, rfl, rfl⟩))
end Go.Proofs.YtgjkjkmmgdbcoaaGreatDoor
namespace Go.Pv
def eD (F : Nat) (a1 : Int) (a2 : Int) (a3 : List UInt8) (a4 : List UInt8) (a5 : List UInt8) (a6 : List UInt8) (a7 : List UInt8) : Option Bool :=
bnd (iK F) fun x10 =>
bnd (jZ F a1 a2 a3 a4 a5 a6) fun x12 =>
bif ((!x10) || (!x12)) || (decide (2000 < (a7.length : Int))) then
  some x10
else
  bnd (ki F a3 a4 a5 a6) fun x17 =>
  bnd (iG F a3 a4 a5 a6) fun x20 =>
  bnd (ip F x17.1 x17.2.1 x17.2.2.1 x17.2.2.2.1 x17.2.2.2.2.1 x17.2.2.2.2.2.1 x20.1 x20.2.1 x20.2.2.1 x20.2.2.2.1 x20.2.2.2.2.1 x20.2.2.2.2.2.1) fun x23 =>
  bnd (nQ F a1 a2 a3 a4 a5 a6 a7) fun x25 =>
  bnd (jW F a1 a2 a3 a4 a5 a6 a7) fun x28 =>
  bnd (ip F x25.1 x25.2.1 x25.2.2.1 x25.2.2.2.1 x25.2.2.2.2.1 x25.2.2.2.2.2.1 x28.1 x28.2.1 x28.2.2.1 x28.2.2.2.1 x28.2.2.2.2.1 x28.2.2.2.2.2.1) fun x31 =>
  some (((x23 && (decide (x17.2.2.2.2.2.2 = x20.2.2.2.2.2.2))) && x31) && (decide (x25.2.2.2.2.2.2 = x28.2.2.2.2.2.2)))
end Go.Pv
namespace Go.Proofs.YtgjkjkmmgdbcoaaGreatDoor
open Go.RowKit Go.Av Go.Pv
theorem nj : ∀ (args : Array Value) (w : World), (callFunc 10 args).run Tryz.prog w = .ok (.enter 10 args) w := fun _ _ => by kernel_rfl
theorem ni : ∀ (args : Array Value) (w : World), (callFunc 11 args).run Tryz.prog w = .ok (.enter 11 args) w := fun _ _ => by kernel_rfl
theorem nh : ∀ (args : Array Value) (w : World), (callFunc 12 args).run Tryz.prog w = .ok (.enter 12 args) w := fun _ _ => by kernel_rfl
theorem ng : ∀ (args : Array Value) (w : World), (callFunc 13 args).run Tryz.prog w = .ok (.enter 13 args) w := fun _ _ => by kernel_rfl
theorem jQ : ∀ (args : Array Value) (w : World), (callFunc 14 args).run Tryz.prog w = .ok (.enter 14 args) w := fun _ _ => by kernel_rfl
theorem ne : ∀ (args : Array Value) (w : World), (callFunc 15 args).run Tryz.prog w = .ok (.enter 15 args) w := fun _ _ => by kernel_rfl
theorem nd : ∀ (args : Array Value) (w : World), (callFunc 16 args).run Tryz.prog w = .ok (.enter 16 args) w := fun _ _ => by kernel_rfl
set_option maxRecDepth 100000 in
set_option maxHeartbeats 1000000 in
theorem lS (F : Nat) (a1 : Int) (a2 : Int) (a3 : List UInt8) (a4 : List UInt8) (a5 : List UInt8) (a6 : List UInt8) (a7 : List UInt8) (q8 : Option Nat) (r9 : Bool) (H : eD F a1 a2 a3 a4 a5 a6 a7 = some r9) : ACalls Tryz.prog 3 [.agg [i64 a1, i64 a2, S a3, S a4, S a5, slE Enc.byte a6 none], slE Enc.byte a7 q8] [] (Ret (B r9) []) := by
 unfold eD at H
 refine az Tryz.func3 rfl rfl ?_;show AW _ _ 90 _ _ _;refine ah <| ac ?_;show AR _ _ _ _ _ [0, 1] _;refine zR rfl (cP rfl (.inr ⟨_, rfl⟩)) <| za rfl <| ai <| ah ?_;obtain ⟨x10, e11, H⟩ := cu H;refine ac ?_;show AR _ _ _ _ _ [0, 1] _;refine aq rfl rfl (aU rfl nj rfl (px F x10 e11) ?_);refine za rfl <| ai <| ah ?_;obtain ⟨x12, e13, H⟩ := cu H;refine ac ?_;show AR _ _ _ _ _ [0, 1, 2] _;refine zS rfl (bh aA rfl (n := 6) (by kernel_rfl) rfl (aa rfl)) <| aq rfl rfl (aU rfl ni rfl (rC F a1 a2 a3 a4 a5 a6 x12 e13) ?_);refine za rfl <| ai <| ah <| ah <| ac ?_;show AR _ _ _ _ _ [0, 1, 2, 3, 4, 5, 6, 7, 8, 9, 10] _;refine zm rfl <| zS rfl (cW rfl) <| zm rfl <| aG (l := [6, 7, 8, 9, 10]) 25 (B ((!x10) || (!x12))) (fun K => ?_) ?_
 ·rcases af (!x10) with h14 | h14
  ·refine zF h14 rfl <| zF h14 rfl <| zS rfl (ap (av := .v _) rfl h14 rfl) ?_;exact K _ 2 _ (am (dz h14)) rfl rfl
  ·refine zM h14 rfl <| zU h14 rfl (cW rfl) <| zS rfl (ao (av := .v _) rfl h14 rfl) ?_;exact K _ 2 _ (am (dA h14)) rfl rfl
 refine zm rfl <| aG (l := []) 30 (B (((!x10) || (!x12)) || (decide (2000 < (a7.length : Int))))) (fun K => ?_) ?_
 ·rcases af ((!x10) || (!x12)) with h15 | h15
  ·refine zF h15 rfl <| zF h15 rfl <| zF h15 rfl <| zS rfl (ap (av := .v _) rfl h15 rfl) ?_;exact K _ 3 _ (am (dz h15)) rfl rfl
  ·refine zU h15 rfl (ak (av := slE _ _ _) rfl) <| zU h15 rfl (bc ab rfl) <| zU h15 rfl (fH rfl rfl) <| zS rfl (ao (av := .v _) rfl h15 rfl) ?_;exact K _ 3 _ (am (dA h15)) rfl rfl
 refine ai <| aE rfl (fun c16 => ?_) (fun c16 => ?_)
 ·replace H := bg c16 H;refine ah <| ac ?_;show AR _ _ _ _ _ [0, 1] _;refine zm rfl <| za rfl <| ai <| aQ ?_;obtain rfl := ay H;exact And.intro rfl (Exists.intro _ (Exists.intro _ ⟨aV rfl (.refl _), aL [] rfl, rfl, rfl⟩))
 ·replace H := ba c16 H;refine aJ <| ah ?_;obtain ⟨x17, e18, H⟩ := cu H;refine ac ?_;show AR _ _ _ _ _ [0, 1, 2, 3, 4, 5, 6, 7, 8, 9, 10, 11, 12, 13, 14] _;refine zS rfl (aM (n := 2) (by kernel_rfl) rfl (aa rfl)) <| zS rfl (aF ag rfl rfl) <| zS rfl (aM (n := 3) (by kernel_rfl) rfl (aa rfl)) <| zS rfl (aF ag rfl rfl) <| zS rfl (aM (n := 4) (by kernel_rfl) rfl (aa rfl)) <| zS rfl (aF ag rfl rfl) <| zS rfl (aM (n := 5) (by kernel_rfl) rfl (aa rfl)) <| zS rfl (aF ab rfl rfl) <| aq rfl rfl (aU rfl nh rfl (oJ F a3 a4 a5 a6 none x17.1 x17.2.1 x17.2.2.1 x17.2.2.2.1 x17.2.2.2.2.1 x17.2.2.2.2.2.1 x17.2.2.2.2.2.2 e18) ?_);refine zS rfl (ak (av := .tup _) rfl) <| zS rfl (aK (av := .agg _) rfl rfl) <| zS rfl (aK (av := .v _) rfl rfl) <| zX rfl (br (zs := [.int .i64 0, .int .i64 0, .string ⟨#[]⟩, .string ⟨#[]⟩, .string ⟨#[]⟩, .slice none 0 0]) (by kernel_rfl)) ?_;rintro _ _ ⟨o19, rfl, rfl⟩;refine s0 rfl rfl (aH (i := 0) (vs := [i64 x17.1, i64 x17.2.1, S x17.2.2.1, S x17.2.2.2.1, S x17.2.2.2.2.1, slE Enc.byte x17.2.2.2.2.2.1 none]) (by kernel_rfl) rfl rfl (by simp [bk, slE]) rfl (aa rfl)) <| dx 7 0 rfl rfl ?_;show AR _ _ _ _ _ _ ⟨_, _, []⟩;refine za rfl <| ai <| ah ?_;obtain ⟨x20, e21, H⟩ := cu H;refine ac ?_
  show AR _ _ _ _ _ [0, 1, 2, 3, 4, 5, 6, 7, 8, 9, 10, 11, 12, 13, 14] _;refine zS rfl (aM (n := 2) (by kernel_rfl) rfl (aa rfl)) <| zS rfl (aF ag rfl rfl) <| zS rfl (aM (n := 3) (by kernel_rfl) rfl (aa rfl)) <| zS rfl (aF ag rfl rfl) <| zS rfl (aM (n := 4) (by kernel_rfl) rfl (aa rfl)) <| zS rfl (aF ag rfl rfl) <| zS rfl (aM (n := 5) (by kernel_rfl) rfl (aa rfl)) <| zS rfl (aF ab rfl rfl) <| aq rfl rfl (aU rfl ng rfl (pu F a3 a4 a5 a6 none x20.1 x20.2.1 x20.2.2.1 x20.2.2.2.1 x20.2.2.2.2.1 x20.2.2.2.2.2.1 x20.2.2.2.2.2.2 e21) ?_);refine zS rfl (ak (av := .tup _) rfl) <| zS rfl (aK (av := .agg _) rfl rfl) <| zS rfl (aK (av := .v _) rfl rfl) <| zX rfl (br (zs := [.int .i64 0, .int .i64 0, .string ⟨#[]⟩, .string ⟨#[]⟩, .string ⟨#[]⟩, .slice none 0 0]) (by kernel_rfl)) ?_;rintro _ _ ⟨o22, rfl, rfl⟩;refine s0 rfl rfl (aH (i := 0) (vs := [i64 x20.1, i64 x20.2.1, S x20.2.2.1, S x20.2.2.2.1, S x20.2.2.2.2.1, slE Enc.byte x20.2.2.2.2.2.1 none]) (by kernel_rfl) rfl rfl (by simp [bk, slE]) rfl (aa rfl)) <| dx 9 0 rfl rfl ?_;show AR _ _ _ _ _ _ ⟨_, _, []⟩;refine za rfl <| ai <| ah ?_;obtain ⟨x23, e24, H⟩ := cu H;refine ac ?_;show AR _ _ _ _ _ [0, 1, 2, 3] _
  refine zS rfl (bh aA rfl (n := 6) (by kernel_rfl) rfl (aa rfl)) <| zS rfl (bh aA rfl (n := 6) (by kernel_rfl) rfl (aa rfl)) <| aq rfl rfl (aU rfl jQ rfl (mr F x17.1 x17.2.1 x17.2.2.1 x17.2.2.2.1 x17.2.2.2.2.1 x17.2.2.2.2.2.1 x20.1 x20.2.1 x20.2.2.1 x20.2.2.2.1 x20.2.2.2.2.1 x20.2.2.2.2.2.1 x23 e24) ?_);refine za rfl <| ai <| ah ?_;obtain ⟨x25, e26, H⟩ := cu H;refine ac ?_;show AR _ _ _ _ _ [0, 1, 2, 3, 4, 5, 6, 7, 8] _;refine zS rfl (bh aA rfl (n := 6) (by kernel_rfl) rfl (aa rfl)) <| zS rfl (ak (av := slE _ _ _) rfl) <| aq rfl rfl (aU rfl ne rfl (mD F a1 a2 a3 a4 a5 a6 a7 q8 x25.1 x25.2.1 x25.2.2.1 x25.2.2.2.1 x25.2.2.2.2.1 x25.2.2.2.2.2.1 x25.2.2.2.2.2.2 e26) ?_);refine zS rfl (ak (av := .tup _) rfl) <| zS rfl (aK (av := .agg _) rfl rfl) <| zS rfl (aK (av := slE _ _ _) rfl rfl) <| zX rfl (br (zs := [.int .i64 0, .int .i64 0, .string ⟨#[]⟩, .string ⟨#[]⟩, .string ⟨#[]⟩, .slice none 0 0]) (by kernel_rfl)) ?_;rintro _ _ ⟨o27, rfl, rfl⟩;refine s0 rfl rfl (aH (i := 0) (vs := [i64 x25.1, i64 x25.2.1, S x25.2.2.1, S x25.2.2.2.1, S x25.2.2.2.2.1, slE Enc.byte x25.2.2.2.2.2.1 none]) (by kernel_rfl) rfl rfl (by simp [bk, slE]) rfl (aa rfl)) <| dx 12 0 rfl rfl ?_;show AR _ _ _ _ _ _ ⟨_, _, []⟩;refine zS rfl (aB (av := slE _ _ _) rfl) <| ai <| ah ?_
  obtain ⟨x28, e29, H⟩ := cu H;refine ac ?_;show AR _ _ _ _ _ [0, 1, 2, 3, 4, 5, 6, 7, 8] _;refine zS rfl (bh aA rfl (n := 6) (by kernel_rfl) rfl (aa rfl)) <| zS rfl (ak (av := slE _ _ _) rfl) <| aq rfl rfl (aU rfl nd rfl (rz F a1 a2 a3 a4 a5 a6 a7 q8 x28.1 x28.2.1 x28.2.2.1 x28.2.2.2.1 x28.2.2.2.2.1 x28.2.2.2.2.2.1 x28.2.2.2.2.2.2 e29) ?_);refine zS rfl (ak (av := .tup _) rfl) <| zS rfl (aK (av := .agg _) rfl rfl) <| zS rfl (aK (av := slE _ _ _) rfl rfl) <| zX rfl (br (zs := [.int .i64 0, .int .i64 0, .string ⟨#[]⟩, .string ⟨#[]⟩, .string ⟨#[]⟩, .slice none 0 0]) (by kernel_rfl)) ?_;rintro _ _ ⟨o30, rfl, rfl⟩;refine s0 rfl rfl (aH (i := 0) (vs := [i64 x28.1, i64 x28.2.1, S x28.2.2.1, S x28.2.2.2.1, S x28.2.2.2.2.1, slE Enc.byte x28.2.2.2.2.2.1 none]) (by kernel_rfl) rfl rfl (by simp [bk, slE]) rfl (aa rfl)) <| dx 14 0 rfl rfl ?_;show AR _ _ _ _ _ _ ⟨_, _, []⟩;refine zS rfl (aB (av := slE _ _ _) rfl) <| ai <| ah ?_;obtain ⟨x31, e32, H⟩ := cu H;refine ac ?_;show AR _ _ _ _ _ [0, 1, 2, 3] _
  refine zS rfl (bh aA rfl (n := 6) (by kernel_rfl) rfl (aa rfl)) <| zS rfl (bh aA rfl (n := 6) (by kernel_rfl) rfl (aa rfl)) <| aq rfl rfl (aU rfl jQ rfl (mr F x25.1 x25.2.1 x25.2.2.1 x25.2.2.2.1 x25.2.2.2.2.1 x25.2.2.2.2.2.1 x28.1 x28.2.1 x28.2.2.1 x28.2.2.2.1 x28.2.2.2.2.1 x28.2.2.2.2.2.1 x31 e32) ?_);refine za rfl <| ai <| ah <| ac ?_;show AR _ _ _ _ _ [0, 1, 2, 3, 4, 5, 6, 7, 8, 9, 10, 11, 12, 13, 14, 15, 16] _;refine zm rfl <| zm rfl <| aG (l := [6, 7, 8, 9, 10, 11, 12, 13, 14, 15, 16]) 79 (B (x23 && (decide (x17.2.2.2.2.2.2 = x20.2.2.2.2.2.2)))) (fun K => ?_) ?_
  ·rcases af x23 with h33 | h33
   ·refine zM h33 rfl <| zM h33 rfl <| zU h33 rfl (bt rfl rfl) <| zS rfl (ap (av := .v _) rfl h33 rfl) ?_;exact K _ 3 _ (am (bI h33)) rfl rfl
   ·refine zF h33 rfl <| zF h33 rfl <| zF h33 rfl <| zS rfl (ao (av := .v _) rfl h33 rfl) ?_;exact K _ 3 _ (am (bJ h33)) rfl rfl
  refine zm rfl <| aG (l := [9, 10, 11, 12, 13, 14, 15, 16]) 82 (B ((x23 && (decide (x17.2.2.2.2.2.2 = x20.2.2.2.2.2.2))) && x31)) (fun K => ?_) ?_
  ·rcases af (x23 && (decide (x17.2.2.2.2.2.2 = x20.2.2.2.2.2.2))) with h34 | h34
   ·refine zM h34 rfl <| zS rfl (ap (av := .v _) rfl h34 rfl) ?_;exact K _ 1 _ (am (bI h34)) rfl rfl
   ·refine zF h34 rfl <| zS rfl (ao (av := .v _) rfl h34 rfl) ?_;exact K _ 1 _ (am (bJ h34)) rfl rfl
  refine zm rfl <| aG (l := [16]) 89 (B (((x23 && (decide (x17.2.2.2.2.2.2 = x20.2.2.2.2.2.2))) && x31) && (decide (x25.2.2.2.2.2.2 = x28.2.2.2.2.2.2)))) (fun K => ?_) ?_
  ·rcases af ((x23 && (decide (x17.2.2.2.2.2.2 = x20.2.2.2.2.2.2))) && x31) with h35 | h35
   ·refine zU h35 rfl (ak (av := slE _ _ _) rfl) <| zU h35 rfl (cr ab aO ag rfl) <| zU h35 rfl (ak (av := slE _ _ _) rfl) <| zU h35 rfl (cr ab aO ag rfl) <| zU h35 rfl (ig rfl rfl) <| zS rfl (ap (av := .v _) rfl h35 rfl) ?_;exact K _ 5 _ (am (bI h35)) rfl rfl
   ·refine zF h35 rfl <| zF h35 rfl <| zF h35 rfl <| zF h35 rfl <| zF h35 rfl <| zS rfl (ao (av := .v _) rfl h35 rfl) ?_;exact K _ 5 _ (am (bJ h35)) rfl rfl
  refine za rfl <| ai <| aQ ?_;obtain rfl := ay H;exact And.intro rfl (Exists.intro _ (Exists.intro _ ⟨aV rfl (.refl _), aL [] rfl, rfl, rfl⟩))
end Go.Proofs.YtgjkjkmmgdbcoaaGreatDoor
namespace Go.Cl
open Go.Pv Go.Av
abbrev Bs := List UInt8
def NoCr (l : Bs) : Prop := ∀ c ∈ l, c ≠ 13 ∧ c ≠ 10
def lnD (l : Bs) : Bs := l ++ [13, 10]
def flD (ls : List Bs) : Bs := (ls.map lnD).flatten
def okD : Bool → Bs → Bool
  | p, [] => !p
  | p, c :: r => if c = 13 then !p && okD true r else if c = 10 then p && okD false r else !p && okD false r
def endD (b : Bs) : Bool := decide (b = []) || decide (b.getLast? = some 10)
def lI (b : Bs) : Bool := okD false b && endD b
theorem pj (p : Bool) (r : Bs) : okD p (13 :: r) = (!p && okD true r) := rfl
theorem rl (p : Bool) (r : Bs) : okD p (10 :: r) = (p && okD false r) := rfl
theorem sB (p : Bool) {c : UInt8} (r : Bs) (h : c ≠ 13) (g : c ≠ 10) : okD p (c :: r) = (!p && okD false r) := by
  show (if c = 13 then !p && okD true r else if c = 10 then p && okD false r else !p && okD false r) = _
  rw [if_neg h, if_neg g]
def pr : Bool → Bs → Nat
  | p, [] => 0
  | p, c :: r => (if p = true ∧ c = 10 then 1 else 0) + pr (decide (c = 13)) r
theorem pr_le : ∀ (b : Bs) (p : Bool), pr p b ≤ b.count 10 ∧ pr p b ≤ b.count 13 + (if p = true then 1 else 0)
  | [], p => by simp [pr]
  | c :: r, p => by
    obtain ⟨h1, h2⟩ := pr_le r (decide (c = 13))
    unfold pr
    rw [List.count_cons, List.count_cons]
    by_cases a : c = 13
    · subst a
      simp at h1 h2 ⊢
      omega
    · by_cases g : c = 10
      · subst g
        simp at h1 h2 ⊢
        cases p <;> simp <;> omega
      · have e1 : (c == 13) = false := by simpa using a
        have e2 : (c == 10) = false := by simpa using g
        rw [decide_eq_false a] at h1 h2 ⊢
        rw [e1, e2]
        simp [g] at h1 h2 ⊢
        omega
theorem pr_ok : ∀ (b : Bs) (p : Bool), (pr p b = b.count 10 ∧ pr p b = b.count 13 + (if p = true then 1 else 0)) ↔ okD p b = true
  | [], p => by cases p <;> simp [pr, okD]
  | c :: r, p => by
    have hl := pr_le r
    by_cases a : c = 13
    · subst a
      have ih := pr_ok r true
      have hl := hl true
      rw [pj]
      unfold pr
      rw [List.count_cons, List.count_cons]
      cases p with
      | false => simp at ih hl ⊢; rw [← ih]
      | true => simp at ih hl ⊢; omega
    · by_cases g : c = 10
      · subst g
        have ih := pr_ok r false
        have hl := hl false
        rw [rl]
        unfold pr
        rw [List.count_cons, List.count_cons]
        cases p with
        | false => simp at ih hl ⊢; omega
        | true => simp at ih hl ⊢; rw [← ih]; constructor <;> rintro ⟨x, y⟩ <;> constructor <;> omega
      · have e1 : (c == 13) = false := by simpa using a
        have e2 : (c == 10) = false := by simpa using g
        have ih := pr_ok r false
        have hl := hl false
        rw [sB p r a g]
        unfold pr
        rw [List.count_cons, List.count_cons, e1, e2, decide_eq_false a]
        cases p with
        | false => simp at ih hl ⊢; rw [← ih]
        | true => simp [g] at ih hl ⊢; omega
theorem gl_app (a : Bs) {b : Bs} (h : b ≠ []) : (a ++ b).getLast? = b.getLast? := by
  rw [List.getLast?_append]
  cases e : b.getLast? with
  | none => exact absurd (List.getLast?_eq_none_iff.1 e) h
  | some x => rfl
theorem nt : ∀ (m : Nat) (b l : Bs), b.length < m → NoCr l → okD false b = true → (l ++ b = [] ∨ (l ++ b).getLast? = some 10) → ∃ ls, (∀ x ∈ ls, NoCr x) ∧ l ++ b = flD ls
  | 0, b, l, h, _, _, _ => by omega
  | m + 1, [], l, h, hl, hk, he => by
    rw [List.append_nil] at he
    have : l = [] := by
      rcases he with e | e
      · exact e
      · by_cases g : l = []
        · exact g
        · have := List.mem_of_getLast? e
          exact absurd rfl (hl 10 this).2
    subst this;exact ⟨[], by simp, rfl⟩
  | m + 1, c :: b, l, h, hl, hk, he => by
    by_cases a : c = 13
    · subst a
      rw [pj] at hk
      cases b with
      | nil => simp [okD] at hk
      | cons d b =>
        have hd : d = 10 := by
          by_cases g : d = 10
          · exact g
          · by_cases g2 : d = 13
            · subst g2; rw [pj] at hk; simp at hk
            · rw [sB _ _ g2 g] at hk; simp at hk
        subst hd
        rw [rl] at hk
        have hk' : okD false b = true := by simpa using hk
        have he' : [] ++ b = [] ∨ ([] ++ b).getLast? = some 10 := by
          rw [List.nil_append]
          by_cases g : b = []
          · exact .inl g
          · right
            rcases he with e | e
            · simp at e
            · rw [show l ++ 13 :: 10 :: b = (l ++ [13, 10]) ++ b by simp, gl_app _ g] at e
              exact e
        obtain ⟨ls, h1, h2⟩ := nt m b [] (by simp at h; omega) (by intro x hx; cases hx) hk' he'
        rw [List.nil_append] at h2
        refine ⟨l :: ls, fun x hx => ?_, by rw [h2]; simp [flD, lnD]⟩
        rcases List.mem_cons.1 hx with rfl | hx
        · exact hl
        · exact h1 x hx
    · by_cases g : c = 10
      · subst g; rw [rl] at hk; simp at hk
      · rw [sB _ _ a g] at hk
        have hk' : okD false b = true := by simpa using hk
        have := nt m b (l ++ [c]) (by simp at h; omega) (fun x hx => by
          rcases List.mem_append.1 hx with hx | hx
          · exact hl x hx
          · rw [List.mem_singleton.1 hx]; exact ⟨a, g⟩) hk' (by rw [List.append_assoc]; exact he)
        rw [List.append_assoc] at this
        exact this
theorem qb {b : Bs} (h : lI b = true) : ∃ ls, (∀ l ∈ ls, NoCr l) ∧ b = flD ls := by
  unfold lI endD at h
  simp only [Bool.and_eq_true, Bool.or_eq_true, decide_eq_true_eq] at h
  obtain ⟨ls, h1, h2⟩ := nt (b.length + 1) b [] (Nat.lt_succ_self _) (by intro x hx; cases hx) h.1 h.2;exact ⟨ls, h1, h2⟩
def stD : Bool → Bs → Bs
  | _, [] => []
  | s, c :: r => (if s = true ∧ c = 46 then [46, c] else [c]) ++ stD (decide (c = 10)) r
def kl (b : Bs) : Bs := if lI b = true then stD true b ++ [46, 13, 10] else []
def og (l : Bs) : Bs := if l.head? = some 46 then 46 :: lnD l else lnD l
theorem st_in : ∀ (l r : Bs), NoCr l → stD false (l ++ 13 :: 10 :: r) = l ++ 13 :: 10 :: stD true r
  | [], r, _ => by simp [stD]
  | c :: l, r, h => by
    obtain ⟨h1, h2⟩ := h c (by simp);show (if false = true ∧ c = 46 then [46, c] else [c]) ++ stD (decide (c = 10)) (l ++ 13 :: 10 :: r) = _
    rw [decide_eq_false h2, st_in l r fun x hx => h x (by simp [hx])]
    simp
theorem st_ln (l r : Bs) (h : NoCr l) : stD true (l ++ 13 :: 10 :: r) = og l ++ stD true r := by
  cases l with
  | nil => simp [stD, og, lnD]
  | cons c l =>
    obtain ⟨h1, h2⟩ := h c (by simp);show (if true = true ∧ c = 46 then [46, c] else [c]) ++ stD (decide (c = 10)) (l ++ 13 :: 10 :: r) = _
    rw [decide_eq_false h2, st_in l r fun x hx => h x (by simp [hx])]
    unfold og lnD
    by_cases g : c = 46
    · subst g; simp
    · simp [g]
theorem oY : ∀ ls : List Bs, (∀ l ∈ ls, NoCr l) → stD true (flD ls) = (ls.map og).flatten
  | [], _ => rfl
  | l :: ls, h => by
    have e : flD (l :: ls) = l ++ 13 :: 10 :: flD ls := by simp [flD, lnD]
    rw [e, st_ln l _ (h l (by simp)), oY ls fun x hx => h x (by simp [hx])]
    simp
theorem tn : ∀ (b : Bs) (s : Bool), (stD s b).length ≤ 2 * b.length
  | [], _ => by simp [stD]
  | c :: r, s => by
    have := tn r (decide (c = 10))
    unfold stD
    rw [List.length_append]
    split <;> simp <;> omega
theorem oZ (b : Bs) : (kl b).length ≤ 2 * b.length + 3 := by
  unfold kl
  split
  · have := tn b true
    simp; omega
  · simp
end Go.Cl
namespace Go.Dg
open Go.Pv Go.Av
open Go.Lib (decDigits)
abbrev Bs := List UInt8
theorem fD {n : Nat} (h : n < 10) : decDigits n = [UInt8.ofNat (48 + n)] := by rw [decDigits, dif_pos h]
theorem ja {n : Nat} (h : ¬ n < 10) : decDigits n = decDigits (n / 10) ++ [UInt8.ofNat (48 + n % 10)] := by rw [decDigits, dif_neg h]
theorem kg (n : Nat) : Go.Lib.itoa (n : Int) = decDigits n := by
  unfold Go.Lib.itoa
  rw [if_neg (by omega), Int.toNat_natCast]
theorem ji (k : Nat) (h : k < 10) : (UInt8.ofNat (48 + k)).toNat = 48 + k := by
  have : ∀ k : Fin 10, (UInt8.ofNat (48 + k.val)).toNat = 48 + k.val := by decide +kernel
  exact this ⟨k, h⟩
def Dig (c : UInt8) : Prop := 48 ≤ c.toNat ∧ c.toNat ≤ 57
theorem dd_dig : ∀ (m n : Nat), n < m → ∀ c ∈ decDigits n, Dig c := by
  intro m
  induction m with
  | zero => intro n h; omega
  | succ m ih =>
    intro n h c hc
    by_cases hn : n < 10
    · rw [fD hn] at hc
      rw [List.mem_singleton.1 hc]; unfold Dig; rw [ji n hn]; omega
    · rw [ja hn] at hc
      rcases List.mem_append.1 hc with hc | hc
      · exact ih (n / 10) (by omega) c hc
      · rw [List.mem_singleton.1 hc]; unfold Dig; rw [ji _ (by omega)]; omega
theorem ov (n : Nat) : ∀ c ∈ decDigits n, Dig c := dd_dig (n + 1) n (by omega)
theorem rn : ∀ (m n : Nat), n < 10 ^ m → (decDigits n).length ≤ m + 1 := by
  intro m
  induction m with
  | zero => intro n h; rw [fD (by omega)]; simp
  | succ m ih =>
    intro n h
    by_cases hn : n < 10
    · rw [fD hn]; simp
    · have h10 : n / 10 < 10 ^ m := by rw [Nat.pow_succ] at h; omega
      rw [ja hn, List.length_append]
      have := ih _ h10
      simp; omega
theorem pl (n : Nat) : 1 ≤ (decDigits n).length := by
  by_cases hn : n < 10
  · rw [fD hn]; simp
  · rw [ja hn]; simp
def val (v : Nat) : Bs → Nat
  | [] => v
  | c :: r => val (10 * v + (c.toNat - 48)) r
theorem tv : ∀ (a b : Bs) (v : Nat), val v (a ++ b) = val (val v a) b
  | [], b, v => rfl
  | c :: r, b, v => tv r b _
theorem val_dd : ∀ (m n : Nat), n < m → val 0 (decDigits n) = n := by
  intro m
  induction m with
  | zero => intro n h; omega
  | succ m ih =>
    intro n h
    by_cases hn : n < 10
    · rw [fD hn]; show 10 * 0 + ((UInt8.ofNat (48 + n)).toNat - 48) = n; rw [ji n hn]; omega
    · rw [ja hn, tv, ih (n / 10) (by omega)]
      show 10 * (n / 10) + ((UInt8.ofNat (48 + n % 10)).toNat - 48) = n
      rw [ji _ (by omega)]; omega
theorem qW (n : Nat) : val 0 (decDigits n) = n := val_dd (n + 1) n (by omega)
end Go.Dg
namespace Go.Cl
open Go.Pv Go.Av
theorem pd (x : UInt8) (r u : Bs) : Go.Lib.index (x :: r) u = if u.isPrefixOf (x :: r) = true then 0 else if Go.Lib.index r u = -1 then -1 else Go.Lib.index r u + 1 := by
  by_cases h : u.isPrefixOf (x :: r) = true
  · simp [Go.Lib.index, h]
  · simp [Go.Lib.index, h]
theorem pr_idx : ∀ (b : Bs), (Go.Lib.index b [13, 10] = -1 ∧ pr false b = 0) ∨ ∃ i : Nat, Go.Lib.index b [13, 10] = (i : Int) ∧ i + 2 ≤ b.length ∧ pr false b = 1 + pr false (b.drop (i + 2))
  | [] => .inl ⟨by simp [Go.Lib.index], rfl⟩
  | c :: r => by
    have ih := pr_idx r
    by_cases h : c = 13
    · subst h
      cases r with
      | nil => left; exact ⟨by simp [Go.Lib.index], by simp [pr]⟩
      | cons d r =>
        by_cases g : d = 10
        · subst g
          right
          exact ⟨0, by simp [Go.Lib.index], by simp, by simp [pr]⟩
        · have hx : ([13, 10] : Bs).isPrefixOf (13 :: d :: r) = false := by
            have : (10 == d) = false := by simpa using fun q => g q.symm
            simp [List.isPrefixOf, this]
          have e : pr false (13 :: d :: r) = pr false (d :: r) := by simp [pr, g]
          rw [pd, hx, e]
          simp only [Bool.false_eq_true, if_false]
          rcases ih with ⟨h1, h2⟩ | ⟨i, h1, h2, h3⟩
          · left; rw [if_pos h1]; exact ⟨rfl, h2⟩
          · right
            refine ⟨i + 1, ?_, by simp at h2 ⊢; omega, ?_⟩
            · rw [if_neg (by omega), h1]; rfl
            · rw [h3]; rfl
    · have hx : ([13, 10] : Bs).isPrefixOf (c :: r) = false := by
        have : (13 == c) = false := by simpa using fun q => h q.symm
        simp [List.isPrefixOf, this]
      have e : pr false (c :: r) = pr false r := by simp [pr, h]
      rw [pd, hx, e]
      simp only [Bool.false_eq_true, if_false]
      rcases ih with ⟨h1, h2⟩ | ⟨i, h1, h2, h3⟩
      · left; rw [if_pos h1]; exact ⟨rfl, h2⟩
      · right
        refine ⟨i + 1, ?_, by simp at h2 ⊢; omega, ?_⟩
        · rw [if_neg (by omega), h1]; rfl
        · rw [h3]; rfl
theorem idx_ln : ∀ (l r : Bs), NoCr l → Go.Lib.index (l ++ 13 :: 10 :: r) [13, 10] = (l.length : Int)
  | [], r, _ => by simp [Go.Lib.index]
  | c :: l, r, h => by
    obtain ⟨h1, h2⟩ := h c (by simp)
    have hx : ([13, 10] : Bs).isPrefixOf (c :: (l ++ 13 :: 10 :: r)) = false := by
      have : (13 == c) = false := by simpa using fun q => h1 q.symm
      simp [List.isPrefixOf, this]
    show Go.Lib.index (c :: (l ++ 13 :: 10 :: r)) [13, 10] = _
    rw [pd, hx, idx_ln l r fun x hx => h x (by simp [hx])]
    simp only [Bool.false_eq_true, if_false]
    rw [if_neg (by omega)]
    simp
theorem idx_nil : Go.Lib.index [] [13, 10] = -1 := by simp [Go.Lib.index]
def gc (c : UInt8) : UInt8 := if 65 ≤ c.toNat ∧ c.toNat ≤ 90 then c + 97 - 65 else c
def jI (c : UInt8) : Bool := decide (48 ≤ c.toNat) && decide (c.toNat ≤ 57)
def mg (s : Bs) : Option Nat :=
  if (6 ≤ s.length ∧ s.length ≤ 14) ∧ (s.take 5).map gc = [115, 105, 122, 101, 32] ∧ (s.drop 5).all jI = true then some (Go.Dg.val 0 (s.drop 5)) else none
def qT : List Bs → Nat
  | [] => 0
  | s :: r => match mg s with | some n => n | none => qT r
def dW (ls : List Bs) : Nat := qT (ls.drop 1)
def quitD : Bs := [81, 85, 73, 84, 13, 10]
def ehloD (nm : Bs) : Bs := [69, 72, 76, 79, 32] ++ nm ++ [13, 10]
def qU (fr : Bs) : Bs := [77, 65, 73, 76, 32, 70, 82, 79, 77, 58, 60] ++ fr ++ [62, 13, 10]
def sx (rc : Bs) : Bs := [82, 67, 80, 84, 32, 84, 79, 58, 60] ++ rc ++ [62, 13, 10]
def dataD : Bs := [68, 65, 84, 65, 13, 10]
def fI (ph c : Int) : Bool := if ph = 0 then decide (c = 220) else if ph = 4 then decide (c = 354) else decide (200 ≤ c) && decide (c ≤ 299)
abbrev St := Int × Int × Bs
section
variable (fr rc nm ml : Bs)
def goP (ph out : Int) (ls : List Bs) : St :=
  if ph = 0 then (1, out, ehloD nm) else if ph = 1 then (if 0 < dW ls ∧ dW ls < (kl ml).length then (6, 3, quitD) else (2, out, qU fr))
  else if ph = 2 then (3, out, sx rc) else if ph = 3 then (4, out, dataD) else if ph = 4 then (5, out, kl ml) else (6, 1, quitD)
def gb (ph out c : Int) (ls : List Bs) : St :=
  if ph < 0 ∨ 7 ≤ ph then (ph, out, []) else if c = 421 then (7, (if out = 0 then 2 else out), []) else if ph = 6 then (7, out, [])
  else if fI ph c = true then goP fr rc nm ml ph out ls else (6, (if 500 ≤ c ∧ c ≤ 599 then 3 else 2), quitD)
def lG {M : Type} : St → List (Int × List Bs × M) → St
  | s, [] => s
  | s, x :: r => lG ((gb fr rc nm ml s.1 s.2.1 x.1 x.2.1).1, (gb fr rc nm ml s.1 s.2.1 x.1 x.2.1).2.1, s.2.2 ++ (gb fr rc nm ml s.1 s.2.1 x.1 x.2.1).2.2) r
def nS (s : St) : St := if s.1 = 7 then s else (7, (if s.2.1 = 0 then 2 else s.2.1), s.2.2)
theorem pR (out c : Int) (ls : List Bs) : gb fr rc nm ml 7 out c ls = (7, out, []) := by unfold gb; rw [if_pos (by omega)]
def partD : Nat → Bs
  | 0 => ehloD nm
  | 1 => qU fr
  | 2 => sx rc
  | 3 => dataD
  | _ => kl ml
def preD : Nat → Bs
  | 0 => []
  | k + 1 => preD k ++ partD fr rc nm ml k
inductive Iv : Int → Int → Bs → Prop
  | go (k : Nat) (h : k ≤ 5) : Iv (k : Int) 0 (preD fr rc nm ml k)
  | stop (k : Nat) (out : Int) (h : k ≤ 5) (ho : out = 2 ∨ out = 3 ∨ (out = 1 ∧ k = 5)) : Iv 6 out (preD fr rc nm ml k ++ quitD)
  | off (k : Nat) (h : k ≤ 5) : Iv 7 2 (preD fr rc nm ml k)
  | done (k : Nat) (out : Int) (h : k ≤ 5) (ho : out = 2 ∨ out = 3 ∨ (out = 1 ∧ k = 5)) : Iv 7 out (preD fr rc nm ml k ++ quitD)
theorem Iv.step {ph out : Int} {a : Bs} (h : Iv fr rc nm ml ph out a) (c : Int) (ls : List Bs) :
    Iv fr rc nm ml (gb fr rc nm ml ph out c ls).1 (gb fr rc nm ml ph out c ls).2.1 (a ++ (gb fr rc nm ml ph out c ls).2.2) := by
  cases h with
  | go k h =>
    unfold gb
    rw [if_neg (by omega)]
    by_cases h1 : c = 421
    · rw [if_pos h1]
      simp only [List.append_nil, if_true]
      exact .off k h
    · rw [if_neg h1, if_neg (by omega)]
      by_cases h2 : fI (k : Int) c = true
      · rw [if_pos h2]
        unfold goP
        have : k = 0 ∨ k = 1 ∨ k = 2 ∨ k = 3 ∨ k = 4 ∨ k = 5 := by omega
        rcases this with rfl | rfl | rfl | rfl | rfl | rfl
        · exact Iv.go 1 (by omega)
        · by_cases q : 0 < dW ls ∧ dW ls < (kl ml).length
          · rw [if_neg (by decide), if_pos (by decide), if_pos q]
            exact Iv.stop 1 3 (by omega) (by omega)
          · rw [if_neg (by decide), if_pos (by decide), if_neg q]
            exact Iv.go 2 (by omega)
        · exact Iv.go 3 (by omega)
        · exact Iv.go 4 (by omega)
        · exact Iv.go 5 (by omega)
        · exact Iv.stop 5 1 (by omega) (by omega)
      · rw [if_neg h2]
        by_cases q : 500 ≤ c ∧ c ≤ 599
        · rw [if_pos q]; exact .stop k 3 h (by omega)
        · rw [if_neg q]; exact .stop k 2 h (by omega)
  | stop k out h ho =>
    have hne : ¬ out = 0 := by omega
    unfold gb
    rw [if_neg (by omega)]
    by_cases h1 : c = 421
    · rw [if_pos h1, if_neg hne]
      simp only [List.append_nil]
      exact .done k _ h ho
    · rw [if_neg h1, if_pos rfl]
      simp only [List.append_nil]
      exact .done k _ h ho
  | off k h => rw [pR]; simp only [List.append_nil]; exact .off k h
  | done k out h ho => rw [pR]; simp only [List.append_nil]; exact .done k _ h ho
theorem Iv.run {M : Type} : ∀ (l : List (Int × List Bs × M)) {ph out : Int} {a : Bs}, Iv fr rc nm ml ph out a → Iv fr rc nm ml (lG fr rc nm ml (ph, out, a) l).1 (lG fr rc nm ml (ph, out, a) l).2.1 (lG fr rc nm ml (ph, out, a) l).2.2
  | [], _, _, _, h => h
  | x :: r, _, _, _, h => Iv.run r (h.step fr rc nm ml x.1 x.2.1)
end
end Go.Cl
namespace Go.Dg
open Go.Pv Go.Av
open Go.Lib (decDigits)
theorem dG (x : Bool) : (true && x) = x := Eq.symm (Eq.symm rfl)
theorem eC (x : Bool) : (false && x) = false := Eq.symm (Eq.symm rfl)
theorem fo (x : Bool) : (false || x) = x := Eq.symm (Eq.symm rfl)
theorem nfl : (!false) = true := Eq.symm (Eq.symm rfl)
theorem ntr : (!true) = false := Eq.symm (Eq.symm rfl)
theorem cfl {α : Type} (a b : α) : (bif false then a else b) = b := Eq.symm (Eq.symm rfl)
theorem ctr {α : Type} (a b : α) : (bif true then a else b) = a := Eq.symm (Eq.symm rfl)
def Tot (o : Option (Int × Int)) : Prop := ∃ x k, o = some (x, k) ∧ (k = 0 ∨ k = 1 ∨ k = 2)
theorem Tot.z (x : Int) : Tot (some (x, 0)) := ⟨x, 0, rfl, .inl rfl⟩
theorem Tot.o (x : Int) : Tot (some (x, 1)) := ⟨x, 1, rfl, .inr (.inl rfl)⟩
theorem Tot.t (x : Int) : Tot (some (x, 2)) := ⟨x, 2, rfl, .inr (.inr rfl)⟩
theorem fG {c : Bool} {a b : Option (Int × Int)} (ha : Tot a) (hb : Tot b) : Tot (bif c then a else b) := by cases c <;> assumption
theorem tot_bndc {c : Bool} {v : UInt8} {f : UInt8 → Option (Int × Int)} (h : ∀ x, Tot (f x)) : Tot (kM c (some v) f) := by
  cases c
  · exact h _
  · exact h _
theorem j3_tot (y17 : Int) (y23 y24 : Int) (rec : (Bool × Int × Int) → Option (Int × Int)) (y43 : UInt8) (h : ∀ v, Tot (rec (false, v, y24 + 1))) (hb : -9223372036854775808 ≤ y24 + 1 ∧ y24 + 1 ≤ 9223372036854775807) :
    Tot (dC 10 y17 false y23 y24 rec y43) := by
  unfold dC dX
  refine fG (.t _) (fG (.o _) (fG (.o _) ?_))
  rw [ci hb]
  exact h _
theorem tX (F : Nat) (s : Bs) (c : Int) (hs : s.length ≤ 1000) : ∀ (n i : Nat) (v : Int), s.length - i < n → i ≤ s.length → Tot (cB F s 10 c n (false, v, (i : Int))) := by
  intro n
  induction n with
  | zero => intro i v h; omega
  | succ n ih =>
    intro i v hn hi;show Tot (fg F s 10 c (cB F s 10 c n) false v (i : Int))
    unfold fg
    by_cases h : i < s.length
    · have e : ((i : Int) + 1) = ((i + 1 : Nat) : Int) := by omega
      have hr : ∀ v, Tot (cB F s 10 c n (false, v, (i : Int) + 1)) := fun v => by rw [e]; exact ih (i + 1) v (by omega) (by omega)
      have h10 : decide ((10 : Int) = 0) = false := by decide
      rw [bT (by omega), bO (by omega), bf, h10, Bool.and_false, cfl]
      refine fG (j3_tot _ _ _ _ _ hr (by omega)) ?_
      unfold fC
      rw [bn]
      refine tot_bndc fun x38 => fG ?_ (.t _)
      rw [bn]
      exact j3_tot _ _ _ _ _ hr (by omega)
    · rw [bF (by omega)]
      unfold ff
      rw [bndc_f, eC, cfl]
      exact .z _
theorem uint_tot (F : Nat) (s : Bs) (hs : s.length ≤ 1000) (hF : s.length < F) : Tot (gX F s 10 0) := by
  unfold gX
  refine fG (.t _) ?_
  have h1 : ((decide ((2 : Int) ≤ 10)) && (decide ((10 : Int) ≤ 36))) = true := by decide
  rw [h1, grd_t]
  unfold fc fe
  rw [oc rfl, bT rfl]
  unfold dB
  have h2 : decide (0 ≤ IntKind.u64.wrap 64) = true := by decide +kernel
  rw [h2, grd_t, bU (by omega)]
  exact tX F s _ hs F 0 0 (by omega) (by omega)
theorem sW (b : Bool) (x : Int) : Tot (dY b x) := by
  unfold dY dZ
  have h2 : decide (0 ≤ IntKind.u64.wrap 63) = true := by decide +kernel
  rw [h2, grd_t]
  exact fG (.o _) (fG (.o _) (fG (.z _) (.z _)))
theorem mc (F : Nat) (s : Bs) (b : Bool) (hs : s.length ≤ 1000) (hF : s.length < F) : Tot (de F 10 0 s b) := by
  unfold de
  obtain ⟨x, k, e, hk⟩ := uint_tot F s hs hF
  rw [e, bM]
  by_cases h2 : k = 2
  · subst h2
    have : ((!decide ((2 : Int) = 0)) && (!decide ((2 : Int) = 1))) = true := by decide
    rw [this, ctr]
    exact .t _
  · have : ((!decide (k = 0)) && (!decide (k = 1))) = false := by
      rcases hk with rfl | rfl | rfl
      · decide
      · decide
      · exact absurd rfl h2
    rw [this, cfl, oc rfl]
    exact sW _ _
theorem int_tot (F : Nat) (s : Bs) (hs : s.length ≤ 1000) (hF : s.length < F) : Tot (gY F s 10 0) := by
  unfold gY
  by_cases h : s = []
  · rw [bT h]; exact .t _
  · have hp : 0 < s.length := List.length_pos_iff.2 h
    have hf : (eJ s 1).length ≤ s.length := by unfold eJ; simp
    rw [bF h, bO (by omega), bf]
    refine fG ?_ (fG ?_ (mc F s _ hs hF))
    · rw [eG (by omega), bf]; exact mc F _ _ (by omega) (by omega)
    · rw [eG (by omega), bf]; exact mc F _ _ (by omega) (by omega)
theorem lR (a s : Bs) (ha : a ≠ []) (hs : s.length ≤ 18) : ∀ (n i v : Nat), s.length - i < n → i ≤ s.length → v < 10 ^ i → Tot (eY a s n ((v : Int), (i : Int))) := by
  intro n
  induction n with
  | zero => intro i v h; omega
  | succ n ih =>
    intro i v hn hi hv;show Tot (eZ a s (eY a s n) (v : Int) (i : Int))
    unfold eZ
    have hv18 : v < 10 ^ 18 := Nat.lt_of_lt_of_le hv (Nat.pow_le_pow_right (by omega) (by omega))
    by_cases h : i < s.length
    · have hv17 : v < 10 ^ 17 := Nat.lt_of_lt_of_le hv (Nat.pow_le_pow_right (by omega) (by omega))
      rw [bT (by omega), bO (by omega), bf]
      obtain ⟨c, hc⟩ : ∃ c, c = at_ s (i : Int) := ⟨_, rfl⟩
      rw [← hc]
      by_cases h9 : 9 < (c - 48).toNat
      · rw [bT (by omega)]; exact .t _
      · have e1 : ((v : Int) * 10) + ((c - 48).toNat : Int) = ((v * 10 + (c - 48).toNat : Nat) : Int) := by omega
        have e2 : ((i : Int) + 1) = ((i + 1 : Nat) : Int) := by omega
        rw [bF (by omega), ci (by omega), ci (by omega), ci (by omega), e1, e2]
        refine ih (i + 1) _ (by omega) (by omega) ?_
        rw [Nat.pow_succ]; omega
    · rw [bF (by omega)]
      unfold eW eX
      have hp : 0 < a.length := List.length_pos_iff.2 ha
      rw [bO (by omega), bf]
      refine fG ?_ (.z _)
      rw [ci (by omega)]; exact .z _
theorem atoi_tot (F : Nat) (s : Bs) (hs : s.length ≤ 1000) (hF : s.length < F) : Tot (ic F s) := by
  unfold ic eV il
  by_cases h : 0 < s.length ∧ s.length < 19
  · have hc : ((decide (0 < (s.length : Int))) && (decide ((s.length : Int) < 19))) = true := by
      rw [decide_eq_true (by omega), decide_eq_true (by omega)]; rfl
    have hne : s ≠ [] := List.length_pos_iff.1 h.1
    have hf : (eJ s 1).length ≤ s.length := by unfold eJ; simp
    rw [hc, ctr, bO (by omega), bf]
    have hg : ∀ (c : Bool) (x : Option (Int × Int)), dk c (ct 0 s.length) x = x := fun c x => eK fun _ => by omega
    rw [hg, bf]
    refine fG ?_ ?_
    · rw [eG (by omega), bf]
      refine fG (.t _) ?_
      rw [bU (by omega)]
      exact lR s _ hne (by omega) F 0 0 (by omega) (by omega) (by omega)
    · rw [bU (by omega)]
      exact lR s _ hne (by omega) F 0 0 (by omega) (by omega) (by omega)
  · have hc : ((decide (0 < (s.length : Int))) && (decide ((s.length : Int) < 19))) = false := by
      by_cases h0 : 0 < s.length
      · rw [decide_eq_false (show ¬ ((s.length : Int) < 19) by omega), Bool.and_false]
      · rw [decide_eq_false (show ¬ (0 < (s.length : Int)) by omega)]; rfl
    rw [hc, cfl]
    obtain ⟨x, k, e, hk⟩ := int_tot F s hs hF
    rw [e, bM]
    exact ⟨x, k, rfl, hk⟩
theorem pi (F : Nat) (s : Bs) (hs : s.length ≤ 1000) (hF : s.length < F) : ∃ x k, cR F s = some (x, k) := by
  unfold cR
  obtain ⟨x, k, e, hk⟩ := atoi_tot F s hs hF
  rw [e, bM]
  by_cases h0 : k = 0
  · subst h0; exact ⟨x, 0, by rw [decide_eq_true rfl, ntr, cfl]⟩
  · refine ⟨x, 1, ?_⟩
    rw [decide_eq_false h0, nfl, ctr, jE (by omega), oc (by omega)]
theorem rf (c : UInt8) (h : Dig c) : (c - 48).toNat = c.toNat - 48 := by
  have : ∀ k : Fin 256, (48 ≤ k.val ∧ k.val ≤ 57) → (UInt8.ofNat k.val - 48).toNat = k.val - 48 := by decide +kernel
  have h1 := this ⟨c.toNat, c.toNat_lt⟩ h
  simpa using h1
theorem atoi_loop (a : Bs) (s : Bs) (hs : s.length ≤ 18) (hd : ∀ c ∈ s, Dig c) : ∀ (n i v : Nat), s.length - i < n → i ≤ s.length → v < 10 ^ i → eY a s n ((v : Int), (i : Int)) = eW a ((val v (s.drop i) : Nat) : Int) := by
  intro n
  induction n with
  | zero => intro i v h; omega
  | succ n ih =>
    intro i v hn hi hv;show eZ a s (eY a s n) (v : Int) (i : Int) = _
    unfold eZ
    by_cases h : i < s.length
    · have hv17 : v < 10 ^ 17 := Nat.lt_of_lt_of_le hv (Nat.pow_le_pow_right (by omega) (by omega))
      have hdr : s.drop i = s[i] :: s.drop (i + 1) := aP h
      have hc := hd _ (List.getElem_mem h)
      have hsub := rf _ hc
      obtain ⟨hc1, hc2⟩ := hc
      rw [bT (by omega), bO (by omega), bf, dj h]
      have e1 : ((v : Int) * 10) + ((s[i] - 48).toNat : Int) = ((10 * v + (s[i].toNat - 48) : Nat) : Int) := by rw [hsub]; omega
      have e2 : ((i : Int) + 1) = ((i + 1 : Nat) : Int) := by omega
      rw [bF (by rw [hsub]; omega), ci (by omega), ci (by omega), ci (by omega), e1, e2, ih (i + 1) _ (by omega) (by omega) (by rw [Nat.pow_succ]; omega), hdr]
      rfl
    · rw [bF (by omega), aR (by omega)]; rfl
theorem tN (F : Nat) (n : Nat) (hn : n ≤ 1073741824) (hF : 100 < F) : cR F (decDigits n) = some ((n : Int), 0) := by
  have hl : (decDigits n).length ≤ 11 := rn 10 n (by omega)
  have hp := pl n
  have hd := ov n
  have h0 : at_ (decDigits n) 0 = (decDigits n)[0] := mY (by omega)
  have hd0 := hd _ (List.getElem_mem (show 0 < (decDigits n).length by omega))
  have n45 : (decDigits n)[0] ≠ 45 := fun e => by rw [e] at hd0; exact absurd hd0.1 (by decide)
  have n43 : (decDigits n)[0] ≠ 43 := fun e => by rw [e] at hd0; exact absurd hd0.1 (by decide)
  have hc : ((decide (0 < ((decDigits n).length : Int))) && (decide (((decDigits n).length : Int) < 19))) = true := by
    rw [decide_eq_true (by omega), decide_eq_true (by omega)]; rfl
  have hg : ∀ (c : Bool) (x : Option (Int × Int)), dk c (ct 0 (decDigits n).length) x = x := fun c x => eK fun _ => by omega
  have e : ic F (decDigits n) = some ((n : Int), 0) := by
    unfold ic eV
    rw [hc, ctr, bO (by omega), bf, hg, bf, h0, decide_eq_false n45, decide_eq_false n43, fo, cfl, bU (by omega)]
    have := atoi_loop (decDigits n) (decDigits n) (by omega) hd F 0 0 (by omega) (by omega) (by omega)
    refine Eq.trans this ?_
    rw [List.drop_zero, qW]
    unfold eW eX
    rw [bO (by omega), bf, h0, decide_eq_false n45, cfl]
  unfold cR
  rw [e, bM, decide_eq_true rfl, ntr, cfl]
end Go.Dg
namespace Go.Cl
open Go.Pv Go.Av
open Go.Dg (cfl ctr dG eC fo nfl ntr)
theorem gcS {α : Type} {k : Option α} {c : Bool} {n : Nat} (h : n < 4294967281) : dk c (okS n) k = k := by
  cases c
  · exact ij
  · rw [jB, jE h]
theorem gcI {α : Type} {k : Option α} {c : Bool} {n : Int} (h : -9223372036854775808 ≤ n ∧ n ≤ 9223372036854775807) : dk c (okI n) k = k := by
  cases c
  · exact ij
  · rw [jB, ci h]
theorem tj : ∀ (n : Nat) (y : Bs) (k : Nat), y.length < n → y.length ≤ 1100000 → k + y.length ≤ 3000000 →
    fO [13, 10] n (y, (k : Int)) = some ((k + pr false y : Nat) : Int) := by
  intro n
  induction n with
  | zero => intro y k h; omega
  | succ n ih =>
    intro y k hn hy hk;show fP [13, 10] (fO [13, 10] n) y (k : Int) = _
    unfold fP
    have e2 : ([13, 10] : Bs).length = 2 := Eq.symm (Eq.symm rfl)
    rw [e2, jE (by omega), oc (by omega), jE (by omega), bf]
    rcases pr_idx y with ⟨h1, h2⟩ | ⟨i, h1, h2, h3⟩
    · rw [h1, bT rfl, h2]; rfl
    · have e : (i : Int) + ((2 : Nat) : Int) = ((i + 2 : Nat) : Int) := by omega
      rw [h1, bF (by omega), ci (by omega), ci (by omega), eG (by omega), bf, e, kh, cn, ih (y.drop (i + 2)) (k + 1) (by rw [List.length_drop]; omega) (by rw [List.length_drop]; omega) (by rw [List.length_drop]; omega), h3]
      congr 1
      omega
theorem uZ (F : Nat) (b : Bs) (hb : b.length ≤ 1100000) (hF : b.length < F) : ej F b [13, 10] = some ((pr false b : Nat) : Int) := by
  unfold ej
  have := tj F b 0 hF hb (by omega)
  rw [Nat.zero_add] at this
  exact this
theorem count_one (F : Nat) (b : Bs) (c : UInt8) : ej F b [c] = some ((b.count c : Nat) : Int) := by
  unfold ej
  rfl
theorem okS_suf {b : Bs} (h : Go.Lib.hasSuffix b [13, 10] = true) : b.getLast? = some 10 := by
  unfold Go.Lib.hasSuffix at h
  obtain ⟨p, hp⟩ := List.isSuffixOf_iff_suffix.1 h
  rw [← hp]; simp
theorem suf_of {ls : List Bs} (hn : ls ≠ []) : Go.Lib.hasSuffix (flD ls) [13, 10] = true := by
  unfold Go.Lib.hasSuffix
  refine List.isSuffixOf_iff_suffix.2 ?_;obtain ⟨p, l, rfl⟩ : ∃ p l, ls = p ++ [l] := ⟨ls.dropLast, ls.getLast hn, (List.dropLast_concat_getLast hn).symm⟩;refine ⟨flD p ++ l, ?_⟩
  simp [flD, lnD]
theorem tE (F : Nat) (b : Bs) (hb : b.length ≤ 1100000) (hF : b.length < F) : lC F b = some (lI b) := by
  unfold lC
  rw [uZ F b hb hF, bn, count_one, bn, count_one, gP, gcS (by omega), bf]
  congr 1
  have hk := pr_ok b false
  simp only [Bool.false_eq_true, if_false, Nat.add_zero] at hk
  by_cases h1 : b.count 13 = pr false b
  · have d1 : decide (((b.count 13 : Nat) : Int) = ((pr false b : Nat) : Int)) = true := decide_eq_true (by omega)
    rw [d1, ctr, dG]
    by_cases h2 : b.count 10 = pr false b
    · have d2 : decide (((b.count 10 : Nat) : Int) = ((pr false b : Nat) : Int)) = true := decide_eq_true (by omega)
      have ho := hk.1 ⟨h2.symm, h1.symm⟩
      rw [d2, dG]
      unfold lI
      rw [ho, dG]
      unfold endD
      by_cases h0 : b = []
      · subst h0; rfl
      · have hl : 0 < b.length := List.length_pos_iff.2 h0
        rw [decide_eq_false (p := ((b.length : Int) = 0)) (by omega), decide_eq_false h0, fo, fo]
        cases hs : Go.Lib.hasSuffix b [13, 10] with
        | true => rw [okS_suf hs]; rfl
        | false =>
          symm
          refine decide_eq_false fun hq => ?_
          have hm : lI b = true := by unfold lI endD; rw [ho, hq]; simp
          obtain ⟨ls, _, hb⟩ := qb hm
          have : ls ≠ [] := fun e => h0 (by rw [hb, e]; rfl)
          have := suf_of this
          rw [← hb, hs] at this
          cases this
    · have d2 : decide (((b.count 10 : Nat) : Int) = ((pr false b : Nat) : Int)) = false := decide_eq_false (by omega)
      have ho : okD false b = false := by
        cases q : okD false b with
        | false => rfl
        | true => exact absurd (hk.2 q).1.symm h2
      rw [d2, eC]
      unfold lI; rw [ho]; rfl
  · have d1 : decide (((b.count 13 : Nat) : Int) = ((pr false b : Nat) : Int)) = false := decide_eq_false (by omega)
    have ho : okD false b = false := by
      cases q : okD false b with
      | false => rfl
      | true => exact absurd (hk.2 q).2.symm h1
    rw [d1, eC, eC]
    unfold lI; rw [ho]; rfl
theorem fl_cons (l : Bs) (ls : List Bs) : flD (l :: ls) = l ++ 13 :: 10 :: flD ls := by simp [flD, lnD]
theorem stuff_k (acc l : Bs) (ha : acc.length + l.length ≤ 10000000) : cS acc (lnD l) = some (acc ++ og l, true) := by
  unfold cS fY
  have hln : (lnD l).length = l.length + 2 := by simp [lnD]
  rw [bO (by omega), bf, mY (by omega)]
  cases l with
  | nil =>
    have : (lnD [])[0]'(by simp [lnD]) = 13 := rfl
    rw [this, bF (by decide), bU (by omega), bf]
    rfl
  | cons c l =>
    have : (lnD (c :: l))[0]'(by simp [lnD]) = c := rfl
    rw [this]
    simp only [List.length_cons] at ha hln
    by_cases h : c = 46
    · subst h
      rw [bT rfl, bU (by simp; omega), bf, bU (by simp; omega), bf]
      simp [og]
    · rw [bF h, bU (by omega), bf]
      simp [og, h]
theorem oP : ∀ (ls : List Bs) (n : Nat) (acc : Bs), (∀ l ∈ ls, NoCr l) → ls.length < n → (flD ls).length ≤ 1100000 → acc.length + 2 * (flD ls).length ≤ 5000000 →
    fB (fun s x => cS s x) n (flD ls, acc) = some (acc ++ (ls.map og).flatten, [])
  | ls, 0, acc, _, hn, _, _ => by omega
  | [], n + 1, acc, h, hn, hl, ha => by
    show et (fun s x => cS s x) (fB (fun s x => cS s x) n) [] acc = _
    unfold et
    have e2 : ([13, 10] : Bs).length = 2 := Eq.symm (Eq.symm rfl)
    have e0 : ([] : Bs).length = 0 := Eq.symm (Eq.symm rfl)
    rw [e2, e0, jE (by omega), oc (by omega), jE (by omega), bf, idx_nil, bT (by decide)]
    simp
  | l :: ls, n + 1, acc, h, hn, hl, ha => by
    show et (fun s x => cS s x) (fB (fun s x => cS s x) n) (flD (l :: ls)) acc = _
    unfold et
    have e2 : ([13, 10] : Bs).length = 2 := Eq.symm (Eq.symm rfl)
    have hlen : (flD (l :: ls)).length = l.length + 2 + (flD ls).length := by rw [fl_cons]; simp; omega
    have hi : Go.Lib.index (flD (l :: ls)) [13, 10] = (l.length : Int) := by rw [fl_cons]; exact idx_ln l _ (h l (by simp))
    have e : (l.length : Int) + 2 = ((l.length + 2 : Nat) : Int) := by omega
    have ht : (flD (l :: ls)).take (l.length + 2) = lnD l := by
      rw [fl_cons, show l ++ 13 :: 10 :: flD ls = lnD l ++ flD ls by simp [lnD], List.take_left' (by simp [lnD])]
    have hd : (flD (l :: ls)).drop (l.length + 2) = flD ls := by
      rw [fl_cons, show l ++ 13 :: 10 :: flD ls = lnD l ++ flD ls by simp [lnD], List.drop_left' (by simp [lnD])]
    have hk : (fun (s x : Bs) => cS s x) acc (lnD l) = some (acc ++ og l, true) := stuff_k acc l (by omega)
    have hdl : (og l).length ≤ l.length + 3 := by unfold og lnD; split <;> simp
    rw [e2, jE (by omega), oc (by omega), jE (by omega), bf, hi, bF (by omega), ci (by omega), eG (by omega), bf, e, to_nat, ht, hk, bM, ntr, cfl, ci (by omega), eG (by omega), bf, kh, hd]
    rw [oP ls n (acc ++ og l) (fun x hx => h x (by simp [hx])) (by simp at hn; omega) (by omega) (by rw [List.length_append]; omega)]
    simp
theorem fl_len (ls : List Bs) : 2 * ls.length ≤ (flD ls).length := by
  induction ls with
  | nil => simp [flD]
  | cons l ls ih => rw [fl_cons]; simp; omega
theorem pQ (F : Nat) (b : Bs) (hb : b.length ≤ 1100000) (hF : b.length < F) : jj F b = some (kl b, if lI b = true then 0 else 1) := by
  unfold jj lw kz
  rw [tE F b hb hF, bn]
  unfold kl
  cases hm : lI b with
  | false => rfl
  | true =>
    rw [ntr, cfl, bn]
    obtain ⟨ls, hc, rfl⟩ := qb hm
    have := fl_len ls
    rw [oP ls F [] hc (by omega) hb (by simp; omega), bM]
    unfold hZ
    rw [oY ls hc]
    have hle : ((ls.map og).flatten).length ≤ 2 * (flD ls).length := by rw [← oY ls hc]; exact tn _ _
    rw [bU (by simp at hle ⊢; omega), bf]
    rfl
def p13 (b : Bs) (i : Nat) : Bool := decide (0 < i) && decide (b[i - 1]? = some 13)
def p10 (b : Bs) (i : Nat) : Bool := decide (i = 0) || decide (b[i - 1]? = some 10)
theorem sy {b : Bs} {i : Nat} (h : i < b.length) : p13 b (i + 1) = decide (b[i] = 13) := by
  unfold p13
  rw [decide_eq_true (by omega), dG, Nat.add_sub_cancel, aD h]
  simp
theorem p10_s {b : Bs} {i : Nat} (h : i < b.length) : p10 b (i + 1) = decide (b[i] = 10) := by
  unfold p10
  rw [decide_eq_false (by omega), fo, Nat.add_sub_cancel, aD h]
  simp
theorem rmay_end (b : Bs) (hb : b.length ≤ 1100000) : fW b = some (endD b) := by
  unfold fW endD
  by_cases h : b = []
  · subst h; rfl
  · have hl : 0 < b.length := List.length_pos_iff.2 h
    have e : (b.length : Int) - 1 = ((b.length - 1 : Nat) : Int) := by omega
    rw [gcI (by omega), eK (fun _ => by omega), bf, e, dj (by omega), decide_eq_false (p := ((b.length : Int) = 0)) (by omega), decide_eq_false h, fo, fo, List.getLast?_eq_getElem?, aD (by omega)]
    simp
theorem ug (b : Bs) (hb : b.length ≤ 1100000) : ∀ (n i : Nat), b.length - i < n → i ≤ b.length → (p13 b i = true → (b.drop i).head? = some 10) →
    hM b n (i : Int) = some (okD (p13 b i) (b.drop i) && endD b) := by
  intro n
  induction n with
  | zero => intro i h; omega
  | succ n ih =>
    intro i hn hi hp;show hO b (hM b n) (i : Int) = _
    unfold hO
    by_cases h : i < b.length
    · have ea : at_ b (i : Int) = b[i] := dj h
      have en : ∀ q : i + 1 < b.length, at_ b ((i : Int) + 1) = b[i + 1] := fun q => by rw [cn]; exact dj q
      have hd : b.drop i = b[i] :: b.drop (i + 1) := aP h
      rw [bT (by omega), bO (by omega), bf, ea, gcI (by omega), gcI (by omega)]
      have g1 : ∀ (x : Option Bool), dk ((decide (b[i] = 13)) && (!(decide ((b.length : Int) ≤ (i : Int) + 1)))) (ct ((i : Int) + 1) b.length) x = x := fun x => eK fun e => by
        simp only [Bool.and_eq_true, Bool.not_eq_true', decide_eq_false_iff_not] at e
        omega
      rw [g1, bf, eK (fun _ => by omega), bf, gcI (by omega)]
      have g2 : ∀ (c : Bool) (x : Option Bool), dk (c && (!(decide ((i : Int) = 0)))) (ct ((i : Int) - 1) b.length) x = x := fun c x => eK fun e => by
        simp only [Bool.and_eq_true, Bool.not_eq_true', decide_eq_false_iff_not] at e
        omega
      rw [g2, bf, hd]
      have ep : p13 b i = (decide (0 < i) && decide (at_ b ((i : Int) - 1) = 13)) := by
        unfold p13
        by_cases h0 : 0 < i
        · rw [show (i : Int) - 1 = ((i - 1 : Nat) : Int) by omega, dj (by omega), aD (by omega)]
          simp
        · rw [decide_eq_false h0, eC, eC]
      by_cases c13 : b[i] = 13
      · have hp' : p13 b i = false := by
          cases q : p13 b i with
          | false => rfl
          | true =>
            have := hp q
            rw [hd, c13] at this
            simp at this
        rw [c13, hp', pj, decide_eq_true (p := (13 : UInt8) = 13) rfl, dG, show decide ((13 : UInt8) = 10) = false from rfl, eC, Bool.or_false, nfl, dG]
        by_cases q : i + 1 < b.length
        · have hd2 : b.drop (i + 1) = b[i + 1] :: b.drop (i + 2) := aP q
          rw [en q, decide_eq_false (p := (b.length : Int) ≤ (i : Int) + 1) (by omega), fo]
          by_cases c10 : b[i + 1] = 10
          · rw [decide_eq_true c10, ntr, cfl, ci (by omega), cn, ih (i + 1) (by omega) (by omega) (fun _ => by rw [hd2, c10]; rfl), sy h, decide_eq_true c13]
          · rw [decide_eq_false c10, nfl, ctr, hd2]
            have : okD true (b[i + 1] :: b.drop (i + 2)) = false := by
              by_cases g : b[i + 1] = 13
              · rw [g, pj]; rfl
              · rw [sB _ _ g c10]; rfl
            rw [this]; rfl
        · rw [decide_eq_true (p := (b.length : Int) ≤ (i : Int) + 1) (by omega), Bool.true_or, ctr, aR (by omega)]
          rfl
      · have e13 : decide (b[i] = 13) = false := decide_eq_false c13
        rw [e13, eC, fo]
        by_cases c10 : b[i] = 10
        · rw [c10, rl, decide_eq_true (p := (10 : UInt8) = 10) rfl, dG, ep]
          by_cases h0 : 0 < i
          · rw [decide_eq_false (p := (i : Int) = 0) (by omega), fo, decide_eq_true h0, dG]
            by_cases g : at_ b ((i : Int) - 1) = 13
            · rw [decide_eq_true g, ntr, cfl, dG, ci (by omega), cn, ih (i + 1) (by omega) (by omega) (fun q => by rw [sy h, e13] at q; cases q), sy h, e13]
            · rw [decide_eq_false g, nfl, ctr]; rfl
          · rw [decide_eq_true (p := (i : Int) = 0) (by omega), Bool.true_or, ctr, decide_eq_false h0]; rfl
        · have hp' : p13 b i = false := by
            cases q : p13 b i with
            | false => rfl
            | true =>
              have := hp q
              rw [hd] at this
              exact absurd (ay this) c10
          rw [decide_eq_false c10, eC, cfl, hp', sB _ _ c13 c10, nfl, dG, ci (by omega), cn, ih (i + 1) (by omega) (by omega) (fun q => by rw [sy h, e13] at q; cases q), sy h, e13]
    · rw [bF (by omega), rmay_end b hb, aR (by omega)]
      have hp' : p13 b i = false := by
        cases q : p13 b i with
        | false => rfl
        | true =>
          have := hp q
          rw [aR (by omega)] at this
          cases this
      rw [hp']; rfl
theorem pW (F : Nat) (b : Bs) (hb : b.length ≤ 1100000) (hF : b.length < F) : jg F b = some (lI b) := by
  unfold jg
  have := ug b hb F 0 (by omega) (by omega) (fun q => by cases q)
  exact this
theorem rF (b : Bs) (hb : b.length ≤ 1100000) : ∀ (n i : Nat) (acc : Bs), b.length - i < n → i ≤ b.length → acc.length ≤ 2 * i →
    dt b n (acc, (i : Int)) = some (acc ++ stD (p10 b i) (b.drop i) ++ [46, 13, 10], 0) := by
  intro n
  induction n with
  | zero => intro i acc h; omega
  | succ n ih =>
    intro i acc hn hi ha;show fK b (dt b n) acc (i : Int) = _
    unfold fK
    by_cases h : i < b.length
    · have ea : at_ b (i : Int) = b[i] := dj h
      have hd : b.drop i = b[i] :: b.drop (i + 1) := aP h
      have g2 : ∀ (c : Bool) (x : Option (Bs × Int)), dk (c && (!(decide ((i : Int) = 0)))) (ct ((i : Int) - 1) b.length) x = x := fun c x => eK fun e => by
        simp only [Bool.and_eq_true, Bool.not_eq_true', decide_eq_false_iff_not] at e
        omega
      have ep : p10 b i = (decide ((i : Int) = 0) || decide (at_ b ((i : Int) - 1) = 10)) := by
        unfold p10
        by_cases h0 : i = 0
        · rw [decide_eq_true h0, decide_eq_true (p := (i : Int) = 0) (by omega), Bool.true_or, Bool.true_or]
        · rw [decide_eq_false h0, decide_eq_false (p := (i : Int) = 0) (by omega), fo, fo, show (i : Int) - 1 = ((i - 1 : Nat) : Int) by omega, dj (by omega), aD (by omega)]
          simp
      have key : ∀ acc' : Bs, acc'.length ≤ 2 * i + 1 → dT b (i : Int) (dt b n) acc' = some (acc' ++ [b[i]] ++ stD (decide (b[i] = 10)) (b.drop (i + 1)) ++ [46, 13, 10], 0) := fun acc' h' => by
        unfold dT
        have e1 : ([b[i]] : Bs).length = 1 := rfl
        rw [bO (by omega), bf, ea, e1, bU (by omega), bf, ci (by omega), cn, ih (i + 1) _ (by omega) (by omega) (by rw [List.length_append]; simp; omega), p10_s h]
      rw [bT (by omega), bO (by omega), bf, ea, gcI (by omega), g2, bf, hd, ← ep]
      have es : stD (p10 b i) (b[i] :: b.drop (i + 1)) = (if p10 b i = true ∧ b[i] = 46 then [46, b[i]] else [b[i]]) ++ stD (decide (b[i] = 10)) (b.drop (i + 1)) := rfl
      rw [es]
      by_cases q : p10 b i = true ∧ b[i] = 46
      · rw [if_pos q, q.1, decide_eq_true q.2, dG, ctr]
        have e1 : ([46] : Bs).length = 1 := rfl
        rw [e1, bU (by omega), bf, key _ (by rw [List.length_append, e1]; omega)]
        simp
      · have : (decide (b[i] = 46) && p10 b i) = false := by
          cases q1 : p10 b i with
          | false => rw [Bool.and_false]
          | true => rw [decide_eq_false (fun e => q ⟨q1, e⟩)]; rfl
        rw [if_neg q, this, cfl, key _ (by omega)]
        simp
    · rw [bF (by omega), aR (by omega)]
      unfold fJ
      have e3 : ([46, 13, 10] : Bs).length = 3 := rfl
      rw [e3, bU (by omega), bf]
      simp [stD]
theorem uc (F : Nat) (b : Bs) (hb : b.length ≤ 1100000) (hF : b.length < F) : iH F b = some (kl b, if lI b = true then 0 else 1) := by
  unfold iH kl
  rw [pW F b hb hF, bn]
  cases hm : lI b with
  | false => rfl
  | true =>
    rw [ntr, cfl]
    have := rF b hb F 0 [] (by omega) (by omega) (by simp)
    exact this
end Go.Cl
namespace Go.Cl
open Go.Pv Go.Av
open Go.Dg (cfl ctr dG eC fo nfl ntr)
theorem low_32 (c : UInt8) : c + 97 - 65 = c + 32 := by
  have : ∀ k : Fin 256, UInt8.ofNat k.val + 97 - 65 = UInt8.ofNat k.val + 32 := by decide +kernel
  have h1 := this ⟨c.toNat, c.toNat_lt⟩
  simpa using h1
theorem low_sp (c : UInt8) : gc c = 32 ↔ c = 32 := by
  have : ∀ k : Fin 256, gc (UInt8.ofNat k.val) = 32 ↔ UInt8.ofNat k.val = 32 := by decide +kernel
  have h1 := this ⟨c.toNat, c.toNat_lt⟩
  simpa using h1
theorem low_t {c : UInt8} (h : 65 ≤ c.toNat ∧ c.toNat ≤ 90) : gc c = c + 97 - 65 := by unfold gc; rw [if_pos h]
theorem low_f {c : UInt8} (h : ¬ (65 ≤ c.toNat ∧ c.toNat ≤ 90)) : gc c = c := by unfold gc; rw [if_neg h]
theorem low_c (c : UInt8) : ((decide (65 ≤ (c.toNat : Int))) && (decide ((c.toNat : Int) ≤ 90))) = decide (65 ≤ c.toNat ∧ c.toNat ≤ 90) := by
  by_cases h : 65 ≤ c.toNat
  · by_cases g : c.toNat ≤ 90
    · rw [decide_eq_true (by omega), decide_eq_true (by omega), decide_eq_true ⟨h, g⟩]; rfl
    · rw [decide_eq_true (by omega), decide_eq_false (by omega), decide_eq_false (by omega)]; rfl
  · rw [decide_eq_false (p := 65 ≤ (c.toNat : Int)) (by omega), decide_eq_false (p := 65 ≤ c.toNat ∧ c.toNat ≤ 90) (by omega)]; rfl
theorem oL (w : Bs) : ∀ (r p : Bs) (n : Nat), r.length < n → (p ++ r).length ≤ 1000000 →
    eQ (p ++ r) w n ((p.length : Int), p.map gc ++ r) = some (decide ((p ++ r).map gc = w))
  | r, p, 0, hn, _ => by omega
  | [], p, n + 1, hn, hl => by
    rw [List.append_nil, List.append_nil] at *
    show fQ p w (eQ p w n) (p.length : Int) (p.map gc) = _
    unfold fQ iM
    rw [bF (by omega), oc (by rw [List.length_map])]
  | c :: r, p, n + 1, hn, hl => by
    show fQ (p ++ c :: r) w (eQ (p ++ c :: r) w n) (p.length : Int) (p.map gc ++ c :: r) = _
    have h1 : p.length < (p ++ c :: r).length := by simp
    have h2 : p.length < (p.map gc ++ c :: r).length := by simp
    have ea : (p.map gc ++ c :: r)[p.length] = c := by
      rw [List.getElem_append_right (by simp)]; simp
    have ih := oL w r (p ++ [c]) n (by simp at hn; omega) (by simpa using hl)
    have e1 : p ++ [c] ++ r = p ++ c :: r := by simp
    have e2 : (p ++ [c]).map gc ++ r = p.map gc ++ gc c :: r := by simp
    have e3 : ((p ++ [c]).length : Int) = (p.length : Int) + 1 := by simp
    rw [e1, e2, e3] at ih
    unfold fQ gM
    rw [bT (by omega), bO (by omega), bO (by omega), bf, dj h2, ea, low_c]
    by_cases h : 65 ≤ c.toNat ∧ c.toNat ≤ 90
    · have es : (p.map gc ++ c :: r).set p.length (c + 97 - 65) = p.map gc ++ (c + 97 - 65) :: r := by
        rw [List.set_append_right _ _ (by simp)]; simp
      rw [bT h, bO (by omega), bO (by omega), bf, Int.toNat_natCast, es, ci (by omega), ← low_t h]
      exact ih
    · rw [bF h, ci (by omega)]
      rw [low_f h] at ih
      exact ih
theorem small_eq (F : Nat) (s w : Bs) (hs : s.length ≤ 1000000) (hF : s.length < F) : lf F s w = some (decide (s.map gc = w)) := by
  unfold lf
  rw [bU (by omega)]
  exact oL w s [] F hF hs
theorem nG : ∀ (r p : Bs) (n : Nat), r.length < n → (p ++ r).length ≤ 1000000 →
    du (p ++ r) n (p.map gc, (p.length : Int)) = some ((p ++ r).map gc)
  | r, p, 0, hn, _ => by omega
  | [], p, n + 1, hn, hl => by
    rw [List.append_nil] at *
    show dV p (du p n) (p.map gc) (p.length : Int) = _
    unfold dV fM
    rw [bF (by omega)]
  | c :: r, p, n + 1, hn, hl => by
    show dV (p ++ c :: r) (du (p ++ c :: r) n) (p.map gc) (p.length : Int) = _
    have h1 : p.length < (p ++ c :: r).length := by simp
    have ea : (p ++ c :: r)[p.length] = c := by
      rw [List.getElem_append_right (by simp)]; simp
    have ih := nG r (p ++ [c]) n (by simp at hn; omega) (by simpa using hl)
    have e1 : p ++ [c] ++ r = p ++ c :: r := by simp
    have e2 : (p ++ [c]).map gc = p.map gc ++ [gc c] := by simp
    have e3 : ((p ++ [c]).length : Int) = (p.length : Int) + 1 := by simp
    have el : (p.map gc).length = p.length := List.length_map _
    have e4 : ∀ x : UInt8, ([x] : Bs).length = 1 := fun _ => rfl
    rw [e1, e2, e3] at ih
    unfold dV eF
    rw [bT (by omega), bO (by omega), bf, dj h1, ea, low_c]
    by_cases h : 65 ≤ c.toNat ∧ c.toNat ≤ 90
    · rw [bT h, e4, el, bU (by omega), bf, ci (by omega), ← low_32, ← low_t h]
      exact ih
    · rw [bF h, e4, el, bU (by omega), bf, ci (by omega)]
      rw [low_f h] at ih
      exact ih
theorem ue (F : Nat) (s : Bs) (hs : s.length ≤ 1000000) (hF : s.length < F) : iI F s = some (s.map gc) := by
  unfold iI
  exact nG s [] F hF hs
theorem tt {c : UInt8} (h : jI c = true) : Go.Dg.Dig c := by
  unfold jI at h
  simp only [Bool.and_eq_true, decide_eq_true_eq] at h
  exact h
theorem Atoi_dig (F : Nat) (s : Bs) (h1 : 1 ≤ s.length) (h9 : s.length ≤ 9) (hd : ∀ c ∈ s, Go.Dg.Dig c) (hF : 100 < F) : cR F s = some (((Go.Dg.val 0 s : Nat) : Int), 0) := by
  have h0 : at_ s 0 = s[0] := mY (by omega)
  have hd0 := hd _ (List.getElem_mem (show 0 < s.length by omega))
  have n45 : s[0] ≠ 45 := fun e => by rw [e] at hd0; exact absurd hd0.1 (by decide)
  have n43 : s[0] ≠ 43 := fun e => by rw [e] at hd0; exact absurd hd0.1 (by decide)
  have hc : ((decide (0 < (s.length : Int))) && (decide ((s.length : Int) < 19))) = true := by
    rw [decide_eq_true (by omega), decide_eq_true (by omega)]; rfl
  have hg : ∀ (c : Bool) (x : Option (Int × Int)), dk c (ct 0 s.length) x = x := fun c x => eK fun _ => by omega
  have e : ic F s = some (((Go.Dg.val 0 s : Nat) : Int), 0) := by
    unfold ic eV
    rw [hc, ctr, bO (by omega), bf, hg, bf, h0, decide_eq_false n45, decide_eq_false n43, fo, cfl, bU (by omega)]
    have := Go.Dg.atoi_loop s s (by omega) hd F 0 0 (by omega) (by omega) (by omega)
    refine Eq.trans this ?_
    rw [List.drop_zero]
    unfold eW eX
    rw [bO (by omega), bf, h0, decide_eq_false n45, cfl]
  unfold cR
  rw [e, bM, decide_eq_true rfl, ntr, cfl]
abbrev digs : Bs := [48, 49, 50, 51, 52, 53, 54, 55, 56, 57]
theorem digs_c (c : UInt8) : digs.contains c = jI c := by
  have : ∀ k : Fin 256, digs.contains (UInt8.ofNat k.val) = jI (UInt8.ofNat k.val) := by decide +kernel
  have h1 := this ⟨c.toNat, c.toNat_lt⟩
  simpa using h1
theorem rm (f : UInt8 → Bool) : ∀ l : Bs, l.dropWhile f = [] ↔ ∀ x ∈ l, f x = true
  | [] => by simp
  | c :: l => by
    have ih := rm f l
    cases h : f c with
    | true => simp [List.dropWhile_cons, h, ih]
    | false => simp [List.dropWhile_cons, h]
theorem tY (t : Bs) : decide (Go.Lib.trimS t digs = []) = t.all jI := by
  unfold Go.Lib.trimS Go.Lib.trimLeftS Go.Lib.trimRightS
  have e : (fun x => digs.contains x) = jI := funext digs_c
  rw [e]
  cases h : t.all jI with
  | true =>
    rw [List.all_eq_true] at h
    refine decide_eq_true ?_
    have : t.reverse.dropWhile jI = [] := by
      rw [rm]; intro x hx; exact h x (List.mem_reverse.1 hx)
    rw [this]; rfl
  | false =>
    rw [List.all_eq_false] at h
    obtain ⟨x, hx, hn⟩ := h
    refine decide_eq_false fun q => ?_
    rw [rm] at q
    have hne : t.reverse.dropWhile jI ≠ [] := by
      intro e
      rw [rm] at e
      exact hn (e x (List.mem_reverse.2 hx))
    have := List.head_dropWhile_not jI (l := t.reverse) hne
    have hm := q _ (List.mem_reverse.2 (List.head_mem hne))
    rw [hm] at this
    simp at this
theorem tH (b c : UInt8) (l : Bs) : Go.Lib.index (b :: l) [c] = if b = c then 0 else if Go.Lib.index l [c] = -1 then -1 else Go.Lib.index l [c] + 1 := by
  by_cases h : b = c
  · subst h; simp [Go.Lib.index]
  · simp [Go.Lib.index, h, Ne.symm h]
theorem cut_hit (c : UInt8) (l : Bs) : Go.Lib.cut (c :: l) [c] = ([], l, true) := by
  unfold Go.Lib.cut
  rw [tH, if_pos rfl]; rfl
theorem sv {b c : UInt8} (h : ¬ b = c) (l : Bs) : Go.Lib.cut (b :: l) [c] = (b :: (Go.Lib.cut l [c]).1, (Go.Lib.cut l [c]).2) := by
  have hge := Go.Lib.index_ge l [c]
  unfold Go.Lib.cut
  rw [tH, if_neg h]
  by_cases hm : Go.Lib.index l [c] = -1
  · rw [if_pos hm, hm]; rfl
  · rw [if_neg hm, if_pos (by omega), if_pos (by omega)]
    have h3 : (Go.Lib.index l [c] + 1).toNat = (Go.Lib.index l [c]).toNat + 1 := by omega
    rw [h3]
    simp only [List.take_succ_cons, List.length_singleton, List.drop_succ_cons]
theorem pn (c : UInt8) (r : Bs) : ∀ d : Bs, (∀ x ∈ d, x ≠ c) → Go.Lib.cut (d ++ c :: r) [c] = (d, r, true)
  | [], _ => cut_hit c r
  | b :: d, h => by
    rw [List.cons_append, sv (h b (List.mem_cons_self ..)), pn c r d fun x hx => h x (List.mem_cons_of_mem _ hx)]
theorem pm (c : UInt8) : ∀ d : Bs, (∀ x ∈ d, x ≠ c) → Go.Lib.cut d [c] = (d, [], false)
  | [], _ => by simp [Go.Lib.cut, Go.Lib.index]
  | b :: d, h => by rw [sv (h b (by simp)), pm c d fun x hx => h x (by simp [hx])]
theorem ke (c : UInt8) : ∀ s : Bs, (∀ x ∈ s, x ≠ c) ∨ ∃ p q, s = p ++ c :: q ∧ ∀ x ∈ p, x ≠ c
  | [] => .inl fun x hx => by cases hx
  | b :: s => by
    by_cases h : b = c
    · subst h; exact .inr ⟨[], s, rfl, fun x hx => by cases hx⟩
    · rcases ke c s with g | ⟨p, q, rfl, g⟩
      · left; intro x hx
        rcases List.mem_cons.1 hx with rfl | hx
        · exact h
        · exact g x hx
      · right; refine ⟨b :: p, q, rfl, fun x hx => ?_⟩
        rcases List.mem_cons.1 hx with rfl | hx
        · exact h
        · exact g x hx
def sizeC (w t : Bs) (is : Bool) : Option Nat := if (((is = true ∧ w.map gc = [115, 105, 122, 101]) ∧ t ≠ []) ∧ t.length ≤ 9) ∧ t.all jI = true then some (Go.Dg.val 0 t) else none
theorem sm {s : Bs} (h6 : 6 ≤ s.length) (h : (s.take 5).map gc = [115, 105, 122, 101, 32]) : ∃ p q, s = p ++ 32 :: q ∧ (∀ x ∈ p, x ≠ 32) ∧ p.map gc = [115, 105, 122, 101] ∧ p.length = 4 := by
  match s, h6, h with
  | a :: b :: c :: d :: e :: q, _, h =>
    simp only [List.take_succ_cons, List.take_zero, List.map_cons, List.map_nil, List.cons.injEq, and_true] at h
    obtain ⟨ha, hb, hc, hd, he⟩ := h
    have he := (low_sp e).1 he
    have hn : ∀ {x y : UInt8}, gc x = y → y ≠ 32 → x ≠ 32 := fun {x y} h1 h2 h3 => h2 (by rw [← h1]; exact (low_sp x).2 h3)
    subst he;refine ⟨[a, b, c, d], q, rfl, ?_, by simp [ha, hb, hc, hd], rfl⟩;intro x hx
    simp only [List.mem_cons, List.not_mem_nil, or_false] at hx
    rcases hx with rfl | rfl | rfl | rfl
    · exact hn ha (by decide)
    · exact hn hb (by decide)
    · exact hn hc (by decide)
    · exact hn hd (by decide)
theorem tL {c : UInt8} : ∀ {p p' q q' : Bs}, (∀ x ∈ p, x ≠ c) → (∀ x ∈ p', x ≠ c) → p ++ c :: q = p' ++ c :: q' → p = p' ∧ q = q'
  | [], [], q, q', _, _, h => ⟨rfl, by simpa using h⟩
  | [], b :: p', q, q', _, h2, h => by
    simp at h; exact absurd h.1.symm (h2 b (by simp))
  | a :: p, [], q, q', h1, _, h => by
    simp at h; exact absurd h.1 (h1 a (by simp))
  | a :: p, b :: p', q, q', h1, h2, h => by
    simp only [List.cons_append, List.cons.injEq] at h
    obtain ⟨e1, e2⟩ := tL (fun x hx => h1 x (by simp [hx])) (fun x hx => h2 x (by simp [hx])) h.2;exact ⟨by rw [h.1, e1], e2⟩
theorem sizeW_eq (s : Bs) : mg s = sizeC (Go.Lib.cut s [32]).1 (Go.Lib.cut s [32]).2.1 (Go.Lib.cut s [32]).2.2 := by
  rcases ke 32 s with h | ⟨p, q, rfl, h⟩
  · rw [pm 32 s h]
    unfold sizeC mg
    have : ¬ ((6 ≤ s.length ∧ s.length ≤ 14) ∧ (s.take 5).map gc = [115, 105, 122, 101, 32] ∧ (s.drop 5).all jI = true) := fun g => by
      obtain ⟨p, q, rfl, _⟩ := sm g.1.1 g.2.1;exact h 32 (by simp) rfl
    rw [if_neg this, if_neg (by rintro ⟨⟨⟨⟨q, _⟩, _⟩, _⟩, _⟩; cases q)]
  · rw [pn 32 q p h]
    unfold sizeC mg
    by_cases g : p.map gc = [115, 105, 122, 101]
    · have hl : p.length = 4 := by have := congrArg List.length g; simpa using this
      have e1 : (p ++ 32 :: q).take 5 = p ++ [32] := by rw [show p ++ 32 :: q = (p ++ [32]) ++ q by simp, List.take_left' (by simp [hl])]
      have e2 : (p ++ 32 :: q).drop 5 = q := by rw [show p ++ 32 :: q = (p ++ [32]) ++ q by simp, List.drop_left' (by simp [hl])]
      have e3 : (p ++ [32]).map gc = [115, 105, 122, 101, 32] := by rw [List.map_append, g]; rfl
      have e4 : (p ++ 32 :: q).length = 5 + q.length := by simp [hl]; omega
      rw [e1, e2, e3, e4]
      by_cases k : ((1 ≤ q.length) ∧ q.length ≤ 9) ∧ q.all jI = true
      · rw [if_pos ⟨by omega, rfl, k.2⟩, if_pos ⟨⟨⟨⟨rfl, g⟩, fun e => by have e : q = [] := e; rw [e] at k; simp at k⟩, k.1.2⟩, k.2⟩]
      · rw [if_neg (fun z => k ⟨by omega, z.2.2⟩), if_neg (fun z => k ⟨⟨List.length_pos_iff.2 z.1.1.2, z.1.2⟩, z.2⟩)]
    · rw [if_neg (fun z => by
        obtain ⟨p', q', e, h', g', _⟩ := sm z.1.1 z.2.1;obtain ⟨rfl, _⟩ := tL h h' e
        exact g g'), if_neg (fun z => g z.1.1.1.2)]
theorem cut_len (s : Bs) : (Go.Lib.cut s [32]).1.length ≤ s.length ∧ (Go.Lib.cut s [32]).2.1.length ≤ s.length := by
  rcases ke 32 s with h | ⟨p, q, rfl, h⟩
  · rw [pm 32 s h]; simp
  · rw [pn 32 q p h]; simp; omega
theorem oM (s : Bs) (r : List Bs) : qT (s :: r) = match mg s with | some n => n | none => qT r := rfl
theorem pT (F : Nat) (hF : 2000 < F) (ls : List Bs) (rec : Int → Option Int) (i : Nat) (hi : i < ls.length) (hl : (ls[i]).length ≤ 1000) (hn : ls.length ≤ 1000000) :
    fb F ls rec (i : Int) = match (if i = 0 then none else mg ls[i]) with | some n => some ((n : Nat) : Int) | none => rec ((i + 1 : Nat) : Int) := by
  unfold fb
  obtain ⟨s, hs⟩ : ∃ s, s = ls[i] := ⟨_, rfl⟩
  rw [← hs] at hl ⊢
  obtain ⟨l1, l2⟩ := cut_len s
  rw [bT (by omega), bO (by omega), bf, dj hi, ← hs, jE (by omega), bf, small_eq F _ _ (by omega) (by omega), gP]
  rw [gcS (by omega), gcS (by decide)]
  have ga : ∀ (c : Bool) (x : Option Int), dk c (rr ([48, 49, 50, 51, 52, 53, 54, 55, 56, 57] : List UInt8)) x = x := fun c x => by
    cases c
    · exact ij
    · rw [jB]; rfl
  rw [ga, bf]
  unfold iv
  rw [ci (by omega), cn]
  by_cases h0 : i = 0
  · subst h0
    rw [if_pos rfl, show decide (((0 : Nat) : Int) = 0) = true from rfl, Bool.true_or, Bool.true_or, Bool.true_or, Bool.true_or, Bool.true_or, ctr]
  · rw [if_neg h0, sizeW_eq s, decide_eq_false (p := (i : Int) = 0) (by omega), fo]
    generalize (Go.Lib.cut s [32]).1 = w at *
    generalize (Go.Lib.cut s [32]).2.1 = t at *
    generalize (Go.Lib.cut s [32]).2.2 = is at *
    unfold sizeC
    cases is with
    | false =>
      rw [nfl, Bool.true_or, Bool.true_or, Bool.true_or, Bool.true_or, ctr, if_neg (fun z => by cases z.1.1.1.1)]
    | true =>
      rw [ntr, nfl, ctr, fo]
      by_cases g : w.map gc = [115, 105, 122, 101]
      · rw [decide_eq_true g, ntr, fo]
        by_cases g0 : t = []
        · rw [decide_eq_true g0, Bool.true_or, Bool.true_or, ctr, if_neg (fun z => z.1.1.2 g0)]
        · rw [decide_eq_false g0, fo]
          by_cases g9 : t.length ≤ 9
          · rw [decide_eq_false (p := (9 : Int) < (t.length : Int)) (by omega), fo, show decide (Go.Lib.trimS t ([48, 49, 50, 51, 52, 53, 54, 55, 56, 57] : List UInt8) = []) = t.all jI from tY t]
            cases gd : t.all jI with
            | false =>
              rw [nfl, ctr, if_neg (fun z => by cases z.2)]
            | true =>
              have hp := List.length_pos_iff.2 g0
              rw [ntr, cfl, if_pos ⟨⟨⟨⟨rfl, g⟩, g0⟩, g9⟩, rfl⟩, Atoi_dig F t hp g9 (fun c hc => tt (List.all_eq_true.1 gd c hc)) (by omega), bM, bT rfl]
          · rw [decide_eq_true (p := (9 : Int) < (t.length : Int)) (by omega), Bool.true_or, ctr, if_neg (fun z => g9 z.1.2)]
      · rw [decide_eq_false g, nfl, Bool.true_or, Bool.true_or, Bool.true_or, ctr, if_neg (fun z => g z.1.1.1.2)]
theorem ua (F : Nat) (hF : 2000 < F) (ls : List Bs) (hl : ∀ s ∈ ls, s.length ≤ 1000) (hn : ls.length ≤ 1000000) : ∀ (n i : Nat), ls.length - i < n → i ≤ ls.length → 0 < i →
    fS F ls n (i : Int) = some ((qT (ls.drop i) : Nat) : Int) := by
  intro n
  induction n with
  | zero => intro i h; omega
  | succ n ih =>
    intro i hn' hi hp;show fb F ls (fS F ls n) (i : Int) = _
    by_cases h : i < ls.length
    · rw [pT F hF ls _ i h (hl _ (List.getElem_mem h)) hn, if_neg (by omega), aP h, oM]
      cases mg ls[i] with
      | some k => rfl
      | none => exact ih (i + 1) (by omega) (by omega) (by omega)
    · unfold fb
      rw [bF (by omega), aR (by omega)]; rfl
theorem size_eq (F : Nat) (hF : 2000 < F) (c : Int) (ls : List Bs) (x y z : Int) (hl : ∀ s ∈ ls, s.length ≤ 1000) (hn : ls.length ≤ 1000000) (hlF : ls.length < F) : mX F c ls x y z = some ((dW ls : Nat) : Int) := by
  unfold mX dW
  obtain ⟨m, rfl⟩ : ∃ m, F = m + 1 := ⟨F - 1, by omega⟩;show fb (m + 1) ls (fS (m + 1) ls m) ((0 : Nat) : Int) = _
  by_cases h : 0 < ls.length
  · rw [pT (m + 1) hF ls _ 0 h (hl _ (List.getElem_mem h)) hn, if_pos rfl]
    exact ua (m + 1) hF ls hl hn m 1 (by omega) (by omega) (by omega)
  · unfold fb
    rw [bF (by omega), aR (by omega)]; rfl
theorem rsize_in (i : Int) (s : Bs) (hs : s.length ≤ 14) (rec : Int → Option Int) (X : Option Int) (hX : dI i rec = X) : ∀ (n k : Nat) (y : Int) (f : Bool), s.length - k < n → k ≤ s.length → 5 ≤ k → (-(10 ^ k : Nat) + 100 ≤ y ∧ y ≤ (10 ^ k : Nat) - 100) → (f = true → 0 ≤ y) →
    gg i s rec n (y, f, (k : Int)) = if f = true ∧ (s.drop k).all jI = true then some ((Go.Dg.val y.toNat (s.drop k) : Nat) : Int) else X := by
  intro n
  induction n with
  | zero => intro k y f h; omega
  | succ n ih =>
    intro k y f hn hk h5 hy hf;show gh i s rec (gg i s rec n) y f (k : Int) = _
    unfold gh
    by_cases h : k < s.length
    · have h14 : 10 ^ k ≤ 10 ^ 14 := Nat.pow_le_pow_right (by omega) (by omega)
      have h5' : 10 ^ 5 ≤ 10 ^ k := Nat.pow_le_pow_right (by omega) h5
      have hs1 : 10 ^ (k + 1) = 10 * 10 ^ k := by rw [Nat.pow_succ]; omega
      have hc := (s[k]).toNat_lt
      rw [bT (by omega), eK (fun _ => by omega), bf, eK (fun _ => by omega), bf, dj h, ci (by omega), bO (by omega), bf, ci (by omega), ci (by omega), ci (by omega), cn]
      have ed : ((f && (decide (48 ≤ ((s[k]).toNat : Int)))) && (decide (((s[k]).toNat : Int) ≤ 57))) = (f && jI s[k]) := by
        unfold jI
        cases f with
        | false => rfl
        | true =>
          rw [dG, dG]
          by_cases a : 48 ≤ (s[k]).toNat
          · by_cases b : (s[k]).toNat ≤ 57
            · rw [decide_eq_true (by omega), decide_eq_true (by omega), decide_eq_true a, decide_eq_true b]
            · rw [decide_eq_false (p := ((s[k]).toNat : Int) ≤ 57) (by omega), decide_eq_false b, Bool.and_false, Bool.and_false]
          · rw [decide_eq_false (p := (48 : Int) ≤ ((s[k]).toNat : Int)) (by omega), decide_eq_false a]; rfl
      rw [ed, ih (k + 1) _ _ (by omega) (by omega) (by omega) (by omega) (fun q => by
        simp only [Bool.and_eq_true] at q
        have := tt q.2
        have := hf q.1
        unfold Go.Dg.Dig at *
        omega), aP h]
      by_cases q : f = true ∧ jI s[k] = true
      · have hd := tt q.2
        have h0 := hf q.1
        unfold Go.Dg.Dig at hd
        have ev : ((10 * y) + ((s[k]).toNat : Int) - 48).toNat = 10 * y.toNat + ((s[k]).toNat - 48) := by omega
        have evv : Go.Dg.val y.toNat (s[k] :: s.drop (k + 1)) = Go.Dg.val (10 * y.toNat + ((s[k]).toNat - 48)) (s.drop (k + 1)) := rfl
        rw [q.1, q.2, dG, ev, evv, List.all_cons, q.2, dG]
      · have : ¬ ((f && jI s[k]) = true ∧ (s.drop (k + 1)).all jI = true) := fun z => by
          have := z.1
          simp only [Bool.and_eq_true] at this
          exact q this
        have g : ¬ (f = true ∧ (s[k] :: s.drop (k + 1)).all jI = true) := fun z => by
          have := z.2
          rw [List.all_cons, Bool.and_eq_true] at this
          exact q ⟨z.1, this.1⟩
        rw [if_neg this, if_neg g]
    · rw [bF (by omega), aR (by omega)]
      unfold ge
      cases f with
      | false => rw [cfl, hX]; rfl
      | true =>
        have h0 := hf rfl
        rw [ctr, if_pos ⟨rfl, rfl⟩]
        show some y = some ((y.toNat : Nat) : Int)
        rw [Int.toNat_of_nonneg h0]
theorem sJ (F : Nat) (hF : 2000 < F) (ls : List Bs) (rec : Int → Option Int) (i : Nat) (hi : i < ls.length) (hl : (ls[i]).length ≤ 1000) (hn : ls.length ≤ 1000000) :
    eo F ls rec (i : Int) = match mg ls[i] with | some n => some ((n : Nat) : Int) | none => rec ((i + 1 : Nat) : Int) := by
  unfold eo
  obtain ⟨s, hs⟩ : ∃ s, s = ls[i] := ⟨_, rfl⟩
  rw [← hs] at hl ⊢
  have hj : dI (i : Int) rec = rec ((i + 1 : Nat) : Int) := by
    unfold dI
    rw [ci (by omega), cn]
  have ht : (to_ s 5).length ≤ 5 := by show (s.take 5).length ≤ 5; rw [List.length_take]; omega
  have g1 : ∀ (x : Option Int), dk (!((decide ((s.length : Int) < 6)) || (decide (14 < (s.length : Int))))) (iU 5 s.length) x = x := fun x => by
    by_cases q : 6 ≤ s.length ∧ s.length ≤ 14
    · rw [decide_eq_false (by omega), decide_eq_false (by omega)]
      show dk true (iU 5 s.length) x = x
      rw [jB, eG (by omega)]
    · have : ((decide ((s.length : Int) < 6)) || (decide (14 < (s.length : Int)))) = true := by
        by_cases a : s.length < 6
        · rw [decide_eq_true (by omega)]; rfl
        · rw [decide_eq_true (p := (14 : Int) < (s.length : Int)) (by omega), Bool.or_true]
      rw [this, ntr, ij]
  rw [bT (by omega), bO (by omega), bf, dj hi, ← hs, g1, bf, ue F _ (by omega) (by omega), gP, hj]
  unfold mg
  by_cases q : 6 ≤ s.length ∧ s.length ≤ 14
  · rw [decide_eq_false (p := (s.length : Int) < 6) (by omega), decide_eq_false (p := (14 : Int) < (s.length : Int)) (by omega), fo, nfl, ctr, fo, show to_ s 5 = s.take 5 from rfl]
    by_cases g : (s.take 5).map gc = [115, 105, 122, 101, 32]
    · rw [decide_eq_true g, ntr, cfl]
      refine Eq.trans (rsize_in (i : Int) s q.2 rec _ hj F 5 0 true (by omega) (by omega) (by omega) (by omega) (fun _ => by omega)) ?_
      by_cases d : (s.drop 5).all jI = true
      · rw [if_pos ⟨rfl, d⟩, if_pos ⟨q, g, d⟩]; rfl
      · rw [if_neg (fun z => d z.2), if_neg (fun z => d z.2.2)]
    · rw [decide_eq_false g, nfl, ctr, if_neg (fun z => g z.2.1)]
  · have : ((decide ((s.length : Int) < 6)) || (decide (14 < (s.length : Int)))) = true := by
      by_cases a : s.length < 6
      · rw [decide_eq_true (by omega)]; rfl
      · rw [decide_eq_true (p := (14 : Int) < (s.length : Int)) (by omega), Bool.or_true]
    rw [this, Bool.true_or, ctr, if_neg (fun z => q z.1)]
theorem sK (F : Nat) (hF : 2000 < F) (ls : List Bs) (hl : ∀ s ∈ ls, s.length ≤ 1000) (hn : ls.length ≤ 1000000) : ∀ (n i : Nat), ls.length - i < n →
    cE F ls n (i : Int) = some ((qT (ls.drop i) : Nat) : Int) := by
  intro n
  induction n with
  | zero => intro i h; omega
  | succ n ih =>
    intro i hn';show eo F ls (cE F ls n) (i : Int) = _
    by_cases h : i < ls.length
    · rw [sJ F hF ls _ i h (hl _ (List.getElem_mem h)) hn, aP h, oM]
      cases mg ls[i] with
      | some k => rfl
      | none => exact ih (i + 1) (by omega)
    · unfold eo
      rw [bF (by omega), aR (by omega)]; rfl
theorem rsize_eq (F : Nat) (hF : 2000 < F) (c : Int) (ls : List Bs) (x y z : Int) (hl : ∀ s ∈ ls, s.length ≤ 1000) (hn : ls.length ≤ 1000000) (hlF : ls.length < F) : jr F c ls x y z = some ((dW ls : Nat) : Int) := by
  unfold jr dW
  exact sK F hF ls hl hn F 1 (by omega)
end Go.Cl
namespace Go.Cl
open Go.Pv Go.Av
open Go.Dg (cfl ctr dG eC fo nfl ntr)
theorem hund (c : Int) (h0 : -9223372036854775808 ≤ c) (h1 : c ≤ 9223372036854775807) : decide (IntKind.i64.wrap (Int.tdiv c 100) = 2) = (decide (200 ≤ c) && decide (c ≤ 299)) := by
  rw [wrap_i64_tdiv c 100 h0 h1 (by omega)]
  by_cases hn : 0 ≤ c
  · rw [Int.tdiv_eq_ediv_of_nonneg hn]
    by_cases a : 200 ≤ c
    · by_cases b : c ≤ 299
      · rw [decide_eq_true (by omega), decide_eq_true a, decide_eq_true b]; rfl
      · rw [decide_eq_false (by omega), decide_eq_true a, decide_eq_false b]; rfl
    · rw [decide_eq_false (by omega), decide_eq_false a]; rfl
  · have hk : c.tdiv 100 ≤ 0 := by
      have e := Int.neg_tdiv (a := -c) (b := 100)
      rw [Int.neg_neg] at e
      have := Int.tdiv_nonneg (a := -c) (b := 100) (by omega) (by omega)
      omega
    rw [decide_eq_false (by omega), decide_eq_false (by omega)]; rfl
theorem mR (F : Nat) (a2 a3 : Int) (a4 a5 a6 a7 a8 : Bs) (ph : Int) (l : List Bs) (x : Bs) (hj : Str.join [] l = x) (hl : Str.total l ≤ 1000000) (hn : l.length ≤ 10) (hx : x.length ≤ 1000000) (ha : a8.length ≤ 100000000) :
    je F a2 a3 a4 a5 a6 a7 a8 ph l = some (ph, a8 ++ (x ++ [13, 10])) := by
  unfold je
  have e0 : ([] : Bs).length = 0 := Eq.symm (Eq.symm rfl)
  have e2 : ([13, 10] : Bs).length = 2 := Eq.symm (Eq.symm rfl)
  rw [grd_Join (by rw [e0]; omega), bf, hj, e2, bU (by omega), bf, bU (by rw [List.length_append, e2]; omega), bf]
theorem oh (F : Nat) (a2 a3 : Int) (a4 a5 a6 a7 a8 : Bs) (o : Int) (ha : a8.length ≤ 100000000) : jN F a2 a3 a4 a5 a6 a7 a8 o = some (6, o, a8 ++ quitD) := by
  unfold jN
  rw [mR F a2 o a4 a5 a6 a7 a8 6 _ [81, 85, 73, 84] rfl (by decide) (by decide) (by decide) ha, bM]
  rfl
section
variable (F : Nat) (fr rc nm ml : Bs) (c : Int) (ls : List Bs) (m0 m1 m2 : Int)
theorem step_j (ph out : Int) (acc : Bs) (ha : acc.length ≤ 100000000) (b : Bool) : cZ F fr rc nm ml c b ph out acc = some (if b = true then (ph, out, acc) else (6, (if 500 ≤ c ∧ c ≤ 599 then 3 else 2), acc ++ quitD)) := by
  unfold cZ
  cases b with
  | true => rfl
  | false =>
    rw [cfl, if_neg (by decide)]
    by_cases h : 500 ≤ c ∧ c ≤ 599
    · rw [if_pos h, decide_eq_true h.1, decide_eq_true h.2, dG, ctr, oh F _ _ _ _ _ _ _ _ ha, cQ]
    · have : ((decide (500 ≤ c)) && (decide (c ≤ 599))) = false := by
        by_cases q : 500 ≤ c
        · rw [decide_eq_false (p := c ≤ 599) (fun z => h ⟨q, z⟩), Bool.and_false]
        · rw [decide_eq_false q]; rfl
      rw [if_neg h, this, cfl, oh F _ _ _ _ _ _ _ _ ha, cQ]
theorem greet_eq (hnm : nm.length ≤ 1000) (ph out : Int) (acc : Bs) (ha : acc.length ≤ 100000000) : lh F ph out fr rc nm ml acc c ls m0 m1 m2 = some (if fI 0 c = true then (true, 1, acc ++ ehloD nm) else (false, ph, acc)) := by
  have eg : fI 0 c = decide (c = 220) := by simp [fI]
  unfold lh
  rw [eg]
  by_cases h : c = 220
  · rw [decide_eq_true h, ntr, cfl, if_pos rfl, mR F ph out fr rc nm ml acc 1 _ ([69, 72, 76, 79, 32] ++ nm) (by simp [Str.join, Str.rest]) (by simp [Str.total]; omega) (by simp) (by simp; omega) ha, bM]
    rfl
  · rw [decide_eq_false h, nfl, ctr, if_neg (by decide)]
theorem data_eq (hF : 2000 < F) (hml : ml.length ≤ 1000) (ph out : Int) (acc : Bs) (ha : acc.length ≤ 100000000) : mV F ph out fr rc nm ml acc c ls m0 m1 m2 = some (if fI 4 c = true then (true, 5, acc ++ kl ml) else (false, ph, acc)) := by
  have eg : fI 4 c = decide (c = 354) := by simp [fI]
  unfold mV
  rw [eg]
  by_cases h : c = 354
  · have := oZ ml
    rw [decide_eq_true h, ntr, cfl, if_pos rfl, pQ F ml (by omega) (by omega), bM, bU (by omega), bf]
  · rw [decide_eq_false h, nfl, ctr, if_neg (by decide)]
theorem mL (h0 : -9223372036854775808 ≤ c) (h1 : c ≤ 9223372036854775807) {ph : Int} (hp : ph = 1 ∨ ph = 2 ∨ ph = 3 ∨ ph = 5) : fI ph c = decide (IntKind.i64.wrap (Int.tdiv c 100) = 2) := by
  rw [hund c h0 h1]
  unfold fI
  rw [if_neg (by omega), if_neg (by omega)]
theorem hello_eq (hF : 2000 < F) (hfr : fr.length ≤ 1000) (hml : ml.length ≤ 1000) (h0 : -9223372036854775808 ≤ c) (h1 : c ≤ 9223372036854775807) (hls : ∀ s ∈ ls, s.length ≤ 1000) (hln : ls.length ≤ 1000) (ph out : Int) (acc : Bs) (ha : acc.length ≤ 100000000) : lg F ph out fr rc nm ml acc c ls m0 m1 m2 = some (if fI 1 c = true then (if 0 < dW ls ∧ dW ls < (kl ml).length then (true, 6, 3, acc ++ quitD) else (true, 2, out, acc ++ qU fr)) else (false, ph, out, acc)) := by
  unfold lg
  rw [mL c h0 h1 (.inl rfl)]
  cases h : decide (IntKind.i64.wrap (Int.tdiv c 100) = 2) with
  | false => rw [nfl, ctr, if_neg (by decide)]
  | true =>
    rw [ntr, cfl, if_pos rfl, pQ F ml (by omega) (by omega), bM, size_eq F hF c ls m0 m1 m2 hls (by omega) (by omega), bn]
    by_cases q : 0 < dW ls ∧ dW ls < (kl ml).length
    · rw [if_pos q, decide_eq_true (p := (0 : Int) < ((dW ls : Nat) : Int)) (by omega), decide_eq_true (p := ((dW ls : Nat) : Int) < ((kl ml).length : Int)) (by omega), dG, ctr, oh F _ _ _ _ _ _ _ _ ha, cQ]
    · have : ((decide ((0 : Int) < ((dW ls : Nat) : Int))) && (decide (((dW ls : Nat) : Int) < ((kl ml).length : Int)))) = false := by
        by_cases g : 0 < dW ls
        · rw [decide_eq_false (p := ((dW ls : Nat) : Int) < ((kl ml).length : Int)) (fun z => q ⟨g, by omega⟩), Bool.and_false]
        · rw [decide_eq_false (p := (0 : Int) < ((dW ls : Nat) : Int)) (by omega)]; rfl
      rw [if_neg q, this, cfl, mR F ph out fr rc nm ml acc 2 _ ([77, 65, 73, 76, 32, 70, 82, 79, 77, 58, 60] ++ fr ++ [62]) (by simp [Str.join, Str.rest]) (by simp [Str.total]; omega) (by simp) (by simp; omega) ha, bM]
      simp [qU]
theorem from_eq (hrc : rc.length ≤ 1000) (h0 : -9223372036854775808 ≤ c) (h1 : c ≤ 9223372036854775807) (ph out : Int) (acc : Bs) (ha : acc.length ≤ 100000000) : mU F ph out fr rc nm ml acc c ls m0 m1 m2 = some (if fI 2 c = true then (true, 3, acc ++ sx rc) else (false, ph, acc)) := by
  unfold mU
  rw [mL c h0 h1 (.inr (.inl rfl))]
  cases h : decide (IntKind.i64.wrap (Int.tdiv c 100) = 2) with
  | false => rw [nfl, ctr, if_neg (by decide)]
  | true =>
    rw [ntr, cfl, if_pos rfl, mR F ph out fr rc nm ml acc 3 _ ([82, 67, 80, 84, 32, 84, 79, 58, 60] ++ rc ++ [62]) (by simp [Str.join, Str.rest]) (by simp [Str.total]; omega) (by simp) (by simp; omega) ha, bM]
    simp [sx]
theorem rcpt_eq (h0 : -9223372036854775808 ≤ c) (h1 : c ≤ 9223372036854775807) (ph out : Int) (acc : Bs) (ha : acc.length ≤ 100000000) : mT F ph out fr rc nm ml acc c ls m0 m1 m2 = some (if fI 3 c = true then (true, 4, acc ++ dataD) else (false, ph, acc)) := by
  unfold mT
  rw [mL c h0 h1 (.inr (.inr (.inl rfl)))]
  cases h : decide (IntKind.i64.wrap (Int.tdiv c 100) = 2) with
  | false => rw [nfl, ctr, if_neg (by decide)]
  | true =>
    rw [ntr, cfl, if_pos rfl, mR F ph out fr rc nm ml acc 4 _ [68, 65, 84, 65] rfl (by decide) (by decide) (by decide) ha, bM]
    rfl
theorem body_eq (h0 : -9223372036854775808 ≤ c) (h1 : c ≤ 9223372036854775807) (ph out : Int) (acc : Bs) (ha : acc.length ≤ 100000000) : mW F ph out fr rc nm ml acc c ls m0 m1 m2 = some (if fI 5 c = true then (true, 6, 1, acc ++ quitD) else (false, ph, out, acc)) := by
  unfold mW
  rw [mL c h0 h1 (.inr (.inr (.inr rfl)))]
  cases h : decide (IntKind.i64.wrap (Int.tdiv c 100) = 2) with
  | false => rw [nfl, ctr, if_neg (by decide)]
  | true => rw [ntr, cfl, if_pos rfl, oh F _ _ _ _ _ _ _ _ ha, cQ]
theorem step_eq (hF : 2000 < F) (hfr : fr.length ≤ 1000) (hrc : rc.length ≤ 1000) (hnm : nm.length ≤ 1000) (hml : ml.length ≤ 1000) (h0 : -9223372036854775808 ≤ c) (h1 : c ≤ 9223372036854775807) (hls : ∀ s ∈ ls, s.length ≤ 1000) (hln : ls.length ≤ 1000) (ph out : Int) (acc : Bs) (ha : acc.length ≤ 100000000) : mS F ph out fr rc nm ml acc c ls m0 m1 m2 = some ((gb fr rc nm ml ph out c ls).1, (gb fr rc nm ml ph out c ls).2.1, acc ++ (gb fr rc nm ml ph out c ls).2.2) := by
  unfold mS gb
  by_cases h : ph < 0 ∨ 7 ≤ ph
  · have : ((decide (ph < 0)) || (decide (7 ≤ ph))) = true := by
      rcases h with h | h
      · rw [decide_eq_true h]; rfl
      · rw [decide_eq_true h, Bool.or_true]
    rw [if_pos h, this, ctr, List.append_nil]
  · rw [if_neg h, decide_eq_false (fun z => h (.inl z)), decide_eq_false (fun z => h (.inr z)), fo, cfl]
    by_cases h2 : c = 421
    · rw [if_pos h2, bT h2]
      unfold lD
      by_cases g : out = 0
      · rw [bT g, bM, if_pos g, List.append_nil]
      · rw [bF g, bM, if_neg g, List.append_nil]
    · rw [if_neg h2, bF h2, bO (by omega)]
      unfold fE
      have hj := fun (ph out : Int) (acc : Bs) (ha : acc.length ≤ 100000000) (b : Bool) => step_j F fr rc nm ml c ph out acc ha b
      have hq : ph = 0 ∨ ph = 1 ∨ ph = 2 ∨ ph = 3 ∨ ph = 4 ∨ ph = 5 ∨ ph = 6 := by omega
      have hsl := oZ ml
      rcases hq with rfl | rfl | rfl | rfl | rfl | rfl | rfl
      · rw [bT rfl, bn, greet_eq F fr rc nm ml c ls m0 m1 m2 hnm 0 out acc ha, if_neg (show ¬ ((0 : Int) = 6) by decide)]
        by_cases q : fI 0 c = true
        · rw [if_pos q, if_pos q, cQ]; rfl
        · rw [if_neg q, if_neg q, cQ, hj _ _ _ ha]; rfl
      · rw [bF (by decide), bT rfl, bn, hello_eq F fr rc nm ml c ls m0 m1 m2 hF hfr hml h0 h1 hls hln 1 out acc ha, if_neg (show ¬ ((1 : Int) = 6) by decide)]
        by_cases q : fI 1 c = true
        · rw [if_pos q, if_pos q]
          have eg : goP fr rc nm ml 1 out ls = if 0 < dW ls ∧ dW ls < (kl ml).length then (6, 3, quitD) else (2, out, qU fr) := by simp [goP]
          rw [eg]
          by_cases g : 0 < dW ls ∧ dW ls < (kl ml).length
          · rw [if_pos g, if_pos g]; rfl
          · rw [if_neg g, if_neg g]; rfl
        · rw [if_neg q, if_neg q]
          show cZ F fr rc nm ml c false 1 out acc = _
          rw [hj _ _ _ ha]; rfl
      · rw [bF (by decide), bF (by decide), bT rfl, bn, from_eq F fr rc nm ml c ls m0 m1 m2 hrc h0 h1 2 out acc ha, if_neg (show ¬ ((2 : Int) = 6) by decide)]
        by_cases q : fI 2 c = true
        · rw [if_pos q, if_pos q, cQ]; rfl
        · rw [if_neg q, if_neg q, cQ, hj _ _ _ ha]; rfl
      · rw [bF (by decide), bF (by decide), bF (by decide), bT rfl, bn, rcpt_eq F fr rc nm ml c ls m0 m1 m2 h0 h1 3 out acc ha, if_neg (show ¬ ((3 : Int) = 6) by decide)]
        by_cases q : fI 3 c = true
        · rw [if_pos q, if_pos q, cQ]; rfl
        · rw [if_neg q, if_neg q, cQ, hj _ _ _ ha]; rfl
      · rw [bF (by decide), bF (by decide), bF (by decide), bF (by decide), bT rfl, bn, data_eq F fr rc nm ml c ls m0 m1 m2 hF hml 4 out acc ha, if_neg (show ¬ ((4 : Int) = 6) by decide)]
        by_cases q : fI 4 c = true
        · rw [if_pos q, if_pos q, cQ]; rfl
        · rw [if_neg q, if_neg q, cQ, hj _ _ _ ha]; rfl
      · rw [bF (by decide), bF (by decide), bF (by decide), bF (by decide), bF (by decide), bT rfl, bn, body_eq F fr rc nm ml c ls m0 m1 m2 h0 h1 5 out acc ha, if_neg (show ¬ ((5 : Int) = 6) by decide)]
        by_cases q : fI 5 c = true
        · rw [if_pos q, if_pos q]; rfl
        · rw [if_neg q, if_neg q]
          show cZ F fr rc nm ml c false 5 out acc = _
          rw [hj _ _ _ ha]; rfl
      · rw [bF (by decide), bF (by decide), bF (by decide), bF (by decide), bF (by decide), bF (by decide), bn, if_pos rfl]
        unfold ow
        rw [bM, hj _ _ _ ha, if_pos rfl, List.append_nil]
end
abbrev RL := List (Int × List Bs × Int × Int × Int)
def okR (L : RL) : Prop := ∀ x ∈ L, (200 ≤ x.1 ∧ x.1 ≤ 599) ∧ x.2.1.length ≤ 100 ∧ ∀ s ∈ x.2.1, s.length ≤ 506
theorem sb (fr rc nm ml : Bs) (hfr : fr.length ≤ 1000) (hrc : rc.length ≤ 1000) (hnm : nm.length ≤ 1000) (hml : ml.length ≤ 1000) (ph out c : Int) (ls : List Bs) : (gb fr rc nm ml ph out c ls).2.2.length ≤ 5000 := by
  have := oZ ml
  have hq : quitD.length = 6 := rfl
  unfold gb
  split
  · simp
  split
  · simp
  split
  · simp
  split
  · unfold goP
    split
    · simp [ehloD]; omega
    split
    · split
      · simp [quitD]
      · simp [qU]; omega
    split
    · simp [sx]; omega
    split
    · simp [dataD]
    split
    · simp only; omega
    · simp [quitD]
  · simp [quitD]
theorem sc (fr rc nm ml : Bs) {M : Type} (s : St) (x : Int × List Bs × M) (r : List (Int × List Bs × M)) : lG fr rc nm ml s (x :: r) = lG fr rc nm ml ((gb fr rc nm ml s.1 s.2.1 x.1 x.2.1).1, (gb fr rc nm ml s.1 s.2.1 x.1 x.2.1).2.1, s.2.2 ++ (gb fr rc nm ml s.1 s.2.1 x.1 x.2.1).2.2) r := rfl
theorem run_loop (F : Nat) (hF : 20000 < F) (fr rc nm ml : Bs) (hfr : fr.length ≤ 1000) (hrc : rc.length ≤ 1000) (hnm : nm.length ≤ 1000) (hml : ml.length ≤ 1000) (L : RL) (hL : okR L) (hn : L.length ≤ 10000) : ∀ (n i : Nat) (ph out : Int) (acc : Bs), L.length - i < n → i ≤ L.length → acc.length ≤ 5000 * i →
    kc F fr rc nm ml L n ((i : Int), ph, out, acc) = some ((nS (lG fr rc nm ml (ph, out, acc) (L.drop i))).1, (nS (lG fr rc nm ml (ph, out, acc) (L.drop i))).2.1, fr, rc, nm, ml, (nS (lG fr rc nm ml (ph, out, acc) (L.drop i))).2.2) := by
  intro n
  induction n with
  | zero => intro i ph out acc h; omega
  | succ n ih =>
    intro i ph out acc hn' hi ha;show kd F fr rc nm ml L (kc F fr rc nm ml L n) (i : Int) ph out acc = _
    unfold kd
    by_cases h : i < L.length
    · obtain ⟨hc, hl, hs⟩ := hL _ (List.getElem_mem h)
      have ho := sb fr rc nm ml hfr hrc hnm hml ph out (L[i]).1 (L[i]).2.1
      rw [bT (by omega), bO (by omega), bf, dj h, step_eq F fr rc nm ml (L[i]).1 (L[i]).2.1 _ _ _ (by omega) hfr hrc hnm hml (by omega) (by omega) (fun s q => by have := hs s q; omega) (by omega) ph out acc (by omega), cQ, ci (by omega), cn]
      rw [ih (i + 1) _ _ _ (by omega) (by omega) (by rw [List.length_append]; omega), aP h, sc]
    · rw [bF (by omega), aR (by omega)]
      unfold kb jk nS lD
      show _ = some ((if ph = 7 then (ph, out, acc) else (7, (if out = 0 then 2 else out), acc)).1, (if ph = 7 then (ph, out, acc) else (7, (if out = 0 then 2 else out), acc)).2.1, fr, rc, nm, ml, (if ph = 7 then (ph, out, acc) else (7, (if out = 0 then 2 else out), acc)).2.2)
      by_cases g : ph = 7
      · rw [decide_eq_true g, ntr, cfl, if_pos g]
      · rw [decide_eq_false g, nfl, ctr, if_neg g]
        by_cases k : out = 0
        · rw [bT k, if_pos k]; rfl
        · rw [bF k, if_neg k]; rfl
end Go.Cl
namespace Go.Rp
open Go.Pv Go.Av
abbrev Bs := List UInt8
theorem qN {c : UInt8} {s : Bs} (h : ∀ b ∈ s, b ≠ c) : Go.Lib.indexByte s c = -1 := by
  induction s with
  | nil => rfl
  | cons b r ih =>
    have h1 : (b == c) = false := by simpa using h b (by simp)
    have h2 := ih fun x hx => h x (by simp [hx])
    unfold Go.Lib.indexByte
    rw [h1, h2]; rfl
theorem rO (s : Bs) (c : UInt8) : -1 ≤ Go.Lib.indexByte s c ∧ Go.Lib.indexByte s c < s.length := by
  induction s with
  | nil => simp [Go.Lib.indexByte]
  | cons b r ih =>
    unfold Go.Lib.indexByte
    split
    · first | (simp; done) | (simp; omega)
    · split
      · first | (simp; done) | (simp; omega)
      · rename_i h
        have h' : ¬ Go.Lib.indexByte r c = -1 := by simpa using h
        simp; omega
theorem getD_at (s : Bs) (k : Nat) (h : k < s.length) : (⟨s.toArray⟩ : ByteArray).get! k = s[k] := by
  show (s.toArray)[k]! = _
  simp [h]
def crlf (b : UInt8) : Bool := decide (b = 13) || decide (b = 10)
end Go.Rp
namespace Go.Rp
open Go.Pv Go.Av
open Go.Lib (decDigits)
open Go.Dg (val fD ja ov pl rn qW Dig rf ji kg pi tN cfl ctr dG eC fo nfl ntr)
def dgB (c : UInt8) : Bool := decide (48 ≤ c.toNat) && decide (c.toNat ≤ 57)
theorem po {c : UInt8} (h : dgB c = true) : Dig c := by
  unfold dgB at h
  show 48 ≤ c.toNat ∧ c.toNat ≤ 57
  simpa using h
theorem dgB_of {c : UInt8} (h : Dig c) : dgB c = true := by
  unfold dgB
  rw [decide_eq_true h.1, decide_eq_true h.2]; rfl
def okN (s : Bs) : Bool := ((decide (1 ≤ s.length) && decide (s.length ≤ 3)) && s.all dgB) && !(decide (s.head? = some 48) && decide (1 < s.length))
def gx (s : Bs) : Option Nat := if okN s = true then some (val 0 s) else none
theorem kj (c : UInt8) (h : Dig c) (n : Nat) (hn : n = c.toNat - 48) : UInt8.ofNat (48 + n) = c := by
  obtain ⟨h1, h2⟩ := h;subst hn
  rw [show 48 + (c.toNat - 48) = c.toNat by omega, UInt8.ofNat_toNat]
theorem dd2 {n : Nat} (h : 10 ≤ n) (h2 : n < 100) : decDigits n = [UInt8.ofNat (48 + n / 10), UInt8.ofNat (48 + n % 10)] := by
  rw [ja (by omega), fD (by omega)]; rfl
theorem dd3 {n : Nat} (h : 100 ≤ n) (h2 : n < 1000) : decDigits n = [UInt8.ofNat (48 + n / 10 / 10), UInt8.ofNat (48 + n / 10 % 10), UInt8.ofNat (48 + n % 10)] := by
  rw [ja (by omega), dd2 (by omega) (by omega)]; rfl
theorem dd_lt {n : Nat} (h : (decDigits n).length ≤ 3) : n < 1000 := by
  by_cases h1 : n < 1000
  · exact h1
  · rw [ja (by omega), ja (n := n / 10) (by omega), ja (n := n / 10 / 10) (by omega)] at h
    have := pl (n / 10 / 10 / 10)
    simp only [List.length_append, List.length_cons, List.length_nil] at h
    omega
theorem num_dd {s : Bs} {n : Nat} (h : gx s = some n) : s = decDigits n ∧ n < 1000 := by
  unfold gx at h
  by_cases hk : okN s = true
  · rw [if_pos hk] at h
    have hn : val 0 s = n := ay h
    unfold okN at hk
    simp only [Bool.and_eq_true, decide_eq_true_eq, Bool.not_eq_true', Bool.and_eq_false_iff, decide_eq_false_iff_not] at hk
    obtain ⟨⟨⟨h1, h2⟩, h3⟩, h4⟩ := hk
    match s, h1, h2, h3, h4, hn with
    | [a], _, _, h3, h4, hn =>
      have ha := po (List.all_eq_true.1 h3 a (by simp))
      have hv : val 0 [a] = a.toNat - 48 := by show 10 * 0 + (a.toNat - 48) = _; omega
      have ha' := ha; obtain ⟨ha1, ha2⟩ := ha'
      refine ⟨?_, by omega⟩
      rw [← hn, hv, fD (by omega), kj a ha _ rfl]
    | [a, b], _, _, h3, h4, hn =>
      have ha := po (List.all_eq_true.1 h3 a (by simp))
      have hb := po (List.all_eq_true.1 h3 b (by simp))
      have hv : val 0 [a, b] = 10 * (a.toNat - 48) + (b.toNat - 48) := by show 10 * (10 * 0 + (a.toNat - 48)) + (b.toNat - 48) = _; omega
      have ha' := ha; obtain ⟨ha1, ha2⟩ := ha'
      have hb' := hb; obtain ⟨hb1, hb2⟩ := hb'
      have hne : a.toNat ≠ 48 := by
        intro e
        have : a = 48 := UInt8.toNat.inj e
        rcases h4 with h4 | h4
        · exact h4 (by rw [this]; rfl)
        · exact h4 (by simp)
      refine ⟨?_, by omega⟩
      rw [← hn, hv, dd2 (by omega) (by omega), kj a ha _ (by omega), kj b hb _ (by omega)]
    | [a, b, c], _, _, h3, h4, hn =>
      have ha := po (List.all_eq_true.1 h3 a (by simp))
      have hb := po (List.all_eq_true.1 h3 b (by simp))
      have hc := po (List.all_eq_true.1 h3 c (by simp))
      have hv : val 0 [a, b, c] = 100 * (a.toNat - 48) + 10 * (b.toNat - 48) + (c.toNat - 48) := by show 10 * (10 * (10 * 0 + (a.toNat - 48)) + (b.toNat - 48)) + (c.toNat - 48) = _; omega
      have ha' := ha; obtain ⟨ha1, ha2⟩ := ha'
      have hb' := hb; obtain ⟨hb1, hb2⟩ := hb'
      have hc' := hc; obtain ⟨hc1, hc2⟩ := hc'
      have hne : a.toNat ≠ 48 := by
        intro e
        have : a = 48 := UInt8.toNat.inj e
        rcases h4 with h4 | h4
        · exact h4 (by rw [this]; rfl)
        · exact h4 (by simp)
      refine ⟨?_, by omega⟩
      rw [← hn, hv, dd3 (by omega) (by omega), kj a ha _ (by omega), kj b hb _ (by omega), kj c hc _ (by omega)]
    | [], h1, _, _, _, _ => simp at h1
    | a :: b :: c :: d :: r, _, h2, _, _, _ => simp at h2
  · rw [if_neg hk] at h; cases h
theorem dd_head {n : Nat} (h : n < 1000) : ¬ ((decDigits n).head? = some 48 ∧ 1 < (decDigits n).length) := by
  rintro ⟨h1, h2⟩
  by_cases h10 : n < 10
  · rw [fD h10] at h2; simp at h2
  · have key : ∀ k, k < 10 → 1 ≤ k → UInt8.ofNat (48 + k) ≠ 48 := by
      intro k hk h1 e
      have := congrArg UInt8.toNat e
      rw [ji k hk] at this
      have e48 : (48 : UInt8).toNat = 48 := rfl
      omega
    by_cases h100 : n < 100
    · rw [dd2 (by omega) h100] at h1
      exact key (n / 10) (by omega) (by omega) (ay h1)
    · rw [dd3 (by omega) h] at h1
      exact key (n / 10 / 10) (by omega) (by omega) (ay h1)
theorem dd_num {n : Nat} (h : n < 1000) : gx (decDigits n) = some n := by
  have h3 : (decDigits n).length ≤ 3 := by
    by_cases h10 : n < 10
    · rw [fD h10]; simp
    · by_cases h100 : n < 100
      · rw [dd2 (by omega) h100]; simp
      · rw [dd3 (by omega) h]; simp
  have hk : okN (decDigits n) = true := by
    unfold okN
    rw [decide_eq_true (pl n), decide_eq_true h3, List.all_eq_true.2 fun c hc => dgB_of (ov n c hc)]
    have := dd_head h
    by_cases g : (decDigits n).head? = some 48
    · rw [decide_eq_false (p := 1 < (decDigits n).length) fun q => this ⟨g, q⟩, Bool.and_false]; rfl
    · rw [decide_eq_false g]; rfl
  unfold gx
  rw [if_pos hk, qW]
def pp (o : Option (Int × Int)) : Prop := ∃ x k, o = some (x, k) ∧ -9223372036854775808 ≤ x ∧ x ≤ 9223372036854775807
theorem ns {c : Bool} {a b : Option (Int × Int)} (ha : pp a) (hb : pp b) : pp (bif c then a else b) := by cases c <;> assumption
theorem nM (a s : Bs) (ha : a ≠ []) (hs : s.length ≤ 18) : ∀ (n i v : Nat), s.length - i < n → i ≤ s.length → v < 10 ^ i → pp (eY a s n ((v : Int), (i : Int))) := by
  intro n
  induction n with
  | zero => intro i v h; omega
  | succ n ih =>
    intro i v hn hi hv;show pp (eZ a s (eY a s n) (v : Int) (i : Int))
    unfold eZ
    have hv18 : v < 10 ^ 18 := Nat.lt_of_lt_of_le hv (Nat.pow_le_pow_right (by omega) (by omega))
    by_cases h : i < s.length
    · have hv17 : v < 10 ^ 17 := Nat.lt_of_lt_of_le hv (Nat.pow_le_pow_right (by omega) (by omega))
      rw [bT (by omega), bO (by omega), bf]
      obtain ⟨c, hc⟩ : ∃ c, c = at_ s (i : Int) := ⟨_, rfl⟩
      rw [← hc]
      by_cases h9 : 9 < (c - 48).toNat
      · rw [bT (by omega)]; exact ⟨0, 2, rfl, by omega, by omega⟩
      · have e1 : ((v : Int) * 10) + ((c - 48).toNat : Int) = ((v * 10 + (c - 48).toNat : Nat) : Int) := by omega
        have e2 : ((i : Int) + 1) = ((i + 1 : Nat) : Int) := by omega
        rw [bF (by omega), ci (by omega), ci (by omega), ci (by omega), e1, e2]
        refine ih (i + 1) _ (by omega) (by omega) ?_
        rw [Nat.pow_succ]; omega
    · rw [bF (by omega)]
      unfold eW eX
      have hp : 0 < a.length := List.length_pos_iff.2 ha
      rw [bO (by omega), bf]
      refine ns ?_ ⟨_, 0, rfl, by omega, by omega⟩
      rw [ci (by omega)]; exact ⟨_, 0, rfl, by omega, by omega⟩
theorem atoi_b (F : Nat) (s : Bs) (hs : s.length ≤ 3) (hF : 10 < F) : pp (cR F s) := by
  have key : pp (ic F s) := by
    unfold ic eV il
    by_cases h : 0 < s.length
    · have hc : ((decide (0 < (s.length : Int))) && (decide ((s.length : Int) < 19))) = true := by
        rw [decide_eq_true (by omega), decide_eq_true (by omega)]; rfl
      have hne : s ≠ [] := List.length_pos_iff.1 h
      have hf : (eJ s 1).length ≤ s.length := by unfold eJ; simp
      rw [hc, ctr, bO (by omega), bf]
      have hg : ∀ (c : Bool) (x : Option (Int × Int)), dk c (ct 0 s.length) x = x := fun c x => eK fun _ => by omega
      rw [hg, bf]
      refine ns ?_ ?_
      · rw [eG (by omega), bf]
        refine ns ⟨0, 2, rfl, by omega, by omega⟩ ?_
        rw [bU (by omega)]
        exact nM s _ hne (by omega) F 0 0 (by omega) (by omega) (by omega)
      · rw [bU (by omega)]
        exact nM s _ hne (by omega) F 0 0 (by omega) (by omega) (by omega)
    · have e : s = [] := List.eq_nil_of_length_eq_zero (by omega)
      subst e;exact ⟨0, 2, rfl, by omega, by omega⟩
  obtain ⟨x, k, e, h1, h2⟩ := key;obtain ⟨x2, k2, e2⟩ := pi F s (by omega) (by omega);refine ⟨x2, k2, e2, ?_⟩
  unfold cR at e2
  rw [e, bM] at e2
  have : x2 = x := by
    by_cases h0 : k = 0
    · subst h0; rw [decide_eq_true rfl, ntr, cfl] at e2; cases e2; rfl
    · rw [decide_eq_false h0, nfl, ctr] at e2
      obtain ⟨_, e2⟩ := aY e2;obtain ⟨_, e2⟩ := aY e2
      cases e2; rfl
  rw [this]; exact ⟨h1, h2⟩
theorem ll (F : Nat) (s : Bs) (hs : s.length ≤ 1000) (hF : 2000 < F) : ∃ x : Int, im F s = some (x, (gx s).isSome) ∧ ∀ n, gx s = some n → x = n := by
  obtain ⟨x, k, e⟩ := pi F s hs (by omega)
  have hdd : ∀ n, gx s = some n → x = (n : Int) ∧ k = 0 ∧ s.length ≤ 3 ∧ s = decDigits n := by
    intro n hn;obtain ⟨h1, h2⟩ := num_dd hn
    have h3 : s.length ≤ 3 := by
      unfold gx at hn
      by_cases hk : okN s = true
      · unfold okN at hk
        simp only [Bool.and_eq_true, decide_eq_true_eq] at hk
        exact hk.1.1.2
      · rw [if_neg hk] at hn; cases hn
    have := tN F n (by omega) (by omega)
    rw [← h1, e] at this
    cases this
    exact ⟨rfl, rfl, h3, h1⟩
  unfold im
  rw [e, bM]
  by_cases hc : k = 0 ∧ s.length ≤ 3
  · obtain ⟨rfl, h3⟩ := hc
    obtain ⟨x', k', e', hb⟩ := atoi_b F s h3 (by omega)
    rw [e] at e'; cases e'
    have hcc : ((decide ((0 : Int) = 0)) && (decide ((s.length : Int) ≤ 3))) = true := by
      rw [decide_eq_true (by omega : (s.length : Int) ≤ 3)]; rfl
    rw [hcc, jB, ci hb, bf]
    refine ⟨x, ?_, fun n hn => (hdd n hn).1⟩
    congr 2
    cases hn : gx s with
    | some n =>
      obtain ⟨h1, _, _, h4⟩ := hdd n hn
      rw [h1, kg, decide_eq_true h4.symm, decide_eq_true (Int.natCast_nonneg n)]; rfl
    | none =>
      by_cases h0 : 0 ≤ x
      · have h1 : ¬ Go.Lib.itoa x = s := by
          intro g
          have e2 : x = ((x.toNat : Nat) : Int) := by omega
          rw [e2, kg] at g
          rw [← g, dd_num (dd_lt (by rw [g]; exact h3))] at hn
          cases hn
        rw [decide_eq_false h1]; rfl
      · rw [decide_eq_false h0, Bool.and_false]; rfl
  · have hcc : ((decide (k = 0)) && (decide ((s.length : Int) ≤ 3))) = false := by
      by_cases h0 : k = 0
      · rw [decide_eq_false (p := (s.length : Int) ≤ 3) (by omega), Bool.and_false]
      · rw [decide_eq_false h0]; rfl
    rw [hcc, ij, bf]
    refine ⟨x, ?_, fun n hn => (hdd n hn).1⟩
    congr 2
    cases hn : gx s with
    | some n => obtain ⟨_, h2, h3, _⟩ := hdd n hn; exact absurd ⟨h2, h3⟩ hc
    | none => rfl
def numI (s : Bs) : Int := match gx s with | some n => (n : Int) | none => -1
theorem qL (s : Bs) (hs : s.length ≤ 3) : ∀ (n i v : Nat), s.length - i < n → i ≤ s.length → v < 10 ^ i →
    fh s n ((v : Int), (i : Int)) = some (if (s.drop i).all dgB = true then ((val v (s.drop i) : Nat) : Int) else -1) := by
  intro n
  induction n with
  | zero => intro i v h; omega
  | succ n ih =>
    intro i v hn hi hv;show fi s (fh s n) (v : Int) (i : Int) = _
    unfold fi
    have hv3 : v < 10 ^ 3 := Nat.lt_of_lt_of_le hv (Nat.pow_le_pow_right (by omega) (by omega))
    by_cases h : i < s.length
    · have hdr : s.drop i = s[i] :: s.drop (i + 1) := aP h
      rw [bT (by omega), bO (by omega), bf, dj h]
      have hg : ∀ (c : Bool) (x : Option Int), dk c (ct (i : Int) s.length) x = x := fun c x => eK fun _ => by omega
      rw [hg, bf, hdr, List.all_cons]
      by_cases hd : Dig s[i]
      · have hsub := rf _ hd
        have hd' := hd; obtain ⟨h1, h2⟩ := hd'
        have e : ((decide (((s[i]).toNat : Int) < 48)) || (decide (57 < ((s[i]).toNat : Int)))) = false := by
          rw [decide_eq_false (by omega), decide_eq_false (by omega)]; rfl
        have e1 : (10 * (v : Int)) + ((s[i] - 48).toNat : Int) = ((10 * v + ((s[i]).toNat - 48) : Nat) : Int) := by rw [hsub]; omega
        have e2 : ((i : Int) + 1) = ((i + 1 : Nat) : Int) := by omega
        rw [e, cfl, ci (by omega), bO (by omega), bf, ci (by omega), ci (by omega), e1, e2, ih (i + 1) _ (by omega) (by omega) (by rw [Nat.pow_succ]; omega), dgB_of hd, dG]
        rfl
      · have e : ((decide (((s[i]).toNat : Int) < 48)) || (decide (57 < ((s[i]).toNat : Int)))) = true := by
          by_cases h1 : 48 ≤ (s[i]).toNat
          · have h2 : 57 < (s[i]).toNat := by
              by_cases h2 : (s[i]).toNat ≤ 57
              · exact absurd ⟨h1, h2⟩ hd
              · omega
            rw [decide_eq_true (p := 57 < ((s[i]).toNat : Int)) (by omega), Bool.or_true]
          · rw [decide_eq_true (p := ((s[i]).toNat : Int) < 48) (by omega)]; rfl
        have e3 : dgB s[i] = false := by
          cases hq : dgB s[i] with
          | true => exact absurd (po hq) hd
          | false => rfl
        rw [e, ctr, e3, eC]; rfl
    · rw [bF (by omega), aR (by omega)]; rfl
theorem ku (F : Nat) (s : Bs) (hF : 10 < F) : eh F s = some (numI s) := by
  unfold eh
  rw [eK (fun h => by
    simp only [Bool.not_eq_true', Bool.or_eq_false_iff, decide_eq_false_iff_not] at h
    omega), bf]
  unfold numI gx okN
  by_cases h1 : 1 ≤ s.length ∧ s.length ≤ 3
  · obtain ⟨ha, hb⟩ := h1
    rw [decide_eq_false (p := (s.length : Int) < 1) (by omega), decide_eq_false (p := (3 : Int) < s.length) (by omega), decide_eq_true ha, decide_eq_true hb, fo, fo, dG, dG]
    have e0 : s.head? = some (at_ s 0) := by
      rw [mY (by omega)]
      cases s with
      | nil => simp at ha
      | cons a r => rfl
    have el : decide ((1 : Int) < (s.length : Int)) = decide (1 < s.length) := by
      by_cases h : 1 < s.length
      · rw [decide_eq_true h, decide_eq_true (by omega)]
      · rw [decide_eq_false h, decide_eq_false (by omega)]
    have es : decide (s.head? = some 48) = decide (at_ s 0 = 48) := by
      rw [e0]
      by_cases h : at_ s 0 = 48
      · rw [decide_eq_true h, decide_eq_true (by rw [h])]
      · rw [decide_eq_false h, decide_eq_false (fun g => h (ay g))]
    rw [es, el]
    cases (decide (at_ s 0 = 48)) && (decide (1 < s.length)) with
    | true => rw [ctr, ntr, Bool.and_false]; rfl
    | false =>
      rw [cfl, nfl, Bool.and_true]
      have := qL s hb F 0 0 (by omega) (by omega) (by omega)
      refine Eq.trans this ?_
      rw [List.drop_zero]
      cases s.all dgB <;> rfl
  · have e : ((decide ((s.length : Int) < 1)) || (decide ((3 : Int) < (s.length : Int)))) = true := by
      by_cases h : 1 ≤ s.length
      · rw [decide_eq_true (p := (3 : Int) < s.length) (by omega), Bool.or_true]
      · rw [decide_eq_true (p := (s.length : Int) < 1) (by omega)]; rfl
    have e2 : ((decide (1 ≤ s.length)) && (decide (s.length ≤ 3))) = false := by
      by_cases h : 1 ≤ s.length
      · rw [decide_eq_false (p := s.length ≤ 3) (by omega), Bool.and_false]
      · rw [decide_eq_false h]; rfl
    rw [e, Bool.true_or, ctr, e2, eC, eC]; rfl
end Go.Rp
namespace Go.Rp
open Go.Pv Go.Av
def sp (c : UInt8) : Bs → List Bs
  | [] => [[]]
  | b :: r => if b = c then [] :: sp c r else match sp c r with
    | [] => [[b]]
    | p :: ps => (b :: p) :: ps
theorem qS (c : UInt8) (s : Bs) : sp c s ≠ [] := by
  cases s with
  | nil => simp [sp]
  | cons b r => unfold sp; split; simp; split <;> simp
theorem jm (b c : UInt8) (l : Bs) : Go.Lib.index (b :: l) [c] = if b = c then 0 else if Go.Lib.index l [c] = -1 then -1 else Go.Lib.index l [c] + 1 := by
  by_cases h : b = c
  · subst h; simp [Go.Lib.index]
  · simp [Go.Lib.index, h, Ne.symm h]
def oe (cur : Bs) : List Bs → List Bs
  | [] => [cur]
  | p :: ps => (cur ++ p) :: ps
theorem kr {b c : UInt8} (h : ¬ b = c) (r : Bs) : sp c (b :: r) = oe [b] (sp c r) := by
  simp only [sp, h, if_false]
  cases sp c r <;> rfl
theorem kt (c : UInt8) (r : Bs) : sp c (c :: r) = [] :: sp c r := by simp [sp]
theorem ui (a b : Bs) (l : List Bs) : oe a (oe b l) = oe (a ++ b) l := by cases l <;> simp [oe]
theorem sg {l : List Bs} (h : l ≠ []) : oe [] l = l := by cases l <;> simp_all [oe]
theorem pS (c : UInt8) : ∀ (s : Bs), Go.Lib.splitK [c] 0 (s.count c) s = sp c s
  | [] => rfl
  | b :: l => by
    have ih := pS c l
    have hi := jm b c l
    have hge := Go.Lib.index_ge l [c]
    by_cases h : b = c
    · subst h
      rw [List.count_cons_self, kt, Go.Lib.splitK, hi]
      simp [ih]
    · rw [List.count_cons_of_ne h, kr h, ← ih]
      cases hk : l.count c with
      | zero => simp [Go.Lib.splitK, oe]
      | succ k =>
        rw [Go.Lib.splitK, Go.Lib.splitK, hi]
        simp only [h, if_false]
        by_cases hm : Go.Lib.index l [c] = -1
        · simp [hm, oe]
        · obtain ⟨j, hj⟩ := Int.eq_ofNat_of_zero_le (show 0 ≤ Go.Lib.index l [c] by omega)
          have h2 : ¬ (Go.Lib.index l [c] + 1 = -1) := by omega
          have h3 : (Go.Lib.index l [c] + 1).toNat = j + 1 := by omega
          have h4 : (Go.Lib.index l [c]).toNat = j := by omega
          simp [hm, h2, h3, h4, oe]
theorem tZ (s : Bs) (c : UInt8) : Go.Lib.split s [c] = sp c s := by
  unfold Go.Lib.split
  rw [Go.Lib.count_one, pS]
theorem sN (s : Bs) (c : UInt8) (hs : s.length ≤ 1000000) : ∀ (n : Nat) (l : List Bs) (f i : Nat), s.length + 1 - i < n → i ≤ s.length → f ≤ i → l.length ≤ i →
    cX s c n (l, (f : Int), (i : Int)) = some (l ++ oe ((s.take i).drop f) (sp c (s.drop i))) := by
  intro n
  induction n with
  | zero => intro l f i h; omega
  | succ n ih =>
    intro l f i hn hi hf hl;show dU s c (cX s c n) l (f : Int) (i : Int) = _
    unfold dU eE
    by_cases h : i < s.length
    · have hd : s.drop i = s[i] :: s.drop (i + 1) := aP h
      have hne : decide ((i : Int) = (s.length : Int)) = false := decide_eq_false (by omega)
      simp (disch := omega) only [bT, hne, Bool.not_false, jB, bO, bf, dj h, Bool.false_or]
      rw [hd]
      by_cases hc : s[i] = c
      · simp (disch := (first | omega | (simp; omega))) only [hc, decide_true, cond_true, tI, tw, bU, ci, cn]
        rw [ih _ _ _ (by omega) (by omega) (by omega) (by simp; omega)]
        rw [aR (show (s.take (i + 1)).length ≤ i + 1 by simp; omega), sg (qS _ _), kt]
        simp [oe]
      · simp (disch := (first | omega | (simp; omega))) only [hc, decide_false, cond_false, ci, cn]
        rw [ih _ _ _ (by omega) (by omega) (by omega) (by omega), kr hc, ui]
        rw [List.take_succ_eq_append_getElem h, List.drop_append_of_le_length (by simp; omega)]
    · have hi2 : i = s.length := by omega
      subst hi2
      have hyes : decide ((s.length : Int) = (s.length : Int)) = true := decide_eq_true rfl
      simp (disch := (first | omega | (simp; omega))) only [bT, hyes, Bool.not_true, ij, bf, Bool.true_or, cond_true, tI, tw, bU, ci, cn, List.drop_length]
      obtain ⟨m, rfl⟩ : ∃ m, n = m + 1 := ⟨n - 1, by omega⟩;show dU s c (cX s c m) _ _ ((s.length + 1 : Nat) : Int) = _
      unfold dU fL
      have h1 : ¬ (((s.length + 1 : Nat) : Int) ≤ (s.length : Int)) := by omega
      rw [bF h1]
      simp [sp, oe]
theorem kQ (F : Nat) (s : Bs) (c : UInt8) (hs : s.length ≤ 1000000) (hF : s.length + 1 < F) : gJ F s c = some (sp c s) := by
  have := sN s c hs F [] 0 0 (by omega) (by omega) (by omega) (by simp)
  rw [show gJ F s c = cX s c F ([], ((0 : Nat) : Int), ((0 : Nat) : Int)) from rfl, this]
  simp [sg (qS _ _)]
end Go.Rp
namespace Go.Rp
open Go.Pv Go.Av
open Go.Lib (decDigits)
open Go.Dg (kg cfl ctr dG eC fo nfl ntr)
abbrev M3 := Int × Int × Int
def more3 (c : Int) : List Bs → M3
  | [a, b, d] => if c / 100 = 3 then (0, 0, 0) else match gx a, gx b, gx d with
    | some x, some y, some z => if (x : Int) = c / 100 then ((x : Int), (y : Int), (z : Int)) else (0, 0, 0)
    | _, _, _ => (0, 0, 0)
  | _ => (0, 0, 0)
theorem nI (c : Int) (a b d : Bs) : more3 c [a, b, d] = if c / 100 = 3 then (0, 0, 0) else match gx a, gx b, gx d with
    | some x, some y, some z => if (x : Int) = c / 100 then ((x : Int), (y : Int), (z : Int)) else (0, 0, 0)
    | _, _, _ => (0, 0, 0) := rfl
def jS (c : Int) (s : Bs) : M3 := more3 c (sp 46 ((sp 32 s).headD []))
theorem pg : ∀ s : Bs, (Go.Lib.cut s [32]).1 = (sp 32 s).headD []
  | [] => rfl
  | b :: r => by
    have ih := pg r
    by_cases h : b = 32
    · subst h
      rw [kt]
      unfold Go.Lib.cut
      rw [jm, if_pos rfl]
      rfl
    · rw [kr h]
      cases hs : sp 32 r with
      | nil => exact absurd hs (qS 32 r)
      | cons p ps =>
        rw [hs] at ih
        show (Go.Lib.cut (b :: r) [32]).1 = b :: p
        have ih' : (Go.Lib.cut r [32]).1 = p := ih
        rw [← ih']
        unfold Go.Lib.cut
        rw [jm, if_neg h]
        by_cases hn : Go.Lib.index r [32] = -1
        · rw [if_pos hn, if_neg (by omega), if_neg (by rw [hn]; omega)]
        · rw [if_neg hn]
          by_cases h0 : 0 ≤ Go.Lib.index r [32]
          · rw [if_pos (by omega), if_pos h0, show (Go.Lib.index r [32] + 1).toNat = (Go.Lib.index r [32]).toNat + 1 by omega]; rfl
          · have : Go.Lib.index r [32] = -1 := by
              have := Go.Lib.index_one r 32
              have h2 := Go.Lib.indexByte_ge r 32
              omega
            exact absurd this hn
theorem sr (s : Bs) : ((sp 32 s).headD []).length ≤ s.length := by
  rw [← pg]
  unfold Go.Lib.cut
  split <;> simp
  exact Nat.min_le_right _ _
theorem ol (c : UInt8) : ∀ s : Bs, ∀ w ∈ sp c s, w.length ≤ s.length
  | [], w, h => by
    have : w = [] := by simpa [sp] using h
    rw [this]; simp
  | b :: r, w, h => by
    by_cases hb : b = c
    · subst hb
      rw [kt] at h
      rcases List.mem_cons.1 h with rfl | h
      · simp
      · have := ol b r w h; simp; omega
    · rw [kr hb] at h
      cases hs : sp c r with
      | nil => exact absurd hs (qS c r)
      | cons p ps =>
        rw [hs] at h
        rcases List.mem_cons.1 h with rfl | h
        · have := ol c r p (by rw [hs]; simp)
          simp; omega
        · have := ol c r w (by rw [hs]; simp [h])
          simp; omega
theorem more_eq (F : Nat) (hF : 2000 < F) (c : Nat) (s : Bs) (hs : s.length ≤ 900) : lc F (c : Int) s = some (jS (c : Int) s) ∨ 1000000 < c := by
  by_cases hc : 1000000 < c
  · exact .inr hc
  refine .inl ?_
  have hl := sr s
  unfold lc jS
  rw [jE (by omega), bf, pg, jE (by omega), oc (by decide), bf, tZ]
  generalize hw : sp 46 ((sp 32 s).headD []) = w
  have hlens : ∀ x ∈ w, x.length ≤ 1000 := fun x hx => by
    have := ol 46 ((sp 32 s).headD []) x (by rw [hw]; exact hx)
    omega
  have hg : ∀ (b : Bool) (x : Option M3), dk b (mh (c : Int) 100) x = x := by
    intro b x
    cases b
    · exact ij
    · rw [jB, ot (by omega)]
  rw [hg]
  match w, hlens with
  | [], _ => rfl
  | [a], _ => rfl
  | [a, b], _ => rfl
  | a :: b :: d :: e :: r, _ =>
    have : decide (((a :: b :: d :: e :: r).length : Int) = 3) = false := decide_eq_false (by simp; omega)
    rw [this, nfl, Bool.true_or, ctr]; rfl
  | [a, b, d], hlens =>
    have e3 : decide ((([a, b, d] : List Bs).length : Int) = 3) = true := rfl
    rw [e3, ntr, fo]
    rw [nI]
    by_cases h3 : (c : Int) / 100 = 3
    · rw [bT h3, if_pos h3]
    · rw [bF h3, if_neg h3]
      obtain ⟨xa, ea, ha⟩ := ll F a (hlens a (by simp)) hF;obtain ⟨xb, eb, hb⟩ := ll F b (hlens b (by simp)) hF;obtain ⟨xd, ed, hd⟩ := ll F d (hlens d (by simp)) hF;obtain ⟨G, hG⟩ : ∃ G, F = G + 4 := ⟨F - 4, by omega⟩
      have step : ∀ (n : Nat) (i : Int) (u v w : Int), dN F (c : Int) [a, b, d] (n + 1) (i, u, v, w) = eO F (c : Int) [a, b, d] (dN F (c : Int) [a, b, d] n) i u v w := fun _ _ _ _ _ => rfl
      have lF : ∀ x, dN F (c : Int) [a, b, d] F x = dN F (c : Int) [a, b, d] (G + 3 + 1) x := fun x => by rw [hG]
      rw [lF, step]
      unfold eO
      have a0 : at_ [a, b, d] 0 = a := rfl
      have a1 : at_ [a, b, d] (0 + 1) = b := rfl
      have a2 : at_ [a, b, d] (0 + 1 + 1) = d := rfl
      rw [bT (by simp), bO (by simp), bf, a0, ea, bM]
      cases hna : gx a with
      | none => rfl
      | some x =>
        rw [show (some x).isSome = true from rfl, ntr, cfl, bO (by simp), bO (by simp), bf, ci (by omega), ha x hna]
        show dN F (c : Int) [a, b, d] (G + 2 + 1) (0 + 1, (x : Int), 0, 0) = _
        rw [step]
        unfold eO
        rw [bT (by simp), bO (by simp), bf, a1, eb, bM]
        cases hnb : gx b with
        | none => rfl
        | some y =>
          rw [show (some y).isSome = true from rfl, ntr, cfl, bO (by simp), bO (by simp), bf, ci (by omega), hb y hnb]
          show dN F (c : Int) [a, b, d] (G + 1 + 1) (0 + 1 + 1, (x : Int), (y : Int), 0) = _
          rw [step]
          unfold eO
          rw [bT (by simp), bO (by simp), bf, a2, ed, bM]
          cases hnd : gx d with
          | none => rfl
          | some z =>
            rw [show (some z).isSome = true from rfl, ntr, cfl, bO (by simp), bO (by simp), bf, ci (by omega), hd z hnd]
            show dN F (c : Int) [a, b, d] (G + 1) (0 + 1 + 1 + 1, (x : Int), (y : Int), (z : Int)) = _
            rw [step]
            unfold eO iE gH
            rw [bF (by simp), ot (by omega)]
            by_cases hx : (x : Int) = (c : Int) / 100
            · rw [bT hx]; simp only [if_pos hx]
            · rw [bF hx]; simp only [if_neg hx]
theorem jY {s : Bs} {n : Nat} (h : gx s = some n) : numI s = (n : Int) := by unfold numI; rw [h]
theorem lm {s : Bs} (h : gx s = none) : numI s = -1 := by unfold numI; rw [h]
theorem rmore_eq (F : Nat) (hF : 2000 < F) (c : Nat) (s : Bs) (hs : s.length ≤ 900) (hc : c ≤ 1000000) : ju F (c : Int) s = some (jS (c : Int) s) := by
  have hl := sr s
  unfold ju jS
  rw [kQ F s 32 (by omega) (by omega), bn]
  have h0 : 0 < (sp 32 s).length := List.length_pos_iff.2 (qS 32 s)
  have e0 : at_ (sp 32 s) 0 = (sp 32 s).headD [] := by
    cases hs : sp 32 s with
    | nil => exact absurd hs (qS 32 s)
    | cons p ps => rfl
  rw [bO (by omega), bf, e0, kQ F _ 46 (by omega) (by omega), bn]
  generalize sp 46 ((sp 32 s).headD []) = w
  have hg : ∀ (b : Bool) (x : Option M3), dk b (mh (c : Int) 100) x = x := by
    intro b x
    cases b
    · exact ij
    · rw [jB, ot (by omega)]
  rw [hg]
  match w with
  | [] => rfl
  | [a] => rfl
  | [a, b] => rfl
  | a :: b :: d :: e :: r =>
    have : decide (((a :: b :: d :: e :: r).length : Int) = 3) = false := decide_eq_false (by simp; omega)
    rw [this, nfl, Bool.true_or, ctr]; rfl
  | [a, b, d] =>
    have e3 : decide ((([a, b, d] : List Bs).length : Int) = 3) = true := rfl
    rw [e3, ntr, fo]
    rw [nI]
    by_cases h3 : (c : Int) / 100 = 3
    · rw [bT h3, if_pos h3]
    · have a0 : at_ [a, b, d] 0 = a := rfl
      have a1 : at_ [a, b, d] 1 = b := rfl
      have a2 : at_ [a, b, d] 2 = d := rfl
      rw [bF h3, if_neg h3, bO (by simp), bf, bO (by simp), bf, bO (by simp), bf, a0, a1, a2, ku F a (by omega), bn, ku F b (by omega), bn, ku F d (by omega), bn]
      unfold gr
      rw [ot (by omega)]
      cases hna : gx a with
      | none =>
        have : ¬ numI a = (c : Int) / 100 := by rw [lm hna]; omega
        rw [decide_eq_false this]; rfl
      | some x =>
        rw [jY hna]
        by_cases hx : (x : Int) = (c : Int) / 100
        · cases hnb : gx b with
          | none => rw [lm hnb, decide_eq_true hx]; rfl
          | some y =>
            cases hnd : gx d with
            | none => rw [lm hnd, decide_eq_true hx, jY hnb, decide_eq_false (p := (y : Int) < 0) (by omega)]; rfl
            | some z =>
              rw [jY hnb, jY hnd, decide_eq_true hx, decide_eq_false (p := (y : Int) < 0) (by omega), decide_eq_false (p := (z : Int) < 0) (by omega)]
              simp only [if_pos hx]; rfl
        · rw [decide_eq_false hx]
          cases gx b with
          | none => rfl
          | some y =>
            cases gx d with
            | none => rfl
            | some z => simp only [if_neg hx]; rfl
end Go.Rp
namespace Go.Rp
open Go.Pv Go.Av
open Go.Lib (decDigits)
open Go.Dg (kg cfl ctr dG eC fo nfl ntr fD ja rn)
def fitB (s : Bs) : Bool := !(s.any crlf) && decide (s.length ≤ 506)
def lst (ls : List Bs) : Bs := at_ ls ((ls.length : Int) - 1)
def mayB (c : Int) (ls : List Bs) (m : M3) : Bool := (((decide (200 ≤ c) && decide (c ≤ 599)) && (decide (1 ≤ ls.length) && decide (ls.length ≤ 100))) && ls.all fitB) && decide (m = jS c (lst ls))
def lnW (d : Bs) (g : UInt8) (s : Bs) : Bs := d ++ g :: (s ++ [13, 10])
def wrL (d : Bs) : List Bs → Bs
  | [] => []
  | s :: r => lnW d (if r = [] then 32 else 45) s ++ wrL d r
def wrA (c : Int) (ls : List Bs) : Bs := wrL (decDigits c.toNat) ls
theorem may_s {c : Int} {ls : List Bs} {m : M3} (h : mayB c ls m = true) : (200 ≤ c ∧ c ≤ 599) ∧ (1 ≤ ls.length ∧ ls.length ≤ 100) ∧ (∀ s ∈ ls, fitB s = true) ∧ m = jS c (lst ls) := by
  unfold mayB at h
  simp only [Bool.and_eq_true, decide_eq_true_eq] at h
  exact ⟨h.1.1.1, h.1.1.2, fun s hs => List.all_eq_true.1 h.1.2 s hs, h.2⟩
theorem fit_len {s : Bs} (h : fitB s = true) : s.length ≤ 506 := by
  unfold fitB at h
  simp only [Bool.and_eq_true, decide_eq_true_eq] at h
  exact h.2
end Go.Rp
