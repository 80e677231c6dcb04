/-
  Numbers of digits: what is run is what the plain functions say. Printed by a program of ours.
-/
import Derived.Test.YtjhlnhipjomdeaaGreatDoorAvE
import Derived.Test.YtjhlnhipjomdeaaGreatDoorPvLib
import Derived.Test.YtjhlnhipjomdeaaGreatDoorP11Join
import Derived.Test.YtjhlnhipjomdeaaGreatDoorShelf
import Derived.Lib.ItoaNum
import Derived.Test.YtjhlnhipjomdeaaGreatDoorAvStill
import Derived.Test.YtjhlnhipjomdeaaGreatDoorAvSync
import Derived.Test.YtjhlnhipjomdeaaGreatDoorChecked
import Derived.Test.YtjhlnhipjomdeaaGreatDoorLibLW
import Derived.Test.YtjhlnhipjomdeaaGreatDoorNumP
set_option linter.unusedVariables false
set_option linter.unusedSimpArgs false
namespace Go.Proofs.YtjhlnhipjomdeaaGreatDoor
open Go.RowKit Go.Av Go.Pv
theorem en76_num : ∀ (args : Array Value) (w : World), (callFunc 76 args).run Tryz.prog w = .ok (.enter 76 args) w := fun _ _ => by kernel_rfl
theorem en77_num : ∀ (args : Array Value) (w : World), (callFunc 77 args).run Tryz.prog w = .ok (.enter 77 args) w := fun _ _ => by kernel_rfl
theorem en88_num : ∀ (args : Array Value) (w : World), (callFunc 88 args).run Tryz.prog w = .ok (.enter 88 args) w := fun _ _ => by kernel_rfl
theorem en100_num : ∀ (args : Array Value) (w : World), (callFunc 100 args).run Tryz.prog w = .ok (.enter 100 args) w := fun _ _ => by kernel_rfl
theorem en101_num : ∀ (args : Array Value) (w : World), (callFunc 101 args).run Tryz.prog w = .ok (.enter 101 args) w := fun _ _ => by kernel_rfl
set_option maxRecDepth 100000 in
set_option maxHeartbeats 1000000 in
theorem w_sc_lower (F : Nat) (a1 : UInt8) (r2 : UInt8) (H : sc_lower F a1 = some r2) : ACalls Tryz.prog 100 [u8 a1] [] (Ret (u8 r2) []) := by
 unfold sc_lower at H
 refine ACalls.of_body Tryz.func100 rfl rfl ?_
 show AW _ _ 5 _ _ _
 refine AW.seq ?_
 refine AW.region ?_
 show AR _ _ _ _ _ [0] _
 refine sS rfl rfl rfl (asg rfl) ?_
 refine AR.nil ?_
 show AW _ _ _ _ _ _
 refine AW.seq ?_
 refine AW.region ?_
 show AR _ _ _ _ _ [0, 1, 2] _
 refine sS rfl rfl rfl (mv rfl) ?_
 refine sS rfl rfl rfl (g_or8 (a := a1) (b := 32) rfl rfl) ?_
 refine sS rfl rfl rfl (asg rfl) ?_
 refine AR.nil ?_
 show AW _ _ _ _ _ _
 refine AW.ret ?_
 obtain rfl := Option.some.inj H
 exact And.intro rfl (Exists.intro _ (Exists.intro _ ⟨ResV.oneW rfl (.refl _), Sub.at [] rfl, rfl, rfl⟩))
set_option maxRecDepth 100000 in
set_option maxHeartbeats 1000000 in
theorem w_sc_underscoreOK (F : Nat) (a1 : List UInt8) (r2 : Bool) (H : sc_underscoreOK F a1 = some r2) : ACalls Tryz.prog 101 [S a1] [] (Ret (B r2) []) := by
 unfold sc_underscoreOK at H
 refine ACalls.of_body Tryz.func101 rfl rfl ?_
 show AW _ _ 94 _ _ _
 refine AW.seq ?_
 refine AW.region ?_
 show AR _ _ _ _ _ [0] _
 refine sS rfl rfl rfl (asg rfl) ?_
 refine AR.nil ?_
 show AW _ _ _ _ _ _
 refine AW.seq ?_
 refine AW.region ?_
 show AR _ _ _ _ _ [0] _
 refine sS rfl rfl rfl (asg rfl) ?_
 refine AR.nil ?_
 show AW _ _ _ _ _ _
 refine AW.seq ?_
 refine AW.region ?_
 show AR _ _ _ _ _ [0] _
 refine sS rfl rfl rfl (asg rfl) ?_
 refine AR.nil ?_
 show AW _ _ _ _ _ _
 refine AW.cut (X := (List UInt8)) (fun y15 => ⟨[(0, S y15), (3, .v (.int .i32 94)), (4, i64 0)], [], []⟩) (fun y15 => sc_underscoreOK_j4 F y15 = some r2) ?_ ?_
 ·
  refine AW.seq ?_
  obtain ⟨g4, H⟩ := grdc_s H
  obtain ⟨x5, e6, H⟩ := lt_s H
  obtain ⟨g8, H⟩ := grdc_s H
  obtain ⟨x9, e10, H⟩ := lt_s H
  refine AW.region ?_
  show AR _ _ _ _ _ [0, 1, 2, 3, 4, 5, 6, 7, 8, 9, 10, 11, 12] _
  refine sS rfl rfl rfl (mv rfl) ?_
  refine sS rfl rfl rfl (opS_len_str Tryz.underlying9 rfl) ?_
  refine sS rfl rfl rfl (opS_ge rfl rfl) ?_
  refine sS rfl rfl rfl (mv rfl) ?_
  refine AR.meet (l := []) 18 (B ((decide (1 ≤ (a1.length : Int))) && ((decide (x5 = 45)) || (decide (x9 = 43))))) (fun K => ?_) ?_
  ·rcases Bool.eq_false_or_eq_true (decide (1 ≤ (a1.length : Int))) with h3 | h3
   ·
    refine gT h3 rfl rfl rfl rfl rfl rfl (AO.ops rfl rfl (mv rfl) ?_)
    refine gT h3 rfl rfl rfl rfl rfl rfl (AO.ops rfl rfl (g_index_str Tryz.underlying9 rfl rfl (g4 h3) e6) ?_)
    refine gT h3 rfl rfl rfl rfl rfl rfl (AO.ops rfl rfl (g_eq8 (a := x5) (b := 45) rfl rfl) ?_)
    refine gT h3 rfl rfl rfl rfl rfl rfl (AO.ops rfl rfl (mv rfl) ?_)
    refine AR.meet (l := [12]) 17 (B ((decide (x5 = 45)) || (decide (x9 = 43)))) (fun K => ?_) ?_
    ·rcases Bool.eq_false_or_eq_true (decide (x5 = 45)) with h7 | h7
     ·
      refine gF h7 rfl rfl rfl rfl rfl ?_
      refine gF h7 rfl rfl rfl rfl rfl ?_
      refine gF h7 rfl rfl rfl rfl rfl ?_
      refine gT h3 rfl rfl rfl rfl rfl rfl (AO.ops rfl rfl (opS_pick_t (av := .v _) rfl h7 rfl) ?_)
      exact K _ 3 _ (B_congr (or_t h7)) rfl rfl
     ·
      refine gT h7 rfl rfl rfl rfl rfl rfl (AO.ops rfl rfl (mv rfl) ?_)
      refine gT h7 rfl rfl rfl rfl rfl rfl (AO.ops rfl rfl (g_index_str Tryz.underlying9 rfl rfl (g8 (and_tt h3 (nf h7))) e10) ?_)
      refine gT h7 rfl rfl rfl rfl rfl rfl (AO.ops rfl rfl (g_eq8 (a := x9) (b := 43) rfl rfl) ?_)
      refine gT h3 rfl rfl rfl rfl rfl rfl (AO.ops rfl rfl (opS_pick_f (av := .v _) rfl h7 rfl) ?_)
      exact K _ 3 _ (B_congr (or_f h7)) rfl rfl
    refine sS rfl rfl rfl (opS_pick_t (av := .v _) rfl h3 rfl) ?_
    exact K _ 5 _ (B_congr (and_t h3)) rfl rfl
   ·
    refine gF h3 rfl rfl rfl rfl rfl ?_
    refine gF h3 rfl rfl rfl rfl rfl ?_
    refine gF h3 rfl rfl rfl rfl rfl ?_
    refine gF h3 rfl rfl rfl rfl rfl ?_
    refine gU rfl rfl rfl rfl rfl ?_
    refine gU rfl rfl rfl rfl rfl ?_
    refine gU rfl rfl rfl rfl rfl ?_
    refine gF h3 rfl rfl rfl rfl rfl ?_
    refine sS rfl rfl rfl (opS_pick_f (av := .v _) rfl h3 rfl) ?_
    exact K _ 8 _ (B_congr (and_f h3)) rfl rfl
  refine AR.nil ?_
  show AW _ _ _ _ _ _
  refine AW.cond rfl (fun c11 => ?_) (fun c11 => ?_)
  ·replace H := cnd_t c11 H
   obtain ⟨g12, H⟩ := grd_s H
   obtain ⟨x13, e14, H⟩ := lt_s H
   refine AW.region ?_
   show AR _ _ _ _ _ [0, 1, 2] _
   refine sS rfl rfl rfl (mv rfl) ?_
   refine sS rfl rfl rfl (g_from_str Tryz.underlying9 rfl rfl g12 e14) ?_
   refine sS rfl rfl rfl (asg rfl) ?_
   refine AR.nil ?_
   exact Exists.intro x13 ⟨H, WK.at [] (.cons (.refl _) (.cons (.refl _) (.cons (.refl _) (.nil _)))) rfl⟩
  ·replace H := cnd_f c11 H
   refine AW.skip ?_
   exact Exists.intro a1 ⟨H, WK.at [] (.cons (.refl _) (.cons (.refl _) (.cons (.refl _) (.nil _)))) rfl⟩
 rintro y15 H
 replace H : sc_underscoreOK_j4 F y15 = some r2 := H
 unfold sc_underscoreOK_j4 at H
 show AW _ _ _ _ _ _
 refine AW.seq ?_
 refine AW.region ?_
 show AR _ _ _ _ _ [0] _
 refine sS rfl rfl rfl (asg rfl) ?_
 refine AR.nil ?_
 show AW _ _ _ _ _ _
 refine AW.cut (X := Int × Int × Bool) (fun (y45, y46, y47) => ⟨[(0, S y15), (3, .v (.int .i32 y45)), (4, i64 y46), (5, B y47)], [], []⟩) (fun (y45, y46, y47) => sc_underscoreOK_j3 F y15 y45 y46 y47 = some r2) ?_ ?_
 ·
  refine AW.seq ?_
  obtain ⟨g18, H⟩ := grdc_s H
  obtain ⟨x19, e20, H⟩ := lt_s H
  obtain ⟨g22, H⟩ := grdc_s H
  obtain ⟨x23, e24, H⟩ := lt_s H
  obtain ⟨x25, e26, H⟩ := bndc_s H
  obtain ⟨g28, H⟩ := grdc_s H
  obtain ⟨x29, e30, H⟩ := lt_s H
  obtain ⟨x31, e32, H⟩ := bndc_s H
  obtain ⟨g34, H⟩ := grdc_s H
  obtain ⟨x35, e36, H⟩ := lt_s H
  obtain ⟨x37, e38, H⟩ := bndc_s H
  refine AW.region ?_
  show AR _ _ _ _ _ [0, 1, 2, 3, 4, 5, 6, 7, 8, 9, 10, 11, 12, 13, 14, 15, 16, 17, 18, 19, 20, 21, 22, 23, 24, 25] _
  refine sS rfl rfl rfl (mv rfl) ?_
  refine sS rfl rfl rfl (opS_len_str Tryz.underlying9 rfl) ?_
  refine sS rfl rfl rfl (opS_ge rfl rfl) ?_
  refine sS rfl rfl rfl (mv rfl) ?_
  refine AR.meet (l := [8, 9, 10, 11, 12, 13, 14, 15, 16, 17, 18, 19, 20, 21, 22, 23, 24, 25]) 28 (B ((decide (2 ≤ (y15.length : Int))) && (decide (x19 = 48)))) (fun K => ?_) ?_
  ·rcases Bool.eq_false_or_eq_true (decide (2 ≤ (y15.length : Int))) with h17 | h17
   ·
    refine gT h17 rfl rfl rfl rfl rfl rfl (AO.ops rfl rfl (mv rfl) ?_)
    refine gT h17 rfl rfl rfl rfl rfl rfl (AO.ops rfl rfl (g_index_str Tryz.underlying9 rfl rfl (g18 h17) e20) ?_)
    refine gT h17 rfl rfl rfl rfl rfl rfl (AO.ops rfl rfl (g_eq8 (a := x19) (b := 48) rfl rfl) ?_)
    refine sS rfl rfl rfl (opS_pick_t (av := .v _) rfl h17 rfl) ?_
    exact K _ 3 _ (B_congr (and_t h17)) rfl rfl
   ·
    refine gF h17 rfl rfl rfl rfl rfl ?_
    refine gF h17 rfl rfl rfl rfl rfl ?_
    refine gF h17 rfl rfl rfl rfl rfl ?_
    refine sS rfl rfl rfl (opS_pick_f (av := .v _) rfl h17 rfl) ?_
    exact K _ 3 _ (B_congr (and_f h17)) rfl rfl
  refine sS rfl rfl rfl (mv rfl) ?_
  refine AR.meet (l := []) 46 (B (((decide (2 ≤ (y15.length : Int))) && (decide (x19 = 48))) && (((decide (x25 = 98)) || (decide (x31 = 111))) || (decide (x37 = 120))))) (fun K => ?_) ?_
  ·rcases Bool.eq_false_or_eq_true ((decide (2 ≤ (y15.length : Int))) && (decide (x19 = 48))) with h21 | h21
   ·
    refine gT h21 rfl rfl rfl rfl rfl rfl (AO.ops rfl rfl (mv rfl) ?_)
    refine gT h21 rfl rfl rfl rfl rfl rfl (AO.ops rfl rfl (g_index_str Tryz.underlying9 rfl rfl (g22 h21) e24) ?_)
    refine gT h21 rfl rfl rfl rfl rfl rfl (AO.callp rfl en100_num rfl (w_sc_lower F x23 x25 (e26 h21)) ?_)
    refine gT h21 rfl rfl rfl rfl rfl rfl (AO.ops rfl rfl (g_eq8 (a := x25) (b := 98) rfl rfl) ?_)
    refine gT h21 rfl rfl rfl rfl rfl rfl (AO.ops rfl rfl (mv rfl) ?_)
    refine AR.meet (l := [19, 20, 21, 22, 23, 24, 25]) 39 (B ((decide (x25 = 98)) || (decide (x31 = 111)))) (fun K => ?_) ?_
    ·rcases Bool.eq_false_or_eq_true (decide (x25 = 98)) with h27 | h27
     ·
      refine gF h27 rfl rfl rfl rfl rfl ?_
      refine gF h27 rfl rfl rfl rfl rfl ?_
      refine gF h27 rfl rfl rfl rfl rfl ?_
      refine gF h27 rfl rfl rfl rfl rfl ?_
      refine gT h21 rfl rfl rfl rfl rfl rfl (AO.ops rfl rfl (opS_pick_t (av := .v _) rfl h27 rfl) ?_)
      exact K _ 4 _ (B_congr (or_t h27)) rfl rfl
     ·
      refine gT h27 rfl rfl rfl rfl rfl rfl (AO.ops rfl rfl (mv rfl) ?_)
      refine gT h27 rfl rfl rfl rfl rfl rfl (AO.ops rfl rfl (g_index_str Tryz.underlying9 rfl rfl (g28 (and_tt h21 (nf h27))) e30) ?_)
      refine gT h27 rfl rfl rfl rfl rfl rfl (AO.callp rfl en100_num rfl (w_sc_lower F x29 x31 (e32 (and_tt h21 (nf h27)))) ?_)
      refine gT h27 rfl rfl rfl rfl rfl rfl (AO.ops rfl rfl (g_eq8 (a := x31) (b := 111) rfl rfl) ?_)
      refine gT h21 rfl rfl rfl rfl rfl rfl (AO.ops rfl rfl (opS_pick_f (av := .v _) rfl h27 rfl) ?_)
      exact K _ 4 _ (B_congr (or_f h27)) rfl rfl
    refine gT h21 rfl rfl rfl rfl rfl rfl (AO.ops rfl rfl (mv rfl) ?_)
    refine AR.meet (l := [25]) 45 (B (((decide (x25 = 98)) || (decide (x31 = 111))) || (decide (x37 = 120)))) (fun K => ?_) ?_
    ·rcases Bool.eq_false_or_eq_true ((decide (x25 = 98)) || (decide (x31 = 111))) with h33 | h33
     ·
      refine gF h33 rfl rfl rfl rfl rfl ?_
      refine gF h33 rfl rfl rfl rfl rfl ?_
      refine gF h33 rfl rfl rfl rfl rfl ?_
      refine gF h33 rfl rfl rfl rfl rfl ?_
      refine gT h21 rfl rfl rfl rfl rfl rfl (AO.ops rfl rfl (opS_pick_t (av := .v _) rfl h33 rfl) ?_)
      exact K _ 4 _ (B_congr (or_t h33)) rfl rfl
     ·
      refine gT h33 rfl rfl rfl rfl rfl rfl (AO.ops rfl rfl (mv rfl) ?_)
      refine gT h33 rfl rfl rfl rfl rfl rfl (AO.ops rfl rfl (g_index_str Tryz.underlying9 rfl rfl (g34 (and_tt h21 (nf h33))) e36) ?_)
      refine gT h33 rfl rfl rfl rfl rfl rfl (AO.callp rfl en100_num rfl (w_sc_lower F x35 x37 (e38 (and_tt h21 (nf h33)))) ?_)
      refine gT h33 rfl rfl rfl rfl rfl rfl (AO.ops rfl rfl (g_eq8 (a := x37) (b := 120) rfl rfl) ?_)
      refine gT h21 rfl rfl rfl rfl rfl rfl (AO.ops rfl rfl (opS_pick_f (av := .v _) rfl h33 rfl) ?_)
      exact K _ 4 _ (B_congr (or_f h33)) rfl rfl
    refine sS rfl rfl rfl (opS_pick_t (av := .v _) rfl h21 rfl) ?_
    exact K _ 8 _ (B_congr (and_t h21)) rfl rfl
   ·
    refine gF h21 rfl rfl rfl rfl rfl ?_
    refine gF h21 rfl rfl rfl rfl rfl ?_
    refine gF h21 rfl rfl rfl rfl rfl ?_
    refine gF h21 rfl rfl rfl rfl rfl ?_
    refine gF h21 rfl rfl rfl rfl rfl ?_
    refine gU rfl rfl rfl rfl rfl ?_
    refine gU rfl rfl rfl rfl rfl ?_
    refine gU rfl rfl rfl rfl rfl ?_
    refine gU rfl rfl rfl rfl rfl ?_
    refine gF h21 rfl rfl rfl rfl rfl ?_
    refine gF h21 rfl rfl rfl rfl rfl ?_
    refine gU rfl rfl rfl rfl rfl ?_
    refine gU rfl rfl rfl rfl rfl ?_
    refine gU rfl rfl rfl rfl rfl ?_
    refine gU rfl rfl rfl rfl rfl ?_
    refine gF h21 rfl rfl rfl rfl rfl ?_
    refine sS rfl rfl rfl (opS_pick_f (av := .v _) rfl h21 rfl) ?_
    exact K _ 16 _ (B_congr (and_f h21)) rfl rfl
  refine AR.nil ?_
  show AW _ _ _ _ _ _
  refine AW.cond rfl (fun c39 => ?_) (fun c39 => ?_)
  ·replace H := cnd_t c39 H
   refine AW.seq ?_
   refine AW.region ?_
   show AR _ _ _ _ _ [0] _
   refine sS rfl rfl rfl (asg rfl) ?_
   refine AR.nil ?_
   show AW _ _ _ _ _ _
   refine AW.seq ?_
   refine AW.region ?_
   show AR _ _ _ _ _ [0] _
   refine sS rfl rfl rfl (asg rfl) ?_
   refine AR.nil ?_
   show AW _ _ _ _ _ _
   obtain ⟨g40, H⟩ := grd_s H
   obtain ⟨x41, e42, H⟩ := lt_s H
   obtain ⟨x43, e44, H⟩ := bnd_s H
   refine AW.region ?_
   show AR _ _ _ _ _ [0, 1, 2, 3, 4] _
   refine sS rfl rfl rfl (mv rfl) ?_
   refine sS rfl rfl rfl (g_index_str Tryz.underlying9 rfl rfl g40 e42) ?_
   refine AR.run rfl rfl (AO.callp rfl en100_num rfl (w_sc_lower F x41 x43 e44) ?_)
   refine sS rfl rfl rfl (g_eq8 (a := x43) (b := 120) rfl rfl) ?_
   refine sS rfl rfl rfl (asg rfl) ?_
   refine AR.nil ?_
   exact Exists.intro (48, 2, decide (x43 = 120)) ⟨H, WK.at [] (.cons (.refl _) (.cons (.refl _) (.cons (.refl _) (.cons (.refl _) (.nil _))))) rfl⟩
  ·replace H := cnd_f c39 H
   refine AW.skip ?_
   exact Exists.intro (94, 0, false) ⟨H, WK.at [] (.cons (.refl _) (.cons (.refl _) (.cons (.refl _) (.cons (.refl _) (.nil _))))) rfl⟩
 rintro ⟨y45, y46, y47⟩ H
 replace H : sc_underscoreOK_j3 F y15 y45 y46 y47 = some r2 := H
 unfold sc_underscoreOK_j3 at H
 show AW _ _ _ _ _ _
 refine AW.cut (X := Int) (fun y84 => ⟨[(3, .v (.int .i32 y84))], [], []⟩) (fun y84 => sc_underscoreOK_j1 y84 = some r2) ?_ ?_
 ·
  refine AW.block ?_
  refine AW.loop (X := Nat × Int × Int) (fun (n52, y49, y50) => ⟨[(0, S y15), (3, .v (.int .i32 y49)), (4, i64 y50), (5, B y47)], [], []⟩) (fun (n52, y49, y50) => sc_underscoreOK_L1 F y15 y47 n52 (y49, y50) = some r2) (fun (n52, y49, y50) => n52) (F, y45, y46) H (WK.at [] (.cons (.refl _) (.cons (.refl _) (.cons (.refl _) (.cons (.refl _) (.nil _))))) rfl) ?_
  rintro ⟨n52, y49, y50⟩ H
  obtain ⟨n52, rfl, H⟩ := loop_s H
  replace H : sc_underscoreOK_B1 F y15 y47 (sc_underscoreOK_L1 F y15 y47 n52) y49 y50 = some r2 := H
  unfold sc_underscoreOK_B1 at H
  show AW _ _ _ _ _ _
  refine AW.seq ?_
  refine AW.seq ?_
  refine AW.region ?_
  show AR _ _ _ _ _ [0, 1, 2, 3] _
  refine sS rfl rfl rfl (mv rfl) ?_
  refine sS rfl rfl rfl (mv rfl) ?_
  refine sS rfl rfl rfl (opS_len_str Tryz.underlying9 rfl) ?_
  refine sS rfl rfl rfl (opS_lt rfl rfl) ?_
  refine AR.nil ?_
  show AW _ _ _ _ _ _
  refine AW.cond rfl (fun c53 => ?_) (fun c53 => ?_)
  ·replace H := cnd_t c53 H
   refine AW.skip ?_
   show AW _ _ _ _ _ _
   refine AW.cut (X := Int) (fun y81 => ⟨[(0, S y15), (3, .v (.int .i32 y81)), (4, i64 y50), (5, B y47)], [], []⟩) (fun y81 => sc_underscoreOK_j2 y50 (sc_underscoreOK_L1 F y15 y47 n52) y81 = some r2) ?_ ?_
   ·
    refine AW.block ?_
    refine AW.seq ?_
    refine AW.seq ?_
    obtain ⟨g54, H⟩ := grd_s H
    obtain ⟨x55, e56, H⟩ := lt_s H
    obtain ⟨g58, H⟩ := grdc_s H
    obtain ⟨x59, e60, H⟩ := lt_s H
    obtain ⟨g63, H⟩ := grdc_s H
    obtain ⟨x64, e65, H⟩ := lt_s H
    obtain ⟨x66, e67, H⟩ := bndc_s H
    obtain ⟨g69, H⟩ := grdc_s H
    obtain ⟨x70, e71, H⟩ := lt_s H
    obtain ⟨x72, e73, H⟩ := bndc_s H
    refine AW.region ?_
    show AR _ _ _ _ _ [0, 1, 2, 3, 4, 5, 6, 7, 8, 9, 10, 11, 12, 13, 14, 15, 16, 17, 18, 19, 20, 21, 22, 23, 24, 25, 26] _
    refine sS rfl rfl rfl (mv rfl) ?_
    refine sS rfl rfl rfl (mv rfl) ?_
    refine sS rfl rfl rfl (g_index_str Tryz.underlying9 rfl rfl g54 e56) ?_
    refine sS rfl rfl rfl (opS_le rfl rfl) ?_
    refine sS rfl rfl rfl (mv rfl) ?_
    refine AR.meet (l := [10, 11, 12, 13, 14, 15, 16, 17, 18, 19, 20, 21, 22, 23, 24, 25, 26]) 66 (B ((decide (48 ≤ (x55.toNat : Int))) && (decide ((x59.toNat : Int) ≤ 57)))) (fun K => ?_) ?_
    ·rcases Bool.eq_false_or_eq_true (decide (48 ≤ (x55.toNat : Int))) with h57 | h57
     ·
      refine gT h57 rfl rfl rfl rfl rfl rfl (AO.ops rfl rfl (mv rfl) ?_)
      refine gT h57 rfl rfl rfl rfl rfl rfl (AO.ops rfl rfl (mv rfl) ?_)
      refine gT h57 rfl rfl rfl rfl rfl rfl (AO.ops rfl rfl (g_index_str Tryz.underlying9 rfl rfl (g58 h57) e60) ?_)
      refine gT h57 rfl rfl rfl rfl rfl rfl (AO.ops rfl rfl (opS_le rfl rfl) ?_)
      refine sS rfl rfl rfl (opS_pick_t (av := .v _) rfl h57 rfl) ?_
      exact K _ 4 _ (B_congr (and_t h57)) rfl rfl
     ·
      refine gF h57 rfl rfl rfl rfl rfl ?_
      refine gF h57 rfl rfl rfl rfl rfl ?_
      refine gF h57 rfl rfl rfl rfl rfl ?_
      refine gF h57 rfl rfl rfl rfl rfl ?_
      refine sS rfl rfl rfl (opS_pick_f (av := .v _) rfl h57 rfl) ?_
      exact K _ 4 _ (B_congr (and_f h57)) rfl rfl
    refine sS rfl rfl rfl (mv rfl) ?_
    refine AR.meet (l := []) 83 (B (((decide (48 ≤ (x55.toNat : Int))) && (decide ((x59.toNat : Int) ≤ 57))) || ((y47 && (decide (97 ≤ (x66.toNat : Int)))) && (decide ((x72.toNat : Int) ≤ 102))))) (fun K => ?_) ?_
    ·rcases Bool.eq_false_or_eq_true ((decide (48 ≤ (x55.toNat : Int))) && (decide ((x59.toNat : Int) ≤ 57))) with h61 | h61
     ·
      refine gF h61 rfl rfl rfl rfl rfl ?_
      refine gF h61 rfl rfl rfl rfl rfl ?_
      refine gU rfl rfl rfl rfl rfl ?_
      refine gU rfl rfl rfl rfl rfl ?_
      refine gU rfl rfl rfl rfl rfl ?_
      refine gU rfl rfl rfl rfl rfl ?_
      refine gU rfl rfl rfl rfl rfl ?_
      refine gF h61 rfl rfl rfl rfl rfl ?_
      refine gF h61 rfl rfl rfl rfl rfl ?_
      refine gU rfl rfl rfl rfl rfl ?_
      refine gU rfl rfl rfl rfl rfl ?_
      refine gU rfl rfl rfl rfl rfl ?_
      refine gU rfl rfl rfl rfl rfl ?_
      refine gU rfl rfl rfl rfl rfl ?_
      refine gF h61 rfl rfl rfl rfl rfl ?_
      refine sS rfl rfl rfl (opS_pick_t (av := .v _) rfl h61 rfl) ?_
      exact K _ 15 _ (B_congr (or_t h61)) rfl rfl
     ·
      refine gT h61 rfl rfl rfl rfl rfl rfl (AO.ops rfl rfl (mv rfl) ?_)
      refine gT h61 rfl rfl rfl rfl rfl rfl (AO.ops rfl rfl (mv rfl) ?_)
      refine AR.meet (l := [19, 20, 21, 22, 23, 24, 25, 26]) 75 (B (y47 && (decide (97 ≤ (x66.toNat : Int))))) (fun K => ?_) ?_
      ·rcases Bool.eq_false_or_eq_true y47 with h62 | h62
       ·
        refine gT h62 rfl rfl rfl rfl rfl rfl (AO.ops rfl rfl (mv rfl) ?_)
        refine gT h62 rfl rfl rfl rfl rfl rfl (AO.ops rfl rfl (mv rfl) ?_)
        refine gT h62 rfl rfl rfl rfl rfl rfl (AO.ops rfl rfl (g_index_str Tryz.underlying9 rfl rfl (g63 (and_tt (nf h61) h62)) e65) ?_)
        refine gT h62 rfl rfl rfl rfl rfl rfl (AO.callp rfl en100_num rfl (w_sc_lower F x64 x66 (e67 (and_tt (nf h61) h62))) ?_)
        refine gT h62 rfl rfl rfl rfl rfl rfl (AO.ops rfl rfl (opS_le rfl rfl) ?_)
        refine gT h61 rfl rfl rfl rfl rfl rfl (AO.ops rfl rfl (opS_pick_t (av := .v _) rfl h62 rfl) ?_)
        exact K _ 5 _ (B_congr (and_t h62)) rfl rfl
       ·
        refine gF h62 rfl rfl rfl rfl rfl ?_
        refine gF h62 rfl rfl rfl rfl rfl ?_
        refine gF h62 rfl rfl rfl rfl rfl ?_
        refine gF h62 rfl rfl rfl rfl rfl ?_
        refine gF h62 rfl rfl rfl rfl rfl ?_
        refine gT h61 rfl rfl rfl rfl rfl rfl (AO.ops rfl rfl (opS_pick_f (av := .v _) rfl h62 rfl) ?_)
        exact K _ 5 _ (B_congr (and_f h62)) rfl rfl
      refine gT h61 rfl rfl rfl rfl rfl rfl (AO.ops rfl rfl (mv rfl) ?_)
      refine AR.meet (l := [26]) 82 (B ((y47 && (decide (97 ≤ (x66.toNat : Int)))) && (decide ((x72.toNat : Int) ≤ 102)))) (fun K => ?_) ?_
      ·rcases Bool.eq_false_or_eq_true (y47 && (decide (97 ≤ (x66.toNat : Int)))) with h68 | h68
       ·
        refine gT h68 rfl rfl rfl rfl rfl rfl (AO.ops rfl rfl (mv rfl) ?_)
        refine gT h68 rfl rfl rfl rfl rfl rfl (AO.ops rfl rfl (mv rfl) ?_)
        refine gT h68 rfl rfl rfl rfl rfl rfl (AO.ops rfl rfl (g_index_str Tryz.underlying9 rfl rfl (g69 (and_tt (nf h61) h68)) e71) ?_)
        refine gT h68 rfl rfl rfl rfl rfl rfl (AO.callp rfl en100_num rfl (w_sc_lower F x70 x72 (e73 (and_tt (nf h61) h68))) ?_)
        refine gT h68 rfl rfl rfl rfl rfl rfl (AO.ops rfl rfl (opS_le rfl rfl) ?_)
        refine gT h61 rfl rfl rfl rfl rfl rfl (AO.ops rfl rfl (opS_pick_t (av := .v _) rfl h68 rfl) ?_)
        exact K _ 5 _ (B_congr (and_t h68)) rfl rfl
       ·
        refine gF h68 rfl rfl rfl rfl rfl ?_
        refine gF h68 rfl rfl rfl rfl rfl ?_
        refine gF h68 rfl rfl rfl rfl rfl ?_
        refine gF h68 rfl rfl rfl rfl rfl ?_
        refine gF h68 rfl rfl rfl rfl rfl ?_
        refine gT h61 rfl rfl rfl rfl rfl rfl (AO.ops rfl rfl (opS_pick_f (av := .v _) rfl h68 rfl) ?_)
        exact K _ 5 _ (B_congr (and_f h68)) rfl rfl
      refine sS rfl rfl rfl (opS_pick_f (av := .v _) rfl h61 rfl) ?_
      exact K _ 5 _ (B_congr (or_f h61)) rfl rfl
    refine AR.nil ?_
    show AW _ _ _ _ _ _
    refine AW.cond rfl (fun c74 => ?_) (fun c74 => ?_)
    ·replace H := cnd_t c74 H
     refine AW.seq ?_
     refine AW.region ?_
     show AR _ _ _ _ _ [0] _
     refine sS rfl rfl rfl (asg rfl) ?_
     refine AR.nil ?_
     show AW _ _ _ _ _ _
     refine AW.exit ?_
     exact Exists.intro 48 ⟨H, WK.at [] (.cons (.refl _) (.cons (.refl _) (.cons (.refl _) (.cons (.refl _) (.nil _))))) rfl⟩
    ·replace H := cnd_f c74 H
     refine AW.skip ?_
     show AW _ _ _ _ _ _
     refine AW.seq ?_
     refine AW.seq ?_
     obtain ⟨g75, H⟩ := grd_s H
     obtain ⟨x76, e77, H⟩ := lt_s H
     refine AW.region ?_
     show AR _ _ _ _ _ [0, 1, 2, 3] _
     refine sS rfl rfl rfl (mv rfl) ?_
     refine sS rfl rfl rfl (mv rfl) ?_
     refine sS rfl rfl rfl (g_index_str Tryz.underlying9 rfl rfl g75 e77) ?_
     refine sS rfl rfl rfl (g_eq8 (a := x76) (b := 95) rfl rfl) ?_
     refine AR.nil ?_
     show AW _ _ _ _ _ _
     refine AW.cond rfl (fun c78 => ?_) (fun c78 => ?_)
     ·replace H := cnd_t c78 H
      refine AW.seq ?_
      refine AW.seq ?_
      refine AW.region ?_
      show AR _ _ _ _ _ [0, 1] _
      refine sS rfl rfl rfl (mv rfl) ?_
      refine sS rfl rfl rfl (opS_nei rfl rfl) ?_
      refine AR.nil ?_
      show AW _ _ _ _ _ _
      refine AW.cond rfl (fun c79 => ?_) (fun c79 => ?_)
      ·replace H := cnd_t c79 H
       refine AW.seq ?_
       refine AW.region ?_
       show AR _ _ _ _ _ [0] _
       refine sS rfl rfl rfl (asg rfl) ?_
       refine AR.nil ?_
       show AW _ _ _ _ _ _
       refine AW.ret ?_
       obtain rfl := Option.some.inj H
       exact And.intro rfl (Exists.intro _ (Exists.intro _ ⟨ResV.oneW rfl (.refl _), Sub.at [] rfl, rfl, rfl⟩))
      ·replace H := cnd_f c79 H
       refine AW.skip ?_
       show AW _ _ _ _ _ _
       refine AW.seq ?_
       refine AW.region ?_
       show AR _ _ _ _ _ [0] _
       refine sS rfl rfl rfl (asg rfl) ?_
       refine AR.nil ?_
       show AW _ _ _ _ _ _
       refine AW.exit ?_
       exact Exists.intro 95 ⟨H, WK.at [] (.cons (.refl _) (.cons (.refl _) (.cons (.refl _) (.cons (.refl _) (.nil _))))) rfl⟩
     ·replace H := cnd_f c78 H
      refine AW.skip ?_
      show AW _ _ _ _ _ _
      refine AW.seq ?_
      refine AW.seq ?_
      refine AW.region ?_
      show AR _ _ _ _ _ [0, 1] _
      refine sS rfl rfl rfl (mv rfl) ?_
      refine sS rfl rfl rfl (opS_eqi rfl rfl) ?_
      refine AR.nil ?_
      show AW _ _ _ _ _ _
      refine AW.cond rfl (fun c80 => ?_) (fun c80 => ?_)
      ·replace H := cnd_t c80 H
       refine AW.seq ?_
       refine AW.region ?_
       show AR _ _ _ _ _ [0] _
       refine sS rfl rfl rfl (asg rfl) ?_
       refine AR.nil ?_
       show AW _ _ _ _ _ _
       refine AW.ret ?_
       obtain rfl := Option.some.inj H
       exact And.intro rfl (Exists.intro _ (Exists.intro _ ⟨ResV.oneW rfl (.refl _), Sub.at [] rfl, rfl, rfl⟩))
      ·replace H := cnd_f c80 H
       refine AW.skip ?_
       show AW _ _ _ _ _ _
       refine AW.region ?_
       show AR _ _ _ _ _ [0] _
       refine sS rfl rfl rfl (asg rfl) ?_
       refine AR.nil ?_
       exact Exists.intro 33 ⟨H, WK.at [] (.cons (.refl _) (.cons (.refl _) (.cons (.refl _) (.cons (.refl _) (.nil _))))) rfl⟩
   rintro y81 H
   replace H : sc_underscoreOK_j2 y50 (sc_underscoreOK_L1 F y15 y47 n52) y81 = some r2 := H
   unfold sc_underscoreOK_j2 at H
   show AW _ _ _ _ _ _
   obtain ⟨g83, H⟩ := grd_s H
   refine AW.region ?_
   show AR _ _ _ _ _ [0, 1, 2] _
   refine sS rfl rfl rfl (mv rfl) ?_
   refine sS rfl rfl rfl (g_add rfl rfl g83) ?_
   refine sS rfl rfl rfl (asg rfl) ?_
   refine AR.nil ?_
   exact Exists.intro (n52, y81, y50 + 1) ⟨H, Nat.lt_succ_self _, WK.at [] (.cons (.refl _) (.cons (.refl _) (.cons (.refl _) (.cons (.refl _) (.nil _))))) rfl⟩
  ·replace H := cnd_f c53 H
   refine AW.exit ?_
   exact Exists.intro y49 ⟨H, WK.at [] (.cons (.refl _) (.nil _)) rfl⟩
 rintro y84 H
 replace H : sc_underscoreOK_j1 y84 = some r2 := H
 unfold sc_underscoreOK_j1 at H
 show AW _ _ _ _ _ _
 refine AW.seq ?_
 refine AW.region ?_
 show AR _ _ _ _ _ [0, 1, 2] _
 refine sS rfl rfl rfl (mv rfl) ?_
 refine sS rfl rfl rfl (opS_nei rfl rfl) ?_
 refine sS rfl rfl rfl (asg rfl) ?_
 refine AR.nil ?_
 show AW _ _ _ _ _ _
 refine AW.ret ?_
 obtain rfl := Option.some.inj H
 exact And.intro rfl (Exists.intro _ (Exists.intro _ ⟨ResV.oneW rfl (.refl _), Sub.at [] rfl, rfl, rfl⟩))
set_option maxRecDepth 100000 in
set_option maxHeartbeats 1000000 in
theorem w_sc_ParseUint (F : Nat) (a1 : List UInt8) (a2 : Int) (a3 : Int) (r4 : Int) (r5 : Int) (H : sc_ParseUint F a1 a2 a3 = some (r4, r5)) : ACalls Tryz.prog 88 [S a1, i64 a2, i64 a3] [] (Ret (.tup [.v (.int .u64 r4), eCode 135 .i64 r5]) []) := by
 unfold sc_ParseUint at H
 refine ACalls.of_body Tryz.func88 rfl rfl ?_
 show AW _ _ 172 _ _ _
 refine AW.seq ?_
 refine AW.region ?_
 show AR _ _ _ _ _ [0, 1] _
 refine sS rfl rfl rfl (asg rfl) ?_
 refine sS rfl rfl rfl (asg rfl) ?_
 refine AR.nil ?_
 show AW _ _ _ _ _ _
 refine AW.seq ?_
 refine AW.seq ?_
 refine AW.region ?_
 show AR _ _ _ _ _ [0, 1] _
 refine sS rfl rfl rfl (mv rfl) ?_
 refine sS rfl rfl rfl (opS_eqs rfl rfl) ?_
 refine AR.nil ?_
 show AW _ _ _ _ _ _
 refine AW.cond rfl (fun c6 => ?_) (fun c6 => ?_)
 ·replace H := cnd_t c6 H
  refine AW.seq ?_
  refine AW.region ?_
  show AR _ _ _ _ _ [0, 1, 2] _
  refine sS rfl rfl rfl (opS_makeInterface (a := .v _) Tryz.underlying135 rfl rfl) ?_
  refine sS rfl rfl rfl (asg rfl) ?_
  refine sS rfl rfl rfl (opS_assign (av := .ifc _ _) rfl) ?_
  refine AR.nil ?_
  show AW _ _ _ _ _ _
  refine AW.ret ?_
  obtain ⟨rfl, rfl⟩ := res2 H
  exact And.intro rfl (Exists.intro _ (Exists.intro _ ⟨ResV.twoW rfl (.refl _) (.refl _), Sub.at [] rfl, rfl, rfl⟩))
 ·replace H := cnd_f c6 H
  refine AW.skip ?_
  show AW _ _ _ _ _ _
  refine AW.seq ?_
  refine AW.region ?_
  show AR _ _ _ _ _ [0, 1, 2] _
  refine sS rfl rfl rfl (mv rfl) ?_
  refine sS rfl rfl rfl (opS_eqi rfl rfl) ?_
  refine sS rfl rfl rfl (asg rfl) ?_
  refine AR.nil ?_
  show AW _ _ _ _ _ _
  refine AW.seq ?_
  refine AW.region ?_
  show AR _ _ _ _ _ [0, 1] _
  refine sS rfl rfl rfl (mv rfl) ?_
  refine sS rfl rfl rfl (asg rfl) ?_
  refine AR.nil ?_
  show AW _ _ _ _ _ _
  refine AW.cut (X := Unit) (fun _ => ⟨[(0, S a1), (1, i64 a2), (2, i64 a3), (8, B (decide (a2 = 0))), (9, S a1)], [], []⟩) (fun _ => sc_ParseUint_j6 F a1 a2 a3 = some (r4, r5)) ?_ ?_
  ·
   refine AW.block ?_
   refine AW.seq ?_
   refine AW.region ?_
   show AR _ _ _ _ _ [0, 1, 2, 3, 4, 5, 6] _
   refine sS rfl rfl rfl (mv rfl) ?_
   refine sS rfl rfl rfl (opS_le rfl rfl) ?_
   refine sS rfl rfl rfl (mv rfl) ?_
   refine AR.meet (l := [6]) 31 (B ((decide (2 ≤ a2)) && (decide (a2 ≤ 36)))) (fun K => ?_) ?_
   ·rcases Bool.eq_false_or_eq_true (decide (2 ≤ a2)) with h7 | h7
    ·
     refine gT h7 rfl rfl rfl rfl rfl rfl (AO.ops rfl rfl (mv rfl) ?_)
     refine gT h7 rfl rfl rfl rfl rfl rfl (AO.ops rfl rfl (opS_le rfl rfl) ?_)
     refine sS rfl rfl rfl (opS_pick_t (av := .v _) rfl h7 rfl) ?_
     exact K _ 2 _ (B_congr (and_t h7)) rfl rfl
    ·
     refine gF h7 rfl rfl rfl rfl rfl ?_
     refine gF h7 rfl rfl rfl rfl rfl ?_
     refine sS rfl rfl rfl (opS_pick_f (av := .v _) rfl h7 rfl) ?_
     exact K _ 2 _ (B_congr (and_f h7)) rfl rfl
   refine sS rfl rfl rfl (asg rfl) ?_
   refine AR.nil ?_
   show AW _ _ _ _ _ _
   obtain ⟨g9, H⟩ := grd_s H
   refine AW.cond rfl (fun _ => ?_) (fun hx => bool_no g9 hx)
   refine AW.skip ?_
   exact Exists.intro () ⟨H, WK.at [] (.cons (.refl _) (.cons (.refl _) (.cons (.refl _) (.cons (.refl _) (.cons (.refl _) (.nil _)))))) rfl⟩
  rintro _ H
  replace H : sc_ParseUint_j6 F a1 a2 a3 = some (r4, r5) := H
  unfold sc_ParseUint_j6 at H
  show AW _ _ _ _ _ _
  refine AW.cut (X := Unit) (fun _ => ⟨[(0, S a1), (1, i64 a2), (2, i64 64), (8, B (decide (a2 = 0))), (9, S a1)], [], []⟩) (fun _ => sc_ParseUint_j5 F a1 a2 = some (r4, r5)) ?_ ?_
  ·
   refine AW.seq ?_
   refine AW.region ?_
   show AR _ _ _ _ _ [0, 1] _
   refine sS rfl rfl rfl (mv rfl) ?_
   refine sS rfl rfl rfl (opS_eqi rfl rfl) ?_
   refine AR.nil ?_
   show AW _ _ _ _ _ _
   obtain ⟨g12, H⟩ := grd_s H
   refine AW.cond rfl (fun _ => ?_) (fun hx => bool_no g12 hx)
   refine AW.region ?_
   show AR _ _ _ _ _ [0] _
   refine sS rfl rfl rfl (asg rfl) ?_
   refine AR.nil ?_
   exact Exists.intro () ⟨H, WK.at [] (.cons (.refl _) (.cons (.refl _) (.cons (.refl _) (.cons (.refl _) (.cons (.refl _) (.nil _)))))) rfl⟩
  rintro _ H
  replace H : sc_ParseUint_j5 F a1 a2 = some (r4, r5) := H
  unfold sc_ParseUint_j5 at H
  show AW _ _ _ _ _ _
  refine AW.seq ?_
  refine AW.region ?_
  show AR _ _ _ _ _ [0] _
  refine sS rfl rfl rfl (asg rfl) ?_
  refine AR.nil ?_
  show AW _ _ _ _ _ _
  refine AW.cut (X := Int) (fun y17 => ⟨[(0, S a1), (1, i64 a2), (2, i64 64), (8, B (decide (a2 = 0))), (9, S a1), (10, .v (.int .u64 y17))], [], []⟩) (fun y17 => sc_ParseUint_j4 F a1 a2 y17 = some (r4, r5)) ?_ ?_
  ·
   refine AW.seq ?_
   refine AW.region ?_
   show AR _ _ _ _ _ [0] _
   refine sS rfl rfl rfl (mv rfl) ?_
   refine AR.nil ?_
   show AW _ _ _ _ _ _
   refine AW.block ?_
   refine AW.seq ?_
   refine AW.region ?_
   show AR _ _ _ _ _ [0, 1] _
   refine sS rfl rfl rfl (opS_eqi rfl rfl) ?_
   refine sS rfl rfl rfl (asg rfl) ?_
   refine AR.nil ?_
   show AW _ _ _ _ _ _
   refine AW.cond rfl (fun c14 => ?_) (fun c14 => ?_)
   ·replace H := cnd_t c14 H
    refine AW.region ?_
    show AR _ _ _ _ _ [0] _
    refine sS rfl rfl rfl (asg rfl) ?_
    refine AR.nil ?_
    exact Exists.intro 1844674407370955162 ⟨H, WK.at [] (.cons (.refl _) (.cons (.refl _) (.cons (.refl _) (.cons (.refl _) (.cons (.refl _) (.cons (.refl _) (.nil _))))))) rfl⟩
   ·replace H := cnd_f c14 H
    refine AW.seq ?_
    refine AW.region ?_
    show AR _ _ _ _ _ [0, 1] _
    refine sS rfl rfl rfl (opS_eqi rfl rfl) ?_
    refine sS rfl rfl rfl (asg rfl) ?_
    refine AR.nil ?_
    show AW _ _ _ _ _ _
    refine AW.cond rfl (fun c15 => ?_) (fun c15 => ?_)
    ·replace H := cnd_t c15 H
     refine AW.region ?_
     show AR _ _ _ _ _ [0] _
     refine sS rfl rfl rfl (asg rfl) ?_
     refine AR.nil ?_
     exact Exists.intro 1152921504606846976 ⟨H, WK.at [] (.cons (.refl _) (.cons (.refl _) (.cons (.refl _) (.cons (.refl _) (.cons (.refl _) (.cons (.refl _) (.nil _))))))) rfl⟩
    ·replace H := cnd_f c15 H
     obtain ⟨g16, H⟩ := grd_s H
     refine AW.region ?_
     show AR _ _ _ _ _ [0, 1, 2, 3, 4] _
     refine sS rfl rfl rfl (mv rfl) ?_
     refine sS rfl rfl rfl (opS_conv_int (by kernel_rfl) Tryz.underlying136 rfl) ?_
     refine sS rfl rfl rfl (opS_quow rfl rfl (of_decide_eq_true g16)) ?_
     refine sS rfl rfl rfl (opS_addw rfl rfl) ?_
     refine sS rfl rfl rfl (asg rfl) ?_
     refine AR.nil ?_
     exact Exists.intro (IntKind.u64.wrap ((IntKind.u64.wrap (Int.tdiv 18446744073709551615 (IntKind.u64.wrap a2))) + 1)) ⟨H, WK.at [] (.cons (.refl _) (.cons (.refl _) (.cons (.refl _) (.cons (.refl _) (.cons (.refl _) (.cons (.refl _) (.nil _))))))) rfl⟩
  rintro y17 H
  replace H : sc_ParseUint_j4 F a1 a2 y17 = some (r4, r5) := H
  unfold sc_ParseUint_j4 at H
  show AW _ _ _ _ _ _
  refine AW.seq ?_
  obtain ⟨g19, H⟩ := grd_s H
  refine AW.region ?_
  show AR _ _ _ _ _ [0, 1, 2, 3, 4] _
  refine sS rfl rfl rfl (mv rfl) ?_
  refine sS rfl rfl rfl (opS_conv_int (by kernel_rfl) Tryz.underlying106 rfl) ?_
  refine sS rfl rfl rfl (opS_shl rfl rfl (of_decide_eq_true g19)) ?_
  refine sS rfl rfl rfl (opS_subw rfl rfl) ?_
  refine sS rfl rfl rfl (asg rfl) ?_
  refine AR.nil ?_
  show AW _ _ _ _ _ _
  refine AW.seq ?_
  refine AW.region ?_
  show AR _ _ _ _ _ [0] _
  refine sS rfl rfl rfl (asg rfl) ?_
  refine AR.nil ?_
  show AW _ _ _ _ _ _
  refine AW.seq ?_
  refine AW.region ?_
  show AR _ _ _ _ _ [0] _
  refine sS rfl rfl rfl (asg rfl) ?_
  refine AR.nil ?_
  show AW _ _ _ _ _ _
  refine AW.cut (X := Bool × Int) (fun (y53, y54) => ⟨[(9, S a1), (12, B y53), (13, .v (.int .u64 y54))], [], []⟩) (fun (y53, y54) => sc_ParseUint_j1 F a1 y53 y54 = some (r4, r5)) ?_ ?_
  ·
   refine AW.seq ?_
   obtain ⟨g20, H⟩ := grd_s H
   refine AW.region ?_
   show AR _ _ _ _ _ [0, 1, 2, 3] _
   refine sS rfl rfl rfl (mv rfl) ?_
   refine sX rfl rfl rfl (g_conv_str_bytes (bytes := 1) Tryz.underlying9 Tryz.underlying36 Tryz.underlying5 rfl g20) ?_
   rintro _ _ ⟨t21, rfl, rfl⟩
   refine sS rfl rfl rfl (opS_len_sl Tryz.underlying36 rfl) ?_
   refine sS rfl rfl rfl (mv rfl) ?_
   refine AR.nil ?_
   show AW _ _ _ _ _ _
   refine AW.block ?_
   refine AW.loop (X := Nat × Bool × Int × Int) (fun (n26, y22, y23, y24) => ⟨[(1, i64 a2), (8, B (decide (a2 = 0))), (9, S a1), (10, .v (.int .u64 y17)), (11, .v (.int .u64 (IntKind.u64.wrap ((IntKind.u64.wrap (1 * 2 ^ min (Int.toNat (IntKind.u64.wrap 64)) IntKind.u64.bits)) - 1)))), (12, B y22), (13, .v (.int .u64 y23)), (99, slE Enc.byte a1 (some t21)), (100, i64 (a1.length : Int)), (101, i64 y24)], [], [.tok t21 5]⟩) (fun (n26, y22, y23, y24) => sc_ParseUint_L1 F a1 a2 y17 n26 (y22, y23, y24) = some (r4, r5)) (fun (n26, y22, y23, y24) => n26) (F, false, 0, 0) H (WK.at [0] (.cons (.refl _) (.cons (.refl _) (.cons (.refl _) (.cons (.refl _) (.cons (.refl _) (.cons (.refl _) (.cons (.refl _) (.cons (.refl _) (.cons (.refl _) (.cons (.refl _) (.nil _))))))))))) rfl) ?_
   rintro ⟨n26, y22, y23, y24⟩ H
   obtain ⟨n26, rfl, H⟩ := loop_s H
   replace H : sc_ParseUint_B1 F a1 a2 y17 (sc_ParseUint_L1 F a1 a2 y17 n26) y22 y23 y24 = some (r4, r5) := H
   unfold sc_ParseUint_B1 at H
   show AW _ _ _ _ _ _
   refine AW.seq ?_
   refine AW.region ?_
   show AR _ _ _ _ _ [0] _
   refine sS rfl rfl rfl (opS_lt rfl rfl) ?_
   refine AR.nil ?_
   show AW _ _ _ _ _ _
   refine AW.seq ?_
   refine AW.cond rfl (fun c27 => ?_) (fun c27 => ?_)
   ·replace H := cnd_t c27 H
    refine AW.skip ?_
    show AW _ _ _ _ _ _
    refine AW.cut (X := Bool × Int) (fun (y49, y50) => ⟨[(1, i64 a2), (8, B (decide (a2 = 0))), (9, S a1), (10, .v (.int .u64 y17)), (11, .v (.int .u64 (IntKind.u64.wrap ((IntKind.u64.wrap (1 * 2 ^ min (Int.toNat (IntKind.u64.wrap 64)) IntKind.u64.bits)) - 1)))), (12, B y49), (13, .v (.int .u64 y50)), (99, slE Enc.byte a1 (some t21)), (100, i64 (a1.length : Int)), (101, i64 y24)], [], [.tok t21 5]⟩) (fun (y49, y50) => sc_ParseUint_j2 y24 (sc_ParseUint_L1 F a1 a2 y17 n26) y49 y50 = some (r4, r5)) ?_ ?_
    ·
     refine AW.block ?_
     refine AW.seq ?_
     obtain ⟨g28, H⟩ := grd_s H
     obtain ⟨x29, e30, H⟩ := lt_s H
     refine AW.region ?_
     show AR _ _ _ _ _ [0, 1, 2] _
     refine sS rfl rfl rfl (g_indexAddr (E := Enc.byte) Tryz.underlying36 (by kernel_rfl) rfl rfl g28 e30) ?_
     refine sS rfl rfl rfl (opS_load_cp Tryz.underlying5 rfl rfl) ?_
     refine sS rfl rfl rfl (asg rfl) ?_
     refine AR.nil ?_
     show AW _ _ _ _ _ _
     refine AW.seq ?_
     refine AW.region ?_
     show AR _ _ _ _ _ [0] _
     refine sS rfl rfl rfl (asg rfl) ?_
     refine AR.nil ?_
     show AW _ _ _ _ _ _
     refine AW.cut (X := UInt8) (fun y43 => ⟨[(1, i64 a2), (8, B (decide (a2 = 0))), (9, S a1), (10, .v (.int .u64 y17)), (11, .v (.int .u64 (IntKind.u64.wrap ((IntKind.u64.wrap (1 * 2 ^ min (Int.toNat (IntKind.u64.wrap 64)) IntKind.u64.bits)) - 1)))), (12, B y22), (13, .v (.int .u64 y23)), (16, u8 y43), (99, slE Enc.byte a1 (some t21)), (100, i64 (a1.length : Int)), (101, i64 y24)], [], [.tok t21 5]⟩) (fun y43 => sc_ParseUint_j3 a2 y17 y22 y23 y24 (sc_ParseUint_L1 F a1 a2 y17 n26) y43 = some (r4, r5)) ?_ ?_
     ·
      refine AW.block ?_
      refine AW.seq ?_
      refine AW.region ?_
      show AR _ _ _ _ _ [0, 1, 2, 3, 4, 5] _
      refine sS rfl rfl rfl (mv rfl) ?_
      refine sS rfl rfl rfl (g_eq8 (a := x29) (b := 95) rfl rfl) ?_
      refine sS rfl rfl rfl (mv rfl) ?_
      refine AR.meet (l := [5]) 111 (B ((decide (x29 = 95)) && (decide (a2 = 0)))) (fun K => ?_) ?_
      ·rcases Bool.eq_false_or_eq_true (decide (x29 = 95)) with h31 | h31
       ·
        refine gT h31 rfl rfl rfl rfl rfl rfl (AO.ops rfl rfl (mv rfl) ?_)
        refine sS rfl rfl rfl (opS_pick_t (av := .v _) rfl h31 rfl) ?_
        exact K _ 1 _ (B_congr (and_t h31)) rfl rfl
       ·
        refine gF h31 rfl rfl rfl rfl rfl ?_
        refine sS rfl rfl rfl (opS_pick_f (av := .v _) rfl h31 rfl) ?_
        exact K _ 1 _ (B_congr (and_f h31)) rfl rfl
      refine sS rfl rfl rfl (asg rfl) ?_
      refine AR.nil ?_
      show AW _ _ _ _ _ _
      refine AW.cond rfl (fun c32 => ?_) (fun c32 => ?_)
      ·replace H := cnd_t c32 H
       refine AW.seq ?_
       refine AW.region ?_
       show AR _ _ _ _ _ [0] _
       refine sS rfl rfl rfl (asg rfl) ?_
       refine AR.nil ?_
       show AW _ _ _ _ _ _
       refine AW.exit ?_
       exact Exists.intro (true, y23) ⟨H, WK.at [0] (.cons (.refl _) (.cons (.refl _) (.cons (.refl _) (.cons (.refl _) (.cons (.refl _) (.cons (.refl _) (.cons (.refl _) (.cons (.refl _) (.cons (.refl _) (.cons (.refl _) (.nil _))))))))))) rfl⟩
      ·replace H := cnd_f c32 H
       refine AW.seq ?_
       refine AW.region ?_
       show AR _ _ _ _ _ [0, 1, 2, 3, 4, 5, 6] _
       refine sS rfl rfl rfl (mv rfl) ?_
       refine sS rfl rfl rfl (opS_le rfl rfl) ?_
       refine sS rfl rfl rfl (mv rfl) ?_
       refine AR.meet (l := [6]) 118 (B ((decide (48 ≤ (x29.toNat : Int))) && (decide ((x29.toNat : Int) ≤ 57)))) (fun K => ?_) ?_
       ·rcases Bool.eq_false_or_eq_true (decide (48 ≤ (x29.toNat : Int))) with h33 | h33
        ·
         refine gT h33 rfl rfl rfl rfl rfl rfl (AO.ops rfl rfl (mv rfl) ?_)
         refine gT h33 rfl rfl rfl rfl rfl rfl (AO.ops rfl rfl (opS_le rfl rfl) ?_)
         refine sS rfl rfl rfl (opS_pick_t (av := .v _) rfl h33 rfl) ?_
         exact K _ 2 _ (B_congr (and_t h33)) rfl rfl
        ·
         refine gF h33 rfl rfl rfl rfl rfl ?_
         refine gF h33 rfl rfl rfl rfl rfl ?_
         refine sS rfl rfl rfl (opS_pick_f (av := .v _) rfl h33 rfl) ?_
         exact K _ 2 _ (B_congr (and_f h33)) rfl rfl
       refine sS rfl rfl rfl (asg rfl) ?_
       refine AR.nil ?_
       show AW _ _ _ _ _ _
       refine AW.cond rfl (fun c34 => ?_) (fun c34 => ?_)
       ·replace H := cnd_t c34 H
        refine AW.region ?_
        show AR _ _ _ _ _ [0, 1, 2] _
        refine sS rfl rfl rfl (mv rfl) ?_
        refine sS rfl rfl rfl (g_sub8 (a := x29) (b := 48) rfl rfl) ?_
        refine sS rfl rfl rfl (asg rfl) ?_
        refine AR.nil ?_
        exact Exists.intro (x29 - 48) ⟨H, WK.at [0] (.cons (.refl _) (.cons (.refl _) (.cons (.refl _) (.cons (.refl _) (.cons (.refl _) (.cons (.refl _) (.cons (.refl _) (.cons (.refl _) (.cons (.refl _) (.cons (.refl _) (.cons (.refl _) (.nil _)))))))))))) rfl⟩
       ·replace H := cnd_f c34 H
        refine AW.seq ?_
        obtain ⟨x35, e36, H⟩ := bnd_s H
        obtain ⟨x38, e39, H⟩ := bndc_s H
        refine AW.region ?_
        show AR _ _ _ _ _ [0, 1, 2, 3, 4, 5, 6, 7, 8] _
        refine sS rfl rfl rfl (mv rfl) ?_
        refine AR.run rfl rfl (AO.callp rfl en100_num rfl (w_sc_lower F x29 x35 e36) ?_)
        refine sS rfl rfl rfl (opS_le rfl rfl) ?_
        refine sS rfl rfl rfl (mv rfl) ?_
        refine AR.meet (l := [8]) 129 (B ((decide (97 ≤ (x35.toNat : Int))) && (decide ((x38.toNat : Int) ≤ 122)))) (fun K => ?_) ?_
        ·rcases Bool.eq_false_or_eq_true (decide (97 ≤ (x35.toNat : Int))) with h37 | h37
         ·
          refine gT h37 rfl rfl rfl rfl rfl rfl (AO.ops rfl rfl (mv rfl) ?_)
          refine gT h37 rfl rfl rfl rfl rfl rfl (AO.callp rfl en100_num rfl (w_sc_lower F x29 x38 (e39 h37)) ?_)
          refine gT h37 rfl rfl rfl rfl rfl rfl (AO.ops rfl rfl (opS_le rfl rfl) ?_)
          refine sS rfl rfl rfl (opS_pick_t (av := .v _) rfl h37 rfl) ?_
          exact K _ 3 _ (B_congr (and_t h37)) rfl rfl
         ·
          refine gF h37 rfl rfl rfl rfl rfl ?_
          refine gF h37 rfl rfl rfl rfl rfl ?_
          refine gF h37 rfl rfl rfl rfl rfl ?_
          refine sS rfl rfl rfl (opS_pick_f (av := .v _) rfl h37 rfl) ?_
          exact K _ 3 _ (B_congr (and_f h37)) rfl rfl
        refine sS rfl rfl rfl (asg rfl) ?_
        refine AR.nil ?_
        show AW _ _ _ _ _ _
        refine AW.cond rfl (fun c40 => ?_) (fun c40 => ?_)
        ·replace H := cnd_t c40 H
         obtain ⟨x41, e42, H⟩ := bnd_s H
         refine AW.region ?_
         show AR _ _ _ _ _ [0, 1, 2, 3, 4] _
         refine sS rfl rfl rfl (mv rfl) ?_
         refine AR.run rfl rfl (AO.callp rfl en100_num rfl (w_sc_lower F x29 x41 e42) ?_)
         refine sS rfl rfl rfl (g_sub8 (a := x41) (b := 97) rfl rfl) ?_
         refine sS rfl rfl rfl (g_add8 (a := x41 - 97) (b := 10) rfl rfl) ?_
         refine sS rfl rfl rfl (asg rfl) ?_
         refine AR.nil ?_
         exact Exists.intro ((x41 - 97) + 10) ⟨H, WK.at [0] (.cons (.refl _) (.cons (.refl _) (.cons (.refl _) (.cons (.refl _) (.cons (.refl _) (.cons (.refl _) (.cons (.refl _) (.cons (.refl _) (.cons (.refl _) (.cons (.refl _) (.cons (.refl _) (.nil _)))))))))))) rfl⟩
        ·replace H := cnd_f c40 H
         refine AW.seq ?_
         refine AW.region ?_
         show AR _ _ _ _ _ [0, 1, 2] _
         refine sS rfl rfl rfl (opS_makeInterface (a := .v _) Tryz.underlying135 rfl rfl) ?_
         refine sS rfl rfl rfl (asg rfl) ?_
         refine sS rfl rfl rfl (opS_assign (av := .ifc _ _) rfl) ?_
         refine AR.nil ?_
         show AW _ _ _ _ _ _
         refine AW.ret ?_
         obtain ⟨rfl, rfl⟩ := res2 H
         exact And.intro rfl (Exists.intro _ (Exists.intro _ ⟨ResV.twoW rfl (.refl _) (.refl _), Sub.at [] rfl, rfl, rfl⟩))
     rintro y43 H
     replace H : sc_ParseUint_j3 a2 y17 y22 y23 y24 (sc_ParseUint_L1 F a1 a2 y17 n26) y43 = some (r4, r5) := H
     unfold sc_ParseUint_j3 at H
     show AW _ _ _ _ _ _
     refine AW.seq ?_
     refine AW.seq ?_
     refine AW.region ?_
     show AR _ _ _ _ _ [0, 1, 2, 3] _
     refine sS rfl rfl rfl (mv rfl) ?_
     refine sS rfl rfl rfl (mv rfl) ?_
     refine sS rfl rfl rfl (g_conv_to8 (by kernel_rfl) Tryz.underlying5 rfl) ?_
     refine sS rfl rfl rfl (opS_ge rfl rfl) ?_
     refine AR.nil ?_
     show AW _ _ _ _ _ _
     refine AW.cond rfl (fun c45 => ?_) (fun c45 => ?_)
     ·replace H := cnd_t c45 H
      refine AW.seq ?_
      refine AW.region ?_
      show AR _ _ _ _ _ [0, 1, 2] _
      refine sS rfl rfl rfl (opS_makeInterface (a := .v _) Tryz.underlying135 rfl rfl) ?_
      refine sS rfl rfl rfl (asg rfl) ?_
      refine sS rfl rfl rfl (opS_assign (av := .ifc _ _) rfl) ?_
      refine AR.nil ?_
      show AW _ _ _ _ _ _
      refine AW.ret ?_
      obtain ⟨rfl, rfl⟩ := res2 H
      exact And.intro rfl (Exists.intro _ (Exists.intro _ ⟨ResV.twoW rfl (.refl _) (.refl _), Sub.at [] rfl, rfl, rfl⟩))
     ·replace H := cnd_f c45 H
      refine AW.skip ?_
      show AW _ _ _ _ _ _
      refine AW.seq ?_
      refine AW.seq ?_
      refine AW.region ?_
      show AR _ _ _ _ _ [0, 1, 2] _
      refine sS rfl rfl rfl (mv rfl) ?_
      refine sS rfl rfl rfl (mv rfl) ?_
      refine sS rfl rfl rfl (opS_ge rfl rfl) ?_
      refine AR.nil ?_
      show AW _ _ _ _ _ _
      refine AW.cond rfl (fun c46 => ?_) (fun c46 => ?_)
      ·replace H := cnd_t c46 H
       refine AW.seq ?_
       refine AW.region ?_
       show AR _ _ _ _ _ [0, 1, 2, 3] _
       refine sS rfl rfl rfl (mv rfl) ?_
       refine sS rfl rfl rfl (opS_makeInterface (a := .v _) Tryz.underlying135 rfl rfl) ?_
       refine sS rfl rfl rfl (asg rfl) ?_
       refine sS rfl rfl rfl (opS_assign (av := .ifc _ _) rfl) ?_
       refine AR.nil ?_
       show AW _ _ _ _ _ _
       refine AW.ret ?_
       obtain ⟨rfl, rfl⟩ := res2 H
       exact And.intro rfl (Exists.intro _ (Exists.intro _ ⟨ResV.twoW rfl (.refl _) (.refl _), Sub.at [] rfl, rfl, rfl⟩))
      ·replace H := cnd_f c46 H
       refine AW.skip ?_
       show AW _ _ _ _ _ _
       refine AW.seq ?_
       refine AW.region ?_
       show AR _ _ _ _ _ [0, 1, 2, 3, 4] _
       refine sS rfl rfl rfl (mv rfl) ?_
       refine sS rfl rfl rfl (mv rfl) ?_
       refine sS rfl rfl rfl (opS_conv_int (by kernel_rfl) Tryz.underlying136 rfl) ?_
       refine sS rfl rfl rfl (opS_mulw rfl rfl) ?_
       refine sS rfl rfl rfl (asg rfl) ?_
       refine AR.nil ?_
       show AW _ _ _ _ _ _
       refine AW.seq ?_
       refine AW.region ?_
       show AR _ _ _ _ _ [0, 1, 2, 3, 4] _
       refine sS rfl rfl rfl (mv rfl) ?_
       refine sS rfl rfl rfl (mv rfl) ?_
       refine sS rfl rfl rfl (opS_conv_int (k' := .u8) (n := (y43.toNat : Int)) (by kernel_rfl) Tryz.underlying136 rfl) ?_
       refine sS rfl rfl rfl (opS_addw rfl rfl) ?_
       refine sS rfl rfl rfl (asg rfl) ?_
       refine AR.nil ?_
       show AW _ _ _ _ _ _
       refine AW.seq ?_
       refine AW.seq ?_
       refine AW.region ?_
       show AR _ _ _ _ _ [0, 1, 2, 3, 4, 5, 6, 7] _
       refine sS rfl rfl rfl (mv rfl) ?_
       refine sS rfl rfl rfl (mv rfl) ?_
       refine sS rfl rfl rfl (opS_lt rfl rfl) ?_
       refine sS rfl rfl rfl (mv rfl) ?_
       refine AR.meet (l := []) 159 (B ((decide (IntKind.u64.wrap ((IntKind.u64.wrap (y23 * (IntKind.u64.wrap a2))) + (IntKind.u64.wrap (y43.toNat : Int))) < IntKind.u64.wrap (y23 * (IntKind.u64.wrap a2)))) || (decide (IntKind.u64.wrap ((IntKind.u64.wrap (1 * 2 ^ min (Int.toNat (IntKind.u64.wrap 64)) IntKind.u64.bits)) - 1) < IntKind.u64.wrap ((IntKind.u64.wrap (y23 * (IntKind.u64.wrap a2))) + (IntKind.u64.wrap (y43.toNat : Int))))))) (fun K => ?_) ?_
       ·rcases Bool.eq_false_or_eq_true (decide (IntKind.u64.wrap ((IntKind.u64.wrap (y23 * (IntKind.u64.wrap a2))) + (IntKind.u64.wrap (y43.toNat : Int))) < IntKind.u64.wrap (y23 * (IntKind.u64.wrap a2)))) with h47 | h47
        ·
         refine gF h47 rfl rfl rfl rfl rfl ?_
         refine gF h47 rfl rfl rfl rfl rfl ?_
         refine gF h47 rfl rfl rfl rfl rfl ?_
         refine sS rfl rfl rfl (opS_pick_t (av := .v _) rfl h47 rfl) ?_
         exact K _ 3 _ (B_congr (or_t h47)) rfl rfl
        ·
         refine gT h47 rfl rfl rfl rfl rfl rfl (AO.ops rfl rfl (mv rfl) ?_)
         refine gT h47 rfl rfl rfl rfl rfl rfl (AO.ops rfl rfl (mv rfl) ?_)
         refine gT h47 rfl rfl rfl rfl rfl rfl (AO.ops rfl rfl (opS_gt rfl rfl) ?_)
         refine sS rfl rfl rfl (opS_pick_f (av := .v _) rfl h47 rfl) ?_
         exact K _ 3 _ (B_congr (or_f h47)) rfl rfl
       refine AR.nil ?_
       show AW _ _ _ _ _ _
       refine AW.cond rfl (fun c48 => ?_) (fun c48 => ?_)
       ·replace H := cnd_t c48 H
        refine AW.seq ?_
        refine AW.region ?_
        show AR _ _ _ _ _ [0, 1, 2, 3] _
        refine sS rfl rfl rfl (mv rfl) ?_
        refine sS rfl rfl rfl (opS_makeInterface (a := .v _) Tryz.underlying135 rfl rfl) ?_
        refine sS rfl rfl rfl (asg rfl) ?_
        refine sS rfl rfl rfl (opS_assign (av := .ifc _ _) rfl) ?_
        refine AR.nil ?_
        show AW _ _ _ _ _ _
        refine AW.ret ?_
        obtain ⟨rfl, rfl⟩ := res2 H
        exact And.intro rfl (Exists.intro _ (Exists.intro _ ⟨ResV.twoW rfl (.refl _) (.refl _), Sub.at [] rfl, rfl, rfl⟩))
       ·replace H := cnd_f c48 H
        refine AW.skip ?_
        show AW _ _ _ _ _ _
        refine AW.region ?_
        show AR _ _ _ _ _ [0, 1] _
        refine sS rfl rfl rfl (mv rfl) ?_
        refine sS rfl rfl rfl (asg rfl) ?_
        refine AR.nil ?_
        exact Exists.intro (y22, IntKind.u64.wrap ((IntKind.u64.wrap (y23 * (IntKind.u64.wrap a2))) + (IntKind.u64.wrap (y43.toNat : Int)))) ⟨H, WK.at [0] (.cons (.refl _) (.cons (.refl _) (.cons (.refl _) (.cons (.refl _) (.cons (.refl _) (.cons (.refl _) (.cons (.refl _) (.cons (.refl _) (.cons (.refl _) (.cons (.refl _) (.nil _))))))))))) rfl⟩
    rintro ⟨y49, y50⟩ H
    replace H : sc_ParseUint_j2 y24 (sc_ParseUint_L1 F a1 a2 y17 n26) y49 y50 = some (r4, r5) := H
    unfold sc_ParseUint_j2 at H
    show AW _ _ _ _ _ _
    obtain ⟨g52, H⟩ := grd_s H
    refine AW.region ?_
    show AR _ _ _ _ _ [0, 1] _
    refine sS rfl rfl rfl (g_add rfl rfl g52) ?_
    refine sS rfl rfl rfl (mv rfl) ?_
    refine AR.nil ?_
    exact Exists.intro (n26, y49, y50, y24 + 1) ⟨H, Nat.lt_succ_self _, WK.at [0] (.cons (.refl _) (.cons (.refl _) (.cons (.refl _) (.cons (.refl _) (.cons (.refl _) (.cons (.refl _) (.cons (.refl _) (.cons (.refl _) (.cons (.refl _) (.cons (.refl _) (.nil _))))))))))) rfl⟩
   ·replace H := cnd_f c27 H
    refine AW.exit ?_
    exact Exists.intro (y22, y23) ⟨H, WK.at [] (.cons (.refl _) (.cons (.refl _) (.cons (.refl _) (.nil _)))) rfl⟩
  rintro ⟨y53, y54⟩ H
  replace H : sc_ParseUint_j1 F a1 y53 y54 = some (r4, r5) := H
  unfold sc_ParseUint_j1 at H
  show AW _ _ _ _ _ _
  refine AW.seq ?_
  refine AW.seq ?_
  obtain ⟨x57, e58, H⟩ := bndc_s H
  refine AW.region ?_
  show AR _ _ _ _ _ [0, 1, 2, 3, 4, 5] _
  refine sS rfl rfl rfl (mv rfl) ?_
  refine sS rfl rfl rfl (mv rfl) ?_
  refine AR.meet (l := []) 169 (B (y53 && (!x57))) (fun K => ?_) ?_
  ·rcases Bool.eq_false_or_eq_true y53 with h56 | h56
   ·
    refine gT h56 rfl rfl rfl rfl rfl rfl (AO.ops rfl rfl (mv rfl) ?_)
    refine gT h56 rfl rfl rfl rfl rfl rfl (AO.callp rfl en101_num rfl (w_sc_underscoreOK F a1 x57 (e58 h56)) ?_)
    refine gT h56 rfl rfl rfl rfl rfl rfl (AO.ops rfl rfl (opS_not rfl) ?_)
    refine sS rfl rfl rfl (opS_pick_t (av := .v _) rfl h56 rfl) ?_
    exact K _ 3 _ (B_congr (and_t h56)) rfl rfl
   ·
    refine gF h56 rfl rfl rfl rfl rfl ?_
    refine gF h56 rfl rfl rfl rfl rfl ?_
    refine gF h56 rfl rfl rfl rfl rfl ?_
    refine sS rfl rfl rfl (opS_pick_f (av := .v _) rfl h56 rfl) ?_
    exact K _ 3 _ (B_congr (and_f h56)) rfl rfl
  refine AR.nil ?_
  show AW _ _ _ _ _ _
  refine AW.cond rfl (fun c59 => ?_) (fun c59 => ?_)
  ·replace H := cnd_t c59 H
   refine AW.seq ?_
   refine AW.region ?_
   show AR _ _ _ _ _ [0, 1, 2] _
   refine sS rfl rfl rfl (opS_makeInterface (a := .v _) Tryz.underlying135 rfl rfl) ?_
   refine sS rfl rfl rfl (asg rfl) ?_
   refine sS rfl rfl rfl (opS_assign (av := .ifc _ _) rfl) ?_
   refine AR.nil ?_
   show AW _ _ _ _ _ _
   refine AW.ret ?_
   obtain ⟨rfl, rfl⟩ := res2 H
   exact And.intro rfl (Exists.intro _ (Exists.intro _ ⟨ResV.twoW rfl (.refl _) (.refl _), Sub.at [] rfl, rfl, rfl⟩))
  ·replace H := cnd_f c59 H
   refine AW.skip ?_
   show AW _ _ _ _ _ _
   refine AW.seq ?_
   refine AW.region ?_
   show AR _ _ _ _ _ [0, 1, 2] _
   refine sS rfl rfl rfl (mv rfl) ?_
   refine sS rfl rfl rfl (asg rfl) ?_
   refine sS rfl rfl rfl (asg rfl) ?_
   refine AR.nil ?_
   show AW _ _ _ _ _ _
   refine AW.ret ?_
   obtain ⟨rfl, rfl⟩ := res2 H
   exact And.intro rfl (Exists.intro _ (Exists.intro _ ⟨ResV.twoW rfl (.refl _) (.refl _), Sub.at [] rfl, rfl, rfl⟩))
set_option maxRecDepth 100000 in
set_option maxHeartbeats 1000000 in
theorem w_sc_ParseInt (F : Nat) (a1 : List UInt8) (a2 : Int) (a3 : Int) (r4 : Int) (r5 : Int) (H : sc_ParseInt F a1 a2 a3 = some (r4, r5)) : ACalls Tryz.prog 76 [S a1, i64 a2, i64 a3] [] (Ret (.tup [i64 r4, eCode 135 .i64 r5]) []) := by
 unfold sc_ParseInt at H
 refine ACalls.of_body Tryz.func76 rfl rfl ?_
 show AW _ _ 73 _ _ _
 refine AW.seq ?_
 refine AW.region ?_
 show AR _ _ _ _ _ [0, 1] _
 refine sS rfl rfl rfl (asg rfl) ?_
 refine sS rfl rfl rfl (asg rfl) ?_
 refine AR.nil ?_
 show AW _ _ _ _ _ _
 refine AW.seq ?_
 refine AW.seq ?_
 refine AW.region ?_
 show AR _ _ _ _ _ [0, 1] _
 refine sS rfl rfl rfl (mv rfl) ?_
 refine sS rfl rfl rfl (opS_eqs rfl rfl) ?_
 refine AR.nil ?_
 show AW _ _ _ _ _ _
 refine AW.cond rfl (fun c6 => ?_) (fun c6 => ?_)
 ·replace H := cnd_t c6 H
  refine AW.seq ?_
  refine AW.region ?_
  show AR _ _ _ _ _ [0, 1, 2] _
  refine sS rfl rfl rfl (opS_makeInterface (a := .v _) Tryz.underlying135 rfl rfl) ?_
  refine sS rfl rfl rfl (asg rfl) ?_
  refine sS rfl rfl rfl (opS_assign (av := .ifc _ _) rfl) ?_
  refine AR.nil ?_
  show AW _ _ _ _ _ _
  refine AW.ret ?_
  obtain ⟨rfl, rfl⟩ := res2 H
  exact And.intro rfl (Exists.intro _ (Exists.intro _ ⟨ResV.twoW rfl (.refl _) (.refl _), Sub.at [] rfl, rfl, rfl⟩))
 ·replace H := cnd_f c6 H
  refine AW.skip ?_
  show AW _ _ _ _ _ _
  refine AW.seq ?_
  refine AW.region ?_
  show AR _ _ _ _ _ [0] _
  refine sS rfl rfl rfl (asg rfl) ?_
  refine AR.nil ?_
  show AW _ _ _ _ _ _
  refine AW.cut (X := (List UInt8) × Bool) (fun (y18, y19) => ⟨[(0, S y18), (1, i64 a2), (2, i64 a3), (8, B y19)], [], []⟩) (fun (y18, y19) => sc_ParseInt_j3 F a2 a3 y18 y19 = some (r4, r5)) ?_ ?_
  ·
   refine AW.seq ?_
   obtain ⟨g7, H⟩ := grd_s H
   obtain ⟨x8, e9, H⟩ := lt_s H
   refine AW.region ?_
   show AR _ _ _ _ _ [0, 1] _
   refine sS rfl rfl rfl (mv rfl) ?_
   refine sS rfl rfl rfl (g_index_str Tryz.underlying9 rfl rfl g7 e9) ?_
   refine AR.nil ?_
   show AW _ _ _ _ _ _
   refine AW.block ?_
   refine AW.seq ?_
   refine AW.region ?_
   show AR _ _ _ _ _ [0, 1] _
   refine sS rfl rfl rfl (g_eq8 (a := x8) (b := 43) rfl rfl) ?_
   refine sS rfl rfl rfl (asg rfl) ?_
   refine AR.nil ?_
   show AW _ _ _ _ _ _
   refine AW.cond rfl (fun c10 => ?_) (fun c10 => ?_)
   ·replace H := cnd_t c10 H
    obtain ⟨g11, H⟩ := grd_s H
    obtain ⟨x12, e13, H⟩ := lt_s H
    refine AW.region ?_
    show AR _ _ _ _ _ [0, 1, 2] _
    refine sS rfl rfl rfl (mv rfl) ?_
    refine sS rfl rfl rfl (g_from_str Tryz.underlying9 rfl rfl g11 e13) ?_
    refine sS rfl rfl rfl (asg rfl) ?_
    refine AR.nil ?_
    exact Exists.intro (x12, false) ⟨H, WK.at [] (.cons (.refl _) (.cons (.refl _) (.cons (.refl _) (.cons (.refl _) (.nil _))))) rfl⟩
   ·replace H := cnd_f c10 H
    refine AW.seq ?_
    refine AW.region ?_
    show AR _ _ _ _ _ [0, 1] _
    refine sS rfl rfl rfl (g_eq8 (a := x8) (b := 45) rfl rfl) ?_
    refine sS rfl rfl rfl (asg rfl) ?_
    refine AR.nil ?_
    show AW _ _ _ _ _ _
    refine AW.cond rfl (fun c14 => ?_) (fun c14 => ?_)
    ·replace H := cnd_t c14 H
     refine AW.seq ?_
     obtain ⟨g15, H⟩ := grd_s H
     obtain ⟨x16, e17, H⟩ := lt_s H
     refine AW.region ?_
     show AR _ _ _ _ _ [0, 1, 2] _
     refine sS rfl rfl rfl (mv rfl) ?_
     refine sS rfl rfl rfl (g_from_str Tryz.underlying9 rfl rfl g15 e17) ?_
     refine sS rfl rfl rfl (asg rfl) ?_
     refine AR.nil ?_
     show AW _ _ _ _ _ _
     refine AW.region ?_
     show AR _ _ _ _ _ [0] _
     refine sS rfl rfl rfl (asg rfl) ?_
     refine AR.nil ?_
     exact Exists.intro (x16, true) ⟨H, WK.at [] (.cons (.refl _) (.cons (.refl _) (.cons (.refl _) (.cons (.refl _) (.nil _))))) rfl⟩
    ·replace H := cnd_f c14 H
     refine AW.skip ?_
     exact Exists.intro (a1, false) ⟨H, WK.at [] (.cons (.refl _) (.cons (.refl _) (.cons (.refl _) (.cons (.refl _) (.nil _))))) rfl⟩
  rintro ⟨y18, y19⟩ H
  replace H : sc_ParseInt_j3 F a2 a3 y18 y19 = some (r4, r5) := H
  unfold sc_ParseInt_j3 at H
  show AW _ _ _ _ _ _
  refine AW.seq ?_
  refine AW.region ?_
  show AR _ _ _ _ _ [0] _
  refine sS rfl rfl rfl (asg rfl) ?_
  refine AR.nil ?_
  show AW _ _ _ _ _ _
  refine AW.seq ?_
  obtain ⟨x21, x22, e23, H⟩ := bnd2_s H
  refine AW.region ?_
  show AR _ _ _ _ _ [0, 1, 2, 3, 4, 5, 6, 7, 8] _
  refine sS rfl rfl rfl (mv rfl) ?_
  refine sS rfl rfl rfl (mv rfl) ?_
  refine sS rfl rfl rfl (mv rfl) ?_
  refine AR.run rfl rfl (AO.callp rfl en88_num rfl (w_sc_ParseUint F y18 a2 a3 x21 x22 e23) ?_)
  refine sS rfl rfl rfl (opS_move (av := .tup _) rfl) ?_
  refine sS rfl rfl rfl (opS_extract (av := .v _) rfl rfl) ?_
  refine sS rfl rfl rfl (opS_extract (av := eCode _ _ _) rfl rfl) ?_
  refine sS rfl rfl rfl (asg rfl) ?_
  refine sS rfl rfl rfl (opS_assign (av := eCode _ _ _) rfl) ?_
  refine AR.nil ?_
  show AW _ _ _ _ _ _
  refine AW.seq ?_
  refine AW.seq ?_
  refine AW.region ?_
  show AR _ _ _ _ _ [0, 1, 2, 3, 4, 5, 6] _
  refine sS rfl rfl rfl (opS_move (av := eCode _ _ _) rfl) ?_
  refine sS rfl rfl rfl (g_ne_nil_c Tryz.underlying46 rfl rfl) ?_
  refine sS rfl rfl rfl (mv rfl) ?_
  refine AR.meet (l := []) 38 (B ((!decide (x22 = 0)) && (!decide (x22 = 1)))) (fun K => ?_) ?_
  ·rcases Bool.eq_false_or_eq_true (!decide (x22 = 0)) with h24 | h24
   ·
    refine gT h24 rfl rfl rfl rfl rfl rfl (AO.ops rfl rfl (opS_move (av := eCode _ _ _) rfl) ?_)
    refine gT h24 rfl rfl rfl rfl rfl rfl (AO.ops rfl rfl (opS_makeInterface (a := .v _) Tryz.underlying135 rfl rfl) ?_)
    refine gT h24 rfl rfl rfl rfl rfl rfl (AO.ops rfl rfl (g_ne_code (m := 1) Tryz.underlying46 rfl Tryz.underlying135 (by kernel_rfl) (by decide) rfl rfl) ?_)
    refine sS rfl rfl rfl (opS_pick_t (av := .v _) rfl h24 rfl) ?_
    exact K _ 3 _ (B_congr (and_t h24)) rfl rfl
   ·
    refine gF h24 rfl rfl rfl rfl rfl ?_
    refine gF h24 rfl rfl rfl rfl rfl ?_
    refine gF h24 rfl rfl rfl rfl rfl ?_
    refine sS rfl rfl rfl (opS_pick_f (av := .v _) rfl h24 rfl) ?_
    exact K _ 3 _ (B_congr (and_f h24)) rfl rfl
  refine AR.nil ?_
  show AW _ _ _ _ _ _
  refine AW.cond rfl (fun c25 => ?_) (fun c25 => ?_)
  ·replace H := cnd_t c25 H
   refine AW.seq ?_
   refine AW.region ?_
   show AR _ _ _ _ _ [0, 1, 2] _
   refine sS rfl rfl rfl (opS_move (av := eCode _ _ _) rfl) ?_
   refine sS rfl rfl rfl (asg rfl) ?_
   refine sS rfl rfl rfl (opS_assign (av := eCode _ _ _) rfl) ?_
   refine AR.nil ?_
   show AW _ _ _ _ _ _
   refine AW.ret ?_
   obtain ⟨rfl, rfl⟩ := res2 H
   exact And.intro rfl (Exists.intro _ (Exists.intro _ ⟨ResV.twoW rfl (.refl _) (.refl _), Sub.at [] rfl, rfl, rfl⟩))
  ·replace H := cnd_f c25 H
   refine AW.skip ?_
   show AW _ _ _ _ _ _
   refine AW.cut (X := Unit) (fun _ => ⟨[(2, i64 64), (8, B y19), (9, .v (.int .u64 x21))], [], []⟩) (fun _ => sc_ParseInt_j2 y19 x21 = some (r4, r5)) ?_ ?_
   ·
    refine AW.seq ?_
    refine AW.region ?_
    show AR _ _ _ _ _ [0, 1] _
    refine sS rfl rfl rfl (mv rfl) ?_
    refine sS rfl rfl rfl (opS_eqi rfl rfl) ?_
    refine AR.nil ?_
    show AW _ _ _ _ _ _
    obtain ⟨g27, H⟩ := grd_s H
    refine AW.cond rfl (fun _ => ?_) (fun hx => bool_no g27 hx)
    refine AW.region ?_
    show AR _ _ _ _ _ [0] _
    refine sS rfl rfl rfl (asg rfl) ?_
    refine AR.nil ?_
    exact Exists.intro () ⟨H, WK.at [] (.cons (.refl _) (.cons (.refl _) (.cons (.refl _) (.nil _)))) rfl⟩
   rintro _ H
   replace H : sc_ParseInt_j2 y19 x21 = some (r4, r5) := H
   unfold sc_ParseInt_j2 at H
   show AW _ _ _ _ _ _
   refine AW.seq ?_
   obtain ⟨g29, H⟩ := grd_s H
   refine AW.region ?_
   show AR _ _ _ _ _ [0, 1, 2, 3, 4] _
   refine sS rfl rfl rfl (mv rfl) ?_
   refine sS rfl rfl rfl (OpS.eq (av' := i64 63) (g_sub rfl rfl (by decide)) rfl) ?_
   refine sS rfl rfl rfl (opS_conv_int (by kernel_rfl) Tryz.underlying106 rfl) ?_
   refine sS rfl rfl rfl (opS_shl rfl rfl (of_decide_eq_true g29)) ?_
   refine sS rfl rfl rfl (asg rfl) ?_
   refine AR.nil ?_
   show AW _ _ _ _ _ _
   refine AW.seq ?_
   refine AW.seq ?_
   refine AW.region ?_
   show AR _ _ _ _ _ [0, 1, 2, 3, 4, 5, 6] _
   refine sS rfl rfl rfl (mv rfl) ?_
   refine sS rfl rfl rfl (opS_not rfl) ?_
   refine sS rfl rfl rfl (mv rfl) ?_
   refine AR.meet (l := []) 52 (B ((!y19) && (decide (IntKind.u64.wrap (1 * 2 ^ min (Int.toNat (IntKind.u64.wrap 63)) IntKind.u64.bits) ≤ x21)))) (fun K => ?_) ?_
   ·rcases Bool.eq_false_or_eq_true (!y19) with h30 | h30
    ·
     refine gT h30 rfl rfl rfl rfl rfl rfl (AO.ops rfl rfl (mv rfl) ?_)
     refine gT h30 rfl rfl rfl rfl rfl rfl (AO.ops rfl rfl (mv rfl) ?_)
     refine gT h30 rfl rfl rfl rfl rfl rfl (AO.ops rfl rfl (opS_ge rfl rfl) ?_)
     refine sS rfl rfl rfl (opS_pick_t (av := .v _) rfl h30 rfl) ?_
     exact K _ 3 _ (B_congr (and_t h30)) rfl rfl
    ·
     refine gF h30 rfl rfl rfl rfl rfl ?_
     refine gF h30 rfl rfl rfl rfl rfl ?_
     refine gF h30 rfl rfl rfl rfl rfl ?_
     refine sS rfl rfl rfl (opS_pick_f (av := .v _) rfl h30 rfl) ?_
     exact K _ 3 _ (B_congr (and_f h30)) rfl rfl
   refine AR.nil ?_
   show AW _ _ _ _ _ _
   refine AW.cond rfl (fun c31 => ?_) (fun c31 => ?_)
   ·replace H := cnd_t c31 H
    refine AW.seq ?_
    obtain ⟨g32, H⟩ := grd_s H
    refine AW.region ?_
    show AR _ _ _ _ _ [0, 1, 2, 3, 4, 5] _
    refine sS rfl rfl rfl (mv rfl) ?_
    refine sS rfl rfl rfl (opS_subw rfl rfl) ?_
    refine sS rfl rfl rfl (g_conv_64 (by kernel_rfl) Tryz.underlying2 rfl g32) ?_
    refine sS rfl rfl rfl (opS_makeInterface (a := .v _) Tryz.underlying135 rfl rfl) ?_
    refine sS rfl rfl rfl (asg rfl) ?_
    refine sS rfl rfl rfl (opS_assign (av := .ifc _ _) rfl) ?_
    refine AR.nil ?_
    show AW _ _ _ _ _ _
    refine AW.ret ?_
    obtain ⟨rfl, rfl⟩ := res2 H
    exact And.intro rfl (Exists.intro _ (Exists.intro _ ⟨ResV.twoW rfl (.refl _) (.refl _), Sub.at [] rfl, rfl, rfl⟩))
   ·replace H := cnd_f c31 H
    refine AW.skip ?_
    show AW _ _ _ _ _ _
    refine AW.seq ?_
    refine AW.seq ?_
    refine AW.region ?_
    show AR _ _ _ _ _ [0, 1, 2, 3, 4, 5] _
    refine sS rfl rfl rfl (mv rfl) ?_
    refine sS rfl rfl rfl (mv rfl) ?_
    refine AR.meet (l := []) 62 (B (y19 && (decide (IntKind.u64.wrap (1 * 2 ^ min (Int.toNat (IntKind.u64.wrap 63)) IntKind.u64.bits) < x21)))) (fun K => ?_) ?_
    ·rcases Bool.eq_false_or_eq_true y19 with h33 | h33
     ·
      refine gT h33 rfl rfl rfl rfl rfl rfl (AO.ops rfl rfl (mv rfl) ?_)
      refine gT h33 rfl rfl rfl rfl rfl rfl (AO.ops rfl rfl (mv rfl) ?_)
      refine gT h33 rfl rfl rfl rfl rfl rfl (AO.ops rfl rfl (opS_gt rfl rfl) ?_)
      refine sS rfl rfl rfl (opS_pick_t (av := .v _) rfl h33 rfl) ?_
      exact K _ 3 _ (B_congr (and_t h33)) rfl rfl
     ·
      refine gF h33 rfl rfl rfl rfl rfl ?_
      refine gF h33 rfl rfl rfl rfl rfl ?_
      refine gF h33 rfl rfl rfl rfl rfl ?_
      refine sS rfl rfl rfl (opS_pick_f (av := .v _) rfl h33 rfl) ?_
      exact K _ 3 _ (B_congr (and_f h33)) rfl rfl
    refine AR.nil ?_
    show AW _ _ _ _ _ _
    refine AW.cond rfl (fun c34 => ?_) (fun c34 => ?_)
    ·replace H := cnd_t c34 H
     refine AW.seq ?_
     obtain ⟨g35, H⟩ := grd_s H
     obtain ⟨g36, H⟩ := grd_s H
     refine AW.region ?_
     show AR _ _ _ _ _ [0, 1, 2, 3, 4, 5] _
     refine sS rfl rfl rfl (mv rfl) ?_
     refine sS rfl rfl rfl (g_conv_64 (by kernel_rfl) Tryz.underlying2 rfl g35) ?_
     refine sS rfl rfl rfl (g_neg rfl g36) ?_
     refine sS rfl rfl rfl (opS_makeInterface (a := .v _) Tryz.underlying135 rfl rfl) ?_
     refine sS rfl rfl rfl (asg rfl) ?_
     refine sS rfl rfl rfl (opS_assign (av := .ifc _ _) rfl) ?_
     refine AR.nil ?_
     show AW _ _ _ _ _ _
     refine AW.ret ?_
     obtain ⟨rfl, rfl⟩ := res2 H
     exact And.intro rfl (Exists.intro _ (Exists.intro _ ⟨ResV.twoW rfl (.refl _) (.refl _), Sub.at [] rfl, rfl, rfl⟩))
    ·replace H := cnd_f c34 H
     refine AW.skip ?_
     show AW _ _ _ _ _ _
     refine AW.seq ?_
     obtain ⟨g37, H⟩ := grd_s H
     refine AW.region ?_
     show AR _ _ _ _ _ [0, 1, 2] _
     refine sS rfl rfl rfl (mv rfl) ?_
     refine sS rfl rfl rfl (g_conv_64 (by kernel_rfl) Tryz.underlying2 rfl g37) ?_
     refine sS rfl rfl rfl (asg rfl) ?_
     refine AR.nil ?_
     show AW _ _ _ _ _ _
     refine AW.cut (X := Int) (fun y40 => ⟨[(11, i64 y40)], [], []⟩) (fun y40 => sc_ParseInt_j1 y40 = some (r4, r5)) ?_ ?_
     ·
      refine AW.seq ?_
      refine AW.region ?_
      show AR _ _ _ _ _ [0] _
      refine sS rfl rfl rfl (mv rfl) ?_
      refine AR.nil ?_
      show AW _ _ _ _ _ _
      refine AW.cond rfl (fun c38 => ?_) (fun c38 => ?_)
      ·replace H := cnd_t c38 H
       obtain ⟨g39, H⟩ := grd_s H
       refine AW.region ?_
       show AR _ _ _ _ _ [0, 1, 2] _
       refine sS rfl rfl rfl (mv rfl) ?_
       refine sS rfl rfl rfl (g_neg rfl g39) ?_
       refine sS rfl rfl rfl (asg rfl) ?_
       refine AR.nil ?_
       exact Exists.intro (0 - x21) ⟨H, WK.at [] (.cons (.refl _) (.nil _)) rfl⟩
      ·replace H := cnd_f c38 H
       refine AW.skip ?_
       exact Exists.intro x21 ⟨H, WK.at [] (.cons (.refl _) (.nil _)) rfl⟩
     rintro y40 H
     replace H : sc_ParseInt_j1 y40 = some (r4, r5) := H
     unfold sc_ParseInt_j1 at H
     show AW _ _ _ _ _ _
     refine AW.seq ?_
     refine AW.region ?_
     show AR _ _ _ _ _ [0, 1, 2] _
     refine sS rfl rfl rfl (mv rfl) ?_
     refine sS rfl rfl rfl (asg rfl) ?_
     refine sS rfl rfl rfl (asg rfl) ?_
     refine AR.nil ?_
     show AW _ _ _ _ _ _
     refine AW.ret ?_
     obtain ⟨rfl, rfl⟩ := res2 H
     exact And.intro rfl (Exists.intro _ (Exists.intro _ ⟨ResV.twoW rfl (.refl _) (.refl _), Sub.at [] rfl, rfl, rfl⟩))
set_option maxRecDepth 100000 in
set_option maxHeartbeats 1000000 in
theorem w_strconv_ParseInt (F : Nat) (a1 : List UInt8) (a2 : Int) (a3 : Int) (r4 : Int) (r5 : Int) (H : strconv_ParseInt F a1 a2 a3 = some (r4, r5)) : ACalls Tryz.prog 68 [S a1, i64 a2, i64 a3] [] (Ret (.tup [i64 r4, eAny 139 r5]) []) := by
 unfold strconv_ParseInt at H
 refine ACalls.of_body Tryz.func68 rfl rfl ?_
 show AW _ _ 25 _ _ _
 refine AW.seq ?_
 refine AW.region ?_
 show AR _ _ _ _ _ [0, 1] _
 refine sS rfl rfl rfl (asg rfl) ?_
 refine sS rfl rfl rfl (asg rfl) ?_
 refine AR.nil ?_
 show AW _ _ _ _ _ _
 refine AW.seq ?_
 obtain ⟨x6, x7, e8, H⟩ := bnd2_s H
 refine AW.region ?_
 show AR _ _ _ _ _ [0, 1, 2, 3, 4, 5, 6, 7, 8] _
 refine sS rfl rfl rfl (mv rfl) ?_
 refine sS rfl rfl rfl (mv rfl) ?_
 refine sS rfl rfl rfl (mv rfl) ?_
 refine AR.run rfl rfl (AO.callp rfl en76_num rfl (w_sc_ParseInt F a1 a2 a3 x6 x7 e8) ?_)
 refine sS rfl rfl rfl (opS_move (av := .tup _) rfl) ?_
 refine sS rfl rfl rfl (opS_extract (av := .v _) rfl rfl) ?_
 refine sS rfl rfl rfl (opS_extract (av := eCode _ _ _) rfl rfl) ?_
 refine sS rfl rfl rfl (asg rfl) ?_
 refine sS rfl rfl rfl (opS_assign (av := eCode _ _ _) rfl) ?_
 refine AR.nil ?_
 show AW _ _ _ _ _ _
 refine AW.seq ?_
 refine AW.seq ?_
 refine AW.region ?_
 show AR _ _ _ _ _ [0, 1] _
 refine sS rfl rfl rfl (opS_move (av := eCode _ _ _) rfl) ?_
 refine sS rfl rfl rfl (g_ne_nil_c Tryz.underlying46 rfl rfl) ?_
 refine AR.nil ?_
 show AW _ _ _ _ _ _
 refine AW.cond rfl (fun c9 => ?_) (fun c9 => ?_)
 ·replace H := cnd_t c9 H
  refine AW.seq ?_
  obtain ⟨g10, H⟩ := grd_s H
  obtain ⟨g11, H⟩ := grd_s H
  refine AW.region ?_
  show AR _ _ _ _ _ [0, 1, 2, 3, 4, 5, 6, 7] _
  refine sS rfl rfl rfl (mv rfl) ?_
  refine sS rfl rfl rfl (mv rfl) ?_
  refine sS rfl rfl rfl (mv rfl) ?_
  refine sS rfl rfl rfl (mv rfl) ?_
  refine sS rfl rfl rfl (opS_move (av := eCode _ _ _) rfl) ?_
  refine AR.run rfl rfl (AO.callp rfl en77_num rfl (lib_toError _ _ _ _ x7 (okS_s g10) (of_decide_eq_true g11)) ?_)
  refine sS rfl rfl rfl (asg rfl) ?_
  refine sS rfl rfl rfl (opS_assign (av := .ifc _ _) rfl) ?_
  refine AR.nil ?_
  show AW _ _ _ _ _ _
  refine AW.ret ?_
  obtain ⟨rfl, rfl⟩ := res2 H
  exact And.intro rfl (Exists.intro _ (Exists.intro _ ⟨ResV.twoW rfl (.refl _) (.ifc _ _), Sub.at [] rfl, rfl, rfl⟩))
 ·replace H := cnd_f c9 H
  refine AW.skip ?_
  show AW _ _ _ _ _ _
  refine AW.seq ?_
  refine AW.region ?_
  show AR _ _ _ _ _ [0, 1, 2] _
  refine sS rfl rfl rfl (mv rfl) ?_
  refine sS rfl rfl rfl (asg rfl) ?_
  refine sS rfl rfl rfl (asg rfl) ?_
  refine AR.nil ?_
  show AW _ _ _ _ _ _
  refine AW.ret ?_
  obtain ⟨rfl, rfl⟩ := res2 H
  exact And.intro rfl (Exists.intro _ (Exists.intro _ ⟨ResV.twoW rfl (.refl _) (.refl _), Sub.at [] rfl, rfl, rfl⟩))
end Go.Proofs.YtjhlnhipjomdeaaGreatDoor
