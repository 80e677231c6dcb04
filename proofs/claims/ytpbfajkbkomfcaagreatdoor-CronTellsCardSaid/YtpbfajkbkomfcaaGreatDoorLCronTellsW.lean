/-
  The statement CronTells: what is run is what the plain functions say. Printed by a program of ours.
-/
import Derived.Test.YtpbfajkbkomfcaaGreatDoorAvE
import Derived.Test.YtpbfajkbkomfcaaGreatDoorPvLib
import Derived.Test.YtpbfajkbkomfcaaGreatDoorP11Split
import Derived.Test.YtpbfajkbkomfcaaGreatDoorAvStill
import Derived.Test.YtpbfajkbkomfcaaGreatDoorChecked
import Derived.Test.YtpbfajkbkomfcaaGreatDoorCronLW
import Derived.Test.YtpbfajkbkomfcaaGreatDoorCronSW
import Derived.Test.YtpbfajkbkomfcaaGreatDoorCronEW
import Derived.Test.YtpbfajkbkomfcaaGreatDoorLCronTellsP
set_option linter.unusedVariables false
set_option linter.unusedSimpArgs false
namespace Go.Proofs.YtpbfajkbkomfcaaGreatDoor
open Go.RowKit Go.Av Go.Pv
theorem en9_lcrontells : ∀ (args : Array Value) (w : World), (callFunc 9 args).run Tryz.prog w = .ok (.enter 9 args) w := fun _ _ => by kernel_rfl
theorem en12_lcrontells : ∀ (args : Array Value) (w : World), (callFunc 12 args).run Tryz.prog w = .ok (.enter 12 args) w := fun _ _ => by kernel_rfl
theorem en13_lcrontells : ∀ (args : Array Value) (w : World), (callFunc 13 args).run Tryz.prog w = .ok (.enter 13 args) w := fun _ _ => by kernel_rfl
theorem en15_lcrontells : ∀ (args : Array Value) (w : World), (callFunc 15 args).run Tryz.prog w = .ok (.enter 15 args) w := fun _ _ => by kernel_rfl
theorem en16_lcrontells : ∀ (args : Array Value) (w : World), (callFunc 16 args).run Tryz.prog w = .ok (.enter 16 args) w := fun _ _ => by kernel_rfl
theorem en21_lcrontells : ∀ (args : Array Value) (w : World), (callFunc 21 args).run Tryz.prog w = .ok (.enter 21 args) w := fun _ _ => by kernel_rfl
theorem en22_lcrontells : ∀ (args : Array Value) (w : World), (callFunc 22 args).run Tryz.prog w = .ok (.enter 22 args) w := fun _ _ => by kernel_rfl
theorem en23_lcrontells : ∀ (args : Array Value) (w : World), (callFunc 23 args).run Tryz.prog w = .ok (.enter 23 args) w := fun _ _ => by kernel_rfl
theorem en24_lcrontells : ∀ (args : Array Value) (w : World), (callFunc 24 args).run Tryz.prog w = .ok (.enter 24 args) w := fun _ _ => by kernel_rfl
theorem en25_lcrontells : ∀ (args : Array Value) (w : World), (callFunc 25 args).run Tryz.prog w = .ok (.enter 25 args) w := fun _ _ => by kernel_rfl
theorem en26_lcrontells : ∀ (args : Array Value) (w : World), (callFunc 26 args).run Tryz.prog w = .ok (.enter 26 args) w := fun _ _ => by kernel_rfl
theorem en27_lcrontells : ∀ (args : Array Value) (w : World), (callFunc 27 args).run Tryz.prog w = .ok (.enter 27 args) w := fun _ _ => by kernel_rfl
set_option maxRecDepth 100000 in
set_option maxHeartbeats 1000000 in
theorem w_law05_CronTells (F : Nat) (a1 : List Int) (a2 : List Int) (a3 : List Int) (a4 : List Int) (a5 : List Int) (a6 : Bool) (a7 : Bool) (a8 : Bool) (a9 : Bool) (a10 : Bool) (a11 : List Int) (a12 : List Int) (a13 : List Int) (a14 : List Int) (a15 : List Int) (a16 : Bool) (a17 : Bool) (a18 : Bool) (a19 : Bool) (a20 : Bool) (a21 : Int) (a22 : Int) (a23 : Int) (a24 : Int) (a25 : Int) (a26 : Int) (r27 : Bool) (H : law05_CronTells F a1 a2 a3 a4 a5 a6 a7 a8 a9 a10 a11 a12 a13 a14 a15 a16 a17 a18 a19 a20 a21 a22 a23 a24 a25 a26 = some r27) : ACalls Tryz.prog 7 [.agg [slE Enc.int a1 none, slE Enc.int a2 none, slE Enc.int a3 none, slE Enc.int a4 none, slE Enc.int a5 none, B a6, B a7, B a8, B a9, B a10], .agg [slE Enc.int a11 none, slE Enc.int a12 none, slE Enc.int a13 none, slE Enc.int a14 none, slE Enc.int a15 none, B a16, B a17, B a18, B a19, B a20], .agg [i64 a21, i64 a22, i64 a23, i64 a24, i64 a25, i64 a26]] [] (Ret (B r27) []) := by
  unfold law05_CronTells at H
  refine ACalls.of_body Tryz.func7 rfl rfl ?_
  show AW _ _ 100 _ _ _
  refine AW.seq ?_
  refine AW.region ?_
  show AR _ _ _ _ _ [0, 1, 2, 3] _
  refine sR rfl rfl rfl (opR_boxCp rfl (.inr ⟨_, rfl⟩)) ?_
  refine sR rfl rfl rfl (opR_boxCp rfl (.inr ⟨_, rfl⟩)) ?_
  refine sR rfl rfl rfl (opR_boxCp rfl (.inr ⟨_, rfl⟩)) ?_
  refine sS rfl rfl rfl (asg rfl) ?_
  refine AR.nil ?_
  show AW _ _ _ _ _ _
  refine AW.seq ?_
  obtain ⟨x28, e29, H⟩ := bnd_s H
  refine AW.region ?_
  show AR _ _ _ _ _ [0, 1] _
  refine AR.run rfl rfl (AO.callp rfl en9_lcrontells rfl (w_law05_awake F x28 e29) ?_)
  refine sS rfl rfl rfl (asg rfl) ?_
  refine AR.nil ?_
  show AW _ _ _ _ _ _
  refine AW.seq ?_
  obtain ⟨x30, e31, H⟩ := bnd_s H
  refine AW.region ?_
  show AR _ _ _ _ _ [0, 1, 2] _
  refine sS rfl rfl rfl (opS_load_cp_agg Tryz.underlying27 rfl (n := 10) (by kernel_rfl) rfl (Nat.le_of_ble_eq_true rfl)) ?_
  refine AR.run rfl rfl (AO.callp rfl en13_lcrontells rfl (w_law05_Few F a1 a2 a3 a4 a5 a6 a7 a8 a9 a10 x30 e31) ?_)
  refine sS rfl rfl rfl (asg rfl) ?_
  refine AR.nil ?_
  show AW _ _ _ _ _ _
  refine AW.seq ?_
  obtain ⟨x32, e33, H⟩ := bnd_s H
  refine AW.region ?_
  show AR _ _ _ _ _ [0, 1, 2] _
  refine sS rfl rfl rfl (opS_load_cp_agg Tryz.underlying27 rfl (n := 10) (by kernel_rfl) rfl (Nat.le_of_ble_eq_true rfl)) ?_
  refine AR.run rfl rfl (AO.callp rfl en13_lcrontells rfl (w_law05_Few F a11 a12 a13 a14 a15 a16 a17 a18 a19 a20 x32 e33) ?_)
  refine sS rfl rfl rfl (asg rfl) ?_
  refine AR.nil ?_
  show AW _ _ _ _ _ _
  refine AW.seq ?_
  refine AW.seq ?_
  refine AW.region ?_
  show AR _ _ _ _ _ [0, 1, 2, 3, 4, 5, 6, 7, 8, 9] _
  refine sS rfl rfl rfl (mv rfl) ?_
  refine sS rfl rfl rfl (opS_not rfl) ?_
  refine sS rfl rfl rfl (mv rfl) ?_
  refine AR.meet (l := [6, 7, 8, 9]) 28 (B ((!x28) || (!x30))) (fun K => ?_) ?_
  · rcases Bool.eq_false_or_eq_true (!x28) with h34 | h34
    ·
      refine gF h34 rfl rfl rfl rfl rfl ?_
      refine gF h34 rfl rfl rfl rfl rfl ?_
      refine sS rfl rfl rfl (opS_pick_t (av := .v _) rfl h34 rfl) ?_
      exact K _ 2 _ (B_congr (or_t h34)) rfl rfl
    ·
      refine gT h34 rfl rfl rfl rfl rfl rfl (AO.ops rfl rfl (mv rfl) ?_)
      refine gT h34 rfl rfl rfl rfl rfl rfl (AO.ops rfl rfl (opS_not rfl) ?_)
      refine sS rfl rfl rfl (opS_pick_f (av := .v _) rfl h34 rfl) ?_
      exact K _ 2 _ (B_congr (or_f h34)) rfl rfl
  refine sS rfl rfl rfl (mv rfl) ?_
  refine AR.meet (l := []) 32 (B (((!x28) || (!x30)) || (!x32))) (fun K => ?_) ?_
  · rcases Bool.eq_false_or_eq_true ((!x28) || (!x30)) with h35 | h35
    ·
      refine gF h35 rfl rfl rfl rfl rfl ?_
      refine gF h35 rfl rfl rfl rfl rfl ?_
      refine sS rfl rfl rfl (opS_pick_t (av := .v _) rfl h35 rfl) ?_
      exact K _ 2 _ (B_congr (or_t h35)) rfl rfl
    ·
      refine gT h35 rfl rfl rfl rfl rfl rfl (AO.ops rfl rfl (mv rfl) ?_)
      refine gT h35 rfl rfl rfl rfl rfl rfl (AO.ops rfl rfl (opS_not rfl) ?_)
      refine sS rfl rfl rfl (opS_pick_f (av := .v _) rfl h35 rfl) ?_
      exact K _ 2 _ (B_congr (or_f h35)) rfl rfl
  refine AR.nil ?_
  show AW _ _ _ _ _ _
  refine AW.cond rfl (fun c36 => ?_) (fun c36 => ?_)
  · replace H := cnd_t c36 H
    refine AW.seq ?_
    refine AW.region ?_
    show AR _ _ _ _ _ [0, 1] _
    refine sS rfl rfl rfl (mv rfl) ?_
    refine sS rfl rfl rfl (asg rfl) ?_
    refine AR.nil ?_
    show AW _ _ _ _ _ _
    refine AW.ret ?_
    obtain rfl := Option.some.inj H
    exact And.intro rfl (Exists.intro _ (Exists.intro _ ⟨ResV.oneW rfl (.refl _), Sub.at [] rfl, rfl, rfl⟩))
  · replace H := cnd_f c36 H
    refine AW.skip ?_
    show AW _ _ _ _ _ _
    refine AW.seq ?_
    obtain ⟨x37, x38, e39, H⟩ := bnd2_s H
    refine AW.region ?_
    show AR _ _ _ _ _ [0, 1, 2, 3, 4, 5, 6] _
    refine sS rfl rfl rfl (opS_load_cp_agg Tryz.underlying27 rfl (n := 10) (by kernel_rfl) rfl (Nat.le_of_ble_eq_true rfl)) ?_
    refine AR.run rfl rfl (AO.callp rfl en22_lcrontells rfl (w_cron_Write F a1 a2 a3 a4 a5 a6 a7 a8 a9 a10 x37 x38 e39) ?_)
    refine sS rfl rfl rfl (opS_move (av := .tup _) rfl) ?_
    refine sS rfl rfl rfl (opS_extract (av := .v _) rfl rfl) ?_
    refine sS rfl rfl rfl (opS_extract (av := .v _) rfl rfl) ?_
    refine sS rfl rfl rfl (asg rfl) ?_
    refine sS rfl rfl rfl (asg rfl) ?_
    refine AR.nil ?_
    show AW _ _ _ _ _ _
    refine AW.seq ?_
    obtain ⟨x40, x41, e42, H⟩ := bnd2_s H
    refine AW.region ?_
    show AR _ _ _ _ _ [0, 1, 2, 3, 4, 5, 6] _
    refine sS rfl rfl rfl (opS_load_cp_agg Tryz.underlying27 rfl (n := 10) (by kernel_rfl) rfl (Nat.le_of_ble_eq_true rfl)) ?_
    refine AR.run rfl rfl (AO.callp rfl en23_lcrontells rfl (w_ref05_Write F a1 a2 a3 a4 a5 a6 a7 a8 a9 a10 x40 x41 e42) ?_)
    refine sS rfl rfl rfl (opS_move (av := .tup _) rfl) ?_
    refine sS rfl rfl rfl (opS_extract (av := .v _) rfl rfl) ?_
    refine sS rfl rfl rfl (opS_extract (av := .v _) rfl rfl) ?_
    refine sS rfl rfl rfl (asg rfl) ?_
    refine sS rfl rfl rfl (asg rfl) ?_
    refine AR.nil ?_
    show AW _ _ _ _ _ _
    refine AW.seq ?_
    obtain ⟨x43, e44, H⟩ := bnd_s H
    refine AW.region ?_
    show AR _ _ _ _ _ [0, 1, 2] _
    refine sS rfl rfl rfl (opS_load_cp_agg Tryz.underlying27 rfl (n := 10) (by kernel_rfl) rfl (Nat.le_of_ble_eq_true rfl)) ?_
    refine AR.run rfl rfl (AO.callp rfl en24_lcrontells rfl (w_ref05_May F a1 a2 a3 a4 a5 a6 a7 a8 a9 a10 x43 e44) ?_)
    refine sS rfl rfl rfl (asg rfl) ?_
    refine AR.nil ?_
    show AW _ _ _ _ _ _
    refine AW.seq ?_
    obtain ⟨x45, e46, H⟩ := bnd_s H
    refine AW.region ?_
    show AR _ _ _ _ _ [0, 1, 2, 3] _
    refine sS rfl rfl rfl (opS_load_cp_agg Tryz.underlying27 rfl (n := 10) (by kernel_rfl) rfl (Nat.le_of_ble_eq_true rfl)) ?_
    refine sS rfl rfl rfl (opS_load_cp_agg Tryz.underlying27 rfl (n := 10) (by kernel_rfl) rfl (Nat.le_of_ble_eq_true rfl)) ?_
    refine AR.run rfl rfl (AO.callp rfl en12_lcrontells rfl (w_ref05_Same F a1 a2 a3 a4 a5 a6 a7 a8 a9 a10 a11 a12 a13 a14 a15 a16 a17 a18 a19 a20 x45 e46) ?_)
    refine sS rfl rfl rfl (asg rfl) ?_
    refine AR.nil ?_
    show AW _ _ _ _ _ _
    refine AW.seq ?_
    obtain ⟨x47, e48, H⟩ := bnd_s H
    refine AW.region ?_
    show AR _ _ _ _ _ [0, 1, 2, 3] _
    refine sS rfl rfl rfl (opS_load_cp_agg Tryz.underlying27 rfl (n := 10) (by kernel_rfl) rfl (Nat.le_of_ble_eq_true rfl)) ?_
    refine sS rfl rfl rfl (opS_load_cp_agg Tryz.underlying42 rfl (n := 6) (by kernel_rfl) rfl (Nat.le_of_ble_eq_true rfl)) ?_
    refine AR.run rfl rfl (AO.callp rfl en25_lcrontells rfl (w_ref05_Match F a1 a2 a3 a4 a5 a6 a7 a8 a9 a10 a21 a22 a23 a24 a25 a26 x47 e48) ?_)
    refine sS rfl rfl rfl (asg rfl) ?_
    refine AR.nil ?_
    show AW _ _ _ _ _ _
    refine AW.seq ?_
    obtain ⟨x49, e50, H⟩ := bnd_s H
    refine AW.region ?_
    show AR _ _ _ _ _ [0, 1, 2, 3, 4, 5, 6, 7, 8] _
    refine sS rfl rfl rfl (opS_load_cp_agg Tryz.underlying27 rfl (n := 10) (by kernel_rfl) rfl (Nat.le_of_ble_eq_true rfl)) ?_
    refine sS rfl rfl rfl (opS_fieldAddr_cp (n := 0) (by kernel_rfl) rfl (Nat.le_of_ble_eq_true rfl)) ?_
    refine sS rfl rfl rfl (opS_load_cp Tryz.underlying3 rfl rfl) ?_
    refine sS rfl rfl rfl (opS_fieldAddr_cp (n := 1) (by kernel_rfl) rfl (Nat.le_of_ble_eq_true rfl)) ?_
    refine sS rfl rfl rfl (opS_load_cp Tryz.underlying3 rfl rfl) ?_
    refine sS rfl rfl rfl (opS_fieldAddr_cp (n := 2) (by kernel_rfl) rfl (Nat.le_of_ble_eq_true rfl)) ?_
    refine sS rfl rfl rfl (opS_load_cp Tryz.underlying3 rfl rfl) ?_
    refine AR.run rfl rfl (AO.callp rfl en26_lcrontells rfl (w_ref05_Day F a1 a2 a3 a4 a5 a6 a7 a8 a9 a10 a21 a22 a23 x49 e50) ?_)
    refine sS rfl rfl rfl (asg rfl) ?_
    refine AR.nil ?_
    show AW _ _ _ _ _ _
    refine AW.seq ?_
    obtain ⟨x53, e54, H⟩ := bndc_s H
    obtain ⟨x56, e57, H⟩ := bndc_s H
    obtain ⟨x59, e60, H⟩ := bndc_s H
    obtain ⟨x62, e63, H⟩ := bndc_s H
    refine AW.region ?_
    show AR _ _ _ _ _ [0, 1, 2, 3, 4, 5, 6, 7, 8, 9, 10, 11, 12, 13, 14, 15, 16, 17, 18, 19, 20, 21, 22, 23, 24, 25, 26, 27, 28, 29, 30, 31, 32, 33, 34, 35, 36, 37, 38, 39, 40] _
    refine sS rfl rfl rfl (mv rfl) ?_
    refine sS rfl rfl rfl (mv rfl) ?_
    refine sS rfl rfl rfl (opS_eqs rfl rfl) ?_
    refine sS rfl rfl rfl (mv rfl) ?_
    refine AR.meet (l := [8, 9, 10, 11, 12, 13, 14, 15, 16, 17, 18, 19, 20, 21, 22, 23, 24, 25, 26, 27, 28, 29, 30, 31, 32, 33, 34, 35, 36, 37, 38, 39, 40]) 67 (B ((decide (x37 = x40)) && (decide (x38 = x41)))) (fun K => ?_) ?_
    · rcases Bool.eq_false_or_eq_true (decide (x37 = x40)) with h51 | h51
      ·
        refine gT h51 rfl rfl rfl rfl rfl rfl (AO.ops rfl rfl (mv rfl) ?_)
        refine gT h51 rfl rfl rfl rfl rfl rfl (AO.ops rfl rfl (mv rfl) ?_)
        refine gT h51 rfl rfl rfl rfl rfl rfl (AO.ops rfl rfl (opS_eqi rfl rfl) ?_)
        refine sS rfl rfl rfl (opS_pick_t (av := .v _) rfl h51 rfl) ?_
        exact K _ 3 _ (B_congr (and_t h51)) rfl rfl
      ·
        refine gF h51 rfl rfl rfl rfl rfl ?_
        refine gF h51 rfl rfl rfl rfl rfl ?_
        refine gF h51 rfl rfl rfl rfl rfl ?_
        refine sS rfl rfl rfl (opS_pick_f (av := .v _) rfl h51 rfl) ?_
        exact K _ 3 _ (B_congr (and_f h51)) rfl rfl
    refine sS rfl rfl rfl (mv rfl) ?_
    refine AR.meet (l := [14, 15, 16, 17, 18, 19, 20, 21, 22, 23, 24, 25, 26, 27, 28, 29, 30, 31, 32, 33, 34, 35, 36, 37, 38, 39, 40]) 73 (B (((decide (x37 = x40)) && (decide (x38 = x41))) && (x53 == x43))) (fun K => ?_) ?_
    · rcases Bool.eq_false_or_eq_true ((decide (x37 = x40)) && (decide (x38 = x41))) with h52 | h52
      ·
        refine gT h52 rfl rfl rfl rfl rfl rfl (AO.ops rfl rfl (opS_load_cp_agg Tryz.underlying27 rfl (n := 10) (by kernel_rfl) rfl (Nat.le_of_ble_eq_true rfl)) ?_)
        refine gT h52 rfl rfl rfl rfl rfl rfl (AO.callp rfl en15_lcrontells rfl (w_cron_May F a1 a2 a3 a4 a5 a6 a7 a8 a9 a10 x53 (e54 h52)) ?_)
        refine gT h52 rfl rfl rfl rfl rfl rfl (AO.ops rfl rfl (mv rfl) ?_)
        refine gT h52 rfl rfl rfl rfl rfl rfl (AO.ops rfl rfl (opS_eqb Tryz.underlying4 rfl rfl) ?_)
        refine sS rfl rfl rfl (opS_pick_t (av := .v _) rfl h52 rfl) ?_
        exact K _ 4 _ (B_congr (and_t h52)) rfl rfl
      ·
        refine gF h52 rfl rfl rfl rfl rfl ?_
        refine gF h52 rfl rfl rfl rfl rfl ?_
        refine gF h52 rfl rfl rfl rfl rfl ?_
        refine gF h52 rfl rfl rfl rfl rfl ?_
        refine sS rfl rfl rfl (opS_pick_f (av := .v _) rfl h52 rfl) ?_
        exact K _ 4 _ (B_congr (and_f h52)) rfl rfl
    refine sS rfl rfl rfl (mv rfl) ?_
    refine AR.meet (l := [21, 22, 23, 24, 25, 26, 27, 28, 29, 30, 31, 32, 33, 34, 35, 36, 37, 38, 39, 40]) 80 (B ((((decide (x37 = x40)) && (decide (x38 = x41))) && (x53 == x43)) && (x56 == x45))) (fun K => ?_) ?_
    · rcases Bool.eq_false_or_eq_true (((decide (x37 = x40)) && (decide (x38 = x41))) && (x53 == x43)) with h55 | h55
      ·
        refine gT h55 rfl rfl rfl rfl rfl rfl (AO.ops rfl rfl (opS_load_cp_agg Tryz.underlying27 rfl (n := 10) (by kernel_rfl) rfl (Nat.le_of_ble_eq_true rfl)) ?_)
        refine gT h55 rfl rfl rfl rfl rfl rfl (AO.ops rfl rfl (opS_load_cp_agg Tryz.underlying27 rfl (n := 10) (by kernel_rfl) rfl (Nat.le_of_ble_eq_true rfl)) ?_)
        refine gT h55 rfl rfl rfl rfl rfl rfl (AO.callp rfl en27_lcrontells rfl (w_cron_Same F a1 a2 a3 a4 a5 a6 a7 a8 a9 a10 a11 a12 a13 a14 a15 a16 a17 a18 a19 a20 x56 (e57 h55)) ?_)
        refine gT h55 rfl rfl rfl rfl rfl rfl (AO.ops rfl rfl (mv rfl) ?_)
        refine gT h55 rfl rfl rfl rfl rfl rfl (AO.ops rfl rfl (opS_eqb Tryz.underlying4 rfl rfl) ?_)
        refine sS rfl rfl rfl (opS_pick_t (av := .v _) rfl h55 rfl) ?_
        exact K _ 5 _ (B_congr (and_t h55)) rfl rfl
      ·
        refine gF h55 rfl rfl rfl rfl rfl ?_
        refine gF h55 rfl rfl rfl rfl rfl ?_
        refine gF h55 rfl rfl rfl rfl rfl ?_
        refine gF h55 rfl rfl rfl rfl rfl ?_
        refine gF h55 rfl rfl rfl rfl rfl ?_
        refine sS rfl rfl rfl (opS_pick_f (av := .v _) rfl h55 rfl) ?_
        exact K _ 5 _ (B_congr (and_f h55)) rfl rfl
    refine sS rfl rfl rfl (mv rfl) ?_
    refine AR.meet (l := [28, 29, 30, 31, 32, 33, 34, 35, 36, 37, 38, 39, 40]) 87 (B (((((decide (x37 = x40)) && (decide (x38 = x41))) && (x53 == x43)) && (x56 == x45)) && (x59 == x47))) (fun K => ?_) ?_
    · rcases Bool.eq_false_or_eq_true ((((decide (x37 = x40)) && (decide (x38 = x41))) && (x53 == x43)) && (x56 == x45)) with h58 | h58
      ·
        refine gT h58 rfl rfl rfl rfl rfl rfl (AO.ops rfl rfl (opS_load_cp_agg Tryz.underlying27 rfl (n := 10) (by kernel_rfl) rfl (Nat.le_of_ble_eq_true rfl)) ?_)
        refine gT h58 rfl rfl rfl rfl rfl rfl (AO.ops rfl rfl (opS_load_cp_agg Tryz.underlying42 rfl (n := 6) (by kernel_rfl) rfl (Nat.le_of_ble_eq_true rfl)) ?_)
        refine gT h58 rfl rfl rfl rfl rfl rfl (AO.callp rfl en21_lcrontells rfl (w_cron_Match F a1 a2 a3 a4 a5 a6 a7 a8 a9 a10 a21 a22 a23 a24 a25 a26 x59 (e60 h58)) ?_)
        refine gT h58 rfl rfl rfl rfl rfl rfl (AO.ops rfl rfl (mv rfl) ?_)
        refine gT h58 rfl rfl rfl rfl rfl rfl (AO.ops rfl rfl (opS_eqb Tryz.underlying4 rfl rfl) ?_)
        refine sS rfl rfl rfl (opS_pick_t (av := .v _) rfl h58 rfl) ?_
        exact K _ 5 _ (B_congr (and_t h58)) rfl rfl
      ·
        refine gF h58 rfl rfl rfl rfl rfl ?_
        refine gF h58 rfl rfl rfl rfl rfl ?_
        refine gF h58 rfl rfl rfl rfl rfl ?_
        refine gF h58 rfl rfl rfl rfl rfl ?_
        refine gF h58 rfl rfl rfl rfl rfl ?_
        refine sS rfl rfl rfl (opS_pick_f (av := .v _) rfl h58 rfl) ?_
        exact K _ 5 _ (B_congr (and_f h58)) rfl rfl
    refine sS rfl rfl rfl (mv rfl) ?_
    refine AR.meet (l := [40]) 99 (B ((((((decide (x37 = x40)) && (decide (x38 = x41))) && (x53 == x43)) && (x56 == x45)) && (x59 == x47)) && (x62 == x49))) (fun K => ?_) ?_
    · rcases Bool.eq_false_or_eq_true (((((decide (x37 = x40)) && (decide (x38 = x41))) && (x53 == x43)) && (x56 == x45)) && (x59 == x47)) with h61 | h61
      ·
        refine gT h61 rfl rfl rfl rfl rfl rfl (AO.ops rfl rfl (opS_load_cp_agg Tryz.underlying27 rfl (n := 10) (by kernel_rfl) rfl (Nat.le_of_ble_eq_true rfl)) ?_)
        refine gT h61 rfl rfl rfl rfl rfl rfl (AO.ops rfl rfl (opS_fieldAddr_cp (n := 0) (by kernel_rfl) rfl (Nat.le_of_ble_eq_true rfl)) ?_)
        refine gT h61 rfl rfl rfl rfl rfl rfl (AO.ops rfl rfl (opS_load_cp Tryz.underlying3 rfl rfl) ?_)
        refine gT h61 rfl rfl rfl rfl rfl rfl (AO.ops rfl rfl (opS_fieldAddr_cp (n := 1) (by kernel_rfl) rfl (Nat.le_of_ble_eq_true rfl)) ?_)
        refine gT h61 rfl rfl rfl rfl rfl rfl (AO.ops rfl rfl (opS_load_cp Tryz.underlying3 rfl rfl) ?_)
        refine gT h61 rfl rfl rfl rfl rfl rfl (AO.ops rfl rfl (opS_fieldAddr_cp (n := 2) (by kernel_rfl) rfl (Nat.le_of_ble_eq_true rfl)) ?_)
        refine gT h61 rfl rfl rfl rfl rfl rfl (AO.ops rfl rfl (opS_load_cp Tryz.underlying3 rfl rfl) ?_)
        refine gT h61 rfl rfl rfl rfl rfl rfl (AO.callp rfl en16_lcrontells rfl (w_cron_Day F a1 a2 a3 a4 a5 a6 a7 a8 a9 a10 a21 a22 a23 x62 (e63 h61)) ?_)
        refine gT h61 rfl rfl rfl rfl rfl rfl (AO.ops rfl rfl (mv rfl) ?_)
        refine gT h61 rfl rfl rfl rfl rfl rfl (AO.ops rfl rfl (opS_eqb Tryz.underlying4 rfl rfl) ?_)
        refine sS rfl rfl rfl (opS_pick_t (av := .v _) rfl h61 rfl) ?_
        exact K _ 10 _ (B_congr (and_t h61)) rfl rfl
      ·
        refine gF h61 rfl rfl rfl rfl rfl ?_
        refine gF h61 rfl rfl rfl rfl rfl ?_
        refine gF h61 rfl rfl rfl rfl rfl ?_
        refine gF h61 rfl rfl rfl rfl rfl ?_
        refine gF h61 rfl rfl rfl rfl rfl ?_
        refine gF h61 rfl rfl rfl rfl rfl ?_
        refine gF h61 rfl rfl rfl rfl rfl ?_
        refine gF h61 rfl rfl rfl rfl rfl ?_
        refine gF h61 rfl rfl rfl rfl rfl ?_
        refine gF h61 rfl rfl rfl rfl rfl ?_
        refine sS rfl rfl rfl (opS_pick_f (av := .v _) rfl h61 rfl) ?_
        exact K _ 10 _ (B_congr (and_f h61)) rfl rfl
    refine sS rfl rfl rfl (asg rfl) ?_
    refine AR.nil ?_
    show AW _ _ _ _ _ _
    refine AW.ret ?_
    obtain rfl := Option.some.inj H
    exact And.intro rfl (Exists.intro _ (Exists.intro _ ⟨ResV.oneW rfl (.refl _), Sub.at [] rfl, rfl, rfl⟩))
end Go.Proofs.YtpbfajkbkomfcaaGreatDoor
