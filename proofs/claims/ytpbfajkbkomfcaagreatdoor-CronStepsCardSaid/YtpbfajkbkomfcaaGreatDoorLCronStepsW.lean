/-
  The statement CronSteps: what is run is what the plain functions say. Printed by a program of ours.
-/
import Derived.Test.YtpbfajkbkomfcaaGreatDoorAvE
import Derived.Test.YtpbfajkbkomfcaaGreatDoorPvLib
import Derived.Test.YtpbfajkbkomfcaaGreatDoorP11Split
import Derived.Test.YtpbfajkbkomfcaaGreatDoorAvStill
import Derived.Test.YtpbfajkbkomfcaaGreatDoorChecked
import Derived.Test.YtpbfajkbkomfcaaGreatDoorCronLW
import Derived.Test.YtpbfajkbkomfcaaGreatDoorCronQW
import Derived.Test.YtpbfajkbkomfcaaGreatDoorLCronStepsP
set_option linter.unusedVariables false
set_option linter.unusedSimpArgs false
namespace Go.Proofs.YtpbfajkbkomfcaaGreatDoor
open Go.RowKit Go.Av Go.Pv
theorem en9_lcronsteps : ∀ (args : Array Value) (w : World), (callFunc 9 args).run Tryz.prog w = .ok (.enter 9 args) w := fun _ _ => by kernel_rfl
theorem en10_lcronsteps : ∀ (args : Array Value) (w : World), (callFunc 10 args).run Tryz.prog w = .ok (.enter 10 args) w := fun _ _ => by kernel_rfl
theorem en17_lcronsteps : ∀ (args : Array Value) (w : World), (callFunc 17 args).run Tryz.prog w = .ok (.enter 17 args) w := fun _ _ => by kernel_rfl
theorem en19_lcronsteps : ∀ (args : Array Value) (w : World), (callFunc 19 args).run Tryz.prog w = .ok (.enter 19 args) w := fun _ _ => by kernel_rfl
set_option maxRecDepth 100000 in
set_option maxHeartbeats 1000000 in
theorem w_law05_CronSteps (F : Nat) (a1 : Int) (a2 : Int) (a3 : Int) (r4 : Bool) (H : law05_CronSteps F a1 a2 a3 = some r4) : ACalls Tryz.prog 5 [i64 a1, i64 a2, i64 a3] [] (Ret (B r4) []) := by
 unfold law05_CronSteps at H
 refine ACalls.of_body Tryz.func5 rfl rfl ?_
 show AW _ _ 127 _ _ _
 refine AW.seq ?_
 refine AW.region ?_
 show AR _ _ _ _ _ [0] _
 refine sS rfl rfl rfl (asg rfl) ?_
 refine AR.nil ?_
 show AW _ _ _ _ _ _
 refine AW.seq ?_
 obtain ⟨x5, e6, H⟩ := bnd_s H
 refine AW.region ?_
 show AR _ _ _ _ _ [0, 1] _
 refine AR.run rfl rfl (AO.callp rfl en9_lcronsteps rfl (w_law05_awake F x5 e6) ?_)
 refine sS rfl rfl rfl (asg rfl) ?_
 refine AR.nil ?_
 show AW _ _ _ _ _ _
 refine AW.seq ?_
 refine AW.seq ?_
 refine AW.region ?_
 show AR _ _ _ _ _ [0, 1, 2, 3, 4, 5, 6, 7, 8, 9, 10, 11, 12, 13, 14, 15, 16, 17, 18, 19, 20, 21, 22] _
 refine sS rfl rfl rfl (mv rfl) ?_
 refine sS rfl rfl rfl (opS_not rfl) ?_
 refine sS rfl rfl rfl (mv rfl) ?_
 refine AR.meet (l := [6, 7, 8, 9, 10, 11, 12, 13, 14, 15, 16, 17, 18, 19, 20, 21, 22]) 22 (B ((!x5) || (decide (a1 < 0)))) (fun K => ?_) ?_
 ·rcases Bool.eq_false_or_eq_true (!x5) with h7 | h7
  ·
   refine gF h7 rfl rfl rfl rfl rfl ?_
   refine gF h7 rfl rfl rfl rfl rfl ?_
   refine sS rfl rfl rfl (opS_pick_t (av := .v _) rfl h7 rfl) ?_
   exact K _ 2 _ (B_congr (or_t h7)) rfl rfl
  ·
   refine gT h7 rfl rfl rfl rfl rfl rfl (AO.ops rfl rfl (mv rfl) ?_)
   refine gT h7 rfl rfl rfl rfl rfl rfl (AO.ops rfl rfl (opS_lt rfl rfl) ?_)
   refine sS rfl rfl rfl (opS_pick_f (av := .v _) rfl h7 rfl) ?_
   exact K _ 2 _ (B_congr (or_f h7)) rfl rfl
 refine sS rfl rfl rfl (mv rfl) ?_
 refine AR.meet (l := [11, 12, 13, 14, 15, 16, 17, 18, 19, 20, 21, 22]) 27 (B (((!x5) || (decide (a1 < 0))) || (decide (a2 < a1)))) (fun K => ?_) ?_
 ·rcases Bool.eq_false_or_eq_true ((!x5) || (decide (a1 < 0))) with h8 | h8
  ·
   refine gF h8 rfl rfl rfl rfl rfl ?_
   refine gF h8 rfl rfl rfl rfl rfl ?_
   refine gF h8 rfl rfl rfl rfl rfl ?_
   refine sS rfl rfl rfl (opS_pick_t (av := .v _) rfl h8 rfl) ?_
   exact K _ 3 _ (B_congr (or_t h8)) rfl rfl
  ·
   refine gT h8 rfl rfl rfl rfl rfl rfl (AO.ops rfl rfl (mv rfl) ?_)
   refine gT h8 rfl rfl rfl rfl rfl rfl (AO.ops rfl rfl (mv rfl) ?_)
   refine gT h8 rfl rfl rfl rfl rfl rfl (AO.ops rfl rfl (opS_lt rfl rfl) ?_)
   refine sS rfl rfl rfl (opS_pick_f (av := .v _) rfl h8 rfl) ?_
   exact K _ 3 _ (B_congr (or_f h8)) rfl rfl
 refine sS rfl rfl rfl (mv rfl) ?_
 refine AR.meet (l := [15, 16, 17, 18, 19, 20, 21, 22]) 31 (B ((((!x5) || (decide (a1 < 0))) || (decide (a2 < a1))) || (decide (59 < a2)))) (fun K => ?_) ?_
 ·rcases Bool.eq_false_or_eq_true (((!x5) || (decide (a1 < 0))) || (decide (a2 < a1))) with h9 | h9
  ·
   refine gF h9 rfl rfl rfl rfl rfl ?_
   refine gF h9 rfl rfl rfl rfl rfl ?_
   refine sS rfl rfl rfl (opS_pick_t (av := .v _) rfl h9 rfl) ?_
   exact K _ 2 _ (B_congr (or_t h9)) rfl rfl
  ·
   refine gT h9 rfl rfl rfl rfl rfl rfl (AO.ops rfl rfl (mv rfl) ?_)
   refine gT h9 rfl rfl rfl rfl rfl rfl (AO.ops rfl rfl (opS_gt rfl rfl) ?_)
   refine sS rfl rfl rfl (opS_pick_f (av := .v _) rfl h9 rfl) ?_
   exact K _ 2 _ (B_congr (or_f h9)) rfl rfl
 refine sS rfl rfl rfl (mv rfl) ?_
 refine AR.meet (l := [19, 20, 21, 22]) 35 (B (((((!x5) || (decide (a1 < 0))) || (decide (a2 < a1))) || (decide (59 < a2))) || (decide (a3 < 1)))) (fun K => ?_) ?_
 ·rcases Bool.eq_false_or_eq_true ((((!x5) || (decide (a1 < 0))) || (decide (a2 < a1))) || (decide (59 < a2))) with h10 | h10
  ·
   refine gF h10 rfl rfl rfl rfl rfl ?_
   refine gF h10 rfl rfl rfl rfl rfl ?_
   refine sS rfl rfl rfl (opS_pick_t (av := .v _) rfl h10 rfl) ?_
   exact K _ 2 _ (B_congr (or_t h10)) rfl rfl
  ·
   refine gT h10 rfl rfl rfl rfl rfl rfl (AO.ops rfl rfl (mv rfl) ?_)
   refine gT h10 rfl rfl rfl rfl rfl rfl (AO.ops rfl rfl (opS_lt rfl rfl) ?_)
   refine sS rfl rfl rfl (opS_pick_f (av := .v _) rfl h10 rfl) ?_
   exact K _ 2 _ (B_congr (or_f h10)) rfl rfl
 refine sS rfl rfl rfl (mv rfl) ?_
 refine AR.meet (l := []) 39 (B ((((((!x5) || (decide (a1 < 0))) || (decide (a2 < a1))) || (decide (59 < a2))) || (decide (a3 < 1))) || (decide (99 < a3)))) (fun K => ?_) ?_
 ·rcases Bool.eq_false_or_eq_true (((((!x5) || (decide (a1 < 0))) || (decide (a2 < a1))) || (decide (59 < a2))) || (decide (a3 < 1))) with h11 | h11
  ·
   refine gF h11 rfl rfl rfl rfl rfl ?_
   refine gF h11 rfl rfl rfl rfl rfl ?_
   refine sS rfl rfl rfl (opS_pick_t (av := .v _) rfl h11 rfl) ?_
   exact K _ 2 _ (B_congr (or_t h11)) rfl rfl
  ·
   refine gT h11 rfl rfl rfl rfl rfl rfl (AO.ops rfl rfl (mv rfl) ?_)
   refine gT h11 rfl rfl rfl rfl rfl rfl (AO.ops rfl rfl (opS_gt rfl rfl) ?_)
   refine sS rfl rfl rfl (opS_pick_f (av := .v _) rfl h11 rfl) ?_
   exact K _ 2 _ (B_congr (or_f h11)) rfl rfl
 refine AR.nil ?_
 show AW _ _ _ _ _ _
 refine AW.cond rfl (fun c12 => ?_) (fun c12 => ?_)
 ·replace H := cnd_t c12 H
  refine AW.seq ?_
  refine AW.region ?_
  show AR _ _ _ _ _ [0, 1] _
  refine sS rfl rfl rfl (mv rfl) ?_
  refine sS rfl rfl rfl (asg rfl) ?_
  refine AR.nil ?_
  show AW _ _ _ _ _ _
  refine AW.ret ?_
  obtain rfl := Option.some.inj H
  exact And.intro rfl (Exists.intro _ (Exists.intro _ ⟨ResV.oneW rfl (.refl _), Sub.at [] rfl, rfl, rfl⟩))
 ·replace H := cnd_f c12 H
  refine AW.skip ?_
  show AW _ _ _ _ _ _
  refine AW.seq ?_
  obtain ⟨x13, e14, H⟩ := bnd_s H
  obtain ⟨g15, H⟩ := grd_s H
  obtain ⟨x16, e17, H⟩ := lt_s H
  obtain ⟨x18, e19, H⟩ := bnd_s H
  obtain ⟨g20, H⟩ := grd_s H
  obtain ⟨x21, e22, H⟩ := lt_s H
  obtain ⟨g23, H⟩ := grd_s H
  obtain ⟨x24, e25, H⟩ := lt_s H
  obtain ⟨x26, e27, H⟩ := bnd_s H
  obtain ⟨g28, H⟩ := grd_s H
  obtain ⟨x29, e30, H⟩ := lt_s H
  obtain ⟨g31, H⟩ := grd_s H
  obtain ⟨x32, e33, H⟩ := lt_s H
  refine AW.region ?_
  show AR _ _ _ _ _ [0, 1, 2, 3, 4, 5, 6, 7, 8, 9, 10, 11] _
  refine sS rfl rfl rfl (mv rfl) ?_
  refine AR.run rfl rfl (AO.callp rfl en19_lcronsteps rfl (w_law05_digits F a1 x13 e14) ?_)
  refine sS rfl rfl rfl (g_cat rfl rfl g15 e17) ?_
  refine sS rfl rfl rfl (mv rfl) ?_
  refine AR.run rfl rfl (AO.callp rfl en19_lcronsteps rfl (w_law05_digits F a2 x18 e19) ?_)
  refine sS rfl rfl rfl (g_cat rfl rfl g20 e22) ?_
  refine sS rfl rfl rfl (g_cat rfl rfl g23 e25) ?_
  refine sS rfl rfl rfl (mv rfl) ?_
  refine AR.run rfl rfl (AO.callp rfl en19_lcronsteps rfl (w_law05_digits F a3 x26 e27) ?_)
  refine sS rfl rfl rfl (g_cat rfl rfl g28 e30) ?_
  refine sS rfl rfl rfl (g_cat rfl rfl g31 e33) ?_
  refine sS rfl rfl rfl (asg rfl) ?_
  refine AR.nil ?_
  show AW _ _ _ _ _ _
  refine AW.seq ?_
  obtain ⟨x34, e35, H⟩ := bnd_s H
  refine AW.region ?_
  show AR _ _ _ _ _ [0, 1, 2, 3, 4, 5, 6, 7] _
  refine sS rfl rfl rfl (mv rfl) ?_
  refine AR.run rfl rfl (AO.callp rfl en10_lcronsteps rfl (w_cron_Parse F x32 x34.1 x34.2.1 x34.2.2.1 x34.2.2.2.1 x34.2.2.2.2.1 x34.2.2.2.2.2.1 x34.2.2.2.2.2.2.1 x34.2.2.2.2.2.2.2.1 x34.2.2.2.2.2.2.2.2.1 x34.2.2.2.2.2.2.2.2.2.1 x34.2.2.2.2.2.2.2.2.2.2 e35) ?_)
  refine sS rfl rfl rfl (opS_move (av := .tup _) rfl) ?_
  refine sS rfl rfl rfl (opS_extract (av := .agg _) rfl rfl) ?_
  refine sS rfl rfl rfl (opS_extract (av := .v _) rfl rfl) ?_
  refine sX rfl rfl rfl (opX_alloc (zs := [.slice none 0 0, .slice none 0 0, .slice none 0 0, .slice none 0 0, .slice none 0 0, .bool false, .bool false, .bool false, .bool false, .bool false]) (by kernel_rfl)) ?_
  rintro _ _ ⟨o36, rfl, rfl⟩
  refine s0 rfl rfl (opR_store_agg (i := 0) (vs := [slE Enc.int x34.1 none, slE Enc.int x34.2.1 none, slE Enc.int x34.2.2.1 none, slE Enc.int x34.2.2.2.1 none, slE Enc.int x34.2.2.2.2.1 none, B x34.2.2.2.2.2.1, B x34.2.2.2.2.2.2.1, B x34.2.2.2.2.2.2.2.1, B x34.2.2.2.2.2.2.2.2.1, B x34.2.2.2.2.2.2.2.2.2.1]) (by kernel_rfl) rfl rfl (by simp [isCell, slE]) rfl (Nat.le_of_ble_eq_true rfl)) ?_
  refine AR.freezeCp 9 0 rfl rfl ?_
  show AR _ _ _ _ _ _ ⟨_, _, []⟩
  refine sS rfl rfl rfl (asg rfl) ?_
  refine AR.nil ?_
  show AW _ _ _ _ _ _
  refine AW.seq ?_
  obtain ⟨x37, e38, H⟩ := bnd_s H
  obtain ⟨g39, H⟩ := grd_s H
  obtain ⟨x40, e41, H⟩ := lt_s H
  obtain ⟨g42, H⟩ := grd_s H
  obtain ⟨x43, e44, H⟩ := lt_s H
  obtain ⟨x45, e46, H⟩ := bnd_s H
  refine AW.region ?_
  show AR _ _ _ _ _ [0, 1, 2, 3, 4, 5, 6, 7, 8, 9, 10] _
  refine sS rfl rfl rfl (mv rfl) ?_
  refine AR.run rfl rfl (AO.callp rfl en19_lcronsteps rfl (w_law05_digits F a3 x37 e38) ?_)
  refine sS rfl rfl rfl (g_cat rfl rfl g39 e41) ?_
  refine sS rfl rfl rfl (g_cat rfl rfl g42 e44) ?_
  refine AR.run rfl rfl (AO.callp rfl en10_lcronsteps rfl (w_cron_Parse F x43 x45.1 x45.2.1 x45.2.2.1 x45.2.2.2.1 x45.2.2.2.2.1 x45.2.2.2.2.2.1 x45.2.2.2.2.2.2.1 x45.2.2.2.2.2.2.2.1 x45.2.2.2.2.2.2.2.2.1 x45.2.2.2.2.2.2.2.2.2.1 x45.2.2.2.2.2.2.2.2.2.2 e46) ?_)
  refine sS rfl rfl rfl (opS_move (av := .tup _) rfl) ?_
  refine sS rfl rfl rfl (opS_extract (av := .agg _) rfl rfl) ?_
  refine sS rfl rfl rfl (opS_extract (av := .v _) rfl rfl) ?_
  refine sX rfl rfl rfl (opX_alloc (zs := [.slice none 0 0, .slice none 0 0, .slice none 0 0, .slice none 0 0, .slice none 0 0, .bool false, .bool false, .bool false, .bool false, .bool false]) (by kernel_rfl)) ?_
  rintro _ _ ⟨o47, rfl, rfl⟩
  refine s0 rfl rfl (opR_store_agg (i := 0) (vs := [slE Enc.int x45.1 none, slE Enc.int x45.2.1 none, slE Enc.int x45.2.2.1 none, slE Enc.int x45.2.2.2.1 none, slE Enc.int x45.2.2.2.2.1 none, B x45.2.2.2.2.2.1, B x45.2.2.2.2.2.2.1, B x45.2.2.2.2.2.2.2.1, B x45.2.2.2.2.2.2.2.2.1, B x45.2.2.2.2.2.2.2.2.2.1]) (by kernel_rfl) rfl rfl (by simp [isCell, slE]) rfl (Nat.le_of_ble_eq_true rfl)) ?_
  refine AR.freezeCp 11 0 rfl rfl ?_
  show AR _ _ _ _ _ _ ⟨_, _, []⟩
  refine sS rfl rfl rfl (asg rfl) ?_
  refine AR.nil ?_
  show AW _ _ _ _ _ _
  refine AW.seq ?_
  refine AW.seq ?_
  refine AW.region ?_
  show AR _ _ _ _ _ [0, 1, 2, 3, 4, 5, 6, 7, 8, 9, 10, 11, 12, 13, 14, 15, 16, 17, 18, 19, 20, 21] _
  refine sS rfl rfl rfl (mv rfl) ?_
  refine sS rfl rfl rfl (opS_nei rfl rfl) ?_
  refine sS rfl rfl rfl (mv rfl) ?_
  refine AR.meet (l := [6, 7, 8, 9, 10, 11, 12, 13, 14, 15, 16, 17, 18, 19, 20, 21]) 70 (B ((!decide (x34.2.2.2.2.2.2.2.2.2.2 = 0)) || (!decide (x45.2.2.2.2.2.2.2.2.2.2 = 0)))) (fun K => ?_) ?_
  ·rcases Bool.eq_false_or_eq_true (!decide (x34.2.2.2.2.2.2.2.2.2.2 = 0)) with h48 | h48
   ·
    refine gF h48 rfl rfl rfl rfl rfl ?_
    refine gF h48 rfl rfl rfl rfl rfl ?_
    refine sS rfl rfl rfl (opS_pick_t (av := .v _) rfl h48 rfl) ?_
    exact K _ 2 _ (B_congr (or_t h48)) rfl rfl
   ·
    refine gT h48 rfl rfl rfl rfl rfl rfl (AO.ops rfl rfl (mv rfl) ?_)
    refine gT h48 rfl rfl rfl rfl rfl rfl (AO.ops rfl rfl (opS_nei rfl rfl) ?_)
    refine sS rfl rfl rfl (opS_pick_f (av := .v _) rfl h48 rfl) ?_
    exact K _ 2 _ (B_congr (or_f h48)) rfl rfl
  refine sS rfl rfl rfl (mv rfl) ?_
  refine AR.meet (l := [11, 12, 13, 14, 15, 16, 17, 18, 19, 20, 21]) 75 (B (((!decide (x34.2.2.2.2.2.2.2.2.2.2 = 0)) || (!decide (x45.2.2.2.2.2.2.2.2.2.2 = 0))) || x34.2.2.2.2.2.1)) (fun K => ?_) ?_
  ·rcases Bool.eq_false_or_eq_true ((!decide (x34.2.2.2.2.2.2.2.2.2.2 = 0)) || (!decide (x45.2.2.2.2.2.2.2.2.2.2 = 0))) with h49 | h49
   ·
    refine gF h49 rfl rfl rfl rfl rfl ?_
    refine gF h49 rfl rfl rfl rfl rfl ?_
    refine gF h49 rfl rfl rfl rfl rfl ?_
    refine sS rfl rfl rfl (opS_pick_t (av := .v _) rfl h49 rfl) ?_
    exact K _ 3 _ (B_congr (or_t h49)) rfl rfl
   ·
    refine gT h49 rfl rfl rfl rfl rfl rfl (AO.ops rfl rfl (opS_fieldAddr_cp (n := 5) (by kernel_rfl) rfl (Nat.le_of_ble_eq_true rfl)) ?_)
    refine gT h49 rfl rfl rfl rfl rfl rfl (AO.ops rfl rfl (opS_indexAddr_arr_cp (k := 1) (m := 0) Tryz.underlying25 (by kernel_rfl) rfl rfl rfl (by decide) (Nat.le_of_ble_eq_true rfl)) ?_)
    refine gT h49 rfl rfl rfl rfl rfl rfl (AO.ops rfl rfl (opS_load_cp Tryz.underlying4 rfl rfl) ?_)
    refine sS rfl rfl rfl (opS_pick_f (av := .v _) rfl h49 rfl) ?_
    exact K _ 3 _ (B_congr (or_f h49)) rfl rfl
  refine sS rfl rfl rfl (mv rfl) ?_
  refine AR.meet (l := [16, 17, 18, 19, 20, 21]) 80 (B ((((!decide (x34.2.2.2.2.2.2.2.2.2.2 = 0)) || (!decide (x45.2.2.2.2.2.2.2.2.2.2 = 0))) || x34.2.2.2.2.2.1) || x45.2.2.2.2.2.1)) (fun K => ?_) ?_
  ·rcases Bool.eq_false_or_eq_true (((!decide (x34.2.2.2.2.2.2.2.2.2.2 = 0)) || (!decide (x45.2.2.2.2.2.2.2.2.2.2 = 0))) || x34.2.2.2.2.2.1) with h50 | h50
   ·
    refine gF h50 rfl rfl rfl rfl rfl ?_
    refine gF h50 rfl rfl rfl rfl rfl ?_
    refine gF h50 rfl rfl rfl rfl rfl ?_
    refine sS rfl rfl rfl (opS_pick_t (av := .v _) rfl h50 rfl) ?_
    exact K _ 3 _ (B_congr (or_t h50)) rfl rfl
   ·
    refine gT h50 rfl rfl rfl rfl rfl rfl (AO.ops rfl rfl (opS_fieldAddr_cp (n := 5) (by kernel_rfl) rfl (Nat.le_of_ble_eq_true rfl)) ?_)
    refine gT h50 rfl rfl rfl rfl rfl rfl (AO.ops rfl rfl (opS_indexAddr_arr_cp (k := 1) (m := 0) Tryz.underlying25 (by kernel_rfl) rfl rfl rfl (by decide) (Nat.le_of_ble_eq_true rfl)) ?_)
    refine gT h50 rfl rfl rfl rfl rfl rfl (AO.ops rfl rfl (opS_load_cp Tryz.underlying4 rfl rfl) ?_)
    refine sS rfl rfl rfl (opS_pick_f (av := .v _) rfl h50 rfl) ?_
    exact K _ 3 _ (B_congr (or_f h50)) rfl rfl
  refine sS rfl rfl rfl (mv rfl) ?_
  refine AR.meet (l := []) 86 (B (((((!decide (x34.2.2.2.2.2.2.2.2.2.2 = 0)) || (!decide (x45.2.2.2.2.2.2.2.2.2.2 = 0))) || x34.2.2.2.2.2.1) || x45.2.2.2.2.2.1) || (!x34.2.2.2.2.2.2.1))) (fun K => ?_) ?_
  ·rcases Bool.eq_false_or_eq_true ((((!decide (x34.2.2.2.2.2.2.2.2.2.2 = 0)) || (!decide (x45.2.2.2.2.2.2.2.2.2.2 = 0))) || x34.2.2.2.2.2.1) || x45.2.2.2.2.2.1) with h51 | h51
   ·
    refine gF h51 rfl rfl rfl rfl rfl ?_
    refine gF h51 rfl rfl rfl rfl rfl ?_
    refine gF h51 rfl rfl rfl rfl rfl ?_
    refine gF h51 rfl rfl rfl rfl rfl ?_
    refine sS rfl rfl rfl (opS_pick_t (av := .v _) rfl h51 rfl) ?_
    exact K _ 4 _ (B_congr (or_t h51)) rfl rfl
   ·
    refine gT h51 rfl rfl rfl rfl rfl rfl (AO.ops rfl rfl (opS_fieldAddr_cp (n := 5) (by kernel_rfl) rfl (Nat.le_of_ble_eq_true rfl)) ?_)
    refine gT h51 rfl rfl rfl rfl rfl rfl (AO.ops rfl rfl (opS_indexAddr_arr_cp (k := 1) (m := 1) Tryz.underlying25 (by kernel_rfl) rfl rfl rfl (by decide) (Nat.le_of_ble_eq_true rfl)) ?_)
    refine gT h51 rfl rfl rfl rfl rfl rfl (AO.ops rfl rfl (opS_load_cp Tryz.underlying4 rfl rfl) ?_)
    refine gT h51 rfl rfl rfl rfl rfl rfl (AO.ops rfl rfl (opS_not rfl) ?_)
    refine sS rfl rfl rfl (opS_pick_f (av := .v _) rfl h51 rfl) ?_
    exact K _ 4 _ (B_congr (or_f h51)) rfl rfl
  refine AR.nil ?_
  show AW _ _ _ _ _ _
  refine AW.cond rfl (fun c52 => ?_) (fun c52 => ?_)
  ·replace H := cnd_t c52 H
   refine AW.seq ?_
   refine AW.region ?_
   show AR _ _ _ _ _ [0] _
   refine sS rfl rfl rfl (asg rfl) ?_
   refine AR.nil ?_
   show AW _ _ _ _ _ _
   refine AW.ret ?_
   obtain rfl := Option.some.inj H
   exact And.intro rfl (Exists.intro _ (Exists.intro _ ⟨ResV.oneW rfl (.refl _), Sub.at [] rfl, rfl, rfl⟩))
  ·replace H := cnd_f c52 H
   refine AW.skip ?_
   show AW _ _ _ _ _ _
   refine AW.cut (X := Unit) (fun _ => ⟨[], [], []⟩) (fun _ => law05_CronSteps_j1 = some r4) ?_ ?_
   ·
    refine AW.seq ?_
    refine AW.region ?_
    show AR _ _ _ _ _ [0] _
    refine sS rfl rfl rfl (asg rfl) ?_
    refine AR.nil ?_
    show AW _ _ _ _ _ _
    refine AW.block ?_
    refine AW.loop (X := Nat × Int) (fun (n55, y53) => ⟨[(0, i64 a1), (1, i64 a2), (2, i64 a3), (9, .cp [slE Enc.int x34.1 none, slE Enc.int x34.2.1 none, slE Enc.int x34.2.2.1 none, slE Enc.int x34.2.2.2.1 none, slE Enc.int x34.2.2.2.2.1 none, B x34.2.2.2.2.2.1, B x34.2.2.2.2.2.2.1, B x34.2.2.2.2.2.2.2.1, B x34.2.2.2.2.2.2.2.2.1, B x34.2.2.2.2.2.2.2.2.2.1]), (11, .cp [slE Enc.int x45.1 none, slE Enc.int x45.2.1 none, slE Enc.int x45.2.2.1 none, slE Enc.int x45.2.2.2.1 none, slE Enc.int x45.2.2.2.2.1 none, B x45.2.2.2.2.2.1, B x45.2.2.2.2.2.2.1, B x45.2.2.2.2.2.2.2.1, B x45.2.2.2.2.2.2.2.2.1, B x45.2.2.2.2.2.2.2.2.2.1]), (13, i64 y53)], [], []⟩) (fun (n55, y53) => law05_CronSteps_L1 F a1 a2 a3 x34 x45 n55 y53 = some r4) (fun (n55, y53) => n55) (F, 0) H (WK.at [] (.cons (.refl _) (.cons (.refl _) (.cons (.refl _) (.cons (.refl _) (.cons (.refl _) (.cons (.refl _) (.nil _))))))) rfl) ?_
    rintro ⟨n55, y53⟩ H
    obtain ⟨n55, rfl, H⟩ := loop_s H
    replace H : law05_CronSteps_B1 F a1 a2 a3 x34 x45 (law05_CronSteps_L1 F a1 a2 a3 x34 x45 n55) y53 = some r4 := H
    unfold law05_CronSteps_B1 at H
    show AW _ _ _ _ _ _
    refine AW.seq ?_
    refine AW.seq ?_
    refine AW.region ?_
    show AR _ _ _ _ _ [0, 1] _
    refine sS rfl rfl rfl (mv rfl) ?_
    refine sS rfl rfl rfl (opS_lt rfl rfl) ?_
    refine AR.nil ?_
    show AW _ _ _ _ _ _
    refine AW.cond rfl (fun c56 => ?_) (fun c56 => ?_)
    ·replace H := cnd_t c56 H
     refine AW.skip ?_
     show AW _ _ _ _ _ _
     refine AW.seq ?_
     refine AW.block ?_
     refine AW.seq ?_
     obtain ⟨x57, e58, H⟩ := bnd_s H
     refine AW.region ?_
     show AR _ _ _ _ _ [0, 1, 2, 3, 4, 5] _
     refine sS rfl rfl rfl (opS_fieldAddr_cp (n := 0) (by kernel_rfl) rfl (Nat.le_of_ble_eq_true rfl)) ?_
     refine sS rfl rfl rfl (opS_indexAddr_arr_cp (k := 1) (m := 0) Tryz.underlying24 (by kernel_rfl) rfl rfl rfl (by decide) (Nat.le_of_ble_eq_true rfl)) ?_
     refine sS rfl rfl rfl (opS_load_cp Tryz.underlying23 rfl rfl) ?_
     refine sS rfl rfl rfl (mv rfl) ?_
     refine AR.run rfl rfl (AO.callp rfl en17_lcronsteps rfl (w_ref05_Has F x34.1 none y53 x57 e58) ?_)
     refine sS rfl rfl rfl (asg rfl) ?_
     refine AR.nil ?_
     show AW _ _ _ _ _ _
     refine AW.seq ?_
     obtain ⟨x59, e60, H⟩ := bnd_s H
     refine AW.region ?_
     show AR _ _ _ _ _ [0, 1, 2, 3, 4, 5] _
     refine sS rfl rfl rfl (opS_fieldAddr_cp (n := 0) (by kernel_rfl) rfl (Nat.le_of_ble_eq_true rfl)) ?_
     refine sS rfl rfl rfl (opS_indexAddr_arr_cp (k := 1) (m := 0) Tryz.underlying24 (by kernel_rfl) rfl rfl rfl (by decide) (Nat.le_of_ble_eq_true rfl)) ?_
     refine sS rfl rfl rfl (opS_load_cp Tryz.underlying23 rfl rfl) ?_
     refine sS rfl rfl rfl (mv rfl) ?_
     refine AR.run rfl rfl (AO.callp rfl en17_lcronsteps rfl (w_ref05_Has F x45.1 none y53 x59 e60) ?_)
     refine sS rfl rfl rfl (asg rfl) ?_
     refine AR.nil ?_
     show AW _ _ _ _ _ _
     refine AW.seq ?_
     obtain ⟨g63, H⟩ := grdc_s H
     obtain ⟨g64, H⟩ := grdc_s H
     obtain ⟨g66, H⟩ := grdc_s H
     refine AW.region ?_
     show AR _ _ _ _ _ [0, 1, 2, 3, 4, 5, 6, 7, 8, 9, 10, 11, 12, 13, 14, 15, 16, 17, 18, 19, 20, 21, 22, 23, 24, 25] _
     refine sS rfl rfl rfl (mv rfl) ?_
     refine sS rfl rfl rfl (mv rfl) ?_
     refine sS rfl rfl rfl (mv rfl) ?_
     refine sS rfl rfl rfl (opS_ge rfl rfl) ?_
     refine sS rfl rfl rfl (mv rfl) ?_
     refine AR.meet (l := [9, 10, 11, 12, 13, 14, 15, 16, 17, 18, 19, 20, 21, 22, 23, 24, 25]) 109 (B ((decide (a1 ≤ y53)) && (decide (y53 ≤ a2)))) (fun K => ?_) ?_
     ·rcases Bool.eq_false_or_eq_true (decide (a1 ≤ y53)) with h61 | h61
      ·
       refine gT h61 rfl rfl rfl rfl rfl rfl (AO.ops rfl rfl (mv rfl) ?_)
       refine gT h61 rfl rfl rfl rfl rfl rfl (AO.ops rfl rfl (mv rfl) ?_)
       refine gT h61 rfl rfl rfl rfl rfl rfl (AO.ops rfl rfl (opS_le rfl rfl) ?_)
       refine sS rfl rfl rfl (opS_pick_t (av := .v _) rfl h61 rfl) ?_
       exact K _ 3 _ (B_congr (and_t h61)) rfl rfl
      ·
       refine gF h61 rfl rfl rfl rfl rfl ?_
       refine gF h61 rfl rfl rfl rfl rfl ?_
       refine gF h61 rfl rfl rfl rfl rfl ?_
       refine sS rfl rfl rfl (opS_pick_f (av := .v _) rfl h61 rfl) ?_
       exact K _ 3 _ (B_congr (and_f h61)) rfl rfl
     refine sS rfl rfl rfl (mv rfl) ?_
     refine AR.meet (l := [17, 18, 19, 20, 21, 22, 23, 24, 25]) 117 (B (((decide (a1 ≤ y53)) && (decide (y53 ≤ a2))) && (decide ((y53 - a1) % a3 = 0)))) (fun K => ?_) ?_
     ·rcases Bool.eq_false_or_eq_true ((decide (a1 ≤ y53)) && (decide (y53 ≤ a2))) with h62 | h62
      ·
       refine gT h62 rfl rfl rfl rfl rfl rfl (AO.ops rfl rfl (mv rfl) ?_)
       refine gT h62 rfl rfl rfl rfl rfl rfl (AO.ops rfl rfl (mv rfl) ?_)
       refine gT h62 rfl rfl rfl rfl rfl rfl (AO.ops rfl rfl (g_sub rfl rfl (g63 h62)) ?_)
       refine gT h62 rfl rfl rfl rfl rfl rfl (AO.ops rfl rfl (mv rfl) ?_)
       refine gT h62 rfl rfl rfl rfl rfl rfl (AO.ops rfl rfl (g_rem rfl rfl (g64 h62)) ?_)
       refine gT h62 rfl rfl rfl rfl rfl rfl (AO.ops rfl rfl (opS_eqi rfl rfl) ?_)
       refine sS rfl rfl rfl (opS_pick_t (av := .v _) rfl h62 rfl) ?_
       exact K _ 6 _ (B_congr (and_t h62)) rfl rfl
      ·
       refine gF h62 rfl rfl rfl rfl rfl ?_
       refine gF h62 rfl rfl rfl rfl rfl ?_
       refine gF h62 rfl rfl rfl rfl rfl ?_
       refine gF h62 rfl rfl rfl rfl rfl ?_
       refine gF h62 rfl rfl rfl rfl rfl ?_
       refine gF h62 rfl rfl rfl rfl rfl ?_
       refine sS rfl rfl rfl (opS_pick_f (av := .v _) rfl h62 rfl) ?_
       exact K _ 6 _ (B_congr (and_f h62)) rfl rfl
     refine sS rfl rfl rfl (opS_neb Tryz.underlying4 rfl rfl) ?_
     refine sS rfl rfl rfl (mv rfl) ?_
     refine AR.meet (l := []) 126 (B ((!(x57 == (((decide (a1 ≤ y53)) && (decide (y53 ≤ a2))) && (decide ((y53 - a1) % a3 = 0))))) || (!(x59 == (decide (y53 % a3 = 0)))))) (fun K => ?_) ?_
     ·rcases Bool.eq_false_or_eq_true (!(x57 == (((decide (a1 ≤ y53)) && (decide (y53 ≤ a2))) && (decide ((y53 - a1) % a3 = 0))))) with h65 | h65
      ·
       refine gF h65 rfl rfl rfl rfl rfl ?_
       refine gF h65 rfl rfl rfl rfl rfl ?_
       refine gF h65 rfl rfl rfl rfl rfl ?_
       refine gF h65 rfl rfl rfl rfl rfl ?_
       refine gF h65 rfl rfl rfl rfl rfl ?_
       refine gF h65 rfl rfl rfl rfl rfl ?_
       refine sS rfl rfl rfl (opS_pick_t (av := .v _) rfl h65 rfl) ?_
       exact K _ 6 _ (B_congr (or_t h65)) rfl rfl
      ·
       refine gT h65 rfl rfl rfl rfl rfl rfl (AO.ops rfl rfl (mv rfl) ?_)
       refine gT h65 rfl rfl rfl rfl rfl rfl (AO.ops rfl rfl (mv rfl) ?_)
       refine gT h65 rfl rfl rfl rfl rfl rfl (AO.ops rfl rfl (mv rfl) ?_)
       refine gT h65 rfl rfl rfl rfl rfl rfl (AO.ops rfl rfl (g_rem rfl rfl (g66 (nf h65))) ?_)
       refine gT h65 rfl rfl rfl rfl rfl rfl (AO.ops rfl rfl (opS_eqi rfl rfl) ?_)
       refine gT h65 rfl rfl rfl rfl rfl rfl (AO.ops rfl rfl (opS_neb Tryz.underlying4 rfl rfl) ?_)
       refine sS rfl rfl rfl (opS_pick_f (av := .v _) rfl h65 rfl) ?_
       exact K _ 6 _ (B_congr (or_f h65)) rfl rfl
     refine AR.nil ?_
     show AW _ _ _ _ _ _
     refine AW.cond rfl (fun c67 => ?_) (fun c67 => ?_)
     ·replace H := cnd_t c67 H
      refine AW.seq ?_
      refine AW.region ?_
      show AR _ _ _ _ _ [0] _
      refine sS rfl rfl rfl (asg rfl) ?_
      refine AR.nil ?_
      show AW _ _ _ _ _ _
      refine AW.ret ?_
      obtain rfl := Option.some.inj H
      exact And.intro rfl (Exists.intro _ (Exists.intro _ ⟨ResV.oneW rfl (.refl _), Sub.at [] rfl, rfl, rfl⟩))
     ·replace H := cnd_f c67 H
      refine AW.skip ?_
      show AW _ _ _ _ _ _
      obtain ⟨g68, H⟩ := grd_s H
      refine AW.region ?_
      show AR _ _ _ _ _ [0, 1, 2] _
      refine sS rfl rfl rfl (mv rfl) ?_
      refine sS rfl rfl rfl (g_add rfl rfl g68) ?_
      refine sS rfl rfl rfl (asg rfl) ?_
      refine AR.nil ?_
      exact Exists.intro (n55, y53 + 1) ⟨H, Nat.lt_succ_self _, WK.at [] (.cons (.refl _) (.cons (.refl _) (.cons (.refl _) (.cons (.refl _) (.cons (.refl _) (.cons (.refl _) (.nil _))))))) rfl⟩
    ·replace H := cnd_f c56 H
     refine AW.exit ?_
     exact Exists.intro () ⟨H, WK.at [] (.nil _) rfl⟩
   rintro _ H
   replace H : law05_CronSteps_j1 = some r4 := H
   unfold law05_CronSteps_j1 at H
   show AW _ _ _ _ _ _
   refine AW.seq ?_
   refine AW.region ?_
   show AR _ _ _ _ _ [0] _
   refine sS rfl rfl rfl (asg rfl) ?_
   refine AR.nil ?_
   show AW _ _ _ _ _ _
   refine AW.ret ?_
   obtain rfl := Option.some.inj H
   exact And.intro rfl (Exists.intro _ (Exists.intro _ ⟨ResV.oneW rfl (.refl _), Sub.at [] rfl, rfl, rfl⟩))
end Go.Proofs.YtpbfajkbkomfcaaGreatDoor
