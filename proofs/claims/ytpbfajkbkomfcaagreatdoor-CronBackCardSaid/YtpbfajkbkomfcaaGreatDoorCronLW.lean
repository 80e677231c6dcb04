/-
  What the statements about schedules share: what is run is what the plain functions say. Printed by a program of ours.
-/
import Derived.Test.YtpbfajkbkomfcaaGreatDoorAvE
import Derived.Test.YtpbfajkbkomfcaaGreatDoorPvLib
import Derived.Test.YtpbfajkbkomfcaaGreatDoorP11Split
import Derived.Test.YtpbfajkbkomfcaaGreatDoorAvStill
import Derived.Test.YtpbfajkbkomfcaaGreatDoorChecked
import Derived.Test.YtpbfajkbkomfcaaGreatDoorCronBW
import Derived.Test.YtpbfajkbkomfcaaGreatDoorCronLP
set_option linter.unusedVariables false
set_option linter.unusedSimpArgs false
namespace Go.Proofs.YtpbfajkbkomfcaaGreatDoor
open Go.RowKit Go.Av Go.Pv
theorem en10_cronl : ∀ (args : Array Value) (w : World), (callFunc 10 args).run Tryz.prog w = .ok (.enter 10 args) w := fun _ _ => by kernel_rfl
theorem en16_cronl : ∀ (args : Array Value) (w : World), (callFunc 16 args).run Tryz.prog w = .ok (.enter 16 args) w := fun _ _ => by kernel_rfl
theorem en21_cronl : ∀ (args : Array Value) (w : World), (callFunc 21 args).run Tryz.prog w = .ok (.enter 21 args) w := fun _ _ => by kernel_rfl
theorem en22_cronl : ∀ (args : Array Value) (w : World), (callFunc 22 args).run Tryz.prog w = .ok (.enter 22 args) w := fun _ _ => by kernel_rfl
set_option maxRecDepth 100000 in
set_option maxHeartbeats 1000000 in
theorem w_law05_awake (F : Nat) (r1 : Bool) (H : law05_awake F = some r1) : ACalls Tryz.prog 9 [] [] (Ret (B r1) []) := by
 unfold law05_awake at H
 refine ACalls.of_body Tryz.func9 rfl rfl ?_
 show AW _ _ 52 _ _ _
 refine AW.seq ?_
 refine AW.region ?_
 show AR _ _ _ _ _ [0] _
 refine sS rfl rfl rfl (asg rfl) ?_
 refine AR.nil ?_
 show AW _ _ _ _ _ _
 refine AW.seq ?_
 obtain ⟨x2, e3, H⟩ := bnd_s H
 refine AW.region ?_
 show AR _ _ _ _ _ [0, 1, 2, 3, 4, 5, 6] _
 refine AR.run rfl rfl (AO.callp rfl en10_cronl rfl (w_cron_Parse F ([51, 48, 32, 54, 32, 42, 32, 42, 32, 109, 111, 110, 45, 102, 114, 105] : List UInt8) x2.1 x2.2.1 x2.2.2.1 x2.2.2.2.1 x2.2.2.2.2.1 x2.2.2.2.2.2.1 x2.2.2.2.2.2.2.1 x2.2.2.2.2.2.2.2.1 x2.2.2.2.2.2.2.2.2.1 x2.2.2.2.2.2.2.2.2.2.1 x2.2.2.2.2.2.2.2.2.2.2 e3) ?_)
 refine sS rfl rfl rfl (opS_move (av := .tup _) rfl) ?_
 refine sS rfl rfl rfl (opS_extract (av := .agg _) rfl rfl) ?_
 refine sS rfl rfl rfl (opS_extract (av := .v _) rfl rfl) ?_
 refine sX rfl rfl rfl (opX_alloc (zs := [.slice none 0 0, .slice none 0 0, .slice none 0 0, .slice none 0 0, .slice none 0 0, .bool false, .bool false, .bool false, .bool false, .bool false]) (by kernel_rfl)) ?_
 rintro _ _ ⟨o4, rfl, rfl⟩
 refine s0 rfl rfl (opR_store_agg (i := 0) (vs := [slE Enc.int x2.1 none, slE Enc.int x2.2.1 none, slE Enc.int x2.2.2.1 none, slE Enc.int x2.2.2.2.1 none, slE Enc.int x2.2.2.2.2.1 none, B x2.2.2.2.2.2.1, B x2.2.2.2.2.2.2.1, B x2.2.2.2.2.2.2.2.1, B x2.2.2.2.2.2.2.2.2.1, B x2.2.2.2.2.2.2.2.2.2.1]) (by kernel_rfl) rfl rfl (by simp [isCell, slE]) rfl (Nat.le_of_ble_eq_true rfl)) ?_
 refine AR.freezeCp 1 0 rfl rfl ?_
 show AR _ _ _ _ _ _ ⟨_, _, []⟩
 refine sS rfl rfl rfl (asg rfl) ?_
 refine AR.nil ?_
 show AW _ _ _ _ _ _
 refine AW.seq ?_
 obtain ⟨x5, e6, H⟩ := bnd_s H
 refine AW.region ?_
 show AR _ _ _ _ _ [0, 1, 2, 3, 4, 5, 6] _
 refine AR.run rfl rfl (AO.callp rfl en10_cronl rfl (w_cron_Parse F ([48, 32, 48, 32, 49, 51, 32, 42, 32, 53] : List UInt8) x5.1 x5.2.1 x5.2.2.1 x5.2.2.2.1 x5.2.2.2.2.1 x5.2.2.2.2.2.1 x5.2.2.2.2.2.2.1 x5.2.2.2.2.2.2.2.1 x5.2.2.2.2.2.2.2.2.1 x5.2.2.2.2.2.2.2.2.2.1 x5.2.2.2.2.2.2.2.2.2.2 e6) ?_)
 refine sS rfl rfl rfl (opS_move (av := .tup _) rfl) ?_
 refine sS rfl rfl rfl (opS_extract (av := .agg _) rfl rfl) ?_
 refine sS rfl rfl rfl (opS_extract (av := .v _) rfl rfl) ?_
 refine sX rfl rfl rfl (opX_alloc (zs := [.slice none 0 0, .slice none 0 0, .slice none 0 0, .slice none 0 0, .slice none 0 0, .bool false, .bool false, .bool false, .bool false, .bool false]) (by kernel_rfl)) ?_
 rintro _ _ ⟨o7, rfl, rfl⟩
 refine s0 rfl rfl (opR_store_agg (i := 0) (vs := [slE Enc.int x5.1 none, slE Enc.int x5.2.1 none, slE Enc.int x5.2.2.1 none, slE Enc.int x5.2.2.2.1 none, slE Enc.int x5.2.2.2.2.1 none, B x5.2.2.2.2.2.1, B x5.2.2.2.2.2.2.1, B x5.2.2.2.2.2.2.2.1, B x5.2.2.2.2.2.2.2.2.1, B x5.2.2.2.2.2.2.2.2.2.1]) (by kernel_rfl) rfl rfl (by simp [isCell, slE]) rfl (Nat.le_of_ble_eq_true rfl)) ?_
 refine AR.freezeCp 3 0 rfl rfl ?_
 show AR _ _ _ _ _ _ ⟨_, _, []⟩
 refine sS rfl rfl rfl (asg rfl) ?_
 refine AR.nil ?_
 show AW _ _ _ _ _ _
 refine AW.seq ?_
 obtain ⟨x8, x9, e10, H⟩ := bnd2_s H
 refine AW.region ?_
 show AR _ _ _ _ _ [0, 1, 2, 3, 4, 5, 6] _
 refine sS rfl rfl rfl (opS_load_cp_agg Tryz.underlying27 rfl (n := 10) (by kernel_rfl) rfl (Nat.le_of_ble_eq_true rfl)) ?_
 refine AR.run rfl rfl (AO.callp rfl en22_cronl rfl (w_cron_Write F x2.1 x2.2.1 x2.2.2.1 x2.2.2.2.1 x2.2.2.2.2.1 x2.2.2.2.2.2.1 x2.2.2.2.2.2.2.1 x2.2.2.2.2.2.2.2.1 x2.2.2.2.2.2.2.2.2.1 x2.2.2.2.2.2.2.2.2.2.1 x8 x9 e10) ?_)
 refine sS rfl rfl rfl (opS_move (av := .tup _) rfl) ?_
 refine sS rfl rfl rfl (opS_extract (av := .v _) rfl rfl) ?_
 refine sS rfl rfl rfl (opS_extract (av := .v _) rfl rfl) ?_
 refine sS rfl rfl rfl (asg rfl) ?_
 refine sS rfl rfl rfl (asg rfl) ?_
 refine AR.nil ?_
 show AW _ _ _ _ _ _
 refine AW.seq ?_
 obtain ⟨x15, e16, H⟩ := bndc_s H
 obtain ⟨x18, e19, H⟩ := bndc_s H
 obtain ⟨x21, e22, H⟩ := bndc_s H
 obtain ⟨x24, e25, H⟩ := bndc_s H
 refine AW.region ?_
 show AR _ _ _ _ _ [0, 1, 2, 3, 4, 5, 6, 7, 8, 9, 10, 11, 12, 13, 14, 15, 16, 17, 18, 19, 20, 21, 22, 23, 24, 25, 26, 27, 28, 29, 30, 31, 32] _
 refine sS rfl rfl rfl (mv rfl) ?_
 refine sS rfl rfl rfl (opS_eqi rfl rfl) ?_
 refine sS rfl rfl rfl (mv rfl) ?_
 refine AR.meet (l := [6, 7, 8, 9, 10, 11, 12, 13, 14, 15, 16, 17, 18, 19, 20, 21, 22, 23, 24, 25, 26, 27, 28, 29, 30, 31, 32]) 25 (B ((decide (x2.2.2.2.2.2.2.2.2.2.2 = 0)) && (decide (x5.2.2.2.2.2.2.2.2.2.2 = 0)))) (fun K => ?_) ?_
 ·rcases Bool.eq_false_or_eq_true (decide (x2.2.2.2.2.2.2.2.2.2.2 = 0)) with h11 | h11
  ·
   refine gT h11 rfl rfl rfl rfl rfl rfl (AO.ops rfl rfl (mv rfl) ?_)
   refine gT h11 rfl rfl rfl rfl rfl rfl (AO.ops rfl rfl (opS_eqi rfl rfl) ?_)
   refine sS rfl rfl rfl (opS_pick_t (av := .v _) rfl h11 rfl) ?_
   exact K _ 2 _ (B_congr (and_t h11)) rfl rfl
  ·
   refine gF h11 rfl rfl rfl rfl rfl ?_
   refine gF h11 rfl rfl rfl rfl rfl ?_
   refine sS rfl rfl rfl (opS_pick_f (av := .v _) rfl h11 rfl) ?_
   exact K _ 2 _ (B_congr (and_f h11)) rfl rfl
 refine sS rfl rfl rfl (mv rfl) ?_
 refine AR.meet (l := [10, 11, 12, 13, 14, 15, 16, 17, 18, 19, 20, 21, 22, 23, 24, 25, 26, 27, 28, 29, 30, 31, 32]) 29 (B (((decide (x2.2.2.2.2.2.2.2.2.2.2 = 0)) && (decide (x5.2.2.2.2.2.2.2.2.2.2 = 0))) && (decide (x9 = 0)))) (fun K => ?_) ?_
 ·rcases Bool.eq_false_or_eq_true ((decide (x2.2.2.2.2.2.2.2.2.2.2 = 0)) && (decide (x5.2.2.2.2.2.2.2.2.2.2 = 0))) with h12 | h12
  ·
   refine gT h12 rfl rfl rfl rfl rfl rfl (AO.ops rfl rfl (mv rfl) ?_)
   refine gT h12 rfl rfl rfl rfl rfl rfl (AO.ops rfl rfl (opS_eqi rfl rfl) ?_)
   refine sS rfl rfl rfl (opS_pick_t (av := .v _) rfl h12 rfl) ?_
   exact K _ 2 _ (B_congr (and_t h12)) rfl rfl
  ·
   refine gF h12 rfl rfl rfl rfl rfl ?_
   refine gF h12 rfl rfl rfl rfl rfl ?_
   refine sS rfl rfl rfl (opS_pick_f (av := .v _) rfl h12 rfl) ?_
   exact K _ 2 _ (B_congr (and_f h12)) rfl rfl
 refine sS rfl rfl rfl (mv rfl) ?_
 refine AR.meet (l := [14, 15, 16, 17, 18, 19, 20, 21, 22, 23, 24, 25, 26, 27, 28, 29, 30, 31, 32]) 33 (B ((((decide (x2.2.2.2.2.2.2.2.2.2.2 = 0)) && (decide (x5.2.2.2.2.2.2.2.2.2.2 = 0))) && (decide (x9 = 0))) && (decide (x8 = cronl_k1)))) (fun K => ?_) ?_
 ·rcases Bool.eq_false_or_eq_true (((decide (x2.2.2.2.2.2.2.2.2.2.2 = 0)) && (decide (x5.2.2.2.2.2.2.2.2.2.2 = 0))) && (decide (x9 = 0))) with h13 | h13
  ·
   refine gT h13 rfl rfl rfl rfl rfl rfl (AO.ops rfl rfl (mv rfl) ?_)
   refine gT h13 rfl rfl rfl rfl rfl rfl (AO.ops rfl rfl (opS_eqs rfl rfl) ?_)
   refine sS rfl rfl rfl (opS_pick_t (av := .v _) rfl h13 rfl) ?_
   exact K _ 2 _ (B_congr (and_t h13)) rfl rfl
  ·
   refine gF h13 rfl rfl rfl rfl rfl ?_
   refine gF h13 rfl rfl rfl rfl rfl ?_
   refine sS rfl rfl rfl (opS_pick_f (av := .v _) rfl h13 rfl) ?_
   exact K _ 2 _ (B_congr (and_f h13)) rfl rfl
 refine sS rfl rfl rfl (mv rfl) ?_
 refine AR.meet (l := [19, 20, 21, 22, 23, 24, 25, 26, 27, 28, 29, 30, 31, 32]) 38 (B (((((decide (x2.2.2.2.2.2.2.2.2.2.2 = 0)) && (decide (x5.2.2.2.2.2.2.2.2.2.2 = 0))) && (decide (x9 = 0))) && (decide (x8 = cronl_k1))) && x15)) (fun K => ?_) ?_
 ·rcases Bool.eq_false_or_eq_true ((((decide (x2.2.2.2.2.2.2.2.2.2.2 = 0)) && (decide (x5.2.2.2.2.2.2.2.2.2.2 = 0))) && (decide (x9 = 0))) && (decide (x8 = cronl_k1))) with h14 | h14
  ·
   refine gT h14 rfl rfl rfl rfl rfl rfl (AO.ops rfl rfl (opS_load_cp_agg Tryz.underlying27 rfl (n := 10) (by kernel_rfl) rfl (Nat.le_of_ble_eq_true rfl)) ?_)
   refine gT h14 rfl rfl rfl rfl rfl rfl (AO.ops rfl rfl (g_build (zs := [.int .i64 0, .int .i64 0, .int .i64 0, .int .i64 0, .int .i64 0, .int .i64 0]) (ps := [(0, 1), (1, 1), (2, 1), (3, 1), (4, 1), (5, 1)]) (cs := [i64 2024, i64 5, i64 6, i64 6, i64 30, i64 0]) (by kernel_rfl) rfl rfl) ?_)
   refine gT h14 rfl rfl rfl rfl rfl rfl (AO.callp rfl en21_cronl rfl (w_cron_Match F x2.1 x2.2.1 x2.2.2.1 x2.2.2.2.1 x2.2.2.2.2.1 x2.2.2.2.2.2.1 x2.2.2.2.2.2.2.1 x2.2.2.2.2.2.2.2.1 x2.2.2.2.2.2.2.2.2.1 x2.2.2.2.2.2.2.2.2.2.1 2024 5 6 6 30 0 x15 (e16 h14)) ?_)
   refine sS rfl rfl rfl (opS_pick_t (av := .v _) rfl h14 rfl) ?_
   exact K _ 3 _ (B_congr (and_t h14)) rfl rfl
  ·
   refine gF h14 rfl rfl rfl rfl rfl ?_
   refine gF h14 rfl rfl rfl rfl rfl ?_
   refine gF h14 rfl rfl rfl rfl rfl ?_
   refine sS rfl rfl rfl (opS_pick_f (av := .v _) rfl h14 rfl) ?_
   exact K _ 3 _ (B_congr (and_f h14)) rfl rfl
 refine sS rfl rfl rfl (mv rfl) ?_
 refine AR.meet (l := [23, 24, 25, 26, 27, 28, 29, 30, 31, 32]) 42 (B ((((((decide (x2.2.2.2.2.2.2.2.2.2.2 = 0)) && (decide (x5.2.2.2.2.2.2.2.2.2.2 = 0))) && (decide (x9 = 0))) && (decide (x8 = cronl_k1))) && x15) && x18)) (fun K => ?_) ?_
 ·rcases Bool.eq_false_or_eq_true (((((decide (x2.2.2.2.2.2.2.2.2.2.2 = 0)) && (decide (x5.2.2.2.2.2.2.2.2.2.2 = 0))) && (decide (x9 = 0))) && (decide (x8 = cronl_k1))) && x15) with h17 | h17
  ·
   refine gT h17 rfl rfl rfl rfl rfl rfl (AO.ops rfl rfl (opS_load_cp_agg Tryz.underlying27 rfl (n := 10) (by kernel_rfl) rfl (Nat.le_of_ble_eq_true rfl)) ?_)
   refine gT h17 rfl rfl rfl rfl rfl rfl (AO.callp rfl en16_cronl rfl (w_cron_Day F x5.1 x5.2.1 x5.2.2.1 x5.2.2.2.1 x5.2.2.2.2.1 x5.2.2.2.2.2.1 x5.2.2.2.2.2.2.1 x5.2.2.2.2.2.2.2.1 x5.2.2.2.2.2.2.2.2.1 x5.2.2.2.2.2.2.2.2.2.1 2024 5 10 x18 (e19 h17)) ?_)
   refine sS rfl rfl rfl (opS_pick_t (av := .v _) rfl h17 rfl) ?_
   exact K _ 2 _ (B_congr (and_t h17)) rfl rfl
  ·
   refine gF h17 rfl rfl rfl rfl rfl ?_
   refine gF h17 rfl rfl rfl rfl rfl ?_
   refine sS rfl rfl rfl (opS_pick_f (av := .v _) rfl h17 rfl) ?_
   exact K _ 2 _ (B_congr (and_f h17)) rfl rfl
 refine sS rfl rfl rfl (mv rfl) ?_
 refine AR.meet (l := [27, 28, 29, 30, 31, 32]) 46 (B (((((((decide (x2.2.2.2.2.2.2.2.2.2.2 = 0)) && (decide (x5.2.2.2.2.2.2.2.2.2.2 = 0))) && (decide (x9 = 0))) && (decide (x8 = cronl_k1))) && x15) && x18) && x21)) (fun K => ?_) ?_
 ·rcases Bool.eq_false_or_eq_true ((((((decide (x2.2.2.2.2.2.2.2.2.2.2 = 0)) && (decide (x5.2.2.2.2.2.2.2.2.2.2 = 0))) && (decide (x9 = 0))) && (decide (x8 = cronl_k1))) && x15) && x18) with h20 | h20
  ·
   refine gT h20 rfl rfl rfl rfl rfl rfl (AO.ops rfl rfl (opS_load_cp_agg Tryz.underlying27 rfl (n := 10) (by kernel_rfl) rfl (Nat.le_of_ble_eq_true rfl)) ?_)
   refine gT h20 rfl rfl rfl rfl rfl rfl (AO.callp rfl en16_cronl rfl (w_cron_Day F x5.1 x5.2.1 x5.2.2.1 x5.2.2.2.1 x5.2.2.2.2.1 x5.2.2.2.2.2.1 x5.2.2.2.2.2.2.1 x5.2.2.2.2.2.2.2.1 x5.2.2.2.2.2.2.2.2.1 x5.2.2.2.2.2.2.2.2.2.1 2024 5 13 x21 (e22 h20)) ?_)
   refine sS rfl rfl rfl (opS_pick_t (av := .v _) rfl h20 rfl) ?_
   exact K _ 2 _ (B_congr (and_t h20)) rfl rfl
  ·
   refine gF h20 rfl rfl rfl rfl rfl ?_
   refine gF h20 rfl rfl rfl rfl rfl ?_
   refine sS rfl rfl rfl (opS_pick_f (av := .v _) rfl h20 rfl) ?_
   exact K _ 2 _ (B_congr (and_f h20)) rfl rfl
 refine sS rfl rfl rfl (mv rfl) ?_
 refine AR.meet (l := [32]) 51 (B ((((((((decide (x2.2.2.2.2.2.2.2.2.2.2 = 0)) && (decide (x5.2.2.2.2.2.2.2.2.2.2 = 0))) && (decide (x9 = 0))) && (decide (x8 = cronl_k1))) && x15) && x18) && x21) && (!x24))) (fun K => ?_) ?_
 ·rcases Bool.eq_false_or_eq_true (((((((decide (x2.2.2.2.2.2.2.2.2.2.2 = 0)) && (decide (x5.2.2.2.2.2.2.2.2.2.2 = 0))) && (decide (x9 = 0))) && (decide (x8 = cronl_k1))) && x15) && x18) && x21) with h23 | h23
  ·
   refine gT h23 rfl rfl rfl rfl rfl rfl (AO.ops rfl rfl (opS_load_cp_agg Tryz.underlying27 rfl (n := 10) (by kernel_rfl) rfl (Nat.le_of_ble_eq_true rfl)) ?_)
   refine gT h23 rfl rfl rfl rfl rfl rfl (AO.callp rfl en16_cronl rfl (w_cron_Day F x5.1 x5.2.1 x5.2.2.1 x5.2.2.2.1 x5.2.2.2.2.1 x5.2.2.2.2.2.1 x5.2.2.2.2.2.2.1 x5.2.2.2.2.2.2.2.1 x5.2.2.2.2.2.2.2.2.1 x5.2.2.2.2.2.2.2.2.2.1 2024 5 14 x24 (e25 h23)) ?_)
   refine gT h23 rfl rfl rfl rfl rfl rfl (AO.ops rfl rfl (opS_not rfl) ?_)
   refine sS rfl rfl rfl (opS_pick_t (av := .v _) rfl h23 rfl) ?_
   exact K _ 3 _ (B_congr (and_t h23)) rfl rfl
  ·
   refine gF h23 rfl rfl rfl rfl rfl ?_
   refine gF h23 rfl rfl rfl rfl rfl ?_
   refine gF h23 rfl rfl rfl rfl rfl ?_
   refine sS rfl rfl rfl (opS_pick_f (av := .v _) rfl h23 rfl) ?_
   exact K _ 3 _ (B_congr (and_f h23)) rfl rfl
 refine sS rfl rfl rfl (asg rfl) ?_
 refine AR.nil ?_
 show AW _ _ _ _ _ _
 refine AW.ret ?_
 obtain rfl := Option.some.inj H
 exact And.intro rfl (Exists.intro _ (Exists.intro _ ⟨ResV.oneW rfl (.refl _), Sub.at [] rfl, rfl, rfl⟩))
set_option maxRecDepth 100000 in
set_option maxHeartbeats 1000000 in
theorem w_law05_Few (F : Nat) (a1 : List Int) (a2 : List Int) (a3 : List Int) (a4 : List Int) (a5 : List Int) (a6 : Bool) (a7 : Bool) (a8 : Bool) (a9 : Bool) (a10 : Bool) (r11 : Bool) (H : law05_Few F a1 a2 a3 a4 a5 a6 a7 a8 a9 a10 = some r11) : ACalls Tryz.prog 13 [.agg [slE Enc.int a1 none, slE Enc.int a2 none, slE Enc.int a3 none, slE Enc.int a4 none, slE Enc.int a5 none, B a6, B a7, B a8, B a9, B a10]] [] (Ret (B r11) []) := by
 unfold law05_Few at H
 refine ACalls.of_body Tryz.func13 rfl rfl ?_
 show AW _ _ 14 _ _ _
 refine AW.seq ?_
 refine AW.region ?_
 show AR _ _ _ _ _ [0, 1] _
 refine sR rfl rfl rfl (opR_boxCp rfl (.inr ⟨_, rfl⟩)) ?_
 refine sS rfl rfl rfl (asg rfl) ?_
 refine AR.nil ?_
 show AW _ _ _ _ _ _
 refine AW.cut (X := Unit) (fun _ => ⟨[], [], []⟩) (fun _ => law05_Few_j1 = some r11) ?_ ?_
 ·
  refine AW.seq ?_
  refine AW.region ?_
  show AR _ _ _ _ _ [0] _
  refine sS rfl rfl rfl (asg rfl) ?_
  refine AR.nil ?_
  show AW _ _ _ _ _ _
  refine AW.block ?_
  refine AW.loop (X := Nat × Int) (fun (n14, y12) => ⟨[(1, .cp [slE Enc.int a1 none, slE Enc.int a2 none, slE Enc.int a3 none, slE Enc.int a4 none, slE Enc.int a5 none, B a6, B a7, B a8, B a9, B a10]), (3, i64 y12)], [], []⟩) (fun (n14, y12) => law05_Few_L1 a1 a2 a3 a4 a5 n14 y12 = some r11) (fun (n14, y12) => n14) (F, 0) H (WK.at [] (.cons (.refl _) (.cons (.refl _) (.nil _))) rfl) ?_
  rintro ⟨n14, y12⟩ H
  obtain ⟨n14, rfl, H⟩ := loop_s H
  replace H : law05_Few_B1 a1 a2 a3 a4 a5 (law05_Few_L1 a1 a2 a3 a4 a5 n14) y12 = some r11 := H
  unfold law05_Few_B1 at H
  show AW _ _ _ _ _ _
  refine AW.seq ?_
  refine AW.seq ?_
  refine AW.region ?_
  show AR _ _ _ _ _ [0, 1] _
  refine sS rfl rfl rfl (mv rfl) ?_
  refine sS rfl rfl rfl (opS_lt rfl rfl) ?_
  refine AR.nil ?_
  show AW _ _ _ _ _ _
  refine AW.cond rfl (fun c15 => ?_) (fun c15 => ?_)
  ·replace H := cnd_t c15 H
   refine AW.skip ?_
   show AW _ _ _ _ _ _
   refine AW.seq ?_
   refine AW.block ?_
   refine AW.seq ?_
   obtain ⟨g16, H⟩ := grd_s H
   obtain ⟨x17, e18, H⟩ := lt_s H
   refine AW.region ?_
   show AR _ _ _ _ _ [0, 1, 2, 3, 4, 5] _
   refine sS rfl rfl rfl (mv rfl) ?_
   refine sS rfl rfl rfl (opS_fieldAddr_cp (n := 0) (by kernel_rfl) rfl (Nat.le_of_ble_eq_true rfl)) ?_
   refine sS rfl rfl rfl (opS_indexAddr_arrv_cp (E := (Enc.sl Enc.int)) (l := ([a1, a2, a3, a4, a5] : List (List Int))) (post := [B a6, B a7, B a8, B a9, B a10]) rfl Tryz.underlying24 (by kernel_rfl) rfl rfl rfl g16 e18 rfl) ?_
   refine sS rfl rfl rfl (opS_load_cp Tryz.underlying23 rfl rfl) ?_
   refine sS rfl rfl rfl (opS_len_sl Tryz.underlying23 rfl) ?_
   refine sS rfl rfl rfl (opS_gt rfl rfl) ?_
   refine AR.nil ?_
   show AW _ _ _ _ _ _
   refine AW.cond rfl (fun c19 => ?_) (fun c19 => ?_)
   ·replace H := cnd_t c19 H
    refine AW.seq ?_
    refine AW.region ?_
    show AR _ _ _ _ _ [0] _
    refine sS rfl rfl rfl (asg rfl) ?_
    refine AR.nil ?_
    show AW _ _ _ _ _ _
    refine AW.ret ?_
    obtain rfl := Option.some.inj H
    exact And.intro rfl (Exists.intro _ (Exists.intro _ ⟨ResV.oneW rfl (.refl _), Sub.at [] rfl, rfl, rfl⟩))
   ·replace H := cnd_f c19 H
    refine AW.skip ?_
    show AW _ _ _ _ _ _
    obtain ⟨g20, H⟩ := grd_s H
    refine AW.region ?_
    show AR _ _ _ _ _ [0, 1, 2] _
    refine sS rfl rfl rfl (mv rfl) ?_
    refine sS rfl rfl rfl (g_add rfl rfl g20) ?_
    refine sS rfl rfl rfl (asg rfl) ?_
    refine AR.nil ?_
    exact Exists.intro (n14, y12 + 1) ⟨H, Nat.lt_succ_self _, WK.at [] (.cons (.refl _) (.cons (.refl _) (.nil _))) rfl⟩
  ·replace H := cnd_f c15 H
   refine AW.exit ?_
   exact Exists.intro () ⟨H, WK.at [] (.nil _) rfl⟩
 rintro _ H
 replace H : law05_Few_j1 = some r11 := H
 unfold law05_Few_j1 at H
 show AW _ _ _ _ _ _
 refine AW.seq ?_
 refine AW.region ?_
 show AR _ _ _ _ _ [0] _
 refine sS rfl rfl rfl (asg rfl) ?_
 refine AR.nil ?_
 show AW _ _ _ _ _ _
 refine AW.ret ?_
 obtain rfl := Option.some.inj H
 exact And.intro rfl (Exists.intro _ (Exists.intro _ ⟨ResV.oneW rfl (.refl _), Sub.at [] rfl, rfl, rfl⟩))
set_option maxRecDepth 100000 in
set_option maxHeartbeats 1000000 in
theorem w_law05_digits (F : Nat) (a1 : Int) (r2 : List UInt8) (H : law05_digits F a1 = some r2) : ACalls Tryz.prog 19 [i64 a1] [] (Ret (S r2) []) := by
 unfold law05_digits at H
 refine ACalls.of_body Tryz.func19 rfl rfl ?_
 show AW _ _ 26 _ _ _
 refine AW.seq ?_
 refine AW.region ?_
 show AR _ _ _ _ _ [0] _
 refine sS rfl rfl rfl (asg rfl) ?_
 refine AR.nil ?_
 show AW _ _ _ _ _ _
 refine AW.seq ?_
 refine AW.region ?_
 show AR _ _ _ _ _ [0] _
 refine sS rfl rfl rfl (asg rfl) ?_
 refine AR.nil ?_
 show AW _ _ _ _ _ _
 refine AW.seq ?_
 refine AW.seq ?_
 refine AW.region ?_
 show AR _ _ _ _ _ [0, 1] _
 refine sS rfl rfl rfl (mv rfl) ?_
 refine sS rfl rfl rfl (opS_lt rfl rfl) ?_
 refine AR.nil ?_
 show AW _ _ _ _ _ _
 refine AW.cond rfl (fun c3 => ?_) (fun c3 => ?_)
 ·replace H := cnd_t c3 H
  refine AW.seq ?_
  obtain ⟨g4, H⟩ := grd_s H
  obtain ⟨g5, H⟩ := grd_s H
  obtain ⟨x6, e7, H⟩ := lt_s H
  refine AW.region ?_
  show AR _ _ _ _ _ [0, 1, 2, 3, 4, 5] _
  refine sS rfl rfl rfl (mv rfl) ?_
  refine sS rfl rfl rfl (mv rfl) ?_
  refine sS rfl rfl rfl (mv rfl) ?_
  refine sS rfl rfl rfl (g_add rfl rfl g4) ?_
  refine sS rfl rfl rfl (g_slice_str Tryz.underlying9 rfl rfl rfl g5 e7) ?_
  refine sS rfl rfl rfl (asg rfl) ?_
  refine AR.nil ?_
  show AW _ _ _ _ _ _
  refine AW.ret ?_
  obtain rfl := Option.some.inj H
  exact And.intro rfl (Exists.intro _ (Exists.intro _ ⟨ResV.oneW rfl (.refl _), Sub.at [] rfl, rfl, rfl⟩))
 ·replace H := cnd_f c3 H
  refine AW.skip ?_
  show AW _ _ _ _ _ _
  refine AW.seq ?_
  obtain ⟨g8, H⟩ := grd_s H
  obtain ⟨g9, H⟩ := grd_s H
  obtain ⟨g10, H⟩ := grd_s H
  obtain ⟨g11, H⟩ := grd_s H
  obtain ⟨x12, e13, H⟩ := lt_s H
  obtain ⟨g14, H⟩ := grd_s H
  obtain ⟨g15, H⟩ := grd_s H
  obtain ⟨g16, H⟩ := grd_s H
  obtain ⟨g17, H⟩ := grd_s H
  obtain ⟨x18, e19, H⟩ := lt_s H
  obtain ⟨g20, H⟩ := grd_s H
  obtain ⟨x21, e22, H⟩ := lt_s H
  refine AW.region_draw (by kernel_rfl) ?_
  show AI _ _ _ _ 16 (Array.replicate 16 false) _
  refine AI.take (i := 0) rfl rfl (by kernel_rfl) (by kernel_rfl) (by kernel_rfl) (fun _ _ h => h) (mv rfl) ?_
  show AI _ _ _ _ _ #[true, false, false, false, false, false, false, false, false, false, false, false, false, false, false, false] _
  refine AI.take (i := 1) rfl rfl (by kernel_rfl) (by kernel_rfl) (by kernel_rfl) (fun _ _ h => h) (mv rfl) ?_
  show AI _ _ _ _ _ #[true, true, false, false, false, false, false, false, false, false, false, false, false, false, false, false] _
  refine AI.take (i := 2) rfl rfl (by kernel_rfl) (by kernel_rfl) (by kernel_rfl) (fun _ _ h => h) (g_quo rfl rfl g8) ?_
  show AI _ _ _ _ _ #[true, true, true, false, false, false, false, false, false, false, false, false, false, false, false, false] _
  refine AI.take (i := 3) rfl rfl (by kernel_rfl) (by kernel_rfl) (by kernel_rfl) (fun _ _ h => h) (mv rfl) ?_
  show AI _ _ _ _ _ #[true, true, true, true, false, false, false, false, false, false, false, false, false, false, false, false] _
  refine AI.take (i := 4) rfl rfl (by kernel_rfl) (by kernel_rfl) (by kernel_rfl) (fun _ _ h => h) (g_quo rfl rfl g9) ?_
  show AI _ _ _ _ _ #[true, true, true, true, true, false, false, false, false, false, false, false, false, false, false, false] _
  refine AI.take (i := 5) rfl rfl (by kernel_rfl) (by kernel_rfl) (by kernel_rfl) (fun _ _ h => h) (g_add rfl rfl g10) ?_
  show AI _ _ _ _ _ #[true, true, true, true, true, true, false, false, false, false, false, false, false, false, false, false] _
  refine AI.take (i := 6) rfl rfl (by kernel_rfl) (by kernel_rfl) (by kernel_rfl) (fun _ _ h => h) (g_slice_str Tryz.underlying9 rfl rfl rfl g11 e13) ?_
  show AI _ _ _ _ _ #[true, true, true, true, true, true, true, false, false, false, false, false, false, false, false, false] _
  refine AI.take (i := 7) rfl rfl (by kernel_rfl) (by kernel_rfl) (by kernel_rfl) (fun _ _ h => h) (mv rfl) ?_
  show AI _ _ _ _ _ #[true, true, true, true, true, true, true, true, false, false, false, false, false, false, false, false] _
  refine AI.take (i := 8) rfl rfl (by kernel_rfl) (by kernel_rfl) (by kernel_rfl) (fun _ _ h => h) (mv rfl) ?_
  show AI _ _ _ _ _ #[true, true, true, true, true, true, true, true, true, false, false, false, false, false, false, false] _
  refine AI.take (i := 9) rfl rfl (by kernel_rfl) (by kernel_rfl) (by kernel_rfl) (fun _ _ h => h) (g_rem rfl rfl g14) ?_
  show AI _ _ _ _ _ #[true, true, true, true, true, true, true, true, true, true, false, false, false, false, false, false] _
  refine AI.take (i := 10) rfl rfl (by kernel_rfl) (by kernel_rfl) (by kernel_rfl) (fun _ _ h => h) (mv rfl) ?_
  show AI _ _ _ _ _ #[true, true, true, true, true, true, true, true, true, true, true, false, false, false, false, false] _
  refine AI.take (i := 11) rfl rfl (by kernel_rfl) (by kernel_rfl) (by kernel_rfl) (fun _ _ h => h) (g_rem rfl rfl g15) ?_
  show AI _ _ _ _ _ #[true, true, true, true, true, true, true, true, true, true, true, true, false, false, false, false] _
  refine AI.take (i := 12) rfl rfl (by kernel_rfl) (by kernel_rfl) (by kernel_rfl) (fun _ _ h => h) (g_add rfl rfl g16) ?_
  show AI _ _ _ _ _ #[true, true, true, true, true, true, true, true, true, true, true, true, true, false, false, false] _
  refine AI.take (i := 13) rfl rfl (by kernel_rfl) (by kernel_rfl) (by kernel_rfl) (fun _ _ h => h) (g_slice_str Tryz.underlying9 rfl rfl rfl g17 e19) ?_
  show AI _ _ _ _ _ #[true, true, true, true, true, true, true, true, true, true, true, true, true, true, false, false] _
  refine AI.take (i := 14) rfl rfl (by kernel_rfl) (by kernel_rfl) (by kernel_rfl) (fun _ _ h => h) (g_cat rfl rfl g20 e22) ?_
  show AI _ _ _ _ _ #[true, true, true, true, true, true, true, true, true, true, true, true, true, true, true, false] _
  refine AI.take (i := 15) rfl rfl (by kernel_rfl) (by kernel_rfl) (by kernel_rfl) (fun _ _ h => h) (asg rfl) ?_
  show AI _ _ _ _ _ #[true, true, true, true, true, true, true, true, true, true, true, true, true, true, true, true] _
  refine AI.done rfl ?_
  show AW _ _ _ _ _ _
  refine AW.ret ?_
  obtain rfl := Option.some.inj H
  exact And.intro rfl (Exists.intro _ (Exists.intro _ ⟨ResV.oneW rfl (.refl _), Sub.at [] rfl, rfl, rfl⟩))
end Go.Proofs.YtpbfajkbkomfcaaGreatDoor
