/-
  What the statements about schedules share: what is run is what the plain functions say. Printed by a program of ours.
-/
import Derived.Test.YtpbfajkbkomfcaaDoorAvE
import Derived.Test.YtpbfajkbkomfcaaDoorPvLib
import Derived.Test.YtpbfajkbkomfcaaDoorP11Split
import Derived.Test.YtpbfajkbkomfcaaDoorAvStill
import Derived.Test.YtpbfajkbkomfcaaDoorChecked
import Derived.Test.YtpbfajkbkomfcaaDoorCronBW
import Derived.Test.YtpbfajkbkomfcaaDoorCronLP
set_option linter.unusedVariables false
set_option linter.unusedSimpArgs false
namespace Go.Proofs.YtpbfajkbkomfcaaDoor
open Go.RowKit Go.Av Go.Pv
theorem en5_cronl : ∀ (args : Array Value) (w : World), (callFunc 5 args).run Tryd.prog w = .ok (.enter 5 args) w := fun _ _ => by kernel_rfl
theorem en6_cronl : ∀ (args : Array Value) (w : World), (callFunc 6 args).run Tryd.prog w = .ok (.enter 6 args) w := fun _ _ => by kernel_rfl
theorem en7_cronl : ∀ (args : Array Value) (w : World), (callFunc 7 args).run Tryd.prog w = .ok (.enter 7 args) w := fun _ _ => by kernel_rfl
theorem en8_cronl : ∀ (args : Array Value) (w : World), (callFunc 8 args).run Tryd.prog w = .ok (.enter 8 args) w := fun _ _ => by kernel_rfl
set_option maxRecDepth 100000 in
set_option maxHeartbeats 1000000 in
theorem w_law05_awake (F : Nat) (r1 : Bool) (H : law05_awake F = some r1) : ACalls Tryd.prog 4 [] [] (Ret (B r1) []) := by
 unfold law05_awake at H
 refine ACalls.of_body Tryd.func4 rfl rfl ?_
 show AW _ _ 52 _ _ _
 refine AW.seq ?_
 refine AW.region ?_
 show AR _ _ _ _ _ [0] _
 refine sS rfl rfl rfl (asg rfl) ?_
 refine AR.nil ?_
 show AW _ _ _ _ _ _
 refine AW.seq ?_
 obtain ⟨x2, e3, H⟩ := bnd_s H
 refine AW.region ?_
 show AR _ _ _ _ _ [0, 1, 2, 3, 4, 5, 6] _
 refine AR.run rfl rfl (AO.callp rfl en5_cronl rfl (w_cron_Parse F ([51, 48, 32, 54, 32, 42, 32, 42, 32, 109, 111, 110, 45, 102, 114, 105] : List UInt8) x2.1 x2.2.1 x2.2.2.1 x2.2.2.2.1 x2.2.2.2.2.1 x2.2.2.2.2.2.1 x2.2.2.2.2.2.2.1 x2.2.2.2.2.2.2.2.1 x2.2.2.2.2.2.2.2.2.1 x2.2.2.2.2.2.2.2.2.2.1 x2.2.2.2.2.2.2.2.2.2.2 e3) ?_)
 refine sS rfl rfl rfl (opS_move (av := .tup _) rfl) ?_
 refine sS rfl rfl rfl (opS_extract (av := .agg _) rfl rfl) ?_
 refine sS rfl rfl rfl (opS_extract (av := .v _) rfl rfl) ?_
 refine sX rfl rfl rfl (opX_alloc (zs := [.slice none 0 0, .slice none 0 0, .slice none 0 0, .slice none 0 0, .slice none 0 0, .bool false, .bool false, .bool false, .bool false, .bool false]) (by kernel_rfl)) ?_
 rintro _ _ ⟨o4, rfl, rfl⟩
 refine s0 rfl rfl (opR_store_agg (i := 0) (vs := [slE Enc.int x2.1 none, slE Enc.int x2.2.1 none, slE Enc.int x2.2.2.1 none, slE Enc.int x2.2.2.2.1 none, slE Enc.int x2.2.2.2.2.1 none, B x2.2.2.2.2.2.1, B x2.2.2.2.2.2.2.1, B x2.2.2.2.2.2.2.2.1, B x2.2.2.2.2.2.2.2.2.1, B x2.2.2.2.2.2.2.2.2.2.1]) (by kernel_rfl) rfl rfl (by simp [isCell, slE]) rfl (Nat.le_of_ble_eq_true rfl)) ?_
 refine AR.freezeCp 1 0 rfl rfl ?_
 show AR _ _ _ _ _ _ ⟨_, _, []⟩
 refine sS rfl rfl rfl (asg rfl) ?_
 refine AR.nil ?_
 show AW _ _ _ _ _ _
 refine AW.seq ?_
 obtain ⟨x5, e6, H⟩ := bnd_s H
 refine AW.region ?_
 show AR _ _ _ _ _ [0, 1, 2, 3, 4, 5, 6] _
 refine AR.run rfl rfl (AO.callp rfl en5_cronl rfl (w_cron_Parse F ([48, 32, 48, 32, 49, 51, 32, 42, 32, 53] : List UInt8) x5.1 x5.2.1 x5.2.2.1 x5.2.2.2.1 x5.2.2.2.2.1 x5.2.2.2.2.2.1 x5.2.2.2.2.2.2.1 x5.2.2.2.2.2.2.2.1 x5.2.2.2.2.2.2.2.2.1 x5.2.2.2.2.2.2.2.2.2.1 x5.2.2.2.2.2.2.2.2.2.2 e6) ?_)
 refine sS rfl rfl rfl (opS_move (av := .tup _) rfl) ?_
 refine sS rfl rfl rfl (opS_extract (av := .agg _) rfl rfl) ?_
 refine sS rfl rfl rfl (opS_extract (av := .v _) rfl rfl) ?_
 refine sX rfl rfl rfl (opX_alloc (zs := [.slice none 0 0, .slice none 0 0, .slice none 0 0, .slice none 0 0, .slice none 0 0, .bool false, .bool false, .bool false, .bool false, .bool false]) (by kernel_rfl)) ?_
 rintro _ _ ⟨o7, rfl, rfl⟩
 refine s0 rfl rfl (opR_store_agg (i := 0) (vs := [slE Enc.int x5.1 none, slE Enc.int x5.2.1 none, slE Enc.int x5.2.2.1 none, slE Enc.int x5.2.2.2.1 none, slE Enc.int x5.2.2.2.2.1 none, B x5.2.2.2.2.2.1, B x5.2.2.2.2.2.2.1, B x5.2.2.2.2.2.2.2.1, B x5.2.2.2.2.2.2.2.2.1, B x5.2.2.2.2.2.2.2.2.2.1]) (by kernel_rfl) rfl rfl (by simp [isCell, slE]) rfl (Nat.le_of_ble_eq_true rfl)) ?_
 refine AR.freezeCp 3 0 rfl rfl ?_
 show AR _ _ _ _ _ _ ⟨_, _, []⟩
 refine sS rfl rfl rfl (asg rfl) ?_
 refine AR.nil ?_
 show AW _ _ _ _ _ _
 refine AW.seq ?_
 obtain ⟨x8, x9, e10, H⟩ := bnd2_s H
 refine AW.region ?_
 show AR _ _ _ _ _ [0, 1, 2, 3, 4, 5, 6] _
 refine sS rfl rfl rfl (opS_load_cp_agg Tryd.underlying28 rfl (n := 10) (by kernel_rfl) rfl (Nat.le_of_ble_eq_true rfl)) ?_
 refine AR.run rfl rfl (AO.callp rfl en6_cronl rfl (w_cron_Write F x2.1 x2.2.1 x2.2.2.1 x2.2.2.2.1 x2.2.2.2.2.1 x2.2.2.2.2.2.1 x2.2.2.2.2.2.2.1 x2.2.2.2.2.2.2.2.1 x2.2.2.2.2.2.2.2.2.1 x2.2.2.2.2.2.2.2.2.2.1 x8 x9 e10) ?_)
 refine sS rfl rfl rfl (opS_move (av := .tup _) rfl) ?_
 refine sS rfl rfl rfl (opS_extract (av := .v _) rfl rfl) ?_
 refine sS rfl rfl rfl (opS_extract (av := .v _) rfl rfl) ?_
 refine sS rfl rfl rfl (asg rfl) ?_
 refine sS rfl rfl rfl (asg rfl) ?_
 refine AR.nil ?_
 show AW _ _ _ _ _ _
 refine AW.seq ?_
 obtain ⟨x15, e16, H⟩ := bndc_s H
 obtain ⟨x18, e19, H⟩ := bndc_s H
 obtain ⟨x21, e22, H⟩ := bndc_s H
 obtain ⟨x24, e25, H⟩ := bndc_s H
 refine AW.region ?_
 show AR _ _ _ _ _ [0, 1, 2, 3, 4, 5, 6, 7, 8, 9, 10, 11, 12, 13, 14, 15, 16, 17, 18, 19, 20, 21, 22, 23, 24, 25, 26, 27, 28, 29, 30, 31, 32] _
 refine sS rfl rfl rfl (mv rfl) ?_
 refine sS rfl rfl rfl (opS_eqi rfl rfl) ?_
 refine sS rfl rfl rfl (mv rfl) ?_
 refine AR.meet (l := [6, 7, 8, 9, 10, 11, 12, 13, 14, 15, 16, 17, 18, 19, 20, 21, 22, 23, 24, 25, 26, 27, 28, 29, 30, 31, 32]) 25 (B ((decide (x2.2.2.2.2.2.2.2.2.2.2 = 0)) && (decide (x5.2.2.2.2.2.2.2.2.2.2 = 0)))) (fun K => ?_) ?_
 ·rcases Bool.eq_false_or_eq_true (decide (x2.2.2.2.2.2.2.2.2.2.2 = 0)) with h11 | h11
  ·
   refine gT h11 rfl rfl rfl rfl rfl rfl (AO.ops rfl rfl (mv rfl) ?_)
   refine gT h11 rfl rfl rfl rfl rfl rfl (AO.ops rfl rfl (opS_eqi rfl rfl) ?_)
   refine sS rfl rfl rfl (opS_pick_t (av := .v _) rfl h11 rfl) ?_
   exact K _ 2 _ (B_congr (and_t h11)) rfl rfl
  ·
   refine gF h11 rfl rfl rfl rfl rfl ?_
   refine gF h11 rfl rfl rfl rfl rfl ?_
   refine sS rfl rfl rfl (opS_pick_f (av := .v _) rfl h11 rfl) ?_
   exact K _ 2 _ (B_congr (and_f h11)) rfl rfl
 refine sS rfl rfl rfl (mv rfl) ?_
 refine AR.meet (l := [10, 11, 12, 13, 14, 15, 16, 17, 18, 19, 20, 21, 22, 23, 24, 25, 26, 27, 28, 29, 30, 31, 32]) 29 (B (((decide (x2.2.2.2.2.2.2.2.2.2.2 = 0)) && (decide (x5.2.2.2.2.2.2.2.2.2.2 = 0))) && (decide (x9 = 0)))) (fun K => ?_) ?_
 ·rcases Bool.eq_false_or_eq_true ((decide (x2.2.2.2.2.2.2.2.2.2.2 = 0)) && (decide (x5.2.2.2.2.2.2.2.2.2.2 = 0))) with h12 | h12
  ·
   refine gT h12 rfl rfl rfl rfl rfl rfl (AO.ops rfl rfl (mv rfl) ?_)
   refine gT h12 rfl rfl rfl rfl rfl rfl (AO.ops rfl rfl (opS_eqi rfl rfl) ?_)
   refine sS rfl rfl rfl (opS_pick_t (av := .v _) rfl h12 rfl) ?_
   exact K _ 2 _ (B_congr (and_t h12)) rfl rfl
  ·
   refine gF h12 rfl rfl rfl rfl rfl ?_
   refine gF h12 rfl rfl rfl rfl rfl ?_
   refine sS rfl rfl rfl (opS_pick_f (av := .v _) rfl h12 rfl) ?_
   exact K _ 2 _ (B_congr (and_f h12)) rfl rfl
 refine sS rfl rfl rfl (mv rfl) ?_
 refine AR.meet (l := [14, 15, 16, 17, 18, 19, 20, 21, 22, 23, 24, 25, 26, 27, 28, 29, 30, 31, 32]) 33 (B ((((decide (x2.2.2.2.2.2.2.2.2.2.2 = 0)) && (decide (x5.2.2.2.2.2.2.2.2.2.2 = 0))) && (decide (x9 = 0))) && (decide (x8 = cronl_k1)))) (fun K => ?_) ?_
 ·rcases Bool.eq_false_or_eq_true (((decide (x2.2.2.2.2.2.2.2.2.2.2 = 0)) && (decide (x5.2.2.2.2.2.2.2.2.2.2 = 0))) && (decide (x9 = 0))) with h13 | h13
  ·
   refine gT h13 rfl rfl rfl rfl rfl rfl (AO.ops rfl rfl (mv rfl) ?_)
   refine gT h13 rfl rfl rfl rfl rfl rfl (AO.ops rfl rfl (opS_eqs rfl rfl) ?_)
   refine sS rfl rfl rfl (opS_pick_t (av := .v _) rfl h13 rfl) ?_
   exact K _ 2 _ (B_congr (and_t h13)) rfl rfl
  ·
   refine gF h13 rfl rfl rfl rfl rfl ?_
   refine gF h13 rfl rfl rfl rfl rfl ?_
   refine sS rfl rfl rfl (opS_pick_f (av := .v _) rfl h13 rfl) ?_
   exact K _ 2 _ (B_congr (and_f h13)) rfl rfl
 refine sS rfl rfl rfl (mv rfl) ?_
 refine AR.meet (l := [19, 20, 21, 22, 23, 24, 25, 26, 27, 28, 29, 30, 31, 32]) 38 (B (((((decide (x2.2.2.2.2.2.2.2.2.2.2 = 0)) && (decide (x5.2.2.2.2.2.2.2.2.2.2 = 0))) && (decide (x9 = 0))) && (decide (x8 = cronl_k1))) && x15)) (fun K => ?_) ?_
 ·rcases Bool.eq_false_or_eq_true ((((decide (x2.2.2.2.2.2.2.2.2.2.2 = 0)) && (decide (x5.2.2.2.2.2.2.2.2.2.2 = 0))) && (decide (x9 = 0))) && (decide (x8 = cronl_k1))) with h14 | h14
  ·
   refine gT h14 rfl rfl rfl rfl rfl rfl (AO.ops rfl rfl (opS_load_cp_agg Tryd.underlying28 rfl (n := 10) (by kernel_rfl) rfl (Nat.le_of_ble_eq_true rfl)) ?_)
   refine gT h14 rfl rfl rfl rfl rfl rfl (AO.ops rfl rfl (g_build (zs := [.int .i64 0, .int .i64 0, .int .i64 0, .int .i64 0, .int .i64 0, .int .i64 0]) (ps := [(0, 1), (1, 1), (2, 1), (3, 1), (4, 1), (5, 1)]) (cs := [i64 2024, i64 5, i64 6, i64 6, i64 30, i64 0]) (by kernel_rfl) rfl rfl) ?_)
   refine gT h14 rfl rfl rfl rfl rfl rfl (AO.callp rfl en7_cronl rfl (w_cron_Match F x2.1 x2.2.1 x2.2.2.1 x2.2.2.2.1 x2.2.2.2.2.1 x2.2.2.2.2.2.1 x2.2.2.2.2.2.2.1 x2.2.2.2.2.2.2.2.1 x2.2.2.2.2.2.2.2.2.1 x2.2.2.2.2.2.2.2.2.2.1 2024 5 6 6 30 0 x15 (e16 h14)) ?_)
   refine sS rfl rfl rfl (opS_pick_t (av := .v _) rfl h14 rfl) ?_
   exact K _ 3 _ (B_congr (and_t h14)) rfl rfl
  ·
   refine gF h14 rfl rfl rfl rfl rfl ?_
   refine gF h14 rfl rfl rfl rfl rfl ?_
   refine gF h14 rfl rfl rfl rfl rfl ?_
   refine sS rfl rfl rfl (opS_pick_f (av := .v _) rfl h14 rfl) ?_
   exact K _ 3 _ (B_congr (and_f h14)) rfl rfl
 refine sS rfl rfl rfl (mv rfl) ?_
 refine AR.meet (l := [23, 24, 25, 26, 27, 28, 29, 30, 31, 32]) 42 (B ((((((decide (x2.2.2.2.2.2.2.2.2.2.2 = 0)) && (decide (x5.2.2.2.2.2.2.2.2.2.2 = 0))) && (decide (x9 = 0))) && (decide (x8 = cronl_k1))) && x15) && x18)) (fun K => ?_) ?_
 ·rcases Bool.eq_false_or_eq_true (((((decide (x2.2.2.2.2.2.2.2.2.2.2 = 0)) && (decide (x5.2.2.2.2.2.2.2.2.2.2 = 0))) && (decide (x9 = 0))) && (decide (x8 = cronl_k1))) && x15) with h17 | h17
  ·
   refine gT h17 rfl rfl rfl rfl rfl rfl (AO.ops rfl rfl (opS_load_cp_agg Tryd.underlying28 rfl (n := 10) (by kernel_rfl) rfl (Nat.le_of_ble_eq_true rfl)) ?_)
   refine gT h17 rfl rfl rfl rfl rfl rfl (AO.callp rfl en8_cronl rfl (w_cron_Day F x5.1 x5.2.1 x5.2.2.1 x5.2.2.2.1 x5.2.2.2.2.1 x5.2.2.2.2.2.1 x5.2.2.2.2.2.2.1 x5.2.2.2.2.2.2.2.1 x5.2.2.2.2.2.2.2.2.1 x5.2.2.2.2.2.2.2.2.2.1 2024 5 10 x18 (e19 h17)) ?_)
   refine sS rfl rfl rfl (opS_pick_t (av := .v _) rfl h17 rfl) ?_
   exact K _ 2 _ (B_congr (and_t h17)) rfl rfl
  ·
   refine gF h17 rfl rfl rfl rfl rfl ?_
   refine gF h17 rfl rfl rfl rfl rfl ?_
   refine sS rfl rfl rfl (opS_pick_f (av := .v _) rfl h17 rfl) ?_
   exact K _ 2 _ (B_congr (and_f h17)) rfl rfl
 refine sS rfl rfl rfl (mv rfl) ?_
 refine AR.meet (l := [27, 28, 29, 30, 31, 32]) 46 (B (((((((decide (x2.2.2.2.2.2.2.2.2.2.2 = 0)) && (decide (x5.2.2.2.2.2.2.2.2.2.2 = 0))) && (decide (x9 = 0))) && (decide (x8 = cronl_k1))) && x15) && x18) && x21)) (fun K => ?_) ?_
 ·rcases Bool.eq_false_or_eq_true ((((((decide (x2.2.2.2.2.2.2.2.2.2.2 = 0)) && (decide (x5.2.2.2.2.2.2.2.2.2.2 = 0))) && (decide (x9 = 0))) && (decide (x8 = cronl_k1))) && x15) && x18) with h20 | h20
  ·
   refine gT h20 rfl rfl rfl rfl rfl rfl (AO.ops rfl rfl (opS_load_cp_agg Tryd.underlying28 rfl (n := 10) (by kernel_rfl) rfl (Nat.le_of_ble_eq_true rfl)) ?_)
   refine gT h20 rfl rfl rfl rfl rfl rfl (AO.callp rfl en8_cronl rfl (w_cron_Day F x5.1 x5.2.1 x5.2.2.1 x5.2.2.2.1 x5.2.2.2.2.1 x5.2.2.2.2.2.1 x5.2.2.2.2.2.2.1 x5.2.2.2.2.2.2.2.1 x5.2.2.2.2.2.2.2.2.1 x5.2.2.2.2.2.2.2.2.2.1 2024 5 13 x21 (e22 h20)) ?_)
   refine sS rfl rfl rfl (opS_pick_t (av := .v _) rfl h20 rfl) ?_
   exact K _ 2 _ (B_congr (and_t h20)) rfl rfl
  ·
   refine gF h20 rfl rfl rfl rfl rfl ?_
   refine gF h20 rfl rfl rfl rfl rfl ?_
   refine sS rfl rfl rfl (opS_pick_f (av := .v _) rfl h20 rfl) ?_
   exact K _ 2 _ (B_congr (and_f h20)) rfl rfl
 refine sS rfl rfl rfl (mv rfl) ?_
 refine AR.meet (l := [32]) 51 (B ((((((((decide (x2.2.2.2.2.2.2.2.2.2.2 = 0)) && (decide (x5.2.2.2.2.2.2.2.2.2.2 = 0))) && (decide (x9 = 0))) && (decide (x8 = cronl_k1))) && x15) && x18) && x21) && (!x24))) (fun K => ?_) ?_
 ·rcases Bool.eq_false_or_eq_true (((((((decide (x2.2.2.2.2.2.2.2.2.2.2 = 0)) && (decide (x5.2.2.2.2.2.2.2.2.2.2 = 0))) && (decide (x9 = 0))) && (decide (x8 = cronl_k1))) && x15) && x18) && x21) with h23 | h23
  ·
   refine gT h23 rfl rfl rfl rfl rfl rfl (AO.ops rfl rfl (opS_load_cp_agg Tryd.underlying28 rfl (n := 10) (by kernel_rfl) rfl (Nat.le_of_ble_eq_true rfl)) ?_)
   refine gT h23 rfl rfl rfl rfl rfl rfl (AO.callp rfl en8_cronl rfl (w_cron_Day F x5.1 x5.2.1 x5.2.2.1 x5.2.2.2.1 x5.2.2.2.2.1 x5.2.2.2.2.2.1 x5.2.2.2.2.2.2.1 x5.2.2.2.2.2.2.2.1 x5.2.2.2.2.2.2.2.2.1 x5.2.2.2.2.2.2.2.2.2.1 2024 5 14 x24 (e25 h23)) ?_)
   refine gT h23 rfl rfl rfl rfl rfl rfl (AO.ops rfl rfl (opS_not rfl) ?_)
   refine sS rfl rfl rfl (opS_pick_t (av := .v _) rfl h23 rfl) ?_
   exact K _ 3 _ (B_congr (and_t h23)) rfl rfl
  ·
   refine gF h23 rfl rfl rfl rfl rfl ?_
   refine gF h23 rfl rfl rfl rfl rfl ?_
   refine gF h23 rfl rfl rfl rfl rfl ?_
   refine sS rfl rfl rfl (opS_pick_f (av := .v _) rfl h23 rfl) ?_
   exact K _ 3 _ (B_congr (and_f h23)) rfl rfl
 refine sS rfl rfl rfl (asg rfl) ?_
 refine AR.nil ?_
 show AW _ _ _ _ _ _
 refine AW.ret ?_
 obtain rfl := Option.some.inj H
 exact And.intro rfl (Exists.intro _ (Exists.intro _ ⟨ResV.oneW rfl (.refl _), Sub.at [] rfl, rfl, rfl⟩))
end Go.Proofs.YtpbfajkbkomfcaaDoor
