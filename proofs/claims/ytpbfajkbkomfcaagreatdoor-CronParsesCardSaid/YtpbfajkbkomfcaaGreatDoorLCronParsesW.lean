/-
  The statement CronParses: what is run is what the plain functions say. Printed by a program of ours.
-/
import Derived.Test.YtpbfajkbkomfcaaGreatDoorAvE
import Derived.Test.YtpbfajkbkomfcaaGreatDoorPvLib
import Derived.Test.YtpbfajkbkomfcaaGreatDoorP11Split
import Derived.Test.YtpbfajkbkomfcaaGreatDoorAvStill
import Derived.Test.YtpbfajkbkomfcaaGreatDoorChecked
import Derived.Test.YtpbfajkbkomfcaaGreatDoorCronLW
import Derived.Test.YtpbfajkbkomfcaaGreatDoorCronRW
import Derived.Test.YtpbfajkbkomfcaaGreatDoorCronEW
import Derived.Test.YtpbfajkbkomfcaaGreatDoorLCronParsesP
set_option linter.unusedVariables false
set_option linter.unusedSimpArgs false
namespace Go.Proofs.YtpbfajkbkomfcaaGreatDoor
open Go.RowKit Go.Av Go.Pv
theorem en9_lcronparses : ∀ (args : Array Value) (w : World), (callFunc 9 args).run Tryz.prog w = .ok (.enter 9 args) w := fun _ _ => by kernel_rfl
theorem en10_lcronparses : ∀ (args : Array Value) (w : World), (callFunc 10 args).run Tryz.prog w = .ok (.enter 10 args) w := fun _ _ => by kernel_rfl
theorem en11_lcronparses : ∀ (args : Array Value) (w : World), (callFunc 11 args).run Tryz.prog w = .ok (.enter 11 args) w := fun _ _ => by kernel_rfl
theorem en12_lcronparses : ∀ (args : Array Value) (w : World), (callFunc 12 args).run Tryz.prog w = .ok (.enter 12 args) w := fun _ _ => by kernel_rfl
set_option maxRecDepth 100000 in
set_option maxHeartbeats 1000000 in
theorem w_law05_CronParses (F : Nat) (a1 : List UInt8) (r2 : Bool) (H : law05_CronParses F a1 = some r2) : ACalls Tryz.prog 3 [S a1] [] (Ret (B r2) []) := by
 unfold law05_CronParses at H
 refine ACalls.of_body Tryz.func3 rfl rfl ?_
 show AW _ _ 37 _ _ _
 refine AW.seq ?_
 refine AW.region ?_
 show AR _ _ _ _ _ [0] _
 refine sS rfl rfl rfl (asg rfl) ?_
 refine AR.nil ?_
 show AW _ _ _ _ _ _
 refine AW.seq ?_
 obtain ⟨x3, e4, H⟩ := bnd_s H
 refine AW.region ?_
 show AR _ _ _ _ _ [0, 1] _
 refine AR.run rfl rfl (AO.callp rfl en9_lcronparses rfl (w_law05_awake F x3 e4) ?_)
 refine sS rfl rfl rfl (asg rfl) ?_
 refine AR.nil ?_
 show AW _ _ _ _ _ _
 refine AW.seq ?_
 refine AW.seq ?_
 refine AW.region ?_
 show AR _ _ _ _ _ [0, 1, 2, 3, 4, 5, 6] _
 refine sS rfl rfl rfl (mv rfl) ?_
 refine sS rfl rfl rfl (opS_not rfl) ?_
 refine sS rfl rfl rfl (mv rfl) ?_
 refine AR.meet (l := []) 16 (B ((!x3) || (decide (300 < (a1.length : Int))))) (fun K => ?_) ?_
 ·rcases Bool.eq_false_or_eq_true (!x3) with h5 | h5
  ·
   refine gF h5 rfl rfl rfl rfl rfl ?_
   refine gF h5 rfl rfl rfl rfl rfl ?_
   refine gF h5 rfl rfl rfl rfl rfl ?_
   refine sS rfl rfl rfl (opS_pick_t (av := .v _) rfl h5 rfl) ?_
   exact K _ 3 _ (B_congr (or_t h5)) rfl rfl
  ·
   refine gT h5 rfl rfl rfl rfl rfl rfl (AO.ops rfl rfl (mv rfl) ?_)
   refine gT h5 rfl rfl rfl rfl rfl rfl (AO.ops rfl rfl (opS_len_str Tryz.underlying9 rfl) ?_)
   refine gT h5 rfl rfl rfl rfl rfl rfl (AO.ops rfl rfl (opS_gt rfl rfl) ?_)
   refine sS rfl rfl rfl (opS_pick_f (av := .v _) rfl h5 rfl) ?_
   exact K _ 3 _ (B_congr (or_f h5)) rfl rfl
 refine AR.nil ?_
 show AW _ _ _ _ _ _
 refine AW.cond rfl (fun c6 => ?_) (fun c6 => ?_)
 ·replace H := cnd_t c6 H
  refine AW.seq ?_
  refine AW.region ?_
  show AR _ _ _ _ _ [0, 1] _
  refine sS rfl rfl rfl (mv rfl) ?_
  refine sS rfl rfl rfl (asg rfl) ?_
  refine AR.nil ?_
  show AW _ _ _ _ _ _
  refine AW.ret ?_
  obtain rfl := Option.some.inj H
  exact And.intro rfl (Exists.intro _ (Exists.intro _ ⟨ResV.oneW rfl (.refl _), Sub.at [] rfl, rfl, rfl⟩))
 ·replace H := cnd_f c6 H
  refine AW.skip ?_
  show AW _ _ _ _ _ _
  refine AW.seq ?_
  obtain ⟨x7, e8, H⟩ := bnd_s H
  refine AW.region ?_
  show AR _ _ _ _ _ [0, 1, 2, 3, 4, 5, 6, 7] _
  refine sS rfl rfl rfl (mv rfl) ?_
  refine AR.run rfl rfl (AO.callp rfl en10_lcronparses rfl (w_cron_Parse F a1 x7.1 x7.2.1 x7.2.2.1 x7.2.2.2.1 x7.2.2.2.2.1 x7.2.2.2.2.2.1 x7.2.2.2.2.2.2.1 x7.2.2.2.2.2.2.2.1 x7.2.2.2.2.2.2.2.2.1 x7.2.2.2.2.2.2.2.2.2.1 x7.2.2.2.2.2.2.2.2.2.2 e8) ?_)
  refine sS rfl rfl rfl (opS_move (av := .tup _) rfl) ?_
  refine sS rfl rfl rfl (opS_extract (av := .agg _) rfl rfl) ?_
  refine sS rfl rfl rfl (opS_extract (av := .v _) rfl rfl) ?_
  refine sX rfl rfl rfl (opX_alloc (zs := [.slice none 0 0, .slice none 0 0, .slice none 0 0, .slice none 0 0, .slice none 0 0, .bool false, .bool false, .bool false, .bool false, .bool false]) (by kernel_rfl)) ?_
  rintro _ _ ⟨o9, rfl, rfl⟩
  refine s0 rfl rfl (opR_store_agg (i := 0) (vs := [slE Enc.int x7.1 none, slE Enc.int x7.2.1 none, slE Enc.int x7.2.2.1 none, slE Enc.int x7.2.2.2.1 none, slE Enc.int x7.2.2.2.2.1 none, B x7.2.2.2.2.2.1, B x7.2.2.2.2.2.2.1, B x7.2.2.2.2.2.2.2.1, B x7.2.2.2.2.2.2.2.2.1, B x7.2.2.2.2.2.2.2.2.2.1]) (by kernel_rfl) rfl rfl (by simp [isCell, slE]) rfl (Nat.le_of_ble_eq_true rfl)) ?_
  refine AR.freezeCp 4 0 rfl rfl ?_
  show AR _ _ _ _ _ _ ⟨_, _, []⟩
  refine sS rfl rfl rfl (asg rfl) ?_
  refine AR.nil ?_
  show AW _ _ _ _ _ _
  refine AW.seq ?_
  obtain ⟨x10, e11, H⟩ := bnd_s H
  refine AW.region ?_
  show AR _ _ _ _ _ [0, 1, 2, 3, 4, 5, 6, 7] _
  refine sS rfl rfl rfl (mv rfl) ?_
  refine AR.run rfl rfl (AO.callp rfl en11_lcronparses rfl (w_ref05_Parse F a1 x10.1 x10.2.1 x10.2.2.1 x10.2.2.2.1 x10.2.2.2.2.1 x10.2.2.2.2.2.1 x10.2.2.2.2.2.2.1 x10.2.2.2.2.2.2.2.1 x10.2.2.2.2.2.2.2.2.1 x10.2.2.2.2.2.2.2.2.2.1 x10.2.2.2.2.2.2.2.2.2.2 e11) ?_)
  refine sS rfl rfl rfl (opS_move (av := .tup _) rfl) ?_
  refine sS rfl rfl rfl (opS_extract (av := .agg _) rfl rfl) ?_
  refine sS rfl rfl rfl (opS_extract (av := .v _) rfl rfl) ?_
  refine sX rfl rfl rfl (opX_alloc (zs := [.slice none 0 0, .slice none 0 0, .slice none 0 0, .slice none 0 0, .slice none 0 0, .bool false, .bool false, .bool false, .bool false, .bool false]) (by kernel_rfl)) ?_
  rintro _ _ ⟨o12, rfl, rfl⟩
  refine s0 rfl rfl (opR_store_agg (i := 0) (vs := [slE Enc.int x10.1 none, slE Enc.int x10.2.1 none, slE Enc.int x10.2.2.1 none, slE Enc.int x10.2.2.2.1 none, slE Enc.int x10.2.2.2.2.1 none, B x10.2.2.2.2.2.1, B x10.2.2.2.2.2.2.1, B x10.2.2.2.2.2.2.2.1, B x10.2.2.2.2.2.2.2.2.1, B x10.2.2.2.2.2.2.2.2.2.1]) (by kernel_rfl) rfl rfl (by simp [isCell, slE]) rfl (Nat.le_of_ble_eq_true rfl)) ?_
  refine AR.freezeCp 6 0 rfl rfl ?_
  show AR _ _ _ _ _ _ ⟨_, _, []⟩
  refine sS rfl rfl rfl (asg rfl) ?_
  refine AR.nil ?_
  show AW _ _ _ _ _ _
  refine AW.seq ?_
  obtain ⟨x13, e14, H⟩ := bnd_s H
  refine AW.region ?_
  show AR _ _ _ _ _ [0, 1, 2, 3] _
  refine sS rfl rfl rfl (opS_load_cp_agg Tryz.underlying27 rfl (n := 10) (by kernel_rfl) rfl (Nat.le_of_ble_eq_true rfl)) ?_
  refine sS rfl rfl rfl (opS_load_cp_agg Tryz.underlying27 rfl (n := 10) (by kernel_rfl) rfl (Nat.le_of_ble_eq_true rfl)) ?_
  refine AR.run rfl rfl (AO.callp rfl en12_lcronparses rfl (w_ref05_Same F x7.1 x7.2.1 x7.2.2.1 x7.2.2.2.1 x7.2.2.2.2.1 x7.2.2.2.2.2.1 x7.2.2.2.2.2.2.1 x7.2.2.2.2.2.2.2.1 x7.2.2.2.2.2.2.2.2.1 x7.2.2.2.2.2.2.2.2.2.1 x10.1 x10.2.1 x10.2.2.1 x10.2.2.2.1 x10.2.2.2.2.1 x10.2.2.2.2.2.1 x10.2.2.2.2.2.2.1 x10.2.2.2.2.2.2.2.1 x10.2.2.2.2.2.2.2.2.1 x10.2.2.2.2.2.2.2.2.2.1 x13 e14) ?_)
  refine sS rfl rfl rfl (asg rfl) ?_
  refine AR.nil ?_
  show AW _ _ _ _ _ _
  refine AW.seq ?_
  refine AW.region ?_
  show AR _ _ _ _ _ [0, 1, 2, 3, 4, 5, 6] _
  refine sS rfl rfl rfl (mv rfl) ?_
  refine sS rfl rfl rfl (mv rfl) ?_
  refine AR.meet (l := [6]) 36 (B (x13 && (decide (x7.2.2.2.2.2.2.2.2.2.2 = x10.2.2.2.2.2.2.2.2.2.2)))) (fun K => ?_) ?_
  ·rcases Bool.eq_false_or_eq_true x13 with h15 | h15
   ·
    refine gT h15 rfl rfl rfl rfl rfl rfl (AO.ops rfl rfl (mv rfl) ?_)
    refine gT h15 rfl rfl rfl rfl rfl rfl (AO.ops rfl rfl (mv rfl) ?_)
    refine gT h15 rfl rfl rfl rfl rfl rfl (AO.ops rfl rfl (opS_eqi rfl rfl) ?_)
    refine sS rfl rfl rfl (opS_pick_t (av := .v _) rfl h15 rfl) ?_
    exact K _ 3 _ (B_congr (and_t h15)) rfl rfl
   ·
    refine gF h15 rfl rfl rfl rfl rfl ?_
    refine gF h15 rfl rfl rfl rfl rfl ?_
    refine gF h15 rfl rfl rfl rfl rfl ?_
    refine sS rfl rfl rfl (opS_pick_f (av := .v _) rfl h15 rfl) ?_
    exact K _ 3 _ (B_congr (and_f h15)) rfl rfl
  refine sS rfl rfl rfl (asg rfl) ?_
  refine AR.nil ?_
  show AW _ _ _ _ _ _
  refine AW.ret ?_
  obtain rfl := Option.some.inj H
  exact And.intro rfl (Exists.intro _ (Exists.intro _ ⟨ResV.oneW rfl (.refl _), Sub.at [] rfl, rfl, rfl⟩))
end Go.Proofs.YtpbfajkbkomfcaaGreatDoor
