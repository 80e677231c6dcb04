/-
  The statement CronStars: what is run is what the plain functions say. Printed by a program of ours.
-/
import Derived.Test.YtpbfajkbkomfcaaGreatDoorAvE
import Derived.Test.YtpbfajkbkomfcaaGreatDoorPvLib
import Derived.Test.YtpbfajkbkomfcaaGreatDoorP11Split
import Derived.Test.YtpbfajkbkomfcaaGreatDoorAvStill
import Derived.Test.YtpbfajkbkomfcaaGreatDoorChecked
import Derived.Test.YtpbfajkbkomfcaaGreatDoorCronLW
import Derived.Test.YtpbfajkbkomfcaaGreatDoorLCronStarsP
set_option linter.unusedVariables false
set_option linter.unusedSimpArgs false
namespace Go.Proofs.YtpbfajkbkomfcaaGreatDoor
open Go.RowKit Go.Av Go.Pv
theorem en9_lcronstars : ∀ (args : Array Value) (w : World), (callFunc 9 args).run Tryz.prog w = .ok (.enter 9 args) w := fun _ _ => by kernel_rfl
theorem en10_lcronstars : ∀ (args : Array Value) (w : World), (callFunc 10 args).run Tryz.prog w = .ok (.enter 10 args) w := fun _ _ => by kernel_rfl
theorem en19_lcronstars : ∀ (args : Array Value) (w : World), (callFunc 19 args).run Tryz.prog w = .ok (.enter 19 args) w := fun _ _ => by kernel_rfl
theorem en20_lcronstars : ∀ (args : Array Value) (w : World), (callFunc 20 args).run Tryz.prog w = .ok (.enter 20 args) w := fun _ _ => by kernel_rfl
theorem en21_lcronstars : ∀ (args : Array Value) (w : World), (callFunc 21 args).run Tryz.prog w = .ok (.enter 21 args) w := fun _ _ => by kernel_rfl
set_option maxRecDepth 100000 in
set_option maxHeartbeats 1000000 in
theorem w_law05_CronStars (F : Nat) (a1 : Int) (a2 : Int) (a3 : Int) (a4 : Int) (a5 : Int) (a6 : Int) (a7 : Int) (r8 : Bool) (H : law05_CronStars F a1 a2 a3 a4 a5 a6 a7 = some r8) : ACalls Tryz.prog 6 [.agg [i64 a1, i64 a2, i64 a3, i64 a4, i64 a5, i64 a6], i64 a7] [] (Ret (B r8) []) := by
  unfold law05_CronStars at H
  refine ACalls.of_body Tryz.func6 rfl rfl ?_
  show AW _ _ 70 _ _ _
  refine AW.seq ?_
  refine AW.region ?_
  show AR _ _ _ _ _ [0, 1] _
  refine sR rfl rfl rfl (opR_boxCp rfl (.inr ⟨_, rfl⟩)) ?_
  refine sS rfl rfl rfl (asg rfl) ?_
  refine AR.nil ?_
  show AW _ _ _ _ _ _
  refine AW.seq ?_
  obtain ⟨x9, e10, H⟩ := bnd_s H
  refine AW.region ?_
  show AR _ _ _ _ _ [0, 1] _
  refine AR.run rfl rfl (AO.callp rfl en9_lcronstars rfl (w_law05_awake F x9 e10) ?_)
  refine sS rfl rfl rfl (asg rfl) ?_
  refine AR.nil ?_
  show AW _ _ _ _ _ _
  refine AW.seq ?_
  refine AW.seq ?_
  refine AW.region ?_
  show AR _ _ _ _ _ [0, 1, 2, 3, 4, 5, 6, 7, 8, 9] _
  refine sS rfl rfl rfl (mv rfl) ?_
  refine sS rfl rfl rfl (opS_not rfl) ?_
  refine sS rfl rfl rfl (mv rfl) ?_
  refine AR.meet (l := [6, 7, 8, 9]) 17 (B ((!x9) || (decide (a7 < 0)))) (fun K => ?_) ?_
  · rcases Bool.eq_false_or_eq_true (!x9) with h11 | h11
    ·
      refine gF h11 rfl rfl rfl rfl rfl ?_
      refine gF h11 rfl rfl rfl rfl rfl ?_
      refine sS rfl rfl rfl (opS_pick_t (av := .v _) rfl h11 rfl) ?_
      exact K _ 2 _ (B_congr (or_t h11)) rfl rfl
    ·
      refine gT h11 rfl rfl rfl rfl rfl rfl (AO.ops rfl rfl (mv rfl) ?_)
      refine gT h11 rfl rfl rfl rfl rfl rfl (AO.ops rfl rfl (opS_lt rfl rfl) ?_)
      refine sS rfl rfl rfl (opS_pick_f (av := .v _) rfl h11 rfl) ?_
      exact K _ 2 _ (B_congr (or_f h11)) rfl rfl
  refine sS rfl rfl rfl (mv rfl) ?_
  refine AR.meet (l := []) 21 (B (((!x9) || (decide (a7 < 0))) || (decide (59 < a7)))) (fun K => ?_) ?_
  · rcases Bool.eq_false_or_eq_true ((!x9) || (decide (a7 < 0))) with h12 | h12
    ·
      refine gF h12 rfl rfl rfl rfl rfl ?_
      refine gF h12 rfl rfl rfl rfl rfl ?_
      refine sS rfl rfl rfl (opS_pick_t (av := .v _) rfl h12 rfl) ?_
      exact K _ 2 _ (B_congr (or_t h12)) rfl rfl
    ·
      refine gT h12 rfl rfl rfl rfl rfl rfl (AO.ops rfl rfl (mv rfl) ?_)
      refine gT h12 rfl rfl rfl rfl rfl rfl (AO.ops rfl rfl (opS_gt rfl rfl) ?_)
      refine sS rfl rfl rfl (opS_pick_f (av := .v _) rfl h12 rfl) ?_
      exact K _ 2 _ (B_congr (or_f h12)) rfl rfl
  refine AR.nil ?_
  show AW _ _ _ _ _ _
  refine AW.cond rfl (fun c13 => ?_) (fun c13 => ?_)
  · replace H := cnd_t c13 H
    refine AW.seq ?_
    refine AW.region ?_
    show AR _ _ _ _ _ [0, 1] _
    refine sS rfl rfl rfl (mv rfl) ?_
    refine sS rfl rfl rfl (asg rfl) ?_
    refine AR.nil ?_
    show AW _ _ _ _ _ _
    refine AW.ret ?_
    obtain rfl := Option.some.inj H
    exact And.intro rfl (Exists.intro _ (Exists.intro _ ⟨ResV.oneW rfl (.refl _), Sub.at [] rfl, rfl, rfl⟩))
  · replace H := cnd_f c13 H
    refine AW.skip ?_
    show AW _ _ _ _ _ _
    refine AW.seq ?_
    obtain ⟨x14, e15, H⟩ := bnd_s H
    refine AW.region ?_
    show AR _ _ _ _ _ [0, 1, 2, 3, 4, 5, 6] _
    refine AR.run rfl rfl (AO.callp rfl en10_lcronstars rfl (w_cron_Parse F ([42, 32, 42, 32, 42, 32, 42, 32, 42] : List UInt8) x14.1 x14.2.1 x14.2.2.1 x14.2.2.2.1 x14.2.2.2.2.1 x14.2.2.2.2.2.1 x14.2.2.2.2.2.2.1 x14.2.2.2.2.2.2.2.1 x14.2.2.2.2.2.2.2.2.1 x14.2.2.2.2.2.2.2.2.2.1 x14.2.2.2.2.2.2.2.2.2.2 e15) ?_)
    refine sS rfl rfl rfl (opS_move (av := .tup _) rfl) ?_
    refine sS rfl rfl rfl (opS_extract (av := .agg _) rfl rfl) ?_
    refine sS rfl rfl rfl (opS_extract (av := .v _) rfl rfl) ?_
    refine sX rfl rfl rfl (opX_alloc (zs := [.slice none 0 0, .slice none 0 0, .slice none 0 0, .slice none 0 0, .slice none 0 0, .bool false, .bool false, .bool false, .bool false, .bool false]) (by kernel_rfl)) ?_
    rintro _ _ ⟨o16, rfl, rfl⟩
    refine s0 rfl rfl (opR_store_agg (i := 0) (vs := [slE Enc.int x14.1 none, slE Enc.int x14.2.1 none, slE Enc.int x14.2.2.1 none, slE Enc.int x14.2.2.2.1 none, slE Enc.int x14.2.2.2.2.1 none, B x14.2.2.2.2.2.1, B x14.2.2.2.2.2.2.1, B x14.2.2.2.2.2.2.2.1, B x14.2.2.2.2.2.2.2.2.1, B x14.2.2.2.2.2.2.2.2.2.1]) (by kernel_rfl) rfl rfl (by simp [isCell, slE]) rfl (Nat.le_of_ble_eq_true rfl)) ?_
    refine AR.freezeCp 6 0 rfl rfl ?_
    show AR _ _ _ _ _ _ ⟨_, _, []⟩
    refine sS rfl rfl rfl (asg rfl) ?_
    refine AR.nil ?_
    show AW _ _ _ _ _ _
    refine AW.seq ?_
    obtain ⟨x17, e18, H⟩ := bnd_s H
    obtain ⟨g19, H⟩ := grd_s H
    obtain ⟨x20, e21, H⟩ := lt_s H
    obtain ⟨x22, e23, H⟩ := bnd_s H
    refine AW.region ?_
    show AR _ _ _ _ _ [0, 1, 2, 3, 4, 5, 6, 7, 8, 9] _
    refine sS rfl rfl rfl (mv rfl) ?_
    refine AR.run rfl rfl (AO.callp rfl en19_lcronstars rfl (w_law05_digits F a7 x17 e18) ?_)
    refine sS rfl rfl rfl (g_cat rfl rfl g19 e21) ?_
    refine AR.run rfl rfl (AO.callp rfl en10_lcronstars rfl (w_cron_Parse F x20 x22.1 x22.2.1 x22.2.2.1 x22.2.2.2.1 x22.2.2.2.2.1 x22.2.2.2.2.2.1 x22.2.2.2.2.2.2.1 x22.2.2.2.2.2.2.2.1 x22.2.2.2.2.2.2.2.2.1 x22.2.2.2.2.2.2.2.2.2.1 x22.2.2.2.2.2.2.2.2.2.2 e23) ?_)
    refine sS rfl rfl rfl (opS_move (av := .tup _) rfl) ?_
    refine sS rfl rfl rfl (opS_extract (av := .agg _) rfl rfl) ?_
    refine sS rfl rfl rfl (opS_extract (av := .v _) rfl rfl) ?_
    refine sX rfl rfl rfl (opX_alloc (zs := [.slice none 0 0, .slice none 0 0, .slice none 0 0, .slice none 0 0, .slice none 0 0, .bool false, .bool false, .bool false, .bool false, .bool false]) (by kernel_rfl)) ?_
    rintro _ _ ⟨o24, rfl, rfl⟩
    refine s0 rfl rfl (opR_store_agg (i := 0) (vs := [slE Enc.int x22.1 none, slE Enc.int x22.2.1 none, slE Enc.int x22.2.2.1 none, slE Enc.int x22.2.2.2.1 none, slE Enc.int x22.2.2.2.2.1 none, B x22.2.2.2.2.2.1, B x22.2.2.2.2.2.2.1, B x22.2.2.2.2.2.2.2.1, B x22.2.2.2.2.2.2.2.2.1, B x22.2.2.2.2.2.2.2.2.2.1]) (by kernel_rfl) rfl rfl (by simp [isCell, slE]) rfl (Nat.le_of_ble_eq_true rfl)) ?_
    refine AR.freezeCp 8 0 rfl rfl ?_
    show AR _ _ _ _ _ _ ⟨_, _, []⟩
    refine sS rfl rfl rfl (asg rfl) ?_
    refine AR.nil ?_
    show AW _ _ _ _ _ _
    refine AW.seq ?_
    refine AW.seq ?_
    refine AW.region ?_
    show AR _ _ _ _ _ [0, 1, 2, 3, 4, 5] _
    refine sS rfl rfl rfl (mv rfl) ?_
    refine sS rfl rfl rfl (opS_nei rfl rfl) ?_
    refine sS rfl rfl rfl (mv rfl) ?_
    refine AR.meet (l := []) 39 (B ((!decide (x14.2.2.2.2.2.2.2.2.2.2 = 0)) || (!decide (x22.2.2.2.2.2.2.2.2.2.2 = 0)))) (fun K => ?_) ?_
    · rcases Bool.eq_false_or_eq_true (!decide (x14.2.2.2.2.2.2.2.2.2.2 = 0)) with h25 | h25
      ·
        refine gF h25 rfl rfl rfl rfl rfl ?_
        refine gF h25 rfl rfl rfl rfl rfl ?_
        refine sS rfl rfl rfl (opS_pick_t (av := .v _) rfl h25 rfl) ?_
        exact K _ 2 _ (B_congr (or_t h25)) rfl rfl
      ·
        refine gT h25 rfl rfl rfl rfl rfl rfl (AO.ops rfl rfl (mv rfl) ?_)
        refine gT h25 rfl rfl rfl rfl rfl rfl (AO.ops rfl rfl (opS_nei rfl rfl) ?_)
        refine sS rfl rfl rfl (opS_pick_f (av := .v _) rfl h25 rfl) ?_
        exact K _ 2 _ (B_congr (or_f h25)) rfl rfl
    refine AR.nil ?_
    show AW _ _ _ _ _ _
    refine AW.cond rfl (fun c26 => ?_) (fun c26 => ?_)
    · replace H := cnd_t c26 H
      refine AW.seq ?_
      refine AW.region ?_
      show AR _ _ _ _ _ [0] _
      refine sS rfl rfl rfl (asg rfl) ?_
      refine AR.nil ?_
      show AW _ _ _ _ _ _
      refine AW.ret ?_
      obtain rfl := Option.some.inj H
      exact And.intro rfl (Exists.intro _ (Exists.intro _ ⟨ResV.oneW rfl (.refl _), Sub.at [] rfl, rfl, rfl⟩))
    · replace H := cnd_f c26 H
      refine AW.skip ?_
      show AW _ _ _ _ _ _
      refine AW.seq ?_
      obtain ⟨x27, e28, H⟩ := bnd_s H
      refine AW.region ?_
      show AR _ _ _ _ _ [0, 1, 2] _
      refine sS rfl rfl rfl (opS_load_cp_agg Tryz.underlying42 rfl (n := 6) (by kernel_rfl) rfl (Nat.le_of_ble_eq_true rfl)) ?_
      refine AR.run rfl rfl (AO.callp rfl en20_lcronstars rfl (w_stamp_May F a1 a2 a3 a4 a5 a6 x27 e28) ?_)
      refine sS rfl rfl rfl (asg rfl) ?_
      refine AR.nil ?_
      show AW _ _ _ _ _ _
      refine AW.seq ?_
      obtain ⟨x29, e30, H⟩ := bnd_s H
      obtain ⟨x33, e34, H⟩ := bndc_s H
      refine AW.region ?_
      show AR _ _ _ _ _ [0, 1, 2, 3, 4, 5, 6, 7, 8, 9, 10, 11, 12, 13, 14, 15, 16, 17, 18, 19, 20, 21, 22, 23, 24, 25, 26, 27, 28] _
      refine sS rfl rfl rfl (opS_load_cp_agg Tryz.underlying27 rfl (n := 10) (by kernel_rfl) rfl (Nat.le_of_ble_eq_true rfl)) ?_
      refine sS rfl rfl rfl (opS_load_cp_agg Tryz.underlying42 rfl (n := 6) (by kernel_rfl) rfl (Nat.le_of_ble_eq_true rfl)) ?_
      refine AR.run rfl rfl (AO.callp rfl en21_lcronstars rfl (w_cron_Match F x14.1 x14.2.1 x14.2.2.1 x14.2.2.2.1 x14.2.2.2.2.1 x14.2.2.2.2.2.1 x14.2.2.2.2.2.2.1 x14.2.2.2.2.2.2.2.1 x14.2.2.2.2.2.2.2.2.1 x14.2.2.2.2.2.2.2.2.2.1 a1 a2 a3 a4 a5 a6 x29 e30) ?_)
      refine sS rfl rfl rfl (mv rfl) ?_
      refine sS rfl rfl rfl (mv rfl) ?_
      refine AR.meet (l := [9, 10, 11, 12, 13, 14, 15, 16, 17, 18, 19, 20, 21, 22, 23, 24, 25, 26, 27, 28]) 50 (B (x27 && (decide (a6 = 0)))) (fun K => ?_) ?_
      · rcases Bool.eq_false_or_eq_true x27 with h31 | h31
        ·
          refine gT h31 rfl rfl rfl rfl rfl rfl (AO.ops rfl rfl (opS_fieldAddr_cp (n := 5) (by kernel_rfl) rfl (Nat.le_of_ble_eq_true rfl)) ?_)
          refine gT h31 rfl rfl rfl rfl rfl rfl (AO.ops rfl rfl (opS_load_cp Tryz.underlying3 rfl rfl) ?_)
          refine gT h31 rfl rfl rfl rfl rfl rfl (AO.ops rfl rfl (opS_eqi rfl rfl) ?_)
          refine sS rfl rfl rfl (opS_pick_t (av := .v _) rfl h31 rfl) ?_
          exact K _ 3 _ (B_congr (and_t h31)) rfl rfl
        ·
          refine gF h31 rfl rfl rfl rfl rfl ?_
          refine gF h31 rfl rfl rfl rfl rfl ?_
          refine gF h31 rfl rfl rfl rfl rfl ?_
          refine sS rfl rfl rfl (opS_pick_f (av := .v _) rfl h31 rfl) ?_
          exact K _ 3 _ (B_congr (and_f h31)) rfl rfl
      refine sS rfl rfl rfl (opS_eqb Tryz.underlying4 rfl rfl) ?_
      refine sS rfl rfl rfl (mv rfl) ?_
      refine AR.meet (l := [28]) 69 (B ((x29 == (x27 && (decide (a6 = 0)))) && (x33 == ((x27 && (decide (a6 = 0))) && (decide (a5 = a7)))))) (fun K => ?_) ?_
      · rcases Bool.eq_false_or_eq_true (x29 == (x27 && (decide (a6 = 0)))) with h32 | h32
        ·
          refine gT h32 rfl rfl rfl rfl rfl rfl (AO.ops rfl rfl (opS_load_cp_agg Tryz.underlying27 rfl (n := 10) (by kernel_rfl) rfl (Nat.le_of_ble_eq_true rfl)) ?_)
          refine gT h32 rfl rfl rfl rfl rfl rfl (AO.ops rfl rfl (opS_load_cp_agg Tryz.underlying42 rfl (n := 6) (by kernel_rfl) rfl (Nat.le_of_ble_eq_true rfl)) ?_)
          refine gT h32 rfl rfl rfl rfl rfl rfl (AO.callp rfl en21_lcronstars rfl (w_cron_Match F x22.1 x22.2.1 x22.2.2.1 x22.2.2.2.1 x22.2.2.2.2.1 x22.2.2.2.2.2.1 x22.2.2.2.2.2.2.1 x22.2.2.2.2.2.2.2.1 x22.2.2.2.2.2.2.2.2.1 x22.2.2.2.2.2.2.2.2.2.1 a1 a2 a3 a4 a5 a6 x33 (e34 h32)) ?_)
          refine gT h32 rfl rfl rfl rfl rfl rfl (AO.ops rfl rfl (mv rfl) ?_)
          refine gT h32 rfl rfl rfl rfl rfl rfl (AO.ops rfl rfl (mv rfl) ?_)
          refine AR.meet (l := [20, 21, 22, 23, 24, 25, 26, 27, 28]) 61 (B (x27 && (decide (a6 = 0)))) (fun K => ?_) ?_
          · rcases Bool.eq_false_or_eq_true x27 with h35 | h35
            ·
              refine gT h35 rfl rfl rfl rfl rfl rfl (AO.ops rfl rfl (opS_fieldAddr_cp (n := 5) (by kernel_rfl) rfl (Nat.le_of_ble_eq_true rfl)) ?_)
              refine gT h35 rfl rfl rfl rfl rfl rfl (AO.ops rfl rfl (opS_load_cp Tryz.underlying3 rfl rfl) ?_)
              refine gT h35 rfl rfl rfl rfl rfl rfl (AO.ops rfl rfl (opS_eqi rfl rfl) ?_)
              refine gT h32 rfl rfl rfl rfl rfl rfl (AO.ops rfl rfl (opS_pick_t (av := .v _) rfl h35 rfl) ?_)
              exact K _ 3 _ (B_congr (and_t h35)) rfl rfl
            ·
              refine gF h35 rfl rfl rfl rfl rfl ?_
              refine gF h35 rfl rfl rfl rfl rfl ?_
              refine gF h35 rfl rfl rfl rfl rfl ?_
              refine gT h32 rfl rfl rfl rfl rfl rfl (AO.ops rfl rfl (opS_pick_f (av := .v _) rfl h35 rfl) ?_)
              exact K _ 3 _ (B_congr (and_f h35)) rfl rfl
          refine gT h32 rfl rfl rfl rfl rfl rfl (AO.ops rfl rfl (mv rfl) ?_)
          refine AR.meet (l := [26, 27, 28]) 67 (B ((x27 && (decide (a6 = 0))) && (decide (a5 = a7)))) (fun K => ?_) ?_
          · rcases Bool.eq_false_or_eq_true (x27 && (decide (a6 = 0))) with h36 | h36
            ·
              refine gT h36 rfl rfl rfl rfl rfl rfl (AO.ops rfl rfl (opS_fieldAddr_cp (n := 4) (by kernel_rfl) rfl (Nat.le_of_ble_eq_true rfl)) ?_)
              refine gT h36 rfl rfl rfl rfl rfl rfl (AO.ops rfl rfl (opS_load_cp Tryz.underlying3 rfl rfl) ?_)
              refine gT h36 rfl rfl rfl rfl rfl rfl (AO.ops rfl rfl (mv rfl) ?_)
              refine gT h36 rfl rfl rfl rfl rfl rfl (AO.ops rfl rfl (opS_eqi rfl rfl) ?_)
              refine gT h32 rfl rfl rfl rfl rfl rfl (AO.ops rfl rfl (opS_pick_t (av := .v _) rfl h36 rfl) ?_)
              exact K _ 4 _ (B_congr (and_t h36)) rfl rfl
            ·
              refine gF h36 rfl rfl rfl rfl rfl ?_
              refine gF h36 rfl rfl rfl rfl rfl ?_
              refine gF h36 rfl rfl rfl rfl rfl ?_
              refine gF h36 rfl rfl rfl rfl rfl ?_
              refine gT h32 rfl rfl rfl rfl rfl rfl (AO.ops rfl rfl (opS_pick_f (av := .v _) rfl h36 rfl) ?_)
              exact K _ 4 _ (B_congr (and_f h36)) rfl rfl
          refine gT h32 rfl rfl rfl rfl rfl rfl (AO.ops rfl rfl (opS_eqb Tryz.underlying4 rfl rfl) ?_)
          refine sS rfl rfl rfl (opS_pick_t (av := .v _) rfl h32 rfl) ?_
          exact K _ 9 _ (B_congr (and_t h32)) rfl rfl
        ·
          refine gF h32 rfl rfl rfl rfl rfl ?_
          refine gF h32 rfl rfl rfl rfl rfl ?_
          refine gF h32 rfl rfl rfl rfl rfl ?_
          refine gF h32 rfl rfl rfl rfl rfl ?_
          refine gF h32 rfl rfl rfl rfl rfl ?_
          refine gU rfl rfl rfl rfl rfl ?_
          refine gU rfl rfl rfl rfl rfl ?_
          refine gU rfl rfl rfl rfl rfl ?_
          refine gF h32 rfl rfl rfl rfl rfl ?_
          refine gF h32 rfl rfl rfl rfl rfl ?_
          refine gU rfl rfl rfl rfl rfl ?_
          refine gU rfl rfl rfl rfl rfl ?_
          refine gU rfl rfl rfl rfl rfl ?_
          refine gU rfl rfl rfl rfl rfl ?_
          refine gF h32 rfl rfl rfl rfl rfl ?_
          refine gF h32 rfl rfl rfl rfl rfl ?_
          refine sS rfl rfl rfl (opS_pick_f (av := .v _) rfl h32 rfl) ?_
          exact K _ 16 _ (B_congr (and_f h32)) rfl rfl
      refine sS rfl rfl rfl (asg rfl) ?_
      refine AR.nil ?_
      show AW _ _ _ _ _ _
      refine AW.ret ?_
      obtain rfl := Option.some.inj H
      exact And.intro rfl (Exists.intro _ (Exists.intro _ ⟨ResV.oneW rfl (.refl _), Sub.at [] rfl, rfl, rfl⟩))
end Go.Proofs.YtpbfajkbkomfcaaGreatDoor
