/-
  The statement CronDays: what is run is what the plain functions say. Printed by a program of ours.
-/
import Derived.Test.YtpbfajkbkomfcaaGreatDoorAvE
import Derived.Test.YtpbfajkbkomfcaaGreatDoorPvLib
import Derived.Test.YtpbfajkbkomfcaaGreatDoorP11Split
import Derived.Test.YtpbfajkbkomfcaaGreatDoorAvStill
import Derived.Test.YtpbfajkbkomfcaaGreatDoorChecked
import Derived.Test.YtpbfajkbkomfcaaGreatDoorCronLW
import Derived.Test.YtpbfajkbkomfcaaGreatDoorCronQW
import Derived.Test.YtpbfajkbkomfcaaGreatDoorLCronDaysP
set_option linter.unusedVariables false
set_option linter.unusedSimpArgs false
namespace Go.Proofs.YtpbfajkbkomfcaaGreatDoor
open Go.RowKit Go.Av Go.Pv
theorem en9_lcrondays : ∀ (args : Array Value) (w : World), (callFunc 9 args).run Tryz.prog w = .ok (.enter 9 args) w := fun _ _ => by kernel_rfl
theorem en13_lcrondays : ∀ (args : Array Value) (w : World), (callFunc 13 args).run Tryz.prog w = .ok (.enter 13 args) w := fun _ _ => by kernel_rfl
theorem en14_lcrondays : ∀ (args : Array Value) (w : World), (callFunc 14 args).run Tryz.prog w = .ok (.enter 14 args) w := fun _ _ => by kernel_rfl
theorem en15_lcrondays : ∀ (args : Array Value) (w : World), (callFunc 15 args).run Tryz.prog w = .ok (.enter 15 args) w := fun _ _ => by kernel_rfl
theorem en16_lcrondays : ∀ (args : Array Value) (w : World), (callFunc 16 args).run Tryz.prog w = .ok (.enter 16 args) w := fun _ _ => by kernel_rfl
theorem en17_lcrondays : ∀ (args : Array Value) (w : World), (callFunc 17 args).run Tryz.prog w = .ok (.enter 17 args) w := fun _ _ => by kernel_rfl
theorem en18_lcrondays : ∀ (args : Array Value) (w : World), (callFunc 18 args).run Tryz.prog w = .ok (.enter 18 args) w := fun _ _ => by kernel_rfl
set_option maxRecDepth 100000 in
set_option maxHeartbeats 1000000 in
theorem w_law05_CronDays (F : Nat) (a1 : List Int) (a2 : List Int) (a3 : List Int) (a4 : List Int) (a5 : List Int) (a6 : Bool) (a7 : Bool) (a8 : Bool) (a9 : Bool) (a10 : Bool) (a11 : Int) (a12 : Int) (a13 : Int) (r14 : Bool) (H : law05_CronDays F a1 a2 a3 a4 a5 a6 a7 a8 a9 a10 a11 a12 a13 = some r14) : ACalls Tryz.prog 4 [.agg [slE Enc.int a1 none, slE Enc.int a2 none, slE Enc.int a3 none, slE Enc.int a4 none, slE Enc.int a5 none, B a6, B a7, B a8, B a9, B a10], i64 a11, i64 a12, i64 a13] [] (Ret (B r14) []) := by
  unfold law05_CronDays at H
  refine ACalls.of_body Tryz.func4 rfl rfl ?_
  show AW _ _ 86 _ _ _
  refine AW.seq ?_
  refine AW.region ?_
  show AR _ _ _ _ _ [0, 1] _
  refine sR rfl rfl rfl (opR_boxCp rfl (.inr ⟨_, rfl⟩)) ?_
  refine sS rfl rfl rfl (asg rfl) ?_
  refine AR.nil ?_
  show AW _ _ _ _ _ _
  refine AW.seq ?_
  obtain ⟨x15, e16, H⟩ := bnd_s H
  refine AW.region ?_
  show AR _ _ _ _ _ [0, 1] _
  refine AR.run rfl rfl (AO.callp rfl en9_lcrondays rfl (w_law05_awake F x15 e16) ?_)
  refine sS rfl rfl rfl (asg rfl) ?_
  refine AR.nil ?_
  show AW _ _ _ _ _ _
  refine AW.seq ?_
  obtain ⟨x17, e18, H⟩ := bnd_s H
  refine AW.region ?_
  show AR _ _ _ _ _ [0, 1, 2] _
  refine sS rfl rfl rfl (opS_load_cp_agg Tryz.underlying27 rfl (n := 10) (by kernel_rfl) rfl (Nat.le_of_ble_eq_true rfl)) ?_
  refine AR.run rfl rfl (AO.callp rfl en13_lcrondays rfl (w_law05_Few F a1 a2 a3 a4 a5 a6 a7 a8 a9 a10 x17 e18) ?_)
  refine sS rfl rfl rfl (asg rfl) ?_
  refine AR.nil ?_
  show AW _ _ _ _ _ _
  refine AW.seq ?_
  obtain ⟨x19, x20, e21, H⟩ := bnd2_s H
  refine AW.region ?_
  show AR _ _ _ _ _ [0, 1, 2, 3, 4, 5, 6, 7, 8] _
  refine sS rfl rfl rfl (mv rfl) ?_
  refine sS rfl rfl rfl (mv rfl) ?_
  refine sS rfl rfl rfl (mv rfl) ?_
  refine AR.run rfl rfl (AO.callp rfl en14_lcrondays rfl (w_civil_Ord F a11 a12 a13 x19 x20 e21) ?_)
  refine sS rfl rfl rfl (opS_move (av := .tup _) rfl) ?_
  refine sS rfl rfl rfl (opS_extract (av := .v _) rfl rfl) ?_
  refine sS rfl rfl rfl (opS_extract (av := .v _) rfl rfl) ?_
  refine sS rfl rfl rfl (asg rfl) ?_
  refine sS rfl rfl rfl (asg rfl) ?_
  refine AR.nil ?_
  show AW _ _ _ _ _ _
  refine AW.seq ?_
  refine AW.seq ?_
  obtain ⟨x24, e25, H⟩ := bndc_s H
  refine AW.region ?_
  show AR _ _ _ _ _ [0, 1, 2, 3, 4, 5, 6, 7, 8, 9, 10] _
  refine sS rfl rfl rfl (mv rfl) ?_
  refine sS rfl rfl rfl (opS_not rfl) ?_
  refine sS rfl rfl rfl (mv rfl) ?_
  refine AR.meet (l := [6, 7, 8, 9, 10]) 32 (B ((!x15) || (!x17))) (fun K => ?_) ?_
  · rcases Bool.eq_false_or_eq_true (!x15) with h22 | h22
    ·
      refine gF h22 rfl rfl rfl rfl rfl ?_
      refine gF h22 rfl rfl rfl rfl rfl ?_
      refine sS rfl rfl rfl (opS_pick_t (av := .v _) rfl h22 rfl) ?_
      exact K _ 2 _ (B_congr (or_t h22)) rfl rfl
    ·
      refine gT h22 rfl rfl rfl rfl rfl rfl (AO.ops rfl rfl (mv rfl) ?_)
      refine gT h22 rfl rfl rfl rfl rfl rfl (AO.ops rfl rfl (opS_not rfl) ?_)
      refine sS rfl rfl rfl (opS_pick_f (av := .v _) rfl h22 rfl) ?_
      exact K _ 2 _ (B_congr (or_f h22)) rfl rfl
  refine sS rfl rfl rfl (mv rfl) ?_
  refine AR.meet (l := []) 37 (B (((!x15) || (!x17)) || (!x24))) (fun K => ?_) ?_
  · rcases Bool.eq_false_or_eq_true ((!x15) || (!x17)) with h23 | h23
    ·
      refine gF h23 rfl rfl rfl rfl rfl ?_
      refine gF h23 rfl rfl rfl rfl rfl ?_
      refine gF h23 rfl rfl rfl rfl rfl ?_
      refine sS rfl rfl rfl (opS_pick_t (av := .v _) rfl h23 rfl) ?_
      exact K _ 3 _ (B_congr (or_t h23)) rfl rfl
    ·
      refine gT h23 rfl rfl rfl rfl rfl rfl (AO.ops rfl rfl (opS_load_cp_agg Tryz.underlying27 rfl (n := 10) (by kernel_rfl) rfl (Nat.le_of_ble_eq_true rfl)) ?_)
      refine gT h23 rfl rfl rfl rfl rfl rfl (AO.callp rfl en15_lcrondays rfl (w_cron_May F a1 a2 a3 a4 a5 a6 a7 a8 a9 a10 x24 (e25 (nf h23))) ?_)
      refine gT h23 rfl rfl rfl rfl rfl rfl (AO.ops rfl rfl (opS_not rfl) ?_)
      refine sS rfl rfl rfl (opS_pick_f (av := .v _) rfl h23 rfl) ?_
      exact K _ 3 _ (B_congr (or_f h23)) rfl rfl
  refine AR.nil ?_
  show AW _ _ _ _ _ _
  refine AW.cond rfl (fun c26 => ?_) (fun c26 => ?_)
  · replace H := cnd_t c26 H
    refine AW.seq ?_
    refine AW.region ?_
    show AR _ _ _ _ _ [0, 1] _
    refine sS rfl rfl rfl (mv rfl) ?_
    refine sS rfl rfl rfl (asg rfl) ?_
    refine AR.nil ?_
    show AW _ _ _ _ _ _
    refine AW.ret ?_
    obtain rfl := Option.some.inj H
    exact And.intro rfl (Exists.intro _ (Exists.intro _ ⟨ResV.oneW rfl (.refl _), Sub.at [] rfl, rfl, rfl⟩))
  · replace H := cnd_f c26 H
    refine AW.skip ?_
    show AW _ _ _ _ _ _
    refine AW.seq ?_
    obtain ⟨x27, e28, H⟩ := bnd_s H
    refine AW.region ?_
    show AR _ _ _ _ _ [0, 1, 2, 3, 4, 5] _
    refine sS rfl rfl rfl (opS_load_cp_agg Tryz.underlying27 rfl (n := 10) (by kernel_rfl) rfl (Nat.le_of_ble_eq_true rfl)) ?_
    refine sS rfl rfl rfl (mv rfl) ?_
    refine sS rfl rfl rfl (mv rfl) ?_
    refine sS rfl rfl rfl (mv rfl) ?_
    refine AR.run rfl rfl (AO.callp rfl en16_lcrondays rfl (w_cron_Day F a1 a2 a3 a4 a5 a6 a7 a8 a9 a10 a11 a12 a13 x27 e28) ?_)
    refine sS rfl rfl rfl (asg rfl) ?_
    refine AR.nil ?_
    show AW _ _ _ _ _ _
    refine AW.seq ?_
    refine AW.seq ?_
    refine AW.region ?_
    show AR _ _ _ _ _ [0, 1] _
    refine sS rfl rfl rfl (mv rfl) ?_
    refine sS rfl rfl rfl (opS_nei rfl rfl) ?_
    refine AR.nil ?_
    show AW _ _ _ _ _ _
    refine AW.cond rfl (fun c29 => ?_) (fun c29 => ?_)
    · replace H := cnd_t c29 H
      refine AW.seq ?_
      refine AW.region ?_
      show AR _ _ _ _ _ [0, 1, 2] _
      refine sS rfl rfl rfl (mv rfl) ?_
      refine sS rfl rfl rfl (opS_not rfl) ?_
      refine sS rfl rfl rfl (asg rfl) ?_
      refine AR.nil ?_
      show AW _ _ _ _ _ _
      refine AW.ret ?_
      obtain rfl := Option.some.inj H
      exact And.intro rfl (Exists.intro _ (Exists.intro _ ⟨ResV.oneW rfl (.refl _), Sub.at [] rfl, rfl, rfl⟩))
    · replace H := cnd_f c29 H
      refine AW.skip ?_
      show AW _ _ _ _ _ _
      refine AW.seq ?_
      obtain ⟨x30, e31, H⟩ := bnd_s H
      refine AW.region ?_
      show AR _ _ _ _ _ [0, 1, 2, 3, 4, 5] _
      refine sS rfl rfl rfl (opS_fieldAddr_cp (n := 0) (by kernel_rfl) rfl (Nat.le_of_ble_eq_true rfl)) ?_
      refine sS rfl rfl rfl (opS_indexAddr_arr_cp (k := 1) (m := 2) Tryz.underlying24 (by kernel_rfl) rfl rfl rfl (by decide) (Nat.le_of_ble_eq_true rfl)) ?_
      refine sS rfl rfl rfl (opS_load_cp Tryz.underlying23 rfl rfl) ?_
      refine sS rfl rfl rfl (mv rfl) ?_
      refine AR.run rfl rfl (AO.callp rfl en17_lcrondays rfl (w_ref05_Has F a3 none a13 x30 e31) ?_)
      refine sS rfl rfl rfl (asg rfl) ?_
      refine AR.nil ?_
      show AW _ _ _ _ _ _
      refine AW.seq ?_
      obtain ⟨x32, e33, H⟩ := bnd_s H
      obtain ⟨x34, e35, H⟩ := bnd_s H
      refine AW.region_draw (by kernel_rfl) ?_
      show AI _ _ _ _ 7 (Array.replicate 7 false) _
      refine AI.take (i := 0) rfl rfl (by kernel_rfl) (by kernel_rfl) (by kernel_rfl) (fun _ _ h => h) (opS_fieldAddr_cp (n := 0) (by kernel_rfl) rfl (Nat.le_of_ble_eq_true rfl)) ?_
      show AI _ _ _ _ _ #[true, false, false, false, false, false, false] _
      refine AI.take (i := 1) rfl rfl (by kernel_rfl) (by kernel_rfl) (by kernel_rfl) (fun _ _ h => h) (opS_indexAddr_arr_cp (k := 1) (m := 4) Tryz.underlying24 (by kernel_rfl) rfl rfl rfl (by decide) (Nat.le_of_ble_eq_true rfl)) ?_
      show AI _ _ _ _ _ #[true, true, false, false, false, false, false] _
      refine AI.take (i := 2) rfl rfl (by kernel_rfl) (by kernel_rfl) (by kernel_rfl) (fun _ _ h => h) (opS_load_cp Tryz.underlying23 rfl rfl) ?_
      show AI _ _ _ _ _ #[true, true, true, false, false, false, false] _
      refine AI.take (i := 3) rfl rfl (by kernel_rfl) (by kernel_rfl) (by kernel_rfl) (fun _ _ h => h) (mv rfl) ?_
      show AI _ _ _ _ _ #[true, true, true, true, false, false, false] _
      refine AI.one (i := 4) (by kernel_rfl) rfl rfl ?_
      refine AIO.callp rfl en18_lcrondays rfl (w_civil_Wday F x19 x32 e33) ?_
      show AI _ _ _ _ _ #[true, true, true, true, true, false, false] _
      refine AI.one (i := 5) (by kernel_rfl) rfl rfl ?_
      refine AIO.callp rfl en17_lcrondays rfl (w_ref05_Has F a5 none x32 x34 e35) ?_
      show AI _ _ _ _ _ #[true, true, true, true, true, true, false] _
      refine AI.take (i := 6) rfl rfl (by kernel_rfl) (by kernel_rfl) (by kernel_rfl) (fun _ _ h => h) (asg rfl) ?_
      show AI _ _ _ _ _ #[true, true, true, true, true, true, true] _
      refine AI.done rfl ?_
      show AW _ _ _ _ _ _
      refine AW.seq ?_
      obtain ⟨x36, e37, H⟩ := bnd_s H
      refine AW.region ?_
      show AR _ _ _ _ _ [0, 1, 2, 3, 4, 5] _
      refine sS rfl rfl rfl (opS_fieldAddr_cp (n := 0) (by kernel_rfl) rfl (Nat.le_of_ble_eq_true rfl)) ?_
      refine sS rfl rfl rfl (opS_indexAddr_arr_cp (k := 1) (m := 3) Tryz.underlying24 (by kernel_rfl) rfl rfl rfl (by decide) (Nat.le_of_ble_eq_true rfl)) ?_
      refine sS rfl rfl rfl (opS_load_cp Tryz.underlying23 rfl rfl) ?_
      refine sS rfl rfl rfl (mv rfl) ?_
      refine AR.run rfl rfl (AO.callp rfl en17_lcrondays rfl (w_ref05_Has F a4 none a12 x36 e37) ?_)
      refine sS rfl rfl rfl (asg rfl) ?_
      refine AR.nil ?_
      show AW _ _ _ _ _ _
      refine AW.seq ?_
      refine AW.seq ?_
      refine AW.region ?_
      show AR _ _ _ _ _ [0, 1] _
      refine sS rfl rfl rfl (mv rfl) ?_
      refine sS rfl rfl rfl (opS_not rfl) ?_
      refine AR.nil ?_
      show AW _ _ _ _ _ _
      refine AW.cond rfl (fun c38 => ?_) (fun c38 => ?_)
      · replace H := cnd_t c38 H
        refine AW.seq ?_
        refine AW.region ?_
        show AR _ _ _ _ _ [0, 1, 2] _
        refine sS rfl rfl rfl (mv rfl) ?_
        refine sS rfl rfl rfl (opS_not rfl) ?_
        refine sS rfl rfl rfl (asg rfl) ?_
        refine AR.nil ?_
        show AW _ _ _ _ _ _
        refine AW.ret ?_
        obtain rfl := Option.some.inj H
        exact And.intro rfl (Exists.intro _ (Exists.intro _ ⟨ResV.oneW rfl (.refl _), Sub.at [] rfl, rfl, rfl⟩))
      · replace H := cnd_f c38 H
        refine AW.skip ?_
        show AW _ _ _ _ _ _
        refine AW.seq ?_
        refine AW.seq ?_
        refine AW.region ?_
        show AR _ _ _ _ _ [0, 1, 2] _
        refine sS rfl rfl rfl (opS_fieldAddr_cp (n := 5) (by kernel_rfl) rfl (Nat.le_of_ble_eq_true rfl)) ?_
        refine sS rfl rfl rfl (opS_indexAddr_arr_cp (k := 1) (m := 2) Tryz.underlying25 (by kernel_rfl) rfl rfl rfl (by decide) (Nat.le_of_ble_eq_true rfl)) ?_
        refine sS rfl rfl rfl (opS_load_cp Tryz.underlying4 rfl rfl) ?_
        refine AR.nil ?_
        show AW _ _ _ _ _ _
        refine AW.cond rfl (fun c39 => ?_) (fun c39 => ?_)
        · replace H := cnd_t c39 H
          refine AW.seq ?_
          refine AW.region ?_
          show AR _ _ _ _ _ [0, 1, 2, 3] _
          refine sS rfl rfl rfl (mv rfl) ?_
          refine sS rfl rfl rfl (mv rfl) ?_
          refine sS rfl rfl rfl (opS_eqb Tryz.underlying4 rfl rfl) ?_
          refine sS rfl rfl rfl (asg rfl) ?_
          refine AR.nil ?_
          show AW _ _ _ _ _ _
          refine AW.ret ?_
          obtain rfl := Option.some.inj H
          exact And.intro rfl (Exists.intro _ (Exists.intro _ ⟨ResV.oneW rfl (.refl _), Sub.at [] rfl, rfl, rfl⟩))
        · replace H := cnd_f c39 H
          refine AW.skip ?_
          show AW _ _ _ _ _ _
          refine AW.seq ?_
          refine AW.seq ?_
          refine AW.region ?_
          show AR _ _ _ _ _ [0, 1, 2] _
          refine sS rfl rfl rfl (opS_fieldAddr_cp (n := 5) (by kernel_rfl) rfl (Nat.le_of_ble_eq_true rfl)) ?_
          refine sS rfl rfl rfl (opS_indexAddr_arr_cp (k := 1) (m := 4) Tryz.underlying25 (by kernel_rfl) rfl rfl rfl (by decide) (Nat.le_of_ble_eq_true rfl)) ?_
          refine sS rfl rfl rfl (opS_load_cp Tryz.underlying4 rfl rfl) ?_
          refine AR.nil ?_
          show AW _ _ _ _ _ _
          refine AW.cond rfl (fun c40 => ?_) (fun c40 => ?_)
          · replace H := cnd_t c40 H
            refine AW.seq ?_
            refine AW.region ?_
            show AR _ _ _ _ _ [0, 1, 2, 3] _
            refine sS rfl rfl rfl (mv rfl) ?_
            refine sS rfl rfl rfl (mv rfl) ?_
            refine sS rfl rfl rfl (opS_eqb Tryz.underlying4 rfl rfl) ?_
            refine sS rfl rfl rfl (asg rfl) ?_
            refine AR.nil ?_
            show AW _ _ _ _ _ _
            refine AW.ret ?_
            obtain rfl := Option.some.inj H
            exact And.intro rfl (Exists.intro _ (Exists.intro _ ⟨ResV.oneW rfl (.refl _), Sub.at [] rfl, rfl, rfl⟩))
          · replace H := cnd_f c40 H
            refine AW.skip ?_
            show AW _ _ _ _ _ _
            refine AW.seq ?_
            refine AW.region ?_
            show AR _ _ _ _ _ [0, 1, 2, 3, 4, 5, 6] _
            refine sS rfl rfl rfl (mv rfl) ?_
            refine sS rfl rfl rfl (mv rfl) ?_
            refine sS rfl rfl rfl (mv rfl) ?_
            refine AR.meet (l := [5, 6]) 84 (B (x30 || x34)) (fun K => ?_) ?_
            · rcases Bool.eq_false_or_eq_true x30 with h41 | h41
              ·
                refine gF h41 rfl rfl rfl rfl rfl ?_
                refine sS rfl rfl rfl (opS_pick_t (av := .v _) rfl h41 rfl) ?_
                exact K _ 1 _ (B_congr (or_t h41)) rfl rfl
              ·
                refine gT h41 rfl rfl rfl rfl rfl rfl (AO.ops rfl rfl (mv rfl) ?_)
                refine sS rfl rfl rfl (opS_pick_f (av := .v _) rfl h41 rfl) ?_
                exact K _ 1 _ (B_congr (or_f h41)) rfl rfl
            refine sS rfl rfl rfl (opS_eqb Tryz.underlying4 rfl rfl) ?_
            refine sS rfl rfl rfl (asg rfl) ?_
            refine AR.nil ?_
            show AW _ _ _ _ _ _
            refine AW.ret ?_
            obtain rfl := Option.some.inj H
            exact And.intro rfl (Exists.intro _ (Exists.intro _ ⟨ResV.oneW rfl (.refl _), Sub.at [] rfl, rfl, rfl⟩))
end Go.Proofs.YtpbfajkbkomfcaaGreatDoor
