/-
  The statement CronBack: what is run is what the plain functions say. Printed by a program of ours.
-/
import Derived.Test.YtpbfajkbkomfcaaGreatDoorAvE
import Derived.Test.YtpbfajkbkomfcaaGreatDoorPvLib
import Derived.Test.YtpbfajkbkomfcaaGreatDoorP11Split
import Derived.Test.YtpbfajkbkomfcaaGreatDoorAvStill
import Derived.Test.YtpbfajkbkomfcaaGreatDoorChecked
import Derived.Test.YtpbfajkbkomfcaaGreatDoorCronLW
import Derived.Test.YtpbfajkbkomfcaaGreatDoorCronGW
import Derived.Test.YtpbfajkbkomfcaaGreatDoorLCronBackP
set_option linter.unusedVariables false
set_option linter.unusedSimpArgs false
namespace Go.Proofs.YtpbfajkbkomfcaaGreatDoor
open Go.RowKit Go.Av Go.Pv
theorem en9_lcronback : ∀ (args : Array Value) (w : World), (callFunc 9 args).run Tryz.prog w = .ok (.enter 9 args) w := fun _ _ => by kernel_rfl
theorem en10_lcronback : ∀ (args : Array Value) (w : World), (callFunc 10 args).run Tryz.prog w = .ok (.enter 10 args) w := fun _ _ => by kernel_rfl
theorem en13_lcronback : ∀ (args : Array Value) (w : World), (callFunc 13 args).run Tryz.prog w = .ok (.enter 13 args) w := fun _ _ => by kernel_rfl
theorem en15_lcronback : ∀ (args : Array Value) (w : World), (callFunc 15 args).run Tryz.prog w = .ok (.enter 15 args) w := fun _ _ => by kernel_rfl
theorem en22_lcronback : ∀ (args : Array Value) (w : World), (callFunc 22 args).run Tryz.prog w = .ok (.enter 22 args) w := fun _ _ => by kernel_rfl
theorem en27_lcronback : ∀ (args : Array Value) (w : World), (callFunc 27 args).run Tryz.prog w = .ok (.enter 27 args) w := fun _ _ => by kernel_rfl
set_option maxRecDepth 100000 in
set_option maxHeartbeats 1000000 in
theorem w_law05_CronBack (F : Nat) (a1 : List Int) (a2 : List Int) (a3 : List Int) (a4 : List Int) (a5 : List Int) (a6 : Bool) (a7 : Bool) (a8 : Bool) (a9 : Bool) (a10 : Bool) (a11 : List UInt8) (r12 : Bool) (H : law05_CronBack F a1 a2 a3 a4 a5 a6 a7 a8 a9 a10 a11 = some r12) : ACalls Tryz.prog 8 [.agg [slE Enc.int a1 none, slE Enc.int a2 none, slE Enc.int a3 none, slE Enc.int a4 none, slE Enc.int a5 none, B a6, B a7, B a8, B a9, B a10], S a11] [] (Ret (B r12) []) := by
 unfold law05_CronBack at H
 refine ACalls.of_body Tryz.func8 rfl rfl ?_
 show AW _ _ 71 _ _ _
 refine AW.seq ?_
 refine AW.region ?_
 show AR _ _ _ _ _ [0, 1] _
 refine sR rfl rfl rfl (opR_boxCp rfl (.inr ⟨_, rfl⟩)) ?_
 refine sS rfl rfl rfl (asg rfl) ?_
 refine AR.nil ?_
 show AW _ _ _ _ _ _
 refine AW.seq ?_
 obtain ⟨x13, e14, H⟩ := bnd_s H
 refine AW.region ?_
 show AR _ _ _ _ _ [0, 1] _
 refine AR.run rfl rfl (AO.callp rfl en9_lcronback rfl (w_law05_awake F x13 e14) ?_)
 refine sS rfl rfl rfl (asg rfl) ?_
 refine AR.nil ?_
 show AW _ _ _ _ _ _
 refine AW.seq ?_
 obtain ⟨x15, e16, H⟩ := bnd_s H
 refine AW.region ?_
 show AR _ _ _ _ _ [0, 1, 2] _
 refine sS rfl rfl rfl (opS_load_cp_agg Tryz.underlying27 rfl (n := 10) (by kernel_rfl) rfl (Nat.le_of_ble_eq_true rfl)) ?_
 refine AR.run rfl rfl (AO.callp rfl en13_lcronback rfl (w_law05_Few F a1 a2 a3 a4 a5 a6 a7 a8 a9 a10 x15 e16) ?_)
 refine sS rfl rfl rfl (asg rfl) ?_
 refine AR.nil ?_
 show AW _ _ _ _ _ _
 refine AW.seq ?_
 refine AW.seq ?_
 refine AW.region ?_
 show AR _ _ _ _ _ [0, 1, 2, 3, 4, 5, 6, 7, 8, 9, 10] _
 refine sS rfl rfl rfl (mv rfl) ?_
 refine sS rfl rfl rfl (opS_not rfl) ?_
 refine sS rfl rfl rfl (mv rfl) ?_
 refine AR.meet (l := [6, 7, 8, 9, 10]) 21 (B ((!x13) || (!x15))) (fun K => ?_) ?_
 ·rcases Bool.eq_false_or_eq_true (!x13) with h17 | h17
  ·
   refine gF h17 rfl rfl rfl rfl rfl ?_
   refine gF h17 rfl rfl rfl rfl rfl ?_
   refine sS rfl rfl rfl (opS_pick_t (av := .v _) rfl h17 rfl) ?_
   exact K _ 2 _ (B_congr (or_t h17)) rfl rfl
  ·
   refine gT h17 rfl rfl rfl rfl rfl rfl (AO.ops rfl rfl (mv rfl) ?_)
   refine gT h17 rfl rfl rfl rfl rfl rfl (AO.ops rfl rfl (opS_not rfl) ?_)
   refine sS rfl rfl rfl (opS_pick_f (av := .v _) rfl h17 rfl) ?_
   exact K _ 2 _ (B_congr (or_f h17)) rfl rfl
 refine sS rfl rfl rfl (mv rfl) ?_
 refine AR.meet (l := []) 26 (B (((!x13) || (!x15)) || (decide (300 < (a11.length : Int))))) (fun K => ?_) ?_
 ·rcases Bool.eq_false_or_eq_true ((!x13) || (!x15)) with h18 | h18
  ·
   refine gF h18 rfl rfl rfl rfl rfl ?_
   refine gF h18 rfl rfl rfl rfl rfl ?_
   refine gF h18 rfl rfl rfl rfl rfl ?_
   refine sS rfl rfl rfl (opS_pick_t (av := .v _) rfl h18 rfl) ?_
   exact K _ 3 _ (B_congr (or_t h18)) rfl rfl
  ·
   refine gT h18 rfl rfl rfl rfl rfl rfl (AO.ops rfl rfl (mv rfl) ?_)
   refine gT h18 rfl rfl rfl rfl rfl rfl (AO.ops rfl rfl (opS_len_str Tryz.underlying9 rfl) ?_)
   refine gT h18 rfl rfl rfl rfl rfl rfl (AO.ops rfl rfl (opS_gt rfl rfl) ?_)
   refine sS rfl rfl rfl (opS_pick_f (av := .v _) rfl h18 rfl) ?_
   exact K _ 3 _ (B_congr (or_f h18)) rfl rfl
 refine AR.nil ?_
 show AW _ _ _ _ _ _
 refine AW.cond rfl (fun c19 => ?_) (fun c19 => ?_)
 ·replace H := cnd_t c19 H
  refine AW.seq ?_
  refine AW.region ?_
  show AR _ _ _ _ _ [0, 1] _
  refine sS rfl rfl rfl (mv rfl) ?_
  refine sS rfl rfl rfl (asg rfl) ?_
  refine AR.nil ?_
  show AW _ _ _ _ _ _
  refine AW.ret ?_
  obtain rfl := Option.some.inj H
  exact And.intro rfl (Exists.intro _ (Exists.intro _ ⟨ResV.oneW rfl (.refl _), Sub.at [] rfl, rfl, rfl⟩))
 ·replace H := cnd_f c19 H
  refine AW.skip ?_
  show AW _ _ _ _ _ _
  refine AW.seq ?_
  obtain ⟨x20, x21, e22, H⟩ := bnd2_s H
  refine AW.region ?_
  show AR _ _ _ _ _ [0, 1, 2, 3, 4, 5, 6] _
  refine sS rfl rfl rfl (opS_load_cp_agg Tryz.underlying27 rfl (n := 10) (by kernel_rfl) rfl (Nat.le_of_ble_eq_true rfl)) ?_
  refine AR.run rfl rfl (AO.callp rfl en22_lcronback rfl (w_cron_Write F a1 a2 a3 a4 a5 a6 a7 a8 a9 a10 x20 x21 e22) ?_)
  refine sS rfl rfl rfl (opS_move (av := .tup _) rfl) ?_
  refine sS rfl rfl rfl (opS_extract (av := .v _) rfl rfl) ?_
  refine sS rfl rfl rfl (opS_extract (av := .v _) rfl rfl) ?_
  refine sS rfl rfl rfl (asg rfl) ?_
  refine sS rfl rfl rfl (asg rfl) ?_
  refine AR.nil ?_
  show AW _ _ _ _ _ _
  refine AW.cut (X := Unit) (fun _ => ⟨[(1, S a11)], [], []⟩) (fun _ => law05_CronBack_j1 F a11 = some r12) ?_ ?_
  ·
   refine AW.seq ?_
   refine AW.region ?_
   show AR _ _ _ _ _ [0, 1] _
   refine sS rfl rfl rfl (mv rfl) ?_
   refine sS rfl rfl rfl (opS_eqi rfl rfl) ?_
   refine AR.nil ?_
   show AW _ _ _ _ _ _
   refine AW.cond rfl (fun c23 => ?_) (fun c23 => ?_)
   ·replace H := cnd_t c23 H
    refine AW.seq ?_
    obtain ⟨x24, e25, H⟩ := bnd_s H
    refine AW.region ?_
    show AR _ _ _ _ _ [0, 1, 2, 3, 4, 5, 6, 7] _
    refine sS rfl rfl rfl (mv rfl) ?_
    refine AR.run rfl rfl (AO.callp rfl en10_lcronback rfl (w_cron_Parse F x20 x24.1 x24.2.1 x24.2.2.1 x24.2.2.2.1 x24.2.2.2.2.1 x24.2.2.2.2.2.1 x24.2.2.2.2.2.2.1 x24.2.2.2.2.2.2.2.1 x24.2.2.2.2.2.2.2.2.1 x24.2.2.2.2.2.2.2.2.2.1 x24.2.2.2.2.2.2.2.2.2.2 e25) ?_)
    refine sS rfl rfl rfl (opS_move (av := .tup _) rfl) ?_
    refine sS rfl rfl rfl (opS_extract (av := .agg _) rfl rfl) ?_
    refine sS rfl rfl rfl (opS_extract (av := .v _) rfl rfl) ?_
    refine sX rfl rfl rfl (opX_alloc (zs := [.slice none 0 0, .slice none 0 0, .slice none 0 0, .slice none 0 0, .slice none 0 0, .bool false, .bool false, .bool false, .bool false, .bool false]) (by kernel_rfl)) ?_
    rintro _ _ ⟨o26, rfl, rfl⟩
    refine s0 rfl rfl (opR_store_agg (i := 0) (vs := [slE Enc.int x24.1 none, slE Enc.int x24.2.1 none, slE Enc.int x24.2.2.1 none, slE Enc.int x24.2.2.2.1 none, slE Enc.int x24.2.2.2.2.1 none, B x24.2.2.2.2.2.1, B x24.2.2.2.2.2.2.1, B x24.2.2.2.2.2.2.2.1, B x24.2.2.2.2.2.2.2.2.1, B x24.2.2.2.2.2.2.2.2.2.1]) (by kernel_rfl) rfl rfl (by simp [isCell, slE]) rfl (Nat.le_of_ble_eq_true rfl)) ?_
    refine AR.freezeCp 9 0 rfl rfl ?_
    show AR _ _ _ _ _ _ ⟨_, _, []⟩
    refine sS rfl rfl rfl (asg rfl) ?_
    refine AR.nil ?_
    show AW _ _ _ _ _ _
    refine AW.seq ?_
    obtain ⟨x30, e31, H⟩ := bndc_s H
    refine AW.region ?_
    show AR _ _ _ _ _ [0, 1, 2, 3, 4, 5, 6, 7, 8, 9, 10, 11, 12, 13, 14, 15, 16, 17, 18, 19] _
    refine sS rfl rfl rfl (mv rfl) ?_
    refine sS rfl rfl rfl (opS_eqi rfl rfl) ?_
    refine sS rfl rfl rfl (mv rfl) ?_
    refine sS rfl rfl rfl (opS_len_str Tryz.underlying9 rfl) ?_
    refine sS rfl rfl rfl (opS_gt rfl rfl) ?_
    refine sS rfl rfl rfl (opS_neb Tryz.underlying4 rfl rfl) ?_
    refine sS rfl rfl rfl (mv rfl) ?_
    refine AR.meet (l := []) 59 (B ((!((decide (x24.2.2.2.2.2.2.2.2.2.2 = 4)) == (decide (200 < (x20.length : Int))))) || ((!decide (x24.2.2.2.2.2.2.2.2.2.2 = 4)) && ((!decide (x24.2.2.2.2.2.2.2.2.2.2 = 0)) || (!x30))))) (fun K => ?_) ?_
    ·rcases Bool.eq_false_or_eq_true (!((decide (x24.2.2.2.2.2.2.2.2.2.2 = 4)) == (decide (200 < (x20.length : Int))))) with h27 | h27
     ·
      refine gF h27 rfl rfl rfl rfl rfl ?_
      refine gF h27 rfl rfl rfl rfl rfl ?_
      refine gF h27 rfl rfl rfl rfl rfl ?_
      refine gU rfl rfl rfl rfl rfl ?_
      refine gU rfl rfl rfl rfl rfl ?_
      refine gU rfl rfl rfl rfl rfl ?_
      refine gU rfl rfl rfl rfl rfl ?_
      refine gU rfl rfl rfl rfl rfl ?_
      refine gU rfl rfl rfl rfl rfl ?_
      refine gU rfl rfl rfl rfl rfl ?_
      refine gU rfl rfl rfl rfl rfl ?_
      refine gF h27 rfl rfl rfl rfl rfl ?_
      refine sS rfl rfl rfl (opS_pick_t (av := .v _) rfl h27 rfl) ?_
      exact K _ 12 _ (B_congr (or_t h27)) rfl rfl
     ·
      refine gT h27 rfl rfl rfl rfl rfl rfl (AO.ops rfl rfl (mv rfl) ?_)
      refine gT h27 rfl rfl rfl rfl rfl rfl (AO.ops rfl rfl (opS_nei rfl rfl) ?_)
      refine gT h27 rfl rfl rfl rfl rfl rfl (AO.ops rfl rfl (mv rfl) ?_)
      refine AR.meet (l := [19]) 58 (B ((!decide (x24.2.2.2.2.2.2.2.2.2.2 = 4)) && ((!decide (x24.2.2.2.2.2.2.2.2.2.2 = 0)) || (!x30)))) (fun K => ?_) ?_
      ·rcases Bool.eq_false_or_eq_true (!decide (x24.2.2.2.2.2.2.2.2.2.2 = 4)) with h28 | h28
       ·
        refine gT h28 rfl rfl rfl rfl rfl rfl (AO.ops rfl rfl (mv rfl) ?_)
        refine gT h28 rfl rfl rfl rfl rfl rfl (AO.ops rfl rfl (opS_nei rfl rfl) ?_)
        refine gT h28 rfl rfl rfl rfl rfl rfl (AO.ops rfl rfl (mv rfl) ?_)
        refine AR.meet (l := [18, 19]) 57 (B ((!decide (x24.2.2.2.2.2.2.2.2.2.2 = 0)) || (!x30))) (fun K => ?_) ?_
        ·rcases Bool.eq_false_or_eq_true (!decide (x24.2.2.2.2.2.2.2.2.2.2 = 0)) with h29 | h29
         ·
          refine gF h29 rfl rfl rfl rfl rfl ?_
          refine gF h29 rfl rfl rfl rfl rfl ?_
          refine gF h29 rfl rfl rfl rfl rfl ?_
          refine gF h29 rfl rfl rfl rfl rfl ?_
          refine gT h28 rfl rfl rfl rfl rfl rfl (AO.ops rfl rfl (opS_pick_t (av := .v _) rfl h29 rfl) ?_)
          exact K _ 4 _ (B_congr (or_t h29)) rfl rfl
         ·
          refine gT h29 rfl rfl rfl rfl rfl rfl (AO.ops rfl rfl (opS_load_cp_agg Tryz.underlying27 rfl (n := 10) (by kernel_rfl) rfl (Nat.le_of_ble_eq_true rfl)) ?_)
          refine gT h29 rfl rfl rfl rfl rfl rfl (AO.ops rfl rfl (opS_load_cp_agg Tryz.underlying27 rfl (n := 10) (by kernel_rfl) rfl (Nat.le_of_ble_eq_true rfl)) ?_)
          refine gT h29 rfl rfl rfl rfl rfl rfl (AO.callp rfl en27_lcronback rfl (w_cron_Same F a1 a2 a3 a4 a5 a6 a7 a8 a9 a10 x24.1 x24.2.1 x24.2.2.1 x24.2.2.2.1 x24.2.2.2.2.1 x24.2.2.2.2.2.1 x24.2.2.2.2.2.2.1 x24.2.2.2.2.2.2.2.1 x24.2.2.2.2.2.2.2.2.1 x24.2.2.2.2.2.2.2.2.2.1 x30 (e31 (and_tt (and_tt (nf h27) h28) (nf h29)))) ?_)
          refine gT h29 rfl rfl rfl rfl rfl rfl (AO.ops rfl rfl (opS_not rfl) ?_)
          refine gT h28 rfl rfl rfl rfl rfl rfl (AO.ops rfl rfl (opS_pick_f (av := .v _) rfl h29 rfl) ?_)
          exact K _ 4 _ (B_congr (or_f h29)) rfl rfl
        refine gT h27 rfl rfl rfl rfl rfl rfl (AO.ops rfl rfl (opS_pick_t (av := .v _) rfl h28 rfl) ?_)
        exact K _ 4 _ (B_congr (and_t h28)) rfl rfl
       ·
        refine gF h28 rfl rfl rfl rfl rfl ?_
        refine gF h28 rfl rfl rfl rfl rfl ?_
        refine gF h28 rfl rfl rfl rfl rfl ?_
        refine gU rfl rfl rfl rfl rfl ?_
        refine gU rfl rfl rfl rfl rfl ?_
        refine gU rfl rfl rfl rfl rfl ?_
        refine gU rfl rfl rfl rfl rfl ?_
        refine gF h28 rfl rfl rfl rfl rfl ?_
        refine gT h27 rfl rfl rfl rfl rfl rfl (AO.ops rfl rfl (opS_pick_f (av := .v _) rfl h28 rfl) ?_)
        exact K _ 8 _ (B_congr (and_f h28)) rfl rfl
      refine sS rfl rfl rfl (opS_pick_f (av := .v _) rfl h27 rfl) ?_
      exact K _ 4 _ (B_congr (or_f h27)) rfl rfl
    refine AR.nil ?_
    show AW _ _ _ _ _ _
    refine AW.cond rfl (fun c32 => ?_) (fun c32 => ?_)
    ·replace H := cnd_t c32 H
     refine AW.seq ?_
     refine AW.region ?_
     show AR _ _ _ _ _ [0] _
     refine sS rfl rfl rfl (asg rfl) ?_
     refine AR.nil ?_
     show AW _ _ _ _ _ _
     refine AW.ret ?_
     obtain rfl := Option.some.inj H
     exact And.intro rfl (Exists.intro _ (Exists.intro _ ⟨ResV.oneW rfl (.refl _), Sub.at [] rfl, rfl, rfl⟩))
    ·replace H := cnd_f c32 H
     refine AW.skip ?_
     exact Exists.intro () ⟨H, WK.at [] (.cons (.refl _) (.nil _)) rfl⟩
   ·replace H := cnd_f c23 H
    refine AW.skip ?_
    exact Exists.intro () ⟨H, WK.at [] (.cons (.refl _) (.nil _)) rfl⟩
  rintro _ H
  replace H : law05_CronBack_j1 F a11 = some r12 := H
  unfold law05_CronBack_j1 at H
  show AW _ _ _ _ _ _
  refine AW.seq ?_
  obtain ⟨x34, e35, H⟩ := bnd_s H
  refine AW.region ?_
  show AR _ _ _ _ _ [0, 1, 2, 3, 4, 5, 6, 7] _
  refine sS rfl rfl rfl (mv rfl) ?_
  refine AR.run rfl rfl (AO.callp rfl en10_lcronback rfl (w_cron_Parse F a11 x34.1 x34.2.1 x34.2.2.1 x34.2.2.2.1 x34.2.2.2.2.1 x34.2.2.2.2.2.1 x34.2.2.2.2.2.2.1 x34.2.2.2.2.2.2.2.1 x34.2.2.2.2.2.2.2.2.1 x34.2.2.2.2.2.2.2.2.2.1 x34.2.2.2.2.2.2.2.2.2.2 e35) ?_)
  refine sS rfl rfl rfl (opS_move (av := .tup _) rfl) ?_
  refine sS rfl rfl rfl (opS_extract (av := .agg _) rfl rfl) ?_
  refine sS rfl rfl rfl (opS_extract (av := .v _) rfl rfl) ?_
  refine sX rfl rfl rfl (opX_alloc (zs := [.slice none 0 0, .slice none 0 0, .slice none 0 0, .slice none 0 0, .slice none 0 0, .bool false, .bool false, .bool false, .bool false, .bool false]) (by kernel_rfl)) ?_
  rintro _ _ ⟨o36, rfl, rfl⟩
  refine s0 rfl rfl (opR_store_agg (i := 0) (vs := [slE Enc.int x34.1 none, slE Enc.int x34.2.1 none, slE Enc.int x34.2.2.1 none, slE Enc.int x34.2.2.2.1 none, slE Enc.int x34.2.2.2.2.1 none, B x34.2.2.2.2.2.1, B x34.2.2.2.2.2.2.1, B x34.2.2.2.2.2.2.2.1, B x34.2.2.2.2.2.2.2.2.1, B x34.2.2.2.2.2.2.2.2.2.1]) (by kernel_rfl) rfl rfl (by simp [isCell, slE]) rfl (Nat.le_of_ble_eq_true rfl)) ?_
  refine AR.freezeCp 11 0 rfl rfl ?_
  show AR _ _ _ _ _ _ ⟨_, _, []⟩
  refine sS rfl rfl rfl (asg rfl) ?_
  refine AR.nil ?_
  show AW _ _ _ _ _ _
  refine AW.seq ?_
  obtain ⟨x38, e39, H⟩ := bndc_s H
  refine AW.region ?_
  show AR _ _ _ _ _ [0, 1, 2, 3, 4, 5, 6] _
  refine sS rfl rfl rfl (mv rfl) ?_
  refine sS rfl rfl rfl (opS_nei rfl rfl) ?_
  refine sS rfl rfl rfl (mv rfl) ?_
  refine AR.meet (l := [6]) 70 (B ((!decide (x34.2.2.2.2.2.2.2.2.2.2 = 0)) || x38)) (fun K => ?_) ?_
  ·rcases Bool.eq_false_or_eq_true (!decide (x34.2.2.2.2.2.2.2.2.2.2 = 0)) with h37 | h37
   ·
    refine gF h37 rfl rfl rfl rfl rfl ?_
    refine gF h37 rfl rfl rfl rfl rfl ?_
    refine sS rfl rfl rfl (opS_pick_t (av := .v _) rfl h37 rfl) ?_
    exact K _ 2 _ (B_congr (or_t h37)) rfl rfl
   ·
    refine gT h37 rfl rfl rfl rfl rfl rfl (AO.ops rfl rfl (opS_load_cp_agg Tryz.underlying27 rfl (n := 10) (by kernel_rfl) rfl (Nat.le_of_ble_eq_true rfl)) ?_)
    refine gT h37 rfl rfl rfl rfl rfl rfl (AO.callp rfl en15_lcronback rfl (w_cron_May F x34.1 x34.2.1 x34.2.2.1 x34.2.2.2.1 x34.2.2.2.2.1 x34.2.2.2.2.2.1 x34.2.2.2.2.2.2.1 x34.2.2.2.2.2.2.2.1 x34.2.2.2.2.2.2.2.2.1 x34.2.2.2.2.2.2.2.2.2.1 x38 (e39 (nf h37))) ?_)
    refine sS rfl rfl rfl (opS_pick_f (av := .v _) rfl h37 rfl) ?_
    exact K _ 2 _ (B_congr (or_f h37)) rfl rfl
  refine sS rfl rfl rfl (asg rfl) ?_
  refine AR.nil ?_
  show AW _ _ _ _ _ _
  refine AW.ret ?_
  obtain rfl := Option.some.inj H
  exact And.intro rfl (Exists.intro _ (Exists.intro _ ⟨ResV.oneW rfl (.refl _), Sub.at [] rfl, rfl, rfl⟩))
end Go.Proofs.YtpbfajkbkomfcaaGreatDoor
