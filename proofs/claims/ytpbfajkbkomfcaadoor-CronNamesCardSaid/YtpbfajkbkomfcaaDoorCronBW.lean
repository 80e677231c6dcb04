/-
  What a schedule has: what is run is what the plain functions say. Printed by a program of ours.
-/
import Derived.Test.YtpbfajkbkomfcaaDoorAvE
import Derived.Test.YtpbfajkbkomfcaaDoorPvLib
import Derived.Test.YtpbfajkbkomfcaaDoorP11Split
import Derived.Test.YtpbfajkbkomfcaaDoorAvStill
import Derived.Test.YtpbfajkbkomfcaaDoorChecked
import Derived.Test.YtpbfajkbkomfcaaDoorCronAW
import Derived.Test.YtpbfajkbkomfcaaDoorCivW
import Derived.Test.YtpbfajkbkomfcaaDoorCronBP
set_option linter.unusedVariables false
set_option linter.unusedSimpArgs false
namespace Go.Proofs.YtpbfajkbkomfcaaDoor
open Go.RowKit Go.Av Go.Pv
theorem en8_cronb : ∀ (args : Array Value) (w : World), (callFunc 8 args).run Tryd.prog w = .ok (.enter 8 args) w := fun _ _ => by kernel_rfl
theorem en12_cronb : ∀ (args : Array Value) (w : World), (callFunc 12 args).run Tryd.prog w = .ok (.enter 12 args) w := fun _ _ => by kernel_rfl
theorem en14_cronb : ∀ (args : Array Value) (w : World), (callFunc 14 args).run Tryd.prog w = .ok (.enter 14 args) w := fun _ _ => by kernel_rfl
theorem en15_cronb : ∀ (args : Array Value) (w : World), (callFunc 15 args).run Tryd.prog w = .ok (.enter 15 args) w := fun _ _ => by kernel_rfl
theorem en16_cronb : ∀ (args : Array Value) (w : World), (callFunc 16 args).run Tryd.prog w = .ok (.enter 16 args) w := fun _ _ => by kernel_rfl
theorem en17_cronb : ∀ (args : Array Value) (w : World), (callFunc 17 args).run Tryd.prog w = .ok (.enter 17 args) w := fun _ _ => by kernel_rfl
theorem en18_cronb : ∀ (args : Array Value) (w : World), (callFunc 18 args).run Tryd.prog w = .ok (.enter 18 args) w := fun _ _ => by kernel_rfl
theorem en19_cronb : ∀ (args : Array Value) (w : World), (callFunc 19 args).run Tryd.prog w = .ok (.enter 19 args) w := fun _ _ => by kernel_rfl
theorem en20_cronb : ∀ (args : Array Value) (w : World), (callFunc 20 args).run Tryd.prog w = .ok (.enter 20 args) w := fun _ _ => by kernel_rfl
theorem en23_cronb : ∀ (args : Array Value) (w : World), (callFunc 23 args).run Tryd.prog w = .ok (.enter 23 args) w := fun _ _ => by kernel_rfl
theorem en29_cronb : ∀ (args : Array Value) (w : World), (callFunc 29 args).run Tryd.prog w = .ok (.enter 29 args) w := fun _ _ => by kernel_rfl
theorem en41_cronb : ∀ (args : Array Value) (w : World), (callFunc 41 args).run Tryd.prog w = .ok (.enter 41 args) w := fun _ _ => by kernel_rfl
set_option maxRecDepth 100000 in
set_option maxHeartbeats 1000000 in
theorem w_cron_rises (F : Nat) (a1 : Int) (a2 : Int) (a3 : List UInt8) (a4 : Int) (a5 : List Int) (q6 : Option Nat) (r7 : Bool) (H : cron_rises F a1 a2 a3 a4 a5 = some r7) : ACalls Tryd.prog 23 [.agg [i64 a1, i64 a2, S a3, i64 a4], slE Enc.int a5 q6] [] (Ret (B r7) []) := by
 unfold cron_rises at H
 refine ACalls.of_body Tryd.func23 rfl rfl ?_
 show AW _ _ 41 _ _ _
 refine AW.seq ?_
 refine AW.region ?_
 show AR _ _ _ _ _ [0, 1] _
 refine sR rfl rfl rfl (opR_boxCp rfl (.inr ⟨_, rfl⟩)) ?_
 refine sS rfl rfl rfl (asg rfl) ?_
 refine AR.nil ?_
 show AW _ _ _ _ _ _
 refine AW.cut (X := Unit) (fun _ => ⟨[(1, slE Enc.int a5 q6)], [], []⟩) (fun _ => cron_rises_j1 a5 = some r7) ?_ ?_
 ·
  refine AW.seq ?_
  refine AW.region ?_
  show AR _ _ _ _ _ [0, 1, 2] _
  refine sS rfl rfl rfl (opS_move (av := slE _ _ _) rfl) ?_
  refine sS rfl rfl rfl (opS_len_sl Tryd.underlying24 rfl) ?_
  refine sS rfl rfl rfl (mv rfl) ?_
  refine AR.nil ?_
  show AW _ _ _ _ _ _
  refine AW.block ?_
  refine AW.loop (X := Nat × Int) (fun (n10, y8) => ⟨[(1, slE Enc.int a5 q6), (2, .cp [i64 a1, i64 a2, S a3, i64 a4]), (7, slE Enc.int a5 q6), (8, i64 (a5.length : Int)), (9, i64 y8)], [], []⟩) (fun (n10, y8) => cron_rises_L1 a1 a2 a5 n10 y8 = some r7) (fun (n10, y8) => n10) (F, 0) H (WK.at [] (.cons (.refl _) (.cons (.refl _) (.cons (.refl _) (.cons (.refl _) (.cons (.refl _) (.nil _)))))) rfl) ?_
  rintro ⟨n10, y8⟩ H
  obtain ⟨n10, rfl, H⟩ := loop_s H
  replace H : cron_rises_B1 a1 a2 a5 (cron_rises_L1 a1 a2 a5 n10) y8 = some r7 := H
  unfold cron_rises_B1 at H
  show AW _ _ _ _ _ _
  refine AW.seq ?_
  refine AW.region ?_
  show AR _ _ _ _ _ [0] _
  refine sS rfl rfl rfl (opS_lt rfl rfl) ?_
  refine AR.nil ?_
  show AW _ _ _ _ _ _
  refine AW.seq ?_
  refine AW.cond rfl (fun c11 => ?_) (fun c11 => ?_)
  ·replace H := cnd_t c11 H
   refine AW.skip ?_
   show AW _ _ _ _ _ _
   refine AW.seq ?_
   refine AW.block ?_
   refine AW.seq ?_
   obtain ⟨g12, H⟩ := grd_s H
   obtain ⟨x13, e14, H⟩ := lt_s H
   refine AW.region ?_
   show AR _ _ _ _ _ [0, 1, 2, 3, 4] _
   refine sS rfl rfl rfl (mv rfl) ?_
   refine sS rfl rfl rfl (g_indexAddr (E := Enc.int) Tryd.underlying24 (by kernel_rfl) rfl rfl g12 e14) ?_
   refine sS rfl rfl rfl (opS_load_cp Tryd.underlying3 rfl rfl) ?_
   refine sS rfl rfl rfl (asg rfl) ?_
   refine sS rfl rfl rfl (asg rfl) ?_
   refine AR.nil ?_
   show AW _ _ _ _ _ _
   refine AW.seq ?_
   obtain ⟨g18, H⟩ := grdc_s H
   obtain ⟨g19, H⟩ := grdc_s H
   obtain ⟨x20, e21, H⟩ := lt_s H
   refine AW.region ?_
   show AR _ _ _ _ _ [0, 1, 2, 3, 4, 5, 6, 7, 8, 9, 10, 11, 12, 13, 14, 15, 16, 17, 18, 19, 20, 21, 22] _
   refine sS rfl rfl rfl (mv rfl) ?_
   refine sS rfl rfl rfl (opS_fieldAddr_cp (n := 0) (by kernel_rfl) rfl (Nat.le_of_ble_eq_true rfl)) ?_
   refine sS rfl rfl rfl (opS_load_cp Tryd.underlying3 rfl rfl) ?_
   refine sS rfl rfl rfl (opS_lt rfl rfl) ?_
   refine sS rfl rfl rfl (mv rfl) ?_
   refine AR.meet (l := [10, 11, 12, 13, 14, 15, 16, 17, 18, 19, 20, 21, 22]) 23 (B ((decide (x13 < a1)) || (decide (a2 < x13)))) (fun K => ?_) ?_
   ·rcases Bool.eq_false_or_eq_true (decide (x13 < a1)) with h15 | h15
    ·
     refine gF h15 rfl rfl rfl rfl rfl ?_
     refine gF h15 rfl rfl rfl rfl rfl ?_
     refine gF h15 rfl rfl rfl rfl rfl ?_
     refine gF h15 rfl rfl rfl rfl rfl ?_
     refine sS rfl rfl rfl (opS_pick_t (av := .v _) rfl h15 rfl) ?_
     exact K _ 4 _ (B_congr (or_t h15)) rfl rfl
    ·
     refine gT h15 rfl rfl rfl rfl rfl rfl (AO.ops rfl rfl (mv rfl) ?_)
     refine gT h15 rfl rfl rfl rfl rfl rfl (AO.ops rfl rfl (opS_fieldAddr_cp (n := 1) (by kernel_rfl) rfl (Nat.le_of_ble_eq_true rfl)) ?_)
     refine gT h15 rfl rfl rfl rfl rfl rfl (AO.ops rfl rfl (opS_load_cp Tryd.underlying3 rfl rfl) ?_)
     refine gT h15 rfl rfl rfl rfl rfl rfl (AO.ops rfl rfl (opS_gt rfl rfl) ?_)
     refine sS rfl rfl rfl (opS_pick_f (av := .v _) rfl h15 rfl) ?_
     exact K _ 4 _ (B_congr (or_f h15)) rfl rfl
   refine sS rfl rfl rfl (mv rfl) ?_
   refine AR.meet (l := []) 36 (B (((decide (x13 < a1)) || (decide (a2 < x13))) || ((decide (0 < y8)) && (decide (x13 ≤ x20))))) (fun K => ?_) ?_
   ·rcases Bool.eq_false_or_eq_true ((decide (x13 < a1)) || (decide (a2 < x13))) with h16 | h16
    ·
     refine gF h16 rfl rfl rfl rfl rfl ?_
     refine gF h16 rfl rfl rfl rfl rfl ?_
     refine gF h16 rfl rfl rfl rfl rfl ?_
     refine gU rfl rfl rfl rfl rfl ?_
     refine gU rfl rfl rfl rfl rfl ?_
     refine gU rfl rfl rfl rfl rfl ?_
     refine gU rfl rfl rfl rfl rfl ?_
     refine gU rfl rfl rfl rfl rfl ?_
     refine gU rfl rfl rfl rfl rfl ?_
     refine gU rfl rfl rfl rfl rfl ?_
     refine gF h16 rfl rfl rfl rfl rfl ?_
     refine sS rfl rfl rfl (opS_pick_t (av := .v _) rfl h16 rfl) ?_
     exact K _ 11 _ (B_congr (or_t h16)) rfl rfl
    ·
     refine gT h16 rfl rfl rfl rfl rfl rfl (AO.ops rfl rfl (mv rfl) ?_)
     refine gT h16 rfl rfl rfl rfl rfl rfl (AO.ops rfl rfl (opS_gt rfl rfl) ?_)
     refine gT h16 rfl rfl rfl rfl rfl rfl (AO.ops rfl rfl (mv rfl) ?_)
     refine AR.meet (l := [22]) 35 (B ((decide (0 < y8)) && (decide (x13 ≤ x20)))) (fun K => ?_) ?_
     ·rcases Bool.eq_false_or_eq_true (decide (0 < y8)) with h17 | h17
      ·
       refine gT h17 rfl rfl rfl rfl rfl rfl (AO.ops rfl rfl (mv rfl) ?_)
       refine gT h17 rfl rfl rfl rfl rfl rfl (AO.ops rfl rfl (opS_move (av := slE _ _ _) rfl) ?_)
       refine gT h17 rfl rfl rfl rfl rfl rfl (AO.ops rfl rfl (mv rfl) ?_)
       refine gT h17 rfl rfl rfl rfl rfl rfl (AO.ops rfl rfl (g_sub rfl rfl (g18 (and_tt (nf h16) h17))) ?_)
       refine gT h17 rfl rfl rfl rfl rfl rfl (AO.ops rfl rfl (g_indexAddr (E := Enc.int) Tryd.underlying24 (by kernel_rfl) rfl rfl (g19 (and_tt (nf h16) h17)) e21) ?_)
       refine gT h17 rfl rfl rfl rfl rfl rfl (AO.ops rfl rfl (opS_load_cp Tryd.underlying3 rfl rfl) ?_)
       refine gT h17 rfl rfl rfl rfl rfl rfl (AO.ops rfl rfl (opS_le rfl rfl) ?_)
       refine gT h16 rfl rfl rfl rfl rfl rfl (AO.ops rfl rfl (opS_pick_t (av := .v _) rfl h17 rfl) ?_)
       exact K _ 7 _ (B_congr (and_t h17)) rfl rfl
      ·
       refine gF h17 rfl rfl rfl rfl rfl ?_
       refine gF h17 rfl rfl rfl rfl rfl ?_
       refine gF h17 rfl rfl rfl rfl rfl ?_
       refine gF h17 rfl rfl rfl rfl rfl ?_
       refine gF h17 rfl rfl rfl rfl rfl ?_
       refine gF h17 rfl rfl rfl rfl rfl ?_
       refine gF h17 rfl rfl rfl rfl rfl ?_
       refine gT h16 rfl rfl rfl rfl rfl rfl (AO.ops rfl rfl (opS_pick_f (av := .v _) rfl h17 rfl) ?_)
       exact K _ 7 _ (B_congr (and_f h17)) rfl rfl
     refine sS rfl rfl rfl (opS_pick_f (av := .v _) rfl h16 rfl) ?_
     exact K _ 4 _ (B_congr (or_f h16)) rfl rfl
   refine AR.nil ?_
   show AW _ _ _ _ _ _
   refine AW.cond rfl (fun c22 => ?_) (fun c22 => ?_)
   ·replace H := cnd_t c22 H
    refine AW.seq ?_
    refine AW.region ?_
    show AR _ _ _ _ _ [0] _
    refine sS rfl rfl rfl (asg rfl) ?_
    refine AR.nil ?_
    show AW _ _ _ _ _ _
    refine AW.ret ?_
    obtain rfl := Option.some.inj H
    exact And.intro rfl (Exists.intro _ (Exists.intro _ ⟨ResV.oneW rfl (.refl _), Sub.at [] rfl, rfl, rfl⟩))
   ·replace H := cnd_f c22 H
    refine AW.skip ?_
    show AW _ _ _ _ _ _
    obtain ⟨g23, H⟩ := grd_s H
    refine AW.region ?_
    show AR _ _ _ _ _ [0, 1] _
    refine sS rfl rfl rfl (g_add rfl rfl g23) ?_
    refine sS rfl rfl rfl (mv rfl) ?_
    refine AR.nil ?_
    exact Exists.intro (n10, y8 + 1) ⟨H, Nat.lt_succ_self _, WK.at [] (.cons (.refl _) (.cons (.refl _) (.cons (.refl _) (.cons (.refl _) (.cons (.refl _) (.nil _)))))) rfl⟩
  ·replace H := cnd_f c11 H
   refine AW.exit ?_
   exact Exists.intro () ⟨H, WK.at [] (.cons (.refl _) (.nil _)) rfl⟩
 rintro _ H
 replace H : cron_rises_j1 a5 = some r7 := H
 unfold cron_rises_j1 at H
 show AW _ _ _ _ _ _
 refine AW.seq ?_
 refine AW.region ?_
 show AR _ _ _ _ _ [0, 1, 2, 3] _
 refine sS rfl rfl rfl (opS_move (av := slE _ _ _) rfl) ?_
 refine sS rfl rfl rfl (opS_len_sl Tryd.underlying24 rfl) ?_
 refine sS rfl rfl rfl (opS_gt rfl rfl) ?_
 refine sS rfl rfl rfl (asg rfl) ?_
 refine AR.nil ?_
 show AW _ _ _ _ _ _
 refine AW.ret ?_
 obtain rfl := Option.some.inj H
 exact And.intro rfl (Exists.intro _ (Exists.intro _ ⟨ResV.oneW rfl (.refl _), Sub.at [] rfl, rfl, rfl⟩))
set_option maxRecDepth 100000 in
set_option maxHeartbeats 1000000 in
theorem w_cron_May (F : Nat) (a1 : List Int) (a2 : List Int) (a3 : List Int) (a4 : List Int) (a5 : List Int) (a6 : Bool) (a7 : Bool) (a8 : Bool) (a9 : Bool) (a10 : Bool) (r11 : Bool) (H : cron_May F a1 a2 a3 a4 a5 a6 a7 a8 a9 a10 = some r11) : ACalls Tryd.prog 14 [.agg [slE Enc.int a1 none, slE Enc.int a2 none, slE Enc.int a3 none, slE Enc.int a4 none, slE Enc.int a5 none, B a6, B a7, B a8, B a9, B a10]] [] (Ret (B r11) []) := by
 unfold cron_May at H
 refine ACalls.of_body Tryd.func14 rfl rfl ?_
 show AW _ _ 37 _ _ _
 refine AW.seq ?_
 refine AW.region ?_
 show AR _ _ _ _ _ [0, 1] _
 refine sR rfl rfl rfl (opR_boxCp rfl (.inr ⟨_, rfl⟩)) ?_
 refine sS rfl rfl rfl (asg rfl) ?_
 refine AR.nil ?_
 show AW _ _ _ _ _ _
 refine AW.cut (X := Unit) (fun _ => ⟨[], [], []⟩) (fun _ => cron_May_j1 = some r11) ?_ ?_
 ·
  refine AW.seq ?_
  obtain ⟨x12, e13, H⟩ := bnd_s H
  refine AW.region ?_
  show AR _ _ _ _ _ [0, 1] _
  refine AR.run rfl rfl (AO.callp rfl en12_cronb rfl (w_cron_fields F x12.1 x12.2.1 x12.2.2.1 x12.2.2.2.1 x12.2.2.2.2.1 x12.2.2.2.2.2.1 x12.2.2.2.2.2.2.1 x12.2.2.2.2.2.2.2.1 x12.2.2.2.2.2.2.2.2.1 x12.2.2.2.2.2.2.2.2.2.1 x12.2.2.2.2.2.2.2.2.2.2.1 x12.2.2.2.2.2.2.2.2.2.2.2.1 x12.2.2.2.2.2.2.2.2.2.2.2.2.1 x12.2.2.2.2.2.2.2.2.2.2.2.2.2.1 x12.2.2.2.2.2.2.2.2.2.2.2.2.2.2.1 x12.2.2.2.2.2.2.2.2.2.2.2.2.2.2.2.1 x12.2.2.2.2.2.2.2.2.2.2.2.2.2.2.2.2.1 x12.2.2.2.2.2.2.2.2.2.2.2.2.2.2.2.2.2.1 x12.2.2.2.2.2.2.2.2.2.2.2.2.2.2.2.2.2.2.1 x12.2.2.2.2.2.2.2.2.2.2.2.2.2.2.2.2.2.2.2 e13) ?_)
  refine sS rfl rfl rfl (mv rfl) ?_
  refine AR.nil ?_
  show AW _ _ _ _ _ _
  refine AW.block ?_
  refine AW.rounds 7 ?_
  show AW _ _ _ _ _ _
  refine AW.seq ?_
  refine AW.region ?_
  show AR _ _ _ _ _ [0] _
  refine sS rfl rfl rfl (OpS.eq (av' := B true) (opS_lt rfl rfl) (B_congr (by decide))) ?_
  refine AR.nil ?_
  show AW _ _ _ _ _ _
  refine AW.seq ?_
  refine AW.cond rfl (fun _ => ?_) (fun hx => bool_no rfl hx)
  refine AW.skip ?_
  show AW _ _ _ _ _ _
  refine AW.seq ?_
  refine AW.block ?_
  refine AW.seq ?_
  refine AW.region ?_
  show AR _ _ _ _ _ [0, 1, 2, 3, 4] _
  refine sS rfl rfl rfl (mv rfl) ?_
  refine sS rfl rfl rfl (opS_index_sub (i := 0) (k := 4) Tryd.underlying47 Tryd.underlying46 rfl (by kernel_rfl) rfl rfl rfl rfl) ?_
  refine sX rfl rfl rfl (opX_alloc (zs := [.int .i64 0, .int .i64 0, .string ⟨#[]⟩, .int .i64 0]) (by kernel_rfl)) ?_
  rintro _ _ ⟨o14, rfl, rfl⟩
  refine sS rfl rfl rfl (asg rfl) ?_
  refine s0 rfl rfl (opR_store_agg (i := 0) (vs := [i64 x12.1, i64 x12.2.1, S x12.2.2.1, i64 x12.2.2.2.1]) (by kernel_rfl) rfl rfl (by simp [isCell, slE]) rfl (Nat.le_of_ble_eq_true rfl)) ?_
  refine AR.freezeCp 4 0 rfl rfl ?_
  show AR _ _ _ _ _ _ ⟨_, _, []⟩
  refine AR.nil ?_
  show AW _ _ _ _ _ _
  refine AW.seq ?_
  obtain ⟨x15, e16, H⟩ := bnd_s H
  obtain ⟨g19, H⟩ := grdc_s H
  refine AW.region_draw (by kernel_rfl) ?_
  show AI _ _ _ _ 26 (Array.replicate 26 false) _
  refine AI.take (i := 0) rfl rfl (by kernel_rfl) (by kernel_rfl) (by kernel_rfl) (fun _ _ h => h) (opS_load_cp_agg Tryd.underlying46 rfl (n := 4) (by kernel_rfl) rfl (Nat.le_of_ble_eq_true rfl)) ?_
  show AI _ _ _ _ _ #[true, false, false, false, false, false, false, false, false, false, false, false, false, false, false, false, false, false, false, false, false, false, false, false, false, false] _
  refine AI.take (i := 1) rfl rfl (by kernel_rfl) (by kernel_rfl) (by kernel_rfl) (fun _ _ h => h) (mv rfl) ?_
  show AI _ _ _ _ _ #[true, true, false, false, false, false, false, false, false, false, false, false, false, false, false, false, false, false, false, false, false, false, false, false, false, false] _
  refine AI.take (i := 2) rfl rfl (by kernel_rfl) (by kernel_rfl) (by kernel_rfl) (fun _ _ h => h) (opS_fieldAddr_cp (n := 0) (by kernel_rfl) rfl (Nat.le_of_ble_eq_true rfl)) ?_
  show AI _ _ _ _ _ #[true, true, true, false, false, false, false, false, false, false, false, false, false, false, false, false, false, false, false, false, false, false, false, false, false, false] _
  refine AI.take (i := 3) rfl rfl (by kernel_rfl) (by kernel_rfl) (by kernel_rfl) (fun _ _ h => h) (opS_indexAddr_arr_cp (k := 1) (m := 0) Tryd.underlying25 (by kernel_rfl) rfl rfl rfl (by decide) (Nat.le_of_ble_eq_true rfl)) ?_
  show AI _ _ _ _ _ #[true, true, true, true, false, false, false, false, false, false, false, false, false, false, false, false, false, false, false, false, false, false, false, false, false, false] _
  refine AI.take (i := 4) rfl rfl (by kernel_rfl) (by kernel_rfl) (by kernel_rfl) (fun _ _ h => h) (opS_load_cp Tryd.underlying24 rfl rfl) ?_
  show AI _ _ _ _ _ #[true, true, true, true, true, false, false, false, false, false, false, false, false, false, false, false, false, false, false, false, false, false, false, false, false, false] _
  refine AI.one (i := 5) (by kernel_rfl) rfl rfl ?_
  refine AIO.callp rfl en23_cronb rfl (w_cron_rises F x12.1 x12.2.1 x12.2.2.1 x12.2.2.2.1 a1 none x15 e16) ?_
  show AI _ _ _ _ _ #[true, true, true, true, true, true, false, false, false, false, false, false, false, false, false, false, false, false, false, false, false, false, false, false, false, false] _
  refine AI.take (i := 6) rfl rfl (by kernel_rfl) (by kernel_rfl) (by kernel_rfl) (fun _ _ h => h) (opS_not rfl) ?_
  show AI _ _ _ _ _ #[true, true, true, true, true, true, true, false, false, false, false, false, false, false, false, false, false, false, false, false, false, false, false, false, false, false] _
  refine AI.take (i := 7) rfl rfl (by kernel_rfl) (by kernel_rfl) (by kernel_rfl) (fun _ _ h => h) (mv rfl) ?_
  show AI _ _ _ _ _ #[true, true, true, true, true, true, true, true, false, false, false, false, false, false, false, false, false, false, false, false, false, false, false, false, false, false] _
  refine AI.meet 0 #[true, true, true, true, true, true, true, true, true, true, true, true, true, true, true, true, true, true, true, true, true, true, true, true, true, true] 35 (B ((!x15) || (a6 && (decide ((a1.length : Int) ≤ x12.2.1 - x12.1))))) (fun K25 => ?_) ?_
  ·refine AI.gsplit (t := 17) rfl (fun h17 => ?_) (fun h17 => ?_)
   ·
    refine AI.gskip (i := 8) rfl rfl (by kernel_rfl) (by kernel_rfl) (by kernel_rfl) rfl rfl rfl (fun _ _ h => h) h17 ?_
    show AI _ _ _ _ _ #[true, true, true, true, true, true, true, true, true, false, false, false, false, false, false, false, false, false, false, false, false, false, false, false, false, false] _
    refine AI.gskip (i := 9) rfl rfl (by kernel_rfl) (by kernel_rfl) (by kernel_rfl) rfl rfl rfl (fun _ _ h => h) h17 ?_
    show AI _ _ _ _ _ #[true, true, true, true, true, true, true, true, true, true, false, false, false, false, false, false, false, false, false, false, false, false, false, false, false, false] _
    refine AI.gskip (i := 10) rfl rfl (by kernel_rfl) (by kernel_rfl) (by kernel_rfl) rfl rfl rfl (fun _ _ h => h) h17 ?_
    show AI _ _ _ _ _ #[true, true, true, true, true, true, true, true, true, true, true, false, false, false, false, false, false, false, false, false, false, false, false, false, false, false] _
    refine AI.gskip (i := 11) rfl rfl (by kernel_rfl) (by kernel_rfl) (by kernel_rfl) rfl rfl rfl (fun _ _ h => h) h17 ?_
    show AI _ _ _ _ _ #[true, true, true, true, true, true, true, true, true, true, true, true, false, false, false, false, false, false, false, false, false, false, false, false, false, false] _
    refine AI.gskip (i := 12) rfl rfl (by kernel_rfl) (by kernel_rfl) (by kernel_rfl) rfl rfl rfl (fun _ _ h => h) h17 ?_
    show AI _ _ _ _ _ #[true, true, true, true, true, true, true, true, true, true, true, true, true, false, false, false, false, false, false, false, false, false, false, false, false, false] _
    refine AI.gskip_u (i := 13) rfl rfl (by kernel_rfl) (by kernel_rfl) (by kernel_rfl) rfl rfl rfl (fun _ _ h => h) ?_
    show AI _ _ _ _ _ #[true, true, true, true, true, true, true, true, true, true, true, true, true, true, false, false, false, false, false, false, false, false, false, false, false, false] _
    refine AI.gskip_u (i := 14) rfl rfl (by kernel_rfl) (by kernel_rfl) (by kernel_rfl) rfl rfl rfl (fun _ _ h => h) ?_
    show AI _ _ _ _ _ #[true, true, true, true, true, true, true, true, true, true, true, true, true, true, true, false, false, false, false, false, false, false, false, false, false, false] _
    refine AI.gskip_u (i := 15) rfl rfl (by kernel_rfl) (by kernel_rfl) (by kernel_rfl) rfl rfl rfl (fun _ _ h => h) ?_
    show AI _ _ _ _ _ #[true, true, true, true, true, true, true, true, true, true, true, true, true, true, true, true, false, false, false, false, false, false, false, false, false, false] _
    refine AI.gskip_u (i := 16) rfl rfl (by kernel_rfl) (by kernel_rfl) (by kernel_rfl) rfl rfl rfl (fun _ _ h => h) ?_
    show AI _ _ _ _ _ #[true, true, true, true, true, true, true, true, true, true, true, true, true, true, true, true, true, false, false, false, false, false, false, false, false, false] _
    refine AI.gskip_u (i := 17) rfl rfl (by kernel_rfl) (by kernel_rfl) (by kernel_rfl) rfl rfl rfl (fun _ _ h => h) ?_
    show AI _ _ _ _ _ #[true, true, true, true, true, true, true, true, true, true, true, true, true, true, true, true, true, true, false, false, false, false, false, false, false, false] _
    refine AI.gskip_u (i := 18) rfl rfl (by kernel_rfl) (by kernel_rfl) (by kernel_rfl) rfl rfl rfl (fun _ _ h => h) ?_
    show AI _ _ _ _ _ #[true, true, true, true, true, true, true, true, true, true, true, true, true, true, true, true, true, true, true, false, false, false, false, false, false, false] _
    refine AI.gskip_u (i := 19) rfl rfl (by kernel_rfl) (by kernel_rfl) (by kernel_rfl) rfl rfl rfl (fun _ _ h => h) ?_
    show AI _ _ _ _ _ #[true, true, true, true, true, true, true, true, true, true, true, true, true, true, true, true, true, true, true, true, false, false, false, false, false, false] _
    refine AI.gskip_u (i := 20) rfl rfl (by kernel_rfl) (by kernel_rfl) (by kernel_rfl) rfl rfl rfl (fun _ _ h => h) ?_
    show AI _ _ _ _ _ #[true, true, true, true, true, true, true, true, true, true, true, true, true, true, true, true, true, true, true, true, true, false, false, false, false, false] _
    refine AI.gskip_u (i := 21) rfl rfl (by kernel_rfl) (by kernel_rfl) (by kernel_rfl) rfl rfl rfl (fun _ _ h => h) ?_
    show AI _ _ _ _ _ #[true, true, true, true, true, true, true, true, true, true, true, true, true, true, true, true, true, true, true, true, true, true, false, false, false, false] _
    refine AI.gskip_u (i := 22) rfl rfl (by kernel_rfl) (by kernel_rfl) (by kernel_rfl) rfl rfl rfl (fun _ _ h => h) ?_
    show AI _ _ _ _ _ #[true, true, true, true, true, true, true, true, true, true, true, true, true, true, true, true, true, true, true, true, true, true, true, false, false, false] _
    refine AI.gskip_u (i := 23) rfl rfl (by kernel_rfl) (by kernel_rfl) (by kernel_rfl) rfl rfl rfl (fun _ _ h => h) ?_
    show AI _ _ _ _ _ #[true, true, true, true, true, true, true, true, true, true, true, true, true, true, true, true, true, true, true, true, true, true, true, true, false, false] _
    refine AI.gskip (i := 24) rfl rfl (by kernel_rfl) (by kernel_rfl) (by kernel_rfl) rfl rfl rfl (fun _ _ h => h) h17 ?_
    show AI _ _ _ _ _ #[true, true, true, true, true, true, true, true, true, true, true, true, true, true, true, true, true, true, true, true, true, true, true, true, true, false] _
    refine AI.take (i := 25) rfl rfl (by kernel_rfl) (by kernel_rfl) (by kernel_rfl) (fun _ _ h => h) (OpS.eq (av' := B ((!x15) || (a6 && (decide ((a1.length : Int) ≤ x12.2.1 - x12.1))))) (opS_pick_t (av := .v _) rfl h17 rfl) (B_congr (or_t h17))) ?_
    show AI _ _ _ _ _ #[true, true, true, true, true, true, true, true, true, true, true, true, true, true, true, true, true, true, true, true, true, true, true, true, true, true] _
    exact K25 _ 17 rfl rfl
   ·
    refine AI.gtake (i := 8) rfl rfl (by kernel_rfl) (by kernel_rfl) (by kernel_rfl) rfl rfl rfl (fun _ _ h => h) h17 (mv rfl) ?_
    show AI _ _ _ _ _ #[true, true, true, true, true, true, true, true, true, false, false, false, false, false, false, false, false, false, false, false, false, false, false, false, false, false] _
    refine AI.gtake (i := 9) rfl rfl (by kernel_rfl) (by kernel_rfl) (by kernel_rfl) rfl rfl rfl (fun _ _ h => h) h17 (opS_fieldAddr_cp (n := 5) (by kernel_rfl) rfl (Nat.le_of_ble_eq_true rfl)) ?_
    show AI _ _ _ _ _ #[true, true, true, true, true, true, true, true, true, true, false, false, false, false, false, false, false, false, false, false, false, false, false, false, false, false] _
    refine AI.gtake (i := 10) rfl rfl (by kernel_rfl) (by kernel_rfl) (by kernel_rfl) rfl rfl rfl (fun _ _ h => h) h17 (opS_indexAddr_arr_cp (k := 1) (m := 0) Tryd.underlying26 (by kernel_rfl) rfl rfl rfl (by decide) (Nat.le_of_ble_eq_true rfl)) ?_
    show AI _ _ _ _ _ #[true, true, true, true, true, true, true, true, true, true, true, false, false, false, false, false, false, false, false, false, false, false, false, false, false, false] _
    refine AI.gtake (i := 11) rfl rfl (by kernel_rfl) (by kernel_rfl) (by kernel_rfl) rfl rfl rfl (fun _ _ h => h) h17 (opS_load_cp Tryd.underlying4 rfl rfl) ?_
    show AI _ _ _ _ _ #[true, true, true, true, true, true, true, true, true, true, true, true, false, false, false, false, false, false, false, false, false, false, false, false, false, false] _
    refine AI.gtake (i := 12) rfl rfl (by kernel_rfl) (by kernel_rfl) (by kernel_rfl) rfl rfl rfl (fun _ _ h => h) h17 (mv rfl) ?_
    show AI _ _ _ _ _ #[true, true, true, true, true, true, true, true, true, true, true, true, true, false, false, false, false, false, false, false, false, false, false, false, false, false] _
    refine AI.meet 1 #[true, true, true, true, true, true, true, true, true, true, true, true, true, true, true, true, true, true, true, true, true, true, true, true, true, false] 34 (B (a6 && (decide ((a1.length : Int) ≤ x12.2.1 - x12.1)))) (fun K24 => ?_) ?_
    ·refine AI.gsplit (t := 22) rfl (fun h18 => ?_) (fun h18 => ?_)
     ·
      refine AI.gtake (i := 13) rfl rfl (by kernel_rfl) (by kernel_rfl) (by kernel_rfl) rfl rfl rfl (fun _ _ h => h) h18 (mv rfl) ?_
      show AI _ _ _ _ _ #[true, true, true, true, true, true, true, true, true, true, true, true, true, true, false, false, false, false, false, false, false, false, false, false, false, false] _
      refine AI.gtake (i := 14) rfl rfl (by kernel_rfl) (by kernel_rfl) (by kernel_rfl) rfl rfl rfl (fun _ _ h => h) h18 (opS_fieldAddr_cp (n := 0) (by kernel_rfl) rfl (Nat.le_of_ble_eq_true rfl)) ?_
      show AI _ _ _ _ _ #[true, true, true, true, true, true, true, true, true, true, true, true, true, true, true, false, false, false, false, false, false, false, false, false, false, false] _
      refine AI.gtake (i := 15) rfl rfl (by kernel_rfl) (by kernel_rfl) (by kernel_rfl) rfl rfl rfl (fun _ _ h => h) h18 (opS_indexAddr_arr_cp (k := 1) (m := 0) Tryd.underlying25 (by kernel_rfl) rfl rfl rfl (by decide) (Nat.le_of_ble_eq_true rfl)) ?_
      show AI _ _ _ _ _ #[true, true, true, true, true, true, true, true, true, true, true, true, true, true, true, true, false, false, false, false, false, false, false, false, false, false] _
      refine AI.gtake (i := 16) rfl rfl (by kernel_rfl) (by kernel_rfl) (by kernel_rfl) rfl rfl rfl (fun _ _ h => h) h18 (opS_load_cp Tryd.underlying24 rfl rfl) ?_
      show AI _ _ _ _ _ #[true, true, true, true, true, true, true, true, true, true, true, true, true, true, true, true, true, false, false, false, false, false, false, false, false, false] _
      refine AI.gtake (i := 17) rfl rfl (by kernel_rfl) (by kernel_rfl) (by kernel_rfl) rfl rfl rfl (fun _ _ h => h) h18 (opS_len_sl Tryd.underlying24 rfl) ?_
      show AI _ _ _ _ _ #[true, true, true, true, true, true, true, true, true, true, true, true, true, true, true, true, true, true, false, false, false, false, false, false, false, false] _
      refine AI.gtake (i := 18) rfl rfl (by kernel_rfl) (by kernel_rfl) (by kernel_rfl) rfl rfl rfl (fun _ _ h => h) h18 (opS_fieldAddr_cp (n := 1) (by kernel_rfl) rfl (Nat.le_of_ble_eq_true rfl)) ?_
      show AI _ _ _ _ _ #[true, true, true, true, true, true, true, true, true, true, true, true, true, true, true, true, true, true, true, false, false, false, false, false, false, false] _
      refine AI.gtake (i := 19) rfl rfl (by kernel_rfl) (by kernel_rfl) (by kernel_rfl) rfl rfl rfl (fun _ _ h => h) h18 (opS_load_cp Tryd.underlying3 rfl rfl) ?_
      show AI _ _ _ _ _ #[true, true, true, true, true, true, true, true, true, true, true, true, true, true, true, true, true, true, true, true, false, false, false, false, false, false] _
      refine AI.gtake (i := 20) rfl rfl (by kernel_rfl) (by kernel_rfl) (by kernel_rfl) rfl rfl rfl (fun _ _ h => h) h18 (opS_fieldAddr_cp (n := 0) (by kernel_rfl) rfl (Nat.le_of_ble_eq_true rfl)) ?_
      show AI _ _ _ _ _ #[true, true, true, true, true, true, true, true, true, true, true, true, true, true, true, true, true, true, true, true, true, false, false, false, false, false] _
      refine AI.gtake (i := 21) rfl rfl (by kernel_rfl) (by kernel_rfl) (by kernel_rfl) rfl rfl rfl (fun _ _ h => h) h18 (opS_load_cp Tryd.underlying3 rfl rfl) ?_
      show AI _ _ _ _ _ #[true, true, true, true, true, true, true, true, true, true, true, true, true, true, true, true, true, true, true, true, true, true, false, false, false, false] _
      refine AI.gtake (i := 22) rfl rfl (by kernel_rfl) (by kernel_rfl) (by kernel_rfl) rfl rfl rfl (fun _ _ h => h) h18 (g_sub rfl rfl (g19 (and_tt (nf h17) h18))) ?_
      show AI _ _ _ _ _ #[true, true, true, true, true, true, true, true, true, true, true, true, true, true, true, true, true, true, true, true, true, true, true, false, false, false] _
      refine AI.gtake (i := 23) rfl rfl (by kernel_rfl) (by kernel_rfl) (by kernel_rfl) rfl rfl rfl (fun _ _ h => h) h18 (opS_le rfl rfl) ?_
      show AI _ _ _ _ _ #[true, true, true, true, true, true, true, true, true, true, true, true, true, true, true, true, true, true, true, true, true, true, true, true, false, false] _
      refine AI.gtake (i := 24) rfl rfl (by kernel_rfl) (by kernel_rfl) (by kernel_rfl) rfl rfl rfl (fun _ _ h => h) h17 (OpS.eq (av' := B (a6 && (decide ((a1.length : Int) ≤ x12.2.1 - x12.1)))) (opS_pick_t (av := .v _) rfl h18 rfl) (B_congr (and_t h18))) ?_
      show AI _ _ _ _ _ #[true, true, true, true, true, true, true, true, true, true, true, true, true, true, true, true, true, true, true, true, true, true, true, true, true, false] _
      exact K24 _ 11 rfl rfl
     ·
      refine AI.gskip (i := 13) rfl rfl (by kernel_rfl) (by kernel_rfl) (by kernel_rfl) rfl rfl rfl (fun _ _ h => h) h18 ?_
      show AI _ _ _ _ _ #[true, true, true, true, true, true, true, true, true, true, true, true, true, true, false, false, false, false, false, false, false, false, false, false, false, false] _
      refine AI.gskip (i := 14) rfl rfl (by kernel_rfl) (by kernel_rfl) (by kernel_rfl) rfl rfl rfl (fun _ _ h => h) h18 ?_
      show AI _ _ _ _ _ #[true, true, true, true, true, true, true, true, true, true, true, true, true, true, true, false, false, false, false, false, false, false, false, false, false, false] _
      refine AI.gskip (i := 15) rfl rfl (by kernel_rfl) (by kernel_rfl) (by kernel_rfl) rfl rfl rfl (fun _ _ h => h) h18 ?_
      show AI _ _ _ _ _ #[true, true, true, true, true, true, true, true, true, true, true, true, true, true, true, true, false, false, false, false, false, false, false, false, false, false] _
      refine AI.gskip (i := 16) rfl rfl (by kernel_rfl) (by kernel_rfl) (by kernel_rfl) rfl rfl rfl (fun _ _ h => h) h18 ?_
      show AI _ _ _ _ _ #[true, true, true, true, true, true, true, true, true, true, true, true, true, true, true, true, true, false, false, false, false, false, false, false, false, false] _
      refine AI.gskip (i := 17) rfl rfl (by kernel_rfl) (by kernel_rfl) (by kernel_rfl) rfl rfl rfl (fun _ _ h => h) h18 ?_
      show AI _ _ _ _ _ #[true, true, true, true, true, true, true, true, true, true, true, true, true, true, true, true, true, true, false, false, false, false, false, false, false, false] _
      refine AI.gskip (i := 18) rfl rfl (by kernel_rfl) (by kernel_rfl) (by kernel_rfl) rfl rfl rfl (fun _ _ h => h) h18 ?_
      show AI _ _ _ _ _ #[true, true, true, true, true, true, true, true, true, true, true, true, true, true, true, true, true, true, true, false, false, false, false, false, false, false] _
      refine AI.gskip (i := 19) rfl rfl (by kernel_rfl) (by kernel_rfl) (by kernel_rfl) rfl rfl rfl (fun _ _ h => h) h18 ?_
      show AI _ _ _ _ _ #[true, true, true, true, true, true, true, true, true, true, true, true, true, true, true, true, true, true, true, true, false, false, false, false, false, false] _
      refine AI.gskip (i := 20) rfl rfl (by kernel_rfl) (by kernel_rfl) (by kernel_rfl) rfl rfl rfl (fun _ _ h => h) h18 ?_
      show AI _ _ _ _ _ #[true, true, true, true, true, true, true, true, true, true, true, true, true, true, true, true, true, true, true, true, true, false, false, false, false, false] _
      refine AI.gskip (i := 21) rfl rfl (by kernel_rfl) (by kernel_rfl) (by kernel_rfl) rfl rfl rfl (fun _ _ h => h) h18 ?_
      show AI _ _ _ _ _ #[true, true, true, true, true, true, true, true, true, true, true, true, true, true, true, true, true, true, true, true, true, true, false, false, false, false] _
      refine AI.gskip (i := 22) rfl rfl (by kernel_rfl) (by kernel_rfl) (by kernel_rfl) rfl rfl rfl (fun _ _ h => h) h18 ?_
      show AI _ _ _ _ _ #[true, true, true, true, true, true, true, true, true, true, true, true, true, true, true, true, true, true, true, true, true, true, true, false, false, false] _
      refine AI.gskip (i := 23) rfl rfl (by kernel_rfl) (by kernel_rfl) (by kernel_rfl) rfl rfl rfl (fun _ _ h => h) h18 ?_
      show AI _ _ _ _ _ #[true, true, true, true, true, true, true, true, true, true, true, true, true, true, true, true, true, true, true, true, true, true, true, true, false, false] _
      refine AI.gtake (i := 24) rfl rfl (by kernel_rfl) (by kernel_rfl) (by kernel_rfl) rfl rfl rfl (fun _ _ h => h) h17 (OpS.eq (av' := B (a6 && (decide ((a1.length : Int) ≤ x12.2.1 - x12.1)))) (opS_pick_f (av := .v _) rfl h18 rfl) (B_congr (and_f h18))) ?_
      show AI _ _ _ _ _ #[true, true, true, true, true, true, true, true, true, true, true, true, true, true, true, true, true, true, true, true, true, true, true, true, true, false] _
      exact K24 _ 11 rfl rfl
    refine AI.take (i := 25) rfl rfl (by kernel_rfl) (by kernel_rfl) (by kernel_rfl) (fun _ _ h => h) (OpS.eq (av' := B ((!x15) || (a6 && (decide ((a1.length : Int) ≤ x12.2.1 - x12.1))))) (opS_pick_f (av := .v _) rfl h17 rfl) (B_congr (or_f h17))) ?_
    show AI _ _ _ _ _ #[true, true, true, true, true, true, true, true, true, true, true, true, true, true, true, true, true, true, true, true, true, true, true, true, true, true] _
    exact K25 _ 6 rfl rfl
  refine AI.done rfl ?_
  show AW _ _ _ _ _ _
  refine AW.cond rfl (fun c20 => ?_) (fun c20 => ?_)
  ·replace H := cnd_t c20 H
   refine AW.seq ?_
   refine AW.region ?_
   show AR _ _ _ _ _ [0] _
   refine sS rfl rfl rfl (asg rfl) ?_
   refine AR.nil ?_
   show AW _ _ _ _ _ _
   refine AW.ret ?_
   obtain rfl := Option.some.inj H
   exact And.intro rfl (Exists.intro _ (Exists.intro _ ⟨ResV.oneW rfl (.refl _), Sub.at [] rfl, rfl, rfl⟩))
  ·replace H := cnd_f c20 H
   refine AW.skip ?_
   show AW _ _ _ _ _ _
   refine AW.region ?_
   show AR _ _ _ _ _ [0, 1] _
   refine sS rfl rfl rfl (OpS.eq (av' := i64 1) (g_add rfl rfl (by decide)) rfl) ?_
   refine sS rfl rfl rfl (mv rfl) ?_
   refine AR.nil ?_
   show AW _ _ _ _ _ _
   refine AW.seq ?_
   refine AW.region ?_
   show AR _ _ _ _ _ [0] _
   refine sS rfl rfl rfl (OpS.eq (av' := B true) (opS_lt rfl rfl) (B_congr (by decide))) ?_
   refine AR.nil ?_
   show AW _ _ _ _ _ _
   refine AW.seq ?_
   refine AW.cond rfl (fun _ => ?_) (fun hx => bool_no rfl hx)
   refine AW.skip ?_
   show AW _ _ _ _ _ _
   refine AW.seq ?_
   refine AW.block ?_
   refine AW.seq ?_
   refine AW.region ?_
   show AR _ _ _ _ _ [0, 1, 2, 3, 4] _
   refine sS rfl rfl rfl (mv rfl) ?_
   refine sS rfl rfl rfl (opS_index_sub (i := 1) (k := 4) Tryd.underlying47 Tryd.underlying46 rfl (by kernel_rfl) rfl rfl rfl rfl) ?_
   refine sX rfl rfl rfl (opX_alloc (zs := [.int .i64 0, .int .i64 0, .string ⟨#[]⟩, .int .i64 0]) (by kernel_rfl)) ?_
   rintro _ _ ⟨o21, rfl, rfl⟩
   refine sS rfl rfl rfl (asg rfl) ?_
   refine s0 rfl rfl (opR_store_agg (i := 0) (vs := [i64 x12.2.2.2.2.1, i64 x12.2.2.2.2.2.1, S x12.2.2.2.2.2.2.1, i64 x12.2.2.2.2.2.2.2.1]) (by kernel_rfl) rfl rfl (by simp [isCell, slE]) rfl (Nat.le_of_ble_eq_true rfl)) ?_
   refine AR.freezeCp 4 0 rfl rfl ?_
   show AR _ _ _ _ _ _ ⟨_, _, []⟩
   refine AR.nil ?_
   show AW _ _ _ _ _ _
   refine AW.seq ?_
   obtain ⟨x22, e23, H⟩ := bnd_s H
   obtain ⟨g26, H⟩ := grdc_s H
   refine AW.region_draw (by kernel_rfl) ?_
   show AI _ _ _ _ 26 (Array.replicate 26 false) _
   refine AI.take (i := 0) rfl rfl (by kernel_rfl) (by kernel_rfl) (by kernel_rfl) (fun _ _ h => h) (opS_load_cp_agg Tryd.underlying46 rfl (n := 4) (by kernel_rfl) rfl (Nat.le_of_ble_eq_true rfl)) ?_
   show AI _ _ _ _ _ #[true, false, false, false, false, false, false, false, false, false, false, false, false, false, false, false, false, false, false, false, false, false, false, false, false, false] _
   refine AI.take (i := 1) rfl rfl (by kernel_rfl) (by kernel_rfl) (by kernel_rfl) (fun _ _ h => h) (mv rfl) ?_
   show AI _ _ _ _ _ #[true, true, false, false, false, false, false, false, false, false, false, false, false, false, false, false, false, false, false, false, false, false, false, false, false, false] _
   refine AI.take (i := 2) rfl rfl (by kernel_rfl) (by kernel_rfl) (by kernel_rfl) (fun _ _ h => h) (opS_fieldAddr_cp (n := 0) (by kernel_rfl) rfl (Nat.le_of_ble_eq_true rfl)) ?_
   show AI _ _ _ _ _ #[true, true, true, false, false, false, false, false, false, false, false, false, false, false, false, false, false, false, false, false, false, false, false, false, false, false] _
   refine AI.take (i := 3) rfl rfl (by kernel_rfl) (by kernel_rfl) (by kernel_rfl) (fun _ _ h => h) (opS_indexAddr_arr_cp (k := 1) (m := 1) Tryd.underlying25 (by kernel_rfl) rfl rfl rfl (by decide) (Nat.le_of_ble_eq_true rfl)) ?_
   show AI _ _ _ _ _ #[true, true, true, true, false, false, false, false, false, false, false, false, false, false, false, false, false, false, false, false, false, false, false, false, false, false] _
   refine AI.take (i := 4) rfl rfl (by kernel_rfl) (by kernel_rfl) (by kernel_rfl) (fun _ _ h => h) (opS_load_cp Tryd.underlying24 rfl rfl) ?_
   show AI _ _ _ _ _ #[true, true, true, true, true, false, false, false, false, false, false, false, false, false, false, false, false, false, false, false, false, false, false, false, false, false] _
   refine AI.one (i := 5) (by kernel_rfl) rfl rfl ?_
   refine AIO.callp rfl en23_cronb rfl (w_cron_rises F x12.2.2.2.2.1 x12.2.2.2.2.2.1 x12.2.2.2.2.2.2.1 x12.2.2.2.2.2.2.2.1 a2 none x22 e23) ?_
   show AI _ _ _ _ _ #[true, true, true, true, true, true, false, false, false, false, false, false, false, false, false, false, false, false, false, false, false, false, false, false, false, false] _
   refine AI.take (i := 6) rfl rfl (by kernel_rfl) (by kernel_rfl) (by kernel_rfl) (fun _ _ h => h) (opS_not rfl) ?_
   show AI _ _ _ _ _ #[true, true, true, true, true, true, true, false, false, false, false, false, false, false, false, false, false, false, false, false, false, false, false, false, false, false] _
   refine AI.take (i := 7) rfl rfl (by kernel_rfl) (by kernel_rfl) (by kernel_rfl) (fun _ _ h => h) (mv rfl) ?_
   show AI _ _ _ _ _ #[true, true, true, true, true, true, true, true, false, false, false, false, false, false, false, false, false, false, false, false, false, false, false, false, false, false] _
   refine AI.meet 0 #[true, true, true, true, true, true, true, true, true, true, true, true, true, true, true, true, true, true, true, true, true, true, true, true, true, true] 35 (B ((!x22) || (a7 && (decide ((a2.length : Int) ≤ x12.2.2.2.2.2.1 - x12.2.2.2.2.1))))) (fun K25 => ?_) ?_
   ·refine AI.gsplit (t := 17) rfl (fun h24 => ?_) (fun h24 => ?_)
    ·
     refine AI.gskip (i := 8) rfl rfl (by kernel_rfl) (by kernel_rfl) (by kernel_rfl) rfl rfl rfl (fun _ _ h => h) h24 ?_
     show AI _ _ _ _ _ #[true, true, true, true, true, true, true, true, true, false, false, false, false, false, false, false, false, false, false, false, false, false, false, false, false, false] _
     refine AI.gskip (i := 9) rfl rfl (by kernel_rfl) (by kernel_rfl) (by kernel_rfl) rfl rfl rfl (fun _ _ h => h) h24 ?_
     show AI _ _ _ _ _ #[true, true, true, true, true, true, true, true, true, true, false, false, false, false, false, false, false, false, false, false, false, false, false, false, false, false] _
     refine AI.gskip (i := 10) rfl rfl (by kernel_rfl) (by kernel_rfl) (by kernel_rfl) rfl rfl rfl (fun _ _ h => h) h24 ?_
     show AI _ _ _ _ _ #[true, true, true, true, true, true, true, true, true, true, true, false, false, false, false, false, false, false, false, false, false, false, false, false, false, false] _
     refine AI.gskip (i := 11) rfl rfl (by kernel_rfl) (by kernel_rfl) (by kernel_rfl) rfl rfl rfl (fun _ _ h => h) h24 ?_
     show AI _ _ _ _ _ #[true, true, true, true, true, true, true, true, true, true, true, true, false, false, false, false, false, false, false, false, false, false, false, false, false, false] _
     refine AI.gskip (i := 12) rfl rfl (by kernel_rfl) (by kernel_rfl) (by kernel_rfl) rfl rfl rfl (fun _ _ h => h) h24 ?_
     show AI _ _ _ _ _ #[true, true, true, true, true, true, true, true, true, true, true, true, true, false, false, false, false, false, false, false, false, false, false, false, false, false] _
     refine AI.gskip_u (i := 13) rfl rfl (by kernel_rfl) (by kernel_rfl) (by kernel_rfl) rfl rfl rfl (fun _ _ h => h) ?_
     show AI _ _ _ _ _ #[true, true, true, true, true, true, true, true, true, true, true, true, true, true, false, false, false, false, false, false, false, false, false, false, false, false] _
     refine AI.gskip_u (i := 14) rfl rfl (by kernel_rfl) (by kernel_rfl) (by kernel_rfl) rfl rfl rfl (fun _ _ h => h) ?_
     show AI _ _ _ _ _ #[true, true, true, true, true, true, true, true, true, true, true, true, true, true, true, false, false, false, false, false, false, false, false, false, false, false] _
     refine AI.gskip_u (i := 15) rfl rfl (by kernel_rfl) (by kernel_rfl) (by kernel_rfl) rfl rfl rfl (fun _ _ h => h) ?_
     show AI _ _ _ _ _ #[true, true, true, true, true, true, true, true, true, true, true, true, true, true, true, true, false, false, false, false, false, false, false, false, false, false] _
     refine AI.gskip_u (i := 16) rfl rfl (by kernel_rfl) (by kernel_rfl) (by kernel_rfl) rfl rfl rfl (fun _ _ h => h) ?_
     show AI _ _ _ _ _ #[true, true, true, true, true, true, true, true, true, true, true, true, true, true, true, true, true, false, false, false, false, false, false, false, false, false] _
     refine AI.gskip_u (i := 17) rfl rfl (by kernel_rfl) (by kernel_rfl) (by kernel_rfl) rfl rfl rfl (fun _ _ h => h) ?_
     show AI _ _ _ _ _ #[true, true, true, true, true, true, true, true, true, true, true, true, true, true, true, true, true, true, false, false, false, false, false, false, false, false] _
     refine AI.gskip_u (i := 18) rfl rfl (by kernel_rfl) (by kernel_rfl) (by kernel_rfl) rfl rfl rfl (fun _ _ h => h) ?_
     show AI _ _ _ _ _ #[true, true, true, true, true, true, true, true, true, true, true, true, true, true, true, true, true, true, true, false, false, false, false, false, false, false] _
     refine AI.gskip_u (i := 19) rfl rfl (by kernel_rfl) (by kernel_rfl) (by kernel_rfl) rfl rfl rfl (fun _ _ h => h) ?_
     show AI _ _ _ _ _ #[true, true, true, true, true, true, true, true, true, true, true, true, true, true, true, true, true, true, true, true, false, false, false, false, false, false] _
     refine AI.gskip_u (i := 20) rfl rfl (by kernel_rfl) (by kernel_rfl) (by kernel_rfl) rfl rfl rfl (fun _ _ h => h) ?_
     show AI _ _ _ _ _ #[true, true, true, true, true, true, true, true, true, true, true, true, true, true, true, true, true, true, true, true, true, false, false, false, false, false] _
     refine AI.gskip_u (i := 21) rfl rfl (by kernel_rfl) (by kernel_rfl) (by kernel_rfl) rfl rfl rfl (fun _ _ h => h) ?_
     show AI _ _ _ _ _ #[true, true, true, true, true, true, true, true, true, true, true, true, true, true, true, true, true, true, true, true, true, true, false, false, false, false] _
     refine AI.gskip_u (i := 22) rfl rfl (by kernel_rfl) (by kernel_rfl) (by kernel_rfl) rfl rfl rfl (fun _ _ h => h) ?_
     show AI _ _ _ _ _ #[true, true, true, true, true, true, true, true, true, true, true, true, true, true, true, true, true, true, true, true, true, true, true, false, false, false] _
     refine AI.gskip_u (i := 23) rfl rfl (by kernel_rfl) (by kernel_rfl) (by kernel_rfl) rfl rfl rfl (fun _ _ h => h) ?_
     show AI _ _ _ _ _ #[true, true, true, true, true, true, true, true, true, true, true, true, true, true, true, true, true, true, true, true, true, true, true, true, false, false] _
     refine AI.gskip (i := 24) rfl rfl (by kernel_rfl) (by kernel_rfl) (by kernel_rfl) rfl rfl rfl (fun _ _ h => h) h24 ?_
     show AI _ _ _ _ _ #[true, true, true, true, true, true, true, true, true, true, true, true, true, true, true, true, true, true, true, true, true, true, true, true, true, false] _
     refine AI.take (i := 25) rfl rfl (by kernel_rfl) (by kernel_rfl) (by kernel_rfl) (fun _ _ h => h) (OpS.eq (av' := B ((!x22) || (a7 && (decide ((a2.length : Int) ≤ x12.2.2.2.2.2.1 - x12.2.2.2.2.1))))) (opS_pick_t (av := .v _) rfl h24 rfl) (B_congr (or_t h24))) ?_
     show AI _ _ _ _ _ #[true, true, true, true, true, true, true, true, true, true, true, true, true, true, true, true, true, true, true, true, true, true, true, true, true, true] _
     exact K25 _ 17 rfl rfl
    ·
     refine AI.gtake (i := 8) rfl rfl (by kernel_rfl) (by kernel_rfl) (by kernel_rfl) rfl rfl rfl (fun _ _ h => h) h24 (mv rfl) ?_
     show AI _ _ _ _ _ #[true, true, true, true, true, true, true, true, true, false, false, false, false, false, false, false, false, false, false, false, false, false, false, false, false, false] _
     refine AI.gtake (i := 9) rfl rfl (by kernel_rfl) (by kernel_rfl) (by kernel_rfl) rfl rfl rfl (fun _ _ h => h) h24 (opS_fieldAddr_cp (n := 5) (by kernel_rfl) rfl (Nat.le_of_ble_eq_true rfl)) ?_
     show AI _ _ _ _ _ #[true, true, true, true, true, true, true, true, true, true, false, false, false, false, false, false, false, false, false, false, false, false, false, false, false, false] _
     refine AI.gtake (i := 10) rfl rfl (by kernel_rfl) (by kernel_rfl) (by kernel_rfl) rfl rfl rfl (fun _ _ h => h) h24 (opS_indexAddr_arr_cp (k := 1) (m := 1) Tryd.underlying26 (by kernel_rfl) rfl rfl rfl (by decide) (Nat.le_of_ble_eq_true rfl)) ?_
     show AI _ _ _ _ _ #[true, true, true, true, true, true, true, true, true, true, true, false, false, false, false, false, false, false, false, false, false, false, false, false, false, false] _
     refine AI.gtake (i := 11) rfl rfl (by kernel_rfl) (by kernel_rfl) (by kernel_rfl) rfl rfl rfl (fun _ _ h => h) h24 (opS_load_cp Tryd.underlying4 rfl rfl) ?_
     show AI _ _ _ _ _ #[true, true, true, true, true, true, true, true, true, true, true, true, false, false, false, false, false, false, false, false, false, false, false, false, false, false] _
     refine AI.gtake (i := 12) rfl rfl (by kernel_rfl) (by kernel_rfl) (by kernel_rfl) rfl rfl rfl (fun _ _ h => h) h24 (mv rfl) ?_
     show AI _ _ _ _ _ #[true, true, true, true, true, true, true, true, true, true, true, true, true, false, false, false, false, false, false, false, false, false, false, false, false, false] _
     refine AI.meet 1 #[true, true, true, true, true, true, true, true, true, true, true, true, true, true, true, true, true, true, true, true, true, true, true, true, true, false] 34 (B (a7 && (decide ((a2.length : Int) ≤ x12.2.2.2.2.2.1 - x12.2.2.2.2.1)))) (fun K24 => ?_) ?_
     ·refine AI.gsplit (t := 22) rfl (fun h25 => ?_) (fun h25 => ?_)
      ·
       refine AI.gtake (i := 13) rfl rfl (by kernel_rfl) (by kernel_rfl) (by kernel_rfl) rfl rfl rfl (fun _ _ h => h) h25 (mv rfl) ?_
       show AI _ _ _ _ _ #[true, true, true, true, true, true, true, true, true, true, true, true, true, true, false, false, false, false, false, false, false, false, false, false, false, false] _
       refine AI.gtake (i := 14) rfl rfl (by kernel_rfl) (by kernel_rfl) (by kernel_rfl) rfl rfl rfl (fun _ _ h => h) h25 (opS_fieldAddr_cp (n := 0) (by kernel_rfl) rfl (Nat.le_of_ble_eq_true rfl)) ?_
       show AI _ _ _ _ _ #[true, true, true, true, true, true, true, true, true, true, true, true, true, true, true, false, false, false, false, false, false, false, false, false, false, false] _
       refine AI.gtake (i := 15) rfl rfl (by kernel_rfl) (by kernel_rfl) (by kernel_rfl) rfl rfl rfl (fun _ _ h => h) h25 (opS_indexAddr_arr_cp (k := 1) (m := 1) Tryd.underlying25 (by kernel_rfl) rfl rfl rfl (by decide) (Nat.le_of_ble_eq_true rfl)) ?_
       show AI _ _ _ _ _ #[true, true, true, true, true, true, true, true, true, true, true, true, true, true, true, true, false, false, false, false, false, false, false, false, false, false] _
       refine AI.gtake (i := 16) rfl rfl (by kernel_rfl) (by kernel_rfl) (by kernel_rfl) rfl rfl rfl (fun _ _ h => h) h25 (opS_load_cp Tryd.underlying24 rfl rfl) ?_
       show AI _ _ _ _ _ #[true, true, true, true, true, true, true, true, true, true, true, true, true, true, true, true, true, false, false, false, false, false, false, false, false, false] _
       refine AI.gtake (i := 17) rfl rfl (by kernel_rfl) (by kernel_rfl) (by kernel_rfl) rfl rfl rfl (fun _ _ h => h) h25 (opS_len_sl Tryd.underlying24 rfl) ?_
       show AI _ _ _ _ _ #[true, true, true, true, true, true, true, true, true, true, true, true, true, true, true, true, true, true, false, false, false, false, false, false, false, false] _
       refine AI.gtake (i := 18) rfl rfl (by kernel_rfl) (by kernel_rfl) (by kernel_rfl) rfl rfl rfl (fun _ _ h => h) h25 (opS_fieldAddr_cp (n := 1) (by kernel_rfl) rfl (Nat.le_of_ble_eq_true rfl)) ?_
       show AI _ _ _ _ _ #[true, true, true, true, true, true, true, true, true, true, true, true, true, true, true, true, true, true, true, false, false, false, false, false, false, false] _
       refine AI.gtake (i := 19) rfl rfl (by kernel_rfl) (by kernel_rfl) (by kernel_rfl) rfl rfl rfl (fun _ _ h => h) h25 (opS_load_cp Tryd.underlying3 rfl rfl) ?_
       show AI _ _ _ _ _ #[true, true, true, true, true, true, true, true, true, true, true, true, true, true, true, true, true, true, true, true, false, false, false, false, false, false] _
       refine AI.gtake (i := 20) rfl rfl (by kernel_rfl) (by kernel_rfl) (by kernel_rfl) rfl rfl rfl (fun _ _ h => h) h25 (opS_fieldAddr_cp (n := 0) (by kernel_rfl) rfl (Nat.le_of_ble_eq_true rfl)) ?_
       show AI _ _ _ _ _ #[true, true, true, true, true, true, true, true, true, true, true, true, true, true, true, true, true, true, true, true, true, false, false, false, false, false] _
       refine AI.gtake (i := 21) rfl rfl (by kernel_rfl) (by kernel_rfl) (by kernel_rfl) rfl rfl rfl (fun _ _ h => h) h25 (opS_load_cp Tryd.underlying3 rfl rfl) ?_
       show AI _ _ _ _ _ #[true, true, true, true, true, true, true, true, true, true, true, true, true, true, true, true, true, true, true, true, true, true, false, false, false, false] _
       refine AI.gtake (i := 22) rfl rfl (by kernel_rfl) (by kernel_rfl) (by kernel_rfl) rfl rfl rfl (fun _ _ h => h) h25 (g_sub rfl rfl (g26 (and_tt (nf h24) h25))) ?_
       show AI _ _ _ _ _ #[true, true, true, true, true, true, true, true, true, true, true, true, true, true, true, true, true, true, true, true, true, true, true, false, false, false] _
       refine AI.gtake (i := 23) rfl rfl (by kernel_rfl) (by kernel_rfl) (by kernel_rfl) rfl rfl rfl (fun _ _ h => h) h25 (opS_le rfl rfl) ?_
       show AI _ _ _ _ _ #[true, true, true, true, true, true, true, true, true, true, true, true, true, true, true, true, true, true, true, true, true, true, true, true, false, false] _
       refine AI.gtake (i := 24) rfl rfl (by kernel_rfl) (by kernel_rfl) (by kernel_rfl) rfl rfl rfl (fun _ _ h => h) h24 (OpS.eq (av' := B (a7 && (decide ((a2.length : Int) ≤ x12.2.2.2.2.2.1 - x12.2.2.2.2.1)))) (opS_pick_t (av := .v _) rfl h25 rfl) (B_congr (and_t h25))) ?_
       show AI _ _ _ _ _ #[true, true, true, true, true, true, true, true, true, true, true, true, true, true, true, true, true, true, true, true, true, true, true, true, true, false] _
       exact K24 _ 11 rfl rfl
      ·
       refine AI.gskip (i := 13) rfl rfl (by kernel_rfl) (by kernel_rfl) (by kernel_rfl) rfl rfl rfl (fun _ _ h => h) h25 ?_
       show AI _ _ _ _ _ #[true, true, true, true, true, true, true, true, true, true, true, true, true, true, false, false, false, false, false, false, false, false, false, false, false, false] _
       refine AI.gskip (i := 14) rfl rfl (by kernel_rfl) (by kernel_rfl) (by kernel_rfl) rfl rfl rfl (fun _ _ h => h) h25 ?_
       show AI _ _ _ _ _ #[true, true, true, true, true, true, true, true, true, true, true, true, true, true, true, false, false, false, false, false, false, false, false, false, false, false] _
       refine AI.gskip (i := 15) rfl rfl (by kernel_rfl) (by kernel_rfl) (by kernel_rfl) rfl rfl rfl (fun _ _ h => h) h25 ?_
       show AI _ _ _ _ _ #[true, true, true, true, true, true, true, true, true, true, true, true, true, true, true, true, false, false, false, false, false, false, false, false, false, false] _
       refine AI.gskip (i := 16) rfl rfl (by kernel_rfl) (by kernel_rfl) (by kernel_rfl) rfl rfl rfl (fun _ _ h => h) h25 ?_
       show AI _ _ _ _ _ #[true, true, true, true, true, true, true, true, true, true, true, true, true, true, true, true, true, false, false, false, false, false, false, false, false, false] _
       refine AI.gskip (i := 17) rfl rfl (by kernel_rfl) (by kernel_rfl) (by kernel_rfl) rfl rfl rfl (fun _ _ h => h) h25 ?_
       show AI _ _ _ _ _ #[true, true, true, true, true, true, true, true, true, true, true, true, true, true, true, true, true, true, false, false, false, false, false, false, false, false] _
       refine AI.gskip (i := 18) rfl rfl (by kernel_rfl) (by kernel_rfl) (by kernel_rfl) rfl rfl rfl (fun _ _ h => h) h25 ?_
       show AI _ _ _ _ _ #[true, true, true, true, true, true, true, true, true, true, true, true, true, true, true, true, true, true, true, false, false, false, false, false, false, false] _
       refine AI.gskip (i := 19) rfl rfl (by kernel_rfl) (by kernel_rfl) (by kernel_rfl) rfl rfl rfl (fun _ _ h => h) h25 ?_
       show AI _ _ _ _ _ #[true, true, true, true, true, true, true, true, true, true, true, true, true, true, true, true, true, true, true, true, false, false, false, false, false, false] _
       refine AI.gskip (i := 20) rfl rfl (by kernel_rfl) (by kernel_rfl) (by kernel_rfl) rfl rfl rfl (fun _ _ h => h) h25 ?_
       show AI _ _ _ _ _ #[true, true, true, true, true, true, true, true, true, true, true, true, true, true, true, true, true, true, true, true, true, false, false, false, false, false] _
       refine AI.gskip (i := 21) rfl rfl (by kernel_rfl) (by kernel_rfl) (by kernel_rfl) rfl rfl rfl (fun _ _ h => h) h25 ?_
       show AI _ _ _ _ _ #[true, true, true, true, true, true, true, true, true, true, true, true, true, true, true, true, true, true, true, true, true, true, false, false, false, false] _
       refine AI.gskip (i := 22) rfl rfl (by kernel_rfl) (by kernel_rfl) (by kernel_rfl) rfl rfl rfl (fun _ _ h => h) h25 ?_
       show AI _ _ _ _ _ #[true, true, true, true, true, true, true, true, true, true, true, true, true, true, true, true, true, true, true, true, true, true, true, false, false, false] _
       refine AI.gskip (i := 23) rfl rfl (by kernel_rfl) (by kernel_rfl) (by kernel_rfl) rfl rfl rfl (fun _ _ h => h) h25 ?_
       show AI _ _ _ _ _ #[true, true, true, true, true, true, true, true, true, true, true, true, true, true, true, true, true, true, true, true, true, true, true, true, false, false] _
       refine AI.gtake (i := 24) rfl rfl (by kernel_rfl) (by kernel_rfl) (by kernel_rfl) rfl rfl rfl (fun _ _ h => h) h24 (OpS.eq (av' := B (a7 && (decide ((a2.length : Int) ≤ x12.2.2.2.2.2.1 - x12.2.2.2.2.1)))) (opS_pick_f (av := .v _) rfl h25 rfl) (B_congr (and_f h25))) ?_
       show AI _ _ _ _ _ #[true, true, true, true, true, true, true, true, true, true, true, true, true, true, true, true, true, true, true, true, true, true, true, true, true, false] _
       exact K24 _ 11 rfl rfl
     refine AI.take (i := 25) rfl rfl (by kernel_rfl) (by kernel_rfl) (by kernel_rfl) (fun _ _ h => h) (OpS.eq (av' := B ((!x22) || (a7 && (decide ((a2.length : Int) ≤ x12.2.2.2.2.2.1 - x12.2.2.2.2.1))))) (opS_pick_f (av := .v _) rfl h24 rfl) (B_congr (or_f h24))) ?_
     show AI _ _ _ _ _ #[true, true, true, true, true, true, true, true, true, true, true, true, true, true, true, true, true, true, true, true, true, true, true, true, true, true] _
     exact K25 _ 6 rfl rfl
   refine AI.done rfl ?_
   show AW _ _ _ _ _ _
   refine AW.cond rfl (fun c27 => ?_) (fun c27 => ?_)
   ·replace H := cnd_t c27 H
    refine AW.seq ?_
    refine AW.region ?_
    show AR _ _ _ _ _ [0] _
    refine sS rfl rfl rfl (asg rfl) ?_
    refine AR.nil ?_
    show AW _ _ _ _ _ _
    refine AW.ret ?_
    obtain rfl := Option.some.inj H
    exact And.intro rfl (Exists.intro _ (Exists.intro _ ⟨ResV.oneW rfl (.refl _), Sub.at [] rfl, rfl, rfl⟩))
   ·replace H := cnd_f c27 H
    refine AW.skip ?_
    show AW _ _ _ _ _ _
    refine AW.region ?_
    show AR _ _ _ _ _ [0, 1] _
    refine sS rfl rfl rfl (OpS.eq (av' := i64 2) (g_add rfl rfl (by decide)) rfl) ?_
    refine sS rfl rfl rfl (mv rfl) ?_
    refine AR.nil ?_
    show AW _ _ _ _ _ _
    refine AW.seq ?_
    refine AW.region ?_
    show AR _ _ _ _ _ [0] _
    refine sS rfl rfl rfl (OpS.eq (av' := B true) (opS_lt rfl rfl) (B_congr (by decide))) ?_
    refine AR.nil ?_
    show AW _ _ _ _ _ _
    refine AW.seq ?_
    refine AW.cond rfl (fun _ => ?_) (fun hx => bool_no rfl hx)
    refine AW.skip ?_
    show AW _ _ _ _ _ _
    refine AW.seq ?_
    refine AW.block ?_
    refine AW.seq ?_
    refine AW.region ?_
    show AR _ _ _ _ _ [0, 1, 2, 3, 4] _
    refine sS rfl rfl rfl (mv rfl) ?_
    refine sS rfl rfl rfl (opS_index_sub (i := 2) (k := 4) Tryd.underlying47 Tryd.underlying46 rfl (by kernel_rfl) rfl rfl rfl rfl) ?_
    refine sX rfl rfl rfl (opX_alloc (zs := [.int .i64 0, .int .i64 0, .string ⟨#[]⟩, .int .i64 0]) (by kernel_rfl)) ?_
    rintro _ _ ⟨o28, rfl, rfl⟩
    refine sS rfl rfl rfl (asg rfl) ?_
    refine s0 rfl rfl (opR_store_agg (i := 0) (vs := [i64 x12.2.2.2.2.2.2.2.2.1, i64 x12.2.2.2.2.2.2.2.2.2.1, S x12.2.2.2.2.2.2.2.2.2.2.1, i64 x12.2.2.2.2.2.2.2.2.2.2.2.1]) (by kernel_rfl) rfl rfl (by simp [isCell, slE]) rfl (Nat.le_of_ble_eq_true rfl)) ?_
    refine AR.freezeCp 4 0 rfl rfl ?_
    show AR _ _ _ _ _ _ ⟨_, _, []⟩
    refine AR.nil ?_
    show AW _ _ _ _ _ _
    refine AW.seq ?_
    obtain ⟨x29, e30, H⟩ := bnd_s H
    obtain ⟨g33, H⟩ := grdc_s H
    refine AW.region_draw (by kernel_rfl) ?_
    show AI _ _ _ _ 26 (Array.replicate 26 false) _
    refine AI.take (i := 0) rfl rfl (by kernel_rfl) (by kernel_rfl) (by kernel_rfl) (fun _ _ h => h) (opS_load_cp_agg Tryd.underlying46 rfl (n := 4) (by kernel_rfl) rfl (Nat.le_of_ble_eq_true rfl)) ?_
    show AI _ _ _ _ _ #[true, false, false, false, false, false, false, false, false, false, false, false, false, false, false, false, false, false, false, false, false, false, false, false, false, false] _
    refine AI.take (i := 1) rfl rfl (by kernel_rfl) (by kernel_rfl) (by kernel_rfl) (fun _ _ h => h) (mv rfl) ?_
    show AI _ _ _ _ _ #[true, true, false, false, false, false, false, false, false, false, false, false, false, false, false, false, false, false, false, false, false, false, false, false, false, false] _
    refine AI.take (i := 2) rfl rfl (by kernel_rfl) (by kernel_rfl) (by kernel_rfl) (fun _ _ h => h) (opS_fieldAddr_cp (n := 0) (by kernel_rfl) rfl (Nat.le_of_ble_eq_true rfl)) ?_
    show AI _ _ _ _ _ #[true, true, true, false, false, false, false, false, false, false, false, false, false, false, false, false, false, false, false, false, false, false, false, false, false, false] _
    refine AI.take (i := 3) rfl rfl (by kernel_rfl) (by kernel_rfl) (by kernel_rfl) (fun _ _ h => h) (opS_indexAddr_arr_cp (k := 1) (m := 2) Tryd.underlying25 (by kernel_rfl) rfl rfl rfl (by decide) (Nat.le_of_ble_eq_true rfl)) ?_
    show AI _ _ _ _ _ #[true, true, true, true, false, false, false, false, false, false, false, false, false, false, false, false, false, false, false, false, false, false, false, false, false, false] _
    refine AI.take (i := 4) rfl rfl (by kernel_rfl) (by kernel_rfl) (by kernel_rfl) (fun _ _ h => h) (opS_load_cp Tryd.underlying24 rfl rfl) ?_
    show AI _ _ _ _ _ #[true, true, true, true, true, false, false, false, false, false, false, false, false, false, false, false, false, false, false, false, false, false, false, false, false, false] _
    refine AI.one (i := 5) (by kernel_rfl) rfl rfl ?_
    refine AIO.callp rfl en23_cronb rfl (w_cron_rises F x12.2.2.2.2.2.2.2.2.1 x12.2.2.2.2.2.2.2.2.2.1 x12.2.2.2.2.2.2.2.2.2.2.1 x12.2.2.2.2.2.2.2.2.2.2.2.1 a3 none x29 e30) ?_
    show AI _ _ _ _ _ #[true, true, true, true, true, true, false, false, false, false, false, false, false, false, false, false, false, false, false, false, false, false, false, false, false, false] _
    refine AI.take (i := 6) rfl rfl (by kernel_rfl) (by kernel_rfl) (by kernel_rfl) (fun _ _ h => h) (opS_not rfl) ?_
    show AI _ _ _ _ _ #[true, true, true, true, true, true, true, false, false, false, false, false, false, false, false, false, false, false, false, false, false, false, false, false, false, false] _
    refine AI.take (i := 7) rfl rfl (by kernel_rfl) (by kernel_rfl) (by kernel_rfl) (fun _ _ h => h) (mv rfl) ?_
    show AI _ _ _ _ _ #[true, true, true, true, true, true, true, true, false, false, false, false, false, false, false, false, false, false, false, false, false, false, false, false, false, false] _
    refine AI.meet 0 #[true, true, true, true, true, true, true, true, true, true, true, true, true, true, true, true, true, true, true, true, true, true, true, true, true, true] 35 (B ((!x29) || (a8 && (decide ((a3.length : Int) ≤ x12.2.2.2.2.2.2.2.2.2.1 - x12.2.2.2.2.2.2.2.2.1))))) (fun K25 => ?_) ?_
    ·refine AI.gsplit (t := 17) rfl (fun h31 => ?_) (fun h31 => ?_)
     ·
      refine AI.gskip (i := 8) rfl rfl (by kernel_rfl) (by kernel_rfl) (by kernel_rfl) rfl rfl rfl (fun _ _ h => h) h31 ?_
      show AI _ _ _ _ _ #[true, true, true, true, true, true, true, true, true, false, false, false, false, false, false, false, false, false, false, false, false, false, false, false, false, false] _
      refine AI.gskip (i := 9) rfl rfl (by kernel_rfl) (by kernel_rfl) (by kernel_rfl) rfl rfl rfl (fun _ _ h => h) h31 ?_
      show AI _ _ _ _ _ #[true, true, true, true, true, true, true, true, true, true, false, false, false, false, false, false, false, false, false, false, false, false, false, false, false, false] _
      refine AI.gskip (i := 10) rfl rfl (by kernel_rfl) (by kernel_rfl) (by kernel_rfl) rfl rfl rfl (fun _ _ h => h) h31 ?_
      show AI _ _ _ _ _ #[true, true, true, true, true, true, true, true, true, true, true, false, false, false, false, false, false, false, false, false, false, false, false, false, false, false] _
      refine AI.gskip (i := 11) rfl rfl (by kernel_rfl) (by kernel_rfl) (by kernel_rfl) rfl rfl rfl (fun _ _ h => h) h31 ?_
      show AI _ _ _ _ _ #[true, true, true, true, true, true, true, true, true, true, true, true, false, false, false, false, false, false, false, false, false, false, false, false, false, false] _
      refine AI.gskip (i := 12) rfl rfl (by kernel_rfl) (by kernel_rfl) (by kernel_rfl) rfl rfl rfl (fun _ _ h => h) h31 ?_
      show AI _ _ _ _ _ #[true, true, true, true, true, true, true, true, true, true, true, true, true, false, false, false, false, false, false, false, false, false, false, false, false, false] _
      refine AI.gskip_u (i := 13) rfl rfl (by kernel_rfl) (by kernel_rfl) (by kernel_rfl) rfl rfl rfl (fun _ _ h => h) ?_
      show AI _ _ _ _ _ #[true, true, true, true, true, true, true, true, true, true, true, true, true, true, false, false, false, false, false, false, false, false, false, false, false, false] _
      refine AI.gskip_u (i := 14) rfl rfl (by kernel_rfl) (by kernel_rfl) (by kernel_rfl) rfl rfl rfl (fun _ _ h => h) ?_
      show AI _ _ _ _ _ #[true, true, true, true, true, true, true, true, true, true, true, true, true, true, true, false, false, false, false, false, false, false, false, false, false, false] _
      refine AI.gskip_u (i := 15) rfl rfl (by kernel_rfl) (by kernel_rfl) (by kernel_rfl) rfl rfl rfl (fun _ _ h => h) ?_
      show AI _ _ _ _ _ #[true, true, true, true, true, true, true, true, true, true, true, true, true, true, true, true, false, false, false, false, false, false, false, false, false, false] _
      refine AI.gskip_u (i := 16) rfl rfl (by kernel_rfl) (by kernel_rfl) (by kernel_rfl) rfl rfl rfl (fun _ _ h => h) ?_
      show AI _ _ _ _ _ #[true, true, true, true, true, true, true, true, true, true, true, true, true, true, true, true, true, false, false, false, false, false, false, false, false, false] _
      refine AI.gskip_u (i := 17) rfl rfl (by kernel_rfl) (by kernel_rfl) (by kernel_rfl) rfl rfl rfl (fun _ _ h => h) ?_
      show AI _ _ _ _ _ #[true, true, true, true, true, true, true, true, true, true, true, true, true, true, true, true, true, true, false, false, false, false, false, false, false, false] _
      refine AI.gskip_u (i := 18) rfl rfl (by kernel_rfl) (by kernel_rfl) (by kernel_rfl) rfl rfl rfl (fun _ _ h => h) ?_
      show AI _ _ _ _ _ #[true, true, true, true, true, true, true, true, true, true, true, true, true, true, true, true, true, true, true, false, false, false, false, false, false, false] _
      refine AI.gskip_u (i := 19) rfl rfl (by kernel_rfl) (by kernel_rfl) (by kernel_rfl) rfl rfl rfl (fun _ _ h => h) ?_
      show AI _ _ _ _ _ #[true, true, true, true, true, true, true, true, true, true, true, true, true, true, true, true, true, true, true, true, false, false, false, false, false, false] _
      refine AI.gskip_u (i := 20) rfl rfl (by kernel_rfl) (by kernel_rfl) (by kernel_rfl) rfl rfl rfl (fun _ _ h => h) ?_
      show AI _ _ _ _ _ #[true, true, true, true, true, true, true, true, true, true, true, true, true, true, true, true, true, true, true, true, true, false, false, false, false, false] _
      refine AI.gskip_u (i := 21) rfl rfl (by kernel_rfl) (by kernel_rfl) (by kernel_rfl) rfl rfl rfl (fun _ _ h => h) ?_
      show AI _ _ _ _ _ #[true, true, true, true, true, true, true, true, true, true, true, true, true, true, true, true, true, true, true, true, true, true, false, false, false, false] _
      refine AI.gskip_u (i := 22) rfl rfl (by kernel_rfl) (by kernel_rfl) (by kernel_rfl) rfl rfl rfl (fun _ _ h => h) ?_
      show AI _ _ _ _ _ #[true, true, true, true, true, true, true, true, true, true, true, true, true, true, true, true, true, true, true, true, true, true, true, false, false, false] _
      refine AI.gskip_u (i := 23) rfl rfl (by kernel_rfl) (by kernel_rfl) (by kernel_rfl) rfl rfl rfl (fun _ _ h => h) ?_
      show AI _ _ _ _ _ #[true, true, true, true, true, true, true, true, true, true, true, true, true, true, true, true, true, true, true, true, true, true, true, true, false, false] _
      refine AI.gskip (i := 24) rfl rfl (by kernel_rfl) (by kernel_rfl) (by kernel_rfl) rfl rfl rfl (fun _ _ h => h) h31 ?_
      show AI _ _ _ _ _ #[true, true, true, true, true, true, true, true, true, true, true, true, true, true, true, true, true, true, true, true, true, true, true, true, true, false] _
      refine AI.take (i := 25) rfl rfl (by kernel_rfl) (by kernel_rfl) (by kernel_rfl) (fun _ _ h => h) (OpS.eq (av' := B ((!x29) || (a8 && (decide ((a3.length : Int) ≤ x12.2.2.2.2.2.2.2.2.2.1 - x12.2.2.2.2.2.2.2.2.1))))) (opS_pick_t (av := .v _) rfl h31 rfl) (B_congr (or_t h31))) ?_
      show AI _ _ _ _ _ #[true, true, true, true, true, true, true, true, true, true, true, true, true, true, true, true, true, true, true, true, true, true, true, true, true, true] _
      exact K25 _ 17 rfl rfl
     ·
      refine AI.gtake (i := 8) rfl rfl (by kernel_rfl) (by kernel_rfl) (by kernel_rfl) rfl rfl rfl (fun _ _ h => h) h31 (mv rfl) ?_
      show AI _ _ _ _ _ #[true, true, true, true, true, true, true, true, true, false, false, false, false, false, false, false, false, false, false, false, false, false, false, false, false, false] _
      refine AI.gtake (i := 9) rfl rfl (by kernel_rfl) (by kernel_rfl) (by kernel_rfl) rfl rfl rfl (fun _ _ h => h) h31 (opS_fieldAddr_cp (n := 5) (by kernel_rfl) rfl (Nat.le_of_ble_eq_true rfl)) ?_
      show AI _ _ _ _ _ #[true, true, true, true, true, true, true, true, true, true, false, false, false, false, false, false, false, false, false, false, false, false, false, false, false, false] _
      refine AI.gtake (i := 10) rfl rfl (by kernel_rfl) (by kernel_rfl) (by kernel_rfl) rfl rfl rfl (fun _ _ h => h) h31 (opS_indexAddr_arr_cp (k := 1) (m := 2) Tryd.underlying26 (by kernel_rfl) rfl rfl rfl (by decide) (Nat.le_of_ble_eq_true rfl)) ?_
      show AI _ _ _ _ _ #[true, true, true, true, true, true, true, true, true, true, true, false, false, false, false, false, false, false, false, false, false, false, false, false, false, false] _
      refine AI.gtake (i := 11) rfl rfl (by kernel_rfl) (by kernel_rfl) (by kernel_rfl) rfl rfl rfl (fun _ _ h => h) h31 (opS_load_cp Tryd.underlying4 rfl rfl) ?_
      show AI _ _ _ _ _ #[true, true, true, true, true, true, true, true, true, true, true, true, false, false, false, false, false, false, false, false, false, false, false, false, false, false] _
      refine AI.gtake (i := 12) rfl rfl (by kernel_rfl) (by kernel_rfl) (by kernel_rfl) rfl rfl rfl (fun _ _ h => h) h31 (mv rfl) ?_
      show AI _ _ _ _ _ #[true, true, true, true, true, true, true, true, true, true, true, true, true, false, false, false, false, false, false, false, false, false, false, false, false, false] _
      refine AI.meet 1 #[true, true, true, true, true, true, true, true, true, true, true, true, true, true, true, true, true, true, true, true, true, true, true, true, true, false] 34 (B (a8 && (decide ((a3.length : Int) ≤ x12.2.2.2.2.2.2.2.2.2.1 - x12.2.2.2.2.2.2.2.2.1)))) (fun K24 => ?_) ?_
      ·refine AI.gsplit (t := 22) rfl (fun h32 => ?_) (fun h32 => ?_)
       ·
        refine AI.gtake (i := 13) rfl rfl (by kernel_rfl) (by kernel_rfl) (by kernel_rfl) rfl rfl rfl (fun _ _ h => h) h32 (mv rfl) ?_
        show AI _ _ _ _ _ #[true, true, true, true, true, true, true, true, true, true, true, true, true, true, false, false, false, false, false, false, false, false, false, false, false, false] _
        refine AI.gtake (i := 14) rfl rfl (by kernel_rfl) (by kernel_rfl) (by kernel_rfl) rfl rfl rfl (fun _ _ h => h) h32 (opS_fieldAddr_cp (n := 0) (by kernel_rfl) rfl (Nat.le_of_ble_eq_true rfl)) ?_
        show AI _ _ _ _ _ #[true, true, true, true, true, true, true, true, true, true, true, true, true, true, true, false, false, false, false, false, false, false, false, false, false, false] _
        refine AI.gtake (i := 15) rfl rfl (by kernel_rfl) (by kernel_rfl) (by kernel_rfl) rfl rfl rfl (fun _ _ h => h) h32 (opS_indexAddr_arr_cp (k := 1) (m := 2) Tryd.underlying25 (by kernel_rfl) rfl rfl rfl (by decide) (Nat.le_of_ble_eq_true rfl)) ?_
        show AI _ _ _ _ _ #[true, true, true, true, true, true, true, true, true, true, true, true, true, true, true, true, false, false, false, false, false, false, false, false, false, false] _
        refine AI.gtake (i := 16) rfl rfl (by kernel_rfl) (by kernel_rfl) (by kernel_rfl) rfl rfl rfl (fun _ _ h => h) h32 (opS_load_cp Tryd.underlying24 rfl rfl) ?_
        show AI _ _ _ _ _ #[true, true, true, true, true, true, true, true, true, true, true, true, true, true, true, true, true, false, false, false, false, false, false, false, false, false] _
        refine AI.gtake (i := 17) rfl rfl (by kernel_rfl) (by kernel_rfl) (by kernel_rfl) rfl rfl rfl (fun _ _ h => h) h32 (opS_len_sl Tryd.underlying24 rfl) ?_
        show AI _ _ _ _ _ #[true, true, true, true, true, true, true, true, true, true, true, true, true, true, true, true, true, true, false, false, false, false, false, false, false, false] _
        refine AI.gtake (i := 18) rfl rfl (by kernel_rfl) (by kernel_rfl) (by kernel_rfl) rfl rfl rfl (fun _ _ h => h) h32 (opS_fieldAddr_cp (n := 1) (by kernel_rfl) rfl (Nat.le_of_ble_eq_true rfl)) ?_
        show AI _ _ _ _ _ #[true, true, true, true, true, true, true, true, true, true, true, true, true, true, true, true, true, true, true, false, false, false, false, false, false, false] _
        refine AI.gtake (i := 19) rfl rfl (by kernel_rfl) (by kernel_rfl) (by kernel_rfl) rfl rfl rfl (fun _ _ h => h) h32 (opS_load_cp Tryd.underlying3 rfl rfl) ?_
        show AI _ _ _ _ _ #[true, true, true, true, true, true, true, true, true, true, true, true, true, true, true, true, true, true, true, true, false, false, false, false, false, false] _
        refine AI.gtake (i := 20) rfl rfl (by kernel_rfl) (by kernel_rfl) (by kernel_rfl) rfl rfl rfl (fun _ _ h => h) h32 (opS_fieldAddr_cp (n := 0) (by kernel_rfl) rfl (Nat.le_of_ble_eq_true rfl)) ?_
        show AI _ _ _ _ _ #[true, true, true, true, true, true, true, true, true, true, true, true, true, true, true, true, true, true, true, true, true, false, false, false, false, false] _
        refine AI.gtake (i := 21) rfl rfl (by kernel_rfl) (by kernel_rfl) (by kernel_rfl) rfl rfl rfl (fun _ _ h => h) h32 (opS_load_cp Tryd.underlying3 rfl rfl) ?_
        show AI _ _ _ _ _ #[true, true, true, true, true, true, true, true, true, true, true, true, true, true, true, true, true, true, true, true, true, true, false, false, false, false] _
        refine AI.gtake (i := 22) rfl rfl (by kernel_rfl) (by kernel_rfl) (by kernel_rfl) rfl rfl rfl (fun _ _ h => h) h32 (g_sub rfl rfl (g33 (and_tt (nf h31) h32))) ?_
        show AI _ _ _ _ _ #[true, true, true, true, true, true, true, true, true, true, true, true, true, true, true, true, true, true, true, true, true, true, true, false, false, false] _
        refine AI.gtake (i := 23) rfl rfl (by kernel_rfl) (by kernel_rfl) (by kernel_rfl) rfl rfl rfl (fun _ _ h => h) h32 (opS_le rfl rfl) ?_
        show AI _ _ _ _ _ #[true, true, true, true, true, true, true, true, true, true, true, true, true, true, true, true, true, true, true, true, true, true, true, true, false, false] _
        refine AI.gtake (i := 24) rfl rfl (by kernel_rfl) (by kernel_rfl) (by kernel_rfl) rfl rfl rfl (fun _ _ h => h) h31 (OpS.eq (av' := B (a8 && (decide ((a3.length : Int) ≤ x12.2.2.2.2.2.2.2.2.2.1 - x12.2.2.2.2.2.2.2.2.1)))) (opS_pick_t (av := .v _) rfl h32 rfl) (B_congr (and_t h32))) ?_
        show AI _ _ _ _ _ #[true, true, true, true, true, true, true, true, true, true, true, true, true, true, true, true, true, true, true, true, true, true, true, true, true, false] _
        exact K24 _ 11 rfl rfl
       ·
        refine AI.gskip (i := 13) rfl rfl (by kernel_rfl) (by kernel_rfl) (by kernel_rfl) rfl rfl rfl (fun _ _ h => h) h32 ?_
        show AI _ _ _ _ _ #[true, true, true, true, true, true, true, true, true, true, true, true, true, true, false, false, false, false, false, false, false, false, false, false, false, false] _
        refine AI.gskip (i := 14) rfl rfl (by kernel_rfl) (by kernel_rfl) (by kernel_rfl) rfl rfl rfl (fun _ _ h => h) h32 ?_
        show AI _ _ _ _ _ #[true, true, true, true, true, true, true, true, true, true, true, true, true, true, true, false, false, false, false, false, false, false, false, false, false, false] _
        refine AI.gskip (i := 15) rfl rfl (by kernel_rfl) (by kernel_rfl) (by kernel_rfl) rfl rfl rfl (fun _ _ h => h) h32 ?_
        show AI _ _ _ _ _ #[true, true, true, true, true, true, true, true, true, true, true, true, true, true, true, true, false, false, false, false, false, false, false, false, false, false] _
        refine AI.gskip (i := 16) rfl rfl (by kernel_rfl) (by kernel_rfl) (by kernel_rfl) rfl rfl rfl (fun _ _ h => h) h32 ?_
        show AI _ _ _ _ _ #[true, true, true, true, true, true, true, true, true, true, true, true, true, true, true, true, true, false, false, false, false, false, false, false, false, false] _
        refine AI.gskip (i := 17) rfl rfl (by kernel_rfl) (by kernel_rfl) (by kernel_rfl) rfl rfl rfl (fun _ _ h => h) h32 ?_
        show AI _ _ _ _ _ #[true, true, true, true, true, true, true, true, true, true, true, true, true, true, true, true, true, true, false, false, false, false, false, false, false, false] _
        refine AI.gskip (i := 18) rfl rfl (by kernel_rfl) (by kernel_rfl) (by kernel_rfl) rfl rfl rfl (fun _ _ h => h) h32 ?_
        show AI _ _ _ _ _ #[true, true, true, true, true, true, true, true, true, true, true, true, true, true, true, true, true, true, true, false, false, false, false, false, false, false] _
        refine AI.gskip (i := 19) rfl rfl (by kernel_rfl) (by kernel_rfl) (by kernel_rfl) rfl rfl rfl (fun _ _ h => h) h32 ?_
        show AI _ _ _ _ _ #[true, true, true, true, true, true, true, true, true, true, true, true, true, true, true, true, true, true, true, true, false, false, false, false, false, false] _
        refine AI.gskip (i := 20) rfl rfl (by kernel_rfl) (by kernel_rfl) (by kernel_rfl) rfl rfl rfl (fun _ _ h => h) h32 ?_
        show AI _ _ _ _ _ #[true, true, true, true, true, true, true, true, true, true, true, true, true, true, true, true, true, true, true, true, true, false, false, false, false, false] _
        refine AI.gskip (i := 21) rfl rfl (by kernel_rfl) (by kernel_rfl) (by kernel_rfl) rfl rfl rfl (fun _ _ h => h) h32 ?_
        show AI _ _ _ _ _ #[true, true, true, true, true, true, true, true, true, true, true, true, true, true, true, true, true, true, true, true, true, true, false, false, false, false] _
        refine AI.gskip (i := 22) rfl rfl (by kernel_rfl) (by kernel_rfl) (by kernel_rfl) rfl rfl rfl (fun _ _ h => h) h32 ?_
        show AI _ _ _ _ _ #[true, true, true, true, true, true, true, true, true, true, true, true, true, true, true, true, true, true, true, true, true, true, true, false, false, false] _
        refine AI.gskip (i := 23) rfl rfl (by kernel_rfl) (by kernel_rfl) (by kernel_rfl) rfl rfl rfl (fun _ _ h => h) h32 ?_
        show AI _ _ _ _ _ #[true, true, true, true, true, true, true, true, true, true, true, true, true, true, true, true, true, true, true, true, true, true, true, true, false, false] _
        refine AI.gtake (i := 24) rfl rfl (by kernel_rfl) (by kernel_rfl) (by kernel_rfl) rfl rfl rfl (fun _ _ h => h) h31 (OpS.eq (av' := B (a8 && (decide ((a3.length : Int) ≤ x12.2.2.2.2.2.2.2.2.2.1 - x12.2.2.2.2.2.2.2.2.1)))) (opS_pick_f (av := .v _) rfl h32 rfl) (B_congr (and_f h32))) ?_
        show AI _ _ _ _ _ #[true, true, true, true, true, true, true, true, true, true, true, true, true, true, true, true, true, true, true, true, true, true, true, true, true, false] _
        exact K24 _ 11 rfl rfl
      refine AI.take (i := 25) rfl rfl (by kernel_rfl) (by kernel_rfl) (by kernel_rfl) (fun _ _ h => h) (OpS.eq (av' := B ((!x29) || (a8 && (decide ((a3.length : Int) ≤ x12.2.2.2.2.2.2.2.2.2.1 - x12.2.2.2.2.2.2.2.2.1))))) (opS_pick_f (av := .v _) rfl h31 rfl) (B_congr (or_f h31))) ?_
      show AI _ _ _ _ _ #[true, true, true, true, true, true, true, true, true, true, true, true, true, true, true, true, true, true, true, true, true, true, true, true, true, true] _
      exact K25 _ 6 rfl rfl
    refine AI.done rfl ?_
    show AW _ _ _ _ _ _
    refine AW.cond rfl (fun c34 => ?_) (fun c34 => ?_)
    ·replace H := cnd_t c34 H
     refine AW.seq ?_
     refine AW.region ?_
     show AR _ _ _ _ _ [0] _
     refine sS rfl rfl rfl (asg rfl) ?_
     refine AR.nil ?_
     show AW _ _ _ _ _ _
     refine AW.ret ?_
     obtain rfl := Option.some.inj H
     exact And.intro rfl (Exists.intro _ (Exists.intro _ ⟨ResV.oneW rfl (.refl _), Sub.at [] rfl, rfl, rfl⟩))
    ·replace H := cnd_f c34 H
     refine AW.skip ?_
     show AW _ _ _ _ _ _
     refine AW.region ?_
     show AR _ _ _ _ _ [0, 1] _
     refine sS rfl rfl rfl (OpS.eq (av' := i64 3) (g_add rfl rfl (by decide)) rfl) ?_
     refine sS rfl rfl rfl (mv rfl) ?_
     refine AR.nil ?_
     show AW _ _ _ _ _ _
     refine AW.seq ?_
     refine AW.region ?_
     show AR _ _ _ _ _ [0] _
     refine sS rfl rfl rfl (OpS.eq (av' := B true) (opS_lt rfl rfl) (B_congr (by decide))) ?_
     refine AR.nil ?_
     show AW _ _ _ _ _ _
     refine AW.seq ?_
     refine AW.cond rfl (fun _ => ?_) (fun hx => bool_no rfl hx)
     refine AW.skip ?_
     show AW _ _ _ _ _ _
     refine AW.seq ?_
     refine AW.block ?_
     refine AW.seq ?_
     refine AW.region ?_
     show AR _ _ _ _ _ [0, 1, 2, 3, 4] _
     refine sS rfl rfl rfl (mv rfl) ?_
     refine sS rfl rfl rfl (opS_index_sub (i := 3) (k := 4) Tryd.underlying47 Tryd.underlying46 rfl (by kernel_rfl) rfl rfl rfl rfl) ?_
     refine sX rfl rfl rfl (opX_alloc (zs := [.int .i64 0, .int .i64 0, .string ⟨#[]⟩, .int .i64 0]) (by kernel_rfl)) ?_
     rintro _ _ ⟨o35, rfl, rfl⟩
     refine sS rfl rfl rfl (asg rfl) ?_
     refine s0 rfl rfl (opR_store_agg (i := 0) (vs := [i64 x12.2.2.2.2.2.2.2.2.2.2.2.2.1, i64 x12.2.2.2.2.2.2.2.2.2.2.2.2.2.1, S x12.2.2.2.2.2.2.2.2.2.2.2.2.2.2.1, i64 x12.2.2.2.2.2.2.2.2.2.2.2.2.2.2.2.1]) (by kernel_rfl) rfl rfl (by simp [isCell, slE]) rfl (Nat.le_of_ble_eq_true rfl)) ?_
     refine AR.freezeCp 4 0 rfl rfl ?_
     show AR _ _ _ _ _ _ ⟨_, _, []⟩
     refine AR.nil ?_
     show AW _ _ _ _ _ _
     refine AW.seq ?_
     obtain ⟨x36, e37, H⟩ := bnd_s H
     obtain ⟨g40, H⟩ := grdc_s H
     refine AW.region_draw (by kernel_rfl) ?_
     show AI _ _ _ _ 26 (Array.replicate 26 false) _
     refine AI.take (i := 0) rfl rfl (by kernel_rfl) (by kernel_rfl) (by kernel_rfl) (fun _ _ h => h) (opS_load_cp_agg Tryd.underlying46 rfl (n := 4) (by kernel_rfl) rfl (Nat.le_of_ble_eq_true rfl)) ?_
     show AI _ _ _ _ _ #[true, false, false, false, false, false, false, false, false, false, false, false, false, false, false, false, false, false, false, false, false, false, false, false, false, false] _
     refine AI.take (i := 1) rfl rfl (by kernel_rfl) (by kernel_rfl) (by kernel_rfl) (fun _ _ h => h) (mv rfl) ?_
     show AI _ _ _ _ _ #[true, true, false, false, false, false, false, false, false, false, false, false, false, false, false, false, false, false, false, false, false, false, false, false, false, false] _
     refine AI.take (i := 2) rfl rfl (by kernel_rfl) (by kernel_rfl) (by kernel_rfl) (fun _ _ h => h) (opS_fieldAddr_cp (n := 0) (by kernel_rfl) rfl (Nat.le_of_ble_eq_true rfl)) ?_
     show AI _ _ _ _ _ #[true, true, true, false, false, false, false, false, false, false, false, false, false, false, false, false, false, false, false, false, false, false, false, false, false, false] _
     refine AI.take (i := 3) rfl rfl (by kernel_rfl) (by kernel_rfl) (by kernel_rfl) (fun _ _ h => h) (opS_indexAddr_arr_cp (k := 1) (m := 3) Tryd.underlying25 (by kernel_rfl) rfl rfl rfl (by decide) (Nat.le_of_ble_eq_true rfl)) ?_
     show AI _ _ _ _ _ #[true, true, true, true, false, false, false, false, false, false, false, false, false, false, false, false, false, false, false, false, false, false, false, false, false, false] _
     refine AI.take (i := 4) rfl rfl (by kernel_rfl) (by kernel_rfl) (by kernel_rfl) (fun _ _ h => h) (opS_load_cp Tryd.underlying24 rfl rfl) ?_
     show AI _ _ _ _ _ #[true, true, true, true, true, false, false, false, false, false, false, false, false, false, false, false, false, false, false, false, false, false, false, false, false, false] _
     refine AI.one (i := 5) (by kernel_rfl) rfl rfl ?_
     refine AIO.callp rfl en23_cronb rfl (w_cron_rises F x12.2.2.2.2.2.2.2.2.2.2.2.2.1 x12.2.2.2.2.2.2.2.2.2.2.2.2.2.1 x12.2.2.2.2.2.2.2.2.2.2.2.2.2.2.1 x12.2.2.2.2.2.2.2.2.2.2.2.2.2.2.2.1 a4 none x36 e37) ?_
     show AI _ _ _ _ _ #[true, true, true, true, true, true, false, false, false, false, false, false, false, false, false, false, false, false, false, false, false, false, false, false, false, false] _
     refine AI.take (i := 6) rfl rfl (by kernel_rfl) (by kernel_rfl) (by kernel_rfl) (fun _ _ h => h) (opS_not rfl) ?_
     show AI _ _ _ _ _ #[true, true, true, true, true, true, true, false, false, false, false, false, false, false, false, false, false, false, false, false, false, false, false, false, false, false] _
     refine AI.take (i := 7) rfl rfl (by kernel_rfl) (by kernel_rfl) (by kernel_rfl) (fun _ _ h => h) (mv rfl) ?_
     show AI _ _ _ _ _ #[true, true, true, true, true, true, true, true, false, false, false, false, false, false, false, false, false, false, false, false, false, false, false, false, false, false] _
     refine AI.meet 0 #[true, true, true, true, true, true, true, true, true, true, true, true, true, true, true, true, true, true, true, true, true, true, true, true, true, true] 35 (B ((!x36) || (a9 && (decide ((a4.length : Int) ≤ x12.2.2.2.2.2.2.2.2.2.2.2.2.2.1 - x12.2.2.2.2.2.2.2.2.2.2.2.2.1))))) (fun K25 => ?_) ?_
     ·refine AI.gsplit (t := 17) rfl (fun h38 => ?_) (fun h38 => ?_)
      ·
       refine AI.gskip (i := 8) rfl rfl (by kernel_rfl) (by kernel_rfl) (by kernel_rfl) rfl rfl rfl (fun _ _ h => h) h38 ?_
       show AI _ _ _ _ _ #[true, true, true, true, true, true, true, true, true, false, false, false, false, false, false, false, false, false, false, false, false, false, false, false, false, false] _
       refine AI.gskip (i := 9) rfl rfl (by kernel_rfl) (by kernel_rfl) (by kernel_rfl) rfl rfl rfl (fun _ _ h => h) h38 ?_
       show AI _ _ _ _ _ #[true, true, true, true, true, true, true, true, true, true, false, false, false, false, false, false, false, false, false, false, false, false, false, false, false, false] _
       refine AI.gskip (i := 10) rfl rfl (by kernel_rfl) (by kernel_rfl) (by kernel_rfl) rfl rfl rfl (fun _ _ h => h) h38 ?_
       show AI _ _ _ _ _ #[true, true, true, true, true, true, true, true, true, true, true, false, false, false, false, false, false, false, false, false, false, false, false, false, false, false] _
       refine AI.gskip (i := 11) rfl rfl (by kernel_rfl) (by kernel_rfl) (by kernel_rfl) rfl rfl rfl (fun _ _ h => h) h38 ?_
       show AI _ _ _ _ _ #[true, true, true, true, true, true, true, true, true, true, true, true, false, false, false, false, false, false, false, false, false, false, false, false, false, false] _
       refine AI.gskip (i := 12) rfl rfl (by kernel_rfl) (by kernel_rfl) (by kernel_rfl) rfl rfl rfl (fun _ _ h => h) h38 ?_
       show AI _ _ _ _ _ #[true, true, true, true, true, true, true, true, true, true, true, true, true, false, false, false, false, false, false, false, false, false, false, false, false, false] _
       refine AI.gskip_u (i := 13) rfl rfl (by kernel_rfl) (by kernel_rfl) (by kernel_rfl) rfl rfl rfl (fun _ _ h => h) ?_
       show AI _ _ _ _ _ #[true, true, true, true, true, true, true, true, true, true, true, true, true, true, false, false, false, false, false, false, false, false, false, false, false, false] _
       refine AI.gskip_u (i := 14) rfl rfl (by kernel_rfl) (by kernel_rfl) (by kernel_rfl) rfl rfl rfl (fun _ _ h => h) ?_
       show AI _ _ _ _ _ #[true, true, true, true, true, true, true, true, true, true, true, true, true, true, true, false, false, false, false, false, false, false, false, false, false, false] _
       refine AI.gskip_u (i := 15) rfl rfl (by kernel_rfl) (by kernel_rfl) (by kernel_rfl) rfl rfl rfl (fun _ _ h => h) ?_
       show AI _ _ _ _ _ #[true, true, true, true, true, true, true, true, true, true, true, true, true, true, true, true, false, false, false, false, false, false, false, false, false, false] _
       refine AI.gskip_u (i := 16) rfl rfl (by kernel_rfl) (by kernel_rfl) (by kernel_rfl) rfl rfl rfl (fun _ _ h => h) ?_
       show AI _ _ _ _ _ #[true, true, true, true, true, true, true, true, true, true, true, true, true, true, true, true, true, false, false, false, false, false, false, false, false, false] _
       refine AI.gskip_u (i := 17) rfl rfl (by kernel_rfl) (by kernel_rfl) (by kernel_rfl) rfl rfl rfl (fun _ _ h => h) ?_
       show AI _ _ _ _ _ #[true, true, true, true, true, true, true, true, true, true, true, true, true, true, true, true, true, true, false, false, false, false, false, false, false, false] _
       refine AI.gskip_u (i := 18) rfl rfl (by kernel_rfl) (by kernel_rfl) (by kernel_rfl) rfl rfl rfl (fun _ _ h => h) ?_
       show AI _ _ _ _ _ #[true, true, true, true, true, true, true, true, true, true, true, true, true, true, true, true, true, true, true, false, false, false, false, false, false, false] _
       refine AI.gskip_u (i := 19) rfl rfl (by kernel_rfl) (by kernel_rfl) (by kernel_rfl) rfl rfl rfl (fun _ _ h => h) ?_
       show AI _ _ _ _ _ #[true, true, true, true, true, true, true, true, true, true, true, true, true, true, true, true, true, true, true, true, false, false, false, false, false, false] _
       refine AI.gskip_u (i := 20) rfl rfl (by kernel_rfl) (by kernel_rfl) (by kernel_rfl) rfl rfl rfl (fun _ _ h => h) ?_
       show AI _ _ _ _ _ #[true, true, true, true, true, true, true, true, true, true, true, true, true, true, true, true, true, true, true, true, true, false, false, false, false, false] _
       refine AI.gskip_u (i := 21) rfl rfl (by kernel_rfl) (by kernel_rfl) (by kernel_rfl) rfl rfl rfl (fun _ _ h => h) ?_
       show AI _ _ _ _ _ #[true, true, true, true, true, true, true, true, true, true, true, true, true, true, true, true, true, true, true, true, true, true, false, false, false, false] _
       refine AI.gskip_u (i := 22) rfl rfl (by kernel_rfl) (by kernel_rfl) (by kernel_rfl) rfl rfl rfl (fun _ _ h => h) ?_
       show AI _ _ _ _ _ #[true, true, true, true, true, true, true, true, true, true, true, true, true, true, true, true, true, true, true, true, true, true, true, false, false, false] _
       refine AI.gskip_u (i := 23) rfl rfl (by kernel_rfl) (by kernel_rfl) (by kernel_rfl) rfl rfl rfl (fun _ _ h => h) ?_
       show AI _ _ _ _ _ #[true, true, true, true, true, true, true, true, true, true, true, true, true, true, true, true, true, true, true, true, true, true, true, true, false, false] _
       refine AI.gskip (i := 24) rfl rfl (by kernel_rfl) (by kernel_rfl) (by kernel_rfl) rfl rfl rfl (fun _ _ h => h) h38 ?_
       show AI _ _ _ _ _ #[true, true, true, true, true, true, true, true, true, true, true, true, true, true, true, true, true, true, true, true, true, true, true, true, true, false] _
       refine AI.take (i := 25) rfl rfl (by kernel_rfl) (by kernel_rfl) (by kernel_rfl) (fun _ _ h => h) (OpS.eq (av' := B ((!x36) || (a9 && (decide ((a4.length : Int) ≤ x12.2.2.2.2.2.2.2.2.2.2.2.2.2.1 - x12.2.2.2.2.2.2.2.2.2.2.2.2.1))))) (opS_pick_t (av := .v _) rfl h38 rfl) (B_congr (or_t h38))) ?_
       show AI _ _ _ _ _ #[true, true, true, true, true, true, true, true, true, true, true, true, true, true, true, true, true, true, true, true, true, true, true, true, true, true] _
       exact K25 _ 17 rfl rfl
      ·
       refine AI.gtake (i := 8) rfl rfl (by kernel_rfl) (by kernel_rfl) (by kernel_rfl) rfl rfl rfl (fun _ _ h => h) h38 (mv rfl) ?_
       show AI _ _ _ _ _ #[true, true, true, true, true, true, true, true, true, false, false, false, false, false, false, false, false, false, false, false, false, false, false, false, false, false] _
       refine AI.gtake (i := 9) rfl rfl (by kernel_rfl) (by kernel_rfl) (by kernel_rfl) rfl rfl rfl (fun _ _ h => h) h38 (opS_fieldAddr_cp (n := 5) (by kernel_rfl) rfl (Nat.le_of_ble_eq_true rfl)) ?_
       show AI _ _ _ _ _ #[true, true, true, true, true, true, true, true, true, true, false, false, false, false, false, false, false, false, false, false, false, false, false, false, false, false] _
       refine AI.gtake (i := 10) rfl rfl (by kernel_rfl) (by kernel_rfl) (by kernel_rfl) rfl rfl rfl (fun _ _ h => h) h38 (opS_indexAddr_arr_cp (k := 1) (m := 3) Tryd.underlying26 (by kernel_rfl) rfl rfl rfl (by decide) (Nat.le_of_ble_eq_true rfl)) ?_
       show AI _ _ _ _ _ #[true, true, true, true, true, true, true, true, true, true, true, false, false, false, false, false, false, false, false, false, false, false, false, false, false, false] _
       refine AI.gtake (i := 11) rfl rfl (by kernel_rfl) (by kernel_rfl) (by kernel_rfl) rfl rfl rfl (fun _ _ h => h) h38 (opS_load_cp Tryd.underlying4 rfl rfl) ?_
       show AI _ _ _ _ _ #[true, true, true, true, true, true, true, true, true, true, true, true, false, false, false, false, false, false, false, false, false, false, false, false, false, false] _
       refine AI.gtake (i := 12) rfl rfl (by kernel_rfl) (by kernel_rfl) (by kernel_rfl) rfl rfl rfl (fun _ _ h => h) h38 (mv rfl) ?_
       show AI _ _ _ _ _ #[true, true, true, true, true, true, true, true, true, true, true, true, true, false, false, false, false, false, false, false, false, false, false, false, false, false] _
       refine AI.meet 1 #[true, true, true, true, true, true, true, true, true, true, true, true, true, true, true, true, true, true, true, true, true, true, true, true, true, false] 34 (B (a9 && (decide ((a4.length : Int) ≤ x12.2.2.2.2.2.2.2.2.2.2.2.2.2.1 - x12.2.2.2.2.2.2.2.2.2.2.2.2.1)))) (fun K24 => ?_) ?_
       ·refine AI.gsplit (t := 22) rfl (fun h39 => ?_) (fun h39 => ?_)
        ·
         refine AI.gtake (i := 13) rfl rfl (by kernel_rfl) (by kernel_rfl) (by kernel_rfl) rfl rfl rfl (fun _ _ h => h) h39 (mv rfl) ?_
         show AI _ _ _ _ _ #[true, true, true, true, true, true, true, true, true, true, true, true, true, true, false, false, false, false, false, false, false, false, false, false, false, false] _
         refine AI.gtake (i := 14) rfl rfl (by kernel_rfl) (by kernel_rfl) (by kernel_rfl) rfl rfl rfl (fun _ _ h => h) h39 (opS_fieldAddr_cp (n := 0) (by kernel_rfl) rfl (Nat.le_of_ble_eq_true rfl)) ?_
         show AI _ _ _ _ _ #[true, true, true, true, true, true, true, true, true, true, true, true, true, true, true, false, false, false, false, false, false, false, false, false, false, false] _
         refine AI.gtake (i := 15) rfl rfl (by kernel_rfl) (by kernel_rfl) (by kernel_rfl) rfl rfl rfl (fun _ _ h => h) h39 (opS_indexAddr_arr_cp (k := 1) (m := 3) Tryd.underlying25 (by kernel_rfl) rfl rfl rfl (by decide) (Nat.le_of_ble_eq_true rfl)) ?_
         show AI _ _ _ _ _ #[true, true, true, true, true, true, true, true, true, true, true, true, true, true, true, true, false, false, false, false, false, false, false, false, false, false] _
         refine AI.gtake (i := 16) rfl rfl (by kernel_rfl) (by kernel_rfl) (by kernel_rfl) rfl rfl rfl (fun _ _ h => h) h39 (opS_load_cp Tryd.underlying24 rfl rfl) ?_
         show AI _ _ _ _ _ #[true, true, true, true, true, true, true, true, true, true, true, true, true, true, true, true, true, false, false, false, false, false, false, false, false, false] _
         refine AI.gtake (i := 17) rfl rfl (by kernel_rfl) (by kernel_rfl) (by kernel_rfl) rfl rfl rfl (fun _ _ h => h) h39 (opS_len_sl Tryd.underlying24 rfl) ?_
         show AI _ _ _ _ _ #[true, true, true, true, true, true, true, true, true, true, true, true, true, true, true, true, true, true, false, false, false, false, false, false, false, false] _
         refine AI.gtake (i := 18) rfl rfl (by kernel_rfl) (by kernel_rfl) (by kernel_rfl) rfl rfl rfl (fun _ _ h => h) h39 (opS_fieldAddr_cp (n := 1) (by kernel_rfl) rfl (Nat.le_of_ble_eq_true rfl)) ?_
         show AI _ _ _ _ _ #[true, true, true, true, true, true, true, true, true, true, true, true, true, true, true, true, true, true, true, false, false, false, false, false, false, false] _
         refine AI.gtake (i := 19) rfl rfl (by kernel_rfl) (by kernel_rfl) (by kernel_rfl) rfl rfl rfl (fun _ _ h => h) h39 (opS_load_cp Tryd.underlying3 rfl rfl) ?_
         show AI _ _ _ _ _ #[true, true, true, true, true, true, true, true, true, true, true, true, true, true, true, true, true, true, true, true, false, false, false, false, false, false] _
         refine AI.gtake (i := 20) rfl rfl (by kernel_rfl) (by kernel_rfl) (by kernel_rfl) rfl rfl rfl (fun _ _ h => h) h39 (opS_fieldAddr_cp (n := 0) (by kernel_rfl) rfl (Nat.le_of_ble_eq_true rfl)) ?_
         show AI _ _ _ _ _ #[true, true, true, true, true, true, true, true, true, true, true, true, true, true, true, true, true, true, true, true, true, false, false, false, false, false] _
         refine AI.gtake (i := 21) rfl rfl (by kernel_rfl) (by kernel_rfl) (by kernel_rfl) rfl rfl rfl (fun _ _ h => h) h39 (opS_load_cp Tryd.underlying3 rfl rfl) ?_
         show AI _ _ _ _ _ #[true, true, true, true, true, true, true, true, true, true, true, true, true, true, true, true, true, true, true, true, true, true, false, false, false, false] _
         refine AI.gtake (i := 22) rfl rfl (by kernel_rfl) (by kernel_rfl) (by kernel_rfl) rfl rfl rfl (fun _ _ h => h) h39 (g_sub rfl rfl (g40 (and_tt (nf h38) h39))) ?_
         show AI _ _ _ _ _ #[true, true, true, true, true, true, true, true, true, true, true, true, true, true, true, true, true, true, true, true, true, true, true, false, false, false] _
         refine AI.gtake (i := 23) rfl rfl (by kernel_rfl) (by kernel_rfl) (by kernel_rfl) rfl rfl rfl (fun _ _ h => h) h39 (opS_le rfl rfl) ?_
         show AI _ _ _ _ _ #[true, true, true, true, true, true, true, true, true, true, true, true, true, true, true, true, true, true, true, true, true, true, true, true, false, false] _
         refine AI.gtake (i := 24) rfl rfl (by kernel_rfl) (by kernel_rfl) (by kernel_rfl) rfl rfl rfl (fun _ _ h => h) h38 (OpS.eq (av' := B (a9 && (decide ((a4.length : Int) ≤ x12.2.2.2.2.2.2.2.2.2.2.2.2.2.1 - x12.2.2.2.2.2.2.2.2.2.2.2.2.1)))) (opS_pick_t (av := .v _) rfl h39 rfl) (B_congr (and_t h39))) ?_
         show AI _ _ _ _ _ #[true, true, true, true, true, true, true, true, true, true, true, true, true, true, true, true, true, true, true, true, true, true, true, true, true, false] _
         exact K24 _ 11 rfl rfl
        ·
         refine AI.gskip (i := 13) rfl rfl (by kernel_rfl) (by kernel_rfl) (by kernel_rfl) rfl rfl rfl (fun _ _ h => h) h39 ?_
         show AI _ _ _ _ _ #[true, true, true, true, true, true, true, true, true, true, true, true, true, true, false, false, false, false, false, false, false, false, false, false, false, false] _
         refine AI.gskip (i := 14) rfl rfl (by kernel_rfl) (by kernel_rfl) (by kernel_rfl) rfl rfl rfl (fun _ _ h => h) h39 ?_
         show AI _ _ _ _ _ #[true, true, true, true, true, true, true, true, true, true, true, true, true, true, true, false, false, false, false, false, false, false, false, false, false, false] _
         refine AI.gskip (i := 15) rfl rfl (by kernel_rfl) (by kernel_rfl) (by kernel_rfl) rfl rfl rfl (fun _ _ h => h) h39 ?_
         show AI _ _ _ _ _ #[true, true, true, true, true, true, true, true, true, true, true, true, true, true, true, true, false, false, false, false, false, false, false, false, false, false] _
         refine AI.gskip (i := 16) rfl rfl (by kernel_rfl) (by kernel_rfl) (by kernel_rfl) rfl rfl rfl (fun _ _ h => h) h39 ?_
         show AI _ _ _ _ _ #[true, true, true, true, true, true, true, true, true, true, true, true, true, true, true, true, true, false, false, false, false, false, false, false, false, false] _
         refine AI.gskip (i := 17) rfl rfl (by kernel_rfl) (by kernel_rfl) (by kernel_rfl) rfl rfl rfl (fun _ _ h => h) h39 ?_
         show AI _ _ _ _ _ #[true, true, true, true, true, true, true, true, true, true, true, true, true, true, true, true, true, true, false, false, false, false, false, false, false, false] _
         refine AI.gskip (i := 18) rfl rfl (by kernel_rfl) (by kernel_rfl) (by kernel_rfl) rfl rfl rfl (fun _ _ h => h) h39 ?_
         show AI _ _ _ _ _ #[true, true, true, true, true, true, true, true, true, true, true, true, true, true, true, true, true, true, true, false, false, false, false, false, false, false] _
         refine AI.gskip (i := 19) rfl rfl (by kernel_rfl) (by kernel_rfl) (by kernel_rfl) rfl rfl rfl (fun _ _ h => h) h39 ?_
         show AI _ _ _ _ _ #[true, true, true, true, true, true, true, true, true, true, true, true, true, true, true, true, true, true, true, true, false, false, false, false, false, false] _
         refine AI.gskip (i := 20) rfl rfl (by kernel_rfl) (by kernel_rfl) (by kernel_rfl) rfl rfl rfl (fun _ _ h => h) h39 ?_
         show AI _ _ _ _ _ #[true, true, true, true, true, true, true, true, true, true, true, true, true, true, true, true, true, true, true, true, true, false, false, false, false, false] _
         refine AI.gskip (i := 21) rfl rfl (by kernel_rfl) (by kernel_rfl) (by kernel_rfl) rfl rfl rfl (fun _ _ h => h) h39 ?_
         show AI _ _ _ _ _ #[true, true, true, true, true, true, true, true, true, true, true, true, true, true, true, true, true, true, true, true, true, true, false, false, false, false] _
         refine AI.gskip (i := 22) rfl rfl (by kernel_rfl) (by kernel_rfl) (by kernel_rfl) rfl rfl rfl (fun _ _ h => h) h39 ?_
         show AI _ _ _ _ _ #[true, true, true, true, true, true, true, true, true, true, true, true, true, true, true, true, true, true, true, true, true, true, true, false, false, false] _
         refine AI.gskip (i := 23) rfl rfl (by kernel_rfl) (by kernel_rfl) (by kernel_rfl) rfl rfl rfl (fun _ _ h => h) h39 ?_
         show AI _ _ _ _ _ #[true, true, true, true, true, true, true, true, true, true, true, true, true, true, true, true, true, true, true, true, true, true, true, true, false, false] _
         refine AI.gtake (i := 24) rfl rfl (by kernel_rfl) (by kernel_rfl) (by kernel_rfl) rfl rfl rfl (fun _ _ h => h) h38 (OpS.eq (av' := B (a9 && (decide ((a4.length : Int) ≤ x12.2.2.2.2.2.2.2.2.2.2.2.2.2.1 - x12.2.2.2.2.2.2.2.2.2.2.2.2.1)))) (opS_pick_f (av := .v _) rfl h39 rfl) (B_congr (and_f h39))) ?_
         show AI _ _ _ _ _ #[true, true, true, true, true, true, true, true, true, true, true, true, true, true, true, true, true, true, true, true, true, true, true, true, true, false] _
         exact K24 _ 11 rfl rfl
       refine AI.take (i := 25) rfl rfl (by kernel_rfl) (by kernel_rfl) (by kernel_rfl) (fun _ _ h => h) (OpS.eq (av' := B ((!x36) || (a9 && (decide ((a4.length : Int) ≤ x12.2.2.2.2.2.2.2.2.2.2.2.2.2.1 - x12.2.2.2.2.2.2.2.2.2.2.2.2.1))))) (opS_pick_f (av := .v _) rfl h38 rfl) (B_congr (or_f h38))) ?_
       show AI _ _ _ _ _ #[true, true, true, true, true, true, true, true, true, true, true, true, true, true, true, true, true, true, true, true, true, true, true, true, true, true] _
       exact K25 _ 6 rfl rfl
     refine AI.done rfl ?_
     show AW _ _ _ _ _ _
     refine AW.cond rfl (fun c41 => ?_) (fun c41 => ?_)
     ·replace H := cnd_t c41 H
      refine AW.seq ?_
      refine AW.region ?_
      show AR _ _ _ _ _ [0] _
      refine sS rfl rfl rfl (asg rfl) ?_
      refine AR.nil ?_
      show AW _ _ _ _ _ _
      refine AW.ret ?_
      obtain rfl := Option.some.inj H
      exact And.intro rfl (Exists.intro _ (Exists.intro _ ⟨ResV.oneW rfl (.refl _), Sub.at [] rfl, rfl, rfl⟩))
     ·replace H := cnd_f c41 H
      refine AW.skip ?_
      show AW _ _ _ _ _ _
      refine AW.region ?_
      show AR _ _ _ _ _ [0, 1] _
      refine sS rfl rfl rfl (OpS.eq (av' := i64 4) (g_add rfl rfl (by decide)) rfl) ?_
      refine sS rfl rfl rfl (mv rfl) ?_
      refine AR.nil ?_
      show AW _ _ _ _ _ _
      refine AW.seq ?_
      refine AW.region ?_
      show AR _ _ _ _ _ [0] _
      refine sS rfl rfl rfl (OpS.eq (av' := B true) (opS_lt rfl rfl) (B_congr (by decide))) ?_
      refine AR.nil ?_
      show AW _ _ _ _ _ _
      refine AW.seq ?_
      refine AW.cond rfl (fun _ => ?_) (fun hx => bool_no rfl hx)
      refine AW.skip ?_
      show AW _ _ _ _ _ _
      refine AW.seq ?_
      refine AW.block ?_
      refine AW.seq ?_
      refine AW.region ?_
      show AR _ _ _ _ _ [0, 1, 2, 3, 4] _
      refine sS rfl rfl rfl (mv rfl) ?_
      refine sS rfl rfl rfl (opS_index_sub (i := 4) (k := 4) Tryd.underlying47 Tryd.underlying46 rfl (by kernel_rfl) rfl rfl rfl rfl) ?_
      refine sX rfl rfl rfl (opX_alloc (zs := [.int .i64 0, .int .i64 0, .string ⟨#[]⟩, .int .i64 0]) (by kernel_rfl)) ?_
      rintro _ _ ⟨o42, rfl, rfl⟩
      refine sS rfl rfl rfl (asg rfl) ?_
      refine s0 rfl rfl (opR_store_agg (i := 0) (vs := [i64 x12.2.2.2.2.2.2.2.2.2.2.2.2.2.2.2.2.1, i64 x12.2.2.2.2.2.2.2.2.2.2.2.2.2.2.2.2.2.1, S x12.2.2.2.2.2.2.2.2.2.2.2.2.2.2.2.2.2.2.1, i64 x12.2.2.2.2.2.2.2.2.2.2.2.2.2.2.2.2.2.2.2]) (by kernel_rfl) rfl rfl (by simp [isCell, slE]) rfl (Nat.le_of_ble_eq_true rfl)) ?_
      refine AR.freezeCp 4 0 rfl rfl ?_
      show AR _ _ _ _ _ _ ⟨_, _, []⟩
      refine AR.nil ?_
      show AW _ _ _ _ _ _
      refine AW.seq ?_
      obtain ⟨x43, e44, H⟩ := bnd_s H
      obtain ⟨g47, H⟩ := grdc_s H
      refine AW.region_draw (by kernel_rfl) ?_
      show AI _ _ _ _ 26 (Array.replicate 26 false) _
      refine AI.take (i := 0) rfl rfl (by kernel_rfl) (by kernel_rfl) (by kernel_rfl) (fun _ _ h => h) (opS_load_cp_agg Tryd.underlying46 rfl (n := 4) (by kernel_rfl) rfl (Nat.le_of_ble_eq_true rfl)) ?_
      show AI _ _ _ _ _ #[true, false, false, false, false, false, false, false, false, false, false, false, false, false, false, false, false, false, false, false, false, false, false, false, false, false] _
      refine AI.take (i := 1) rfl rfl (by kernel_rfl) (by kernel_rfl) (by kernel_rfl) (fun _ _ h => h) (mv rfl) ?_
      show AI _ _ _ _ _ #[true, true, false, false, false, false, false, false, false, false, false, false, false, false, false, false, false, false, false, false, false, false, false, false, false, false] _
      refine AI.take (i := 2) rfl rfl (by kernel_rfl) (by kernel_rfl) (by kernel_rfl) (fun _ _ h => h) (opS_fieldAddr_cp (n := 0) (by kernel_rfl) rfl (Nat.le_of_ble_eq_true rfl)) ?_
      show AI _ _ _ _ _ #[true, true, true, false, false, false, false, false, false, false, false, false, false, false, false, false, false, false, false, false, false, false, false, false, false, false] _
      refine AI.take (i := 3) rfl rfl (by kernel_rfl) (by kernel_rfl) (by kernel_rfl) (fun _ _ h => h) (opS_indexAddr_arr_cp (k := 1) (m := 4) Tryd.underlying25 (by kernel_rfl) rfl rfl rfl (by decide) (Nat.le_of_ble_eq_true rfl)) ?_
      show AI _ _ _ _ _ #[true, true, true, true, false, false, false, false, false, false, false, false, false, false, false, false, false, false, false, false, false, false, false, false, false, false] _
      refine AI.take (i := 4) rfl rfl (by kernel_rfl) (by kernel_rfl) (by kernel_rfl) (fun _ _ h => h) (opS_load_cp Tryd.underlying24 rfl rfl) ?_
      show AI _ _ _ _ _ #[true, true, true, true, true, false, false, false, false, false, false, false, false, false, false, false, false, false, false, false, false, false, false, false, false, false] _
      refine AI.one (i := 5) (by kernel_rfl) rfl rfl ?_
      refine AIO.callp rfl en23_cronb rfl (w_cron_rises F x12.2.2.2.2.2.2.2.2.2.2.2.2.2.2.2.2.1 x12.2.2.2.2.2.2.2.2.2.2.2.2.2.2.2.2.2.1 x12.2.2.2.2.2.2.2.2.2.2.2.2.2.2.2.2.2.2.1 x12.2.2.2.2.2.2.2.2.2.2.2.2.2.2.2.2.2.2.2 a5 none x43 e44) ?_
      show AI _ _ _ _ _ #[true, true, true, true, true, true, false, false, false, false, false, false, false, false, false, false, false, false, false, false, false, false, false, false, false, false] _
      refine AI.take (i := 6) rfl rfl (by kernel_rfl) (by kernel_rfl) (by kernel_rfl) (fun _ _ h => h) (opS_not rfl) ?_
      show AI _ _ _ _ _ #[true, true, true, true, true, true, true, false, false, false, false, false, false, false, false, false, false, false, false, false, false, false, false, false, false, false] _
      refine AI.take (i := 7) rfl rfl (by kernel_rfl) (by kernel_rfl) (by kernel_rfl) (fun _ _ h => h) (mv rfl) ?_
      show AI _ _ _ _ _ #[true, true, true, true, true, true, true, true, false, false, false, false, false, false, false, false, false, false, false, false, false, false, false, false, false, false] _
      refine AI.meet 0 #[true, true, true, true, true, true, true, true, true, true, true, true, true, true, true, true, true, true, true, true, true, true, true, true, true, true] 35 (B ((!x43) || (a10 && (decide ((a5.length : Int) ≤ x12.2.2.2.2.2.2.2.2.2.2.2.2.2.2.2.2.2.1 - x12.2.2.2.2.2.2.2.2.2.2.2.2.2.2.2.2.1))))) (fun K25 => ?_) ?_
      ·refine AI.gsplit (t := 17) rfl (fun h45 => ?_) (fun h45 => ?_)
       ·
        refine AI.gskip (i := 8) rfl rfl (by kernel_rfl) (by kernel_rfl) (by kernel_rfl) rfl rfl rfl (fun _ _ h => h) h45 ?_
        show AI _ _ _ _ _ #[true, true, true, true, true, true, true, true, true, false, false, false, false, false, false, false, false, false, false, false, false, false, false, false, false, false] _
        refine AI.gskip (i := 9) rfl rfl (by kernel_rfl) (by kernel_rfl) (by kernel_rfl) rfl rfl rfl (fun _ _ h => h) h45 ?_
        show AI _ _ _ _ _ #[true, true, true, true, true, true, true, true, true, true, false, false, false, false, false, false, false, false, false, false, false, false, false, false, false, false] _
        refine AI.gskip (i := 10) rfl rfl (by kernel_rfl) (by kernel_rfl) (by kernel_rfl) rfl rfl rfl (fun _ _ h => h) h45 ?_
        show AI _ _ _ _ _ #[true, true, true, true, true, true, true, true, true, true, true, false, false, false, false, false, false, false, false, false, false, false, false, false, false, false] _
        refine AI.gskip (i := 11) rfl rfl (by kernel_rfl) (by kernel_rfl) (by kernel_rfl) rfl rfl rfl (fun _ _ h => h) h45 ?_
        show AI _ _ _ _ _ #[true, true, true, true, true, true, true, true, true, true, true, true, false, false, false, false, false, false, false, false, false, false, false, false, false, false] _
        refine AI.gskip (i := 12) rfl rfl (by kernel_rfl) (by kernel_rfl) (by kernel_rfl) rfl rfl rfl (fun _ _ h => h) h45 ?_
        show AI _ _ _ _ _ #[true, true, true, true, true, true, true, true, true, true, true, true, true, false, false, false, false, false, false, false, false, false, false, false, false, false] _
        refine AI.gskip_u (i := 13) rfl rfl (by kernel_rfl) (by kernel_rfl) (by kernel_rfl) rfl rfl rfl (fun _ _ h => h) ?_
        show AI _ _ _ _ _ #[true, true, true, true, true, true, true, true, true, true, true, true, true, true, false, false, false, false, false, false, false, false, false, false, false, false] _
        refine AI.gskip_u (i := 14) rfl rfl (by kernel_rfl) (by kernel_rfl) (by kernel_rfl) rfl rfl rfl (fun _ _ h => h) ?_
        show AI _ _ _ _ _ #[true, true, true, true, true, true, true, true, true, true, true, true, true, true, true, false, false, false, false, false, false, false, false, false, false, false] _
        refine AI.gskip_u (i := 15) rfl rfl (by kernel_rfl) (by kernel_rfl) (by kernel_rfl) rfl rfl rfl (fun _ _ h => h) ?_
        show AI _ _ _ _ _ #[true, true, true, true, true, true, true, true, true, true, true, true, true, true, true, true, false, false, false, false, false, false, false, false, false, false] _
        refine AI.gskip_u (i := 16) rfl rfl (by kernel_rfl) (by kernel_rfl) (by kernel_rfl) rfl rfl rfl (fun _ _ h => h) ?_
        show AI _ _ _ _ _ #[true, true, true, true, true, true, true, true, true, true, true, true, true, true, true, true, true, false, false, false, false, false, false, false, false, false] _
        refine AI.gskip_u (i := 17) rfl rfl (by kernel_rfl) (by kernel_rfl) (by kernel_rfl) rfl rfl rfl (fun _ _ h => h) ?_
        show AI _ _ _ _ _ #[true, true, true, true, true, true, true, true, true, true, true, true, true, true, true, true, true, true, false, false, false, false, false, false, false, false] _
        refine AI.gskip_u (i := 18) rfl rfl (by kernel_rfl) (by kernel_rfl) (by kernel_rfl) rfl rfl rfl (fun _ _ h => h) ?_
        show AI _ _ _ _ _ #[true, true, true, true, true, true, true, true, true, true, true, true, true, true, true, true, true, true, true, false, false, false, false, false, false, false] _
        refine AI.gskip_u (i := 19) rfl rfl (by kernel_rfl) (by kernel_rfl) (by kernel_rfl) rfl rfl rfl (fun _ _ h => h) ?_
        show AI _ _ _ _ _ #[true, true, true, true, true, true, true, true, true, true, true, true, true, true, true, true, true, true, true, true, false, false, false, false, false, false] _
        refine AI.gskip_u (i := 20) rfl rfl (by kernel_rfl) (by kernel_rfl) (by kernel_rfl) rfl rfl rfl (fun _ _ h => h) ?_
        show AI _ _ _ _ _ #[true, true, true, true, true, true, true, true, true, true, true, true, true, true, true, true, true, true, true, true, true, false, false, false, false, false] _
        refine AI.gskip_u (i := 21) rfl rfl (by kernel_rfl) (by kernel_rfl) (by kernel_rfl) rfl rfl rfl (fun _ _ h => h) ?_
        show AI _ _ _ _ _ #[true, true, true, true, true, true, true, true, true, true, true, true, true, true, true, true, true, true, true, true, true, true, false, false, false, false] _
        refine AI.gskip_u (i := 22) rfl rfl (by kernel_rfl) (by kernel_rfl) (by kernel_rfl) rfl rfl rfl (fun _ _ h => h) ?_
        show AI _ _ _ _ _ #[true, true, true, true, true, true, true, true, true, true, true, true, true, true, true, true, true, true, true, true, true, true, true, false, false, false] _
        refine AI.gskip_u (i := 23) rfl rfl (by kernel_rfl) (by kernel_rfl) (by kernel_rfl) rfl rfl rfl (fun _ _ h => h) ?_
        show AI _ _ _ _ _ #[true, true, true, true, true, true, true, true, true, true, true, true, true, true, true, true, true, true, true, true, true, true, true, true, false, false] _
        refine AI.gskip (i := 24) rfl rfl (by kernel_rfl) (by kernel_rfl) (by kernel_rfl) rfl rfl rfl (fun _ _ h => h) h45 ?_
        show AI _ _ _ _ _ #[true, true, true, true, true, true, true, true, true, true, true, true, true, true, true, true, true, true, true, true, true, true, true, true, true, false] _
        refine AI.take (i := 25) rfl rfl (by kernel_rfl) (by kernel_rfl) (by kernel_rfl) (fun _ _ h => h) (OpS.eq (av' := B ((!x43) || (a10 && (decide ((a5.length : Int) ≤ x12.2.2.2.2.2.2.2.2.2.2.2.2.2.2.2.2.2.1 - x12.2.2.2.2.2.2.2.2.2.2.2.2.2.2.2.2.1))))) (opS_pick_t (av := .v _) rfl h45 rfl) (B_congr (or_t h45))) ?_
        show AI _ _ _ _ _ #[true, true, true, true, true, true, true, true, true, true, true, true, true, true, true, true, true, true, true, true, true, true, true, true, true, true] _
        exact K25 _ 17 rfl rfl
       ·
        refine AI.gtake (i := 8) rfl rfl (by kernel_rfl) (by kernel_rfl) (by kernel_rfl) rfl rfl rfl (fun _ _ h => h) h45 (mv rfl) ?_
        show AI _ _ _ _ _ #[true, true, true, true, true, true, true, true, true, false, false, false, false, false, false, false, false, false, false, false, false, false, false, false, false, false] _
        refine AI.gtake (i := 9) rfl rfl (by kernel_rfl) (by kernel_rfl) (by kernel_rfl) rfl rfl rfl (fun _ _ h => h) h45 (opS_fieldAddr_cp (n := 5) (by kernel_rfl) rfl (Nat.le_of_ble_eq_true rfl)) ?_
        show AI _ _ _ _ _ #[true, true, true, true, true, true, true, true, true, true, false, false, false, false, false, false, false, false, false, false, false, false, false, false, false, false] _
        refine AI.gtake (i := 10) rfl rfl (by kernel_rfl) (by kernel_rfl) (by kernel_rfl) rfl rfl rfl (fun _ _ h => h) h45 (opS_indexAddr_arr_cp (k := 1) (m := 4) Tryd.underlying26 (by kernel_rfl) rfl rfl rfl (by decide) (Nat.le_of_ble_eq_true rfl)) ?_
        show AI _ _ _ _ _ #[true, true, true, true, true, true, true, true, true, true, true, false, false, false, false, false, false, false, false, false, false, false, false, false, false, false] _
        refine AI.gtake (i := 11) rfl rfl (by kernel_rfl) (by kernel_rfl) (by kernel_rfl) rfl rfl rfl (fun _ _ h => h) h45 (opS_load_cp Tryd.underlying4 rfl rfl) ?_
        show AI _ _ _ _ _ #[true, true, true, true, true, true, true, true, true, true, true, true, false, false, false, false, false, false, false, false, false, false, false, false, false, false] _
        refine AI.gtake (i := 12) rfl rfl (by kernel_rfl) (by kernel_rfl) (by kernel_rfl) rfl rfl rfl (fun _ _ h => h) h45 (mv rfl) ?_
        show AI _ _ _ _ _ #[true, true, true, true, true, true, true, true, true, true, true, true, true, false, false, false, false, false, false, false, false, false, false, false, false, false] _
        refine AI.meet 1 #[true, true, true, true, true, true, true, true, true, true, true, true, true, true, true, true, true, true, true, true, true, true, true, true, true, false] 34 (B (a10 && (decide ((a5.length : Int) ≤ x12.2.2.2.2.2.2.2.2.2.2.2.2.2.2.2.2.2.1 - x12.2.2.2.2.2.2.2.2.2.2.2.2.2.2.2.2.1)))) (fun K24 => ?_) ?_
        ·refine AI.gsplit (t := 22) rfl (fun h46 => ?_) (fun h46 => ?_)
         ·
          refine AI.gtake (i := 13) rfl rfl (by kernel_rfl) (by kernel_rfl) (by kernel_rfl) rfl rfl rfl (fun _ _ h => h) h46 (mv rfl) ?_
          show AI _ _ _ _ _ #[true, true, true, true, true, true, true, true, true, true, true, true, true, true, false, false, false, false, false, false, false, false, false, false, false, false] _
          refine AI.gtake (i := 14) rfl rfl (by kernel_rfl) (by kernel_rfl) (by kernel_rfl) rfl rfl rfl (fun _ _ h => h) h46 (opS_fieldAddr_cp (n := 0) (by kernel_rfl) rfl (Nat.le_of_ble_eq_true rfl)) ?_
          show AI _ _ _ _ _ #[true, true, true, true, true, true, true, true, true, true, true, true, true, true, true, false, false, false, false, false, false, false, false, false, false, false] _
          refine AI.gtake (i := 15) rfl rfl (by kernel_rfl) (by kernel_rfl) (by kernel_rfl) rfl rfl rfl (fun _ _ h => h) h46 (opS_indexAddr_arr_cp (k := 1) (m := 4) Tryd.underlying25 (by kernel_rfl) rfl rfl rfl (by decide) (Nat.le_of_ble_eq_true rfl)) ?_
          show AI _ _ _ _ _ #[true, true, true, true, true, true, true, true, true, true, true, true, true, true, true, true, false, false, false, false, false, false, false, false, false, false] _
          refine AI.gtake (i := 16) rfl rfl (by kernel_rfl) (by kernel_rfl) (by kernel_rfl) rfl rfl rfl (fun _ _ h => h) h46 (opS_load_cp Tryd.underlying24 rfl rfl) ?_
          show AI _ _ _ _ _ #[true, true, true, true, true, true, true, true, true, true, true, true, true, true, true, true, true, false, false, false, false, false, false, false, false, false] _
          refine AI.gtake (i := 17) rfl rfl (by kernel_rfl) (by kernel_rfl) (by kernel_rfl) rfl rfl rfl (fun _ _ h => h) h46 (opS_len_sl Tryd.underlying24 rfl) ?_
          show AI _ _ _ _ _ #[true, true, true, true, true, true, true, true, true, true, true, true, true, true, true, true, true, true, false, false, false, false, false, false, false, false] _
          refine AI.gtake (i := 18) rfl rfl (by kernel_rfl) (by kernel_rfl) (by kernel_rfl) rfl rfl rfl (fun _ _ h => h) h46 (opS_fieldAddr_cp (n := 1) (by kernel_rfl) rfl (Nat.le_of_ble_eq_true rfl)) ?_
          show AI _ _ _ _ _ #[true, true, true, true, true, true, true, true, true, true, true, true, true, true, true, true, true, true, true, false, false, false, false, false, false, false] _
          refine AI.gtake (i := 19) rfl rfl (by kernel_rfl) (by kernel_rfl) (by kernel_rfl) rfl rfl rfl (fun _ _ h => h) h46 (opS_load_cp Tryd.underlying3 rfl rfl) ?_
          show AI _ _ _ _ _ #[true, true, true, true, true, true, true, true, true, true, true, true, true, true, true, true, true, true, true, true, false, false, false, false, false, false] _
          refine AI.gtake (i := 20) rfl rfl (by kernel_rfl) (by kernel_rfl) (by kernel_rfl) rfl rfl rfl (fun _ _ h => h) h46 (opS_fieldAddr_cp (n := 0) (by kernel_rfl) rfl (Nat.le_of_ble_eq_true rfl)) ?_
          show AI _ _ _ _ _ #[true, true, true, true, true, true, true, true, true, true, true, true, true, true, true, true, true, true, true, true, true, false, false, false, false, false] _
          refine AI.gtake (i := 21) rfl rfl (by kernel_rfl) (by kernel_rfl) (by kernel_rfl) rfl rfl rfl (fun _ _ h => h) h46 (opS_load_cp Tryd.underlying3 rfl rfl) ?_
          show AI _ _ _ _ _ #[true, true, true, true, true, true, true, true, true, true, true, true, true, true, true, true, true, true, true, true, true, true, false, false, false, false] _
          refine AI.gtake (i := 22) rfl rfl (by kernel_rfl) (by kernel_rfl) (by kernel_rfl) rfl rfl rfl (fun _ _ h => h) h46 (g_sub rfl rfl (g47 (and_tt (nf h45) h46))) ?_
          show AI _ _ _ _ _ #[true, true, true, true, true, true, true, true, true, true, true, true, true, true, true, true, true, true, true, true, true, true, true, false, false, false] _
          refine AI.gtake (i := 23) rfl rfl (by kernel_rfl) (by kernel_rfl) (by kernel_rfl) rfl rfl rfl (fun _ _ h => h) h46 (opS_le rfl rfl) ?_
          show AI _ _ _ _ _ #[true, true, true, true, true, true, true, true, true, true, true, true, true, true, true, true, true, true, true, true, true, true, true, true, false, false] _
          refine AI.gtake (i := 24) rfl rfl (by kernel_rfl) (by kernel_rfl) (by kernel_rfl) rfl rfl rfl (fun _ _ h => h) h45 (OpS.eq (av' := B (a10 && (decide ((a5.length : Int) ≤ x12.2.2.2.2.2.2.2.2.2.2.2.2.2.2.2.2.2.1 - x12.2.2.2.2.2.2.2.2.2.2.2.2.2.2.2.2.1)))) (opS_pick_t (av := .v _) rfl h46 rfl) (B_congr (and_t h46))) ?_
          show AI _ _ _ _ _ #[true, true, true, true, true, true, true, true, true, true, true, true, true, true, true, true, true, true, true, true, true, true, true, true, true, false] _
          exact K24 _ 11 rfl rfl
         ·
          refine AI.gskip (i := 13) rfl rfl (by kernel_rfl) (by kernel_rfl) (by kernel_rfl) rfl rfl rfl (fun _ _ h => h) h46 ?_
          show AI _ _ _ _ _ #[true, true, true, true, true, true, true, true, true, true, true, true, true, true, false, false, false, false, false, false, false, false, false, false, false, false] _
          refine AI.gskip (i := 14) rfl rfl (by kernel_rfl) (by kernel_rfl) (by kernel_rfl) rfl rfl rfl (fun _ _ h => h) h46 ?_
          show AI _ _ _ _ _ #[true, true, true, true, true, true, true, true, true, true, true, true, true, true, true, false, false, false, false, false, false, false, false, false, false, false] _
          refine AI.gskip (i := 15) rfl rfl (by kernel_rfl) (by kernel_rfl) (by kernel_rfl) rfl rfl rfl (fun _ _ h => h) h46 ?_
          show AI _ _ _ _ _ #[true, true, true, true, true, true, true, true, true, true, true, true, true, true, true, true, false, false, false, false, false, false, false, false, false, false] _
          refine AI.gskip (i := 16) rfl rfl (by kernel_rfl) (by kernel_rfl) (by kernel_rfl) rfl rfl rfl (fun _ _ h => h) h46 ?_
          show AI _ _ _ _ _ #[true, true, true, true, true, true, true, true, true, true, true, true, true, true, true, true, true, false, false, false, false, false, false, false, false, false] _
          refine AI.gskip (i := 17) rfl rfl (by kernel_rfl) (by kernel_rfl) (by kernel_rfl) rfl rfl rfl (fun _ _ h => h) h46 ?_
          show AI _ _ _ _ _ #[true, true, true, true, true, true, true, true, true, true, true, true, true, true, true, true, true, true, false, false, false, false, false, false, false, false] _
          refine AI.gskip (i := 18) rfl rfl (by kernel_rfl) (by kernel_rfl) (by kernel_rfl) rfl rfl rfl (fun _ _ h => h) h46 ?_
          show AI _ _ _ _ _ #[true, true, true, true, true, true, true, true, true, true, true, true, true, true, true, true, true, true, true, false, false, false, false, false, false, false] _
          refine AI.gskip (i := 19) rfl rfl (by kernel_rfl) (by kernel_rfl) (by kernel_rfl) rfl rfl rfl (fun _ _ h => h) h46 ?_
          show AI _ _ _ _ _ #[true, true, true, true, true, true, true, true, true, true, true, true, true, true, true, true, true, true, true, true, false, false, false, false, false, false] _
          refine AI.gskip (i := 20) rfl rfl (by kernel_rfl) (by kernel_rfl) (by kernel_rfl) rfl rfl rfl (fun _ _ h => h) h46 ?_
          show AI _ _ _ _ _ #[true, true, true, true, true, true, true, true, true, true, true, true, true, true, true, true, true, true, true, true, true, false, false, false, false, false] _
          refine AI.gskip (i := 21) rfl rfl (by kernel_rfl) (by kernel_rfl) (by kernel_rfl) rfl rfl rfl (fun _ _ h => h) h46 ?_
          show AI _ _ _ _ _ #[true, true, true, true, true, true, true, true, true, true, true, true, true, true, true, true, true, true, true, true, true, true, false, false, false, false] _
          refine AI.gskip (i := 22) rfl rfl (by kernel_rfl) (by kernel_rfl) (by kernel_rfl) rfl rfl rfl (fun _ _ h => h) h46 ?_
          show AI _ _ _ _ _ #[true, true, true, true, true, true, true, true, true, true, true, true, true, true, true, true, true, true, true, true, true, true, true, false, false, false] _
          refine AI.gskip (i := 23) rfl rfl (by kernel_rfl) (by kernel_rfl) (by kernel_rfl) rfl rfl rfl (fun _ _ h => h) h46 ?_
          show AI _ _ _ _ _ #[true, true, true, true, true, true, true, true, true, true, true, true, true, true, true, true, true, true, true, true, true, true, true, true, false, false] _
          refine AI.gtake (i := 24) rfl rfl (by kernel_rfl) (by kernel_rfl) (by kernel_rfl) rfl rfl rfl (fun _ _ h => h) h45 (OpS.eq (av' := B (a10 && (decide ((a5.length : Int) ≤ x12.2.2.2.2.2.2.2.2.2.2.2.2.2.2.2.2.2.1 - x12.2.2.2.2.2.2.2.2.2.2.2.2.2.2.2.2.1)))) (opS_pick_f (av := .v _) rfl h46 rfl) (B_congr (and_f h46))) ?_
          show AI _ _ _ _ _ #[true, true, true, true, true, true, true, true, true, true, true, true, true, true, true, true, true, true, true, true, true, true, true, true, true, false] _
          exact K24 _ 11 rfl rfl
        refine AI.take (i := 25) rfl rfl (by kernel_rfl) (by kernel_rfl) (by kernel_rfl) (fun _ _ h => h) (OpS.eq (av' := B ((!x43) || (a10 && (decide ((a5.length : Int) ≤ x12.2.2.2.2.2.2.2.2.2.2.2.2.2.2.2.2.2.1 - x12.2.2.2.2.2.2.2.2.2.2.2.2.2.2.2.2.1))))) (opS_pick_f (av := .v _) rfl h45 rfl) (B_congr (or_f h45))) ?_
        show AI _ _ _ _ _ #[true, true, true, true, true, true, true, true, true, true, true, true, true, true, true, true, true, true, true, true, true, true, true, true, true, true] _
        exact K25 _ 6 rfl rfl
      refine AI.done rfl ?_
      show AW _ _ _ _ _ _
      refine AW.cond rfl (fun c48 => ?_) (fun c48 => ?_)
      ·replace H := cnd_t c48 H
       refine AW.seq ?_
       refine AW.region ?_
       show AR _ _ _ _ _ [0] _
       refine sS rfl rfl rfl (asg rfl) ?_
       refine AR.nil ?_
       show AW _ _ _ _ _ _
       refine AW.ret ?_
       obtain rfl := Option.some.inj H
       exact And.intro rfl (Exists.intro _ (Exists.intro _ ⟨ResV.oneW rfl (.refl _), Sub.at [] rfl, rfl, rfl⟩))
      ·replace H := cnd_f c48 H
       refine AW.skip ?_
       show AW _ _ _ _ _ _
       refine AW.region ?_
       show AR _ _ _ _ _ [0, 1] _
       refine sS rfl rfl rfl (OpS.eq (av' := i64 5) (g_add rfl rfl (by decide)) rfl) ?_
       refine sS rfl rfl rfl (mv rfl) ?_
       refine AR.nil ?_
       show AW _ _ _ _ _ _
       refine AW.seq ?_
       refine AW.region ?_
       show AR _ _ _ _ _ [0] _
       refine sS rfl rfl rfl (OpS.eq (av' := B false) (opS_lt rfl rfl) (B_congr (by decide))) ?_
       refine AR.nil ?_
       show AW _ _ _ _ _ _
       refine AW.seq ?_
       refine AW.cond rfl (fun hx => bool_no hx rfl) (fun _ => ?_)
       refine AW.exit ?_
       exact Exists.intro () ⟨H, WK.at [] (.nil _) rfl⟩
 rintro _ H
 replace H : cron_May_j1 = some r11 := H
 unfold cron_May_j1 at H
 show AW _ _ _ _ _ _
 refine AW.seq ?_
 refine AW.region ?_
 show AR _ _ _ _ _ [0] _
 refine sS rfl rfl rfl (asg rfl) ?_
 refine AR.nil ?_
 show AW _ _ _ _ _ _
 refine AW.ret ?_
 obtain rfl := Option.some.inj H
 exact And.intro rfl (Exists.intro _ (Exists.intro _ ⟨ResV.oneW rfl (.refl _), Sub.at [] rfl, rfl, rfl⟩))
set_option maxRecDepth 100000 in
set_option maxHeartbeats 1000000 in
theorem w_sl_Index (F : Nat) (a1 : List Int) (q2 : Option Nat) (a3 : Int) (r4 : Int) (H : sl_Index F a1 a3 = some r4) : ACalls Tryd.prog 41 [slE Enc.int a1 q2, i64 a3] [] (Ret (i64 r4) []) := by
 unfold sl_Index at H
 refine ACalls.of_body Tryd.func41 rfl rfl ?_
 show AW _ _ 19 _ _ _
 refine AW.seq ?_
 refine AW.region ?_
 show AR _ _ _ _ _ [0] _
 refine sS rfl rfl rfl (asg rfl) ?_
 refine AR.nil ?_
 show AW _ _ _ _ _ _
 refine AW.cut (X := Unit) (fun _ => ⟨[], [], []⟩) (fun _ => sl_Index_j1 = some r4) ?_ ?_
 ·
  refine AW.seq ?_
  refine AW.region ?_
  show AR _ _ _ _ _ [0, 1, 2] _
  refine sS rfl rfl rfl (opS_move (av := slE _ _ _) rfl) ?_
  refine sS rfl rfl rfl (opS_len_sl Tryd.underlying24 rfl) ?_
  refine sS rfl rfl rfl (mv rfl) ?_
  refine AR.nil ?_
  show AW _ _ _ _ _ _
  refine AW.block ?_
  refine AW.loop (X := Nat × Int) (fun (n7, y5) => ⟨[(0, slE Enc.int a1 q2), (1, i64 a3), (7, i64 (a1.length : Int)), (8, i64 y5)], [], []⟩) (fun (n7, y5) => sl_Index_L1 a1 a3 n7 y5 = some r4) (fun (n7, y5) => n7) (F, 0) H (WK.at [] (.cons (.refl _) (.cons (.refl _) (.cons (.refl _) (.cons (.refl _) (.nil _))))) rfl) ?_
  rintro ⟨n7, y5⟩ H
  obtain ⟨n7, rfl, H⟩ := loop_s H
  replace H : sl_Index_B1 a1 a3 (sl_Index_L1 a1 a3 n7) y5 = some r4 := H
  unfold sl_Index_B1 at H
  show AW _ _ _ _ _ _
  refine AW.seq ?_
  refine AW.region ?_
  show AR _ _ _ _ _ [0] _
  refine sS rfl rfl rfl (opS_lt rfl rfl) ?_
  refine AR.nil ?_
  show AW _ _ _ _ _ _
  refine AW.seq ?_
  refine AW.cond rfl (fun c8 => ?_) (fun c8 => ?_)
  ·replace H := cnd_t c8 H
   refine AW.skip ?_
   show AW _ _ _ _ _ _
   refine AW.seq ?_
   refine AW.block ?_
   refine AW.seq ?_
   refine AW.region ?_
   show AR _ _ _ _ _ [0, 1] _
   refine sS rfl rfl rfl (mv rfl) ?_
   refine sS rfl rfl rfl (asg rfl) ?_
   refine AR.nil ?_
   show AW _ _ _ _ _ _
   refine AW.seq ?_
   obtain ⟨g9, H⟩ := grd_s H
   obtain ⟨x10, e11, H⟩ := lt_s H
   refine AW.region ?_
   show AR _ _ _ _ _ [0, 1, 2, 3, 4, 5] _
   refine sS rfl rfl rfl (mv rfl) ?_
   refine sS rfl rfl rfl (opS_move (av := slE _ _ _) rfl) ?_
   refine sS rfl rfl rfl (mv rfl) ?_
   refine sS rfl rfl rfl (g_indexAddr (E := Enc.int) Tryd.underlying24 (by kernel_rfl) rfl rfl g9 e11) ?_
   refine sS rfl rfl rfl (opS_load_cp Tryd.underlying3 rfl rfl) ?_
   refine sS rfl rfl rfl (opS_eqi rfl rfl) ?_
   refine AR.nil ?_
   show AW _ _ _ _ _ _
   refine AW.cond rfl (fun c12 => ?_) (fun c12 => ?_)
   ·replace H := cnd_t c12 H
    refine AW.seq ?_
    refine AW.region ?_
    show AR _ _ _ _ _ [0, 1] _
    refine sS rfl rfl rfl (mv rfl) ?_
    refine sS rfl rfl rfl (asg rfl) ?_
    refine AR.nil ?_
    show AW _ _ _ _ _ _
    refine AW.ret ?_
    obtain rfl := Option.some.inj H
    exact And.intro rfl (Exists.intro _ (Exists.intro _ ⟨ResV.oneW rfl (.refl _), Sub.at [] rfl, rfl, rfl⟩))
   ·replace H := cnd_f c12 H
    refine AW.skip ?_
    show AW _ _ _ _ _ _
    obtain ⟨g13, H⟩ := grd_s H
    refine AW.region ?_
    show AR _ _ _ _ _ [0, 1] _
    refine sS rfl rfl rfl (g_add rfl rfl g13) ?_
    refine sS rfl rfl rfl (mv rfl) ?_
    refine AR.nil ?_
    exact Exists.intro (n7, y5 + 1) ⟨H, Nat.lt_succ_self _, WK.at [] (.cons (.refl _) (.cons (.refl _) (.cons (.refl _) (.cons (.refl _) (.nil _))))) rfl⟩
  ·replace H := cnd_f c8 H
   refine AW.exit ?_
   exact Exists.intro () ⟨H, WK.at [] (.nil _) rfl⟩
 rintro _ H
 replace H : sl_Index_j1 = some r4 := H
 unfold sl_Index_j1 at H
 show AW _ _ _ _ _ _
 refine AW.seq ?_
 refine AW.region ?_
 show AR _ _ _ _ _ [0] _
 refine sS rfl rfl rfl (asg rfl) ?_
 refine AR.nil ?_
 show AW _ _ _ _ _ _
 refine AW.ret ?_
 obtain rfl := Option.some.inj H
 exact And.intro rfl (Exists.intro _ (Exists.intro _ ⟨ResV.oneW rfl (.refl _), Sub.at [] rfl, rfl, rfl⟩))
set_option maxRecDepth 100000 in
set_option maxHeartbeats 1000000 in
theorem w_sl_Contains (F : Nat) (a1 : List Int) (q2 : Option Nat) (a3 : Int) (r4 : Bool) (H : sl_Contains F a1 a3 = some r4) : ACalls Tryd.prog 29 [slE Enc.int a1 q2, i64 a3] [] (Ret (B r4) []) := by
 unfold sl_Contains at H
 refine ACalls.of_body Tryd.func29 rfl rfl ?_
 show AW _ _ 9 _ _ _
 refine AW.seq ?_
 refine AW.region ?_
 show AR _ _ _ _ _ [0] _
 refine sS rfl rfl rfl (asg rfl) ?_
 refine AR.nil ?_
 show AW _ _ _ _ _ _
 refine AW.seq ?_
 obtain ⟨x5, e6, H⟩ := bnd_s H
 refine AW.region ?_
 show AR _ _ _ _ _ [0, 1, 2, 3, 4] _
 refine sS rfl rfl rfl (opS_move (av := slE _ _ _) rfl) ?_
 refine sS rfl rfl rfl (mv rfl) ?_
 refine AR.run rfl rfl (AO.callp rfl en41_cronb rfl (w_sl_Index F a1 q2 a3 x5 e6) ?_)
 refine sS rfl rfl rfl (opS_ge rfl rfl) ?_
 refine sS rfl rfl rfl (asg rfl) ?_
 refine AR.nil ?_
 show AW _ _ _ _ _ _
 refine AW.ret ?_
 obtain rfl := Option.some.inj H
 exact And.intro rfl (Exists.intro _ (Exists.intro _ ⟨ResV.oneW rfl (.refl _), Sub.at [] rfl, rfl, rfl⟩))
set_option maxRecDepth 100000 in
set_option maxHeartbeats 1000000 in
theorem w_cron_has (F : Nat) (a1 : List Int) (a2 : List Int) (a3 : List Int) (a4 : List Int) (a5 : List Int) (a6 : Bool) (a7 : Bool) (a8 : Bool) (a9 : Bool) (a10 : Bool) (a11 : Int) (a12 : Int) (r13 : Bool) (H : cron_has F a1 a2 a3 a4 a5 a6 a7 a8 a9 a10 a11 a12 = some r13) : ACalls Tryd.prog 18 [.agg [slE Enc.int a1 none, slE Enc.int a2 none, slE Enc.int a3 none, slE Enc.int a4 none, slE Enc.int a5 none, B a6, B a7, B a8, B a9, B a10], i64 a11, i64 a12] [] (Ret (B r13) []) := by
 unfold cron_has at H
 refine ACalls.of_body Tryd.func18 rfl rfl ?_
 show AW _ _ 13 _ _ _
 refine AW.seq ?_
 refine AW.region ?_
 show AR _ _ _ _ _ [0, 1] _
 refine sR rfl rfl rfl (opR_boxCp rfl (.inr ⟨_, rfl⟩)) ?_
 refine sS rfl rfl rfl (asg rfl) ?_
 refine AR.nil ?_
 show AW _ _ _ _ _ _
 refine AW.seq ?_
 obtain ⟨g14, H⟩ := grd_s H
 obtain ⟨x15, e16, H⟩ := lt_s H
 obtain ⟨x17, e18, H⟩ := bnd_s H
 refine AW.region ?_
 show AR _ _ _ _ _ [0, 1, 2, 3, 4, 5, 6] _
 refine sS rfl rfl rfl (mv rfl) ?_
 refine sS rfl rfl rfl (opS_fieldAddr_cp (n := 0) (by kernel_rfl) rfl (Nat.le_of_ble_eq_true rfl)) ?_
 refine sS rfl rfl rfl (opS_indexAddr_arrv_cp (E := (Enc.sl Enc.int)) (l := ([a1, a2, a3, a4, a5] : List (List Int))) (post := [B a6, B a7, B a8, B a9, B a10]) rfl Tryd.underlying25 (by kernel_rfl) rfl rfl rfl g14 e16 rfl) ?_
 refine sS rfl rfl rfl (opS_load_cp Tryd.underlying24 rfl rfl) ?_
 refine sS rfl rfl rfl (mv rfl) ?_
 refine AR.run rfl rfl (AO.callp rfl en29_cronb rfl (w_sl_Contains F x15 none a12 x17 e18) ?_)
 refine sS rfl rfl rfl (asg rfl) ?_
 refine AR.nil ?_
 show AW _ _ _ _ _ _
 refine AW.ret ?_
 obtain rfl := Option.some.inj H
 exact And.intro rfl (Exists.intro _ (Exists.intro _ ⟨ResV.oneW rfl (.refl _), Sub.at [] rfl, rfl, rfl⟩))
set_option maxRecDepth 100000 in
set_option maxHeartbeats 1000000 in
theorem w_cron_Day (F : Nat) (a1 : List Int) (a2 : List Int) (a3 : List Int) (a4 : List Int) (a5 : List Int) (a6 : Bool) (a7 : Bool) (a8 : Bool) (a9 : Bool) (a10 : Bool) (a11 : Int) (a12 : Int) (a13 : Int) (r14 : Bool) (H : cron_Day F a1 a2 a3 a4 a5 a6 a7 a8 a9 a10 a11 a12 a13 = some r14) : ACalls Tryd.prog 8 [.agg [slE Enc.int a1 none, slE Enc.int a2 none, slE Enc.int a3 none, slE Enc.int a4 none, slE Enc.int a5 none, B a6, B a7, B a8, B a9, B a10], i64 a11, i64 a12, i64 a13] [] (Ret (B r14) []) := by
 unfold cron_Day at H
 refine ACalls.of_body Tryd.func8 rfl rfl ?_
 show AW _ _ 56 _ _ _
 refine AW.seq ?_
 refine AW.region ?_
 show AR _ _ _ _ _ [0, 1] _
 refine sR rfl rfl rfl (opR_boxCp rfl (.inr ⟨_, rfl⟩)) ?_
 refine sS rfl rfl rfl (asg rfl) ?_
 refine AR.nil ?_
 show AW _ _ _ _ _ _
 refine AW.seq ?_
 obtain ⟨x15, x16, e17, H⟩ := bnd2_s H
 refine AW.region ?_
 show AR _ _ _ _ _ [0, 1, 2, 3, 4, 5, 6, 7, 8] _
 refine sS rfl rfl rfl (mv rfl) ?_
 refine sS rfl rfl rfl (mv rfl) ?_
 refine sS rfl rfl rfl (mv rfl) ?_
 refine AR.run rfl rfl (AO.callp rfl en19_cronb rfl (w_civil_Ord F a11 a12 a13 x15 x16 e17) ?_)
 refine sS rfl rfl rfl (opS_move (av := .tup _) rfl) ?_
 refine sS rfl rfl rfl (opS_extract (av := .v _) rfl rfl) ?_
 refine sS rfl rfl rfl (opS_extract (av := .v _) rfl rfl) ?_
 refine sS rfl rfl rfl (asg rfl) ?_
 refine sS rfl rfl rfl (asg rfl) ?_
 refine AR.nil ?_
 show AW _ _ _ _ _ _
 refine AW.seq ?_
 refine AW.seq ?_
 obtain ⟨x19, e20, H⟩ := bndc_s H
 obtain ⟨x22, e23, H⟩ := bndc_s H
 refine AW.region ?_
 show AR _ _ _ _ _ [0, 1, 2, 3, 4, 5, 6, 7, 8, 9, 10, 11, 12] _
 refine sS rfl rfl rfl (mv rfl) ?_
 refine sS rfl rfl rfl (opS_nei rfl rfl) ?_
 refine sS rfl rfl rfl (mv rfl) ?_
 refine AR.meet (l := [7, 8, 9, 10, 11, 12]) 26 (B ((!decide (x16 = 0)) || (!x19))) (fun K => ?_) ?_
 ·rcases Bool.eq_false_or_eq_true (!decide (x16 = 0)) with h18 | h18
  ·
   refine gF h18 rfl rfl rfl rfl rfl ?_
   refine gF h18 rfl rfl rfl rfl rfl ?_
   refine gF h18 rfl rfl rfl rfl rfl ?_
   refine sS rfl rfl rfl (opS_pick_t (av := .v _) rfl h18 rfl) ?_
   exact K _ 3 _ (B_congr (or_t h18)) rfl rfl
  ·
   refine gT h18 rfl rfl rfl rfl rfl rfl (AO.ops rfl rfl (opS_load_cp_agg Tryd.underlying28 rfl (n := 10) (by kernel_rfl) rfl (Nat.le_of_ble_eq_true rfl)) ?_)
   refine gT h18 rfl rfl rfl rfl rfl rfl (AO.callp rfl en14_cronb rfl (w_cron_May F a1 a2 a3 a4 a5 a6 a7 a8 a9 a10 x19 (e20 (nf h18))) ?_)
   refine gT h18 rfl rfl rfl rfl rfl rfl (AO.ops rfl rfl (opS_not rfl) ?_)
   refine sS rfl rfl rfl (opS_pick_f (av := .v _) rfl h18 rfl) ?_
   exact K _ 3 _ (B_congr (or_f h18)) rfl rfl
 refine sS rfl rfl rfl (mv rfl) ?_
 refine AR.meet (l := []) 32 (B (((!decide (x16 = 0)) || (!x19)) || (!x22))) (fun K => ?_) ?_
 ·rcases Bool.eq_false_or_eq_true ((!decide (x16 = 0)) || (!x19)) with h21 | h21
  ·
   refine gF h21 rfl rfl rfl rfl rfl ?_
   refine gF h21 rfl rfl rfl rfl rfl ?_
   refine gF h21 rfl rfl rfl rfl rfl ?_
   refine gF h21 rfl rfl rfl rfl rfl ?_
   refine sS rfl rfl rfl (opS_pick_t (av := .v _) rfl h21 rfl) ?_
   exact K _ 4 _ (B_congr (or_t h21)) rfl rfl
  ·
   refine gT h21 rfl rfl rfl rfl rfl rfl (AO.ops rfl rfl (opS_load_cp_agg Tryd.underlying28 rfl (n := 10) (by kernel_rfl) rfl (Nat.le_of_ble_eq_true rfl)) ?_)
   refine gT h21 rfl rfl rfl rfl rfl rfl (AO.ops rfl rfl (mv rfl) ?_)
   refine gT h21 rfl rfl rfl rfl rfl rfl (AO.callp rfl en18_cronb rfl (w_cron_has F a1 a2 a3 a4 a5 a6 a7 a8 a9 a10 3 a12 x22 (e23 (nf h21))) ?_)
   refine gT h21 rfl rfl rfl rfl rfl rfl (AO.ops rfl rfl (opS_not rfl) ?_)
   refine sS rfl rfl rfl (opS_pick_f (av := .v _) rfl h21 rfl) ?_
   exact K _ 4 _ (B_congr (or_f h21)) rfl rfl
 refine AR.nil ?_
 show AW _ _ _ _ _ _
 refine AW.cond rfl (fun c24 => ?_) (fun c24 => ?_)
 ·replace H := cnd_t c24 H
  refine AW.seq ?_
  refine AW.region ?_
  show AR _ _ _ _ _ [0] _
  refine sS rfl rfl rfl (asg rfl) ?_
  refine AR.nil ?_
  show AW _ _ _ _ _ _
  refine AW.ret ?_
  obtain rfl := Option.some.inj H
  exact And.intro rfl (Exists.intro _ (Exists.intro _ ⟨ResV.oneW rfl (.refl _), Sub.at [] rfl, rfl, rfl⟩))
 ·replace H := cnd_f c24 H
  refine AW.skip ?_
  show AW _ _ _ _ _ _
  refine AW.seq ?_
  obtain ⟨x25, e26, H⟩ := bnd_s H
  obtain ⟨x27, e28, H⟩ := bnd_s H
  obtain ⟨x29, e30, H⟩ := bnd_s H
  refine AW.region_draw (by kernel_rfl) ?_
  show AI _ _ _ _ 9 (Array.replicate 9 false) _
  refine AI.take (i := 0) rfl rfl (by kernel_rfl) (by kernel_rfl) (by kernel_rfl) (fun _ _ h => h) (opS_load_cp_agg Tryd.underlying28 rfl (n := 10) (by kernel_rfl) rfl (Nat.le_of_ble_eq_true rfl)) ?_
  show AI _ _ _ _ _ #[true, false, false, false, false, false, false, false, false] _
  refine AI.take (i := 1) rfl rfl (by kernel_rfl) (by kernel_rfl) (by kernel_rfl) (fun _ _ h => h) (mv rfl) ?_
  show AI _ _ _ _ _ #[true, true, false, false, false, false, false, false, false] _
  refine AI.take (i := 3) rfl rfl (by kernel_rfl) (by kernel_rfl) (by kernel_rfl) (fun _ _ h => h) (opS_load_cp_agg Tryd.underlying28 rfl (n := 10) (by kernel_rfl) rfl (Nat.le_of_ble_eq_true rfl)) ?_
  show AI _ _ _ _ _ #[true, true, false, true, false, false, false, false, false] _
  refine AI.take (i := 4) rfl rfl (by kernel_rfl) (by kernel_rfl) (by kernel_rfl) (fun _ _ h => h) (mv rfl) ?_
  show AI _ _ _ _ _ #[true, true, false, true, true, false, false, false, false] _
  refine AI.one (i := 2) (by kernel_rfl) rfl rfl ?_
  refine AIO.callp rfl en18_cronb rfl (w_cron_has F a1 a2 a3 a4 a5 a6 a7 a8 a9 a10 2 a13 x25 e26) ?_
  show AI _ _ _ _ _ #[true, true, true, true, true, false, false, false, false] _
  refine AI.one (i := 5) (by kernel_rfl) rfl rfl ?_
  refine AIO.callp rfl en20_cronb rfl (w_civil_Wday F x15 x27 e28) ?_
  show AI _ _ _ _ _ #[true, true, true, true, true, true, false, false, false] _
  refine AI.one (i := 6) (by kernel_rfl) rfl rfl ?_
  refine AIO.callp rfl en18_cronb rfl (w_cron_has F a1 a2 a3 a4 a5 a6 a7 a8 a9 a10 4 x27 x29 e30) ?_
  show AI _ _ _ _ _ #[true, true, true, true, true, true, true, false, false] _
  refine AI.take (i := 7) rfl rfl (by kernel_rfl) (by kernel_rfl) (by kernel_rfl) (fun _ _ h => h) (asg rfl) ?_
  show AI _ _ _ _ _ #[true, true, true, true, true, true, true, true, false] _
  refine AI.take (i := 8) rfl rfl (by kernel_rfl) (by kernel_rfl) (by kernel_rfl) (fun _ _ h => h) (asg rfl) ?_
  show AI _ _ _ _ _ #[true, true, true, true, true, true, true, true, true] _
  refine AI.done rfl ?_
  show AW _ _ _ _ _ _
  refine AW.seq ?_
  refine AW.seq ?_
  refine AW.region ?_
  show AR _ _ _ _ _ [0, 1, 2, 3, 4, 5, 6, 7] _
  refine sS rfl rfl rfl (opS_fieldAddr_cp (n := 5) (by kernel_rfl) rfl (Nat.le_of_ble_eq_true rfl)) ?_
  refine sS rfl rfl rfl (opS_indexAddr_arr_cp (k := 1) (m := 2) Tryd.underlying26 (by kernel_rfl) rfl rfl rfl (by decide) (Nat.le_of_ble_eq_true rfl)) ?_
  refine sS rfl rfl rfl (opS_load_cp Tryd.underlying4 rfl rfl) ?_
  refine sS rfl rfl rfl (mv rfl) ?_
  refine AR.meet (l := []) 47 (B (a8 || a10)) (fun K => ?_) ?_
  ·rcases Bool.eq_false_or_eq_true a8 with h31 | h31
   ·
    refine gF h31 rfl rfl rfl rfl rfl ?_
    refine gF h31 rfl rfl rfl rfl rfl ?_
    refine gF h31 rfl rfl rfl rfl rfl ?_
    refine sS rfl rfl rfl (opS_pick_t (av := .v _) rfl h31 rfl) ?_
    exact K _ 3 _ (B_congr (or_t h31)) rfl rfl
   ·
    refine gT h31 rfl rfl rfl rfl rfl rfl (AO.ops rfl rfl (opS_fieldAddr_cp (n := 5) (by kernel_rfl) rfl (Nat.le_of_ble_eq_true rfl)) ?_)
    refine gT h31 rfl rfl rfl rfl rfl rfl (AO.ops rfl rfl (opS_indexAddr_arr_cp (k := 1) (m := 4) Tryd.underlying26 (by kernel_rfl) rfl rfl rfl (by decide) (Nat.le_of_ble_eq_true rfl)) ?_)
    refine gT h31 rfl rfl rfl rfl rfl rfl (AO.ops rfl rfl (opS_load_cp Tryd.underlying4 rfl rfl) ?_)
    refine sS rfl rfl rfl (opS_pick_f (av := .v _) rfl h31 rfl) ?_
    exact K _ 3 _ (B_congr (or_f h31)) rfl rfl
  refine AR.nil ?_
  show AW _ _ _ _ _ _
  refine AW.cond rfl (fun c32 => ?_) (fun c32 => ?_)
  ·replace H := cnd_t c32 H
   refine AW.seq ?_
   refine AW.region ?_
   show AR _ _ _ _ _ [0, 1, 2, 3, 4] _
   refine sS rfl rfl rfl (mv rfl) ?_
   refine sS rfl rfl rfl (mv rfl) ?_
   refine AR.meet (l := [4]) 51 (B (x25 && x29)) (fun K => ?_) ?_
   ·rcases Bool.eq_false_or_eq_true x25 with h33 | h33
    ·
     refine gT h33 rfl rfl rfl rfl rfl rfl (AO.ops rfl rfl (mv rfl) ?_)
     refine sS rfl rfl rfl (opS_pick_t (av := .v _) rfl h33 rfl) ?_
     exact K _ 1 _ (B_congr (and_t h33)) rfl rfl
    ·
     refine gF h33 rfl rfl rfl rfl rfl ?_
     refine sS rfl rfl rfl (opS_pick_f (av := .v _) rfl h33 rfl) ?_
     exact K _ 1 _ (B_congr (and_f h33)) rfl rfl
   refine sS rfl rfl rfl (asg rfl) ?_
   refine AR.nil ?_
   show AW _ _ _ _ _ _
   refine AW.ret ?_
   obtain rfl := Option.some.inj H
   exact And.intro rfl (Exists.intro _ (Exists.intro _ ⟨ResV.oneW rfl (.refl _), Sub.at [] rfl, rfl, rfl⟩))
  ·replace H := cnd_f c32 H
   refine AW.skip ?_
   show AW _ _ _ _ _ _
   refine AW.seq ?_
   refine AW.region ?_
   show AR _ _ _ _ _ [0, 1, 2, 3, 4] _
   refine sS rfl rfl rfl (mv rfl) ?_
   refine sS rfl rfl rfl (mv rfl) ?_
   refine AR.meet (l := [4]) 55 (B (x25 || x29)) (fun K => ?_) ?_
   ·rcases Bool.eq_false_or_eq_true x25 with h34 | h34
    ·
     refine gF h34 rfl rfl rfl rfl rfl ?_
     refine sS rfl rfl rfl (opS_pick_t (av := .v _) rfl h34 rfl) ?_
     exact K _ 1 _ (B_congr (or_t h34)) rfl rfl
    ·
     refine gT h34 rfl rfl rfl rfl rfl rfl (AO.ops rfl rfl (mv rfl) ?_)
     refine sS rfl rfl rfl (opS_pick_f (av := .v _) rfl h34 rfl) ?_
     exact K _ 1 _ (B_congr (or_f h34)) rfl rfl
   refine sS rfl rfl rfl (asg rfl) ?_
   refine AR.nil ?_
   show AW _ _ _ _ _ _
   refine AW.ret ?_
   obtain rfl := Option.some.inj H
   exact And.intro rfl (Exists.intro _ (Exists.intro _ ⟨ResV.oneW rfl (.refl _), Sub.at [] rfl, rfl, rfl⟩))
set_option maxRecDepth 100000 in
set_option maxHeartbeats 1000000 in
theorem w_cron_Match (F : Nat) (a1 : List Int) (a2 : List Int) (a3 : List Int) (a4 : List Int) (a5 : List Int) (a6 : Bool) (a7 : Bool) (a8 : Bool) (a9 : Bool) (a10 : Bool) (a11 : Int) (a12 : Int) (a13 : Int) (a14 : Int) (a15 : Int) (a16 : Int) (r17 : Bool) (H : cron_Match F a1 a2 a3 a4 a5 a6 a7 a8 a9 a10 a11 a12 a13 a14 a15 a16 = some r17) : ACalls Tryd.prog 7 [.agg [slE Enc.int a1 none, slE Enc.int a2 none, slE Enc.int a3 none, slE Enc.int a4 none, slE Enc.int a5 none, B a6, B a7, B a8, B a9, B a10], .agg [i64 a11, i64 a12, i64 a13, i64 a14, i64 a15, i64 a16]] [] (Ret (B r17) []) := by
 unfold cron_Match at H
 refine ACalls.of_body Tryd.func7 rfl rfl ?_
 show AW _ _ 34 _ _ _
 refine AW.seq ?_
 refine AW.region ?_
 show AR _ _ _ _ _ [0, 1, 2] _
 refine sR rfl rfl rfl (opR_boxCp rfl (.inr ⟨_, rfl⟩)) ?_
 refine sR rfl rfl rfl (opR_boxCp rfl (.inr ⟨_, rfl⟩)) ?_
 refine sS rfl rfl rfl (asg rfl) ?_
 refine AR.nil ?_
 show AW _ _ _ _ _ _
 refine AW.seq ?_
 obtain ⟨x18, e19, H⟩ := bnd_s H
 obtain ⟨x22, e23, H⟩ := bndc_s H
 obtain ⟨x25, e26, H⟩ := bndc_s H
 obtain ⟨x28, e29, H⟩ := bndc_s H
 refine AW.region ?_
 show AR _ _ _ _ _ [0, 1, 2, 3, 4, 5, 6, 7, 8, 9, 10, 11, 12, 13, 14, 15, 16, 17, 18, 19, 20, 21, 22, 23, 24, 25, 26, 27, 28, 29] _
 refine sS rfl rfl rfl (opS_load_cp_agg Tryd.underlying37 rfl (n := 6) (by kernel_rfl) rfl (Nat.le_of_ble_eq_true rfl)) ?_
 refine AR.run rfl rfl (AO.callp rfl en17_cronb rfl (w_stamp_May F a11 a12 a13 a14 a15 a16 x18 e19) ?_)
 refine sS rfl rfl rfl (mv rfl) ?_
 refine AR.meet (l := [7, 8, 9, 10, 11, 12, 13, 14, 15, 16, 17, 18, 19, 20, 21, 22, 23, 24, 25, 26, 27, 28, 29]) 11 (B (x18 && (decide (a16 = 0)))) (fun K => ?_) ?_
 ·rcases Bool.eq_false_or_eq_true x18 with h20 | h20
  ·
   refine gT h20 rfl rfl rfl rfl rfl rfl (AO.ops rfl rfl (opS_fieldAddr_cp (n := 5) (by kernel_rfl) rfl (Nat.le_of_ble_eq_true rfl)) ?_)
   refine gT h20 rfl rfl rfl rfl rfl rfl (AO.ops rfl rfl (opS_load_cp Tryd.underlying3 rfl rfl) ?_)
   refine gT h20 rfl rfl rfl rfl rfl rfl (AO.ops rfl rfl (opS_eqi rfl rfl) ?_)
   refine sS rfl rfl rfl (opS_pick_t (av := .v _) rfl h20 rfl) ?_
   exact K _ 3 _ (B_congr (and_t h20)) rfl rfl
  ·
   refine gF h20 rfl rfl rfl rfl rfl ?_
   refine gF h20 rfl rfl rfl rfl rfl ?_
   refine gF h20 rfl rfl rfl rfl rfl ?_
   refine sS rfl rfl rfl (opS_pick_f (av := .v _) rfl h20 rfl) ?_
   exact K _ 3 _ (B_congr (and_f h20)) rfl rfl
 refine sS rfl rfl rfl (mv rfl) ?_
 refine AR.meet (l := [13, 14, 15, 16, 17, 18, 19, 20, 21, 22, 23, 24, 25, 26, 27, 28, 29]) 17 (B ((x18 && (decide (a16 = 0))) && x22)) (fun K => ?_) ?_
 ·rcases Bool.eq_false_or_eq_true (x18 && (decide (a16 = 0))) with h21 | h21
  ·
   refine gT h21 rfl rfl rfl rfl rfl rfl (AO.ops rfl rfl (opS_load_cp_agg Tryd.underlying28 rfl (n := 10) (by kernel_rfl) rfl (Nat.le_of_ble_eq_true rfl)) ?_)
   refine gT h21 rfl rfl rfl rfl rfl rfl (AO.ops rfl rfl (opS_fieldAddr_cp (n := 4) (by kernel_rfl) rfl (Nat.le_of_ble_eq_true rfl)) ?_)
   refine gT h21 rfl rfl rfl rfl rfl rfl (AO.ops rfl rfl (opS_load_cp Tryd.underlying3 rfl rfl) ?_)
   refine gT h21 rfl rfl rfl rfl rfl rfl (AO.callp rfl en18_cronb rfl (w_cron_has F a1 a2 a3 a4 a5 a6 a7 a8 a9 a10 0 a15 x22 (e23 h21)) ?_)
   refine sS rfl rfl rfl (opS_pick_t (av := .v _) rfl h21 rfl) ?_
   exact K _ 4 _ (B_congr (and_t h21)) rfl rfl
  ·
   refine gF h21 rfl rfl rfl rfl rfl ?_
   refine gF h21 rfl rfl rfl rfl rfl ?_
   refine gF h21 rfl rfl rfl rfl rfl ?_
   refine gF h21 rfl rfl rfl rfl rfl ?_
   refine sS rfl rfl rfl (opS_pick_f (av := .v _) rfl h21 rfl) ?_
   exact K _ 4 _ (B_congr (and_f h21)) rfl rfl
 refine sS rfl rfl rfl (mv rfl) ?_
 refine AR.meet (l := [19, 20, 21, 22, 23, 24, 25, 26, 27, 28, 29]) 23 (B (((x18 && (decide (a16 = 0))) && x22) && x25)) (fun K => ?_) ?_
 ·rcases Bool.eq_false_or_eq_true ((x18 && (decide (a16 = 0))) && x22) with h24 | h24
  ·
   refine gT h24 rfl rfl rfl rfl rfl rfl (AO.ops rfl rfl (opS_load_cp_agg Tryd.underlying28 rfl (n := 10) (by kernel_rfl) rfl (Nat.le_of_ble_eq_true rfl)) ?_)
   refine gT h24 rfl rfl rfl rfl rfl rfl (AO.ops rfl rfl (opS_fieldAddr_cp (n := 3) (by kernel_rfl) rfl (Nat.le_of_ble_eq_true rfl)) ?_)
   refine gT h24 rfl rfl rfl rfl rfl rfl (AO.ops rfl rfl (opS_load_cp Tryd.underlying3 rfl rfl) ?_)
   refine gT h24 rfl rfl rfl rfl rfl rfl (AO.callp rfl en18_cronb rfl (w_cron_has F a1 a2 a3 a4 a5 a6 a7 a8 a9 a10 1 a14 x25 (e26 h24)) ?_)
   refine sS rfl rfl rfl (opS_pick_t (av := .v _) rfl h24 rfl) ?_
   exact K _ 4 _ (B_congr (and_t h24)) rfl rfl
  ·
   refine gF h24 rfl rfl rfl rfl rfl ?_
   refine gF h24 rfl rfl rfl rfl rfl ?_
   refine gF h24 rfl rfl rfl rfl rfl ?_
   refine gF h24 rfl rfl rfl rfl rfl ?_
   refine sS rfl rfl rfl (opS_pick_f (av := .v _) rfl h24 rfl) ?_
   exact K _ 4 _ (B_congr (and_f h24)) rfl rfl
 refine sS rfl rfl rfl (mv rfl) ?_
 refine AR.meet (l := [29]) 33 (B ((((x18 && (decide (a16 = 0))) && x22) && x25) && x28)) (fun K => ?_) ?_
 ·rcases Bool.eq_false_or_eq_true (((x18 && (decide (a16 = 0))) && x22) && x25) with h27 | h27
  ·
   refine gT h27 rfl rfl rfl rfl rfl rfl (AO.ops rfl rfl (opS_load_cp_agg Tryd.underlying28 rfl (n := 10) (by kernel_rfl) rfl (Nat.le_of_ble_eq_true rfl)) ?_)
   refine gT h27 rfl rfl rfl rfl rfl rfl (AO.ops rfl rfl (opS_fieldAddr_cp (n := 0) (by kernel_rfl) rfl (Nat.le_of_ble_eq_true rfl)) ?_)
   refine gT h27 rfl rfl rfl rfl rfl rfl (AO.ops rfl rfl (opS_load_cp Tryd.underlying3 rfl rfl) ?_)
   refine gT h27 rfl rfl rfl rfl rfl rfl (AO.ops rfl rfl (opS_fieldAddr_cp (n := 1) (by kernel_rfl) rfl (Nat.le_of_ble_eq_true rfl)) ?_)
   refine gT h27 rfl rfl rfl rfl rfl rfl (AO.ops rfl rfl (opS_load_cp Tryd.underlying3 rfl rfl) ?_)
   refine gT h27 rfl rfl rfl rfl rfl rfl (AO.ops rfl rfl (opS_fieldAddr_cp (n := 2) (by kernel_rfl) rfl (Nat.le_of_ble_eq_true rfl)) ?_)
   refine gT h27 rfl rfl rfl rfl rfl rfl (AO.ops rfl rfl (opS_load_cp Tryd.underlying3 rfl rfl) ?_)
   refine gT h27 rfl rfl rfl rfl rfl rfl (AO.callp rfl en8_cronb rfl (w_cron_Day F a1 a2 a3 a4 a5 a6 a7 a8 a9 a10 a11 a12 a13 x28 (e29 h27)) ?_)
   refine sS rfl rfl rfl (opS_pick_t (av := .v _) rfl h27 rfl) ?_
   exact K _ 8 _ (B_congr (and_t h27)) rfl rfl
  ·
   refine gF h27 rfl rfl rfl rfl rfl ?_
   refine gF h27 rfl rfl rfl rfl rfl ?_
   refine gF h27 rfl rfl rfl rfl rfl ?_
   refine gF h27 rfl rfl rfl rfl rfl ?_
   refine gF h27 rfl rfl rfl rfl rfl ?_
   refine gF h27 rfl rfl rfl rfl rfl ?_
   refine gF h27 rfl rfl rfl rfl rfl ?_
   refine gF h27 rfl rfl rfl rfl rfl ?_
   refine sS rfl rfl rfl (opS_pick_f (av := .v _) rfl h27 rfl) ?_
   exact K _ 8 _ (B_congr (and_f h27)) rfl rfl
 refine sS rfl rfl rfl (asg rfl) ?_
 refine AR.nil ?_
 show AW _ _ _ _ _ _
 refine AW.ret ?_
 obtain rfl := Option.some.inj H
 exact And.intro rfl (Exists.intro _ (Exists.intro _ ⟨ResV.oneW rfl (.refl _), Sub.at [] rfl, rfl, rfl⟩))
set_option maxRecDepth 100000 in
set_option maxHeartbeats 1000000 in
theorem w_cron_Write (F : Nat) (a1 : List Int) (a2 : List Int) (a3 : List Int) (a4 : List Int) (a5 : List Int) (a6 : Bool) (a7 : Bool) (a8 : Bool) (a9 : Bool) (a10 : Bool) (r11 : List UInt8) (r12 : Int) (H : cron_Write F a1 a2 a3 a4 a5 a6 a7 a8 a9 a10 = some (r11, r12)) : ACalls Tryd.prog 6 [.agg [slE Enc.int a1 none, slE Enc.int a2 none, slE Enc.int a3 none, slE Enc.int a4 none, slE Enc.int a5 none, B a6, B a7, B a8, B a9, B a10]] [] (Ret (.tup [S r11, i64 r12]) []) := by
 unfold cron_Write at H
 refine ACalls.of_body Tryd.func6 rfl rfl ?_
 show AW _ _ 43 _ _ _
 refine AW.seq ?_
 refine AW.region ?_
 show AR _ _ _ _ _ [0, 1, 2] _
 refine sR rfl rfl rfl (opR_boxCp rfl (.inr ⟨_, rfl⟩)) ?_
 refine sS rfl rfl rfl (asg rfl) ?_
 refine sS rfl rfl rfl (asg rfl) ?_
 refine AR.nil ?_
 show AW _ _ _ _ _ _
 refine AW.seq ?_
 refine AW.seq ?_
 obtain ⟨x13, e14, H⟩ := bnd_s H
 refine AW.region ?_
 show AR _ _ _ _ _ [0, 1, 2] _
 refine sS rfl rfl rfl (opS_load_cp_agg Tryd.underlying28 rfl (n := 10) (by kernel_rfl) rfl (Nat.le_of_ble_eq_true rfl)) ?_
 refine AR.run rfl rfl (AO.callp rfl en14_cronb rfl (w_cron_May F a1 a2 a3 a4 a5 a6 a7 a8 a9 a10 x13 e14) ?_)
 refine sS rfl rfl rfl (opS_not rfl) ?_
 refine AR.nil ?_
 show AW _ _ _ _ _ _
 refine AW.cond rfl (fun c15 => ?_) (fun c15 => ?_)
 ·replace H := cnd_t c15 H
  refine AW.seq ?_
  refine AW.region ?_
  show AR _ _ _ _ _ [0, 1] _
  refine sS rfl rfl rfl (asg rfl) ?_
  refine sS rfl rfl rfl (asg rfl) ?_
  refine AR.nil ?_
  show AW _ _ _ _ _ _
  refine AW.ret ?_
  obtain ⟨rfl, rfl⟩ := res2 H
  exact And.intro rfl (Exists.intro _ (Exists.intro _ ⟨ResV.twoW rfl (.refl _) (.refl _), Sub.at [] rfl, rfl, rfl⟩))
 ·replace H := cnd_f c15 H
  refine AW.skip ?_
  show AW _ _ _ _ _ _
  refine AW.seq ?_
  refine AW.region ?_
  show AR _ _ _ _ _ [0] _
  refine sS rfl rfl rfl (asg rfl) ?_
  refine AR.nil ?_
  show AW _ _ _ _ _ _
  refine AW.nil_grows 4 1 9 rfl fun t16 => ?_
  show AW _ _ _ _ _ ⟨(4, slE Enc.str [] (some t16)) :: _, _, _⟩
  refine AW.cut (X := (List (List UInt8)) × Nat) (fun (y64, t65) => ⟨[(4, slE Enc.str y64 (some t65))], [], [.tok t65 9]⟩) (fun (y64, t65) => cron_Write_j1 y64 = some (r11, r12)) ?_ ?_
  ·
   refine AW.seq ?_
   refine AW.region ?_
   show AR _ _ _ _ _ [0] _
   refine sS rfl rfl rfl (mv rfl) ?_
   refine AR.nil ?_
   show AW _ _ _ _ _ _
   refine AW.block ?_
   refine AW.loop (X := Nat × (List (List UInt8)) × Nat × Int) (fun (n21, y17, t18, y19) => ⟨[(1, .cp [slE Enc.int a1 none, slE Enc.int a2 none, slE Enc.int a3 none, slE Enc.int a4 none, slE Enc.int a5 none, B a6, B a7, B a8, B a9, B a10]), (4, slE Enc.str y17 (some t18)), (12, i64 y19)], [], [.tok t18 9]⟩) (fun (n21, y17, t18, y19) => cron_Write_L2 F a1 a2 a3 a4 a5 a6 a7 a8 a9 a10 n21 (y17, y19) = some (r11, r12)) (fun (n21, y17, t18, y19) => n21) (F, [], t16, 0) H (WK.at [0] (.cons (.refl _) (.cons (.refl _) (.cons (.refl _) (.nil _)))) rfl) ?_
   rintro ⟨n21, y17, t18, y19⟩ H
   obtain ⟨n21, rfl, H⟩ := loop_s H
   replace H : cron_Write_B2 F a1 a2 a3 a4 a5 a6 a7 a8 a9 a10 (cron_Write_L2 F a1 a2 a3 a4 a5 a6 a7 a8 a9 a10 n21) y17 y19 = some (r11, r12) := H
   unfold cron_Write_B2 at H
   show AW _ _ _ _ _ _
   refine AW.seq ?_
   refine AW.region ?_
   show AR _ _ _ _ _ [0] _
   refine sS rfl rfl rfl (opS_lt rfl rfl) ?_
   refine AR.nil ?_
   show AW _ _ _ _ _ _
   refine AW.seq ?_
   refine AW.cond rfl (fun c22 => ?_) (fun c22 => ?_)
   ·replace H := cnd_t c22 H
    refine AW.skip ?_
    show AW _ _ _ _ _ _
    refine AW.cut (X := (List (List UInt8)) × Nat) (fun (y60, t61) => ⟨[(1, .cp [slE Enc.int a1 none, slE Enc.int a2 none, slE Enc.int a3 none, slE Enc.int a4 none, slE Enc.int a5 none, B a6, B a7, B a8, B a9, B a10]), (4, slE Enc.str y60 (some t61)), (12, i64 y19)], [], [.tok t61 9]⟩) (fun (y60, t61) => cron_Write_j2 y19 (cron_Write_L2 F a1 a2 a3 a4 a5 a6 a7 a8 a9 a10 n21) y60 = some (r11, r12)) ?_ ?_
    ·
     refine AW.block ?_
     refine AW.seq ?_
     refine AW.region ?_
     show AR _ _ _ _ _ [0, 1] _
     refine sS rfl rfl rfl (mv rfl) ?_
     refine sS rfl rfl rfl (asg rfl) ?_
     refine AR.nil ?_
     show AW _ _ _ _ _ _
     refine AW.seq ?_
     refine AW.region ?_
     show AR _ _ _ _ _ [0] _
     refine sS rfl rfl rfl (asg rfl) ?_
     refine AR.nil ?_
     show AW _ _ _ _ _ _
     refine AW.nil_grows 6 1 9 rfl fun t23 => ?_
     show AW _ _ _ _ _ ⟨(6, slE Enc.str [] (some t23)) :: _, _, _⟩
     refine AW.cut (X := (List (List UInt8)) × Nat) (fun (y44, t45) => ⟨[(1, .cp [slE Enc.int a1 none, slE Enc.int a2 none, slE Enc.int a3 none, slE Enc.int a4 none, slE Enc.int a5 none, B a6, B a7, B a8, B a9, B a10]), (4, slE Enc.str y17 (some t18)), (5, i64 y19), (6, slE Enc.str y44 (some t45)), (12, i64 y19)], [], [.tok t18 9, .tok t45 9]⟩) (fun (y44, t45) => cron_Write_j4 a6 a7 a8 a9 a10 y17 y19 (cron_Write_L2 F a1 a2 a3 a4 a5 a6 a7 a8 a9 a10 n21) y44 = some (r11, r12)) ?_ ?_
     ·
      refine AW.seq ?_
      obtain ⟨g24, H⟩ := grd_s H
      obtain ⟨x25, e26, H⟩ := lt_s H
      refine AW.region ?_
      show AR _ _ _ _ _ [0, 1, 2, 3, 4, 5] _
      refine sS rfl rfl rfl (mv rfl) ?_
      refine sS rfl rfl rfl (opS_fieldAddr_cp (n := 0) (by kernel_rfl) rfl (Nat.le_of_ble_eq_true rfl)) ?_
      refine sS rfl rfl rfl (opS_indexAddr_arrv_cp (E := (Enc.sl Enc.int)) (l := ([a1, a2, a3, a4, a5] : List (List Int))) (post := [B a6, B a7, B a8, B a9, B a10]) rfl Tryd.underlying25 (by kernel_rfl) rfl rfl rfl g24 e26 rfl) ?_
      refine sS rfl rfl rfl (opS_load_cp Tryd.underlying24 rfl rfl) ?_
      refine sS rfl rfl rfl (opS_len_sl Tryd.underlying24 rfl) ?_
      refine sS rfl rfl rfl (mv rfl) ?_
      refine AR.nil ?_
      show AW _ _ _ _ _ _
      refine AW.block ?_
      refine AW.loop (X := Nat × (List (List UInt8)) × Nat × Int) (fun (n31, y27, t28, y29) => ⟨[(1, .cp [slE Enc.int a1 none, slE Enc.int a2 none, slE Enc.int a3 none, slE Enc.int a4 none, slE Enc.int a5 none, B a6, B a7, B a8, B a9, B a10]), (4, slE Enc.str y17 (some t18)), (5, i64 y19), (6, slE Enc.str y27 (some t28)), (12, i64 y19), (18, slE Enc.int x25 none), (19, i64 (x25.length : Int)), (20, i64 y29)], [], [.tok t18 9, .tok t28 9]⟩) (fun (n31, y27, t28, y29) => cron_Write_L1 a6 a7 a8 a9 a10 y17 y19 x25 (cron_Write_L2 F a1 a2 a3 a4 a5 a6 a7 a8 a9 a10 n21) n31 (y27, y29) = some (r11, r12)) (fun (n31, y27, t28, y29) => n31) (F, [], t23, 0) H (WK.at [1, 0] (.cons (.refl _) (.cons (.refl _) (.cons (.refl _) (.cons (.refl _) (.cons (.refl _) (.cons (.refl _) (.cons (.refl _) (.cons (.refl _) (.nil _))))))))) rfl) ?_
      rintro ⟨n31, y27, t28, y29⟩ H
      obtain ⟨n31, rfl, H⟩ := loop_s H
      replace H : cron_Write_B1 a6 a7 a8 a9 a10 y17 y19 x25 (cron_Write_L2 F a1 a2 a3 a4 a5 a6 a7 a8 a9 a10 n21) (cron_Write_L1 a6 a7 a8 a9 a10 y17 y19 x25 (cron_Write_L2 F a1 a2 a3 a4 a5 a6 a7 a8 a9 a10 n21) n31) y27 y29 = some (r11, r12) := H
      unfold cron_Write_B1 at H
      show AW _ _ _ _ _ _
      refine AW.seq ?_
      refine AW.region ?_
      show AR _ _ _ _ _ [0] _
      refine sS rfl rfl rfl (opS_lt rfl rfl) ?_
      refine AR.nil ?_
      show AW _ _ _ _ _ _
      refine AW.seq ?_
      refine AW.cond rfl (fun c32 => ?_) (fun c32 => ?_)
      ·replace H := cnd_t c32 H
       refine AW.skip ?_
       show AW _ _ _ _ _ _
       refine AW.seq ?_
       refine AW.block ?_
       refine AW.seq ?_
       obtain ⟨g33, H⟩ := grd_s H
       obtain ⟨x34, e35, H⟩ := lt_s H
       refine AW.region ?_
       show AR _ _ _ _ _ [0, 1, 2] _
       refine sS rfl rfl rfl (g_indexAddr (E := Enc.int) Tryd.underlying24 (by kernel_rfl) rfl rfl g33 e35) ?_
       refine sS rfl rfl rfl (opS_load_cp Tryd.underlying3 rfl rfl) ?_
       refine sS rfl rfl rfl (asg rfl) ?_
       refine AR.nil ?_
       show AW _ _ _ _ _ _
       obtain ⟨g36, H⟩ := grd_s H
       obtain ⟨x37, e38, H⟩ := lt_s H
       obtain ⟨g40, H⟩ := grd_s H
       obtain ⟨x41, e42, H⟩ := lt_s H
       refine AW.region ?_
       show AR _ _ _ _ _ [0, 1, 2, 3, 4, 5] _
       refine sS rfl rfl rfl (opS_move (av := slE _ _ _) rfl) ?_
       refine sS rfl rfl rfl (mv rfl) ?_
       refine AR.run rfl rfl (AO.callp rfl en15_cronb rfl (show ACalls _ _ _ [] (Ret (S x37) []) from by subst e38; exact lib_Itoa x34 (okAt_s g36)) ?_)
       refine sR rfl rfl rfl (opR_buildE (E := Enc.str) (bytes := 16) (xs := [.tmp 26]) (l := ([x37] : List (List UInt8))) Tryd.underlying42 (by kernel_rfl) rfl rfl (by decide) rfl rfl) ?_
       refine sX rfl rfl rfl (g_append (E := Enc.str) (bytes := 16) 1 Tryd.underlying42 Tryd.underlying42 rfl (by kernel_rfl) rfl rfl rfl rfl g40 e42) ?_
       rintro _ _ ⟨t39, rfl, rfl⟩
       refine sS rfl rfl rfl (opS_assign (av := slE _ _ _) rfl) ?_
       refine AR.nil ?_
       show AW _ _ _ _ _ _
       obtain ⟨g43, H⟩ := grd_s H
       refine AW.region ?_
       show AR _ _ _ _ _ [0, 1] _
       refine sS rfl rfl rfl (g_add rfl rfl g43) ?_
       refine sS rfl rfl rfl (mv rfl) ?_
       refine AR.nil ?_
       exact Exists.intro (n31, x41, t39, y29 + 1) ⟨H, Nat.lt_succ_self _, WK.at [0, 0] (.cons (.refl _) (.cons (.refl _) (.cons (.refl _) (.cons (.refl _) (.cons (.refl _) (.cons (.refl _) (.cons (.refl _) (.cons (.refl _) (.nil _))))))))) rfl⟩
      ·replace H := cnd_f c32 H
       refine AW.exit ?_
       exact Exists.intro (y27, t28) ⟨H, WK.at [0, 0] (.cons (.refl _) (.cons (.refl _) (.cons (.refl _) (.cons (.refl _) (.cons (.refl _) (.nil _)))))) rfl⟩
     rintro ⟨y44, t45⟩ H
     replace H : cron_Write_j4 a6 a7 a8 a9 a10 y17 y19 (cron_Write_L2 F a1 a2 a3 a4 a5 a6 a7 a8 a9 a10 n21) y44 = some (r11, r12) := H
     unfold cron_Write_j4 at H
     show AW _ _ _ _ _ _
     refine AW.cut (X := (List (List UInt8))) (fun y51 => ⟨[(1, .cp [slE Enc.int a1 none, slE Enc.int a2 none, slE Enc.int a3 none, slE Enc.int a4 none, slE Enc.int a5 none, B a6, B a7, B a8, B a9, B a10]), (4, slE Enc.str y17 (some t18)), (6, slE Enc.str y51 none), (12, i64 y19)], [], [.tok t18 9]⟩) (fun y51 => cron_Write_j3 y17 y19 (cron_Write_L2 F a1 a2 a3 a4 a5 a6 a7 a8 a9 a10 n21) y51 = some (r11, r12)) ?_ ?_
     ·
      refine AW.seq ?_
      obtain ⟨g47, H⟩ := grd_s H
      obtain ⟨x48, e49, H⟩ := lt_s H
      refine AW.region ?_
      show AR _ _ _ _ _ [0, 1, 2, 3] _
      refine sS rfl rfl rfl (mv rfl) ?_
      refine sS rfl rfl rfl (opS_fieldAddr_cp (n := 5) (by kernel_rfl) rfl (Nat.le_of_ble_eq_true rfl)) ?_
      refine sS rfl rfl rfl (opS_indexAddr_arrv_cp (E := Enc.bool) (l := ([a6, a7, a8, a9, a10] : List Bool)) (post := []) rfl Tryd.underlying26 (by kernel_rfl) rfl rfl rfl g47 e49 rfl) ?_
      refine sS rfl rfl rfl (opS_load_cp Tryd.underlying4 rfl rfl) ?_
      refine AR.nil ?_
      show AW _ _ _ _ _ _
      refine AW.cond rfl (fun c50 => ?_) (fun c50 => ?_)
      ·replace H := cnd_t c50 H
       refine AW.region ?_
       show AR _ _ _ _ _ [0, 1] _
       refine sR rfl rfl rfl (opR_buildE (E := Enc.str) (bytes := 16) (xs := [.const _]) (l := ([([42] : List UInt8)] : List (List UInt8))) Tryd.underlying42 (by kernel_rfl) rfl rfl (by decide) rfl rfl) ?_
       refine sS rfl rfl rfl (opS_assign (av := slE _ _ _) rfl) ?_
       refine AR.nil ?_
       exact Exists.intro ([([42] : List UInt8)] : List (List UInt8)) ⟨H, WK.at [0] (.cons (.refl _) (.cons (.refl _) (.cons (.refl _) (.cons (.refl _) (.nil _))))) rfl⟩
      ·replace H := cnd_f c50 H
       refine AW.skip ?_
       exact Exists.intro y44 ⟨H, WK.at [0] (.cons (.refl _) (.cons (.refl _) (.cons (.tok _ _ _) (.cons (.refl _) (.nil _))))) rfl⟩
     rintro y51 H
     replace H : cron_Write_j3 y17 y19 (cron_Write_L2 F a1 a2 a3 a4 a5 a6 a7 a8 a9 a10 n21) y51 = some (r11, r12) := H
     unfold cron_Write_j3 at H
     show AW _ _ _ _ _ _
     obtain ⟨g53, H⟩ := grd_s H
     obtain ⟨x54, e55, H⟩ := lt_s H
     obtain ⟨g57, H⟩ := grd_s H
     obtain ⟨x58, e59, H⟩ := lt_s H
     refine AW.region ?_
     show AR _ _ _ _ _ [0, 1, 2, 3, 4, 5] _
     refine sS rfl rfl rfl (opS_move (av := slE _ _ _) rfl) ?_
     refine sS rfl rfl rfl (opS_move (av := slE _ _ _) rfl) ?_
     refine AR.run rfl rfl (AO.callp rfl en16_cronb rfl (show ACalls _ _ _ [] (Ret (S x54) []) from by subst e55; exact strings_Join y51 ([44] : List UInt8) none (okJoin_s g53).1 (okJoin_s g53).2) ?_)
     refine sR rfl rfl rfl (opR_buildE (E := Enc.str) (bytes := 16) (xs := [.tmp 37]) (l := ([x54] : List (List UInt8))) Tryd.underlying42 (by kernel_rfl) rfl rfl (by decide) rfl rfl) ?_
     refine sX rfl rfl rfl (g_append (E := Enc.str) (bytes := 16) 0 Tryd.underlying42 Tryd.underlying42 rfl (by kernel_rfl) rfl rfl rfl rfl g57 e59) ?_
     rintro _ _ ⟨t56, rfl, rfl⟩
     refine sS rfl rfl rfl (opS_assign (av := slE _ _ _) rfl) ?_
     refine AR.nil ?_
     exact Exists.intro (x58, t56) ⟨H, WK.at [0] (.cons (.refl _) (.cons (.refl _) (.cons (.refl _) (.nil _)))) rfl⟩
    rintro ⟨y60, t61⟩ H
    replace H : cron_Write_j2 y19 (cron_Write_L2 F a1 a2 a3 a4 a5 a6 a7 a8 a9 a10 n21) y60 = some (r11, r12) := H
    unfold cron_Write_j2 at H
    show AW _ _ _ _ _ _
    obtain ⟨g63, H⟩ := grd_s H
    refine AW.region ?_
    show AR _ _ _ _ _ [0, 1] _
    refine sS rfl rfl rfl (g_add rfl rfl g63) ?_
    refine sS rfl rfl rfl (mv rfl) ?_
    refine AR.nil ?_
    exact Exists.intro (n21, y60, t61, y19 + 1) ⟨H, Nat.lt_succ_self _, WK.at [0] (.cons (.refl _) (.cons (.refl _) (.cons (.refl _) (.nil _)))) rfl⟩
   ·replace H := cnd_f c22 H
    refine AW.exit ?_
    exact Exists.intro (y17, t18) ⟨H, WK.at [0] (.cons (.refl _) (.nil _)) rfl⟩
  rintro ⟨y64, t65⟩ H
  replace H : cron_Write_j1 y64 = some (r11, r12) := H
  unfold cron_Write_j1 at H
  show AW _ _ _ _ _ _
  refine AW.seq ?_
  obtain ⟨g67, H⟩ := grd_s H
  obtain ⟨x68, e69, H⟩ := lt_s H
  refine AW.region ?_
  show AR _ _ _ _ _ [0, 1, 2, 3] _
  refine sS rfl rfl rfl (opS_move (av := slE _ _ _) rfl) ?_
  refine AR.run rfl rfl (AO.callp rfl en16_cronb rfl (show ACalls _ _ _ [] (Ret (S x68) []) from by subst e69; exact strings_Join y64 ([32] : List UInt8) (some t65) (okJoin_s g67).1 (okJoin_s g67).2) ?_)
  refine sS rfl rfl rfl (asg rfl) ?_
  refine sS rfl rfl rfl (asg rfl) ?_
  refine AR.nil ?_
  show AW _ _ _ _ _ _
  refine AW.ret ?_
  obtain ⟨rfl, rfl⟩ := res2 H
  exact And.intro rfl (Exists.intro _ (Exists.intro _ ⟨ResV.twoW rfl (.refl _) (.refl _), Sub.at [] rfl, rfl, rfl⟩))
end Go.Proofs.YtpbfajkbkomfcaaDoor
