/-
  Schedules that are the same: what is run is what the plain functions say. Printed by a program of ours.
-/
import Derived.Test.YtpbfajkbkomfcaaGreatDoorAvE
import Derived.Test.YtpbfajkbkomfcaaGreatDoorPvLib
import Derived.Test.YtpbfajkbkomfcaaGreatDoorP11Split
import Derived.Test.YtpbfajkbkomfcaaGreatDoorAvStill
import Derived.Test.YtpbfajkbkomfcaaGreatDoorChecked
import Derived.Test.YtpbfajkbkomfcaaGreatDoorCronBW
import Derived.Test.YtpbfajkbkomfcaaGreatDoorCronGP
set_option linter.unusedVariables false
set_option linter.unusedSimpArgs false
namespace Go.Proofs.YtpbfajkbkomfcaaGreatDoor
open Go.RowKit Go.Av Go.Pv
theorem en48_crong : ∀ (args : Array Value) (w : World), (callFunc 48 args).run Tryz.prog w = .ok (.enter 48 args) w := fun _ _ => by kernel_rfl
set_option maxRecDepth 100000 in
set_option maxHeartbeats 1000000 in
theorem w_cron_Same (F : Nat) (a1 : List Int) (a2 : List Int) (a3 : List Int) (a4 : List Int) (a5 : List Int) (a6 : Bool) (a7 : Bool) (a8 : Bool) (a9 : Bool) (a10 : Bool) (a11 : List Int) (a12 : List Int) (a13 : List Int) (a14 : List Int) (a15 : List Int) (a16 : Bool) (a17 : Bool) (a18 : Bool) (a19 : Bool) (a20 : Bool) (r21 : Bool) (H : cron_Same F a1 a2 a3 a4 a5 a6 a7 a8 a9 a10 a11 a12 a13 a14 a15 a16 a17 a18 a19 a20 = some r21) : ACalls Tryz.prog 27 [.agg [slE Enc.int a1 none, slE Enc.int a2 none, slE Enc.int a3 none, slE Enc.int a4 none, slE Enc.int a5 none, B a6, B a7, B a8, B a9, B a10], .agg [slE Enc.int a11 none, slE Enc.int a12 none, slE Enc.int a13 none, slE Enc.int a14 none, slE Enc.int a15 none, B a16, B a17, B a18, B a19, B a20]] [] (Ret (B r21) []) := by
 unfold cron_Same at H
 refine ACalls.of_body Tryz.func27 rfl rfl ?_
 show AW _ _ 25 _ _ _
 refine AW.seq ?_
 refine AW.region ?_
 show AR _ _ _ _ _ [0, 1, 2] _
 refine sR rfl rfl rfl (opR_boxCp rfl (.inr ⟨_, rfl⟩)) ?_
 refine sR rfl rfl rfl (opR_boxCp rfl (.inr ⟨_, rfl⟩)) ?_
 refine sS rfl rfl rfl (asg rfl) ?_
 refine AR.nil ?_
 show AW _ _ _ _ _ _
 refine AW.cut (X := Unit) (fun _ => ⟨[(2, .cp [slE Enc.int a1 none, slE Enc.int a2 none, slE Enc.int a3 none, slE Enc.int a4 none, slE Enc.int a5 none, B a6, B a7, B a8, B a9, B a10]), (3, .cp [slE Enc.int a11 none, slE Enc.int a12 none, slE Enc.int a13 none, slE Enc.int a14 none, slE Enc.int a15 none, B a16, B a17, B a18, B a19, B a20])], [], []⟩) (fun _ => cron_Same_j1 a6 a7 a8 a9 a10 a16 a17 a18 a19 a20 = some r21) ?_ ?_
 ·
  refine AW.seq ?_
  refine AW.region ?_
  show AR _ _ _ _ _ [0] _
  refine sS rfl rfl rfl (mv rfl) ?_
  refine AR.nil ?_
  show AW _ _ _ _ _ _
  refine AW.block ?_
  refine AW.loop (X := Nat × Int) (fun (n24, y22) => ⟨[(2, .cp [slE Enc.int a1 none, slE Enc.int a2 none, slE Enc.int a3 none, slE Enc.int a4 none, slE Enc.int a5 none, B a6, B a7, B a8, B a9, B a10]), (3, .cp [slE Enc.int a11 none, slE Enc.int a12 none, slE Enc.int a13 none, slE Enc.int a14 none, slE Enc.int a15 none, B a16, B a17, B a18, B a19, B a20]), (6, i64 y22)], [], []⟩) (fun (n24, y22) => cron_Same_L1 F a1 a2 a3 a4 a5 a6 a7 a8 a9 a10 a11 a12 a13 a14 a15 a16 a17 a18 a19 a20 n24 y22 = some r21) (fun (n24, y22) => n24) (F, 0) H (WK.at [] (.cons (.refl _) (.cons (.refl _) (.cons (.refl _) (.nil _)))) rfl) ?_
  rintro ⟨n24, y22⟩ H
  obtain ⟨n24, rfl, H⟩ := loop_s H
  replace H : cron_Same_B1 F a1 a2 a3 a4 a5 a6 a7 a8 a9 a10 a11 a12 a13 a14 a15 a16 a17 a18 a19 a20 (cron_Same_L1 F a1 a2 a3 a4 a5 a6 a7 a8 a9 a10 a11 a12 a13 a14 a15 a16 a17 a18 a19 a20 n24) y22 = some r21 := H
  unfold cron_Same_B1 at H
  show AW _ _ _ _ _ _
  refine AW.seq ?_
  refine AW.region ?_
  show AR _ _ _ _ _ [0] _
  refine sS rfl rfl rfl (opS_lt rfl rfl) ?_
  refine AR.nil ?_
  show AW _ _ _ _ _ _
  refine AW.seq ?_
  refine AW.cond rfl (fun c25 => ?_) (fun c25 => ?_)
  ·replace H := cnd_t c25 H
   refine AW.skip ?_
   show AW _ _ _ _ _ _
   refine AW.seq ?_
   refine AW.block ?_
   refine AW.seq ?_
   refine AW.region ?_
   show AR _ _ _ _ _ [0, 1] _
   refine sS rfl rfl rfl (mv rfl) ?_
   refine sS rfl rfl rfl (asg rfl) ?_
   refine AR.nil ?_
   show AW _ _ _ _ _ _
   refine AW.seq ?_
   obtain ⟨g26, H⟩ := grd_s H
   obtain ⟨x27, e28, H⟩ := lt_s H
   obtain ⟨g29, H⟩ := grd_s H
   obtain ⟨x30, e31, H⟩ := lt_s H
   obtain ⟨x32, e33, H⟩ := bnd_s H
   refine AW.region_draw (by kernel_rfl) ?_
   show AI _ _ _ _ 10 (Array.replicate 10 false) _
   refine AI.take (i := 0) rfl rfl (by kernel_rfl) (by kernel_rfl) (by kernel_rfl) (fun _ _ h => h) (mv rfl) ?_
   show AI _ _ _ _ _ #[true, false, false, false, false, false, false, false, false, false] _
   refine AI.take (i := 1) rfl rfl (by kernel_rfl) (by kernel_rfl) (by kernel_rfl) (fun _ _ h => h) (opS_fieldAddr_cp (n := 0) (by kernel_rfl) rfl (Nat.le_of_ble_eq_true rfl)) ?_
   show AI _ _ _ _ _ #[true, true, false, false, false, false, false, false, false, false] _
   refine AI.take (i := 2) rfl rfl (by kernel_rfl) (by kernel_rfl) (by kernel_rfl) (fun _ _ h => h) (opS_indexAddr_arrv_cp (E := (Enc.sl Enc.int)) (l := ([a1, a2, a3, a4, a5] : List (List Int))) (post := [B a6, B a7, B a8, B a9, B a10]) rfl Tryz.underlying24 (by kernel_rfl) rfl rfl rfl g26 e28 rfl) ?_
   show AI _ _ _ _ _ #[true, true, true, false, false, false, false, false, false, false] _
   refine AI.take (i := 3) rfl rfl (by kernel_rfl) (by kernel_rfl) (by kernel_rfl) (fun _ _ h => h) (opS_load_cp Tryz.underlying23 rfl rfl) ?_
   show AI _ _ _ _ _ #[true, true, true, true, false, false, false, false, false, false] _
   refine AI.take (i := 4) rfl rfl (by kernel_rfl) (by kernel_rfl) (by kernel_rfl) (fun _ _ h => h) (mv rfl) ?_
   show AI _ _ _ _ _ #[true, true, true, true, true, false, false, false, false, false] _
   refine AI.take (i := 5) rfl rfl (by kernel_rfl) (by kernel_rfl) (by kernel_rfl) (fun _ _ h => h) (opS_fieldAddr_cp (n := 0) (by kernel_rfl) rfl (Nat.le_of_ble_eq_true rfl)) ?_
   show AI _ _ _ _ _ #[true, true, true, true, true, true, false, false, false, false] _
   refine AI.take (i := 6) rfl rfl (by kernel_rfl) (by kernel_rfl) (by kernel_rfl) (fun _ _ h => h) (opS_indexAddr_arrv_cp (E := (Enc.sl Enc.int)) (l := ([a11, a12, a13, a14, a15] : List (List Int))) (post := [B a16, B a17, B a18, B a19, B a20]) rfl Tryz.underlying24 (by kernel_rfl) rfl rfl rfl g29 e31 rfl) ?_
   show AI _ _ _ _ _ #[true, true, true, true, true, true, true, false, false, false] _
   refine AI.take (i := 7) rfl rfl (by kernel_rfl) (by kernel_rfl) (by kernel_rfl) (fun _ _ h => h) (opS_load_cp Tryz.underlying23 rfl rfl) ?_
   show AI _ _ _ _ _ #[true, true, true, true, true, true, true, true, false, false] _
   refine AI.one (i := 8) (by kernel_rfl) rfl rfl ?_
   refine AIO.callp rfl en48_crong rfl (w_sl_Equal F x27 none x30 none x32 e33) ?_
   show AI _ _ _ _ _ #[true, true, true, true, true, true, true, true, true, false] _
   refine AI.take (i := 9) rfl rfl (by kernel_rfl) (by kernel_rfl) (by kernel_rfl) (fun _ _ h => h) (opS_not rfl) ?_
   show AI _ _ _ _ _ #[true, true, true, true, true, true, true, true, true, true] _
   refine AI.done rfl ?_
   show AW _ _ _ _ _ _
   refine AW.cond rfl (fun c34 => ?_) (fun c34 => ?_)
   ·replace H := cnd_t c34 H
    refine AW.seq ?_
    refine AW.region ?_
    show AR _ _ _ _ _ [0] _
    refine sS rfl rfl rfl (asg rfl) ?_
    refine AR.nil ?_
    show AW _ _ _ _ _ _
    refine AW.ret ?_
    obtain rfl := Option.some.inj H
    exact And.intro rfl (Exists.intro _ (Exists.intro _ ⟨ResV.oneW rfl (.refl _), Sub.at [] rfl, rfl, rfl⟩))
   ·replace H := cnd_f c34 H
    refine AW.skip ?_
    show AW _ _ _ _ _ _
    obtain ⟨g35, H⟩ := grd_s H
    refine AW.region ?_
    show AR _ _ _ _ _ [0, 1] _
    refine sS rfl rfl rfl (g_add rfl rfl g35) ?_
    refine sS rfl rfl rfl (mv rfl) ?_
    refine AR.nil ?_
    exact Exists.intro (n24, y22 + 1) ⟨H, Nat.lt_succ_self _, WK.at [] (.cons (.refl _) (.cons (.refl _) (.cons (.refl _) (.nil _)))) rfl⟩
  ·replace H := cnd_f c25 H
   refine AW.exit ?_
   exact Exists.intro () ⟨H, WK.at [] (.cons (.refl _) (.cons (.refl _) (.nil _))) rfl⟩
 rintro _ H
 replace H : cron_Same_j1 a6 a7 a8 a9 a10 a16 a17 a18 a19 a20 = some r21 := H
 unfold cron_Same_j1 at H
 show AW _ _ _ _ _ _
 refine AW.seq ?_
 refine AW.region ?_
 show AR _ _ _ _ _ [0, 1, 2, 3, 4, 5] _
 refine sS rfl rfl rfl (opS_fieldAddr_cp (n := 5) (by kernel_rfl) rfl (Nat.le_of_ble_eq_true rfl)) ?_
 refine sS rfl rfl rfl (opS_load_cp_agg Tryz.underlying25 rfl (n := 5) (by kernel_rfl) rfl (Nat.le_of_ble_eq_true rfl)) ?_
 refine sS rfl rfl rfl (opS_fieldAddr_cp (n := 5) (by kernel_rfl) rfl (Nat.le_of_ble_eq_true rfl)) ?_
 refine sS rfl rfl rfl (opS_load_cp_agg Tryz.underlying25 rfl (n := 5) (by kernel_rfl) rfl (Nat.le_of_ble_eq_true rfl)) ?_
 refine sS rfl rfl rfl (opS_eq_arr (r := (a6 == a16) && ((a7 == a17) && ((a8 == a18) && ((a9 == a19) && ((a10 == a20) && true))))) (.inl rfl) Tryz.underlying25 Tryz.underlying4 rfl (by kernel_rfl) (by kernel_rfl) rfl rfl rfl rfl) ?_
 refine sS rfl rfl rfl (asg rfl) ?_
 refine AR.nil ?_
 show AW _ _ _ _ _ _
 refine AW.ret ?_
 obtain rfl := Option.some.inj H
 exact And.intro rfl (Exists.intro _ (Exists.intro _ ⟨ResV.oneW rfl (.refl _), Sub.at [] rfl, rfl, rfl⟩))
end Go.Proofs.YtpbfajkbkomfcaaGreatDoor
