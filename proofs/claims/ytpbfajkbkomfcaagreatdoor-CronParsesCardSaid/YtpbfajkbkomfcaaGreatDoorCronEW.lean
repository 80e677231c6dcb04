/-
  The document's answer about schedules that are the same: what is run is what the plain functions say. Printed by a program of ours.
-/
import Derived.Test.YtpbfajkbkomfcaaGreatDoorAvE
import Derived.Test.YtpbfajkbkomfcaaGreatDoorPvLib
import Derived.Test.YtpbfajkbkomfcaaGreatDoorP11Split
import Derived.Test.YtpbfajkbkomfcaaGreatDoorAvStill
import Derived.Test.YtpbfajkbkomfcaaGreatDoorChecked
import Derived.Test.YtpbfajkbkomfcaaGreatDoorLibLW
import Derived.Test.YtpbfajkbkomfcaaGreatDoorCronEP
set_option linter.unusedVariables false
set_option linter.unusedSimpArgs false
namespace Go.Proofs.YtpbfajkbkomfcaaGreatDoor
open Go.RowKit Go.Av Go.Pv

set_option maxRecDepth 100000 in
set_option maxHeartbeats 1000000 in
theorem w_ref05_Same (F : Nat) (a1 : List Int) (a2 : List Int) (a3 : List Int) (a4 : List Int) (a5 : List Int) (a6 : Bool) (a7 : Bool) (a8 : Bool) (a9 : Bool) (a10 : Bool) (a11 : List Int) (a12 : List Int) (a13 : List Int) (a14 : List Int) (a15 : List Int) (a16 : Bool) (a17 : Bool) (a18 : Bool) (a19 : Bool) (a20 : Bool) (r21 : Bool) (H : ref05_Same F a1 a2 a3 a4 a5 a6 a7 a8 a9 a10 a11 a12 a13 a14 a15 a16 a17 a18 a19 a20 = some r21) : ACalls Tryz.prog 12 [.agg [slE Enc.int a1 none, slE Enc.int a2 none, slE Enc.int a3 none, slE Enc.int a4 none, slE Enc.int a5 none, B a6, B a7, B a8, B a9, B a10], .agg [slE Enc.int a11 none, slE Enc.int a12 none, slE Enc.int a13 none, slE Enc.int a14 none, slE Enc.int a15 none, B a16, B a17, B a18, B a19, B a20]] [] (Ret (B r21) []) := by
 unfold ref05_Same at H
 refine ACalls.of_body Tryz.func12 rfl rfl ?_
 show AW _ _ 57 _ _ _
 refine AW.seq ?_
 refine AW.region ?_
 show AR _ _ _ _ _ [0, 1, 2] _
 refine sR rfl rfl rfl (opR_boxCp rfl (.inr ⟨_, rfl⟩)) ?_
 refine sR rfl rfl rfl (opR_boxCp rfl (.inr ⟨_, rfl⟩)) ?_
 refine sS rfl rfl rfl (asg rfl) ?_
 refine AR.nil ?_
 show AW _ _ _ _ _ _
 refine AW.cut (X := Unit) (fun _ => ⟨[], [], []⟩) (fun _ => ref05_Same_j1 = some r21) ?_ ?_
 ·
  refine AW.seq ?_
  refine AW.region ?_
  show AR _ _ _ _ _ [0] _
  refine sS rfl rfl rfl (asg rfl) ?_
  refine AR.nil ?_
  show AW _ _ _ _ _ _
  refine AW.block ?_
  refine AW.loop (X := Nat × Int) (fun (n24, y22) => ⟨[(2, .cp [slE Enc.int a1 none, slE Enc.int a2 none, slE Enc.int a3 none, slE Enc.int a4 none, slE Enc.int a5 none, B a6, B a7, B a8, B a9, B a10]), (3, .cp [slE Enc.int a11 none, slE Enc.int a12 none, slE Enc.int a13 none, slE Enc.int a14 none, slE Enc.int a15 none, B a16, B a17, B a18, B a19, B a20]), (5, i64 y22)], [], []⟩) (fun (n24, y22) => ref05_Same_L2 F a1 a2 a3 a4 a5 a6 a7 a8 a9 a10 a11 a12 a13 a14 a15 a16 a17 a18 a19 a20 n24 y22 = some r21) (fun (n24, y22) => n24) (F, 0) H (WK.at [] (.cons (.refl _) (.cons (.refl _) (.cons (.refl _) (.nil _)))) rfl) ?_
  rintro ⟨n24, y22⟩ H
  obtain ⟨n24, rfl, H⟩ := loop_s H
  replace H : ref05_Same_B2 F a1 a2 a3 a4 a5 a6 a7 a8 a9 a10 a11 a12 a13 a14 a15 a16 a17 a18 a19 a20 (ref05_Same_L2 F a1 a2 a3 a4 a5 a6 a7 a8 a9 a10 a11 a12 a13 a14 a15 a16 a17 a18 a19 a20 n24) y22 = some r21 := H
  unfold ref05_Same_B2 at H
  show AW _ _ _ _ _ _
  refine AW.seq ?_
  refine AW.seq ?_
  refine AW.region ?_
  show AR _ _ _ _ _ [0, 1] _
  refine sS rfl rfl rfl (mv rfl) ?_
  refine sS rfl rfl rfl (opS_lt rfl rfl) ?_
  refine AR.nil ?_
  show AW _ _ _ _ _ _
  refine AW.cond rfl (fun c25 => ?_) (fun c25 => ?_)
  ·replace H := cnd_t c25 H
   refine AW.skip ?_
   show AW _ _ _ _ _ _
   refine AW.cut (X := Unit) (fun _ => ⟨[(2, .cp [slE Enc.int a1 none, slE Enc.int a2 none, slE Enc.int a3 none, slE Enc.int a4 none, slE Enc.int a5 none, B a6, B a7, B a8, B a9, B a10]), (3, .cp [slE Enc.int a11 none, slE Enc.int a12 none, slE Enc.int a13 none, slE Enc.int a14 none, slE Enc.int a15 none, B a16, B a17, B a18, B a19, B a20]), (5, i64 y22)], [], []⟩) (fun _ => ref05_Same_j2 y22 (ref05_Same_L2 F a1 a2 a3 a4 a5 a6 a7 a8 a9 a10 a11 a12 a13 a14 a15 a16 a17 a18 a19 a20 n24) = some r21) ?_ ?_
   ·
    refine AW.block ?_
    refine AW.seq ?_
    refine AW.seq ?_
    obtain ⟨g26, H⟩ := grd_s H
    obtain ⟨x27, e28, H⟩ := lt_s H
    obtain ⟨g29, H⟩ := grd_s H
    obtain ⟨x30, e31, H⟩ := lt_s H
    obtain ⟨g33, H⟩ := grdc_s H
    obtain ⟨x34, e35, H⟩ := lt_s H
    obtain ⟨g36, H⟩ := grdc_s H
    obtain ⟨x37, e38, H⟩ := lt_s H
    refine AW.region_draw (by kernel_rfl) ?_
    show AI _ _ _ _ 22 (Array.replicate 22 false) _
    refine AI.take (i := 0) rfl rfl (by kernel_rfl) (by kernel_rfl) (by kernel_rfl) (fun _ _ h => h) (mv rfl) ?_
    show AI _ _ _ _ _ #[true, false, false, false, false, false, false, false, false, false, false, false, false, false, false, false, false, false, false, false, false, false] _
    refine AI.take (i := 1) rfl rfl (by kernel_rfl) (by kernel_rfl) (by kernel_rfl) (fun _ _ h => h) (opS_fieldAddr_cp (n := 0) (by kernel_rfl) rfl (Nat.le_of_ble_eq_true rfl)) ?_
    show AI _ _ _ _ _ #[true, true, false, false, false, false, false, false, false, false, false, false, false, false, false, false, false, false, false, false, false, false] _
    refine AI.take (i := 2) rfl rfl (by kernel_rfl) (by kernel_rfl) (by kernel_rfl) (fun _ _ h => h) (opS_indexAddr_arrv_cp (E := (Enc.sl Enc.int)) (l := ([a1, a2, a3, a4, a5] : List (List Int))) (post := [B a6, B a7, B a8, B a9, B a10]) rfl Tryz.underlying24 (by kernel_rfl) rfl rfl rfl g26 e28 rfl) ?_
    show AI _ _ _ _ _ #[true, true, true, false, false, false, false, false, false, false, false, false, false, false, false, false, false, false, false, false, false, false] _
    refine AI.take (i := 3) rfl rfl (by kernel_rfl) (by kernel_rfl) (by kernel_rfl) (fun _ _ h => h) (opS_load_cp Tryz.underlying23 rfl rfl) ?_
    show AI _ _ _ _ _ #[true, true, true, true, false, false, false, false, false, false, false, false, false, false, false, false, false, false, false, false, false, false] _
    refine AI.take (i := 4) rfl rfl (by kernel_rfl) (by kernel_rfl) (by kernel_rfl) (fun _ _ h => h) (opS_len_sl Tryz.underlying23 rfl) ?_
    show AI _ _ _ _ _ #[true, true, true, true, true, false, false, false, false, false, false, false, false, false, false, false, false, false, false, false, false, false] _
    refine AI.take (i := 5) rfl rfl (by kernel_rfl) (by kernel_rfl) (by kernel_rfl) (fun _ _ h => h) (mv rfl) ?_
    show AI _ _ _ _ _ #[true, true, true, true, true, true, false, false, false, false, false, false, false, false, false, false, false, false, false, false, false, false] _
    refine AI.take (i := 6) rfl rfl (by kernel_rfl) (by kernel_rfl) (by kernel_rfl) (fun _ _ h => h) (opS_fieldAddr_cp (n := 0) (by kernel_rfl) rfl (Nat.le_of_ble_eq_true rfl)) ?_
    show AI _ _ _ _ _ #[true, true, true, true, true, true, true, false, false, false, false, false, false, false, false, false, false, false, false, false, false, false] _
    refine AI.take (i := 7) rfl rfl (by kernel_rfl) (by kernel_rfl) (by kernel_rfl) (fun _ _ h => h) (opS_indexAddr_arrv_cp (E := (Enc.sl Enc.int)) (l := ([a11, a12, a13, a14, a15] : List (List Int))) (post := [B a16, B a17, B a18, B a19, B a20]) rfl Tryz.underlying24 (by kernel_rfl) rfl rfl rfl g29 e31 rfl) ?_
    show AI _ _ _ _ _ #[true, true, true, true, true, true, true, true, false, false, false, false, false, false, false, false, false, false, false, false, false, false] _
    refine AI.take (i := 8) rfl rfl (by kernel_rfl) (by kernel_rfl) (by kernel_rfl) (fun _ _ h => h) (opS_load_cp Tryz.underlying23 rfl rfl) ?_
    show AI _ _ _ _ _ #[true, true, true, true, true, true, true, true, true, false, false, false, false, false, false, false, false, false, false, false, false, false] _
    refine AI.take (i := 9) rfl rfl (by kernel_rfl) (by kernel_rfl) (by kernel_rfl) (fun _ _ h => h) (opS_len_sl Tryz.underlying23 rfl) ?_
    show AI _ _ _ _ _ #[true, true, true, true, true, true, true, true, true, true, false, false, false, false, false, false, false, false, false, false, false, false] _
    refine AI.take (i := 10) rfl rfl (by kernel_rfl) (by kernel_rfl) (by kernel_rfl) (fun _ _ h => h) (opS_nei rfl rfl) ?_
    show AI _ _ _ _ _ #[true, true, true, true, true, true, true, true, true, true, true, false, false, false, false, false, false, false, false, false, false, false] _
    refine AI.take (i := 11) rfl rfl (by kernel_rfl) (by kernel_rfl) (by kernel_rfl) (fun _ _ h => h) (mv rfl) ?_
    show AI _ _ _ _ _ #[true, true, true, true, true, true, true, true, true, true, true, true, false, false, false, false, false, false, false, false, false, false] _
    refine AI.meet 0 #[true, true, true, true, true, true, true, true, true, true, true, true, true, true, true, true, true, true, true, true, true, true] 32 (B ((!decide ((x27.length : Int) = (x30.length : Int))) || (!(x34 == x37)))) (fun K21 => ?_) ?_
    ·refine AI.gsplit (t := 22) rfl (fun h32 => ?_) (fun h32 => ?_)
     ·
      refine AI.gskip (i := 12) rfl rfl (by kernel_rfl) (by kernel_rfl) (by kernel_rfl) rfl rfl rfl (fun _ _ h => h) h32 ?_
      show AI _ _ _ _ _ #[true, true, true, true, true, true, true, true, true, true, true, true, true, false, false, false, false, false, false, false, false, false] _
      refine AI.gskip (i := 13) rfl rfl (by kernel_rfl) (by kernel_rfl) (by kernel_rfl) rfl rfl rfl (fun _ _ h => h) h32 ?_
      show AI _ _ _ _ _ #[true, true, true, true, true, true, true, true, true, true, true, true, true, true, false, false, false, false, false, false, false, false] _
      refine AI.gskip (i := 14) rfl rfl (by kernel_rfl) (by kernel_rfl) (by kernel_rfl) rfl rfl rfl (fun _ _ h => h) h32 ?_
      show AI _ _ _ _ _ #[true, true, true, true, true, true, true, true, true, true, true, true, true, true, true, false, false, false, false, false, false, false] _
      refine AI.gskip (i := 15) rfl rfl (by kernel_rfl) (by kernel_rfl) (by kernel_rfl) rfl rfl rfl (fun _ _ h => h) h32 ?_
      show AI _ _ _ _ _ #[true, true, true, true, true, true, true, true, true, true, true, true, true, true, true, true, false, false, false, false, false, false] _
      refine AI.gskip (i := 16) rfl rfl (by kernel_rfl) (by kernel_rfl) (by kernel_rfl) rfl rfl rfl (fun _ _ h => h) h32 ?_
      show AI _ _ _ _ _ #[true, true, true, true, true, true, true, true, true, true, true, true, true, true, true, true, true, false, false, false, false, false] _
      refine AI.gskip (i := 17) rfl rfl (by kernel_rfl) (by kernel_rfl) (by kernel_rfl) rfl rfl rfl (fun _ _ h => h) h32 ?_
      show AI _ _ _ _ _ #[true, true, true, true, true, true, true, true, true, true, true, true, true, true, true, true, true, true, false, false, false, false] _
      refine AI.gskip (i := 18) rfl rfl (by kernel_rfl) (by kernel_rfl) (by kernel_rfl) rfl rfl rfl (fun _ _ h => h) h32 ?_
      show AI _ _ _ _ _ #[true, true, true, true, true, true, true, true, true, true, true, true, true, true, true, true, true, true, true, false, false, false] _
      refine AI.gskip (i := 19) rfl rfl (by kernel_rfl) (by kernel_rfl) (by kernel_rfl) rfl rfl rfl (fun _ _ h => h) h32 ?_
      show AI _ _ _ _ _ #[true, true, true, true, true, true, true, true, true, true, true, true, true, true, true, true, true, true, true, true, false, false] _
      refine AI.gskip (i := 20) rfl rfl (by kernel_rfl) (by kernel_rfl) (by kernel_rfl) rfl rfl rfl (fun _ _ h => h) h32 ?_
      show AI _ _ _ _ _ #[true, true, true, true, true, true, true, true, true, true, true, true, true, true, true, true, true, true, true, true, true, false] _
      refine AI.take (i := 21) rfl rfl (by kernel_rfl) (by kernel_rfl) (by kernel_rfl) (fun _ _ h => h) (OpS.eq (av' := B ((!decide ((x27.length : Int) = (x30.length : Int))) || (!(x34 == x37)))) (opS_pick_t (av := .v _) rfl h32 rfl) (B_congr (or_t h32))) ?_
      show AI _ _ _ _ _ #[true, true, true, true, true, true, true, true, true, true, true, true, true, true, true, true, true, true, true, true, true, true] _
      exact K21 _ 9 rfl rfl
     ·
      refine AI.gtake (i := 12) rfl rfl (by kernel_rfl) (by kernel_rfl) (by kernel_rfl) rfl rfl rfl (fun _ _ h => h) h32 (mv rfl) ?_
      show AI _ _ _ _ _ #[true, true, true, true, true, true, true, true, true, true, true, true, true, false, false, false, false, false, false, false, false, false] _
      refine AI.gtake (i := 13) rfl rfl (by kernel_rfl) (by kernel_rfl) (by kernel_rfl) rfl rfl rfl (fun _ _ h => h) h32 (opS_fieldAddr_cp (n := 5) (by kernel_rfl) rfl (Nat.le_of_ble_eq_true rfl)) ?_
      show AI _ _ _ _ _ #[true, true, true, true, true, true, true, true, true, true, true, true, true, true, false, false, false, false, false, false, false, false] _
      refine AI.gtake (i := 14) rfl rfl (by kernel_rfl) (by kernel_rfl) (by kernel_rfl) rfl rfl rfl (fun _ _ h => h) h32 (opS_indexAddr_arrv_cp (E := Enc.bool) (l := ([a6, a7, a8, a9, a10] : List Bool)) (post := []) rfl Tryz.underlying25 (by kernel_rfl) rfl rfl rfl (g33 (nf h32)) e35 rfl) ?_
      show AI _ _ _ _ _ #[true, true, true, true, true, true, true, true, true, true, true, true, true, true, true, false, false, false, false, false, false, false] _
      refine AI.gtake (i := 15) rfl rfl (by kernel_rfl) (by kernel_rfl) (by kernel_rfl) rfl rfl rfl (fun _ _ h => h) h32 (opS_load_cp Tryz.underlying4 rfl rfl) ?_
      show AI _ _ _ _ _ #[true, true, true, true, true, true, true, true, true, true, true, true, true, true, true, true, false, false, false, false, false, false] _
      refine AI.gtake (i := 16) rfl rfl (by kernel_rfl) (by kernel_rfl) (by kernel_rfl) rfl rfl rfl (fun _ _ h => h) h32 (mv rfl) ?_
      show AI _ _ _ _ _ #[true, true, true, true, true, true, true, true, true, true, true, true, true, true, true, true, true, false, false, false, false, false] _
      refine AI.gtake (i := 17) rfl rfl (by kernel_rfl) (by kernel_rfl) (by kernel_rfl) rfl rfl rfl (fun _ _ h => h) h32 (opS_fieldAddr_cp (n := 5) (by kernel_rfl) rfl (Nat.le_of_ble_eq_true rfl)) ?_
      show AI _ _ _ _ _ #[true, true, true, true, true, true, true, true, true, true, true, true, true, true, true, true, true, true, false, false, false, false] _
      refine AI.gtake (i := 18) rfl rfl (by kernel_rfl) (by kernel_rfl) (by kernel_rfl) rfl rfl rfl (fun _ _ h => h) h32 (opS_indexAddr_arrv_cp (E := Enc.bool) (l := ([a16, a17, a18, a19, a20] : List Bool)) (post := []) rfl Tryz.underlying25 (by kernel_rfl) rfl rfl rfl (g36 (nf h32)) e38 rfl) ?_
      show AI _ _ _ _ _ #[true, true, true, true, true, true, true, true, true, true, true, true, true, true, true, true, true, true, true, false, false, false] _
      refine AI.gtake (i := 19) rfl rfl (by kernel_rfl) (by kernel_rfl) (by kernel_rfl) rfl rfl rfl (fun _ _ h => h) h32 (opS_load_cp Tryz.underlying4 rfl rfl) ?_
      show AI _ _ _ _ _ #[true, true, true, true, true, true, true, true, true, true, true, true, true, true, true, true, true, true, true, true, false, false] _
      refine AI.gtake (i := 20) rfl rfl (by kernel_rfl) (by kernel_rfl) (by kernel_rfl) rfl rfl rfl (fun _ _ h => h) h32 (opS_neb Tryz.underlying4 rfl rfl) ?_
      show AI _ _ _ _ _ #[true, true, true, true, true, true, true, true, true, true, true, true, true, true, true, true, true, true, true, true, true, false] _
      refine AI.take (i := 21) rfl rfl (by kernel_rfl) (by kernel_rfl) (by kernel_rfl) (fun _ _ h => h) (OpS.eq (av' := B ((!decide ((x27.length : Int) = (x30.length : Int))) || (!(x34 == x37)))) (opS_pick_f (av := .v _) rfl h32 rfl) (B_congr (or_f h32))) ?_
      show AI _ _ _ _ _ #[true, true, true, true, true, true, true, true, true, true, true, true, true, true, true, true, true, true, true, true, true, true] _
      exact K21 _ 9 rfl rfl
    refine AI.done rfl ?_
    show AW _ _ _ _ _ _
    refine AW.cond rfl (fun c39 => ?_) (fun c39 => ?_)
    ·replace H := cnd_t c39 H
     refine AW.seq ?_
     refine AW.region ?_
     show AR _ _ _ _ _ [0] _
     refine sS rfl rfl rfl (asg rfl) ?_
     refine AR.nil ?_
     show AW _ _ _ _ _ _
     refine AW.ret ?_
     obtain rfl := Option.some.inj H
     exact And.intro rfl (Exists.intro _ (Exists.intro _ ⟨ResV.oneW rfl (.refl _), Sub.at [] rfl, rfl, rfl⟩))
    ·replace H := cnd_f c39 H
     refine AW.skip ?_
     show AW _ _ _ _ _ _
     refine AW.seq ?_
     refine AW.region ?_
     show AR _ _ _ _ _ [0] _
     refine sS rfl rfl rfl (asg rfl) ?_
     refine AR.nil ?_
     show AW _ _ _ _ _ _
     refine AW.block ?_
     refine AW.loop (X := Nat × Int) (fun (n42, y40) => ⟨[(2, .cp [slE Enc.int a1 none, slE Enc.int a2 none, slE Enc.int a3 none, slE Enc.int a4 none, slE Enc.int a5 none, B a6, B a7, B a8, B a9, B a10]), (3, .cp [slE Enc.int a11 none, slE Enc.int a12 none, slE Enc.int a13 none, slE Enc.int a14 none, slE Enc.int a15 none, B a16, B a17, B a18, B a19, B a20]), (5, i64 y22), (6, i64 y40)], [], []⟩) (fun (n42, y40) => ref05_Same_L1 a1 a2 a3 a4 a5 a11 a12 a13 a14 a15 y22 (ref05_Same_L2 F a1 a2 a3 a4 a5 a6 a7 a8 a9 a10 a11 a12 a13 a14 a15 a16 a17 a18 a19 a20 n24) n42 y40 = some r21) (fun (n42, y40) => n42) (F, 0) H (WK.at [] (.cons (.refl _) (.cons (.refl _) (.cons (.refl _) (.cons (.refl _) (.nil _))))) rfl) ?_
     rintro ⟨n42, y40⟩ H
     obtain ⟨n42, rfl, H⟩ := loop_s H
     replace H : ref05_Same_B1 a1 a2 a3 a4 a5 a11 a12 a13 a14 a15 y22 (ref05_Same_L2 F a1 a2 a3 a4 a5 a6 a7 a8 a9 a10 a11 a12 a13 a14 a15 a16 a17 a18 a19 a20 n24) (ref05_Same_L1 a1 a2 a3 a4 a5 a11 a12 a13 a14 a15 y22 (ref05_Same_L2 F a1 a2 a3 a4 a5 a6 a7 a8 a9 a10 a11 a12 a13 a14 a15 a16 a17 a18 a19 a20 n24) n42) y40 = some r21 := H
     unfold ref05_Same_B1 at H
     show AW _ _ _ _ _ _
     refine AW.seq ?_
     refine AW.seq ?_
     obtain ⟨g43, H⟩ := grd_s H
     obtain ⟨x44, e45, H⟩ := lt_s H
     refine AW.region ?_
     show AR _ _ _ _ _ [0, 1, 2, 3, 4, 5, 6] _
     refine sS rfl rfl rfl (mv rfl) ?_
     refine sS rfl rfl rfl (mv rfl) ?_
     refine sS rfl rfl rfl (opS_fieldAddr_cp (n := 0) (by kernel_rfl) rfl (Nat.le_of_ble_eq_true rfl)) ?_
     refine sS rfl rfl rfl (opS_indexAddr_arrv_cp (E := (Enc.sl Enc.int)) (l := ([a1, a2, a3, a4, a5] : List (List Int))) (post := [B a6, B a7, B a8, B a9, B a10]) rfl Tryz.underlying24 (by kernel_rfl) rfl rfl rfl g43 e45 rfl) ?_
     refine sS rfl rfl rfl (opS_load_cp Tryz.underlying23 rfl rfl) ?_
     refine sS rfl rfl rfl (opS_len_sl Tryz.underlying23 rfl) ?_
     refine sS rfl rfl rfl (opS_lt rfl rfl) ?_
     refine AR.nil ?_
     show AW _ _ _ _ _ _
     refine AW.cond rfl (fun c46 => ?_) (fun c46 => ?_)
     ·replace H := cnd_t c46 H
      refine AW.skip ?_
      show AW _ _ _ _ _ _
      refine AW.seq ?_
      refine AW.block ?_
      refine AW.seq ?_
      obtain ⟨g47, H⟩ := grd_s H
      obtain ⟨x48, e49, H⟩ := lt_s H
      obtain ⟨g50, H⟩ := grd_s H
      obtain ⟨x51, e52, H⟩ := lt_s H
      obtain ⟨g53, H⟩ := grd_s H
      obtain ⟨x54, e55, H⟩ := lt_s H
      obtain ⟨g56, H⟩ := grd_s H
      obtain ⟨x57, e58, H⟩ := lt_s H
      refine AW.region_draw (by kernel_rfl) ?_
      show AI _ _ _ _ 15 (Array.replicate 15 false) _
      refine AI.take (i := 0) rfl rfl (by kernel_rfl) (by kernel_rfl) (by kernel_rfl) (fun _ _ h => h) (mv rfl) ?_
      show AI _ _ _ _ _ #[true, false, false, false, false, false, false, false, false, false, false, false, false, false, false] _
      refine AI.take (i := 1) rfl rfl (by kernel_rfl) (by kernel_rfl) (by kernel_rfl) (fun _ _ h => h) (opS_fieldAddr_cp (n := 0) (by kernel_rfl) rfl (Nat.le_of_ble_eq_true rfl)) ?_
      show AI _ _ _ _ _ #[true, true, false, false, false, false, false, false, false, false, false, false, false, false, false] _
      refine AI.take (i := 2) rfl rfl (by kernel_rfl) (by kernel_rfl) (by kernel_rfl) (fun _ _ h => h) (opS_indexAddr_arrv_cp (E := (Enc.sl Enc.int)) (l := ([a1, a2, a3, a4, a5] : List (List Int))) (post := [B a6, B a7, B a8, B a9, B a10]) rfl Tryz.underlying24 (by kernel_rfl) rfl rfl rfl g47 e49 rfl) ?_
      show AI _ _ _ _ _ #[true, true, true, false, false, false, false, false, false, false, false, false, false, false, false] _
      refine AI.take (i := 3) rfl rfl (by kernel_rfl) (by kernel_rfl) (by kernel_rfl) (fun _ _ h => h) (opS_load_cp Tryz.underlying23 rfl rfl) ?_
      show AI _ _ _ _ _ #[true, true, true, true, false, false, false, false, false, false, false, false, false, false, false] _
      refine AI.take (i := 4) rfl rfl (by kernel_rfl) (by kernel_rfl) (by kernel_rfl) (fun _ _ h => h) (mv rfl) ?_
      show AI _ _ _ _ _ #[true, true, true, true, true, false, false, false, false, false, false, false, false, false, false] _
      refine AI.take (i := 5) rfl rfl (by kernel_rfl) (by kernel_rfl) (by kernel_rfl) (fun _ _ h => h) (g_indexAddr (E := Enc.int) Tryz.underlying23 (by kernel_rfl) rfl rfl g50 e52) ?_
      show AI _ _ _ _ _ #[true, true, true, true, true, true, false, false, false, false, false, false, false, false, false] _
      refine AI.take (i := 6) rfl rfl (by kernel_rfl) (by kernel_rfl) (by kernel_rfl) (fun _ _ h => h) (opS_load_cp Tryz.underlying3 rfl rfl) ?_
      show AI _ _ _ _ _ #[true, true, true, true, true, true, true, false, false, false, false, false, false, false, false] _
      refine AI.take (i := 7) rfl rfl (by kernel_rfl) (by kernel_rfl) (by kernel_rfl) (fun _ _ h => h) (mv rfl) ?_
      show AI _ _ _ _ _ #[true, true, true, true, true, true, true, true, false, false, false, false, false, false, false] _
      refine AI.take (i := 8) rfl rfl (by kernel_rfl) (by kernel_rfl) (by kernel_rfl) (fun _ _ h => h) (opS_fieldAddr_cp (n := 0) (by kernel_rfl) rfl (Nat.le_of_ble_eq_true rfl)) ?_
      show AI _ _ _ _ _ #[true, true, true, true, true, true, true, true, true, false, false, false, false, false, false] _
      refine AI.take (i := 9) rfl rfl (by kernel_rfl) (by kernel_rfl) (by kernel_rfl) (fun _ _ h => h) (opS_indexAddr_arrv_cp (E := (Enc.sl Enc.int)) (l := ([a11, a12, a13, a14, a15] : List (List Int))) (post := [B a16, B a17, B a18, B a19, B a20]) rfl Tryz.underlying24 (by kernel_rfl) rfl rfl rfl g53 e55 rfl) ?_
      show AI _ _ _ _ _ #[true, true, true, true, true, true, true, true, true, true, false, false, false, false, false] _
      refine AI.take (i := 10) rfl rfl (by kernel_rfl) (by kernel_rfl) (by kernel_rfl) (fun _ _ h => h) (opS_load_cp Tryz.underlying23 rfl rfl) ?_
      show AI _ _ _ _ _ #[true, true, true, true, true, true, true, true, true, true, true, false, false, false, false] _
      refine AI.take (i := 11) rfl rfl (by kernel_rfl) (by kernel_rfl) (by kernel_rfl) (fun _ _ h => h) (mv rfl) ?_
      show AI _ _ _ _ _ #[true, true, true, true, true, true, true, true, true, true, true, true, false, false, false] _
      refine AI.take (i := 12) rfl rfl (by kernel_rfl) (by kernel_rfl) (by kernel_rfl) (fun _ _ h => h) (g_indexAddr (E := Enc.int) Tryz.underlying23 (by kernel_rfl) rfl rfl g56 e58) ?_
      show AI _ _ _ _ _ #[true, true, true, true, true, true, true, true, true, true, true, true, true, false, false] _
      refine AI.take (i := 13) rfl rfl (by kernel_rfl) (by kernel_rfl) (by kernel_rfl) (fun _ _ h => h) (opS_load_cp Tryz.underlying3 rfl rfl) ?_
      show AI _ _ _ _ _ #[true, true, true, true, true, true, true, true, true, true, true, true, true, true, false] _
      refine AI.take (i := 14) rfl rfl (by kernel_rfl) (by kernel_rfl) (by kernel_rfl) (fun _ _ h => h) (opS_nei rfl rfl) ?_
      show AI _ _ _ _ _ #[true, true, true, true, true, true, true, true, true, true, true, true, true, true, true] _
      refine AI.done rfl ?_
      show AW _ _ _ _ _ _
      refine AW.cond rfl (fun c59 => ?_) (fun c59 => ?_)
      ·replace H := cnd_t c59 H
       refine AW.seq ?_
       refine AW.region ?_
       show AR _ _ _ _ _ [0] _
       refine sS rfl rfl rfl (asg rfl) ?_
       refine AR.nil ?_
       show AW _ _ _ _ _ _
       refine AW.ret ?_
       obtain rfl := Option.some.inj H
       exact And.intro rfl (Exists.intro _ (Exists.intro _ ⟨ResV.oneW rfl (.refl _), Sub.at [] rfl, rfl, rfl⟩))
      ·replace H := cnd_f c59 H
       refine AW.skip ?_
       show AW _ _ _ _ _ _
       obtain ⟨g60, H⟩ := grd_s H
       refine AW.region ?_
       show AR _ _ _ _ _ [0, 1, 2] _
       refine sS rfl rfl rfl (mv rfl) ?_
       refine sS rfl rfl rfl (g_add rfl rfl g60) ?_
       refine sS rfl rfl rfl (asg rfl) ?_
       refine AR.nil ?_
       exact Exists.intro (n42, y40 + 1) ⟨H, Nat.lt_succ_self _, WK.at [] (.cons (.refl _) (.cons (.refl _) (.cons (.refl _) (.cons (.refl _) (.nil _))))) rfl⟩
     ·replace H := cnd_f c46 H
      refine AW.exit ?_
      exact Exists.intro () ⟨H, WK.at [] (.cons (.refl _) (.cons (.refl _) (.cons (.refl _) (.nil _)))) rfl⟩
   rintro _ H
   replace H : ref05_Same_j2 y22 (ref05_Same_L2 F a1 a2 a3 a4 a5 a6 a7 a8 a9 a10 a11 a12 a13 a14 a15 a16 a17 a18 a19 a20 n24) = some r21 := H
   unfold ref05_Same_j2 at H
   show AW _ _ _ _ _ _
   obtain ⟨g62, H⟩ := grd_s H
   refine AW.region ?_
   show AR _ _ _ _ _ [0, 1, 2] _
   refine sS rfl rfl rfl (mv rfl) ?_
   refine sS rfl rfl rfl (g_add rfl rfl g62) ?_
   refine sS rfl rfl rfl (asg rfl) ?_
   refine AR.nil ?_
   exact Exists.intro (n24, y22 + 1) ⟨H, Nat.lt_succ_self _, WK.at [] (.cons (.refl _) (.cons (.refl _) (.cons (.refl _) (.nil _)))) rfl⟩
  ·replace H := cnd_f c25 H
   refine AW.exit ?_
   exact Exists.intro () ⟨H, WK.at [] (.nil _) rfl⟩
 rintro _ H
 replace H : ref05_Same_j1 = some r21 := H
 unfold ref05_Same_j1 at H
 show AW _ _ _ _ _ _
 refine AW.seq ?_
 refine AW.region ?_
 show AR _ _ _ _ _ [0] _
 refine sS rfl rfl rfl (asg rfl) ?_
 refine AR.nil ?_
 show AW _ _ _ _ _ _
 refine AW.ret ?_
 obtain rfl := Option.some.inj H
 exact And.intro rfl (Exists.intro _ (Exists.intro _ ⟨ResV.oneW rfl (.refl _), Sub.at [] rfl, rfl, rfl⟩))
end Go.Proofs.YtpbfajkbkomfcaaGreatDoor
