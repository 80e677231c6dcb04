/-
  The statement CronNames: what is run is what the plain functions say. Printed by a program of ours.
-/
import Derived.Test.YtpbfajkbkomfcaaDoorAvE
import Derived.Test.YtpbfajkbkomfcaaDoorPvLib
import Derived.Test.YtpbfajkbkomfcaaDoorP11Split
import Derived.Test.YtpbfajkbkomfcaaDoorAvStill
import Derived.Test.YtpbfajkbkomfcaaDoorChecked
import Derived.Test.YtpbfajkbkomfcaaDoorCronLW
import Derived.Test.YtpbfajkbkomfcaaDoorLCronNamesP
set_option linter.unusedVariables false
set_option linter.unusedSimpArgs false
namespace Go.Proofs.YtpbfajkbkomfcaaDoor
open Go.RowKit Go.Av Go.Pv
theorem en4_lcronnames : ∀ (args : Array Value) (w : World), (callFunc 4 args).run Tryd.prog w = .ok (.enter 4 args) w := fun _ _ => by kernel_rfl
theorem en5_lcronnames : ∀ (args : Array Value) (w : World), (callFunc 5 args).run Tryd.prog w = .ok (.enter 5 args) w := fun _ _ => by kernel_rfl
set_option maxRecDepth 100000 in
set_option maxHeartbeats 1000000 in
theorem w_law05_CronNames (F : Nat) (a1 : Int) (a2 : Int) (a3 : Int) (r4 : Bool) (H : law05_CronNames F a1 a2 a3 = some r4) : ACalls Tryd.prog 3 [i64 a1, i64 a2, i64 a3] [] (Ret (B r4) []) := by
 unfold law05_CronNames at H
 refine ACalls.of_body Tryd.func3 rfl rfl ?_
 show AW _ _ 160 _ _ _
 refine AW.seq ?_
 refine AW.region ?_
 show AR _ _ _ _ _ [0] _
 refine sS rfl rfl rfl (asg rfl) ?_
 refine AR.nil ?_
 show AW _ _ _ _ _ _
 refine AW.seq ?_
 obtain ⟨x5, e6, H⟩ := bnd_s H
 refine AW.region ?_
 show AR _ _ _ _ _ [0, 1] _
 refine AR.run rfl rfl (AO.callp rfl en4_lcronnames rfl (w_law05_awake F x5 e6) ?_)
 refine sS rfl rfl rfl (asg rfl) ?_
 refine AR.nil ?_
 show AW _ _ _ _ _ _
 refine AW.seq ?_
 refine AW.seq ?_
 refine AW.region ?_
 show AR _ _ _ _ _ [0, 1, 2, 3, 4, 5, 6, 7, 8, 9, 10, 11, 12, 13, 14, 15, 16, 17, 18, 19, 20, 21, 22, 23, 24, 25] _
 refine sS rfl rfl rfl (mv rfl) ?_
 refine sS rfl rfl rfl (opS_not rfl) ?_
 refine sS rfl rfl rfl (mv rfl) ?_
 refine AR.meet (l := [6, 7, 8, 9, 10, 11, 12, 13, 14, 15, 16, 17, 18, 19, 20, 21, 22, 23, 24, 25]) 25 (B ((!x5) || (decide (a1 < 1)))) (fun K => ?_) ?_
 ·rcases Bool.eq_false_or_eq_true (!x5) with h7 | h7
  ·
   refine gF h7 rfl rfl rfl rfl rfl ?_
   refine gF h7 rfl rfl rfl rfl rfl ?_
   refine sS rfl rfl rfl (opS_pick_t (av := .v _) rfl h7 rfl) ?_
   exact K _ 2 _ (B_congr (or_t h7)) rfl rfl
  ·
   refine gT h7 rfl rfl rfl rfl rfl rfl (AO.ops rfl rfl (mv rfl) ?_)
   refine gT h7 rfl rfl rfl rfl rfl rfl (AO.ops rfl rfl (opS_lt rfl rfl) ?_)
   refine sS rfl rfl rfl (opS_pick_f (av := .v _) rfl h7 rfl) ?_
   exact K _ 2 _ (B_congr (or_f h7)) rfl rfl
 refine sS rfl rfl rfl (mv rfl) ?_
 refine AR.meet (l := [10, 11, 12, 13, 14, 15, 16, 17, 18, 19, 20, 21, 22, 23, 24, 25]) 29 (B (((!x5) || (decide (a1 < 1))) || (decide (12 < a1)))) (fun K => ?_) ?_
 ·rcases Bool.eq_false_or_eq_true ((!x5) || (decide (a1 < 1))) with h8 | h8
  ·
   refine gF h8 rfl rfl rfl rfl rfl ?_
   refine gF h8 rfl rfl rfl rfl rfl ?_
   refine sS rfl rfl rfl (opS_pick_t (av := .v _) rfl h8 rfl) ?_
   exact K _ 2 _ (B_congr (or_t h8)) rfl rfl
  ·
   refine gT h8 rfl rfl rfl rfl rfl rfl (AO.ops rfl rfl (mv rfl) ?_)
   refine gT h8 rfl rfl rfl rfl rfl rfl (AO.ops rfl rfl (opS_gt rfl rfl) ?_)
   refine sS rfl rfl rfl (opS_pick_f (av := .v _) rfl h8 rfl) ?_
   exact K _ 2 _ (B_congr (or_f h8)) rfl rfl
 refine sS rfl rfl rfl (mv rfl) ?_
 refine AR.meet (l := [14, 15, 16, 17, 18, 19, 20, 21, 22, 23, 24, 25]) 33 (B ((((!x5) || (decide (a1 < 1))) || (decide (12 < a1))) || (decide (a2 < 0)))) (fun K => ?_) ?_
 ·rcases Bool.eq_false_or_eq_true (((!x5) || (decide (a1 < 1))) || (decide (12 < a1))) with h9 | h9
  ·
   refine gF h9 rfl rfl rfl rfl rfl ?_
   refine gF h9 rfl rfl rfl rfl rfl ?_
   refine sS rfl rfl rfl (opS_pick_t (av := .v _) rfl h9 rfl) ?_
   exact K _ 2 _ (B_congr (or_t h9)) rfl rfl
  ·
   refine gT h9 rfl rfl rfl rfl rfl rfl (AO.ops rfl rfl (mv rfl) ?_)
   refine gT h9 rfl rfl rfl rfl rfl rfl (AO.ops rfl rfl (opS_lt rfl rfl) ?_)
   refine sS rfl rfl rfl (opS_pick_f (av := .v _) rfl h9 rfl) ?_
   exact K _ 2 _ (B_congr (or_f h9)) rfl rfl
 refine sS rfl rfl rfl (mv rfl) ?_
 refine AR.meet (l := [18, 19, 20, 21, 22, 23, 24, 25]) 37 (B (((((!x5) || (decide (a1 < 1))) || (decide (12 < a1))) || (decide (a2 < 0))) || (decide (6 < a2)))) (fun K => ?_) ?_
 ·rcases Bool.eq_false_or_eq_true ((((!x5) || (decide (a1 < 1))) || (decide (12 < a1))) || (decide (a2 < 0))) with h10 | h10
  ·
   refine gF h10 rfl rfl rfl rfl rfl ?_
   refine gF h10 rfl rfl rfl rfl rfl ?_
   refine sS rfl rfl rfl (opS_pick_t (av := .v _) rfl h10 rfl) ?_
   exact K _ 2 _ (B_congr (or_t h10)) rfl rfl
  ·
   refine gT h10 rfl rfl rfl rfl rfl rfl (AO.ops rfl rfl (mv rfl) ?_)
   refine gT h10 rfl rfl rfl rfl rfl rfl (AO.ops rfl rfl (opS_gt rfl rfl) ?_)
   refine sS rfl rfl rfl (opS_pick_f (av := .v _) rfl h10 rfl) ?_
   exact K _ 2 _ (B_congr (or_f h10)) rfl rfl
 refine sS rfl rfl rfl (mv rfl) ?_
 refine AR.meet (l := [22, 23, 24, 25]) 41 (B ((((((!x5) || (decide (a1 < 1))) || (decide (12 < a1))) || (decide (a2 < 0))) || (decide (6 < a2))) || (decide (a3 < 0)))) (fun K => ?_) ?_
 ·rcases Bool.eq_false_or_eq_true (((((!x5) || (decide (a1 < 1))) || (decide (12 < a1))) || (decide (a2 < 0))) || (decide (6 < a2))) with h11 | h11
  ·
   refine gF h11 rfl rfl rfl rfl rfl ?_
   refine gF h11 rfl rfl rfl rfl rfl ?_
   refine sS rfl rfl rfl (opS_pick_t (av := .v _) rfl h11 rfl) ?_
   exact K _ 2 _ (B_congr (or_t h11)) rfl rfl
  ·
   refine gT h11 rfl rfl rfl rfl rfl rfl (AO.ops rfl rfl (mv rfl) ?_)
   refine gT h11 rfl rfl rfl rfl rfl rfl (AO.ops rfl rfl (opS_lt rfl rfl) ?_)
   refine sS rfl rfl rfl (opS_pick_f (av := .v _) rfl h11 rfl) ?_
   exact K _ 2 _ (B_congr (or_f h11)) rfl rfl
 refine sS rfl rfl rfl (mv rfl) ?_
 refine AR.meet (l := []) 45 (B (((((((!x5) || (decide (a1 < 1))) || (decide (12 < a1))) || (decide (a2 < 0))) || (decide (6 < a2))) || (decide (a3 < 0))) || (decide (63 < a3)))) (fun K => ?_) ?_
 ·rcases Bool.eq_false_or_eq_true ((((((!x5) || (decide (a1 < 1))) || (decide (12 < a1))) || (decide (a2 < 0))) || (decide (6 < a2))) || (decide (a3 < 0))) with h12 | h12
  ·
   refine gF h12 rfl rfl rfl rfl rfl ?_
   refine gF h12 rfl rfl rfl rfl rfl ?_
   refine sS rfl rfl rfl (opS_pick_t (av := .v _) rfl h12 rfl) ?_
   exact K _ 2 _ (B_congr (or_t h12)) rfl rfl
  ·
   refine gT h12 rfl rfl rfl rfl rfl rfl (AO.ops rfl rfl (mv rfl) ?_)
   refine gT h12 rfl rfl rfl rfl rfl rfl (AO.ops rfl rfl (opS_gt rfl rfl) ?_)
   refine sS rfl rfl rfl (opS_pick_f (av := .v _) rfl h12 rfl) ?_
   exact K _ 2 _ (B_congr (or_f h12)) rfl rfl
 refine AR.nil ?_
 show AW _ _ _ _ _ _
 refine AW.cond rfl (fun c13 => ?_) (fun c13 => ?_)
 ·replace H := cnd_t c13 H
  refine AW.seq ?_
  refine AW.region ?_
  show AR _ _ _ _ _ [0, 1] _
  refine sS rfl rfl rfl (mv rfl) ?_
  refine sS rfl rfl rfl (asg rfl) ?_
  refine AR.nil ?_
  show AW _ _ _ _ _ _
  refine AW.ret ?_
  obtain rfl := Option.some.inj H
  exact And.intro rfl (Exists.intro _ (Exists.intro _ ⟨ResV.oneW rfl (.refl _), Sub.at [] rfl, rfl, rfl⟩))
 ·replace H := cnd_f c13 H
  refine AW.skip ?_
  show AW _ _ _ _ _ _
  refine AW.seq ?_
  refine AW.region ?_
  show AR _ _ _ _ _ [0] _
  refine sS rfl rfl rfl (asg rfl) ?_
  refine AR.nil ?_
  show AW _ _ _ _ _ _
  refine AW.seq ?_
  refine AW.region ?_
  show AR _ _ _ _ _ [0] _
  refine sS rfl rfl rfl (asg rfl) ?_
  refine AR.nil ?_
  show AW _ _ _ _ _ _
  refine AW.seq ?_
  obtain ⟨g14, H⟩ := grd_s H
  obtain ⟨g15, H⟩ := grd_s H
  obtain ⟨g16, H⟩ := grd_s H
  obtain ⟨g17, H⟩ := grd_s H
  obtain ⟨x18, e19, H⟩ := lt_s H
  obtain ⟨g20, H⟩ := grd_s H
  obtain ⟨x21, e22, H⟩ := lt_s H
  obtain ⟨g23, H⟩ := grd_s H
  obtain ⟨g24, H⟩ := grd_s H
  obtain ⟨g25, H⟩ := grd_s H
  obtain ⟨g26, H⟩ := grd_s H
  obtain ⟨x27, e28, H⟩ := lt_s H
  obtain ⟨g29, H⟩ := grd_s H
  obtain ⟨x30, e31, H⟩ := lt_s H
  obtain ⟨g32, H⟩ := grd_s H
  refine AW.region_draw (by kernel_rfl) ?_
  show AI _ _ _ _ 18 (Array.replicate 18 false) _
  refine AI.take (i := 0) rfl rfl (by kernel_rfl) (by kernel_rfl) (by kernel_rfl) (fun _ _ h => h) (mv rfl) ?_
  show AI _ _ _ _ _ #[true, false, false, false, false, false, false, false, false, false, false, false, false, false, false, false, false, false] _
  refine AI.take (i := 1) rfl rfl (by kernel_rfl) (by kernel_rfl) (by kernel_rfl) (fun _ _ h => h) (mv rfl) ?_
  show AI _ _ _ _ _ #[true, true, false, false, false, false, false, false, false, false, false, false, false, false, false, false, false, false] _
  refine AI.take (i := 2) rfl rfl (by kernel_rfl) (by kernel_rfl) (by kernel_rfl) (fun _ _ h => h) (g_mul rfl rfl g14) ?_
  show AI _ _ _ _ _ #[true, true, true, false, false, false, false, false, false, false, false, false, false, false, false, false, false, false] _
  refine AI.take (i := 3) rfl rfl (by kernel_rfl) (by kernel_rfl) (by kernel_rfl) (fun _ _ h => h) (g_sub rfl rfl g15) ?_
  show AI _ _ _ _ _ #[true, true, true, true, false, false, false, false, false, false, false, false, false, false, false, false, false, false] _
  refine AI.take (i := 4) rfl rfl (by kernel_rfl) (by kernel_rfl) (by kernel_rfl) (fun _ _ h => h) (mv rfl) ?_
  show AI _ _ _ _ _ #[true, true, true, true, true, false, false, false, false, false, false, false, false, false, false, false, false, false] _
  refine AI.take (i := 5) rfl rfl (by kernel_rfl) (by kernel_rfl) (by kernel_rfl) (fun _ _ h => h) (g_mul rfl rfl g16) ?_
  show AI _ _ _ _ _ #[true, true, true, true, true, true, false, false, false, false, false, false, false, false, false, false, false, false] _
  refine AI.take (i := 6) rfl rfl (by kernel_rfl) (by kernel_rfl) (by kernel_rfl) (fun _ _ h => h) (g_slice_str Tryd.underlying9 rfl rfl rfl g17 e19) ?_
  show AI _ _ _ _ _ #[true, true, true, true, true, true, true, false, false, false, false, false, false, false, false, false, false, false] _
  refine AI.take (i := 7) rfl rfl (by kernel_rfl) (by kernel_rfl) (by kernel_rfl) (fun _ _ h => h) (g_cat rfl rfl g20 e22) ?_
  show AI _ _ _ _ _ #[true, true, true, true, true, true, true, true, false, false, false, false, false, false, false, false, false, false] _
  refine AI.take (i := 8) rfl rfl (by kernel_rfl) (by kernel_rfl) (by kernel_rfl) (fun _ _ h => h) (mv rfl) ?_
  show AI _ _ _ _ _ #[true, true, true, true, true, true, true, true, true, false, false, false, false, false, false, false, false, false] _
  refine AI.take (i := 9) rfl rfl (by kernel_rfl) (by kernel_rfl) (by kernel_rfl) (fun _ _ h => h) (mv rfl) ?_
  show AI _ _ _ _ _ #[true, true, true, true, true, true, true, true, true, true, false, false, false, false, false, false, false, false] _
  refine AI.take (i := 10) rfl rfl (by kernel_rfl) (by kernel_rfl) (by kernel_rfl) (fun _ _ h => h) (g_mul rfl rfl g23) ?_
  show AI _ _ _ _ _ #[true, true, true, true, true, true, true, true, true, true, true, false, false, false, false, false, false, false] _
  refine AI.take (i := 11) rfl rfl (by kernel_rfl) (by kernel_rfl) (by kernel_rfl) (fun _ _ h => h) (mv rfl) ?_
  show AI _ _ _ _ _ #[true, true, true, true, true, true, true, true, true, true, true, true, false, false, false, false, false, false] _
  refine AI.take (i := 12) rfl rfl (by kernel_rfl) (by kernel_rfl) (by kernel_rfl) (fun _ _ h => h) (g_mul rfl rfl g24) ?_
  show AI _ _ _ _ _ #[true, true, true, true, true, true, true, true, true, true, true, true, true, false, false, false, false, false] _
  refine AI.take (i := 13) rfl rfl (by kernel_rfl) (by kernel_rfl) (by kernel_rfl) (fun _ _ h => h) (g_add rfl rfl g25) ?_
  show AI _ _ _ _ _ #[true, true, true, true, true, true, true, true, true, true, true, true, true, true, false, false, false, false] _
  refine AI.take (i := 14) rfl rfl (by kernel_rfl) (by kernel_rfl) (by kernel_rfl) (fun _ _ h => h) (g_slice_str Tryd.underlying9 rfl rfl rfl g26 e28) ?_
  show AI _ _ _ _ _ #[true, true, true, true, true, true, true, true, true, true, true, true, true, true, true, false, false, false] _
  refine AI.take (i := 15) rfl rfl (by kernel_rfl) (by kernel_rfl) (by kernel_rfl) (fun _ _ h => h) (g_cat rfl rfl g29 e31) ?_
  show AI _ _ _ _ _ #[true, true, true, true, true, true, true, true, true, true, true, true, true, true, true, true, false, false] _
  refine AI.one (i := 16) (by kernel_rfl) rfl rfl ?_
  refine AIO.opx rfl (g_conv_str_row Tryd.underlying9 Tryd.underlying23 Tryd.underlying5 rfl g32) ?_
  rintro _ _ ⟨o33, n34, rfl, rfl⟩
  show AI _ _ _ _ _ #[true, true, true, true, true, true, true, true, true, true, true, true, true, true, true, true, true, false] _
  refine AI.take (i := 17) rfl rfl (by kernel_rfl) (by kernel_rfl) (by kernel_rfl) (fun _ _ h => h) (opS_assign (av := .vw _ _ _ _) rfl) ?_
  show AI _ _ _ _ _ #[true, true, true, true, true, true, true, true, true, true, true, true, true, true, true, true, true, true] _
  refine AI.done rfl ?_
  show AW _ _ _ _ _ _
  refine AW.cut (X := (List UInt8)) (fun y67 => ⟨[(0, i64 a1), (1, i64 a2), (10, .vw o33 0 x30.length (x30.length + n34))], [], [.obj o33 (Enc.byte.fl y67 ++ List.replicate n34 .any)]⟩) (fun y67 => law05_CronNames_j1 F a1 a2 x30 y67 = some r4) ?_ ?_
  ·
   refine AW.seq ?_
   refine AW.region ?_
   show AR _ _ _ _ _ [0] _
   refine sS rfl rfl rfl (asg rfl) ?_
   refine AR.nil ?_
   show AW _ _ _ _ _ _
   refine AW.block ?_
   refine AW.loop (X := Nat × Int × (List UInt8)) (fun (n38, y35, y36) => ⟨[(0, i64 a1), (1, i64 a2), (2, i64 a3), (10, .vw o33 0 x30.length (x30.length + n34)), (11, i64 y35)], [], [.obj o33 (Enc.byte.fl y36 ++ List.replicate n34 .any)]⟩) (fun (n38, y35, y36) => law05_CronNames_L2 F a1 a2 a3 x30 n38 (y35, y36) = some r4) (fun (n38, y35, y36) => n38) (F, 0, x30) H (WK.at [0] (.cons (.refl _) (.cons (.refl _) (.cons (.refl _) (.cons (.refl _) (.cons (.refl _) (.nil _)))))) rfl) ?_
   rintro ⟨n38, y35, y36⟩ H
   obtain ⟨n38, rfl, H⟩ := loop_s H
   replace H : law05_CronNames_B2 F a1 a2 a3 x30 (law05_CronNames_L2 F a1 a2 a3 x30 n38) y35 y36 = some r4 := H
   unfold law05_CronNames_B2 at H
   show AW _ _ _ _ _ _
   refine AW.seq ?_
   refine AW.seq ?_
   refine AW.region ?_
   show AR _ _ _ _ _ [0, 1] _
   refine sS rfl rfl rfl (mv rfl) ?_
   refine sS rfl rfl rfl (opS_lt rfl rfl) ?_
   refine AR.nil ?_
   show AW _ _ _ _ _ _
   refine AW.cond rfl (fun c39 => ?_) (fun c39 => ?_)
   ·replace H := cnd_t c39 H
    refine AW.skip ?_
    show AW _ _ _ _ _ _
    refine AW.cut (X := (List UInt8)) (fun y64 => ⟨[(0, i64 a1), (1, i64 a2), (2, i64 a3), (10, .vw o33 0 x30.length (x30.length + n34)), (11, i64 y35)], [], [.obj o33 (Enc.byte.fl y64 ++ List.replicate n34 .any)]⟩) (fun y64 => law05_CronNames_j2 y35 (law05_CronNames_L2 F a1 a2 a3 x30 n38) y64 = some r4) ?_ ?_
    ·
     refine AW.block ?_
     refine AW.seq ?_
     refine AW.region ?_
     show AR _ _ _ _ _ [0, 1] _
     refine sS rfl rfl rfl (mv rfl) ?_
     refine sS rfl rfl rfl (asg rfl) ?_
     refine AR.nil ?_
     show AW _ _ _ _ _ _
     refine AW.cut (X := Int) (fun y42 => ⟨[(0, i64 a1), (1, i64 a2), (2, i64 a3), (10, .vw o33 0 x30.length (x30.length + n34)), (11, i64 y35), (12, i64 y42)], [], [.obj o33 (Enc.byte.fl y36 ++ List.replicate n34 .any)]⟩) (fun y42 => law05_CronNames_j4 F a3 x30 y35 y36 (law05_CronNames_L2 F a1 a2 a3 x30 n38) y42 = some r4) ?_ ?_
     ·
      refine AW.seq ?_
      refine AW.region ?_
      show AR _ _ _ _ _ [0, 1] _
      refine sS rfl rfl rfl (mv rfl) ?_
      refine sS rfl rfl rfl (opS_gt rfl rfl) ?_
      refine AR.nil ?_
      show AW _ _ _ _ _ _
      refine AW.cond rfl (fun c40 => ?_) (fun c40 => ?_)
      ·replace H := cnd_t c40 H
       obtain ⟨g41, H⟩ := grd_s H
       refine AW.region ?_
       show AR _ _ _ _ _ [0, 1, 2] _
       refine sS rfl rfl rfl (mv rfl) ?_
       refine sS rfl rfl rfl (g_sub rfl rfl g41) ?_
       refine sS rfl rfl rfl (asg rfl) ?_
       refine AR.nil ?_
       exact Exists.intro (y35 - 1) ⟨H, WK.at [0] (.cons (.refl _) (.cons (.refl _) (.cons (.refl _) (.cons (.refl _) (.cons (.refl _) (.cons (.refl _) (.nil _))))))) rfl⟩
      ·replace H := cnd_f c40 H
       refine AW.skip ?_
       exact Exists.intro y35 ⟨H, WK.at [0] (.cons (.refl _) (.cons (.refl _) (.cons (.refl _) (.cons (.refl _) (.cons (.refl _) (.cons (.refl _) (.nil _))))))) rfl⟩
     rintro y42 H
     replace H : law05_CronNames_j4 F a3 x30 y35 y36 (law05_CronNames_L2 F a1 a2 a3 x30 n38) y42 = some r4 := H
     unfold law05_CronNames_j4 at H
     show AW _ _ _ _ _ _
     refine AW.seq ?_
     refine AW.region ?_
     show AR _ _ _ _ _ [0, 1] _
     refine sS rfl rfl rfl (mv rfl) ?_
     refine sS rfl rfl rfl (asg rfl) ?_
     refine AR.nil ?_
     show AW _ _ _ _ _ _
     refine AW.cut (X := Int) (fun y51 => ⟨[(0, i64 a1), (1, i64 a2), (2, i64 a3), (10, .vw o33 0 x30.length (x30.length + n34)), (11, i64 y35), (13, i64 y51)], [], [.obj o33 (Enc.byte.fl y36 ++ List.replicate n34 .any)]⟩) (fun y51 => law05_CronNames_j3 x30 y35 y36 (law05_CronNames_L2 F a1 a2 a3 x30 n38) y51 = some r4) ?_ ?_
     ·
      refine AW.seq ?_
      refine AW.region ?_
      show AR _ _ _ _ _ [0] _
      refine sS rfl rfl rfl (asg rfl) ?_
      refine AR.nil ?_
      show AW _ _ _ _ _ _
      refine AW.block ?_
      refine AW.loop (X := Nat × Int × Int) (fun (n47, y44, y45) => ⟨[(0, i64 a1), (1, i64 a2), (2, i64 a3), (10, .vw o33 0 x30.length (x30.length + n34)), (11, i64 y35), (12, i64 y42), (13, i64 y44), (14, i64 y45)], [], [.obj o33 (Enc.byte.fl y36 ++ List.replicate n34 .any)]⟩) (fun (n47, y44, y45) => law05_CronNames_L1 x30 y35 y36 y42 (law05_CronNames_L2 F a1 a2 a3 x30 n38) n47 (y44, y45) = some r4) (fun (n47, y44, y45) => n47) (F, a3, 0) H (WK.at [0] (.cons (.refl _) (.cons (.refl _) (.cons (.refl _) (.cons (.refl _) (.cons (.refl _) (.cons (.refl _) (.cons (.refl _) (.cons (.refl _) (.nil _))))))))) rfl) ?_
      rintro ⟨n47, y44, y45⟩ H
      obtain ⟨n47, rfl, H⟩ := loop_s H
      replace H : law05_CronNames_B1 x30 y35 y36 y42 (law05_CronNames_L2 F a1 a2 a3 x30 n38) (law05_CronNames_L1 x30 y35 y36 y42 (law05_CronNames_L2 F a1 a2 a3 x30 n38) n47) y44 y45 = some r4 := H
      unfold law05_CronNames_B1 at H
      show AW _ _ _ _ _ _
      refine AW.seq ?_
      refine AW.seq ?_
      refine AW.region ?_
      show AR _ _ _ _ _ [0, 1, 2] _
      refine sS rfl rfl rfl (mv rfl) ?_
      refine sS rfl rfl rfl (mv rfl) ?_
      refine sS rfl rfl rfl (opS_lt rfl rfl) ?_
      refine AR.nil ?_
      show AW _ _ _ _ _ _
      refine AW.cond rfl (fun c48 => ?_) (fun c48 => ?_)
      ·replace H := cnd_t c48 H
       refine AW.skip ?_
       show AW _ _ _ _ _ _
       refine AW.seq ?_
       refine AW.block ?_
       obtain ⟨g49, H⟩ := grd_s H
       refine AW.region ?_
       show AR _ _ _ _ _ [0, 1, 2] _
       refine sS rfl rfl rfl (mv rfl) ?_
       refine sS rfl rfl rfl (g_quo rfl rfl g49) ?_
       refine sS rfl rfl rfl (asg rfl) ?_
       refine AR.nil ?_
       show AW _ _ _ _ _ _
       obtain ⟨g50, H⟩ := grd_s H
       refine AW.region ?_
       show AR _ _ _ _ _ [0, 1, 2] _
       refine sS rfl rfl rfl (mv rfl) ?_
       refine sS rfl rfl rfl (g_add rfl rfl g50) ?_
       refine sS rfl rfl rfl (asg rfl) ?_
       refine AR.nil ?_
       exact Exists.intro (n47, y44 / 2, y45 + 1) ⟨H, Nat.lt_succ_self _, WK.at [0] (.cons (.refl _) (.cons (.refl _) (.cons (.refl _) (.cons (.refl _) (.cons (.refl _) (.cons (.refl _) (.cons (.refl _) (.cons (.refl _) (.nil _))))))))) rfl⟩
      ·replace H := cnd_f c48 H
       refine AW.exit ?_
       exact Exists.intro y44 ⟨H, WK.at [0] (.cons (.refl _) (.cons (.refl _) (.cons (.refl _) (.cons (.refl _) (.cons (.refl _) (.cons (.refl _) (.nil _))))))) rfl⟩
     rintro y51 H
     replace H : law05_CronNames_j3 x30 y35 y36 (law05_CronNames_L2 F a1 a2 a3 x30 n38) y51 = some r4 := H
     unfold law05_CronNames_j3 at H
     show AW _ _ _ _ _ _
     refine AW.seq ?_
     obtain ⟨g54, H⟩ := grdc_s H
     refine AW.region ?_
     show AR _ _ _ _ _ [0, 1, 2, 3, 4, 5, 6] _
     refine sS rfl rfl rfl (mv rfl) ?_
     refine sS rfl rfl rfl (opS_nei rfl rfl) ?_
     refine sS rfl rfl rfl (mv rfl) ?_
     refine AR.meet (l := []) 87 (B ((!decide (y35 = 3)) && (decide (y51 % 2 = 1)))) (fun K => ?_) ?_
     ·rcases Bool.eq_false_or_eq_true (!decide (y35 = 3)) with h53 | h53
      ·
       refine gT h53 rfl rfl rfl rfl rfl rfl (AO.ops rfl rfl (mv rfl) ?_)
       refine gT h53 rfl rfl rfl rfl rfl rfl (AO.ops rfl rfl (g_rem rfl rfl (g54 h53)) ?_)
       refine gT h53 rfl rfl rfl rfl rfl rfl (AO.ops rfl rfl (opS_eqi rfl rfl) ?_)
       refine sS rfl rfl rfl (opS_pick_t (av := .v _) rfl h53 rfl) ?_
       exact K _ 3 _ (B_congr (and_t h53)) rfl rfl
      ·
       refine gF h53 rfl rfl rfl rfl rfl ?_
       refine gF h53 rfl rfl rfl rfl rfl ?_
       refine gF h53 rfl rfl rfl rfl rfl ?_
       refine sS rfl rfl rfl (opS_pick_f (av := .v _) rfl h53 rfl) ?_
       exact K _ 3 _ (B_congr (and_f h53)) rfl rfl
     refine AR.nil ?_
     show AW _ _ _ _ _ _
     refine AW.cond rfl (fun c55 => ?_) (fun c55 => ?_)
     ·replace H := cnd_t c55 H
      obtain ⟨g56, H⟩ := grd_s H
      obtain ⟨g57, H⟩ := grd_s H
      obtain ⟨x58, e59, H⟩ := lt_s H
      obtain ⟨g60, H⟩ := grd_s H
      obtain ⟨g61, H⟩ := grd_s H
      obtain ⟨x62, e63, H⟩ := lt_s H
      refine AW.region ?_
      show AR _ _ _ _ _ [0, 1, 2, 3, 4, 5, 6, 7, 8] _
      refine sS rfl rfl rfl (opS_move (av := .vw _ _ _ _) rfl) ?_
      refine sS rfl rfl rfl (mv rfl) ?_
      refine sS rfl rfl rfl (opS_move (av := .vw _ _ _ _) rfl) ?_
      refine sS rfl rfl rfl (mv rfl) ?_
      refine sS rfl rfl rfl (g_indexAddr_row Tryd.underlying23 (by kernel_rfl) rfl rfl g56) ?_
      refine sR rfl rfl rfl (g_load_row (k := 0) Tryd.underlying5 rfl rfl rfl g57 e59) ?_
      refine sS rfl rfl rfl (g_sub8 (a := x58) (b := 32) rfl rfl) ?_
      refine sS rfl rfl rfl (g_indexAddr_row Tryd.underlying23 (by kernel_rfl) rfl rfl g60) ?_
      refine s0 rfl rfl (g_store_row (k := 0) (c := (x58 - 32)) (by kernel_rfl) rfl rfl rfl g61 e63) ?_
      refine AR.nil ?_
      exact Exists.intro x62 ⟨H, WK.at [0] (.cons (.refl _) (.cons (.refl _) (.cons (.refl _) (.cons (.refl _) (.cons (.refl _) (.nil _)))))) rfl⟩
     ·replace H := cnd_f c55 H
      refine AW.skip ?_
      exact Exists.intro y36 ⟨H, WK.at [0] (.cons (.refl _) (.cons (.refl _) (.cons (.refl _) (.cons (.refl _) (.cons (.refl _) (.nil _)))))) rfl⟩
    rintro y64 H
    replace H : law05_CronNames_j2 y35 (law05_CronNames_L2 F a1 a2 a3 x30 n38) y64 = some r4 := H
    unfold law05_CronNames_j2 at H
    show AW _ _ _ _ _ _
    obtain ⟨g66, H⟩ := grd_s H
    refine AW.region ?_
    show AR _ _ _ _ _ [0, 1, 2] _
    refine sS rfl rfl rfl (mv rfl) ?_
    refine sS rfl rfl rfl (g_add rfl rfl g66) ?_
    refine sS rfl rfl rfl (asg rfl) ?_
    refine AR.nil ?_
    exact Exists.intro (n38, y35 + 1, y64) ⟨H, Nat.lt_succ_self _, WK.at [0] (.cons (.refl _) (.cons (.refl _) (.cons (.refl _) (.cons (.refl _) (.cons (.refl _) (.nil _)))))) rfl⟩
   ·replace H := cnd_f c39 H
    refine AW.exit ?_
    exact Exists.intro y36 ⟨H, WK.at [0] (.cons (.refl _) (.cons (.refl _) (.cons (.refl _) (.nil _)))) rfl⟩
  rintro y67 H
  replace H : law05_CronNames_j1 F a1 a2 x30 y67 = some r4 := H
  unfold law05_CronNames_j1 at H
  show AW _ _ _ _ _ _
  refine AW.seq ?_
  obtain ⟨g69, H⟩ := grd_s H
  obtain ⟨g70, H⟩ := grd_s H
  obtain ⟨x71, e72, H⟩ := lt_s H
  obtain ⟨x73, e74, H⟩ := bnd_s H
  refine AW.region ?_
  show AR _ _ _ _ _ [0, 1, 2, 3, 4, 5, 6, 7, 8, 9] _
  refine sS rfl rfl rfl (opS_move (av := .vw _ _ _ _) rfl) ?_
  refine sR rfl rfl rfl (opR_conv_row_str (k := 0) Tryd.underlying23 Tryd.underlying5 Tryd.underlying9 rfl g69 rfl) ?_
  refine sS rfl rfl rfl (g_cat rfl rfl g70 e72) ?_
  refine AR.run rfl rfl (AO.callp rfl en5_lcronnames rfl (w_cron_Parse F x71 x73.1 x73.2.1 x73.2.2.1 x73.2.2.2.1 x73.2.2.2.2.1 x73.2.2.2.2.2.1 x73.2.2.2.2.2.2.1 x73.2.2.2.2.2.2.2.1 x73.2.2.2.2.2.2.2.2.1 x73.2.2.2.2.2.2.2.2.2.1 x73.2.2.2.2.2.2.2.2.2.2 e74) ?_)
  refine sS rfl rfl rfl (opS_move (av := .tup _) rfl) ?_
  refine sS rfl rfl rfl (opS_extract (av := .agg _) rfl rfl) ?_
  refine sS rfl rfl rfl (opS_extract (av := .v _) rfl rfl) ?_
  refine sX rfl rfl rfl (opX_alloc (zs := [.slice none 0 0, .slice none 0 0, .slice none 0 0, .slice none 0 0, .slice none 0 0, .bool false, .bool false, .bool false, .bool false, .bool false]) (by kernel_rfl)) ?_
  rintro _ _ ⟨o75, rfl, rfl⟩
  refine s0 rfl rfl (opR_store_agg (i := 0) (vs := [slE Enc.int x73.1 none, slE Enc.int x73.2.1 none, slE Enc.int x73.2.2.1 none, slE Enc.int x73.2.2.2.1 none, slE Enc.int x73.2.2.2.2.1 none, B x73.2.2.2.2.2.1, B x73.2.2.2.2.2.2.1, B x73.2.2.2.2.2.2.2.1, B x73.2.2.2.2.2.2.2.2.1, B x73.2.2.2.2.2.2.2.2.2.1]) (by kernel_rfl) rfl rfl (by simp [isCell, slE]) rfl (Nat.le_of_ble_eq_true rfl)) ?_
  refine AR.freezeCp 15 0 rfl rfl ?_
  show AR _ _ _ _ _ _ ⟨_, _, [.obj o33 (Enc.byte.fl y67 ++ List.replicate n34 .any)]⟩
  refine sS rfl rfl rfl (asg rfl) ?_
  refine AR.nil ?_
  show AW _ _ _ _ _ _
  refine AW.seq ?_
  obtain ⟨x76, e77, H⟩ := bnd_s H
  refine AW.region ?_
  show AR _ _ _ _ _ [0, 1, 2, 3, 4, 5, 6] _
  refine AR.run rfl rfl (AO.callp rfl en5_lcronnames rfl (w_cron_Parse F ([48, 32, 48, 32, 42, 32, 42, 32, 55] : List UInt8) x76.1 x76.2.1 x76.2.2.1 x76.2.2.2.1 x76.2.2.2.2.1 x76.2.2.2.2.2.1 x76.2.2.2.2.2.2.1 x76.2.2.2.2.2.2.2.1 x76.2.2.2.2.2.2.2.2.1 x76.2.2.2.2.2.2.2.2.2.1 x76.2.2.2.2.2.2.2.2.2.2 e77) ?_)
  refine sS rfl rfl rfl (opS_move (av := .tup _) rfl) ?_
  refine sS rfl rfl rfl (opS_extract (av := .agg _) rfl rfl) ?_
  refine sS rfl rfl rfl (opS_extract (av := .v _) rfl rfl) ?_
  refine sX rfl rfl rfl (opX_alloc (zs := [.slice none 0 0, .slice none 0 0, .slice none 0 0, .slice none 0 0, .slice none 0 0, .bool false, .bool false, .bool false, .bool false, .bool false]) (by kernel_rfl)) ?_
  rintro _ _ ⟨o78, rfl, rfl⟩
  refine s0 rfl rfl (opR_store_agg (i := 0) (vs := [slE Enc.int x76.1 none, slE Enc.int x76.2.1 none, slE Enc.int x76.2.2.1 none, slE Enc.int x76.2.2.2.1 none, slE Enc.int x76.2.2.2.2.1 none, B x76.2.2.2.2.2.1, B x76.2.2.2.2.2.2.1, B x76.2.2.2.2.2.2.2.1, B x76.2.2.2.2.2.2.2.2.1, B x76.2.2.2.2.2.2.2.2.2.1]) (by kernel_rfl) rfl rfl (by simp [isCell, slE]) rfl (Nat.le_of_ble_eq_true rfl)) ?_
  refine AR.freezeCp 17 0 rfl rfl ?_
  show AR _ _ _ _ _ _ ⟨_, _, [.obj o33 (Enc.byte.fl y67 ++ List.replicate n34 .any)]⟩
  refine sS rfl rfl rfl (asg rfl) ?_
  refine AR.nil ?_
  show AW _ _ _ _ _ _
  refine AW.seq ?_
  obtain ⟨g82, H⟩ := grdc_s H
  obtain ⟨x83, e84, H⟩ := lt_s H
  obtain ⟨g87, H⟩ := grdc_s H
  obtain ⟨x88, e89, H⟩ := lt_s H
  obtain ⟨g92, H⟩ := grdc_s H
  obtain ⟨x93, e94, H⟩ := lt_s H
  refine AW.region ?_
  show AR _ _ _ _ _ [0, 1, 2, 3, 4, 5, 6, 7, 8, 9, 10, 11, 12, 13, 14, 15, 16, 17, 18, 19, 20, 21, 22, 23, 24, 25, 26, 27, 28, 29, 30, 31, 32, 33, 34, 35, 36, 37, 38, 39, 40, 41, 42, 43, 44, 45, 46, 47, 48, 49, 50, 51, 52, 53] _
  refine sS rfl rfl rfl (mv rfl) ?_
  refine sS rfl rfl rfl (opS_eqi rfl rfl) ?_
  refine sS rfl rfl rfl (mv rfl) ?_
  refine AR.meet (l := [6, 7, 8, 9, 10, 11, 12, 13, 14, 15, 16, 17, 18, 19, 20, 21, 22, 23, 24, 25, 26, 27, 28, 29, 30, 31, 32, 33, 34, 35, 36, 37, 38, 39, 40, 41, 42, 43, 44, 45, 46, 47, 48, 49, 50, 51, 52, 53]) 112 (B ((decide (x73.2.2.2.2.2.2.2.2.2.2 = 0)) && (decide (x76.2.2.2.2.2.2.2.2.2.2 = 0)))) (fun K => ?_) ?_
  ·rcases Bool.eq_false_or_eq_true (decide (x73.2.2.2.2.2.2.2.2.2.2 = 0)) with h79 | h79
   ·
    refine gT h79 rfl rfl rfl rfl rfl rfl (AO.ops rfl rfl (mv rfl) ?_)
    refine gT h79 rfl rfl rfl rfl rfl rfl (AO.ops rfl rfl (opS_eqi rfl rfl) ?_)
    refine sS rfl rfl rfl (opS_pick_t (av := .v _) rfl h79 rfl) ?_
    exact K _ 2 _ (B_congr (and_t h79)) rfl rfl
   ·
    refine gF h79 rfl rfl rfl rfl rfl ?_
    refine gF h79 rfl rfl rfl rfl rfl ?_
    refine sS rfl rfl rfl (opS_pick_f (av := .v _) rfl h79 rfl) ?_
    exact K _ 2 _ (B_congr (and_f h79)) rfl rfl
  refine sS rfl rfl rfl (mv rfl) ?_
  refine AR.meet (l := [13, 14, 15, 16, 17, 18, 19, 20, 21, 22, 23, 24, 25, 26, 27, 28, 29, 30, 31, 32, 33, 34, 35, 36, 37, 38, 39, 40, 41, 42, 43, 44, 45, 46, 47, 48, 49, 50, 51, 52, 53]) 119 (B (((decide (x73.2.2.2.2.2.2.2.2.2.2 = 0)) && (decide (x76.2.2.2.2.2.2.2.2.2.2 = 0))) && (decide ((x73.2.2.2.1.length : Int) = 1)))) (fun K => ?_) ?_
  ·rcases Bool.eq_false_or_eq_true ((decide (x73.2.2.2.2.2.2.2.2.2.2 = 0)) && (decide (x76.2.2.2.2.2.2.2.2.2.2 = 0))) with h80 | h80
   ·
    refine gT h80 rfl rfl rfl rfl rfl rfl (AO.ops rfl rfl (opS_fieldAddr_cp (n := 0) (by kernel_rfl) rfl (Nat.le_of_ble_eq_true rfl)) ?_)
    refine gT h80 rfl rfl rfl rfl rfl rfl (AO.ops rfl rfl (opS_indexAddr_arr_cp (k := 1) (m := 3) Tryd.underlying25 (by kernel_rfl) rfl rfl rfl (by decide) (Nat.le_of_ble_eq_true rfl)) ?_)
    refine gT h80 rfl rfl rfl rfl rfl rfl (AO.ops rfl rfl (opS_load_cp Tryd.underlying24 rfl rfl) ?_)
    refine gT h80 rfl rfl rfl rfl rfl rfl (AO.ops rfl rfl (opS_len_sl Tryd.underlying24 rfl) ?_)
    refine gT h80 rfl rfl rfl rfl rfl rfl (AO.ops rfl rfl (opS_eqi rfl rfl) ?_)
    refine sS rfl rfl rfl (opS_pick_t (av := .v _) rfl h80 rfl) ?_
    exact K _ 5 _ (B_congr (and_t h80)) rfl rfl
   ·
    refine gF h80 rfl rfl rfl rfl rfl ?_
    refine gF h80 rfl rfl rfl rfl rfl ?_
    refine gF h80 rfl rfl rfl rfl rfl ?_
    refine gF h80 rfl rfl rfl rfl rfl ?_
    refine gF h80 rfl rfl rfl rfl rfl ?_
    refine sS rfl rfl rfl (opS_pick_f (av := .v _) rfl h80 rfl) ?_
    exact K _ 5 _ (B_congr (and_f h80)) rfl rfl
  refine sS rfl rfl rfl (mv rfl) ?_
  refine AR.meet (l := [22, 23, 24, 25, 26, 27, 28, 29, 30, 31, 32, 33, 34, 35, 36, 37, 38, 39, 40, 41, 42, 43, 44, 45, 46, 47, 48, 49, 50, 51, 52, 53]) 128 (B ((((decide (x73.2.2.2.2.2.2.2.2.2.2 = 0)) && (decide (x76.2.2.2.2.2.2.2.2.2.2 = 0))) && (decide ((x73.2.2.2.1.length : Int) = 1))) && (decide (x83 = a1)))) (fun K => ?_) ?_
  ·rcases Bool.eq_false_or_eq_true (((decide (x73.2.2.2.2.2.2.2.2.2.2 = 0)) && (decide (x76.2.2.2.2.2.2.2.2.2.2 = 0))) && (decide ((x73.2.2.2.1.length : Int) = 1))) with h81 | h81
   ·
    refine gT h81 rfl rfl rfl rfl rfl rfl (AO.ops rfl rfl (opS_fieldAddr_cp (n := 0) (by kernel_rfl) rfl (Nat.le_of_ble_eq_true rfl)) ?_)
    refine gT h81 rfl rfl rfl rfl rfl rfl (AO.ops rfl rfl (opS_indexAddr_arr_cp (k := 1) (m := 3) Tryd.underlying25 (by kernel_rfl) rfl rfl rfl (by decide) (Nat.le_of_ble_eq_true rfl)) ?_)
    refine gT h81 rfl rfl rfl rfl rfl rfl (AO.ops rfl rfl (opS_load_cp Tryd.underlying24 rfl rfl) ?_)
    refine gT h81 rfl rfl rfl rfl rfl rfl (AO.ops rfl rfl (g_indexAddr (E := Enc.int) Tryd.underlying24 (by kernel_rfl) rfl rfl (g82 h81) e84) ?_)
    refine gT h81 rfl rfl rfl rfl rfl rfl (AO.ops rfl rfl (opS_load_cp Tryd.underlying3 rfl rfl) ?_)
    refine gT h81 rfl rfl rfl rfl rfl rfl (AO.ops rfl rfl (mv rfl) ?_)
    refine gT h81 rfl rfl rfl rfl rfl rfl (AO.ops rfl rfl (opS_eqi rfl rfl) ?_)
    refine sS rfl rfl rfl (opS_pick_t (av := .v _) rfl h81 rfl) ?_
    exact K _ 7 _ (B_congr (and_t h81)) rfl rfl
   ·
    refine gF h81 rfl rfl rfl rfl rfl ?_
    refine gF h81 rfl rfl rfl rfl rfl ?_
    refine gF h81 rfl rfl rfl rfl rfl ?_
    refine gF h81 rfl rfl rfl rfl rfl ?_
    refine gF h81 rfl rfl rfl rfl rfl ?_
    refine gF h81 rfl rfl rfl rfl rfl ?_
    refine gF h81 rfl rfl rfl rfl rfl ?_
    refine sS rfl rfl rfl (opS_pick_f (av := .v _) rfl h81 rfl) ?_
    exact K _ 7 _ (B_congr (and_f h81)) rfl rfl
  refine sS rfl rfl rfl (mv rfl) ?_
  refine AR.meet (l := [29, 30, 31, 32, 33, 34, 35, 36, 37, 38, 39, 40, 41, 42, 43, 44, 45, 46, 47, 48, 49, 50, 51, 52, 53]) 135 (B (((((decide (x73.2.2.2.2.2.2.2.2.2.2 = 0)) && (decide (x76.2.2.2.2.2.2.2.2.2.2 = 0))) && (decide ((x73.2.2.2.1.length : Int) = 1))) && (decide (x83 = a1))) && (decide ((x73.2.2.2.2.1.length : Int) = 1)))) (fun K => ?_) ?_
  ·rcases Bool.eq_false_or_eq_true ((((decide (x73.2.2.2.2.2.2.2.2.2.2 = 0)) && (decide (x76.2.2.2.2.2.2.2.2.2.2 = 0))) && (decide ((x73.2.2.2.1.length : Int) = 1))) && (decide (x83 = a1))) with h85 | h85
   ·
    refine gT h85 rfl rfl rfl rfl rfl rfl (AO.ops rfl rfl (opS_fieldAddr_cp (n := 0) (by kernel_rfl) rfl (Nat.le_of_ble_eq_true rfl)) ?_)
    refine gT h85 rfl rfl rfl rfl rfl rfl (AO.ops rfl rfl (opS_indexAddr_arr_cp (k := 1) (m := 4) Tryd.underlying25 (by kernel_rfl) rfl rfl rfl (by decide) (Nat.le_of_ble_eq_true rfl)) ?_)
    refine gT h85 rfl rfl rfl rfl rfl rfl (AO.ops rfl rfl (opS_load_cp Tryd.underlying24 rfl rfl) ?_)
    refine gT h85 rfl rfl rfl rfl rfl rfl (AO.ops rfl rfl (opS_len_sl Tryd.underlying24 rfl) ?_)
    refine gT h85 rfl rfl rfl rfl rfl rfl (AO.ops rfl rfl (opS_eqi rfl rfl) ?_)
    refine sS rfl rfl rfl (opS_pick_t (av := .v _) rfl h85 rfl) ?_
    exact K _ 5 _ (B_congr (and_t h85)) rfl rfl
   ·
    refine gF h85 rfl rfl rfl rfl rfl ?_
    refine gF h85 rfl rfl rfl rfl rfl ?_
    refine gF h85 rfl rfl rfl rfl rfl ?_
    refine gF h85 rfl rfl rfl rfl rfl ?_
    refine gF h85 rfl rfl rfl rfl rfl ?_
    refine sS rfl rfl rfl (opS_pick_f (av := .v _) rfl h85 rfl) ?_
    exact K _ 5 _ (B_congr (and_f h85)) rfl rfl
  refine sS rfl rfl rfl (mv rfl) ?_
  refine AR.meet (l := [38, 39, 40, 41, 42, 43, 44, 45, 46, 47, 48, 49, 50, 51, 52, 53]) 144 (B ((((((decide (x73.2.2.2.2.2.2.2.2.2.2 = 0)) && (decide (x76.2.2.2.2.2.2.2.2.2.2 = 0))) && (decide ((x73.2.2.2.1.length : Int) = 1))) && (decide (x83 = a1))) && (decide ((x73.2.2.2.2.1.length : Int) = 1))) && (decide (x88 = a2)))) (fun K => ?_) ?_
  ·rcases Bool.eq_false_or_eq_true (((((decide (x73.2.2.2.2.2.2.2.2.2.2 = 0)) && (decide (x76.2.2.2.2.2.2.2.2.2.2 = 0))) && (decide ((x73.2.2.2.1.length : Int) = 1))) && (decide (x83 = a1))) && (decide ((x73.2.2.2.2.1.length : Int) = 1))) with h86 | h86
   ·
    refine gT h86 rfl rfl rfl rfl rfl rfl (AO.ops rfl rfl (opS_fieldAddr_cp (n := 0) (by kernel_rfl) rfl (Nat.le_of_ble_eq_true rfl)) ?_)
    refine gT h86 rfl rfl rfl rfl rfl rfl (AO.ops rfl rfl (opS_indexAddr_arr_cp (k := 1) (m := 4) Tryd.underlying25 (by kernel_rfl) rfl rfl rfl (by decide) (Nat.le_of_ble_eq_true rfl)) ?_)
    refine gT h86 rfl rfl rfl rfl rfl rfl (AO.ops rfl rfl (opS_load_cp Tryd.underlying24 rfl rfl) ?_)
    refine gT h86 rfl rfl rfl rfl rfl rfl (AO.ops rfl rfl (g_indexAddr (E := Enc.int) Tryd.underlying24 (by kernel_rfl) rfl rfl (g87 h86) e89) ?_)
    refine gT h86 rfl rfl rfl rfl rfl rfl (AO.ops rfl rfl (opS_load_cp Tryd.underlying3 rfl rfl) ?_)
    refine gT h86 rfl rfl rfl rfl rfl rfl (AO.ops rfl rfl (mv rfl) ?_)
    refine gT h86 rfl rfl rfl rfl rfl rfl (AO.ops rfl rfl (opS_eqi rfl rfl) ?_)
    refine sS rfl rfl rfl (opS_pick_t (av := .v _) rfl h86 rfl) ?_
    exact K _ 7 _ (B_congr (and_t h86)) rfl rfl
   ·
    refine gF h86 rfl rfl rfl rfl rfl ?_
    refine gF h86 rfl rfl rfl rfl rfl ?_
    refine gF h86 rfl rfl rfl rfl rfl ?_
    refine gF h86 rfl rfl rfl rfl rfl ?_
    refine gF h86 rfl rfl rfl rfl rfl ?_
    refine gF h86 rfl rfl rfl rfl rfl ?_
    refine gF h86 rfl rfl rfl rfl rfl ?_
    refine sS rfl rfl rfl (opS_pick_f (av := .v _) rfl h86 rfl) ?_
    exact K _ 7 _ (B_congr (and_f h86)) rfl rfl
  refine sS rfl rfl rfl (mv rfl) ?_
  refine AR.meet (l := [45, 46, 47, 48, 49, 50, 51, 52, 53]) 151 (B (((((((decide (x73.2.2.2.2.2.2.2.2.2.2 = 0)) && (decide (x76.2.2.2.2.2.2.2.2.2.2 = 0))) && (decide ((x73.2.2.2.1.length : Int) = 1))) && (decide (x83 = a1))) && (decide ((x73.2.2.2.2.1.length : Int) = 1))) && (decide (x88 = a2))) && (decide ((x76.2.2.2.2.1.length : Int) = 1)))) (fun K => ?_) ?_
  ·rcases Bool.eq_false_or_eq_true ((((((decide (x73.2.2.2.2.2.2.2.2.2.2 = 0)) && (decide (x76.2.2.2.2.2.2.2.2.2.2 = 0))) && (decide ((x73.2.2.2.1.length : Int) = 1))) && (decide (x83 = a1))) && (decide ((x73.2.2.2.2.1.length : Int) = 1))) && (decide (x88 = a2))) with h90 | h90
   ·
    refine gT h90 rfl rfl rfl rfl rfl rfl (AO.ops rfl rfl (opS_fieldAddr_cp (n := 0) (by kernel_rfl) rfl (Nat.le_of_ble_eq_true rfl)) ?_)
    refine gT h90 rfl rfl rfl rfl rfl rfl (AO.ops rfl rfl (opS_indexAddr_arr_cp (k := 1) (m := 4) Tryd.underlying25 (by kernel_rfl) rfl rfl rfl (by decide) (Nat.le_of_ble_eq_true rfl)) ?_)
    refine gT h90 rfl rfl rfl rfl rfl rfl (AO.ops rfl rfl (opS_load_cp Tryd.underlying24 rfl rfl) ?_)
    refine gT h90 rfl rfl rfl rfl rfl rfl (AO.ops rfl rfl (opS_len_sl Tryd.underlying24 rfl) ?_)
    refine gT h90 rfl rfl rfl rfl rfl rfl (AO.ops rfl rfl (opS_eqi rfl rfl) ?_)
    refine sS rfl rfl rfl (opS_pick_t (av := .v _) rfl h90 rfl) ?_
    exact K _ 5 _ (B_congr (and_t h90)) rfl rfl
   ·
    refine gF h90 rfl rfl rfl rfl rfl ?_
    refine gF h90 rfl rfl rfl rfl rfl ?_
    refine gF h90 rfl rfl rfl rfl rfl ?_
    refine gF h90 rfl rfl rfl rfl rfl ?_
    refine gF h90 rfl rfl rfl rfl rfl ?_
    refine sS rfl rfl rfl (opS_pick_f (av := .v _) rfl h90 rfl) ?_
    exact K _ 5 _ (B_congr (and_f h90)) rfl rfl
  refine sS rfl rfl rfl (mv rfl) ?_
  refine AR.meet (l := [53]) 159 (B ((((((((decide (x73.2.2.2.2.2.2.2.2.2.2 = 0)) && (decide (x76.2.2.2.2.2.2.2.2.2.2 = 0))) && (decide ((x73.2.2.2.1.length : Int) = 1))) && (decide (x83 = a1))) && (decide ((x73.2.2.2.2.1.length : Int) = 1))) && (decide (x88 = a2))) && (decide ((x76.2.2.2.2.1.length : Int) = 1))) && (decide (x93 = 0)))) (fun K => ?_) ?_
  ·rcases Bool.eq_false_or_eq_true (((((((decide (x73.2.2.2.2.2.2.2.2.2.2 = 0)) && (decide (x76.2.2.2.2.2.2.2.2.2.2 = 0))) && (decide ((x73.2.2.2.1.length : Int) = 1))) && (decide (x83 = a1))) && (decide ((x73.2.2.2.2.1.length : Int) = 1))) && (decide (x88 = a2))) && (decide ((x76.2.2.2.2.1.length : Int) = 1))) with h91 | h91
   ·
    refine gT h91 rfl rfl rfl rfl rfl rfl (AO.ops rfl rfl (opS_fieldAddr_cp (n := 0) (by kernel_rfl) rfl (Nat.le_of_ble_eq_true rfl)) ?_)
    refine gT h91 rfl rfl rfl rfl rfl rfl (AO.ops rfl rfl (opS_indexAddr_arr_cp (k := 1) (m := 4) Tryd.underlying25 (by kernel_rfl) rfl rfl rfl (by decide) (Nat.le_of_ble_eq_true rfl)) ?_)
    refine gT h91 rfl rfl rfl rfl rfl rfl (AO.ops rfl rfl (opS_load_cp Tryd.underlying24 rfl rfl) ?_)
    refine gT h91 rfl rfl rfl rfl rfl rfl (AO.ops rfl rfl (g_indexAddr (E := Enc.int) Tryd.underlying24 (by kernel_rfl) rfl rfl (g92 h91) e94) ?_)
    refine gT h91 rfl rfl rfl rfl rfl rfl (AO.ops rfl rfl (opS_load_cp Tryd.underlying3 rfl rfl) ?_)
    refine gT h91 rfl rfl rfl rfl rfl rfl (AO.ops rfl rfl (opS_eqi rfl rfl) ?_)
    refine sS rfl rfl rfl (opS_pick_t (av := .v _) rfl h91 rfl) ?_
    exact K _ 6 _ (B_congr (and_t h91)) rfl rfl
   ·
    refine gF h91 rfl rfl rfl rfl rfl ?_
    refine gF h91 rfl rfl rfl rfl rfl ?_
    refine gF h91 rfl rfl rfl rfl rfl ?_
    refine gF h91 rfl rfl rfl rfl rfl ?_
    refine gF h91 rfl rfl rfl rfl rfl ?_
    refine gF h91 rfl rfl rfl rfl rfl ?_
    refine sS rfl rfl rfl (opS_pick_f (av := .v _) rfl h91 rfl) ?_
    exact K _ 6 _ (B_congr (and_f h91)) rfl rfl
  refine sS rfl rfl rfl (asg rfl) ?_
  refine AR.nil ?_
  show AW _ _ _ _ _ _
  refine AW.ret ?_
  obtain rfl := Option.some.inj H
  exact And.intro rfl (Exists.intro _ (Exists.intro _ ⟨ResV.oneW rfl (.refl _), Sub.at [] rfl, rfl, rfl⟩))
end Go.Proofs.YtpbfajkbkomfcaaDoor
