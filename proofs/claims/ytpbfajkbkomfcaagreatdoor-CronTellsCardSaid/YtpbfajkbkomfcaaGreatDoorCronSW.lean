/-
  The document's answers about days: what is run is what the plain functions say. Printed by a program of ours.
-/
import Derived.Test.YtpbfajkbkomfcaaGreatDoorAvE
import Derived.Test.YtpbfajkbkomfcaaGreatDoorPvLib
import Derived.Test.YtpbfajkbkomfcaaGreatDoorP11Split
import Derived.Test.YtpbfajkbkomfcaaGreatDoorAvStill
import Derived.Test.YtpbfajkbkomfcaaGreatDoorChecked
import Derived.Test.YtpbfajkbkomfcaaGreatDoorCronQW
import Derived.Test.YtpbfajkbkomfcaaGreatDoorCronSP
set_option linter.unusedVariables false
set_option linter.unusedSimpArgs false
namespace Go.Proofs.YtpbfajkbkomfcaaGreatDoor
open Go.RowKit Go.Av Go.Pv
theorem en17_crons : ∀ (args : Array Value) (w : World), (callFunc 17 args).run Tryz.prog w = .ok (.enter 17 args) w := fun _ _ => by kernel_rfl
theorem en24_crons : ∀ (args : Array Value) (w : World), (callFunc 24 args).run Tryz.prog w = .ok (.enter 24 args) w := fun _ _ => by kernel_rfl
theorem en26_crons : ∀ (args : Array Value) (w : World), (callFunc 26 args).run Tryz.prog w = .ok (.enter 26 args) w := fun _ _ => by kernel_rfl
theorem en35_crons : ∀ (args : Array Value) (w : World), (callFunc 35 args).run Tryz.prog w = .ok (.enter 35 args) w := fun _ _ => by kernel_rfl
theorem en36_crons : ∀ (args : Array Value) (w : World), (callFunc 36 args).run Tryz.prog w = .ok (.enter 36 args) w := fun _ _ => by kernel_rfl
theorem en44_crons : ∀ (args : Array Value) (w : World), (callFunc 44 args).run Tryz.prog w = .ok (.enter 44 args) w := fun _ _ => by kernel_rfl
theorem en45_crons : ∀ (args : Array Value) (w : World), (callFunc 45 args).run Tryz.prog w = .ok (.enter 45 args) w := fun _ _ => by kernel_rfl
theorem en46_crons : ∀ (args : Array Value) (w : World), (callFunc 46 args).run Tryz.prog w = .ok (.enter 46 args) w := fun _ _ => by kernel_rfl
theorem en47_crons : ∀ (args : Array Value) (w : World), (callFunc 47 args).run Tryz.prog w = .ok (.enter 47 args) w := fun _ _ => by kernel_rfl
theorem en59_crons : ∀ (args : Array Value) (w : World), (callFunc 59 args).run Tryz.prog w = .ok (.enter 59 args) w := fun _ _ => by kernel_rfl
theorem en60_crons : ∀ (args : Array Value) (w : World), (callFunc 60 args).run Tryz.prog w = .ok (.enter 60 args) w := fun _ _ => by kernel_rfl
theorem en74_crons : ∀ (args : Array Value) (w : World), (callFunc 74 args).run Tryz.prog w = .ok (.enter 74 args) w := fun _ _ => by kernel_rfl
set_option maxRecDepth 100000 in
set_option maxHeartbeats 1000000 in
theorem w_ref05_May (F : Nat) (a1 : List Int) (a2 : List Int) (a3 : List Int) (a4 : List Int) (a5 : List Int) (a6 : Bool) (a7 : Bool) (a8 : Bool) (a9 : Bool) (a10 : Bool) (r11 : Bool) (H : ref05_May F a1 a2 a3 a4 a5 a6 a7 a8 a9 a10 = some r11) : ACalls Tryz.prog 24 [.agg [slE Enc.int a1 none, slE Enc.int a2 none, slE Enc.int a3 none, slE Enc.int a4 none, slE Enc.int a5 none, B a6, B a7, B a8, B a9, B a10]] [] (Ret (B r11) []) := by
  unfold ref05_May at H
  refine ACalls.of_body Tryz.func24 rfl rfl ?_
  show AW _ _ 72 _ _ _
  refine AW.seq ?_
  refine AW.region ?_
  show AR _ _ _ _ _ [0, 1] _
  refine sR rfl rfl rfl (opR_boxCp rfl (.inr ⟨_, rfl⟩)) ?_
  refine sS rfl rfl rfl (asg rfl) ?_
  refine AR.nil ?_
  show AW _ _ _ _ _ _
  refine AW.cut (X := Unit) (fun _ => ⟨[], [], []⟩) (fun _ => ref05_May_j1 = some r11) ?_ ?_
  ·
    refine AW.seq ?_
    refine AW.region ?_
    show AR _ _ _ _ _ [0] _
    refine sS rfl rfl rfl (asg rfl) ?_
    refine AR.nil ?_
    show AW _ _ _ _ _ _
    refine AW.block ?_
    refine AW.loop (X := Nat × Int) (fun (n14, y12) => ⟨[(1, .cp [slE Enc.int a1 none, slE Enc.int a2 none, slE Enc.int a3 none, slE Enc.int a4 none, slE Enc.int a5 none, B a6, B a7, B a8, B a9, B a10]), (3, i64 y12)], [], []⟩) (fun (n14, y12) => ref05_May_L2 F a1 a2 a3 a4 a5 a6 a7 a8 a9 a10 n14 y12 = some r11) (fun (n14, y12) => n14) (F, 0) H (WK.at [] (.cons (.refl _) (.cons (.refl _) (.nil _))) rfl) ?_
    rintro ⟨n14, y12⟩ H
    obtain ⟨n14, rfl, H⟩ := loop_s H
    replace H : ref05_May_B2 F a1 a2 a3 a4 a5 a6 a7 a8 a9 a10 (ref05_May_L2 F a1 a2 a3 a4 a5 a6 a7 a8 a9 a10 n14) y12 = some r11 := H
    unfold ref05_May_B2 at H
    show AW _ _ _ _ _ _
    refine AW.seq ?_
    refine AW.seq ?_
    refine AW.region ?_
    show AR _ _ _ _ _ [0, 1] _
    refine sS rfl rfl rfl (mv rfl) ?_
    refine sS rfl rfl rfl (opS_lt rfl rfl) ?_
    refine AR.nil ?_
    show AW _ _ _ _ _ _
    refine AW.cond rfl (fun c15 => ?_) (fun c15 => ?_)
    · replace H := cnd_t c15 H
      refine AW.skip ?_
      show AW _ _ _ _ _ _
      refine AW.cut (X := Unit) (fun _ => ⟨[(1, .cp [slE Enc.int a1 none, slE Enc.int a2 none, slE Enc.int a3 none, slE Enc.int a4 none, slE Enc.int a5 none, B a6, B a7, B a8, B a9, B a10]), (3, i64 y12)], [], []⟩) (fun _ => ref05_May_j2 y12 (ref05_May_L2 F a1 a2 a3 a4 a5 a6 a7 a8 a9 a10 n14) = some r11) ?_ ?_
      ·
        refine AW.block ?_
        refine AW.seq ?_
        obtain ⟨g16, H⟩ := grd_s H
        obtain ⟨x17, e18, H⟩ := lt_s H
        refine AW.region ?_
        show AR _ _ _ _ _ [0, 1, 2, 3, 4] _
        refine sS rfl rfl rfl (mv rfl) ?_
        refine sS rfl rfl rfl (opS_fieldAddr_cp (n := 0) (by kernel_rfl) rfl (Nat.le_of_ble_eq_true rfl)) ?_
        refine sS rfl rfl rfl (opS_indexAddr_arrv_cp (E := (Enc.sl Enc.int)) (l := ([a1, a2, a3, a4, a5] : List (List Int))) (post := [B a6, B a7, B a8, B a9, B a10]) rfl Tryz.underlying24 (by kernel_rfl) rfl rfl rfl g16 e18 rfl) ?_
        refine sS rfl rfl rfl (opS_load_cp Tryz.underlying23 rfl rfl) ?_
        refine sS rfl rfl rfl (opS_assign (av := slE _ _ _) rfl) ?_
        refine AR.nil ?_
        show AW _ _ _ _ _ _
        refine AW.cut (X := Unit) (fun _ => ⟨[(1, .cp [slE Enc.int a1 none, slE Enc.int a2 none, slE Enc.int a3 none, slE Enc.int a4 none, slE Enc.int a5 none, B a6, B a7, B a8, B a9, B a10]), (3, i64 y12), (4, slE Enc.int x17 none)], [], []⟩) (fun _ => ref05_May_j3 F a6 a7 a8 a9 a10 y12 x17 (ref05_May_L2 F a1 a2 a3 a4 a5 a6 a7 a8 a9 a10 n14) = some r11) ?_ ?_
        ·
          refine AW.seq ?_
          refine AW.region ?_
          show AR _ _ _ _ _ [0] _
          refine sS rfl rfl rfl (asg rfl) ?_
          refine AR.nil ?_
          show AW _ _ _ _ _ _
          refine AW.block ?_
          refine AW.loop (X := Nat × Int) (fun (n21, y19) => ⟨[(1, .cp [slE Enc.int a1 none, slE Enc.int a2 none, slE Enc.int a3 none, slE Enc.int a4 none, slE Enc.int a5 none, B a6, B a7, B a8, B a9, B a10]), (3, i64 y12), (4, slE Enc.int x17 none), (5, i64 y19)], [], []⟩) (fun (n21, y19) => ref05_May_L1 F a6 a7 a8 a9 a10 y12 x17 (ref05_May_L2 F a1 a2 a3 a4 a5 a6 a7 a8 a9 a10 n14) n21 y19 = some r11) (fun (n21, y19) => n21) (F, 0) H (WK.at [] (.cons (.refl _) (.cons (.refl _) (.cons (.refl _) (.cons (.refl _) (.nil _))))) rfl) ?_
          rintro ⟨n21, y19⟩ H
          obtain ⟨n21, rfl, H⟩ := loop_s H
          replace H : ref05_May_B1 F a6 a7 a8 a9 a10 y12 x17 (ref05_May_L2 F a1 a2 a3 a4 a5 a6 a7 a8 a9 a10 n14) (ref05_May_L1 F a6 a7 a8 a9 a10 y12 x17 (ref05_May_L2 F a1 a2 a3 a4 a5 a6 a7 a8 a9 a10 n14) n21) y19 = some r11 := H
          unfold ref05_May_B1 at H
          show AW _ _ _ _ _ _
          refine AW.seq ?_
          refine AW.seq ?_
          refine AW.region ?_
          show AR _ _ _ _ _ [0, 1, 2, 3] _
          refine sS rfl rfl rfl (mv rfl) ?_
          refine sS rfl rfl rfl (opS_move (av := slE _ _ _) rfl) ?_
          refine sS rfl rfl rfl (opS_len_sl Tryz.underlying23 rfl) ?_
          refine sS rfl rfl rfl (opS_lt rfl rfl) ?_
          refine AR.nil ?_
          show AW _ _ _ _ _ _
          refine AW.cond rfl (fun c22 => ?_) (fun c22 => ?_)
          · replace H := cnd_t c22 H
            refine AW.skip ?_
            show AW _ _ _ _ _ _
            refine AW.seq ?_
            refine AW.block ?_
            refine AW.seq ?_
            obtain ⟨g23, H⟩ := grd_s H
            obtain ⟨x24, e25, H⟩ := lt_s H
            obtain ⟨x26, e27, H⟩ := bnd_s H
            obtain ⟨g29, H⟩ := grdc_s H
            obtain ⟨x30, e31, H⟩ := lt_s H
            obtain ⟨x32, e33, H⟩ := bndc_s H
            obtain ⟨g36, H⟩ := grdc_s H
            obtain ⟨x37, e38, H⟩ := lt_s H
            obtain ⟨g39, H⟩ := grdc_s H
            obtain ⟨g40, H⟩ := grdc_s H
            obtain ⟨x41, e42, H⟩ := lt_s H
            refine AW.region_draw (by kernel_rfl) ?_
            show AI _ _ _ _ 32 (Array.replicate 32 false) _
            refine AI.take (i := 0) rfl rfl (by kernel_rfl) (by kernel_rfl) (by kernel_rfl) (fun _ _ h => h) (opS_move (av := slE _ _ _) rfl) ?_
            show AI _ _ _ _ _ #[true, false, false, false, false, false, false, false, false, false, false, false, false, false, false, false, false, false, false, false, false, false, false, false, false, false, false, false, false, false, false, false] _
            refine AI.take (i := 1) rfl rfl (by kernel_rfl) (by kernel_rfl) (by kernel_rfl) (fun _ _ h => h) (mv rfl) ?_
            show AI _ _ _ _ _ #[true, true, false, false, false, false, false, false, false, false, false, false, false, false, false, false, false, false, false, false, false, false, false, false, false, false, false, false, false, false, false, false] _
            refine AI.take (i := 2) rfl rfl (by kernel_rfl) (by kernel_rfl) (by kernel_rfl) (fun _ _ h => h) (g_indexAddr (E := Enc.int) Tryz.underlying23 (by kernel_rfl) rfl rfl g23 e25) ?_
            show AI _ _ _ _ _ #[true, true, true, false, false, false, false, false, false, false, false, false, false, false, false, false, false, false, false, false, false, false, false, false, false, false, false, false, false, false, false, false] _
            refine AI.take (i := 3) rfl rfl (by kernel_rfl) (by kernel_rfl) (by kernel_rfl) (fun _ _ h => h) (opS_load_cp Tryz.underlying3 rfl rfl) ?_
            show AI _ _ _ _ _ #[true, true, true, true, false, false, false, false, false, false, false, false, false, false, false, false, false, false, false, false, false, false, false, false, false, false, false, false, false, false, false, false] _
            refine AI.take (i := 4) rfl rfl (by kernel_rfl) (by kernel_rfl) (by kernel_rfl) (fun _ _ h => h) (mv rfl) ?_
            show AI _ _ _ _ _ #[true, true, true, true, true, false, false, false, false, false, false, false, false, false, false, false, false, false, false, false, false, false, false, false, false, false, false, false, false, false, false, false] _
            refine AI.one (i := 5) (by kernel_rfl) rfl rfl ?_
            refine AIO.callp rfl en35_crons rfl (w_ref05_Low F y12 x26 e27) ?_
            show AI _ _ _ _ _ #[true, true, true, true, true, true, false, false, false, false, false, false, false, false, false, false, false, false, false, false, false, false, false, false, false, false, false, false, false, false, false, false] _
            refine AI.take (i := 6) rfl rfl (by kernel_rfl) (by kernel_rfl) (by kernel_rfl) (fun _ _ h => h) (opS_lt rfl rfl) ?_
            show AI _ _ _ _ _ #[true, true, true, true, true, true, true, false, false, false, false, false, false, false, false, false, false, false, false, false, false, false, false, false, false, false, false, false, false, false, false, false] _
            refine AI.take (i := 7) rfl rfl (by kernel_rfl) (by kernel_rfl) (by kernel_rfl) (fun _ _ h => h) (mv rfl) ?_
            show AI _ _ _ _ _ #[true, true, true, true, true, true, true, true, false, false, false, false, false, false, false, false, false, false, false, false, false, false, false, false, false, false, false, false, false, false, false, false] _
            refine AI.meet 16 #[true, true, true, true, true, true, true, true, true, true, true, true, true, true, true, true, false, false, false, false, false, false, false, false, false, false, false, false, false, false, false, false] 35 (B ((decide (x24 < x26)) || (decide (x32 < x30)))) (fun K15 => ?_) ?_
            · refine AI.gsplit (t := 27) rfl (fun h28 => ?_) (fun h28 => ?_)
              ·
                refine AI.gskip (i := 8) rfl rfl (by kernel_rfl) (by kernel_rfl) (by kernel_rfl) rfl rfl rfl (fun _ _ h => h) h28 ?_
                show AI _ _ _ _ _ #[true, true, true, true, true, true, true, true, true, false, false, false, false, false, false, false, false, false, false, false, false, false, false, false, false, false, false, false, false, false, false, false] _
                refine AI.gskip (i := 9) rfl rfl (by kernel_rfl) (by kernel_rfl) (by kernel_rfl) rfl rfl rfl (fun _ _ h => h) h28 ?_
                show AI _ _ _ _ _ #[true, true, true, true, true, true, true, true, true, true, false, false, false, false, false, false, false, false, false, false, false, false, false, false, false, false, false, false, false, false, false, false] _
                refine AI.gskip (i := 10) rfl rfl (by kernel_rfl) (by kernel_rfl) (by kernel_rfl) rfl rfl rfl (fun _ _ h => h) h28 ?_
                show AI _ _ _ _ _ #[true, true, true, true, true, true, true, true, true, true, true, false, false, false, false, false, false, false, false, false, false, false, false, false, false, false, false, false, false, false, false, false] _
                refine AI.gskip (i := 11) rfl rfl (by kernel_rfl) (by kernel_rfl) (by kernel_rfl) rfl rfl rfl (fun _ _ h => h) h28 ?_
                show AI _ _ _ _ _ #[true, true, true, true, true, true, true, true, true, true, true, true, false, false, false, false, false, false, false, false, false, false, false, false, false, false, false, false, false, false, false, false] _
                refine AI.gskip (i := 12) rfl rfl (by kernel_rfl) (by kernel_rfl) (by kernel_rfl) rfl rfl rfl (fun _ _ h => h) h28 ?_
                show AI _ _ _ _ _ #[true, true, true, true, true, true, true, true, true, true, true, true, true, false, false, false, false, false, false, false, false, false, false, false, false, false, false, false, false, false, false, false] _
                refine AI.gone_skip (i := 13) (by kernel_rfl) rfl rfl rfl rfl rfl rfl rfl h28 ?_
                show AI _ _ _ _ _ #[true, true, true, true, true, true, true, true, true, true, true, true, true, true, false, false, false, false, false, false, false, false, false, false, false, false, false, false, false, false, false, false] _
                refine AI.gskip (i := 14) rfl rfl (by kernel_rfl) (by kernel_rfl) (by kernel_rfl) rfl rfl rfl (fun _ _ h => h) h28 ?_
                show AI _ _ _ _ _ #[true, true, true, true, true, true, true, true, true, true, true, true, true, true, true, false, false, false, false, false, false, false, false, false, false, false, false, false, false, false, false, false] _
                refine AI.take (i := 15) rfl rfl (by kernel_rfl) (by kernel_rfl) (by kernel_rfl) (fun _ _ h => h) (OpS.eq (av' := B ((decide (x24 < x26)) || (decide (x32 < x30)))) (opS_pick_t (av := .v _) rfl h28 rfl) (B_congr (or_t h28))) ?_
                show AI _ _ _ _ _ #[true, true, true, true, true, true, true, true, true, true, true, true, true, true, true, true, false, false, false, false, false, false, false, false, false, false, false, false, false, false, false, false] _
                exact K15 _ 7 rfl rfl
              ·
                refine AI.gtake (i := 8) rfl rfl (by kernel_rfl) (by kernel_rfl) (by kernel_rfl) rfl rfl rfl (fun _ _ h => h) h28 (opS_move (av := slE _ _ _) rfl) ?_
                show AI _ _ _ _ _ #[true, true, true, true, true, true, true, true, true, false, false, false, false, false, false, false, false, false, false, false, false, false, false, false, false, false, false, false, false, false, false, false] _
                refine AI.gtake (i := 9) rfl rfl (by kernel_rfl) (by kernel_rfl) (by kernel_rfl) rfl rfl rfl (fun _ _ h => h) h28 (mv rfl) ?_
                show AI _ _ _ _ _ #[true, true, true, true, true, true, true, true, true, true, false, false, false, false, false, false, false, false, false, false, false, false, false, false, false, false, false, false, false, false, false, false] _
                refine AI.gtake (i := 10) rfl rfl (by kernel_rfl) (by kernel_rfl) (by kernel_rfl) rfl rfl rfl (fun _ _ h => h) h28 (g_indexAddr (E := Enc.int) Tryz.underlying23 (by kernel_rfl) rfl rfl (g29 (nf h28)) e31) ?_
                show AI _ _ _ _ _ #[true, true, true, true, true, true, true, true, true, true, true, false, false, false, false, false, false, false, false, false, false, false, false, false, false, false, false, false, false, false, false, false] _
                refine AI.gtake (i := 11) rfl rfl (by kernel_rfl) (by kernel_rfl) (by kernel_rfl) rfl rfl rfl (fun _ _ h => h) h28 (opS_load_cp Tryz.underlying3 rfl rfl) ?_
                show AI _ _ _ _ _ #[true, true, true, true, true, true, true, true, true, true, true, true, false, false, false, false, false, false, false, false, false, false, false, false, false, false, false, false, false, false, false, false] _
                refine AI.gtake (i := 12) rfl rfl (by kernel_rfl) (by kernel_rfl) (by kernel_rfl) rfl rfl rfl (fun _ _ h => h) h28 (mv rfl) ?_
                show AI _ _ _ _ _ #[true, true, true, true, true, true, true, true, true, true, true, true, true, false, false, false, false, false, false, false, false, false, false, false, false, false, false, false, false, false, false, false] _
                refine AI.gone (i := 13) (by kernel_rfl) rfl rfl rfl rfl rfl h28 ?_
                refine AIO.callp rfl en36_crons rfl (w_ref05_High F y12 x32 (e33 (nf h28))) ?_
                show AI _ _ _ _ _ #[true, true, true, true, true, true, true, true, true, true, true, true, true, true, false, false, false, false, false, false, false, false, false, false, false, false, false, false, false, false, false, false] _
                refine AI.gtake (i := 14) rfl rfl (by kernel_rfl) (by kernel_rfl) (by kernel_rfl) rfl rfl rfl (fun _ _ h => h) h28 (opS_gt rfl rfl) ?_
                show AI _ _ _ _ _ #[true, true, true, true, true, true, true, true, true, true, true, true, true, true, true, false, false, false, false, false, false, false, false, false, false, false, false, false, false, false, false, false] _
                refine AI.take (i := 15) rfl rfl (by kernel_rfl) (by kernel_rfl) (by kernel_rfl) (fun _ _ h => h) (OpS.eq (av' := B ((decide (x24 < x26)) || (decide (x32 < x30)))) (opS_pick_f (av := .v _) rfl h28 rfl) (B_congr (or_f h28))) ?_
                show AI _ _ _ _ _ #[true, true, true, true, true, true, true, true, true, true, true, true, true, true, true, true, false, false, false, false, false, false, false, false, false, false, false, false, false, false, false, false] _
                exact K15 _ 7 rfl rfl
            refine AI.take (i := 16) rfl rfl (by kernel_rfl) (by kernel_rfl) (by kernel_rfl) (fun _ _ h => h) (mv rfl) ?_
            show AI _ _ _ _ _ #[true, true, true, true, true, true, true, true, true, true, true, true, true, true, true, true, true, false, false, false, false, false, false, false, false, false, false, false, false, false, false, false] _
            refine AI.meet 0 #[true, true, true, true, true, true, true, true, true, true, true, true, true, true, true, true, true, true, true, true, true, true, true, true, true, true, true, true, true, true, true, true] 51 (B (((decide (x24 < x26)) || (decide (x32 < x30))) || ((decide (0 < y19)) && (decide (x37 ≤ x41))))) (fun K31 => ?_) ?_
            · refine AI.gsplit (t := 36) rfl (fun h34 => ?_) (fun h34 => ?_)
              ·
                refine AI.gskip (i := 17) rfl rfl (by kernel_rfl) (by kernel_rfl) (by kernel_rfl) rfl rfl rfl (fun _ _ h => h) h34 ?_
                show AI _ _ _ _ _ #[true, true, true, true, true, true, true, true, true, true, true, true, true, true, true, true, true, true, false, false, false, false, false, false, false, false, false, false, false, false, false, false] _
                refine AI.gskip (i := 18) rfl rfl (by kernel_rfl) (by kernel_rfl) (by kernel_rfl) rfl rfl rfl (fun _ _ h => h) h34 ?_
                show AI _ _ _ _ _ #[true, true, true, true, true, true, true, true, true, true, true, true, true, true, true, true, true, true, true, false, false, false, false, false, false, false, false, false, false, false, false, false] _
                refine AI.gskip (i := 19) rfl rfl (by kernel_rfl) (by kernel_rfl) (by kernel_rfl) rfl rfl rfl (fun _ _ h => h) h34 ?_
                show AI _ _ _ _ _ #[true, true, true, true, true, true, true, true, true, true, true, true, true, true, true, true, true, true, true, true, false, false, false, false, false, false, false, false, false, false, false, false] _
                refine AI.gskip_u (i := 20) rfl rfl (by kernel_rfl) (by kernel_rfl) (by kernel_rfl) rfl rfl rfl (fun _ _ h => h) ?_
                show AI _ _ _ _ _ #[true, true, true, true, true, true, true, true, true, true, true, true, true, true, true, true, true, true, true, true, true, false, false, false, false, false, false, false, false, false, false, false] _
                refine AI.gskip_u (i := 21) rfl rfl (by kernel_rfl) (by kernel_rfl) (by kernel_rfl) rfl rfl rfl (fun _ _ h => h) ?_
                show AI _ _ _ _ _ #[true, true, true, true, true, true, true, true, true, true, true, true, true, true, true, true, true, true, true, true, true, true, false, false, false, false, false, false, false, false, false, false] _
                refine AI.gskip_u (i := 22) rfl rfl (by kernel_rfl) (by kernel_rfl) (by kernel_rfl) rfl rfl rfl (fun _ _ h => h) ?_
                show AI _ _ _ _ _ #[true, true, true, true, true, true, true, true, true, true, true, true, true, true, true, true, true, true, true, true, true, true, true, false, false, false, false, false, false, false, false, false] _
                refine AI.gskip_u (i := 23) rfl rfl (by kernel_rfl) (by kernel_rfl) (by kernel_rfl) rfl rfl rfl (fun _ _ h => h) ?_
                show AI _ _ _ _ _ #[true, true, true, true, true, true, true, true, true, true, true, true, true, true, true, true, true, true, true, true, true, true, true, true, false, false, false, false, false, false, false, false] _
                refine AI.gskip_u (i := 24) rfl rfl (by kernel_rfl) (by kernel_rfl) (by kernel_rfl) rfl rfl rfl (fun _ _ h => h) ?_
                show AI _ _ _ _ _ #[true, true, true, true, true, true, true, true, true, true, true, true, true, true, true, true, true, true, true, true, true, true, true, true, true, false, false, false, false, false, false, false] _
                refine AI.gskip_u (i := 25) rfl rfl (by kernel_rfl) (by kernel_rfl) (by kernel_rfl) rfl rfl rfl (fun _ _ h => h) ?_
                show AI _ _ _ _ _ #[true, true, true, true, true, true, true, true, true, true, true, true, true, true, true, true, true, true, true, true, true, true, true, true, true, true, false, false, false, false, false, false] _
                refine AI.gskip_u (i := 26) rfl rfl (by kernel_rfl) (by kernel_rfl) (by kernel_rfl) rfl rfl rfl (fun _ _ h => h) ?_
                show AI _ _ _ _ _ #[true, true, true, true, true, true, true, true, true, true, true, true, true, true, true, true, true, true, true, true, true, true, true, true, true, true, true, false, false, false, false, false] _
                refine AI.gskip_u (i := 27) rfl rfl (by kernel_rfl) (by kernel_rfl) (by kernel_rfl) rfl rfl rfl (fun _ _ h => h) ?_
                show AI _ _ _ _ _ #[true, true, true, true, true, true, true, true, true, true, true, true, true, true, true, true, true, true, true, true, true, true, true, true, true, true, true, true, false, false, false, false] _
                refine AI.gskip_u (i := 28) rfl rfl (by kernel_rfl) (by kernel_rfl) (by kernel_rfl) rfl rfl rfl (fun _ _ h => h) ?_
                show AI _ _ _ _ _ #[true, true, true, true, true, true, true, true, true, true, true, true, true, true, true, true, true, true, true, true, true, true, true, true, true, true, true, true, true, false, false, false] _
                refine AI.gskip_u (i := 29) rfl rfl (by kernel_rfl) (by kernel_rfl) (by kernel_rfl) rfl rfl rfl (fun _ _ h => h) ?_
                show AI _ _ _ _ _ #[true, true, true, true, true, true, true, true, true, true, true, true, true, true, true, true, true, true, true, true, true, true, true, true, true, true, true, true, true, true, false, false] _
                refine AI.gskip (i := 30) rfl rfl (by kernel_rfl) (by kernel_rfl) (by kernel_rfl) rfl rfl rfl (fun _ _ h => h) h34 ?_
                show AI _ _ _ _ _ #[true, true, true, true, true, true, true, true, true, true, true, true, true, true, true, true, true, true, true, true, true, true, true, true, true, true, true, true, true, true, true, false] _
                refine AI.take (i := 31) rfl rfl (by kernel_rfl) (by kernel_rfl) (by kernel_rfl) (fun _ _ h => h) (OpS.eq (av' := B (((decide (x24 < x26)) || (decide (x32 < x30))) || ((decide (0 < y19)) && (decide (x37 ≤ x41))))) (opS_pick_t (av := .v _) rfl h34 rfl) (B_congr (or_t h34))) ?_
                show AI _ _ _ _ _ #[true, true, true, true, true, true, true, true, true, true, true, true, true, true, true, true, true, true, true, true, true, true, true, true, true, true, true, true, true, true, true, true] _
                exact K31 _ 14 rfl rfl
              ·
                refine AI.gtake (i := 17) rfl rfl (by kernel_rfl) (by kernel_rfl) (by kernel_rfl) rfl rfl rfl (fun _ _ h => h) h34 (mv rfl) ?_
                show AI _ _ _ _ _ #[true, true, true, true, true, true, true, true, true, true, true, true, true, true, true, true, true, true, false, false, false, false, false, false, false, false, false, false, false, false, false, false] _
                refine AI.gtake (i := 18) rfl rfl (by kernel_rfl) (by kernel_rfl) (by kernel_rfl) rfl rfl rfl (fun _ _ h => h) h34 (opS_gt rfl rfl) ?_
                show AI _ _ _ _ _ #[true, true, true, true, true, true, true, true, true, true, true, true, true, true, true, true, true, true, true, false, false, false, false, false, false, false, false, false, false, false, false, false] _
                refine AI.gtake (i := 19) rfl rfl (by kernel_rfl) (by kernel_rfl) (by kernel_rfl) rfl rfl rfl (fun _ _ h => h) h34 (mv rfl) ?_
                show AI _ _ _ _ _ #[true, true, true, true, true, true, true, true, true, true, true, true, true, true, true, true, true, true, true, true, false, false, false, false, false, false, false, false, false, false, false, false] _
                refine AI.meet 1 #[true, true, true, true, true, true, true, true, true, true, true, true, true, true, true, true, true, true, true, true, true, true, true, true, true, true, true, true, true, true, true, false] 50 (B ((decide (0 < y19)) && (decide (x37 ≤ x41)))) (fun K30 => ?_) ?_
                · refine AI.gsplit (t := 39) rfl (fun h35 => ?_) (fun h35 => ?_)
                  ·
                    refine AI.gtake (i := 20) rfl rfl (by kernel_rfl) (by kernel_rfl) (by kernel_rfl) rfl rfl rfl (fun _ _ h => h) h35 (opS_move (av := slE _ _ _) rfl) ?_
                    show AI _ _ _ _ _ #[true, true, true, true, true, true, true, true, true, true, true, true, true, true, true, true, true, true, true, true, true, false, false, false, false, false, false, false, false, false, false, false] _
                    refine AI.gtake (i := 21) rfl rfl (by kernel_rfl) (by kernel_rfl) (by kernel_rfl) rfl rfl rfl (fun _ _ h => h) h35 (mv rfl) ?_
                    show AI _ _ _ _ _ #[true, true, true, true, true, true, true, true, true, true, true, true, true, true, true, true, true, true, true, true, true, true, false, false, false, false, false, false, false, false, false, false] _
                    refine AI.gtake (i := 22) rfl rfl (by kernel_rfl) (by kernel_rfl) (by kernel_rfl) rfl rfl rfl (fun _ _ h => h) h35 (g_indexAddr (E := Enc.int) Tryz.underlying23 (by kernel_rfl) rfl rfl (g36 (and_tt (nf h34) h35)) e38) ?_
                    show AI _ _ _ _ _ #[true, true, true, true, true, true, true, true, true, true, true, true, true, true, true, true, true, true, true, true, true, true, true, false, false, false, false, false, false, false, false, false] _
                    refine AI.gtake (i := 23) rfl rfl (by kernel_rfl) (by kernel_rfl) (by kernel_rfl) rfl rfl rfl (fun _ _ h => h) h35 (opS_load_cp Tryz.underlying3 rfl rfl) ?_
                    show AI _ _ _ _ _ #[true, true, true, true, true, true, true, true, true, true, true, true, true, true, true, true, true, true, true, true, true, true, true, true, false, false, false, false, false, false, false, false] _
                    refine AI.gtake (i := 24) rfl rfl (by kernel_rfl) (by kernel_rfl) (by kernel_rfl) rfl rfl rfl (fun _ _ h => h) h35 (opS_move (av := slE _ _ _) rfl) ?_
                    show AI _ _ _ _ _ #[true, true, true, true, true, true, true, true, true, true, true, true, true, true, true, true, true, true, true, true, true, true, true, true, true, false, false, false, false, false, false, false] _
                    refine AI.gtake (i := 25) rfl rfl (by kernel_rfl) (by kernel_rfl) (by kernel_rfl) rfl rfl rfl (fun _ _ h => h) h35 (mv rfl) ?_
                    show AI _ _ _ _ _ #[true, true, true, true, true, true, true, true, true, true, true, true, true, true, true, true, true, true, true, true, true, true, true, true, true, true, false, false, false, false, false, false] _
                    refine AI.gtake (i := 26) rfl rfl (by kernel_rfl) (by kernel_rfl) (by kernel_rfl) rfl rfl rfl (fun _ _ h => h) h35 (g_sub rfl rfl (g39 (and_tt (nf h34) h35))) ?_
                    show AI _ _ _ _ _ #[true, true, true, true, true, true, true, true, true, true, true, true, true, true, true, true, true, true, true, true, true, true, true, true, true, true, true, false, false, false, false, false] _
                    refine AI.gtake (i := 27) rfl rfl (by kernel_rfl) (by kernel_rfl) (by kernel_rfl) rfl rfl rfl (fun _ _ h => h) h35 (g_indexAddr (E := Enc.int) Tryz.underlying23 (by kernel_rfl) rfl rfl (g40 (and_tt (nf h34) h35)) e42) ?_
                    show AI _ _ _ _ _ #[true, true, true, true, true, true, true, true, true, true, true, true, true, true, true, true, true, true, true, true, true, true, true, true, true, true, true, true, false, false, false, false] _
                    refine AI.gtake (i := 28) rfl rfl (by kernel_rfl) (by kernel_rfl) (by kernel_rfl) rfl rfl rfl (fun _ _ h => h) h35 (opS_load_cp Tryz.underlying3 rfl rfl) ?_
                    show AI _ _ _ _ _ #[true, true, true, true, true, true, true, true, true, true, true, true, true, true, true, true, true, true, true, true, true, true, true, true, true, true, true, true, true, false, false, false] _
                    refine AI.gtake (i := 29) rfl rfl (by kernel_rfl) (by kernel_rfl) (by kernel_rfl) rfl rfl rfl (fun _ _ h => h) h35 (opS_le rfl rfl) ?_
                    show AI _ _ _ _ _ #[true, true, true, true, true, true, true, true, true, true, true, true, true, true, true, true, true, true, true, true, true, true, true, true, true, true, true, true, true, true, false, false] _
                    refine AI.gtake (i := 30) rfl rfl (by kernel_rfl) (by kernel_rfl) (by kernel_rfl) rfl rfl rfl (fun _ _ h => h) h34 (OpS.eq (av' := B ((decide (0 < y19)) && (decide (x37 ≤ x41)))) (opS_pick_t (av := .v _) rfl h35 rfl) (B_congr (and_t h35))) ?_
                    show AI _ _ _ _ _ #[true, true, true, true, true, true, true, true, true, true, true, true, true, true, true, true, true, true, true, true, true, true, true, true, true, true, true, true, true, true, true, false] _
                    exact K30 _ 10 rfl rfl
                  ·
                    refine AI.gskip (i := 20) rfl rfl (by kernel_rfl) (by kernel_rfl) (by kernel_rfl) rfl rfl rfl (fun _ _ h => h) h35 ?_
                    show AI _ _ _ _ _ #[true, true, true, true, true, true, true, true, true, true, true, true, true, true, true, true, true, true, true, true, true, false, false, false, false, false, false, false, false, false, false, false] _
                    refine AI.gskip (i := 21) rfl rfl (by kernel_rfl) (by kernel_rfl) (by kernel_rfl) rfl rfl rfl (fun _ _ h => h) h35 ?_
                    show AI _ _ _ _ _ #[true, true, true, true, true, true, true, true, true, true, true, true, true, true, true, true, true, true, true, true, true, true, false, false, false, false, false, false, false, false, false, false] _
                    refine AI.gskip (i := 22) rfl rfl (by kernel_rfl) (by kernel_rfl) (by kernel_rfl) rfl rfl rfl (fun _ _ h => h) h35 ?_
                    show AI _ _ _ _ _ #[true, true, true, true, true, true, true, true, true, true, true, true, true, true, true, true, true, true, true, true, true, true, true, false, false, false, false, false, false, false, false, false] _
                    refine AI.gskip (i := 23) rfl rfl (by kernel_rfl) (by kernel_rfl) (by kernel_rfl) rfl rfl rfl (fun _ _ h => h) h35 ?_
                    show AI _ _ _ _ _ #[true, true, true, true, true, true, true, true, true, true, true, true, true, true, true, true, true, true, true, true, true, true, true, true, false, false, false, false, false, false, false, false] _
                    refine AI.gskip (i := 24) rfl rfl (by kernel_rfl) (by kernel_rfl) (by kernel_rfl) rfl rfl rfl (fun _ _ h => h) h35 ?_
                    show AI _ _ _ _ _ #[true, true, true, true, true, true, true, true, true, true, true, true, true, true, true, true, true, true, true, true, true, true, true, true, true, false, false, false, false, false, false, false] _
                    refine AI.gskip (i := 25) rfl rfl (by kernel_rfl) (by kernel_rfl) (by kernel_rfl) rfl rfl rfl (fun _ _ h => h) h35 ?_
                    show AI _ _ _ _ _ #[true, true, true, true, true, true, true, true, true, true, true, true, true, true, true, true, true, true, true, true, true, true, true, true, true, true, false, false, false, false, false, false] _
                    refine AI.gskip (i := 26) rfl rfl (by kernel_rfl) (by kernel_rfl) (by kernel_rfl) rfl rfl rfl (fun _ _ h => h) h35 ?_
                    show AI _ _ _ _ _ #[true, true, true, true, true, true, true, true, true, true, true, true, true, true, true, true, true, true, true, true, true, true, true, true, true, true, true, false, false, false, false, false] _
                    refine AI.gskip (i := 27) rfl rfl (by kernel_rfl) (by kernel_rfl) (by kernel_rfl) rfl rfl rfl (fun _ _ h => h) h35 ?_
                    show AI _ _ _ _ _ #[true, true, true, true, true, true, true, true, true, true, true, true, true, true, true, true, true, true, true, true, true, true, true, true, true, true, true, true, false, false, false, false] _
                    refine AI.gskip (i := 28) rfl rfl (by kernel_rfl) (by kernel_rfl) (by kernel_rfl) rfl rfl rfl (fun _ _ h => h) h35 ?_
                    show AI _ _ _ _ _ #[true, true, true, true, true, true, true, true, true, true, true, true, true, true, true, true, true, true, true, true, true, true, true, true, true, true, true, true, true, false, false, false] _
                    refine AI.gskip (i := 29) rfl rfl (by kernel_rfl) (by kernel_rfl) (by kernel_rfl) rfl rfl rfl (fun _ _ h => h) h35 ?_
                    show AI _ _ _ _ _ #[true, true, true, true, true, true, true, true, true, true, true, true, true, true, true, true, true, true, true, true, true, true, true, true, true, true, true, true, true, true, false, false] _
                    refine AI.gtake (i := 30) rfl rfl (by kernel_rfl) (by kernel_rfl) (by kernel_rfl) rfl rfl rfl (fun _ _ h => h) h34 (OpS.eq (av' := B ((decide (0 < y19)) && (decide (x37 ≤ x41)))) (opS_pick_f (av := .v _) rfl h35 rfl) (B_congr (and_f h35))) ?_
                    show AI _ _ _ _ _ #[true, true, true, true, true, true, true, true, true, true, true, true, true, true, true, true, true, true, true, true, true, true, true, true, true, true, true, true, true, true, true, false] _
                    exact K30 _ 10 rfl rfl
                refine AI.take (i := 31) rfl rfl (by kernel_rfl) (by kernel_rfl) (by kernel_rfl) (fun _ _ h => h) (OpS.eq (av' := B (((decide (x24 < x26)) || (decide (x32 < x30))) || ((decide (0 < y19)) && (decide (x37 ≤ x41))))) (opS_pick_f (av := .v _) rfl h34 rfl) (B_congr (or_f h34))) ?_
                show AI _ _ _ _ _ #[true, true, true, true, true, true, true, true, true, true, true, true, true, true, true, true, true, true, true, true, true, true, true, true, true, true, true, true, true, true, true, true] _
                exact K31 _ 4 rfl rfl
            refine AI.done rfl ?_
            show AW _ _ _ _ _ _
            refine AW.cond rfl (fun c43 => ?_) (fun c43 => ?_)
            · replace H := cnd_t c43 H
              refine AW.seq ?_
              refine AW.region ?_
              show AR _ _ _ _ _ [0] _
              refine sS rfl rfl rfl (asg rfl) ?_
              refine AR.nil ?_
              show AW _ _ _ _ _ _
              refine AW.ret ?_
              obtain rfl := Option.some.inj H
              exact And.intro rfl (Exists.intro _ (Exists.intro _ ⟨ResV.oneW rfl (.refl _), Sub.at [] rfl, rfl, rfl⟩))
            · replace H := cnd_f c43 H
              refine AW.skip ?_
              show AW _ _ _ _ _ _
              obtain ⟨g44, H⟩ := grd_s H
              refine AW.region ?_
              show AR _ _ _ _ _ [0, 1, 2] _
              refine sS rfl rfl rfl (mv rfl) ?_
              refine sS rfl rfl rfl (g_add rfl rfl g44) ?_
              refine sS rfl rfl rfl (asg rfl) ?_
              refine AR.nil ?_
              exact Exists.intro (n21, y19 + 1) ⟨H, Nat.lt_succ_self _, WK.at [] (.cons (.refl _) (.cons (.refl _) (.cons (.refl _) (.cons (.refl _) (.nil _))))) rfl⟩
          · replace H := cnd_f c22 H
            refine AW.exit ?_
            exact Exists.intro () ⟨H, WK.at [] (.cons (.refl _) (.cons (.refl _) (.cons (.refl _) (.nil _)))) rfl⟩
        rintro _ H
        replace H : ref05_May_j3 F a6 a7 a8 a9 a10 y12 x17 (ref05_May_L2 F a1 a2 a3 a4 a5 a6 a7 a8 a9 a10 n14) = some r11 := H
        unfold ref05_May_j3 at H
        show AW _ _ _ _ _ _
        refine AW.seq ?_
        obtain ⟨g47, H⟩ := grdc_s H
        obtain ⟨x48, e49, H⟩ := lt_s H
        obtain ⟨x51, e52, H⟩ := bndc_s H
        obtain ⟨x53, e54, H⟩ := bndc_s H
        obtain ⟨g55, H⟩ := grdc_s H
        obtain ⟨g56, H⟩ := grdc_s H
        refine AW.region ?_
        show AR _ _ _ _ _ [0, 1, 2, 3, 4, 5, 6, 7, 8, 9, 10, 11, 12, 13, 14, 15, 16, 17, 18, 19] _
        refine sS rfl rfl rfl (opS_move (av := slE _ _ _) rfl) ?_
        refine sS rfl rfl rfl (opS_len_sl Tryz.underlying23 rfl) ?_
        refine sS rfl rfl rfl (opS_eqi rfl rfl) ?_
        refine sS rfl rfl rfl (mv rfl) ?_
        refine AR.meet (l := []) 71 (B ((decide ((x17.length : Int) = 0)) || (x48 && (!decide ((x17.length : Int) = (x51 - x53) + 1))))) (fun K => ?_) ?_
        · rcases Bool.eq_false_or_eq_true (decide ((x17.length : Int) = 0)) with h46 | h46
          ·
            refine gF h46 rfl rfl rfl rfl rfl ?_
            refine gF h46 rfl rfl rfl rfl rfl ?_
            refine gF h46 rfl rfl rfl rfl rfl ?_
            refine gF h46 rfl rfl rfl rfl rfl ?_
            refine gF h46 rfl rfl rfl rfl rfl ?_
            refine gU rfl rfl rfl rfl rfl ?_
            refine gU rfl rfl rfl rfl rfl ?_
            refine gU rfl rfl rfl rfl rfl ?_
            refine gU rfl rfl rfl rfl rfl ?_
            refine gU rfl rfl rfl rfl rfl ?_
            refine gU rfl rfl rfl rfl rfl ?_
            refine gU rfl rfl rfl rfl rfl ?_
            refine gU rfl rfl rfl rfl rfl ?_
            refine gU rfl rfl rfl rfl rfl ?_
            refine gF h46 rfl rfl rfl rfl rfl ?_
            refine sS rfl rfl rfl (opS_pick_t (av := .v _) rfl h46 rfl) ?_
            exact K _ 15 _ (B_congr (or_t h46)) rfl rfl
          ·
            refine gT h46 rfl rfl rfl rfl rfl rfl (AO.ops rfl rfl (mv rfl) ?_)
            refine gT h46 rfl rfl rfl rfl rfl rfl (AO.ops rfl rfl (opS_fieldAddr_cp (n := 5) (by kernel_rfl) rfl (Nat.le_of_ble_eq_true rfl)) ?_)
            refine gT h46 rfl rfl rfl rfl rfl rfl (AO.ops rfl rfl (opS_indexAddr_arrv_cp (E := Enc.bool) (l := ([a6, a7, a8, a9, a10] : List Bool)) (post := []) rfl Tryz.underlying25 (by kernel_rfl) rfl rfl rfl (g47 (nf h46)) e49 rfl) ?_)
            refine gT h46 rfl rfl rfl rfl rfl rfl (AO.ops rfl rfl (opS_load_cp Tryz.underlying4 rfl rfl) ?_)
            refine gT h46 rfl rfl rfl rfl rfl rfl (AO.ops rfl rfl (mv rfl) ?_)
            refine AR.meet (l := [19]) 70 (B (x48 && (!decide ((x17.length : Int) = (x51 - x53) + 1)))) (fun K => ?_) ?_
            · rcases Bool.eq_false_or_eq_true x48 with h50 | h50
              ·
                refine gT h50 rfl rfl rfl rfl rfl rfl (AO.ops rfl rfl (opS_move (av := slE _ _ _) rfl) ?_)
                refine gT h50 rfl rfl rfl rfl rfl rfl (AO.ops rfl rfl (opS_len_sl Tryz.underlying23 rfl) ?_)
                refine gT h50 rfl rfl rfl rfl rfl rfl (AO.ops rfl rfl (mv rfl) ?_)
                refine gT h50 rfl rfl rfl rfl rfl rfl (AO.callp rfl en36_crons rfl (w_ref05_High F y12 x51 (e52 (and_tt (nf h46) h50))) ?_)
                refine gT h50 rfl rfl rfl rfl rfl rfl (AO.ops rfl rfl (mv rfl) ?_)
                refine gT h50 rfl rfl rfl rfl rfl rfl (AO.callp rfl en35_crons rfl (w_ref05_Low F y12 x53 (e54 (and_tt (nf h46) h50))) ?_)
                refine gT h50 rfl rfl rfl rfl rfl rfl (AO.ops rfl rfl (g_sub rfl rfl (g55 (and_tt (nf h46) h50))) ?_)
                refine gT h50 rfl rfl rfl rfl rfl rfl (AO.ops rfl rfl (g_add rfl rfl (g56 (and_tt (nf h46) h50))) ?_)
                refine gT h50 rfl rfl rfl rfl rfl rfl (AO.ops rfl rfl (opS_nei rfl rfl) ?_)
                refine gT h46 rfl rfl rfl rfl rfl rfl (AO.ops rfl rfl (opS_pick_t (av := .v _) rfl h50 rfl) ?_)
                exact K _ 9 _ (B_congr (and_t h50)) rfl rfl
              ·
                refine gF h50 rfl rfl rfl rfl rfl ?_
                refine gF h50 rfl rfl rfl rfl rfl ?_
                refine gF h50 rfl rfl rfl rfl rfl ?_
                refine gF h50 rfl rfl rfl rfl rfl ?_
                refine gF h50 rfl rfl rfl rfl rfl ?_
                refine gF h50 rfl rfl rfl rfl rfl ?_
                refine gF h50 rfl rfl rfl rfl rfl ?_
                refine gF h50 rfl rfl rfl rfl rfl ?_
                refine gF h50 rfl rfl rfl rfl rfl ?_
                refine gT h46 rfl rfl rfl rfl rfl rfl (AO.ops rfl rfl (opS_pick_f (av := .v _) rfl h50 rfl) ?_)
                exact K _ 9 _ (B_congr (and_f h50)) rfl rfl
            refine sS rfl rfl rfl (opS_pick_f (av := .v _) rfl h46 rfl) ?_
            exact K _ 6 _ (B_congr (or_f h46)) rfl rfl
        refine AR.nil ?_
        show AW _ _ _ _ _ _
        refine AW.cond rfl (fun c57 => ?_) (fun c57 => ?_)
        · replace H := cnd_t c57 H
          refine AW.seq ?_
          refine AW.region ?_
          show AR _ _ _ _ _ [0] _
          refine sS rfl rfl rfl (asg rfl) ?_
          refine AR.nil ?_
          show AW _ _ _ _ _ _
          refine AW.ret ?_
          obtain rfl := Option.some.inj H
          exact And.intro rfl (Exists.intro _ (Exists.intro _ ⟨ResV.oneW rfl (.refl _), Sub.at [] rfl, rfl, rfl⟩))
        · replace H := cnd_f c57 H
          refine AW.skip ?_
          exact Exists.intro () ⟨H, WK.at [] (.cons (.refl _) (.cons (.refl _) (.nil _))) rfl⟩
      rintro _ H
      replace H : ref05_May_j2 y12 (ref05_May_L2 F a1 a2 a3 a4 a5 a6 a7 a8 a9 a10 n14) = some r11 := H
      unfold ref05_May_j2 at H
      show AW _ _ _ _ _ _
      obtain ⟨g59, H⟩ := grd_s H
      refine AW.region ?_
      show AR _ _ _ _ _ [0, 1, 2] _
      refine sS rfl rfl rfl (mv rfl) ?_
      refine sS rfl rfl rfl (g_add rfl rfl g59) ?_
      refine sS rfl rfl rfl (asg rfl) ?_
      refine AR.nil ?_
      exact Exists.intro (n14, y12 + 1) ⟨H, Nat.lt_succ_self _, WK.at [] (.cons (.refl _) (.cons (.refl _) (.nil _))) rfl⟩
    · replace H := cnd_f c15 H
      refine AW.exit ?_
      exact Exists.intro () ⟨H, WK.at [] (.nil _) rfl⟩
  rintro _ H
  replace H : ref05_May_j1 = some r11 := H
  unfold ref05_May_j1 at H
  show AW _ _ _ _ _ _
  refine AW.seq ?_
  refine AW.region ?_
  show AR _ _ _ _ _ [0] _
  refine sS rfl rfl rfl (asg rfl) ?_
  refine AR.nil ?_
  show AW _ _ _ _ _ _
  refine AW.ret ?_
  obtain rfl := Option.some.inj H
  exact And.intro rfl (Exists.intro _ (Exists.intro _ ⟨ResV.oneW rfl (.refl _), Sub.at [] rfl, rfl, rfl⟩))
set_option maxRecDepth 100000 in
set_option maxHeartbeats 1000000 in
theorem w_ref01_Leap (F : Nat) (a1 : Int) (r2 : Bool) (H : ref01_Leap F a1 = some r2) : ACalls Tryz.prog 74 [i64 a1] [] (Ret (B r2) []) := by
  unfold ref01_Leap at H
  refine ACalls.of_body Tryz.func74 rfl rfl ?_
  show AW _ _ 16 _ _ _
  refine AW.seq ?_
  refine AW.region ?_
  show AR _ _ _ _ _ [0] _
  refine sS rfl rfl rfl (asg rfl) ?_
  refine AR.nil ?_
  show AW _ _ _ _ _ _
  refine AW.seq ?_
  obtain ⟨g3, H⟩ := grd_s H
  obtain ⟨g5, H⟩ := grdc_s H
  obtain ⟨g7, H⟩ := grdc_s H
  refine AW.region ?_
  show AR _ _ _ _ _ [0, 1, 2, 3, 4, 5, 6, 7, 8, 9, 10, 11, 12, 13] _
  refine sS rfl rfl rfl (mv rfl) ?_
  refine sS rfl rfl rfl (g_rem rfl rfl g3) ?_
  refine sS rfl rfl rfl (opS_eqi rfl rfl) ?_
  refine sS rfl rfl rfl (mv rfl) ?_
  refine AR.meet (l := [8, 9, 10, 11, 12, 13]) 10 (B ((decide (a1 % 4 = 0)) && (!decide (a1 % 100 = 0)))) (fun K => ?_) ?_
  · rcases Bool.eq_false_or_eq_true (decide (a1 % 4 = 0)) with h4 | h4
    ·
      refine gT h4 rfl rfl rfl rfl rfl rfl (AO.ops rfl rfl (mv rfl) ?_)
      refine gT h4 rfl rfl rfl rfl rfl rfl (AO.ops rfl rfl (g_rem rfl rfl (g5 h4)) ?_)
      refine gT h4 rfl rfl rfl rfl rfl rfl (AO.ops rfl rfl (opS_nei rfl rfl) ?_)
      refine sS rfl rfl rfl (opS_pick_t (av := .v _) rfl h4 rfl) ?_
      exact K _ 3 _ (B_congr (and_t h4)) rfl rfl
    ·
      refine gF h4 rfl rfl rfl rfl rfl ?_
      refine gF h4 rfl rfl rfl rfl rfl ?_
      refine gF h4 rfl rfl rfl rfl rfl ?_
      refine sS rfl rfl rfl (opS_pick_f (av := .v _) rfl h4 rfl) ?_
      exact K _ 3 _ (B_congr (and_f h4)) rfl rfl
  refine sS rfl rfl rfl (mv rfl) ?_
  refine AR.meet (l := [13]) 15 (B (((decide (a1 % 4 = 0)) && (!decide (a1 % 100 = 0))) || (decide (a1 % 400 = 0)))) (fun K => ?_) ?_
  · rcases Bool.eq_false_or_eq_true ((decide (a1 % 4 = 0)) && (!decide (a1 % 100 = 0))) with h6 | h6
    ·
      refine gF h6 rfl rfl rfl rfl rfl ?_
      refine gF h6 rfl rfl rfl rfl rfl ?_
      refine gF h6 rfl rfl rfl rfl rfl ?_
      refine sS rfl rfl rfl (opS_pick_t (av := .v _) rfl h6 rfl) ?_
      exact K _ 3 _ (B_congr (or_t h6)) rfl rfl
    ·
      refine gT h6 rfl rfl rfl rfl rfl rfl (AO.ops rfl rfl (mv rfl) ?_)
      refine gT h6 rfl rfl rfl rfl rfl rfl (AO.ops rfl rfl (g_rem rfl rfl (g7 (nf h6))) ?_)
      refine gT h6 rfl rfl rfl rfl rfl rfl (AO.ops rfl rfl (opS_eqi rfl rfl) ?_)
      refine sS rfl rfl rfl (opS_pick_f (av := .v _) rfl h6 rfl) ?_
      exact K _ 3 _ (B_congr (or_f h6)) rfl rfl
  refine sS rfl rfl rfl (asg rfl) ?_
  refine AR.nil ?_
  show AW _ _ _ _ _ _
  refine AW.ret ?_
  obtain rfl := Option.some.inj H
  exact And.intro rfl (Exists.intro _ (Exists.intro _ ⟨ResV.oneW rfl (.refl _), Sub.at [] rfl, rfl, rfl⟩))
set_option maxRecDepth 100000 in
set_option maxHeartbeats 1000000 in
theorem w_ref01_Days (F : Nat) (a1 : Int) (a2 : Int) (r3 : Int) (H : ref01_Days F a1 a2 = some r3) : ACalls Tryz.prog 59 [i64 a1, i64 a2] [] (Ret (i64 r3) []) := by
  unfold ref01_Days at H
  refine ACalls.of_body Tryz.func59 rfl rfl ?_
  show AW _ _ 25 _ _ _
  refine AW.seq ?_
  refine AW.region ?_
  show AR _ _ _ _ _ [0] _
  refine sS rfl rfl rfl (asg rfl) ?_
  refine AR.nil ?_
  show AW _ _ _ _ _ _
  refine AW.seq ?_
  refine AW.seq ?_
  refine AW.region ?_
  show AR _ _ _ _ _ [0] _
  refine sS rfl rfl rfl (mv rfl) ?_
  refine AR.nil ?_
  show AW _ _ _ _ _ _
  refine AW.block ?_
  refine AW.cut (X := Bool) (fun y10 => ⟨[(0, i64 a1), (6, i64 a2), (7, B y10)], [], []⟩) (fun y10 => ref01_Days_j2 F a1 a2 y10 = some r3) ?_ ?_
  ·
    refine AW.seq ?_
    refine AW.region ?_
    show AR _ _ _ _ _ [0, 1] _
    refine sS rfl rfl rfl (opS_eqi rfl rfl) ?_
    refine sS rfl rfl rfl (asg rfl) ?_
    refine AR.nil ?_
    show AW _ _ _ _ _ _
    refine AW.cond rfl (fun c4 => ?_) (fun c4 => ?_)
    · replace H := cnd_t c4 H
      refine AW.skip ?_
      exact Exists.intro (decide (a2 = 1)) ⟨H, WK.at [] (.cons (.refl _) (.cons (.refl _) (.cons (.refl _) (.nil _)))) rfl⟩
    · replace H := cnd_f c4 H
      refine AW.seq ?_
      refine AW.region ?_
      show AR _ _ _ _ _ [0, 1] _
      refine sS rfl rfl rfl (opS_eqi rfl rfl) ?_
      refine sS rfl rfl rfl (asg rfl) ?_
      refine AR.nil ?_
      show AW _ _ _ _ _ _
      refine AW.cond rfl (fun c5 => ?_) (fun c5 => ?_)
      · replace H := cnd_t c5 H
        refine AW.skip ?_
        exact Exists.intro (decide (a2 = 3)) ⟨H, WK.at [] (.cons (.refl _) (.cons (.refl _) (.cons (.refl _) (.nil _)))) rfl⟩
      · replace H := cnd_f c5 H
        refine AW.seq ?_
        refine AW.region ?_
        show AR _ _ _ _ _ [0, 1] _
        refine sS rfl rfl rfl (opS_eqi rfl rfl) ?_
        refine sS rfl rfl rfl (asg rfl) ?_
        refine AR.nil ?_
        show AW _ _ _ _ _ _
        refine AW.cond rfl (fun c6 => ?_) (fun c6 => ?_)
        · replace H := cnd_t c6 H
          refine AW.skip ?_
          exact Exists.intro (decide (a2 = 5)) ⟨H, WK.at [] (.cons (.refl _) (.cons (.refl _) (.cons (.refl _) (.nil _)))) rfl⟩
        · replace H := cnd_f c6 H
          refine AW.seq ?_
          refine AW.region ?_
          show AR _ _ _ _ _ [0, 1] _
          refine sS rfl rfl rfl (opS_eqi rfl rfl) ?_
          refine sS rfl rfl rfl (asg rfl) ?_
          refine AR.nil ?_
          show AW _ _ _ _ _ _
          refine AW.cond rfl (fun c7 => ?_) (fun c7 => ?_)
          · replace H := cnd_t c7 H
            refine AW.skip ?_
            exact Exists.intro (decide (a2 = 7)) ⟨H, WK.at [] (.cons (.refl _) (.cons (.refl _) (.cons (.refl _) (.nil _)))) rfl⟩
          · replace H := cnd_f c7 H
            refine AW.seq ?_
            refine AW.region ?_
            show AR _ _ _ _ _ [0, 1] _
            refine sS rfl rfl rfl (opS_eqi rfl rfl) ?_
            refine sS rfl rfl rfl (asg rfl) ?_
            refine AR.nil ?_
            show AW _ _ _ _ _ _
            refine AW.cond rfl (fun c8 => ?_) (fun c8 => ?_)
            · replace H := cnd_t c8 H
              refine AW.skip ?_
              exact Exists.intro (decide (a2 = 8)) ⟨H, WK.at [] (.cons (.refl _) (.cons (.refl _) (.cons (.refl _) (.nil _)))) rfl⟩
            · replace H := cnd_f c8 H
              refine AW.seq ?_
              refine AW.region ?_
              show AR _ _ _ _ _ [0, 1] _
              refine sS rfl rfl rfl (opS_eqi rfl rfl) ?_
              refine sS rfl rfl rfl (asg rfl) ?_
              refine AR.nil ?_
              show AW _ _ _ _ _ _
              refine AW.cond rfl (fun c9 => ?_) (fun c9 => ?_)
              · replace H := cnd_t c9 H
                refine AW.skip ?_
                exact Exists.intro (decide (a2 = 10)) ⟨H, WK.at [] (.cons (.refl _) (.cons (.refl _) (.cons (.refl _) (.nil _)))) rfl⟩
              · replace H := cnd_f c9 H
                refine AW.region ?_
                show AR _ _ _ _ _ [0, 1] _
                refine sS rfl rfl rfl (opS_eqi rfl rfl) ?_
                refine sS rfl rfl rfl (asg rfl) ?_
                refine AR.nil ?_
                exact Exists.intro (decide (a2 = 12)) ⟨H, WK.at [] (.cons (.refl _) (.cons (.refl _) (.cons (.refl _) (.nil _)))) rfl⟩
  rintro y10 H
  replace H : ref01_Days_j2 F a1 a2 y10 = some r3 := H
  unfold ref01_Days_j2 at H
  show AW _ _ _ _ _ _
  refine AW.cond rfl (fun c12 => ?_) (fun c12 => ?_)
  · replace H := cnd_t c12 H
    refine AW.seq ?_
    refine AW.region ?_
    show AR _ _ _ _ _ [0] _
    refine sS rfl rfl rfl (asg rfl) ?_
    refine AR.nil ?_
    show AW _ _ _ _ _ _
    refine AW.ret ?_
    obtain rfl := Option.some.inj H
    exact And.intro rfl (Exists.intro _ (Exists.intro _ ⟨ResV.oneW rfl (.refl _), Sub.at [] rfl, rfl, rfl⟩))
  · replace H := cnd_f c12 H
    refine AW.cut (X := Bool) (fun y16 => ⟨[(0, i64 a1), (6, i64 a2), (15, B y16)], [], []⟩) (fun y16 => ref01_Days_j1 F a1 a2 y16 = some r3) ?_ ?_
    ·
      refine AW.seq ?_
      refine AW.region ?_
      show AR _ _ _ _ _ [0, 1] _
      refine sS rfl rfl rfl (opS_eqi rfl rfl) ?_
      refine sS rfl rfl rfl (asg rfl) ?_
      refine AR.nil ?_
      show AW _ _ _ _ _ _
      refine AW.cond rfl (fun c13 => ?_) (fun c13 => ?_)
      · replace H := cnd_t c13 H
        refine AW.skip ?_
        exact Exists.intro (decide (a2 = 4)) ⟨H, WK.at [] (.cons (.refl _) (.cons (.refl _) (.cons (.refl _) (.nil _)))) rfl⟩
      · replace H := cnd_f c13 H
        refine AW.seq ?_
        refine AW.region ?_
        show AR _ _ _ _ _ [0, 1] _
        refine sS rfl rfl rfl (opS_eqi rfl rfl) ?_
        refine sS rfl rfl rfl (asg rfl) ?_
        refine AR.nil ?_
        show AW _ _ _ _ _ _
        refine AW.cond rfl (fun c14 => ?_) (fun c14 => ?_)
        · replace H := cnd_t c14 H
          refine AW.skip ?_
          exact Exists.intro (decide (a2 = 6)) ⟨H, WK.at [] (.cons (.refl _) (.cons (.refl _) (.cons (.refl _) (.nil _)))) rfl⟩
        · replace H := cnd_f c14 H
          refine AW.seq ?_
          refine AW.region ?_
          show AR _ _ _ _ _ [0, 1] _
          refine sS rfl rfl rfl (opS_eqi rfl rfl) ?_
          refine sS rfl rfl rfl (asg rfl) ?_
          refine AR.nil ?_
          show AW _ _ _ _ _ _
          refine AW.cond rfl (fun c15 => ?_) (fun c15 => ?_)
          · replace H := cnd_t c15 H
            refine AW.skip ?_
            exact Exists.intro (decide (a2 = 9)) ⟨H, WK.at [] (.cons (.refl _) (.cons (.refl _) (.cons (.refl _) (.nil _)))) rfl⟩
          · replace H := cnd_f c15 H
            refine AW.region ?_
            show AR _ _ _ _ _ [0, 1] _
            refine sS rfl rfl rfl (opS_eqi rfl rfl) ?_
            refine sS rfl rfl rfl (asg rfl) ?_
            refine AR.nil ?_
            exact Exists.intro (decide (a2 = 11)) ⟨H, WK.at [] (.cons (.refl _) (.cons (.refl _) (.cons (.refl _) (.nil _)))) rfl⟩
    rintro y16 H
    replace H : ref01_Days_j1 F a1 a2 y16 = some r3 := H
    unfold ref01_Days_j1 at H
    show AW _ _ _ _ _ _
    refine AW.cond rfl (fun c18 => ?_) (fun c18 => ?_)
    · replace H := cnd_t c18 H
      refine AW.seq ?_
      refine AW.region ?_
      show AR _ _ _ _ _ [0] _
      refine sS rfl rfl rfl (asg rfl) ?_
      refine AR.nil ?_
      show AW _ _ _ _ _ _
      refine AW.ret ?_
      obtain rfl := Option.some.inj H
      exact And.intro rfl (Exists.intro _ (Exists.intro _ ⟨ResV.oneW rfl (.refl _), Sub.at [] rfl, rfl, rfl⟩))
    · replace H := cnd_f c18 H
      refine AW.seq ?_
      refine AW.region ?_
      show AR _ _ _ _ _ [0, 1] _
      refine sS rfl rfl rfl (opS_eqi rfl rfl) ?_
      refine sS rfl rfl rfl (asg rfl) ?_
      refine AR.nil ?_
      show AW _ _ _ _ _ _
      refine AW.cond rfl (fun c19 => ?_) (fun c19 => ?_)
      · replace H := cnd_t c19 H
        refine AW.seq ?_
        obtain ⟨x20, e21, H⟩ := bnd_s H
        refine AW.region ?_
        show AR _ _ _ _ _ [0, 1, 2] _
        refine sS rfl rfl rfl (mv rfl) ?_
        refine AR.run rfl rfl (AO.callp rfl en74_crons rfl (w_ref01_Leap F a1 x20 e21) ?_)
        refine sS rfl rfl rfl (asg rfl) ?_
        refine AR.nil ?_
        show AW _ _ _ _ _ _
        refine AW.seq ?_
        refine AW.seq ?_
        refine AW.region ?_
        show AR _ _ _ _ _ [0] _
        refine sS rfl rfl rfl (mv rfl) ?_
        refine AR.nil ?_
        show AW _ _ _ _ _ _
        refine AW.cond rfl (fun c22 => ?_) (fun c22 => ?_)
        · replace H := cnd_t c22 H
          refine AW.seq ?_
          refine AW.region ?_
          show AR _ _ _ _ _ [0] _
          refine sS rfl rfl rfl (asg rfl) ?_
          refine AR.nil ?_
          show AW _ _ _ _ _ _
          refine AW.ret ?_
          obtain rfl := Option.some.inj H
          exact And.intro rfl (Exists.intro _ (Exists.intro _ ⟨ResV.oneW rfl (.refl _), Sub.at [] rfl, rfl, rfl⟩))
        · replace H := cnd_f c22 H
          refine AW.skip ?_
          show AW _ _ _ _ _ _
          refine AW.seq ?_
          refine AW.region ?_
          show AR _ _ _ _ _ [0] _
          refine sS rfl rfl rfl (asg rfl) ?_
          refine AR.nil ?_
          show AW _ _ _ _ _ _
          refine AW.ret ?_
          obtain rfl := Option.some.inj H
          exact And.intro rfl (Exists.intro _ (Exists.intro _ ⟨ResV.oneW rfl (.refl _), Sub.at [] rfl, rfl, rfl⟩))
      · replace H := cnd_f c19 H
        refine AW.skip ?_
        show AW _ _ _ _ _ _
        refine AW.seq ?_
        refine AW.region ?_
        show AR _ _ _ _ _ [0] _
        refine sS rfl rfl rfl (asg rfl) ?_
        refine AR.nil ?_
        show AW _ _ _ _ _ _
        refine AW.ret ?_
        obtain rfl := Option.some.inj H
        exact And.intro rfl (Exists.intro _ (Exists.intro _ ⟨ResV.oneW rfl (.refl _), Sub.at [] rfl, rfl, rfl⟩))
set_option maxRecDepth 100000 in
set_option maxHeartbeats 1000000 in
theorem w_ref01_Start (F : Nat) (a1 : Int) (r2 : Int) (H : ref01_Start F a1 = some r2) : ACalls Tryz.prog 60 [i64 a1] [] (Ret (i64 r2) []) := by
  unfold ref01_Start at H
  refine ACalls.of_body Tryz.func60 rfl rfl ?_
  show AW _ _ 18 _ _ _
  refine AW.seq ?_
  refine AW.region ?_
  show AR _ _ _ _ _ [0] _
  refine sS rfl rfl rfl (asg rfl) ?_
  refine AR.nil ?_
  show AW _ _ _ _ _ _
  refine AW.seq ?_
  obtain ⟨g3, H⟩ := grd_s H
  refine AW.region ?_
  show AR _ _ _ _ _ [0, 1, 2] _
  refine sS rfl rfl rfl (mv rfl) ?_
  refine sS rfl rfl rfl (g_sub rfl rfl g3) ?_
  refine sS rfl rfl rfl (asg rfl) ?_
  refine AR.nil ?_
  show AW _ _ _ _ _ _
  refine AW.seq ?_
  obtain ⟨g4, H⟩ := grd_s H
  obtain ⟨g5, H⟩ := grd_s H
  obtain ⟨g6, H⟩ := grd_s H
  obtain ⟨g7, H⟩ := grd_s H
  obtain ⟨g8, H⟩ := grd_s H
  obtain ⟨g9, H⟩ := grd_s H
  obtain ⟨g10, H⟩ := grd_s H
  obtain ⟨g11, H⟩ := grd_s H
  refine AW.region ?_
  show AR _ _ _ _ _ [0, 1, 2, 3, 4, 5, 6, 7, 8, 9, 10, 11, 12] _
  refine sS rfl rfl rfl (mv rfl) ?_
  refine sS rfl rfl rfl (g_mul rfl rfl g4) ?_
  refine sS rfl rfl rfl (mv rfl) ?_
  refine sS rfl rfl rfl (g_quo rfl rfl g5) ?_
  refine sS rfl rfl rfl (g_add rfl rfl g6) ?_
  refine sS rfl rfl rfl (mv rfl) ?_
  refine sS rfl rfl rfl (g_quo rfl rfl g7) ?_
  refine sS rfl rfl rfl (g_sub rfl rfl g8) ?_
  refine sS rfl rfl rfl (mv rfl) ?_
  refine sS rfl rfl rfl (g_quo rfl rfl g9) ?_
  refine sS rfl rfl rfl (g_add rfl rfl g10) ?_
  refine sS rfl rfl rfl (g_sub rfl rfl g11) ?_
  refine sS rfl rfl rfl (asg rfl) ?_
  refine AR.nil ?_
  show AW _ _ _ _ _ _
  refine AW.ret ?_
  obtain rfl := Option.some.inj H
  exact And.intro rfl (Exists.intro _ (Exists.intro _ ⟨ResV.oneW rfl (.refl _), Sub.at [] rfl, rfl, rfl⟩))
set_option maxRecDepth 100000 in
set_option maxHeartbeats 1000000 in
theorem w_ref01_Ord (F : Nat) (a1 : Int) (a2 : Int) (a3 : Int) (r4 : Int) (r5 : Int) (H : ref01_Ord F a1 a2 a3 = some (r4, r5)) : ACalls Tryz.prog 46 [i64 a1, i64 a2, i64 a3] [] (Ret (.tup [i64 r4, i64 r5]) []) := by
  unfold ref01_Ord at H
  refine ACalls.of_body Tryz.func46 rfl rfl ?_
  show AW _ _ 43 _ _ _
  refine AW.seq ?_
  refine AW.region ?_
  show AR _ _ _ _ _ [0, 1] _
  refine sS rfl rfl rfl (asg rfl) ?_
  refine sS rfl rfl rfl (asg rfl) ?_
  refine AR.nil ?_
  show AW _ _ _ _ _ _
  refine AW.seq ?_
  refine AW.seq ?_
  obtain ⟨x9, e10, H⟩ := bndc_s H
  refine AW.region ?_
  show AR _ _ _ _ _ [0, 1, 2, 3, 4, 5, 6, 7, 8, 9, 10, 11, 12, 13, 14, 15, 16] _
  refine sS rfl rfl rfl (mv rfl) ?_
  refine sS rfl rfl rfl (opS_lt rfl rfl) ?_
  refine sS rfl rfl rfl (mv rfl) ?_
  refine AR.meet (l := [6, 7, 8, 9, 10, 11, 12, 13, 14, 15, 16]) 15 (B ((decide (a1 < 1)) || (decide (9999 < a1)))) (fun K => ?_) ?_
  · rcases Bool.eq_false_or_eq_true (decide (a1 < 1)) with h6 | h6
    ·
      refine gF h6 rfl rfl rfl rfl rfl ?_
      refine gF h6 rfl rfl rfl rfl rfl ?_
      refine sS rfl rfl rfl (opS_pick_t (av := .v _) rfl h6 rfl) ?_
      exact K _ 2 _ (B_congr (or_t h6)) rfl rfl
    ·
      refine gT h6 rfl rfl rfl rfl rfl rfl (AO.ops rfl rfl (mv rfl) ?_)
      refine gT h6 rfl rfl rfl rfl rfl rfl (AO.ops rfl rfl (opS_gt rfl rfl) ?_)
      refine sS rfl rfl rfl (opS_pick_f (av := .v _) rfl h6 rfl) ?_
      exact K _ 2 _ (B_congr (or_f h6)) rfl rfl
  refine sS rfl rfl rfl (mv rfl) ?_
  refine AR.meet (l := [10, 11, 12, 13, 14, 15, 16]) 19 (B (((decide (a1 < 1)) || (decide (9999 < a1))) || (decide (a3 < 1)))) (fun K => ?_) ?_
  · rcases Bool.eq_false_or_eq_true ((decide (a1 < 1)) || (decide (9999 < a1))) with h7 | h7
    ·
      refine gF h7 rfl rfl rfl rfl rfl ?_
      refine gF h7 rfl rfl rfl rfl rfl ?_
      refine sS rfl rfl rfl (opS_pick_t (av := .v _) rfl h7 rfl) ?_
      exact K _ 2 _ (B_congr (or_t h7)) rfl rfl
    ·
      refine gT h7 rfl rfl rfl rfl rfl rfl (AO.ops rfl rfl (mv rfl) ?_)
      refine gT h7 rfl rfl rfl rfl rfl rfl (AO.ops rfl rfl (opS_lt rfl rfl) ?_)
      refine sS rfl rfl rfl (opS_pick_f (av := .v _) rfl h7 rfl) ?_
      exact K _ 2 _ (B_congr (or_f h7)) rfl rfl
  refine sS rfl rfl rfl (mv rfl) ?_
  refine AR.meet (l := []) 26 (B ((((decide (a1 < 1)) || (decide (9999 < a1))) || (decide (a3 < 1))) || (decide (x9 < a3)))) (fun K => ?_) ?_
  · rcases Bool.eq_false_or_eq_true (((decide (a1 < 1)) || (decide (9999 < a1))) || (decide (a3 < 1))) with h8 | h8
    ·
      refine gF h8 rfl rfl rfl rfl rfl ?_
      refine gF h8 rfl rfl rfl rfl rfl ?_
      refine gF h8 rfl rfl rfl rfl rfl ?_
      refine gF h8 rfl rfl rfl rfl rfl ?_
      refine gF h8 rfl rfl rfl rfl rfl ?_
      refine sS rfl rfl rfl (opS_pick_t (av := .v _) rfl h8 rfl) ?_
      exact K _ 5 _ (B_congr (or_t h8)) rfl rfl
    ·
      refine gT h8 rfl rfl rfl rfl rfl rfl (AO.ops rfl rfl (mv rfl) ?_)
      refine gT h8 rfl rfl rfl rfl rfl rfl (AO.ops rfl rfl (mv rfl) ?_)
      refine gT h8 rfl rfl rfl rfl rfl rfl (AO.ops rfl rfl (mv rfl) ?_)
      refine gT h8 rfl rfl rfl rfl rfl rfl (AO.callp rfl en59_crons rfl (w_ref01_Days F a1 a2 x9 (e10 (nf h8))) ?_)
      refine gT h8 rfl rfl rfl rfl rfl rfl (AO.ops rfl rfl (opS_gt rfl rfl) ?_)
      refine sS rfl rfl rfl (opS_pick_f (av := .v _) rfl h8 rfl) ?_
      exact K _ 5 _ (B_congr (or_f h8)) rfl rfl
  refine AR.nil ?_
  show AW _ _ _ _ _ _
  refine AW.cond rfl (fun c11 => ?_) (fun c11 => ?_)
  · replace H := cnd_t c11 H
    refine AW.seq ?_
    refine AW.region ?_
    show AR _ _ _ _ _ [0, 1] _
    refine sS rfl rfl rfl (asg rfl) ?_
    refine sS rfl rfl rfl (asg rfl) ?_
    refine AR.nil ?_
    show AW _ _ _ _ _ _
    refine AW.ret ?_
    obtain ⟨rfl, rfl⟩ := res2 H
    exact And.intro rfl (Exists.intro _ (Exists.intro _ ⟨ResV.twoW rfl (.refl _) (.refl _), Sub.at [] rfl, rfl, rfl⟩))
  · replace H := cnd_f c11 H
    refine AW.skip ?_
    show AW _ _ _ _ _ _
    refine AW.seq ?_
    obtain ⟨x12, e13, H⟩ := bnd_s H
    refine AW.region ?_
    show AR _ _ _ _ _ [0, 1, 2] _
    refine sS rfl rfl rfl (mv rfl) ?_
    refine AR.run rfl rfl (AO.callp rfl en60_crons rfl (w_ref01_Start F a1 x12 e13) ?_)
    refine sS rfl rfl rfl (asg rfl) ?_
    refine AR.nil ?_
    show AW _ _ _ _ _ _
    refine AW.cut (X := Int) (fun y23 => ⟨[(2, i64 a3), (8, i64 y23)], [], []⟩) (fun y23 => ref01_Ord_j1 a3 y23 = some (r4, r5)) ?_ ?_
    ·
      refine AW.seq ?_
      refine AW.region ?_
      show AR _ _ _ _ _ [0] _
      refine sS rfl rfl rfl (asg rfl) ?_
      refine AR.nil ?_
      show AW _ _ _ _ _ _
      refine AW.block ?_
      refine AW.loop (X := Nat × Int × Int) (fun (n17, y14, y15) => ⟨[(0, i64 a1), (1, i64 a2), (2, i64 a3), (8, i64 y14), (9, i64 y15)], [], []⟩) (fun (n17, y14, y15) => ref01_Ord_L1 F a1 a2 a3 n17 (y14, y15) = some (r4, r5)) (fun (n17, y14, y15) => n17) (F, x12, 1) H (WK.at [] (.cons (.refl _) (.cons (.refl _) (.cons (.refl _) (.cons (.refl _) (.cons (.refl _) (.nil _)))))) rfl) ?_
      rintro ⟨n17, y14, y15⟩ H
      obtain ⟨n17, rfl, H⟩ := loop_s H
      replace H : ref01_Ord_B1 F a1 a2 a3 (ref01_Ord_L1 F a1 a2 a3 n17) y14 y15 = some (r4, r5) := H
      unfold ref01_Ord_B1 at H
      show AW _ _ _ _ _ _
      refine AW.seq ?_
      refine AW.seq ?_
      refine AW.region ?_
      show AR _ _ _ _ _ [0, 1, 2] _
      refine sS rfl rfl rfl (mv rfl) ?_
      refine sS rfl rfl rfl (mv rfl) ?_
      refine sS rfl rfl rfl (opS_lt rfl rfl) ?_
      refine AR.nil ?_
      show AW _ _ _ _ _ _
      refine AW.cond rfl (fun c18 => ?_) (fun c18 => ?_)
      · replace H := cnd_t c18 H
        refine AW.skip ?_
        show AW _ _ _ _ _ _
        refine AW.seq ?_
        refine AW.block ?_
        obtain ⟨x19, e20, H⟩ := bnd_s H
        obtain ⟨g21, H⟩ := grd_s H
        refine AW.region ?_
        show AR _ _ _ _ _ [0, 1, 2, 3, 4, 5] _
        refine sS rfl rfl rfl (mv rfl) ?_
        refine sS rfl rfl rfl (mv rfl) ?_
        refine sS rfl rfl rfl (mv rfl) ?_
        refine AR.run rfl rfl (AO.callp rfl en59_crons rfl (w_ref01_Days F a1 y15 x19 e20) ?_)
        refine sS rfl rfl rfl (g_add rfl rfl g21) ?_
        refine sS rfl rfl rfl (asg rfl) ?_
        refine AR.nil ?_
        show AW _ _ _ _ _ _
        obtain ⟨g22, H⟩ := grd_s H
        refine AW.region ?_
        show AR _ _ _ _ _ [0, 1, 2] _
        refine sS rfl rfl rfl (mv rfl) ?_
        refine sS rfl rfl rfl (g_add rfl rfl g22) ?_
        refine sS rfl rfl rfl (asg rfl) ?_
        refine AR.nil ?_
        exact Exists.intro (n17, y14 + x19, y15 + 1) ⟨H, Nat.lt_succ_self _, WK.at [] (.cons (.refl _) (.cons (.refl _) (.cons (.refl _) (.cons (.refl _) (.cons (.refl _) (.nil _)))))) rfl⟩
      · replace H := cnd_f c18 H
        refine AW.exit ?_
        exact Exists.intro y14 ⟨H, WK.at [] (.cons (.refl _) (.cons (.refl _) (.nil _))) rfl⟩
    rintro y23 H
    replace H : ref01_Ord_j1 a3 y23 = some (r4, r5) := H
    unfold ref01_Ord_j1 at H
    show AW _ _ _ _ _ _
    refine AW.seq ?_
    obtain ⟨g25, H⟩ := grd_s H
    obtain ⟨g26, H⟩ := grd_s H
    refine AW.region ?_
    show AR _ _ _ _ _ [0, 1, 2, 3, 4, 5] _
    refine sS rfl rfl rfl (mv rfl) ?_
    refine sS rfl rfl rfl (mv rfl) ?_
    refine sS rfl rfl rfl (g_add rfl rfl g25) ?_
    refine sS rfl rfl rfl (g_sub rfl rfl g26) ?_
    refine sS rfl rfl rfl (asg rfl) ?_
    refine sS rfl rfl rfl (asg rfl) ?_
    refine AR.nil ?_
    show AW _ _ _ _ _ _
    refine AW.ret ?_
    obtain ⟨rfl, rfl⟩ := res2 H
    exact And.intro rfl (Exists.intro _ (Exists.intro _ ⟨ResV.twoW rfl (.refl _) (.refl _), Sub.at [] rfl, rfl, rfl⟩))
set_option maxRecDepth 100000 in
set_option maxHeartbeats 1000000 in
theorem w_ref01_Wday (F : Nat) (a1 : Int) (r2 : Int) (H : ref01_Wday F a1 = some r2) : ACalls Tryz.prog 47 [i64 a1] [] (Ret (i64 r2) []) := by
  unfold ref01_Wday at H
  refine ACalls.of_body Tryz.func47 rfl rfl ?_
  show AW _ _ 18 _ _ _
  refine AW.seq ?_
  refine AW.region ?_
  show AR _ _ _ _ _ [0] _
  refine sS rfl rfl rfl (asg rfl) ?_
  refine AR.nil ?_
  show AW _ _ _ _ _ _
  refine AW.seq ?_
  refine AW.seq ?_
  refine AW.region ?_
  show AR _ _ _ _ _ [0, 1, 2, 3, 4, 5] _
  refine sS rfl rfl rfl (mv rfl) ?_
  refine sS rfl rfl rfl (opS_lt rfl rfl) ?_
  refine sS rfl rfl rfl (mv rfl) ?_
  refine AR.meet (l := []) 9 (B ((decide (a1 < (-1099511627776))) || (decide (1099511627776 < a1)))) (fun K => ?_) ?_
  · rcases Bool.eq_false_or_eq_true (decide (a1 < (-1099511627776))) with h3 | h3
    ·
      refine gF h3 rfl rfl rfl rfl rfl ?_
      refine gF h3 rfl rfl rfl rfl rfl ?_
      refine sS rfl rfl rfl (opS_pick_t (av := .v _) rfl h3 rfl) ?_
      exact K _ 2 _ (B_congr (or_t h3)) rfl rfl
    ·
      refine gT h3 rfl rfl rfl rfl rfl rfl (AO.ops rfl rfl (mv rfl) ?_)
      refine gT h3 rfl rfl rfl rfl rfl rfl (AO.ops rfl rfl (opS_gt rfl rfl) ?_)
      refine sS rfl rfl rfl (opS_pick_f (av := .v _) rfl h3 rfl) ?_
      exact K _ 2 _ (B_congr (or_f h3)) rfl rfl
  refine AR.nil ?_
  show AW _ _ _ _ _ _
  refine AW.cond rfl (fun c4 => ?_) (fun c4 => ?_)
  · replace H := cnd_t c4 H
    refine AW.seq ?_
    refine AW.region ?_
    show AR _ _ _ _ _ [0] _
    refine sS rfl rfl rfl (asg rfl) ?_
    refine AR.nil ?_
    show AW _ _ _ _ _ _
    refine AW.ret ?_
    obtain rfl := Option.some.inj H
    exact And.intro rfl (Exists.intro _ (Exists.intro _ ⟨ResV.oneW rfl (.refl _), Sub.at [] rfl, rfl, rfl⟩))
  · replace H := cnd_f c4 H
    refine AW.skip ?_
    show AW _ _ _ _ _ _
    refine AW.seq ?_
    obtain ⟨g5, H⟩ := grd_s H
    refine AW.region ?_
    show AR _ _ _ _ _ [0, 1, 2, 3] _
    refine sS rfl rfl rfl (mv rfl) ?_
    refine sS rfl rfl rfl (g_add rfl rfl g5) ?_
    refine sS rfl rfl rfl (opS_remw rfl rfl (by decide)) ?_
    refine sS rfl rfl rfl (asg rfl) ?_
    refine AR.nil ?_
    show AW _ _ _ _ _ _
    refine AW.cut (X := Int) (fun y8 => ⟨[(3, i64 y8)], [], []⟩) (fun y8 => ref01_Wday_j1 y8 = some r2) ?_ ?_
    ·
      refine AW.seq ?_
      refine AW.region ?_
      show AR _ _ _ _ _ [0, 1] _
      refine sS rfl rfl rfl (mv rfl) ?_
      refine sS rfl rfl rfl (opS_lt rfl rfl) ?_
      refine AR.nil ?_
      show AW _ _ _ _ _ _
      refine AW.cond rfl (fun c6 => ?_) (fun c6 => ?_)
      · replace H := cnd_t c6 H
        obtain ⟨g7, H⟩ := grd_s H
        refine AW.region ?_
        show AR _ _ _ _ _ [0, 1, 2] _
        refine sS rfl rfl rfl (mv rfl) ?_
        refine sS rfl rfl rfl (g_add rfl rfl g7) ?_
        refine sS rfl rfl rfl (asg rfl) ?_
        refine AR.nil ?_
        exact Exists.intro ((Int.tmod (a1 + 4) 7) + 7) ⟨H, WK.at [] (.cons (.refl _) (.nil _)) rfl⟩
      · replace H := cnd_f c6 H
        refine AW.skip ?_
        exact Exists.intro (Int.tmod (a1 + 4) 7) ⟨H, WK.at [] (.cons (.refl _) (.nil _)) rfl⟩
    rintro y8 H
    replace H : ref01_Wday_j1 y8 = some r2 := H
    unfold ref01_Wday_j1 at H
    show AW _ _ _ _ _ _
    refine AW.seq ?_
    refine AW.region ?_
    show AR _ _ _ _ _ [0, 1] _
    refine sS rfl rfl rfl (mv rfl) ?_
    refine sS rfl rfl rfl (asg rfl) ?_
    refine AR.nil ?_
    show AW _ _ _ _ _ _
    refine AW.ret ?_
    obtain rfl := Option.some.inj H
    exact And.intro rfl (Exists.intro _ (Exists.intro _ ⟨ResV.oneW rfl (.refl _), Sub.at [] rfl, rfl, rfl⟩))
set_option maxRecDepth 100000 in
set_option maxHeartbeats 1000000 in
theorem w_ref02_May (F : Nat) (a1 : Int) (a2 : Int) (a3 : Int) (a4 : Int) (a5 : Int) (a6 : Int) (r7 : Bool) (H : ref02_May F a1 a2 a3 a4 a5 a6 = some r7) : ACalls Tryz.prog 45 [.agg [i64 a1, i64 a2, i64 a3, i64 a4, i64 a5, i64 a6]] [] (Ret (B r7) []) := by
  unfold ref02_May at H
  refine ACalls.of_body Tryz.func45 rfl rfl ?_
  show AW _ _ 47 _ _ _
  refine AW.seq ?_
  refine AW.region ?_
  show AR _ _ _ _ _ [0, 1] _
  refine sR rfl rfl rfl (opR_boxCp rfl (.inr ⟨_, rfl⟩)) ?_
  refine sS rfl rfl rfl (asg rfl) ?_
  refine AR.nil ?_
  show AW _ _ _ _ _ _
  refine AW.seq ?_
  obtain ⟨x8, x9, e10, H⟩ := bnd2_s H
  refine AW.region ?_
  show AR _ _ _ _ _ [0, 1, 2, 3, 4, 5, 6, 7, 8, 9, 10, 11] _
  refine sS rfl rfl rfl (opS_fieldAddr_cp (n := 0) (by kernel_rfl) rfl (Nat.le_of_ble_eq_true rfl)) ?_
  refine sS rfl rfl rfl (opS_load_cp Tryz.underlying3 rfl rfl) ?_
  refine sS rfl rfl rfl (opS_fieldAddr_cp (n := 1) (by kernel_rfl) rfl (Nat.le_of_ble_eq_true rfl)) ?_
  refine sS rfl rfl rfl (opS_load_cp Tryz.underlying3 rfl rfl) ?_
  refine sS rfl rfl rfl (opS_fieldAddr_cp (n := 2) (by kernel_rfl) rfl (Nat.le_of_ble_eq_true rfl)) ?_
  refine sS rfl rfl rfl (opS_load_cp Tryz.underlying3 rfl rfl) ?_
  refine AR.run rfl rfl (AO.callp rfl en46_crons rfl (w_ref01_Ord F a1 a2 a3 x8 x9 e10) ?_)
  refine sS rfl rfl rfl (opS_move (av := .tup _) rfl) ?_
  refine sS rfl rfl rfl (opS_extract (av := .v _) rfl rfl) ?_
  refine sS rfl rfl rfl (opS_extract (av := .v _) rfl rfl) ?_
  refine sS rfl rfl rfl (asg rfl) ?_
  refine sS rfl rfl rfl (asg rfl) ?_
  refine AR.nil ?_
  show AW _ _ _ _ _ _
  refine AW.seq ?_
  refine AW.region ?_
  show AR _ _ _ _ _ [0, 1, 2, 3, 4, 5, 6, 7, 8, 9, 10, 11, 12, 13, 14, 15, 16, 17, 18, 19, 20, 21, 22, 23, 24, 25, 26, 27, 28, 29, 30, 31, 32] _
  refine sS rfl rfl rfl (mv rfl) ?_
  refine sS rfl rfl rfl (opS_eqi rfl rfl) ?_
  refine sS rfl rfl rfl (mv rfl) ?_
  refine AR.meet (l := [7, 8, 9, 10, 11, 12, 13, 14, 15, 16, 17, 18, 19, 20, 21, 22, 23, 24, 25, 26, 27, 28, 29, 30, 31, 32]) 21 (B ((decide (x9 = 0)) && (decide (0 ≤ a4)))) (fun K => ?_) ?_
  · rcases Bool.eq_false_or_eq_true (decide (x9 = 0)) with h11 | h11
    ·
      refine gT h11 rfl rfl rfl rfl rfl rfl (AO.ops rfl rfl (opS_fieldAddr_cp (n := 3) (by kernel_rfl) rfl (Nat.le_of_ble_eq_true rfl)) ?_)
      refine gT h11 rfl rfl rfl rfl rfl rfl (AO.ops rfl rfl (opS_load_cp Tryz.underlying3 rfl rfl) ?_)
      refine gT h11 rfl rfl rfl rfl rfl rfl (AO.ops rfl rfl (opS_ge rfl rfl) ?_)
      refine sS rfl rfl rfl (opS_pick_t (av := .v _) rfl h11 rfl) ?_
      exact K _ 3 _ (B_congr (and_t h11)) rfl rfl
    ·
      refine gF h11 rfl rfl rfl rfl rfl ?_
      refine gF h11 rfl rfl rfl rfl rfl ?_
      refine gF h11 rfl rfl rfl rfl rfl ?_
      refine sS rfl rfl rfl (opS_pick_f (av := .v _) rfl h11 rfl) ?_
      exact K _ 3 _ (B_congr (and_f h11)) rfl rfl
  refine sS rfl rfl rfl (mv rfl) ?_
  refine AR.meet (l := [12, 13, 14, 15, 16, 17, 18, 19, 20, 21, 22, 23, 24, 25, 26, 27, 28, 29, 30, 31, 32]) 26 (B (((decide (x9 = 0)) && (decide (0 ≤ a4))) && (decide (a4 ≤ 23)))) (fun K => ?_) ?_
  · rcases Bool.eq_false_or_eq_true ((decide (x9 = 0)) && (decide (0 ≤ a4))) with h12 | h12
    ·
      refine gT h12 rfl rfl rfl rfl rfl rfl (AO.ops rfl rfl (opS_fieldAddr_cp (n := 3) (by kernel_rfl) rfl (Nat.le_of_ble_eq_true rfl)) ?_)
      refine gT h12 rfl rfl rfl rfl rfl rfl (AO.ops rfl rfl (opS_load_cp Tryz.underlying3 rfl rfl) ?_)
      refine gT h12 rfl rfl rfl rfl rfl rfl (AO.ops rfl rfl (opS_le rfl rfl) ?_)
      refine sS rfl rfl rfl (opS_pick_t (av := .v _) rfl h12 rfl) ?_
      exact K _ 3 _ (B_congr (and_t h12)) rfl rfl
    ·
      refine gF h12 rfl rfl rfl rfl rfl ?_
      refine gF h12 rfl rfl rfl rfl rfl ?_
      refine gF h12 rfl rfl rfl rfl rfl ?_
      refine sS rfl rfl rfl (opS_pick_f (av := .v _) rfl h12 rfl) ?_
      exact K _ 3 _ (B_congr (and_f h12)) rfl rfl
  refine sS rfl rfl rfl (mv rfl) ?_
  refine AR.meet (l := [17, 18, 19, 20, 21, 22, 23, 24, 25, 26, 27, 28, 29, 30, 31, 32]) 31 (B ((((decide (x9 = 0)) && (decide (0 ≤ a4))) && (decide (a4 ≤ 23))) && (decide (0 ≤ a5)))) (fun K => ?_) ?_
  · rcases Bool.eq_false_or_eq_true (((decide (x9 = 0)) && (decide (0 ≤ a4))) && (decide (a4 ≤ 23))) with h13 | h13
    ·
      refine gT h13 rfl rfl rfl rfl rfl rfl (AO.ops rfl rfl (opS_fieldAddr_cp (n := 4) (by kernel_rfl) rfl (Nat.le_of_ble_eq_true rfl)) ?_)
      refine gT h13 rfl rfl rfl rfl rfl rfl (AO.ops rfl rfl (opS_load_cp Tryz.underlying3 rfl rfl) ?_)
      refine gT h13 rfl rfl rfl rfl rfl rfl (AO.ops rfl rfl (opS_ge rfl rfl) ?_)
      refine sS rfl rfl rfl (opS_pick_t (av := .v _) rfl h13 rfl) ?_
      exact K _ 3 _ (B_congr (and_t h13)) rfl rfl
    ·
      refine gF h13 rfl rfl rfl rfl rfl ?_
      refine gF h13 rfl rfl rfl rfl rfl ?_
      refine gF h13 rfl rfl rfl rfl rfl ?_
      refine sS rfl rfl rfl (opS_pick_f (av := .v _) rfl h13 rfl) ?_
      exact K _ 3 _ (B_congr (and_f h13)) rfl rfl
  refine sS rfl rfl rfl (mv rfl) ?_
  refine AR.meet (l := [22, 23, 24, 25, 26, 27, 28, 29, 30, 31, 32]) 36 (B (((((decide (x9 = 0)) && (decide (0 ≤ a4))) && (decide (a4 ≤ 23))) && (decide (0 ≤ a5))) && (decide (a5 ≤ 59)))) (fun K => ?_) ?_
  · rcases Bool.eq_false_or_eq_true ((((decide (x9 = 0)) && (decide (0 ≤ a4))) && (decide (a4 ≤ 23))) && (decide (0 ≤ a5))) with h14 | h14
    ·
      refine gT h14 rfl rfl rfl rfl rfl rfl (AO.ops rfl rfl (opS_fieldAddr_cp (n := 4) (by kernel_rfl) rfl (Nat.le_of_ble_eq_true rfl)) ?_)
      refine gT h14 rfl rfl rfl rfl rfl rfl (AO.ops rfl rfl (opS_load_cp Tryz.underlying3 rfl rfl) ?_)
      refine gT h14 rfl rfl rfl rfl rfl rfl (AO.ops rfl rfl (opS_le rfl rfl) ?_)
      refine sS rfl rfl rfl (opS_pick_t (av := .v _) rfl h14 rfl) ?_
      exact K _ 3 _ (B_congr (and_t h14)) rfl rfl
    ·
      refine gF h14 rfl rfl rfl rfl rfl ?_
      refine gF h14 rfl rfl rfl rfl rfl ?_
      refine gF h14 rfl rfl rfl rfl rfl ?_
      refine sS rfl rfl rfl (opS_pick_f (av := .v _) rfl h14 rfl) ?_
      exact K _ 3 _ (B_congr (and_f h14)) rfl rfl
  refine sS rfl rfl rfl (mv rfl) ?_
  refine AR.meet (l := [27, 28, 29, 30, 31, 32]) 41 (B ((((((decide (x9 = 0)) && (decide (0 ≤ a4))) && (decide (a4 ≤ 23))) && (decide (0 ≤ a5))) && (decide (a5 ≤ 59))) && (decide (0 ≤ a6)))) (fun K => ?_) ?_
  · rcases Bool.eq_false_or_eq_true (((((decide (x9 = 0)) && (decide (0 ≤ a4))) && (decide (a4 ≤ 23))) && (decide (0 ≤ a5))) && (decide (a5 ≤ 59))) with h15 | h15
    ·
      refine gT h15 rfl rfl rfl rfl rfl rfl (AO.ops rfl rfl (opS_fieldAddr_cp (n := 5) (by kernel_rfl) rfl (Nat.le_of_ble_eq_true rfl)) ?_)
      refine gT h15 rfl rfl rfl rfl rfl rfl (AO.ops rfl rfl (opS_load_cp Tryz.underlying3 rfl rfl) ?_)
      refine gT h15 rfl rfl rfl rfl rfl rfl (AO.ops rfl rfl (opS_ge rfl rfl) ?_)
      refine sS rfl rfl rfl (opS_pick_t (av := .v _) rfl h15 rfl) ?_
      exact K _ 3 _ (B_congr (and_t h15)) rfl rfl
    ·
      refine gF h15 rfl rfl rfl rfl rfl ?_
      refine gF h15 rfl rfl rfl rfl rfl ?_
      refine gF h15 rfl rfl rfl rfl rfl ?_
      refine sS rfl rfl rfl (opS_pick_f (av := .v _) rfl h15 rfl) ?_
      exact K _ 3 _ (B_congr (and_f h15)) rfl rfl
  refine sS rfl rfl rfl (mv rfl) ?_
  refine AR.meet (l := [32]) 46 (B (((((((decide (x9 = 0)) && (decide (0 ≤ a4))) && (decide (a4 ≤ 23))) && (decide (0 ≤ a5))) && (decide (a5 ≤ 59))) && (decide (0 ≤ a6))) && (decide (a6 ≤ 59)))) (fun K => ?_) ?_
  · rcases Bool.eq_false_or_eq_true ((((((decide (x9 = 0)) && (decide (0 ≤ a4))) && (decide (a4 ≤ 23))) && (decide (0 ≤ a5))) && (decide (a5 ≤ 59))) && (decide (0 ≤ a6))) with h16 | h16
    ·
      refine gT h16 rfl rfl rfl rfl rfl rfl (AO.ops rfl rfl (opS_fieldAddr_cp (n := 5) (by kernel_rfl) rfl (Nat.le_of_ble_eq_true rfl)) ?_)
      refine gT h16 rfl rfl rfl rfl rfl rfl (AO.ops rfl rfl (opS_load_cp Tryz.underlying3 rfl rfl) ?_)
      refine gT h16 rfl rfl rfl rfl rfl rfl (AO.ops rfl rfl (opS_le rfl rfl) ?_)
      refine sS rfl rfl rfl (opS_pick_t (av := .v _) rfl h16 rfl) ?_
      exact K _ 3 _ (B_congr (and_t h16)) rfl rfl
    ·
      refine gF h16 rfl rfl rfl rfl rfl ?_
      refine gF h16 rfl rfl rfl rfl rfl ?_
      refine gF h16 rfl rfl rfl rfl rfl ?_
      refine sS rfl rfl rfl (opS_pick_f (av := .v _) rfl h16 rfl) ?_
      exact K _ 3 _ (B_congr (and_f h16)) rfl rfl
  refine sS rfl rfl rfl (asg rfl) ?_
  refine AR.nil ?_
  show AW _ _ _ _ _ _
  refine AW.ret ?_
  obtain rfl := Option.some.inj H
  exact And.intro rfl (Exists.intro _ (Exists.intro _ ⟨ResV.oneW rfl (.refl _), Sub.at [] rfl, rfl, rfl⟩))
set_option maxRecDepth 100000 in
set_option maxHeartbeats 1000000 in
theorem w_ref03_Number (F : Nat) (a1 : Int) (r2 : List UInt8) (H : ref03_Number F a1 = some r2) : ACalls Tryz.prog 44 [i64 a1] [] (Ret (S r2) []) := by
  unfold ref03_Number at H
  refine ACalls.of_body Tryz.func44 rfl rfl ?_
  show AW _ _ 25 _ _ _
  refine AW.seq ?_
  refine AW.region ?_
  show AR _ _ _ _ _ [0] _
  refine sS rfl rfl rfl (asg rfl) ?_
  refine AR.nil ?_
  show AW _ _ _ _ _ _
  refine AW.seq ?_
  obtain ⟨g3, H⟩ := grd_s H
  obtain ⟨g4, H⟩ := grd_s H
  obtain ⟨g5, H⟩ := grd_s H
  obtain ⟨g6, H⟩ := grd_s H
  obtain ⟨x7, e8, H⟩ := lt_s H
  refine AW.region ?_
  show AR _ _ _ _ _ [0, 1, 2, 3, 4, 5, 6] _
  refine sS rfl rfl rfl (mv rfl) ?_
  refine sS rfl rfl rfl (g_rem rfl rfl g3) ?_
  refine sS rfl rfl rfl (mv rfl) ?_
  refine sS rfl rfl rfl (g_rem rfl rfl g4) ?_
  refine sS rfl rfl rfl (g_add rfl rfl g5) ?_
  refine sS rfl rfl rfl (g_slice_str Tryz.underlying9 rfl rfl rfl g6 e8) ?_
  refine sS rfl rfl rfl (asg rfl) ?_
  refine AR.nil ?_
  show AW _ _ _ _ _ _
  refine AW.cut (X := (List UInt8)) (fun y25 => ⟨[(3, S y25)], [], []⟩) (fun y25 => ref03_Number_j1 y25 = some r2) ?_ ?_
  ·
    refine AW.seq ?_
    obtain ⟨g9, H⟩ := grd_s H
    refine AW.region ?_
    show AR _ _ _ _ _ [0, 1, 2] _
    refine sS rfl rfl rfl (mv rfl) ?_
    refine sS rfl rfl rfl (g_quo rfl rfl g9) ?_
    refine sS rfl rfl rfl (asg rfl) ?_
    refine AR.nil ?_
    show AW _ _ _ _ _ _
    refine AW.block ?_
    refine AW.loop (X := Nat × Int × (List UInt8)) (fun (n13, y10, y11) => ⟨[(0, i64 y10), (3, S y11)], [], []⟩) (fun (n13, y10, y11) => ref03_Number_L1 n13 (y10, y11) = some r2) (fun (n13, y10, y11) => n13) (F, a1 / 10, x7) H (WK.at [] (.cons (.refl _) (.cons (.refl _) (.nil _))) rfl) ?_
    rintro ⟨n13, y10, y11⟩ H
    obtain ⟨n13, rfl, H⟩ := loop_s H
    replace H : ref03_Number_B1 (ref03_Number_L1 n13) y10 y11 = some r2 := H
    unfold ref03_Number_B1 at H
    show AW _ _ _ _ _ _
    refine AW.seq ?_
    refine AW.seq ?_
    refine AW.region ?_
    show AR _ _ _ _ _ [0, 1] _
    refine sS rfl rfl rfl (mv rfl) ?_
    refine sS rfl rfl rfl (opS_gt rfl rfl) ?_
    refine AR.nil ?_
    show AW _ _ _ _ _ _
    refine AW.cond rfl (fun c14 => ?_) (fun c14 => ?_)
    · replace H := cnd_t c14 H
      refine AW.skip ?_
      show AW _ _ _ _ _ _
      refine AW.seq ?_
      refine AW.block ?_
      obtain ⟨g15, H⟩ := grd_s H
      obtain ⟨g16, H⟩ := grd_s H
      obtain ⟨g17, H⟩ := grd_s H
      obtain ⟨g18, H⟩ := grd_s H
      obtain ⟨x19, e20, H⟩ := lt_s H
      obtain ⟨g21, H⟩ := grd_s H
      obtain ⟨x22, e23, H⟩ := lt_s H
      refine AW.region ?_
      show AR _ _ _ _ _ [0, 1, 2, 3, 4, 5, 6, 7, 8] _
      refine sS rfl rfl rfl (mv rfl) ?_
      refine sS rfl rfl rfl (g_rem rfl rfl g15) ?_
      refine sS rfl rfl rfl (mv rfl) ?_
      refine sS rfl rfl rfl (g_rem rfl rfl g16) ?_
      refine sS rfl rfl rfl (g_add rfl rfl g17) ?_
      refine sS rfl rfl rfl (g_slice_str Tryz.underlying9 rfl rfl rfl g18 e20) ?_
      refine sS rfl rfl rfl (mv rfl) ?_
      refine sS rfl rfl rfl (g_cat rfl rfl g21 e23) ?_
      refine sS rfl rfl rfl (asg rfl) ?_
      refine AR.nil ?_
      show AW _ _ _ _ _ _
      obtain ⟨g24, H⟩ := grd_s H
      refine AW.region ?_
      show AR _ _ _ _ _ [0, 1, 2] _
      refine sS rfl rfl rfl (mv rfl) ?_
      refine sS rfl rfl rfl (g_quo rfl rfl g24) ?_
      refine sS rfl rfl rfl (asg rfl) ?_
      refine AR.nil ?_
      exact Exists.intro (n13, y10 / 10, x22) ⟨H, Nat.lt_succ_self _, WK.at [] (.cons (.refl _) (.cons (.refl _) (.nil _))) rfl⟩
    · replace H := cnd_f c14 H
      refine AW.exit ?_
      exact Exists.intro y11 ⟨H, WK.at [] (.cons (.refl _) (.nil _)) rfl⟩
  rintro y25 H
  replace H : ref03_Number_j1 y25 = some r2 := H
  unfold ref03_Number_j1 at H
  show AW _ _ _ _ _ _
  refine AW.seq ?_
  refine AW.region ?_
  show AR _ _ _ _ _ [0, 1] _
  refine sS rfl rfl rfl (mv rfl) ?_
  refine sS rfl rfl rfl (asg rfl) ?_
  refine AR.nil ?_
  show AW _ _ _ _ _ _
  refine AW.ret ?_
  obtain rfl := Option.some.inj H
  exact And.intro rfl (Exists.intro _ (Exists.intro _ ⟨ResV.oneW rfl (.refl _), Sub.at [] rfl, rfl, rfl⟩))
set_option maxRecDepth 100000 in
set_option maxHeartbeats 1000000 in
theorem w_ref05_Day (F : Nat) (a1 : List Int) (a2 : List Int) (a3 : List Int) (a4 : List Int) (a5 : List Int) (a6 : Bool) (a7 : Bool) (a8 : Bool) (a9 : Bool) (a10 : Bool) (a11 : Int) (a12 : Int) (a13 : Int) (r14 : Bool) (H : ref05_Day F a1 a2 a3 a4 a5 a6 a7 a8 a9 a10 a11 a12 a13 = some r14) : ACalls Tryz.prog 26 [.agg [slE Enc.int a1 none, slE Enc.int a2 none, slE Enc.int a3 none, slE Enc.int a4 none, slE Enc.int a5 none, B a6, B a7, B a8, B a9, B a10], i64 a11, i64 a12, i64 a13] [] (Ret (B r14) []) := by
  unfold ref05_Day at H
  refine ACalls.of_body Tryz.func26 rfl rfl ?_
  show AW _ _ 70 _ _ _
  refine AW.seq ?_
  refine AW.region ?_
  show AR _ _ _ _ _ [0, 1] _
  refine sR rfl rfl rfl (opR_boxCp rfl (.inr ⟨_, rfl⟩)) ?_
  refine sS rfl rfl rfl (asg rfl) ?_
  refine AR.nil ?_
  show AW _ _ _ _ _ _
  refine AW.seq ?_
  obtain ⟨x15, e16, H⟩ := bnd_s H
  refine AW.region ?_
  show AR _ _ _ _ _ [0, 1, 2] _
  refine sS rfl rfl rfl (opS_load_cp_agg Tryz.underlying27 rfl (n := 10) (by kernel_rfl) rfl (Nat.le_of_ble_eq_true rfl)) ?_
  refine AR.run rfl rfl (AO.callp rfl en24_crons rfl (w_ref05_May F a1 a2 a3 a4 a5 a6 a7 a8 a9 a10 x15 e16) ?_)
  refine sS rfl rfl rfl (asg rfl) ?_
  refine AR.nil ?_
  show AW _ _ _ _ _ _
  refine AW.seq ?_
  obtain ⟨x17, x18, e19, H⟩ := bnd2_s H
  refine AW.region ?_
  show AR _ _ _ _ _ [0, 1, 2, 3, 4, 5, 6, 7, 8] _
  refine sS rfl rfl rfl (mv rfl) ?_
  refine sS rfl rfl rfl (mv rfl) ?_
  refine sS rfl rfl rfl (mv rfl) ?_
  refine AR.run rfl rfl (AO.callp rfl en46_crons rfl (w_ref01_Ord F a11 a12 a13 x17 x18 e19) ?_)
  refine sS rfl rfl rfl (opS_move (av := .tup _) rfl) ?_
  refine sS rfl rfl rfl (opS_extract (av := .v _) rfl rfl) ?_
  refine sS rfl rfl rfl (opS_extract (av := .v _) rfl rfl) ?_
  refine sS rfl rfl rfl (asg rfl) ?_
  refine sS rfl rfl rfl (asg rfl) ?_
  refine AR.nil ?_
  show AW _ _ _ _ _ _
  refine AW.seq ?_
  refine AW.seq ?_
  refine AW.region ?_
  show AR _ _ _ _ _ [0, 1, 2, 3, 4, 5] _
  refine sS rfl rfl rfl (mv rfl) ?_
  refine sS rfl rfl rfl (opS_not rfl) ?_
  refine sS rfl rfl rfl (mv rfl) ?_
  refine AR.meet (l := []) 29 (B ((!x15) || (!decide (x18 = 0)))) (fun K => ?_) ?_
  · rcases Bool.eq_false_or_eq_true (!x15) with h20 | h20
    ·
      refine gF h20 rfl rfl rfl rfl rfl ?_
      refine gF h20 rfl rfl rfl rfl rfl ?_
      refine sS rfl rfl rfl (opS_pick_t (av := .v _) rfl h20 rfl) ?_
      exact K _ 2 _ (B_congr (or_t h20)) rfl rfl
    ·
      refine gT h20 rfl rfl rfl rfl rfl rfl (AO.ops rfl rfl (mv rfl) ?_)
      refine gT h20 rfl rfl rfl rfl rfl rfl (AO.ops rfl rfl (opS_nei rfl rfl) ?_)
      refine sS rfl rfl rfl (opS_pick_f (av := .v _) rfl h20 rfl) ?_
      exact K _ 2 _ (B_congr (or_f h20)) rfl rfl
  refine AR.nil ?_
  show AW _ _ _ _ _ _
  refine AW.cond rfl (fun c21 => ?_) (fun c21 => ?_)
  · replace H := cnd_t c21 H
    refine AW.seq ?_
    refine AW.region ?_
    show AR _ _ _ _ _ [0] _
    refine sS rfl rfl rfl (asg rfl) ?_
    refine AR.nil ?_
    show AW _ _ _ _ _ _
    refine AW.ret ?_
    obtain rfl := Option.some.inj H
    exact And.intro rfl (Exists.intro _ (Exists.intro _ ⟨ResV.oneW rfl (.refl _), Sub.at [] rfl, rfl, rfl⟩))
  · replace H := cnd_f c21 H
    refine AW.skip ?_
    show AW _ _ _ _ _ _
    refine AW.seq ?_
    obtain ⟨x22, e23, H⟩ := bnd_s H
    refine AW.region ?_
    show AR _ _ _ _ _ [0, 1, 2, 3, 4, 5] _
    refine sS rfl rfl rfl (opS_fieldAddr_cp (n := 0) (by kernel_rfl) rfl (Nat.le_of_ble_eq_true rfl)) ?_
    refine sS rfl rfl rfl (opS_indexAddr_arr_cp (k := 1) (m := 3) Tryz.underlying24 (by kernel_rfl) rfl rfl rfl (by decide) (Nat.le_of_ble_eq_true rfl)) ?_
    refine sS rfl rfl rfl (opS_load_cp Tryz.underlying23 rfl rfl) ?_
    refine sS rfl rfl rfl (mv rfl) ?_
    refine AR.run rfl rfl (AO.callp rfl en17_crons rfl (w_ref05_Has F a4 none a12 x22 e23) ?_)
    refine sS rfl rfl rfl (asg rfl) ?_
    refine AR.nil ?_
    show AW _ _ _ _ _ _
    refine AW.seq ?_
    obtain ⟨x24, e25, H⟩ := bnd_s H
    refine AW.region ?_
    show AR _ _ _ _ _ [0, 1, 2, 3, 4, 5] _
    refine sS rfl rfl rfl (opS_fieldAddr_cp (n := 0) (by kernel_rfl) rfl (Nat.le_of_ble_eq_true rfl)) ?_
    refine sS rfl rfl rfl (opS_indexAddr_arr_cp (k := 1) (m := 2) Tryz.underlying24 (by kernel_rfl) rfl rfl rfl (by decide) (Nat.le_of_ble_eq_true rfl)) ?_
    refine sS rfl rfl rfl (opS_load_cp Tryz.underlying23 rfl rfl) ?_
    refine sS rfl rfl rfl (mv rfl) ?_
    refine AR.run rfl rfl (AO.callp rfl en17_crons rfl (w_ref05_Has F a3 none a13 x24 e25) ?_)
    refine sS rfl rfl rfl (asg rfl) ?_
    refine AR.nil ?_
    show AW _ _ _ _ _ _
    refine AW.seq ?_
    obtain ⟨x26, e27, H⟩ := bnd_s H
    obtain ⟨x28, e29, H⟩ := bnd_s H
    refine AW.region_draw (by kernel_rfl) ?_
    show AI _ _ _ _ 7 (Array.replicate 7 false) _
    refine AI.take (i := 0) rfl rfl (by kernel_rfl) (by kernel_rfl) (by kernel_rfl) (fun _ _ h => h) (opS_fieldAddr_cp (n := 0) (by kernel_rfl) rfl (Nat.le_of_ble_eq_true rfl)) ?_
    show AI _ _ _ _ _ #[true, false, false, false, false, false, false] _
    refine AI.take (i := 1) rfl rfl (by kernel_rfl) (by kernel_rfl) (by kernel_rfl) (fun _ _ h => h) (opS_indexAddr_arr_cp (k := 1) (m := 4) Tryz.underlying24 (by kernel_rfl) rfl rfl rfl (by decide) (Nat.le_of_ble_eq_true rfl)) ?_
    show AI _ _ _ _ _ #[true, true, false, false, false, false, false] _
    refine AI.take (i := 2) rfl rfl (by kernel_rfl) (by kernel_rfl) (by kernel_rfl) (fun _ _ h => h) (opS_load_cp Tryz.underlying23 rfl rfl) ?_
    show AI _ _ _ _ _ #[true, true, true, false, false, false, false] _
    refine AI.take (i := 3) rfl rfl (by kernel_rfl) (by kernel_rfl) (by kernel_rfl) (fun _ _ h => h) (mv rfl) ?_
    show AI _ _ _ _ _ #[true, true, true, true, false, false, false] _
    refine AI.one (i := 4) (by kernel_rfl) rfl rfl ?_
    refine AIO.callp rfl en47_crons rfl (w_ref01_Wday F x17 x26 e27) ?_
    show AI _ _ _ _ _ #[true, true, true, true, true, false, false] _
    refine AI.one (i := 5) (by kernel_rfl) rfl rfl ?_
    refine AIO.callp rfl en17_crons rfl (w_ref05_Has F a5 none x26 x28 e29) ?_
    show AI _ _ _ _ _ #[true, true, true, true, true, true, false] _
    refine AI.take (i := 6) rfl rfl (by kernel_rfl) (by kernel_rfl) (by kernel_rfl) (fun _ _ h => h) (asg rfl) ?_
    show AI _ _ _ _ _ #[true, true, true, true, true, true, true] _
    refine AI.done rfl ?_
    show AW _ _ _ _ _ _
    refine AW.seq ?_
    refine AW.seq ?_
    refine AW.region ?_
    show AR _ _ _ _ _ [0, 1, 2, 3, 4, 5, 6, 7, 8, 9] _
    refine sS rfl rfl rfl (opS_fieldAddr_cp (n := 5) (by kernel_rfl) rfl (Nat.le_of_ble_eq_true rfl)) ?_
    refine sS rfl rfl rfl (opS_indexAddr_arr_cp (k := 1) (m := 2) Tryz.underlying25 (by kernel_rfl) rfl rfl rfl (by decide) (Nat.le_of_ble_eq_true rfl)) ?_
    refine sS rfl rfl rfl (opS_load_cp Tryz.underlying4 rfl rfl) ?_
    refine sS rfl rfl rfl (opS_not rfl) ?_
    refine sS rfl rfl rfl (mv rfl) ?_
    refine AR.meet (l := []) 55 (B ((!a8) && (!a10))) (fun K => ?_) ?_
    · rcases Bool.eq_false_or_eq_true (!a8) with h30 | h30
      ·
        refine gT h30 rfl rfl rfl rfl rfl rfl (AO.ops rfl rfl (opS_fieldAddr_cp (n := 5) (by kernel_rfl) rfl (Nat.le_of_ble_eq_true rfl)) ?_)
        refine gT h30 rfl rfl rfl rfl rfl rfl (AO.ops rfl rfl (opS_indexAddr_arr_cp (k := 1) (m := 4) Tryz.underlying25 (by kernel_rfl) rfl rfl rfl (by decide) (Nat.le_of_ble_eq_true rfl)) ?_)
        refine gT h30 rfl rfl rfl rfl rfl rfl (AO.ops rfl rfl (opS_load_cp Tryz.underlying4 rfl rfl) ?_)
        refine gT h30 rfl rfl rfl rfl rfl rfl (AO.ops rfl rfl (opS_not rfl) ?_)
        refine sS rfl rfl rfl (opS_pick_t (av := .v _) rfl h30 rfl) ?_
        exact K _ 4 _ (B_congr (and_t h30)) rfl rfl
      ·
        refine gF h30 rfl rfl rfl rfl rfl ?_
        refine gF h30 rfl rfl rfl rfl rfl ?_
        refine gF h30 rfl rfl rfl rfl rfl ?_
        refine gF h30 rfl rfl rfl rfl rfl ?_
        refine sS rfl rfl rfl (opS_pick_f (av := .v _) rfl h30 rfl) ?_
        exact K _ 4 _ (B_congr (and_f h30)) rfl rfl
    refine AR.nil ?_
    show AW _ _ _ _ _ _
    refine AW.cond rfl (fun c31 => ?_) (fun c31 => ?_)
    · replace H := cnd_t c31 H
      refine AW.seq ?_
      refine AW.region ?_
      show AR _ _ _ _ _ [0, 1, 2, 3, 4, 5, 6, 7] _
      refine sS rfl rfl rfl (mv rfl) ?_
      refine sS rfl rfl rfl (mv rfl) ?_
      refine AR.meet (l := [7]) 62 (B (x22 && (x24 || x28))) (fun K => ?_) ?_
      · rcases Bool.eq_false_or_eq_true x22 with h32 | h32
        ·
          refine gT h32 rfl rfl rfl rfl rfl rfl (AO.ops rfl rfl (mv rfl) ?_)
          refine gT h32 rfl rfl rfl rfl rfl rfl (AO.ops rfl rfl (mv rfl) ?_)
          refine AR.meet (l := [6, 7]) 61 (B (x24 || x28)) (fun K => ?_) ?_
          · rcases Bool.eq_false_or_eq_true x24 with h33 | h33
            ·
              refine gF h33 rfl rfl rfl rfl rfl ?_
              refine gT h32 rfl rfl rfl rfl rfl rfl (AO.ops rfl rfl (opS_pick_t (av := .v _) rfl h33 rfl) ?_)
              exact K _ 1 _ (B_congr (or_t h33)) rfl rfl
            ·
              refine gT h33 rfl rfl rfl rfl rfl rfl (AO.ops rfl rfl (mv rfl) ?_)
              refine gT h32 rfl rfl rfl rfl rfl rfl (AO.ops rfl rfl (opS_pick_f (av := .v _) rfl h33 rfl) ?_)
              exact K _ 1 _ (B_congr (or_f h33)) rfl rfl
          refine sS rfl rfl rfl (opS_pick_t (av := .v _) rfl h32 rfl) ?_
          exact K _ 3 _ (B_congr (and_t h32)) rfl rfl
        ·
          refine gF h32 rfl rfl rfl rfl rfl ?_
          refine gF h32 rfl rfl rfl rfl rfl ?_
          refine gU rfl rfl rfl rfl rfl ?_
          refine gF h32 rfl rfl rfl rfl rfl ?_
          refine sS rfl rfl rfl (opS_pick_f (av := .v _) rfl h32 rfl) ?_
          exact K _ 4 _ (B_congr (and_f h32)) rfl rfl
      refine sS rfl rfl rfl (asg rfl) ?_
      refine AR.nil ?_
      show AW _ _ _ _ _ _
      refine AW.ret ?_
      obtain rfl := Option.some.inj H
      exact And.intro rfl (Exists.intro _ (Exists.intro _ ⟨ResV.oneW rfl (.refl _), Sub.at [] rfl, rfl, rfl⟩))
    · replace H := cnd_f c31 H
      refine AW.skip ?_
      show AW _ _ _ _ _ _
      refine AW.seq ?_
      refine AW.region ?_
      show AR _ _ _ _ _ [0, 1, 2, 3, 4, 5, 6, 7] _
      refine sS rfl rfl rfl (mv rfl) ?_
      refine sS rfl rfl rfl (mv rfl) ?_
      refine AR.meet (l := [4, 5, 6, 7]) 66 (B (x22 && x24)) (fun K => ?_) ?_
      · rcases Bool.eq_false_or_eq_true x22 with h34 | h34
        ·
          refine gT h34 rfl rfl rfl rfl rfl rfl (AO.ops rfl rfl (mv rfl) ?_)
          refine sS rfl rfl rfl (opS_pick_t (av := .v _) rfl h34 rfl) ?_
          exact K _ 1 _ (B_congr (and_t h34)) rfl rfl
        ·
          refine gF h34 rfl rfl rfl rfl rfl ?_
          refine sS rfl rfl rfl (opS_pick_f (av := .v _) rfl h34 rfl) ?_
          exact K _ 1 _ (B_congr (and_f h34)) rfl rfl
      refine sS rfl rfl rfl (mv rfl) ?_
      refine AR.meet (l := [7]) 69 (B ((x22 && x24) && x28)) (fun K => ?_) ?_
      · rcases Bool.eq_false_or_eq_true (x22 && x24) with h35 | h35
        ·
          refine gT h35 rfl rfl rfl rfl rfl rfl (AO.ops rfl rfl (mv rfl) ?_)
          refine sS rfl rfl rfl (opS_pick_t (av := .v _) rfl h35 rfl) ?_
          exact K _ 1 _ (B_congr (and_t h35)) rfl rfl
        ·
          refine gF h35 rfl rfl rfl rfl rfl ?_
          refine sS rfl rfl rfl (opS_pick_f (av := .v _) rfl h35 rfl) ?_
          exact K _ 1 _ (B_congr (and_f h35)) rfl rfl
      refine sS rfl rfl rfl (asg rfl) ?_
      refine AR.nil ?_
      show AW _ _ _ _ _ _
      refine AW.ret ?_
      obtain rfl := Option.some.inj H
      exact And.intro rfl (Exists.intro _ (Exists.intro _ ⟨ResV.oneW rfl (.refl _), Sub.at [] rfl, rfl, rfl⟩))
set_option maxRecDepth 100000 in
set_option maxHeartbeats 1000000 in
theorem w_ref05_Match (F : Nat) (a1 : List Int) (a2 : List Int) (a3 : List Int) (a4 : List Int) (a5 : List Int) (a6 : Bool) (a7 : Bool) (a8 : Bool) (a9 : Bool) (a10 : Bool) (a11 : Int) (a12 : Int) (a13 : Int) (a14 : Int) (a15 : Int) (a16 : Int) (r17 : Bool) (H : ref05_Match F a1 a2 a3 a4 a5 a6 a7 a8 a9 a10 a11 a12 a13 a14 a15 a16 = some r17) : ACalls Tryz.prog 25 [.agg [slE Enc.int a1 none, slE Enc.int a2 none, slE Enc.int a3 none, slE Enc.int a4 none, slE Enc.int a5 none, B a6, B a7, B a8, B a9, B a10], .agg [i64 a11, i64 a12, i64 a13, i64 a14, i64 a15, i64 a16]] [] (Ret (B r17) []) := by
  unfold ref05_Match at H
  refine ACalls.of_body Tryz.func25 rfl rfl ?_
  show AW _ _ 45 _ _ _
  refine AW.seq ?_
  refine AW.region ?_
  show AR _ _ _ _ _ [0, 1, 2] _
  refine sR rfl rfl rfl (opR_boxCp rfl (.inr ⟨_, rfl⟩)) ?_
  refine sR rfl rfl rfl (opR_boxCp rfl (.inr ⟨_, rfl⟩)) ?_
  refine sS rfl rfl rfl (asg rfl) ?_
  refine AR.nil ?_
  show AW _ _ _ _ _ _
  refine AW.seq ?_
  obtain ⟨x18, e19, H⟩ := bnd_s H
  refine AW.region ?_
  show AR _ _ _ _ _ [0, 1, 2] _
  refine sS rfl rfl rfl (opS_load_cp_agg Tryz.underlying42 rfl (n := 6) (by kernel_rfl) rfl (Nat.le_of_ble_eq_true rfl)) ?_
  refine AR.run rfl rfl (AO.callp rfl en45_crons rfl (w_ref02_May F a11 a12 a13 a14 a15 a16 x18 e19) ?_)
  refine sS rfl rfl rfl (asg rfl) ?_
  refine AR.nil ?_
  show AW _ _ _ _ _ _
  refine AW.seq ?_
  refine AW.seq ?_
  refine AW.region ?_
  show AR _ _ _ _ _ [0, 1] _
  refine sS rfl rfl rfl (mv rfl) ?_
  refine sS rfl rfl rfl (opS_not rfl) ?_
  refine AR.nil ?_
  show AW _ _ _ _ _ _
  refine AW.cond rfl (fun c20 => ?_) (fun c20 => ?_)
  · replace H := cnd_t c20 H
    refine AW.seq ?_
    refine AW.region ?_
    show AR _ _ _ _ _ [0] _
    refine sS rfl rfl rfl (asg rfl) ?_
    refine AR.nil ?_
    show AW _ _ _ _ _ _
    refine AW.ret ?_
    obtain rfl := Option.some.inj H
    exact And.intro rfl (Exists.intro _ (Exists.intro _ ⟨ResV.oneW rfl (.refl _), Sub.at [] rfl, rfl, rfl⟩))
  · replace H := cnd_f c20 H
    refine AW.skip ?_
    show AW _ _ _ _ _ _
    refine AW.seq ?_
    obtain ⟨x21, e22, H⟩ := bnd_s H
    refine AW.region ?_
    show AR _ _ _ _ _ [0, 1, 2, 3, 4, 5, 6] _
    refine sS rfl rfl rfl (opS_fieldAddr_cp (n := 0) (by kernel_rfl) rfl (Nat.le_of_ble_eq_true rfl)) ?_
    refine sS rfl rfl rfl (opS_indexAddr_arr_cp (k := 1) (m := 0) Tryz.underlying24 (by kernel_rfl) rfl rfl rfl (by decide) (Nat.le_of_ble_eq_true rfl)) ?_
    refine sS rfl rfl rfl (opS_load_cp Tryz.underlying23 rfl rfl) ?_
    refine sS rfl rfl rfl (opS_fieldAddr_cp (n := 4) (by kernel_rfl) rfl (Nat.le_of_ble_eq_true rfl)) ?_
    refine sS rfl rfl rfl (opS_load_cp Tryz.underlying3 rfl rfl) ?_
    refine AR.run rfl rfl (AO.callp rfl en17_crons rfl (w_ref05_Has F a1 none a15 x21 e22) ?_)
    refine sS rfl rfl rfl (asg rfl) ?_
    refine AR.nil ?_
    show AW _ _ _ _ _ _
    refine AW.seq ?_
    obtain ⟨x23, e24, H⟩ := bnd_s H
    refine AW.region ?_
    show AR _ _ _ _ _ [0, 1, 2, 3, 4, 5, 6] _
    refine sS rfl rfl rfl (opS_fieldAddr_cp (n := 0) (by kernel_rfl) rfl (Nat.le_of_ble_eq_true rfl)) ?_
    refine sS rfl rfl rfl (opS_indexAddr_arr_cp (k := 1) (m := 1) Tryz.underlying24 (by kernel_rfl) rfl rfl rfl (by decide) (Nat.le_of_ble_eq_true rfl)) ?_
    refine sS rfl rfl rfl (opS_load_cp Tryz.underlying23 rfl rfl) ?_
    refine sS rfl rfl rfl (opS_fieldAddr_cp (n := 3) (by kernel_rfl) rfl (Nat.le_of_ble_eq_true rfl)) ?_
    refine sS rfl rfl rfl (opS_load_cp Tryz.underlying3 rfl rfl) ?_
    refine AR.run rfl rfl (AO.callp rfl en17_crons rfl (w_ref05_Has F a2 none a14 x23 e24) ?_)
    refine sS rfl rfl rfl (asg rfl) ?_
    refine AR.nil ?_
    show AW _ _ _ _ _ _
    refine AW.seq ?_
    obtain ⟨x25, e26, H⟩ := bnd_s H
    refine AW.region ?_
    show AR _ _ _ _ _ [0, 1, 2, 3, 4, 5, 6, 7, 8] _
    refine sS rfl rfl rfl (opS_load_cp_agg Tryz.underlying27 rfl (n := 10) (by kernel_rfl) rfl (Nat.le_of_ble_eq_true rfl)) ?_
    refine sS rfl rfl rfl (opS_fieldAddr_cp (n := 0) (by kernel_rfl) rfl (Nat.le_of_ble_eq_true rfl)) ?_
    refine sS rfl rfl rfl (opS_load_cp Tryz.underlying3 rfl rfl) ?_
    refine sS rfl rfl rfl (opS_fieldAddr_cp (n := 1) (by kernel_rfl) rfl (Nat.le_of_ble_eq_true rfl)) ?_
    refine sS rfl rfl rfl (opS_load_cp Tryz.underlying3 rfl rfl) ?_
    refine sS rfl rfl rfl (opS_fieldAddr_cp (n := 2) (by kernel_rfl) rfl (Nat.le_of_ble_eq_true rfl)) ?_
    refine sS rfl rfl rfl (opS_load_cp Tryz.underlying3 rfl rfl) ?_
    refine AR.run rfl rfl (AO.callp rfl en26_crons rfl (w_ref05_Day F a1 a2 a3 a4 a5 a6 a7 a8 a9 a10 a11 a12 a13 x25 e26) ?_)
    refine sS rfl rfl rfl (asg rfl) ?_
    refine AR.nil ?_
    show AW _ _ _ _ _ _
    refine AW.seq ?_
    refine AW.region ?_
    show AR _ _ _ _ _ [0, 1, 2, 3, 4, 5, 6, 7, 8, 9, 10, 11, 12] _
    refine sS rfl rfl rfl (mv rfl) ?_
    refine sS rfl rfl rfl (mv rfl) ?_
    refine AR.meet (l := [4, 5, 6, 7, 8, 9, 10, 11, 12]) 36 (B (x21 && x23)) (fun K => ?_) ?_
    · rcases Bool.eq_false_or_eq_true x21 with h27 | h27
      ·
        refine gT h27 rfl rfl rfl rfl rfl rfl (AO.ops rfl rfl (mv rfl) ?_)
        refine sS rfl rfl rfl (opS_pick_t (av := .v _) rfl h27 rfl) ?_
        exact K _ 1 _ (B_congr (and_t h27)) rfl rfl
      ·
        refine gF h27 rfl rfl rfl rfl rfl ?_
        refine sS rfl rfl rfl (opS_pick_f (av := .v _) rfl h27 rfl) ?_
        exact K _ 1 _ (B_congr (and_f h27)) rfl rfl
    refine sS rfl rfl rfl (mv rfl) ?_
    refine AR.meet (l := [9, 10, 11, 12]) 41 (B ((x21 && x23) && (decide (a16 = 0)))) (fun K => ?_) ?_
    · rcases Bool.eq_false_or_eq_true (x21 && x23) with h28 | h28
      ·
        refine gT h28 rfl rfl rfl rfl rfl rfl (AO.ops rfl rfl (opS_fieldAddr_cp (n := 5) (by kernel_rfl) rfl (Nat.le_of_ble_eq_true rfl)) ?_)
        refine gT h28 rfl rfl rfl rfl rfl rfl (AO.ops rfl rfl (opS_load_cp Tryz.underlying3 rfl rfl) ?_)
        refine gT h28 rfl rfl rfl rfl rfl rfl (AO.ops rfl rfl (opS_eqi rfl rfl) ?_)
        refine sS rfl rfl rfl (opS_pick_t (av := .v _) rfl h28 rfl) ?_
        exact K _ 3 _ (B_congr (and_t h28)) rfl rfl
      ·
        refine gF h28 rfl rfl rfl rfl rfl ?_
        refine gF h28 rfl rfl rfl rfl rfl ?_
        refine gF h28 rfl rfl rfl rfl rfl ?_
        refine sS rfl rfl rfl (opS_pick_f (av := .v _) rfl h28 rfl) ?_
        exact K _ 3 _ (B_congr (and_f h28)) rfl rfl
    refine sS rfl rfl rfl (mv rfl) ?_
    refine AR.meet (l := [12]) 44 (B (((x21 && x23) && (decide (a16 = 0))) && x25)) (fun K => ?_) ?_
    · rcases Bool.eq_false_or_eq_true ((x21 && x23) && (decide (a16 = 0))) with h29 | h29
      ·
        refine gT h29 rfl rfl rfl rfl rfl rfl (AO.ops rfl rfl (mv rfl) ?_)
        refine sS rfl rfl rfl (opS_pick_t (av := .v _) rfl h29 rfl) ?_
        exact K _ 1 _ (B_congr (and_t h29)) rfl rfl
      ·
        refine gF h29 rfl rfl rfl rfl rfl ?_
        refine sS rfl rfl rfl (opS_pick_f (av := .v _) rfl h29 rfl) ?_
        exact K _ 1 _ (B_congr (and_f h29)) rfl rfl
    refine sS rfl rfl rfl (asg rfl) ?_
    refine AR.nil ?_
    show AW _ _ _ _ _ _
    refine AW.ret ?_
    obtain rfl := Option.some.inj H
    exact And.intro rfl (Exists.intro _ (Exists.intro _ ⟨ResV.oneW rfl (.refl _), Sub.at [] rfl, rfl, rfl⟩))
set_option maxRecDepth 100000 in
set_option maxHeartbeats 1000000 in
theorem w_ref05_Write (F : Nat) (a1 : List Int) (a2 : List Int) (a3 : List Int) (a4 : List Int) (a5 : List Int) (a6 : Bool) (a7 : Bool) (a8 : Bool) (a9 : Bool) (a10 : Bool) (r11 : List UInt8) (r12 : Int) (H : ref05_Write F a1 a2 a3 a4 a5 a6 a7 a8 a9 a10 = some (r11, r12)) : ACalls Tryz.prog 23 [.agg [slE Enc.int a1 none, slE Enc.int a2 none, slE Enc.int a3 none, slE Enc.int a4 none, slE Enc.int a5 none, B a6, B a7, B a8, B a9, B a10]] [] (Ret (.tup [S r11, i64 r12]) []) := by
  unfold ref05_Write at H
  refine ACalls.of_body Tryz.func23 rfl rfl ?_
  show AW _ _ 50 _ _ _
  refine AW.seq ?_
  refine AW.region ?_
  show AR _ _ _ _ _ [0, 1, 2] _
  refine sR rfl rfl rfl (opR_boxCp rfl (.inr ⟨_, rfl⟩)) ?_
  refine sS rfl rfl rfl (asg rfl) ?_
  refine sS rfl rfl rfl (asg rfl) ?_
  refine AR.nil ?_
  show AW _ _ _ _ _ _
  refine AW.seq ?_
  obtain ⟨x13, e14, H⟩ := bnd_s H
  refine AW.region ?_
  show AR _ _ _ _ _ [0, 1, 2] _
  refine sS rfl rfl rfl (opS_load_cp_agg Tryz.underlying27 rfl (n := 10) (by kernel_rfl) rfl (Nat.le_of_ble_eq_true rfl)) ?_
  refine AR.run rfl rfl (AO.callp rfl en24_crons rfl (w_ref05_May F a1 a2 a3 a4 a5 a6 a7 a8 a9 a10 x13 e14) ?_)
  refine sS rfl rfl rfl (asg rfl) ?_
  refine AR.nil ?_
  show AW _ _ _ _ _ _
  refine AW.seq ?_
  refine AW.seq ?_
  refine AW.region ?_
  show AR _ _ _ _ _ [0, 1] _
  refine sS rfl rfl rfl (mv rfl) ?_
  refine sS rfl rfl rfl (opS_not rfl) ?_
  refine AR.nil ?_
  show AW _ _ _ _ _ _
  refine AW.cond rfl (fun c15 => ?_) (fun c15 => ?_)
  · replace H := cnd_t c15 H
    refine AW.seq ?_
    refine AW.region ?_
    show AR _ _ _ _ _ [0, 1] _
    refine sS rfl rfl rfl (asg rfl) ?_
    refine sS rfl rfl rfl (asg rfl) ?_
    refine AR.nil ?_
    show AW _ _ _ _ _ _
    refine AW.ret ?_
    obtain ⟨rfl, rfl⟩ := res2 H
    exact And.intro rfl (Exists.intro _ (Exists.intro _ ⟨ResV.twoW rfl (.refl _) (.refl _), Sub.at [] rfl, rfl, rfl⟩))
  · replace H := cnd_f c15 H
    refine AW.skip ?_
    show AW _ _ _ _ _ _
    refine AW.seq ?_
    refine AW.region ?_
    show AR _ _ _ _ _ [0] _
    refine sS rfl rfl rfl (asg rfl) ?_
    refine AR.nil ?_
    show AW _ _ _ _ _ _
    refine AW.cut (X := (List UInt8)) (fun y63 => ⟨[(5, S y63)], [], []⟩) (fun y63 => ref05_Write_j1 y63 = some (r11, r12)) ?_ ?_
    ·
      refine AW.seq ?_
      refine AW.region ?_
      show AR _ _ _ _ _ [0] _
      refine sS rfl rfl rfl (asg rfl) ?_
      refine AR.nil ?_
      show AW _ _ _ _ _ _
      refine AW.block ?_
      refine AW.loop (X := Nat × (List UInt8) × Int) (fun (n19, y16, y17) => ⟨[(1, .cp [slE Enc.int a1 none, slE Enc.int a2 none, slE Enc.int a3 none, slE Enc.int a4 none, slE Enc.int a5 none, B a6, B a7, B a8, B a9, B a10]), (5, S y16), (6, i64 y17)], [], []⟩) (fun (n19, y16, y17) => ref05_Write_L2 F a1 a2 a3 a4 a5 a6 a7 a8 a9 a10 n19 (y16, y17) = some (r11, r12)) (fun (n19, y16, y17) => n19) (F, ([] : List UInt8), 0) H (WK.at [] (.cons (.refl _) (.cons (.refl _) (.cons (.refl _) (.nil _)))) rfl) ?_
      rintro ⟨n19, y16, y17⟩ H
      obtain ⟨n19, rfl, H⟩ := loop_s H
      replace H : ref05_Write_B2 F a1 a2 a3 a4 a5 a6 a7 a8 a9 a10 (ref05_Write_L2 F a1 a2 a3 a4 a5 a6 a7 a8 a9 a10 n19) y16 y17 = some (r11, r12) := H
      unfold ref05_Write_B2 at H
      show AW _ _ _ _ _ _
      refine AW.seq ?_
      refine AW.seq ?_
      refine AW.region ?_
      show AR _ _ _ _ _ [0, 1] _
      refine sS rfl rfl rfl (mv rfl) ?_
      refine sS rfl rfl rfl (opS_lt rfl rfl) ?_
      refine AR.nil ?_
      show AW _ _ _ _ _ _
      refine AW.cond rfl (fun c20 => ?_) (fun c20 => ?_)
      · replace H := cnd_t c20 H
        refine AW.skip ?_
        show AW _ _ _ _ _ _
        refine AW.cut (X := (List UInt8)) (fun y60 => ⟨[(1, .cp [slE Enc.int a1 none, slE Enc.int a2 none, slE Enc.int a3 none, slE Enc.int a4 none, slE Enc.int a5 none, B a6, B a7, B a8, B a9, B a10]), (5, S y60), (6, i64 y17)], [], []⟩) (fun y60 => ref05_Write_j2 y17 (ref05_Write_L2 F a1 a2 a3 a4 a5 a6 a7 a8 a9 a10 n19) y60 = some (r11, r12)) ?_ ?_
        ·
          refine AW.block ?_
          refine AW.cut (X := (List UInt8)) (fun y25 => ⟨[(1, .cp [slE Enc.int a1 none, slE Enc.int a2 none, slE Enc.int a3 none, slE Enc.int a4 none, slE Enc.int a5 none, B a6, B a7, B a8, B a9, B a10]), (5, S y25), (6, i64 y17)], [], []⟩) (fun y25 => ref05_Write_j4 F a1 a2 a3 a4 a5 a6 a7 a8 a9 a10 y17 (ref05_Write_L2 F a1 a2 a3 a4 a5 a6 a7 a8 a9 a10 n19) y25 = some (r11, r12)) ?_ ?_
          ·
            refine AW.seq ?_
            refine AW.region ?_
            show AR _ _ _ _ _ [0, 1] _
            refine sS rfl rfl rfl (mv rfl) ?_
            refine sS rfl rfl rfl (opS_gt rfl rfl) ?_
            refine AR.nil ?_
            show AW _ _ _ _ _ _
            refine AW.cond rfl (fun c21 => ?_) (fun c21 => ?_)
            · replace H := cnd_t c21 H
              obtain ⟨g22, H⟩ := grd_s H
              obtain ⟨x23, e24, H⟩ := lt_s H
              refine AW.region ?_
              show AR _ _ _ _ _ [0, 1, 2] _
              refine sS rfl rfl rfl (mv rfl) ?_
              refine sS rfl rfl rfl (g_cat rfl rfl g22 e24) ?_
              refine sS rfl rfl rfl (asg rfl) ?_
              refine AR.nil ?_
              exact Exists.intro x23 ⟨H, WK.at [] (.cons (.refl _) (.cons (.refl _) (.cons (.refl _) (.nil _)))) rfl⟩
            · replace H := cnd_f c21 H
              refine AW.skip ?_
              exact Exists.intro y16 ⟨H, WK.at [] (.cons (.refl _) (.cons (.refl _) (.cons (.refl _) (.nil _)))) rfl⟩
          rintro y25 H
          replace H : ref05_Write_j4 F a1 a2 a3 a4 a5 a6 a7 a8 a9 a10 y17 (ref05_Write_L2 F a1 a2 a3 a4 a5 a6 a7 a8 a9 a10 n19) y25 = some (r11, r12) := H
          unfold ref05_Write_j4 at H
          show AW _ _ _ _ _ _
          refine AW.seq ?_
          refine AW.seq ?_
          obtain ⟨g27, H⟩ := grd_s H
          obtain ⟨x28, e29, H⟩ := lt_s H
          refine AW.region ?_
          show AR _ _ _ _ _ [0, 1, 2, 3] _
          refine sS rfl rfl rfl (mv rfl) ?_
          refine sS rfl rfl rfl (opS_fieldAddr_cp (n := 5) (by kernel_rfl) rfl (Nat.le_of_ble_eq_true rfl)) ?_
          refine sS rfl rfl rfl (opS_indexAddr_arrv_cp (E := Enc.bool) (l := ([a6, a7, a8, a9, a10] : List Bool)) (post := []) rfl Tryz.underlying25 (by kernel_rfl) rfl rfl rfl g27 e29 rfl) ?_
          refine sS rfl rfl rfl (opS_load_cp Tryz.underlying4 rfl rfl) ?_
          refine AR.nil ?_
          show AW _ _ _ _ _ _
          refine AW.cond rfl (fun c30 => ?_) (fun c30 => ?_)
          · replace H := cnd_t c30 H
            refine AW.seq ?_
            obtain ⟨g31, H⟩ := grd_s H
            obtain ⟨x32, e33, H⟩ := lt_s H
            refine AW.region ?_
            show AR _ _ _ _ _ [0, 1, 2] _
            refine sS rfl rfl rfl (mv rfl) ?_
            refine sS rfl rfl rfl (g_cat rfl rfl g31 e33) ?_
            refine sS rfl rfl rfl (asg rfl) ?_
            refine AR.nil ?_
            show AW _ _ _ _ _ _
            refine AW.exit ?_
            exact Exists.intro x32 ⟨H, WK.at [] (.cons (.refl _) (.cons (.refl _) (.cons (.refl _) (.nil _)))) rfl⟩
          · replace H := cnd_f c30 H
            refine AW.skip ?_
            show AW _ _ _ _ _ _
            refine AW.seq ?_
            refine AW.region ?_
            show AR _ _ _ _ _ [0] _
            refine sS rfl rfl rfl (asg rfl) ?_
            refine AR.nil ?_
            show AW _ _ _ _ _ _
            refine AW.block ?_
            refine AW.loop (X := Nat × (List UInt8) × Int) (fun (n37, y34, y35) => ⟨[(1, .cp [slE Enc.int a1 none, slE Enc.int a2 none, slE Enc.int a3 none, slE Enc.int a4 none, slE Enc.int a5 none, B a6, B a7, B a8, B a9, B a10]), (5, S y34), (6, i64 y17), (7, i64 y35)], [], []⟩) (fun (n37, y34, y35) => ref05_Write_L1 F a1 a2 a3 a4 a5 y17 (ref05_Write_L2 F a1 a2 a3 a4 a5 a6 a7 a8 a9 a10 n19) n37 (y34, y35) = some (r11, r12)) (fun (n37, y34, y35) => n37) (F, y25, 0) H (WK.at [] (.cons (.refl _) (.cons (.refl _) (.cons (.refl _) (.cons (.refl _) (.nil _))))) rfl) ?_
            rintro ⟨n37, y34, y35⟩ H
            obtain ⟨n37, rfl, H⟩ := loop_s H
            replace H : ref05_Write_B1 F a1 a2 a3 a4 a5 y17 (ref05_Write_L2 F a1 a2 a3 a4 a5 a6 a7 a8 a9 a10 n19) (ref05_Write_L1 F a1 a2 a3 a4 a5 y17 (ref05_Write_L2 F a1 a2 a3 a4 a5 a6 a7 a8 a9 a10 n19) n37) y34 y35 = some (r11, r12) := H
            unfold ref05_Write_B1 at H
            show AW _ _ _ _ _ _
            refine AW.seq ?_
            refine AW.seq ?_
            obtain ⟨g38, H⟩ := grd_s H
            obtain ⟨x39, e40, H⟩ := lt_s H
            refine AW.region ?_
            show AR _ _ _ _ _ [0, 1, 2, 3, 4, 5, 6] _
            refine sS rfl rfl rfl (mv rfl) ?_
            refine sS rfl rfl rfl (mv rfl) ?_
            refine sS rfl rfl rfl (opS_fieldAddr_cp (n := 0) (by kernel_rfl) rfl (Nat.le_of_ble_eq_true rfl)) ?_
            refine sS rfl rfl rfl (opS_indexAddr_arrv_cp (E := (Enc.sl Enc.int)) (l := ([a1, a2, a3, a4, a5] : List (List Int))) (post := [B a6, B a7, B a8, B a9, B a10]) rfl Tryz.underlying24 (by kernel_rfl) rfl rfl rfl g38 e40 rfl) ?_
            refine sS rfl rfl rfl (opS_load_cp Tryz.underlying23 rfl rfl) ?_
            refine sS rfl rfl rfl (opS_len_sl Tryz.underlying23 rfl) ?_
            refine sS rfl rfl rfl (opS_lt rfl rfl) ?_
            refine AR.nil ?_
            show AW _ _ _ _ _ _
            refine AW.cond rfl (fun c41 => ?_) (fun c41 => ?_)
            · replace H := cnd_t c41 H
              refine AW.skip ?_
              show AW _ _ _ _ _ _
              refine AW.seq ?_
              refine AW.block ?_
              refine AW.cut (X := (List UInt8)) (fun y46 => ⟨[(1, .cp [slE Enc.int a1 none, slE Enc.int a2 none, slE Enc.int a3 none, slE Enc.int a4 none, slE Enc.int a5 none, B a6, B a7, B a8, B a9, B a10]), (5, S y46), (6, i64 y17), (7, i64 y35)], [], []⟩) (fun y46 => ref05_Write_j3 F a1 a2 a3 a4 a5 y17 y35 (ref05_Write_L1 F a1 a2 a3 a4 a5 y17 (ref05_Write_L2 F a1 a2 a3 a4 a5 a6 a7 a8 a9 a10 n19) n37) y46 = some (r11, r12)) ?_ ?_
              ·
                refine AW.seq ?_
                refine AW.region ?_
                show AR _ _ _ _ _ [0, 1] _
                refine sS rfl rfl rfl (mv rfl) ?_
                refine sS rfl rfl rfl (opS_gt rfl rfl) ?_
                refine AR.nil ?_
                show AW _ _ _ _ _ _
                refine AW.cond rfl (fun c42 => ?_) (fun c42 => ?_)
                · replace H := cnd_t c42 H
                  obtain ⟨g43, H⟩ := grd_s H
                  obtain ⟨x44, e45, H⟩ := lt_s H
                  refine AW.region ?_
                  show AR _ _ _ _ _ [0, 1, 2] _
                  refine sS rfl rfl rfl (mv rfl) ?_
                  refine sS rfl rfl rfl (g_cat rfl rfl g43 e45) ?_
                  refine sS rfl rfl rfl (asg rfl) ?_
                  refine AR.nil ?_
                  exact Exists.intro x44 ⟨H, WK.at [] (.cons (.refl _) (.cons (.refl _) (.cons (.refl _) (.cons (.refl _) (.nil _))))) rfl⟩
                · replace H := cnd_f c42 H
                  refine AW.skip ?_
                  exact Exists.intro y34 ⟨H, WK.at [] (.cons (.refl _) (.cons (.refl _) (.cons (.refl _) (.cons (.refl _) (.nil _))))) rfl⟩
              rintro y46 H
              replace H : ref05_Write_j3 F a1 a2 a3 a4 a5 y17 y35 (ref05_Write_L1 F a1 a2 a3 a4 a5 y17 (ref05_Write_L2 F a1 a2 a3 a4 a5 a6 a7 a8 a9 a10 n19) n37) y46 = some (r11, r12) := H
              unfold ref05_Write_j3 at H
              show AW _ _ _ _ _ _
              obtain ⟨g48, H⟩ := grd_s H
              obtain ⟨x49, e50, H⟩ := lt_s H
              obtain ⟨g51, H⟩ := grd_s H
              obtain ⟨x52, e53, H⟩ := lt_s H
              obtain ⟨x54, e55, H⟩ := bnd_s H
              obtain ⟨g56, H⟩ := grd_s H
              obtain ⟨x57, e58, H⟩ := lt_s H
              refine AW.region ?_
              show AR _ _ _ _ _ [0, 1, 2, 3, 4, 5, 6, 7, 8, 9, 10] _
              refine sS rfl rfl rfl (mv rfl) ?_
              refine sS rfl rfl rfl (mv rfl) ?_
              refine sS rfl rfl rfl (opS_fieldAddr_cp (n := 0) (by kernel_rfl) rfl (Nat.le_of_ble_eq_true rfl)) ?_
              refine sS rfl rfl rfl (opS_indexAddr_arrv_cp (E := (Enc.sl Enc.int)) (l := ([a1, a2, a3, a4, a5] : List (List Int))) (post := [B a6, B a7, B a8, B a9, B a10]) rfl Tryz.underlying24 (by kernel_rfl) rfl rfl rfl g48 e50 rfl) ?_
              refine sS rfl rfl rfl (opS_load_cp Tryz.underlying23 rfl rfl) ?_
              refine sS rfl rfl rfl (mv rfl) ?_
              refine sS rfl rfl rfl (g_indexAddr (E := Enc.int) Tryz.underlying23 (by kernel_rfl) rfl rfl g51 e53) ?_
              refine sS rfl rfl rfl (opS_load_cp Tryz.underlying3 rfl rfl) ?_
              refine AR.run rfl rfl (AO.callp rfl en44_crons rfl (w_ref03_Number F x52 x54 e55) ?_)
              refine sS rfl rfl rfl (g_cat rfl rfl g56 e58) ?_
              refine sS rfl rfl rfl (asg rfl) ?_
              refine AR.nil ?_
              show AW _ _ _ _ _ _
              obtain ⟨g59, H⟩ := grd_s H
              refine AW.region ?_
              show AR _ _ _ _ _ [0, 1, 2] _
              refine sS rfl rfl rfl (mv rfl) ?_
              refine sS rfl rfl rfl (g_add rfl rfl g59) ?_
              refine sS rfl rfl rfl (asg rfl) ?_
              refine AR.nil ?_
              exact Exists.intro (n37, x57, y35 + 1) ⟨H, Nat.lt_succ_self _, WK.at [] (.cons (.refl _) (.cons (.refl _) (.cons (.refl _) (.cons (.refl _) (.nil _))))) rfl⟩
            · replace H := cnd_f c41 H
              refine AW.exit ?_
              exact Exists.intro y34 ⟨H, WK.at [] (.cons (.refl _) (.cons (.refl _) (.cons (.refl _) (.nil _)))) rfl⟩
        rintro y60 H
        replace H : ref05_Write_j2 y17 (ref05_Write_L2 F a1 a2 a3 a4 a5 a6 a7 a8 a9 a10 n19) y60 = some (r11, r12) := H
        unfold ref05_Write_j2 at H
        show AW _ _ _ _ _ _
        obtain ⟨g62, H⟩ := grd_s H
        refine AW.region ?_
        show AR _ _ _ _ _ [0, 1, 2] _
        refine sS rfl rfl rfl (mv rfl) ?_
        refine sS rfl rfl rfl (g_add rfl rfl g62) ?_
        refine sS rfl rfl rfl (asg rfl) ?_
        refine AR.nil ?_
        exact Exists.intro (n19, y60, y17 + 1) ⟨H, Nat.lt_succ_self _, WK.at [] (.cons (.refl _) (.cons (.refl _) (.cons (.refl _) (.nil _)))) rfl⟩
      · replace H := cnd_f c20 H
        refine AW.exit ?_
        exact Exists.intro y16 ⟨H, WK.at [] (.cons (.refl _) (.nil _)) rfl⟩
    rintro y63 H
    replace H : ref05_Write_j1 y63 = some (r11, r12) := H
    unfold ref05_Write_j1 at H
    show AW _ _ _ _ _ _
    refine AW.seq ?_
    refine AW.region ?_
    show AR _ _ _ _ _ [0, 1, 2] _
    refine sS rfl rfl rfl (mv rfl) ?_
    refine sS rfl rfl rfl (asg rfl) ?_
    refine sS rfl rfl rfl (asg rfl) ?_
    refine AR.nil ?_
    show AW _ _ _ _ _ _
    refine AW.ret ?_
    obtain ⟨rfl, rfl⟩ := res2 H
    exact And.intro rfl (Exists.intro _ (Exists.intro _ ⟨ResV.twoW rfl (.refl _) (.refl _), Sub.at [] rfl, rfl, rfl⟩))
end Go.Proofs.YtpbfajkbkomfcaaGreatDoor
