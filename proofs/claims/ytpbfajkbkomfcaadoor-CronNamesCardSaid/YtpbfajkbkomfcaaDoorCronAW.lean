/-
  A schedule's text: what is run is what the plain functions say. Printed by a program of ours.
-/
import Derived.Test.YtpbfajkbkomfcaaDoorAvE
import Derived.Test.YtpbfajkbkomfcaaDoorPvLib
import Derived.Test.YtpbfajkbkomfcaaDoorP11Split
import Derived.Test.YtpbfajkbkomfcaaDoorAvStill
import Derived.Test.YtpbfajkbkomfcaaDoorChecked
import Derived.Test.YtpbfajkbkomfcaaDoorLibLW
import Derived.Test.YtpbfajkbkomfcaaDoorCronAP
set_option linter.unusedVariables false
set_option linter.unusedSimpArgs false
namespace Go.Proofs.YtpbfajkbkomfcaaDoor
open Go.RowKit Go.Av Go.Pv
theorem en9_crona : ∀ (args : Array Value) (w : World), (callFunc 9 args).run Tryd.prog w = .ok (.enter 9 args) w := fun _ _ => by kernel_rfl
theorem en10_crona : ∀ (args : Array Value) (w : World), (callFunc 10 args).run Tryd.prog w = .ok (.enter 10 args) w := fun _ _ => by kernel_rfl
theorem en11_crona : ∀ (args : Array Value) (w : World), (callFunc 11 args).run Tryd.prog w = .ok (.enter 11 args) w := fun _ _ => by kernel_rfl
theorem en12_crona : ∀ (args : Array Value) (w : World), (callFunc 12 args).run Tryd.prog w = .ok (.enter 12 args) w := fun _ _ => by kernel_rfl
theorem en13_crona : ∀ (args : Array Value) (w : World), (callFunc 13 args).run Tryd.prog w = .ok (.enter 13 args) w := fun _ _ => by kernel_rfl
theorem en22_crona : ∀ (args : Array Value) (w : World), (callFunc 22 args).run Tryd.prog w = .ok (.enter 22 args) w := fun _ _ => by kernel_rfl
theorem en35_crona : ∀ (args : Array Value) (w : World), (callFunc 35 args).run Tryd.prog w = .ok (.enter 35 args) w := fun _ _ => by kernel_rfl
theorem en36_crona : ∀ (args : Array Value) (w : World), (callFunc 36 args).run Tryd.prog w = .ok (.enter 36 args) w := fun _ _ => by kernel_rfl
theorem en37_crona : ∀ (args : Array Value) (w : World), (callFunc 37 args).run Tryd.prog w = .ok (.enter 37 args) w := fun _ _ => by kernel_rfl
theorem en48_crona : ∀ (args : Array Value) (w : World), (callFunc 48 args).run Tryd.prog w = .ok (.enter 48 args) w := fun _ _ => by kernel_rfl
theorem en49_crona : ∀ (args : Array Value) (w : World), (callFunc 49 args).run Tryd.prog w = .ok (.enter 49 args) w := fun _ _ => by kernel_rfl
theorem en50_crona : ∀ (args : Array Value) (w : World), (callFunc 50 args).run Tryd.prog w = .ok (.enter 50 args) w := fun _ _ => by kernel_rfl
set_option maxRecDepth 100000 in
set_option maxHeartbeats 1000000 in
theorem w_cron_unless (F : Nat) (a1 : Bool) (rv : Res Unit) (H : cron_unless F a1 = some rv) : ACalls Tryd.prog 11 [B a1] [] (PanOr (fun (r : Unit) => (Ret (.tup []) [])) (fun e => pan1 (.iface 40 (.agg #[]))) rv) := by
 unfold cron_unless at H
 refine ACalls.of_body Tryd.func11 rfl rfl ?_
 show AW _ _ 6 _ _ _
 refine AW.seq ?_
 refine AW.region ?_
 show AR _ _ _ _ _ [0, 1] _
 refine sS rfl rfl rfl (mv rfl) ?_
 refine sS rfl rfl rfl (opS_not rfl) ?_
 refine AR.nil ?_
 show AW _ _ _ _ _ _
 refine AW.cond rfl (fun c2 => ?_) (fun c2 => ?_)
 ·replace H := cnd_t c2 H
  obtain rfl := Option.some.inj H
  refine AW.region ?_
  show AR _ _ _ _ _ [0, 1, 2] _
  refine sS rfl rfl rfl (g_build (zs := []) (ps := []) (cs := []) (by kernel_rfl) rfl rfl) ?_
  refine sS rfl rfl rfl (opS_makeInterface (a := .agg _) Tryd.underlying40 rfl rfl) ?_
  refine AR.run rfl rfl (AO.panicT (c := pan1 (.iface 40 (.agg #[]))) rfl rfl ?_)
  exact And.intro rfl (Exists.intro [] ⟨Sub.nil _, rfl, rfl⟩)
 ·replace H := cnd_f c2 H
  refine AW.skip ?_
  obtain rfl := Option.some.inj H
  exact And.intro rfl (Exists.intro _ (Exists.intro _ ⟨ResV.noneW rfl, Sub.at [] rfl, rfl, rfl⟩))
theorem w_cron_unless_ok (F : Nat) (a1 : Bool) (H : cron_unless F a1 = some (Res.ok ())) : ACalls Tryd.prog 11 [B a1] [] (Ret (.tup []) []) := w_cron_unless F a1 _ H
theorem w_cron_unless_pan (F : Nat) (a1 : Bool) (e : Int) (H : cron_unless F a1 = some (Res.pan e)) : ACalls Tryd.prog 11 [B a1] [] (fun ae A' => ae = .pan ((fun e => pan1 (.iface 40 (.agg #[]))) e) ∧ A' = []) := w_cron_unless F a1 _ H
set_option maxRecDepth 100000 in
set_option maxHeartbeats 1000000 in
theorem w_cron_fields (F : Nat) (r1 : Int) (r2 : Int) (r3 : List UInt8) (r4 : Int) (r5 : Int) (r6 : Int) (r7 : List UInt8) (r8 : Int) (r9 : Int) (r10 : Int) (r11 : List UInt8) (r12 : Int) (r13 : Int) (r14 : Int) (r15 : List UInt8) (r16 : Int) (r17 : Int) (r18 : Int) (r19 : List UInt8) (r20 : Int) (H : cron_fields F = some (r1, r2, r3, r4, r5, r6, r7, r8, r9, r10, r11, r12, r13, r14, r15, r16, r17, r18, r19, r20)) : ACalls Tryd.prog 12 [] [] (Ret (.agg [i64 r1, i64 r2, S r3, i64 r4, i64 r5, i64 r6, S r7, i64 r8, i64 r9, i64 r10, S r11, i64 r12, i64 r13, i64 r14, S r15, i64 r16, i64 r17, i64 r18, S r19, i64 r20]) []) := by
 unfold cron_fields at H
 refine ACalls.of_body Tryd.func12 rfl rfl ?_
 show AW _ _ 7 _ _ _
 refine AW.seq ?_
 refine AW.region ?_
 show AR _ _ _ _ _ [0] _
 refine sX rfl rfl rfl (opX_alloc (zs := [.int .i64 0, .int .i64 0, .string ⟨#[]⟩, .int .i64 0, .int .i64 0, .int .i64 0, .string ⟨#[]⟩, .int .i64 0, .int .i64 0, .int .i64 0, .string ⟨#[]⟩, .int .i64 0, .int .i64 0, .int .i64 0, .string ⟨#[]⟩, .int .i64 0, .int .i64 0, .int .i64 0, .string ⟨#[]⟩, .int .i64 0]) (by kernel_rfl)) ?_
 rintro _ _ ⟨o21, rfl, rfl⟩
 refine AR.nil ?_
 show AW _ _ _ _ _ _
 refine AW.seq ?_
 refine AW.region ?_
 show AR _ _ _ _ _ [0, 1, 2, 3, 4, 5, 6] _
 refine sS rfl rfl rfl (g_build (zs := [.int .i64 0, .int .i64 0, .string ⟨#[]⟩, .int .i64 0]) (ps := [(0, 1), (1, 1), (2, 1), (3, 1)]) (cs := [i64 0, i64 59, S ([] : List UInt8), i64 0]) (by kernel_rfl) rfl rfl) ?_
 refine sS rfl rfl rfl (g_build (zs := [.int .i64 0, .int .i64 0, .string ⟨#[]⟩, .int .i64 0]) (ps := [(0, 1), (1, 1), (2, 1), (3, 1)]) (cs := [i64 0, i64 23, S ([] : List UInt8), i64 0]) (by kernel_rfl) rfl rfl) ?_
 refine sS rfl rfl rfl (g_build (zs := [.int .i64 0, .int .i64 0, .string ⟨#[]⟩, .int .i64 0]) (ps := [(0, 1), (1, 1), (2, 1), (3, 1)]) (cs := [i64 1, i64 31, S ([] : List UInt8), i64 0]) (by kernel_rfl) rfl rfl) ?_
 refine sS rfl rfl rfl (g_build (zs := [.int .i64 0, .int .i64 0, .string ⟨#[]⟩, .int .i64 0]) (ps := [(0, 1), (1, 1), (2, 1), (3, 1)]) (cs := [i64 1, i64 12, S crona_k1, i64 0]) (by kernel_rfl) rfl rfl) ?_
 refine sS rfl rfl rfl (g_build (zs := [.int .i64 0, .int .i64 0, .string ⟨#[]⟩, .int .i64 0]) (ps := [(0, 1), (1, 1), (2, 1), (3, 1)]) (cs := [i64 0, i64 6, S crona_k2, i64 7]) (by kernel_rfl) rfl rfl) ?_
 refine sS rfl rfl rfl (g_buildArr (zs := [.int .i64 0, .int .i64 0, .string ⟨#[]⟩, .int .i64 0, .int .i64 0, .int .i64 0, .string ⟨#[]⟩, .int .i64 0, .int .i64 0, .int .i64 0, .string ⟨#[]⟩, .int .i64 0, .int .i64 0, .int .i64 0, .string ⟨#[]⟩, .int .i64 0, .int .i64 0, .int .i64 0, .string ⟨#[]⟩, .int .i64 0]) (k := 4) (cs := [i64 0, i64 59, S ([] : List UInt8), i64 0, i64 0, i64 23, S ([] : List UInt8), i64 0, i64 1, i64 31, S ([] : List UInt8), i64 0, i64 1, i64 12, S crona_k1, i64 0, i64 0, i64 6, S crona_k2, i64 7]) Tryd.underlying47 (by kernel_rfl) (by kernel_rfl) rfl rfl (by kernel_rfl)) ?_
 refine s0 rfl rfl (opR_store_agg (i := 0) (vs := [i64 0, i64 59, S ([] : List UInt8), i64 0, i64 0, i64 23, S ([] : List UInt8), i64 0, i64 1, i64 31, S ([] : List UInt8), i64 0, i64 1, i64 12, S crona_k1, i64 0, i64 0, i64 6, S crona_k2, i64 7]) (by kernel_rfl) rfl rfl (by simp [isCell, slE]) rfl (Nat.le_of_ble_eq_true rfl)) ?_
 refine AR.nil ?_
 show AW _ _ _ _ _ _
 refine AW.ret ?_
 obtain ⟨rfl, rfl, rfl, rfl, rfl, rfl, rfl, rfl, rfl, rfl, rfl, rfl, rfl, rfl, rfl, rfl, rfl, rfl, rfl, rfl⟩ := res20 H
 exact And.intro rfl (Exists.intro _ (Exists.intro _ ⟨ResT.resV (ResT.place1 rfl (CellV.agg (off := 0) (cs := [i64 0, i64 59, S ([] : List UInt8), i64 0, i64 0, i64 23, S ([] : List UInt8), i64 0, i64 1, i64 31, S ([] : List UInt8), i64 0, i64 1, i64 12, S crona_k1, i64 0, i64 0, i64 6, S crona_k2, i64 7]) (n := 20) 0 Tryd.underlying47 rfl (by kernel_rfl) rfl rfl (Nat.le_of_ble_eq_true rfl))), Sub.at [] rfl, rfl, rfl⟩))
set_option maxRecDepth 100000 in
set_option maxHeartbeats 1000000 in
theorem w_cron_digits (F : Nat) (a1 : List UInt8) (r2 : Int) (r3 : Bool) (H : cron_digits F a1 = some (r2, r3)) : ACalls Tryd.prog 36 [S a1] [] (Ret (.tup [i64 r2, B r3]) []) := by
 unfold cron_digits at H
 refine ACalls.of_body Tryd.func36 rfl rfl ?_
 show AW _ _ 27 _ _ _
 refine AW.seq ?_
 refine AW.region ?_
 show AR _ _ _ _ _ [0, 1] _
 refine sS rfl rfl rfl (asg rfl) ?_
 refine sS rfl rfl rfl (asg rfl) ?_
 refine AR.nil ?_
 show AW _ _ _ _ _ _
 refine AW.seq ?_
 refine AW.seq ?_
 obtain ⟨g6, H⟩ := grdc_s H
 obtain ⟨g7, H⟩ := grdc_s H
 obtain ⟨g8, H⟩ := grdc_s H
 obtain ⟨x9, e10, H⟩ := lt_s H
 refine AW.region ?_
 show AR _ _ _ _ _ [0, 1, 2, 3, 4, 5, 6, 7, 8, 9, 10, 11, 12] _
 refine sS rfl rfl rfl (mv rfl) ?_
 refine sS rfl rfl rfl (opS_len_str Tryd.underlying9 rfl) ?_
 refine sS rfl rfl rfl (opS_lt rfl rfl) ?_
 refine sS rfl rfl rfl (mv rfl) ?_
 refine AR.meet (l := [8, 9, 10, 11, 12]) 13 (B ((decide ((a1.length : Int) < 1)) || (decide (2 < (a1.length : Int))))) (fun K => ?_) ?_
 ·rcases Bool.eq_false_or_eq_true (decide ((a1.length : Int) < 1)) with h4 | h4
  ·
   refine gF h4 rfl rfl rfl rfl rfl ?_
   refine gF h4 rfl rfl rfl rfl rfl ?_
   refine gF h4 rfl rfl rfl rfl rfl ?_
   refine sS rfl rfl rfl (opS_pick_t (av := .v _) rfl h4 rfl) ?_
   exact K _ 3 _ (B_congr (or_t h4)) rfl rfl
  ·
   refine gT h4 rfl rfl rfl rfl rfl rfl (AO.ops rfl rfl (mv rfl) ?_)
   refine gT h4 rfl rfl rfl rfl rfl rfl (AO.ops rfl rfl (opS_len_str Tryd.underlying9 rfl) ?_)
   refine gT h4 rfl rfl rfl rfl rfl rfl (AO.ops rfl rfl (opS_gt rfl rfl) ?_)
   refine sS rfl rfl rfl (opS_pick_f (av := .v _) rfl h4 rfl) ?_
   exact K _ 3 _ (B_congr (or_f h4)) rfl rfl
 refine sS rfl rfl rfl (mv rfl) ?_
 refine AR.meet (l := []) 18 (B (((decide ((a1.length : Int) < 1)) || (decide (2 < (a1.length : Int)))) || (!decide (x9 = ([] : List UInt8))))) (fun K => ?_) ?_
 ·rcases Bool.eq_false_or_eq_true ((decide ((a1.length : Int) < 1)) || (decide (2 < (a1.length : Int)))) with h5 | h5
  ·
   refine gF h5 rfl rfl rfl rfl rfl ?_
   refine gF h5 rfl rfl rfl rfl rfl ?_
   refine gF h5 rfl rfl rfl rfl rfl ?_
   refine sS rfl rfl rfl (opS_pick_t (av := .v _) rfl h5 rfl) ?_
   exact K _ 3 _ (B_congr (or_t h5)) rfl rfl
  ·
   refine gT h5 rfl rfl rfl rfl rfl rfl (AO.ops rfl rfl (mv rfl) ?_)
   refine gT h5 rfl rfl rfl rfl rfl rfl (AO.callp rfl en48_crona rfl (show ACalls _ _ _ [] (Ret (S x9) []) from by subst e10; exact lib_Trim a1 ([48, 49, 50, 51, 52, 53, 54, 55, 56, 57] : List UInt8) (okS_s (g6 (nf h5))) (okS_s (g7 (nf h5))) (g8 (nf h5))) ?_)
   refine gT h5 rfl rfl rfl rfl rfl rfl (AO.ops rfl rfl (opS_nes rfl rfl) ?_)
   refine sS rfl rfl rfl (opS_pick_f (av := .v _) rfl h5 rfl) ?_
   exact K _ 3 _ (B_congr (or_f h5)) rfl rfl
 refine AR.nil ?_
 show AW _ _ _ _ _ _
 refine AW.cond rfl (fun c11 => ?_) (fun c11 => ?_)
 ·replace H := cnd_t c11 H
  refine AW.seq ?_
  refine AW.region ?_
  show AR _ _ _ _ _ [0, 1] _
  refine sS rfl rfl rfl (asg rfl) ?_
  refine sS rfl rfl rfl (asg rfl) ?_
  refine AR.nil ?_
  show AW _ _ _ _ _ _
  refine AW.ret ?_
  obtain ⟨rfl, rfl⟩ := res2 H
  exact And.intro rfl (Exists.intro _ (Exists.intro _ ⟨ResV.twoW rfl (.refl _) (.refl _), Sub.at [] rfl, rfl, rfl⟩))
 ·replace H := cnd_f c11 H
  refine AW.skip ?_
  show AW _ _ _ _ _ _
  refine AW.seq ?_
  obtain ⟨g12, H⟩ := grd_s H
  obtain ⟨x13, e14, H⟩ := lt_s H
  refine AW.region ?_
  show AR _ _ _ _ _ [0, 1, 2, 3, 4, 5, 6] _
  refine sS rfl rfl rfl (mv rfl) ?_
  refine AR.run rfl rfl (AO.callp rfl en49_crona rfl (show ACalls _ _ _ [] (Ret (.tup [i64 x13.1, eAny 127 x13.2]) []) from by subst e14; exact lib_Atoi a1 (of_decide_eq_true g12)) ?_)
  refine sS rfl rfl rfl (opS_move (av := .tup _) rfl) ?_
  refine sS rfl rfl rfl (opS_extract (av := .v _) rfl rfl) ?_
  refine sS rfl rfl rfl (opS_extract (av := eAny _ _) rfl rfl) ?_
  refine sS rfl rfl rfl (asg rfl) ?_
  refine sS rfl rfl rfl (opS_assign (av := eAny _ _) rfl) ?_
  refine AR.nil ?_
  show AW _ _ _ _ _ _
  refine AW.seq ?_
  refine AW.region_draw (by kernel_rfl) ?_
  show AI _ _ _ _ 5 (Array.replicate 5 false) _
  refine AI.take (i := 0) rfl rfl (by kernel_rfl) (by kernel_rfl) (by kernel_rfl) (fun _ _ h => h) (mv rfl) ?_
  show AI _ _ _ _ _ #[true, false, false, false, false] _
  refine AI.take (i := 1) rfl rfl (by kernel_rfl) (by kernel_rfl) (by kernel_rfl) (fun _ _ h => h) (opS_move (av := eAny _ _) rfl) ?_
  show AI _ _ _ _ _ #[true, true, false, false, false] _
  refine AI.take (i := 2) rfl rfl (by kernel_rfl) (by kernel_rfl) (by kernel_rfl) (fun _ _ h => h) (g_eq_nil_a Tryd.underlying67 rfl rfl) ?_
  show AI _ _ _ _ _ #[true, true, true, false, false] _
  refine AI.take (i := 3) rfl rfl (by kernel_rfl) (by kernel_rfl) (by kernel_rfl) (fun _ _ h => h) (asg rfl) ?_
  show AI _ _ _ _ _ #[true, true, true, true, false] _
  refine AI.take (i := 4) rfl rfl (by kernel_rfl) (by kernel_rfl) (by kernel_rfl) (fun _ _ h => h) (asg rfl) ?_
  show AI _ _ _ _ _ #[true, true, true, true, true] _
  refine AI.done rfl ?_
  show AW _ _ _ _ _ _
  refine AW.ret ?_
  obtain ⟨rfl, rfl⟩ := res2 H
  exact And.intro rfl (Exists.intro _ (Exists.intro _ ⟨ResV.twoW rfl (.refl _) (.refl _), Sub.at [] rfl, rfl, rfl⟩))
set_option maxRecDepth 100000 in
set_option maxHeartbeats 1000000 in
theorem w_cron_small (F : Nat) (a1 : List UInt8) (r2 : List UInt8) (H : cron_small F a1 = some r2) : ACalls Tryd.prog 50 [S a1] [] (Ret (S r2) []) := by
 unfold cron_small at H
 refine ACalls.of_body Tryd.func50 rfl rfl ?_
 show AW _ _ 30 _ _ _
 refine AW.seq ?_
 refine AW.region ?_
 show AR _ _ _ _ _ [0] _
 refine sS rfl rfl rfl (asg rfl) ?_
 refine AR.nil ?_
 show AW _ _ _ _ _ _
 refine AW.seq ?_
 obtain ⟨g3, H⟩ := grd_s H
 refine AW.region ?_
 show AR _ _ _ _ _ [0, 1, 2] _
 refine sS rfl rfl rfl (mv rfl) ?_
 refine sX rfl rfl rfl (g_conv_str_row Tryd.underlying9 Tryd.underlying23 Tryd.underlying5 rfl g3) ?_
 rintro _ _ ⟨o4, n5, rfl, rfl⟩
 refine sS rfl rfl rfl (opS_assign (av := .vw _ _ _ _) rfl) ?_
 refine AR.nil ?_
 show AW _ _ _ _ _ _
 refine AW.cut (X := (List UInt8)) (fun y24 => ⟨[(3, .vw o4 0 a1.length (a1.length + n5))], [], [.obj o4 (Enc.byte.fl y24 ++ List.replicate n5 .any)]⟩) (fun y24 => cron_small_j1 a1 y24 = some r2) ?_ ?_
 ·
  refine AW.seq ?_
  refine AW.region ?_
  show AR _ _ _ _ _ [0, 1, 2] _
  refine sS rfl rfl rfl (opS_move (av := .vw _ _ _ _) rfl) ?_
  refine sS rfl rfl rfl (opS_len_vw Tryd.underlying23 rfl) ?_
  refine sS rfl rfl rfl (mv rfl) ?_
  refine AR.nil ?_
  show AW _ _ _ _ _ _
  refine AW.block ?_
  refine AW.loop (X := Nat × Int × (List UInt8)) (fun (n9, y6, y7) => ⟨[(3, .vw o4 0 a1.length (a1.length + n5)), (8, .vw o4 0 a1.length (a1.length + n5)), (9, i64 (a1.length : Int)), (10, i64 y6)], [], [.obj o4 (Enc.byte.fl y7 ++ List.replicate n5 .any)]⟩) (fun (n9, y6, y7) => cron_small_L1 a1 n9 (y6, y7) = some r2) (fun (n9, y6, y7) => n9) (F, 0, a1) H (WK.at [0] (.cons (.refl _) (.cons (.refl _) (.cons (.refl _) (.cons (.refl _) (.nil _))))) rfl) ?_
  rintro ⟨n9, y6, y7⟩ H
  obtain ⟨n9, rfl, H⟩ := loop_s H
  replace H : cron_small_B1 a1 (cron_small_L1 a1 n9) y6 y7 = some r2 := H
  unfold cron_small_B1 at H
  show AW _ _ _ _ _ _
  refine AW.seq ?_
  refine AW.region ?_
  show AR _ _ _ _ _ [0] _
  refine sS rfl rfl rfl (opS_lt rfl rfl) ?_
  refine AR.nil ?_
  show AW _ _ _ _ _ _
  refine AW.seq ?_
  refine AW.cond rfl (fun c10 => ?_) (fun c10 => ?_)
  ·replace H := cnd_t c10 H
   refine AW.skip ?_
   show AW _ _ _ _ _ _
   refine AW.cut (X := (List UInt8)) (fun y21 => ⟨[(3, .vw o4 0 a1.length (a1.length + n5)), (8, .vw o4 0 a1.length (a1.length + n5)), (9, i64 (a1.length : Int)), (10, i64 y6)], [], [.obj o4 (Enc.byte.fl y21 ++ List.replicate n5 .any)]⟩) (fun y21 => cron_small_j2 y6 (cron_small_L1 a1 n9) y21 = some r2) ?_ ?_
   ·
    refine AW.block ?_
    refine AW.seq ?_
    obtain ⟨g11, H⟩ := grd_s H
    obtain ⟨g12, H⟩ := grd_s H
    obtain ⟨x13, e14, H⟩ := lt_s H
    refine AW.region ?_
    show AR _ _ _ _ _ [0, 1, 2, 3, 4] _
    refine sS rfl rfl rfl (mv rfl) ?_
    refine sS rfl rfl rfl (g_indexAddr_row Tryd.underlying23 (by kernel_rfl) rfl rfl g11) ?_
    refine sR rfl rfl rfl (g_load_row (k := 0) Tryd.underlying5 rfl rfl rfl g12 e14) ?_
    refine sS rfl rfl rfl (asg rfl) ?_
    refine sS rfl rfl rfl (asg rfl) ?_
    refine AR.nil ?_
    show AW _ _ _ _ _ _
    refine AW.seq ?_
    refine AW.region ?_
    show AR _ _ _ _ _ [0, 1, 2, 3, 4, 5] _
    refine sS rfl rfl rfl (mv rfl) ?_
    refine sS rfl rfl rfl (opS_ge rfl rfl) ?_
    refine sS rfl rfl rfl (mv rfl) ?_
    refine AR.meet (l := []) 20 (B ((decide (65 ≤ (x13.toNat : Int))) && (decide ((x13.toNat : Int) ≤ 90)))) (fun K => ?_) ?_
    ·rcases Bool.eq_false_or_eq_true (decide (65 ≤ (x13.toNat : Int))) with h15 | h15
     ·
      refine gT h15 rfl rfl rfl rfl rfl rfl (AO.ops rfl rfl (mv rfl) ?_)
      refine gT h15 rfl rfl rfl rfl rfl rfl (AO.ops rfl rfl (opS_le rfl rfl) ?_)
      refine sS rfl rfl rfl (opS_pick_t (av := .v _) rfl h15 rfl) ?_
      exact K _ 2 _ (B_congr (and_t h15)) rfl rfl
     ·
      refine gF h15 rfl rfl rfl rfl rfl ?_
      refine gF h15 rfl rfl rfl rfl rfl ?_
      refine sS rfl rfl rfl (opS_pick_f (av := .v _) rfl h15 rfl) ?_
      exact K _ 2 _ (B_congr (and_f h15)) rfl rfl
    refine AR.nil ?_
    show AW _ _ _ _ _ _
    refine AW.cond rfl (fun c16 => ?_) (fun c16 => ?_)
    ·replace H := cnd_t c16 H
     obtain ⟨g17, H⟩ := grd_s H
     obtain ⟨g18, H⟩ := grd_s H
     obtain ⟨x19, e20, H⟩ := lt_s H
     refine AW.region ?_
     show AR _ _ _ _ _ [0, 1, 2, 3, 4, 5, 6] _
     refine sS rfl rfl rfl (opS_move (av := .vw _ _ _ _) rfl) ?_
     refine sS rfl rfl rfl (mv rfl) ?_
     refine sS rfl rfl rfl (mv rfl) ?_
     refine sS rfl rfl rfl (g_add8 (a := x13) (b := 97) rfl rfl) ?_
     refine sS rfl rfl rfl (g_sub8 (a := x13 + 97) (b := 65) rfl rfl) ?_
     refine sS rfl rfl rfl (g_indexAddr_row Tryd.underlying23 (by kernel_rfl) rfl rfl g17) ?_
     refine s0 rfl rfl (g_store_row (k := 0) (c := ((x13 + 97) - 65)) (by kernel_rfl) rfl rfl rfl g18 e20) ?_
     refine AR.nil ?_
     exact Exists.intro x19 ⟨H, WK.at [0] (.cons (.refl _) (.cons (.refl _) (.cons (.refl _) (.cons (.refl _) (.nil _))))) rfl⟩
    ·replace H := cnd_f c16 H
     refine AW.skip ?_
     exact Exists.intro y7 ⟨H, WK.at [0] (.cons (.refl _) (.cons (.refl _) (.cons (.refl _) (.cons (.refl _) (.nil _))))) rfl⟩
   rintro y21 H
   replace H : cron_small_j2 y6 (cron_small_L1 a1 n9) y21 = some r2 := H
   unfold cron_small_j2 at H
   show AW _ _ _ _ _ _
   obtain ⟨g23, H⟩ := grd_s H
   refine AW.region ?_
   show AR _ _ _ _ _ [0, 1] _
   refine sS rfl rfl rfl (g_add rfl rfl g23) ?_
   refine sS rfl rfl rfl (mv rfl) ?_
   refine AR.nil ?_
   exact Exists.intro (n9, y6 + 1, y21) ⟨H, Nat.lt_succ_self _, WK.at [0] (.cons (.refl _) (.cons (.refl _) (.cons (.refl _) (.cons (.refl _) (.nil _))))) rfl⟩
  ·replace H := cnd_f c10 H
   refine AW.exit ?_
   exact Exists.intro y7 ⟨H, WK.at [0] (.cons (.refl _) (.nil _)) rfl⟩
 rintro y24 H
 replace H : cron_small_j1 a1 y24 = some r2 := H
 unfold cron_small_j1 at H
 show AW _ _ _ _ _ _
 refine AW.seq ?_
 obtain ⟨g26, H⟩ := grd_s H
 refine AW.region ?_
 show AR _ _ _ _ _ [0, 1, 2] _
 refine sS rfl rfl rfl (opS_move (av := .vw _ _ _ _) rfl) ?_
 refine sR rfl rfl rfl (opR_conv_row_str (k := 0) Tryd.underlying23 Tryd.underlying5 Tryd.underlying9 rfl g26 rfl) ?_
 refine sS rfl rfl rfl (asg rfl) ?_
 refine AR.nil ?_
 show AW _ _ _ _ _ _
 refine AW.ret ?_
 obtain rfl := Option.some.inj H
 exact And.intro rfl (Exists.intro _ (Exists.intro _ ⟨ResV.oneW rfl (.refl _), Sub.at [] rfl, rfl, rfl⟩))
set_option maxRecDepth 100000 in
set_option maxHeartbeats 1000000 in
theorem w_cron_number (F : Nat) (a1 : Int) (a2 : Int) (a3 : List UInt8) (a4 : Int) (a5 : List UInt8) (rv : Res Int) (H : cron_number F a1 a2 a3 a4 a5 = some rv) : ACalls Tryd.prog 37 [.agg [i64 a1, i64 a2, S a3, i64 a4], S a5] [] (PanOr (fun (r : Int) => (Ret (i64 r) [])) (fun e => pan1 (.iface 40 (.agg #[]))) rv) := by
 unfold cron_number at H
 refine ACalls.of_body Tryd.func37 rfl rfl ?_
 show AW _ _ 57 _ _ _
 refine AW.seq ?_
 refine AW.region ?_
 show AR _ _ _ _ _ [0, 1] _
 refine sR rfl rfl rfl (opR_boxCp rfl (.inr ⟨_, rfl⟩)) ?_
 refine sS rfl rfl rfl (asg rfl) ?_
 refine AR.nil ?_
 show AW _ _ _ _ _ _
 refine AW.seq ?_
 obtain ⟨x7, x8, e9, H⟩ := bnd2_s H
 refine AW.region ?_
 show AR _ _ _ _ _ [0, 1, 2, 3, 4, 5, 6] _
 refine sS rfl rfl rfl (mv rfl) ?_
 refine AR.run rfl rfl (AO.callp rfl en36_crona rfl (w_cron_digits F a5 x7 x8 e9) ?_)
 refine sS rfl rfl rfl (opS_move (av := .tup _) rfl) ?_
 refine sS rfl rfl rfl (opS_extract (av := .v _) rfl rfl) ?_
 refine sS rfl rfl rfl (opS_extract (av := .v _) rfl rfl) ?_
 refine sS rfl rfl rfl (asg rfl) ?_
 refine sS rfl rfl rfl (asg rfl) ?_
 refine AR.nil ?_
 show AW _ _ _ _ _ _
 refine AW.cut (X := Int) (fun y34 => ⟨[(2, .cp [i64 a1, i64 a2, S a3, i64 a4]), (5, i64 y34)], [], []⟩) (fun y34 => cron_number_j1 F a1 a2 a4 y34 = some rv) ?_ ?_
 ·
  refine AW.seq ?_
  refine AW.region ?_
  show AR _ _ _ _ _ [0, 1] _
  refine sS rfl rfl rfl (mv rfl) ?_
  refine sS rfl rfl rfl (opS_not rfl) ?_
  refine AR.nil ?_
  show AW _ _ _ _ _ _
  refine AW.cond rfl (fun c10 => ?_) (fun c10 => ?_)
  ·replace H := cnd_t c10 H
   refine AW.seq ?_
   refine AW.region ?_
   show AR _ _ _ _ _ [0] _
   refine sS rfl rfl rfl (asg rfl) ?_
   refine AR.nil ?_
   show AW _ _ _ _ _ _
   refine AW.cut (X := Int) (fun y28 => ⟨[(2, .cp [i64 a1, i64 a2, S a3, i64 a4]), (7, i64 y28)], [], []⟩) (fun y28 => cron_number_j2 F a1 a2 a4 y28 = some rv) ?_ ?_
   ·
    refine AW.seq ?_
    refine AW.region ?_
    show AR _ _ _ _ _ [0] _
    refine sS rfl rfl rfl (asg rfl) ?_
    refine AR.nil ?_
    show AW _ _ _ _ _ _
    refine AW.block ?_
    refine AW.loop (X := Nat × Int × Int) (fun (n14, y11, y12) => ⟨[(1, S a5), (2, .cp [i64 a1, i64 a2, S a3, i64 a4]), (7, i64 y11), (8, i64 y12)], [], []⟩) (fun (n14, y11, y12) => cron_number_L1 F a1 a2 a3 a4 a5 n14 (y11, y12) = some rv) (fun (n14, y11, y12) => n14) (F, (-1), 0) H (WK.at [] (.cons (.refl _) (.cons (.refl _) (.cons (.refl _) (.cons (.refl _) (.nil _))))) rfl) ?_
    rintro ⟨n14, y11, y12⟩ H
    obtain ⟨n14, rfl, H⟩ := loop_s H
    replace H : cron_number_B1 F a1 a2 a3 a4 a5 (cron_number_L1 F a1 a2 a3 a4 a5 n14) y11 y12 = some rv := H
    unfold cron_number_B1 at H
    show AW _ _ _ _ _ _
    refine AW.seq ?_
    refine AW.seq ?_
    obtain ⟨g15, H⟩ := grd_s H
    refine AW.region ?_
    show AR _ _ _ _ _ [0, 1, 2, 3, 4, 5] _
    refine sS rfl rfl rfl (mv rfl) ?_
    refine sS rfl rfl rfl (g_add rfl rfl g15) ?_
    refine sS rfl rfl rfl (opS_fieldAddr_cp (n := 2) (by kernel_rfl) rfl (Nat.le_of_ble_eq_true rfl)) ?_
    refine sS rfl rfl rfl (opS_load_cp Tryd.underlying9 rfl rfl) ?_
    refine sS rfl rfl rfl (opS_len_str Tryd.underlying9 rfl) ?_
    refine sS rfl rfl rfl (opS_le rfl rfl) ?_
    refine AR.nil ?_
    show AW _ _ _ _ _ _
    refine AW.cond rfl (fun c16 => ?_) (fun c16 => ?_)
    ·replace H := cnd_t c16 H
     refine AW.skip ?_
     show AW _ _ _ _ _ _
     refine AW.cut (X := Int) (fun y25 => ⟨[(1, S a5), (2, .cp [i64 a1, i64 a2, S a3, i64 a4]), (7, i64 y25), (8, i64 y12)], [], []⟩) (fun y25 => cron_number_j3 y12 (cron_number_L1 F a1 a2 a3 a4 a5 n14) y25 = some rv) ?_ ?_
     ·
      refine AW.block ?_
      refine AW.seq ?_
      obtain ⟨g17, H⟩ := grd_s H
      obtain ⟨g18, H⟩ := grd_s H
      obtain ⟨x19, e20, H⟩ := lt_s H
      obtain ⟨x21, e22, H⟩ := bnd_s H
      refine AW.region_draw (by kernel_rfl) ?_
      show AI _ _ _ _ 9 (Array.replicate 9 false) _
      refine AI.take (i := 0) rfl rfl (by kernel_rfl) (by kernel_rfl) (by kernel_rfl) (fun _ _ h => h) (opS_fieldAddr_cp (n := 2) (by kernel_rfl) rfl (Nat.le_of_ble_eq_true rfl)) ?_
      show AI _ _ _ _ _ #[true, false, false, false, false, false, false, false, false] _
      refine AI.take (i := 1) rfl rfl (by kernel_rfl) (by kernel_rfl) (by kernel_rfl) (fun _ _ h => h) (opS_load_cp Tryd.underlying9 rfl rfl) ?_
      show AI _ _ _ _ _ #[true, true, false, false, false, false, false, false, false] _
      refine AI.take (i := 2) rfl rfl (by kernel_rfl) (by kernel_rfl) (by kernel_rfl) (fun _ _ h => h) (mv rfl) ?_
      show AI _ _ _ _ _ #[true, true, true, false, false, false, false, false, false] _
      refine AI.take (i := 3) rfl rfl (by kernel_rfl) (by kernel_rfl) (by kernel_rfl) (fun _ _ h => h) (mv rfl) ?_
      show AI _ _ _ _ _ #[true, true, true, true, false, false, false, false, false] _
      refine AI.take (i := 4) rfl rfl (by kernel_rfl) (by kernel_rfl) (by kernel_rfl) (fun _ _ h => h) (g_add rfl rfl g17) ?_
      show AI _ _ _ _ _ #[true, true, true, true, true, false, false, false, false] _
      refine AI.take (i := 5) rfl rfl (by kernel_rfl) (by kernel_rfl) (by kernel_rfl) (fun _ _ h => h) (g_slice_str Tryd.underlying9 rfl rfl rfl g18 e20) ?_
      show AI _ _ _ _ _ #[true, true, true, true, true, true, false, false, false] _
      refine AI.take (i := 6) rfl rfl (by kernel_rfl) (by kernel_rfl) (by kernel_rfl) (fun _ _ h => h) (mv rfl) ?_
      show AI _ _ _ _ _ #[true, true, true, true, true, true, true, false, false] _
      refine AI.one (i := 7) (by kernel_rfl) rfl rfl ?_
      refine AIO.callp rfl en50_crona rfl (w_cron_small F a5 x21 e22) ?_
      show AI _ _ _ _ _ #[true, true, true, true, true, true, true, true, false] _
      refine AI.take (i := 8) rfl rfl (by kernel_rfl) (by kernel_rfl) (by kernel_rfl) (fun _ _ h => h) (opS_eqs rfl rfl) ?_
      show AI _ _ _ _ _ #[true, true, true, true, true, true, true, true, true] _
      refine AI.done rfl ?_
      show AW _ _ _ _ _ _
      refine AW.cond rfl (fun c23 => ?_) (fun c23 => ?_)
      ·replace H := cnd_t c23 H
       obtain ⟨g24, H⟩ := grd_s H
       refine AW.region ?_
       show AR _ _ _ _ _ [0, 1, 2] _
       refine sS rfl rfl rfl (mv rfl) ?_
       refine sS rfl rfl rfl (g_quo rfl rfl g24) ?_
       refine sS rfl rfl rfl (asg rfl) ?_
       refine AR.nil ?_
       exact Exists.intro (y12 / 3) ⟨H, WK.at [] (.cons (.refl _) (.cons (.refl _) (.cons (.refl _) (.cons (.refl _) (.nil _))))) rfl⟩
      ·replace H := cnd_f c23 H
       refine AW.skip ?_
       exact Exists.intro y11 ⟨H, WK.at [] (.cons (.refl _) (.cons (.refl _) (.cons (.refl _) (.cons (.refl _) (.nil _))))) rfl⟩
     rintro y25 H
     replace H : cron_number_j3 y12 (cron_number_L1 F a1 a2 a3 a4 a5 n14) y25 = some rv := H
     unfold cron_number_j3 at H
     show AW _ _ _ _ _ _
     obtain ⟨g27, H⟩ := grd_s H
     refine AW.region ?_
     show AR _ _ _ _ _ [0, 1, 2] _
     refine sS rfl rfl rfl (mv rfl) ?_
     refine sS rfl rfl rfl (g_add rfl rfl g27) ?_
     refine sS rfl rfl rfl (asg rfl) ?_
     refine AR.nil ?_
     exact Exists.intro (n14, y25, y12 + 3) ⟨H, Nat.lt_succ_self _, WK.at [] (.cons (.refl _) (.cons (.refl _) (.cons (.refl _) (.cons (.refl _) (.nil _))))) rfl⟩
    ·replace H := cnd_f c16 H
     refine AW.exit ?_
     exact Exists.intro y11 ⟨H, WK.at [] (.cons (.refl _) (.cons (.refl _) (.nil _))) rfl⟩
   rintro y28 H
   replace H : cron_number_j2 F a1 a2 a4 y28 = some rv := H
   unfold cron_number_j2 at H
   show AW _ _ _ _ _ _
   refine AW.seq ?_
   rcases Or.symm (bndr_s H) with ⟨p32, e31, H⟩ | ⟨x30, e31, H⟩
   ·subst H
    refine AW.region ?_
    show AR _ _ _ _ _ [0, 1, 2] _
    refine sS rfl rfl rfl (mv rfl) ?_
    refine sS rfl rfl rfl (opS_ge rfl rfl) ?_
    refine AR.run rfl rfl (AO.callPan (c := pan1 (.iface 40 (.agg #[]))) [] rfl en11_crona rfl (w_cron_unless_pan F (decide (0 ≤ y28)) p32 e31) rfl ?_)
    exact And.intro rfl (Exists.intro [] ⟨Sub.nil _, rfl, rfl⟩)
   refine AW.region ?_
   show AR _ _ _ _ _ [0, 1, 2] _
   refine sS rfl rfl rfl (mv rfl) ?_
   refine sS rfl rfl rfl (opS_ge rfl rfl) ?_
   refine AR.run rfl rfl (AO.callp rfl en11_crona rfl (w_cron_unless_ok F (decide (0 ≤ y28)) e31) ?_)
   refine AR.nil ?_
   show AW _ _ _ _ _ _
   obtain ⟨g33, H⟩ := grd_s H
   refine AW.region ?_
   show AR _ _ _ _ _ [0, 1, 2, 3, 4] _
   refine sS rfl rfl rfl (opS_fieldAddr_cp (n := 0) (by kernel_rfl) rfl (Nat.le_of_ble_eq_true rfl)) ?_
   refine sS rfl rfl rfl (opS_load_cp Tryd.underlying3 rfl rfl) ?_
   refine sS rfl rfl rfl (mv rfl) ?_
   refine sS rfl rfl rfl (g_add rfl rfl g33) ?_
   refine sS rfl rfl rfl (asg rfl) ?_
   refine AR.nil ?_
   exact Exists.intro (a1 + y28) ⟨H, WK.at [] (.cons (.refl _) (.cons (.refl _) (.nil _))) rfl⟩
  ·replace H := cnd_f c10 H
   refine AW.skip ?_
   exact Exists.intro x7 ⟨H, WK.at [] (.cons (.refl _) (.cons (.refl _) (.nil _))) rfl⟩
 rintro y34 H
 replace H : cron_number_j1 F a1 a2 a4 y34 = some rv := H
 unfold cron_number_j1 at H
 show AW _ _ _ _ _ _
 refine AW.seq ?_
 rcases Or.symm (bndr_s H) with ⟨p39, e38, H⟩ | ⟨x37, e38, H⟩
 ·subst H
  refine AW.region ?_
  show AR _ _ _ _ _ [0, 1, 2, 3, 4, 5, 6, 7, 8, 9, 10, 11, 12, 13] _
  refine sS rfl rfl rfl (mv rfl) ?_
  refine sS rfl rfl rfl (opS_fieldAddr_cp (n := 0) (by kernel_rfl) rfl (Nat.le_of_ble_eq_true rfl)) ?_
  refine sS rfl rfl rfl (opS_load_cp Tryd.underlying3 rfl rfl) ?_
  refine sS rfl rfl rfl (opS_ge rfl rfl) ?_
  refine sS rfl rfl rfl (mv rfl) ?_
  refine AR.meet (l := [13]) 54 (B ((decide (a1 ≤ y34)) && (decide (y34 ≤ max a2 a4)))) (fun K => ?_) ?_
  ·rcases Bool.eq_false_or_eq_true (decide (a1 ≤ y34)) with h36 | h36
   ·
    refine gT h36 rfl rfl rfl rfl rfl rfl (AO.ops rfl rfl (mv rfl) ?_)
    refine gT h36 rfl rfl rfl rfl rfl rfl (AO.ops rfl rfl (opS_fieldAddr_cp (n := 1) (by kernel_rfl) rfl (Nat.le_of_ble_eq_true rfl)) ?_)
    refine gT h36 rfl rfl rfl rfl rfl rfl (AO.ops rfl rfl (opS_load_cp Tryd.underlying3 rfl rfl) ?_)
    refine gT h36 rfl rfl rfl rfl rfl rfl (AO.ops rfl rfl (opS_fieldAddr_cp (n := 3) (by kernel_rfl) rfl (Nat.le_of_ble_eq_true rfl)) ?_)
    refine gT h36 rfl rfl rfl rfl rfl rfl (AO.ops rfl rfl (opS_load_cp Tryd.underlying3 rfl rfl) ?_)
    refine gT h36 rfl rfl rfl rfl rfl rfl (AO.ops rfl rfl (opS_max rfl rfl) ?_)
    refine gT h36 rfl rfl rfl rfl rfl rfl (AO.ops rfl rfl (opS_le rfl rfl) ?_)
    refine sS rfl rfl rfl (opS_pick_t (av := .v _) rfl h36 rfl) ?_
    exact K _ 7 _ (B_congr (and_t h36)) rfl rfl
   ·
    refine gF h36 rfl rfl rfl rfl rfl ?_
    refine gF h36 rfl rfl rfl rfl rfl ?_
    refine gF h36 rfl rfl rfl rfl rfl ?_
    refine gF h36 rfl rfl rfl rfl rfl ?_
    refine gF h36 rfl rfl rfl rfl rfl ?_
    refine gF h36 rfl rfl rfl rfl rfl ?_
    refine gF h36 rfl rfl rfl rfl rfl ?_
    refine sS rfl rfl rfl (opS_pick_f (av := .v _) rfl h36 rfl) ?_
    exact K _ 7 _ (B_congr (and_f h36)) rfl rfl
  refine AR.run rfl rfl (AO.callPan (c := pan1 (.iface 40 (.agg #[]))) [] rfl en11_crona rfl (w_cron_unless_pan F ((decide (a1 ≤ y34)) && (decide (y34 ≤ max a2 a4))) p39 e38) rfl ?_)
  exact And.intro rfl (Exists.intro [] ⟨Sub.nil _, rfl, rfl⟩)
 refine AW.region ?_
 show AR _ _ _ _ _ [0, 1, 2, 3, 4, 5, 6, 7, 8, 9, 10, 11, 12, 13] _
 refine sS rfl rfl rfl (mv rfl) ?_
 refine sS rfl rfl rfl (opS_fieldAddr_cp (n := 0) (by kernel_rfl) rfl (Nat.le_of_ble_eq_true rfl)) ?_
 refine sS rfl rfl rfl (opS_load_cp Tryd.underlying3 rfl rfl) ?_
 refine sS rfl rfl rfl (opS_ge rfl rfl) ?_
 refine sS rfl rfl rfl (mv rfl) ?_
 refine AR.meet (l := [13]) 54 (B ((decide (a1 ≤ y34)) && (decide (y34 ≤ max a2 a4)))) (fun K => ?_) ?_
 ·rcases Bool.eq_false_or_eq_true (decide (a1 ≤ y34)) with h36 | h36
  ·
   refine gT h36 rfl rfl rfl rfl rfl rfl (AO.ops rfl rfl (mv rfl) ?_)
   refine gT h36 rfl rfl rfl rfl rfl rfl (AO.ops rfl rfl (opS_fieldAddr_cp (n := 1) (by kernel_rfl) rfl (Nat.le_of_ble_eq_true rfl)) ?_)
   refine gT h36 rfl rfl rfl rfl rfl rfl (AO.ops rfl rfl (opS_load_cp Tryd.underlying3 rfl rfl) ?_)
   refine gT h36 rfl rfl rfl rfl rfl rfl (AO.ops rfl rfl (opS_fieldAddr_cp (n := 3) (by kernel_rfl) rfl (Nat.le_of_ble_eq_true rfl)) ?_)
   refine gT h36 rfl rfl rfl rfl rfl rfl (AO.ops rfl rfl (opS_load_cp Tryd.underlying3 rfl rfl) ?_)
   refine gT h36 rfl rfl rfl rfl rfl rfl (AO.ops rfl rfl (opS_max rfl rfl) ?_)
   refine gT h36 rfl rfl rfl rfl rfl rfl (AO.ops rfl rfl (opS_le rfl rfl) ?_)
   refine sS rfl rfl rfl (opS_pick_t (av := .v _) rfl h36 rfl) ?_
   exact K _ 7 _ (B_congr (and_t h36)) rfl rfl
  ·
   refine gF h36 rfl rfl rfl rfl rfl ?_
   refine gF h36 rfl rfl rfl rfl rfl ?_
   refine gF h36 rfl rfl rfl rfl rfl ?_
   refine gF h36 rfl rfl rfl rfl rfl ?_
   refine gF h36 rfl rfl rfl rfl rfl ?_
   refine gF h36 rfl rfl rfl rfl rfl ?_
   refine gF h36 rfl rfl rfl rfl rfl ?_
   refine sS rfl rfl rfl (opS_pick_f (av := .v _) rfl h36 rfl) ?_
   exact K _ 7 _ (B_congr (and_f h36)) rfl rfl
 refine AR.run rfl rfl (AO.callp rfl en11_crona rfl (w_cron_unless_ok F ((decide (a1 ≤ y34)) && (decide (y34 ≤ max a2 a4))) e38) ?_)
 refine AR.nil ?_
 show AW _ _ _ _ _ _
 refine AW.seq ?_
 refine AW.region ?_
 show AR _ _ _ _ _ [0, 1] _
 refine sS rfl rfl rfl (mv rfl) ?_
 refine sS rfl rfl rfl (asg rfl) ?_
 refine AR.nil ?_
 show AW _ _ _ _ _ _
 refine AW.ret ?_
 obtain rfl := Option.some.inj H
 exact And.intro rfl (Exists.intro _ (Exists.intro _ ⟨ResV.oneW rfl (.refl _), Sub.at [] rfl, rfl, rfl⟩))
theorem w_cron_number_ok (F : Nat) (a1 : Int) (a2 : Int) (a3 : List UInt8) (a4 : Int) (a5 : List UInt8) (r6 : Int) (H : cron_number F a1 a2 a3 a4 a5 = some (Res.ok r6)) : ACalls Tryd.prog 37 [.agg [i64 a1, i64 a2, S a3, i64 a4], S a5] [] (Ret (i64 r6) []) := w_cron_number F a1 a2 a3 a4 a5 _ H
theorem w_cron_number_pan (F : Nat) (a1 : Int) (a2 : Int) (a3 : List UInt8) (a4 : Int) (a5 : List UInt8) (e : Int) (H : cron_number F a1 a2 a3 a4 a5 = some (Res.pan e)) : ACalls Tryd.prog 37 [.agg [i64 a1, i64 a2, S a3, i64 a4], S a5] [] (fun ae A' => ae = .pan ((fun e => pan1 (.iface 40 (.agg #[]))) e) ∧ A' = []) := w_cron_number F a1 a2 a3 a4 a5 _ H
set_option maxRecDepth 100000 in
set_option maxHeartbeats 1000000 in
theorem w_cron_piece (F : Nat) (a1 : Int) (a2 : Int) (a3 : List UInt8) (a4 : Int) (a5 : List UInt8) (o6 : Nat) (m7 : Nat) (n8 : Nat) (a9 : List Bool) (n10 : Nat) (rv : Res ((List Bool))) (H : cron_piece F a1 a2 a3 a4 a5 m7 a9 = some rv) : ACalls Tryd.prog 22 [.agg [i64 a1, i64 a2, S a3, i64 a4], S a5, .vw o6 0 m7 n8] [.obj o6 (Enc.bool.fl a9 ++ List.replicate n10 .any)] (PanOr (fun (r : (List Bool)) => (fun e A' => e = .ret (.tup []) ∧ A' = [.obj o6 (Enc.bool.fl r ++ List.replicate n10 .any)])) (fun e => pan1 (.iface 40 (.agg #[]))) rv) := by
 unfold cron_piece at H
 refine ACalls.of_body Tryd.func22 rfl rfl ?_
 show AW _ _ 90 _ _ _
 refine AW.seq ?_
 refine AW.region ?_
 show AR _ _ _ _ _ [0] _
 refine sR rfl rfl rfl (opR_boxCp rfl (.inr ⟨_, rfl⟩)) ?_
 refine AR.nil ?_
 show AW _ _ _ _ _ _
 refine AW.seq ?_
 obtain ⟨g12, H⟩ := grd_s H
 obtain ⟨x13, e14, H⟩ := lt_s H
 refine AW.region ?_
 show AR _ _ _ _ _ [0, 1, 2, 3, 4, 5, 6, 7, 8] _
 refine sS rfl rfl rfl (mv rfl) ?_
 refine AR.run rfl rfl (AO.callp rfl en35_crona rfl (show ACalls _ _ _ [] (Ret (.tup [S x13.1, S x13.2.1, B x13.2.2]) []) from by subst e14; exact lib_Cut a5 ([47] : List UInt8) (okS_s g12)) ?_)
 refine sS rfl rfl rfl (opS_move (av := .tup _) rfl) ?_
 refine sS rfl rfl rfl (opS_extract (av := .v _) rfl rfl) ?_
 refine sS rfl rfl rfl (opS_extract (av := .v _) rfl rfl) ?_
 refine sS rfl rfl rfl (opS_extract (av := .v _) rfl rfl) ?_
 refine sS rfl rfl rfl (asg rfl) ?_
 refine sS rfl rfl rfl (asg rfl) ?_
 refine sS rfl rfl rfl (asg rfl) ?_
 refine AR.nil ?_
 show AW _ _ _ _ _ _
 refine AW.seq ?_
 refine AW.region_draw (by kernel_rfl) ?_
 show AI _ _ _ _ 7 (Array.replicate 7 false) _
 refine AI.take (i := 0) rfl rfl (by kernel_rfl) (by kernel_rfl) (by kernel_rfl) (fun _ _ h => h) (opS_fieldAddr_cp (n := 0) (by kernel_rfl) rfl (Nat.le_of_ble_eq_true rfl)) ?_
 show AI _ _ _ _ _ #[true, false, false, false, false, false, false] _
 refine AI.take (i := 1) rfl rfl (by kernel_rfl) (by kernel_rfl) (by kernel_rfl) (fun _ _ h => h) (opS_load_cp Tryd.underlying3 rfl rfl) ?_
 show AI _ _ _ _ _ #[true, true, false, false, false, false, false] _
 refine AI.take (i := 2) rfl rfl (by kernel_rfl) (by kernel_rfl) (by kernel_rfl) (fun _ _ h => h) (opS_fieldAddr_cp (n := 1) (by kernel_rfl) rfl (Nat.le_of_ble_eq_true rfl)) ?_
 show AI _ _ _ _ _ #[true, true, true, false, false, false, false] _
 refine AI.take (i := 3) rfl rfl (by kernel_rfl) (by kernel_rfl) (by kernel_rfl) (fun _ _ h => h) (opS_load_cp Tryd.underlying3 rfl rfl) ?_
 show AI _ _ _ _ _ #[true, true, true, true, false, false, false] _
 refine AI.take (i := 4) rfl rfl (by kernel_rfl) (by kernel_rfl) (by kernel_rfl) (fun _ _ h => h) (asg rfl) ?_
 show AI _ _ _ _ _ #[true, true, true, true, true, false, false] _
 refine AI.take (i := 5) rfl rfl (by kernel_rfl) (by kernel_rfl) (by kernel_rfl) (fun _ _ h => h) (asg rfl) ?_
 show AI _ _ _ _ _ #[true, true, true, true, true, true, false] _
 refine AI.take (i := 6) rfl rfl (by kernel_rfl) (by kernel_rfl) (by kernel_rfl) (fun _ _ h => h) (asg rfl) ?_
 show AI _ _ _ _ _ #[true, true, true, true, true, true, true] _
 refine AI.done rfl ?_
 show AW _ _ _ _ _ _
 refine AW.cut (X := Int) (fun y23 => ⟨[(2, .vw o6 0 m7 n8), (3, .cp [i64 a1, i64 a2, S a3, i64 a4]), (6, S x13.1), (8, B x13.2.2), (9, i64 y23), (10, i64 a1), (11, i64 a2)], [], [.obj o6 (Enc.bool.fl a9 ++ List.replicate n10 .any)]⟩) (fun y23 => cron_piece_j4 F a1 a2 a3 a4 m7 a9 x13 y23 = some rv) ?_ ?_
 ·
  refine AW.seq ?_
  refine AW.region ?_
  show AR _ _ _ _ _ [0] _
  refine sS rfl rfl rfl (mv rfl) ?_
  refine AR.nil ?_
  show AW _ _ _ _ _ _
  refine AW.cond rfl (fun c15 => ?_) (fun c15 => ?_)
  ·replace H := cnd_t c15 H
   refine AW.seq ?_
   obtain ⟨x16, x17, e18, H⟩ := bnd2_s H
   refine AW.region ?_
   show AR _ _ _ _ _ [0, 1, 2, 3, 4, 5, 6] _
   refine sS rfl rfl rfl (mv rfl) ?_
   refine AR.run rfl rfl (AO.callp rfl en36_crona rfl (w_cron_digits F x13.2.1 x16 x17 e18) ?_)
   refine sS rfl rfl rfl (opS_move (av := .tup _) rfl) ?_
   refine sS rfl rfl rfl (opS_extract (av := .v _) rfl rfl) ?_
   refine sS rfl rfl rfl (opS_extract (av := .v _) rfl rfl) ?_
   refine sS rfl rfl rfl (asg rfl) ?_
   refine sS rfl rfl rfl (asg rfl) ?_
   refine AR.nil ?_
   show AW _ _ _ _ _ _
   refine AW.seq ?_
   rcases Or.symm (bndr_s H) with ⟨p22, e21, H⟩ | ⟨x20, e21, H⟩
   ·subst H
    refine AW.region ?_
    show AR _ _ _ _ _ [0, 1, 2, 3, 4, 5] _
    refine sS rfl rfl rfl (mv rfl) ?_
    refine sS rfl rfl rfl (mv rfl) ?_
    refine AR.meet (l := [5]) 38 (B (x17 && (decide (0 < x16)))) (fun K => ?_) ?_
    ·rcases Bool.eq_false_or_eq_true x17 with h19 | h19
     ·
      refine gT h19 rfl rfl rfl rfl rfl rfl (AO.ops rfl rfl (mv rfl) ?_)
      refine gT h19 rfl rfl rfl rfl rfl rfl (AO.ops rfl rfl (opS_gt rfl rfl) ?_)
      refine sS rfl rfl rfl (opS_pick_t (av := .v _) rfl h19 rfl) ?_
      exact K _ 2 _ (B_congr (and_t h19)) rfl rfl
     ·
      refine gF h19 rfl rfl rfl rfl rfl ?_
      refine gF h19 rfl rfl rfl rfl rfl ?_
      refine sS rfl rfl rfl (opS_pick_f (av := .v _) rfl h19 rfl) ?_
      exact K _ 2 _ (B_congr (and_f h19)) rfl rfl
    refine AR.run rfl rfl (AO.callPan (c := pan1 (.iface 40 (.agg #[]))) [] rfl en11_crona rfl (w_cron_unless_pan F (x17 && (decide (0 < x16))) p22 e21) rfl ?_)
    exact And.intro rfl (Exists.intro [] ⟨Sub.nil _, rfl, rfl⟩)
   refine AW.region ?_
   show AR _ _ _ _ _ [0, 1, 2, 3, 4, 5] _
   refine sS rfl rfl rfl (mv rfl) ?_
   refine sS rfl rfl rfl (mv rfl) ?_
   refine AR.meet (l := [5]) 38 (B (x17 && (decide (0 < x16)))) (fun K => ?_) ?_
   ·rcases Bool.eq_false_or_eq_true x17 with h19 | h19
    ·
     refine gT h19 rfl rfl rfl rfl rfl rfl (AO.ops rfl rfl (mv rfl) ?_)
     refine gT h19 rfl rfl rfl rfl rfl rfl (AO.ops rfl rfl (opS_gt rfl rfl) ?_)
     refine sS rfl rfl rfl (opS_pick_t (av := .v _) rfl h19 rfl) ?_
     exact K _ 2 _ (B_congr (and_t h19)) rfl rfl
    ·
     refine gF h19 rfl rfl rfl rfl rfl ?_
     refine gF h19 rfl rfl rfl rfl rfl ?_
     refine sS rfl rfl rfl (opS_pick_f (av := .v _) rfl h19 rfl) ?_
     exact K _ 2 _ (B_congr (and_f h19)) rfl rfl
   refine AR.run rfl rfl (AO.callp rfl en11_crona rfl (w_cron_unless_ok F (x17 && (decide (0 < x16))) e21) ?_)
   refine AR.nil ?_
   show AW _ _ _ _ _ _
   refine AW.region ?_
   show AR _ _ _ _ _ [0, 1] _
   refine sS rfl rfl rfl (mv rfl) ?_
   refine sS rfl rfl rfl (asg rfl) ?_
   refine AR.nil ?_
   exact Exists.intro x16 ⟨H, WK.at [0] (.cons (.refl _) (.cons (.refl _) (.cons (.refl _) (.cons (.refl _) (.cons (.refl _) (.cons (.refl _) (.cons (.refl _) (.nil _)))))))) rfl⟩
  ·replace H := cnd_f c15 H
   refine AW.skip ?_
   exact Exists.intro 1 ⟨H, WK.at [0] (.cons (.refl _) (.cons (.refl _) (.cons (.refl _) (.cons (.refl _) (.cons (.refl _) (.cons (.refl _) (.cons (.refl _) (.nil _)))))))) rfl⟩
 rintro y23 H
 replace H : cron_piece_j4 F a1 a2 a3 a4 m7 a9 x13 y23 = some rv := H
 unfold cron_piece_j4 at H
 show AW _ _ _ _ _ _
 refine AW.cut (X := Int × Int) (fun (y45, y46) => ⟨[(2, .vw o6 0 m7 n8), (3, .cp [i64 a1, i64 a2, S a3, i64 a4]), (9, i64 y23), (10, i64 y45), (11, i64 y46)], [], [.obj o6 (Enc.bool.fl a9 ++ List.replicate n10 .any)]⟩) (fun (y45, y46) => cron_piece_j2 F a1 a4 m7 a9 y23 y45 y46 = some rv) ?_ ?_
 ·
  refine AW.seq ?_
  refine AW.region ?_
  show AR _ _ _ _ _ [0, 1] _
  refine sS rfl rfl rfl (mv rfl) ?_
  refine sS rfl rfl rfl (opS_nes rfl rfl) ?_
  refine AR.nil ?_
  show AW _ _ _ _ _ _
  refine AW.cond rfl (fun c25 => ?_) (fun c25 => ?_)
  ·replace H := cnd_t c25 H
   refine AW.seq ?_
   obtain ⟨g26, H⟩ := grd_s H
   obtain ⟨x27, e28, H⟩ := lt_s H
   refine AW.region ?_
   show AR _ _ _ _ _ [0, 1, 2, 3, 4, 5, 6, 7, 8] _
   refine sS rfl rfl rfl (mv rfl) ?_
   refine AR.run rfl rfl (AO.callp rfl en35_crona rfl (show ACalls _ _ _ [] (Ret (.tup [S x27.1, S x27.2.1, B x27.2.2]) []) from by subst e28; exact lib_Cut x13.1 ([45] : List UInt8) (okS_s g26)) ?_)
   refine sS rfl rfl rfl (opS_move (av := .tup _) rfl) ?_
   refine sS rfl rfl rfl (opS_extract (av := .v _) rfl rfl) ?_
   refine sS rfl rfl rfl (opS_extract (av := .v _) rfl rfl) ?_
   refine sS rfl rfl rfl (opS_extract (av := .v _) rfl rfl) ?_
   refine sS rfl rfl rfl (asg rfl) ?_
   refine sS rfl rfl rfl (asg rfl) ?_
   refine sS rfl rfl rfl (asg rfl) ?_
   refine AR.nil ?_
   show AW _ _ _ _ _ _
   refine AW.seq ?_
   rcases Or.symm (bndr_s H) with ⟨p32, e31, H⟩ | ⟨x30, e31, H⟩
   ·subst H
    refine AW.region ?_
    show AR _ _ _ _ _ [0, 1, 2, 3, 4, 5] _
    refine sS rfl rfl rfl (mv rfl) ?_
    refine sS rfl rfl rfl (mv rfl) ?_
    refine AR.meet (l := [5]) 53 (B (x27.2.2 || (!x13.2.2))) (fun K => ?_) ?_
    ·rcases Bool.eq_false_or_eq_true x27.2.2 with h29 | h29
     ·
      refine gF h29 rfl rfl rfl rfl rfl ?_
      refine gF h29 rfl rfl rfl rfl rfl ?_
      refine sS rfl rfl rfl (opS_pick_t (av := .v _) rfl h29 rfl) ?_
      exact K _ 2 _ (B_congr (or_t h29)) rfl rfl
     ·
      refine gT h29 rfl rfl rfl rfl rfl rfl (AO.ops rfl rfl (mv rfl) ?_)
      refine gT h29 rfl rfl rfl rfl rfl rfl (AO.ops rfl rfl (opS_not rfl) ?_)
      refine sS rfl rfl rfl (opS_pick_f (av := .v _) rfl h29 rfl) ?_
      exact K _ 2 _ (B_congr (or_f h29)) rfl rfl
    refine AR.run rfl rfl (AO.callPan (c := pan1 (.iface 40 (.agg #[]))) [] rfl en11_crona rfl (w_cron_unless_pan F (x27.2.2 || (!x13.2.2)) p32 e31) rfl ?_)
    exact And.intro rfl (Exists.intro [] ⟨Sub.nil _, rfl, rfl⟩)
   refine AW.region ?_
   show AR _ _ _ _ _ [0, 1, 2, 3, 4, 5] _
   refine sS rfl rfl rfl (mv rfl) ?_
   refine sS rfl rfl rfl (mv rfl) ?_
   refine AR.meet (l := [5]) 53 (B (x27.2.2 || (!x13.2.2))) (fun K => ?_) ?_
   ·rcases Bool.eq_false_or_eq_true x27.2.2 with h29 | h29
    ·
     refine gF h29 rfl rfl rfl rfl rfl ?_
     refine gF h29 rfl rfl rfl rfl rfl ?_
     refine sS rfl rfl rfl (opS_pick_t (av := .v _) rfl h29 rfl) ?_
     exact K _ 2 _ (B_congr (or_t h29)) rfl rfl
    ·
     refine gT h29 rfl rfl rfl rfl rfl rfl (AO.ops rfl rfl (mv rfl) ?_)
     refine gT h29 rfl rfl rfl rfl rfl rfl (AO.ops rfl rfl (opS_not rfl) ?_)
     refine sS rfl rfl rfl (opS_pick_f (av := .v _) rfl h29 rfl) ?_
     exact K _ 2 _ (B_congr (or_f h29)) rfl rfl
   refine AR.run rfl rfl (AO.callp rfl en11_crona rfl (w_cron_unless_ok F (x27.2.2 || (!x13.2.2)) e31) ?_)
   refine AR.nil ?_
   show AW _ _ _ _ _ _
   refine AW.seq ?_
   rcases Or.symm (bndr_s H) with ⟨p35, e34, H⟩ | ⟨x33, e34, H⟩
   ·subst H
    refine AW.region ?_
    show AR _ _ _ _ _ [0, 1, 2, 3] _
    refine sS rfl rfl rfl (opS_load_cp_agg Tryd.underlying46 rfl (n := 4) (by kernel_rfl) rfl (Nat.le_of_ble_eq_true rfl)) ?_
    refine sS rfl rfl rfl (mv rfl) ?_
    refine AR.run rfl rfl (AO.callPan (c := pan1 (.iface 40 (.agg #[]))) [] rfl en37_crona rfl (w_cron_number_pan F a1 a2 a3 a4 x27.1 p35 e34) rfl ?_)
    exact And.intro rfl (Exists.intro [] ⟨Sub.nil _, rfl, rfl⟩)
   refine AW.region ?_
   show AR _ _ _ _ _ [0, 1, 2, 3] _
   refine sS rfl rfl rfl (opS_load_cp_agg Tryd.underlying46 rfl (n := 4) (by kernel_rfl) rfl (Nat.le_of_ble_eq_true rfl)) ?_
   refine sS rfl rfl rfl (mv rfl) ?_
   refine AR.run rfl rfl (AO.callp rfl en37_crona rfl (w_cron_number_ok F a1 a2 a3 a4 x27.1 x33 e34) ?_)
   refine sS rfl rfl rfl (asg rfl) ?_
   refine AR.nil ?_
   show AW _ _ _ _ _ _
   refine AW.seq ?_
   refine AW.region ?_
   show AR _ _ _ _ _ [0, 1] _
   refine sS rfl rfl rfl (mv rfl) ?_
   refine sS rfl rfl rfl (asg rfl) ?_
   refine AR.nil ?_
   show AW _ _ _ _ _ _
   refine AW.cut (X := Int) (fun y40 => ⟨[(2, .vw o6 0 m7 n8), (3, .cp [i64 a1, i64 a2, S a3, i64 a4]), (9, i64 y23), (10, i64 x33), (11, i64 y40)], [], [.obj o6 (Enc.bool.fl a9 ++ List.replicate n10 .any)]⟩) (fun y40 => cron_piece_j3 F a1 a4 m7 a9 y23 x33 y40 = some rv) ?_ ?_
   ·
    refine AW.seq ?_
    refine AW.region ?_
    show AR _ _ _ _ _ [0] _
    refine sS rfl rfl rfl (mv rfl) ?_
    refine AR.nil ?_
    show AW _ _ _ _ _ _
    refine AW.cond rfl (fun c36 => ?_) (fun c36 => ?_)
    ·replace H := cnd_t c36 H
     rcases Or.symm (bndr_s H) with ⟨p39, e38, H⟩ | ⟨x37, e38, H⟩
     ·subst H
      refine AW.region ?_
      show AR _ _ _ _ _ [0, 1, 2, 3] _
      refine sS rfl rfl rfl (opS_load_cp_agg Tryd.underlying46 rfl (n := 4) (by kernel_rfl) rfl (Nat.le_of_ble_eq_true rfl)) ?_
      refine sS rfl rfl rfl (mv rfl) ?_
      refine AR.run rfl rfl (AO.callPan (c := pan1 (.iface 40 (.agg #[]))) [] rfl en37_crona rfl (w_cron_number_pan F a1 a2 a3 a4 x27.2.1 p39 e38) rfl ?_)
      exact And.intro rfl (Exists.intro [] ⟨Sub.nil _, rfl, rfl⟩)
     refine AW.region ?_
     show AR _ _ _ _ _ [0, 1, 2, 3] _
     refine sS rfl rfl rfl (opS_load_cp_agg Tryd.underlying46 rfl (n := 4) (by kernel_rfl) rfl (Nat.le_of_ble_eq_true rfl)) ?_
     refine sS rfl rfl rfl (mv rfl) ?_
     refine AR.run rfl rfl (AO.callp rfl en37_crona rfl (w_cron_number_ok F a1 a2 a3 a4 x27.2.1 x37 e38) ?_)
     refine sS rfl rfl rfl (asg rfl) ?_
     refine AR.nil ?_
     exact Exists.intro x37 ⟨H, WK.at [0] (.cons (.refl _) (.cons (.refl _) (.cons (.refl _) (.cons (.refl _) (.cons (.refl _) (.nil _)))))) rfl⟩
    ·replace H := cnd_f c36 H
     refine AW.skip ?_
     exact Exists.intro x33 ⟨H, WK.at [0] (.cons (.refl _) (.cons (.refl _) (.cons (.refl _) (.cons (.refl _) (.cons (.refl _) (.nil _)))))) rfl⟩
   rintro y40 H
   replace H : cron_piece_j3 F a1 a4 m7 a9 y23 x33 y40 = some rv := H
   unfold cron_piece_j3 at H
   show AW _ _ _ _ _ _
   rcases Or.symm (bndr_s H) with ⟨p44, e43, H⟩ | ⟨x42, e43, H⟩
   ·subst H
    refine AW.region ?_
    show AR _ _ _ _ _ [0, 1, 2, 3] _
    refine sS rfl rfl rfl (mv rfl) ?_
    refine sS rfl rfl rfl (mv rfl) ?_
    refine sS rfl rfl rfl (opS_le rfl rfl) ?_
    refine AR.run rfl rfl (AO.callPan (c := pan1 (.iface 40 (.agg #[]))) [] rfl en11_crona rfl (w_cron_unless_pan F (decide (x33 ≤ y40)) p44 e43) rfl ?_)
    exact And.intro rfl (Exists.intro [] ⟨Sub.nil _, rfl, rfl⟩)
   refine AW.region ?_
   show AR _ _ _ _ _ [0, 1, 2, 3] _
   refine sS rfl rfl rfl (mv rfl) ?_
   refine sS rfl rfl rfl (mv rfl) ?_
   refine sS rfl rfl rfl (opS_le rfl rfl) ?_
   refine AR.run rfl rfl (AO.callp rfl en11_crona rfl (w_cron_unless_ok F (decide (x33 ≤ y40)) e43) ?_)
   refine AR.nil ?_
   exact Exists.intro (x33, y40) ⟨H, WK.at [0] (.cons (.refl _) (.cons (.refl _) (.cons (.refl _) (.cons (.refl _) (.cons (.refl _) (.nil _)))))) rfl⟩
  ·replace H := cnd_f c25 H
   refine AW.skip ?_
   exact Exists.intro (a1, a2) ⟨H, WK.at [0] (.cons (.refl _) (.cons (.refl _) (.cons (.refl _) (.cons (.refl _) (.cons (.refl _) (.nil _)))))) rfl⟩
 rintro ⟨y45, y46⟩ H
 replace H : cron_piece_j2 F a1 a4 m7 a9 y23 y45 y46 = some rv := H
 unfold cron_piece_j2 at H
 show AW _ _ _ _ _ _
 refine AW.seq ?_
 refine AW.region ?_
 show AR _ _ _ _ _ [0, 1] _
 refine sS rfl rfl rfl (mv rfl) ?_
 refine sS rfl rfl rfl (asg rfl) ?_
 refine AR.nil ?_
 show AW _ _ _ _ _ _
 refine AW.block ?_
 refine AW.loop (X := Nat × Int × (List Bool)) (fun (n51, y48, y49) => ⟨[(2, .vw o6 0 m7 n8), (3, .cp [i64 a1, i64 a2, S a3, i64 a4]), (9, i64 y23), (11, i64 y46), (17, i64 y48)], [], [.obj o6 (Enc.bool.fl y49 ++ List.replicate n10 .any)]⟩) (fun (n51, y48, y49) => cron_piece_L1 a1 a4 m7 y23 y46 n51 (y48, y49) = some rv) (fun (n51, y48, y49) => n51) (F, y45, a9) H (WK.at [0] (.cons (.refl _) (.cons (.refl _) (.cons (.refl _) (.cons (.refl _) (.cons (.refl _) (.nil _)))))) rfl) ?_
 rintro ⟨n51, y48, y49⟩ H
 obtain ⟨n51, rfl, H⟩ := loop_s H
 replace H : cron_piece_B1 a1 a4 m7 y23 y46 (cron_piece_L1 a1 a4 m7 y23 y46 n51) y48 y49 = some rv := H
 unfold cron_piece_B1 at H
 show AW _ _ _ _ _ _
 refine AW.seq ?_
 refine AW.seq ?_
 refine AW.region ?_
 show AR _ _ _ _ _ [0, 1, 2] _
 refine sS rfl rfl rfl (mv rfl) ?_
 refine sS rfl rfl rfl (mv rfl) ?_
 refine sS rfl rfl rfl (opS_le rfl rfl) ?_
 refine AR.nil ?_
 show AW _ _ _ _ _ _
 refine AW.cond rfl (fun c52 => ?_) (fun c52 => ?_)
 ·replace H := cnd_t c52 H
  refine AW.skip ?_
  show AW _ _ _ _ _ _
  refine AW.cut (X := (List Bool)) (fun y63 => ⟨[(2, .vw o6 0 m7 n8), (3, .cp [i64 a1, i64 a2, S a3, i64 a4]), (9, i64 y23), (11, i64 y46), (17, i64 y48)], [], [.obj o6 (Enc.bool.fl y63 ++ List.replicate n10 .any)]⟩) (fun y63 => cron_piece_j1 y23 y48 (cron_piece_L1 a1 a4 m7 y23 y46 n51) y63 = some rv) ?_ ?_
  ·
   refine AW.block ?_
   refine AW.seq ?_
   refine AW.seq ?_
   refine AW.region ?_
   show AR _ _ _ _ _ [0, 1, 2, 3, 4, 5, 6, 7, 8] _
   refine sS rfl rfl rfl (mv rfl) ?_
   refine sS rfl rfl rfl (opS_fieldAddr_cp (n := 3) (by kernel_rfl) rfl (Nat.le_of_ble_eq_true rfl)) ?_
   refine sS rfl rfl rfl (opS_load_cp Tryd.underlying3 rfl rfl) ?_
   refine sS rfl rfl rfl (opS_eqi rfl rfl) ?_
   refine sS rfl rfl rfl (mv rfl) ?_
   refine AR.meet (l := []) 82 (B ((decide (y48 = a4)) && (decide (0 < a4)))) (fun K => ?_) ?_
   ·rcases Bool.eq_false_or_eq_true (decide (y48 = a4)) with h53 | h53
    ·
     refine gT h53 rfl rfl rfl rfl rfl rfl (AO.ops rfl rfl (opS_fieldAddr_cp (n := 3) (by kernel_rfl) rfl (Nat.le_of_ble_eq_true rfl)) ?_)
     refine gT h53 rfl rfl rfl rfl rfl rfl (AO.ops rfl rfl (opS_load_cp Tryd.underlying3 rfl rfl) ?_)
     refine gT h53 rfl rfl rfl rfl rfl rfl (AO.ops rfl rfl (opS_gt rfl rfl) ?_)
     refine sS rfl rfl rfl (opS_pick_t (av := .v _) rfl h53 rfl) ?_
     exact K _ 3 _ (B_congr (and_t h53)) rfl rfl
    ·
     refine gF h53 rfl rfl rfl rfl rfl ?_
     refine gF h53 rfl rfl rfl rfl rfl ?_
     refine gF h53 rfl rfl rfl rfl rfl ?_
     refine sS rfl rfl rfl (opS_pick_f (av := .v _) rfl h53 rfl) ?_
     exact K _ 3 _ (B_congr (and_f h53)) rfl rfl
   refine AR.nil ?_
   show AW _ _ _ _ _ _
   refine AW.cond rfl (fun c54 => ?_) (fun c54 => ?_)
   ·replace H := cnd_t c54 H
    refine AW.seq ?_
    obtain ⟨g55, H⟩ := grd_s H
    obtain ⟨g56, H⟩ := grd_s H
    obtain ⟨x57, e58, H⟩ := lt_s H
    refine AW.region ?_
    show AR _ _ _ _ _ [0, 1, 2, 3, 4] _
    refine sS rfl rfl rfl (opS_move (av := .vw _ _ _ _) rfl) ?_
    refine sS rfl rfl rfl (opS_fieldAddr_cp (n := 0) (by kernel_rfl) rfl (Nat.le_of_ble_eq_true rfl)) ?_
    refine sS rfl rfl rfl (opS_load_cp Tryd.underlying3 rfl rfl) ?_
    refine sS rfl rfl rfl (g_indexAddr_row Tryd.underlying59 (by kernel_rfl) rfl rfl g55) ?_
    refine s0 rfl rfl (g_store_rowE (E := Enc.bool) (k := 0) (v := true) rfl (by kernel_rfl) rfl rfl rfl rfl g56 e58) ?_
    refine AR.nil ?_
    show AW _ _ _ _ _ _
    refine AW.exit ?_
    exact Exists.intro x57 ⟨H, WK.at [0] (.cons (.refl _) (.cons (.refl _) (.cons (.refl _) (.cons (.refl _) (.cons (.refl _) (.nil _)))))) rfl⟩
   ·replace H := cnd_f c54 H
    refine AW.skip ?_
    show AW _ _ _ _ _ _
    obtain ⟨g59, H⟩ := grd_s H
    obtain ⟨g60, H⟩ := grd_s H
    obtain ⟨x61, e62, H⟩ := lt_s H
    refine AW.region ?_
    show AR _ _ _ _ _ [0, 1, 2, 3] _
    refine sS rfl rfl rfl (opS_move (av := .vw _ _ _ _) rfl) ?_
    refine sS rfl rfl rfl (mv rfl) ?_
    refine sS rfl rfl rfl (g_indexAddr_row Tryd.underlying59 (by kernel_rfl) rfl rfl g59) ?_
    refine s0 rfl rfl (g_store_rowE (E := Enc.bool) (k := 0) (v := true) rfl (by kernel_rfl) rfl rfl rfl rfl g60 e62) ?_
    refine AR.nil ?_
    exact Exists.intro x61 ⟨H, WK.at [0] (.cons (.refl _) (.cons (.refl _) (.cons (.refl _) (.cons (.refl _) (.cons (.refl _) (.nil _)))))) rfl⟩
  rintro y63 H
  replace H : cron_piece_j1 y23 y48 (cron_piece_L1 a1 a4 m7 y23 y46 n51) y63 = some rv := H
  unfold cron_piece_j1 at H
  show AW _ _ _ _ _ _
  obtain ⟨g65, H⟩ := grd_s H
  refine AW.region ?_
  show AR _ _ _ _ _ [0, 1, 2, 3] _
  refine sS rfl rfl rfl (mv rfl) ?_
  refine sS rfl rfl rfl (mv rfl) ?_
  refine sS rfl rfl rfl (g_add rfl rfl g65) ?_
  refine sS rfl rfl rfl (asg rfl) ?_
  refine AR.nil ?_
  exact Exists.intro (n51, y48 + y23, y63) ⟨H, Nat.lt_succ_self _, WK.at [0] (.cons (.refl _) (.cons (.refl _) (.cons (.refl _) (.cons (.refl _) (.cons (.refl _) (.nil _)))))) rfl⟩
 ·replace H := cnd_f c52 H
  refine AW.exit ?_
  obtain rfl := Option.some.inj H
  exact And.intro rfl (Exists.intro _ (Exists.intro _ ⟨ResV.noneW rfl, Sub.at [0] rfl, rfl, rfl⟩))
theorem w_cron_piece_ok (F : Nat) (a1 : Int) (a2 : Int) (a3 : List UInt8) (a4 : Int) (a5 : List UInt8) (o6 : Nat) (m7 : Nat) (n8 : Nat) (a9 : List Bool) (n10 : Nat) (r11 : List Bool) (H : cron_piece F a1 a2 a3 a4 a5 m7 a9 = some (Res.ok r11)) : ACalls Tryd.prog 22 [.agg [i64 a1, i64 a2, S a3, i64 a4], S a5, .vw o6 0 m7 n8] [.obj o6 (Enc.bool.fl a9 ++ List.replicate n10 .any)] (fun e A' => e = .ret (.tup []) ∧ A' = [.obj o6 (Enc.bool.fl r11 ++ List.replicate n10 .any)]) := w_cron_piece F a1 a2 a3 a4 a5 o6 m7 n8 a9 n10 _ H
theorem w_cron_piece_pan (F : Nat) (a1 : Int) (a2 : Int) (a3 : List UInt8) (a4 : Int) (a5 : List UInt8) (o6 : Nat) (m7 : Nat) (n8 : Nat) (a9 : List Bool) (n10 : Nat) (e : Int) (H : cron_piece F a1 a2 a3 a4 a5 m7 a9 = some (Res.pan e)) : ACalls Tryd.prog 22 [.agg [i64 a1, i64 a2, S a3, i64 a4], S a5, .vw o6 0 m7 n8] [.obj o6 (Enc.bool.fl a9 ++ List.replicate n10 .any)] (fun ae A' => ae = .pan ((fun e => pan1 (.iface 40 (.agg #[]))) e) ∧ A' = []) := w_cron_piece F a1 a2 a3 a4 a5 o6 m7 n8 a9 n10 _ H
set_option maxRecDepth 100000 in
set_option maxHeartbeats 1000000 in
theorem w_cron_part (F : Nat) (a1 : Int) (a2 : Int) (a3 : List UInt8) (a4 : Int) (a5 : List UInt8) (rv : Res ((List Int))) (H : cron_part F a1 a2 a3 a4 a5 = some rv) : ACalls Tryd.prog 13 [.agg [i64 a1, i64 a2, S a3, i64 a4], S a5] [] (PanOr (fun (r : (List Int)) => (Ret (slE Enc.int r none) [])) (fun e => pan1 (.iface 40 (.agg #[]))) rv) := by
 unfold cron_part at H
 refine ACalls.of_body Tryd.func13 rfl rfl ?_
 show AW _ _ 41 _ _ _
 refine AW.seq ?_
 refine AW.region ?_
 show AR _ _ _ _ _ [0, 1] _
 refine sR rfl rfl rfl (opR_boxCp rfl (.inr ⟨_, rfl⟩)) ?_
 refine sS rfl rfl rfl (asg rfl) ?_
 refine AR.nil ?_
 show AW _ _ _ _ _ _
 refine AW.seq ?_
 obtain ⟨g7, H⟩ := grd_s H
 obtain ⟨g8, H⟩ := grd_s H
 refine AW.region ?_
 show AR _ _ _ _ _ [0, 1, 2, 3, 4] _
 refine sS rfl rfl rfl (opS_fieldAddr_cp (n := 1) (by kernel_rfl) rfl (Nat.le_of_ble_eq_true rfl)) ?_
 refine sS rfl rfl rfl (opS_load_cp Tryd.underlying3 rfl rfl) ?_
 refine sS rfl rfl rfl (g_add rfl rfl g7) ?_
 refine sX rfl rfl rfl (opX_makeOwn (E := Enc.bool) (bytes := 1) (zv := false) Tryd.underlying59 (by kernel_rfl) (by kernel_rfl) rfl rfl rfl rfl rfl g8) ?_
 rintro _ _ ⟨o9, rfl, rfl⟩
 refine sS rfl rfl rfl (opS_assign (av := .vw _ _ _ _) rfl) ?_
 refine AR.nil ?_
 show AW _ _ _ _ _ _
 refine AW.cut (X := (List Bool)) (fun y26 => ⟨[(5, .vw o9 0 (Int.toNat (a2 + 1)) (Int.toNat (a2 + 1)))], [], [.obj o9 (Enc.bool.fl y26 ++ List.replicate 0 .any)]⟩) (fun y26 => cron_part_j3 F a2 y26 = some rv) ?_ ?_
 ·
  refine AW.seq ?_
  obtain ⟨g10, H⟩ := grd_s H
  obtain ⟨g11, H⟩ := grd_s H
  obtain ⟨x12, e13, H⟩ := lt_s H
  refine AW.region ?_
  show AR _ _ _ _ _ [0, 1, 2, 3] _
  refine sS rfl rfl rfl (mv rfl) ?_
  refine AR.run rfl rfl (AO.callp rfl en10_crona rfl (show ACalls _ _ _ [] (Ret (slE Enc.str x12 none) []) from by subst e13; exact lib_Split a5 ([44] : List UInt8) (okS_s g10) (of_decide_eq_true g11)) ?_)
  refine sS rfl rfl rfl (opS_len_sl Tryd.underlying42 rfl) ?_
  refine sS rfl rfl rfl (mv rfl) ?_
  refine AR.nil ?_
  show AW _ _ _ _ _ _
  refine AW.block ?_
  refine AW.loop (X := Nat × Int × (List Bool)) (fun (n17, y14, y15) => ⟨[(2, .cp [i64 a1, i64 a2, S a3, i64 a4]), (5, .vw o9 0 (Int.toNat (a2 + 1)) (Int.toNat (a2 + 1))), (16, slE Enc.str x12 none), (17, i64 (x12.length : Int)), (18, i64 y14)], [], [.obj o9 (Enc.bool.fl y15 ++ List.replicate 0 .any)]⟩) (fun (n17, y14, y15) => cron_part_L2 F a1 a2 a3 a4 x12 n17 (y14, y15) = some rv) (fun (n17, y14, y15) => n17) (F, 0, List.replicate (Int.toNat (a2 + 1)) false) H (WK.at [0] (.cons (.refl _) (.cons (.refl _) (.cons (.refl _) (.cons (.refl _) (.cons (.refl _) (.nil _)))))) rfl) ?_
  rintro ⟨n17, y14, y15⟩ H
  obtain ⟨n17, rfl, H⟩ := loop_s H
  replace H : cron_part_B2 F a1 a2 a3 a4 x12 (cron_part_L2 F a1 a2 a3 a4 x12 n17) y14 y15 = some rv := H
  unfold cron_part_B2 at H
  show AW _ _ _ _ _ _
  refine AW.seq ?_
  refine AW.region ?_
  show AR _ _ _ _ _ [0] _
  refine sS rfl rfl rfl (opS_lt rfl rfl) ?_
  refine AR.nil ?_
  show AW _ _ _ _ _ _
  refine AW.seq ?_
  refine AW.cond rfl (fun c18 => ?_) (fun c18 => ?_)
  ·replace H := cnd_t c18 H
   refine AW.skip ?_
   show AW _ _ _ _ _ _
   refine AW.seq ?_
   refine AW.block ?_
   refine AW.seq ?_
   obtain ⟨g19, H⟩ := grd_s H
   obtain ⟨x20, e21, H⟩ := lt_s H
   refine AW.region ?_
   show AR _ _ _ _ _ [0, 1, 2] _
   refine sS rfl rfl rfl (g_indexAddr (E := Enc.str) Tryd.underlying42 (by kernel_rfl) rfl rfl g19 e21) ?_
   refine sS rfl rfl rfl (opS_load_cp Tryd.underlying9 rfl rfl) ?_
   refine sS rfl rfl rfl (asg rfl) ?_
   refine AR.nil ?_
   show AW _ _ _ _ _ _
   rcases Or.symm (bndr_s H) with ⟨p24, e23, H⟩ | ⟨x22, e23, H⟩
   ·subst H
    refine AW.region ?_
    show AR _ _ _ _ _ [0, 1, 2, 3] _
    refine sS rfl rfl rfl (opS_load_cp_agg Tryd.underlying46 rfl (n := 4) (by kernel_rfl) rfl (Nat.le_of_ble_eq_true rfl)) ?_
    refine sS rfl rfl rfl (mv rfl) ?_
    refine sS rfl rfl rfl (opS_move (av := .vw _ _ _ _) rfl) ?_
    refine AR.run rfl rfl (AO.callPan (c := pan1 (.iface 40 (.agg #[]))) [0] rfl en22_crona rfl (w_cron_piece_pan F a1 a2 a3 a4 x20 o9 (Int.toNat (a2 + 1)) (Int.toNat (a2 + 1)) y15 0 p24 e23) rfl ?_)
    exact And.intro rfl (Exists.intro [] ⟨Sub.nil _, rfl, rfl⟩)
   refine AW.region ?_
   show AR _ _ _ _ _ [0, 1, 2, 3] _
   refine sS rfl rfl rfl (opS_load_cp_agg Tryd.underlying46 rfl (n := 4) (by kernel_rfl) rfl (Nat.le_of_ble_eq_true rfl)) ?_
   refine sS rfl rfl rfl (mv rfl) ?_
   refine sS rfl rfl rfl (opS_move (av := .vw _ _ _ _) rfl) ?_
   refine AR.run rfl rfl (AO.callAt [0] rfl en22_crona rfl (w_cron_piece_ok F a1 a2 a3 a4 x20 o9 (Int.toNat (a2 + 1)) (Int.toNat (a2 + 1)) y15 0 x22 e23) rfl (fun c A' h => by cases h.1) ?_)
   rintro av A' ⟨h, rfl⟩; cases h
   refine AR.nil ?_
   show AW _ _ _ _ _ _
   obtain ⟨g25, H⟩ := grd_s H
   refine AW.region ?_
   show AR _ _ _ _ _ [0, 1] _
   refine sS rfl rfl rfl (g_add rfl rfl g25) ?_
   refine sS rfl rfl rfl (mv rfl) ?_
   refine AR.nil ?_
   exact Exists.intro (n17, y14 + 1, x22) ⟨H, Nat.lt_succ_self _, WK.at [0] (.cons (.refl _) (.cons (.refl _) (.cons (.refl _) (.cons (.refl _) (.cons (.refl _) (.nil _)))))) rfl⟩
  ·replace H := cnd_f c18 H
   refine AW.exit ?_
   exact Exists.intro y15 ⟨H, WK.at [0] (.cons (.refl _) (.nil _)) rfl⟩
 rintro y26 H
 replace H : cron_part_j3 F a2 y26 = some rv := H
 unfold cron_part_j3 at H
 show AW _ _ _ _ _ _
 refine AW.seq ?_
 refine AW.region ?_
 show AR _ _ _ _ _ [0] _
 refine sS rfl rfl rfl (asg rfl) ?_
 refine AR.nil ?_
 show AW _ _ _ _ _ _
 refine AW.nil_grows 8 1 3 rfl fun t28 => ?_
 show AW _ _ _ _ _ ⟨(8, slE Enc.int [] (some t28)) :: _, _, _⟩
 refine AW.cut (X := (List Int) × Nat) (fun (y48, t49) => ⟨[(8, slE Enc.int y48 (some t49))], [], [.tok t49 3]⟩) (fun (y48, t49) => cron_part_j1 y48 = some rv) ?_ ?_
 ·
  refine AW.seq ?_
  refine AW.region ?_
  show AR _ _ _ _ _ [0, 1, 2] _
  refine sS rfl rfl rfl (opS_move (av := .vw _ _ _ _) rfl) ?_
  refine sS rfl rfl rfl (opS_len_vw Tryd.underlying59 rfl) ?_
  refine sS rfl rfl rfl (mv rfl) ?_
  refine AR.nil ?_
  show AW _ _ _ _ _ _
  refine AW.block ?_
  refine AW.loop (X := Nat × (List Int) × Nat × Int) (fun (n33, y29, t30, y31) => ⟨[(8, slE Enc.int y29 (some t30)), (27, .vw o9 0 (Int.toNat (a2 + 1)) (Int.toNat (a2 + 1))), (28, i64 (Int.toNat (a2 + 1) : Int)), (29, i64 y31)], [], [.obj o9 (Enc.bool.fl y26 ++ List.replicate 0 .any), .tok t30 3]⟩) (fun (n33, y29, t30, y31) => cron_part_L1 a2 y26 n33 (y29, y31) = some rv) (fun (n33, y29, t30, y31) => n33) (F, [], t28, 0) H (WK.at [1, 0] (.cons (.refl _) (.cons (.refl _) (.cons (.refl _) (.cons (.refl _) (.nil _))))) rfl) ?_
  rintro ⟨n33, y29, t30, y31⟩ H
  obtain ⟨n33, rfl, H⟩ := loop_s H
  replace H : cron_part_B1 a2 y26 (cron_part_L1 a2 y26 n33) y29 y31 = some rv := H
  unfold cron_part_B1 at H
  show AW _ _ _ _ _ _
  refine AW.seq ?_
  refine AW.region ?_
  show AR _ _ _ _ _ [0] _
  refine sS rfl rfl rfl (opS_lt rfl rfl) ?_
  refine AR.nil ?_
  show AW _ _ _ _ _ _
  refine AW.seq ?_
  refine AW.cond rfl (fun c34 => ?_) (fun c34 => ?_)
  ·replace H := cnd_t c34 H
   refine AW.skip ?_
   show AW _ _ _ _ _ _
   refine AW.cut (X := (List Int) × Nat) (fun (y44, t45) => ⟨[(8, slE Enc.int y44 (some t45)), (27, .vw o9 0 (Int.toNat (a2 + 1)) (Int.toNat (a2 + 1))), (28, i64 (Int.toNat (a2 + 1) : Int)), (29, i64 y31)], [], [.obj o9 (Enc.bool.fl y26 ++ List.replicate 0 .any), .tok t45 3]⟩) (fun (y44, t45) => cron_part_j2 y31 (cron_part_L1 a2 y26 n33) y44 = some rv) ?_ ?_
   ·
    refine AW.block ?_
    refine AW.seq ?_
    obtain ⟨g35, H⟩ := grd_s H
    obtain ⟨g36, H⟩ := grd_s H
    obtain ⟨x37, e38, H⟩ := lt_s H
    refine AW.region ?_
    show AR _ _ _ _ _ [0, 1, 2, 3, 4] _
    refine sS rfl rfl rfl (mv rfl) ?_
    refine sS rfl rfl rfl (g_indexAddr_row Tryd.underlying59 (by kernel_rfl) rfl rfl g35) ?_
    refine sR rfl rfl rfl (g_load_rowE (E := Enc.bool) (k := 0) rfl Tryd.underlying4 rfl rfl rfl g36 e38 rfl) ?_
    refine sS rfl rfl rfl (asg rfl) ?_
    refine sS rfl rfl rfl (asg rfl) ?_
    refine AR.nil ?_
    show AW _ _ _ _ _ _
    refine AW.seq ?_
    refine AW.region ?_
    show AR _ _ _ _ _ [0] _
    refine sS rfl rfl rfl (mv rfl) ?_
    refine AR.nil ?_
    show AW _ _ _ _ _ _
    refine AW.cond rfl (fun c39 => ?_) (fun c39 => ?_)
    ·replace H := cnd_t c39 H
     obtain ⟨g41, H⟩ := grd_s H
     obtain ⟨x42, e43, H⟩ := lt_s H
     refine AW.region ?_
     show AR _ _ _ _ _ [0, 1, 2, 3, 4] _
     refine sS rfl rfl rfl (opS_move (av := slE _ _ _) rfl) ?_
     refine sS rfl rfl rfl (mv rfl) ?_
     refine sR rfl rfl rfl (opR_buildE (E := Enc.int) (bytes := 8) (xs := [.tmp 36]) (l := ([y31] : List Int)) Tryd.underlying24 (by kernel_rfl) rfl rfl (by decide) rfl rfl) ?_
     refine sX rfl rfl rfl (g_append (E := Enc.int) (bytes := 8) 1 Tryd.underlying24 Tryd.underlying24 rfl (by kernel_rfl) rfl rfl rfl rfl g41 e43) ?_
     rintro _ _ ⟨t40, rfl, rfl⟩
     refine sS rfl rfl rfl (opS_assign (av := slE _ _ _) rfl) ?_
     refine AR.nil ?_
     exact Exists.intro (x42, t40) ⟨H, WK.at [0, 0] (.cons (.refl _) (.cons (.refl _) (.cons (.refl _) (.cons (.refl _) (.nil _))))) rfl⟩
    ·replace H := cnd_f c39 H
     refine AW.skip ?_
     exact Exists.intro (y29, t30) ⟨H, WK.at [0, 0] (.cons (.refl _) (.cons (.refl _) (.cons (.refl _) (.cons (.refl _) (.nil _))))) rfl⟩
   rintro ⟨y44, t45⟩ H
   replace H : cron_part_j2 y31 (cron_part_L1 a2 y26 n33) y44 = some rv := H
   unfold cron_part_j2 at H
   show AW _ _ _ _ _ _
   obtain ⟨g47, H⟩ := grd_s H
   refine AW.region ?_
   show AR _ _ _ _ _ [0, 1] _
   refine sS rfl rfl rfl (g_add rfl rfl g47) ?_
   refine sS rfl rfl rfl (mv rfl) ?_
   refine AR.nil ?_
   exact Exists.intro (n33, y44, t45, y31 + 1) ⟨H, Nat.lt_succ_self _, WK.at [0, 0] (.cons (.refl _) (.cons (.refl _) (.cons (.refl _) (.cons (.refl _) (.nil _))))) rfl⟩
  ·replace H := cnd_f c34 H
   refine AW.exit ?_
   exact Exists.intro (y29, t30) ⟨H, WK.at [1] (.cons (.refl _) (.nil _)) rfl⟩
 rintro ⟨y48, t49⟩ H
 replace H : cron_part_j1 y48 = some rv := H
 unfold cron_part_j1 at H
 show AW _ _ _ _ _ _
 refine AW.seq ?_
 refine AW.region ?_
 show AR _ _ _ _ _ [0, 1] _
 refine sS rfl rfl rfl (opS_move (av := slE _ _ _) rfl) ?_
 refine sS rfl rfl rfl (opS_assign (av := slE _ _ _) rfl) ?_
 refine AR.nil ?_
 show AW _ _ _ _ _ _
 refine AW.ret ?_
 obtain rfl := Option.some.inj H
 exact And.intro rfl (Exists.intro _ (Exists.intro _ ⟨ResV.oneW rfl (.tok _ _ _), Sub.at [] rfl, rfl, rfl⟩))
theorem w_cron_part_ok (F : Nat) (a1 : Int) (a2 : Int) (a3 : List UInt8) (a4 : Int) (a5 : List UInt8) (r6 : List Int) (H : cron_part F a1 a2 a3 a4 a5 = some (Res.ok r6)) : ACalls Tryd.prog 13 [.agg [i64 a1, i64 a2, S a3, i64 a4], S a5] [] (Ret (slE Enc.int r6 none) []) := w_cron_part F a1 a2 a3 a4 a5 _ H
theorem w_cron_part_pan (F : Nat) (a1 : Int) (a2 : Int) (a3 : List UInt8) (a4 : Int) (a5 : List UInt8) (e : Int) (H : cron_part F a1 a2 a3 a4 a5 = some (Res.pan e)) : ACalls Tryd.prog 13 [.agg [i64 a1, i64 a2, S a3, i64 a4], S a5] [] (fun ae A' => ae = .pan ((fun e => pan1 (.iface 40 (.agg #[]))) e) ∧ A' = []) := w_cron_part F a1 a2 a3 a4 a5 _ H
set_option maxRecDepth 100000 in
set_option maxHeartbeats 1000000 in
theorem w_cron_Parse (F : Nat) (a1 : List UInt8) (r2 : List Int) (r3 : List Int) (r4 : List Int) (r5 : List Int) (r6 : List Int) (r7 : Bool) (r8 : Bool) (r9 : Bool) (r10 : Bool) (r11 : Bool) (r12 : Int) (H : cron_Parse F a1 = some (r2, r3, r4, r5, r6, r7, r8, r9, r10, r11, r12)) : ACalls Tryd.prog 5 [S a1] [] (Ret (.tup [.agg [slE Enc.int r2 none, slE Enc.int r3 none, slE Enc.int r4 none, slE Enc.int r5 none, slE Enc.int r6 none, B r7, B r8, B r9, B r10, B r11], i64 r12]) []) := by
 unfold cron_Parse at H
 refine ACalls.of_bodyD [2, 3] Tryd.func5 rfl rfl ?_
 show AW _ _ 42 _ _ _
 refine AW.seq ?_
 refine AW.region ?_
 show AR _ _ _ _ _ [0, 1] _
 refine sX rfl rfl rfl (opX_alloc (zs := [.slice none 0 0, .slice none 0 0, .slice none 0 0, .slice none 0 0, .slice none 0 0, .bool false, .bool false, .bool false, .bool false, .bool false]) (by kernel_rfl)) ?_
 rintro _ _ ⟨o13, rfl, rfl⟩
 refine sX rfl rfl rfl (opX_alloc (zs := [.int .i64 0]) (by kernel_rfl)) ?_
 rintro _ _ ⟨o14, rfl, rfl⟩
 refine AR.nil ?_
 show AW _ _ _ _ _ _
 refine AW.seq ?_
 refine AW.seq ?_
 refine AW.region ?_
 show AR _ _ _ _ _ [0, 1, 2] _
 refine sS rfl rfl rfl (mv rfl) ?_
 refine sS rfl rfl rfl (opS_len_str Tryd.underlying9 rfl) ?_
 refine sS rfl rfl rfl (opS_gt rfl rfl) ?_
 refine AR.nil ?_
 show AW _ _ _ _ _ _
 refine AW.cond rfl (fun c15 => ?_) (fun c15 => ?_)
 ·replace H := cnd_t c15 H
  refine AW.seq ?_
  refine AW.region ?_
  show AR _ _ _ _ _ [0, 1, 2] _
  refine sR rfl rfl rfl (opR_load_agg (i := 1) (n := 10) Tryd.underlying28 rfl (by kernel_rfl) rfl rfl (Nat.le_of_ble_eq_true rfl)) ?_
  refine s0 rfl rfl (opR_store_agg (i := 1) (vs := [nilS, nilS, nilS, nilS, nilS, B false, B false, B false, B false, B false]) (by kernel_rfl) rfl rfl (by simp [isCell, slE]) rfl (Nat.le_of_ble_eq_true rfl)) ?_
  refine s0 rfl rfl (opR_store_pt (i := 0) (c := .v _) (by kernel_rfl) rfl rfl rfl rfl (Nat.le_of_ble_eq_true rfl)) ?_
  refine AR.nil ?_
  show AW _ _ _ _ _ _
  refine AW.ret ?_
  obtain ⟨rfl, rfl, rfl, rfl, rfl, rfl, rfl, rfl, rfl, rfl, rfl⟩ := res11 H
  exact Exists.intro _ (Exists.intro _ ⟨ResT.place2 rfl (CellV.aggW (cs := [nilS, nilS, nilS, nilS, nilS, B false, B false, B false, B false, B false]) (CellV.agg (off := 0) (cs := [nilS, nilS, nilS, nilS, nilS, B false, B false, B false, B false, B false]) (n := 10) 1 Tryd.underlying28 rfl (by kernel_rfl) rfl rfl (Nat.le_of_ble_eq_true rfl)) (.cons (.nil _) (.cons (.nil _) (.cons (.nil _) (.cons (.nil _) (.cons (.nil _) (.cons (.refl _) (.cons (.refl _) (.cons (.refl _) (.cons (.refl _) (.cons (.refl _) (.nil)))))))))))) (CellV.one (c := .v _) 0 Tryd.underlying29 rfl rfl rfl rfl), Sub.at [] rfl, rfl, rfl⟩)
 ·replace H := cnd_f c15 H
  refine AW.skip ?_
  show AW _ _ _ _ _ _
  refine AW.seq ?_
  refine AW.region ?_
  show AR _ _ _ _ _ [0, 1] _
  refine sS rfl rfl rfl (opS_makeFunc rfl rfl) ?_
  refine AR.run rfl rfl (AO.defer rfl ?_)
  show AR _ _ _ _ _ _ ⟨_, [.call (.func 9) [.pt o13 0, .pt o14 0] []], _⟩
  refine AR.nil ?_
  show AW _ _ _ _ _ _
  refine AW.seq ?_
  obtain ⟨g16, H⟩ := grd_s H
  obtain ⟨g17, H⟩ := grd_s H
  obtain ⟨x18, e19, H⟩ := lt_s H
  refine AW.region ?_
  show AR _ _ _ _ _ [0, 1, 2] _
  refine sS rfl rfl rfl (mv rfl) ?_
  refine AR.run rfl rfl (AO.callp rfl en10_crona rfl (show ACalls _ _ _ [] (Ret (slE Enc.str x18 none) []) from by subst e19; exact lib_Split a1 ([32] : List UInt8) (okS_s g16) (of_decide_eq_true g17)) ?_)
  refine sS rfl rfl rfl (opS_assign (av := slE _ _ _) rfl) ?_
  refine AR.nil ?_
  show AW _ _ _ _ _ _
  refine AW.seq ?_
  rcases Or.symm (bndk_s H) with ⟨p22, e21, H⟩ | ⟨x20, e21, H⟩
  ·refine AW.region ?_
   show AR _ _ _ _ _ [0, 1, 2, 3] _
   refine sS rfl rfl rfl (opS_move (av := slE _ _ _) rfl) ?_
   refine sS rfl rfl rfl (opS_len_sl Tryd.underlying42 rfl) ?_
   refine sS rfl rfl rfl (opS_eqi rfl rfl) ?_
   refine AR.run rfl rfl (AO.callPan (c := pan1 (.iface 40 (.agg #[]))) [] rfl en11_crona rfl (w_cron_unless_pan F (decide ((x18.length : Int) = 5)) p22 e21) rfl ?_)
   refine Exists.intro [(2, .pt o13 0), (3, .pt o14 0)] ⟨by simp, .cons (.refl _) (.cons (.refl _) (.nil _)), ?_⟩
   show ALeaves _ _ _ _ _ [.call (.func 9) [.pt o13 0, .pt o14 0] []] _ [.obj o14 [i64 0], .obj o13 [nilS, nilS, nilS, nilS, nilS, B false, B false, B false, B false, B false]]
   refine ALeaves.cons1 (v := .tup []) (u1 := (.panicking [{ v := (.iface 40 (.agg #[])), recovered := true }])) (A2 := [.obj o14 [i64 2], .obj o13 [nilS, nilS, nilS, nilS, nilS, B false, B false, B false, B false, B false]]) [0, 0] (fun h => by cases h) en9_crona rfl ?_ ?_
   ·
    show ADCalls _ _ [.pt o13 0, .pt o14 0] [.obj o14 [i64 0], .obj o13 [nilS, nilS, nilS, nilS, nilS, B false, B false, B false, B false, B false]] _ _
    refine ADCalls.of_recover (av := .ifc 40 (.agg [])) (l := [1]) Tryd.func9 rfl rfl rfl rfl rfl Recovers.pan rfl (fun cs => ?_)
    refine ASR.op rfl rfl ((opS_assign (av := .ifc _ _) rfl).opR _) ?_
    refine ASR.nil ?_
    show AW _ _ _ _ _ _
    refine AW.seq ?_
    refine AW.region ?_
    show AR _ _ _ _ _ [0, 1] _
    refine sS rfl rfl rfl (opS_move (av := .ifc _ _) rfl) ?_
    refine sS rfl rfl rfl (opS_nil_ifc (ms := []) (.inr rfl) Tryd.underlying20 rfl rfl) ?_
    refine AR.nil ?_
    show AW _ _ _ _ _ _
    refine AW.cond rfl (fun _ => ?_) (fun hx => bool_no rfl hx)
    refine AW.seq ?_
    refine AW.seq ?_
    refine AW.region ?_
    show AR _ _ _ _ _ [0, 1, 2, 3, 4, 5, 6, 7] _
    refine sS rfl rfl rfl (opS_move (av := .ifc _ _) rfl) ?_
    refine sS rfl rfl rfl (opS_assert_same Tryd.underlying40 rfl rfl) ?_
    refine sS rfl rfl rfl (opS_move (av := .tup _) rfl) ?_
    refine sS rfl rfl rfl (opS_extract (av := .agg _) rfl rfl) ?_
    refine sS rfl rfl rfl (opS_extract (av := .v _) rfl rfl) ?_
    refine sX rfl rfl rfl (opX_alloc (zs := []) (by kernel_rfl)) ?_
    rintro _ _ ⟨o23, rfl, rfl⟩
    refine s0 rfl rfl (opR_store_agg (i := 0) (vs := []) (by kernel_rfl) rfl rfl (by simp [isCell, slE]) rfl (Nat.le_of_ble_eq_true rfl)) ?_
    refine sS rfl rfl rfl (asg rfl) ?_
    refine AR.nil ?_
    show AW _ _ _ _ _ _
    refine AW.seq ?_
    refine AW.region ?_
    show AR _ _ _ _ _ [0, 1] _
    refine sS rfl rfl rfl (mv rfl) ?_
    refine sS rfl rfl rfl (opS_not rfl) ?_
    refine AR.nil ?_
    show AW _ _ _ _ _ _
    refine AW.cond rfl (fun hx => bool_no hx rfl) (fun _ => ?_)
    refine AW.skip ?_
    show AW _ _ _ _ _ _
    refine AW.region ?_
    show AR _ _ _ _ _ [0, 1, 2] _
    refine sS rfl rfl rfl (g_build (zs := [.slice none 0 0, .slice none 0 0, .slice none 0 0, .slice none 0 0, .slice none 0 0, .bool false, .bool false, .bool false, .bool false, .bool false]) (ps := [(0, 5), (5, 5)]) (cs := [nilS, nilS, nilS, nilS, nilS, B false, B false, B false, B false, B false]) (by kernel_rfl) rfl rfl) ?_
    refine s0 rfl rfl (opR_store_agg (i := 2) (vs := [nilS, nilS, nilS, nilS, nilS, B false, B false, B false, B false, B false]) (by kernel_rfl) rfl rfl (by simp [isCell, slE]) rfl (Nat.le_of_ble_eq_true rfl)) ?_
    refine s0 rfl rfl (opR_store_pt (i := 1) (c := .v _) (by kernel_rfl) rfl rfl rfl rfl (Nat.le_of_ble_eq_true rfl)) ?_
    refine AR.nil ?_
    exact And.intro rfl (Exists.intro _ (Exists.intro _ ⟨ResV.noneW rfl, Sub.at [1, 1] rfl, rfl, rfl, rfl⟩))
   show ALeaves _ _ _ _ _ [] .returning [.obj o14 [i64 2], .obj o13 [nilS, nilS, nilS, nilS, nilS, B false, B false, B false, B false, B false]]
   obtain ⟨rfl, rfl, rfl, rfl, rfl, rfl, rfl, rfl, rfl, rfl, rfl⟩ := res11 H
   exact Exists.intro _ (Exists.intro _ ⟨ResT.place2 rfl (CellV.aggW (cs := [nilS, nilS, nilS, nilS, nilS, B false, B false, B false, B false, B false]) (CellV.agg (off := 0) (cs := [nilS, nilS, nilS, nilS, nilS, B false, B false, B false, B false, B false]) (n := 10) 1 Tryd.underlying28 rfl (by kernel_rfl) rfl rfl (Nat.le_of_ble_eq_true rfl)) (.cons (.nil _) (.cons (.nil _) (.cons (.nil _) (.cons (.nil _) (.cons (.nil _) (.cons (.refl _) (.cons (.refl _) (.cons (.refl _) (.cons (.refl _) (.cons (.refl _) (.nil)))))))))))) (CellV.one (c := .v _) 0 Tryd.underlying29 rfl rfl rfl rfl), Sub.at [] rfl, rfl, rfl⟩)
  refine AW.region ?_
  show AR _ _ _ _ _ [0, 1, 2, 3] _
  refine sS rfl rfl rfl (opS_move (av := slE _ _ _) rfl) ?_
  refine sS rfl rfl rfl (opS_len_sl Tryd.underlying42 rfl) ?_
  refine sS rfl rfl rfl (opS_eqi rfl rfl) ?_
  refine AR.run rfl rfl (AO.callp rfl en11_crona rfl (w_cron_unless_ok F (decide ((x18.length : Int) = 5)) e21) ?_)
  refine AR.nil ?_
  show AW _ _ _ _ _ _
  refine AW.cut (X := (List Int) × (List Int) × (List Int) × (List Int) × (List Int) × Bool × Bool × Bool × Bool × Bool) (fun (y86, y87, y88, y89, y90, y91, y92, y93, y94, y95) => ⟨[(2, .pt o13 0), (3, .pt o14 0)], [.call (.func 9) [.pt o13 0, .pt o14 0] []], [.obj o14 [i64 0], .obj o13 [slE Enc.int y86 none, slE Enc.int y87 none, slE Enc.int y88 none, slE Enc.int y89 none, slE Enc.int y90 none, B y91, B y92, B y93, B y94, B y95]]⟩) (fun (y86, y87, y88, y89, y90, y91, y92, y93, y94, y95) => cron_Parse_j1 y86 y87 y88 y89 y90 y91 y92 y93 y94 y95 = some (r2, r3, r4, r5, r6, r7, r8, r9, r10, r11, r12)) ?_ ?_
  ·
   refine AW.seq ?_
   obtain ⟨x24, e25, H⟩ := bnd_s H
   refine AW.region ?_
   show AR _ _ _ _ _ [0, 1] _
   refine AR.run rfl rfl (AO.callp rfl en12_crona rfl (w_cron_fields F x24.1 x24.2.1 x24.2.2.1 x24.2.2.2.1 x24.2.2.2.2.1 x24.2.2.2.2.2.1 x24.2.2.2.2.2.2.1 x24.2.2.2.2.2.2.2.1 x24.2.2.2.2.2.2.2.2.1 x24.2.2.2.2.2.2.2.2.2.1 x24.2.2.2.2.2.2.2.2.2.2.1 x24.2.2.2.2.2.2.2.2.2.2.2.1 x24.2.2.2.2.2.2.2.2.2.2.2.2.1 x24.2.2.2.2.2.2.2.2.2.2.2.2.2.1 x24.2.2.2.2.2.2.2.2.2.2.2.2.2.2.1 x24.2.2.2.2.2.2.2.2.2.2.2.2.2.2.2.1 x24.2.2.2.2.2.2.2.2.2.2.2.2.2.2.2.2.1 x24.2.2.2.2.2.2.2.2.2.2.2.2.2.2.2.2.2.1 x24.2.2.2.2.2.2.2.2.2.2.2.2.2.2.2.2.2.2.1 x24.2.2.2.2.2.2.2.2.2.2.2.2.2.2.2.2.2.2.2 e25) ?_)
   refine sS rfl rfl rfl (mv rfl) ?_
   refine AR.nil ?_
   show AW _ _ _ _ _ _
   refine AW.block ?_
   refine AW.rounds 7 ?_
   show AW _ _ _ _ _ _
   refine AW.seq ?_
   refine AW.region ?_
   show AR _ _ _ _ _ [0] _
   refine sS rfl rfl rfl (OpS.eq (av' := B true) (opS_lt rfl rfl) (B_congr (by decide))) ?_
   refine AR.nil ?_
   show AW _ _ _ _ _ _
   refine AW.seq ?_
   refine AW.cond rfl (fun _ => ?_) (fun hx => bool_no rfl hx)
   refine AW.skip ?_
   show AW _ _ _ _ _ _
   refine AW.seq ?_
   refine AW.block ?_
   refine AW.seq ?_
   refine AW.region ?_
   show AR _ _ _ _ _ [0, 1, 2, 3, 4] _
   refine sS rfl rfl rfl (mv rfl) ?_
   refine sS rfl rfl rfl (opS_index_sub (i := 0) (k := 4) Tryd.underlying47 Tryd.underlying46 rfl (by kernel_rfl) rfl rfl rfl rfl) ?_
   refine sX rfl rfl rfl (opX_alloc (zs := [.int .i64 0, .int .i64 0, .string ⟨#[]⟩, .int .i64 0]) (by kernel_rfl)) ?_
   rintro _ _ ⟨o26, rfl, rfl⟩
   refine sS rfl rfl rfl (asg rfl) ?_
   refine s0 rfl rfl (opR_store_agg (i := 0) (vs := [i64 x24.1, i64 x24.2.1, S x24.2.2.1, i64 x24.2.2.2.1]) (by kernel_rfl) rfl rfl (by simp [isCell, slE]) rfl (Nat.le_of_ble_eq_true rfl)) ?_
   refine AR.freezeCp 6 0 rfl rfl ?_
   show AR _ _ _ _ _ _ ⟨_, _, [.obj o14 [i64 0], .obj o13 [nilS, nilS, nilS, nilS, nilS, B false, B false, B false, B false, B false]]⟩
   refine AR.nil ?_
   show AW _ _ _ _ _ _
   obtain ⟨g27, H⟩ := grd_s H
   obtain ⟨x28, e29, H⟩ := lt_s H
   obtain ⟨g30, H⟩ := grd_s H
   obtain ⟨x31, e32, H⟩ := lt_s H
   rcases Or.symm (bndk_s H) with ⟨p35, e34, H⟩ | ⟨x33, e34, H⟩
   ·refine AW.region_draw (by kernel_rfl) ?_
    show AI _ _ _ _ 19 (Array.replicate 19 false) _
    refine AI.take (i := 0) rfl rfl (by kernel_rfl) (by kernel_rfl) (by kernel_rfl) (fun _ _ h => RetPostD.free rfl h) (mv rfl) ?_
    show AI _ _ _ _ _ #[true, false, false, false, false, false, false, false, false, false, false, false, false, false, false, false, false, false, false] _
    refine AI.take (i := 1) rfl rfl (by kernel_rfl) (by kernel_rfl) (by kernel_rfl) (fun _ _ h => RetPostD.free rfl h) (mv rfl) ?_
    show AI _ _ _ _ _ #[true, true, false, false, false, false, false, false, false, false, false, false, false, false, false, false, false, false, false] _
    refine AI.take (i := 2) rfl rfl (by kernel_rfl) (by kernel_rfl) (by kernel_rfl) (fun _ _ h => RetPostD.free rfl h) (opS_load_cp_agg Tryd.underlying46 rfl (n := 4) (by kernel_rfl) rfl (Nat.le_of_ble_eq_true rfl)) ?_
    show AI _ _ _ _ _ #[true, true, true, false, false, false, false, false, false, false, false, false, false, false, false, false, false, false, false] _
    refine AI.take (i := 3) rfl rfl (by kernel_rfl) (by kernel_rfl) (by kernel_rfl) (fun _ _ h => RetPostD.free rfl h) (opS_move (av := slE _ _ _) rfl) ?_
    show AI _ _ _ _ _ #[true, true, true, true, false, false, false, false, false, false, false, false, false, false, false, false, false, false, false] _
    refine AI.take (i := 4) rfl rfl (by kernel_rfl) (by kernel_rfl) (by kernel_rfl) (fun _ _ h => RetPostD.free rfl h) (mv rfl) ?_
    show AI _ _ _ _ _ #[true, true, true, true, true, false, false, false, false, false, false, false, false, false, false, false, false, false, false] _
    refine AI.take (i := 5) rfl rfl (by kernel_rfl) (by kernel_rfl) (by kernel_rfl) (fun _ _ h => RetPostD.free rfl h) (g_indexAddr (E := Enc.str) Tryd.underlying42 (by kernel_rfl) rfl rfl g27 e29) ?_
    show AI _ _ _ _ _ #[true, true, true, true, true, true, false, false, false, false, false, false, false, false, false, false, false, false, false] _
    refine AI.take (i := 6) rfl rfl (by kernel_rfl) (by kernel_rfl) (by kernel_rfl) (fun _ _ h => RetPostD.free rfl h) (opS_load_cp Tryd.underlying9 rfl rfl) ?_
    show AI _ _ _ _ _ #[true, true, true, true, true, true, true, false, false, false, false, false, false, false, false, false, false, false, false] _
    refine AI.take (i := 8) rfl rfl (by kernel_rfl) (by kernel_rfl) (by kernel_rfl) (fun _ _ h => RetPostD.free rfl h) (opS_move (av := slE _ _ _) rfl) ?_
    show AI _ _ _ _ _ #[true, true, true, true, true, true, true, false, true, false, false, false, false, false, false, false, false, false, false] _
    refine AI.take (i := 9) rfl rfl (by kernel_rfl) (by kernel_rfl) (by kernel_rfl) (fun _ _ h => RetPostD.free rfl h) (mv rfl) ?_
    show AI _ _ _ _ _ #[true, true, true, true, true, true, true, false, true, true, false, false, false, false, false, false, false, false, false] _
    refine AI.take (i := 10) rfl rfl (by kernel_rfl) (by kernel_rfl) (by kernel_rfl) (fun _ _ h => RetPostD.free rfl h) (g_indexAddr (E := Enc.str) Tryd.underlying42 (by kernel_rfl) rfl rfl g30 e32) ?_
    show AI _ _ _ _ _ #[true, true, true, true, true, true, true, false, true, true, true, false, false, false, false, false, false, false, false] _
    refine AI.take (i := 11) rfl rfl (by kernel_rfl) (by kernel_rfl) (by kernel_rfl) (fun _ _ h => RetPostD.free rfl h) (opS_load_cp Tryd.underlying9 rfl rfl) ?_
    show AI _ _ _ _ _ #[true, true, true, true, true, true, true, false, true, true, true, true, false, false, false, false, false, false, false] _
    refine AI.take (i := 12) rfl rfl (by kernel_rfl) (by kernel_rfl) (by kernel_rfl) (fun _ _ h => RetPostD.free rfl h) (opS_eqs rfl rfl) ?_
    show AI _ _ _ _ _ #[true, true, true, true, true, true, true, false, true, true, true, true, true, false, false, false, false, false, false] _
    refine AI.take (i := 13) rfl rfl (by kernel_rfl) (by kernel_rfl) (by kernel_rfl) (fun _ _ h => RetPostD.free rfl h) (opS_fieldAddr_pt (n := 0) (by kernel_rfl) rfl) ?_
    show AI _ _ _ _ _ #[true, true, true, true, true, true, true, false, true, true, true, true, true, true, false, false, false, false, false] _
    refine AI.take (i := 16) rfl rfl (by kernel_rfl) (by kernel_rfl) (by kernel_rfl) (fun _ _ h => RetPostD.free rfl h) (opS_fieldAddr_pt (n := 5) (by kernel_rfl) rfl) ?_
    show AI _ _ _ _ _ #[true, true, true, true, true, true, true, false, true, true, true, true, true, true, false, false, true, false, false] _
    refine AI.one (i := 7) (by kernel_rfl) rfl rfl ?_
    refine AIO.callPan (c := pan1 (.iface 40 (.agg #[]))) [] rfl en13_crona rfl (w_cron_part_pan F x24.1 x24.2.1 x24.2.2.1 x24.2.2.2.1 x28 p35 e34) rfl ?_
    refine Exists.intro [(2, .pt o13 0), (3, .pt o14 0)] ⟨by simp, .cons (.refl _) (.cons (.refl _) (.nil _)), ?_⟩
    show ALeaves _ _ _ _ _ [.call (.func 9) [.pt o13 0, .pt o14 0] []] _ [.obj o14 [i64 0], .obj o13 [nilS, nilS, nilS, nilS, nilS, B false, B false, B false, B false, B false]]
    refine ALeaves.cons1 (v := .tup []) (u1 := (.panicking [{ v := (.iface 40 (.agg #[])), recovered := true }])) (A2 := [.obj o14 [i64 2], .obj o13 [nilS, nilS, nilS, nilS, nilS, B false, B false, B false, B false, B false]]) [0, 0] (fun h => by cases h) en9_crona rfl ?_ ?_
    ·
     show ADCalls _ _ [.pt o13 0, .pt o14 0] [.obj o14 [i64 0], .obj o13 [nilS, nilS, nilS, nilS, nilS, B false, B false, B false, B false, B false]] _ _
     refine ADCalls.of_recover (av := .ifc 40 (.agg [])) (l := [1]) Tryd.func9 rfl rfl rfl rfl rfl Recovers.pan rfl (fun cs => ?_)
     refine ASR.op rfl rfl ((opS_assign (av := .ifc _ _) rfl).opR _) ?_
     refine ASR.nil ?_
     show AW _ _ _ _ _ _
     refine AW.seq ?_
     refine AW.region ?_
     show AR _ _ _ _ _ [0, 1] _
     refine sS rfl rfl rfl (opS_move (av := .ifc _ _) rfl) ?_
     refine sS rfl rfl rfl (opS_nil_ifc (ms := []) (.inr rfl) Tryd.underlying20 rfl rfl) ?_
     refine AR.nil ?_
     show AW _ _ _ _ _ _
     refine AW.cond rfl (fun _ => ?_) (fun hx => bool_no rfl hx)
     refine AW.seq ?_
     refine AW.seq ?_
     refine AW.region ?_
     show AR _ _ _ _ _ [0, 1, 2, 3, 4, 5, 6, 7] _
     refine sS rfl rfl rfl (opS_move (av := .ifc _ _) rfl) ?_
     refine sS rfl rfl rfl (opS_assert_same Tryd.underlying40 rfl rfl) ?_
     refine sS rfl rfl rfl (opS_move (av := .tup _) rfl) ?_
     refine sS rfl rfl rfl (opS_extract (av := .agg _) rfl rfl) ?_
     refine sS rfl rfl rfl (opS_extract (av := .v _) rfl rfl) ?_
     refine sX rfl rfl rfl (opX_alloc (zs := []) (by kernel_rfl)) ?_
     rintro _ _ ⟨o85, rfl, rfl⟩
     refine s0 rfl rfl (opR_store_agg (i := 0) (vs := []) (by kernel_rfl) rfl rfl (by simp [isCell, slE]) rfl (Nat.le_of_ble_eq_true rfl)) ?_
     refine sS rfl rfl rfl (asg rfl) ?_
     refine AR.nil ?_
     show AW _ _ _ _ _ _
     refine AW.seq ?_
     refine AW.region ?_
     show AR _ _ _ _ _ [0, 1] _
     refine sS rfl rfl rfl (mv rfl) ?_
     refine sS rfl rfl rfl (opS_not rfl) ?_
     refine AR.nil ?_
     show AW _ _ _ _ _ _
     refine AW.cond rfl (fun hx => bool_no hx rfl) (fun _ => ?_)
     refine AW.skip ?_
     show AW _ _ _ _ _ _
     refine AW.region ?_
     show AR _ _ _ _ _ [0, 1, 2] _
     refine sS rfl rfl rfl (g_build (zs := [.slice none 0 0, .slice none 0 0, .slice none 0 0, .slice none 0 0, .slice none 0 0, .bool false, .bool false, .bool false, .bool false, .bool false]) (ps := [(0, 5), (5, 5)]) (cs := [nilS, nilS, nilS, nilS, nilS, B false, B false, B false, B false, B false]) (by kernel_rfl) rfl rfl) ?_
     refine s0 rfl rfl (opR_store_agg (i := 2) (vs := [nilS, nilS, nilS, nilS, nilS, B false, B false, B false, B false, B false]) (by kernel_rfl) rfl rfl (by simp [isCell, slE]) rfl (Nat.le_of_ble_eq_true rfl)) ?_
     refine s0 rfl rfl (opR_store_pt (i := 1) (c := .v _) (by kernel_rfl) rfl rfl rfl rfl (Nat.le_of_ble_eq_true rfl)) ?_
     refine AR.nil ?_
     exact And.intro rfl (Exists.intro _ (Exists.intro _ ⟨ResV.noneW rfl, Sub.at [1, 1] rfl, rfl, rfl, rfl⟩))
    show ALeaves _ _ _ _ _ [] .returning [.obj o14 [i64 2], .obj o13 [nilS, nilS, nilS, nilS, nilS, B false, B false, B false, B false, B false]]
    obtain ⟨rfl, rfl, rfl, rfl, rfl, rfl, rfl, rfl, rfl, rfl, rfl⟩ := res11 H
    exact Exists.intro _ (Exists.intro _ ⟨ResT.place2 rfl (CellV.aggW (cs := [nilS, nilS, nilS, nilS, nilS, B false, B false, B false, B false, B false]) (CellV.agg (off := 0) (cs := [nilS, nilS, nilS, nilS, nilS, B false, B false, B false, B false, B false]) (n := 10) 1 Tryd.underlying28 rfl (by kernel_rfl) rfl rfl (Nat.le_of_ble_eq_true rfl)) (.cons (.nil _) (.cons (.nil _) (.cons (.nil _) (.cons (.nil _) (.cons (.nil _) (.cons (.refl _) (.cons (.refl _) (.cons (.refl _) (.cons (.refl _) (.cons (.refl _) (.nil)))))))))))) (CellV.one (c := .v _) 0 Tryd.underlying29 rfl rfl rfl rfl), Sub.at [] rfl, rfl, rfl⟩)
   refine AW.region_draw (by kernel_rfl) ?_
   show AI _ _ _ _ 19 (Array.replicate 19 false) _
   refine AI.take (i := 0) rfl rfl (by kernel_rfl) (by kernel_rfl) (by kernel_rfl) (fun _ _ h => RetPostD.free rfl h) (mv rfl) ?_
   show AI _ _ _ _ _ #[true, false, false, false, false, false, false, false, false, false, false, false, false, false, false, false, false, false, false] _
   refine AI.take (i := 1) rfl rfl (by kernel_rfl) (by kernel_rfl) (by kernel_rfl) (fun _ _ h => RetPostD.free rfl h) (mv rfl) ?_
   show AI _ _ _ _ _ #[true, true, false, false, false, false, false, false, false, false, false, false, false, false, false, false, false, false, false] _
   refine AI.take (i := 2) rfl rfl (by kernel_rfl) (by kernel_rfl) (by kernel_rfl) (fun _ _ h => RetPostD.free rfl h) (opS_load_cp_agg Tryd.underlying46 rfl (n := 4) (by kernel_rfl) rfl (Nat.le_of_ble_eq_true rfl)) ?_
   show AI _ _ _ _ _ #[true, true, true, false, false, false, false, false, false, false, false, false, false, false, false, false, false, false, false] _
   refine AI.take (i := 3) rfl rfl (by kernel_rfl) (by kernel_rfl) (by kernel_rfl) (fun _ _ h => RetPostD.free rfl h) (opS_move (av := slE _ _ _) rfl) ?_
   show AI _ _ _ _ _ #[true, true, true, true, false, false, false, false, false, false, false, false, false, false, false, false, false, false, false] _
   refine AI.take (i := 4) rfl rfl (by kernel_rfl) (by kernel_rfl) (by kernel_rfl) (fun _ _ h => RetPostD.free rfl h) (mv rfl) ?_
   show AI _ _ _ _ _ #[true, true, true, true, true, false, false, false, false, false, false, false, false, false, false, false, false, false, false] _
   refine AI.take (i := 5) rfl rfl (by kernel_rfl) (by kernel_rfl) (by kernel_rfl) (fun _ _ h => RetPostD.free rfl h) (g_indexAddr (E := Enc.str) Tryd.underlying42 (by kernel_rfl) rfl rfl g27 e29) ?_
   show AI _ _ _ _ _ #[true, true, true, true, true, true, false, false, false, false, false, false, false, false, false, false, false, false, false] _
   refine AI.take (i := 6) rfl rfl (by kernel_rfl) (by kernel_rfl) (by kernel_rfl) (fun _ _ h => RetPostD.free rfl h) (opS_load_cp Tryd.underlying9 rfl rfl) ?_
   show AI _ _ _ _ _ #[true, true, true, true, true, true, true, false, false, false, false, false, false, false, false, false, false, false, false] _
   refine AI.take (i := 8) rfl rfl (by kernel_rfl) (by kernel_rfl) (by kernel_rfl) (fun _ _ h => RetPostD.free rfl h) (opS_move (av := slE _ _ _) rfl) ?_
   show AI _ _ _ _ _ #[true, true, true, true, true, true, true, false, true, false, false, false, false, false, false, false, false, false, false] _
   refine AI.take (i := 9) rfl rfl (by kernel_rfl) (by kernel_rfl) (by kernel_rfl) (fun _ _ h => RetPostD.free rfl h) (mv rfl) ?_
   show AI _ _ _ _ _ #[true, true, true, true, true, true, true, false, true, true, false, false, false, false, false, false, false, false, false] _
   refine AI.take (i := 10) rfl rfl (by kernel_rfl) (by kernel_rfl) (by kernel_rfl) (fun _ _ h => RetPostD.free rfl h) (g_indexAddr (E := Enc.str) Tryd.underlying42 (by kernel_rfl) rfl rfl g30 e32) ?_
   show AI _ _ _ _ _ #[true, true, true, true, true, true, true, false, true, true, true, false, false, false, false, false, false, false, false] _
   refine AI.take (i := 11) rfl rfl (by kernel_rfl) (by kernel_rfl) (by kernel_rfl) (fun _ _ h => RetPostD.free rfl h) (opS_load_cp Tryd.underlying9 rfl rfl) ?_
   show AI _ _ _ _ _ #[true, true, true, true, true, true, true, false, true, true, true, true, false, false, false, false, false, false, false] _
   refine AI.take (i := 12) rfl rfl (by kernel_rfl) (by kernel_rfl) (by kernel_rfl) (fun _ _ h => RetPostD.free rfl h) (opS_eqs rfl rfl) ?_
   show AI _ _ _ _ _ #[true, true, true, true, true, true, true, false, true, true, true, true, true, false, false, false, false, false, false] _
   refine AI.take (i := 13) rfl rfl (by kernel_rfl) (by kernel_rfl) (by kernel_rfl) (fun _ _ h => RetPostD.free rfl h) (opS_fieldAddr_pt (n := 0) (by kernel_rfl) rfl) ?_
   show AI _ _ _ _ _ #[true, true, true, true, true, true, true, false, true, true, true, true, true, true, false, false, false, false, false] _
   refine AI.take (i := 16) rfl rfl (by kernel_rfl) (by kernel_rfl) (by kernel_rfl) (fun _ _ h => RetPostD.free rfl h) (opS_fieldAddr_pt (n := 5) (by kernel_rfl) rfl) ?_
   show AI _ _ _ _ _ #[true, true, true, true, true, true, true, false, true, true, true, true, true, true, false, false, true, false, false] _
   refine AI.one (i := 7) (by kernel_rfl) rfl rfl ?_
   refine AIO.callp rfl en13_crona rfl (w_cron_part_ok F x24.1 x24.2.1 x24.2.2.1 x24.2.2.2.1 x28 x33 e34) ?_
   show AI _ _ _ _ _ #[true, true, true, true, true, true, true, true, true, true, true, true, true, true, false, false, true, false, false] _
   refine AI.take (i := 14) rfl rfl (by kernel_rfl) (by kernel_rfl) (by kernel_rfl) (fun _ _ h => RetPostD.free rfl h) (opS_indexAddr_arr (Ar := 0) (k := 1) (m := 0) Tryd.underlying25 (by kernel_rfl) rfl rfl rfl (by decide)) ?_
   show AI _ _ _ _ _ #[true, true, true, true, true, true, true, true, true, true, true, true, true, true, true, false, true, false, false] _
   refine AI.one (i := 15) (by kernel_rfl) rfl rfl ?_
   refine AIO.op0 (opR_store_pt (i := 1) (c := slE _ _ _) (by kernel_rfl) rfl rfl rfl rfl (Nat.le_of_ble_eq_true rfl)) ?_
   show AI _ _ _ _ _ #[true, true, true, true, true, true, true, true, true, true, true, true, true, true, true, true, true, false, false] _
   refine AI.take (i := 17) rfl rfl (by kernel_rfl) (by kernel_rfl) (by kernel_rfl) (fun _ _ h => RetPostD.free rfl h) (opS_indexAddr_arr (Ar := 0) (k := 1) (m := 0) Tryd.underlying26 (by kernel_rfl) rfl rfl rfl (by decide)) ?_
   show AI _ _ _ _ _ #[true, true, true, true, true, true, true, true, true, true, true, true, true, true, true, true, true, true, false] _
   refine AI.one (i := 18) (by kernel_rfl) rfl rfl ?_
   refine AIO.op0 (opR_store_pt (i := 1) (c := .v _) (by kernel_rfl) rfl rfl rfl rfl (Nat.le_of_ble_eq_true rfl)) ?_
   show AI _ _ _ _ _ #[true, true, true, true, true, true, true, true, true, true, true, true, true, true, true, true, true, true, true] _
   refine AI.done rfl ?_
   show AW _ _ _ _ _ _
   refine AW.region ?_
   show AR _ _ _ _ _ [0, 1] _
   refine sS rfl rfl rfl (OpS.eq (av' := i64 1) (g_add rfl rfl (by decide)) rfl) ?_
   refine sS rfl rfl rfl (mv rfl) ?_
   refine AR.nil ?_
   show AW _ _ _ _ _ _
   refine AW.seq ?_
   refine AW.region ?_
   show AR _ _ _ _ _ [0] _
   refine sS rfl rfl rfl (OpS.eq (av' := B true) (opS_lt rfl rfl) (B_congr (by decide))) ?_
   refine AR.nil ?_
   show AW _ _ _ _ _ _
   refine AW.seq ?_
   refine AW.cond rfl (fun _ => ?_) (fun hx => bool_no rfl hx)
   refine AW.skip ?_
   show AW _ _ _ _ _ _
   refine AW.seq ?_
   refine AW.block ?_
   refine AW.seq ?_
   refine AW.region ?_
   show AR _ _ _ _ _ [0, 1, 2, 3, 4] _
   refine sS rfl rfl rfl (mv rfl) ?_
   refine sS rfl rfl rfl (opS_index_sub (i := 1) (k := 4) Tryd.underlying47 Tryd.underlying46 rfl (by kernel_rfl) rfl rfl rfl rfl) ?_
   refine sX rfl rfl rfl (opX_alloc (zs := [.int .i64 0, .int .i64 0, .string ⟨#[]⟩, .int .i64 0]) (by kernel_rfl)) ?_
   rintro _ _ ⟨o37, rfl, rfl⟩
   refine sS rfl rfl rfl (asg rfl) ?_
   refine s0 rfl rfl (opR_store_agg (i := 0) (vs := [i64 x24.2.2.2.2.1, i64 x24.2.2.2.2.2.1, S x24.2.2.2.2.2.2.1, i64 x24.2.2.2.2.2.2.2.1]) (by kernel_rfl) rfl rfl (by simp [isCell, slE]) rfl (Nat.le_of_ble_eq_true rfl)) ?_
   refine AR.freezeCp 6 0 rfl rfl ?_
   show AR _ _ _ _ _ _ ⟨_, _, [.obj o14 [i64 0], .obj o13 [slE Enc.int x33 none, nilS, nilS, nilS, nilS, B (decide (x31 = ([42] : List UInt8))), B false, B false, B false, B false]]⟩
   refine AR.nil ?_
   show AW _ _ _ _ _ _
   obtain ⟨g38, H⟩ := grd_s H
   obtain ⟨x39, e40, H⟩ := lt_s H
   obtain ⟨g41, H⟩ := grd_s H
   obtain ⟨x42, e43, H⟩ := lt_s H
   rcases Or.symm (bndk_s H) with ⟨p46, e45, H⟩ | ⟨x44, e45, H⟩
   ·refine AW.region_draw (by kernel_rfl) ?_
    show AI _ _ _ _ 19 (Array.replicate 19 false) _
    refine AI.take (i := 0) rfl rfl (by kernel_rfl) (by kernel_rfl) (by kernel_rfl) (fun _ _ h => RetPostD.free rfl h) (mv rfl) ?_
    show AI _ _ _ _ _ #[true, false, false, false, false, false, false, false, false, false, false, false, false, false, false, false, false, false, false] _
    refine AI.take (i := 1) rfl rfl (by kernel_rfl) (by kernel_rfl) (by kernel_rfl) (fun _ _ h => RetPostD.free rfl h) (mv rfl) ?_
    show AI _ _ _ _ _ #[true, true, false, false, false, false, false, false, false, false, false, false, false, false, false, false, false, false, false] _
    refine AI.take (i := 2) rfl rfl (by kernel_rfl) (by kernel_rfl) (by kernel_rfl) (fun _ _ h => RetPostD.free rfl h) (opS_load_cp_agg Tryd.underlying46 rfl (n := 4) (by kernel_rfl) rfl (Nat.le_of_ble_eq_true rfl)) ?_
    show AI _ _ _ _ _ #[true, true, true, false, false, false, false, false, false, false, false, false, false, false, false, false, false, false, false] _
    refine AI.take (i := 3) rfl rfl (by kernel_rfl) (by kernel_rfl) (by kernel_rfl) (fun _ _ h => RetPostD.free rfl h) (opS_move (av := slE _ _ _) rfl) ?_
    show AI _ _ _ _ _ #[true, true, true, true, false, false, false, false, false, false, false, false, false, false, false, false, false, false, false] _
    refine AI.take (i := 4) rfl rfl (by kernel_rfl) (by kernel_rfl) (by kernel_rfl) (fun _ _ h => RetPostD.free rfl h) (mv rfl) ?_
    show AI _ _ _ _ _ #[true, true, true, true, true, false, false, false, false, false, false, false, false, false, false, false, false, false, false] _
    refine AI.take (i := 5) rfl rfl (by kernel_rfl) (by kernel_rfl) (by kernel_rfl) (fun _ _ h => RetPostD.free rfl h) (g_indexAddr (E := Enc.str) Tryd.underlying42 (by kernel_rfl) rfl rfl g38 e40) ?_
    show AI _ _ _ _ _ #[true, true, true, true, true, true, false, false, false, false, false, false, false, false, false, false, false, false, false] _
    refine AI.take (i := 6) rfl rfl (by kernel_rfl) (by kernel_rfl) (by kernel_rfl) (fun _ _ h => RetPostD.free rfl h) (opS_load_cp Tryd.underlying9 rfl rfl) ?_
    show AI _ _ _ _ _ #[true, true, true, true, true, true, true, false, false, false, false, false, false, false, false, false, false, false, false] _
    refine AI.take (i := 8) rfl rfl (by kernel_rfl) (by kernel_rfl) (by kernel_rfl) (fun _ _ h => RetPostD.free rfl h) (opS_move (av := slE _ _ _) rfl) ?_
    show AI _ _ _ _ _ #[true, true, true, true, true, true, true, false, true, false, false, false, false, false, false, false, false, false, false] _
    refine AI.take (i := 9) rfl rfl (by kernel_rfl) (by kernel_rfl) (by kernel_rfl) (fun _ _ h => RetPostD.free rfl h) (mv rfl) ?_
    show AI _ _ _ _ _ #[true, true, true, true, true, true, true, false, true, true, false, false, false, false, false, false, false, false, false] _
    refine AI.take (i := 10) rfl rfl (by kernel_rfl) (by kernel_rfl) (by kernel_rfl) (fun _ _ h => RetPostD.free rfl h) (g_indexAddr (E := Enc.str) Tryd.underlying42 (by kernel_rfl) rfl rfl g41 e43) ?_
    show AI _ _ _ _ _ #[true, true, true, true, true, true, true, false, true, true, true, false, false, false, false, false, false, false, false] _
    refine AI.take (i := 11) rfl rfl (by kernel_rfl) (by kernel_rfl) (by kernel_rfl) (fun _ _ h => RetPostD.free rfl h) (opS_load_cp Tryd.underlying9 rfl rfl) ?_
    show AI _ _ _ _ _ #[true, true, true, true, true, true, true, false, true, true, true, true, false, false, false, false, false, false, false] _
    refine AI.take (i := 12) rfl rfl (by kernel_rfl) (by kernel_rfl) (by kernel_rfl) (fun _ _ h => RetPostD.free rfl h) (opS_eqs rfl rfl) ?_
    show AI _ _ _ _ _ #[true, true, true, true, true, true, true, false, true, true, true, true, true, false, false, false, false, false, false] _
    refine AI.take (i := 13) rfl rfl (by kernel_rfl) (by kernel_rfl) (by kernel_rfl) (fun _ _ h => RetPostD.free rfl h) (opS_fieldAddr_pt (n := 0) (by kernel_rfl) rfl) ?_
    show AI _ _ _ _ _ #[true, true, true, true, true, true, true, false, true, true, true, true, true, true, false, false, false, false, false] _
    refine AI.take (i := 16) rfl rfl (by kernel_rfl) (by kernel_rfl) (by kernel_rfl) (fun _ _ h => RetPostD.free rfl h) (opS_fieldAddr_pt (n := 5) (by kernel_rfl) rfl) ?_
    show AI _ _ _ _ _ #[true, true, true, true, true, true, true, false, true, true, true, true, true, true, false, false, true, false, false] _
    refine AI.one (i := 7) (by kernel_rfl) rfl rfl ?_
    refine AIO.callPan (c := pan1 (.iface 40 (.agg #[]))) [] rfl en13_crona rfl (w_cron_part_pan F x24.2.2.2.2.1 x24.2.2.2.2.2.1 x24.2.2.2.2.2.2.1 x24.2.2.2.2.2.2.2.1 x39 p46 e45) rfl ?_
    refine Exists.intro [(2, .pt o13 0), (3, .pt o14 0)] ⟨by simp, .cons (.refl _) (.cons (.refl _) (.nil _)), ?_⟩
    show ALeaves _ _ _ _ _ [.call (.func 9) [.pt o13 0, .pt o14 0] []] _ [.obj o14 [i64 0], .obj o13 [slE Enc.int x33 none, nilS, nilS, nilS, nilS, B (decide (x31 = ([42] : List UInt8))), B false, B false, B false, B false]]
    refine ALeaves.cons1 (v := .tup []) (u1 := (.panicking [{ v := (.iface 40 (.agg #[])), recovered := true }])) (A2 := [.obj o14 [i64 2], .obj o13 [nilS, nilS, nilS, nilS, nilS, B false, B false, B false, B false, B false]]) [0, 0] (fun h => by cases h) en9_crona rfl ?_ ?_
    ·
     show ADCalls _ _ [.pt o13 0, .pt o14 0] [.obj o14 [i64 0], .obj o13 [slE Enc.int x33 none, nilS, nilS, nilS, nilS, B (decide (x31 = ([42] : List UInt8))), B false, B false, B false, B false]] _ _
     refine ADCalls.of_recover (av := .ifc 40 (.agg [])) (l := [1]) Tryd.func9 rfl rfl rfl rfl rfl Recovers.pan rfl (fun cs => ?_)
     refine ASR.op rfl rfl ((opS_assign (av := .ifc _ _) rfl).opR _) ?_
     refine ASR.nil ?_
     show AW _ _ _ _ _ _
     refine AW.seq ?_
     refine AW.region ?_
     show AR _ _ _ _ _ [0, 1] _
     refine sS rfl rfl rfl (opS_move (av := .ifc _ _) rfl) ?_
     refine sS rfl rfl rfl (opS_nil_ifc (ms := []) (.inr rfl) Tryd.underlying20 rfl rfl) ?_
     refine AR.nil ?_
     show AW _ _ _ _ _ _
     refine AW.cond rfl (fun _ => ?_) (fun hx => bool_no rfl hx)
     refine AW.seq ?_
     refine AW.seq ?_
     refine AW.region ?_
     show AR _ _ _ _ _ [0, 1, 2, 3, 4, 5, 6, 7] _
     refine sS rfl rfl rfl (opS_move (av := .ifc _ _) rfl) ?_
     refine sS rfl rfl rfl (opS_assert_same Tryd.underlying40 rfl rfl) ?_
     refine sS rfl rfl rfl (opS_move (av := .tup _) rfl) ?_
     refine sS rfl rfl rfl (opS_extract (av := .agg _) rfl rfl) ?_
     refine sS rfl rfl rfl (opS_extract (av := .v _) rfl rfl) ?_
     refine sX rfl rfl rfl (opX_alloc (zs := []) (by kernel_rfl)) ?_
     rintro _ _ ⟨o84, rfl, rfl⟩
     refine s0 rfl rfl (opR_store_agg (i := 0) (vs := []) (by kernel_rfl) rfl rfl (by simp [isCell, slE]) rfl (Nat.le_of_ble_eq_true rfl)) ?_
     refine sS rfl rfl rfl (asg rfl) ?_
     refine AR.nil ?_
     show AW _ _ _ _ _ _
     refine AW.seq ?_
     refine AW.region ?_
     show AR _ _ _ _ _ [0, 1] _
     refine sS rfl rfl rfl (mv rfl) ?_
     refine sS rfl rfl rfl (opS_not rfl) ?_
     refine AR.nil ?_
     show AW _ _ _ _ _ _
     refine AW.cond rfl (fun hx => bool_no hx rfl) (fun _ => ?_)
     refine AW.skip ?_
     show AW _ _ _ _ _ _
     refine AW.region ?_
     show AR _ _ _ _ _ [0, 1, 2] _
     refine sS rfl rfl rfl (g_build (zs := [.slice none 0 0, .slice none 0 0, .slice none 0 0, .slice none 0 0, .slice none 0 0, .bool false, .bool false, .bool false, .bool false, .bool false]) (ps := [(0, 5), (5, 5)]) (cs := [nilS, nilS, nilS, nilS, nilS, B false, B false, B false, B false, B false]) (by kernel_rfl) rfl rfl) ?_
     refine s0 rfl rfl (opR_store_agg (i := 2) (vs := [nilS, nilS, nilS, nilS, nilS, B false, B false, B false, B false, B false]) (by kernel_rfl) rfl rfl (by simp [isCell, slE]) rfl (Nat.le_of_ble_eq_true rfl)) ?_
     refine s0 rfl rfl (opR_store_pt (i := 1) (c := .v _) (by kernel_rfl) rfl rfl rfl rfl (Nat.le_of_ble_eq_true rfl)) ?_
     refine AR.nil ?_
     exact And.intro rfl (Exists.intro _ (Exists.intro _ ⟨ResV.noneW rfl, Sub.at [1, 1] rfl, rfl, rfl, rfl⟩))
    show ALeaves _ _ _ _ _ [] .returning [.obj o14 [i64 2], .obj o13 [nilS, nilS, nilS, nilS, nilS, B false, B false, B false, B false, B false]]
    obtain ⟨rfl, rfl, rfl, rfl, rfl, rfl, rfl, rfl, rfl, rfl, rfl⟩ := res11 H
    exact Exists.intro _ (Exists.intro _ ⟨ResT.place2 rfl (CellV.aggW (cs := [nilS, nilS, nilS, nilS, nilS, B false, B false, B false, B false, B false]) (CellV.agg (off := 0) (cs := [nilS, nilS, nilS, nilS, nilS, B false, B false, B false, B false, B false]) (n := 10) 1 Tryd.underlying28 rfl (by kernel_rfl) rfl rfl (Nat.le_of_ble_eq_true rfl)) (.cons (.nil _) (.cons (.nil _) (.cons (.nil _) (.cons (.nil _) (.cons (.nil _) (.cons (.refl _) (.cons (.refl _) (.cons (.refl _) (.cons (.refl _) (.cons (.refl _) (.nil)))))))))))) (CellV.one (c := .v _) 0 Tryd.underlying29 rfl rfl rfl rfl), Sub.at [] rfl, rfl, rfl⟩)
   refine AW.region_draw (by kernel_rfl) ?_
   show AI _ _ _ _ 19 (Array.replicate 19 false) _
   refine AI.take (i := 0) rfl rfl (by kernel_rfl) (by kernel_rfl) (by kernel_rfl) (fun _ _ h => RetPostD.free rfl h) (mv rfl) ?_
   show AI _ _ _ _ _ #[true, false, false, false, false, false, false, false, false, false, false, false, false, false, false, false, false, false, false] _
   refine AI.take (i := 1) rfl rfl (by kernel_rfl) (by kernel_rfl) (by kernel_rfl) (fun _ _ h => RetPostD.free rfl h) (mv rfl) ?_
   show AI _ _ _ _ _ #[true, true, false, false, false, false, false, false, false, false, false, false, false, false, false, false, false, false, false] _
   refine AI.take (i := 2) rfl rfl (by kernel_rfl) (by kernel_rfl) (by kernel_rfl) (fun _ _ h => RetPostD.free rfl h) (opS_load_cp_agg Tryd.underlying46 rfl (n := 4) (by kernel_rfl) rfl (Nat.le_of_ble_eq_true rfl)) ?_
   show AI _ _ _ _ _ #[true, true, true, false, false, false, false, false, false, false, false, false, false, false, false, false, false, false, false] _
   refine AI.take (i := 3) rfl rfl (by kernel_rfl) (by kernel_rfl) (by kernel_rfl) (fun _ _ h => RetPostD.free rfl h) (opS_move (av := slE _ _ _) rfl) ?_
   show AI _ _ _ _ _ #[true, true, true, true, false, false, false, false, false, false, false, false, false, false, false, false, false, false, false] _
   refine AI.take (i := 4) rfl rfl (by kernel_rfl) (by kernel_rfl) (by kernel_rfl) (fun _ _ h => RetPostD.free rfl h) (mv rfl) ?_
   show AI _ _ _ _ _ #[true, true, true, true, true, false, false, false, false, false, false, false, false, false, false, false, false, false, false] _
   refine AI.take (i := 5) rfl rfl (by kernel_rfl) (by kernel_rfl) (by kernel_rfl) (fun _ _ h => RetPostD.free rfl h) (g_indexAddr (E := Enc.str) Tryd.underlying42 (by kernel_rfl) rfl rfl g38 e40) ?_
   show AI _ _ _ _ _ #[true, true, true, true, true, true, false, false, false, false, false, false, false, false, false, false, false, false, false] _
   refine AI.take (i := 6) rfl rfl (by kernel_rfl) (by kernel_rfl) (by kernel_rfl) (fun _ _ h => RetPostD.free rfl h) (opS_load_cp Tryd.underlying9 rfl rfl) ?_
   show AI _ _ _ _ _ #[true, true, true, true, true, true, true, false, false, false, false, false, false, false, false, false, false, false, false] _
   refine AI.take (i := 8) rfl rfl (by kernel_rfl) (by kernel_rfl) (by kernel_rfl) (fun _ _ h => RetPostD.free rfl h) (opS_move (av := slE _ _ _) rfl) ?_
   show AI _ _ _ _ _ #[true, true, true, true, true, true, true, false, true, false, false, false, false, false, false, false, false, false, false] _
   refine AI.take (i := 9) rfl rfl (by kernel_rfl) (by kernel_rfl) (by kernel_rfl) (fun _ _ h => RetPostD.free rfl h) (mv rfl) ?_
   show AI _ _ _ _ _ #[true, true, true, true, true, true, true, false, true, true, false, false, false, false, false, false, false, false, false] _
   refine AI.take (i := 10) rfl rfl (by kernel_rfl) (by kernel_rfl) (by kernel_rfl) (fun _ _ h => RetPostD.free rfl h) (g_indexAddr (E := Enc.str) Tryd.underlying42 (by kernel_rfl) rfl rfl g41 e43) ?_
   show AI _ _ _ _ _ #[true, true, true, true, true, true, true, false, true, true, true, false, false, false, false, false, false, false, false] _
   refine AI.take (i := 11) rfl rfl (by kernel_rfl) (by kernel_rfl) (by kernel_rfl) (fun _ _ h => RetPostD.free rfl h) (opS_load_cp Tryd.underlying9 rfl rfl) ?_
   show AI _ _ _ _ _ #[true, true, true, true, true, true, true, false, true, true, true, true, false, false, false, false, false, false, false] _
   refine AI.take (i := 12) rfl rfl (by kernel_rfl) (by kernel_rfl) (by kernel_rfl) (fun _ _ h => RetPostD.free rfl h) (opS_eqs rfl rfl) ?_
   show AI _ _ _ _ _ #[true, true, true, true, true, true, true, false, true, true, true, true, true, false, false, false, false, false, false] _
   refine AI.take (i := 13) rfl rfl (by kernel_rfl) (by kernel_rfl) (by kernel_rfl) (fun _ _ h => RetPostD.free rfl h) (opS_fieldAddr_pt (n := 0) (by kernel_rfl) rfl) ?_
   show AI _ _ _ _ _ #[true, true, true, true, true, true, true, false, true, true, true, true, true, true, false, false, false, false, false] _
   refine AI.take (i := 16) rfl rfl (by kernel_rfl) (by kernel_rfl) (by kernel_rfl) (fun _ _ h => RetPostD.free rfl h) (opS_fieldAddr_pt (n := 5) (by kernel_rfl) rfl) ?_
   show AI _ _ _ _ _ #[true, true, true, true, true, true, true, false, true, true, true, true, true, true, false, false, true, false, false] _
   refine AI.one (i := 7) (by kernel_rfl) rfl rfl ?_
   refine AIO.callp rfl en13_crona rfl (w_cron_part_ok F x24.2.2.2.2.1 x24.2.2.2.2.2.1 x24.2.2.2.2.2.2.1 x24.2.2.2.2.2.2.2.1 x39 x44 e45) ?_
   show AI _ _ _ _ _ #[true, true, true, true, true, true, true, true, true, true, true, true, true, true, false, false, true, false, false] _
   refine AI.take (i := 14) rfl rfl (by kernel_rfl) (by kernel_rfl) (by kernel_rfl) (fun _ _ h => RetPostD.free rfl h) (opS_indexAddr_arr (Ar := 0) (k := 1) (m := 1) Tryd.underlying25 (by kernel_rfl) rfl rfl rfl (by decide)) ?_
   show AI _ _ _ _ _ #[true, true, true, true, true, true, true, true, true, true, true, true, true, true, true, false, true, false, false] _
   refine AI.one (i := 15) (by kernel_rfl) rfl rfl ?_
   refine AIO.op0 (opR_store_pt (i := 1) (c := slE _ _ _) (by kernel_rfl) rfl rfl rfl rfl (Nat.le_of_ble_eq_true rfl)) ?_
   show AI _ _ _ _ _ #[true, true, true, true, true, true, true, true, true, true, true, true, true, true, true, true, true, false, false] _
   refine AI.take (i := 17) rfl rfl (by kernel_rfl) (by kernel_rfl) (by kernel_rfl) (fun _ _ h => RetPostD.free rfl h) (opS_indexAddr_arr (Ar := 0) (k := 1) (m := 1) Tryd.underlying26 (by kernel_rfl) rfl rfl rfl (by decide)) ?_
   show AI _ _ _ _ _ #[true, true, true, true, true, true, true, true, true, true, true, true, true, true, true, true, true, true, false] _
   refine AI.one (i := 18) (by kernel_rfl) rfl rfl ?_
   refine AIO.op0 (opR_store_pt (i := 1) (c := .v _) (by kernel_rfl) rfl rfl rfl rfl (Nat.le_of_ble_eq_true rfl)) ?_
   show AI _ _ _ _ _ #[true, true, true, true, true, true, true, true, true, true, true, true, true, true, true, true, true, true, true] _
   refine AI.done rfl ?_
   show AW _ _ _ _ _ _
   refine AW.region ?_
   show AR _ _ _ _ _ [0, 1] _
   refine sS rfl rfl rfl (OpS.eq (av' := i64 2) (g_add rfl rfl (by decide)) rfl) ?_
   refine sS rfl rfl rfl (mv rfl) ?_
   refine AR.nil ?_
   show AW _ _ _ _ _ _
   refine AW.seq ?_
   refine AW.region ?_
   show AR _ _ _ _ _ [0] _
   refine sS rfl rfl rfl (OpS.eq (av' := B true) (opS_lt rfl rfl) (B_congr (by decide))) ?_
   refine AR.nil ?_
   show AW _ _ _ _ _ _
   refine AW.seq ?_
   refine AW.cond rfl (fun _ => ?_) (fun hx => bool_no rfl hx)
   refine AW.skip ?_
   show AW _ _ _ _ _ _
   refine AW.seq ?_
   refine AW.block ?_
   refine AW.seq ?_
   refine AW.region ?_
   show AR _ _ _ _ _ [0, 1, 2, 3, 4] _
   refine sS rfl rfl rfl (mv rfl) ?_
   refine sS rfl rfl rfl (opS_index_sub (i := 2) (k := 4) Tryd.underlying47 Tryd.underlying46 rfl (by kernel_rfl) rfl rfl rfl rfl) ?_
   refine sX rfl rfl rfl (opX_alloc (zs := [.int .i64 0, .int .i64 0, .string ⟨#[]⟩, .int .i64 0]) (by kernel_rfl)) ?_
   rintro _ _ ⟨o48, rfl, rfl⟩
   refine sS rfl rfl rfl (asg rfl) ?_
   refine s0 rfl rfl (opR_store_agg (i := 0) (vs := [i64 x24.2.2.2.2.2.2.2.2.1, i64 x24.2.2.2.2.2.2.2.2.2.1, S x24.2.2.2.2.2.2.2.2.2.2.1, i64 x24.2.2.2.2.2.2.2.2.2.2.2.1]) (by kernel_rfl) rfl rfl (by simp [isCell, slE]) rfl (Nat.le_of_ble_eq_true rfl)) ?_
   refine AR.freezeCp 6 0 rfl rfl ?_
   show AR _ _ _ _ _ _ ⟨_, _, [.obj o14 [i64 0], .obj o13 [slE Enc.int x33 none, slE Enc.int x44 none, nilS, nilS, nilS, B (decide (x31 = ([42] : List UInt8))), B (decide (x42 = ([42] : List UInt8))), B false, B false, B false]]⟩
   refine AR.nil ?_
   show AW _ _ _ _ _ _
   obtain ⟨g49, H⟩ := grd_s H
   obtain ⟨x50, e51, H⟩ := lt_s H
   obtain ⟨g52, H⟩ := grd_s H
   obtain ⟨x53, e54, H⟩ := lt_s H
   rcases Or.symm (bndk_s H) with ⟨p57, e56, H⟩ | ⟨x55, e56, H⟩
   ·refine AW.region_draw (by kernel_rfl) ?_
    show AI _ _ _ _ 19 (Array.replicate 19 false) _
    refine AI.take (i := 0) rfl rfl (by kernel_rfl) (by kernel_rfl) (by kernel_rfl) (fun _ _ h => RetPostD.free rfl h) (mv rfl) ?_
    show AI _ _ _ _ _ #[true, false, false, false, false, false, false, false, false, false, false, false, false, false, false, false, false, false, false] _
    refine AI.take (i := 1) rfl rfl (by kernel_rfl) (by kernel_rfl) (by kernel_rfl) (fun _ _ h => RetPostD.free rfl h) (mv rfl) ?_
    show AI _ _ _ _ _ #[true, true, false, false, false, false, false, false, false, false, false, false, false, false, false, false, false, false, false] _
    refine AI.take (i := 2) rfl rfl (by kernel_rfl) (by kernel_rfl) (by kernel_rfl) (fun _ _ h => RetPostD.free rfl h) (opS_load_cp_agg Tryd.underlying46 rfl (n := 4) (by kernel_rfl) rfl (Nat.le_of_ble_eq_true rfl)) ?_
    show AI _ _ _ _ _ #[true, true, true, false, false, false, false, false, false, false, false, false, false, false, false, false, false, false, false] _
    refine AI.take (i := 3) rfl rfl (by kernel_rfl) (by kernel_rfl) (by kernel_rfl) (fun _ _ h => RetPostD.free rfl h) (opS_move (av := slE _ _ _) rfl) ?_
    show AI _ _ _ _ _ #[true, true, true, true, false, false, false, false, false, false, false, false, false, false, false, false, false, false, false] _
    refine AI.take (i := 4) rfl rfl (by kernel_rfl) (by kernel_rfl) (by kernel_rfl) (fun _ _ h => RetPostD.free rfl h) (mv rfl) ?_
    show AI _ _ _ _ _ #[true, true, true, true, true, false, false, false, false, false, false, false, false, false, false, false, false, false, false] _
    refine AI.take (i := 5) rfl rfl (by kernel_rfl) (by kernel_rfl) (by kernel_rfl) (fun _ _ h => RetPostD.free rfl h) (g_indexAddr (E := Enc.str) Tryd.underlying42 (by kernel_rfl) rfl rfl g49 e51) ?_
    show AI _ _ _ _ _ #[true, true, true, true, true, true, false, false, false, false, false, false, false, false, false, false, false, false, false] _
    refine AI.take (i := 6) rfl rfl (by kernel_rfl) (by kernel_rfl) (by kernel_rfl) (fun _ _ h => RetPostD.free rfl h) (opS_load_cp Tryd.underlying9 rfl rfl) ?_
    show AI _ _ _ _ _ #[true, true, true, true, true, true, true, false, false, false, false, false, false, false, false, false, false, false, false] _
    refine AI.take (i := 8) rfl rfl (by kernel_rfl) (by kernel_rfl) (by kernel_rfl) (fun _ _ h => RetPostD.free rfl h) (opS_move (av := slE _ _ _) rfl) ?_
    show AI _ _ _ _ _ #[true, true, true, true, true, true, true, false, true, false, false, false, false, false, false, false, false, false, false] _
    refine AI.take (i := 9) rfl rfl (by kernel_rfl) (by kernel_rfl) (by kernel_rfl) (fun _ _ h => RetPostD.free rfl h) (mv rfl) ?_
    show AI _ _ _ _ _ #[true, true, true, true, true, true, true, false, true, true, false, false, false, false, false, false, false, false, false] _
    refine AI.take (i := 10) rfl rfl (by kernel_rfl) (by kernel_rfl) (by kernel_rfl) (fun _ _ h => RetPostD.free rfl h) (g_indexAddr (E := Enc.str) Tryd.underlying42 (by kernel_rfl) rfl rfl g52 e54) ?_
    show AI _ _ _ _ _ #[true, true, true, true, true, true, true, false, true, true, true, false, false, false, false, false, false, false, false] _
    refine AI.take (i := 11) rfl rfl (by kernel_rfl) (by kernel_rfl) (by kernel_rfl) (fun _ _ h => RetPostD.free rfl h) (opS_load_cp Tryd.underlying9 rfl rfl) ?_
    show AI _ _ _ _ _ #[true, true, true, true, true, true, true, false, true, true, true, true, false, false, false, false, false, false, false] _
    refine AI.take (i := 12) rfl rfl (by kernel_rfl) (by kernel_rfl) (by kernel_rfl) (fun _ _ h => RetPostD.free rfl h) (opS_eqs rfl rfl) ?_
    show AI _ _ _ _ _ #[true, true, true, true, true, true, true, false, true, true, true, true, true, false, false, false, false, false, false] _
    refine AI.take (i := 13) rfl rfl (by kernel_rfl) (by kernel_rfl) (by kernel_rfl) (fun _ _ h => RetPostD.free rfl h) (opS_fieldAddr_pt (n := 0) (by kernel_rfl) rfl) ?_
    show AI _ _ _ _ _ #[true, true, true, true, true, true, true, false, true, true, true, true, true, true, false, false, false, false, false] _
    refine AI.take (i := 16) rfl rfl (by kernel_rfl) (by kernel_rfl) (by kernel_rfl) (fun _ _ h => RetPostD.free rfl h) (opS_fieldAddr_pt (n := 5) (by kernel_rfl) rfl) ?_
    show AI _ _ _ _ _ #[true, true, true, true, true, true, true, false, true, true, true, true, true, true, false, false, true, false, false] _
    refine AI.one (i := 7) (by kernel_rfl) rfl rfl ?_
    refine AIO.callPan (c := pan1 (.iface 40 (.agg #[]))) [] rfl en13_crona rfl (w_cron_part_pan F x24.2.2.2.2.2.2.2.2.1 x24.2.2.2.2.2.2.2.2.2.1 x24.2.2.2.2.2.2.2.2.2.2.1 x24.2.2.2.2.2.2.2.2.2.2.2.1 x50 p57 e56) rfl ?_
    refine Exists.intro [(2, .pt o13 0), (3, .pt o14 0)] ⟨by simp, .cons (.refl _) (.cons (.refl _) (.nil _)), ?_⟩
    show ALeaves _ _ _ _ _ [.call (.func 9) [.pt o13 0, .pt o14 0] []] _ [.obj o14 [i64 0], .obj o13 [slE Enc.int x33 none, slE Enc.int x44 none, nilS, nilS, nilS, B (decide (x31 = ([42] : List UInt8))), B (decide (x42 = ([42] : List UInt8))), B false, B false, B false]]
    refine ALeaves.cons1 (v := .tup []) (u1 := (.panicking [{ v := (.iface 40 (.agg #[])), recovered := true }])) (A2 := [.obj o14 [i64 2], .obj o13 [nilS, nilS, nilS, nilS, nilS, B false, B false, B false, B false, B false]]) [0, 0] (fun h => by cases h) en9_crona rfl ?_ ?_
    ·
     show ADCalls _ _ [.pt o13 0, .pt o14 0] [.obj o14 [i64 0], .obj o13 [slE Enc.int x33 none, slE Enc.int x44 none, nilS, nilS, nilS, B (decide (x31 = ([42] : List UInt8))), B (decide (x42 = ([42] : List UInt8))), B false, B false, B false]] _ _
     refine ADCalls.of_recover (av := .ifc 40 (.agg [])) (l := [1]) Tryd.func9 rfl rfl rfl rfl rfl Recovers.pan rfl (fun cs => ?_)
     refine ASR.op rfl rfl ((opS_assign (av := .ifc _ _) rfl).opR _) ?_
     refine ASR.nil ?_
     show AW _ _ _ _ _ _
     refine AW.seq ?_
     refine AW.region ?_
     show AR _ _ _ _ _ [0, 1] _
     refine sS rfl rfl rfl (opS_move (av := .ifc _ _) rfl) ?_
     refine sS rfl rfl rfl (opS_nil_ifc (ms := []) (.inr rfl) Tryd.underlying20 rfl rfl) ?_
     refine AR.nil ?_
     show AW _ _ _ _ _ _
     refine AW.cond rfl (fun _ => ?_) (fun hx => bool_no rfl hx)
     refine AW.seq ?_
     refine AW.seq ?_
     refine AW.region ?_
     show AR _ _ _ _ _ [0, 1, 2, 3, 4, 5, 6, 7] _
     refine sS rfl rfl rfl (opS_move (av := .ifc _ _) rfl) ?_
     refine sS rfl rfl rfl (opS_assert_same Tryd.underlying40 rfl rfl) ?_
     refine sS rfl rfl rfl (opS_move (av := .tup _) rfl) ?_
     refine sS rfl rfl rfl (opS_extract (av := .agg _) rfl rfl) ?_
     refine sS rfl rfl rfl (opS_extract (av := .v _) rfl rfl) ?_
     refine sX rfl rfl rfl (opX_alloc (zs := []) (by kernel_rfl)) ?_
     rintro _ _ ⟨o83, rfl, rfl⟩
     refine s0 rfl rfl (opR_store_agg (i := 0) (vs := []) (by kernel_rfl) rfl rfl (by simp [isCell, slE]) rfl (Nat.le_of_ble_eq_true rfl)) ?_
     refine sS rfl rfl rfl (asg rfl) ?_
     refine AR.nil ?_
     show AW _ _ _ _ _ _
     refine AW.seq ?_
     refine AW.region ?_
     show AR _ _ _ _ _ [0, 1] _
     refine sS rfl rfl rfl (mv rfl) ?_
     refine sS rfl rfl rfl (opS_not rfl) ?_
     refine AR.nil ?_
     show AW _ _ _ _ _ _
     refine AW.cond rfl (fun hx => bool_no hx rfl) (fun _ => ?_)
     refine AW.skip ?_
     show AW _ _ _ _ _ _
     refine AW.region ?_
     show AR _ _ _ _ _ [0, 1, 2] _
     refine sS rfl rfl rfl (g_build (zs := [.slice none 0 0, .slice none 0 0, .slice none 0 0, .slice none 0 0, .slice none 0 0, .bool false, .bool false, .bool false, .bool false, .bool false]) (ps := [(0, 5), (5, 5)]) (cs := [nilS, nilS, nilS, nilS, nilS, B false, B false, B false, B false, B false]) (by kernel_rfl) rfl rfl) ?_
     refine s0 rfl rfl (opR_store_agg (i := 2) (vs := [nilS, nilS, nilS, nilS, nilS, B false, B false, B false, B false, B false]) (by kernel_rfl) rfl rfl (by simp [isCell, slE]) rfl (Nat.le_of_ble_eq_true rfl)) ?_
     refine s0 rfl rfl (opR_store_pt (i := 1) (c := .v _) (by kernel_rfl) rfl rfl rfl rfl (Nat.le_of_ble_eq_true rfl)) ?_
     refine AR.nil ?_
     exact And.intro rfl (Exists.intro _ (Exists.intro _ ⟨ResV.noneW rfl, Sub.at [1, 1] rfl, rfl, rfl, rfl⟩))
    show ALeaves _ _ _ _ _ [] .returning [.obj o14 [i64 2], .obj o13 [nilS, nilS, nilS, nilS, nilS, B false, B false, B false, B false, B false]]
    obtain ⟨rfl, rfl, rfl, rfl, rfl, rfl, rfl, rfl, rfl, rfl, rfl⟩ := res11 H
    exact Exists.intro _ (Exists.intro _ ⟨ResT.place2 rfl (CellV.aggW (cs := [nilS, nilS, nilS, nilS, nilS, B false, B false, B false, B false, B false]) (CellV.agg (off := 0) (cs := [nilS, nilS, nilS, nilS, nilS, B false, B false, B false, B false, B false]) (n := 10) 1 Tryd.underlying28 rfl (by kernel_rfl) rfl rfl (Nat.le_of_ble_eq_true rfl)) (.cons (.nil _) (.cons (.nil _) (.cons (.nil _) (.cons (.nil _) (.cons (.nil _) (.cons (.refl _) (.cons (.refl _) (.cons (.refl _) (.cons (.refl _) (.cons (.refl _) (.nil)))))))))))) (CellV.one (c := .v _) 0 Tryd.underlying29 rfl rfl rfl rfl), Sub.at [] rfl, rfl, rfl⟩)
   refine AW.region_draw (by kernel_rfl) ?_
   show AI _ _ _ _ 19 (Array.replicate 19 false) _
   refine AI.take (i := 0) rfl rfl (by kernel_rfl) (by kernel_rfl) (by kernel_rfl) (fun _ _ h => RetPostD.free rfl h) (mv rfl) ?_
   show AI _ _ _ _ _ #[true, false, false, false, false, false, false, false, false, false, false, false, false, false, false, false, false, false, false] _
   refine AI.take (i := 1) rfl rfl (by kernel_rfl) (by kernel_rfl) (by kernel_rfl) (fun _ _ h => RetPostD.free rfl h) (mv rfl) ?_
   show AI _ _ _ _ _ #[true, true, false, false, false, false, false, false, false, false, false, false, false, false, false, false, false, false, false] _
   refine AI.take (i := 2) rfl rfl (by kernel_rfl) (by kernel_rfl) (by kernel_rfl) (fun _ _ h => RetPostD.free rfl h) (opS_load_cp_agg Tryd.underlying46 rfl (n := 4) (by kernel_rfl) rfl (Nat.le_of_ble_eq_true rfl)) ?_
   show AI _ _ _ _ _ #[true, true, true, false, false, false, false, false, false, false, false, false, false, false, false, false, false, false, false] _
   refine AI.take (i := 3) rfl rfl (by kernel_rfl) (by kernel_rfl) (by kernel_rfl) (fun _ _ h => RetPostD.free rfl h) (opS_move (av := slE _ _ _) rfl) ?_
   show AI _ _ _ _ _ #[true, true, true, true, false, false, false, false, false, false, false, false, false, false, false, false, false, false, false] _
   refine AI.take (i := 4) rfl rfl (by kernel_rfl) (by kernel_rfl) (by kernel_rfl) (fun _ _ h => RetPostD.free rfl h) (mv rfl) ?_
   show AI _ _ _ _ _ #[true, true, true, true, true, false, false, false, false, false, false, false, false, false, false, false, false, false, false] _
   refine AI.take (i := 5) rfl rfl (by kernel_rfl) (by kernel_rfl) (by kernel_rfl) (fun _ _ h => RetPostD.free rfl h) (g_indexAddr (E := Enc.str) Tryd.underlying42 (by kernel_rfl) rfl rfl g49 e51) ?_
   show AI _ _ _ _ _ #[true, true, true, true, true, true, false, false, false, false, false, false, false, false, false, false, false, false, false] _
   refine AI.take (i := 6) rfl rfl (by kernel_rfl) (by kernel_rfl) (by kernel_rfl) (fun _ _ h => RetPostD.free rfl h) (opS_load_cp Tryd.underlying9 rfl rfl) ?_
   show AI _ _ _ _ _ #[true, true, true, true, true, true, true, false, false, false, false, false, false, false, false, false, false, false, false] _
   refine AI.take (i := 8) rfl rfl (by kernel_rfl) (by kernel_rfl) (by kernel_rfl) (fun _ _ h => RetPostD.free rfl h) (opS_move (av := slE _ _ _) rfl) ?_
   show AI _ _ _ _ _ #[true, true, true, true, true, true, true, false, true, false, false, false, false, false, false, false, false, false, false] _
   refine AI.take (i := 9) rfl rfl (by kernel_rfl) (by kernel_rfl) (by kernel_rfl) (fun _ _ h => RetPostD.free rfl h) (mv rfl) ?_
   show AI _ _ _ _ _ #[true, true, true, true, true, true, true, false, true, true, false, false, false, false, false, false, false, false, false] _
   refine AI.take (i := 10) rfl rfl (by kernel_rfl) (by kernel_rfl) (by kernel_rfl) (fun _ _ h => RetPostD.free rfl h) (g_indexAddr (E := Enc.str) Tryd.underlying42 (by kernel_rfl) rfl rfl g52 e54) ?_
   show AI _ _ _ _ _ #[true, true, true, true, true, true, true, false, true, true, true, false, false, false, false, false, false, false, false] _
   refine AI.take (i := 11) rfl rfl (by kernel_rfl) (by kernel_rfl) (by kernel_rfl) (fun _ _ h => RetPostD.free rfl h) (opS_load_cp Tryd.underlying9 rfl rfl) ?_
   show AI _ _ _ _ _ #[true, true, true, true, true, true, true, false, true, true, true, true, false, false, false, false, false, false, false] _
   refine AI.take (i := 12) rfl rfl (by kernel_rfl) (by kernel_rfl) (by kernel_rfl) (fun _ _ h => RetPostD.free rfl h) (opS_eqs rfl rfl) ?_
   show AI _ _ _ _ _ #[true, true, true, true, true, true, true, false, true, true, true, true, true, false, false, false, false, false, false] _
   refine AI.take (i := 13) rfl rfl (by kernel_rfl) (by kernel_rfl) (by kernel_rfl) (fun _ _ h => RetPostD.free rfl h) (opS_fieldAddr_pt (n := 0) (by kernel_rfl) rfl) ?_
   show AI _ _ _ _ _ #[true, true, true, true, true, true, true, false, true, true, true, true, true, true, false, false, false, false, false] _
   refine AI.take (i := 16) rfl rfl (by kernel_rfl) (by kernel_rfl) (by kernel_rfl) (fun _ _ h => RetPostD.free rfl h) (opS_fieldAddr_pt (n := 5) (by kernel_rfl) rfl) ?_
   show AI _ _ _ _ _ #[true, true, true, true, true, true, true, false, true, true, true, true, true, true, false, false, true, false, false] _
   refine AI.one (i := 7) (by kernel_rfl) rfl rfl ?_
   refine AIO.callp rfl en13_crona rfl (w_cron_part_ok F x24.2.2.2.2.2.2.2.2.1 x24.2.2.2.2.2.2.2.2.2.1 x24.2.2.2.2.2.2.2.2.2.2.1 x24.2.2.2.2.2.2.2.2.2.2.2.1 x50 x55 e56) ?_
   show AI _ _ _ _ _ #[true, true, true, true, true, true, true, true, true, true, true, true, true, true, false, false, true, false, false] _
   refine AI.take (i := 14) rfl rfl (by kernel_rfl) (by kernel_rfl) (by kernel_rfl) (fun _ _ h => RetPostD.free rfl h) (opS_indexAddr_arr (Ar := 0) (k := 1) (m := 2) Tryd.underlying25 (by kernel_rfl) rfl rfl rfl (by decide)) ?_
   show AI _ _ _ _ _ #[true, true, true, true, true, true, true, true, true, true, true, true, true, true, true, false, true, false, false] _
   refine AI.one (i := 15) (by kernel_rfl) rfl rfl ?_
   refine AIO.op0 (opR_store_pt (i := 1) (c := slE _ _ _) (by kernel_rfl) rfl rfl rfl rfl (Nat.le_of_ble_eq_true rfl)) ?_
   show AI _ _ _ _ _ #[true, true, true, true, true, true, true, true, true, true, true, true, true, true, true, true, true, false, false] _
   refine AI.take (i := 17) rfl rfl (by kernel_rfl) (by kernel_rfl) (by kernel_rfl) (fun _ _ h => RetPostD.free rfl h) (opS_indexAddr_arr (Ar := 0) (k := 1) (m := 2) Tryd.underlying26 (by kernel_rfl) rfl rfl rfl (by decide)) ?_
   show AI _ _ _ _ _ #[true, true, true, true, true, true, true, true, true, true, true, true, true, true, true, true, true, true, false] _
   refine AI.one (i := 18) (by kernel_rfl) rfl rfl ?_
   refine AIO.op0 (opR_store_pt (i := 1) (c := .v _) (by kernel_rfl) rfl rfl rfl rfl (Nat.le_of_ble_eq_true rfl)) ?_
   show AI _ _ _ _ _ #[true, true, true, true, true, true, true, true, true, true, true, true, true, true, true, true, true, true, true] _
   refine AI.done rfl ?_
   show AW _ _ _ _ _ _
   refine AW.region ?_
   show AR _ _ _ _ _ [0, 1] _
   refine sS rfl rfl rfl (OpS.eq (av' := i64 3) (g_add rfl rfl (by decide)) rfl) ?_
   refine sS rfl rfl rfl (mv rfl) ?_
   refine AR.nil ?_
   show AW _ _ _ _ _ _
   refine AW.seq ?_
   refine AW.region ?_
   show AR _ _ _ _ _ [0] _
   refine sS rfl rfl rfl (OpS.eq (av' := B true) (opS_lt rfl rfl) (B_congr (by decide))) ?_
   refine AR.nil ?_
   show AW _ _ _ _ _ _
   refine AW.seq ?_
   refine AW.cond rfl (fun _ => ?_) (fun hx => bool_no rfl hx)
   refine AW.skip ?_
   show AW _ _ _ _ _ _
   refine AW.seq ?_
   refine AW.block ?_
   refine AW.seq ?_
   refine AW.region ?_
   show AR _ _ _ _ _ [0, 1, 2, 3, 4] _
   refine sS rfl rfl rfl (mv rfl) ?_
   refine sS rfl rfl rfl (opS_index_sub (i := 3) (k := 4) Tryd.underlying47 Tryd.underlying46 rfl (by kernel_rfl) rfl rfl rfl rfl) ?_
   refine sX rfl rfl rfl (opX_alloc (zs := [.int .i64 0, .int .i64 0, .string ⟨#[]⟩, .int .i64 0]) (by kernel_rfl)) ?_
   rintro _ _ ⟨o59, rfl, rfl⟩
   refine sS rfl rfl rfl (asg rfl) ?_
   refine s0 rfl rfl (opR_store_agg (i := 0) (vs := [i64 x24.2.2.2.2.2.2.2.2.2.2.2.2.1, i64 x24.2.2.2.2.2.2.2.2.2.2.2.2.2.1, S x24.2.2.2.2.2.2.2.2.2.2.2.2.2.2.1, i64 x24.2.2.2.2.2.2.2.2.2.2.2.2.2.2.2.1]) (by kernel_rfl) rfl rfl (by simp [isCell, slE]) rfl (Nat.le_of_ble_eq_true rfl)) ?_
   refine AR.freezeCp 6 0 rfl rfl ?_
   show AR _ _ _ _ _ _ ⟨_, _, [.obj o14 [i64 0], .obj o13 [slE Enc.int x33 none, slE Enc.int x44 none, slE Enc.int x55 none, nilS, nilS, B (decide (x31 = ([42] : List UInt8))), B (decide (x42 = ([42] : List UInt8))), B (decide (x53 = ([42] : List UInt8))), B false, B false]]⟩
   refine AR.nil ?_
   show AW _ _ _ _ _ _
   obtain ⟨g60, H⟩ := grd_s H
   obtain ⟨x61, e62, H⟩ := lt_s H
   obtain ⟨g63, H⟩ := grd_s H
   obtain ⟨x64, e65, H⟩ := lt_s H
   rcases Or.symm (bndk_s H) with ⟨p68, e67, H⟩ | ⟨x66, e67, H⟩
   ·refine AW.region_draw (by kernel_rfl) ?_
    show AI _ _ _ _ 19 (Array.replicate 19 false) _
    refine AI.take (i := 0) rfl rfl (by kernel_rfl) (by kernel_rfl) (by kernel_rfl) (fun _ _ h => RetPostD.free rfl h) (mv rfl) ?_
    show AI _ _ _ _ _ #[true, false, false, false, false, false, false, false, false, false, false, false, false, false, false, false, false, false, false] _
    refine AI.take (i := 1) rfl rfl (by kernel_rfl) (by kernel_rfl) (by kernel_rfl) (fun _ _ h => RetPostD.free rfl h) (mv rfl) ?_
    show AI _ _ _ _ _ #[true, true, false, false, false, false, false, false, false, false, false, false, false, false, false, false, false, false, false] _
    refine AI.take (i := 2) rfl rfl (by kernel_rfl) (by kernel_rfl) (by kernel_rfl) (fun _ _ h => RetPostD.free rfl h) (opS_load_cp_agg Tryd.underlying46 rfl (n := 4) (by kernel_rfl) rfl (Nat.le_of_ble_eq_true rfl)) ?_
    show AI _ _ _ _ _ #[true, true, true, false, false, false, false, false, false, false, false, false, false, false, false, false, false, false, false] _
    refine AI.take (i := 3) rfl rfl (by kernel_rfl) (by kernel_rfl) (by kernel_rfl) (fun _ _ h => RetPostD.free rfl h) (opS_move (av := slE _ _ _) rfl) ?_
    show AI _ _ _ _ _ #[true, true, true, true, false, false, false, false, false, false, false, false, false, false, false, false, false, false, false] _
    refine AI.take (i := 4) rfl rfl (by kernel_rfl) (by kernel_rfl) (by kernel_rfl) (fun _ _ h => RetPostD.free rfl h) (mv rfl) ?_
    show AI _ _ _ _ _ #[true, true, true, true, true, false, false, false, false, false, false, false, false, false, false, false, false, false, false] _
    refine AI.take (i := 5) rfl rfl (by kernel_rfl) (by kernel_rfl) (by kernel_rfl) (fun _ _ h => RetPostD.free rfl h) (g_indexAddr (E := Enc.str) Tryd.underlying42 (by kernel_rfl) rfl rfl g60 e62) ?_
    show AI _ _ _ _ _ #[true, true, true, true, true, true, false, false, false, false, false, false, false, false, false, false, false, false, false] _
    refine AI.take (i := 6) rfl rfl (by kernel_rfl) (by kernel_rfl) (by kernel_rfl) (fun _ _ h => RetPostD.free rfl h) (opS_load_cp Tryd.underlying9 rfl rfl) ?_
    show AI _ _ _ _ _ #[true, true, true, true, true, true, true, false, false, false, false, false, false, false, false, false, false, false, false] _
    refine AI.take (i := 8) rfl rfl (by kernel_rfl) (by kernel_rfl) (by kernel_rfl) (fun _ _ h => RetPostD.free rfl h) (opS_move (av := slE _ _ _) rfl) ?_
    show AI _ _ _ _ _ #[true, true, true, true, true, true, true, false, true, false, false, false, false, false, false, false, false, false, false] _
    refine AI.take (i := 9) rfl rfl (by kernel_rfl) (by kernel_rfl) (by kernel_rfl) (fun _ _ h => RetPostD.free rfl h) (mv rfl) ?_
    show AI _ _ _ _ _ #[true, true, true, true, true, true, true, false, true, true, false, false, false, false, false, false, false, false, false] _
    refine AI.take (i := 10) rfl rfl (by kernel_rfl) (by kernel_rfl) (by kernel_rfl) (fun _ _ h => RetPostD.free rfl h) (g_indexAddr (E := Enc.str) Tryd.underlying42 (by kernel_rfl) rfl rfl g63 e65) ?_
    show AI _ _ _ _ _ #[true, true, true, true, true, true, true, false, true, true, true, false, false, false, false, false, false, false, false] _
    refine AI.take (i := 11) rfl rfl (by kernel_rfl) (by kernel_rfl) (by kernel_rfl) (fun _ _ h => RetPostD.free rfl h) (opS_load_cp Tryd.underlying9 rfl rfl) ?_
    show AI _ _ _ _ _ #[true, true, true, true, true, true, true, false, true, true, true, true, false, false, false, false, false, false, false] _
    refine AI.take (i := 12) rfl rfl (by kernel_rfl) (by kernel_rfl) (by kernel_rfl) (fun _ _ h => RetPostD.free rfl h) (opS_eqs rfl rfl) ?_
    show AI _ _ _ _ _ #[true, true, true, true, true, true, true, false, true, true, true, true, true, false, false, false, false, false, false] _
    refine AI.take (i := 13) rfl rfl (by kernel_rfl) (by kernel_rfl) (by kernel_rfl) (fun _ _ h => RetPostD.free rfl h) (opS_fieldAddr_pt (n := 0) (by kernel_rfl) rfl) ?_
    show AI _ _ _ _ _ #[true, true, true, true, true, true, true, false, true, true, true, true, true, true, false, false, false, false, false] _
    refine AI.take (i := 16) rfl rfl (by kernel_rfl) (by kernel_rfl) (by kernel_rfl) (fun _ _ h => RetPostD.free rfl h) (opS_fieldAddr_pt (n := 5) (by kernel_rfl) rfl) ?_
    show AI _ _ _ _ _ #[true, true, true, true, true, true, true, false, true, true, true, true, true, true, false, false, true, false, false] _
    refine AI.one (i := 7) (by kernel_rfl) rfl rfl ?_
    refine AIO.callPan (c := pan1 (.iface 40 (.agg #[]))) [] rfl en13_crona rfl (w_cron_part_pan F x24.2.2.2.2.2.2.2.2.2.2.2.2.1 x24.2.2.2.2.2.2.2.2.2.2.2.2.2.1 x24.2.2.2.2.2.2.2.2.2.2.2.2.2.2.1 x24.2.2.2.2.2.2.2.2.2.2.2.2.2.2.2.1 x61 p68 e67) rfl ?_
    refine Exists.intro [(2, .pt o13 0), (3, .pt o14 0)] ⟨by simp, .cons (.refl _) (.cons (.refl _) (.nil _)), ?_⟩
    show ALeaves _ _ _ _ _ [.call (.func 9) [.pt o13 0, .pt o14 0] []] _ [.obj o14 [i64 0], .obj o13 [slE Enc.int x33 none, slE Enc.int x44 none, slE Enc.int x55 none, nilS, nilS, B (decide (x31 = ([42] : List UInt8))), B (decide (x42 = ([42] : List UInt8))), B (decide (x53 = ([42] : List UInt8))), B false, B false]]
    refine ALeaves.cons1 (v := .tup []) (u1 := (.panicking [{ v := (.iface 40 (.agg #[])), recovered := true }])) (A2 := [.obj o14 [i64 2], .obj o13 [nilS, nilS, nilS, nilS, nilS, B false, B false, B false, B false, B false]]) [0, 0] (fun h => by cases h) en9_crona rfl ?_ ?_
    ·
     show ADCalls _ _ [.pt o13 0, .pt o14 0] [.obj o14 [i64 0], .obj o13 [slE Enc.int x33 none, slE Enc.int x44 none, slE Enc.int x55 none, nilS, nilS, B (decide (x31 = ([42] : List UInt8))), B (decide (x42 = ([42] : List UInt8))), B (decide (x53 = ([42] : List UInt8))), B false, B false]] _ _
     refine ADCalls.of_recover (av := .ifc 40 (.agg [])) (l := [1]) Tryd.func9 rfl rfl rfl rfl rfl Recovers.pan rfl (fun cs => ?_)
     refine ASR.op rfl rfl ((opS_assign (av := .ifc _ _) rfl).opR _) ?_
     refine ASR.nil ?_
     show AW _ _ _ _ _ _
     refine AW.seq ?_
     refine AW.region ?_
     show AR _ _ _ _ _ [0, 1] _
     refine sS rfl rfl rfl (opS_move (av := .ifc _ _) rfl) ?_
     refine sS rfl rfl rfl (opS_nil_ifc (ms := []) (.inr rfl) Tryd.underlying20 rfl rfl) ?_
     refine AR.nil ?_
     show AW _ _ _ _ _ _
     refine AW.cond rfl (fun _ => ?_) (fun hx => bool_no rfl hx)
     refine AW.seq ?_
     refine AW.seq ?_
     refine AW.region ?_
     show AR _ _ _ _ _ [0, 1, 2, 3, 4, 5, 6, 7] _
     refine sS rfl rfl rfl (opS_move (av := .ifc _ _) rfl) ?_
     refine sS rfl rfl rfl (opS_assert_same Tryd.underlying40 rfl rfl) ?_
     refine sS rfl rfl rfl (opS_move (av := .tup _) rfl) ?_
     refine sS rfl rfl rfl (opS_extract (av := .agg _) rfl rfl) ?_
     refine sS rfl rfl rfl (opS_extract (av := .v _) rfl rfl) ?_
     refine sX rfl rfl rfl (opX_alloc (zs := []) (by kernel_rfl)) ?_
     rintro _ _ ⟨o82, rfl, rfl⟩
     refine s0 rfl rfl (opR_store_agg (i := 0) (vs := []) (by kernel_rfl) rfl rfl (by simp [isCell, slE]) rfl (Nat.le_of_ble_eq_true rfl)) ?_
     refine sS rfl rfl rfl (asg rfl) ?_
     refine AR.nil ?_
     show AW _ _ _ _ _ _
     refine AW.seq ?_
     refine AW.region ?_
     show AR _ _ _ _ _ [0, 1] _
     refine sS rfl rfl rfl (mv rfl) ?_
     refine sS rfl rfl rfl (opS_not rfl) ?_
     refine AR.nil ?_
     show AW _ _ _ _ _ _
     refine AW.cond rfl (fun hx => bool_no hx rfl) (fun _ => ?_)
     refine AW.skip ?_
     show AW _ _ _ _ _ _
     refine AW.region ?_
     show AR _ _ _ _ _ [0, 1, 2] _
     refine sS rfl rfl rfl (g_build (zs := [.slice none 0 0, .slice none 0 0, .slice none 0 0, .slice none 0 0, .slice none 0 0, .bool false, .bool false, .bool false, .bool false, .bool false]) (ps := [(0, 5), (5, 5)]) (cs := [nilS, nilS, nilS, nilS, nilS, B false, B false, B false, B false, B false]) (by kernel_rfl) rfl rfl) ?_
     refine s0 rfl rfl (opR_store_agg (i := 2) (vs := [nilS, nilS, nilS, nilS, nilS, B false, B false, B false, B false, B false]) (by kernel_rfl) rfl rfl (by simp [isCell, slE]) rfl (Nat.le_of_ble_eq_true rfl)) ?_
     refine s0 rfl rfl (opR_store_pt (i := 1) (c := .v _) (by kernel_rfl) rfl rfl rfl rfl (Nat.le_of_ble_eq_true rfl)) ?_
     refine AR.nil ?_
     exact And.intro rfl (Exists.intro _ (Exists.intro _ ⟨ResV.noneW rfl, Sub.at [1, 1] rfl, rfl, rfl, rfl⟩))
    show ALeaves _ _ _ _ _ [] .returning [.obj o14 [i64 2], .obj o13 [nilS, nilS, nilS, nilS, nilS, B false, B false, B false, B false, B false]]
    obtain ⟨rfl, rfl, rfl, rfl, rfl, rfl, rfl, rfl, rfl, rfl, rfl⟩ := res11 H
    exact Exists.intro _ (Exists.intro _ ⟨ResT.place2 rfl (CellV.aggW (cs := [nilS, nilS, nilS, nilS, nilS, B false, B false, B false, B false, B false]) (CellV.agg (off := 0) (cs := [nilS, nilS, nilS, nilS, nilS, B false, B false, B false, B false, B false]) (n := 10) 1 Tryd.underlying28 rfl (by kernel_rfl) rfl rfl (Nat.le_of_ble_eq_true rfl)) (.cons (.nil _) (.cons (.nil _) (.cons (.nil _) (.cons (.nil _) (.cons (.nil _) (.cons (.refl _) (.cons (.refl _) (.cons (.refl _) (.cons (.refl _) (.cons (.refl _) (.nil)))))))))))) (CellV.one (c := .v _) 0 Tryd.underlying29 rfl rfl rfl rfl), Sub.at [] rfl, rfl, rfl⟩)
   refine AW.region_draw (by kernel_rfl) ?_
   show AI _ _ _ _ 19 (Array.replicate 19 false) _
   refine AI.take (i := 0) rfl rfl (by kernel_rfl) (by kernel_rfl) (by kernel_rfl) (fun _ _ h => RetPostD.free rfl h) (mv rfl) ?_
   show AI _ _ _ _ _ #[true, false, false, false, false, false, false, false, false, false, false, false, false, false, false, false, false, false, false] _
   refine AI.take (i := 1) rfl rfl (by kernel_rfl) (by kernel_rfl) (by kernel_rfl) (fun _ _ h => RetPostD.free rfl h) (mv rfl) ?_
   show AI _ _ _ _ _ #[true, true, false, false, false, false, false, false, false, false, false, false, false, false, false, false, false, false, false] _
   refine AI.take (i := 2) rfl rfl (by kernel_rfl) (by kernel_rfl) (by kernel_rfl) (fun _ _ h => RetPostD.free rfl h) (opS_load_cp_agg Tryd.underlying46 rfl (n := 4) (by kernel_rfl) rfl (Nat.le_of_ble_eq_true rfl)) ?_
   show AI _ _ _ _ _ #[true, true, true, false, false, false, false, false, false, false, false, false, false, false, false, false, false, false, false] _
   refine AI.take (i := 3) rfl rfl (by kernel_rfl) (by kernel_rfl) (by kernel_rfl) (fun _ _ h => RetPostD.free rfl h) (opS_move (av := slE _ _ _) rfl) ?_
   show AI _ _ _ _ _ #[true, true, true, true, false, false, false, false, false, false, false, false, false, false, false, false, false, false, false] _
   refine AI.take (i := 4) rfl rfl (by kernel_rfl) (by kernel_rfl) (by kernel_rfl) (fun _ _ h => RetPostD.free rfl h) (mv rfl) ?_
   show AI _ _ _ _ _ #[true, true, true, true, true, false, false, false, false, false, false, false, false, false, false, false, false, false, false] _
   refine AI.take (i := 5) rfl rfl (by kernel_rfl) (by kernel_rfl) (by kernel_rfl) (fun _ _ h => RetPostD.free rfl h) (g_indexAddr (E := Enc.str) Tryd.underlying42 (by kernel_rfl) rfl rfl g60 e62) ?_
   show AI _ _ _ _ _ #[true, true, true, true, true, true, false, false, false, false, false, false, false, false, false, false, false, false, false] _
   refine AI.take (i := 6) rfl rfl (by kernel_rfl) (by kernel_rfl) (by kernel_rfl) (fun _ _ h => RetPostD.free rfl h) (opS_load_cp Tryd.underlying9 rfl rfl) ?_
   show AI _ _ _ _ _ #[true, true, true, true, true, true, true, false, false, false, false, false, false, false, false, false, false, false, false] _
   refine AI.take (i := 8) rfl rfl (by kernel_rfl) (by kernel_rfl) (by kernel_rfl) (fun _ _ h => RetPostD.free rfl h) (opS_move (av := slE _ _ _) rfl) ?_
   show AI _ _ _ _ _ #[true, true, true, true, true, true, true, false, true, false, false, false, false, false, false, false, false, false, false] _
   refine AI.take (i := 9) rfl rfl (by kernel_rfl) (by kernel_rfl) (by kernel_rfl) (fun _ _ h => RetPostD.free rfl h) (mv rfl) ?_
   show AI _ _ _ _ _ #[true, true, true, true, true, true, true, false, true, true, false, false, false, false, false, false, false, false, false] _
   refine AI.take (i := 10) rfl rfl (by kernel_rfl) (by kernel_rfl) (by kernel_rfl) (fun _ _ h => RetPostD.free rfl h) (g_indexAddr (E := Enc.str) Tryd.underlying42 (by kernel_rfl) rfl rfl g63 e65) ?_
   show AI _ _ _ _ _ #[true, true, true, true, true, true, true, false, true, true, true, false, false, false, false, false, false, false, false] _
   refine AI.take (i := 11) rfl rfl (by kernel_rfl) (by kernel_rfl) (by kernel_rfl) (fun _ _ h => RetPostD.free rfl h) (opS_load_cp Tryd.underlying9 rfl rfl) ?_
   show AI _ _ _ _ _ #[true, true, true, true, true, true, true, false, true, true, true, true, false, false, false, false, false, false, false] _
   refine AI.take (i := 12) rfl rfl (by kernel_rfl) (by kernel_rfl) (by kernel_rfl) (fun _ _ h => RetPostD.free rfl h) (opS_eqs rfl rfl) ?_
   show AI _ _ _ _ _ #[true, true, true, true, true, true, true, false, true, true, true, true, true, false, false, false, false, false, false] _
   refine AI.take (i := 13) rfl rfl (by kernel_rfl) (by kernel_rfl) (by kernel_rfl) (fun _ _ h => RetPostD.free rfl h) (opS_fieldAddr_pt (n := 0) (by kernel_rfl) rfl) ?_
   show AI _ _ _ _ _ #[true, true, true, true, true, true, true, false, true, true, true, true, true, true, false, false, false, false, false] _
   refine AI.take (i := 16) rfl rfl (by kernel_rfl) (by kernel_rfl) (by kernel_rfl) (fun _ _ h => RetPostD.free rfl h) (opS_fieldAddr_pt (n := 5) (by kernel_rfl) rfl) ?_
   show AI _ _ _ _ _ #[true, true, true, true, true, true, true, false, true, true, true, true, true, true, false, false, true, false, false] _
   refine AI.one (i := 7) (by kernel_rfl) rfl rfl ?_
   refine AIO.callp rfl en13_crona rfl (w_cron_part_ok F x24.2.2.2.2.2.2.2.2.2.2.2.2.1 x24.2.2.2.2.2.2.2.2.2.2.2.2.2.1 x24.2.2.2.2.2.2.2.2.2.2.2.2.2.2.1 x24.2.2.2.2.2.2.2.2.2.2.2.2.2.2.2.1 x61 x66 e67) ?_
   show AI _ _ _ _ _ #[true, true, true, true, true, true, true, true, true, true, true, true, true, true, false, false, true, false, false] _
   refine AI.take (i := 14) rfl rfl (by kernel_rfl) (by kernel_rfl) (by kernel_rfl) (fun _ _ h => RetPostD.free rfl h) (opS_indexAddr_arr (Ar := 0) (k := 1) (m := 3) Tryd.underlying25 (by kernel_rfl) rfl rfl rfl (by decide)) ?_
   show AI _ _ _ _ _ #[true, true, true, true, true, true, true, true, true, true, true, true, true, true, true, false, true, false, false] _
   refine AI.one (i := 15) (by kernel_rfl) rfl rfl ?_
   refine AIO.op0 (opR_store_pt (i := 1) (c := slE _ _ _) (by kernel_rfl) rfl rfl rfl rfl (Nat.le_of_ble_eq_true rfl)) ?_
   show AI _ _ _ _ _ #[true, true, true, true, true, true, true, true, true, true, true, true, true, true, true, true, true, false, false] _
   refine AI.take (i := 17) rfl rfl (by kernel_rfl) (by kernel_rfl) (by kernel_rfl) (fun _ _ h => RetPostD.free rfl h) (opS_indexAddr_arr (Ar := 0) (k := 1) (m := 3) Tryd.underlying26 (by kernel_rfl) rfl rfl rfl (by decide)) ?_
   show AI _ _ _ _ _ #[true, true, true, true, true, true, true, true, true, true, true, true, true, true, true, true, true, true, false] _
   refine AI.one (i := 18) (by kernel_rfl) rfl rfl ?_
   refine AIO.op0 (opR_store_pt (i := 1) (c := .v _) (by kernel_rfl) rfl rfl rfl rfl (Nat.le_of_ble_eq_true rfl)) ?_
   show AI _ _ _ _ _ #[true, true, true, true, true, true, true, true, true, true, true, true, true, true, true, true, true, true, true] _
   refine AI.done rfl ?_
   show AW _ _ _ _ _ _
   refine AW.region ?_
   show AR _ _ _ _ _ [0, 1] _
   refine sS rfl rfl rfl (OpS.eq (av' := i64 4) (g_add rfl rfl (by decide)) rfl) ?_
   refine sS rfl rfl rfl (mv rfl) ?_
   refine AR.nil ?_
   show AW _ _ _ _ _ _
   refine AW.seq ?_
   refine AW.region ?_
   show AR _ _ _ _ _ [0] _
   refine sS rfl rfl rfl (OpS.eq (av' := B true) (opS_lt rfl rfl) (B_congr (by decide))) ?_
   refine AR.nil ?_
   show AW _ _ _ _ _ _
   refine AW.seq ?_
   refine AW.cond rfl (fun _ => ?_) (fun hx => bool_no rfl hx)
   refine AW.skip ?_
   show AW _ _ _ _ _ _
   refine AW.seq ?_
   refine AW.block ?_
   refine AW.seq ?_
   refine AW.region ?_
   show AR _ _ _ _ _ [0, 1, 2, 3, 4] _
   refine sS rfl rfl rfl (mv rfl) ?_
   refine sS rfl rfl rfl (opS_index_sub (i := 4) (k := 4) Tryd.underlying47 Tryd.underlying46 rfl (by kernel_rfl) rfl rfl rfl rfl) ?_
   refine sX rfl rfl rfl (opX_alloc (zs := [.int .i64 0, .int .i64 0, .string ⟨#[]⟩, .int .i64 0]) (by kernel_rfl)) ?_
   rintro _ _ ⟨o70, rfl, rfl⟩
   refine sS rfl rfl rfl (asg rfl) ?_
   refine s0 rfl rfl (opR_store_agg (i := 0) (vs := [i64 x24.2.2.2.2.2.2.2.2.2.2.2.2.2.2.2.2.1, i64 x24.2.2.2.2.2.2.2.2.2.2.2.2.2.2.2.2.2.1, S x24.2.2.2.2.2.2.2.2.2.2.2.2.2.2.2.2.2.2.1, i64 x24.2.2.2.2.2.2.2.2.2.2.2.2.2.2.2.2.2.2.2]) (by kernel_rfl) rfl rfl (by simp [isCell, slE]) rfl (Nat.le_of_ble_eq_true rfl)) ?_
   refine AR.freezeCp 6 0 rfl rfl ?_
   show AR _ _ _ _ _ _ ⟨_, _, [.obj o14 [i64 0], .obj o13 [slE Enc.int x33 none, slE Enc.int x44 none, slE Enc.int x55 none, slE Enc.int x66 none, nilS, B (decide (x31 = ([42] : List UInt8))), B (decide (x42 = ([42] : List UInt8))), B (decide (x53 = ([42] : List UInt8))), B (decide (x64 = ([42] : List UInt8))), B false]]⟩
   refine AR.nil ?_
   show AW _ _ _ _ _ _
   obtain ⟨g71, H⟩ := grd_s H
   obtain ⟨x72, e73, H⟩ := lt_s H
   obtain ⟨g74, H⟩ := grd_s H
   obtain ⟨x75, e76, H⟩ := lt_s H
   rcases Or.symm (bndk_s H) with ⟨p79, e78, H⟩ | ⟨x77, e78, H⟩
   ·refine AW.region_draw (by kernel_rfl) ?_
    show AI _ _ _ _ 19 (Array.replicate 19 false) _
    refine AI.take (i := 0) rfl rfl (by kernel_rfl) (by kernel_rfl) (by kernel_rfl) (fun _ _ h => RetPostD.free rfl h) (mv rfl) ?_
    show AI _ _ _ _ _ #[true, false, false, false, false, false, false, false, false, false, false, false, false, false, false, false, false, false, false] _
    refine AI.take (i := 1) rfl rfl (by kernel_rfl) (by kernel_rfl) (by kernel_rfl) (fun _ _ h => RetPostD.free rfl h) (mv rfl) ?_
    show AI _ _ _ _ _ #[true, true, false, false, false, false, false, false, false, false, false, false, false, false, false, false, false, false, false] _
    refine AI.take (i := 2) rfl rfl (by kernel_rfl) (by kernel_rfl) (by kernel_rfl) (fun _ _ h => RetPostD.free rfl h) (opS_load_cp_agg Tryd.underlying46 rfl (n := 4) (by kernel_rfl) rfl (Nat.le_of_ble_eq_true rfl)) ?_
    show AI _ _ _ _ _ #[true, true, true, false, false, false, false, false, false, false, false, false, false, false, false, false, false, false, false] _
    refine AI.take (i := 3) rfl rfl (by kernel_rfl) (by kernel_rfl) (by kernel_rfl) (fun _ _ h => RetPostD.free rfl h) (opS_move (av := slE _ _ _) rfl) ?_
    show AI _ _ _ _ _ #[true, true, true, true, false, false, false, false, false, false, false, false, false, false, false, false, false, false, false] _
    refine AI.take (i := 4) rfl rfl (by kernel_rfl) (by kernel_rfl) (by kernel_rfl) (fun _ _ h => RetPostD.free rfl h) (mv rfl) ?_
    show AI _ _ _ _ _ #[true, true, true, true, true, false, false, false, false, false, false, false, false, false, false, false, false, false, false] _
    refine AI.take (i := 5) rfl rfl (by kernel_rfl) (by kernel_rfl) (by kernel_rfl) (fun _ _ h => RetPostD.free rfl h) (g_indexAddr (E := Enc.str) Tryd.underlying42 (by kernel_rfl) rfl rfl g71 e73) ?_
    show AI _ _ _ _ _ #[true, true, true, true, true, true, false, false, false, false, false, false, false, false, false, false, false, false, false] _
    refine AI.take (i := 6) rfl rfl (by kernel_rfl) (by kernel_rfl) (by kernel_rfl) (fun _ _ h => RetPostD.free rfl h) (opS_load_cp Tryd.underlying9 rfl rfl) ?_
    show AI _ _ _ _ _ #[true, true, true, true, true, true, true, false, false, false, false, false, false, false, false, false, false, false, false] _
    refine AI.take (i := 8) rfl rfl (by kernel_rfl) (by kernel_rfl) (by kernel_rfl) (fun _ _ h => RetPostD.free rfl h) (opS_move (av := slE _ _ _) rfl) ?_
    show AI _ _ _ _ _ #[true, true, true, true, true, true, true, false, true, false, false, false, false, false, false, false, false, false, false] _
    refine AI.take (i := 9) rfl rfl (by kernel_rfl) (by kernel_rfl) (by kernel_rfl) (fun _ _ h => RetPostD.free rfl h) (mv rfl) ?_
    show AI _ _ _ _ _ #[true, true, true, true, true, true, true, false, true, true, false, false, false, false, false, false, false, false, false] _
    refine AI.take (i := 10) rfl rfl (by kernel_rfl) (by kernel_rfl) (by kernel_rfl) (fun _ _ h => RetPostD.free rfl h) (g_indexAddr (E := Enc.str) Tryd.underlying42 (by kernel_rfl) rfl rfl g74 e76) ?_
    show AI _ _ _ _ _ #[true, true, true, true, true, true, true, false, true, true, true, false, false, false, false, false, false, false, false] _
    refine AI.take (i := 11) rfl rfl (by kernel_rfl) (by kernel_rfl) (by kernel_rfl) (fun _ _ h => RetPostD.free rfl h) (opS_load_cp Tryd.underlying9 rfl rfl) ?_
    show AI _ _ _ _ _ #[true, true, true, true, true, true, true, false, true, true, true, true, false, false, false, false, false, false, false] _
    refine AI.take (i := 12) rfl rfl (by kernel_rfl) (by kernel_rfl) (by kernel_rfl) (fun _ _ h => RetPostD.free rfl h) (opS_eqs rfl rfl) ?_
    show AI _ _ _ _ _ #[true, true, true, true, true, true, true, false, true, true, true, true, true, false, false, false, false, false, false] _
    refine AI.take (i := 13) rfl rfl (by kernel_rfl) (by kernel_rfl) (by kernel_rfl) (fun _ _ h => RetPostD.free rfl h) (opS_fieldAddr_pt (n := 0) (by kernel_rfl) rfl) ?_
    show AI _ _ _ _ _ #[true, true, true, true, true, true, true, false, true, true, true, true, true, true, false, false, false, false, false] _
    refine AI.take (i := 16) rfl rfl (by kernel_rfl) (by kernel_rfl) (by kernel_rfl) (fun _ _ h => RetPostD.free rfl h) (opS_fieldAddr_pt (n := 5) (by kernel_rfl) rfl) ?_
    show AI _ _ _ _ _ #[true, true, true, true, true, true, true, false, true, true, true, true, true, true, false, false, true, false, false] _
    refine AI.one (i := 7) (by kernel_rfl) rfl rfl ?_
    refine AIO.callPan (c := pan1 (.iface 40 (.agg #[]))) [] rfl en13_crona rfl (w_cron_part_pan F x24.2.2.2.2.2.2.2.2.2.2.2.2.2.2.2.2.1 x24.2.2.2.2.2.2.2.2.2.2.2.2.2.2.2.2.2.1 x24.2.2.2.2.2.2.2.2.2.2.2.2.2.2.2.2.2.2.1 x24.2.2.2.2.2.2.2.2.2.2.2.2.2.2.2.2.2.2.2 x72 p79 e78) rfl ?_
    refine Exists.intro [(2, .pt o13 0), (3, .pt o14 0)] ⟨by simp, .cons (.refl _) (.cons (.refl _) (.nil _)), ?_⟩
    show ALeaves _ _ _ _ _ [.call (.func 9) [.pt o13 0, .pt o14 0] []] _ [.obj o14 [i64 0], .obj o13 [slE Enc.int x33 none, slE Enc.int x44 none, slE Enc.int x55 none, slE Enc.int x66 none, nilS, B (decide (x31 = ([42] : List UInt8))), B (decide (x42 = ([42] : List UInt8))), B (decide (x53 = ([42] : List UInt8))), B (decide (x64 = ([42] : List UInt8))), B false]]
    refine ALeaves.cons1 (v := .tup []) (u1 := (.panicking [{ v := (.iface 40 (.agg #[])), recovered := true }])) (A2 := [.obj o14 [i64 2], .obj o13 [nilS, nilS, nilS, nilS, nilS, B false, B false, B false, B false, B false]]) [0, 0] (fun h => by cases h) en9_crona rfl ?_ ?_
    ·
     show ADCalls _ _ [.pt o13 0, .pt o14 0] [.obj o14 [i64 0], .obj o13 [slE Enc.int x33 none, slE Enc.int x44 none, slE Enc.int x55 none, slE Enc.int x66 none, nilS, B (decide (x31 = ([42] : List UInt8))), B (decide (x42 = ([42] : List UInt8))), B (decide (x53 = ([42] : List UInt8))), B (decide (x64 = ([42] : List UInt8))), B false]] _ _
     refine ADCalls.of_recover (av := .ifc 40 (.agg [])) (l := [1]) Tryd.func9 rfl rfl rfl rfl rfl Recovers.pan rfl (fun cs => ?_)
     refine ASR.op rfl rfl ((opS_assign (av := .ifc _ _) rfl).opR _) ?_
     refine ASR.nil ?_
     show AW _ _ _ _ _ _
     refine AW.seq ?_
     refine AW.region ?_
     show AR _ _ _ _ _ [0, 1] _
     refine sS rfl rfl rfl (opS_move (av := .ifc _ _) rfl) ?_
     refine sS rfl rfl rfl (opS_nil_ifc (ms := []) (.inr rfl) Tryd.underlying20 rfl rfl) ?_
     refine AR.nil ?_
     show AW _ _ _ _ _ _
     refine AW.cond rfl (fun _ => ?_) (fun hx => bool_no rfl hx)
     refine AW.seq ?_
     refine AW.seq ?_
     refine AW.region ?_
     show AR _ _ _ _ _ [0, 1, 2, 3, 4, 5, 6, 7] _
     refine sS rfl rfl rfl (opS_move (av := .ifc _ _) rfl) ?_
     refine sS rfl rfl rfl (opS_assert_same Tryd.underlying40 rfl rfl) ?_
     refine sS rfl rfl rfl (opS_move (av := .tup _) rfl) ?_
     refine sS rfl rfl rfl (opS_extract (av := .agg _) rfl rfl) ?_
     refine sS rfl rfl rfl (opS_extract (av := .v _) rfl rfl) ?_
     refine sX rfl rfl rfl (opX_alloc (zs := []) (by kernel_rfl)) ?_
     rintro _ _ ⟨o81, rfl, rfl⟩
     refine s0 rfl rfl (opR_store_agg (i := 0) (vs := []) (by kernel_rfl) rfl rfl (by simp [isCell, slE]) rfl (Nat.le_of_ble_eq_true rfl)) ?_
     refine sS rfl rfl rfl (asg rfl) ?_
     refine AR.nil ?_
     show AW _ _ _ _ _ _
     refine AW.seq ?_
     refine AW.region ?_
     show AR _ _ _ _ _ [0, 1] _
     refine sS rfl rfl rfl (mv rfl) ?_
     refine sS rfl rfl rfl (opS_not rfl) ?_
     refine AR.nil ?_
     show AW _ _ _ _ _ _
     refine AW.cond rfl (fun hx => bool_no hx rfl) (fun _ => ?_)
     refine AW.skip ?_
     show AW _ _ _ _ _ _
     refine AW.region ?_
     show AR _ _ _ _ _ [0, 1, 2] _
     refine sS rfl rfl rfl (g_build (zs := [.slice none 0 0, .slice none 0 0, .slice none 0 0, .slice none 0 0, .slice none 0 0, .bool false, .bool false, .bool false, .bool false, .bool false]) (ps := [(0, 5), (5, 5)]) (cs := [nilS, nilS, nilS, nilS, nilS, B false, B false, B false, B false, B false]) (by kernel_rfl) rfl rfl) ?_
     refine s0 rfl rfl (opR_store_agg (i := 2) (vs := [nilS, nilS, nilS, nilS, nilS, B false, B false, B false, B false, B false]) (by kernel_rfl) rfl rfl (by simp [isCell, slE]) rfl (Nat.le_of_ble_eq_true rfl)) ?_
     refine s0 rfl rfl (opR_store_pt (i := 1) (c := .v _) (by kernel_rfl) rfl rfl rfl rfl (Nat.le_of_ble_eq_true rfl)) ?_
     refine AR.nil ?_
     exact And.intro rfl (Exists.intro _ (Exists.intro _ ⟨ResV.noneW rfl, Sub.at [1, 1] rfl, rfl, rfl, rfl⟩))
    show ALeaves _ _ _ _ _ [] .returning [.obj o14 [i64 2], .obj o13 [nilS, nilS, nilS, nilS, nilS, B false, B false, B false, B false, B false]]
    obtain ⟨rfl, rfl, rfl, rfl, rfl, rfl, rfl, rfl, rfl, rfl, rfl⟩ := res11 H
    exact Exists.intro _ (Exists.intro _ ⟨ResT.place2 rfl (CellV.aggW (cs := [nilS, nilS, nilS, nilS, nilS, B false, B false, B false, B false, B false]) (CellV.agg (off := 0) (cs := [nilS, nilS, nilS, nilS, nilS, B false, B false, B false, B false, B false]) (n := 10) 1 Tryd.underlying28 rfl (by kernel_rfl) rfl rfl (Nat.le_of_ble_eq_true rfl)) (.cons (.nil _) (.cons (.nil _) (.cons (.nil _) (.cons (.nil _) (.cons (.nil _) (.cons (.refl _) (.cons (.refl _) (.cons (.refl _) (.cons (.refl _) (.cons (.refl _) (.nil)))))))))))) (CellV.one (c := .v _) 0 Tryd.underlying29 rfl rfl rfl rfl), Sub.at [] rfl, rfl, rfl⟩)
   refine AW.region_draw (by kernel_rfl) ?_
   show AI _ _ _ _ 19 (Array.replicate 19 false) _
   refine AI.take (i := 0) rfl rfl (by kernel_rfl) (by kernel_rfl) (by kernel_rfl) (fun _ _ h => RetPostD.free rfl h) (mv rfl) ?_
   show AI _ _ _ _ _ #[true, false, false, false, false, false, false, false, false, false, false, false, false, false, false, false, false, false, false] _
   refine AI.take (i := 1) rfl rfl (by kernel_rfl) (by kernel_rfl) (by kernel_rfl) (fun _ _ h => RetPostD.free rfl h) (mv rfl) ?_
   show AI _ _ _ _ _ #[true, true, false, false, false, false, false, false, false, false, false, false, false, false, false, false, false, false, false] _
   refine AI.take (i := 2) rfl rfl (by kernel_rfl) (by kernel_rfl) (by kernel_rfl) (fun _ _ h => RetPostD.free rfl h) (opS_load_cp_agg Tryd.underlying46 rfl (n := 4) (by kernel_rfl) rfl (Nat.le_of_ble_eq_true rfl)) ?_
   show AI _ _ _ _ _ #[true, true, true, false, false, false, false, false, false, false, false, false, false, false, false, false, false, false, false] _
   refine AI.take (i := 3) rfl rfl (by kernel_rfl) (by kernel_rfl) (by kernel_rfl) (fun _ _ h => RetPostD.free rfl h) (opS_move (av := slE _ _ _) rfl) ?_
   show AI _ _ _ _ _ #[true, true, true, true, false, false, false, false, false, false, false, false, false, false, false, false, false, false, false] _
   refine AI.take (i := 4) rfl rfl (by kernel_rfl) (by kernel_rfl) (by kernel_rfl) (fun _ _ h => RetPostD.free rfl h) (mv rfl) ?_
   show AI _ _ _ _ _ #[true, true, true, true, true, false, false, false, false, false, false, false, false, false, false, false, false, false, false] _
   refine AI.take (i := 5) rfl rfl (by kernel_rfl) (by kernel_rfl) (by kernel_rfl) (fun _ _ h => RetPostD.free rfl h) (g_indexAddr (E := Enc.str) Tryd.underlying42 (by kernel_rfl) rfl rfl g71 e73) ?_
   show AI _ _ _ _ _ #[true, true, true, true, true, true, false, false, false, false, false, false, false, false, false, false, false, false, false] _
   refine AI.take (i := 6) rfl rfl (by kernel_rfl) (by kernel_rfl) (by kernel_rfl) (fun _ _ h => RetPostD.free rfl h) (opS_load_cp Tryd.underlying9 rfl rfl) ?_
   show AI _ _ _ _ _ #[true, true, true, true, true, true, true, false, false, false, false, false, false, false, false, false, false, false, false] _
   refine AI.take (i := 8) rfl rfl (by kernel_rfl) (by kernel_rfl) (by kernel_rfl) (fun _ _ h => RetPostD.free rfl h) (opS_move (av := slE _ _ _) rfl) ?_
   show AI _ _ _ _ _ #[true, true, true, true, true, true, true, false, true, false, false, false, false, false, false, false, false, false, false] _
   refine AI.take (i := 9) rfl rfl (by kernel_rfl) (by kernel_rfl) (by kernel_rfl) (fun _ _ h => RetPostD.free rfl h) (mv rfl) ?_
   show AI _ _ _ _ _ #[true, true, true, true, true, true, true, false, true, true, false, false, false, false, false, false, false, false, false] _
   refine AI.take (i := 10) rfl rfl (by kernel_rfl) (by kernel_rfl) (by kernel_rfl) (fun _ _ h => RetPostD.free rfl h) (g_indexAddr (E := Enc.str) Tryd.underlying42 (by kernel_rfl) rfl rfl g74 e76) ?_
   show AI _ _ _ _ _ #[true, true, true, true, true, true, true, false, true, true, true, false, false, false, false, false, false, false, false] _
   refine AI.take (i := 11) rfl rfl (by kernel_rfl) (by kernel_rfl) (by kernel_rfl) (fun _ _ h => RetPostD.free rfl h) (opS_load_cp Tryd.underlying9 rfl rfl) ?_
   show AI _ _ _ _ _ #[true, true, true, true, true, true, true, false, true, true, true, true, false, false, false, false, false, false, false] _
   refine AI.take (i := 12) rfl rfl (by kernel_rfl) (by kernel_rfl) (by kernel_rfl) (fun _ _ h => RetPostD.free rfl h) (opS_eqs rfl rfl) ?_
   show AI _ _ _ _ _ #[true, true, true, true, true, true, true, false, true, true, true, true, true, false, false, false, false, false, false] _
   refine AI.take (i := 13) rfl rfl (by kernel_rfl) (by kernel_rfl) (by kernel_rfl) (fun _ _ h => RetPostD.free rfl h) (opS_fieldAddr_pt (n := 0) (by kernel_rfl) rfl) ?_
   show AI _ _ _ _ _ #[true, true, true, true, true, true, true, false, true, true, true, true, true, true, false, false, false, false, false] _
   refine AI.take (i := 16) rfl rfl (by kernel_rfl) (by kernel_rfl) (by kernel_rfl) (fun _ _ h => RetPostD.free rfl h) (opS_fieldAddr_pt (n := 5) (by kernel_rfl) rfl) ?_
   show AI _ _ _ _ _ #[true, true, true, true, true, true, true, false, true, true, true, true, true, true, false, false, true, false, false] _
   refine AI.one (i := 7) (by kernel_rfl) rfl rfl ?_
   refine AIO.callp rfl en13_crona rfl (w_cron_part_ok F x24.2.2.2.2.2.2.2.2.2.2.2.2.2.2.2.2.1 x24.2.2.2.2.2.2.2.2.2.2.2.2.2.2.2.2.2.1 x24.2.2.2.2.2.2.2.2.2.2.2.2.2.2.2.2.2.2.1 x24.2.2.2.2.2.2.2.2.2.2.2.2.2.2.2.2.2.2.2 x72 x77 e78) ?_
   show AI _ _ _ _ _ #[true, true, true, true, true, true, true, true, true, true, true, true, true, true, false, false, true, false, false] _
   refine AI.take (i := 14) rfl rfl (by kernel_rfl) (by kernel_rfl) (by kernel_rfl) (fun _ _ h => RetPostD.free rfl h) (opS_indexAddr_arr (Ar := 0) (k := 1) (m := 4) Tryd.underlying25 (by kernel_rfl) rfl rfl rfl (by decide)) ?_
   show AI _ _ _ _ _ #[true, true, true, true, true, true, true, true, true, true, true, true, true, true, true, false, true, false, false] _
   refine AI.one (i := 15) (by kernel_rfl) rfl rfl ?_
   refine AIO.op0 (opR_store_pt (i := 1) (c := slE _ _ _) (by kernel_rfl) rfl rfl rfl rfl (Nat.le_of_ble_eq_true rfl)) ?_
   show AI _ _ _ _ _ #[true, true, true, true, true, true, true, true, true, true, true, true, true, true, true, true, true, false, false] _
   refine AI.take (i := 17) rfl rfl (by kernel_rfl) (by kernel_rfl) (by kernel_rfl) (fun _ _ h => RetPostD.free rfl h) (opS_indexAddr_arr (Ar := 0) (k := 1) (m := 4) Tryd.underlying26 (by kernel_rfl) rfl rfl rfl (by decide)) ?_
   show AI _ _ _ _ _ #[true, true, true, true, true, true, true, true, true, true, true, true, true, true, true, true, true, true, false] _
   refine AI.one (i := 18) (by kernel_rfl) rfl rfl ?_
   refine AIO.op0 (opR_store_pt (i := 1) (c := .v _) (by kernel_rfl) rfl rfl rfl rfl (Nat.le_of_ble_eq_true rfl)) ?_
   show AI _ _ _ _ _ #[true, true, true, true, true, true, true, true, true, true, true, true, true, true, true, true, true, true, true] _
   refine AI.done rfl ?_
   show AW _ _ _ _ _ _
   refine AW.region ?_
   show AR _ _ _ _ _ [0, 1] _
   refine sS rfl rfl rfl (OpS.eq (av' := i64 5) (g_add rfl rfl (by decide)) rfl) ?_
   refine sS rfl rfl rfl (mv rfl) ?_
   refine AR.nil ?_
   show AW _ _ _ _ _ _
   refine AW.seq ?_
   refine AW.region ?_
   show AR _ _ _ _ _ [0] _
   refine sS rfl rfl rfl (OpS.eq (av' := B false) (opS_lt rfl rfl) (B_congr (by decide))) ?_
   refine AR.nil ?_
   show AW _ _ _ _ _ _
   refine AW.seq ?_
   refine AW.cond rfl (fun hx => bool_no hx rfl) (fun _ => ?_)
   refine AW.exit ?_
   exact Exists.intro (x33, x44, x55, x66, x77, decide (x31 = ([42] : List UInt8)), decide (x42 = ([42] : List UInt8)), decide (x53 = ([42] : List UInt8)), decide (x64 = ([42] : List UInt8)), decide (x75 = ([42] : List UInt8))) ⟨H, WK.at [0, 0] (.cons (.refl _) (.cons (.refl _) (.nil _))) rfl⟩
  rintro ⟨y86, y87, y88, y89, y90, y91, y92, y93, y94, y95⟩ H
  replace H : cron_Parse_j1 y86 y87 y88 y89 y90 y91 y92 y93 y94 y95 = some (r2, r3, r4, r5, r6, r7, r8, r9, r10, r11, r12) := H
  unfold cron_Parse_j1 at H
  show AW _ _ _ _ _ _
  refine AW.seq ?_
  refine AW.region ?_
  show AR _ _ _ _ _ [0, 1, 2] _
  refine sR rfl rfl rfl (opR_load_agg (i := 1) (n := 10) Tryd.underlying28 rfl (by kernel_rfl) rfl rfl (Nat.le_of_ble_eq_true rfl)) ?_
  refine s0 rfl rfl (opR_store_agg (i := 1) (vs := [slE Enc.int y86 none, slE Enc.int y87 none, slE Enc.int y88 none, slE Enc.int y89 none, slE Enc.int y90 none, B y91, B y92, B y93, B y94, B y95]) (by kernel_rfl) rfl rfl (by simp [isCell, slE]) rfl (Nat.le_of_ble_eq_true rfl)) ?_
  refine s0 rfl rfl (opR_store_pt (i := 0) (c := .v _) (by kernel_rfl) rfl rfl rfl rfl (Nat.le_of_ble_eq_true rfl)) ?_
  refine AR.nil ?_
  show AW _ _ _ _ _ _
  refine AW.ret ?_
  show ALeaves _ _ _ _ _ [.call (.func 9) [.pt o13 0, .pt o14 0] []] _ [.obj o14 [i64 0], .obj o13 [slE Enc.int y86 none, slE Enc.int y87 none, slE Enc.int y88 none, slE Enc.int y89 none, slE Enc.int y90 none, B y91, B y92, B y93, B y94, B y95]]
  refine ALeaves.cons1 (v := .tup []) (u1 := .returning) (A2 := [.obj o14 [i64 0], .obj o13 [slE Enc.int y86 none, slE Enc.int y87 none, slE Enc.int y88 none, slE Enc.int y89 none, slE Enc.int y90 none, B y91, B y92, B y93, B y94, B y95]]) [0, 0] (fun h => by cases h) en9_crona rfl ?_ ?_
  ·
   show ADCalls _ _ [.pt o13 0, .pt o14 0] [.obj o14 [i64 0], .obj o13 [slE Enc.int y86 none, slE Enc.int y87 none, slE Enc.int y88 none, slE Enc.int y89 none, slE Enc.int y90 none, B y91, B y92, B y93, B y94, B y95]] _ _
   refine ADCalls.of_recover (av := .v .nilIface) (l := [1]) Tryd.func9 rfl rfl rfl rfl rfl Recovers.ret rfl (fun cs => ?_)
   refine ASR.op rfl rfl ((asg rfl).opR _) ?_
   refine ASR.nil ?_
   show AW _ _ _ _ _ _
   refine AW.seq ?_
   refine AW.region ?_
   show AR _ _ _ _ _ [0, 1] _
   refine sS rfl rfl rfl (mv rfl) ?_
   refine sS rfl rfl rfl (g_ne_nil_c (n := 0) (t := 0) (k := .i64) Tryd.underlying20 rfl rfl) ?_
   refine AR.nil ?_
   show AW _ _ _ _ _ _
   refine AW.cond rfl (fun hx => bool_no hx rfl) (fun _ => ?_)
   refine AW.skip ?_
   exact And.intro rfl (Exists.intro _ (Exists.intro _ ⟨ResV.noneW rfl, Sub.at [0, 0] rfl, rfl, rfl, rfl⟩))
  show ALeaves _ _ _ _ _ [] .returning [.obj o14 [i64 0], .obj o13 [slE Enc.int y86 none, slE Enc.int y87 none, slE Enc.int y88 none, slE Enc.int y89 none, slE Enc.int y90 none, B y91, B y92, B y93, B y94, B y95]]
  obtain ⟨rfl, rfl, rfl, rfl, rfl, rfl, rfl, rfl, rfl, rfl, rfl⟩ := res11 H
  exact Exists.intro _ (Exists.intro _ ⟨ResT.place2 rfl (CellV.agg (off := 0) (cs := [slE Enc.int y86 none, slE Enc.int y87 none, slE Enc.int y88 none, slE Enc.int y89 none, slE Enc.int y90 none, B y91, B y92, B y93, B y94, B y95]) (n := 10) 1 Tryd.underlying28 rfl (by kernel_rfl) rfl rfl (Nat.le_of_ble_eq_true rfl)) (CellV.one (c := .v _) 0 Tryd.underlying29 rfl rfl rfl rfl), Sub.at [] rfl, rfl, rfl⟩)
end Go.Proofs.YtpbfajkbkomfcaaDoor
