/-
  Days: what is run is what the plain functions say. Printed by a program of ours.
-/
import Derived.Test.YtpbfajkbkomfcaaDoorAvE
import Derived.Test.YtpbfajkbkomfcaaDoorPvLib
import Derived.Test.YtpbfajkbkomfcaaDoorP11Split
import Derived.Test.YtpbfajkbkomfcaaDoorAvStill
import Derived.Test.YtpbfajkbkomfcaaDoorChecked
import Derived.Test.YtpbfajkbkomfcaaDoorCivP
set_option linter.unusedVariables false
set_option linter.unusedSimpArgs false
namespace Go.Proofs.YtpbfajkbkomfcaaDoor
open Go.RowKit Go.Av Go.Pv
theorem en19_civ : ∀ (args : Array Value) (w : World), (callFunc 19 args).run Tryd.prog w = .ok (.enter 19 args) w := fun _ _ => by kernel_rfl
theorem en28_civ : ∀ (args : Array Value) (w : World), (callFunc 28 args).run Tryd.prog w = .ok (.enter 28 args) w := fun _ _ => by kernel_rfl
theorem en30_civ : ∀ (args : Array Value) (w : World), (callFunc 30 args).run Tryd.prog w = .ok (.enter 30 args) w := fun _ _ => by kernel_rfl
theorem en31_civ : ∀ (args : Array Value) (w : World), (callFunc 31 args).run Tryd.prog w = .ok (.enter 31 args) w := fun _ _ => by kernel_rfl
theorem en42_civ : ∀ (args : Array Value) (w : World), (callFunc 42 args).run Tryd.prog w = .ok (.enter 42 args) w := fun _ _ => by kernel_rfl
theorem en57_civ : ∀ (args : Array Value) (w : World), (callFunc 57 args).run Tryd.prog w = .ok (.enter 57 args) w := fun _ _ => by kernel_rfl
theorem en58_civ : ∀ (args : Array Value) (w : World), (callFunc 58 args).run Tryd.prog w = .ok (.enter 58 args) w := fun _ _ => by kernel_rfl
set_option maxRecDepth 100000 in
set_option maxHeartbeats 1000000 in
theorem w_civil_Leap (F : Nat) (a1 : Int) (r2 : Bool) (H : civil_Leap F a1 = some r2) : ACalls Tryd.prog 58 [i64 a1] [] (Ret (B r2) []) := by
 unfold civil_Leap at H
 refine ACalls.of_body Tryd.func58 rfl rfl ?_
 show AW _ _ 16 _ _ _
 refine AW.seq ?_
 refine AW.region ?_
 show AR _ _ _ _ _ [0] _
 refine sS rfl rfl rfl (asg rfl) ?_
 refine AR.nil ?_
 show AW _ _ _ _ _ _
 refine AW.seq ?_
 obtain ⟨g3, H⟩ := grd_s H
 obtain ⟨g5, H⟩ := grdc_s H
 obtain ⟨g7, H⟩ := grdc_s H
 refine AW.region ?_
 show AR _ _ _ _ _ [0, 1, 2, 3, 4, 5, 6, 7, 8, 9, 10, 11, 12, 13] _
 refine sS rfl rfl rfl (mv rfl) ?_
 refine sS rfl rfl rfl (g_rem rfl rfl g3) ?_
 refine sS rfl rfl rfl (opS_eqi rfl rfl) ?_
 refine sS rfl rfl rfl (mv rfl) ?_
 refine AR.meet (l := [13]) 15 (B ((decide (a1 % 4 = 0)) && ((!decide (a1 % 100 = 0)) || (decide (a1 % 400 = 0))))) (fun K => ?_) ?_
 ·rcases Bool.eq_false_or_eq_true (decide (a1 % 4 = 0)) with h4 | h4
  ·
   refine gT h4 rfl rfl rfl rfl rfl rfl (AO.ops rfl rfl (mv rfl) ?_)
   refine gT h4 rfl rfl rfl rfl rfl rfl (AO.ops rfl rfl (g_rem rfl rfl (g5 h4)) ?_)
   refine gT h4 rfl rfl rfl rfl rfl rfl (AO.ops rfl rfl (opS_nei rfl rfl) ?_)
   refine gT h4 rfl rfl rfl rfl rfl rfl (AO.ops rfl rfl (mv rfl) ?_)
   refine AR.meet (l := [12, 13]) 14 (B ((!decide (a1 % 100 = 0)) || (decide (a1 % 400 = 0)))) (fun K => ?_) ?_
   ·rcases Bool.eq_false_or_eq_true (!decide (a1 % 100 = 0)) with h6 | h6
    ·
     refine gF h6 rfl rfl rfl rfl rfl ?_
     refine gF h6 rfl rfl rfl rfl rfl ?_
     refine gF h6 rfl rfl rfl rfl rfl ?_
     refine gT h4 rfl rfl rfl rfl rfl rfl (AO.ops rfl rfl (opS_pick_t (av := .v _) rfl h6 rfl) ?_)
     exact K _ 3 _ (B_congr (or_t h6)) rfl rfl
    ·
     refine gT h6 rfl rfl rfl rfl rfl rfl (AO.ops rfl rfl (mv rfl) ?_)
     refine gT h6 rfl rfl rfl rfl rfl rfl (AO.ops rfl rfl (g_rem rfl rfl (g7 (and_tt h4 (nf h6)))) ?_)
     refine gT h6 rfl rfl rfl rfl rfl rfl (AO.ops rfl rfl (opS_eqi rfl rfl) ?_)
     refine gT h4 rfl rfl rfl rfl rfl rfl (AO.ops rfl rfl (opS_pick_f (av := .v _) rfl h6 rfl) ?_)
     exact K _ 3 _ (B_congr (or_f h6)) rfl rfl
   refine sS rfl rfl rfl (opS_pick_t (av := .v _) rfl h4 rfl) ?_
   exact K _ 5 _ (B_congr (and_t h4)) rfl rfl
  ·
   refine gF h4 rfl rfl rfl rfl rfl ?_
   refine gF h4 rfl rfl rfl rfl rfl ?_
   refine gF h4 rfl rfl rfl rfl rfl ?_
   refine gF h4 rfl rfl rfl rfl rfl ?_
   refine gU rfl rfl rfl rfl rfl ?_
   refine gU rfl rfl rfl rfl rfl ?_
   refine gU rfl rfl rfl rfl rfl ?_
   refine gF h4 rfl rfl rfl rfl rfl ?_
   refine sS rfl rfl rfl (opS_pick_f (av := .v _) rfl h4 rfl) ?_
   exact K _ 8 _ (B_congr (and_f h4)) rfl rfl
 refine sS rfl rfl rfl (asg rfl) ?_
 refine AR.nil ?_
 show AW _ _ _ _ _ _
 refine AW.ret ?_
 obtain rfl := Option.some.inj H
 exact And.intro rfl (Exists.intro _ (Exists.intro _ ⟨ResV.oneW rfl (.refl _), Sub.at [] rfl, rfl, rfl⟩))
set_option maxRecDepth 100000 in
set_option maxHeartbeats 1000000 in
theorem w_civil_feb (F : Nat) (o1 : Nat) (a2 : Int) (o3 : Nat) (a4 : Int) (a5 : Int) (a6 : Int) (a7 : Int) (a8 : Int) (a9 : Int) (a10 : Int) (a11 : Int) (a12 : Int) (a13 : Int) (a14 : Int) (a15 : Int) (a16 : Int) (r17 : Int) (H : civil_feb F a2 a4 a5 a6 a7 a8 a9 a10 a11 a12 a13 a14 a15 a16 = some r17) : ACalls Tryd.prog 57 [.pt o1 0, .pt o3 0] [.obj o1 [i64 a2], .obj o3 [i64 a4, i64 a5, i64 a6, i64 a7, i64 a8, i64 a9, i64 a10, i64 a11, i64 a12, i64 a13, i64 a14, i64 a15, i64 a16]] (fun e A' => e = .ret (.tup []) ∧ A' = [.obj o1 [i64 a2], .obj o3 [i64 a4, i64 a5, i64 r17, i64 a7, i64 a8, i64 a9, i64 a10, i64 a11, i64 a12, i64 a13, i64 a14, i64 a15, i64 a16]]) := by
 unfold civil_feb at H
 refine ACalls.of_body Tryd.func57 rfl rfl ?_
 show AW _ _ 8 _ _ _
 refine AW.seq ?_
 obtain ⟨x18, e19, H⟩ := bnd_s H
 refine AW.region ?_
 show AR _ _ _ _ _ [0, 1] _
 refine sR rfl rfl rfl (opR_load_pt (i := 0) Tryd.underlying3 rfl rfl rfl rfl) ?_
 refine AR.run rfl rfl (AO.callp rfl en58_civ rfl (w_civil_Leap F a2 x18 e19) ?_)
 refine AR.nil ?_
 show AW _ _ _ _ _ _
 refine AW.cond rfl (fun c20 => ?_) (fun c20 => ?_)
 ·replace H := cnd_t c20 H
  obtain ⟨g21, H⟩ := grd_s H
  refine AW.region ?_
  show AR _ _ _ _ _ [0, 1, 2, 3, 4] _
  refine sS rfl rfl rfl (opS_indexAddr_arr (Ar := 0) (k := 1) (m := 2) Tryd.underlying85 (by kernel_rfl) rfl rfl rfl (by decide)) ?_
  refine sR rfl rfl rfl (opR_load_pt (i := 1) Tryd.underlying3 rfl rfl rfl rfl) ?_
  refine sS rfl rfl rfl (g_add rfl rfl g21) ?_
  refine sS rfl rfl rfl (opS_indexAddr_arr (Ar := 0) (k := 1) (m := 2) Tryd.underlying85 (by kernel_rfl) rfl rfl rfl (by decide)) ?_
  refine s0 rfl rfl (opR_store_pt (i := 1) (c := .v _) (by kernel_rfl) rfl rfl rfl rfl (Nat.le_of_ble_eq_true rfl)) ?_
  refine AR.nil ?_
  obtain rfl := Option.some.inj H
  exact And.intro rfl (Exists.intro _ (Exists.intro _ ⟨ResV.noneW rfl, Sub.at [0, 0] rfl, rfl, rfl⟩))
 ·replace H := cnd_f c20 H
  refine AW.skip ?_
  obtain rfl := Option.some.inj H
  exact And.intro rfl (Exists.intro _ (Exists.intro _ ⟨ResV.noneW rfl, Sub.at [0, 0] rfl, rfl, rfl⟩))
set_option maxRecDepth 100000 in
set_option maxHeartbeats 1000000 in
theorem w_civil_lengths (F : Nat) (a1 : Int) (r2 : Int) (r3 : Int) (r4 : Int) (r5 : Int) (r6 : Int) (r7 : Int) (r8 : Int) (r9 : Int) (r10 : Int) (r11 : Int) (r12 : Int) (r13 : Int) (r14 : Int) (H : civil_lengths F a1 = some (r2, r3, r4, r5, r6, r7, r8, r9, r10, r11, r12, r13, r14)) : ACalls Tryd.prog 42 [i64 a1] [] (Ret (.agg [i64 r2, i64 r3, i64 r4, i64 r5, i64 r6, i64 r7, i64 r8, i64 r9, i64 r10, i64 r11, i64 r12, i64 r13, i64 r14]) []) := by
 unfold civil_lengths at H
 refine ACalls.of_body Tryd.func42 rfl rfl ?_
 show AW _ _ 10 _ _ _
 refine AW.seq ?_
 refine AW.region ?_
 show AR _ _ _ _ _ [0, 1] _
 refine sX rfl rfl rfl (opX_box rfl (.inl rfl)) ?_
 rintro _ _ ⟨o15, rfl, rfl⟩
 refine sX rfl rfl rfl (opX_alloc (zs := [.int .i64 0, .int .i64 0, .int .i64 0, .int .i64 0, .int .i64 0, .int .i64 0, .int .i64 0, .int .i64 0, .int .i64 0, .int .i64 0, .int .i64 0, .int .i64 0, .int .i64 0]) (by kernel_rfl)) ?_
 rintro _ _ ⟨o16, rfl, rfl⟩
 refine AR.nil ?_
 show AW _ _ _ _ _ _
 refine AW.seq ?_
 refine AW.region ?_
 show AR _ _ _ _ _ [0, 1, 2] _
 refine sS rfl rfl rfl (g_buildArr (zs := [.int .i64 0, .int .i64 0, .int .i64 0, .int .i64 0, .int .i64 0, .int .i64 0, .int .i64 0, .int .i64 0, .int .i64 0, .int .i64 0, .int .i64 0, .int .i64 0, .int .i64 0]) (k := 1) (cs := [i64 0, i64 31, i64 28, i64 31, i64 30, i64 31, i64 30, i64 31, i64 31, i64 30, i64 31, i64 30, i64 31]) Tryd.underlying85 (by kernel_rfl) (by kernel_rfl) rfl rfl (by kernel_rfl)) ?_
 refine sX rfl rfl rfl (opX_alloc (zs := [.int .i64 0, .int .i64 0, .int .i64 0, .int .i64 0, .int .i64 0, .int .i64 0, .int .i64 0, .int .i64 0, .int .i64 0, .int .i64 0, .int .i64 0, .int .i64 0, .int .i64 0]) (by kernel_rfl)) ?_
 rintro _ _ ⟨o17, rfl, rfl⟩
 refine s0 rfl rfl (opR_store_agg (i := 0) (vs := [i64 0, i64 31, i64 28, i64 31, i64 30, i64 31, i64 30, i64 31, i64 31, i64 30, i64 31, i64 30, i64 31]) (by kernel_rfl) rfl rfl (by simp [isCell, slE]) rfl (Nat.le_of_ble_eq_true rfl)) ?_
 refine AR.nil ?_
 show AW _ _ _ _ _ _
 refine AW.seq ?_
 refine AW.region ?_
 show AR _ _ _ _ _ [0, 1] _
 refine sS rfl rfl rfl (opS_makeFunc rfl rfl) ?_
 refine sS rfl rfl rfl (opS_assign (av := .fn _ _ _) rfl) ?_
 refine AR.nil ?_
 show AW _ _ _ _ _ _
 refine AW.seq ?_
 obtain ⟨x18, e19, H⟩ := bnd_s H
 refine AW.region ?_
 show AR _ _ _ _ _ [0, 1] _
 refine sS rfl rfl rfl (opS_move (av := .fn _ _ _) rfl) ?_
 refine AR.run rfl rfl (AO.callFAt [2, 0] rfl rfl en57_civ rfl (w_civil_feb F o15 a1 o17 0 31 28 31 30 31 30 31 31 30 31 30 31 x18 e19) rfl (fun c A' h => by cases h.1) ?_)
 rintro av A' ⟨h, rfl⟩; cases h
 refine AR.nil ?_
 show AW _ _ _ _ _ _
 refine AW.seq ?_
 refine AW.region ?_
 show AR _ _ _ _ _ [0, 1] _
 refine sR rfl rfl rfl (opR_load_agg (i := 1) (n := 13) Tryd.underlying85 rfl (by kernel_rfl) rfl rfl (Nat.le_of_ble_eq_true rfl)) ?_
 refine s0 rfl rfl (opR_store_agg (i := 2) (vs := [i64 0, i64 31, i64 x18, i64 31, i64 30, i64 31, i64 30, i64 31, i64 31, i64 30, i64 31, i64 30, i64 31]) (by kernel_rfl) rfl rfl (by simp [isCell, slE]) rfl (Nat.le_of_ble_eq_true rfl)) ?_
 refine AR.nil ?_
 show AW _ _ _ _ _ _
 refine AW.ret ?_
 obtain ⟨rfl, rfl, rfl, rfl, rfl, rfl, rfl, rfl, rfl, rfl, rfl, rfl, rfl⟩ := res13 H
 exact And.intro rfl (Exists.intro _ (Exists.intro _ ⟨ResT.resV (ResT.place1 rfl (CellV.agg (off := 0) (cs := [i64 0, i64 31, i64 x18, i64 31, i64 30, i64 31, i64 30, i64 31, i64 31, i64 30, i64 31, i64 30, i64 31]) (n := 13) 2 Tryd.underlying85 rfl (by kernel_rfl) rfl rfl (Nat.le_of_ble_eq_true rfl))), Sub.at [] rfl, rfl, rfl⟩))
set_option maxRecDepth 100000 in
set_option maxHeartbeats 1000000 in
theorem w_civil_Days (F : Nat) (a1 : Int) (a2 : Int) (r3 : Int) (H : civil_Days F a1 a2 = some r3) : ACalls Tryd.prog 30 [i64 a1, i64 a2] [] (Ret (i64 r3) []) := by
 unfold civil_Days at H
 refine ACalls.of_body Tryd.func30 rfl rfl ?_
 show AW _ _ 15 _ _ _
 refine AW.seq ?_
 refine AW.region ?_
 show AR _ _ _ _ _ [0] _
 refine sS rfl rfl rfl (asg rfl) ?_
 refine AR.nil ?_
 show AW _ _ _ _ _ _
 refine AW.seq ?_
 refine AW.seq ?_
 refine AW.region ?_
 show AR _ _ _ _ _ [0, 1, 2, 3, 4, 5] _
 refine sS rfl rfl rfl (mv rfl) ?_
 refine sS rfl rfl rfl (opS_lt rfl rfl) ?_
 refine sS rfl rfl rfl (mv rfl) ?_
 refine AR.meet (l := []) 10 (B ((decide (a2 < 1)) || (decide (12 < a2)))) (fun K => ?_) ?_
 ·rcases Bool.eq_false_or_eq_true (decide (a2 < 1)) with h4 | h4
  ·
   refine gF h4 rfl rfl rfl rfl rfl ?_
   refine gF h4 rfl rfl rfl rfl rfl ?_
   refine sS rfl rfl rfl (opS_pick_t (av := .v _) rfl h4 rfl) ?_
   exact K _ 2 _ (B_congr (or_t h4)) rfl rfl
  ·
   refine gT h4 rfl rfl rfl rfl rfl rfl (AO.ops rfl rfl (mv rfl) ?_)
   refine gT h4 rfl rfl rfl rfl rfl rfl (AO.ops rfl rfl (opS_gt rfl rfl) ?_)
   refine sS rfl rfl rfl (opS_pick_f (av := .v _) rfl h4 rfl) ?_
   exact K _ 2 _ (B_congr (or_f h4)) rfl rfl
 refine AR.nil ?_
 show AW _ _ _ _ _ _
 refine AW.cond rfl (fun c5 => ?_) (fun c5 => ?_)
 ·replace H := cnd_t c5 H
  refine AW.seq ?_
  refine AW.region ?_
  show AR _ _ _ _ _ [0] _
  refine sS rfl rfl rfl (asg rfl) ?_
  refine AR.nil ?_
  show AW _ _ _ _ _ _
  refine AW.ret ?_
  obtain rfl := Option.some.inj H
  exact And.intro rfl (Exists.intro _ (Exists.intro _ ⟨ResV.oneW rfl (.refl _), Sub.at [] rfl, rfl, rfl⟩))
 ·replace H := cnd_f c5 H
  refine AW.skip ?_
  show AW _ _ _ _ _ _
  refine AW.seq ?_
  obtain ⟨x6, e7, H⟩ := bnd_s H
  obtain ⟨g8, H⟩ := grd_s H
  obtain ⟨x9, e10, H⟩ := lt_s H
  refine AW.region ?_
  show AR _ _ _ _ _ [0, 1, 2, 3, 4] _
  refine sS rfl rfl rfl (mv rfl) ?_
  refine AR.run rfl rfl (AO.callp rfl en42_civ rfl (w_civil_lengths F a1 x6.1 x6.2.1 x6.2.2.1 x6.2.2.2.1 x6.2.2.2.2.1 x6.2.2.2.2.2.1 x6.2.2.2.2.2.2.1 x6.2.2.2.2.2.2.2.1 x6.2.2.2.2.2.2.2.2.1 x6.2.2.2.2.2.2.2.2.2.1 x6.2.2.2.2.2.2.2.2.2.2.1 x6.2.2.2.2.2.2.2.2.2.2.2.1 x6.2.2.2.2.2.2.2.2.2.2.2.2 e7) ?_)
  refine sS rfl rfl rfl (mv rfl) ?_
  refine sS rfl rfl rfl (opS_index_enc (E := Enc.int) (l := ([x6.1, x6.2.1, x6.2.2.1, x6.2.2.2.1, x6.2.2.2.2.1, x6.2.2.2.2.2.1, x6.2.2.2.2.2.2.1, x6.2.2.2.2.2.2.2.1, x6.2.2.2.2.2.2.2.2.1, x6.2.2.2.2.2.2.2.2.2.1, x6.2.2.2.2.2.2.2.2.2.2.1, x6.2.2.2.2.2.2.2.2.2.2.2.1, x6.2.2.2.2.2.2.2.2.2.2.2.2] : List Int)) rfl Tryd.underlying85 Tryd.underlying3 rfl (by kernel_rfl) rfl rfl rfl g8 e10 rfl) ?_
  refine sS rfl rfl rfl (asg rfl) ?_
  refine AR.nil ?_
  show AW _ _ _ _ _ _
  refine AW.ret ?_
  obtain rfl := Option.some.inj H
  exact And.intro rfl (Exists.intro _ (Exists.intro _ ⟨ResV.oneW rfl (.refl _), Sub.at [] rfl, rfl, rfl⟩))
set_option maxRecDepth 100000 in
set_option maxHeartbeats 1000000 in
theorem w_civil_number (F : Nat) (a1 : Int) (a2 : Int) (a3 : Int) (r4 : Int) (H : civil_number F a1 a2 a3 = some r4) : ACalls Tryd.prog 31 [i64 a1, i64 a2, i64 a3] [] (Ret (i64 r4) []) := by
 unfold civil_number at H
 refine ACalls.of_body Tryd.func31 rfl rfl ?_
 show AW _ _ 38 _ _ _
 refine AW.seq ?_
 refine AW.region ?_
 show AR _ _ _ _ _ [0] _
 refine sS rfl rfl rfl (asg rfl) ?_
 refine AR.nil ?_
 show AW _ _ _ _ _ _
 refine AW.cut (X := Int × Int) (fun (y8, y9) => ⟨[(0, i64 y8), (1, i64 y9), (2, i64 a3)], [], []⟩) (fun (y8, y9) => civil_number_j1 a3 y8 y9 = some r4) ?_ ?_
 ·
  refine AW.seq ?_
  refine AW.region ?_
  show AR _ _ _ _ _ [0, 1] _
  refine sS rfl rfl rfl (mv rfl) ?_
  refine sS rfl rfl rfl (opS_le rfl rfl) ?_
  refine AR.nil ?_
  show AW _ _ _ _ _ _
  refine AW.cond rfl (fun c5 => ?_) (fun c5 => ?_)
  ·replace H := cnd_t c5 H
   refine AW.seq ?_
   obtain ⟨g6, H⟩ := grd_s H
   refine AW.region ?_
   show AR _ _ _ _ _ [0, 1, 2] _
   refine sS rfl rfl rfl (mv rfl) ?_
   refine sS rfl rfl rfl (g_sub rfl rfl g6) ?_
   refine sS rfl rfl rfl (asg rfl) ?_
   refine AR.nil ?_
   show AW _ _ _ _ _ _
   obtain ⟨g7, H⟩ := grd_s H
   refine AW.region ?_
   show AR _ _ _ _ _ [0, 1, 2] _
   refine sS rfl rfl rfl (mv rfl) ?_
   refine sS rfl rfl rfl (g_add rfl rfl g7) ?_
   refine sS rfl rfl rfl (asg rfl) ?_
   refine AR.nil ?_
   exact Exists.intro (a1 - 1, a2 + 12) ⟨H, WK.at [] (.cons (.refl _) (.cons (.refl _) (.cons (.refl _) (.nil _)))) rfl⟩
  ·replace H := cnd_f c5 H
   refine AW.skip ?_
   exact Exists.intro (a1, a2) ⟨H, WK.at [] (.cons (.refl _) (.cons (.refl _) (.cons (.refl _) (.nil _)))) rfl⟩
 rintro ⟨y8, y9⟩ H
 replace H : civil_number_j1 a3 y8 y9 = some r4 := H
 unfold civil_number_j1 at H
 show AW _ _ _ _ _ _
 refine AW.seq ?_
 obtain ⟨g11, H⟩ := grd_s H
 obtain ⟨g12, H⟩ := grd_s H
 obtain ⟨g13, H⟩ := grd_s H
 obtain ⟨g14, H⟩ := grd_s H
 obtain ⟨g15, H⟩ := grd_s H
 obtain ⟨g16, H⟩ := grd_s H
 obtain ⟨g17, H⟩ := grd_s H
 obtain ⟨g18, H⟩ := grd_s H
 obtain ⟨g19, H⟩ := grd_s H
 obtain ⟨g20, H⟩ := grd_s H
 obtain ⟨g21, H⟩ := grd_s H
 obtain ⟨g22, H⟩ := grd_s H
 obtain ⟨g23, H⟩ := grd_s H
 obtain ⟨g24, H⟩ := grd_s H
 obtain ⟨g25, H⟩ := grd_s H
 obtain ⟨g26, H⟩ := grd_s H
 obtain ⟨g27, H⟩ := grd_s H
 obtain ⟨g28, H⟩ := grd_s H
 obtain ⟨g29, H⟩ := grd_s H
 refine AW.region ?_
 show AR _ _ _ _ _ [0, 1, 2, 3, 4, 5, 6, 7, 8, 9, 10, 11, 12, 13, 14, 15, 16, 17, 18, 19, 20, 21, 22, 23, 24, 25] _
 refine sS rfl rfl rfl (mv rfl) ?_
 refine sS rfl rfl rfl (g_quo rfl rfl g11) ?_
 refine sS rfl rfl rfl (g_mul rfl rfl g12) ?_
 refine sS rfl rfl rfl (mv rfl) ?_
 refine sS rfl rfl rfl (g_rem rfl rfl g13) ?_
 refine sS rfl rfl rfl (g_mul rfl rfl g14) ?_
 refine sS rfl rfl rfl (g_add rfl rfl g15) ?_
 refine sS rfl rfl rfl (mv rfl) ?_
 refine sS rfl rfl rfl (g_rem rfl rfl g16) ?_
 refine sS rfl rfl rfl (g_quo rfl rfl g17) ?_
 refine sS rfl rfl rfl (g_add rfl rfl g18) ?_
 refine sS rfl rfl rfl (mv rfl) ?_
 refine sS rfl rfl rfl (g_rem rfl rfl g19) ?_
 refine sS rfl rfl rfl (g_quo rfl rfl g20) ?_
 refine sS rfl rfl rfl (g_sub rfl rfl g21) ?_
 refine sS rfl rfl rfl (mv rfl) ?_
 refine sS rfl rfl rfl (g_sub rfl rfl g22) ?_
 refine sS rfl rfl rfl (g_mul rfl rfl g23) ?_
 refine sS rfl rfl rfl (g_add rfl rfl g24) ?_
 refine sS rfl rfl rfl (g_quo rfl rfl g25) ?_
 refine sS rfl rfl rfl (g_add rfl rfl g26) ?_
 refine sS rfl rfl rfl (mv rfl) ?_
 refine sS rfl rfl rfl (g_add rfl rfl g27) ?_
 refine sS rfl rfl rfl (g_sub rfl rfl g28) ?_
 refine sS rfl rfl rfl (g_sub rfl rfl g29) ?_
 refine sS rfl rfl rfl (asg rfl) ?_
 refine AR.nil ?_
 show AW _ _ _ _ _ _
 refine AW.ret ?_
 obtain rfl := Option.some.inj H
 exact And.intro rfl (Exists.intro _ (Exists.intro _ ⟨ResV.oneW rfl (.refl _), Sub.at [] rfl, rfl, rfl⟩))
set_option maxRecDepth 100000 in
set_option maxHeartbeats 1000000 in
theorem w_civil_Ord (F : Nat) (a1 : Int) (a2 : Int) (a3 : Int) (r4 : Int) (r5 : Int) (H : civil_Ord F a1 a2 a3 = some (r4, r5)) : ACalls Tryd.prog 19 [i64 a1, i64 a2, i64 a3] [] (Ret (.tup [i64 r4, i64 r5]) []) := by
 unfold civil_Ord at H
 refine ACalls.of_body Tryd.func19 rfl rfl ?_
 show AW _ _ 29 _ _ _
 refine AW.seq ?_
 refine AW.region ?_
 show AR _ _ _ _ _ [0, 1] _
 refine sS rfl rfl rfl (asg rfl) ?_
 refine sS rfl rfl rfl (asg rfl) ?_
 refine AR.nil ?_
 show AW _ _ _ _ _ _
 refine AW.seq ?_
 refine AW.seq ?_
 obtain ⟨x9, e10, H⟩ := bndc_s H
 refine AW.region ?_
 show AR _ _ _ _ _ [0, 1, 2, 3, 4, 5, 6, 7, 8, 9, 10, 11, 12, 13, 14, 15, 16] _
 refine sS rfl rfl rfl (mv rfl) ?_
 refine sS rfl rfl rfl (opS_lt rfl rfl) ?_
 refine sS rfl rfl rfl (mv rfl) ?_
 refine AR.meet (l := [6, 7, 8, 9, 10, 11, 12, 13, 14, 15, 16]) 13 (B ((decide (a1 < 1)) || (decide (9999 < a1)))) (fun K => ?_) ?_
 ·rcases Bool.eq_false_or_eq_true (decide (a1 < 1)) with h6 | h6
  ·
   refine gF h6 rfl rfl rfl rfl rfl ?_
   refine gF h6 rfl rfl rfl rfl rfl ?_
   refine sS rfl rfl rfl (opS_pick_t (av := .v _) rfl h6 rfl) ?_
   exact K _ 2 _ (B_congr (or_t h6)) rfl rfl
  ·
   refine gT h6 rfl rfl rfl rfl rfl rfl (AO.ops rfl rfl (mv rfl) ?_)
   refine gT h6 rfl rfl rfl rfl rfl rfl (AO.ops rfl rfl (opS_gt rfl rfl) ?_)
   refine sS rfl rfl rfl (opS_pick_f (av := .v _) rfl h6 rfl) ?_
   exact K _ 2 _ (B_congr (or_f h6)) rfl rfl
 refine sS rfl rfl rfl (mv rfl) ?_
 refine AR.meet (l := [10, 11, 12, 13, 14, 15, 16]) 17 (B (((decide (a1 < 1)) || (decide (9999 < a1))) || (decide (a3 < 1)))) (fun K => ?_) ?_
 ·rcases Bool.eq_false_or_eq_true ((decide (a1 < 1)) || (decide (9999 < a1))) with h7 | h7
  ·
   refine gF h7 rfl rfl rfl rfl rfl ?_
   refine gF h7 rfl rfl rfl rfl rfl ?_
   refine sS rfl rfl rfl (opS_pick_t (av := .v _) rfl h7 rfl) ?_
   exact K _ 2 _ (B_congr (or_t h7)) rfl rfl
  ·
   refine gT h7 rfl rfl rfl rfl rfl rfl (AO.ops rfl rfl (mv rfl) ?_)
   refine gT h7 rfl rfl rfl rfl rfl rfl (AO.ops rfl rfl (opS_lt rfl rfl) ?_)
   refine sS rfl rfl rfl (opS_pick_f (av := .v _) rfl h7 rfl) ?_
   exact K _ 2 _ (B_congr (or_f h7)) rfl rfl
 refine sS rfl rfl rfl (mv rfl) ?_
 refine AR.meet (l := []) 24 (B ((((decide (a1 < 1)) || (decide (9999 < a1))) || (decide (a3 < 1))) || (decide (x9 < a3)))) (fun K => ?_) ?_
 ·rcases Bool.eq_false_or_eq_true (((decide (a1 < 1)) || (decide (9999 < a1))) || (decide (a3 < 1))) with h8 | h8
  ·
   refine gF h8 rfl rfl rfl rfl rfl ?_
   refine gF h8 rfl rfl rfl rfl rfl ?_
   refine gF h8 rfl rfl rfl rfl rfl ?_
   refine gF h8 rfl rfl rfl rfl rfl ?_
   refine gF h8 rfl rfl rfl rfl rfl ?_
   refine sS rfl rfl rfl (opS_pick_t (av := .v _) rfl h8 rfl) ?_
   exact K _ 5 _ (B_congr (or_t h8)) rfl rfl
  ·
   refine gT h8 rfl rfl rfl rfl rfl rfl (AO.ops rfl rfl (mv rfl) ?_)
   refine gT h8 rfl rfl rfl rfl rfl rfl (AO.ops rfl rfl (mv rfl) ?_)
   refine gT h8 rfl rfl rfl rfl rfl rfl (AO.ops rfl rfl (mv rfl) ?_)
   refine gT h8 rfl rfl rfl rfl rfl rfl (AO.callp rfl en30_civ rfl (w_civil_Days F a1 a2 x9 (e10 (nf h8))) ?_)
   refine gT h8 rfl rfl rfl rfl rfl rfl (AO.ops rfl rfl (opS_gt rfl rfl) ?_)
   refine sS rfl rfl rfl (opS_pick_f (av := .v _) rfl h8 rfl) ?_
   exact K _ 5 _ (B_congr (or_f h8)) rfl rfl
 refine AR.nil ?_
 show AW _ _ _ _ _ _
 refine AW.cond rfl (fun c11 => ?_) (fun c11 => ?_)
 ·replace H := cnd_t c11 H
  refine AW.seq ?_
  refine AW.region ?_
  show AR _ _ _ _ _ [0, 1] _
  refine sS rfl rfl rfl (asg rfl) ?_
  refine sS rfl rfl rfl (asg rfl) ?_
  refine AR.nil ?_
  show AW _ _ _ _ _ _
  refine AW.ret ?_
  obtain ⟨rfl, rfl⟩ := res2 H
  exact And.intro rfl (Exists.intro _ (Exists.intro _ ⟨ResV.twoW rfl (.refl _) (.refl _), Sub.at [] rfl, rfl, rfl⟩))
 ·replace H := cnd_f c11 H
  refine AW.skip ?_
  show AW _ _ _ _ _ _
  refine AW.seq ?_
  obtain ⟨x12, e13, H⟩ := bnd_s H
  refine AW.region ?_
  show AR _ _ _ _ _ [0, 1, 2, 3, 4, 5] _
  refine sS rfl rfl rfl (mv rfl) ?_
  refine sS rfl rfl rfl (mv rfl) ?_
  refine sS rfl rfl rfl (mv rfl) ?_
  refine AR.run rfl rfl (AO.callp rfl en31_civ rfl (w_civil_number F a1 a2 a3 x12 e13) ?_)
  refine sS rfl rfl rfl (asg rfl) ?_
  refine sS rfl rfl rfl (asg rfl) ?_
  refine AR.nil ?_
  show AW _ _ _ _ _ _
  refine AW.ret ?_
  obtain ⟨rfl, rfl⟩ := res2 H
  exact And.intro rfl (Exists.intro _ (Exists.intro _ ⟨ResV.twoW rfl (.refl _) (.refl _), Sub.at [] rfl, rfl, rfl⟩))
set_option maxRecDepth 100000 in
set_option maxHeartbeats 1000000 in
theorem w_civil_Wday (F : Nat) (a1 : Int) (r2 : Int) (H : civil_Wday F a1 = some r2) : ACalls Tryd.prog 20 [i64 a1] [] (Ret (i64 r2) []) := by
 unfold civil_Wday at H
 refine ACalls.of_body Tryd.func20 rfl rfl ?_
 show AW _ _ 14 _ _ _
 refine AW.seq ?_
 refine AW.region ?_
 show AR _ _ _ _ _ [0] _
 refine sS rfl rfl rfl (asg rfl) ?_
 refine AR.nil ?_
 show AW _ _ _ _ _ _
 refine AW.seq ?_
 refine AW.seq ?_
 refine AW.region ?_
 show AR _ _ _ _ _ [0, 1, 2, 3, 4, 5] _
 refine sS rfl rfl rfl (mv rfl) ?_
 refine sS rfl rfl rfl (opS_lt rfl rfl) ?_
 refine sS rfl rfl rfl (mv rfl) ?_
 refine AR.meet (l := []) 8 (B ((decide (a1 < (-1099511627776))) || (decide (1099511627776 < a1)))) (fun K => ?_) ?_
 ·rcases Bool.eq_false_or_eq_true (decide (a1 < (-1099511627776))) with h3 | h3
  ·
   refine gF h3 rfl rfl rfl rfl rfl ?_
   refine gF h3 rfl rfl rfl rfl rfl ?_
   refine sS rfl rfl rfl (opS_pick_t (av := .v _) rfl h3 rfl) ?_
   exact K _ 2 _ (B_congr (or_t h3)) rfl rfl
  ·
   refine gT h3 rfl rfl rfl rfl rfl rfl (AO.ops rfl rfl (mv rfl) ?_)
   refine gT h3 rfl rfl rfl rfl rfl rfl (AO.ops rfl rfl (opS_gt rfl rfl) ?_)
   refine sS rfl rfl rfl (opS_pick_f (av := .v _) rfl h3 rfl) ?_
   exact K _ 2 _ (B_congr (or_f h3)) rfl rfl
 refine AR.nil ?_
 show AW _ _ _ _ _ _
 refine AW.cond rfl (fun c4 => ?_) (fun c4 => ?_)
 ·replace H := cnd_t c4 H
  refine AW.seq ?_
  refine AW.region ?_
  show AR _ _ _ _ _ [0] _
  refine sS rfl rfl rfl (asg rfl) ?_
  refine AR.nil ?_
  show AW _ _ _ _ _ _
  refine AW.ret ?_
  obtain rfl := Option.some.inj H
  exact And.intro rfl (Exists.intro _ (Exists.intro _ ⟨ResV.oneW rfl (.refl _), Sub.at [] rfl, rfl, rfl⟩))
 ·replace H := cnd_f c4 H
  refine AW.skip ?_
  show AW _ _ _ _ _ _
  refine AW.seq ?_
  obtain ⟨g5, H⟩ := grd_s H
  obtain ⟨g6, H⟩ := grd_s H
  refine AW.region ?_
  show AR _ _ _ _ _ [0, 1, 2, 3, 4, 5] _
  refine sS rfl rfl rfl (mv rfl) ?_
  refine sS rfl rfl rfl (g_add rfl rfl g5) ?_
  refine sS rfl rfl rfl (opS_remw rfl rfl (by decide)) ?_
  refine sS rfl rfl rfl (g_add rfl rfl g6) ?_
  refine sS rfl rfl rfl (opS_remw rfl rfl (by decide)) ?_
  refine sS rfl rfl rfl (asg rfl) ?_
  refine AR.nil ?_
  show AW _ _ _ _ _ _
  refine AW.ret ?_
  obtain rfl := Option.some.inj H
  exact And.intro rfl (Exists.intro _ (Exists.intro _ ⟨ResV.oneW rfl (.refl _), Sub.at [] rfl, rfl, rfl⟩))
set_option maxRecDepth 100000 in
set_option maxHeartbeats 1000000 in
theorem w_stamp_in (F : Nat) (a1 : Int) (a2 : Int) (r3 : Bool) (H : stamp_in F a1 a2 = some r3) : ACalls Tryd.prog 28 [i64 a1, i64 a2] [] (Ret (B r3) []) := by
 unfold stamp_in at H
 refine ACalls.of_body Tryd.func28 rfl rfl ?_
 show AW _ _ 12 _ _ _
 refine AW.seq ?_
 refine AW.region ?_
 show AR _ _ _ _ _ [0] _
 refine sS rfl rfl rfl (asg rfl) ?_
 refine AR.nil ?_
 show AW _ _ _ _ _ _
 refine AW.seq ?_
 refine AW.region ?_
 show AR _ _ _ _ _ [0, 1, 2, 3, 4, 5, 6, 7] _
 refine sS rfl rfl rfl (mv rfl) ?_
 refine sS rfl rfl rfl (opS_ge rfl rfl) ?_
 refine sS rfl rfl rfl (mv rfl) ?_
 refine AR.meet (l := [7]) 11 (B ((decide (0 ≤ a1)) && (decide (a1 < a2)))) (fun K => ?_) ?_
 ·rcases Bool.eq_false_or_eq_true (decide (0 ≤ a1)) with h4 | h4
  ·
   refine gT h4 rfl rfl rfl rfl rfl rfl (AO.ops rfl rfl (mv rfl) ?_)
   refine gT h4 rfl rfl rfl rfl rfl rfl (AO.ops rfl rfl (mv rfl) ?_)
   refine gT h4 rfl rfl rfl rfl rfl rfl (AO.ops rfl rfl (opS_lt rfl rfl) ?_)
   refine sS rfl rfl rfl (opS_pick_t (av := .v _) rfl h4 rfl) ?_
   exact K _ 3 _ (B_congr (and_t h4)) rfl rfl
  ·
   refine gF h4 rfl rfl rfl rfl rfl ?_
   refine gF h4 rfl rfl rfl rfl rfl ?_
   refine gF h4 rfl rfl rfl rfl rfl ?_
   refine sS rfl rfl rfl (opS_pick_f (av := .v _) rfl h4 rfl) ?_
   exact K _ 3 _ (B_congr (and_f h4)) rfl rfl
 refine sS rfl rfl rfl (asg rfl) ?_
 refine AR.nil ?_
 show AW _ _ _ _ _ _
 refine AW.ret ?_
 obtain rfl := Option.some.inj H
 exact And.intro rfl (Exists.intro _ (Exists.intro _ ⟨ResV.oneW rfl (.refl _), Sub.at [] rfl, rfl, rfl⟩))
set_option maxRecDepth 100000 in
set_option maxHeartbeats 1000000 in
theorem w_stamp_May (F : Nat) (a1 : Int) (a2 : Int) (a3 : Int) (a4 : Int) (a5 : Int) (a6 : Int) (r7 : Bool) (H : stamp_May F a1 a2 a3 a4 a5 a6 = some r7) : ACalls Tryd.prog 17 [.agg [i64 a1, i64 a2, i64 a3, i64 a4, i64 a5, i64 a6]] [] (Ret (B r7) []) := by
 unfold stamp_May at H
 refine ACalls.of_body Tryd.func17 rfl rfl ?_
 show AW _ _ 32 _ _ _
 refine AW.seq ?_
 refine AW.region ?_
 show AR _ _ _ _ _ [0, 1] _
 refine sR rfl rfl rfl (opR_boxCp rfl (.inr ⟨_, rfl⟩)) ?_
 refine sS rfl rfl rfl (asg rfl) ?_
 refine AR.nil ?_
 show AW _ _ _ _ _ _
 refine AW.seq ?_
 obtain ⟨x8, x9, e10, H⟩ := bnd2_s H
 refine AW.region ?_
 show AR _ _ _ _ _ [0, 1, 2, 3, 4, 5, 6, 7, 8, 9, 10, 11] _
 refine sS rfl rfl rfl (opS_fieldAddr_cp (n := 0) (by kernel_rfl) rfl (Nat.le_of_ble_eq_true rfl)) ?_
 refine sS rfl rfl rfl (opS_load_cp Tryd.underlying3 rfl rfl) ?_
 refine sS rfl rfl rfl (opS_fieldAddr_cp (n := 1) (by kernel_rfl) rfl (Nat.le_of_ble_eq_true rfl)) ?_
 refine sS rfl rfl rfl (opS_load_cp Tryd.underlying3 rfl rfl) ?_
 refine sS rfl rfl rfl (opS_fieldAddr_cp (n := 2) (by kernel_rfl) rfl (Nat.le_of_ble_eq_true rfl)) ?_
 refine sS rfl rfl rfl (opS_load_cp Tryd.underlying3 rfl rfl) ?_
 refine AR.run rfl rfl (AO.callp rfl en19_civ rfl (w_civil_Ord F a1 a2 a3 x8 x9 e10) ?_)
 refine sS rfl rfl rfl (opS_move (av := .tup _) rfl) ?_
 refine sS rfl rfl rfl (opS_extract (av := .v _) rfl rfl) ?_
 refine sS rfl rfl rfl (opS_extract (av := .v _) rfl rfl) ?_
 refine sS rfl rfl rfl (asg rfl) ?_
 refine sS rfl rfl rfl (asg rfl) ?_
 refine AR.nil ?_
 show AW _ _ _ _ _ _
 refine AW.seq ?_
 obtain ⟨x12, e13, H⟩ := bndc_s H
 obtain ⟨x15, e16, H⟩ := bndc_s H
 obtain ⟨x18, e19, H⟩ := bndc_s H
 refine AW.region ?_
 show AR _ _ _ _ _ [0, 1, 2, 3, 4, 5, 6, 7, 8, 9, 10, 11, 12, 13, 14, 15, 16, 17] _
 refine sS rfl rfl rfl (mv rfl) ?_
 refine sS rfl rfl rfl (opS_eqi rfl rfl) ?_
 refine sS rfl rfl rfl (mv rfl) ?_
 refine AR.meet (l := [7, 8, 9, 10, 11, 12, 13, 14, 15, 16, 17]) 21 (B ((decide (x9 = 0)) && x12)) (fun K => ?_) ?_
 ·rcases Bool.eq_false_or_eq_true (decide (x9 = 0)) with h11 | h11
  ·
   refine gT h11 rfl rfl rfl rfl rfl rfl (AO.ops rfl rfl (opS_fieldAddr_cp (n := 3) (by kernel_rfl) rfl (Nat.le_of_ble_eq_true rfl)) ?_)
   refine gT h11 rfl rfl rfl rfl rfl rfl (AO.ops rfl rfl (opS_load_cp Tryd.underlying3 rfl rfl) ?_)
   refine gT h11 rfl rfl rfl rfl rfl rfl (AO.callp rfl en28_civ rfl (w_stamp_in F a4 24 x12 (e13 h11)) ?_)
   refine sS rfl rfl rfl (opS_pick_t (av := .v _) rfl h11 rfl) ?_
   exact K _ 3 _ (B_congr (and_t h11)) rfl rfl
  ·
   refine gF h11 rfl rfl rfl rfl rfl ?_
   refine gF h11 rfl rfl rfl rfl rfl ?_
   refine gF h11 rfl rfl rfl rfl rfl ?_
   refine sS rfl rfl rfl (opS_pick_f (av := .v _) rfl h11 rfl) ?_
   exact K _ 3 _ (B_congr (and_f h11)) rfl rfl
 refine sS rfl rfl rfl (mv rfl) ?_
 refine AR.meet (l := [12, 13, 14, 15, 16, 17]) 26 (B (((decide (x9 = 0)) && x12) && x15)) (fun K => ?_) ?_
 ·rcases Bool.eq_false_or_eq_true ((decide (x9 = 0)) && x12) with h14 | h14
  ·
   refine gT h14 rfl rfl rfl rfl rfl rfl (AO.ops rfl rfl (opS_fieldAddr_cp (n := 4) (by kernel_rfl) rfl (Nat.le_of_ble_eq_true rfl)) ?_)
   refine gT h14 rfl rfl rfl rfl rfl rfl (AO.ops rfl rfl (opS_load_cp Tryd.underlying3 rfl rfl) ?_)
   refine gT h14 rfl rfl rfl rfl rfl rfl (AO.callp rfl en28_civ rfl (w_stamp_in F a5 60 x15 (e16 h14)) ?_)
   refine sS rfl rfl rfl (opS_pick_t (av := .v _) rfl h14 rfl) ?_
   exact K _ 3 _ (B_congr (and_t h14)) rfl rfl
  ·
   refine gF h14 rfl rfl rfl rfl rfl ?_
   refine gF h14 rfl rfl rfl rfl rfl ?_
   refine gF h14 rfl rfl rfl rfl rfl ?_
   refine sS rfl rfl rfl (opS_pick_f (av := .v _) rfl h14 rfl) ?_
   exact K _ 3 _ (B_congr (and_f h14)) rfl rfl
 refine sS rfl rfl rfl (mv rfl) ?_
 refine AR.meet (l := [17]) 31 (B ((((decide (x9 = 0)) && x12) && x15) && x18)) (fun K => ?_) ?_
 ·rcases Bool.eq_false_or_eq_true (((decide (x9 = 0)) && x12) && x15) with h17 | h17
  ·
   refine gT h17 rfl rfl rfl rfl rfl rfl (AO.ops rfl rfl (opS_fieldAddr_cp (n := 5) (by kernel_rfl) rfl (Nat.le_of_ble_eq_true rfl)) ?_)
   refine gT h17 rfl rfl rfl rfl rfl rfl (AO.ops rfl rfl (opS_load_cp Tryd.underlying3 rfl rfl) ?_)
   refine gT h17 rfl rfl rfl rfl rfl rfl (AO.callp rfl en28_civ rfl (w_stamp_in F a6 60 x18 (e19 h17)) ?_)
   refine sS rfl rfl rfl (opS_pick_t (av := .v _) rfl h17 rfl) ?_
   exact K _ 3 _ (B_congr (and_t h17)) rfl rfl
  ·
   refine gF h17 rfl rfl rfl rfl rfl ?_
   refine gF h17 rfl rfl rfl rfl rfl ?_
   refine gF h17 rfl rfl rfl rfl rfl ?_
   refine sS rfl rfl rfl (opS_pick_f (av := .v _) rfl h17 rfl) ?_
   exact K _ 3 _ (B_congr (and_f h17)) rfl rfl
 refine sS rfl rfl rfl (asg rfl) ?_
 refine AR.nil ?_
 show AW _ _ _ _ _ _
 refine AW.ret ?_
 obtain rfl := Option.some.inj H
 exact And.intro rfl (Exists.intro _ (Exists.intro _ ⟨ResV.oneW rfl (.refl _), Sub.at [] rfl, rfl, rfl⟩))
end Go.Proofs.YtpbfajkbkomfcaaDoor
