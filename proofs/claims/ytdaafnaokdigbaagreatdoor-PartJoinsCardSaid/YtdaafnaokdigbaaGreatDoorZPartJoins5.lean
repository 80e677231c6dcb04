/-
  Texts in one (only what PartJoins needs): PartRW, LPartJoinsP, LPartJoinsW, HdSp, HdA, HdD, HdR, HdW, HdL, HdF, HdV, QpPure, QpMore, PtQ, HdB, HdK, HdC, PtB, PtK, HdA2, PtJ, LPartSafeP, PtSafe, PtJR, AvOpen.
-/
import Derived.Test.YtdaafnaokdigbaaGreatDoorZPartJoins4
import Derived.Test.YtdaafnaokdigbaaGreatDoorShelf
import Derived.Test.YtdaafnaokdigbaaGreatDoorChecked
import Derived.Lib.SplitLaws
import Derived.Lib.IndexMore
import Derived.Lib.TrimByte
import Derived.Laws.RangeString
import Derived.Laws.RangeAny
import Derived.Lib.ItoaNum
import Derived.RowKit
import Derived.OpenShut
import Derived.ChangeSlices
import Derived.SliceStrings
set_option linter.unusedVariables false
set_option linter.unusedSimpArgs false
namespace Go.Proofs.YtdaafnaokdigbaaGreatDoor
open Go.RowKit Go.Av Go.Pv
theorem en13_partr : ∀ (args : Array Value) (w : World), (callFunc 13 args).run Tryz.prog w = .ok (.enter 13 args) w := fun _ _ => by kernel_rfl
theorem en19_partr : ∀ (args : Array Value) (w : World), (callFunc 19 args).run Tryz.prog w = .ok (.enter 19 args) w := fun _ _ => by kernel_rfl
theorem en25_partr : ∀ (args : Array Value) (w : World), (callFunc 25 args).run Tryz.prog w = .ok (.enter 25 args) w := fun _ _ => by kernel_rfl
theorem en26_partr : ∀ (args : Array Value) (w : World), (callFunc 26 args).run Tryz.prog w = .ok (.enter 26 args) w := fun _ _ => by kernel_rfl
theorem en31_partr : ∀ (args : Array Value) (w : World), (callFunc 31 args).run Tryz.prog w = .ok (.enter 31 args) w := fun _ _ => by kernel_rfl
theorem en32_partr : ∀ (args : Array Value) (w : World), (callFunc 32 args).run Tryz.prog w = .ok (.enter 32 args) w := fun _ _ => by kernel_rfl
theorem en38_partr : ∀ (args : Array Value) (w : World), (callFunc 38 args).run Tryz.prog w = .ok (.enter 38 args) w := fun _ _ => by kernel_rfl
theorem en39_partr : ∀ (args : Array Value) (w : World), (callFunc 39 args).run Tryz.prog w = .ok (.enter 39 args) w := fun _ _ => by kernel_rfl
theorem en47_partr : ∀ (args : Array Value) (w : World), (callFunc 47 args).run Tryz.prog w = .ok (.enter 47 args) w := fun _ _ => by kernel_rfl
set_option maxRecDepth 100000 in
set_option maxHeartbeats 1000000 in
theorem w_ref03_Number (F : Nat) (a1 : Int) (r2 : List UInt8) (H : ref03_Number F a1 = some r2) : ACalls Tryz.prog 31 [i64 a1] [] (Ret (S r2) []) := by
 unfold ref03_Number at H
 refine ACalls.of_body Tryz.func31 rfl rfl ?_
 show AW _ _ 25 _ _ _
 refine AW.seq ?_
 refine AW.region ?_
 show AR _ _ _ _ _ [0] _
 refine sS rfl rfl rfl (asg rfl) ?_
 refine AR.nil ?_
 show AW _ _ _ _ _ _
 refine AW.seq ?_
 obtain ⟨g3, H⟩ := grd_s H
 obtain ⟨g4, H⟩ := grd_s H
 obtain ⟨g5, H⟩ := grd_s H
 obtain ⟨g6, H⟩ := grd_s H
 obtain ⟨x7, e8, H⟩ := lt_s H
 refine AW.region ?_
 show AR _ _ _ _ _ [0, 1, 2, 3, 4, 5, 6] _
 refine sS rfl rfl rfl (mv rfl) ?_
 refine sS rfl rfl rfl (g_rem rfl rfl g3) ?_
 refine sS rfl rfl rfl (mv rfl) ?_
 refine sS rfl rfl rfl (g_rem rfl rfl g4) ?_
 refine sS rfl rfl rfl (g_add rfl rfl g5) ?_
 refine sS rfl rfl rfl (g_slice_str Tryz.underlying9 rfl rfl rfl g6 e8) ?_
 refine sS rfl rfl rfl (asg rfl) ?_
 refine AR.nil ?_
 show AW _ _ _ _ _ _
 refine AW.cut (X := (List UInt8)) (fun y25 => ⟨[(3, S y25)], [], []⟩) (fun y25 => ref03_Number_j1 y25 = some r2) ?_ ?_
 ·
  refine AW.seq ?_
  obtain ⟨g9, H⟩ := grd_s H
  refine AW.region ?_
  show AR _ _ _ _ _ [0, 1, 2] _
  refine sS rfl rfl rfl (mv rfl) ?_
  refine sS rfl rfl rfl (g_quo rfl rfl g9) ?_
  refine sS rfl rfl rfl (asg rfl) ?_
  refine AR.nil ?_
  show AW _ _ _ _ _ _
  refine AW.block ?_
  refine AW.loop (X := Nat × Int × (List UInt8)) (fun (n13, y10, y11) => ⟨[(0, i64 y10), (3, S y11)], [], []⟩) (fun (n13, y10, y11) => ref03_Number_L1 n13 (y10, y11) = some r2) (fun (n13, y10, y11) => n13) (F, a1 / 10, x7) H (WK.at [] (.cons (.refl _) (.cons (.refl _) (.nil _))) rfl) ?_
  rintro ⟨n13, y10, y11⟩ H
  obtain ⟨n13, rfl, H⟩ := loop_s H
  replace H : ref03_Number_B1 (ref03_Number_L1 n13) y10 y11 = some r2 := H
  unfold ref03_Number_B1 at H
  show AW _ _ _ _ _ _
  refine AW.seq ?_
  refine AW.seq ?_
  refine AW.region ?_
  show AR _ _ _ _ _ [0, 1] _
  refine sS rfl rfl rfl (mv rfl) ?_
  refine sS rfl rfl rfl (opS_gt rfl rfl) ?_
  refine AR.nil ?_
  show AW _ _ _ _ _ _
  refine AW.cond rfl (fun c14 => ?_) (fun c14 => ?_)
  ·replace H := cnd_t c14 H
   refine AW.skip ?_
   show AW _ _ _ _ _ _
   refine AW.seq ?_
   refine AW.block ?_
   obtain ⟨g15, H⟩ := grd_s H
   obtain ⟨g16, H⟩ := grd_s H
   obtain ⟨g17, H⟩ := grd_s H
   obtain ⟨g18, H⟩ := grd_s H
   obtain ⟨x19, e20, H⟩ := lt_s H
   obtain ⟨g21, H⟩ := grd_s H
   obtain ⟨x22, e23, H⟩ := lt_s H
   refine AW.region ?_
   show AR _ _ _ _ _ [0, 1, 2, 3, 4, 5, 6, 7, 8] _
   refine sS rfl rfl rfl (mv rfl) ?_
   refine sS rfl rfl rfl (g_rem rfl rfl g15) ?_
   refine sS rfl rfl rfl (mv rfl) ?_
   refine sS rfl rfl rfl (g_rem rfl rfl g16) ?_
   refine sS rfl rfl rfl (g_add rfl rfl g17) ?_
   refine sS rfl rfl rfl (g_slice_str Tryz.underlying9 rfl rfl rfl g18 e20) ?_
   refine sS rfl rfl rfl (mv rfl) ?_
   refine sS rfl rfl rfl (g_cat rfl rfl g21 e23) ?_
   refine sS rfl rfl rfl (asg rfl) ?_
   refine AR.nil ?_
   show AW _ _ _ _ _ _
   obtain ⟨g24, H⟩ := grd_s H
   refine AW.region ?_
   show AR _ _ _ _ _ [0, 1, 2] _
   refine sS rfl rfl rfl (mv rfl) ?_
   refine sS rfl rfl rfl (g_quo rfl rfl g24) ?_
   refine sS rfl rfl rfl (asg rfl) ?_
   refine AR.nil ?_
   exact Exists.intro (n13, y10 / 10, x22) ⟨H, Nat.lt_succ_self _, WK.at [] (.cons (.refl _) (.cons (.refl _) (.nil _))) rfl⟩
  ·replace H := cnd_f c14 H
   refine AW.exit ?_
   exact Exists.intro y11 ⟨H, WK.at [] (.cons (.refl _) (.nil _)) rfl⟩
 rintro y25 H
 replace H : ref03_Number_j1 y25 = some r2 := H
 unfold ref03_Number_j1 at H
 show AW _ _ _ _ _ _
 refine AW.seq ?_
 refine AW.region ?_
 show AR _ _ _ _ _ [0, 1] _
 refine sS rfl rfl rfl (mv rfl) ?_
 refine sS rfl rfl rfl (asg rfl) ?_
 refine AR.nil ?_
 show AW _ _ _ _ _ _
 refine AW.ret ?_
 obtain rfl := Option.some.inj H
 exact And.intro rfl (Exists.intro _ (Exists.intro _ ⟨ResV.oneW rfl (.refl _), Sub.at [] rfl, rfl, rfl⟩))
set_option maxRecDepth 100000 in
set_option maxHeartbeats 1000000 in
theorem w_ref12_Hex (F : Nat) (a1 : UInt8) (r2 : List UInt8) (H : ref12_Hex F a1 = some r2) : ACalls Tryz.prog 38 [u8 a1] [] (Ret (S r2) []) := by
 unfold ref12_Hex at H
 refine ACalls.of_body Tryz.func38 rfl rfl ?_
 show AW _ _ 22 _ _ _
 refine AW.seq ?_
 refine AW.region ?_
 show AR _ _ _ _ _ [0] _
 refine sS rfl rfl rfl (asg rfl) ?_
 refine AR.nil ?_
 show AW _ _ _ _ _ _
 refine AW.seq ?_
 refine AW.region ?_
 show AR _ _ _ _ _ [0] _
 refine sS rfl rfl rfl (asg rfl) ?_
 refine AR.nil ?_
 show AW _ _ _ _ _ _
 refine AW.seq ?_
 refine AW.region ?_
 show AR _ _ _ _ _ [0, 1, 2] _
 refine sS rfl rfl rfl (mv rfl) ?_
 refine sS rfl rfl rfl (opS_conv_u8 (c := a1) (by kernel_rfl) Tryz.underlying3 rfl) ?_
 refine sS rfl rfl rfl (asg rfl) ?_
 refine AR.nil ?_
 show AW _ _ _ _ _ _
 refine AW.seq ?_
 obtain ⟨g3, H⟩ := grd_s H
 obtain ⟨g4, H⟩ := grd_s H
 obtain ⟨g5, H⟩ := grd_s H
 obtain ⟨g6, H⟩ := grd_s H
 obtain ⟨x7, e8, H⟩ := lt_s H
 obtain ⟨g9, H⟩ := grd_s H
 obtain ⟨g10, H⟩ := grd_s H
 obtain ⟨g11, H⟩ := grd_s H
 obtain ⟨g12, H⟩ := grd_s H
 obtain ⟨x13, e14, H⟩ := lt_s H
 obtain ⟨g15, H⟩ := grd_s H
 obtain ⟨x16, e17, H⟩ := lt_s H
 refine AW.region_draw (by kernel_rfl) ?_
 show AI _ _ _ _ _ 16 (Array.replicate 16 false) _
 refine AI.take (i := 0) rfl rfl (by kernel_rfl) (by kernel_rfl) (by kernel_rfl) (fun _ _ h => h) (mv rfl) ?_
 show AI _ _ _ _ _ _ #[true, false, false, false, false, false, false, false, false, false, false, false, false, false, false, false] _
 refine AI.take (i := 1) rfl rfl (by kernel_rfl) (by kernel_rfl) (by kernel_rfl) (fun _ _ h => h) (mv rfl) ?_
 show AI _ _ _ _ _ _ #[true, true, false, false, false, false, false, false, false, false, false, false, false, false, false, false] _
 refine AI.take (i := 2) rfl rfl (by kernel_rfl) (by kernel_rfl) (by kernel_rfl) (fun _ _ h => h) (g_quo rfl rfl g3) ?_
 show AI _ _ _ _ _ _ #[true, true, true, false, false, false, false, false, false, false, false, false, false, false, false, false] _
 refine AI.take (i := 3) rfl rfl (by kernel_rfl) (by kernel_rfl) (by kernel_rfl) (fun _ _ h => h) (mv rfl) ?_
 show AI _ _ _ _ _ _ #[true, true, true, true, false, false, false, false, false, false, false, false, false, false, false, false] _
 refine AI.take (i := 4) rfl rfl (by kernel_rfl) (by kernel_rfl) (by kernel_rfl) (fun _ _ h => h) (g_quo rfl rfl g4) ?_
 show AI _ _ _ _ _ _ #[true, true, true, true, true, false, false, false, false, false, false, false, false, false, false, false] _
 refine AI.take (i := 5) rfl rfl (by kernel_rfl) (by kernel_rfl) (by kernel_rfl) (fun _ _ h => h) (g_add rfl rfl g5) ?_
 show AI _ _ _ _ _ _ #[true, true, true, true, true, true, false, false, false, false, false, false, false, false, false, false] _
 refine AI.take (i := 6) rfl rfl (by kernel_rfl) (by kernel_rfl) (by kernel_rfl) (fun _ _ h => h) (g_slice_str Tryz.underlying9 rfl rfl rfl g6 e8) ?_
 show AI _ _ _ _ _ _ #[true, true, true, true, true, true, true, false, false, false, false, false, false, false, false, false] _
 refine AI.take (i := 7) rfl rfl (by kernel_rfl) (by kernel_rfl) (by kernel_rfl) (fun _ _ h => h) (mv rfl) ?_
 show AI _ _ _ _ _ _ #[true, true, true, true, true, true, true, true, false, false, false, false, false, false, false, false] _
 refine AI.take (i := 8) rfl rfl (by kernel_rfl) (by kernel_rfl) (by kernel_rfl) (fun _ _ h => h) (mv rfl) ?_
 show AI _ _ _ _ _ _ #[true, true, true, true, true, true, true, true, true, false, false, false, false, false, false, false] _
 refine AI.take (i := 9) rfl rfl (by kernel_rfl) (by kernel_rfl) (by kernel_rfl) (fun _ _ h => h) (g_rem rfl rfl g9) ?_
 show AI _ _ _ _ _ _ #[true, true, true, true, true, true, true, true, true, true, false, false, false, false, false, false] _
 refine AI.take (i := 10) rfl rfl (by kernel_rfl) (by kernel_rfl) (by kernel_rfl) (fun _ _ h => h) (mv rfl) ?_
 show AI _ _ _ _ _ _ #[true, true, true, true, true, true, true, true, true, true, true, false, false, false, false, false] _
 refine AI.take (i := 11) rfl rfl (by kernel_rfl) (by kernel_rfl) (by kernel_rfl) (fun _ _ h => h) (g_rem rfl rfl g10) ?_
 show AI _ _ _ _ _ _ #[true, true, true, true, true, true, true, true, true, true, true, true, false, false, false, false] _
 refine AI.take (i := 12) rfl rfl (by kernel_rfl) (by kernel_rfl) (by kernel_rfl) (fun _ _ h => h) (g_add rfl rfl g11) ?_
 show AI _ _ _ _ _ _ #[true, true, true, true, true, true, true, true, true, true, true, true, true, false, false, false] _
 refine AI.take (i := 13) rfl rfl (by kernel_rfl) (by kernel_rfl) (by kernel_rfl) (fun _ _ h => h) (g_slice_str Tryz.underlying9 rfl rfl rfl g12 e14) ?_
 show AI _ _ _ _ _ _ #[true, true, true, true, true, true, true, true, true, true, true, true, true, true, false, false] _
 refine AI.take (i := 14) rfl rfl (by kernel_rfl) (by kernel_rfl) (by kernel_rfl) (fun _ _ h => h) (g_cat rfl rfl g15 e17) ?_
 show AI _ _ _ _ _ _ #[true, true, true, true, true, true, true, true, true, true, true, true, true, true, true, false] _
 refine AI.take (i := 15) rfl rfl (by kernel_rfl) (by kernel_rfl) (by kernel_rfl) (fun _ _ h => h) (asg rfl) ?_
 show AI _ _ _ _ _ _ #[true, true, true, true, true, true, true, true, true, true, true, true, true, true, true, true] _
 refine AI.done rfl ?_
 show AW _ _ _ _ _ _
 refine AW.ret ?_
 obtain rfl := Option.some.inj H
 exact And.intro rfl (Exists.intro _ (Exists.intro _ ⟨ResV.oneW rfl (.refl _), Sub.at [] rfl, rfl, rfl⟩))
set_option maxRecDepth 100000 in
set_option maxHeartbeats 1000000 in
theorem w_ref12_plain (F : Nat) (a1 : List UInt8) (q2 : Option Nat) (a3 : Int) (r4 : Bool) (H : ref12_plain F a1 a3 = some r4) : ACalls Tryz.prog 39 [slE Enc.byte a1 q2, i64 a3] [] (Ret (B r4) []) := by
 unfold ref12_plain at H
 refine ACalls.of_body Tryz.func39 rfl rfl ?_
 show AW _ _ 39 _ _ _
 refine AW.seq ?_
 refine AW.region ?_
 show AR _ _ _ _ _ [0] _
 refine sS rfl rfl rfl (asg rfl) ?_
 refine AR.nil ?_
 show AW _ _ _ _ _ _
 refine AW.seq ?_
 obtain ⟨g5, H⟩ := grd_s H
 obtain ⟨x6, e7, H⟩ := lt_s H
 refine AW.region ?_
 show AR _ _ _ _ _ [0, 1, 2, 3, 4] _
 refine sS rfl rfl rfl (opS_move (av := slE _ _ _) rfl) ?_
 refine sS rfl rfl rfl (mv rfl) ?_
 refine sS rfl rfl rfl (g_indexAddr (E := Enc.byte) Tryz.underlying26 (by kernel_rfl) rfl rfl g5 e7) ?_
 refine sS rfl rfl rfl (opS_load_cp Tryz.underlying5 rfl rfl) ?_
 refine sS rfl rfl rfl (asg rfl) ?_
 refine AR.nil ?_
 show AW _ _ _ _ _ _
 refine AW.seq ?_
 refine AW.seq ?_
 refine AW.region ?_
 show AR _ _ _ _ _ [0, 1, 2, 3, 4, 5] _
 refine sS rfl rfl rfl (mv rfl) ?_
 refine sS rfl rfl rfl (g_eq8 (a := x6) (b := 32) rfl rfl) ?_
 refine sS rfl rfl rfl (mv rfl) ?_
 refine AR.meet (l := []) 15 (B ((decide (x6 = 32)) || (decide (x6 = 9)))) (fun K => ?_) ?_
 ·rcases Bool.eq_false_or_eq_true (decide (x6 = 32)) with h8 | h8
  ·
   refine gF h8 rfl rfl rfl rfl rfl ?_
   refine gF h8 rfl rfl rfl rfl rfl ?_
   refine sS rfl rfl rfl (opS_pick_t (av := .v _) rfl h8 rfl) ?_
   exact K _ 2 _ (B_congr (or_t h8)) rfl rfl
  ·
   refine gT h8 rfl rfl rfl rfl rfl rfl (AO.ops rfl rfl (mv rfl) ?_)
   refine gT h8 rfl rfl rfl rfl rfl rfl (AO.ops rfl rfl (g_eq8 (a := x6) (b := 9) rfl rfl) ?_)
   refine sS rfl rfl rfl (opS_pick_f (av := .v _) rfl h8 rfl) ?_
   exact K _ 2 _ (B_congr (or_f h8)) rfl rfl
 refine AR.nil ?_
 show AW _ _ _ _ _ _
 refine AW.cond rfl (fun c9 => ?_) (fun c9 => ?_)
 ·replace H := cnd_t c9 H
  refine AW.seq ?_
  obtain ⟨g10, H⟩ := grd_s H
  obtain ⟨g12, H⟩ := grdc_s H
  obtain ⟨g13, H⟩ := grdc_s H
  obtain ⟨x14, e15, H⟩ := lt_s H
  refine AW.region ?_
  show AR _ _ _ _ _ [0, 1, 2, 3, 4, 5, 6, 7, 8, 9, 10, 11, 12, 13] _
  refine sS rfl rfl rfl (mv rfl) ?_
  refine sS rfl rfl rfl (g_add rfl rfl g10) ?_
  refine sS rfl rfl rfl (opS_move (av := slE _ _ _) rfl) ?_
  refine sS rfl rfl rfl (opS_len_sl Tryz.underlying26 rfl) ?_
  refine sS rfl rfl rfl (opS_lt rfl rfl) ?_
  refine sS rfl rfl rfl (mv rfl) ?_
  refine AR.meet (l := [13]) 28 (B ((decide (a3 + 1 < (a1.length : Int))) && (!decide (x14 = 10)))) (fun K => ?_) ?_
  ·rcases Bool.eq_false_or_eq_true (decide (a3 + 1 < (a1.length : Int))) with h11 | h11
   ·
    refine gT h11 rfl rfl rfl rfl rfl rfl (AO.ops rfl rfl (opS_move (av := slE _ _ _) rfl) ?_)
    refine gT h11 rfl rfl rfl rfl rfl rfl (AO.ops rfl rfl (mv rfl) ?_)
    refine gT h11 rfl rfl rfl rfl rfl rfl (AO.ops rfl rfl (g_add rfl rfl (g12 h11)) ?_)
    refine gT h11 rfl rfl rfl rfl rfl rfl (AO.ops rfl rfl (g_indexAddr (E := Enc.byte) Tryz.underlying26 (by kernel_rfl) rfl rfl (g13 h11) e15) ?_)
    refine gT h11 rfl rfl rfl rfl rfl rfl (AO.ops rfl rfl (opS_load_cp Tryz.underlying5 rfl rfl) ?_)
    refine gT h11 rfl rfl rfl rfl rfl rfl (AO.ops rfl rfl (g_ne8 (a := x14) (b := 10) rfl rfl) ?_)
    refine sS rfl rfl rfl (opS_pick_t (av := .v _) rfl h11 rfl) ?_
    exact K _ 6 _ (B_congr (and_t h11)) rfl rfl
   ·
    refine gF h11 rfl rfl rfl rfl rfl ?_
    refine gF h11 rfl rfl rfl rfl rfl ?_
    refine gF h11 rfl rfl rfl rfl rfl ?_
    refine gF h11 rfl rfl rfl rfl rfl ?_
    refine gF h11 rfl rfl rfl rfl rfl ?_
    refine gF h11 rfl rfl rfl rfl rfl ?_
    refine sS rfl rfl rfl (opS_pick_f (av := .v _) rfl h11 rfl) ?_
    exact K _ 6 _ (B_congr (and_f h11)) rfl rfl
  refine sS rfl rfl rfl (asg rfl) ?_
  refine AR.nil ?_
  show AW _ _ _ _ _ _
  refine AW.ret ?_
  obtain rfl := Option.some.inj H
  exact And.intro rfl (Exists.intro _ (Exists.intro _ ⟨ResV.oneW rfl (.refl _), Sub.at [] rfl, rfl, rfl⟩))
 ·replace H := cnd_f c9 H
  refine AW.skip ?_
  show AW _ _ _ _ _ _
  refine AW.seq ?_
  refine AW.region ?_
  show AR _ _ _ _ _ [0, 1, 2, 3, 4, 5, 6, 7, 8, 9, 10] _
  refine sS rfl rfl rfl (mv rfl) ?_
  refine sS rfl rfl rfl (opS_ge rfl rfl) ?_
  refine sS rfl rfl rfl (mv rfl) ?_
  refine AR.meet (l := [6, 7, 8, 9, 10]) 34 (B ((decide (33 ≤ (x6.toNat : Int))) && (decide ((x6.toNat : Int) ≤ 126)))) (fun K => ?_) ?_
  ·rcases Bool.eq_false_or_eq_true (decide (33 ≤ (x6.toNat : Int))) with h16 | h16
   ·
    refine gT h16 rfl rfl rfl rfl rfl rfl (AO.ops rfl rfl (mv rfl) ?_)
    refine gT h16 rfl rfl rfl rfl rfl rfl (AO.ops rfl rfl (opS_le rfl rfl) ?_)
    refine sS rfl rfl rfl (opS_pick_t (av := .v _) rfl h16 rfl) ?_
    exact K _ 2 _ (B_congr (and_t h16)) rfl rfl
   ·
    refine gF h16 rfl rfl rfl rfl rfl ?_
    refine gF h16 rfl rfl rfl rfl rfl ?_
    refine sS rfl rfl rfl (opS_pick_f (av := .v _) rfl h16 rfl) ?_
    exact K _ 2 _ (B_congr (and_f h16)) rfl rfl
  refine sS rfl rfl rfl (mv rfl) ?_
  refine AR.meet (l := [10]) 38 (B (((decide (33 ≤ (x6.toNat : Int))) && (decide ((x6.toNat : Int) ≤ 126))) && (!decide (x6 = 61)))) (fun K => ?_) ?_
  ·rcases Bool.eq_false_or_eq_true ((decide (33 ≤ (x6.toNat : Int))) && (decide ((x6.toNat : Int) ≤ 126))) with h17 | h17
   ·
    refine gT h17 rfl rfl rfl rfl rfl rfl (AO.ops rfl rfl (mv rfl) ?_)
    refine gT h17 rfl rfl rfl rfl rfl rfl (AO.ops rfl rfl (g_ne8 (a := x6) (b := 61) rfl rfl) ?_)
    refine sS rfl rfl rfl (opS_pick_t (av := .v _) rfl h17 rfl) ?_
    exact K _ 2 _ (B_congr (and_t h17)) rfl rfl
   ·
    refine gF h17 rfl rfl rfl rfl rfl ?_
    refine gF h17 rfl rfl rfl rfl rfl ?_
    refine sS rfl rfl rfl (opS_pick_f (av := .v _) rfl h17 rfl) ?_
    exact K _ 2 _ (B_congr (and_f h17)) rfl rfl
  refine sS rfl rfl rfl (asg rfl) ?_
  refine AR.nil ?_
  show AW _ _ _ _ _ _
  refine AW.ret ?_
  obtain rfl := Option.some.inj H
  exact And.intro rfl (Exists.intro _ (Exists.intro _ ⟨ResV.oneW rfl (.refl _), Sub.at [] rfl, rfl, rfl⟩))
set_option maxRecDepth 100000 in
set_option maxHeartbeats 1000000 in
theorem w_ref12_Encode (F : Nat) (a1 : List UInt8) (q2 : Option Nat) (r3 : List UInt8) (H : ref12_Encode F a1 = some r3) : ACalls Tryz.prog 19 [slE Enc.byte a1 q2] [] (Ret (slE Enc.byte r3 none) []) := by
 unfold ref12_Encode at H
 refine ACalls.of_body Tryz.func19 rfl rfl ?_
 show AW _ _ 54 _ _ _
 refine AW.seq ?_
 refine AW.region ?_
 show AR _ _ _ _ _ [0] _
 refine sS rfl rfl rfl (asg rfl) ?_
 refine AR.nil ?_
 show AW _ _ _ _ _ _
 refine AW.seq ?_
 refine AW.region ?_
 show AR _ _ _ _ _ [0] _
 refine sS rfl rfl rfl (asg rfl) ?_
 refine AR.nil ?_
 show AW _ _ _ _ _ _
 refine AW.nil_grows 3 1 5 rfl fun t4 => ?_
 show AW _ _ _ _ _ ⟨(3, slE Enc.byte [] (some t4)) :: _, _, _⟩
 refine AW.seq ?_
 refine AW.region ?_
 show AR _ _ _ _ _ [0] _
 refine sS rfl rfl rfl (asg rfl) ?_
 refine AR.nil ?_
 show AW _ _ _ _ _ _
 refine AW.cut (X := (List UInt8) × Nat) (fun (y57, t58) => ⟨[(3, slE Enc.byte y57 (some t58))], [], [.tok t58 5]⟩) (fun (y57, t58) => ref12_Encode_j1 y57 = some r3) ?_ ?_
 ·
  refine AW.seq ?_
  refine AW.region ?_
  show AR _ _ _ _ _ [0] _
  refine sS rfl rfl rfl (asg rfl) ?_
  refine AR.nil ?_
  show AW _ _ _ _ _ _
  refine AW.block ?_
  refine AW.loop (X := Nat × (List UInt8) × Nat × Int × Int) (fun (n10, y5, t6, y7, y8) => ⟨[(0, slE Enc.byte a1 q2), (3, slE Enc.byte y5 (some t6)), (4, i64 y7), (5, i64 y8)], [], [.tok t6 5]⟩) (fun (n10, y5, t6, y7, y8) => ref12_Encode_L1 F a1 n10 (y5, y7, y8) = some r3) (fun (n10, y5, t6, y7, y8) => n10) (F, [], t4, 0, 0) H (WK.at [0] (.cons (.refl _) (.cons (.refl _) (.cons (.refl _) (.cons (.refl _) (.nil _))))) rfl) ?_
  rintro ⟨n10, y5, t6, y7, y8⟩ H
  obtain ⟨n10, rfl, H⟩ := loop_s H
  replace H : ref12_Encode_B1 F a1 (ref12_Encode_L1 F a1 n10) y5 y7 y8 = some r3 := H
  unfold ref12_Encode_B1 at H
  show AW _ _ _ _ _ _
  refine AW.seq ?_
  refine AW.seq ?_
  refine AW.region ?_
  show AR _ _ _ _ _ [0, 1, 2, 3] _
  refine sS rfl rfl rfl (mv rfl) ?_
  refine sS rfl rfl rfl (opS_move (av := slE _ _ _) rfl) ?_
  refine sS rfl rfl rfl (opS_len_sl Tryz.underlying26 rfl) ?_
  refine sS rfl rfl rfl (opS_lt rfl rfl) ?_
  refine AR.nil ?_
  show AW _ _ _ _ _ _
  refine AW.cond rfl (fun c11 => ?_) (fun c11 => ?_)
  ·replace H := cnd_t c11 H
   refine AW.skip ?_
   show AW _ _ _ _ _ _
   refine AW.cut (X := (List UInt8) × Nat × Int) (fun (y52, t53, y54) => ⟨[(0, slE Enc.byte a1 q2), (3, slE Enc.byte y52 (some t53)), (4, i64 y54), (5, i64 y8)], [], [.tok t53 5]⟩) (fun (y52, t53, y54) => ref12_Encode_j2 y8 (ref12_Encode_L1 F a1 n10) y52 y54 = some r3) ?_ ?_
   ·
    refine AW.block ?_
    refine AW.seq ?_
    refine AW.seq ?_
    obtain ⟨g12, H⟩ := grd_s H
    obtain ⟨x13, e14, H⟩ := lt_s H
    refine AW.region ?_
    show AR _ _ _ _ _ [0, 1, 2, 3, 4] _
    refine sS rfl rfl rfl (opS_move (av := slE _ _ _) rfl) ?_
    refine sS rfl rfl rfl (mv rfl) ?_
    refine sS rfl rfl rfl (g_indexAddr (E := Enc.byte) Tryz.underlying26 (by kernel_rfl) rfl rfl g12 e14) ?_
    refine sS rfl rfl rfl (opS_load_cp Tryz.underlying5 rfl rfl) ?_
    refine sS rfl rfl rfl (g_eq8 (a := x13) (b := 10) rfl rfl) ?_
    refine AR.nil ?_
    show AW _ _ _ _ _ _
    refine AW.cond rfl (fun c15 => ?_) (fun c15 => ?_)
    ·replace H := cnd_t c15 H
     refine AW.seq ?_
     obtain ⟨g17, H⟩ := grd_s H
     obtain ⟨x18, e19, H⟩ := lt_s H
     refine AW.region ?_
     show AR _ _ _ _ _ [0, 1, 2, 3] _
     refine sS rfl rfl rfl (opS_move (av := slE _ _ _) rfl) ?_
     refine sR rfl rfl rfl (opR_buildE (E := Enc.byte) (bytes := 1) (xs := [.const _, .const _]) (l := ([13, 10] : List UInt8)) Tryz.underlying26 (by kernel_rfl) rfl rfl (by decide) rfl rfl) ?_
     refine sX rfl rfl rfl (g_append (E := Enc.byte) (bytes := 1) 0 Tryz.underlying26 Tryz.underlying26 rfl (by kernel_rfl) rfl rfl rfl rfl g17 e19) ?_
     rintro _ _ ⟨t16, rfl, rfl⟩
     refine sS rfl rfl rfl (opS_assign (av := slE _ _ _) rfl) ?_
     refine AR.nil ?_
     show AW _ _ _ _ _ _
     refine AW.seq ?_
     refine AW.region ?_
     show AR _ _ _ _ _ [0] _
     refine sS rfl rfl rfl (asg rfl) ?_
     refine AR.nil ?_
     show AW _ _ _ _ _ _
     refine AW.exit ?_
     exact Exists.intro (x18, t16, 0) ⟨H, WK.at [0] (.cons (.refl _) (.cons (.refl _) (.cons (.refl _) (.cons (.refl _) (.nil _))))) rfl⟩
    ·replace H := cnd_f c15 H
     refine AW.skip ?_
     show AW _ _ _ _ _ _
     refine AW.seq ?_
     obtain ⟨g20, H⟩ := grd_s H
     obtain ⟨x21, e22, H⟩ := lt_s H
     obtain ⟨x23, e24, H⟩ := bnd_s H
     obtain ⟨g25, H⟩ := grd_s H
     obtain ⟨x26, e27, H⟩ := lt_s H
     refine AW.region ?_
     show AR _ _ _ _ _ [0, 1, 2, 3, 4, 5, 6] _
     refine sS rfl rfl rfl (opS_move (av := slE _ _ _) rfl) ?_
     refine sS rfl rfl rfl (mv rfl) ?_
     refine sS rfl rfl rfl (g_indexAddr (E := Enc.byte) Tryz.underlying26 (by kernel_rfl) rfl rfl g20 e22) ?_
     refine sS rfl rfl rfl (opS_load_cp Tryz.underlying5 rfl rfl) ?_
     refine AR.run rfl rfl (AO.callp rfl en38_partr rfl (w_ref12_Hex F x21 x23 e24) ?_)
     refine sS rfl rfl rfl (g_cat rfl rfl g25 e27) ?_
     refine sS rfl rfl rfl (asg rfl) ?_
     refine AR.nil ?_
     show AW _ _ _ _ _ _
     refine AW.seq ?_
     obtain ⟨x28, e29, H⟩ := bnd_s H
     refine AW.region ?_
     show AR _ _ _ _ _ [0, 1, 2, 3] _
     refine sS rfl rfl rfl (opS_move (av := slE _ _ _) rfl) ?_
     refine sS rfl rfl rfl (mv rfl) ?_
     refine AR.run rfl rfl (AO.callp rfl en39_partr rfl (w_ref12_plain F a1 q2 y8 x28 e29) ?_)
     refine sS rfl rfl rfl (asg rfl) ?_
     refine AR.nil ?_
     show AW _ _ _ _ _ _
     refine AW.cut (X := (List UInt8)) (fun y35 => ⟨[(0, slE Enc.byte a1 q2), (3, slE Enc.byte y5 (some t6)), (4, i64 y7), (5, i64 y8), (6, S y35)], [], [.tok t6 5]⟩) (fun y35 => ref12_Encode_j4 y5 y7 y8 (ref12_Encode_L1 F a1 n10) y35 = some r3) ?_ ?_
     ·
      refine AW.seq ?_
      refine AW.region ?_
      show AR _ _ _ _ _ [0] _
      refine sS rfl rfl rfl (mv rfl) ?_
      refine AR.nil ?_
      show AW _ _ _ _ _ _
      refine AW.cond rfl (fun c30 => ?_) (fun c30 => ?_)
      ·replace H := cnd_t c30 H
       obtain ⟨g31, H⟩ := grd_s H
       obtain ⟨g32, H⟩ := grd_s H
       obtain ⟨x33, e34, H⟩ := lt_s H
       refine AW.region ?_
       show AR _ _ _ _ _ [0, 1, 2, 3, 4, 5, 6] _
       refine sS rfl rfl rfl (opS_move (av := slE _ _ _) rfl) ?_
       refine sS rfl rfl rfl (mv rfl) ?_
       refine sS rfl rfl rfl (mv rfl) ?_
       refine sS rfl rfl rfl (g_add rfl rfl g31) ?_
       refine sS rfl rfl rfl (g_slice_sl (E := Enc.byte) Tryz.underlying26 (by kernel_rfl) rfl rfl rfl g32 e34) ?_
       refine sS rfl rfl rfl (opS_conv_bytes_str Tryz.underlying26 Tryz.underlying5 Tryz.underlying9 rfl) ?_
       refine sS rfl rfl rfl (asg rfl) ?_
       refine AR.nil ?_
       exact Exists.intro x33 ⟨H, WK.at [0] (.cons (.refl _) (.cons (.refl _) (.cons (.refl _) (.cons (.refl _) (.cons (.refl _) (.nil _)))))) rfl⟩
      ·replace H := cnd_f c30 H
       refine AW.skip ?_
       exact Exists.intro x26 ⟨H, WK.at [0] (.cons (.refl _) (.cons (.refl _) (.cons (.refl _) (.cons (.refl _) (.cons (.refl _) (.nil _)))))) rfl⟩
     rintro y35 H
     replace H : ref12_Encode_j4 y5 y7 y8 (ref12_Encode_L1 F a1 n10) y35 = some r3 := H
     unfold ref12_Encode_j4 at H
     show AW _ _ _ _ _ _
     refine AW.cut (X := (List UInt8) × Nat × Int) (fun (y43, t44, y45) => ⟨[(0, slE Enc.byte a1 q2), (3, slE Enc.byte y43 (some t44)), (4, i64 y45), (5, i64 y8), (6, S y35)], [], [.tok t44 5]⟩) (fun (y43, t44, y45) => ref12_Encode_j3 y8 y35 (ref12_Encode_L1 F a1 n10) y43 y45 = some r3) ?_ ?_
     ·
      refine AW.seq ?_
      obtain ⟨g37, H⟩ := grd_s H
      refine AW.region ?_
      show AR _ _ _ _ _ [0, 1, 2, 3, 4] _
      refine sS rfl rfl rfl (mv rfl) ?_
      refine sS rfl rfl rfl (mv rfl) ?_
      refine sS rfl rfl rfl (opS_len_str Tryz.underlying9 rfl) ?_
      refine sS rfl rfl rfl (g_add rfl rfl g37) ?_
      refine sS rfl rfl rfl (opS_gt rfl rfl) ?_
      refine AR.nil ?_
      show AW _ _ _ _ _ _
      refine AW.cond rfl (fun c38 => ?_) (fun c38 => ?_)
      ·replace H := cnd_t c38 H
       refine AW.seq ?_
       obtain ⟨g40, H⟩ := grd_s H
       obtain ⟨x41, e42, H⟩ := lt_s H
       refine AW.region ?_
       show AR _ _ _ _ _ [0, 1, 2, 3] _
       refine sS rfl rfl rfl (opS_move (av := slE _ _ _) rfl) ?_
       refine sR rfl rfl rfl (opR_buildE (E := Enc.byte) (bytes := 1) (xs := [.const _, .const _, .const _]) (l := ([61, 13, 10] : List UInt8)) Tryz.underlying26 (by kernel_rfl) rfl rfl (by decide) rfl rfl) ?_
       refine sX rfl rfl rfl (g_append (E := Enc.byte) (bytes := 1) 0 Tryz.underlying26 Tryz.underlying26 rfl (by kernel_rfl) rfl rfl rfl rfl g40 e42) ?_
       rintro _ _ ⟨t39, rfl, rfl⟩
       refine sS rfl rfl rfl (opS_assign (av := slE _ _ _) rfl) ?_
       refine AR.nil ?_
       show AW _ _ _ _ _ _
       refine AW.region ?_
       show AR _ _ _ _ _ [0] _
       refine sS rfl rfl rfl (asg rfl) ?_
       refine AR.nil ?_
       exact Exists.intro (x41, t39, 0) ⟨H, WK.at [0] (.cons (.refl _) (.cons (.refl _) (.cons (.refl _) (.cons (.refl _) (.cons (.refl _) (.nil _)))))) rfl⟩
      ·replace H := cnd_f c38 H
       refine AW.skip ?_
       exact Exists.intro (y5, t6, y7) ⟨H, WK.at [0] (.cons (.refl _) (.cons (.refl _) (.cons (.refl _) (.cons (.refl _) (.cons (.refl _) (.nil _)))))) rfl⟩
     rintro ⟨y43, t44, y45⟩ H
     replace H : ref12_Encode_j3 y8 y35 (ref12_Encode_L1 F a1 n10) y43 y45 = some r3 := H
     unfold ref12_Encode_j3 at H
     show AW _ _ _ _ _ _
     refine AW.seq ?_
     obtain ⟨g48, H⟩ := grd_s H
     obtain ⟨x49, e50, H⟩ := lt_s H
     refine AW.region ?_
     show AR _ _ _ _ _ [0, 1, 2, 3] _
     refine sS rfl rfl rfl (opS_move (av := slE _ _ _) rfl) ?_
     refine sS rfl rfl rfl (mv rfl) ?_
     refine sX rfl rfl rfl (g_append_str (bytes := 1) 0 Tryz.underlying26 Tryz.underlying9 rfl (by kernel_rfl) rfl rfl rfl rfl g48 e50) ?_
     rintro _ _ ⟨t47, rfl, rfl⟩
     refine sS rfl rfl rfl (opS_assign (av := slE _ _ _) rfl) ?_
     refine AR.nil ?_
     show AW _ _ _ _ _ _
     obtain ⟨g51, H⟩ := grd_s H
     refine AW.region ?_
     show AR _ _ _ _ _ [0, 1, 2, 3, 4] _
     refine sS rfl rfl rfl (mv rfl) ?_
     refine sS rfl rfl rfl (mv rfl) ?_
     refine sS rfl rfl rfl (opS_len_str Tryz.underlying9 rfl) ?_
     refine sS rfl rfl rfl (g_add rfl rfl g51) ?_
     refine sS rfl rfl rfl (asg rfl) ?_
     refine AR.nil ?_
     exact Exists.intro (x49, t47, y45 + (y35.length : Int)) ⟨H, WK.at [0] (.cons (.refl _) (.cons (.refl _) (.cons (.refl _) (.cons (.refl _) (.nil _))))) rfl⟩
   rintro ⟨y52, t53, y54⟩ H
   replace H : ref12_Encode_j2 y8 (ref12_Encode_L1 F a1 n10) y52 y54 = some r3 := H
   unfold ref12_Encode_j2 at H
   show AW _ _ _ _ _ _
   obtain ⟨g56, H⟩ := grd_s H
   refine AW.region ?_
   show AR _ _ _ _ _ [0, 1, 2] _
   refine sS rfl rfl rfl (mv rfl) ?_
   refine sS rfl rfl rfl (g_add rfl rfl g56) ?_
   refine sS rfl rfl rfl (asg rfl) ?_
   refine AR.nil ?_
   exact Exists.intro (n10, y52, t53, y54, y8 + 1) ⟨H, Nat.lt_succ_self _, WK.at [0] (.cons (.refl _) (.cons (.refl _) (.cons (.refl _) (.cons (.refl _) (.nil _))))) rfl⟩
  ·replace H := cnd_f c11 H
   refine AW.exit ?_
   exact Exists.intro (y5, t6) ⟨H, WK.at [0] (.cons (.refl _) (.nil _)) rfl⟩
 rintro ⟨y57, t58⟩ H
 replace H : ref12_Encode_j1 y57 = some r3 := H
 unfold ref12_Encode_j1 at H
 show AW _ _ _ _ _ _
 refine AW.seq ?_
 refine AW.region ?_
 show AR _ _ _ _ _ [0, 1] _
 refine sS rfl rfl rfl (opS_move (av := slE _ _ _) rfl) ?_
 refine sS rfl rfl rfl (opS_assign (av := slE _ _ _) rfl) ?_
 refine AR.nil ?_
 show AW _ _ _ _ _ _
 refine AW.ret ?_
 obtain rfl := Option.some.inj H
 exact And.intro rfl (Exists.intro _ (Exists.intro _ ⟨ResV.oneW rfl (.tok _ _ _), Sub.at [] rfl, rfl, rfl⟩))
set_option maxRecDepth 100000 in
set_option maxHeartbeats 1000000 in
theorem w_ref15_at (F : Nat) (a1 : List UInt8) (a2 : List UInt8) (a3 : Int) (r4 : Int) (H : ref15_at F a1 a2 a3 = some r4) : ACalls Tryz.prog 32 [S a1, S a2, i64 a3] [] (Ret (i64 r4) []) := by
 unfold ref15_at at H
 refine ACalls.of_body Tryz.func32 rfl rfl ?_
 show AW _ _ 28 _ _ _
 refine AW.seq ?_
 refine AW.region ?_
 show AR _ _ _ _ _ [0] _
 refine sS rfl rfl rfl (asg rfl) ?_
 refine AR.nil ?_
 show AW _ _ _ _ _ _
 refine AW.cut (X := Unit) (fun _ => ⟨[], [], []⟩) (fun _ => ref15_at_j1 = some r4) ?_ ?_
 ·
  refine AW.seq ?_
  refine AW.region ?_
  show AR _ _ _ _ _ [0, 1] _
  refine sS rfl rfl rfl (mv rfl) ?_
  refine sS rfl rfl rfl (asg rfl) ?_
  refine AR.nil ?_
  show AW _ _ _ _ _ _
  refine AW.block ?_
  refine AW.loop (X := Nat × Int) (fun (n7, y5) => ⟨[(0, S a1), (1, S a2), (7, i64 y5)], [], []⟩) (fun (n7, y5) => ref15_at_L1 a1 a2 n7 y5 = some r4) (fun (n7, y5) => n7) (F, a3) H (WK.at [] (.cons (.refl _) (.cons (.refl _) (.cons (.refl _) (.nil _)))) rfl) ?_
  rintro ⟨n7, y5⟩ H
  obtain ⟨n7, rfl, H⟩ := loop_s H
  replace H : ref15_at_B1 a1 a2 (ref15_at_L1 a1 a2 n7) y5 = some r4 := H
  unfold ref15_at_B1 at H
  show AW _ _ _ _ _ _
  refine AW.seq ?_
  refine AW.seq ?_
  obtain ⟨g8, H⟩ := grd_s H
  refine AW.region ?_
  show AR _ _ _ _ _ [0, 1, 2, 3, 4, 5, 6] _
  refine sS rfl rfl rfl (mv rfl) ?_
  refine sS rfl rfl rfl (mv rfl) ?_
  refine sS rfl rfl rfl (opS_len_str Tryz.underlying9 rfl) ?_
  refine sS rfl rfl rfl (g_add rfl rfl g8) ?_
  refine sS rfl rfl rfl (mv rfl) ?_
  refine sS rfl rfl rfl (opS_len_str Tryz.underlying9 rfl) ?_
  refine sS rfl rfl rfl (opS_le rfl rfl) ?_
  refine AR.nil ?_
  show AW _ _ _ _ _ _
  refine AW.cond rfl (fun c9 => ?_) (fun c9 => ?_)
  ·replace H := cnd_t c9 H
   refine AW.skip ?_
   show AW _ _ _ _ _ _
   refine AW.seq ?_
   refine AW.block ?_
   refine AW.seq ?_
   obtain ⟨g10, H⟩ := grd_s H
   obtain ⟨g11, H⟩ := grd_s H
   obtain ⟨x12, e13, H⟩ := lt_s H
   refine AW.region ?_
   show AR _ _ _ _ _ [0, 1, 2, 3, 4, 5, 6, 7, 8] _
   refine sS rfl rfl rfl (mv rfl) ?_
   refine sS rfl rfl rfl (mv rfl) ?_
   refine sS rfl rfl rfl (mv rfl) ?_
   refine sS rfl rfl rfl (mv rfl) ?_
   refine sS rfl rfl rfl (opS_len_str Tryz.underlying9 rfl) ?_
   refine sS rfl rfl rfl (g_add rfl rfl g10) ?_
   refine sS rfl rfl rfl (g_slice_str Tryz.underlying9 rfl rfl rfl g11 e13) ?_
   refine sS rfl rfl rfl (mv rfl) ?_
   refine sS rfl rfl rfl (opS_eqs rfl rfl) ?_
   refine AR.nil ?_
   show AW _ _ _ _ _ _
   refine AW.cond rfl (fun c14 => ?_) (fun c14 => ?_)
   ·replace H := cnd_t c14 H
    refine AW.seq ?_
    refine AW.region ?_
    show AR _ _ _ _ _ [0, 1] _
    refine sS rfl rfl rfl (mv rfl) ?_
    refine sS rfl rfl rfl (asg rfl) ?_
    refine AR.nil ?_
    show AW _ _ _ _ _ _
    refine AW.ret ?_
    obtain rfl := Option.some.inj H
    exact And.intro rfl (Exists.intro _ (Exists.intro _ ⟨ResV.oneW rfl (.refl _), Sub.at [] rfl, rfl, rfl⟩))
   ·replace H := cnd_f c14 H
    refine AW.skip ?_
    show AW _ _ _ _ _ _
    obtain ⟨g15, H⟩ := grd_s H
    refine AW.region ?_
    show AR _ _ _ _ _ [0, 1, 2] _
    refine sS rfl rfl rfl (mv rfl) ?_
    refine sS rfl rfl rfl (g_add rfl rfl g15) ?_
    refine sS rfl rfl rfl (asg rfl) ?_
    refine AR.nil ?_
    exact Exists.intro (n7, y5 + 1) ⟨H, Nat.lt_succ_self _, WK.at [] (.cons (.refl _) (.cons (.refl _) (.cons (.refl _) (.nil _)))) rfl⟩
  ·replace H := cnd_f c9 H
   refine AW.exit ?_
   exact Exists.intro () ⟨H, WK.at [] (.nil _) rfl⟩
 rintro _ H
 replace H : ref15_at_j1 = some r4 := H
 unfold ref15_at_j1 at H
 show AW _ _ _ _ _ _
 refine AW.seq ?_
 refine AW.region ?_
 show AR _ _ _ _ _ [0] _
 refine sS rfl rfl rfl (asg rfl) ?_
 refine AR.nil ?_
 show AW _ _ _ _ _ _
 refine AW.ret ?_
 obtain rfl := Option.some.inj H
 exact And.intro rfl (Exists.intro _ (Exists.intro _ ⟨ResV.oneW rfl (.refl _), Sub.at [] rfl, rfl, rfl⟩))
set_option maxRecDepth 100000 in
set_option maxHeartbeats 1000000 in
theorem w_ref15_Boundary (F : Nat) (a1 : List (List UInt8)) (q2 : Option Nat) (r3 : List UInt8) (H : ref15_Boundary F a1 = some r3) : ACalls Tryz.prog 13 [slE (Enc.sl Enc.byte) a1 q2] [] (Ret (S r3) []) := by
 unfold ref15_Boundary at H
 refine ACalls.of_body Tryz.func13 rfl rfl ?_
 show AW _ _ 32 _ _ _
 refine AW.seq ?_
 refine AW.region ?_
 show AR _ _ _ _ _ [0] _
 refine sS rfl rfl rfl (asg rfl) ?_
 refine AR.nil ?_
 show AW _ _ _ _ _ _
 refine AW.seq ?_
 refine AW.region ?_
 show AR _ _ _ _ _ [0] _
 refine sS rfl rfl rfl (asg rfl) ?_
 refine AR.nil ?_
 show AW _ _ _ _ _ _
 refine AW.block ?_
 refine AW.loop (X := Nat × Int) (fun (n6, y4) => ⟨[(0, slE (Enc.sl Enc.byte) a1 q2), (3, i64 y4)], [], []⟩) (fun (n6, y4) => ref15_Boundary_L2 F a1 n6 y4 = some r3) (fun (n6, y4) => n6) (F, 0) H (WK.at [] (.cons (.refl _) (.cons (.refl _) (.nil _))) rfl) ?_
 rintro ⟨n6, y4⟩ H
 obtain ⟨n6, rfl, H⟩ := loop_s H
 replace H : ref15_Boundary_B2 F a1 (ref15_Boundary_L2 F a1 n6) y4 = some r3 := H
 unfold ref15_Boundary_B2 at H
 show AW _ _ _ _ _ _
 refine AW.cut (X := Unit) (fun _ => ⟨[(0, slE (Enc.sl Enc.byte) a1 q2), (3, i64 y4)], [], []⟩) (fun _ => ref15_Boundary_j1 y4 (ref15_Boundary_L2 F a1 n6) = some r3) ?_ ?_
 ·
  refine AW.block ?_
  refine AW.seq ?_
  obtain ⟨x7, e8, H⟩ := bnd_s H
  obtain ⟨g9, H⟩ := grd_s H
  obtain ⟨x10, e11, H⟩ := lt_s H
  refine AW.region ?_
  show AR _ _ _ _ _ [0, 1, 2, 3] _
  refine sS rfl rfl rfl (mv rfl) ?_
  refine AR.run rfl rfl (AO.callp rfl en31_partr rfl (w_ref03_Number F y4 x7 e8) ?_)
  refine sS rfl rfl rfl (g_cat rfl rfl g9 e11) ?_
  refine sS rfl rfl rfl (asg rfl) ?_
  refine AR.nil ?_
  show AW _ _ _ _ _ _
  refine AW.seq ?_
  refine AW.region ?_
  show AR _ _ _ _ _ [0] _
  refine sS rfl rfl rfl (asg rfl) ?_
  refine AR.nil ?_
  show AW _ _ _ _ _ _
  refine AW.cut (X := Bool) (fun y24 => ⟨[(0, slE (Enc.sl Enc.byte) a1 q2), (3, i64 y4), (4, S x10), (5, B y24)], [], []⟩) (fun y24 => ref15_Boundary_j2 y4 (ref15_Boundary_L2 F a1 n6) x10 y24 = some r3) ?_ ?_
  ·
   refine AW.seq ?_
   refine AW.region ?_
   show AR _ _ _ _ _ [0] _
   refine sS rfl rfl rfl (asg rfl) ?_
   refine AR.nil ?_
   show AW _ _ _ _ _ _
   refine AW.block ?_
   refine AW.loop (X := Nat × Bool × Int) (fun (n15, y12, y13) => ⟨[(0, slE (Enc.sl Enc.byte) a1 q2), (3, i64 y4), (4, S x10), (5, B y12), (6, i64 y13)], [], []⟩) (fun (n15, y12, y13) => ref15_Boundary_L1 F a1 y4 (ref15_Boundary_L2 F a1 n6) x10 n15 (y12, y13) = some r3) (fun (n15, y12, y13) => n15) (F, false, 0) H (WK.at [] (.cons (.refl _) (.cons (.refl _) (.cons (.refl _) (.cons (.refl _) (.cons (.refl _) (.nil _)))))) rfl) ?_
   rintro ⟨n15, y12, y13⟩ H
   obtain ⟨n15, rfl, H⟩ := loop_s H
   replace H : ref15_Boundary_B1 F a1 y4 (ref15_Boundary_L2 F a1 n6) x10 (ref15_Boundary_L1 F a1 y4 (ref15_Boundary_L2 F a1 n6) x10 n15) y12 y13 = some r3 := H
   unfold ref15_Boundary_B1 at H
   show AW _ _ _ _ _ _
   refine AW.seq ?_
   refine AW.seq ?_
   refine AW.region ?_
   show AR _ _ _ _ _ [0, 1, 2, 3] _
   refine sS rfl rfl rfl (mv rfl) ?_
   refine sS rfl rfl rfl (opS_move (av := slE _ _ _) rfl) ?_
   refine sS rfl rfl rfl (opS_len_sl Tryz.underlying23 rfl) ?_
   refine sS rfl rfl rfl (opS_lt rfl rfl) ?_
   refine AR.nil ?_
   show AW _ _ _ _ _ _
   refine AW.cond rfl (fun c16 => ?_) (fun c16 => ?_)
   ·replace H := cnd_t c16 H
    refine AW.skip ?_
    show AW _ _ _ _ _ _
    refine AW.seq ?_
    refine AW.block ?_
    obtain ⟨g18, H⟩ := grdc_s H
    obtain ⟨x19, e20, H⟩ := lt_s H
    obtain ⟨x21, e22, H⟩ := bndc_s H
    refine AW.region ?_
    show AR _ _ _ _ _ [0, 1, 2, 3, 4, 5, 6, 7, 8, 9, 10, 11] _
    refine sS rfl rfl rfl (mv rfl) ?_
    refine sS rfl rfl rfl (mv rfl) ?_
    refine AR.meet (l := [11]) 28 (B (y12 || (decide (0 ≤ x21)))) (fun K => ?_) ?_
    ·rcases Bool.eq_false_or_eq_true y12 with h17 | h17
     ·
      refine gF h17 rfl rfl rfl rfl rfl ?_
      refine gF h17 rfl rfl rfl rfl rfl ?_
      refine gF h17 rfl rfl rfl rfl rfl ?_
      refine gF h17 rfl rfl rfl rfl rfl ?_
      refine gF h17 rfl rfl rfl rfl rfl ?_
      refine gF h17 rfl rfl rfl rfl rfl ?_
      refine gF h17 rfl rfl rfl rfl rfl ?_
      refine gF h17 rfl rfl rfl rfl rfl ?_
      refine sS rfl rfl rfl (opS_pick_t (av := .v _) rfl h17 rfl) ?_
      exact K _ 8 _ (B_congr (or_t h17)) rfl rfl
     ·
      refine gT h17 rfl rfl rfl rfl rfl rfl (AO.ops rfl rfl (opS_move (av := slE _ _ _) rfl) ?_)
      refine gT h17 rfl rfl rfl rfl rfl rfl (AO.ops rfl rfl (mv rfl) ?_)
      refine gT h17 rfl rfl rfl rfl rfl rfl (AO.ops rfl rfl (g_indexAddr (E := (Enc.sl Enc.byte)) Tryz.underlying23 (by kernel_rfl) rfl rfl (g18 (nf h17)) e20) ?_)
      refine gT h17 rfl rfl rfl rfl rfl rfl (AO.ops rfl rfl (opS_load_cp Tryz.underlying26 rfl rfl) ?_)
      refine gT h17 rfl rfl rfl rfl rfl rfl (AO.ops rfl rfl (opS_conv_bytes_str Tryz.underlying26 Tryz.underlying5 Tryz.underlying9 rfl) ?_)
      refine gT h17 rfl rfl rfl rfl rfl rfl (AO.ops rfl rfl (mv rfl) ?_)
      refine gT h17 rfl rfl rfl rfl rfl rfl (AO.callp rfl en32_partr rfl (w_ref15_at F x19 x10 0 x21 (e22 (nf h17))) ?_)
      refine gT h17 rfl rfl rfl rfl rfl rfl (AO.ops rfl rfl (opS_ge rfl rfl) ?_)
      refine sS rfl rfl rfl (opS_pick_f (av := .v _) rfl h17 rfl) ?_
      exact K _ 8 _ (B_congr (or_f h17)) rfl rfl
    refine sS rfl rfl rfl (asg rfl) ?_
    refine AR.nil ?_
    show AW _ _ _ _ _ _
    obtain ⟨g23, H⟩ := grd_s H
    refine AW.region ?_
    show AR _ _ _ _ _ [0, 1, 2] _
    refine sS rfl rfl rfl (mv rfl) ?_
    refine sS rfl rfl rfl (g_add rfl rfl g23) ?_
    refine sS rfl rfl rfl (asg rfl) ?_
    refine AR.nil ?_
    exact Exists.intro (n15, y12 || (decide (0 ≤ x21)), y13 + 1) ⟨H, Nat.lt_succ_self _, WK.at [] (.cons (.refl _) (.cons (.refl _) (.cons (.refl _) (.cons (.refl _) (.cons (.refl _) (.nil _)))))) rfl⟩
   ·replace H := cnd_f c16 H
    refine AW.exit ?_
    exact Exists.intro y12 ⟨H, WK.at [] (.cons (.refl _) (.cons (.refl _) (.cons (.refl _) (.cons (.refl _) (.nil _))))) rfl⟩
  rintro y24 H
  replace H : ref15_Boundary_j2 y4 (ref15_Boundary_L2 F a1 n6) x10 y24 = some r3 := H
  unfold ref15_Boundary_j2 at H
  show AW _ _ _ _ _ _
  refine AW.seq ?_
  refine AW.region ?_
  show AR _ _ _ _ _ [0, 1] _
  refine sS rfl rfl rfl (mv rfl) ?_
  refine sS rfl rfl rfl (opS_not rfl) ?_
  refine AR.nil ?_
  show AW _ _ _ _ _ _
  refine AW.cond rfl (fun c26 => ?_) (fun c26 => ?_)
  ·replace H := cnd_t c26 H
   refine AW.seq ?_
   refine AW.region ?_
   show AR _ _ _ _ _ [0, 1] _
   refine sS rfl rfl rfl (mv rfl) ?_
   refine sS rfl rfl rfl (asg rfl) ?_
   refine AR.nil ?_
   show AW _ _ _ _ _ _
   refine AW.ret ?_
   obtain rfl := Option.some.inj H
   exact And.intro rfl (Exists.intro _ (Exists.intro _ ⟨ResV.oneW rfl (.refl _), Sub.at [] rfl, rfl, rfl⟩))
  ·replace H := cnd_f c26 H
   refine AW.skip ?_
   exact Exists.intro () ⟨H, WK.at [] (.cons (.refl _) (.cons (.refl _) (.nil _))) rfl⟩
 rintro _ H
 replace H : ref15_Boundary_j1 y4 (ref15_Boundary_L2 F a1 n6) = some r3 := H
 unfold ref15_Boundary_j1 at H
 show AW _ _ _ _ _ _
 obtain ⟨g28, H⟩ := grd_s H
 refine AW.region ?_
 show AR _ _ _ _ _ [0, 1, 2] _
 refine sS rfl rfl rfl (mv rfl) ?_
 refine sS rfl rfl rfl (g_add rfl rfl g28) ?_
 refine sS rfl rfl rfl (asg rfl) ?_
 refine AR.nil ?_
 exact Exists.intro (n6, y4 + 1) ⟨H, Nat.lt_succ_self _, WK.at [] (.cons (.refl _) (.cons (.refl _) (.nil _))) rfl⟩
set_option maxRecDepth 100000 in
set_option maxHeartbeats 1000000 in
theorem w_ref15_Kind (F : Nat) (a1 : List UInt8) (r2 : Bool) (H : ref15_Kind F a1 = some r2) : ACalls Tryz.prog 25 [S a1] [] (Ret (B r2) []) := by
 unfold ref15_Kind at H
 refine ACalls.of_body Tryz.func25 rfl rfl ?_
 show AW _ _ 80 _ _ _
 refine AW.seq ?_
 refine AW.region ?_
 show AR _ _ _ _ _ [0] _
 refine sS rfl rfl rfl (asg rfl) ?_
 refine AR.nil ?_
 show AW _ _ _ _ _ _
 refine AW.cut (X := Unit) (fun _ => ⟨[(0, S a1)], [], []⟩) (fun _ => ref15_Kind_j1 a1 = some r2) ?_ ?_
 ·
  refine AW.seq ?_
  refine AW.region ?_
  show AR _ _ _ _ _ [0] _
  refine sS rfl rfl rfl (asg rfl) ?_
  refine AR.nil ?_
  show AW _ _ _ _ _ _
  refine AW.block ?_
  refine AW.loop (X := Nat × Int) (fun (n5, y3) => ⟨[(0, S a1), (3, i64 y3)], [], []⟩) (fun (n5, y3) => ref15_Kind_L1 a1 n5 y3 = some r2) (fun (n5, y3) => n5) (F, 0) H (WK.at [] (.cons (.refl _) (.cons (.refl _) (.nil _))) rfl) ?_
  rintro ⟨n5, y3⟩ H
  obtain ⟨n5, rfl, H⟩ := loop_s H
  replace H : ref15_Kind_B1 a1 (ref15_Kind_L1 a1 n5) y3 = some r2 := H
  unfold ref15_Kind_B1 at H
  show AW _ _ _ _ _ _
  refine AW.seq ?_
  refine AW.seq ?_
  refine AW.region ?_
  show AR _ _ _ _ _ [0, 1, 2, 3] _
  refine sS rfl rfl rfl (mv rfl) ?_
  refine sS rfl rfl rfl (mv rfl) ?_
  refine sS rfl rfl rfl (opS_len_str Tryz.underlying9 rfl) ?_
  refine sS rfl rfl rfl (opS_lt rfl rfl) ?_
  refine AR.nil ?_
  show AW _ _ _ _ _ _
  refine AW.cond rfl (fun c6 => ?_) (fun c6 => ?_)
  ·replace H := cnd_t c6 H
   refine AW.skip ?_
   show AW _ _ _ _ _ _
   refine AW.seq ?_
   refine AW.block ?_
   refine AW.seq ?_
   obtain ⟨g7, H⟩ := grd_s H
   obtain ⟨x8, e9, H⟩ := lt_s H
   refine AW.region ?_
   show AR _ _ _ _ _ [0, 1, 2, 3] _
   refine sS rfl rfl rfl (mv rfl) ?_
   refine sS rfl rfl rfl (mv rfl) ?_
   refine sS rfl rfl rfl (g_index_str Tryz.underlying9 rfl rfl g7 e9) ?_
   refine sS rfl rfl rfl (asg rfl) ?_
   refine AR.nil ?_
   show AW _ _ _ _ _ _
   refine AW.seq ?_
   refine AW.region ?_
   show AR _ _ _ _ _ [0, 1, 2, 3, 4, 5, 6, 7, 8, 9, 10, 11, 12, 13, 14, 15, 16, 17, 18, 19, 20, 21, 22, 23, 24, 25, 26, 27, 28, 29, 30] _
   refine sS rfl rfl rfl (mv rfl) ?_
   refine sS rfl rfl rfl (opS_ge rfl rfl) ?_
   refine sS rfl rfl rfl (mv rfl) ?_
   refine AR.meet (l := [6, 7, 8, 9, 10, 11, 12, 13, 14, 15, 16, 17, 18, 19, 20, 21, 22, 23, 24, 25, 26, 27, 28, 29, 30]) 21 (B ((decide (97 ≤ (x8.toNat : Int))) && (decide ((x8.toNat : Int) ≤ 122)))) (fun K => ?_) ?_
   ·rcases Bool.eq_false_or_eq_true (decide (97 ≤ (x8.toNat : Int))) with h10 | h10
    ·
     refine gT h10 rfl rfl rfl rfl rfl rfl (AO.ops rfl rfl (mv rfl) ?_)
     refine gT h10 rfl rfl rfl rfl rfl rfl (AO.ops rfl rfl (opS_le rfl rfl) ?_)
     refine sS rfl rfl rfl (opS_pick_t (av := .v _) rfl h10 rfl) ?_
     exact K _ 2 _ (B_congr (and_t h10)) rfl rfl
    ·
     refine gF h10 rfl rfl rfl rfl rfl ?_
     refine gF h10 rfl rfl rfl rfl rfl ?_
     refine sS rfl rfl rfl (opS_pick_f (av := .v _) rfl h10 rfl) ?_
     exact K _ 2 _ (B_congr (and_f h10)) rfl rfl
   refine sS rfl rfl rfl (mv rfl) ?_
   refine AR.meet (l := [14, 15, 16, 17, 18, 19, 20, 21, 22, 23, 24, 25, 26, 27, 28, 29, 30]) 29 (B (((decide (97 ≤ (x8.toNat : Int))) && (decide ((x8.toNat : Int) ≤ 122))) || ((decide (48 ≤ (x8.toNat : Int))) && (decide ((x8.toNat : Int) ≤ 57))))) (fun K => ?_) ?_
   ·rcases Bool.eq_false_or_eq_true ((decide (97 ≤ (x8.toNat : Int))) && (decide ((x8.toNat : Int) ≤ 122))) with h11 | h11
    ·
     refine gF h11 rfl rfl rfl rfl rfl ?_
     refine gF h11 rfl rfl rfl rfl rfl ?_
     refine gF h11 rfl rfl rfl rfl rfl ?_
     refine gU rfl rfl rfl rfl rfl ?_
     refine gU rfl rfl rfl rfl rfl ?_
     refine gF h11 rfl rfl rfl rfl rfl ?_
     refine sS rfl rfl rfl (opS_pick_t (av := .v _) rfl h11 rfl) ?_
     exact K _ 6 _ (B_congr (or_t h11)) rfl rfl
    ·
     refine gT h11 rfl rfl rfl rfl rfl rfl (AO.ops rfl rfl (mv rfl) ?_)
     refine gT h11 rfl rfl rfl rfl rfl rfl (AO.ops rfl rfl (opS_ge rfl rfl) ?_)
     refine gT h11 rfl rfl rfl rfl rfl rfl (AO.ops rfl rfl (mv rfl) ?_)
     refine AR.meet (l := [13, 14, 15, 16, 17, 18, 19, 20, 21, 22, 23, 24, 25, 26, 27, 28, 29, 30]) 28 (B ((decide (48 ≤ (x8.toNat : Int))) && (decide ((x8.toNat : Int) ≤ 57)))) (fun K => ?_) ?_
     ·rcases Bool.eq_false_or_eq_true (decide (48 ≤ (x8.toNat : Int))) with h12 | h12
      ·
       refine gT h12 rfl rfl rfl rfl rfl rfl (AO.ops rfl rfl (mv rfl) ?_)
       refine gT h12 rfl rfl rfl rfl rfl rfl (AO.ops rfl rfl (opS_le rfl rfl) ?_)
       refine gT h11 rfl rfl rfl rfl rfl rfl (AO.ops rfl rfl (opS_pick_t (av := .v _) rfl h12 rfl) ?_)
       exact K _ 2 _ (B_congr (and_t h12)) rfl rfl
      ·
       refine gF h12 rfl rfl rfl rfl rfl ?_
       refine gF h12 rfl rfl rfl rfl rfl ?_
       refine gT h11 rfl rfl rfl rfl rfl rfl (AO.ops rfl rfl (opS_pick_f (av := .v _) rfl h12 rfl) ?_)
       exact K _ 2 _ (B_congr (and_f h12)) rfl rfl
     refine sS rfl rfl rfl (opS_pick_f (av := .v _) rfl h11 rfl) ?_
     exact K _ 4 _ (B_congr (or_f h11)) rfl rfl
   refine sS rfl rfl rfl (mv rfl) ?_
   refine AR.meet (l := [18, 19, 20, 21, 22, 23, 24, 25, 26, 27, 28, 29, 30]) 33 (B ((((decide (97 ≤ (x8.toNat : Int))) && (decide ((x8.toNat : Int) ≤ 122))) || ((decide (48 ≤ (x8.toNat : Int))) && (decide ((x8.toNat : Int) ≤ 57)))) || (decide (x8 = 47)))) (fun K => ?_) ?_
   ·rcases Bool.eq_false_or_eq_true (((decide (97 ≤ (x8.toNat : Int))) && (decide ((x8.toNat : Int) ≤ 122))) || ((decide (48 ≤ (x8.toNat : Int))) && (decide ((x8.toNat : Int) ≤ 57)))) with h13 | h13
    ·
     refine gF h13 rfl rfl rfl rfl rfl ?_
     refine gF h13 rfl rfl rfl rfl rfl ?_
     refine sS rfl rfl rfl (opS_pick_t (av := .v _) rfl h13 rfl) ?_
     exact K _ 2 _ (B_congr (or_t h13)) rfl rfl
    ·
     refine gT h13 rfl rfl rfl rfl rfl rfl (AO.ops rfl rfl (mv rfl) ?_)
     refine gT h13 rfl rfl rfl rfl rfl rfl (AO.ops rfl rfl (g_eq8 (a := x8) (b := 47) rfl rfl) ?_)
     refine sS rfl rfl rfl (opS_pick_f (av := .v _) rfl h13 rfl) ?_
     exact K _ 2 _ (B_congr (or_f h13)) rfl rfl
   refine sS rfl rfl rfl (mv rfl) ?_
   refine AR.meet (l := [22, 23, 24, 25, 26, 27, 28, 29, 30]) 37 (B (((((decide (97 ≤ (x8.toNat : Int))) && (decide ((x8.toNat : Int) ≤ 122))) || ((decide (48 ≤ (x8.toNat : Int))) && (decide ((x8.toNat : Int) ≤ 57)))) || (decide (x8 = 47))) || (decide (x8 = 45)))) (fun K => ?_) ?_
   ·rcases Bool.eq_false_or_eq_true ((((decide (97 ≤ (x8.toNat : Int))) && (decide ((x8.toNat : Int) ≤ 122))) || ((decide (48 ≤ (x8.toNat : Int))) && (decide ((x8.toNat : Int) ≤ 57)))) || (decide (x8 = 47))) with h14 | h14
    ·
     refine gF h14 rfl rfl rfl rfl rfl ?_
     refine gF h14 rfl rfl rfl rfl rfl ?_
     refine sS rfl rfl rfl (opS_pick_t (av := .v _) rfl h14 rfl) ?_
     exact K _ 2 _ (B_congr (or_t h14)) rfl rfl
    ·
     refine gT h14 rfl rfl rfl rfl rfl rfl (AO.ops rfl rfl (mv rfl) ?_)
     refine gT h14 rfl rfl rfl rfl rfl rfl (AO.ops rfl rfl (g_eq8 (a := x8) (b := 45) rfl rfl) ?_)
     refine sS rfl rfl rfl (opS_pick_f (av := .v _) rfl h14 rfl) ?_
     exact K _ 2 _ (B_congr (or_f h14)) rfl rfl
   refine sS rfl rfl rfl (mv rfl) ?_
   refine AR.meet (l := [26, 27, 28, 29, 30]) 41 (B ((((((decide (97 ≤ (x8.toNat : Int))) && (decide ((x8.toNat : Int) ≤ 122))) || ((decide (48 ≤ (x8.toNat : Int))) && (decide ((x8.toNat : Int) ≤ 57)))) || (decide (x8 = 47))) || (decide (x8 = 45))) || (decide (x8 = 61)))) (fun K => ?_) ?_
   ·rcases Bool.eq_false_or_eq_true (((((decide (97 ≤ (x8.toNat : Int))) && (decide ((x8.toNat : Int) ≤ 122))) || ((decide (48 ≤ (x8.toNat : Int))) && (decide ((x8.toNat : Int) ≤ 57)))) || (decide (x8 = 47))) || (decide (x8 = 45))) with h15 | h15
    ·
     refine gF h15 rfl rfl rfl rfl rfl ?_
     refine gF h15 rfl rfl rfl rfl rfl ?_
     refine sS rfl rfl rfl (opS_pick_t (av := .v _) rfl h15 rfl) ?_
     exact K _ 2 _ (B_congr (or_t h15)) rfl rfl
    ·
     refine gT h15 rfl rfl rfl rfl rfl rfl (AO.ops rfl rfl (mv rfl) ?_)
     refine gT h15 rfl rfl rfl rfl rfl rfl (AO.ops rfl rfl (g_eq8 (a := x8) (b := 61) rfl rfl) ?_)
     refine sS rfl rfl rfl (opS_pick_f (av := .v _) rfl h15 rfl) ?_
     exact K _ 2 _ (B_congr (or_f h15)) rfl rfl
   refine sS rfl rfl rfl (mv rfl) ?_
   refine AR.meet (l := [30]) 45 (B (((((((decide (97 ≤ (x8.toNat : Int))) && (decide ((x8.toNat : Int) ≤ 122))) || ((decide (48 ≤ (x8.toNat : Int))) && (decide ((x8.toNat : Int) ≤ 57)))) || (decide (x8 = 47))) || (decide (x8 = 45))) || (decide (x8 = 61))) || (decide (x8 = 59)))) (fun K => ?_) ?_
   ·rcases Bool.eq_false_or_eq_true ((((((decide (97 ≤ (x8.toNat : Int))) && (decide ((x8.toNat : Int) ≤ 122))) || ((decide (48 ≤ (x8.toNat : Int))) && (decide ((x8.toNat : Int) ≤ 57)))) || (decide (x8 = 47))) || (decide (x8 = 45))) || (decide (x8 = 61))) with h16 | h16
    ·
     refine gF h16 rfl rfl rfl rfl rfl ?_
     refine gF h16 rfl rfl rfl rfl rfl ?_
     refine sS rfl rfl rfl (opS_pick_t (av := .v _) rfl h16 rfl) ?_
     exact K _ 2 _ (B_congr (or_t h16)) rfl rfl
    ·
     refine gT h16 rfl rfl rfl rfl rfl rfl (AO.ops rfl rfl (mv rfl) ?_)
     refine gT h16 rfl rfl rfl rfl rfl rfl (AO.ops rfl rfl (g_eq8 (a := x8) (b := 59) rfl rfl) ?_)
     refine sS rfl rfl rfl (opS_pick_f (av := .v _) rfl h16 rfl) ?_
     exact K _ 2 _ (B_congr (or_f h16)) rfl rfl
   refine sS rfl rfl rfl (asg rfl) ?_
   refine AR.nil ?_
   show AW _ _ _ _ _ _
   refine AW.seq ?_
   obtain ⟨g19, H⟩ := grdc_s H
   obtain ⟨g21, H⟩ := grdc_s H
   obtain ⟨g22, H⟩ := grdc_s H
   obtain ⟨x23, e24, H⟩ := lt_s H
   refine AW.region ?_
   show AR _ _ _ _ _ [0, 1, 2, 3, 4, 5, 6, 7, 8, 9, 10, 11, 12, 13, 14, 15, 16, 17, 18, 19, 20] _
   refine sS rfl rfl rfl (mv rfl) ?_
   refine sS rfl rfl rfl (g_eq8 (a := x8) (b := 32) rfl rfl) ?_
   refine sS rfl rfl rfl (mv rfl) ?_
   refine AR.meet (l := [6, 7, 8, 9, 10, 11, 12, 13, 14, 15, 16, 17, 18, 19, 20]) 51 (B ((decide (x8 = 32)) && (decide (0 < y3)))) (fun K => ?_) ?_
   ·rcases Bool.eq_false_or_eq_true (decide (x8 = 32)) with h17 | h17
    ·
     refine gT h17 rfl rfl rfl rfl rfl rfl (AO.ops rfl rfl (mv rfl) ?_)
     refine gT h17 rfl rfl rfl rfl rfl rfl (AO.ops rfl rfl (opS_gt rfl rfl) ?_)
     refine sS rfl rfl rfl (opS_pick_t (av := .v _) rfl h17 rfl) ?_
     exact K _ 2 _ (B_congr (and_t h17)) rfl rfl
    ·
     refine gF h17 rfl rfl rfl rfl rfl ?_
     refine gF h17 rfl rfl rfl rfl rfl ?_
     refine sS rfl rfl rfl (opS_pick_f (av := .v _) rfl h17 rfl) ?_
     exact K _ 2 _ (B_congr (and_f h17)) rfl rfl
   refine sS rfl rfl rfl (mv rfl) ?_
   refine AR.meet (l := [13, 14, 15, 16, 17, 18, 19, 20]) 58 (B (((decide (x8 = 32)) && (decide (0 < y3))) && (decide (y3 < (a1.length : Int) - 1)))) (fun K => ?_) ?_
   ·rcases Bool.eq_false_or_eq_true ((decide (x8 = 32)) && (decide (0 < y3))) with h18 | h18
    ·
     refine gT h18 rfl rfl rfl rfl rfl rfl (AO.ops rfl rfl (mv rfl) ?_)
     refine gT h18 rfl rfl rfl rfl rfl rfl (AO.ops rfl rfl (mv rfl) ?_)
     refine gT h18 rfl rfl rfl rfl rfl rfl (AO.ops rfl rfl (opS_len_str Tryz.underlying9 rfl) ?_)
     refine gT h18 rfl rfl rfl rfl rfl rfl (AO.ops rfl rfl (g_sub rfl rfl (g19 h18)) ?_)
     refine gT h18 rfl rfl rfl rfl rfl rfl (AO.ops rfl rfl (opS_lt rfl rfl) ?_)
     refine sS rfl rfl rfl (opS_pick_t (av := .v _) rfl h18 rfl) ?_
     exact K _ 5 _ (B_congr (and_t h18)) rfl rfl
    ·
     refine gF h18 rfl rfl rfl rfl rfl ?_
     refine gF h18 rfl rfl rfl rfl rfl ?_
     refine gF h18 rfl rfl rfl rfl rfl ?_
     refine gF h18 rfl rfl rfl rfl rfl ?_
     refine gF h18 rfl rfl rfl rfl rfl ?_
     refine sS rfl rfl rfl (opS_pick_f (av := .v _) rfl h18 rfl) ?_
     exact K _ 5 _ (B_congr (and_f h18)) rfl rfl
   refine sS rfl rfl rfl (mv rfl) ?_
   refine AR.meet (l := [20]) 65 (B ((((decide (x8 = 32)) && (decide (0 < y3))) && (decide (y3 < (a1.length : Int) - 1))) && (!decide (x23 = 32)))) (fun K => ?_) ?_
   ·rcases Bool.eq_false_or_eq_true (((decide (x8 = 32)) && (decide (0 < y3))) && (decide (y3 < (a1.length : Int) - 1))) with h20 | h20
    ·
     refine gT h20 rfl rfl rfl rfl rfl rfl (AO.ops rfl rfl (mv rfl) ?_)
     refine gT h20 rfl rfl rfl rfl rfl rfl (AO.ops rfl rfl (mv rfl) ?_)
     refine gT h20 rfl rfl rfl rfl rfl rfl (AO.ops rfl rfl (g_sub rfl rfl (g21 h20)) ?_)
     refine gT h20 rfl rfl rfl rfl rfl rfl (AO.ops rfl rfl (g_index_str Tryz.underlying9 rfl rfl (g22 h20) e24) ?_)
     refine gT h20 rfl rfl rfl rfl rfl rfl (AO.ops rfl rfl (g_ne8 (a := x23) (b := 32) rfl rfl) ?_)
     refine sS rfl rfl rfl (opS_pick_t (av := .v _) rfl h20 rfl) ?_
     exact K _ 5 _ (B_congr (and_t h20)) rfl rfl
    ·
     refine gF h20 rfl rfl rfl rfl rfl ?_
     refine gF h20 rfl rfl rfl rfl rfl ?_
     refine gF h20 rfl rfl rfl rfl rfl ?_
     refine gF h20 rfl rfl rfl rfl rfl ?_
     refine gF h20 rfl rfl rfl rfl rfl ?_
     refine sS rfl rfl rfl (opS_pick_f (av := .v _) rfl h20 rfl) ?_
     exact K _ 5 _ (B_congr (and_f h20)) rfl rfl
   refine sS rfl rfl rfl (asg rfl) ?_
   refine AR.nil ?_
   show AW _ _ _ _ _ _
   refine AW.seq ?_
   refine AW.region ?_
   show AR _ _ _ _ _ [0, 1, 2, 3, 4, 5] _
   refine sS rfl rfl rfl (mv rfl) ?_
   refine sS rfl rfl rfl (opS_not rfl) ?_
   refine sS rfl rfl rfl (mv rfl) ?_
   refine AR.meet (l := []) 71 (B ((!(((((((decide (97 ≤ (x8.toNat : Int))) && (decide ((x8.toNat : Int) ≤ 122))) || ((decide (48 ≤ (x8.toNat : Int))) && (decide ((x8.toNat : Int) ≤ 57)))) || (decide (x8 = 47))) || (decide (x8 = 45))) || (decide (x8 = 61))) || (decide (x8 = 59)))) && (!((((decide (x8 = 32)) && (decide (0 < y3))) && (decide (y3 < (a1.length : Int) - 1))) && (!decide (x23 = 32)))))) (fun K => ?_) ?_
   ·rcases Bool.eq_false_or_eq_true (!(((((((decide (97 ≤ (x8.toNat : Int))) && (decide ((x8.toNat : Int) ≤ 122))) || ((decide (48 ≤ (x8.toNat : Int))) && (decide ((x8.toNat : Int) ≤ 57)))) || (decide (x8 = 47))) || (decide (x8 = 45))) || (decide (x8 = 61))) || (decide (x8 = 59)))) with h25 | h25
    ·
     refine gT h25 rfl rfl rfl rfl rfl rfl (AO.ops rfl rfl (mv rfl) ?_)
     refine gT h25 rfl rfl rfl rfl rfl rfl (AO.ops rfl rfl (opS_not rfl) ?_)
     refine sS rfl rfl rfl (opS_pick_t (av := .v _) rfl h25 rfl) ?_
     exact K _ 2 _ (B_congr (and_t h25)) rfl rfl
    ·
     refine gF h25 rfl rfl rfl rfl rfl ?_
     refine gF h25 rfl rfl rfl rfl rfl ?_
     refine sS rfl rfl rfl (opS_pick_f (av := .v _) rfl h25 rfl) ?_
     exact K _ 2 _ (B_congr (and_f h25)) rfl rfl
   refine AR.nil ?_
   show AW _ _ _ _ _ _
   refine AW.cond rfl (fun c26 => ?_) (fun c26 => ?_)
   ·replace H := cnd_t c26 H
    refine AW.seq ?_
    refine AW.region ?_
    show AR _ _ _ _ _ [0] _
    refine sS rfl rfl rfl (asg rfl) ?_
    refine AR.nil ?_
    show AW _ _ _ _ _ _
    refine AW.ret ?_
    obtain rfl := Option.some.inj H
    exact And.intro rfl (Exists.intro _ (Exists.intro _ ⟨ResV.oneW rfl (.refl _), Sub.at [] rfl, rfl, rfl⟩))
   ·replace H := cnd_f c26 H
    refine AW.skip ?_
    show AW _ _ _ _ _ _
    obtain ⟨g27, H⟩ := grd_s H
    refine AW.region ?_
    show AR _ _ _ _ _ [0, 1, 2] _
    refine sS rfl rfl rfl (mv rfl) ?_
    refine sS rfl rfl rfl (g_add rfl rfl g27) ?_
    refine sS rfl rfl rfl (asg rfl) ?_
    refine AR.nil ?_
    exact Exists.intro (n5, y3 + 1) ⟨H, Nat.lt_succ_self _, WK.at [] (.cons (.refl _) (.cons (.refl _) (.nil _))) rfl⟩
  ·replace H := cnd_f c6 H
   refine AW.exit ?_
   exact Exists.intro () ⟨H, WK.at [] (.cons (.refl _) (.nil _)) rfl⟩
 rintro _ H
 replace H : ref15_Kind_j1 a1 = some r2 := H
 unfold ref15_Kind_j1 at H
 show AW _ _ _ _ _ _
 refine AW.seq ?_
 refine AW.region ?_
 show AR _ _ _ _ _ [0, 1, 2, 3, 4, 5, 6, 7, 8] _
 refine sS rfl rfl rfl (mv rfl) ?_
 refine sS rfl rfl rfl (opS_len_str Tryz.underlying9 rfl) ?_
 refine sS rfl rfl rfl (opS_ge rfl rfl) ?_
 refine sS rfl rfl rfl (mv rfl) ?_
 refine AR.meet (l := [8]) 79 (B ((decide (1 ≤ (a1.length : Int))) && (decide ((a1.length : Int) ≤ 60)))) (fun K => ?_) ?_
 ·rcases Bool.eq_false_or_eq_true (decide (1 ≤ (a1.length : Int))) with h29 | h29
  ·
   refine gT h29 rfl rfl rfl rfl rfl rfl (AO.ops rfl rfl (mv rfl) ?_)
   refine gT h29 rfl rfl rfl rfl rfl rfl (AO.ops rfl rfl (opS_len_str Tryz.underlying9 rfl) ?_)
   refine gT h29 rfl rfl rfl rfl rfl rfl (AO.ops rfl rfl (opS_le rfl rfl) ?_)
   refine sS rfl rfl rfl (opS_pick_t (av := .v _) rfl h29 rfl) ?_
   exact K _ 3 _ (B_congr (and_t h29)) rfl rfl
  ·
   refine gF h29 rfl rfl rfl rfl rfl ?_
   refine gF h29 rfl rfl rfl rfl rfl ?_
   refine gF h29 rfl rfl rfl rfl rfl ?_
   refine sS rfl rfl rfl (opS_pick_f (av := .v _) rfl h29 rfl) ?_
   exact K _ 3 _ (B_congr (and_f h29)) rfl rfl
 refine sS rfl rfl rfl (asg rfl) ?_
 refine AR.nil ?_
 show AW _ _ _ _ _ _
 refine AW.ret ?_
 obtain rfl := Option.some.inj H
 exact And.intro rfl (Exists.intro _ (Exists.intro _ ⟨ResV.oneW rfl (.refl _), Sub.at [] rfl, rfl, rfl⟩))
set_option maxRecDepth 100000 in
set_option maxHeartbeats 1000000 in
theorem w_ref15_headers (F : Nat) (a1 : List UInt8) (r2 : List UInt8) (H : ref15_headers F a1 = some r2) : ACalls Tryz.prog 26 [S a1] [] (Ret (slE Enc.byte r2 none) []) := by
 unfold ref15_headers at H
 refine ACalls.of_body Tryz.func26 rfl rfl ?_
 show AW _ _ 14 _ _ _
 refine AW.seq ?_
 refine AW.region ?_
 show AR _ _ _ _ _ [0] _
 refine sS rfl rfl rfl (asg rfl) ?_
 refine AR.nil ?_
 show AW _ _ _ _ _ _
 refine AW.seq ?_
 obtain ⟨x3, x4, e5, H⟩ := bnd2_s H
 refine AW.region ?_
 show AR _ _ _ _ _ [0, 1, 2, 3, 4, 5, 6, 7, 8, 9] _
 refine sS rfl rfl rfl (mv rfl) ?_
 refine sS rfl rfl rfl (g_build (zs := [.string ⟨#[]⟩, .string ⟨#[]⟩]) (ps := [(0, 1), (1, 1)]) (cs := [S ([67, 111, 110, 116, 101, 110, 116, 45, 84, 121, 112, 101] : List UInt8), S a1]) (by kernel_rfl) rfl rfl) ?_
 refine sS rfl rfl rfl (g_build (zs := [.string ⟨#[]⟩, .string ⟨#[]⟩]) (ps := [(0, 1), (1, 1)]) (cs := [S partr_k1, S ([113, 117, 111, 116, 101, 100, 45, 112, 114, 105, 110, 116, 97, 98, 108, 101] : List UInt8)]) (by kernel_rfl) rfl rfl) ?_
 refine sR rfl rfl rfl (opR_buildBig (E := (Enc.prod Enc.str Enc.str)) (bytes := 32) (zs := [.string ⟨#[]⟩, .string ⟨#[]⟩]) (l := ([(([67, 111, 110, 116, 101, 110, 116, 45, 84, 121, 112, 101] : List UInt8), a1), (partr_k1, ([113, 117, 111, 116, 101, 100, 45, 112, 114, 105, 110, 116, 97, 98, 108, 101] : List UInt8))] : List ((List UInt8) × List UInt8))) Tryz.underlying72 (by kernel_rfl) (by kernel_rfl) rfl rfl rfl rfl rfl) ?_
 refine AR.run rfl rfl (AO.callp rfl en47_partr rfl (w_ref14_All F ([(([67, 111, 110, 116, 101, 110, 116, 45, 84, 121, 112, 101] : List UInt8), a1), (partr_k1, ([113, 117, 111, 116, 101, 100, 45, 112, 114, 105, 110, 116, 97, 98, 108, 101] : List UInt8))] : List ((List UInt8) × List UInt8)) none x3 x4 e5) ?_)
 refine sS rfl rfl rfl (opS_move (av := .tup _) rfl) ?_
 refine sS rfl rfl rfl (opS_extract (av := slE _ _ _) rfl rfl) ?_
 refine sS rfl rfl rfl (opS_extract (av := .v _) rfl rfl) ?_
 refine sS rfl rfl rfl (opS_assign (av := slE _ _ _) rfl) ?_
 refine sS rfl rfl rfl (asg rfl) ?_
 refine AR.nil ?_
 show AW _ _ _ _ _ _
 refine AW.seq ?_
 refine AW.region ?_
 show AR _ _ _ _ _ [0, 1] _
 refine sS rfl rfl rfl (opS_move (av := slE _ _ _) rfl) ?_
 refine sS rfl rfl rfl (opS_assign (av := slE _ _ _) rfl) ?_
 refine AR.nil ?_
 show AW _ _ _ _ _ _
 refine AW.ret ?_
 obtain rfl := Option.some.inj H
 exact And.intro rfl (Exists.intro _ (Exists.intro _ ⟨ResV.oneW rfl (.refl _), Sub.at [] rfl, rfl, rfl⟩))
set_option maxRecDepth 100000 in
set_option maxHeartbeats 1000000 in
theorem w_ref15_Join (F : Nat) (a1 : List (List UInt8)) (q2 : Option Nat) (a3 : List (List UInt8)) (q4 : Option Nat) (r5 : List UInt8) (r6 : List UInt8) (r7 : Int) (H : ref15_Join F a1 a3 = some (r5, r6, r7)) : ACalls Tryz.prog 11 [slE Enc.str a1 q2, slE (Enc.sl Enc.byte) a3 q4] [] (Ret (.tup [slE Enc.byte r5 none, S r6, i64 r7]) []) := by
 unfold ref15_Join at H
 refine ACalls.of_body Tryz.func11 rfl rfl ?_
 show AW _ _ 84 _ _ _
 refine AW.seq ?_
 refine AW.region ?_
 show AR _ _ _ _ _ [0, 1, 2] _
 refine sS rfl rfl rfl (asg rfl) ?_
 refine sS rfl rfl rfl (asg rfl) ?_
 refine sS rfl rfl rfl (asg rfl) ?_
 refine AR.nil ?_
 show AW _ _ _ _ _ _
 refine AW.seq ?_
 refine AW.seq ?_
 refine AW.region ?_
 show AR _ _ _ _ _ [0, 1, 2, 3, 4, 5, 6, 7, 8, 9, 10, 11, 12, 13, 14] _
 refine sS rfl rfl rfl (opS_move (av := slE _ _ _) rfl) ?_
 refine sS rfl rfl rfl (opS_len_sl Tryz.underlying22 rfl) ?_
 refine sS rfl rfl rfl (opS_move (av := slE _ _ _) rfl) ?_
 refine sS rfl rfl rfl (opS_len_sl Tryz.underlying23 rfl) ?_
 refine sS rfl rfl rfl (opS_nei rfl rfl) ?_
 refine sS rfl rfl rfl (mv rfl) ?_
 refine AR.meet (l := [10, 11, 12, 13, 14]) 22 (B ((!decide ((a1.length : Int) = (a3.length : Int))) || (decide ((a3.length : Int) < 1)))) (fun K => ?_) ?_
 ·rcases Bool.eq_false_or_eq_true (!decide ((a1.length : Int) = (a3.length : Int))) with h8 | h8
  ·
   refine gF h8 rfl rfl rfl rfl rfl ?_
   refine gF h8 rfl rfl rfl rfl rfl ?_
   refine gF h8 rfl rfl rfl rfl rfl ?_
   refine sS rfl rfl rfl (opS_pick_t (av := .v _) rfl h8 rfl) ?_
   exact K _ 3 _ (B_congr (or_t h8)) rfl rfl
  ·
   refine gT h8 rfl rfl rfl rfl rfl rfl (AO.ops rfl rfl (opS_move (av := slE _ _ _) rfl) ?_)
   refine gT h8 rfl rfl rfl rfl rfl rfl (AO.ops rfl rfl (opS_len_sl Tryz.underlying23 rfl) ?_)
   refine gT h8 rfl rfl rfl rfl rfl rfl (AO.ops rfl rfl (opS_lt rfl rfl) ?_)
   refine sS rfl rfl rfl (opS_pick_f (av := .v _) rfl h8 rfl) ?_
   exact K _ 3 _ (B_congr (or_f h8)) rfl rfl
 refine sS rfl rfl rfl (mv rfl) ?_
 refine AR.meet (l := []) 27 (B (((!decide ((a1.length : Int) = (a3.length : Int))) || (decide ((a3.length : Int) < 1))) || (decide (8 < (a3.length : Int))))) (fun K => ?_) ?_
 ·rcases Bool.eq_false_or_eq_true ((!decide ((a1.length : Int) = (a3.length : Int))) || (decide ((a3.length : Int) < 1))) with h9 | h9
  ·
   refine gF h9 rfl rfl rfl rfl rfl ?_
   refine gF h9 rfl rfl rfl rfl rfl ?_
   refine gF h9 rfl rfl rfl rfl rfl ?_
   refine sS rfl rfl rfl (opS_pick_t (av := .v _) rfl h9 rfl) ?_
   exact K _ 3 _ (B_congr (or_t h9)) rfl rfl
  ·
   refine gT h9 rfl rfl rfl rfl rfl rfl (AO.ops rfl rfl (opS_move (av := slE _ _ _) rfl) ?_)
   refine gT h9 rfl rfl rfl rfl rfl rfl (AO.ops rfl rfl (opS_len_sl Tryz.underlying23 rfl) ?_)
   refine gT h9 rfl rfl rfl rfl rfl rfl (AO.ops rfl rfl (opS_gt rfl rfl) ?_)
   refine sS rfl rfl rfl (opS_pick_f (av := .v _) rfl h9 rfl) ?_
   exact K _ 3 _ (B_congr (or_f h9)) rfl rfl
 refine AR.nil ?_
 show AW _ _ _ _ _ _
 refine AW.cond rfl (fun c10 => ?_) (fun c10 => ?_)
 ·replace H := cnd_t c10 H
  refine AW.seq ?_
  refine AW.region ?_
  show AR _ _ _ _ _ [0, 1, 2] _
  refine sS rfl rfl rfl (asg rfl) ?_
  refine sS rfl rfl rfl (asg rfl) ?_
  refine sS rfl rfl rfl (asg rfl) ?_
  refine AR.nil ?_
  show AW _ _ _ _ _ _
  refine AW.ret ?_
  obtain ⟨rfl, rfl, rfl⟩ := res3 H
  exact And.intro rfl (Exists.intro _ (Exists.intro _ ⟨ResV.threeW rfl (.nil _) (.refl _) (.refl _), Sub.at [] rfl, rfl, rfl⟩))
 ·replace H := cnd_f c10 H
  refine AW.skip ?_
  show AW _ _ _ _ _ _
  refine AW.seq ?_
  refine AW.region ?_
  show AR _ _ _ _ _ [0] _
  refine sS rfl rfl rfl (asg rfl) ?_
  refine AR.nil ?_
  show AW _ _ _ _ _ _
  refine AW.nil_grows 7 1 26 rfl fun t11 => ?_
  show AW _ _ _ _ _ ⟨(7, slE (Enc.sl Enc.byte) [] (some t11)) :: _, _, _⟩
  refine AW.cut (X := (List (List UInt8)) × Nat) (fun (y34, t35) => ⟨[(0, slE Enc.str a1 q2), (1, slE (Enc.sl Enc.byte) a3 q4), (7, slE (Enc.sl Enc.byte) y34 (some t35))], [], [.tok t35 26]⟩) (fun (y34, t35) => ref15_Join_j2 F a1 a3 y34 = some (r5, r6, r7)) ?_ ?_
  ·
   refine AW.seq ?_
   refine AW.region ?_
   show AR _ _ _ _ _ [0] _
   refine sS rfl rfl rfl (asg rfl) ?_
   refine AR.nil ?_
   show AW _ _ _ _ _ _
   refine AW.block ?_
   refine AW.loop (X := Nat × (List (List UInt8)) × Nat × Int) (fun (n16, y12, t13, y14) => ⟨[(0, slE Enc.str a1 q2), (1, slE (Enc.sl Enc.byte) a3 q4), (7, slE (Enc.sl Enc.byte) y12 (some t13)), (8, i64 y14)], [], [.tok t13 26]⟩) (fun (n16, y12, t13, y14) => ref15_Join_L2 F a1 a3 n16 (y12, y14) = some (r5, r6, r7)) (fun (n16, y12, t13, y14) => n16) (F, [], t11, 0) H (WK.at [0] (.cons (.refl _) (.cons (.refl _) (.cons (.refl _) (.cons (.refl _) (.nil _))))) rfl) ?_
   rintro ⟨n16, y12, t13, y14⟩ H
   obtain ⟨n16, rfl, H⟩ := loop_s H
   replace H : ref15_Join_B2 F a1 a3 (ref15_Join_L2 F a1 a3 n16) y12 y14 = some (r5, r6, r7) := H
   unfold ref15_Join_B2 at H
   show AW _ _ _ _ _ _
   refine AW.seq ?_
   refine AW.seq ?_
   refine AW.region ?_
   show AR _ _ _ _ _ [0, 1, 2, 3] _
   refine sS rfl rfl rfl (mv rfl) ?_
   refine sS rfl rfl rfl (opS_move (av := slE _ _ _) rfl) ?_
   refine sS rfl rfl rfl (opS_len_sl Tryz.underlying23 rfl) ?_
   refine sS rfl rfl rfl (opS_lt rfl rfl) ?_
   refine AR.nil ?_
   show AW _ _ _ _ _ _
   refine AW.cond rfl (fun c17 => ?_) (fun c17 => ?_)
   ·replace H := cnd_t c17 H
    refine AW.skip ?_
    show AW _ _ _ _ _ _
    refine AW.seq ?_
    refine AW.block ?_
    refine AW.seq ?_
    obtain ⟨g18, H⟩ := grd_s H
    obtain ⟨x19, e20, H⟩ := lt_s H
    obtain ⟨x21, e22, H⟩ := bnd_s H
    refine AW.region ?_
    show AR _ _ _ _ _ [0, 1, 2, 3, 4, 5] _
    refine sS rfl rfl rfl (opS_move (av := slE _ _ _) rfl) ?_
    refine sS rfl rfl rfl (mv rfl) ?_
    refine sS rfl rfl rfl (g_indexAddr (E := Enc.str) Tryz.underlying22 (by kernel_rfl) rfl rfl g18 e20) ?_
    refine sS rfl rfl rfl (opS_load_cp Tryz.underlying9 rfl rfl) ?_
    refine AR.run rfl rfl (AO.callp rfl en25_partr rfl (w_ref15_Kind F x19 x21 e22) ?_)
    refine sS rfl rfl rfl (asg rfl) ?_
    refine AR.nil ?_
    show AW _ _ _ _ _ _
    refine AW.seq ?_
    refine AW.seq ?_
    refine AW.region ?_
    show AR _ _ _ _ _ [0, 1] _
    refine sS rfl rfl rfl (mv rfl) ?_
    refine sS rfl rfl rfl (opS_not rfl) ?_
    refine AR.nil ?_
    show AW _ _ _ _ _ _
    refine AW.cond rfl (fun c23 => ?_) (fun c23 => ?_)
    ·replace H := cnd_t c23 H
     refine AW.seq ?_
     refine AW.region ?_
     show AR _ _ _ _ _ [0, 1, 2] _
     refine sS rfl rfl rfl (asg rfl) ?_
     refine sS rfl rfl rfl (asg rfl) ?_
     refine sS rfl rfl rfl (asg rfl) ?_
     refine AR.nil ?_
     show AW _ _ _ _ _ _
     refine AW.ret ?_
     obtain ⟨rfl, rfl, rfl⟩ := res3 H
     exact And.intro rfl (Exists.intro _ (Exists.intro _ ⟨ResV.threeW rfl (.nil _) (.refl _) (.refl _), Sub.at [] rfl, rfl, rfl⟩))
    ·replace H := cnd_f c23 H
     refine AW.skip ?_
     show AW _ _ _ _ _ _
     obtain ⟨g24, H⟩ := grd_s H
     obtain ⟨x25, e26, H⟩ := lt_s H
     obtain ⟨x27, e28, H⟩ := bnd_s H
     obtain ⟨g30, H⟩ := grd_s H
     obtain ⟨x31, e32, H⟩ := lt_s H
     refine AW.region ?_
     show AR _ _ _ _ _ [0, 1, 2, 3, 4, 5, 6, 7, 8] _
     refine sS rfl rfl rfl (opS_move (av := slE _ _ _) rfl) ?_
     refine sS rfl rfl rfl (opS_move (av := slE _ _ _) rfl) ?_
     refine sS rfl rfl rfl (mv rfl) ?_
     refine sS rfl rfl rfl (g_indexAddr (E := (Enc.sl Enc.byte)) Tryz.underlying23 (by kernel_rfl) rfl rfl g24 e26) ?_
     refine sS rfl rfl rfl (opS_load_cp Tryz.underlying26 rfl rfl) ?_
     refine AR.run rfl rfl (AO.callp rfl en19_partr rfl (w_ref12_Encode F x25 none x27 e28) ?_)
     refine sR rfl rfl rfl (opR_buildE (E := (Enc.sl Enc.byte)) (bytes := 24) (xs := [.tmp 46]) (l := ([x27] : List (List UInt8))) Tryz.underlying23 (by kernel_rfl) rfl rfl (by decide) rfl rfl) ?_
     refine sX rfl rfl rfl (g_append (E := (Enc.sl Enc.byte)) (bytes := 24) 0 Tryz.underlying23 Tryz.underlying23 rfl (by kernel_rfl) rfl rfl rfl rfl g30 e32) ?_
     rintro _ _ ⟨t29, rfl, rfl⟩
     refine sS rfl rfl rfl (opS_assign (av := slE _ _ _) rfl) ?_
     refine AR.nil ?_
     show AW _ _ _ _ _ _
     obtain ⟨g33, H⟩ := grd_s H
     refine AW.region ?_
     show AR _ _ _ _ _ [0, 1, 2] _
     refine sS rfl rfl rfl (mv rfl) ?_
     refine sS rfl rfl rfl (g_add rfl rfl g33) ?_
     refine sS rfl rfl rfl (asg rfl) ?_
     refine AR.nil ?_
     exact Exists.intro (n16, x31, t29, y14 + 1) ⟨H, Nat.lt_succ_self _, WK.at [0] (.cons (.refl _) (.cons (.refl _) (.cons (.refl _) (.cons (.refl _) (.nil _))))) rfl⟩
   ·replace H := cnd_f c17 H
    refine AW.exit ?_
    exact Exists.intro (y12, t13) ⟨H, WK.at [0] (.cons (.refl _) (.cons (.refl _) (.cons (.refl _) (.nil _)))) rfl⟩
  rintro ⟨y34, t35⟩ H
  replace H : ref15_Join_j2 F a1 a3 y34 = some (r5, r6, r7) := H
  unfold ref15_Join_j2 at H
  show AW _ _ _ _ _ _
  refine AW.seq ?_
  obtain ⟨x37, e38, H⟩ := bnd_s H
  refine AW.region ?_
  show AR _ _ _ _ _ [0, 1, 2] _
  refine sS rfl rfl rfl (opS_move (av := slE _ _ _) rfl) ?_
  refine AR.run rfl rfl (AO.callp rfl en13_partr rfl (w_ref15_Boundary F y34 (some t35) x37 e38) ?_)
  refine sS rfl rfl rfl (asg rfl) ?_
  refine AR.nil ?_
  show AW _ _ _ _ _ _
  refine AW.seq ?_
  refine AW.region ?_
  show AR _ _ _ _ _ [0] _
  refine sS rfl rfl rfl (asg rfl) ?_
  refine AR.nil ?_
  show AW _ _ _ _ _ _
  refine AW.nil_grows 11 1 5 rfl fun t39 => ?_
  show AW _ _ _ _ _ ⟨(11, slE Enc.byte [] (some t39)) :: _, _, _⟩
  refine AW.cut (X := (List UInt8) × Nat) (fun (y77, t78) => ⟨[(10, S x37), (11, slE Enc.byte y77 (some t78))], [], [.tok t78 5]⟩) (fun (y77, t78) => ref15_Join_j1 x37 y77 = some (r5, r6, r7)) ?_ ?_
  ·
   refine AW.seq ?_
   refine AW.region ?_
   show AR _ _ _ _ _ [0] _
   refine sS rfl rfl rfl (asg rfl) ?_
   refine AR.nil ?_
   show AW _ _ _ _ _ _
   refine AW.block ?_
   refine AW.loop (X := Nat × (List UInt8) × Nat × Int) (fun (n44, y40, t41, y42) => ⟨[(0, slE Enc.str a1 q2), (1, slE (Enc.sl Enc.byte) a3 q4), (7, slE (Enc.sl Enc.byte) y34 (some t35)), (10, S x37), (11, slE Enc.byte y40 (some t41)), (12, i64 y42)], [], [.tok t35 26, .tok t41 5]⟩) (fun (n44, y40, t41, y42) => ref15_Join_L1 F a1 a3 y34 x37 n44 (y40, y42) = some (r5, r6, r7)) (fun (n44, y40, t41, y42) => n44) (F, [], t39, 0) H (WK.at [1, 0] (.cons (.refl _) (.cons (.refl _) (.cons (.refl _) (.cons (.refl _) (.cons (.refl _) (.cons (.refl _) (.nil _))))))) rfl) ?_
   rintro ⟨n44, y40, t41, y42⟩ H
   obtain ⟨n44, rfl, H⟩ := loop_s H
   replace H : ref15_Join_B1 F a1 a3 y34 x37 (ref15_Join_L1 F a1 a3 y34 x37 n44) y40 y42 = some (r5, r6, r7) := H
   unfold ref15_Join_B1 at H
   show AW _ _ _ _ _ _
   refine AW.seq ?_
   refine AW.seq ?_
   refine AW.region ?_
   show AR _ _ _ _ _ [0, 1, 2, 3] _
   refine sS rfl rfl rfl (mv rfl) ?_
   refine sS rfl rfl rfl (opS_move (av := slE _ _ _) rfl) ?_
   refine sS rfl rfl rfl (opS_len_sl Tryz.underlying23 rfl) ?_
   refine sS rfl rfl rfl (opS_lt rfl rfl) ?_
   refine AR.nil ?_
   show AW _ _ _ _ _ _
   refine AW.cond rfl (fun c45 => ?_) (fun c45 => ?_)
   ·replace H := cnd_t c45 H
    refine AW.skip ?_
    show AW _ _ _ _ _ _
    refine AW.seq ?_
    refine AW.block ?_
    refine AW.seq ?_
    obtain ⟨g46, H⟩ := grd_s H
    obtain ⟨x47, e48, H⟩ := lt_s H
    obtain ⟨g49, H⟩ := grd_s H
    obtain ⟨x50, e51, H⟩ := lt_s H
    obtain ⟨g53, H⟩ := grd_s H
    obtain ⟨x54, e55, H⟩ := lt_s H
    refine AW.region ?_
    show AR _ _ _ _ _ [0, 1, 2, 3, 4, 5] _
    refine sS rfl rfl rfl (opS_move (av := slE _ _ _) rfl) ?_
    refine sS rfl rfl rfl (mv rfl) ?_
    refine sS rfl rfl rfl (g_cat rfl rfl g46 e48) ?_
    refine sS rfl rfl rfl (g_cat rfl rfl g49 e51) ?_
    refine sX rfl rfl rfl (g_append_str (bytes := 1) 1 Tryz.underlying26 Tryz.underlying9 rfl (by kernel_rfl) rfl rfl rfl rfl g53 e55) ?_
    rintro _ _ ⟨t52, rfl, rfl⟩
    refine sS rfl rfl rfl (opS_assign (av := slE _ _ _) rfl) ?_
    refine AR.nil ?_
    show AW _ _ _ _ _ _
    refine AW.seq ?_
    obtain ⟨g56, H⟩ := grd_s H
    obtain ⟨x57, e58, H⟩ := lt_s H
    obtain ⟨x59, e60, H⟩ := bnd_s H
    obtain ⟨g62, H⟩ := grd_s H
    obtain ⟨x63, e64, H⟩ := lt_s H
    refine AW.region ?_
    show AR _ _ _ _ _ [0, 1, 2, 3, 4, 5, 6, 7] _
    refine sS rfl rfl rfl (opS_move (av := slE _ _ _) rfl) ?_
    refine sS rfl rfl rfl (opS_move (av := slE _ _ _) rfl) ?_
    refine sS rfl rfl rfl (mv rfl) ?_
    refine sS rfl rfl rfl (g_indexAddr (E := Enc.str) Tryz.underlying22 (by kernel_rfl) rfl rfl g56 e58) ?_
    refine sS rfl rfl rfl (opS_load_cp Tryz.underlying9 rfl rfl) ?_
    refine AR.run rfl rfl (AO.callp rfl en26_partr rfl (w_ref15_headers F x57 x59 e60) ?_)
    refine sX rfl rfl rfl (g_append (E := Enc.byte) (bytes := 1) 1 Tryz.underlying26 Tryz.underlying26 rfl (by kernel_rfl) rfl rfl rfl rfl g62 e64) ?_
    rintro _ _ ⟨t61, rfl, rfl⟩
    refine sS rfl rfl rfl (opS_assign (av := slE _ _ _) rfl) ?_
    refine AR.nil ?_
    show AW _ _ _ _ _ _
    refine AW.seq ?_
    obtain ⟨g65, H⟩ := grd_s H
    obtain ⟨x66, e67, H⟩ := lt_s H
    obtain ⟨g69, H⟩ := grd_s H
    obtain ⟨x70, e71, H⟩ := lt_s H
    refine AW.region ?_
    show AR _ _ _ _ _ [0, 1, 2, 3, 4, 5, 6] _
    refine sS rfl rfl rfl (opS_move (av := slE _ _ _) rfl) ?_
    refine sS rfl rfl rfl (opS_move (av := slE _ _ _) rfl) ?_
    refine sS rfl rfl rfl (mv rfl) ?_
    refine sS rfl rfl rfl (g_indexAddr (E := (Enc.sl Enc.byte)) Tryz.underlying23 (by kernel_rfl) rfl rfl g65 e67) ?_
    refine sS rfl rfl rfl (opS_load_cp Tryz.underlying26 rfl rfl) ?_
    refine sX rfl rfl rfl (g_append (E := Enc.byte) (bytes := 1) 1 Tryz.underlying26 Tryz.underlying26 rfl (by kernel_rfl) rfl rfl rfl rfl g69 e71) ?_
    rintro _ _ ⟨t68, rfl, rfl⟩
    refine sS rfl rfl rfl (opS_assign (av := slE _ _ _) rfl) ?_
    refine AR.nil ?_
    show AW _ _ _ _ _ _
    obtain ⟨g73, H⟩ := grd_s H
    obtain ⟨x74, e75, H⟩ := lt_s H
    refine AW.region ?_
    show AR _ _ _ _ _ [0, 1, 2, 3] _
    refine sS rfl rfl rfl (opS_move (av := slE _ _ _) rfl) ?_
    refine sR rfl rfl rfl (opR_buildE (E := Enc.byte) (bytes := 1) (xs := [.const _, .const _]) (l := ([13, 10] : List UInt8)) Tryz.underlying26 (by kernel_rfl) rfl rfl (by decide) rfl rfl) ?_
    refine sX rfl rfl rfl (g_append (E := Enc.byte) (bytes := 1) 1 Tryz.underlying26 Tryz.underlying26 rfl (by kernel_rfl) rfl rfl rfl rfl g73 e75) ?_
    rintro _ _ ⟨t72, rfl, rfl⟩
    refine sS rfl rfl rfl (opS_assign (av := slE _ _ _) rfl) ?_
    refine AR.nil ?_
    show AW _ _ _ _ _ _
    obtain ⟨g76, H⟩ := grd_s H
    refine AW.region ?_
    show AR _ _ _ _ _ [0, 1, 2] _
    refine sS rfl rfl rfl (mv rfl) ?_
    refine sS rfl rfl rfl (g_add rfl rfl g76) ?_
    refine sS rfl rfl rfl (asg rfl) ?_
    refine AR.nil ?_
    exact Exists.intro (n44, x74, t72, y42 + 1) ⟨H, Nat.lt_succ_self _, WK.at [0, 0] (.cons (.refl _) (.cons (.refl _) (.cons (.refl _) (.cons (.refl _) (.cons (.refl _) (.cons (.refl _) (.nil _))))))) rfl⟩
   ·replace H := cnd_f c45 H
    refine AW.exit ?_
    exact Exists.intro (y40, t41) ⟨H, WK.at [1] (.cons (.refl _) (.cons (.refl _) (.nil _))) rfl⟩
  rintro ⟨y77, t78⟩ H
  replace H : ref15_Join_j1 x37 y77 = some (r5, r6, r7) := H
  unfold ref15_Join_j1 at H
  show AW _ _ _ _ _ _
  refine AW.seq ?_
  obtain ⟨g80, H⟩ := grd_s H
  obtain ⟨x81, e82, H⟩ := lt_s H
  obtain ⟨g83, H⟩ := grd_s H
  obtain ⟨x84, e85, H⟩ := lt_s H
  obtain ⟨g87, H⟩ := grd_s H
  obtain ⟨x88, e89, H⟩ := lt_s H
  refine AW.region ?_
  show AR _ _ _ _ _ [0, 1, 2, 3, 4, 5, 6, 7, 8] _
  refine sS rfl rfl rfl (opS_move (av := slE _ _ _) rfl) ?_
  refine sS rfl rfl rfl (mv rfl) ?_
  refine sS rfl rfl rfl (g_cat rfl rfl g80 e82) ?_
  refine sS rfl rfl rfl (g_cat rfl rfl g83 e85) ?_
  refine sX rfl rfl rfl (g_append_str (bytes := 1) 0 Tryz.underlying26 Tryz.underlying9 rfl (by kernel_rfl) rfl rfl rfl rfl g87 e89) ?_
  rintro _ _ ⟨t86, rfl, rfl⟩
  refine sS rfl rfl rfl (mv rfl) ?_
  refine sS rfl rfl rfl (opS_assign (av := slE _ _ _) rfl) ?_
  refine sS rfl rfl rfl (asg rfl) ?_
  refine sS rfl rfl rfl (asg rfl) ?_
  refine AR.nil ?_
  show AW _ _ _ _ _ _
  refine AW.ret ?_
  obtain ⟨rfl, rfl, rfl⟩ := res3 H
  exact And.intro rfl (Exists.intro _ (Exists.intro _ ⟨ResV.threeW rfl (.tok _ _ _) (.refl _) (.refl _), Sub.at [] rfl, rfl, rfl⟩))
end Go.Proofs.YtdaafnaokdigbaaGreatDoor
namespace Go.Pv
def law15_PartJoins (F : Nat) (a1 : List (List UInt8)) (a3 : List (List UInt8)) : Option Bool :=
bnd (law15_awake F) fun x6 =>
bnd (law15_Few F a1 a3) fun x8 =>
bif (!x6) || (!x8) then
  some x6
else
  bnd3 (part_Join F a1 a3) fun x12 x13 x14 =>
  bnd3 (ref15_Join F a1 a3) fun x16 x17 x18 =>
  bndc (((decide (x12 = x16)) && (decide (x13 = x17))) && (decide (x14 = x18))) (part_Boundary F a3) fun x23 =>
  bndc (((decide (x12 = x16)) && (decide (x13 = x17))) && (decide (x14 = x18))) (ref15_Boundary F a3) fun x25 =>
  some ((((decide (x12 = x16)) && (decide (x13 = x17))) && (decide (x14 = x18))) && (decide (x23 = x25)))
end Go.Pv
namespace Go.Proofs.YtdaafnaokdigbaaGreatDoor
open Go.RowKit Go.Av Go.Pv
theorem en8_lpartjoins : ∀ (args : Array Value) (w : World), (callFunc 8 args).run Tryz.prog w = .ok (.enter 8 args) w := fun _ _ => by kernel_rfl
theorem en9_lpartjoins : ∀ (args : Array Value) (w : World), (callFunc 9 args).run Tryz.prog w = .ok (.enter 9 args) w := fun _ _ => by kernel_rfl
theorem en10_lpartjoins : ∀ (args : Array Value) (w : World), (callFunc 10 args).run Tryz.prog w = .ok (.enter 10 args) w := fun _ _ => by kernel_rfl
theorem en11_lpartjoins : ∀ (args : Array Value) (w : World), (callFunc 11 args).run Tryz.prog w = .ok (.enter 11 args) w := fun _ _ => by kernel_rfl
theorem en12_lpartjoins : ∀ (args : Array Value) (w : World), (callFunc 12 args).run Tryz.prog w = .ok (.enter 12 args) w := fun _ _ => by kernel_rfl
theorem en13_lpartjoins : ∀ (args : Array Value) (w : World), (callFunc 13 args).run Tryz.prog w = .ok (.enter 13 args) w := fun _ _ => by kernel_rfl
set_option maxRecDepth 100000 in
set_option maxHeartbeats 1000000 in
theorem w_law15_PartJoins (F : Nat) (a1 : List (List UInt8)) (q2 : Option Nat) (a3 : List (List UInt8)) (q4 : Option Nat) (r5 : Bool) (H : law15_PartJoins F a1 a3 = some r5) : ACalls Tryz.prog 3 [slE Enc.str a1 q2, slE (Enc.sl Enc.byte) a3 q4] [] (Ret (B r5) []) := by
 unfold law15_PartJoins at H
 refine ACalls.of_body Tryz.func3 rfl rfl ?_
 show AW _ _ 60 _ _ _
 refine AW.seq ?_
 refine AW.region ?_
 show AR _ _ _ _ _ [0] _
 refine sS rfl rfl rfl (asg rfl) ?_
 refine AR.nil ?_
 show AW _ _ _ _ _ _
 refine AW.seq ?_
 obtain ⟨x6, e7, H⟩ := bnd_s H
 refine AW.region ?_
 show AR _ _ _ _ _ [0, 1] _
 refine AR.run rfl rfl (AO.callp rfl en8_lpartjoins rfl (w_law15_awake F x6 e7) ?_)
 refine sS rfl rfl rfl (asg rfl) ?_
 refine AR.nil ?_
 show AW _ _ _ _ _ _
 refine AW.seq ?_
 obtain ⟨x8, e9, H⟩ := bnd_s H
 refine AW.region ?_
 show AR _ _ _ _ _ [0, 1, 2, 3] _
 refine sS rfl rfl rfl (opS_move (av := slE _ _ _) rfl) ?_
 refine sS rfl rfl rfl (opS_move (av := slE _ _ _) rfl) ?_
 refine AR.run rfl rfl (AO.callp rfl en9_lpartjoins rfl (w_law15_Few F a1 q2 a3 q4 x8 e9) ?_)
 refine sS rfl rfl rfl (asg rfl) ?_
 refine AR.nil ?_
 show AW _ _ _ _ _ _
 refine AW.seq ?_
 refine AW.seq ?_
 refine AW.region ?_
 show AR _ _ _ _ _ [0, 1, 2, 3, 4, 5] _
 refine sS rfl rfl rfl (mv rfl) ?_
 refine sS rfl rfl rfl (opS_not rfl) ?_
 refine sS rfl rfl rfl (mv rfl) ?_
 refine AR.meet (l := []) 22 (B ((!x6) || (!x8))) (fun K => ?_) ?_
 ·rcases Bool.eq_false_or_eq_true (!x6) with h10 | h10
  ·
   refine gF h10 rfl rfl rfl rfl rfl ?_
   refine gF h10 rfl rfl rfl rfl rfl ?_
   refine sS rfl rfl rfl (opS_pick_t (av := .v _) rfl h10 rfl) ?_
   exact K _ 2 _ (B_congr (or_t h10)) rfl rfl
  ·
   refine gT h10 rfl rfl rfl rfl rfl rfl (AO.ops rfl rfl (mv rfl) ?_)
   refine gT h10 rfl rfl rfl rfl rfl rfl (AO.ops rfl rfl (opS_not rfl) ?_)
   refine sS rfl rfl rfl (opS_pick_f (av := .v _) rfl h10 rfl) ?_
   exact K _ 2 _ (B_congr (or_f h10)) rfl rfl
 refine AR.nil ?_
 show AW _ _ _ _ _ _
 refine AW.cond rfl (fun c11 => ?_) (fun c11 => ?_)
 ·replace H := cnd_t c11 H
  refine AW.seq ?_
  refine AW.region ?_
  show AR _ _ _ _ _ [0, 1] _
  refine sS rfl rfl rfl (mv rfl) ?_
  refine sS rfl rfl rfl (asg rfl) ?_
  refine AR.nil ?_
  show AW _ _ _ _ _ _
  refine AW.ret ?_
  obtain rfl := Option.some.inj H
  exact And.intro rfl (Exists.intro _ (Exists.intro _ ⟨ResV.oneW rfl (.refl _), Sub.at [] rfl, rfl, rfl⟩))
 ·replace H := cnd_f c11 H
  refine AW.skip ?_
  show AW _ _ _ _ _ _
  refine AW.seq ?_
  obtain ⟨x12, x13, x14, e15, H⟩ := bnd3_s H
  refine AW.region ?_
  show AR _ _ _ _ _ [0, 1, 2, 3, 4, 5, 6, 7, 8, 9] _
  refine sS rfl rfl rfl (opS_move (av := slE _ _ _) rfl) ?_
  refine sS rfl rfl rfl (opS_move (av := slE _ _ _) rfl) ?_
  refine AR.run rfl rfl (AO.callp rfl en10_lpartjoins rfl (w_part_Join F a1 q2 a3 q4 x12 x13 x14 e15) ?_)
  refine sS rfl rfl rfl (opS_move (av := .tup _) rfl) ?_
  refine sS rfl rfl rfl (opS_extract (av := slE _ _ _) rfl rfl) ?_
  refine sS rfl rfl rfl (opS_extract (av := .v _) rfl rfl) ?_
  refine sS rfl rfl rfl (opS_extract (av := .v _) rfl rfl) ?_
  refine sS rfl rfl rfl (opS_assign (av := slE _ _ _) rfl) ?_
  refine sS rfl rfl rfl (asg rfl) ?_
  refine sS rfl rfl rfl (asg rfl) ?_
  refine AR.nil ?_
  show AW _ _ _ _ _ _
  refine AW.seq ?_
  obtain ⟨x16, x17, x18, e19, H⟩ := bnd3_s H
  refine AW.region ?_
  show AR _ _ _ _ _ [0, 1, 2, 3, 4, 5, 6, 7, 8, 9] _
  refine sS rfl rfl rfl (opS_move (av := slE _ _ _) rfl) ?_
  refine sS rfl rfl rfl (opS_move (av := slE _ _ _) rfl) ?_
  refine AR.run rfl rfl (AO.callp rfl en11_lpartjoins rfl (w_ref15_Join F a1 q2 a3 q4 x16 x17 x18 e19) ?_)
  refine sS rfl rfl rfl (opS_move (av := .tup _) rfl) ?_
  refine sS rfl rfl rfl (opS_extract (av := slE _ _ _) rfl rfl) ?_
  refine sS rfl rfl rfl (opS_extract (av := .v _) rfl rfl) ?_
  refine sS rfl rfl rfl (opS_extract (av := .v _) rfl rfl) ?_
  refine sS rfl rfl rfl (opS_assign (av := slE _ _ _) rfl) ?_
  refine sS rfl rfl rfl (asg rfl) ?_
  refine sS rfl rfl rfl (asg rfl) ?_
  refine AR.nil ?_
  show AW _ _ _ _ _ _
  refine AW.seq ?_
  obtain ⟨x23, e24, H⟩ := bndc_s H
  obtain ⟨x25, e26, H⟩ := bndc_s H
  refine AW.region ?_
  show AR _ _ _ _ _ [0, 1, 2, 3, 4, 5, 6, 7, 8, 9, 10, 11, 12, 13, 14, 15, 16, 17, 18, 19, 20, 21, 22] _
  refine sS rfl rfl rfl (opS_move (av := slE _ _ _) rfl) ?_
  refine sS rfl rfl rfl (opS_conv_bytes_str Tryz.underlying26 Tryz.underlying5 Tryz.underlying9 rfl) ?_
  refine sS rfl rfl rfl (opS_move (av := slE _ _ _) rfl) ?_
  refine sS rfl rfl rfl (opS_conv_bytes_str Tryz.underlying26 Tryz.underlying5 Tryz.underlying9 rfl) ?_
  refine sS rfl rfl rfl (opS_eqs rfl rfl) ?_
  refine sS rfl rfl rfl (mv rfl) ?_
  refine AR.meet (l := [10, 11, 12, 13, 14, 15, 16, 17, 18, 19, 20, 21, 22]) 47 (B ((decide (x12 = x16)) && (decide (x13 = x17)))) (fun K => ?_) ?_
  ·rcases Bool.eq_false_or_eq_true (decide (x12 = x16)) with h20 | h20
   ·
    refine gT h20 rfl rfl rfl rfl rfl rfl (AO.ops rfl rfl (mv rfl) ?_)
    refine gT h20 rfl rfl rfl rfl rfl rfl (AO.ops rfl rfl (mv rfl) ?_)
    refine gT h20 rfl rfl rfl rfl rfl rfl (AO.ops rfl rfl (opS_eqs rfl rfl) ?_)
    refine sS rfl rfl rfl (opS_pick_t (av := .v _) rfl h20 rfl) ?_
    exact K _ 3 _ (B_congr (and_t h20)) rfl rfl
   ·
    refine gF h20 rfl rfl rfl rfl rfl ?_
    refine gF h20 rfl rfl rfl rfl rfl ?_
    refine gF h20 rfl rfl rfl rfl rfl ?_
    refine sS rfl rfl rfl (opS_pick_f (av := .v _) rfl h20 rfl) ?_
    exact K _ 3 _ (B_congr (and_f h20)) rfl rfl
  refine sS rfl rfl rfl (mv rfl) ?_
  refine AR.meet (l := [15, 16, 17, 18, 19, 20, 21, 22]) 52 (B (((decide (x12 = x16)) && (decide (x13 = x17))) && (decide (x14 = x18)))) (fun K => ?_) ?_
  ·rcases Bool.eq_false_or_eq_true ((decide (x12 = x16)) && (decide (x13 = x17))) with h21 | h21
   ·
    refine gT h21 rfl rfl rfl rfl rfl rfl (AO.ops rfl rfl (mv rfl) ?_)
    refine gT h21 rfl rfl rfl rfl rfl rfl (AO.ops rfl rfl (mv rfl) ?_)
    refine gT h21 rfl rfl rfl rfl rfl rfl (AO.ops rfl rfl (opS_eqi rfl rfl) ?_)
    refine sS rfl rfl rfl (opS_pick_t (av := .v _) rfl h21 rfl) ?_
    exact K _ 3 _ (B_congr (and_t h21)) rfl rfl
   ·
    refine gF h21 rfl rfl rfl rfl rfl ?_
    refine gF h21 rfl rfl rfl rfl rfl ?_
    refine gF h21 rfl rfl rfl rfl rfl ?_
    refine sS rfl rfl rfl (opS_pick_f (av := .v _) rfl h21 rfl) ?_
    exact K _ 3 _ (B_congr (and_f h21)) rfl rfl
  refine sS rfl rfl rfl (mv rfl) ?_
  refine AR.meet (l := [22]) 59 (B ((((decide (x12 = x16)) && (decide (x13 = x17))) && (decide (x14 = x18))) && (decide (x23 = x25)))) (fun K => ?_) ?_
  ·rcases Bool.eq_false_or_eq_true (((decide (x12 = x16)) && (decide (x13 = x17))) && (decide (x14 = x18))) with h22 | h22
   ·
    refine gT h22 rfl rfl rfl rfl rfl rfl (AO.ops rfl rfl (opS_move (av := slE _ _ _) rfl) ?_)
    refine gT h22 rfl rfl rfl rfl rfl rfl (AO.callp rfl en12_lpartjoins rfl (w_part_Boundary F a3 q4 x23 (e24 h22)) ?_)
    refine gT h22 rfl rfl rfl rfl rfl rfl (AO.ops rfl rfl (opS_move (av := slE _ _ _) rfl) ?_)
    refine gT h22 rfl rfl rfl rfl rfl rfl (AO.callp rfl en13_lpartjoins rfl (w_ref15_Boundary F a3 q4 x25 (e26 h22)) ?_)
    refine gT h22 rfl rfl rfl rfl rfl rfl (AO.ops rfl rfl (opS_eqs rfl rfl) ?_)
    refine sS rfl rfl rfl (opS_pick_t (av := .v _) rfl h22 rfl) ?_
    exact K _ 5 _ (B_congr (and_t h22)) rfl rfl
   ·
    refine gF h22 rfl rfl rfl rfl rfl ?_
    refine gF h22 rfl rfl rfl rfl rfl ?_
    refine gF h22 rfl rfl rfl rfl rfl ?_
    refine gF h22 rfl rfl rfl rfl rfl ?_
    refine gF h22 rfl rfl rfl rfl rfl ?_
    refine sS rfl rfl rfl (opS_pick_f (av := .v _) rfl h22 rfl) ?_
    exact K _ 5 _ (B_congr (and_f h22)) rfl rfl
  refine sS rfl rfl rfl (asg rfl) ?_
  refine AR.nil ?_
  show AW _ _ _ _ _ _
  refine AW.ret ?_
  obtain rfl := Option.some.inj H
  exact And.intro rfl (Exists.intro _ (Exists.intro _ ⟨ResV.oneW rfl (.refl _), Sub.at [] rfl, rfl, rfl⟩))
end Go.Proofs.YtdaafnaokdigbaaGreatDoor
namespace Go.Hd
open Go.Pv Go.Av
abbrev Bs := List UInt8
def sp (c : UInt8) : Bs → List Bs
  | [] => [[]]
  | b :: r => if b = c then [] :: sp c r else match sp c r with
    | [] => [[b]]
    | p :: ps => (b :: p) :: ps
theorem sp_ne (c : UInt8) (s : Bs) : sp c s ≠ [] := by
  cases s with
  | nil => simp [sp]
  | cons b r => unfold sp; split; simp; split <;> simp
theorem index_one_cons (b c : UInt8) (l : Bs) : Go.Lib.index (b :: l) [c] = if b = c then 0 else if Go.Lib.index l [c] = -1 then -1 else Go.Lib.index l [c] + 1 := by
  by_cases h : b = c
  · subst h; simp [Go.Lib.index]
  · simp [Go.Lib.index, h, Ne.symm h]
def prep (cur : Bs) : List Bs → List Bs
  | [] => [cur]
  | p :: ps => (cur ++ p) :: ps
theorem sp_cons_ne {b c : UInt8} (h : ¬ b = c) (r : Bs) : sp c (b :: r) = prep [b] (sp c r) := by
  simp only [sp, h, if_false]
  cases sp c r <;> rfl
theorem sp_cons_eq (c : UInt8) (r : Bs) : sp c (c :: r) = [] :: sp c r := by simp [sp]
theorem prep_prep (a b : Bs) (l : List Bs) : prep a (prep b l) = prep (a ++ b) l := by cases l <;> simp [prep]
theorem prep_nil {l : List Bs} (h : l ≠ []) : prep [] l = l := by cases l <;> simp_all [prep]
theorem splitK_eq (c : UInt8) : ∀ (s : Bs), Go.Lib.splitK [c] 0 (s.count c) s = sp c s
  | [] => rfl
  | b :: l => by
    have ih := splitK_eq c l
    have hi := index_one_cons b c l
    have hge := Go.Lib.index_ge l [c]
    by_cases h : b = c
    · subst h
      rw [List.count_cons_self, sp_cons_eq, Go.Lib.splitK, hi]
      simp [ih]
    · rw [List.count_cons_of_ne h, sp_cons_ne h, ← ih]
      cases hk : l.count c with
      | zero => simp [Go.Lib.splitK, prep]
      | succ k =>
        rw [Go.Lib.splitK, Go.Lib.splitK, hi]
        simp only [h, if_false]
        by_cases hm : Go.Lib.index l [c] = -1
        · simp [hm, prep]
        · obtain ⟨j, hj⟩ := Int.eq_ofNat_of_zero_le (show 0 ≤ Go.Lib.index l [c] by omega)
          have h2 : ¬ (Go.Lib.index l [c] + 1 = -1) := by omega
          have h3 : (Go.Lib.index l [c] + 1).toNat = j + 1 := by omega
          have h4 : (Go.Lib.index l [c]).toNat = j := by omega
          simp [hm, h2, h3, h4, prep]
theorem split_one (s : Bs) (c : UInt8) : Go.Lib.split s [c] = sp c s := by
  unfold Go.Lib.split
  rw [Go.Lib.count_one, splitK_eq]
theorem sp_length (c : UInt8) (s : Bs) : (sp c s).length ≤ s.length + 1 := by
  induction s with
  | nil => simp [sp]
  | cons b r ih =>
    by_cases h : b = c
    · subst h; rw [sp_cons_eq]; simp; omega
    · rw [sp_cons_ne h]
      cases hs : sp c r with
      | nil => simp [prep]
      | cons p ps => rw [hs] at ih; simp [prep] at ih ⊢; omega
theorem sp_total (c : UInt8) (s : Bs) : Str.total (sp c s) + (sp c s).length = s.length + 1 := by
  induction s with
  | nil => simp [sp, Str.total]
  | cons b r ih =>
    by_cases h : b = c
    · subst h; rw [sp_cons_eq]; simp [Str.total]; omega
    · rw [sp_cons_ne h]
      cases hs : sp c r with
      | nil => exact absurd hs (sp_ne c r)
      | cons p ps => rw [hs] at ih; simp [prep, Str.total] at ih ⊢; omega
theorem ref05_loop (s : Bs) (c : UInt8) (hs : s.length ≤ 1000000) : ∀ (n : Nat) (l : List Bs) (f i : Nat), s.length + 1 - i < n → i ≤ s.length → f ≤ i → l.length ≤ i →
    ref05_Split_L1 s c n (l, (f : Int), (i : Int)) = some (l ++ prep ((s.take i).drop f) (sp c (s.drop i))) := by
  intro n
  induction n with
  | zero => intro l f i h; omega
  | succ n ih =>
    intro l f i hn hi hf hl
    show ref05_Split_B1 s c (ref05_Split_L1 s c n) l (f : Int) (i : Int) = _
    unfold ref05_Split_B1 ref05_Split_j2
    by_cases h : i < s.length
    · have hd : s.drop i = s[i] :: s.drop (i + 1) := List.drop_eq_getElem_cons h
      have hne : decide ((i : Int) = (s.length : Int)) = false := decide_eq_false (by omega)
      simp (disch := omega) only [bT, hne, Bool.not_false, grdc_t, grd_At, lt_eq, at_nat h, Bool.false_or]
      rw [hd]
      by_cases hc : s[i] = c
      · simp (disch := (first | omega | (simp; omega))) only [hc, decide_true, cond_true, grd_Sub, sub_nat, grd_Cat, grd_I, cast_succ]
        rw [ih _ _ _ (by omega) (by omega) (by omega) (by simp; omega)]
        rw [List.drop_eq_nil_of_le (show (s.take (i + 1)).length ≤ i + 1 by simp; omega), prep_nil (sp_ne _ _), sp_cons_eq]
        simp [prep]
      · simp (disch := (first | omega | (simp; omega))) only [hc, decide_false, cond_false, grd_I, cast_succ]
        rw [ih _ _ _ (by omega) (by omega) (by omega) (by omega), sp_cons_ne hc, prep_prep]
        rw [List.take_succ_eq_append_getElem h, List.drop_append_of_le_length (by simp; omega)]
    · have hi2 : i = s.length := by omega
      subst hi2
      have hyes : decide ((s.length : Int) = (s.length : Int)) = true := decide_eq_true rfl
      simp (disch := (first | omega | (simp; omega))) only [bT, hyes, Bool.not_true, grdc_f, lt_eq, Bool.true_or, cond_true, grd_Sub, sub_nat, grd_Cat, grd_I, cast_succ, List.drop_length]
      obtain ⟨m, rfl⟩ : ∃ m, n = m + 1 := ⟨n - 1, by omega⟩
      show ref05_Split_B1 s c (ref05_Split_L1 s c m) _ _ ((s.length + 1 : Nat) : Int) = _
      unfold ref05_Split_B1 ref05_Split_j1
      have h1 : ¬ (((s.length + 1 : Nat) : Int) ≤ (s.length : Int)) := by omega
      rw [bF h1]
      simp [sp, prep]
theorem ref05_Split_eq (F : Nat) (s : Bs) (c : UInt8) (hs : s.length ≤ 1000000) (hF : s.length + 1 < F) : ref05_Split F s c = some (sp c s) := by
  have := ref05_loop s c hs F [] 0 0 (by omega) (by omega) (by omega) (by simp)
  rw [show ref05_Split F s c = ref05_Split_L1 s c F ([], ((0 : Nat) : Int), ((0 : Nat) : Int)) from rfl, this]
  simp [prep_nil (sp_ne _ _)]
end Go.Hd
namespace Go.Hd
open Go.Pv Go.Av
theorem of_all8 (p : UInt8 → Bool) (h : ∀ k : Fin 256, p (UInt8.ofNat k.val) = true) (b : UInt8) : p b = true := by
  have := h ⟨b.toNat, b.toNat_lt⟩
  simpa using this
theorem u64_id (x : Int) (h0 : 0 ≤ x) (h1 : x < 18446744073709551616) : IntKind.u64.wrap x = x := by
  have : IntKind.u64.wrap x = x % 18446744073709551616 := rfl
  rw [this]; omega
theorem bvn (n : Nat) (h : n < 2 ^ 64) : (BitVec.ofInt 64 (n : Int)).toNat = n := by
  rw [BitVec.ofInt_natCast, BitVec.toNat_ofNat]; exact Nat.mod_eq_of_lt h
theorem or_two (a b k : Nat) (ha : a * 2 ^ k < 2 ^ 64) (hb : b < 2 ^ k) (hk : b < 2 ^ 64) : (BitVec.ofInt IntKind.u64.bits ((a * 2 ^ k : Nat) : Int) ||| BitVec.ofInt IntKind.u64.bits (b : Int)).toNat = a * 2 ^ k + b := by
  show (BitVec.ofInt 64 ((a * 2 ^ k : Nat) : Int) ||| BitVec.ofInt 64 (b : Int)).toNat = _
  rw [BitVec.toNat_or, bvn _ ha, bvn _ hk, ← Nat.shiftLeft_eq, Nat.shiftLeft_add_eq_or_of_lt hb]
theorem and_63 (a : Nat) (ha : a < 2 ^ 64) : (BitVec.ofInt IntKind.u64.bits (a : Int) &&& BitVec.ofInt IntKind.u64.bits 63).toNat = a % 64 := by
  show (BitVec.ofInt 64 (a : Int) &&& BitVec.ofInt 64 ((63 : Nat) : Int)).toNat = _
  rw [BitVec.toNat_and, bvn _ ha, bvn _ (by decide)]
  exact Nat.and_two_pow_sub_one_eq_mod a 6
def q3 (a b c : Nat) : Nat := a * 65536 + b * 256 + c
def ch (n : Nat) : UInt8 := b64_k1.getD n default
theorem val3 (a b c : UInt8) : IntKind.u64.wrap ((BitVec.ofInt IntKind.u64.bits (IntKind.u64.wrap ((BitVec.ofInt IntKind.u64.bits (IntKind.u64.wrap ((IntKind.u64.wrap (a.toNat : Int)) * 2 ^ min (Int.toNat 16) IntKind.u64.bits)) ||| BitVec.ofInt IntKind.u64.bits (IntKind.u64.wrap ((IntKind.u64.wrap (b.toNat : Int)) * 2 ^ min (Int.toNat 8) IntKind.u64.bits))).toNat)) ||| BitVec.ofInt IntKind.u64.bits (IntKind.u64.wrap (c.toNat : Int))).toNat) = (q3 a.toNat b.toNat c.toNat : Int) := by
  have ha := a.toNat_lt
  have hb := b.toNat_lt
  have hc := c.toNat_lt
  have e16 : (2 : Int) ^ min (Int.toNat 16) IntKind.u64.bits = 65536 := by decide +kernel
  have e8 : (2 : Int) ^ min (Int.toNat 8) IntKind.u64.bits = 256 := by decide +kernel
  rw [e16, e8, u64_id a.toNat (by omega) (by omega), u64_id b.toNat (by omega) (by omega), u64_id c.toNat (by omega) (by omega)]
  rw [u64_id ((a.toNat : Int) * 65536) (by omega) (by omega), u64_id ((b.toNat : Int) * 256) (by omega) (by omega)]
  have e1 : (a.toNat : Int) * 65536 = ((a.toNat * 2 ^ 16 : Nat) : Int) := by omega
  have e2 : (b.toNat : Int) * 256 = ((b.toNat * 256 : Nat) : Int) := by omega
  rw [e1, e2, or_two a.toNat (b.toNat * 256) 16 (by omega) (by omega) (by omega)]
  rw [u64_id ((a.toNat * 2 ^ 16 + b.toNat * 256 : Nat) : Int) (by omega) (by omega)]
  have e3 : a.toNat * 2 ^ 16 + b.toNat * 256 = (a.toNat * 256 + b.toNat) * 2 ^ 8 := by omega
  rw [e3, or_two (a.toNat * 256 + b.toNat) c.toNat 8 (by omega) (by omega) (by omega)]
  rw [u64_id (((a.toNat * 256 + b.toNat) * 2 ^ 8 + c.toNat : Nat) : Int) (by omega) (by omega)]
  unfold q3; omega
theorem idx6 (s : Nat) (v : Nat) (hv : v < 16777216) (hs : s ≤ 18) : IntKind.u64.wrap ((BitVec.ofInt IntKind.u64.bits (Int.fdiv (v : Int) (2 ^ min s IntKind.u64.bits)) &&& BitVec.ofInt IntKind.u64.bits 63).toNat) = ((v / 2 ^ s % 64 : Nat) : Int) := by
  have e : min s IntKind.u64.bits = s := by show min s 64 = s; omega
  have e2 : Int.fdiv (v : Int) (2 ^ s) = ((v / 2 ^ s : Nat) : Int) := by
    have : ((2 : Int) ^ s) = ((2 ^ s : Nat) : Int) := by simp
    rw [this, Int.fdiv_eq_ediv_of_nonneg _ (Int.natCast_nonneg _)]; rfl
  have h1 : v / 2 ^ s ≤ v := Nat.div_le_self _ _
  rw [e, e2, and_63 _ (by omega), u64_id _ (by omega) (by omega)]
theorem k1_len : b64_k1.length = 64 := by decide +kernel
theorem rk_eq : headr_k1 = b64_k1 := by decide +kernel
theorem at_ch (n : Nat) : at_ b64_k1 (n : Int) = ch n := by
  unfold at_ ch; rw [Int.toNat_natCast]
def four (a b c : UInt8) : Bs := let v := q3 a.toNat b.toNat c.toNat; [ch (v / 262144), ch (v / 4096 % 64), ch (v / 64 % 64), ch (v % 64)]
def enc : Bs → Bs
  | a :: b :: c :: r => four a b c ++ enc r
  | [a, b] => (four a b 0).take 3 ++ [61]
  | [a] => (four a 0 0).take 2 ++ [61, 61]
  | [] => []
theorem enc_len : ∀ s : Bs, (enc s).length ≤ 2 * s.length + 2
  | a :: b :: c :: r => by
    have := enc_len r
    simp [enc, four]; omega
  | [a, b] => by simp [enc, four]
  | [a] => by simp [enc, four]
  | [] => by simp [enc]
theorem q3_lt (a b c : UInt8) : q3 a.toNat b.toNat c.toNat < 16777216 := by
  have ha := a.toNat_lt
  have hb := b.toNat_lt
  have hc := c.toNat_lt
  unfold q3; omega
theorem group_eq (F : Nat) (s : Bs) (a b c : UInt8) (hs : s.length ≤ 3) (h : cpyB [0, 0, 0] s = [a, b, c]) :
    b64_group F s = some (ch (q3 a.toNat b.toNat c.toNat / 262144), bif decide ((s.length : Int) < 1) then 61 else ch (q3 a.toNat b.toNat c.toNat / 4096 % 64), bif decide ((s.length : Int) < 2) then 61 else ch (q3 a.toNat b.toNat c.toNat / 64 % 64), bif decide ((s.length : Int) < 3) then 61 else ch (q3 a.toNat b.toNat c.toNat % 64)) := by
  have hq := q3_lt a b c
  unfold b64_group
  rw [grd_D hs, lt_eq, h]
  have g0 : ([a, b, c].getD 0 0) = a := rfl
  have g1 : ([a, b, c].getD 1 0) = b := rfl
  have g2 : ([a, b, c].getD 2 0) = c := rfl
  unfold b64_group_j5 b64_group_j4 b64_group_j3 b64_group_j2 b64_group_j1
  rw [g0, g1, g2, val3]
  have d16 : (decide ((0 : Int) ≤ 16)) = true := rfl
  have i18 := idx6 (Int.toNat 18) _ hq (by decide)
  have i12 := idx6 (Int.toNat 12) _ hq (by decide)
  have i6 := idx6 (Int.toNat 6) _ hq (by decide)
  have i0 := idx6 (Int.toNat 0) _ hq (by decide)
  rw [i18, i12, i6, i0]
  have k : ∀ n : Nat, okAt ((n % 64 : Nat) : Int) b64_k1.length = true := fun n => by rw [k1_len]; exact decide_eq_true (by omega)
  have e18 : q3 a.toNat b.toNat c.toNat / 2 ^ Int.toNat 18 % 64 = q3 a.toNat b.toNat c.toNat / 262144 := by
    show q3 a.toNat b.toNat c.toNat / 262144 % 64 = _; omega
  have e12 : q3 a.toNat b.toNat c.toNat / 2 ^ Int.toNat 12 % 64 = q3 a.toNat b.toNat c.toNat / 4096 % 64 := rfl
  have e6 : q3 a.toNat b.toNat c.toNat / 2 ^ Int.toNat 6 % 64 = q3 a.toNat b.toNat c.toNat / 64 % 64 := rfl
  have e0 : q3 a.toNat b.toNat c.toNat / 2 ^ Int.toNat 0 % 64 = q3 a.toNat b.toNat c.toNat % 64 := by
    show q3 a.toNat b.toNat c.toNat / 1 % 64 = _; omega
  have k2 : okAt ((q3 a.toNat b.toNat c.toNat / 262144 : Nat) : Int) b64_k1.length = true := by rw [k1_len]; exact decide_eq_true (by omega)
  simp (disch := first | omega | decide) only [grd_D, k, grd_t, lt_eq, at_ch, e18, e12, e6, e0, k2]
  rw [bF (by omega)]
  by_cases h1 : (s.length : Int) < 1
  · simp (disch := omega) only [bT]
  · by_cases h2 : (s.length : Int) < 2
    · simp (disch := omega) only [bT, bF]
    · by_cases h3 : (s.length : Int) < 3
      · simp (disch := omega) only [bT, bF]
      · simp (disch := omega) only [bF]
theorem raw_loop (F : Nat) : ∀ (n : Nat) (s out : Bs), s.length < n → out.length + 4 * s.length + 10 ≤ 100000000 → b64_Raw_L1 F n (s, out) = some (out ++ enc s) := by
  intro n
  induction n with
  | zero => intro s out h; omega
  | succ n ih =>
    intro s out hn hl
    show b64_Raw_B1 F (b64_Raw_L1 F n) s out = _
    unfold b64_Raw_B1
    have key : ∀ (p r g : Bs) (a b c : UInt8) (x y z w : UInt8), s = p ++ r → (min 3 (s.length : Int)) = (p.length : Int) → 1 ≤ p.length → p.length ≤ 3 → cpyB [0, 0, 0] p = [a, b, c] →
        b64_group F p = some (x, y, z, w) → enc s = [x, y, z, w] ++ enc r →
        (bif decide (0 < (s.length : Int)) then grd (okTo (min 3 (s.length : Int)) s.length) <| lt (to_ s (min 3 (s.length : Int))) fun x14 => bnd4 (b64_group F x14) fun x16 x17 x18 x19 => grd (okW out ([x16, x17, x18, x19] : List UInt8)) <| lt (out ++ ([x16, x17, x18, x19] : List UInt8)) fun x23 => grd (okTo (min 3 (s.length : Int)) s.length) <| lt (from_ s (min 3 (s.length : Int))) fun x27 => b64_Raw_L1 F n (x27, x23) else b64_Raw_j1 out) = some (out ++ enc s) := by
      intro p r g a b c x y z w hs hm h1 h3 hc hg he
      have hlen : s.length = p.length + r.length := by rw [hs]; simp
      rw [bT (by omega), grd_To (by omega), lt_eq, hm, to_nat]
      have e1 : s.take p.length = p := by rw [hs]; simp
      have e2 : s.drop p.length = r := by rw [hs]; simp
      rw [e1, hg]
      show grd (okW out [x, y, z, w]) _ = _
      rw [grd_W (by simp; omega), lt_eq, grd_To (by omega), lt_eq, from_nat, e2, ih _ _ (by omega) (by simp; omega), he]
      simp
    match s with
    | a :: b :: c :: r =>
      refine key [a, b, c] r [] a b c _ _ _ _ rfl (by simp; omega) (by simp) (by simp) rfl (group_eq F _ a b c (by simp) rfl) ?_
      rw [bF (by simp), bF (by simp), bF (by simp)]; rfl
    | [a, b] =>
      refine key [a, b] [] [] a b 0 _ _ _ _ rfl (by simp; try omega) (by simp) (by simp) rfl (group_eq F _ a b 0 (by simp) rfl) ?_
      rw [bF (by simp), bF (by simp), bT (by simp)]; rfl
    | [a] =>
      refine key [a] [] [] a 0 0 _ _ _ _ rfl (by simp; try omega) (by simp) (by simp) rfl (group_eq F _ a 0 0 (by simp) rfl) ?_
      rw [bF (by simp), bT (by simp), bT (by simp)]; rfl
    | [] =>
      rw [bF (by simp)]
      unfold b64_Raw_j1
      rw [grd_W (by simp at hl ⊢; omega)]; simp [enc]
theorem Raw_eq (F : Nat) (s : Bs) (hF : s.length < F) (hs : s.length ≤ 1000000) : b64_Raw F s = some (enc s) := by
  have := raw_loop F F s [] hF (by simp; omega)
  rw [List.nil_append] at this
  exact this
theorem rat_ch (n : Nat) : at_ headr_k1 (n : Int) = ch n := by rw [rk_eq]; exact at_ch n
theorem rk_len : headr_k1.length = 64 := by rw [rk_eq]; exact k1_len
theorem okc (n : Nat) (h : n < 64) : okAt (n : Int) headr_k1.length = true := by rw [rk_len]; exact decide_eq_true (by omega)
def gb (s : Bs) (i : Nat) : UInt8 := s.getD i 0
theorem j4_eq (s out : Bs) (i v : Nat) (rec8 : (Bs × Int) → Option Bs) (hs : s.length ≤ 1000000) (hi : i < s.length) (hv : v < 16777216) (ho : out.length ≤ 100000000) :
    ref13_Raw_j4 s out (i : Int) rec8 (v : Int) = rec8 (out ++ [ch (v / 262144), ch (v / 4096 % 64), bif decide (i + 1 < s.length) then ch (v / 64 % 64) else 61, bif decide (i + 2 < s.length) then ch (v % 64) else 61], ((i + 3 : Nat) : Int)) := by
  unfold ref13_Raw_j4
  have a1 : ((v : Int) / 262144) = ((v / 262144 : Nat) : Int) := by omega
  have a2 : ((v : Int) / 4096 % 64) = ((v / 4096 % 64 : Nat) : Int) := by omega
  have a3 : ((v : Int) / 64 % 64) = ((v / 64 % 64 : Nat) : Int) := by omega
  have a4 : ((v : Int) % 64) = ((v % 64 : Nat) : Int) := by omega
  have a5 : ((i : Int) + 3) = ((i + 3 : Nat) : Int) := by omega
  have hq : ∀ n : Nat, okAt ((n % 64 : Nat) : Int) headr_k1.length = true := fun n => okc _ (by omega)
  rw [grd_Div (by omega), a1, okc _ (by omega), grd_t, lt_eq, rat_ch, grd_Div (by omega), grd_Div (by omega), a2, hq, grd_t, lt_eq, rat_ch, grd_Cat (by simp; omega), lt_eq, grd_I (by omega)]
  unfold ref13_Raw_j3 ref13_Raw_j2
  by_cases h1 : i + 1 < s.length
  · rw [bT (show (i : Int) + 1 < s.length by omega), bT h1, grd_Div (by omega), grd_Div (by omega), a3, hq, grd_t, lt_eq, rat_ch, grd_Cat (by simp; omega), lt_eq, grd_I (by omega)]
    by_cases h2 : i + 2 < s.length
    · rw [bT (show (i : Int) + 2 < s.length by omega), bT h2, grd_Div (by omega), a4, hq, grd_t, lt_eq, rat_ch, grd_Cat (by simp; omega), lt_eq, grd_I (by omega), a5]
      simp
    · rw [bF (show ¬ (i : Int) + 2 < s.length by omega), bF h2, grd_Cat (by simp; omega), lt_eq, grd_I (by omega), a5]
      simp
  · rw [bF (show ¬ (i : Int) + 1 < s.length by omega), bF h1, grd_Cat (by simp; omega), lt_eq, grd_I (by omega)]
    rw [bF (show ¬ (i : Int) + 2 < s.length by omega), bF (show ¬ i + 2 < s.length by omega), grd_Cat (by simp; omega), lt_eq, grd_I (by omega), a5]
    simp
theorem rL1s (s out : Bs) (i : Int) (m : Nat) (rec8 : (Bs × Int) → Option Bs) (x : Int × Int) : ref13_Raw_L1 s out i rec8 (m + 1) x = ref13_Raw_B1 s out i rec8 (ref13_Raw_L1 s out i rec8 m) x.1 x.2 := rfl
theorem in_step (s out : Bs) (i j v m : Nat) (rec8 : (Bs × Int) → Option Bs) (hs : s.length ≤ 1000000) (hi : i < s.length) (hj : j < i + 3) (hv : v < 16777216) :
    ref13_Raw_L1 s out (i : Int) rec8 (m + 1) ((v : Int), (j : Int)) = ref13_Raw_L1 s out (i : Int) rec8 m (((256 * v + (gb s j).toNat : Nat) : Int), ((j + 1 : Nat) : Int)) := by
  show ref13_Raw_B1 s out (i : Int) rec8 (ref13_Raw_L1 s out (i : Int) rec8 m) (v : Int) (j : Int) = _
  unfold ref13_Raw_B1 ref13_Raw_j5
  rw [grd_I (by omega), bT (by omega), grd_I (by omega)]
  by_cases h : j < s.length
  · have h8 := s[j].toNat_lt
    rw [bT (by omega), grd_At (by omega), lt_eq, at_nat h, grd_I (by omega), grd_I (by omega)]
    have : gb s j = s[j] := by simp [gb, h]
    rw [this]; rfl
  · rw [bF (by omega), grd_I (by omega)]
    have : gb s j = 0 := by simp [gb, List.getD, List.getElem?_eq_none (show s.length ≤ j by omega)]
    rw [this]; rfl
theorem in_three (s out : Bs) (i m : Nat) (rec8 : (Bs × Int) → Option Bs) (hs : s.length ≤ 1000000) (hi : i < s.length) :
    ref13_Raw_L1 s out (i : Int) rec8 (m + 3) (((0 : Nat) : Int), (i : Int)) = ref13_Raw_L1 s out (i : Int) rec8 m (((q3 (gb s i).toNat (gb s (i + 1)).toNat (gb s (i + 2)).toNat : Nat) : Int), ((i + 3 : Nat) : Int)) := by
  have h0 := (gb s i).toNat_lt
  have h1 := (gb s (i + 1)).toNat_lt
  have h2 := (gb s (i + 2)).toNat_lt
  refine (in_step s out i i 0 (m + 2) rec8 hs hi (by omega) (by omega)).trans ?_
  refine (in_step s out i (i + 1) (256 * 0 + (gb s i).toNat) (m + 1) rec8 hs hi (by omega) (by omega)).trans ?_
  refine (in_step s out i (i + 2) (256 * (256 * 0 + (gb s i).toNat) + (gb s (i + 1)).toNat) m rec8 hs hi (by omega) (by omega)).trans ?_
  have e : 256 * (256 * (256 * 0 + (gb s i).toNat) + (gb s (i + 1)).toNat) + (gb s (i + 2)).toNat = q3 (gb s i).toNat (gb s (i + 1)).toNat (gb s (i + 2)).toNat := by unfold q3; omega
  rw [e]
theorem enc_drop (s : Bs) (i : Nat) (h : i < s.length) : enc (s.drop i) = [ch (q3 (gb s i).toNat (gb s (i + 1)).toNat (gb s (i + 2)).toNat / 262144), ch (q3 (gb s i).toNat (gb s (i + 1)).toNat (gb s (i + 2)).toNat / 4096 % 64), bif decide (i + 1 < s.length) then ch (q3 (gb s i).toNat (gb s (i + 1)).toNat (gb s (i + 2)).toNat / 64 % 64) else 61, bif decide (i + 2 < s.length) then ch (q3 (gb s i).toNat (gb s (i + 1)).toNat (gb s (i + 2)).toNat % 64) else 61] ++ enc (s.drop (i + 3)) := by
  have g : ∀ k, gb s (i + k) = (s.drop i).getD k 0 := by intro k; simp [gb, List.getD]
  have g0 := g 0
  have g1 := g 1
  have g2 := g 2
  have hl : (s.drop i).length = s.length - i := by simp
  have hd : s.drop (i + 3) = (s.drop i).drop 3 := by simp
  rw [Nat.add_zero] at g0
  rw [g0, g1, g2, hd]
  match hm : s.drop i with
  | a :: b :: c :: r => rw [hm] at hl; simp at hl; rw [bT (by omega), bT (by omega)]; rfl
  | [a, b] => rw [hm] at hl; simp at hl; rw [bT (by omega), bF (by omega)]; rfl
  | [a] => rw [hm] at hl; simp at hl; rw [bF (by omega), bF (by omega)]; rfl
  | [] => rw [hm] at hl; simp at hl; omega
theorem rraw_loop (F : Nat) (hF : 4 ≤ F) (s : Bs) (hs : s.length ≤ 1000000) : ∀ (n i : Nat) (out : Bs), s.length - i < n → i ≤ s.length + 3 → out.length ≤ 4 * i → ref13_Raw_L2 F s n (out, (i : Int)) = some (out ++ enc (s.drop i)) := by
  intro n
  induction n with
  | zero => intro i out h; omega
  | succ n ih =>
    intro i out hn hi ho
    show ref13_Raw_B2 F s (ref13_Raw_L2 F s n) out (i : Int) = _
    unfold ref13_Raw_B2
    by_cases h : i < s.length
    · obtain ⟨m, rfl⟩ : ∃ m, F = m + 4 := ⟨F - 4, by omega⟩
      have hq := q3_lt (gb s i) (gb s (i + 1)) (gb s (i + 2))
      rw [bT (by omega)]
      have h3 := in_three s out i (m + 1) (ref13_Raw_L2 (m + 4) s n) hs h
      refine h3.trans ?_
      rw [rL1s]
      unfold ref13_Raw_B1
      rw [grd_I (by omega), bF (by omega), j4_eq s out i _ _ hs h (by omega) (by omega), ih _ _ (by omega) (by omega) (by simp; omega), enc_drop s i h, List.append_assoc]
    · have hd : s.drop i = [] := List.drop_eq_nil_of_le (by omega)
      rw [bF (by omega), hd]
      unfold ref13_Raw_j1; simp [enc]
theorem rRaw_eq (F : Nat) (s : Bs) (hF : s.length + 4 < F) (hs : s.length ≤ 1000000) : ref13_Raw F s = some (enc s) := by
  have := rraw_loop F (by omega) s hs F 0 [] (by omega) (by omega) (by simp)
  rw [List.nil_append, List.drop_zero] at this
  exact this
end Go.Hd
namespace Go.Hd
open Go.Pv Go.Av
def num (c : UInt8) : Int := if c = 61 then 0 else Go.Lib.indexByte b64_k1 c
def stp (acc n : Int) (c : UInt8) : Option (Int × Int) :=
  if num c < 0 ∨ (if c = 61 then n - 1 else n) < 1 then none
  else some (IntKind.u64.wrap ((BitVec.ofInt IntKind.u64.bits (IntKind.u64.wrap (acc * 2 ^ min (Int.toNat 6) IntKind.u64.bits)) ||| BitVec.ofInt IntKind.u64.bits (IntKind.u64.wrap (num c))).toNat), (if c = 61 then n - 1 else n))
def g4 (c0 c1 c2 c3 : UInt8) : Option (Int × Int) :=
  match stp 0 3 c0 with
  | none => none
  | some (a, n) => match stp a n c1 with
    | none => none
    | some (a, n) => match stp a n c2 with
      | none => none
      | some (a, n) => stp a n c3
def three (v n : Int) : Bs := to_ ([Go.Av.toB (Int.fdiv v (2 ^ min (Int.toNat 16) IntKind.u64.bits)), Go.Av.toB (Int.fdiv v (2 ^ min (Int.toNat 8) IntKind.u64.bits)), Go.Av.toB v] : Bs) n
theorem fd (v k : Nat) : Int.fdiv (v : Int) ((k : Nat) : Int) = ((v / k : Nat) : Int) := by
  rw [Int.fdiv_eq_ediv_of_nonneg _ (Int.natCast_nonneg _)]; rfl
open Classical in
noncomputable def dec (s : Bs) : Bs × Int := if h : ∃ b, enc b = s then (h.choose, 0) else ([], 2)
end Go.Hd
namespace Go.Hd
open Go.Pv Go.Av
def nameb (c : UInt8) : Bool := ((((decide (97 ≤ (c.toNat : Int))) && (decide ((c.toNat : Int) ≤ 122))) || ((decide (65 ≤ (c.toNat : Int))) && (decide ((c.toNat : Int) ≤ 90)))) || ((decide (48 ≤ (c.toNat : Int))) && (decide ((c.toNat : Int) ≤ 57)))) || (decide (c = 45))
def okb (c : UInt8) : Bool := (decide (32 ≤ (c.toNat : Int))) && (decide ((c.toNat : Int) < 127))
theorem onlyN_loop (F : Nat) (s : Bs) (hs : s.length ≤ 1000000) : ∀ (n i : Nat), s.length - i < n → i ≤ s.length → head_onlyN_L1 F s n (i : Int) = some ((s.drop i).all nameb && !decide (s = [])) := by
  intro n
  induction n with
  | zero => intro i h; omega
  | succ n ih =>
    intro i hn hi
    show head_onlyN_B1 F s (head_onlyN_L1 F s n) (i : Int) = _
    unfold head_onlyN_B1 head_onlyN_j1
    by_cases h : i < s.length
    · have hd : s.drop i = s[i] :: s.drop (i + 1) := List.drop_eq_getElem_cons h
      have hc : head_nameC F s[i] = some (nameb s[i]) := rfl
      rw [bT (by omega), grd_At (by omega), lt_eq, at_nat h, hc, bnd_some, hd, List.all_cons]
      cases hp : nameb s[i] with
      | false => rfl
      | true => rw [Bool.not_true, cond_false, grd_I (by omega), cast_succ, ih (i + 1) (by omega) (by omega), Bool.true_and]
    · rw [bF (by omega), List.drop_eq_nil_of_le (by omega)]; simp
theorem onlyN_eq (F : Nat) (s : Bs) (hs : s.length ≤ 1000000) (hF : s.length < F) : head_onlyN F s = some (s.all nameb && !decide (s = [])) := onlyN_loop F s hs F 0 (by omega) (by omega)
theorem onlyP_loop (F : Nat) (s : Bs) (hs : s.length ≤ 1000000) : ∀ (n i : Nat), s.length - i < n → i ≤ s.length → head_onlyP_L1 F s n (i : Int) = some ((s.drop i).all okb && !decide (s = [])) := by
  intro n
  induction n with
  | zero => intro i h; omega
  | succ n ih =>
    intro i hn hi
    show head_onlyP_B1 F s (head_onlyP_L1 F s n) (i : Int) = _
    unfold head_onlyP_B1 head_onlyP_j1
    by_cases h : i < s.length
    · have hd : s.drop i = s[i] :: s.drop (i + 1) := List.drop_eq_getElem_cons h
      have hc : head_plainC F s[i] = some (okb s[i]) := rfl
      rw [bT (by omega), grd_At (by omega), lt_eq, at_nat h, hc, bnd_some, hd, List.all_cons]
      cases hp : okb s[i] with
      | false => rfl
      | true => rw [Bool.not_true, cond_false, grd_I (by omega), cast_succ, ih (i + 1) (by omega) (by omega), Bool.true_and]
    · rw [bF (by omega), List.drop_eq_nil_of_le (by omega)]; simp
theorem onlyP_eq (F : Nat) (s : Bs) (hs : s.length ≤ 1000000) (hF : s.length < F) : head_onlyP F s = some (s.all okb && !decide (s = [])) := onlyP_loop F s hs F 0 (by omega) (by omega)
def nameB (s : Bs) : Bool := (s.all nameb && !decide (s = [])) && decide (s.length ≤ 40)
theorem name_eq (F : Nat) (s : Bs) (hs : s.length ≤ 1000000) (hF : s.length < F) : head_name F s = some (nameB s) := by
  unfold head_name nameB
  rw [onlyN_eq F s hs hF]
  by_cases h : s.length ≤ 40
  · rw [decide_eq_true (show (s.length : Int) ≤ 40 by omega), decide_eq_true h, bndc_t, bnd_some, Bool.true_and, Bool.and_true]
  · rw [decide_eq_false (show ¬ (s.length : Int) ≤ 40 by omega), decide_eq_false h, bndc_f, Bool.false_and, Bool.and_false]
theorem rname_loop (s : Bs) (hs : s.length ≤ 1000000) : ∀ (n i : Nat), s.length - i < n → i ≤ s.length → ref14_Name_L1 s n (i : Int) = some (bif (s.drop i).all nameb then (decide (1 ≤ (s.length : Int))) && (decide ((s.length : Int) ≤ 40)) else false) := by
  intro n
  induction n with
  | zero => intro i h; omega
  | succ n ih =>
    intro i hn hi
    show ref14_Name_B1 s (ref14_Name_L1 s n) (i : Int) = _
    unfold ref14_Name_B1 ref14_Name_j1
    by_cases h : i < s.length
    · have hd : s.drop i = s[i] :: s.drop (i + 1) := List.drop_eq_getElem_cons h
      rw [bT (by omega), grd_At (by omega), lt_eq, at_nat h, hd, List.all_cons]
      change (bif !(nameb s[i]) then _ else _) = _
      cases hp : nameb s[i] with
      | false => rfl
      | true => rw [Bool.not_true, cond_false, grd_I (by omega), cast_succ, ih (i + 1) (by omega) (by omega), Bool.true_and]
    · rw [bF (by omega), List.drop_eq_nil_of_le (by omega)]; rfl
theorem rname_eq (F : Nat) (s : Bs) (hs : s.length ≤ 1000000) (hF : s.length < F) : ref14_Name F s = some (nameB s) := by
  have := rname_loop s hs F 0 (by omega) (by omega)
  unfold ref14_Name
  refine Eq.trans this ?_
  rw [List.drop_zero]
  unfold nameB
  cases s.all nameb with
  | false => rfl
  | true =>
    rw [cond_true, Bool.true_and]
    congr 1
    by_cases h : s = []
    · subst h; rfl
    · have h1 := List.length_pos_iff.2 h
      rw [decide_eq_false h, decide_eq_true (show 1 ≤ (s.length : Int) by omega), Bool.not_false]
      congr 1
      exact decide_eq_decide.2 (by omega)
def bad (x y : UInt8) : Bool := (x == 32 && y == 32) || (x == 61 && y == 63)
def has2 (p : UInt8 → UInt8 → Bool) : Bs → Bool
  | x :: y :: r => p x y || has2 p (y :: r)
  | _ => false
theorem contains_cons (x : UInt8) (r sub : Bs) : Go.Lib.contains (x :: r) sub = (sub.isPrefixOf (x :: r) || Go.Lib.contains r sub) := by
  unfold Go.Lib.contains
  have hg := Go.Lib.index_ge r sub
  rw [Go.Lib.index]
  cases hp : sub.isPrefixOf (x :: r) with
  | true => simp
  | false =>
    rw [if_neg (by simp), Bool.false_or]
    by_cases h : Go.Lib.index r sub = -1
    · rw [h]; rfl
    · rw [if_neg (by simpa using h)]
      exact decide_eq_decide.2 (by omega)
theorem contains_two (a b : UInt8) : ∀ s : Bs, Go.Lib.contains s [a, b] = has2 (fun x y => x == a && y == b) s
  | [] => rfl
  | [x] => by rw [contains_cons]; simp [has2, List.isPrefixOf, Go.Lib.contains, Go.Lib.index]
  | x :: y :: r => by
    rw [contains_cons, contains_two a b (y :: r), has2]
    simp only [List.isPrefixOf, Bool.and_true]
    rw [Bool.beq_comm (a := x), Bool.beq_comm (a := y)]
theorem has2_or (p q : UInt8 → UInt8 → Bool) : ∀ s : Bs, has2 (fun x y => p x y || q x y) s = (has2 p s || has2 q s)
  | [] => rfl
  | [x] => rfl
  | x :: y :: r => by
    rw [has2, has2, has2, has2_or p q (y :: r)]
    cases p x y <;> cases q x y <;> cases has2 p (y :: r) <;> rfl
theorem dw_len (p : UInt8 → Bool) : ∀ s : Bs, (s.dropWhile p).length ≤ s.length
  | [] => Nat.le_refl _
  | x :: r => by
    rw [List.dropWhile_cons]
    have := dw_len p r
    split
    · simp; omega
    · exact Nat.le_refl _
theorem dw_id (c : UInt8) (s : Bs) : s.dropWhile (· == c) = s ↔ s.head? ≠ some c := by
  cases s with
  | nil => simp
  | cons x r =>
    rw [List.dropWhile_cons]
    have := dw_len (· == c) r
    by_cases h : x = c
    · subst h
      simp only [beq_self_eq_true, if_true, List.head?_cons, ne_eq, not_true_eq_false, iff_false]
      intro he
      rw [he] at this
      simp at this
      omega
    · simp [h]
theorem trim_id (c : UInt8) (s : Bs) : Go.Lib.trimB s c = s ↔ s.head? ≠ some c ∧ s.getLast? ≠ some c := by
  have hr : Go.Lib.trimRightB s c = s ↔ s.getLast? ≠ some c := by
    unfold Go.Lib.trimRightB
    rw [← List.head?_reverse, ← dw_id, ← List.reverse_inj, List.reverse_reverse]
  have hl : (Go.Lib.trimRightB s c).length ≤ s.length := by
    have := dw_len (· == c) s.reverse
    unfold Go.Lib.trimRightB
    simpa using this
  unfold Go.Lib.trimB
  constructor
  · intro h
    have h1 := dw_len (· == c) (Go.Lib.trimRightB s c)
    have h2 : (Go.Lib.trimRightB s c) = s := by
      have e : (Go.Lib.trimRightB s c).length = s.length := by
        have := congrArg List.length h
        unfold Go.Lib.trimLeftB at this
        omega
      have p : Go.Lib.trimRightB s c <+: s := by
        unfold Go.Lib.trimRightB
        rw [← List.reverse_suffix, List.reverse_reverse]
        exact List.dropWhile_suffix _
      exact p.eq_of_length e
    rw [h2] at h
    exact ⟨(dw_id c s).1 h, hr.1 h2⟩
  · intro ⟨h1, h2⟩
    rw [hr.2 h2]
    exact (dw_id c s).2 h1
def plainB (s : Bs) : Bool := (((s.all okb && !decide (s = [])) && (decide (s.head? ≠ some 32) && decide (s.getLast? ≠ some 32))) && !has2 bad s)
theorem Plain_eq (F : Nat) (s : Bs) (hs : s.length ≤ 1000000) (hF : s.length < F) : head_Plain F s = some (plainB s) := by
  unfold head_Plain
  have hS : ∀ (c : Bool) (k : Option Bool), grdc c (okS s.length) k = k := fun c k => by
    rw [show okS s.length = true from decide_eq_true (by omega)]; cases c <;> rfl
  rw [onlyP_eq F s hs hF, bnd_some, hS, lt_eq, hS, lt_eq, hS, lt_eq, contains_two, contains_two]
  have e1 : has2 bad s = (has2 (fun x y => x == 32 && y == 32) s || has2 (fun x y => x == 61 && y == 63) s) := has2_or _ _ s
  have e2 : decide (Go.Lib.trimB s 32 = s) = (decide (s.head? ≠ some 32) && decide (s.getLast? ≠ some 32)) := by
    rw [← Bool.decide_and]; exact decide_eq_decide.2 (trim_id 32 s)
  unfold plainB
  rw [e1, e2, Bool.not_or, Bool.and_assoc _ (!_) (!_)]
def chk (p : Option UInt8) : Bs → Bool
  | [] => true
  | c :: r => okb c && !(match p with | none => false | some x => bad x c) && chk (some c) r
theorem chk_some : ∀ (r : Bs) (p : UInt8), chk (some p) r = (r.all okb && !has2 bad (p :: r))
  | [], p => rfl
  | c :: r, p => by
    rw [chk, chk_some r c, has2, List.all_cons]
    cases okb c <;> cases bad p c <;> cases r.all okb <;> rfl
theorem chk_none (s : Bs) : chk none s = (s.all okb && !has2 bad s) := by
  cases s with
  | nil => rfl
  | cons c r => rw [chk, chk_some, List.all_cons]; cases okb c <;> cases r.all okb <;> rfl
theorem bq (a b : UInt8) : decide (a = b) = (a == b) := by by_cases h : a = b <;> simp [h]
theorem fand (x : Bool) : (false && x) = false := Eq.symm (Eq.symm rfl)
theorem tand (x : Bool) : (true && x) = x := Eq.symm (Eq.symm rfl)
theorem nfl : (!false) = true := Eq.symm (Eq.symm rfl)
theorem ntr : (!true) = false := Eq.symm (Eq.symm rfl)
theorem cfl {α : Type} (a b : α) : (bif false then a else b) = b := Eq.symm (Eq.symm rfl)
theorem ctr {α : Type} (a b : α) : (bif true then a else b) = a := Eq.symm (Eq.symm rfl)
def prev (s : Bs) (i : Nat) : Option UInt8 := if i = 0 then none else s[i - 1]?
theorem rplain_loop (s : Bs) (hs : s.length ≤ 1000000) : ∀ (n i : Nat), s.length - i < n → i ≤ s.length → ref14_Plain_L1 s n (i : Int) = bif chk (prev s i) (s.drop i) then ref14_Plain_j1 s else some false := by
  intro n
  induction n with
  | zero => intro i h; omega
  | succ n ih =>
    intro i hn hi
    show ref14_Plain_B1 s (ref14_Plain_L1 s n) (i : Int) = _
    unfold ref14_Plain_B1
    by_cases h : i < s.length
    · have hd : s.drop i = s[i] :: s.drop (i + 1) := List.drop_eq_getElem_cons h
      have hp : prev s (i + 1) = some s[i] := by simp [prev, h]
      have hA : ∀ (c : Bool) (k : Option Bool), grdc c (okAt (i : Int) s.length) k = k := fun c k => by
        rw [show okAt (i : Int) s.length = true from decide_eq_true (by omega)]; cases c <;> rfl
      have ok1 : okb s[i] = !((decide ((s[i].toNat : Int) < 32)) || (decide (126 < (s[i].toNat : Int)))) := by
        unfold okb
        by_cases h1 : (s[i].toNat : Int) < 32
        · rw [decide_eq_true h1, decide_eq_false (by omega)]; rfl
        · by_cases h2 : 126 < (s[i].toNat : Int)
          · rw [decide_eq_false h1, decide_eq_true h2, decide_eq_false (show ¬ (s[i].toNat : Int) < 127 by omega)]; cases decide (32 ≤ (s[i].toNat : Int)) <;> rfl
          · rw [decide_eq_false h1, decide_eq_false h2, decide_eq_true (show 32 ≤ (s[i].toNat : Int) by omega), decide_eq_true (show (s[i].toNat : Int) < 127 by omega)]; rfl
      rw [bT (by omega), grd_At (by omega), lt_eq, at_nat h, hA, lt_eq, hd]
      unfold chk
      rw [ok1]
      cases hk : (decide ((s[i].toNat : Int) < 32)) || (decide (126 < (s[i].toNat : Int))) with
      | true => rw [ctr, ntr, fand, fand, cfl]
      | false =>
        rw [cfl, hA, lt_eq]
        by_cases h0 : i = 0
        · have d0 : decide ((0 : Int) < (i : Int)) = false := decide_eq_false (by omega)
          have ep : prev s i = none := by unfold prev; rw [if_pos h0]
          simp only [d0, fand, grdc_f, lt_eq, cfl, ep, nfl, tand]
          rw [grd_I (by omega), cast_succ, ih (i + 1) (by omega) (by omega), hp]
        · have d0 : decide ((0 : Int) < (i : Int)) = true := decide_eq_true (by omega)
          have e1 : (i : Int) - 1 = ((i - 1 : Nat) : Int) := by omega
          have ep : prev s i = some s[i - 1] := by simp [prev, h0]
          have hB : ∀ (c : Bool) (k : Option Bool), grdc c (okAt ((i - 1 : Nat) : Int) s.length) k = k := fun c k => by
            rw [show okAt ((i - 1 : Nat) : Int) s.length = true from decide_eq_true (by omega)]; cases c <;> rfl
          have hI : ∀ (c : Bool) (k : Option Bool), grdc c (okI ((i - 1 : Nat) : Int)) k = k := fun c k => by
            rw [show okI ((i - 1 : Nat) : Int) = true from decide_eq_true (by omega)]; cases c <;> rfl
          simp only [e1, d0, tand, hA, hB, hI, lt_eq, ep, nfl, at_nat (show i - 1 < s.length by omega)]
          have hb : (((decide (s[i] = 32)) && (decide (s[i - 1] = 32))) || ((decide (s[i] = 63)) && (decide (s[i - 1] = 61)))) = bad s[i - 1] s[i] := by
            unfold bad
            rw [bq, bq, bq, bq, Bool.and_comm, Bool.and_comm (s[i] == 63)]
          rw [hb]
          cases bad s[i - 1] s[i] with
          | true => rw [ctr, ntr, fand, cfl]
          | false => rw [cfl, grd_I (by omega), cast_succ, ih (i + 1) (by omega) (by omega), hp, nfl, tand]
    · rw [bF (by omega), List.drop_eq_nil_of_le (by omega)]; rfl
theorem rPlain_eq (F : Nat) (s : Bs) (hs : s.length ≤ 1000000) (hF : s.length < F) : ref14_Plain F s = some (plainB s) := by
  have := rplain_loop s hs F 0 (by omega) (by omega)
  unfold ref14_Plain
  refine Eq.trans this ?_
  rw [List.drop_zero, show prev s 0 = none from rfl, chk_none]
  unfold plainB
  by_cases h : s = []
  · subst h; rfl
  · have h1 := List.length_pos_iff.2 h
    have hj : ref14_Plain_j1 s = some (decide (s.head? ≠ some 32) && decide (s.getLast? ≠ some 32)) := by
      have e1 : (s.length : Int) - 1 = ((s.length - 1 : Nat) : Int) := by omega
      have hA : ∀ (c : Bool) (i : Nat) (k : Option Bool), i < s.length → grdc c (okAt (i : Int) s.length) k = k := fun c i k hi => by
        rw [show okAt (i : Int) s.length = true from decide_eq_true (by omega)]; cases c <;> rfl
      have hI : ∀ (c : Bool) (k : Option Bool), grdc c (okI ((s.length - 1 : Nat) : Int)) k = k := fun c k => by
        rw [show okI ((s.length - 1 : Nat) : Int) = true from decide_eq_true (by omega)]; cases c <;> rfl
      unfold ref14_Plain_j1
      rw [show (0 : Int) = ((0 : Nat) : Int) from rfl]
      rw [hA _ 0 _ h1, lt_eq, e1, hI, hA _ (s.length - 1) _ (by omega), lt_eq, at_nat h1, at_nat (by omega), decide_eq_true (show ((0 : Nat) : Int) < s.length by omega), Bool.true_and]
      have x1 : s.head? = some s[0] := by rw [List.head?_eq_getElem?, List.getElem?_eq_getElem h1]
      have x2 : s.getLast? = some s[s.length - 1] := by rw [List.getLast?_eq_getElem?, List.getElem?_eq_getElem (by omega)]
      rw [x1, x2]
      simp
    rw [hj, decide_eq_false h]
    cases s.all okb <;> cases has2 bad s <;> simp
def insb (c : UInt8) : Bool := decide (Go.Av.shr8 c 6 = 2)
theorem insb_eq (c : UInt8) : ((decide ((c.toNat : Int) < 128)) || (decide (191 < (c.toNat : Int)))) = !insb c := by
  have := of_all8 (fun c => ((decide ((c.toNat : Int) < 128)) || (decide (191 < (c.toNat : Int)))) == !insb c) (by decide +kernel) c
  exact eq_of_beq this
def dn (s : Bs) : Nat → Nat
  | 0 => 45
  | k + 1 => bif insb (gb s (42 + k)) then dn s k else 42 + k
theorem gb_at {s : Bs} {i : Nat} (h : i < s.length) : gb s i = s[i] := by simp [gb, h]
theorem part_loop (F : Nat) (s : Bs) (hs : 45 < s.length) : ∀ (n k : Nat), k < n → k ≤ 4 → head_part_L1 F s n ((41 + k : Nat) : Int) = some ((dn s k : Nat) : Int) := by
  intro n
  induction n with
  | zero => intro k h; omega
  | succ n ih =>
    intro k hk h4
    show head_part_B1 F s (head_part_L1 F s n) ((41 + k : Nat) : Int) = _
    unfold head_part_B1
    cases k with
    | zero => rfl
    | succ k =>
      have e : 41 + (k + 1) = 42 + k := by omega
      have hb : head_inside F s[42 + k] = some (insb (gb s (42 + k))) := by rw [gb_at (by omega)]; rfl
      rw [e, decide_eq_true (show (41 : Int) < ((42 + k : Nat) : Int) by omega), grdc_t, grd_At (by omega), lt_eq, at_nat (by omega), hb, bndc_t, bnd_some, Bool.true_and]
      unfold dn
      cases insb (gb s (42 + k)) with
      | true =>
        have e2 : ((42 + k : Nat) : Int) - 1 = ((41 + k : Nat) : Int) := by omega
        rw [cond_true, cond_true, grd_I (by omega), e2, ih k (by omega) (by omega)]
      | false =>
        rw [cond_false, cond_false]
        unfold head_part_j1
        rw [bF (by omega)]
theorem rpart_loop (s : Bs) (hs : 45 < s.length) : ∀ (n k : Nat), k < n → k ≤ 4 → ref14_part_L1 s n ((41 + k : Nat) : Int) = some ((dn s k : Nat) : Int) := by
  intro n
  induction n with
  | zero => intro k h; omega
  | succ n ih =>
    intro k hk h4
    show ref14_part_B1 s (ref14_part_L1 s n) ((41 + k : Nat) : Int) = _
    unfold ref14_part_B1
    cases k with
    | zero => rw [bF (by omega)]; rfl
    | succ k =>
      have e : 41 + (k + 1) = 42 + k := by omega
      have hA : ∀ (c : Bool) (k' : Option Int), grdc c (okAt ((42 + k : Nat) : Int) s.length) k' = k' := fun c k' => by
        rw [show okAt ((42 + k : Nat) : Int) s.length = true from decide_eq_true (by omega)]; cases c <;> rfl
      rw [e, bT (by omega), grd_At (by omega), lt_eq, at_nat (by omega), hA, lt_eq, insb_eq, ← gb_at (show 42 + k < s.length by omega)]
      unfold dn
      cases insb (gb s (42 + k)) with
      | true =>
        have e2 : ((42 + k : Nat) : Int) - 1 = ((41 + k : Nat) : Int) := by omega
        rw [Bool.not_true, cond_false, cond_true, grd_I (by omega), e2, ih k (by omega) (by omega)]
      | false => rfl
def pt (s : Bs) : Nat := if s.length ≤ 45 then s.length else dn s 4
theorem dn_le (s : Bs) : ∀ k, k ≤ 4 → 42 ≤ dn s k ∧ dn s k ≤ 45
  | 0, _ => by simp [dn]
  | k + 1, h => by
    have := dn_le s k (by omega)
    unfold dn
    cases insb (gb s (42 + k)) with
    | true => exact this
    | false => rw [cond_false]; omega
theorem pt_le (s : Bs) : pt s ≤ s.length ∧ pt s ≤ 45 ∧ (s ≠ [] → 1 ≤ pt s) := by
  have := dn_le s 4 (by omega)
  unfold pt
  split
  · exact ⟨Nat.le_refl _, by omega, fun h => List.length_pos_iff.2 h⟩
  · exact ⟨by omega, by omega, fun h => by omega⟩
theorem part_eq (F : Nat) (hF : 5 ≤ F) (s : Bs) : head_part F s = some ((pt s : Nat) : Int) := by
  unfold head_part pt
  by_cases h : s.length ≤ 45
  · rw [bT (by omega), if_pos h]
  · rw [bF (by omega), if_neg h]; exact part_loop F s (by omega) F 4 (by omega) (by omega)
theorem rpart_eq (F : Nat) (hF : 5 ≤ F) (s : Bs) : ref14_part F s = some ((pt s : Nat) : Int) := by
  unfold ref14_part pt
  by_cases h : s.length ≤ 45
  · rw [bT (by omega), if_pos h]
  · rw [bF (by omega), if_neg h]; exact rpart_loop s (by omega) F 4 (by omega) (by omega)
def ahead : Bs := [61, 63, 117, 116, 102, 45, 56, 63, 66, 63]
def behind : Bs := [63, 61]
def word (p : Bs) : Bs := ahead ++ enc p ++ behind
def pcs : Nat → Bs → List Bs
  | 0, _ => []
  | n + 1, s => if s = [] then [] else word (s.take (pt s)) :: pcs n (s.drop (pt s))
theorem pcs_nil (n : Nat) : pcs n [] = [] := by cases n <;> rfl
theorem pcs_more : ∀ (n m : Nat) (s : Bs), s.length ≤ n → s.length ≤ m → pcs n s = pcs m s := by
  intro n
  induction n with
  | zero => intro m s h1 h2; have : s = [] := List.eq_nil_of_length_eq_zero (by omega); subst this; rw [pcs_nil, pcs_nil]
  | succ n ih =>
    intro m s h1 h2
    by_cases h : s = []
    · subst h; rw [pcs_nil, pcs_nil]
    · have hp := pt_le s
      have hl := List.length_pos_iff.2 h
      have h3 := hp.2.2 h
      obtain ⟨m, rfl⟩ : ∃ k, m = k + 1 := ⟨m - 1, by omega⟩
      rw [pcs, pcs, if_neg h, if_neg h, ih m (s.drop (pt s)) (by simp; omega) (by simp; omega)]
def pieces (s : Bs) : List Bs := pcs s.length s
theorem pieces_cons {s : Bs} (h : s ≠ []) : pieces s = word (s.take (pt s)) :: pieces (s.drop (pt s)) := by
  have hp := pt_le s
  have hl := List.length_pos_iff.2 h
  have h3 := hp.2.2 h
  unfold pieces
  obtain ⟨m, hm⟩ : ∃ k, s.length = k + 1 := ⟨s.length - 1, by omega⟩
  rw [hm, pcs, if_neg h, pcs_more m (s.drop (pt s)).length _ (by simp; omega) (by simp)]
theorem pieces_nil : pieces [] = [] := rfl
def wordsOf (s : Bs) : List Bs := bif plainB s then sp 32 s else pieces s
def fold1 {σ : Type} (k : σ → Bs → Option (σ × Bool)) (st : σ) (w : Bs) : Option σ := match k st w with
  | some (st', true) => some st'
  | _ => none
def foldK {σ : Type} (k : σ → Bs → Option (σ × Bool)) : σ → List Bs → Option σ
  | st, [] => some st
  | st, w :: ws => match fold1 k st w with
    | none => none
    | some st' => foldK k st' ws
theorem fold1_s {σ : Type} {k : σ → Bs → Option (σ × Bool)} {st st' : σ} {w : Bs} (h : fold1 k st w = some st') : k st w = some (st', true) := by
  unfold fold1 at h
  split at h
  · rename_i h1; cases h; exact h1
  · cases h
theorem foldK_s {σ : Type} {k : σ → Bs → Option (σ × Bool)} {st st' : σ} {w : Bs} {ws : List Bs} (h : foldK k st (w :: ws) = some st') : ∃ m, k st w = some (m, true) ∧ foldK k m ws = some st' := by
  rw [foldK] at h
  cases hf : fold1 k st w with
  | none => rw [hf] at h; cases h
  | some m => rw [hf] at h; exact ⟨m, fold1_s hf, h⟩
theorem wI_loop {σ : Type} (F : Nat) (k : σ → Bs → Option (σ × Bool)) (hF : 60 ≤ F) : ∀ (n : Nat) (s : Bs) (st st' : σ), s.length < n → s.length ≤ 1000000 → foldK k st (pieces s) = some st' → ∃ r, head_wordsI_L1 F k n (s, st) = some (st', r) := by
  intro n
  induction n with
  | zero => intro s st st' h; omega
  | succ n ih =>
    intro s st st' hn hs H
    have e : head_wordsI_L1 F k (n + 1) (s, st) = head_wordsI_B1 F k (head_wordsI_L1 F k n) s st := rfl
    rw [e]
    unfold head_wordsI_B1
    by_cases h : s = []
    · subst h
      cases H
      exact ⟨[], rfl⟩
    · have hp := pt_le s
      have hl := List.length_pos_iff.2 h
      have h3 := hp.2.2 h
      rw [pieces_cons h] at H
      obtain ⟨m, h1, h2⟩ := foldK_s H
      obtain ⟨r, hr⟩ := ih (s.drop (pt s)) m st' (by simp; omega) (by simp; omega) h2
      refine ⟨r, ?_⟩
      have he := enc_len (s.take (pt s))
      have ht : (s.take (pt s)).length ≤ 45 := by simp; omega
      rw [decide_eq_false h, Bool.not_false, cond_true, part_eq F (by omega), bnd_some, grd_To (by omega), lt_eq, to_nat, grd_Cat (by omega), Raw_eq F _ (by omega) (by omega), bnd_some]
      rw [grd_Cat (by simp; omega), lt_eq, grd_Cat (by simp; omega), lt_eq]
      have hk : k st (([61, 63, 117, 116, 102, 45, 56, 63, 66, 63] : Bs) ++ enc (s.take (pt s)) ++ [63, 61]) = some (m, true) := h1
      rw [hk, bnd2_some, Bool.not_true, cond_false, grd_To (by omega), lt_eq, from_nat]
      exact hr
theorem wS_loop {σ : Type} (a : Bs) (k : σ → Bs → Option (σ × Bool)) (l : List Bs) (hl : l.length ≤ 10000000) : ∀ (n i : Nat) (st st' : σ), l.length - i < n → i ≤ l.length → foldK k st (l.drop i) = some st' → head_wordsI_L2 a k l n ((i : Int), st) = some (st', a) := by
  intro n
  induction n with
  | zero => intro i st st' h; omega
  | succ n ih =>
    intro i st st' hn hi H
    have e : head_wordsI_L2 a k l (n + 1) ((i : Int), st) = head_wordsI_B2 a k l (head_wordsI_L2 a k l n) (i : Int) st := rfl
    rw [e]
    unfold head_wordsI_B2
    by_cases h : i < l.length
    · rw [List.drop_eq_getElem_cons h] at H
      obtain ⟨m, h1, h2⟩ := foldK_s H
      rw [bT (by omega), grd_At (by omega), lt_eq, at_nat h, h1, bnd2_some, Bool.not_true, cond_false, grd_I (by omega), cast_succ]
      exact ih (i + 1) m st' (by omega) (by omega) h2
    · rw [List.drop_eq_nil_of_le (by omega)] at H
      cases H
      rw [bF (by omega)]
theorem wordsI_eq {σ : Type} (F : Nat) (k : σ → Bs → Option (σ × Bool)) (s : Bs) (st st' : σ) (hs : s.length ≤ 1000000) (hF : s.length + 100 < F) (H : foldK k st (wordsOf s) = some st') : ∃ r, head_wordsI F k st s = some (st', r) := by
  unfold head_wordsI
  rw [Plain_eq F s hs (by omega), bnd_some]
  unfold wordsOf at H
  cases hp : plainB s with
  | true =>
    rw [hp, cond_true] at H
    have hl := sp_length 32 s
    rw [cond_true, grd_S (by omega), grd_D (by simp), lt_eq, split_one]
    exact ⟨s, wS_loop s k (sp 32 s) (by omega) F 0 st st' (by omega) (by omega) H⟩
  | false =>
    rw [hp, cond_false] at H
    rw [cond_false]
    exact wI_loop F k (by omega) F s st st' (by omega) hs H
theorem pieces_len (s : Bs) : ∀ n, s.length ≤ n → (pieces s).length ≤ s.length ∧ ∀ w ∈ pieces s, w.length ≤ 104 := by
  intro n
  induction n generalizing s with
  | zero => intro h; have : s = [] := List.eq_nil_of_length_eq_zero (by omega); subst this; simp [pieces_nil]
  | succ n ih =>
    intro h
    by_cases h0 : s = []
    · subst h0; simp [pieces_nil]
    · have hp := pt_le s
      have hl := List.length_pos_iff.2 h0
      have h3 := hp.2.2 h0
      have ⟨i1, i2⟩ := ih (s.drop (pt s)) (by simp; omega)
      have he := enc_len (s.take (pt s))
      have ht : (s.take (pt s)).length ≤ 45 := by simp; omega
      rw [pieces_cons h0]
      refine ⟨by simp at i1 ⊢; omega, fun w hw => ?_⟩
      rcases List.mem_cons.1 hw with rfl | hw
      · simp [word, ahead, behind]; omega
      · exact i2 w hw
theorem mem_total {l : List Bs} {w : Bs} (h : w ∈ l) : w.length ≤ Str.total l := by
  induction l with
  | nil => cases h
  | cons x r ih =>
    rcases List.mem_cons.1 h with rfl | h
    · simp [Str.total]
    · have := ih h; simp [Str.total]; omega
theorem wordsOf_len (s : Bs) : (wordsOf s).length ≤ s.length + 1 ∧ ∀ w ∈ wordsOf s, w.length ≤ s.length + 104 := by
  unfold wordsOf
  cases plainB s with
  | true =>
    rw [cond_true]
    have h1 := sp_total 32 s
    have h2 := sp_length 32 s
    exact ⟨h2, fun w hw => by have := mem_total hw; have := List.length_pos_iff.2 (List.ne_nil_of_mem hw); omega⟩
  | false =>
    rw [cond_false]
    have ⟨h1, h2⟩ := pieces_len s s.length (by omega)
    exact ⟨by omega, fun w hw => by have := h2 w hw; omega⟩
theorem rW_loop (F : Nat) (hF : 200 ≤ F) : ∀ (n : Nat) (s : Bs) (acc : List Bs), s.length < n → acc.length + s.length ≤ 1000000 → ref14_Words_L1 F n (s, acc) = some (acc ++ pieces s) := by
  intro n
  induction n with
  | zero => intro s acc h; omega
  | succ n ih =>
    intro s acc hn hs
    show ref14_Words_B1 F (ref14_Words_L1 F n) s acc = _
    unfold ref14_Words_B1
    by_cases h : s = []
    · subst h; rw [bF (by simp), pieces_nil, List.append_nil]; rfl
    · have hp := pt_le s
      have hl := List.length_pos_iff.2 h
      have h3 := hp.2.2 h
      have he := enc_len (s.take (pt s))
      have ht : (s.take (pt s)).length ≤ 45 := by simp; omega
      rw [bT (by omega), rpart_eq F (by omega), bnd_some, grd_To (by omega), lt_eq, to_nat, grd_Cat (by omega), rRaw_eq F _ (by omega) (by omega), bnd_some]
      rw [grd_Cat (by simp; omega), lt_eq, grd_Cat (by simp; omega), lt_eq, grd_Cat (by simp; omega), lt_eq, grd_To (by omega), lt_eq, from_nat, ih _ _ (by simp; omega) (by simp; omega), pieces_cons h, List.append_assoc]
      rfl
theorem rWords_eq (F : Nat) (s : Bs) (hs : s.length ≤ 1000000) (hF : s.length + 300 < F) : ref14_Words F s = some (wordsOf s) := by
  unfold ref14_Words wordsOf
  rw [rPlain_eq F s hs (by omega), bnd_some]
  cases plainB s with
  | true => rw [cond_true, cond_true, ref05_Split_eq F s 32 hs (by omega), bnd_some]
  | false =>
    rw [cond_false, cond_false]
    have := rW_loop F (by omega) F s [] (by omega) (by simp; omega)
    rw [List.nil_append] at this
    exact this
end Go.Hd
namespace Go.Hd
open Go.Pv Go.Av
def lnStep (st : Int × Bs) (x : Bs) : Int × Bs := if 76 < st.1 + 1 + (x.length : Int) then (0 + 1 + (x.length : Int), st.2 ++ [13, 10] ++ [32] ++ x) else (st.1 + 1 + (x.length : Int), st.2 ++ [32] ++ x)
def lineOf (a b : Bs) : Bs := ((wordsOf b).foldl lnStep (((a.length + 1 : Nat) : Int), a ++ [58])).2 ++ [13, 10]
theorem lnStep_len (st : Int × Bs) (x : Bs) : (lnStep st x).2.length ≤ st.2.length + x.length + 3 := by
  unfold lnStep; split <;> simp <;> omega
theorem lnStep_n (st : Int × Bs) (x : Bs) (h : 0 ≤ st.1) (hx : x.length ≤ 2000000) : 0 ≤ (lnStep st x).1 ∧ (lnStep st x).1 ≤ 2000001 := by
  unfold lnStep; split <;> simp <;> omega
theorem k1_eq (st : Int × Bs) (x : Bs) (h0 : 0 ≤ st.1) (h1 : st.1 ≤ 10000000) (hx : x.length ≤ 2000000) (ho : st.2.length + x.length + 3 ≤ 50000000000) :
    fold1 (fun s x => head_Line_k1 s.1 s.2 x) st x = some (lnStep st x) := by
  have hk : head_Line_k1 st.1 st.2 x = some (lnStep st x, true) := by
    unfold head_Line_k1 head_Line_j2 lnStep
    by_cases h : 76 < st.1 + 1 + (x.length : Int)
    · rw [bT h, if_pos h]
      simp (disch := (first | omega | (simp; omega))) only [grd_I, grd_Cat, lt_eq]
    · rw [bF h, if_neg h]
      simp (disch := (first | omega | (simp; omega))) only [grd_I, grd_Cat, lt_eq]
  unfold fold1
  simp only [hk]
theorem line_fold : ∀ (ws : List Bs) (st : Int × Bs), (∀ w ∈ ws, w.length ≤ 2000000) → 0 ≤ st.1 → st.1 ≤ 10000000 → st.2.length + ws.length * 2000003 ≤ 50000000000 →
    foldK (fun s x => head_Line_k1 s.1 s.2 x) st ws = some (ws.foldl lnStep st) ∧ (ws.foldl lnStep st).2.length ≤ st.2.length + ws.length * 2000003
  | [], st, _, _, _, _ => ⟨rfl, by simp⟩
  | w :: ws, st, hw, h0, h1, hl => by
    have hx := hw w (by simp)
    have hn := lnStep_n st w h0 hx
    have hs := lnStep_len st w
    simp only [List.length_cons] at hl
    have ⟨i1, i2⟩ := line_fold ws (lnStep st w) (fun v hv => hw v (by simp [hv])) hn.1 (by omega) (by omega)
    rw [foldK, k1_eq st w h0 h1 hx (by omega)]
    refine ⟨i1, ?_⟩
    rw [List.foldl_cons, List.length_cons]; omega
def okLine (a b : Bs) : Bool := nameB a && decide (b.length ≤ 4000)
theorem okLine_s {a b : Bs} (h : okLine a b = true) : nameB a = true ∧ b.length ≤ 4000 ∧ a.length ≤ 40 := by
  unfold okLine at h
  rw [Bool.and_eq_true] at h
  refine ⟨h.1, of_decide_eq_true h.2, ?_⟩
  have := h.1
  unfold nameB at this
  rw [Bool.and_eq_true] at this
  exact of_decide_eq_true this.2
theorem lineOf_len (a b : Bs) (h : okLine a b = true) : (lineOf a b).length ≤ 50000000000 ∧ (a.length : Int) + 1 + (wordsOf b).length ≤ 10000 := by
  have ⟨h1, h2, h3⟩ := okLine_s h
  have ⟨w1, w2⟩ := wordsOf_len b
  have := (line_fold (wordsOf b) (((a.length + 1 : Nat) : Int), a ++ [58]) (fun w hw => by have := w2 w hw; omega) (by simp; omega) (by simp; omega) (by simp; omega)).2
  refine ⟨?_, by omega⟩
  unfold lineOf
  simp at this ⊢; omega
theorem Line_eq (F : Nat) (a b : Bs) (ha : a.length ≤ 1000000) (hFa : a.length < F) (hF : 4200 < F) : head_Line F a b = some (if okLine a b = true then (lineOf a b, 0) else ([], 1)) := by
  unfold head_Line head_Line_j1
  rw [name_eq F a ha hFa, bnd_some]
  by_cases h : okLine a b = true
  · have ⟨h1, h2, h3⟩ := okLine_s h
    have ⟨w1, w2⟩ := wordsOf_len b
    have hlen := (lineOf_len a b h).1
    have ⟨f1, f2⟩ := line_fold (wordsOf b) (((a.length + 1 : Nat) : Int), a ++ [58]) (fun w hw => by have := w2 w hw; omega) (by simp; omega) (by simp; omega) (by simp; omega)
    obtain ⟨r, hr⟩ := wordsI_eq F _ b _ _ (by omega) (by omega) f1
    rw [if_pos h, h1, Bool.not_true, Bool.false_or, bF (by omega), grd_Cat (by simp; omega), lt_eq, grd_Cat (by simp; omega)]
    unfold head_words
    rw [bnd_some]
    have e : (((a ++ [58] : Bs).length : Int), a ++ [58]) = (((a.length + 1 : Nat) : Int), a ++ [58]) := by simp
    rw [e, hr, bnd2_some, grd_Cat (by simp at f2 ⊢; omega), lt_eq]
    rfl
  · rw [if_neg h]
    have : ((!nameB a) || (decide (4000 < (b.length : Int)))) = true := by
      unfold okLine at h
      cases hn : nameB a with
      | false => rfl
      | true =>
        rw [hn, Bool.true_and, decide_eq_true_eq] at h
        rw [decide_eq_true (show 4000 < (b.length : Int) by omega)]; rfl
    rw [this, cond_true]
theorem rLine_loop (l : List Bs) (hl : l.length ≤ 100000) (hw : ∀ w ∈ l, w.length ≤ 2000000) : ∀ (n i : Nat) (st : Int × Bs), l.length - i < n → i ≤ l.length → 0 ≤ st.1 → st.1 ≤ 10000000 → st.2.length + (l.length - i) * 2000003 ≤ 50000000000 →
    ref14_Line_L1 l n (st.2, st.1, (i : Int)) = some (((l.drop i).foldl lnStep st).2 ++ [13, 10], 0) := by
  intro n
  induction n with
  | zero => intro i st h; omega
  | succ n ih =>
    intro i st hn hi h0 h1 hb
    show ref14_Line_B1 l (ref14_Line_L1 l n) st.2 st.1 (i : Int) = _
    unfold ref14_Line_B1 ref14_Line_j2 ref14_Line_j1
    by_cases h : i < l.length
    · have hx := hw l[i] (List.getElem_mem h)
      have hs := lnStep_len st l[i]
      have hnn := lnStep_n st l[i] h0 hx
      have hm : (l.length - i) * 2000003 = (l.length - (i + 1)) * 2000003 + 2000003 := by
        rw [show l.length - i = (l.length - (i + 1)) + 1 by omega, Nat.add_mul]
      have := ih (i + 1) (lnStep st l[i]) (by omega) (by omega) hnn.1 (by omega) (by omega)
      rw [List.drop_eq_getElem_cons h, List.foldl_cons, ← this]
      rw [bT (by omega), grd_I (by omega), grd_At (by omega), lt_eq, at_nat h, grd_I (by omega)]
      unfold lnStep
      by_cases hc : 76 < st.1 + 1 + (l[i].length : Int)
      · rw [bT hc, if_pos hc]
        simp (disch := (first | omega | (simp; omega))) only [grd_I, grd_Cat, lt_eq, grd_At, at_nat h, cast_succ, List.append_assoc]
      · rw [bF hc, if_neg hc]
        simp (disch := (first | omega | (simp; omega))) only [grd_I, grd_Cat, lt_eq, grd_At, at_nat h, cast_succ, List.append_assoc]
    · rw [bF (by omega), List.drop_eq_nil_of_le (by omega), grd_Cat (by simp; omega), lt_eq]; rfl
theorem rLine_eq (F : Nat) (a b : Bs) (ha : a.length ≤ 1000000) (hFa : a.length < F) (hF : 4400 < F) : ref14_Line F a b = some (if okLine a b = true then (lineOf a b, 0) else ([], 1)) := by
  unfold ref14_Line
  rw [rname_eq F a ha hFa, bnd_some]
  by_cases h : okLine a b = true
  · have ⟨h1, h2, h3⟩ := okLine_s h
    have ⟨w1, w2⟩ := wordsOf_len b
    rw [if_pos h, h1, Bool.not_true, Bool.false_or, bF (by omega), grd_Cat (by simp; omega), lt_eq, grd_Cat (by simp; omega), rWords_eq F b (by omega) (by omega), bnd_some]
    have := rLine_loop (wordsOf b) (by omega) (fun w hw => by have := w2 w hw; omega) F 0 (((a.length + 1 : Nat) : Int), a ++ [58]) (by omega) (by omega) (by simp; omega) (by simp; omega) (by simp; omega)
    have e : (((a ++ [58] : Bs).length : Int)) = ((a.length + 1 : Nat) : Int) := by simp
    rw [e]
    exact this
  · rw [if_neg h]
    have : ((!nameB a) || (decide (4000 < (b.length : Int)))) = true := by
      unfold okLine at h
      cases hn : nameB a with
      | false => rfl
      | true =>
        rw [hn, Bool.true_and, decide_eq_true_eq] at h
        rw [decide_eq_true (show 4000 < (b.length : Int) by omega)]; rfl
    rw [this, cond_true]
end Go.Hd
namespace Go.Hd
open Go.Pv Go.Av
def spb (c : UInt8) : Bool := ((decide (c = 32)) || (decide (c = 13))) || (decide (c = 10))
def wf : Bs → Bs → List Bs
  | cur, [] => if cur = [] then [] else [cur]
  | cur, c :: r => if spb c = true then (if cur = [] then wf [] r else cur :: wf [] r) else wf (cur ++ [c]) r
end Go.Hd
namespace Go.Hd
open Go.Pv Go.Av
theorem bql (a b : Bs) : decide (a = b) = (a == b) := by by_cases h : a = b <;> simp [h]
theorem hp_take {w p : Bs} : Go.Lib.hasPrefix w p = (decide (p.length ≤ w.length) && decide (w.take p.length = p)) := by
  rw [← Go.Lib.hasPrefix_of_take, bql]
end Go.Hd
namespace Go.Av.Qp
def dg (n : Nat) : UInt8 := [48, 49, 50, 51, 52, 53, 54, 55, 56, 57, 65, 66, 67, 68, 69, 70].getD n 0
def plainB (c : UInt8) (r : List UInt8) : Bool :=
  if c.toNat = 32 ∨ c.toNat = 9 then (match r with | [] => false | d :: _ => decide (d.toNat ≠ 10)) else decide (33 ≤ c.toNat ∧ c.toNat ≤ 126 ∧ c.toNat ≠ 61)
theorem plainB_nil (c : UInt8) : plainB c [] = decide (c.toNat ≠ 32 ∧ c.toNat ≠ 9 ∧ 33 ≤ c.toNat ∧ c.toNat ≤ 126 ∧ c.toNat ≠ 61) := by
  unfold plainB; split
  · rename_i h; rw [eq_comm, decide_eq_false_iff_not]; omega
  · rename_i h; rw [decide_eq_decide]; omega
theorem plainB_cons (c d : UInt8) (r : List UInt8) : plainB c (d :: r) = decide (((c.toNat = 32 ∨ c.toNat = 9) ∧ d.toNat ≠ 10) ∨ (c.toNat ≠ 32 ∧ c.toNat ≠ 9 ∧ 33 ≤ c.toNat ∧ c.toNat ≤ 126 ∧ c.toNat ≠ 61)) := by
  unfold plainB; split
  · rename_i h; simp only; rw [decide_eq_decide]; omega
  · rename_i h; rw [decide_eq_decide]; omega
def code (c : UInt8) (r : List UInt8) : List UInt8 := if plainB c r then [c] else [61, dg (c.toNat / 16), dg (c.toNat % 16)]
def put (line : Nat) (s : List UInt8) : List UInt8 × Nat := if line + s.length > 75 then ([61, 13, 10] ++ s, s.length) else (s, line + s.length)
def enc : Nat → List UInt8 → List UInt8
  | _, [] => []
  | n, c :: r => if c.toNat = 10 then [13, 10] ++ enc 0 r else (put n (code c r)).1 ++ enc (put n (code c r)).2 r
def dig (c : UInt8) : Option Nat :=
  if 48 ≤ c.toNat ∧ c.toNat ≤ 57 then some (c.toNat - 48) else if 65 ≤ c.toNat ∧ c.toNat ≤ 70 then some (c.toNat - 55) else if 97 ≤ c.toNat ∧ c.toNat ≤ 102 then some (c.toNat - 87) else none
def tok : List UInt8 → Option (List UInt8 × Nat)
  | [] => none
  | c :: r =>
    if c.toNat = 13 ∧ (r.map UInt8.toNat).head? = some 10 then some ([10], 2)
    else if c.toNat = 61 then
      (match r with
       | a :: b :: _ => if a.toNat = 13 ∧ b.toNat = 10 then some ([], 3) else (match dig a, dig b with | some x, some y => some ([UInt8.ofNat (16 * x + y)], 3) | _, _ => none)
       | _ => none)
    else if c.toNat = 9 ∨ (32 ≤ c.toNat ∧ c.toNat ≤ 126) then some ([c], 1) else none
def dec : Nat → List UInt8 → Option (List UInt8)
  | _, [] => some []
  | 0, _ :: _ => none
  | k + 1, b => match tok b with
    | none => none
    | some (x, n) => (dec k (b.drop n)).map (x ++ ·)
theorem code_length (c : UInt8) (r : List UInt8) : (code c r).length ≤ 3 := by unfold code; split <;> simp
theorem put_bounds (n : Nat) (s : List UInt8) (hn : n ≤ 75) (hs : s.length ≤ 3) : (put n s).2 ≤ 75 ∧ (put n s).1.length ≤ 6 := by
  unfold put; split
  · simp; omega
  · simp; omega
theorem enc_step (n : Nat) (b : List UInt8) (i : Nat) (h : i < b.length) : enc n (b.drop i) =
    if b[i].toNat = 10 then [13, 10] ++ enc 0 (b.drop (i + 1)) else (put n (code b[i] (b.drop (i + 1)))).1 ++ enc (put n (code b[i] (b.drop (i + 1)))).2 (b.drop (i + 1)) := by
  rw [List.drop_eq_getElem_cons h, enc]
theorem tok_pos {b x : List UInt8} {n : Nat} (h : tok b = some (x, n)) : 1 ≤ n ∧ n ≤ b.length ∧ x.length ≤ 1 := by
  unfold tok at h
  cases b with
  | nil => cases h
  | cons c r =>
    simp only at h
    split at h
    · rename_i h1
      cases h
      have : r ≠ [] := by intro e; subst e; simp at h1
      have := List.length_pos_iff.2 this
      simp; omega
    · split at h
      · split at h
        · rename_i a b' r'
          split at h
          · cases h; simp
          · split at h
            · cases h; simp
            · cases h
        · cases h
      · split at h
        · cases h; simp
        · cases h
def decode (b : List UInt8) : Option (List UInt8) := dec b.length b
theorem dec_more : ∀ (k : Nat) (b : List UInt8), b.length ≤ k → dec k b = dec b.length b := by
  intro k
  induction k using Nat.strongRecOn with
  | _ k ih =>
    intro b hb
    cases b with
    | nil => cases k <;> rfl
    | cons c r =>
      obtain ⟨k, rfl⟩ : ∃ m, k = m + 1 := ⟨k - 1, by simp at hb; omega⟩
      simp only [dec, List.length_cons]
      cases ht : tok (c :: r) with
      | none => rfl
      | some p =>
        obtain ⟨x, n⟩ := p
        obtain ⟨h1, h2, _⟩ := tok_pos ht
        simp only
        simp at hb h2
        have hl : ((c :: r).drop n).length ≤ r.length := by simp; omega
        rw [ih k (by omega) _ (by omega)]
        by_cases hk : r.length < k + 1
        · rw [ih r.length hk _ hl]
        · omega
theorem decode_step {b : List UInt8} (hb : b ≠ []) : decode b = match tok b with
    | none => none
    | some (x, n) => (decode (b.drop n)).map (x ++ ·) := by
  cases b with
  | nil => exact absurd rfl hb
  | cons c r =>
    unfold decode
    simp only [List.length_cons, dec]
    cases ht : tok (c :: r) with
    | none => rfl
    | some p =>
      obtain ⟨x, n⟩ := p
      obtain ⟨h1, h2, _⟩ := tok_pos ht
      simp only
      simp at h2
      rw [dec_more r.length _ (by simp; omega)]
theorem nat10 {c : UInt8} : c = 10 ↔ c.toNat = 10 := ⟨fun h => by rw [h]; rfl, fun h => UInt8.toNat_inj.1 h⟩
theorem decode_some {b x : List UInt8} {n : Nat} (h0 : 0 < b.length) (h : tok b = some (x, n)) : decode b = (decode (b.drop n)).map (x ++ ·) := by
  rw [decode_step (by intro e; subst e; simp at h0), h]
theorem plainB_in (c : UInt8) (b : List UInt8) (k : Nat) (h : k < b.length) : plainB c (b.drop k) = decide (((c.toNat = 32 ∨ c.toNat = 9) ∧ b[k].toNat ≠ 10) ∨ (c.toNat ≠ 32 ∧ c.toNat ≠ 9 ∧ 33 ≤ c.toNat ∧ c.toNat ≤ 126 ∧ c.toNat ≠ 61)) := by
  rw [List.drop_eq_getElem_cons h, plainB_cons]
theorem plainB_out (c : UInt8) (b : List UInt8) (k : Nat) (h : ¬ k < b.length) : plainB c (b.drop k) = decide (c.toNat ≠ 32 ∧ c.toNat ≠ 9 ∧ 33 ≤ c.toNat ∧ c.toNat ≤ 126 ∧ c.toNat ≠ 61) := by
  rw [List.drop_eq_nil_of_le (by omega), plainB_nil]
theorem plainB_other (c : UInt8) (r : List UInt8) (h : ¬ (c.toNat = 32 ∨ c.toNat = 9)) : plainB c r = decide (33 ≤ c.toNat ∧ c.toNat ≤ 126 ∧ c.toNat ≠ 61) := by
  unfold plainB; rw [if_neg h]
theorem put_long (n : Nat) (s : List UInt8) (h : 75 < n + s.length) : put n s = ([61, 13, 10] ++ s, s.length) := if_pos h
theorem put_short (n : Nat) (s : List UInt8) (h : ¬ 75 < n + s.length) : put n s = (s, n + s.length) := if_neg h
end Go.Av.Qp
namespace Go.Av.Qp
theorem soft_ahead (b : List UInt8) : decode ([61, 13, 10] ++ b) = decode b := by
  rw [decode_some (x := []) (n := 3) (by simp) (by rfl)]
  simp
theorem dig_dg : ∀ n : Nat, n < 16 → dig (dg n) = some n ∧ (dg n).toNat ≠ 13 ∧ (dg n).toNat ≠ 10 ∧ 48 ≤ (dg n).toNat ∧ (dg n).toNat ≤ 70 := by decide +kernel
theorem dg_byte : ∀ n : Nat, n < 256 → UInt8.ofNat (16 * (n / 16) + n % 16) = UInt8.ofNat n := by decide +kernel
theorem code_cases (c : UInt8) (r : List UInt8) : (plainB c r = true ∧ code c r = [c] ∧ c.toNat ≠ 61 ∧ c.toNat ≠ 13 ∧ c.toNat ≠ 10 ∧ (c.toNat = 9 ∨ (32 ≤ c.toNat ∧ c.toNat ≤ 126))) ∨ code c r = [61, dg (c.toNat / 16), dg (c.toNat % 16)] := by
  unfold code
  by_cases h : plainB c r = true
  · left
    rw [if_pos h]
    refine ⟨h, rfl, ?_⟩
    cases r with
    | nil => rw [plainB_nil] at h; simp at h; omega
    | cons d r => rw [plainB_cons] at h; simp at h; omega
  · right; rw [if_neg h]
theorem back_code (c : UInt8) (r x : List UInt8) : decode (code c r ++ x) = (decode x).map ([c] ++ ·) := by
  rcases code_cases c r with ⟨_, h, h1, h2, h3, h4⟩ | h
  · rw [h, decode_some (x := [c]) (n := 1) (by simp) (by simp only [List.cons_append, tok]; rw [if_neg (by omega), if_neg h1, if_pos h4])]
    rfl
  · rw [h]
    have a1 := dig_dg (c.toNat / 16) (by have := c.toNat_lt; omega)
    have a2 := dig_dg (c.toNat % 16) (by omega)
    have ht : tok ([61, dg (c.toNat / 16), dg (c.toNat % 16)] ++ x) = some ([c], 3) := by
      simp only [List.cons_append, tok]
      have e : (61 : UInt8).toNat = 61 := rfl
      rw [if_neg (by rw [e]; omega), if_pos e, if_neg (by omega), a1.1, a2.1]
      simp only
      rw [dg_byte _ c.toNat_lt, UInt8.ofNat_toNat]
    rw [decode_some (by simp) ht]
    rfl
theorem back : ∀ (b : List UInt8) (n : Nat), decode (enc n b) = some b := by
  intro b
  induction b with
  | nil => intro n; rfl
  | cons c r ih =>
    intro n
    unfold enc
    by_cases h : c.toNat = 10
    · rw [if_pos h, decode_some (x := [10]) (n := 2) (by simp) (by rfl)]
      show (decode (enc 0 r)).map ([10] ++ ·) = _; rw [ih]
      have : c = 10 := nat10.2 h
      rw [this]; rfl
    · rw [if_neg h]
      unfold put
      split
      · simp only [List.append_assoc]
        rw [soft_ahead, back_code, ih]; rfl
      · simp only
        rw [back_code, ih]; rfl
def chk : Nat → Nat → List UInt8 → Bool
  | p, _, [] => decide (p ≠ 32 ∧ p ≠ 9)
  | p, n, c :: r =>
    if c.toNat = 13 then decide ((r.map UInt8.toNat).head? = some 10 ∧ p ≠ 32 ∧ p ≠ 9) && chk 13 n r
    else if c.toNat = 10 then decide (p = 13) && chk 10 0 r
    else decide (n + 1 ≤ 76 ∧ (c.toNat = 9 ∨ (32 ≤ c.toNat ∧ c.toNat ≤ 126))) && chk c.toNat (n + 1) r
theorem enc_length : ∀ (b : List UInt8) (n : Nat), (enc n b).length ≤ 6 * b.length := by
  intro b
  induction b with
  | nil => intro n; simp [enc]
  | cons c r ih =>
    intro n
    have hl := code_length c r
    have h1 := ih 0
    unfold enc put
    split
    · simp; omega
    · split
      · have := ih (code c r).length; simp; omega
      · have := ih (n + (code c r).length); simp; omega
end Go.Av.Qp
namespace Go.Pt
open Go.Pv Go.Av
open Go.Hd (fand tand nfl ntr cfl ctr bq of_all8 Bs hp_take)
theorem fo (x : Bool) : (false || x) = x := Eq.symm (Eq.symm rfl)
theorem pl_nil (c : UInt8) (x : Bool) : ((((((decide (c = 32)) || (decide (c = 9))) && false)) && x) || (((decide (32 < (c.toNat : Int))) && (decide ((c.toNat : Int) < 127))) && (!decide (c = 61)))) = Qp.plainB c [] := by
  have := of_all8 (fun c => (((((((decide (c = 32)) || (decide (c = 9))) && false)) && true) || (((decide (32 < (c.toNat : Int))) && (decide ((c.toNat : Int) < 127))) && (!decide (c = 61)))) == Qp.plainB c []) && ((((((decide (c = 32)) || (decide (c = 9))) && false)) && false) || (((decide (32 < (c.toNat : Int))) && (decide ((c.toNat : Int) < 127))) && (!decide (c = 61)))) == Qp.plainB c []) (by decide +kernel) c
  rw [Bool.and_eq_true, beq_iff_eq, beq_iff_eq] at this
  cases x
  · exact this.2
  · exact this.1
theorem pl_ten (c : UInt8) : ((((((decide (c = 32)) || (decide (c = 9))) && true)) && false) || (((decide (32 < (c.toNat : Int))) && (decide ((c.toNat : Int) < 127))) && (!decide (c = 61)))) = Qp.plainB c [10] := by
  have := of_all8 (fun c => ((((((decide (c = 32)) || (decide (c = 9))) && true)) && false) || (((decide (32 < (c.toNat : Int))) && (decide ((c.toNat : Int) < 127))) && (!decide (c = 61)))) == Qp.plainB c [10]) (by decide +kernel) c
  exact eq_of_beq this
theorem pl_one (c : UInt8) : ((((((decide (c = 32)) || (decide (c = 9))) && true)) && true) || (((decide (32 < (c.toNat : Int))) && (decide ((c.toNat : Int) < 127))) && (!decide (c = 61)))) = Qp.plainB c [0] := by
  have := of_all8 (fun c => ((((((decide (c = 32)) || (decide (c = 9))) && true)) && true) || (((decide (32 < (c.toNat : Int))) && (decide ((c.toNat : Int) < 127))) && (!decide (c = 61)))) == Qp.plainB c [0]) (by decide +kernel) c
  exact eq_of_beq this
theorem pl_same (c d e : UInt8) (r s : Bs) (h : (d.toNat ≠ 10) ↔ (e.toNat ≠ 10)) : Qp.plainB c (d :: r) = Qp.plainB c (e :: s) := by
  rw [Qp.plainB_cons, Qp.plainB_cons]
  exact decide_eq_decide.2 (by rw [h])
theorem hexA (c : UInt8) : okAt ((Go.Av.shr8 c 4).toNat : Int) ([48, 49, 50, 51, 52, 53, 54, 55, 56, 57, 65, 66, 67, 68, 69, 70] : Bs).length = true ∧ at_ ([48, 49, 50, 51, 52, 53, 54, 55, 56, 57, 65, 66, 67, 68, 69, 70] : Bs) ((Go.Av.shr8 c 4).toNat : Int) = Qp.dg (c.toNat / 16) := by
  have := of_all8 (fun c => decide (okAt ((Go.Av.shr8 c 4).toNat : Int) ([48, 49, 50, 51, 52, 53, 54, 55, 56, 57, 65, 66, 67, 68, 69, 70] : Bs).length = true ∧ at_ ([48, 49, 50, 51, 52, 53, 54, 55, 56, 57, 65, 66, 67, 68, 69, 70] : Bs) ((Go.Av.shr8 c 4).toNat : Int) = Qp.dg (c.toNat / 16))) (by decide +kernel) c
  exact of_decide_eq_true this
theorem hexB (c : UInt8) : okAt ((c &&& 15).toNat : Int) ([48, 49, 50, 51, 52, 53, 54, 55, 56, 57, 65, 66, 67, 68, 69, 70] : Bs).length = true ∧ at_ ([48, 49, 50, 51, 52, 53, 54, 55, 56, 57, 65, 66, 67, 68, 69, 70] : Bs) ((c &&& 15).toNat : Int) = Qp.dg (c.toNat % 16) := by
  have := of_all8 (fun c => decide (okAt ((c &&& 15).toNat : Int) ([48, 49, 50, 51, 52, 53, 54, 55, 56, 57, 65, 66, 67, 68, 69, 70] : Bs).length = true ∧ at_ ([48, 49, 50, 51, 52, 53, 54, 55, 56, 57, 65, 66, 67, 68, 69, 70] : Bs) ((c &&& 15).toNat : Int) = Qp.dg (c.toNat % 16))) (by decide +kernel) c
  exact of_decide_eq_true this
theorem code_eq (F : Nat) (c : UInt8) (r : Bs) : qp_code F c r = some (Qp.code c r) := by
  unfold qp_code
  have ⟨a1, a2⟩ := hexA c
  have ⟨b1, b2⟩ := hexB c
  simp only [a1, a2, b1, b2, grd_t, lt_eq]
  have fin : ∀ b : Bool, b = Qp.plainB c r → (bif b then some ([c] : Bs) else some ([61, Qp.dg (c.toNat / 16), Qp.dg (c.toNat % 16)] : Bs)) = some (Qp.code c r) := by
    intro b hb
    subst hb
    unfold Qp.code
    cases Qp.plainB c r <;> rfl
  cases r with
  | nil =>
    have h0 : decide ((0 : Int) < (([] : Bs).length : Int)) = false := rfl
    rw [h0, Bool.and_false, grdc_f]
    apply fin
    have := pl_nil c (!decide (at_ ([] : Bs) 0 = 10))
    rw [Bool.and_false] at this
    exact this
  | cons d t =>
    have h0 : decide ((0 : Int) < ((d :: t).length : Int)) = true := decide_eq_true (by simp)
    have hA : ∀ (b : Bool) (k : Option Bs), grdc b (okAt 0 (d :: t).length) k = k := fun b k => by
      rw [show okAt 0 (d :: t).length = true from decide_eq_true (by simp)]; cases b <;> rfl
    have h1 : at_ (d :: t) 0 = d := rfl
    rw [h0, hA, h1]
    apply fin
    by_cases hd : d = 10
    · subst hd
      have := pl_ten c
      rw [pl_same c 10 10 t [] Iff.rfl, ← this]; rfl
    · have hd2 : d.toNat ≠ 10 := fun h => hd (UInt8.toNat_inj.1 h)
      have := pl_one c
      rw [pl_same c d 0 t [] ⟨fun _ => by decide, fun _ => hd2⟩, ← this, decide_eq_false hd]; rfl
theorem put_eq (F : Nat) (o s : Bs) (n : Nat) (hn : n ≤ 75) (hs : s.length ≤ 3) (ho : o.length ≤ 10000000000) : qp_put F o (n : Int) s = some (o ++ (Qp.put n s).1, ((Qp.put n s).2 : Int)) := by
  unfold qp_put qp_put_j1
  by_cases h : 75 < n + s.length
  · rw [Qp.put_long n s h, grd_I (by omega), bT (by omega), grd_Cat (by simp; omega), lt_eq, grd_Cat (by simp; omega), lt_eq, grd_I (by omega)]
    simp
  · rw [Qp.put_short n s h, grd_I (by omega), bF (by omega), grd_Cat (by omega), lt_eq, grd_I (by omega)]
    simp
theorem enc_loop (F : Nat) (b : Bs) (hb : b.length ≤ 1000000) : ∀ (m i : Nat) (o : Bs) (n : Nat), b.length - i < m → i ≤ b.length → n ≤ 75 → o.length ≤ 6 * i →
    qp_Encode_L1 F b m ((i : Int), o, (n : Int)) = some (o ++ Qp.enc n (b.drop i)) := by
  intro m
  induction m with
  | zero => intro i o n h; omega
  | succ m ih =>
    intro i o n hm hi hn ho
    show qp_Encode_B1 F b (qp_Encode_L1 F b m) (i : Int) o (n : Int) = _
    unfold qp_Encode_B1 qp_Encode_j2 qp_Encode_j1
    by_cases h : i < b.length
    · rw [bT (by omega), grd_At (by omega), lt_eq, at_nat h, Qp.enc_step n b i h]
      by_cases hc : b[i] = 10
      · rw [bT hc, if_pos (by rw [hc]; rfl), grd_Cat (by simp; omega), lt_eq, grd_I (by omega), cast_succ, show (0 : Int) = ((0 : Nat) : Int) from rfl, ih (i + 1) _ 0 (by omega) (by omega) (by omega) (by simp; omega), List.append_assoc]
      · have hc2 : ¬ b[i].toNat = 10 := fun h => hc (UInt8.toNat_inj.1 h)
        have hcl := Qp.code_length b[i] (b.drop (i + 1))
        have hpb := Qp.put_bounds n (Qp.code b[i] (b.drop (i + 1))) hn hcl
        rw [bF hc, if_neg hc2, grd_I (by omega), grd_To (by omega), lt_eq, cast_succ, from_nat, code_eq, bnd_some, put_eq F o _ n hn hcl (by omega), bnd2_some, grd_I (by omega), ih (i + 1) _ _ (by omega) (by omega) hpb.1 (by simp; omega), List.append_assoc]
    · rw [bF (by omega), List.drop_eq_nil_of_le (by omega)]
      simp [Qp.enc]
theorem Encode_eq (F : Nat) (b : Bs) (hb : b.length ≤ 1000000) (hF : b.length < F) : qp_Encode F b = some (Qp.enc 0 b) := by
  have := enc_loop F b hb F 0 [] 0 (by omega) (by omega) (by omega) (by simp)
  rw [List.drop_zero, List.nil_append] at this
  exact this
theorem Hex_eq (F : Nat) (c : UInt8) : ref12_Hex F c = some [Qp.dg (c.toNat / 16), Qp.dg (c.toNat % 16)] := by
  have := of_all8 (fun c => decide (ref12_Hex 0 c = some [Qp.dg (c.toNat / 16), Qp.dg (c.toNat % 16)])) (by decide +kernel) c
  exact of_decide_eq_true this
theorem rplain_eq (F : Nat) (b : Bs) (i : Nat) (hb : b.length ≤ 1000000) (h : i < b.length) : ref12_plain F b (i : Int) = some (Qp.plainB b[i] (b.drop (i + 1))) := by
  unfold ref12_plain
  rw [grd_At (by omega), lt_eq, at_nat h]
  have e1 : (decide (b[i] = 32) || decide (b[i] = 9)) = decide (b[i].toNat = 32 ∨ b[i].toNat = 9) := by
    have := of_all8 (fun c => ((decide (c = 32)) || (decide (c = 9))) == decide (c.toNat = 32 ∨ c.toNat = 9)) (by decide +kernel) b[i]
    exact eq_of_beq this
  rw [e1]
  by_cases hc : b[i].toNat = 32 ∨ b[i].toNat = 9
  · rw [bT hc, grd_I (by omega)]
    by_cases hl : i + 1 < b.length
    · have hten : decide (b[i + 1] = 10) = decide (b[i + 1].toNat = 10) := decide_eq_decide.2 ⟨fun h => by rw [h]; rfl, fun h => UInt8.toNat_inj.1 h⟩
      rw [decide_eq_true (show (i : Int) + 1 < b.length by omega), grdc_t, grd_I (by omega), grdc_t, grd_At (by omega), lt_eq, cast_succ, at_nat hl, tand, hten, Qp.plainB_in _ b (i + 1) hl]
      by_cases h10 : b[i + 1].toNat = 10
      · rw [decide_eq_true h10, decide_eq_false (by omega)]; rfl
      · rw [decide_eq_false h10, decide_eq_true (by omega)]; rfl
    · rw [decide_eq_false (show ¬ (i : Int) + 1 < b.length by omega), grdc_f, grdc_f, lt_eq, fand, Qp.plainB_out _ b (i + 1) hl, decide_eq_false (by omega)]
  · rw [bF hc, Qp.plainB_other _ _ hc]
    congr 1
    have := of_all8 (fun c => (((decide (33 ≤ (c.toNat : Int))) && (decide ((c.toNat : Int) ≤ 126))) && (!decide (c = 61))) == decide (33 ≤ c.toNat ∧ c.toNat ≤ 126 ∧ c.toNat ≠ 61)) (by decide +kernel) b[i]
    exact eq_of_beq this
theorem j4_eq (o s : Bs) (n i : Nat) (rec9 : (Bs × Int × Int) → Option Bs) (hn : n ≤ 75) (hs : s.length ≤ 3) (ho : o.length ≤ 10000000000) (hi : i ≤ 1000000) :
    ref12_Encode_j4 o (n : Int) (i : Int) rec9 s = rec9 (o ++ (Qp.put n s).1, ((Qp.put n s).2 : Int), ((i + 1 : Nat) : Int)) := by
  unfold ref12_Encode_j4 ref12_Encode_j3 ref12_Encode_j2
  by_cases h : 75 < n + s.length
  · rw [Qp.put_long n s h, grd_I (by omega), bT (by omega), grd_Cat (by simp; omega), lt_eq, grd_Cat (by simp; omega), lt_eq, grd_I (by omega), grd_I (by omega), cast_succ]
    simp
  · rw [Qp.put_short n s h, grd_I (by omega), bF (by omega), grd_Cat (by omega), lt_eq, grd_I (by omega), grd_I (by omega), cast_succ]
    simp
theorem renc_loop (F : Nat) (b : Bs) (hb : b.length ≤ 1000000) : ∀ (m i : Nat) (o : Bs) (n : Nat), b.length - i < m → i ≤ b.length → n ≤ 75 → o.length ≤ 6 * i →
    ref12_Encode_L1 F b m (o, (n : Int), (i : Int)) = some (o ++ Qp.enc n (b.drop i)) := by
  intro m
  induction m with
  | zero => intro i o n h; omega
  | succ m ih =>
    intro i o n hm hi hn ho
    show ref12_Encode_B1 F b (ref12_Encode_L1 F b m) o (n : Int) (i : Int) = _
    unfold ref12_Encode_B1 ref12_Encode_j1
    by_cases h : i < b.length
    · rw [bT (by omega), grd_At (by omega), lt_eq, at_nat h, Qp.enc_step n b i h]
      by_cases hc : b[i] = 10
      · unfold ref12_Encode_j2
        rw [bT hc, if_pos (by rw [hc]; rfl), grd_Cat (by simp; omega), lt_eq, grd_I (by omega), cast_succ, show (0 : Int) = ((0 : Nat) : Int) from rfl, ih (i + 1) _ 0 (by omega) (by omega) (by omega) (by simp; omega), List.append_assoc]
      · have hc2 : ¬ b[i].toNat = 10 := fun h => hc (UInt8.toNat_inj.1 h)
        have hcl := Qp.code_length b[i] (b.drop (i + 1))
        have hpb := Qp.put_bounds n (Qp.code b[i] (b.drop (i + 1))) hn hcl
        have key : ref12_Encode_j4 o (n : Int) (i : Int) (ref12_Encode_L1 F b m) (Qp.code b[i] (b.drop (i + 1))) = some (o ++ ((Qp.put n (Qp.code b[i] (b.drop (i + 1)))).1 ++ Qp.enc (Qp.put n (Qp.code b[i] (b.drop (i + 1)))).2 (b.drop (i + 1)))) := by
          rw [j4_eq o _ n i _ hn hcl (by omega) (by omega), ih (i + 1) _ _ (by omega) (by omega) hpb.1 (by simp; omega), List.append_assoc]
        rw [bF hc, if_neg hc2, grd_At (by omega), lt_eq, Hex_eq, bnd_some, grd_Cat (by simp), lt_eq, rplain_eq F b i hb h, bnd_some, ← key]
        cases hp : Qp.plainB b[i] (b.drop (i + 1)) with
        | true =>
          have e : Qp.code b[i] (b.drop (i + 1)) = [b[i]] := by unfold Qp.code; rw [hp]; rfl
          have e1 : sub b (i : Int) ((i : Int) + 1) = [b[i]] := by
            rw [cast_succ, sub_nat, List.take_succ_eq_append_getElem h, List.drop_left' (by simp; omega)]
          rw [ctr, grd_I (by omega), grd_Sub (by omega), lt_eq, e1, e]
        | false =>
          have e : Qp.code b[i] (b.drop (i + 1)) = [61, Qp.dg (b[i].toNat / 16), Qp.dg (b[i].toNat % 16)] := by unfold Qp.code; rw [hp]; rfl
          rw [cfl, e]; rfl
    · rw [bF (by omega), List.drop_eq_nil_of_le (by omega)]
      simp [Qp.enc]
theorem rEncode_eq (F : Nat) (b : Bs) (hb : b.length ≤ 1000000) (hF : b.length < F) : ref12_Encode F b = some (Qp.enc 0 b) := by
  have := renc_loop F b hb F 0 [] 0 (by omega) (by omega) (by omega) (by simp)
  rw [List.drop_zero, List.nil_append] at this
  exact this
end Go.Pt
namespace Go.Hd
open Go.Pv Go.Av
def tailOf : Int → List Bs → Bs
  | _, [] => [13, 10]
  | n, w :: ws => (lnStep (n, []) w).2 ++ tailOf (lnStep (n, []) w).1 ws
theorem lnStep_app (n : Int) (o : Bs) (w : Bs) : lnStep (n, o) w = ((lnStep (n, []) w).1, o ++ (lnStep (n, []) w).2) := by
  unfold lnStep
  by_cases h : 76 < n + 1 + (w.length : Int)
  · rw [if_pos h, if_pos h]; simp
  · rw [if_neg h, if_neg h]; simp
theorem fold_tail : ∀ (ws : List Bs) (n : Int) (o : Bs), (ws.foldl lnStep (n, o)).2 ++ [13, 10] = o ++ tailOf n ws
  | [], n, o => rfl
  | w :: ws, n, o => by
    rw [List.foldl_cons, lnStep_app n o w, fold_tail ws _ _, tailOf, List.append_assoc]
theorem lineOf_eq (a b : Bs) : lineOf a b = a ++ 58 :: tailOf ((a.length + 1 : Nat) : Int) (wordsOf b) := by
  unfold lineOf
  rw [fold_tail]; simp
theorem has2_tail {p : UInt8 → UInt8 → Bool} {c : UInt8} {r : Bs} (h : has2 p (c :: r) = false) : has2 p r = false := by
  cases r with
  | nil => rfl
  | cons d r => rw [has2, Bool.or_eq_false_iff] at h; exact h.2
def wsum : List Bs → Nat
  | [] => 0
  | w :: ws => w.length + 3 + wsum ws
theorem fold_len : ∀ (ws : List Bs) (st : Int × Bs), (ws.foldl lnStep st).2.length ≤ st.2.length + wsum ws
  | [], st => by simp [wsum]
  | w :: ws, st => by
    have h1 := lnStep_len st w
    have h2 := fold_len ws (lnStep st w)
    rw [List.foldl_cons, wsum]; omega
theorem wsum_total : ∀ ws : List Bs, wsum ws = Str.total ws + 3 * ws.length
  | [] => rfl
  | w :: ws => by rw [wsum, wsum_total ws]; simp [Str.total]; omega
theorem pieces_few (s : Bs) : ∀ n, s.length ≤ n → 42 * (pieces s).length ≤ s.length + 42 := by
  intro n
  induction n generalizing s with
  | zero => intro h; have : s = [] := List.eq_nil_of_length_eq_zero (by omega); subst this; simp [pieces_nil]
  | succ n ih =>
    intro h
    by_cases h0 : s = []
    · subst h0; simp [pieces_nil]
    · have hp := pt_le s
      have hl := List.length_pos_iff.2 h0
      have h3 := hp.2.2 h0
      have hi := ih (s.drop (pt s)) (by simp; omega)
      rw [pieces_cons h0, List.length_cons]
      by_cases h45 : s.length ≤ 45
      · have : pt s = s.length := by unfold pt; rw [if_pos h45]
        rw [this, List.drop_length, pieces_nil]; simp
      · have h42 : 42 ≤ pt s := by unfold pt; rw [if_neg h45]; exact (dn_le s 4 (by omega)).1
        rw [List.length_drop] at hi
        omega
theorem wsum_pieces : ∀ l : List Bs, (∀ w ∈ l, w.length ≤ 104) → wsum l ≤ 107 * l.length
  | [], _ => by simp [wsum]
  | w :: ws, h => by
    have := wsum_pieces ws (fun x hx => h x (by simp [hx]))
    have := h w (by simp)
    rw [wsum, List.length_cons]; omega
theorem line_short (a b : Bs) (h : okLine a b = true) (hb : b.length ≤ 600) : (lineOf a b).length ≤ 1900 := by
  have ha := (okLine_s h).2.2
  have hf := fold_len (wordsOf b) (((a.length + 1 : Nat) : Int), a ++ [58])
  have hw : wsum (wordsOf b) ≤ 1803 := by
    unfold wordsOf
    cases plainB b with
    | true =>
      have h1 := sp_total 32 b
      rw [ctr, wsum_total]; omega
    | false =>
      have h1 := pieces_few b b.length (by omega)
      have h2 := wsum_pieces (pieces b) (pieces_len b b.length (by omega)).2
      rw [cfl]; omega
  unfold lineOf
  rw [List.length_append]
  simp at hf ⊢; omega
end Go.Hd
namespace Go.Hd
open Go.Pv Go.Av
def en : Bs → Option Nat
  | [] => none
  | c :: r => if (c = 13 ∧ r.head? = some 10) ∧ (r.drop 1).head? ≠ some 32 then some 2 else match en r with
    | none => none
    | some n => some (n + 1)
theorem index_cons (x : UInt8) (r sub : Bs) : Go.Lib.index (x :: r) sub = if sub.isPrefixOf (x :: r) = true then 0 else if Go.Lib.index r sub = -1 then -1 else Go.Lib.index r sub + 1 := by
  rw [Go.Lib.index]
  simp only [beq_iff_eq]
theorem fo (x : Bool) : (false || x) = x := Eq.symm (Eq.symm rfl)
end Go.Hd
namespace Go.Pt
open Go.Pv Go.Av
open Go.Hd (fand tand nfl ntr cfl ctr bq of_all8 Bs hp_take index_cons contains_cons)
open Go.Lib (decDigits)
theorem dd_small {n : Nat} (h : n < 10) : decDigits n = [UInt8.ofNat (48 + n)] := by rw [decDigits, dif_pos h]
theorem dd_big {n : Nat} (h : ¬ n < 10) : decDigits n = decDigits (n / 10) ++ [UInt8.ofNat (48 + n % 10)] := by rw [decDigits, dif_neg h]
theorem dg_sub (k : Nat) (h : k < 10) : sub ([48, 49, 50, 51, 52, 53, 54, 55, 56, 57] : Bs) (k : Int) ((k : Int) + 1) = [UInt8.ofNat (48 + k)] := by
  have : ∀ k : Fin 10, sub ([48, 49, 50, 51, 52, 53, 54, 55, 56, 57] : Bs) (k.val : Int) ((k.val : Int) + 1) = [UInt8.ofNat (48 + k.val)] := by decide +kernel
  exact this ⟨k, h⟩
theorem dd_len : ∀ (m n : Nat), n < m → (decDigits n).length ≤ n + 1 := by
  intro m
  induction m with
  | zero => intro n h; omega
  | succ m ih =>
    intro n h
    by_cases hn : n < 10
    · rw [dd_small hn]; simp
    · have := ih (n / 10) (by omega)
      rw [dd_big hn, List.length_append, List.length_singleton]; omega
theorem num_loop : ∀ (m n : Nat) (acc : Bs), n < m → n ≤ 1000000 → acc.length ≤ 10000000 - n → ref03_Number_L1 m ((n : Int), acc) = some ((if n = 0 then [] else decDigits n) ++ acc) := by
  intro m
  induction m with
  | zero => intro n acc h; omega
  | succ m ih =>
    intro n acc hm hn ha
    show ref03_Number_B1 (ref03_Number_L1 m) (n : Int) acc = _
    unfold ref03_Number_B1 ref03_Number_j1
    by_cases h : n = 0
    · rw [bF (by omega), if_pos h]; rfl
    · have e1 : (n : Int) % 10 = ((n % 10 : Nat) : Int) := by omega
      have e2 : (n : Int) / 10 = ((n / 10 : Nat) : Int) := by omega
      have hl : ([48, 49, 50, 51, 52, 53, 54, 55, 56, 57] : Bs).length = 10 := rfl
      rw [bT (by omega), grd_Div (by omega), grd_Div (by omega), e1, grd_I (by omega), hl, grd_Sub (by omega), lt_eq, dg_sub _ (by omega), grd_Cat (by simp; omega), lt_eq, grd_Div (by omega), e2, ih (n / 10) _ (by omega) (by omega) (by simp; omega), if_neg h]
      by_cases h10 : n < 10
      · rw [if_pos (by omega), dd_small h10, Nat.mod_eq_of_lt h10]; rfl
      · rw [if_neg (by omega), dd_big h10, List.append_assoc]
theorem Number_eq (F : Nat) (n : Nat) (hn : n ≤ 1000000) (hF : n < F) : ref03_Number F (n : Int) = some (decDigits n) := by
  have e1 : (n : Int) % 10 = ((n % 10 : Nat) : Int) := by omega
  have e2 : (n : Int) / 10 = ((n / 10 : Nat) : Int) := by omega
  have hl : ([48, 49, 50, 51, 52, 53, 54, 55, 56, 57] : Bs).length = 10 := rfl
  unfold ref03_Number
  rw [grd_Div (by omega), grd_Div (by omega), e1, grd_I (by omega), hl, grd_Sub (by omega), lt_eq, dg_sub _ (by omega), grd_Div (by omega), e2, num_loop F (n / 10) _ (by omega) (by omega) (by simp; omega)]
  by_cases h10 : n < 10
  · rw [if_pos (by omega), dd_small h10, Nat.mod_eq_of_lt h10]; rfl
  · rw [if_neg (by omega), dd_big h10]
theorem itoa_eq (n : Nat) : Go.Lib.itoa (n : Int) = decDigits n := by
  unfold Go.Lib.itoa
  rw [if_neg (by omega), Int.toNat_natCast]
theorem idx_short {r x : Bs} (h : r.length < x.length) : Go.Lib.index r x = -1 := Go.Lib.index_long (Nat.le_of_lt h) (fun e => by rw [e] at h; omega)
theorem pre_take (x r : Bs) (h : x.length ≤ r.length) : x.isPrefixOf r = decide (r.take x.length = x) := by
  have := hp_take (w := r) (p := x)
  rw [decide_eq_true h, tand] at this
  exact this
theorem at_loop (s x : Bs) (hs : s.length ≤ 1000000) (hx : 1 ≤ x.length) (hx2 : x.length ≤ 1000000) : ∀ (m i : Nat), s.length - i < m → i ≤ s.length + 1 →
    ref15_at_L1 s x m (i : Int) = some (if Go.Lib.index (s.drop i) x = -1 then -1 else (i : Int) + Go.Lib.index (s.drop i) x) := by
  intro m
  induction m with
  | zero => intro i h; omega
  | succ m ih =>
    intro i hm hi
    show ref15_at_B1 s x (ref15_at_L1 s x m) (i : Int) = _
    unfold ref15_at_B1 ref15_at_j1
    have e1 : (i : Int) + (x.length : Int) = ((i + x.length : Nat) : Int) := by omega
    rw [e1, grd_I (by omega)]
    by_cases h : i + x.length ≤ s.length
    · have hd : s.drop i = s[i]'(by omega) :: s.drop (i + 1) := List.drop_eq_getElem_cons (by omega)
      have hsub : (s.take (i + x.length)).drop i = (s.drop i).take x.length := by rw [List.drop_take]; congr 1; omega
      have hp := pre_take x (s.drop i) (by simp; omega)
      rw [bT (by omega), grd_I (by omega), grd_Sub (by omega), lt_eq, sub_nat, hsub]
      have hix := index_cons (s[i]'(by omega)) (s.drop (i + 1)) x
      rw [← hd] at hix
      by_cases hc : (s.drop i).take x.length = x
      · rw [decide_eq_true hc] at hp
        rw [if_pos hp] at hix
        rw [bT hc, hix, if_neg (by omega)]; simp
      · rw [decide_eq_false hc] at hp
        rw [if_neg (by rw [hp]; simp)] at hix
        rw [bF hc, grd_I (by omega), cast_succ, ih (i + 1) (by omega) (by omega), hix]
        by_cases hm1 : Go.Lib.index (s.drop (i + 1)) x = -1
        · rw [if_pos hm1, if_pos hm1, if_pos rfl]
        · have hge := Go.Lib.index_ge (s.drop (i + 1)) x
          rw [if_neg hm1, if_neg hm1, if_neg (by omega)]
          congr 1; omega
    · have : Go.Lib.index (s.drop i) x = -1 := idx_short (by simp; omega)
      rw [bF (by omega), if_pos this]
theorem at_eq (F : Nat) (s x : Bs) (i : Nat) (hs : s.length ≤ 1000000) (hx : 1 ≤ x.length) (hx2 : x.length ≤ 1000000) (hi : i ≤ s.length) (hF : s.length < F) :
    ref15_at F s x (i : Int) = some (if Go.Lib.index (s.drop i) x = -1 then -1 else (i : Int) + Go.Lib.index (s.drop i) x) := at_loop s x hs hx hx2 F i (by omega) (by omega)
def bd (n : Nat) : Bs := [61, 95] ++ decDigits n
def fnd (l : List Bs) (n : Nat) : Bool := l.any fun b => Go.Lib.contains b (bd n)
theorem bd_len (n : Nat) (h : n ≤ 100000) : 2 ≤ (bd n).length ∧ (bd n).length ≤ 200000 := by
  have := dd_len (n + 1) n (by omega)
  unfold bd
  rw [List.length_append]
  constructor
  · simp
  · simp; omega
theorem hasC_eq (F : Nat) (b x : Bs) (hb : b.length ≤ 1000000) (h2 : 2 ≤ x.length) (hx : x.length ≤ 1000000) : part_hasC F b x = some (Go.Lib.contains b x) := by
  unfold part_hasC
  rw [grd_Cat (by omega), grd_S (by omega), grd_D h2, grd_S (by omega), lt_eq]
theorem idxB_loop (F : Nat) (l : List Bs) (x : Bs) (hl : l.length ≤ 1000000) (hb : ∀ b ∈ l, b.length ≤ 1000000) (h2 : 2 ≤ x.length) (hx : x.length ≤ 1000000) : ∀ (m i : Nat), l.length - i < m → i ≤ l.length →
    ∃ r : Int, part_IndexB_L1 F l x m (i : Int) = some r ∧ decide (0 ≤ r) = (l.drop i).any (fun b => Go.Lib.contains b x) := by
  intro m
  induction m with
  | zero => intro i h; omega
  | succ m ih =>
    intro i hm hi
    show ∃ r : Int, part_IndexB_B1 F l x (part_IndexB_L1 F l x m) (i : Int) = some r ∧ _
    unfold part_IndexB_B1 part_IndexB_j1
    by_cases h : i < l.length
    · have hd : l.drop i = l[i] :: l.drop (i + 1) := List.drop_eq_getElem_cons h
      rw [bT (by omega), grd_At (by omega), lt_eq, at_nat h, hasC_eq F _ x (hb _ (List.getElem_mem h)) h2 hx, bnd_some, hd, List.any_cons]
      cases hc : Go.Lib.contains l[i] x with
      | true => exact ⟨(i : Int), rfl, by rw [decide_eq_true (by omega)]; rfl⟩
      | false =>
        obtain ⟨r, h1, h3⟩ := ih (i + 1) (by omega) (by omega)
        exact ⟨r, by rw [cfl, grd_I (by omega), cast_succ, h1], by rw [h3, fo]⟩
    · rw [bF (by omega), List.drop_eq_nil_of_le (by omega)]
      exact ⟨-1, rfl, rfl⟩
theorem ContainsB_eq (F : Nat) (l : List Bs) (x : Bs) (hl : l.length ≤ 1000000) (hF : l.length < F) (hb : ∀ b ∈ l, b.length ≤ 1000000) (h2 : 2 ≤ x.length) (hx : x.length ≤ 1000000) : part_ContainsB F l x = some (l.any fun b => Go.Lib.contains b x) := by
  obtain ⟨r, h1, h3⟩ := idxB_loop F l x hl hb h2 hx F 0 (by omega) (by omega)
  rw [List.drop_zero] at h3
  unfold part_ContainsB
  have h1' : part_IndexB F l x = some r := h1
  rw [h1', bnd_some, h3]
theorem bnd_loop (F : Nat) (l : List Bs) (hl : l.length ≤ 1000000) (hF : l.length < F) (hb : ∀ b ∈ l, b.length ≤ 1000000) (N : Nat) (hN : N ≤ 100000) (h0 : fnd l N = false) : ∀ (m i : Nat), N - i < m → i ≤ N → (∀ k, i ≤ k → k < N → fnd l k = true) → part_Boundary_L1 F l m (i : Int) = some (bd N) := by
  intro m
  induction m with
  | zero => intro i h; omega
  | succ m ih =>
    intro i hm hi hk
    show part_Boundary_B1 F l (part_Boundary_L1 F l m) (i : Int) = _
    unfold part_Boundary_B1
    have ⟨b1, b2⟩ := bd_len i (by omega)
    have hd := dd_len (i + 1) i (by omega)
    rw [grd_I (by omega), lt_eq, itoa_eq, grd_Cat (by simp; omega), lt_eq]
    show bnd (part_ContainsB F l (bd i)) _ = _
    rw [ContainsB_eq F l (bd i) hl hF hb b1 (by omega), bnd_some]
    show (bif !(fnd l i) then some (bd i) else _) = _
    by_cases he : i = N
    · subst he; rw [h0]; rfl
    · rw [hk i (by omega) (by omega), ntr, cfl, grd_I (by omega), cast_succ, ih (i + 1) (by omega) (by omega) (fun k h1 h2 => hk k (by omega) h2)]
theorem Boundary_eq (F : Nat) (l : List Bs) (hl : l.length ≤ 1000000) (hF : l.length < F) (hb : ∀ b ∈ l, b.length ≤ 1000000) (N : Nat) (hN : N ≤ 100000) (hNF : N < F) (h0 : fnd l N = false) (hk : ∀ k, k < N → fnd l k = true) : part_Boundary F l = some (bd N) :=
  bnd_loop F l hl hF hb N hN h0 F 0 (by omega) (by omega) (fun k _ h => hk k h)
theorem at_cont (F : Nat) (s x : Bs) (hs : s.length ≤ 1000000) (hx : 1 ≤ x.length) (hx2 : x.length ≤ 1000000) (hF : s.length < F) : ∃ r, ref15_at F s x 0 = some r ∧ decide (0 ≤ r) = Go.Lib.contains s x := by
  have := at_eq F s x 0 hs hx hx2 (by omega) hF
  rw [List.drop_zero] at this
  refine ⟨_, this, ?_⟩
  have hge := Go.Lib.index_ge s x
  unfold Go.Lib.contains
  by_cases h : Go.Lib.index s x = -1
  · rw [if_pos h, h]
  · rw [if_neg h]
    exact decide_eq_decide.2 (by omega)
theorem rin_loop (F : Nat) (l : List Bs) (x : Bs) (y : Int) (rec5 : Int → Option Bs) (hl : l.length ≤ 1000000) (hb : ∀ b ∈ l, b.length ≤ 1000000) (hbF : ∀ b ∈ l, b.length < F) (hx : 1 ≤ x.length) (hx2 : x.length ≤ 1000000) : ∀ (m i : Nat) (f : Bool), l.length - i < m → i ≤ l.length →
    ref15_Boundary_L1 F l y rec5 x m (f, (i : Int)) = ref15_Boundary_j2 y rec5 x (f || (l.drop i).any (fun b => Go.Lib.contains b x)) := by
  intro m
  induction m with
  | zero => intro i f h; omega
  | succ m ih =>
    intro i f hm hi
    show ref15_Boundary_B1 F l y rec5 x (ref15_Boundary_L1 F l y rec5 x m) f (i : Int) = _
    unfold ref15_Boundary_B1
    by_cases h : i < l.length
    · have hd : l.drop i = l[i] :: l.drop (i + 1) := List.drop_eq_getElem_cons h
      have hmem := List.getElem_mem h
      obtain ⟨r, h1, h3⟩ := at_cont F l[i] x (hb _ hmem) hx hx2 (hbF _ hmem)
      have hA : ∀ (c : Bool) (k : Option Bs), grdc c (okAt (i : Int) l.length) k = k := fun c k => by
        rw [show okAt (i : Int) l.length = true from decide_eq_true (by omega)]; cases c <;> rfl
      rw [bT (by omega), hA, lt_eq, at_nat h, h1, bndc_some, grd_I (by omega), cast_succ, ih (i + 1) _ (by omega) (by omega), hd, List.any_cons]
      congr 1
      cases f with
      | true => rfl
      | false => rw [nfl, ctr, fo, fo, h3]
    · rw [bF (by omega), List.drop_eq_nil_of_le (by omega)]
      simp
theorem rbnd_loop (F : Nat) (l : List Bs) (hl : l.length ≤ 1000000) (hF : l.length < F) (hb : ∀ b ∈ l, b.length ≤ 1000000) (hbF : ∀ b ∈ l, b.length < F) (N : Nat) (hN : N ≤ 100000) (hNF : N < F) (h0 : fnd l N = false) : ∀ (m i : Nat), N - i < m → i ≤ N → (∀ k, i ≤ k → k < N → fnd l k = true) → ref15_Boundary_L2 F l m (i : Int) = some (bd N) := by
  intro m
  induction m with
  | zero => intro i h; omega
  | succ m ih =>
    intro i hm hi hk
    show ref15_Boundary_B2 F l (ref15_Boundary_L2 F l m) (i : Int) = _
    unfold ref15_Boundary_B2
    have ⟨b1, b2⟩ := bd_len i (by omega)
    have hd := dd_len (i + 1) i (by omega)
    rw [Number_eq F i (by omega) (by omega), bnd_some, grd_Cat (by simp; omega), lt_eq]
    have := rin_loop F l (bd i) (i : Int) (ref15_Boundary_L2 F l m) hl hb hbF (by omega) (by omega) F 0 false (by omega) (by omega)
    rw [List.drop_zero, fo] at this
    refine Eq.trans this ?_
    unfold ref15_Boundary_j2 ref15_Boundary_j1
    show (bif !(fnd l i) then some (bd i) else _) = _
    by_cases he : i = N
    · subst he; rw [h0]; rfl
    · rw [hk i (by omega) (by omega), ntr, cfl, grd_I (by omega), cast_succ, ih (i + 1) (by omega) (by omega) (fun k h1 h2 => hk k (by omega) h2)]
theorem rBoundary_eq (F : Nat) (l : List Bs) (hl : l.length ≤ 1000000) (hF : l.length < F) (hb : ∀ b ∈ l, b.length ≤ 1000000) (hbF : ∀ b ∈ l, b.length < F) (N : Nat) (hN : N ≤ 100000) (hNF : N < F) (h0 : fnd l N = false) (hk : ∀ k, k < N → fnd l k = true) : ref15_Boundary F l = some (bd N) :=
  rbnd_loop F l hl hF hb hbF N hN hNF h0 F 0 (by omega) (by omega) (fun k _ h => hk k h)
theorem nodup_le {α : Type} [DecidableEq α] : ∀ (a b : List α), a.Nodup → (∀ x ∈ a, x ∈ b) → a.length ≤ b.length
  | [], b, _, _ => by simp
  | x :: a, b, hn, h => by
    have hx := h x (by simp)
    have := nodup_le a (b.erase x) (List.nodup_cons.1 hn).2 (fun y hy => by
      have hne : y ≠ x := fun e => (List.nodup_cons.1 hn).1 (e ▸ hy)
      exact (List.mem_erase_of_ne hne).2 (h y (by simp [hy])))
    rw [List.length_erase_of_mem hx] at this
    have := List.length_pos_of_mem hx
    rw [List.length_cons]; omega
theorem nodup_map {α β : Type} {f : α → β} (hf : ∀ a b, f a = f b → a = b) : ∀ l : List α, l.Nodup → (l.map f).Nodup
  | [], _ => List.nodup_nil
  | x :: l, h => by
    rw [List.map_cons, List.nodup_cons]
    refine ⟨fun hm => ?_, nodup_map hf l (List.nodup_cons.1 h).2⟩
    obtain ⟨y, hy, e⟩ := List.mem_map.1 hm
    exact (List.nodup_cons.1 h).1 (hf _ _ e ▸ hy)
def val (l : Bs) : Nat := l.foldl (fun a c => 10 * a + (c.toNat - 48)) 0
theorem val_dd : ∀ (m n : Nat), n < m → val (decDigits n) = n := by
  intro m
  induction m with
  | zero => intro n h; omega
  | succ m ih =>
    intro n h
    have hd : ∀ k, k < 10 → (UInt8.ofNat (48 + k)).toNat - 48 = k := by decide +kernel
    by_cases hn : n < 10
    · rw [dd_small hn]
      show 10 * 0 + ((UInt8.ofNat (48 + n)).toNat - 48) = n
      rw [hd n hn]; omega
    · have := ih (n / 10) (by omega)
      unfold val at this ⊢
      rw [dd_big hn, List.foldl_append, this]
      show 10 * (n / 10) + ((UInt8.ofNat (48 + n % 10)).toNat - 48) = n
      rw [hd (n % 10) (by omega)]; omega
theorem bd_inj {a b : Nat} (h : bd a = bd b) : a = b := by
  unfold bd at h
  have := List.append_cancel_left h
  have e1 := val_dd (a + 1) a (by omega)
  have e2 := val_dd (b + 1) b (by omega)
  rw [this] at e1
  omega
theorem dd_four (n : Nat) (h1 : 1000 ≤ n) (h2 : n < 10000) : (bd n).length = 6 := by
  unfold bd
  rw [dd_big (by omega), dd_big (by omega), dd_big (by omega), dd_small (by omega)]
  simp
def wins (l : List Bs) : List Bs := l.flatMap fun b => (List.range (b.length - 5)).map fun p => (b.drop p).take 6
theorem wins_len (l : List Bs) (h : ∀ b ∈ l, b.length ≤ 300) : (wins l).length ≤ 295 * l.length := by
  induction l with
  | nil => simp [wins]
  | cons b l ih =>
    have e : wins (b :: l) = ((List.range (b.length - 5)).map fun p => (b.drop p).take 6) ++ wins l := by unfold wins; rw [List.flatMap_cons]
    have := ih (fun c hc => h c (by simp [hc]))
    have hb := h b (by simp)
    rw [e, List.length_append, List.length_map, List.length_range, List.length_cons]; omega
theorem cont_at : ∀ (b x : Bs), 1 ≤ x.length → Go.Lib.contains b x = true → ∃ p, p < b.length ∧ (b.drop p).take x.length = x
  | [], x, hx, h => by
    unfold Go.Lib.contains at h
    rw [idx_short (r := []) (show ([] : Bs).length < x.length by simp; omega)] at h
    cases h
  | c :: r, x, hx, h => by
    rw [contains_cons, Bool.or_eq_true] at h
    rcases h with h | h
    · exact ⟨0, by simp, by rw [List.drop_zero]; exact (List.prefix_iff_eq_take.1 (List.isPrefixOf_iff_prefix.1 h)).symm⟩
    · obtain ⟨p, h1, h2⟩ := cont_at r x hx h
      exact ⟨p + 1, by simpa using h1, by simpa using h2⟩
theorem exists_free (l : List Bs) (hl : l.length ≤ 10) (h : ∀ b ∈ l, b.length ≤ 300) : ∃ n, 1000 ≤ n ∧ n < 4000 ∧ fnd l n = false := by
  refine Classical.byContradiction fun hno => ?_
  have hall : ∀ n, 1000 ≤ n → n < 4000 → fnd l n = true := fun n h1 h2 => by
    cases hf : fnd l n with
    | true => rfl
    | false => exact absurd ⟨n, h1, h2, hf⟩ hno
  have := nodup_le ((List.range 3000).map fun k => bd (1000 + k)) (wins l)
    (by
      exact nodup_map (fun a b hab => by have := bd_inj hab; omega) _ List.nodup_range)
    (fun x hx => by
      obtain ⟨k, hk, rfl⟩ := List.mem_map.1 hx
      have hk := List.mem_range.1 hk
      have hf := hall (1000 + k) (by omega) (by omega)
      unfold fnd at hf
      obtain ⟨b, hb, hc⟩ := List.any_eq_true.1 hf
      obtain ⟨p, h1, h2⟩ := cont_at b _ (by have := dd_four (1000 + k) (by omega) (by omega); omega) hc
      rw [dd_four (1000 + k) (by omega) (by omega)] at h2
      have hl6 := congrArg List.length h2
      rw [dd_four (1000 + k) (by omega) (by omega), List.length_take, List.length_drop] at hl6
      exact List.mem_flatMap.2 ⟨b, hb, List.mem_map.2 ⟨p, List.mem_range.2 (by omega), h2⟩⟩)
  have hw := wins_len l h
  rw [List.length_map, List.length_range] at this
  omega
theorem least (p : Nat → Bool) : ∀ n, p n = false → ∃ N, N ≤ n ∧ p N = false ∧ ∀ k, k < N → p k = true := by
  intro n
  induction n using Nat.strongRecOn with
  | _ n ih =>
    intro h
    by_cases hk : ∃ k, k < n ∧ p k = false
    · obtain ⟨k, h1, h2⟩ := hk
      obtain ⟨N, a, b, c⟩ := ih k h1 h2
      exact ⟨N, by omega, b, c⟩
    · refine ⟨n, Nat.le_refl _, h, fun k h1 => ?_⟩
      cases hp : p k with
      | true => rfl
      | false => exact absurd ⟨k, h1, hp⟩ hk
end Go.Pt
namespace Go.Pt
open Go.Pv Go.Av
open Go.Hd (fand tand nfl ntr cfl ctr bq of_all8 Bs has2 contains_two trim_id has2_tail)
def sg (c : UInt8) : Bool := (((((((decide ((97 : Int) ≤ (c.toNat : Int))) && (decide ((c.toNat : Int) ≤ (122 : Int)))) || ((decide ((48 : Int) ≤ (c.toNat : Int))) && (decide ((c.toNat : Int) ≤ (57 : Int))))) || (decide (c = 47))) || (decide (c = 45))) || (decide (c = 61))) || (decide (c = 59)))
def sgb (c : UInt8) : Bool := sg c || decide (c = 32)
theorem sgb_idx (c : UInt8) : decide (Go.Lib.indexByte parta_k1 c < 0) = !sgb c := by
  have := of_all8 (fun c => decide (Go.Lib.indexByte parta_k1 c < 0) == !sgb c) (by decide +kernel) c
  exact eq_of_beq this
def dbl (x y : UInt8) : Bool := x == 32 && y == 32
def kindB (s : Bs) : Bool := (s.all sgb && (!decide (s = []) && decide (s.length ≤ 60))) && ((decide (s.head? ≠ some 32) && decide (s.getLast? ≠ some 32)) && !has2 dbl s)
theorem kind_j (s : Bs) : part_kind_j1 s = some ((!decide (s = []) && decide (s.length ≤ 60)) && ((decide (s.head? ≠ some 32) && decide (s.getLast? ≠ some 32)) && !has2 dbl s)) := by
  unfold part_kind_j1
  have e1 : decide ((s.length : Int) ≤ 60) = decide (s.length ≤ 60) := decide_eq_decide.2 (by omega)
  have hS : ∀ (x : Bool) (k : Option Bool), grdc (((!decide (s = ([] : Bs))) && (decide ((s.length : Int) ≤ 60))) && x) (okS s.length) k = k := fun x k => by
    by_cases h : s.length ≤ 60
    · rw [show okS s.length = true from decide_eq_true (by omega)]; cases ((!decide (s = ([] : Bs))) && (decide ((s.length : Int) ≤ 60))) && x <;> rfl
    · rw [decide_eq_false (show ¬ (s.length : Int) ≤ 60 by omega), Bool.and_false, fand, grdc_f]
  have hS1 : ∀ (k : Option Bool), grdc ((!decide (s = ([] : Bs))) && (decide ((s.length : Int) ≤ 60))) (okS s.length) k = k := fun k => by
    have := hS true k
    rwa [Bool.and_true] at this
  rw [hS1, lt_eq, hS, lt_eq, contains_two]
  have e2 : decide (Go.Lib.trimB s 32 = s) = (decide (s.head? ≠ some 32) && decide (s.getLast? ≠ some 32)) := by
    rw [← Bool.decide_and]; exact decide_eq_decide.2 (trim_id 32 s)
  rw [e1, e2, Bool.and_assoc ((!decide (s = ([] : Bs))) && (decide (s.length ≤ 60)))]
  rfl
theorem kind_loop (s : Bs) (hs : s.length ≤ 1000000) : ∀ (n i : Nat), s.length - i < n → i ≤ s.length → part_kind_L1 s n (i : Int) = bif (s.drop i).all sgb then part_kind_j1 s else some false := by
  intro n
  induction n with
  | zero => intro i h; omega
  | succ n ih =>
    intro i hn hi
    show part_kind_B1 s (part_kind_L1 s n) (i : Int) = _
    unfold part_kind_B1
    by_cases h : i < s.length
    · have hd : s.drop i = s[i] :: s.drop (i + 1) := List.drop_eq_getElem_cons h
      rw [bT (by omega), grd_At (by omega), lt_eq, at_nat h, lt_eq, sgb_idx, hd, List.all_cons]
      cases hp : sgb s[i] with
      | false => rw [nfl, ctr, fand, cfl]
      | true => rw [ntr, cfl, grd_I (by omega), cast_succ, ih (i + 1) (by omega) (by omega), tand]
    · rw [bF (by omega), List.drop_eq_nil_of_le (by omega), List.all_nil, ctr]
theorem kind_eq (F : Nat) (s : Bs) (hs : s.length ≤ 1000000) (hF : s.length < F) : part_kind F s = some (kindB s) := by
  have := kind_loop s hs F 0 (by omega) (by omega)
  rw [List.drop_zero] at this
  refine Eq.trans this ?_
  rw [kind_j]
  unfold kindB
  cases s.all sgb <;> rfl
def okp : Option UInt8 → Bool
  | none => false
  | some x => !decide (x = 32)
def rk (p : Option UInt8) : Bs → Bool
  | [] => true
  | c :: r => (sg c || ((decide (c = 32) && okp p) && !decide (r = []))) && rk (some c) r
theorem sg_32 : sg 32 = false := by decide +kernel
theorem rk_some : ∀ (r : Bs) (p : UInt8), rk (some p) r = ((r.all sgb && !has2 dbl (p :: r)) && decide (r.getLast? ≠ some 32))
  | [], p => by simp [rk, has2]
  | c :: r, p => by
    have ih := rk_some r c
    have hl : r ≠ [] → (c :: r).getLast? = r.getLast? := fun h => by
      cases r with
      | nil => exact absurd rfl h
      | cons d t => rw [List.getLast?_cons_cons]
    rw [rk, ih, has2, List.all_cons]
    unfold sgb dbl okp
    by_cases hc : c = 32
    · rw [hc, sg_32]
      by_cases hr : r = []
      · subst hr; simp [has2]
      · have := hl hr
        rw [hc] at this
        rw [this, decide_eq_false hr]
        by_cases hp : p = 32
        · rw [hp]; simp
        · have : (p == 32) = false := by simpa using hp
          rw [this]
          dsimp only
          rw [decide_eq_false hp]
          simp
    · have h1 : (c == 32) = false := by simpa using hc
      rw [decide_eq_false hc, h1]
      simp only [fand, Bool.or_false, Bool.and_false, fo]
      by_cases hr : r = []
      · subst hr
        cases sg c <;> simp [has2, hc]
      · rw [hl hr]
        cases sg c <;> simp
theorem rk_none (s : Bs) (h : s ≠ []) : rk none s = (s.all sgb && ((decide (s.head? ≠ some 32) && decide (s.getLast? ≠ some 32)) && !has2 dbl s)) := by
  cases s with
  | nil => exact absurd rfl h
  | cons c r =>
    have hl : r ≠ [] → (c :: r).getLast? = r.getLast? := fun h => by
      cases r with
      | nil => exact absurd rfl h
      | cons d t => rw [List.getLast?_cons_cons]
    rw [rk, rk_some, List.all_cons]
    unfold sgb okp
    by_cases hc : c = 32
    · rw [hc, sg_32]; simp
    · rw [decide_eq_false hc]
      simp only [fand, Bool.or_false]
      have : decide ((c :: r).head? ≠ some (32 : UInt8)) = true := decide_eq_true (fun e => hc (Option.some.inj e))
      rw [this, tand]
      by_cases hr : r = []
      · subst hr; cases sg c <;> simp [has2, hc]
      · rw [hl hr]
        cases sg c <;> cases r.all (fun c => sg c || decide (c = 32)) <;> simp [Bool.and_comm]
theorem rkind_loop (s : Bs) (hs : s.length ≤ 1000000) : ∀ (n i : Nat), s.length - i < n → i ≤ s.length → ref15_Kind_L1 s n (i : Int) = bif rk (Go.Hd.prev s i) (s.drop i) then ref15_Kind_j1 s else some false := by
  intro n
  induction n with
  | zero => intro i h; omega
  | succ n ih =>
    intro i hn hi
    show ref15_Kind_B1 s (ref15_Kind_L1 s n) (i : Int) = _
    unfold ref15_Kind_B1
    by_cases h : i < s.length
    · have hd : s.drop i = s[i] :: s.drop (i + 1) := List.drop_eq_getElem_cons h
      have hp : Go.Hd.prev s (i + 1) = some s[i] := by simp [Go.Hd.prev, h]
      have hrn : decide (s.drop (i + 1) = []) = !decide ((i : Int) < (s.length : Int) - 1) := by
        by_cases hl : i + 1 < s.length
        · rw [decide_eq_true (show (i : Int) < (s.length : Int) - 1 by omega)]
          exact decide_eq_false (fun e => by have := congrArg List.length e; simp at this; omega)
        · rw [decide_eq_false (show ¬ (i : Int) < (s.length : Int) - 1 by omega)]
          exact decide_eq_true (List.drop_eq_nil_of_le (by omega))
      have fin : ∀ b : Bool, b = (sg s[i] || ((decide (s[i] = 32) && okp (Go.Hd.prev s i)) && !decide (s.drop (i + 1) = []))) →
          (bif !b then some false else grd (okI ((i : Int) + 1)) (ref15_Kind_L1 s n ((i : Int) + 1))) = bif rk (Go.Hd.prev s i) (s[i] :: s.drop (i + 1)) then ref15_Kind_j1 s else some false := by
        intro b hb
        rw [rk, ← hb]
        cases b with
        | false => rw [nfl, ctr, fand, cfl]
        | true => rw [ntr, cfl, grd_I (by omega), cast_succ, ih (i + 1) (by omega) (by omega), hp, tand]
      have hI : ∀ (c : Bool) (k : Option Bool), grdc c (okI ((s.length : Int) - 1)) k = k := fun c k => by
        rw [show okI ((s.length : Int) - 1) = true from decide_eq_true (by omega)]; cases c <;> rfl
      have hI2 : ∀ (c : Bool) (k : Option Bool), grdc c (okI ((i : Int) - 1)) k = k := fun c k => by
        rw [show okI ((i : Int) - 1) = true from decide_eq_true (by omega)]; cases c <;> rfl
      rw [bT (by omega), grd_At (by omega), lt_eq, at_nat h, hI, hI2, hd]
      have hn2 : ∀ (a b : Bool), ((!a) && (!b)) = !(a || b) := fun a b => by cases a <;> cases b <;> rfl
      by_cases h0 : i = 0
      · have d0 : decide ((0 : Int) < (i : Int)) = false := decide_eq_false (by omega)
        have ep : Go.Hd.prev s i = none := by unfold Go.Hd.prev; rw [if_pos h0]
        simp only [d0, Bool.and_false, fand, grdc_f, lt_eq]
        rw [hn2]
        apply fin
        rw [ep]
        simp [sg, okp]
      · have d0 : decide ((0 : Int) < (i : Int)) = true := decide_eq_true (by omega)
        have e1 : (i : Int) - 1 = ((i - 1 : Nat) : Int) := by omega
        have ep : Go.Hd.prev s i = some s[i - 1] := by simp [Go.Hd.prev, h0]
        have hA : ∀ (c : Bool) (k : Option Bool), grdc c (okAt ((i - 1 : Nat) : Int) s.length) k = k := fun c k => by
          rw [show okAt ((i - 1 : Nat) : Int) s.length = true from decide_eq_true (by omega)]; cases c <;> rfl
        rw [d0, Bool.and_true, e1, hA, lt_eq, at_nat (by omega), hn2]
        apply fin
        rw [ep, hrn, Bool.not_not]
        show (sg s[i] || _) = _
        unfold okp
        dsimp only
        cases sg s[i] <;> cases decide (s[i] = 32) <;> cases decide ((i : Int) < (s.length : Int) - 1) <;> cases decide (s[i - 1] = 32) <;> rfl
    · rw [bF (by omega), List.drop_eq_nil_of_le (by omega), rk, ctr]
theorem rKind_eq (F : Nat) (s : Bs) (hs : s.length ≤ 1000000) (hF : s.length < F) : ref15_Kind F s = some (kindB s) := by
  have := rkind_loop s hs F 0 (by omega) (by omega)
  rw [List.drop_zero] at this
  refine Eq.trans this ?_
  have ep : Go.Hd.prev s 0 = none := rfl
  rw [ep]
  unfold kindB ref15_Kind_j1
  by_cases h : s = []
  · subst h; rfl
  · have hl := List.length_pos_iff.2 h
    have e1 : decide ((s.length : Int) ≤ 60) = decide (s.length ≤ 60) := decide_eq_decide.2 (by omega)
    rw [rk_none s h, decide_eq_false h, decide_eq_true (show 1 ≤ (s.length : Int) by omega), tand, nfl, tand, e1]
    cases s.all sgb <;> cases (decide (s.head? ≠ some 32) && decide (s.getLast? ≠ some 32)) && !has2 dbl s <;> simp
end Go.Pt
namespace Go.Hd
open Go.Pv Go.Av
theorem Line_all (F : Nat) (a b : Bs) (hF : 4200 < F) : head_Line F a b = some (if okLine a b = true then (lineOf a b, 0) else ([], 1)) := by
  by_cases h : a.length ≤ 40
  · exact Line_eq F a b (by omega) (by omega) hF
  · have hn : okLine a b ≠ true := fun ho => h (okLine_s ho).2.2
    unfold head_Line head_name
    rw [if_neg hn, decide_eq_false (show ¬ (a.length : Int) ≤ 40 by omega), bndc_f, fand, bnd_some]; rfl
def okX (x : Bs × Bs) : Bool := okLine x.1 x.2
def lnX (x : Bs × Bs) : Bs := lineOf x.1 x.2
theorem eachL_loop (F : Nat) (hF : 900000 < F) (l : List (Bs × Bs)) (hl : l.length ≤ 1000000) : ∀ (m i : Nat) (ls : List Bs), l.length - i < m → i ≤ l.length → ls.length ≤ i →
    head_eachL_L1 F l m (ls, (i : Int)) = some (bif (l.drop i).all okX then (ls ++ (l.drop i).map lnX, 0) else ([], 1)) := by
  intro m
  induction m with
  | zero => intro i ls h; omega
  | succ m ih =>
    intro i ls hm hi hh
    show head_eachL_B1 F l (head_eachL_L1 F l m) ls (i : Int) = _
    unfold head_eachL_B1 head_eachL_j1
    by_cases h : i < l.length
    · have hd : l.drop i = l[i] :: l.drop (i + 1) := List.drop_eq_getElem_cons h
      rw [bT (by omega), grd_At (by omega), lt_eq, at_nat h, Line_all F _ _ (by omega), hd, List.all_cons]
      by_cases ho : okLine l[i].1 l[i].2 = true
      · have hb : okX l[i] = true := ho
        rw [if_pos ho, bnd2_some, decide_eq_true rfl, ntr, cfl, grd_Cat (by simp; omega), lt_eq, grd_I (by omega), cast_succ, ih (i + 1) _ (by omega) (by omega) (by simp; omega), hb, tand, List.map_cons, List.append_assoc]
        rfl
      · have hb : okX l[i] = false := by unfold okX; simpa using ho
        rw [if_neg ho, bnd2_some, decide_eq_false (show ¬ (1 : Int) = 0 by omega), nfl, ctr, hb, fand, cfl]
    · have hd : l.drop i = [] := List.drop_eq_nil_of_le (by omega)
      rw [bF (by omega), hd]; simp
def allOf (l : List (Bs × Bs)) : Bs × Int := bif decide (l.length ≤ 50) then (bif l.all okX then ((l.map lnX).flatten ++ [13, 10], 0) else ([], 1)) else ([], 4)
theorem flat_len : ∀ (l : List (Bs × Bs)), (∀ x ∈ l, x.2.length ≤ 600) → l.all okX = true → ((l.map lnX).flatten).length ≤ 1900 * l.length
  | [], _, _ => by simp
  | x :: l, h, ha => by
    rw [List.all_cons, Bool.and_eq_true] at ha
    have := flat_len l (fun y hy => h y (by simp [hy])) ha.2
    have h1 := line_short x.1 x.2 ha.1 (h x (by simp))
    rw [List.map_cons, List.flatten_cons, List.length_append, List.length_cons]
    have e : lnX x = lineOf x.1 x.2 := rfl
    rw [e]; omega
theorem All_eq (F : Nat) (hF : 900000 < F) (l : List (Bs × Bs)) (hx : ∀ x ∈ l, x.2.length ≤ 600) : head_All F l = some (allOf l) := by
  unfold head_All allOf
  by_cases h : l.length ≤ 50
  · have he : head_eachL F l = _ := eachL_loop F hF l (by omega) F 0 [] (by omega) (by omega) (by simp)
    rw [bF (by omega), decide_eq_true h, ctr, he, List.drop_zero]
    cases ha : l.all okX with
    | false => rw [cfl, cfl, bnd2_some, decide_eq_false (show ¬ (1 : Int) = 0 by omega), nfl, ctr]
    | true =>
      have hfl := flat_len l hx ha
      rw [ctr, ctr, bnd2_some, decide_eq_true rfl, ntr, cfl, List.nil_append]
      have hj : okJoin0 (l.map lnX) = true := by
        unfold okJoin0
        rw [decide_eq_true (show ((l.map lnX).flatten).length ≤ 1000000000 by omega), decide_eq_true (show (l.map lnX).length ≤ 1000000000 by simp; omega)]
        cases l with
        | nil => rfl
        | cons x l =>
          have e : lnX x = lineOf x.1 x.2 := rfl
          have : ((x :: l).map lnX).flatten ≠ [] := by
            rw [List.map_cons, List.flatten_cons, e, lineOf_eq]; simp
          cases hf : ((x :: l).map lnX).flatten with
          | nil => exact absurd hf this
          | cons y r => simp
      rw [hj, grd_t, lt_eq, grd_Cat (by simp only [List.length_append, List.length_cons, List.length_nil]; omega), lt_eq]
  · rw [bT (by omega), decide_eq_false h, cfl]
theorem rall_loop (F : Nat) (hF : 900000 < F) (l : List (Bs × Bs)) (hl : l.length ≤ 60) (hx : ∀ x ∈ l, x.1.length ≤ 100 ∧ x.2.length ≤ 600) : ∀ (m i : Nat) (o : Bs), l.length - i < m → i ≤ l.length → o.length ≤ 1900 * i →
    ref14_All_L1 F l m (o, (i : Int)) = some (bif (l.drop i).all okX then (o ++ ((l.drop i).map lnX).flatten ++ [13, 10], 0) else ([], 1)) := by
  intro m
  induction m with
  | zero => intro i o h; omega
  | succ m ih =>
    intro i o hm hi hh
    show ref14_All_B1 F l (ref14_All_L1 F l m) o (i : Int) = _
    unfold ref14_All_B1 ref14_All_j1
    by_cases h : i < l.length
    · have hd : l.drop i = l[i] :: l.drop (i + 1) := List.drop_eq_getElem_cons h
      have ⟨x1, x2⟩ := hx l[i] (List.getElem_mem h)
      rw [bT (by omega), grd_At (by omega), lt_eq, at_nat h, rLine_eq F _ _ (by omega) (by omega) (by omega), hd, List.all_cons]
      by_cases ho : okLine l[i].1 l[i].2 = true
      · have hb : okX l[i] = true := ho
        have hsh := line_short _ _ ho x2
        rw [if_pos ho, bnd2_some, decide_eq_true rfl, ntr, cfl, grd_Cat (by omega), lt_eq, grd_I (by omega), cast_succ, ih (i + 1) _ (by omega) (by omega) (by simp; omega), hb, tand, List.map_cons, List.flatten_cons, List.append_assoc]
        have e : lnX l[i] = lineOf l[i].1 l[i].2 := rfl
        rw [e]
        simp
      · have hb : okX l[i] = false := by unfold okX; simpa using ho
        rw [if_neg ho, bnd2_some, decide_eq_false (show ¬ (1 : Int) = 0 by omega), nfl, ctr, hb, fand, cfl]
    · have hd : l.drop i = [] := List.drop_eq_nil_of_le (by omega)
      rw [bF (by omega), hd, grd_Cat (by simp; omega), lt_eq]; simp
theorem rAll_eq (F : Nat) (hF : 900000 < F) (l : List (Bs × Bs)) (hx : ∀ x ∈ l, x.1.length ≤ 100 ∧ x.2.length ≤ 600) : ref14_All F l = some (allOf l) := by
  unfold ref14_All allOf
  by_cases h : l.length ≤ 50
  · have he := rall_loop F hF l (by omega) hx F 0 [] (by omega) (by omega) (by simp)
    rw [bF (by omega), decide_eq_true h, ctr]
    refine Eq.trans he ?_
    rw [List.drop_zero, List.nil_append]
  · rw [bT (by omega), decide_eq_false h, cfl]
def body : Int → List Bs → Bs
  | _, [] => []
  | n, w :: ws => (lnStep (n, []) w).2 ++ body (lnStep (n, []) w).1 ws
end Go.Hd
namespace Go.Pt
open Go.Pv Go.Av
open Go.Hd (fand tand nfl ntr cfl ctr bq of_all8 Bs contains_cons allOf)
def okn (c : UInt8) : Option UInt8 → Bool
  | none => decide (c ≠ 61)
  | some d => decide (c ≠ 61) || decide (d ≠ 95)
def sf : Bs → Bool
  | [] => true
  | c :: r => okn c r.head? && sf r
theorem sf_app : ∀ (a b : Bs), sf a = true → sf b = true → sf (a ++ b) = true
  | [], b, _, h => h
  | [c], b, h, g => by
    rw [sf, Bool.and_eq_true] at h
    have hc : c ≠ 61 := of_decide_eq_true h.1
    show sf (c :: b) = true
    rw [sf, g, Bool.and_true]
    cases b with
    | nil => exact decide_eq_true hc
    | cons d t => show (decide (c ≠ 61) || _) = true; rw [decide_eq_true hc]; rfl
  | c :: d :: r, b, h, g => by
    rw [sf, Bool.and_eq_true] at h
    show sf (c :: d :: (r ++ b)) = true
    rw [sf, Bool.and_eq_true]
    exact ⟨h.1, sf_app (d :: r) b h.2 g⟩
theorem sf_cont (x : Bs) : ∀ s : Bs, sf s = true → Go.Lib.contains s ([61, 95] ++ x) = false
  | [], _ => by
    unfold Go.Lib.contains
    rw [idx_short (r := []) (by simp)]; rfl
  | c :: r, h => by
    rw [sf, Bool.and_eq_true] at h
    rw [contains_cons, sf_cont x r h.2, Bool.or_false]
    cases r with
    | nil => simp [List.isPrefixOf]
    | cons d t =>
      have h1 : (decide (c ≠ 61) || decide (d ≠ 95)) = true := h.1
      show ((61 == c) && ((95 == d) && _)) = false
      by_cases hc : c = 61
      · subst hc
        have hd : d ≠ 95 := by simpa using h1
        have : ((95 : UInt8) == d) = false := by simpa using fun e => hd e.symm
        rw [this]; simp
      · have : ((61 : UInt8) == c) = false := by simpa using fun e => hc e.symm
        rw [this]; rfl
theorem dg_ne (n : Nat) (h : n < 16) : Qp.dg n ≠ 95 ∧ Qp.dg n ≠ 61 := by
  have : ∀ k : Fin 16, Qp.dg k.val ≠ 95 ∧ Qp.dg k.val ≠ 61 := by decide +kernel
  exact this ⟨n, h⟩
theorem sf_code (c : UInt8) (r : Bs) : sf (Qp.code c r) = true := by
  rcases Qp.code_cases c r with ⟨_, e, h61, _⟩ | e
  · rw [e]
    have : c ≠ 61 := fun hh => h61 (by rw [hh]; rfl)
    simp [sf, okn, this]
  · rw [show Qp.code c r = [61, Qp.dg (c.toNat / 16), Qp.dg (c.toNat % 16)] from by first | exact e | exact e.1]
    have h8 := c.toNat_lt
    have ⟨a1, a2⟩ := dg_ne (c.toNat / 16) (by omega)
    have ⟨b1, b2⟩ := dg_ne (c.toNat % 16) (by omega)
    simp [sf, okn, a1, a2, b2]
theorem sf_enc : ∀ (b : Bs) (n : Nat), sf (Qp.enc n b) = true
  | [], n => by simp [Qp.enc, sf]
  | c :: r, n => by
    rw [Qp.enc]
    split
    · exact sf_app _ _ (by decide) (sf_enc r 0)
    · refine sf_app _ _ ?_ (sf_enc r _)
      unfold Qp.put
      split
      · exact sf_app _ _ (by decide) (sf_code c r)
      · exact sf_code c r
theorem fnd_enc (l : List Bs) : fnd (l.map (Qp.enc 0)) 0 = false := by
  unfold fnd
  rw [List.any_map, List.any_eq_false]
  intro b hb
  have := sf_cont (Go.Lib.decDigits 0) (Qp.enc 0 b) (sf_enc b 0)
  show ¬ Go.Lib.contains (Qp.enc 0 b) (bd 0) = true
  rw [show bd 0 = [61, 95] ++ Go.Lib.decDigits 0 from rfl, this]; simp
theorem bd0 : bd 0 = [61, 95, 48] := by
  unfold bd
  rw [dd_small (by omega)]; rfl
def ct : Bs := [67, 111, 110, 116, 101, 110, 116, 45, 84, 121, 112, 101]
def qpn : Bs := [113, 117, 111, 116, 101, 100, 45, 112, 114, 105, 110, 116, 97, 98, 108, 101]
theorem k2_eq : partr_k1 = parta_k2 := by decide +kernel
def hs2 (k : Bs) : List (Bs × Bs) := [(ct, k), (parta_k2, qpn)]
def hdr (k : Bs) : Bs := (allOf (hs2 k)).1
theorem hs2_in (k : Bs) (hk : k.length ≤ 600) : ∀ x ∈ hs2 k, x.1.length ≤ 100 ∧ x.2.length ≤ 600 := by
  have h2 : parta_k2.length = 25 := by decide +kernel
  intro x hx
  simp only [hs2, List.mem_cons, List.not_mem_nil, or_false] at hx
  rcases hx with rfl | rfl
  · exact ⟨by simp [ct], hk⟩
  · exact ⟨by rw [h2]; omega, by simp [qpn]⟩
theorem hdr_len (k : Bs) (hk : k.length ≤ 600) : (hdr k).length ≤ 4000 := by
  unfold hdr allOf
  have hf := Go.Hd.flat_len (hs2 k) (fun x hx => (hs2_in k hk x hx).2)
  cases h : (hs2 k).all Go.Hd.okX with
  | false => cases decide ((hs2 k).length ≤ 50) <;> simp
  | true =>
    have := hf h
    have h2 : (hs2 k).length = 2 := rfl
    cases decide ((hs2 k).length ≤ 50)
    · simp
    · rw [ctr, ctr]
      dsimp only
      simp only [List.length_append, List.length_cons, List.length_nil]
      omega
def one1 (x k c : Bs) : Bs := ([45, 45] ++ x ++ [13, 10]) ++ hdr k ++ c ++ [13, 10]
theorem put_eq1 (F : Nat) (hF : 900000 < F) (o x k c : Bs) (ho : o.length ≤ 10000000) (hx : x.length ≤ 1000000) (hk : k.length ≤ 600) (hc : c.length ≤ 10000000) : part_put F o x k c = some (o ++ one1 x k c) := by
  have hl := hdr_len k hk
  have hA := Go.Hd.All_eq F hF (hs2 k) (fun y hy => (hs2_in k hk y hy).2)
  unfold part_put part_put_j1
  have e : head_All F ([(([67, 111, 110, 116, 101, 110, 116, 45, 84, 121, 112, 101] : Bs), k), (parta_k2, ([113, 117, 111, 116, 101, 100, 45, 112, 114, 105, 110, 116, 97, 98, 108, 101] : Bs))] : List (Bs × Bs)) = some (hdr k, (allOf (hs2 k)).2) := hA
  rw [e, bnd2_some]
  simp (disch := (first | omega | (simp only [List.length_append, List.length_cons, List.length_nil]; omega))) only [grd_Cat, lt_eq]
  unfold one1
  simp
def endl (x : Bs) : Bs := [45, 45] ++ x ++ [45, 45] ++ [13, 10]
def body (x : Bs) : List Bs → List Bs → Bs
  | k :: ks, c :: cs => one1 x k c ++ body x ks cs
  | _, _ => []
theorem join_loop (F : Nat) (hF : 900000 < F) (ks cs : List Bs) (x : Bs) (hx : x.length ≤ 1000) (hl : ks.length = cs.length) (h8 : cs.length ≤ 8) (hk : ∀ k ∈ ks, k.length ≤ 600) (hc : ∀ c ∈ cs, c.length ≤ 600000) : ∀ (m i : Nat) (o : Bs), cs.length - i < m → i ≤ cs.length → o.length ≤ 610000 * i →
    part_Join_L1 F ks cs x m ((i : Int), o) = some (o ++ body x (ks.drop i) (cs.drop i) ++ endl x, x, 0) := by
  intro m
  induction m with
  | zero => intro i o h; omega
  | succ m ih =>
    intro i o hm hi ho
    show part_Join_B1 F ks cs x (part_Join_L1 F ks cs x m) (i : Int) o = _
    unfold part_Join_B1
    by_cases h : i < cs.length
    · have hd : cs.drop i = cs[i] :: cs.drop (i + 1) := List.drop_eq_getElem_cons h
      have hd2 : ks.drop i = ks[i]'(by omega) :: ks.drop (i + 1) := List.drop_eq_getElem_cons (by omega)
      have hkl := hk _ (List.getElem_mem (show i < ks.length by omega))
      have hcl := hc _ (List.getElem_mem h)
      have hh := hdr_len _ hkl
      have hol : (one1 x (ks[i]'(by omega)) cs[i]).length ≤ 610000 := by unfold one1; simp only [List.length_append, List.length_cons, List.length_nil]; omega
      rw [bT (by omega), grd_At (by omega), lt_eq, at_nat h, grd_At (by omega), lt_eq, at_nat (by omega), put_eq1 F hF o x _ _ (by omega) (by omega) hkl (by omega), bnd_some, grd_I (by omega), cast_succ, ih (i + 1) _ (by omega) (by omega) (by rw [List.length_append]; omega), hd, hd2, body]
      simp only [List.append_assoc]
    · rw [bF (by omega), List.drop_eq_nil_of_le (show cs.length ≤ i by omega)]
      have hb : body x (ks.drop i) [] = [] := by cases ks.drop i <;> rfl
      unfold part_Join_j1
      rw [hb]
      simp (disch := (first | omega | (simp only [List.length_append, List.length_cons, List.length_nil]; omega))) only [grd_Cat, lt_eq]
      unfold endl
      simp
def joinT (ks l : List Bs) : Bs := body (bd 0) ks (l.map (Qp.enc 0)) ++ endl (bd 0)
def okJ (ks l : List Bs) : Bool := (decide (ks.length = l.length) && (!decide (l.length = 0) && decide (l.length ≤ 8))) && ks.all kindB
def joinOf (ks l : List Bs) : Bs × Bs × Int := bif okJ ks l then (joinT ks l, bd 0, 0) else ([], [], 1)
theorem kindB_len {k : Bs} (h : kindB k = true) : k.length ≤ 60 := by
  unfold kindB at h
  simp only [Bool.and_eq_true, decide_eq_true_eq] at h
  exact h.1.2.2
theorem idxK_loop (F : Nat) (l : List Bs) (hl : l.length ≤ 1000000) (hb : ∀ b ∈ l, b.length ≤ 1000000 ∧ b.length < F) : ∀ (m i : Nat), l.length - i < m → i ≤ l.length →
    ∃ r : Int, part_IndexK_L1 F l m (i : Int) = some r ∧ decide (0 ≤ r) = !(l.drop i).all kindB := by
  intro m
  induction m with
  | zero => intro i h; omega
  | succ m ih =>
    intro i hm hi
    show ∃ r : Int, part_IndexK_B1 F l (part_IndexK_L1 F l m) (i : Int) = some r ∧ _
    unfold part_IndexK_B1 part_IndexK_j1 part_notC
    by_cases h : i < l.length
    · have hd : l.drop i = l[i] :: l.drop (i + 1) := List.drop_eq_getElem_cons h
      have ⟨h1, h2⟩ := hb _ (List.getElem_mem h)
      rw [bT (by omega), grd_At (by omega), lt_eq, at_nat h, kind_eq F _ h1 h2, bnd_some, bnd_some, hd, List.all_cons]
      cases hc : kindB l[i] with
      | false => exact ⟨(i : Int), rfl, by rw [decide_eq_true (by omega)]; rfl⟩
      | true =>
        obtain ⟨r, h1, h3⟩ := ih (i + 1) (by omega) (by omega)
        exact ⟨r, by rw [ntr, cfl, grd_I (by omega), cast_succ, h1], by rw [h3, tand]⟩
    · rw [bF (by omega), List.drop_eq_nil_of_le (by omega)]
      exact ⟨-1, rfl, rfl⟩
theorem ContainsK_eq (F : Nat) (l : List Bs) (hl : l.length ≤ 1000000) (hF : l.length < F) (hb : ∀ b ∈ l, b.length ≤ 1000000 ∧ b.length < F) : part_ContainsK F l = some (!l.all kindB) := by
  obtain ⟨r, h1, h3⟩ := idxK_loop F l hl hb F 0 (by omega) (by omega)
  rw [List.drop_zero] at h3
  unfold part_ContainsK
  have h1' : part_IndexK F l = some r := h1
  rw [h1', bnd_some, h3]
theorem encs_loop (F : Nat) (hF : 1000000 < F) (ks l : List Bs) (hl : l.length ≤ 8) (hb : ∀ b ∈ l, b.length ≤ 100000) : ∀ (m i : Nat) (cs : List Bs), l.length - i < m → i ≤ l.length → cs.length ≤ i →
    part_Join_L2 F ks l m (cs, (i : Int)) = part_Join_j2 F ks (cs ++ (l.drop i).map (Qp.enc 0)) := by
  intro m
  induction m with
  | zero => intro i cs h; omega
  | succ m ih =>
    intro i cs hm hi hc
    show part_Join_B2 F ks l (part_Join_L2 F ks l m) cs (i : Int) = _
    unfold part_Join_B2
    by_cases h : i < l.length
    · have hd : l.drop i = l[i] :: l.drop (i + 1) := List.drop_eq_getElem_cons h
      have := hb _ (List.getElem_mem h)
      rw [bT (by omega), grd_At (by omega), lt_eq, at_nat h, Encode_eq F _ (by omega) (by omega), bnd_some, grd_Cat (by simp; omega), lt_eq, grd_I (by omega), cast_succ, ih (i + 1) _ (by omega) (by omega) (by simp; omega), hd, List.map_cons, List.append_assoc]
      rfl
    · rw [bF (by omega), List.drop_eq_nil_of_le (by omega), List.map_nil, List.append_nil]
theorem enc_in (l : List Bs) (hb : ∀ b ∈ l, b.length ≤ 100000) : ∀ c ∈ l.map (Qp.enc 0), c.length ≤ 600000 := fun c hc => by
  obtain ⟨b, hb1, rfl⟩ := List.mem_map.1 hc
  have := Qp.enc_length b 0
  have := hb b hb1
  omega
theorem Join_eq (F : Nat) (hF : 1000000 < F) (ks l : List Bs) (hk : ∀ k ∈ ks, k.length ≤ 100000) (hb : ∀ b ∈ l, b.length ≤ 100000) : part_Join F ks l = some (joinOf ks l) := by
  unfold part_Join joinOf okJ
  have e1 : decide ((ks.length : Int) = (l.length : Int)) = decide (ks.length = l.length) := decide_eq_decide.2 (by omega)
  have e2 : decide ((l.length : Int) = 0) = decide (l.length = 0) := decide_eq_decide.2 (by omega)
  have e3 : decide (8 < (l.length : Int)) = !decide (l.length ≤ 8) := by
    by_cases h : l.length ≤ 8
    · rw [decide_eq_true h, decide_eq_false (by omega)]; rfl
    · rw [decide_eq_false h, decide_eq_true (by omega)]; rfl
  rw [e1, e2, e3]
  by_cases hc : ks.length = l.length ∧ l.length ≠ 0 ∧ l.length ≤ 8
  · rw [decide_eq_true hc.1, decide_eq_false hc.2.1, decide_eq_true hc.2.2]
    have hK := ContainsK_eq F ks (by omega) (by omega) (fun k h => by have := hk k h; omega)
    simp only [ntr, nfl, fo, tand]
    rw [bndc_t, hK, bnd_some]
    cases ha : ks.all kindB with
    | false => rfl
    | true =>
      rw [ntr, cfl, ctr]
      have h1 := encs_loop F hF ks l hc.2.2 hb F 0 [] (by omega) (by omega) (by simp)
      refine Eq.trans h1 ?_
      rw [List.nil_append, List.drop_zero]
      unfold part_Join_j2
      have hcs := enc_in l hb
      have hlen : (l.map (Qp.enc 0)).length = l.length := List.length_map _
      rw [Boundary_eq F _ (by omega) (by omega) (fun b hb => by have := hcs b hb; omega) 0 (by omega) (by omega) (fnd_enc l) (fun k h => by omega), bnd_some]
      have hkk : ∀ k ∈ ks, k.length ≤ 600 := fun k h => by have := kindB_len (List.all_eq_true.1 ha k h); omega
      have hb0 : (bd 0).length ≤ 1000 := by rw [bd0]; simp
      have h2 := join_loop F (by omega) ks (l.map (Qp.enc 0)) (bd 0) hb0 (by omega) (by omega) hkk hcs F 0 [] (by omega) (by omega) (by simp)
      refine Eq.trans h2 ?_
      rw [List.nil_append, List.drop_zero, List.drop_zero]; rfl
  · have hf : (decide (ks.length = l.length) && (!decide (l.length = 0) && decide (l.length ≤ 8))) = false := by
      by_cases h1 : ks.length = l.length
      · by_cases h2 : l.length = 0
        · rw [decide_eq_true h2]; simp
        · rw [decide_eq_false (show ¬ l.length ≤ 8 from fun h3 => hc ⟨h1, h2, h3⟩)]; simp
      · rw [decide_eq_false h1]; rfl
    have hg : (((!decide (ks.length = l.length)) || (decide (l.length = 0))) || (!decide (l.length ≤ 8))) = true := by
      have : (((!decide (ks.length = l.length)) || (decide (l.length = 0))) || (!decide (l.length ≤ 8))) = !(decide (ks.length = l.length) && (!decide (l.length = 0) && decide (l.length ≤ 8))) := by
        cases decide (ks.length = l.length) <;> cases decide (l.length = 0) <;> cases decide (l.length ≤ 8) <;> rfl
      rw [this, hf]; rfl
    rw [hg, hf, ntr, bndc_f, Bool.true_or, ctr, fand, cfl]
end Go.Pt
namespace Go.Pt
open Go.Pv Go.Av
open Go.Hd (fand tand nfl ntr cfl ctr Bs)
theorem few_in (l : List Bs) (hl : l.length ≤ 10) : ∀ (n i : Nat), l.length - i < n → i ≤ l.length → ∃ b, law15_Few_L1 l n (i : Int) = some b ∧ (b = true → ∀ x ∈ l.drop i, x.length ≤ 300) := by
  intro n
  induction n with
  | zero => intro i h; omega
  | succ n ih =>
    intro i hn hi
    show ∃ b, law15_Few_B1 l (law15_Few_L1 l n) (i : Int) = some b ∧ _
    unfold law15_Few_B1 law15_Few_j1
    by_cases h : i < l.length
    · obtain ⟨b, h1, h2⟩ := ih (i + 1) (by omega) (by omega)
      rw [bT (by omega), grd_At (by omega), lt_eq, at_nat h, List.drop_eq_getElem_cons h]
      by_cases hc : 300 < (l[i].length : Int)
      · rw [bT hc]; exact ⟨false, rfl, fun h => by cases h⟩
      · rw [bF hc]
        refine ⟨b, by rw [grd_I (by omega), cast_succ, h1], fun hb x hx => ?_⟩
        rcases List.mem_cons.1 hx with rfl | hx
        · omega
        · exact h2 hb x hx
    · rw [bF (by omega), List.drop_eq_nil_of_le (by omega)]
      exact ⟨true, rfl, fun _ x hx => by cases hx⟩
theorem few_out (F : Nat) (hF : 100 < F) (k l : List Bs) (hk : k.length ≤ 10) (hl : l.length ≤ 10) : ∀ (n i : Nat), k.length - i < n → i ≤ k.length → ∃ b, law15_Few_L2 F k l n (i : Int) = some b ∧ (b = true → (∀ x ∈ k.drop i, x.length ≤ 100) ∧ ∀ x ∈ l, x.length ≤ 300) := by
  intro n
  induction n with
  | zero => intro i h; omega
  | succ n ih =>
    intro i hn hi
    show ∃ b, law15_Few_B2 F k l (law15_Few_L2 F k l n) (i : Int) = some b ∧ _
    unfold law15_Few_B2 law15_Few_j2
    by_cases h : i < k.length
    · obtain ⟨b, h1, h2⟩ := ih (i + 1) (by omega) (by omega)
      rw [bT (by omega), grd_At (by omega), lt_eq, at_nat h, List.drop_eq_getElem_cons h]
      by_cases hc : 100 < (k[i].length : Int)
      · rw [bT hc]; exact ⟨false, rfl, fun h => by cases h⟩
      · rw [bF hc]
        refine ⟨b, by rw [grd_I (by omega), cast_succ, h1], fun hb => ⟨fun x hx => ?_, (h2 hb).2⟩⟩
        rcases List.mem_cons.1 hx with rfl | hx
        · omega
        · exact (h2 hb).1 x hx
    · rw [bF (by omega), List.drop_eq_nil_of_le (by omega)]
      obtain ⟨b, h1, h2⟩ := few_in l hl F 0 (by omega) (by omega)
      rw [List.drop_zero] at h2
      exact ⟨b, h1, fun hb => ⟨fun x hx => (by cases hx), h2 hb⟩⟩
theorem Few_eq (F : Nat) (hF : 100 < F) (k l : List Bs) : ∃ b, law15_Few F k l = some b ∧ (b = true → (k.length ≤ 10 ∧ l.length ≤ 10) ∧ (∀ x ∈ k, x.length ≤ 100) ∧ ∀ x ∈ l, x.length ≤ 300) := by
  unfold law15_Few
  by_cases h : k.length ≤ 10 ∧ l.length ≤ 10
  · obtain ⟨b, h1, h2⟩ := few_out F hF k l h.1 h.2 F 0 (by omega) (by omega)
    rw [decide_eq_false (show ¬ 10 < (k.length : Int) by omega), decide_eq_false (show ¬ 10 < (l.length : Int) by omega), fo, cfl]
    rw [List.drop_zero] at h2
    exact ⟨b, h1, fun hb => ⟨h, h2 hb⟩⟩
  · have : ((decide (10 < (k.length : Int))) || (decide (10 < (l.length : Int)))) = true := by
      simp only [Bool.or_eq_true, decide_eq_true_eq]; omega
    rw [this, ctr]
    exact ⟨false, rfl, fun h => by cases h⟩
end Go.Pt
namespace Go.Pt
open Go.Pv Go.Av
open Go.Hd (fand tand nfl ntr cfl ctr bq of_all8 Bs contains_cons allOf)
theorem headers_eq (F : Nat) (hF : 900000 < F) (k : Bs) (hk : k.length ≤ 600) : ref15_headers F k = some (hdr k) := by
  unfold ref15_headers
  have hA := Go.Hd.rAll_eq F hF (hs2 k) (hs2_in k hk)
  have e : ref14_All F ([(([67, 111, 110, 116, 101, 110, 116, 45, 84, 121, 112, 101] : Bs), k), (partr_k1, ([113, 117, 111, 116, 101, 100, 45, 112, 114, 105, 110, 116, 97, 98, 108, 101] : Bs))] : List (Bs × Bs)) = some (hdr k, (allOf (hs2 k)).2) := by rw [k2_eq]; exact hA
  rw [e, bnd2_some]
theorem rjoin_loop (F : Nat) (hF : 900000 < F) (ks l cs : List Bs) (x : Bs) (hx : x.length ≤ 1000) (hl : ks.length = cs.length) (hll : l.length = cs.length) (h8 : cs.length ≤ 8) (hk : ∀ k ∈ ks, k.length ≤ 600) (hc : ∀ c ∈ cs, c.length ≤ 600000) : ∀ (m i : Nat) (o : Bs), cs.length - i < m → i ≤ cs.length → o.length ≤ 610000 * i →
    ref15_Join_L1 F ks l cs x m (o, (i : Int)) = some (o ++ body x (ks.drop i) (cs.drop i) ++ endl x, x, 0) := by
  intro m
  induction m with
  | zero => intro i o h; omega
  | succ m ih =>
    intro i o hm hi ho
    show ref15_Join_B1 F ks l cs x (ref15_Join_L1 F ks l cs x m) o (i : Int) = _
    unfold ref15_Join_B1
    by_cases h : i < cs.length
    · have hd : cs.drop i = cs[i] :: cs.drop (i + 1) := List.drop_eq_getElem_cons h
      have hd2 : ks.drop i = ks[i]'(by omega) :: ks.drop (i + 1) := List.drop_eq_getElem_cons (by omega)
      have hkl := hk _ (List.getElem_mem (show i < ks.length by omega))
      have hcl := hc _ (List.getElem_mem h)
      have hh := hdr_len _ hkl
      have hol : (one1 x (ks[i]'(by omega)) cs[i]).length ≤ 610000 := by unfold one1; simp only [List.length_append, List.length_cons, List.length_nil]; omega
      have key : ref15_Join_L1 F ks l cs x m (o ++ one1 x (ks[i]'(by omega)) cs[i], ((i + 1 : Nat) : Int)) = some (o ++ body x (ks.drop i) (cs.drop i) ++ endl x, x, 0) := by
        rw [ih (i + 1) _ (by omega) (by omega) (by rw [List.length_append]; omega), hd, hd2, body]
        simp only [List.append_assoc]
      have hA2 : ∀ q : Option (Bs × Bs × Int), grd (okAt (i : Int) ks.length) q = q := fun q => grd_At (by omega)
      rw [bT (by omega)]
      simp (disch := (first | omega | (simp only [List.length_append, List.length_cons, List.length_nil]; omega))) only [grd_Cat, lt_eq, hA2, at_nat (show i < ks.length by omega), headers_eq F hF _ hkl, bnd_some, grd_At, at_nat h, grd_I, cast_succ]
      refine Eq.trans ?_ key
      unfold one1
      simp only [List.append_assoc]
    · rw [bF (by omega), List.drop_eq_nil_of_le (show cs.length ≤ i by omega)]
      have hb : body x (ks.drop i) [] = [] := by cases ks.drop i <;> rfl
      unfold ref15_Join_j1
      rw [hb]
      simp (disch := (first | omega | (simp only [List.length_append, List.length_cons, List.length_nil]; omega))) only [grd_Cat, lt_eq]
      unfold endl
      simp
theorem rencs_loop (F : Nat) (hF : 1000000 < F) (ks l : List Bs) (hkl : ks.length = l.length) (hl : l.length ≤ 8) (hk : ∀ k ∈ ks, k.length ≤ 100000) (hb : ∀ b ∈ l, b.length ≤ 100000) : ∀ (m i : Nat) (cs : List Bs), l.length - i < m → i ≤ l.length → cs.length ≤ i →
    ref15_Join_L2 F ks l m (cs, (i : Int)) = bif (ks.drop i).all kindB then ref15_Join_j2 F ks l (cs ++ (l.drop i).map (Qp.enc 0)) else some ([], [], 1) := by
  intro m
  induction m with
  | zero => intro i cs h; omega
  | succ m ih =>
    intro i cs hm hi hc
    show ref15_Join_B2 F ks l (ref15_Join_L2 F ks l m) cs (i : Int) = _
    unfold ref15_Join_B2
    by_cases h : i < l.length
    · have hd : l.drop i = l[i] :: l.drop (i + 1) := List.drop_eq_getElem_cons h
      have hd2 : ks.drop i = ks[i]'(by omega) :: ks.drop (i + 1) := List.drop_eq_getElem_cons (by omega)
      have hbl := hb _ (List.getElem_mem h)
      have hkk := hk _ (List.getElem_mem (show i < ks.length by omega))
      rw [bT (by omega), grd_At (by omega), lt_eq, at_nat (by omega), rKind_eq F _ (by omega) (by omega), bnd_some, hd2, List.all_cons]
      cases hkb : kindB (ks[i]'(by omega)) with
      | false => rw [nfl, ctr, fand, cfl]
      | true =>
        rw [ntr, cfl, tand, grd_At (by omega), lt_eq, at_nat h, rEncode_eq F _ (by omega) (by omega), bnd_some, grd_Cat (by simp; omega), lt_eq, grd_I (by omega), cast_succ, ih (i + 1) _ (by omega) (by omega) (by simp; omega), hd, List.map_cons, List.append_assoc]
        rfl
    · rw [bF (by omega), List.drop_eq_nil_of_le (show l.length ≤ i by omega), List.drop_eq_nil_of_le (show ks.length ≤ i by omega), List.map_nil, List.append_nil, List.all_nil, ctr]
theorem rJoin_eq (F : Nat) (hF : 1000000 < F) (ks l : List Bs) (hk : ∀ k ∈ ks, k.length ≤ 100000) (hb : ∀ b ∈ l, b.length ≤ 100000) : ref15_Join F ks l = some (joinOf ks l) := by
  unfold ref15_Join joinOf okJ
  have e1 : decide ((ks.length : Int) = (l.length : Int)) = decide (ks.length = l.length) := decide_eq_decide.2 (by omega)
  have e2 : decide ((l.length : Int) < 1) = decide (l.length = 0) := decide_eq_decide.2 (by omega)
  have e3 : decide (8 < (l.length : Int)) = !decide (l.length ≤ 8) := by
    by_cases h : l.length ≤ 8
    · rw [decide_eq_true h, decide_eq_false (by omega)]; rfl
    · rw [decide_eq_false h, decide_eq_true (by omega)]; rfl
  rw [e1, e2, e3]
  by_cases hc : ks.length = l.length ∧ l.length ≠ 0 ∧ l.length ≤ 8
  · rw [decide_eq_true hc.1, decide_eq_false hc.2.1, decide_eq_true hc.2.2]
    simp only [ntr, nfl, fo, tand, cfl]
    have h1 := rencs_loop F hF ks l hc.1 hc.2.2 hk hb F 0 [] (by omega) (by omega) (by simp)
    refine Eq.trans h1 ?_
    rw [List.nil_append, List.drop_zero, List.drop_zero]
    cases ha : ks.all kindB with
    | false => rw [cfl, cfl]
    | true =>
      rw [ctr, ctr]
      unfold ref15_Join_j2
      have hcs := enc_in l hb
      have hlen : (l.map (Qp.enc 0)).length = l.length := List.length_map _
      rw [rBoundary_eq F _ (by omega) (by omega) (fun b hb => by have := hcs b hb; omega) (fun b hb => by have := hcs b hb; omega) 0 (by omega) (by omega) (fnd_enc l) (fun k h => by omega), bnd_some]
      have hkk : ∀ k ∈ ks, k.length ≤ 600 := fun k h => by have := kindB_len (List.all_eq_true.1 ha k h); omega
      have hb0 : (bd 0).length ≤ 1000 := by rw [bd0]; simp
      have h2 := rjoin_loop F (by omega) ks l (l.map (Qp.enc 0)) (bd 0) hb0 (by omega) (by omega) (by omega) hkk hcs F 0 [] (by omega) (by omega) (by simp)
      refine Eq.trans h2 ?_
      rw [List.nil_append, List.drop_zero, List.drop_zero]; rfl
  · have hf : (decide (ks.length = l.length) && (!decide (l.length = 0) && decide (l.length ≤ 8))) = false := by
      by_cases h1 : ks.length = l.length
      · by_cases h2 : l.length = 0
        · rw [decide_eq_true h2]; simp
        · rw [decide_eq_false (show ¬ l.length ≤ 8 from fun h3 => hc ⟨h1, h2, h3⟩)]; simp
      · rw [decide_eq_false h1]; rfl
    have hg : (((!decide (ks.length = l.length)) || (decide (l.length = 0))) || (!decide (l.length ≤ 8))) = true := by
      have : (((!decide (ks.length = l.length)) || (decide (l.length = 0))) || (!decide (l.length ≤ 8))) = !(decide (ks.length = l.length) && (!decide (l.length = 0) && decide (l.length ≤ 8))) := by
        cases decide (ks.length = l.length) <;> cases decide (l.length = 0) <;> cases decide (l.length ≤ 8) <;> rfl
      rw [this, hf]; rfl
    rw [hg, hf, ctr, fand, cfl]
theorem PartJoins_F (F : Nat) (hF : 1000000 < F) (hw : law15_awake F = some true) (ks l : List Bs) : law15_PartJoins F ks l = some true := by
  unfold law15_PartJoins
  obtain ⟨f, h1, h2⟩ := Few_eq F (by omega) ks l
  rw [hw, bnd_some, h1, bnd_some]
  cases f with
  | false => rfl
  | true =>
    obtain ⟨⟨hkl, hl⟩, hk, hb⟩ := h2 rfl
    obtain ⟨n, _, hn, h0⟩ := exists_free l hl hb
    obtain ⟨N, hN, h0, hkk⟩ := least (fnd l) n h0
    have hb1 : ∀ b ∈ l, b.length ≤ 100000 := fun b h => by have := hb b h; omega
    have hk1 : ∀ b ∈ ks, b.length ≤ 100000 := fun b h => by have := hk b h; omega
    rw [ntr, fo, cfl, Join_eq F hF ks l hk1 hb1, rJoin_eq F hF ks l hk1 hb1, Boundary_eq F l (by omega) (by omega) (fun b h => by have := hb b h; omega) N (by omega) (by omega) h0 hkk, rBoundary_eq F l (by omega) (by omega) (fun b h => by have := hb b h; omega) (fun b h => by have := hb b h; omega) N (by omega) (by omega) h0 hkk]
    rw [show joinOf ks l = ((joinOf ks l).1, (joinOf ks l).2.1, (joinOf ks l).2.2) from rfl, bnd3_some, bnd3_some, bndc_some, bndc_some, decide_eq_true rfl, decide_eq_true rfl, decide_eq_true rfl]
    simp
theorem awake_eq2 : law15_awake 2000000 = some true := by decide +kernel
theorem PartJoins_t (ks l : List Bs) : law15_PartJoins 2000000 ks l = some true := PartJoins_F 2000000 (by omega) awake_eq2 ks l
end Go.Pt
namespace Go.Av
open Go.RowKit Go.ChangeShapes Go.WideShapes
section
variable {H : Type} {enc : TypeId × Value → H} {P : Program} {w : World}
def Opens {H : Type} (enc : TypeId × Value → H) (P : Program) (w : World) (t : TypeId) {α : Type} (E : α → List AV) (p : α → Prop) : Prop :=
  ∀ fuel cs d, DataW.trod enc P w 0 (fun _ => true) true fuel t cs = some d → ∃ x, p x ∧ RelL (Info.start w) w (E x) cs
theorem opens_bytes {t e : TypeId} (ht : P.underlying t = some (.slice e)) (he : P.underlying e = some (.int .u8)) (hc : P.cellsOf e = 1) :
    Opens enc P w t (fun l : List UInt8 => [slE Enc.byte l none]) (fun l => l.length ≤ maxLen) := by
  intro fuel cs d h
  rcases open_ints ht he hc h with ⟨rfl, _⟩ | ⟨x, len, cap, zs, rfl, _, hl, hm, hz, _, hcell, hw⟩
  · exact ⟨[], by simp, .cons (.slz _ _ _) .nil⟩
  · simp only [if_true] at hz
    obtain ⟨l, hl', hm', r⟩ := rel_bytes (w := w) (a := some x) (len := len) (cap := cap) (zs := zs) (.inr ⟨x, rfl, hl, hm, hz, hcell, hw⟩)
    exact ⟨l, by omega, .cons r .nil⟩
theorem opens_strs {t e : TypeId} (ht : P.underlying t = some (.slice e)) (he : P.underlying e = some .string) (hc : P.cellsOf e = 1) :
    Opens enc P w t (fun l : List (List UInt8) => [slE Enc.str l none]) (fun l => l.length ≤ maxLen ∧ ∀ s ∈ l, s.length ≤ maxLen) := by
  intro fuel cs d h
  rcases open_strings ht he hc h with ⟨rfl, _⟩ | ⟨x, len, cap, zs, rfl, _, hl, hm, hz, _, hcell, hw⟩
  · exact ⟨[], ⟨by simp, by simp⟩, .cons (.slz _ _ _) .nil⟩
  · simp only [if_true] at hz
    have hll : ((zs.take len).map fun s => s.data.toList).length = len := by simp; omega
    refine ⟨(zs.take len).map fun s => s.data.toList, ⟨by rw [hll]; omega, fun n hn => ?_⟩, .cons ?_ .nil⟩
    · obtain ⟨s, hs, rfl⟩ := List.mem_map.1 hn
      simpa using hw s (List.mem_of_mem_take hs)
    have := rel_row (w := w) Enc.str (fun s => .string ⟨s.toArray⟩) (fun _ => rfl) ((zs.take len).map fun s => s.data.toList) x cap (by omega) (fun i hi => by
      rw [hll] at hi
      rw [hcell i (by omega)]
      simp [List.getD, show i < zs.length by omega])
    rw [hll] at this
    exact this
theorem add_add (a : Addr) (m r : Nat) : (a.add m).add r = a.add (m + r) := by
  unfold Addr.add
  by_cases hm : m = 0
  · subst hm; simp
  · by_cases hr : r = 0
    · subst hr; simp
    · simp [hm, hr, Nat.add_assoc]
theorem opens_slice {t e : TypeId} {α β : Type} {E : α → List AV} {p : α → Prop} (G : Enc β) (g : α → β) (ht : P.underlying t = some (.slice e)) (hc : P.cellsOf e = G.k)
    (h : Opens enc P w e E p) (hg : ∀ x, E x = G.f (g x)) : Opens enc P w t (fun l : List β => [slE G l none]) (fun l => l.length ≤ maxLen ∧ ∀ y ∈ l, ∃ x, g x = y ∧ p x) := by
  intro fuel cs d hd
  rcases DataW.trod_slice ht hd with ⟨rfl, _⟩ | ⟨a, len, cap, elems, rest, n, _, rfl, _, _, hl, hm, hlen, hel, _, _⟩
  · exact ⟨[], ⟨by simp, by simp⟩, .cons (.slz _ _ _) .nil⟩
  · have go : ∀ r i, i + r = len → ∃ (l : List β) (vs : List Value), (l.length = r ∧ ∀ y ∈ l, ∃ x, g x = y ∧ p x) ∧ RelL (Info.start w) w (G.fl l) vs ∧ ∀ j, j < vs.length → w.cell? (a.add (i * G.k + j)) = vs[j]? := by
      intro r
      induction r with
      | zero => intro i hi; exact ⟨[], [], ⟨rfl, by simp⟩, .nil, fun j hj => by simp at hj⟩
      | succ r ih =>
        intro i hi
        have hb := hel i (by omega)
        rw [List.getElem?_eq_getElem (by omega), Option.bind_eq_some_iff] at hb
        obtain ⟨cs', hcs, hy⟩ := hb
        rw [hc] at hcs
        obtain ⟨_, hcl, hce⟩ := World.cells?_some hcs
        obtain ⟨x, hx, rx⟩ := h _ _ _ hy
        rw [hg] at rx
        obtain ⟨l, vs, ⟨l1, l2⟩, rl, hv⟩ := ih (i + 1) (by omega)
        refine ⟨g x :: l, cs' ++ vs, ⟨by simp [l1], fun y hy => ?_⟩, by rw [G.fl_cons]; exact rx.append rl, fun j hj => ?_⟩
        · rcases List.mem_cons.1 hy with rfl | hy
          · exact ⟨x, rfl, hx⟩
          · exact l2 y hy
        · by_cases hjk : j < G.k
          · have := hce j hjk
            rw [add_add] at this
            rw [this, List.getElem?_append_left (by omega)]
          · have := hv (j - G.k) (by simp at hj; omega)
            rw [List.getElem?_append_right (by omega), hcl, ← this, Nat.succ_mul]
            congr 2; omega
    obtain ⟨l, vs, ⟨l1, l2⟩, rl, hv⟩ := go len 0 (by omega)
    refine ⟨l, ⟨by omega, l2⟩, .cons ?_ .nil⟩
    by_cases h0 : l = []
    · subst h0
      simp at l1
      subst l1
      exact .slz _ _ _
    · have hlp := List.length_pos_iff.2 h0
      have hvl : vs.length = len * G.k := by rw [rl.1, G.fl_length, l1]
      have hpos := G.pos
      have hv0 : 0 < vs.length := by rw [hvl]; exact Nat.mul_pos (by omega) hpos
      have hx0 := hv 0 hv0
      rw [List.getElem?_eq_getElem hv0, Nat.zero_mul] at hx0
      obtain ⟨hb, hs⟩ := cell_lt hx0
      have hx : a = ⟨a.block, a.off, none⟩ := by
        have : a.add (0 + 0) = a := rfl
        rw [this] at hs
        cases a; simp at hs; subst hs; rfl
      have hb' : a.block < w.heap.size := hb
      rw [hx]
      have hadd : ∀ i, w.cell? ⟨a.block, a.off + i, none⟩ = w.cell? (a.add i) := fun i => by
        unfold Addr.add
        by_cases h : i = 0
        · rw [if_pos h]; subst h; rw [Nat.add_zero, ← hx]
        · rw [if_neg h]
      unfold slE
      have hfl : (G.fl l).length = vs.length := rl.1.symm
      refine .sl G.k (G.fl l) none a.block a.off len cap (fun j => vs.getD j undef) G.pos (by rw [hfl, hvl]) hl (stab_start hb') ?_ ?_ (fun _ h => by cases h)
      · intro j hj
        have := hv j (by omega)
        rw [Nat.zero_mul, Nat.zero_add] at this
        rw [hadd j, this, List.getElem?_eq_getElem (by omega)]
        simp [List.getD, show j < vs.length by omega]
      · intro j hj
        have := rl.2 j hj
        simpa [List.getD, show j < vs.length by omega] using this
theorem one_of {t : TypeId} {v : Value} {d : DataW H} {ps : List MemPlace} {α : Type} {E : α → AV} {p : α → Prop} (hv : v.cells = #[v]) (hd : DataW.Trod enc P w 0 (fun _ => true) true t v d ps) (h : Opens enc P w t (fun x => [E x]) p) :
    ∃ x, p x ∧ Rel (Info.start w) w (E x) v := by
  obtain ⟨fuel, hf⟩ := hd
  obtain ⟨x, hx, rx⟩ := h _ _ _ hf
  rw [hv] at rx
  exact ⟨x, hx, rx.head⟩
end
end Go.Av
