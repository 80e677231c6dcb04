/-
  Where one of several bytes stands: what is run is what the plain functions say. Printed by a program of ours.
-/
import Derived.Test.YtjhlnhipjomdeaaGreatDoorAvE
import Derived.Test.YtjhlnhipjomdeaaGreatDoorPvLib
import Derived.Test.YtjhlnhipjomdeaaGreatDoorP11Join
import Derived.Test.YtjhlnhipjomdeaaGreatDoorShelf
import Derived.Lib.ItoaNum
import Derived.Test.YtjhlnhipjomdeaaGreatDoorAvStill
import Derived.Test.YtjhlnhipjomdeaaGreatDoorAvSync
import Derived.Test.YtjhlnhipjomdeaaGreatDoorChecked
import Derived.Test.YtjhlnhipjomdeaaGreatDoorLibLW
import Derived.Test.YtjhlnhipjomdeaaGreatDoorAnyP
import Derived.Below
set_option linter.unusedVariables false
set_option linter.unusedSimpArgs false
namespace Go.Proofs.YtjhlnhipjomdeaaGreatDoor
open Go.RowKit Go.Av Go.Pv
theorem en28_any : ∀ (args : Array Value) (w : World), (callFunc 28 args).run Tryz.prog w = .ok (.enter 28 args) w := fun _ _ => by kernel_rfl
theorem en39_any : ∀ (args : Array Value) (w : World), (callFunc 39 args).run Tryz.prog w = .ok (.enter 39 args) w := fun _ _ => by kernel_rfl
theorem en48_any : ∀ (args : Array Value) (w : World), (callFunc 48 args).run Tryz.prog w = .ok (.enter 48 args) w := fun _ _ => by kernel_rfl
theorem en49_any : ∀ (args : Array Value) (w : World), (callFunc 49 args).run Tryz.prog w = .ok (.enter 49 args) w := fun _ _ => by kernel_rfl
theorem en63_any : ∀ (args : Array Value) (w : World), (callFunc 63 args).run Tryz.prog w = .ok (.enter 63 args) w := fun _ _ => by kernel_rfl
set_option maxRecDepth 100000 in
set_option maxHeartbeats 1000000 in
theorem w_ValidRune (F : Nat) (a1 : Int) (r2 : Bool) (H : ValidRune F a1 = some r2) : ACalls Tryz.prog 63 [.v (.int .i32 a1)] [] (Ret (B r2) []) := by
 unfold ValidRune at H
 refine ACalls.of_body Tryz.func63 rfl rfl ?_
 show AW _ _ 17 _ _ _
 refine AW.seq ?_
 refine AW.region ?_
 show AR _ _ _ _ _ [0] _
 refine sS rfl rfl rfl (asg rfl) ?_
 refine AR.nil ?_
 show AW _ _ _ _ _ _
 refine AW.seq ?_
 refine AW.block ?_
 refine AW.seq ?_
 refine AW.region ?_
 show AR _ _ _ _ _ [0, 1, 2, 3, 4, 5, 6] _
 refine sS rfl rfl rfl (mv rfl) ?_
 refine sS rfl rfl rfl (opS_le rfl rfl) ?_
 refine sS rfl rfl rfl (mv rfl) ?_
 refine AR.meet (l := [6]) 9 (B ((decide (0 ≤ a1)) && (decide (a1 < 55296)))) (fun K => ?_) ?_
 ·rcases Bool.eq_false_or_eq_true (decide (0 ≤ a1)) with h3 | h3
  ·
   refine gT h3 rfl rfl rfl rfl rfl rfl (AO.ops rfl rfl (mv rfl) ?_)
   refine gT h3 rfl rfl rfl rfl rfl rfl (AO.ops rfl rfl (opS_lt rfl rfl) ?_)
   refine sS rfl rfl rfl (opS_pick_t (av := .v _) rfl h3 rfl) ?_
   exact K _ 2 _ (B_congr (and_t h3)) rfl rfl
  ·
   refine gF h3 rfl rfl rfl rfl rfl ?_
   refine gF h3 rfl rfl rfl rfl rfl ?_
   refine sS rfl rfl rfl (opS_pick_f (av := .v _) rfl h3 rfl) ?_
   exact K _ 2 _ (B_congr (and_f h3)) rfl rfl
 refine sS rfl rfl rfl (asg rfl) ?_
 refine AR.nil ?_
 show AW _ _ _ _ _ _
 refine AW.cond rfl (fun c4 => ?_) (fun c4 => ?_)
 ·replace H := cnd_t c4 H
  refine AW.seq ?_
  refine AW.region ?_
  show AR _ _ _ _ _ [0] _
  refine sS rfl rfl rfl (asg rfl) ?_
  refine AR.nil ?_
  show AW _ _ _ _ _ _
  refine AW.ret ?_
  obtain rfl := Option.some.inj H
  exact And.intro rfl (Exists.intro _ (Exists.intro _ ⟨ResV.oneW rfl (.refl _), Sub.at [] rfl, rfl, rfl⟩))
 ·replace H := cnd_f c4 H
  refine AW.seq ?_
  refine AW.region ?_
  show AR _ _ _ _ _ [0, 1, 2, 3, 4, 5, 6] _
  refine sS rfl rfl rfl (mv rfl) ?_
  refine sS rfl rfl rfl (opS_lt rfl rfl) ?_
  refine sS rfl rfl rfl (mv rfl) ?_
  refine AR.meet (l := [6]) 16 (B ((decide (57343 < a1)) && (decide (a1 ≤ 1114111)))) (fun K => ?_) ?_
  ·rcases Bool.eq_false_or_eq_true (decide (57343 < a1)) with h5 | h5
   ·
    refine gT h5 rfl rfl rfl rfl rfl rfl (AO.ops rfl rfl (mv rfl) ?_)
    refine gT h5 rfl rfl rfl rfl rfl rfl (AO.ops rfl rfl (opS_le rfl rfl) ?_)
    refine sS rfl rfl rfl (opS_pick_t (av := .v _) rfl h5 rfl) ?_
    exact K _ 2 _ (B_congr (and_t h5)) rfl rfl
   ·
    refine gF h5 rfl rfl rfl rfl rfl ?_
    refine gF h5 rfl rfl rfl rfl rfl ?_
    refine sS rfl rfl rfl (opS_pick_f (av := .v _) rfl h5 rfl) ?_
    exact K _ 2 _ (B_congr (and_f h5)) rfl rfl
  refine sS rfl rfl rfl (asg rfl) ?_
  refine AR.nil ?_
  show AW _ _ _ _ _ _
  refine AW.cond rfl (fun c6 => ?_) (fun c6 => ?_)
  ·replace H := cnd_t c6 H
   refine AW.seq ?_
   refine AW.region ?_
   show AR _ _ _ _ _ [0] _
   refine sS rfl rfl rfl (asg rfl) ?_
   refine AR.nil ?_
   show AW _ _ _ _ _ _
   refine AW.ret ?_
   obtain rfl := Option.some.inj H
   exact And.intro rfl (Exists.intro _ (Exists.intro _ ⟨ResV.oneW rfl (.refl _), Sub.at [] rfl, rfl, rfl⟩))
  ·replace H := cnd_f c6 H
   refine AW.skip ?_
   show AW _ _ _ _ _ _
   refine AW.seq ?_
   refine AW.region ?_
   show AR _ _ _ _ _ [0] _
   refine sS rfl rfl rfl (asg rfl) ?_
   refine AR.nil ?_
   show AW _ _ _ _ _ _
   refine AW.ret ?_
   obtain rfl := Option.some.inj H
   exact And.intro rfl (Exists.intro _ (Exists.intro _ ⟨ResV.oneW rfl (.refl _), Sub.at [] rfl, rfl, rfl⟩))
set_option maxRecDepth 100000 in
set_option maxHeartbeats 1000000 in
theorem w_idxRune (F : Nat) (a1 : List UInt8) (a2 : Int) (r3 : Int) (H : idxRune F a1 a2 = some r3) : ACalls Tryz.prog 48 [S a1, .v (.int .i32 a2)] [] (Ret (i64 r3) []) := by
 unfold idxRune at H
 refine ACalls.of_body Tryz.func48 rfl rfl ?_
 show AW _ _ 187 _ _ _
 refine AW.seq ?_
 refine AW.region ?_
 show AR _ _ _ _ _ [0] _
 refine sS rfl rfl rfl (asg rfl) ?_
 refine AR.nil ?_
 show AW _ _ _ _ _ _
 refine AW.block ?_
 refine AW.seq ?_
 refine AW.region ?_
 show AR _ _ _ _ _ [0, 1, 2, 3, 4, 5, 6] _
 refine sS rfl rfl rfl (mv rfl) ?_
 refine sS rfl rfl rfl (opS_le rfl rfl) ?_
 refine sS rfl rfl rfl (mv rfl) ?_
 refine AR.meet (l := [6]) 166 (B ((decide (0 ≤ a2)) && (decide (a2 < 128)))) (fun K => ?_) ?_
 ·rcases Bool.eq_false_or_eq_true (decide (0 ≤ a2)) with h4 | h4
  ·
   refine gT h4 rfl rfl rfl rfl rfl rfl (AO.ops rfl rfl (mv rfl) ?_)
   refine gT h4 rfl rfl rfl rfl rfl rfl (AO.ops rfl rfl (opS_lt rfl rfl) ?_)
   refine sS rfl rfl rfl (opS_pick_t (av := .v _) rfl h4 rfl) ?_
   exact K _ 2 _ (B_congr (and_t h4)) rfl rfl
  ·
   refine gF h4 rfl rfl rfl rfl rfl ?_
   refine gF h4 rfl rfl rfl rfl rfl ?_
   refine sS rfl rfl rfl (opS_pick_f (av := .v _) rfl h4 rfl) ?_
   exact K _ 2 _ (B_congr (and_f h4)) rfl rfl
 refine sS rfl rfl rfl (asg rfl) ?_
 refine AR.nil ?_
 show AW _ _ _ _ _ _
 refine AW.cond rfl (fun c5 => ?_) (fun c5 => ?_)
 ·replace H := cnd_t c5 H
  refine AW.seq ?_
  obtain ⟨x6, e7, H⟩ := lt_s H
  refine AW.region ?_
  show AR _ _ _ _ _ [0, 1, 2, 3, 4] _
  refine sS rfl rfl rfl (mv rfl) ?_
  refine sS rfl rfl rfl (mv rfl) ?_
  refine sS rfl rfl rfl (g_conv_to8 (by kernel_rfl) Tryz.underlying5 rfl) ?_
  refine AR.run rfl rfl (AO.callp rfl en28_any rfl (show ACalls _ _ _ [] (Ret (i64 x6) []) from by subst e7; exact lib_IndexByte a1 (Go.Av.toB a2)) ?_)
  refine sS rfl rfl rfl (asg rfl) ?_
  refine AR.nil ?_
  show AW _ _ _ _ _ _
  refine AW.ret ?_
  obtain rfl := Option.some.inj H
  exact And.intro rfl (Exists.intro _ (Exists.intro _ ⟨ResV.oneW rfl (.refl _), Sub.at [] rfl, rfl, rfl⟩))
 ·replace H := cnd_f c5 H
  refine AW.seq ?_
  refine AW.region ?_
  show AR _ _ _ _ _ [0, 1, 2] _
  refine sS rfl rfl rfl (mv rfl) ?_
  refine sS rfl rfl rfl (opS_eqi rfl rfl) ?_
  refine sS rfl rfl rfl (asg rfl) ?_
  refine AR.nil ?_
  show AW _ _ _ _ _ _
  refine AW.cond rfl (fun c8 => ?_) (fun c8 => ?_)
  ·replace H := cnd_t c8 H
   refine AW.cut (X := Unit) (fun _ => ⟨[], [], []⟩) (fun _ => idxRune_j1 = some r3) ?_ ?_
   ·
    refine AW.seq ?_
    refine AW.region ?_
    show AR _ _ _ _ _ [0, 1] _
    refine sS rfl rfl rfl (mv rfl) ?_
    refine sX rfl rfl rfl (opX_range_str Tryz.underlying9 rfl) ?_
    rintro _ _ ⟨o9, rfl, rfl⟩
    refine AR.nil ?_
    show AW _ _ _ _ _ _
    refine AW.block ?_
    refine AW.loop (X := Nat × Nat) (fun (n12, y10) => ⟨[(175, .pt o9 0)], [], [.iter o9 a1 y10]⟩) (fun (n12, y10) => idxRune_L1 a1 n12 y10 = some r3) (fun (n12, y10) => n12) (F, 0) H (WK.at [0] (.cons (.refl _) (.nil _)) rfl) ?_
    rintro ⟨n12, y10⟩ H
    obtain ⟨n12, rfl, H⟩ := loop_s H
    replace H : idxRune_B1 a1 (idxRune_L1 a1 n12) y10 = some r3 := H
    unfold idxRune_B1 at H
    show AW _ _ _ _ _ _
    refine AW.seq ?_
    rcases Bool.eq_false_or_eq_true (decide (y10 < a1.length)) with c13 | c13
    ·replace H := cnd_t c13 H
     refine AW.region ?_
     show AR _ _ _ _ _ [0, 1] _
     refine sR rfl rfl rfl (g_next_t (i := 0) rfl rfl c13) ?_
     refine sS rfl rfl rfl (opS_extract (av := .v _) rfl rfl) ?_
     refine AR.nil ?_
     show AW _ _ _ _ _ _
     refine AW.seq ?_
     refine AW.cond rfl (fun _ => ?_) (fun hx => bool_no rfl hx)
     refine AW.skip ?_
     show AW _ _ _ _ _ _
     refine AW.block ?_
     refine AW.seq ?_
     refine AW.region ?_
     show AR _ _ _ _ _ [0, 1, 2, 3] _
     refine sS rfl rfl rfl (opS_extract (av := .v _) rfl rfl) ?_
     refine sS rfl rfl rfl (opS_extract (av := .v _) rfl rfl) ?_
     refine sS rfl rfl rfl (asg rfl) ?_
     refine sS rfl rfl rfl (asg rfl) ?_
     refine AR.nil ?_
     show AW _ _ _ _ _ _
     refine AW.seq ?_
     refine AW.region ?_
     show AR _ _ _ _ _ [0, 1] _
     refine sS rfl rfl rfl (mv rfl) ?_
     refine sS rfl rfl rfl (opS_eqi rfl rfl) ?_
     refine AR.nil ?_
     show AW _ _ _ _ _ _
     obtain ⟨g15, H⟩ := grd_s H
     replace g15 := fn g15
     refine AW.cond rfl (fun hx => bool_no hx g15) (fun _ => ?_)
     refine AW.skip ?_
     exact Exists.intro (n12, y10 + (decR a1 y10).2) ⟨H, Nat.lt_succ_self _, WK.at [0] (.cons (.refl _) (.nil _)) rfl⟩
    ·replace H := cnd_f c13 H
     refine AW.region ?_
     show AR _ _ _ _ _ [0, 1] _
     refine sR rfl rfl rfl (g_next_f (i := 0) rfl rfl c13) ?_
     refine sS rfl rfl rfl (opS_extract (av := .v _) rfl rfl) ?_
     refine AR.nil ?_
     show AW _ _ _ _ _ _
     refine AW.seq ?_
     refine AW.cond rfl (fun hx => bool_no hx rfl) (fun _ => ?_)
     refine AW.exit ?_
     exact Exists.intro () ⟨H, WK.at [] (.nil _) rfl⟩
   rintro _ H
   replace H : idxRune_j1 = some r3 := H
   unfold idxRune_j1 at H
   show AW _ _ _ _ _ _
   refine AW.seq ?_
   refine AW.region ?_
   show AR _ _ _ _ _ [0] _
   refine sS rfl rfl rfl (asg rfl) ?_
   refine AR.nil ?_
   show AW _ _ _ _ _ _
   refine AW.ret ?_
   obtain rfl := Option.some.inj H
   exact And.intro rfl (Exists.intro _ (Exists.intro _ ⟨ResV.oneW rfl (.refl _), Sub.at [] rfl, rfl, rfl⟩))
  ·replace H := cnd_f c8 H
   refine AW.seq ?_
   obtain ⟨x17, e18, H⟩ := bnd_s H
   refine AW.region ?_
   show AR _ _ _ _ _ [0, 1, 2, 3] _
   refine sS rfl rfl rfl (mv rfl) ?_
   refine AR.run rfl rfl (AO.callp rfl en63_any rfl (w_ValidRune F a2 x17 e18) ?_)
   refine sS rfl rfl rfl (opS_not rfl) ?_
   refine sS rfl rfl rfl (asg rfl) ?_
   refine AR.nil ?_
   show AW _ _ _ _ _ _
   refine AW.cond rfl (fun c19 => ?_) (fun c19 => ?_)
   ·replace H := cnd_t c19 H
    refine AW.seq ?_
    refine AW.region ?_
    show AR _ _ _ _ _ [0] _
    refine sS rfl rfl rfl (asg rfl) ?_
    refine AR.nil ?_
    show AW _ _ _ _ _ _
    refine AW.ret ?_
    obtain rfl := Option.some.inj H
    exact And.intro rfl (Exists.intro _ (Exists.intro _ ⟨ResV.oneW rfl (.refl _), Sub.at [] rfl, rfl, rfl⟩))
   ·replace H := cnd_f c19 H
    refine AW.scope ?_
    refine AW.seq ?_
    obtain ⟨x20, e21, H⟩ := lt_s H
    refine AW.region ?_
    show AR _ _ _ _ _ [0, 1, 2] _
    refine sS rfl rfl rfl (mv rfl) ?_
    refine sS rfl rfl rfl (g_rune_str Tryz.underlying21 Tryz.underlying9 rfl e21) ?_
    refine sS rfl rfl rfl (asg rfl) ?_
    refine AR.nil ?_
    show AW _ _ _ _ _ _
    refine AW.seq ?_
    obtain ⟨g22, H⟩ := grd_s H
    refine AW.region ?_
    show AR _ _ _ _ _ [0, 1, 2, 3] _
    refine sS rfl rfl rfl (mv rfl) ?_
    refine sS rfl rfl rfl (opS_len_str Tryz.underlying9 rfl) ?_
    refine sS rfl rfl rfl (g_sub rfl rfl g22) ?_
    refine sS rfl rfl rfl (asg rfl) ?_
    refine AR.nil ?_
    show AW _ _ _ _ _ _
    refine AW.seq ?_
    refine AW.region ?_
    show AR _ _ _ _ _ [0, 1] _
    refine sS rfl rfl rfl (mv rfl) ?_
    refine sS rfl rfl rfl (asg rfl) ?_
    refine AR.nil ?_
    show AW _ _ _ _ _ _
    refine AW.seq ?_
    refine AW.region ?_
    show AR _ _ _ _ _ [0] _
    refine sS rfl rfl rfl (asg rfl) ?_
    refine AR.nil ?_
    show AW _ _ _ _ _ _
    refine AW.cut (X := Unit) (fun _ => ⟨[], [], []⟩) (fun _ => idxRune_j2 = some r3) ?_ ?_
    ·
     refine AW.block ?_
     refine AW.loop (X := Nat) (fun n24 => ⟨[(0, S a1), (7, S x20), (8, i64 ((x20.length : Int) - 1)), (9, i64 ((x20.length : Int) - 1)), (10, i64 0)], [], []⟩) (fun n24 => idxRune_L2 a1 x20 n24 () = some r3) (fun n24 => n24) F H (WK.at [] (.cons (.refl _) (.cons (.refl _) (.cons (.refl _) (.cons (.refl _) (.cons (.refl _) (.nil _)))))) rfl) ?_
     rintro n24 H
     obtain ⟨n24, rfl, H⟩ := loop_s H
     replace H : idxRune_B2 a1 x20 (idxRune_L2 a1 x20 n24) = some r3 := H
     unfold idxRune_B2 at H
     show AW _ _ _ _ _ _
     refine AW.seq ?_
     refine AW.seq ?_
     refine AW.region ?_
     show AR _ _ _ _ _ [0, 1, 2, 3] _
     refine sS rfl rfl rfl (mv rfl) ?_
     refine sS rfl rfl rfl (mv rfl) ?_
     refine sS rfl rfl rfl (opS_len_str Tryz.underlying9 rfl) ?_
     refine sS rfl rfl rfl (opS_lt rfl rfl) ?_
     refine AR.nil ?_
     show AW _ _ _ _ _ _
     refine AW.cond rfl (fun c25 => ?_) (fun c25 => ?_)
     ·replace H := cnd_t c25 H
      refine AW.skip ?_
      show AW _ _ _ _ _ _
      refine AW.block ?_
      refine AW.scope ?_
      refine AW.seq ?_
      refine AW.seq ?_
      obtain ⟨g26, H⟩ := grd_s H
      obtain ⟨x27, e28, H⟩ := lt_s H
      obtain ⟨g29, H⟩ := grd_s H
      obtain ⟨x30, e31, H⟩ := lt_s H
      refine AW.region_draw (by kernel_rfl) ?_
      show AI _ _ _ _ 7 (Array.replicate 7 false) _
      refine AI.take (i := 0) rfl rfl (by kernel_rfl) (by kernel_rfl) (by kernel_rfl) (fun _ _ h => h) (mv rfl) ?_
      show AI _ _ _ _ _ #[true, false, false, false, false, false, false] _
      refine AI.take (i := 1) rfl rfl (by kernel_rfl) (by kernel_rfl) (by kernel_rfl) (fun _ _ h => h) (mv rfl) ?_
      show AI _ _ _ _ _ #[true, true, false, false, false, false, false] _
      refine AI.take (i := 2) rfl rfl (by kernel_rfl) (by kernel_rfl) (by kernel_rfl) (fun _ _ h => h) (g_index_str Tryz.underlying9 rfl rfl g26 e28) ?_
      show AI _ _ _ _ _ #[true, true, true, false, false, false, false] _
      refine AI.take (i := 3) rfl rfl (by kernel_rfl) (by kernel_rfl) (by kernel_rfl) (fun _ _ h => h) (mv rfl) ?_
      show AI _ _ _ _ _ #[true, true, true, true, false, false, false] _
      refine AI.take (i := 4) rfl rfl (by kernel_rfl) (by kernel_rfl) (by kernel_rfl) (fun _ _ h => h) (mv rfl) ?_
      show AI _ _ _ _ _ #[true, true, true, true, true, false, false] _
      refine AI.take (i := 5) rfl rfl (by kernel_rfl) (by kernel_rfl) (by kernel_rfl) (fun _ _ h => h) (g_index_str Tryz.underlying9 rfl rfl g29 e31) ?_
      show AI _ _ _ _ _ #[true, true, true, true, true, true, false] _
      refine AI.take (i := 6) rfl rfl (by kernel_rfl) (by kernel_rfl) (by kernel_rfl) (fun _ _ h => h) (g_ne8 (a := x27) (b := x30) rfl rfl) ?_
      show AI _ _ _ _ _ #[true, true, true, true, true, true, true] _
      refine AI.done rfl ?_
      show AW _ _ _ _ _ _
      obtain ⟨g44, H⟩ := grd_s H
      refine AW.cond rfl (fun _ => ?_) (fun hx => bool_no g44 hx)
      refine AW.seq ?_
      obtain ⟨g33, H⟩ := grd_s H
      obtain ⟨g34, H⟩ := grd_s H
      obtain ⟨x35, e36, H⟩ := lt_s H
      obtain ⟨g37, H⟩ := grd_s H
      obtain ⟨x38, e39, H⟩ := lt_s H
      obtain ⟨x40, e41, H⟩ := lt_s H
      refine AW.region_draw (by kernel_rfl) ?_
      show AI _ _ _ _ 9 (Array.replicate 9 false) _
      refine AI.take (i := 0) rfl rfl (by kernel_rfl) (by kernel_rfl) (by kernel_rfl) (fun _ _ h => h) (mv rfl) ?_
      show AI _ _ _ _ _ #[true, false, false, false, false, false, false, false, false] _
      refine AI.take (i := 1) rfl rfl (by kernel_rfl) (by kernel_rfl) (by kernel_rfl) (fun _ _ h => h) (mv rfl) ?_
      show AI _ _ _ _ _ #[true, true, false, false, false, false, false, false, false] _
      refine AI.take (i := 2) rfl rfl (by kernel_rfl) (by kernel_rfl) (by kernel_rfl) (fun _ _ h => h) (g_add rfl rfl g33) ?_
      show AI _ _ _ _ _ #[true, true, true, false, false, false, false, false, false] _
      refine AI.take (i := 3) rfl rfl (by kernel_rfl) (by kernel_rfl) (by kernel_rfl) (fun _ _ h => h) (g_from_str Tryz.underlying9 rfl rfl g34 e36) ?_
      show AI _ _ _ _ _ #[true, true, true, true, false, false, false, false, false] _
      refine AI.take (i := 4) rfl rfl (by kernel_rfl) (by kernel_rfl) (by kernel_rfl) (fun _ _ h => h) (mv rfl) ?_
      show AI _ _ _ _ _ #[true, true, true, true, true, false, false, false, false] _
      refine AI.take (i := 5) rfl rfl (by kernel_rfl) (by kernel_rfl) (by kernel_rfl) (fun _ _ h => h) (mv rfl) ?_
      show AI _ _ _ _ _ #[true, true, true, true, true, true, false, false, false] _
      refine AI.take (i := 6) rfl rfl (by kernel_rfl) (by kernel_rfl) (by kernel_rfl) (fun _ _ h => h) (g_index_str Tryz.underlying9 rfl rfl g37 e39) ?_
      show AI _ _ _ _ _ #[true, true, true, true, true, true, true, false, false] _
      refine AI.one (i := 7) (by kernel_rfl) rfl rfl ?_
      refine AIO.callp rfl en28_any rfl (show ACalls _ _ _ [] (Ret (i64 x40) []) from by subst e41; exact lib_IndexByte x35 x38) ?_
      show AI _ _ _ _ _ #[true, true, true, true, true, true, true, true, false] _
      refine AI.take (i := 8) rfl rfl (by kernel_rfl) (by kernel_rfl) (by kernel_rfl) (fun _ _ h => h) (asg rfl) ?_
      show AI _ _ _ _ _ #[true, true, true, true, true, true, true, true, true] _
      refine AI.done rfl ?_
      show AW _ _ _ _ _ _
      refine AW.seq ?_
      refine AW.seq ?_
      refine AW.region ?_
      show AR _ _ _ _ _ [0, 1] _
      refine sS rfl rfl rfl (mv rfl) ?_
      refine sS rfl rfl rfl (opS_lt rfl rfl) ?_
      refine AR.nil ?_
      show AW _ _ _ _ _ _
      obtain ⟨g43, H⟩ := grd_s H
      refine AW.cond rfl (fun _ => ?_) (fun hx => bool_no g43 hx)
      refine AW.seq ?_
      refine AW.region ?_
      show AR _ _ _ _ _ [0] _
      refine sS rfl rfl rfl (asg rfl) ?_
      refine AR.nil ?_
      show AW _ _ _ _ _ _
      refine AW.ret ?_
      obtain rfl := Option.some.inj H
      exact And.intro rfl (Exists.intro _ (Exists.intro _ ⟨ResV.oneW rfl (.refl _), Sub.at [] rfl, rfl, rfl⟩))
     ·replace H := cnd_f c25 H
      refine AW.exit ?_
      exact Exists.intro () ⟨H, WK.at [] (.nil _) rfl⟩
    rintro _ H
    replace H : idxRune_j2 = some r3 := H
    unfold idxRune_j2 at H
    show AW _ _ _ _ _ _
    refine AW.seq ?_
    refine AW.seq ?_
    refine AW.region ?_
    show AR _ _ _ _ _ [0] _
    refine sS rfl rfl rfl (asg rfl) ?_
    refine AR.nil ?_
    show AW _ _ _ _ _ _
    refine AW.ret ?_
    obtain rfl := Option.some.inj H
    exact And.intro rfl (Exists.intro _ (Exists.intro _ ⟨ResV.oneW rfl (.refl _), Sub.at [] rfl, rfl, rfl⟩))
set_option maxRecDepth 100000 in
set_option maxHeartbeats 1000000 in
theorem w_useSet (F : Nat) (a1 : Int) (r2 : Bool) (H : useSet F a1 = some r2) : ACalls Tryz.prog 49 [i64 a1] [] (Ret (B r2) []) := by
 unfold useSet at H
 refine ACalls.of_body Tryz.func49 rfl rfl ?_
 show AW _ _ 5 _ _ _
 refine AW.seq ?_
 refine AW.region ?_
 show AR _ _ _ _ _ [0] _
 refine sS rfl rfl rfl (asg rfl) ?_
 refine AR.nil ?_
 show AW _ _ _ _ _ _
 refine AW.seq ?_
 refine AW.region ?_
 show AR _ _ _ _ _ [0, 1, 2] _
 refine sS rfl rfl rfl (mv rfl) ?_
 refine sS rfl rfl rfl (opS_gt rfl rfl) ?_
 refine sS rfl rfl rfl (asg rfl) ?_
 refine AR.nil ?_
 show AW _ _ _ _ _ _
 refine AW.ret ?_
 obtain rfl := Option.some.inj H
 exact And.intro rfl (Exists.intro _ (Exists.intro _ ⟨ResV.oneW rfl (.refl _), Sub.at [] rfl, rfl, rfl⟩))
set_option maxRecDepth 100000 in
set_option maxHeartbeats 1000000 in
theorem w_idxAnyG (F : Nat) (a1 : List UInt8) (a2 : List UInt8) (r3 : Int) (H : idxAnyG F a1 a2 = some r3) : ACalls Tryz.prog 39 [S a1, S a2] [] (Ret (i64 r3) []) := by
 unfold idxAnyG at H
 refine ACalls.of_body Tryz.func39 rfl rfl ?_
 show AW _ _ 55 _ _ _
 refine AW.seq ?_
 refine AW.region ?_
 show AR _ _ _ _ _ [0] _
 refine sS rfl rfl rfl (asg rfl) ?_
 refine AR.nil ?_
 show AW _ _ _ _ _ _
 refine AW.seq ?_
 refine AW.seq ?_
 refine AW.region ?_
 show AR _ _ _ _ _ [0, 1] _
 refine sS rfl rfl rfl (mv rfl) ?_
 refine sS rfl rfl rfl (opS_eqs rfl rfl) ?_
 refine AR.nil ?_
 show AW _ _ _ _ _ _
 refine AW.cond rfl (fun c4 => ?_) (fun c4 => ?_)
 ·replace H := cnd_t c4 H
  refine AW.seq ?_
  refine AW.region ?_
  show AR _ _ _ _ _ [0] _
  refine sS rfl rfl rfl (asg rfl) ?_
  refine AR.nil ?_
  show AW _ _ _ _ _ _
  refine AW.ret ?_
  obtain rfl := Option.some.inj H
  exact And.intro rfl (Exists.intro _ (Exists.intro _ ⟨ResV.oneW rfl (.refl _), Sub.at [] rfl, rfl, rfl⟩))
 ·replace H := cnd_f c4 H
  refine AW.skip ?_
  show AW _ _ _ _ _ _
  refine AW.seq ?_
  refine AW.seq ?_
  refine AW.region ?_
  show AR _ _ _ _ _ [0, 1, 2] _
  refine sS rfl rfl rfl (mv rfl) ?_
  refine sS rfl rfl rfl (opS_len_str Tryz.underlying9 rfl) ?_
  refine sS rfl rfl rfl (opS_eqi rfl rfl) ?_
  refine AR.nil ?_
  show AW _ _ _ _ _ _
  refine AW.cond rfl (fun c5 => ?_) (fun c5 => ?_)
  ·replace H := cnd_t c5 H
   refine AW.seq ?_
   obtain ⟨g6, H⟩ := grd_s H
   obtain ⟨x7, e8, H⟩ := lt_s H
   obtain ⟨g9, H⟩ := grd_s H
   refine AW.region ?_
   show AR _ _ _ _ _ [0, 1, 2, 3] _
   refine sS rfl rfl rfl (mv rfl) ?_
   refine sS rfl rfl rfl (g_index_str Tryz.underlying9 rfl rfl g6 e8) ?_
   refine sS rfl rfl rfl (g_conv_32 (by kernel_rfl) Tryz.underlying21 rfl g9) ?_
   refine sS rfl rfl rfl (asg rfl) ?_
   refine AR.nil ?_
   show AW _ _ _ _ _ _
   refine AW.cut (X := Int) (fun y11 => ⟨[(0, S a1), (5, .v (.int .i32 y11))], [], []⟩) (fun y11 => idxAnyG_j1 F a1 y11 = some r3) ?_ ?_
   ·
    refine AW.seq ?_
    refine AW.region ?_
    show AR _ _ _ _ _ [0, 1] _
    refine sS rfl rfl rfl (mv rfl) ?_
    refine sS rfl rfl rfl (opS_ge rfl rfl) ?_
    refine AR.nil ?_
    show AW _ _ _ _ _ _
    refine AW.cond rfl (fun c10 => ?_) (fun c10 => ?_)
    ·replace H := cnd_t c10 H
     refine AW.region ?_
     show AR _ _ _ _ _ [0] _
     refine sS rfl rfl rfl (asg rfl) ?_
     refine AR.nil ?_
     exact Exists.intro 65533 ⟨H, WK.at [] (.cons (.refl _) (.cons (.refl _) (.nil _))) rfl⟩
    ·replace H := cnd_f c10 H
     refine AW.skip ?_
     exact Exists.intro (x7.toNat : Int) ⟨H, WK.at [] (.cons (.refl _) (.cons (.refl _) (.nil _))) rfl⟩
   rintro y11 H
   replace H : idxAnyG_j1 F a1 y11 = some r3 := H
   unfold idxAnyG_j1 at H
   show AW _ _ _ _ _ _
   refine AW.seq ?_
   obtain ⟨x13, e14, H⟩ := bnd_s H
   refine AW.region ?_
   show AR _ _ _ _ _ [0, 1, 2, 3] _
   refine sS rfl rfl rfl (mv rfl) ?_
   refine sS rfl rfl rfl (mv rfl) ?_
   refine AR.run rfl rfl (AO.callp rfl en48_any rfl (w_idxRune F a1 y11 x13 e14) ?_)
   refine sS rfl rfl rfl (asg rfl) ?_
   refine AR.nil ?_
   show AW _ _ _ _ _ _
   refine AW.ret ?_
   obtain rfl := Option.some.inj H
   exact And.intro rfl (Exists.intro _ (Exists.intro _ ⟨ResV.oneW rfl (.refl _), Sub.at [] rfl, rfl, rfl⟩))
  ·replace H := cnd_f c5 H
   refine AW.skip ?_
   show AW _ _ _ _ _ _
   refine AW.cut (X := Unit) (fun _ => ⟨[(0, S a1), (1, S a2)], [], []⟩) (fun _ => idxAnyG_j3 F a1 a2 = some r3) ?_ ?_
   ·
    refine AW.seq ?_
    obtain ⟨x15, e16, H⟩ := bnd_s H
    refine AW.region ?_
    show AR _ _ _ _ _ [0, 1, 2] _
    refine sS rfl rfl rfl (mv rfl) ?_
    refine sS rfl rfl rfl (opS_len_str Tryz.underlying9 rfl) ?_
    refine AR.run rfl rfl (AO.callp rfl en49_any rfl (w_useSet F (a1.length : Int) x15 e16) ?_)
    refine AR.nil ?_
    show AW _ _ _ _ _ _
    obtain ⟨g18, H⟩ := grd_s H
    replace g18 := fn g18
    refine AW.cond rfl (fun hx => bool_no hx g18) (fun _ => ?_)
    refine AW.skip ?_
    exact Exists.intro () ⟨H, WK.at [] (.cons (.refl _) (.cons (.refl _) (.nil _))) rfl⟩
   rintro _ H
   replace H : idxAnyG_j3 F a1 a2 = some r3 := H
   unfold idxAnyG_j3 at H
   show AW _ _ _ _ _ _
   refine AW.cut (X := Unit) (fun _ => ⟨[], [], []⟩) (fun _ => idxAnyG_j2 = some r3) ?_ ?_
   ·
    refine AW.seq ?_
    refine AW.region ?_
    show AR _ _ _ _ _ [0, 1] _
    refine sS rfl rfl rfl (mv rfl) ?_
    refine sX rfl rfl rfl (opX_range_str Tryz.underlying9 rfl) ?_
    rintro _ _ ⟨o20, rfl, rfl⟩
    refine AR.nil ?_
    show AW _ _ _ _ _ _
    refine AW.block ?_
    refine AW.loop (X := Nat × Nat) (fun (n23, y21) => ⟨[(1, S a2), (45, .pt o20 0)], [], [.iter o20 a1 y21]⟩) (fun (n23, y21) => idxAnyG_L1 F a1 a2 n23 y21 = some r3) (fun (n23, y21) => n23) (F, 0) H (WK.at [0] (.cons (.refl _) (.cons (.refl _) (.nil _))) rfl) ?_
    rintro ⟨n23, y21⟩ H
    obtain ⟨n23, rfl, H⟩ := loop_s H
    replace H : idxAnyG_B1 F a1 a2 (idxAnyG_L1 F a1 a2 n23) y21 = some r3 := H
    unfold idxAnyG_B1 at H
    show AW _ _ _ _ _ _
    refine AW.seq ?_
    rcases Bool.eq_false_or_eq_true (decide (y21 < a1.length)) with c24 | c24
    ·replace H := cnd_t c24 H
     refine AW.region ?_
     show AR _ _ _ _ _ [0, 1] _
     refine sR rfl rfl rfl (g_next_t (i := 0) rfl rfl c24) ?_
     refine sS rfl rfl rfl (opS_extract (av := .v _) rfl rfl) ?_
     refine AR.nil ?_
     show AW _ _ _ _ _ _
     refine AW.seq ?_
     refine AW.cond rfl (fun _ => ?_) (fun hx => bool_no rfl hx)
     refine AW.skip ?_
     show AW _ _ _ _ _ _
     refine AW.block ?_
     refine AW.seq ?_
     refine AW.region ?_
     show AR _ _ _ _ _ [0, 1, 2, 3] _
     refine sS rfl rfl rfl (opS_extract (av := .v _) rfl rfl) ?_
     refine sS rfl rfl rfl (opS_extract (av := .v _) rfl rfl) ?_
     refine sS rfl rfl rfl (asg rfl) ?_
     refine sS rfl rfl rfl (asg rfl) ?_
     refine AR.nil ?_
     show AW _ _ _ _ _ _
     refine AW.seq ?_
     obtain ⟨x25, e26, H⟩ := bnd_s H
     refine AW.region ?_
     show AR _ _ _ _ _ [0, 1, 2, 3] _
     refine sS rfl rfl rfl (mv rfl) ?_
     refine sS rfl rfl rfl (mv rfl) ?_
     refine AR.run rfl rfl (AO.callp rfl en48_any rfl (w_idxRune F a2 ((decR a1 y21).1 : Int) x25 e26) ?_)
     refine sS rfl rfl rfl (opS_ge rfl rfl) ?_
     refine AR.nil ?_
     show AW _ _ _ _ _ _
     refine AW.cond rfl (fun c27 => ?_) (fun c27 => ?_)
     ·replace H := cnd_t c27 H
      refine AW.seq ?_
      refine AW.region ?_
      show AR _ _ _ _ _ [0, 1] _
      refine sS rfl rfl rfl (mv rfl) ?_
      refine sS rfl rfl rfl (asg rfl) ?_
      refine AR.nil ?_
      show AW _ _ _ _ _ _
      refine AW.ret ?_
      obtain rfl := Option.some.inj H
      exact And.intro rfl (Exists.intro _ (Exists.intro _ ⟨ResV.oneW rfl (.refl _), Sub.at [] rfl, rfl, rfl⟩))
     ·replace H := cnd_f c27 H
      refine AW.skip ?_
      exact Exists.intro (n23, y21 + (decR a1 y21).2) ⟨H, Nat.lt_succ_self _, WK.at [0] (.cons (.refl _) (.cons (.refl _) (.nil _))) rfl⟩
    ·replace H := cnd_f c24 H
     refine AW.region ?_
     show AR _ _ _ _ _ [0, 1] _
     refine sR rfl rfl rfl (g_next_f (i := 0) rfl rfl c24) ?_
     refine sS rfl rfl rfl (opS_extract (av := .v _) rfl rfl) ?_
     refine AR.nil ?_
     show AW _ _ _ _ _ _
     refine AW.seq ?_
     refine AW.cond rfl (fun hx => bool_no hx rfl) (fun _ => ?_)
     refine AW.exit ?_
     exact Exists.intro () ⟨H, WK.at [] (.nil _) rfl⟩
   rintro _ H
   replace H : idxAnyG_j2 = some r3 := H
   unfold idxAnyG_j2 at H
   show AW _ _ _ _ _ _
   refine AW.seq ?_
   refine AW.region ?_
   show AR _ _ _ _ _ [0] _
   refine sS rfl rfl rfl (asg rfl) ?_
   refine AR.nil ?_
   show AW _ _ _ _ _ _
   refine AW.ret ?_
   obtain rfl := Option.some.inj H
   exact And.intro rfl (Exists.intro _ (Exists.intro _ ⟨ResV.oneW rfl (.refl _), Sub.at [] rfl, rfl, rfl⟩))
theorem lib_IndexAny (F : Nat) (s chars : List UInt8) (x : Int) (h1 : asciiB chars = true) (h2 : okS s.length = true) (h3 : okS chars.length = true) (H : idxAny F s chars = some x) : ACalls Tryz.prog 39 [S s, S chars] [] (Ret (i64 x) []) := by
 unfold idxAny at H
 cases hb : (decide (8 < s.length) && decide (2 ≤ chars.length)) with
 | true =>
  rw [hb] at H
  obtain rfl := Option.some.inj H
  simp only [Bool.and_eq_true, decide_eq_true_eq] at hb
  refine ACalls.of_below fun I A w vs hI hv => ?_
  obtain ⟨v1, r1, rfl, e1, hv⟩ := hv.out_cons
  obtain ⟨v2, r2, rfl, e2, hv⟩ := hv.out_cons
  rw [hv.out_nil, rel_S e1, rel_S e2]
  refine (Tryz.strings_IndexAny_long (fun _ => by kernel_rfl) ⟨s.toArray⟩ ⟨chars.toArray⟩ w (by simpa [ByteArray.size] using hb.2) (by simpa [ByteArray.size] using hb.1) (by simpa [ByteArray.size] using okS_s h2) (by simpa [ByteArray.size] using okS_s h3) (fun j b hj => asciiB_s h1 j b (by simpa using hj))).mono fun e w' ⟨he, hw⟩ => ⟨by simpa using he, ?_⟩
  subst hw
  exact ((Below.refl _ _).alloc (Nat.le_refl _) _).alloc (by simp) _
 | false => rw [hb] at H; exact w_idxAnyG F s chars x H
set_option maxRecDepth 100000 in
set_option maxHeartbeats 1000000 in
theorem w_containsAny (F : Nat) (a1 : List UInt8) (a2 : List UInt8) (r3 : Bool) (H : containsAny F a1 a2 = some r3) : ACalls Tryz.prog 67 [S a1, S a2] [] (Ret (B r3) []) := by
 unfold containsAny at H
 refine ACalls.of_body Tryz.func67 rfl rfl ?_
 show AW _ _ 9 _ _ _
 refine AW.seq ?_
 refine AW.region ?_
 show AR _ _ _ _ _ [0] _
 refine sS rfl rfl rfl (asg rfl) ?_
 refine AR.nil ?_
 show AW _ _ _ _ _ _
 refine AW.seq ?_
 obtain ⟨g4, H⟩ := grd_s H
 obtain ⟨g5, H⟩ := grd_s H
 obtain ⟨g6, H⟩ := grd_s H
 obtain ⟨x7, e8, H⟩ := bnd_s H
 refine AW.region ?_
 show AR _ _ _ _ _ [0, 1, 2, 3, 4] _
 refine sS rfl rfl rfl (mv rfl) ?_
 refine sS rfl rfl rfl (mv rfl) ?_
 refine AR.run rfl rfl (AO.callp rfl en39_any rfl (lib_IndexAny F a1 a2 x7 g4 g5 g6 e8) ?_)
 refine sS rfl rfl rfl (opS_ge rfl rfl) ?_
 refine sS rfl rfl rfl (asg rfl) ?_
 refine AR.nil ?_
 show AW _ _ _ _ _ _
 refine AW.ret ?_
 obtain rfl := Option.some.inj H
 exact And.intro rfl (Exists.intro _ (Exists.intro _ ⟨ResV.oneW rfl (.refl _), Sub.at [] rfl, rfl, rfl⟩))
end Go.Proofs.YtjhlnhipjomdeaaGreatDoor
