/-
  A replacer is built, and replaces: what is run is what the plain functions say. Printed by a program of ours.
-/
import Derived.Test.YtjhlnhipjomdeaaGreatDoorAvE
import Derived.Test.YtjhlnhipjomdeaaGreatDoorPvLib
import Derived.Test.YtjhlnhipjomdeaaGreatDoorP11Join
import Derived.Test.YtjhlnhipjomdeaaGreatDoorShelf
import Derived.Lib.ItoaNum
import Derived.Test.YtjhlnhipjomdeaaGreatDoorAvStill
import Derived.Test.YtjhlnhipjomdeaaGreatDoorAvSync
import Derived.Test.YtjhlnhipjomdeaaGreatDoorChecked
import Derived.Test.YtjhlnhipjomdeaaGreatDoorAvPan
import Derived.Test.YtjhlnhipjomdeaaGreatDoorAvRep
import Derived.Test.YtjhlnhipjomdeaaGreatDoorLibLW
import Derived.Test.YtjhlnhipjomdeaaGreatDoorRepP
set_option linter.unusedVariables false
set_option linter.unusedSimpArgs false
namespace Go.Proofs.YtjhlnhipjomdeaaGreatDoor
open Go.RowKit Go.Av Go.Pv
theorem en69_rep : ∀ (args : Array Value) (w : World), (callFunc 69 args).run Tryz.prog w = .ok (.enter 69 args) w := fun _ _ => by kernel_rfl
theorem en70_rep : ∀ (args : Array Value) (w : World), (callFunc 70 args).run Tryz.prog w = .ok (.enter 70 args) w := fun _ _ => by kernel_rfl
theorem en72_rep : ∀ (args : Array Value) (w : World), (callFunc 72 args).run Tryz.prog w = .ok (.enter 72 args) w := fun _ _ => by kernel_rfl
theorem en145_rep : ∀ (args : Array Value) (w : World), (callFunc 145 args).run Tryz.prog w = .ok (.enter 145 args) w := fun _ _ => by kernel_rfl
set_option maxRecDepth 100000 in
set_option maxHeartbeats 1000000 in
theorem w_sy_b32 (F : Nat) (a1 : Bool) (r2 : Int) (H : sy_b32 F a1 = some r2) : ACalls Tryz.prog 72 [B a1] [] (Ret (.v (.int .u32 r2)) []) := by
 unfold sy_b32 at H
 refine ACalls.of_body Tryz.func72 rfl rfl ?_
 show AW _ _ 4 _ _ _
 refine AW.seq ?_
 refine AW.region ?_
 show AR _ _ _ _ _ [0] _
 refine sS rfl rfl rfl (asg rfl) ?_
 refine AR.nil ?_
 show AW _ _ _ _ _ _
 refine AW.seq ?_
 refine AW.seq ?_
 refine AW.region ?_
 show AR _ _ _ _ _ [0] _
 refine sS rfl rfl rfl (mv rfl) ?_
 refine AR.nil ?_
 show AW _ _ _ _ _ _
 refine AW.cond rfl (fun c3 => ?_) (fun c3 => ?_)
 ·replace H := cnd_t c3 H
  refine AW.seq ?_
  refine AW.region ?_
  show AR _ _ _ _ _ [0] _
  refine sS rfl rfl rfl (asg rfl) ?_
  refine AR.nil ?_
  show AW _ _ _ _ _ _
  refine AW.ret ?_
  obtain rfl := Option.some.inj H
  exact And.intro rfl (Exists.intro _ (Exists.intro _ ⟨ResV.oneW rfl (.refl _), Sub.at [] rfl, rfl, rfl⟩))
 ·replace H := cnd_f c3 H
  refine AW.skip ?_
  show AW _ _ _ _ _ _
  refine AW.seq ?_
  refine AW.region ?_
  show AR _ _ _ _ _ [0] _
  refine sS rfl rfl rfl (asg rfl) ?_
  refine AR.nil ?_
  show AW _ _ _ _ _ _
  refine AW.ret ?_
  obtain rfl := Option.some.inj H
  exact And.intro rfl (Exists.intro _ (Exists.intro _ ⟨ResV.oneW rfl (.refl _), Sub.at [] rfl, rfl, rfl⟩))
set_option maxRecDepth 100000 in
set_option maxHeartbeats 1000000 in
theorem w_sy_Load (F : Nat) (o1 : Nat) (a2 : Int) (a3 : Int) (v4 : AV) (v5 : AV) (r6 : Bool) (H : sy_Load F a2 a3 = some r6) : ACalls Tryz.prog 42 [.pt o1 0] [.obj o1 [.v (.int .u32 a2), .v (.int .i32 a3), .v (.int .u32 0), v4, v5]] (fun e A' => e = .ret (B r6) ∧ A' = [.obj o1 [.v (.int .u32 a2), .v (.int .i32 a3), .v (.int .u32 0), v4, v5]]) := by
 unfold sy_Load at H
 refine ACalls.of_body Tryz.func42 rfl rfl ?_
 show AW _ _ 8 _ _ _
 refine AW.seq ?_
 refine AW.region ?_
 show AR _ _ _ _ _ [0] _
 refine sS rfl rfl rfl (asg rfl) ?_
 refine AR.nil ?_
 show AW _ _ _ _ _ _
 refine AW.seq ?_
 refine AW.region ?_
 show AR _ _ _ _ _ [0, 1, 2, 3, 4, 5] _
 refine sS rfl rfl rfl (opS_move (av := .pt _ _) rfl) ?_
 refine sS rfl rfl rfl (opS_nilCheck_pt rfl) ?_
 refine sS rfl rfl rfl (opS_fieldAddr_pt (n := 0) (by kernel_rfl) rfl) ?_
 refine sR rfl rfl rfl (opR_atomLoad (i := 0) (k := .u32) ⟨Tryz.func56, by kernel_rfl, by kernel_rfl, by kernel_rfl, by kernel_rfl⟩ rfl rfl rfl) ?_
 refine sS rfl rfl rfl (opS_nei rfl rfl) ?_
 refine sS rfl rfl rfl (asg rfl) ?_
 refine AR.nil ?_
 show AW _ _ _ _ _ _
 refine AW.ret ?_
 obtain rfl := Option.some.inj H
 exact And.intro rfl (Exists.intro _ (Exists.intro _ ⟨ResV.oneW rfl (.refl _), Sub.at [0] rfl, rfl, rfl⟩))
set_option maxRecDepth 100000 in
set_option maxHeartbeats 1000000 in
theorem w_sy_Store (F : Nat) (o1 : Nat) (v2 : AV) (v3 : AV) (a4 : Bool) (r5 : Int) (H : sy_Store F a4 = some r5) : ACalls Tryz.prog 59 [.pt o1 0, B a4] [.obj o1 [.v (.int .u32 0), .v (.int .i32 1), .v (.int .u32 0), v2, v3]] (fun e A' => e = .ret (.tup []) ∧ A' = [.obj o1 [.v (.int .u32 r5), .v (.int .i32 1), .v (.int .u32 0), v2, v3]]) := by
 unfold sy_Store at H
 refine ACalls.of_body Tryz.func59 rfl rfl ?_
 show AW _ _ 10 _ _ _
 obtain ⟨x6, e7, H⟩ := bnd_s H
 refine AW.region_draw (by kernel_rfl) ?_
 show AI _ _ _ _ 6 (Array.replicate 6 false) _
 refine AI.take (i := 0) rfl rfl (by kernel_rfl) (by kernel_rfl) (by kernel_rfl) (fun _ _ h => h) (opS_move (av := .pt _ _) rfl) ?_
 show AI _ _ _ _ _ #[true, false, false, false, false, false] _
 refine AI.take (i := 1) rfl rfl (by kernel_rfl) (by kernel_rfl) (by kernel_rfl) (fun _ _ h => h) (opS_nilCheck_pt rfl) ?_
 show AI _ _ _ _ _ #[true, true, false, false, false, false] _
 refine AI.take (i := 2) rfl rfl (by kernel_rfl) (by kernel_rfl) (by kernel_rfl) (fun _ _ h => h) (opS_fieldAddr_pt (n := 0) (by kernel_rfl) rfl) ?_
 show AI _ _ _ _ _ #[true, true, true, false, false, false] _
 refine AI.take (i := 3) rfl rfl (by kernel_rfl) (by kernel_rfl) (by kernel_rfl) (fun _ _ h => h) (mv rfl) ?_
 show AI _ _ _ _ _ #[true, true, true, true, false, false] _
 refine AI.one (i := 4) (by kernel_rfl) rfl rfl ?_
 refine AIO.callp rfl en72_rep rfl (w_sy_b32 F a4 x6 e7) ?_
 show AI _ _ _ _ _ #[true, true, true, true, true, false] _
 refine AI.one (i := 5) (by kernel_rfl) rfl rfl ?_
 refine AIO.op rfl (opR_atomStore (i := 0) ⟨Tryz.func71, by kernel_rfl, by kernel_rfl, by kernel_rfl, by kernel_rfl⟩ rfl rfl rfl rfl) ?_
 show AI _ _ _ _ _ #[true, true, true, true, true, true] _
 refine AI.done rfl ?_
 obtain rfl := Option.some.inj H
 exact And.intro rfl (Exists.intro _ (Exists.intro _ ⟨ResV.noneW rfl, Sub.at [0] rfl, rfl, rfl⟩))
set_option maxRecDepth 100000 in
set_option maxHeartbeats 1000000 in
theorem d_sy_Store (u : FrameMode) (F : Nat) (o1 : Nat) (v2 : AV) (v3 : AV) (a4 : Bool) (r5 : Int) (H : sy_Store F a4 = some r5) : ADCalls Tryz.prog 59 [.pt o1 0, B a4] [.obj o1 [.v (.int .u32 0), .v (.int .i32 1), .v (.int .u32 0), v2, v3]] u (fun ae u' A' => ae = .ret (.tup []) ∧ u' = u ∧ A' = [.obj o1 [.v (.int .u32 r5), .v (.int .i32 1), .v (.int .u32 0), v2, v3]]) := by
 unfold sy_Store at H
 refine ADCalls.of_body Tryz.func59 rfl rfl ?_
 show AW _ _ 10 _ _ _
 obtain ⟨x6, e7, H⟩ := bnd_s H
 refine AW.region_draw (by kernel_rfl) ?_
 show AI _ _ _ _ 6 (Array.replicate 6 false) _
 refine AI.take (i := 0) rfl rfl (by kernel_rfl) (by kernel_rfl) (by kernel_rfl) (fun _ _ h => h) (opS_move (av := .pt _ _) rfl) ?_
 show AI _ _ _ _ _ #[true, false, false, false, false, false] _
 refine AI.take (i := 1) rfl rfl (by kernel_rfl) (by kernel_rfl) (by kernel_rfl) (fun _ _ h => h) (opS_nilCheck_pt rfl) ?_
 show AI _ _ _ _ _ #[true, true, false, false, false, false] _
 refine AI.take (i := 2) rfl rfl (by kernel_rfl) (by kernel_rfl) (by kernel_rfl) (fun _ _ h => h) (opS_fieldAddr_pt (n := 0) (by kernel_rfl) rfl) ?_
 show AI _ _ _ _ _ #[true, true, true, false, false, false] _
 refine AI.take (i := 3) rfl rfl (by kernel_rfl) (by kernel_rfl) (by kernel_rfl) (fun _ _ h => h) (mv rfl) ?_
 show AI _ _ _ _ _ #[true, true, true, true, false, false] _
 refine AI.one (i := 4) (by kernel_rfl) rfl rfl ?_
 refine AIO.callp rfl en72_rep rfl (w_sy_b32 F a4 x6 e7) ?_
 show AI _ _ _ _ _ #[true, true, true, true, true, false] _
 refine AI.one (i := 5) (by kernel_rfl) rfl rfl ?_
 refine AIO.op rfl (opR_atomStore (i := 0) ⟨Tryz.func71, by kernel_rfl, by kernel_rfl, by kernel_rfl, by kernel_rfl⟩ rfl rfl rfl rfl) ?_
 show AI _ _ _ _ _ #[true, true, true, true, true, true] _
 refine AI.done rfl ?_
 obtain rfl := Option.some.inj H
 exact And.intro rfl (Exists.intro _ (Exists.intro _ ⟨ResV.noneW rfl, Sub.at [0] rfl, rfl, rfl, rfl⟩))
set_option maxRecDepth 100000 in
set_option maxHeartbeats 1000000 in
theorem w_sy_iLock (F : Nat) (o1 : Nat) (v2 : AV) (v3 : AV) (H : sy_iLock F = some ()) : ACalls Tryz.prog 69 [.pt o1 1] [.obj o1 [.v (.int .u32 0), .v (.int .i32 0), .v (.int .u32 0), v2, v3]] (fun e A' => e = .ret (.tup []) ∧ A' = [.obj o1 [.v (.int .u32 0), .v (.int .i32 1), .v (.int .u32 0), v2, v3]]) := by
 unfold sy_iLock at H
 refine ACalls.of_body Tryz.func69 rfl rfl ?_
 show AW _ _ 13 _ _ _
 refine AW.seq ?_
 refine AW.region ?_
 show AR _ _ _ _ _ [0] _
 refine sR rfl rfl rfl (opR_mark0 .disable ⟨Tryz.func78, by kernel_rfl, by kernel_rfl, by kernel_rfl, by kernel_rfl⟩) ?_
 refine AR.nil ?_
 show AW _ _ _ _ _ _
 refine AW.seq ?_
 refine AW.seq ?_
 refine AW.region ?_
 show AR _ _ _ _ _ [0, 1, 2, 3] _
 refine sS rfl rfl rfl (opS_move (av := .pt _ _) rfl) ?_
 refine sS rfl rfl rfl (opS_nilCheck_pt rfl) ?_
 refine sS rfl rfl rfl (opS_fieldAddr_pt (n := 0) (by kernel_rfl) rfl) ?_
 refine sR rfl rfl rfl (opR_atomCas (i := 0) (k := .i32) ⟨Tryz.func79, by kernel_rfl, by kernel_rfl, by kernel_rfl, by kernel_rfl⟩ rfl rfl rfl rfl rfl) ?_
 refine AR.nil ?_
 show AW _ _ _ _ _ _
 refine AW.cond rfl (fun _ => ?_) (fun hx => bool_no rfl hx)
 refine AW.seq ?_
 refine AW.cond rfl (fun _ => ?_) (fun hx => bool_no rfl hx)
 refine AW.seq ?_
 refine AW.region ?_
 show AR _ _ _ _ _ [0] _
 refine sR rfl rfl rfl (opR_mark0 .enable ⟨Tryz.func80, by kernel_rfl, by kernel_rfl, by kernel_rfl, by kernel_rfl⟩) ?_
 refine AR.nil ?_
 show AW _ _ _ _ _ _
 refine AW.region ?_
 show AR _ _ _ _ _ [0, 1, 2] _
 refine sS rfl rfl rfl (opS_move (av := .pt _ _) rfl) ?_
 refine sR rfl rfl rfl (opR_toUnsafe (i := 0) Tryz.underlying125 Tryz.underlying76 (by kernel_rfl) rfl rfl rfl) ?_
 refine sR rfl rfl rfl (opR_mark1 .acquire ⟨Tryz.func81, by kernel_rfl, by kernel_rfl, by kernel_rfl, by kernel_rfl⟩ rfl) ?_
 refine AR.nil ?_
 show AW _ _ _ _ _ _
 refine AW.ret ?_
 exact And.intro rfl (Exists.intro _ (Exists.intro _ ⟨ResV.noneW rfl, Sub.at [0] rfl, rfl, rfl⟩))
set_option maxRecDepth 100000 in
set_option maxHeartbeats 1000000 in
theorem w_sy_iUnlock (F : Nat) (o1 : Nat) (a2 : Int) (v3 : AV) (v4 : AV) (H : sy_iUnlock F a2 = some ()) : ACalls Tryz.prog 70 [.pt o1 1] [.obj o1 [.v (.int .u32 a2), .v (.int .i32 1), .v (.int .u32 0), v3, v4]] (fun e A' => e = .ret (.tup []) ∧ A' = [.obj o1 [.v (.int .u32 a2), .v (.int .i32 0), .v (.int .u32 0), v3, v4]]) := by
 unfold sy_iUnlock at H
 refine ACalls.of_body Tryz.func70 rfl rfl ?_
 show AW _ _ 21 _ _ _
 refine AW.cut (X := Unit) (fun _ => ⟨[(0, .pt o1 1)], [], [.obj o1 [.v (.int .u32 a2), .v (.int .i32 1), .v (.int .u32 0), v3, v4]]⟩) (fun _ => sy_iUnlock_j2 = some ()) ?_ ?_
 ·
  refine AW.cond rfl (fun _ => ?_) (fun hx => bool_no rfl hx)
  refine AW.seq ?_
  refine AW.region ?_
  show AR _ _ _ _ _ [0, 1, 2, 3] _
  refine sS rfl rfl rfl (opS_move (av := .pt _ _) rfl) ?_
  refine sS rfl rfl rfl (opS_nilCheck_pt rfl) ?_
  refine sS rfl rfl rfl (opS_fieldAddr_pt (n := 0) (by kernel_rfl) rfl) ?_
  refine sR rfl rfl rfl (opR_load_pt (i := 0) Tryz.underlying21 rfl rfl rfl rfl) ?_
  refine AR.nil ?_
  show AW _ _ _ _ _ _
  refine AW.seq ?_
  refine AW.region ?_
  show AR _ _ _ _ _ [0, 1, 2] _
  refine sS rfl rfl rfl (opS_move (av := .pt _ _) rfl) ?_
  refine sR rfl rfl rfl (opR_toUnsafe (i := 0) Tryz.underlying125 Tryz.underlying76 (by kernel_rfl) rfl rfl rfl) ?_
  refine sR rfl rfl rfl (opR_mark1 .releaseMerge ⟨Tryz.func83, by kernel_rfl, by kernel_rfl, by kernel_rfl, by kernel_rfl⟩ rfl) ?_
  refine AR.nil ?_
  show AW _ _ _ _ _ _
  refine AW.region ?_
  show AR _ _ _ _ _ [0] _
  refine sR rfl rfl rfl (opR_mark0 .disable ⟨Tryz.func78, by kernel_rfl, by kernel_rfl, by kernel_rfl, by kernel_rfl⟩) ?_
  refine AR.nil ?_
  exact Exists.intro () ⟨H, WK.at [0] (.cons (.refl _) (.nil _)) rfl⟩
 rintro _ H
 replace H : sy_iUnlock_j2 = some () := H
 unfold sy_iUnlock_j2 at H
 show AW _ _ _ _ _ _
 refine AW.seq ?_
 refine AW.region ?_
 show AR _ _ _ _ _ [0, 1, 2, 3, 4] _
 refine sS rfl rfl rfl (opS_move (av := .pt _ _) rfl) ?_
 refine sS rfl rfl rfl (opS_nilCheck_pt rfl) ?_
 refine sS rfl rfl rfl (opS_fieldAddr_pt (n := 0) (by kernel_rfl) rfl) ?_
 refine sR rfl rfl rfl (opR_atomAdd (i := 0) (k := .i32) (s := 0) ⟨Tryz.func84, by kernel_rfl, by kernel_rfl, by kernel_rfl, by kernel_rfl⟩ rfl rfl rfl rfl (by decide)) ?_
 refine sS rfl rfl rfl (asg rfl) ?_
 refine AR.nil ?_
 show AW _ _ _ _ _ _
 refine AW.cut (X := Unit) (fun _ => ⟨[], [], [.obj o1 [.v (.int .u32 a2), .v (.int .i32 0), .v (.int .u32 0), v3, v4]]⟩) (fun _ => sy_iUnlock_j1 = some ()) ?_ ?_
 ·
  refine AW.seq ?_
  refine AW.region ?_
  show AR _ _ _ _ _ [0, 1] _
  refine sS rfl rfl rfl (mv rfl) ?_
  refine sS rfl rfl rfl (OpS.eq (av' := B false) (opS_nei rfl rfl) (B_congr (by decide))) ?_
  refine AR.nil ?_
  show AW _ _ _ _ _ _
  refine AW.cond rfl (fun hx => bool_no hx rfl) (fun _ => ?_)
  refine AW.skip ?_
  exact Exists.intro () ⟨H, WK.at [0] (.nil _) rfl⟩
 rintro _ H
 replace H : sy_iUnlock_j1 = some () := H
 unfold sy_iUnlock_j1 at H
 show AW _ _ _ _ _ _
 refine AW.region ?_
 show AR _ _ _ _ _ [0] _
 refine sR rfl rfl rfl (opR_mark0 .enable ⟨Tryz.func80, by kernel_rfl, by kernel_rfl, by kernel_rfl, by kernel_rfl⟩) ?_
 refine AR.nil ?_
 exact And.intro rfl (Exists.intro _ (Exists.intro _ ⟨ResV.noneW rfl, Sub.at [0] rfl, rfl, rfl⟩))
set_option maxRecDepth 100000 in
set_option maxHeartbeats 1000000 in
theorem w_sy_Lock (F : Nat) (o1 : Nat) (v2 : AV) (v3 : AV) (H : sy_Lock F = some ()) : ACalls Tryz.prog 57 [.pt o1 1] [.obj o1 [.v (.int .u32 0), .v (.int .i32 0), .v (.int .u32 0), v2, v3]] (fun e A' => e = .ret (.tup []) ∧ A' = [.obj o1 [.v (.int .u32 0), .v (.int .i32 1), .v (.int .u32 0), v2, v3]]) := by
 unfold sy_Lock at H
 refine ACalls.of_body Tryz.func57 rfl rfl ?_
 show AW _ _ 6 _ _ _
 obtain ⟨_, e4, H⟩ := bnd_s H
 refine AW.region ?_
 show AR _ _ _ _ _ [0, 1, 2, 3] _
 refine sS rfl rfl rfl (opS_move (av := .pt _ _) rfl) ?_
 refine sS rfl rfl rfl (opS_nilCheck_pt rfl) ?_
 refine sS rfl rfl rfl (opS_fieldAddr_pt (n := 0) (by kernel_rfl) rfl) ?_
 refine AR.run rfl rfl (AO.callAt [0] rfl en69_rep rfl (w_sy_iLock F o1 v2 v3 e4) rfl (fun c A' h => by cases h.1) ?_)
 rintro av A' ⟨h, rfl⟩; cases h
 refine AR.nil ?_
 exact And.intro rfl (Exists.intro _ (Exists.intro _ ⟨ResV.noneW rfl, Sub.at [0] rfl, rfl, rfl⟩))
set_option maxRecDepth 100000 in
set_option maxHeartbeats 1000000 in
theorem w_sy_Unlock (F : Nat) (o1 : Nat) (a2 : Int) (v3 : AV) (v4 : AV) (H : sy_Unlock F a2 = some ()) : ACalls Tryz.prog 58 [.pt o1 1] [.obj o1 [.v (.int .u32 a2), .v (.int .i32 1), .v (.int .u32 0), v3, v4]] (fun e A' => e = .ret (.tup []) ∧ A' = [.obj o1 [.v (.int .u32 a2), .v (.int .i32 0), .v (.int .u32 0), v3, v4]]) := by
 unfold sy_Unlock at H
 refine ACalls.of_body Tryz.func58 rfl rfl ?_
 show AW _ _ 6 _ _ _
 obtain ⟨_, e5, H⟩ := bnd_s H
 refine AW.region ?_
 show AR _ _ _ _ _ [0, 1, 2, 3] _
 refine sS rfl rfl rfl (opS_move (av := .pt _ _) rfl) ?_
 refine sS rfl rfl rfl (opS_nilCheck_pt rfl) ?_
 refine sS rfl rfl rfl (opS_fieldAddr_pt (n := 0) (by kernel_rfl) rfl) ?_
 refine AR.run rfl rfl (AO.callAt [0] rfl en70_rep rfl (w_sy_iUnlock F o1 a2 v3 v4 e5) rfl (fun c A' h => by cases h.1) ?_)
 rintro av A' ⟨h, rfl⟩; cases h
 refine AR.nil ?_
 exact And.intro rfl (Exists.intro _ (Exists.intro _ ⟨ResV.noneW rfl, Sub.at [0] rfl, rfl, rfl⟩))
set_option maxRecDepth 100000 in
set_option maxHeartbeats 1000000 in
theorem d_sy_Unlock (u : FrameMode) (F : Nat) (o1 : Nat) (a2 : Int) (v3 : AV) (v4 : AV) (H : sy_Unlock F a2 = some ()) : ADCalls Tryz.prog 58 [.pt o1 1] [.obj o1 [.v (.int .u32 a2), .v (.int .i32 1), .v (.int .u32 0), v3, v4]] u (fun ae u' A' => ae = .ret (.tup []) ∧ u' = u ∧ A' = [.obj o1 [.v (.int .u32 a2), .v (.int .i32 0), .v (.int .u32 0), v3, v4]]) := by
 unfold sy_Unlock at H
 refine ADCalls.of_body Tryz.func58 rfl rfl ?_
 show AW _ _ 6 _ _ _
 obtain ⟨_, e5, H⟩ := bnd_s H
 refine AW.region ?_
 show AR _ _ _ _ _ [0, 1, 2, 3] _
 refine sS rfl rfl rfl (opS_move (av := .pt _ _) rfl) ?_
 refine sS rfl rfl rfl (opS_nilCheck_pt rfl) ?_
 refine sS rfl rfl rfl (opS_fieldAddr_pt (n := 0) (by kernel_rfl) rfl) ?_
 refine AR.run rfl rfl (AO.callAt [0] rfl en70_rep rfl (w_sy_iUnlock F o1 a2 v3 v4 e5) rfl (fun c A' h => by cases h.1) ?_)
 rintro av A' ⟨h, rfl⟩; cases h
 refine AR.nil ?_
 exact And.intro rfl (Exists.intro _ (Exists.intro _ ⟨ResV.noneW rfl, Sub.at [0] rfl, rfl, rfl, rfl⟩))
def entCells (r : List (List UInt8)) (q : Option Nat) : List AV := Enc.ob.fl entTab ++ [slE Enc.str r q]
theorem entRest (q : Option Nat) : AV.cp ((entCells entRep q).drop 256) = .cp [slE Enc.str entRep q] := by kernel_rfl
theorem entLe (q : Option Nat) : 256 ≤ (entCells entRep q).length := by
 have : (entCells entRep q).length = 257 := by kernel_rfl
 omega
theorem lib_Count1 (s c : List UInt8) (hc : c.length = 1) : ACalls Tryz.prog 145 [S s, S c] [] (Ret (i64 (Go.Lib.countByte s (at_ c 0) : Int)) []) := by
 obtain ⟨b, rfl⟩ : ∃ b, c = [b] := by
  match c, hc with
  | [b], _ => exact ⟨b, rfl⟩
 refine ACalls.of_below fun I A w vs hI hv => ?_
 obtain ⟨v1, r1, rfl, h1, hv⟩ := hv.out_cons
 obtain ⟨v2, r2, rfl, h2, hv⟩ := hv.out_cons
 rw [hv.out_nil, rel_S h1, rel_S h2]
 refine (Tryz.strings_Count_one ⟨s.toArray⟩ b w).mono fun e w' ⟨he, hw⟩ => ⟨by simpa [at_] using he, hw ▸ Below.refl _ _⟩
set_option maxRecDepth 100000 in
set_option maxHeartbeats 1000000 in
theorem w_rp_build (F : Nat) (o1 : Nat) (q2 : Option Nat) (r : List (List UInt8)) (H : rp_build F = some r) : ACalls Tryz.prog 44 [.pt o1 0] [.obj o1 [.v (.int .u32 0), .v (.int .i32 1), .v (.int .u32 0), .v .nilIface, slE Enc.str entOld q2]] (fun e A' => ∃ t : Nat, e = .ret (.ifc 102 (.cp (entCells r (some t)))) ∧ A' = [.obj o1 [.v (.int .u32 0), .v (.int .i32 1), .v (.int .u32 0), .v .nilIface, slE Enc.str entOld q2]]) := by
 unfold rp_build at H
 refine ACalls.of_body Tryz.func44 rfl rfl ?_
 show AW _ _ 132 _ _ _
 refine AW.seq ?_
 refine AW.region ?_
 show AR _ _ _ _ _ [0] _
 refine sS rfl rfl rfl (asg rfl) ?_
 refine AR.nil ?_
 show AW _ _ _ _ _ _
 refine AW.seq ?_
 refine AW.region ?_
 show AR _ _ _ _ _ [0, 1, 2, 3, 4] _
 refine sS rfl rfl rfl (opS_move (av := .pt _ _) rfl) ?_
 refine sS rfl rfl rfl (opS_nilCheck_pt rfl) ?_
 refine sS rfl rfl rfl (opS_fieldAddr_pt (n := 4) (by kernel_rfl) rfl) ?_
 refine sR rfl rfl rfl (opR_load_pt (i := 0) Tryz.underlying39 rfl rfl rfl rfl) ?_
 refine sS rfl rfl rfl (opS_assign (av := slE _ _ _) rfl) ?_
 refine AR.nil ?_
 show AW _ _ _ _ _ _
 refine AW.seq ?_
 refine AW.seq ?_
 refine AW.region ?_
 show AR _ _ _ _ _ [0, 1, 2, 3, 4, 5, 6, 7, 8, 9] _
 refine sS rfl rfl rfl (opS_move (av := slE _ _ _) rfl) ?_
 refine sS rfl rfl rfl (OpS.eq (av' := i64 8) (opS_len_sl Tryz.underlying39 rfl) rfl) ?_
 refine sS rfl rfl rfl (OpS.eq (av' := B false) (opS_eqi rfl rfl) (B_congr (by decide))) ?_
 refine sS rfl rfl rfl (mv rfl) ?_
 refine gF rfl rfl rfl rfl rfl rfl ?_
 refine gF rfl rfl rfl rfl rfl rfl ?_
 refine gF rfl rfl rfl rfl rfl rfl ?_
 refine gF rfl rfl rfl rfl rfl rfl ?_
 refine gF rfl rfl rfl rfl rfl rfl ?_
 refine sS rfl rfl rfl (opS_pick_f (av := .v _) rfl rfl rfl) ?_
 refine AR.nil ?_
 show AW _ _ _ _ _ _
 refine AW.cond rfl (fun hx => bool_no hx rfl) (fun _ => ?_)
 refine AW.skip ?_
 show AW _ _ _ _ _ _
 refine AW.seq ?_
 refine AW.region ?_
 show AR _ _ _ _ _ [0] _
 refine sS rfl rfl rfl (asg rfl) ?_
 refine AR.nil ?_
 show AW _ _ _ _ _ _
 refine AW.cut (X := Unit) (fun _ => ⟨[(3, slE Enc.str entOld q2), (4, B false)], [], [.obj o1 [.v (.int .u32 0), .v (.int .i32 1), .v (.int .u32 0), .v .nilIface, slE Enc.str entOld q2]]⟩) (fun _ => rp_build_j7 = some r) ?_ ?_
 ·
  refine AW.seq ?_
  refine AW.region ?_
  show AR _ _ _ _ _ [0] _
  refine sS rfl rfl rfl (asg rfl) ?_
  refine AR.nil ?_
  show AW _ _ _ _ _ _
  refine AW.block ?_
  refine AW.rounds 6 ?_
  show AW _ _ _ _ _ _
  refine AW.seq ?_
  refine AW.seq ?_
  refine AW.region ?_
  show AR _ _ _ _ _ [0, 1, 2, 3] _
  refine sS rfl rfl rfl (mv rfl) ?_
  refine sS rfl rfl rfl (opS_move (av := slE _ _ _) rfl) ?_
  refine sS rfl rfl rfl (OpS.eq (av' := i64 8) (opS_len_sl Tryz.underlying39 rfl) rfl) ?_
  refine sS rfl rfl rfl (OpS.eq (av' := B true) (opS_lt rfl rfl) (B_congr (by decide))) ?_
  refine AR.nil ?_
  show AW _ _ _ _ _ _
  refine AW.cond rfl (fun _ => ?_) (fun hx => bool_no rfl hx)
  refine AW.skip ?_
  show AW _ _ _ _ _ _
  refine AW.cut (X := Unit) (fun _ => ⟨[(3, slE Enc.str entOld q2), (4, B false), (5, i64 0)], [], [.obj o1 [.v (.int .u32 0), .v (.int .i32 1), .v (.int .u32 0), .v .nilIface, slE Enc.str entOld q2]]⟩) (fun _ => rp_build_j11 = some r) ?_ ?_
  ·
   refine AW.block ?_
   refine AW.seq ?_
   refine AW.seq ?_
   refine AW.region ?_
   show AR _ _ _ _ _ [0, 1, 2, 3, 4, 5] _
   refine sS rfl rfl rfl (opS_move (av := slE _ _ _) rfl) ?_
   refine sS rfl rfl rfl (mv rfl) ?_
   refine sS rfl rfl rfl (opS_indexAddr (E := Enc.str) (m := 0) Tryz.underlying39 (by kernel_rfl) rfl rfl rfl rfl) ?_
   refine sS rfl rfl rfl (opS_load_cp Tryz.underlying9 rfl rfl) ?_
   refine sS rfl rfl rfl (OpS.eq (av' := i64 1) (opS_len_str Tryz.underlying9 rfl) rfl) ?_
   refine sS rfl rfl rfl (OpS.eq (av' := B false) (opS_nei rfl rfl) (B_congr (by decide))) ?_
   refine AR.nil ?_
   show AW _ _ _ _ _ _
   refine AW.cond rfl (fun hx => bool_no hx rfl) (fun _ => ?_)
   refine AW.skip ?_
   show AW _ _ _ _ _ _
   refine AW.seq ?_
   refine AW.region ?_
   show AR _ _ _ _ _ [0, 1, 2, 3, 4, 5, 6] _
   refine sS rfl rfl rfl (opS_move (av := slE _ _ _) rfl) ?_
   refine sS rfl rfl rfl (mv rfl) ?_
   refine sS rfl rfl rfl (OpS.eq (av' := i64 1) (g_add rfl rfl (by decide)) rfl) ?_
   refine sS rfl rfl rfl (opS_indexAddr (E := Enc.str) (m := 1) Tryz.underlying39 (by kernel_rfl) rfl rfl rfl rfl) ?_
   refine sS rfl rfl rfl (opS_load_cp Tryz.underlying9 rfl rfl) ?_
   refine sS rfl rfl rfl (OpS.eq (av' := i64 5) (opS_len_str Tryz.underlying9 rfl) rfl) ?_
   refine sS rfl rfl rfl (OpS.eq (av' := B true) (opS_nei rfl rfl) (B_congr (by decide))) ?_
   refine AR.nil ?_
   show AW _ _ _ _ _ _
   refine AW.cond rfl (fun _ => ?_) (fun hx => bool_no rfl hx)
   refine AW.region ?_
   show AR _ _ _ _ _ [0] _
   refine sS rfl rfl rfl (asg rfl) ?_
   refine AR.nil ?_
   exact Exists.intro () ⟨H, WK.at [0] (.cons (.refl _) (.cons (.refl _) (.cons (.refl _) (.nil _)))) rfl⟩
  rintro _ H
  replace H : rp_build_j11 = some r := H
  unfold rp_build_j11 at H
  show AW _ _ _ _ _ _
  refine AW.region ?_
  show AR _ _ _ _ _ [0, 1, 2] _
  refine sS rfl rfl rfl (mv rfl) ?_
  refine sS rfl rfl rfl (OpS.eq (av' := i64 2) (g_add rfl rfl (by decide)) rfl) ?_
  refine sS rfl rfl rfl (asg rfl) ?_
  refine AR.nil ?_
  show AW _ _ _ _ _ _
  refine AW.seq ?_
  refine AW.seq ?_
  refine AW.region ?_
  show AR _ _ _ _ _ [0, 1, 2, 3] _
  refine sS rfl rfl rfl (mv rfl) ?_
  refine sS rfl rfl rfl (opS_move (av := slE _ _ _) rfl) ?_
  refine sS rfl rfl rfl (OpS.eq (av' := i64 8) (opS_len_sl Tryz.underlying39 rfl) rfl) ?_
  refine sS rfl rfl rfl (OpS.eq (av' := B true) (opS_lt rfl rfl) (B_congr (by decide))) ?_
  refine AR.nil ?_
  show AW _ _ _ _ _ _
  refine AW.cond rfl (fun _ => ?_) (fun hx => bool_no rfl hx)
  refine AW.skip ?_
  show AW _ _ _ _ _ _
  refine AW.cut (X := Unit) (fun _ => ⟨[(3, slE Enc.str entOld q2), (4, B false), (5, i64 2)], [], [.obj o1 [.v (.int .u32 0), .v (.int .i32 1), .v (.int .u32 0), .v .nilIface, slE Enc.str entOld q2]]⟩) (fun _ => rp_build_j10 = some r) ?_ ?_
  ·
   refine AW.block ?_
   refine AW.seq ?_
   refine AW.seq ?_
   refine AW.region ?_
   show AR _ _ _ _ _ [0, 1, 2, 3, 4, 5] _
   refine sS rfl rfl rfl (opS_move (av := slE _ _ _) rfl) ?_
   refine sS rfl rfl rfl (mv rfl) ?_
   refine sS rfl rfl rfl (opS_indexAddr (E := Enc.str) (m := 2) Tryz.underlying39 (by kernel_rfl) rfl rfl rfl rfl) ?_
   refine sS rfl rfl rfl (opS_load_cp Tryz.underlying9 rfl rfl) ?_
   refine sS rfl rfl rfl (OpS.eq (av' := i64 1) (opS_len_str Tryz.underlying9 rfl) rfl) ?_
   refine sS rfl rfl rfl (OpS.eq (av' := B false) (opS_nei rfl rfl) (B_congr (by decide))) ?_
   refine AR.nil ?_
   show AW _ _ _ _ _ _
   refine AW.cond rfl (fun hx => bool_no hx rfl) (fun _ => ?_)
   refine AW.skip ?_
   show AW _ _ _ _ _ _
   refine AW.seq ?_
   refine AW.region ?_
   show AR _ _ _ _ _ [0, 1, 2, 3, 4, 5, 6] _
   refine sS rfl rfl rfl (opS_move (av := slE _ _ _) rfl) ?_
   refine sS rfl rfl rfl (mv rfl) ?_
   refine sS rfl rfl rfl (OpS.eq (av' := i64 3) (g_add rfl rfl (by decide)) rfl) ?_
   refine sS rfl rfl rfl (opS_indexAddr (E := Enc.str) (m := 3) Tryz.underlying39 (by kernel_rfl) rfl rfl rfl rfl) ?_
   refine sS rfl rfl rfl (opS_load_cp Tryz.underlying9 rfl rfl) ?_
   refine sS rfl rfl rfl (OpS.eq (av' := i64 4) (opS_len_str Tryz.underlying9 rfl) rfl) ?_
   refine sS rfl rfl rfl (OpS.eq (av' := B true) (opS_nei rfl rfl) (B_congr (by decide))) ?_
   refine AR.nil ?_
   show AW _ _ _ _ _ _
   refine AW.cond rfl (fun _ => ?_) (fun hx => bool_no rfl hx)
   refine AW.region ?_
   show AR _ _ _ _ _ [0] _
   refine sS rfl rfl rfl (asg rfl) ?_
   refine AR.nil ?_
   exact Exists.intro () ⟨H, WK.at [0] (.cons (.refl _) (.cons (.refl _) (.cons (.refl _) (.nil _)))) rfl⟩
  rintro _ H
  replace H : rp_build_j10 = some r := H
  unfold rp_build_j10 at H
  show AW _ _ _ _ _ _
  refine AW.region ?_
  show AR _ _ _ _ _ [0, 1, 2] _
  refine sS rfl rfl rfl (mv rfl) ?_
  refine sS rfl rfl rfl (OpS.eq (av' := i64 4) (g_add rfl rfl (by decide)) rfl) ?_
  refine sS rfl rfl rfl (asg rfl) ?_
  refine AR.nil ?_
  show AW _ _ _ _ _ _
  refine AW.seq ?_
  refine AW.seq ?_
  refine AW.region ?_
  show AR _ _ _ _ _ [0, 1, 2, 3] _
  refine sS rfl rfl rfl (mv rfl) ?_
  refine sS rfl rfl rfl (opS_move (av := slE _ _ _) rfl) ?_
  refine sS rfl rfl rfl (OpS.eq (av' := i64 8) (opS_len_sl Tryz.underlying39 rfl) rfl) ?_
  refine sS rfl rfl rfl (OpS.eq (av' := B true) (opS_lt rfl rfl) (B_congr (by decide))) ?_
  refine AR.nil ?_
  show AW _ _ _ _ _ _
  refine AW.cond rfl (fun _ => ?_) (fun hx => bool_no rfl hx)
  refine AW.skip ?_
  show AW _ _ _ _ _ _
  refine AW.cut (X := Unit) (fun _ => ⟨[(3, slE Enc.str entOld q2), (4, B false), (5, i64 4)], [], [.obj o1 [.v (.int .u32 0), .v (.int .i32 1), .v (.int .u32 0), .v .nilIface, slE Enc.str entOld q2]]⟩) (fun _ => rp_build_j9 = some r) ?_ ?_
  ·
   refine AW.block ?_
   refine AW.seq ?_
   refine AW.seq ?_
   refine AW.region ?_
   show AR _ _ _ _ _ [0, 1, 2, 3, 4, 5] _
   refine sS rfl rfl rfl (opS_move (av := slE _ _ _) rfl) ?_
   refine sS rfl rfl rfl (mv rfl) ?_
   refine sS rfl rfl rfl (opS_indexAddr (E := Enc.str) (m := 4) Tryz.underlying39 (by kernel_rfl) rfl rfl rfl rfl) ?_
   refine sS rfl rfl rfl (opS_load_cp Tryz.underlying9 rfl rfl) ?_
   refine sS rfl rfl rfl (OpS.eq (av' := i64 1) (opS_len_str Tryz.underlying9 rfl) rfl) ?_
   refine sS rfl rfl rfl (OpS.eq (av' := B false) (opS_nei rfl rfl) (B_congr (by decide))) ?_
   refine AR.nil ?_
   show AW _ _ _ _ _ _
   refine AW.cond rfl (fun hx => bool_no hx rfl) (fun _ => ?_)
   refine AW.skip ?_
   show AW _ _ _ _ _ _
   refine AW.seq ?_
   refine AW.region ?_
   show AR _ _ _ _ _ [0, 1, 2, 3, 4, 5, 6] _
   refine sS rfl rfl rfl (opS_move (av := slE _ _ _) rfl) ?_
   refine sS rfl rfl rfl (mv rfl) ?_
   refine sS rfl rfl rfl (OpS.eq (av' := i64 5) (g_add rfl rfl (by decide)) rfl) ?_
   refine sS rfl rfl rfl (opS_indexAddr (E := Enc.str) (m := 5) Tryz.underlying39 (by kernel_rfl) rfl rfl rfl rfl) ?_
   refine sS rfl rfl rfl (opS_load_cp Tryz.underlying9 rfl rfl) ?_
   refine sS rfl rfl rfl (OpS.eq (av' := i64 4) (opS_len_str Tryz.underlying9 rfl) rfl) ?_
   refine sS rfl rfl rfl (OpS.eq (av' := B true) (opS_nei rfl rfl) (B_congr (by decide))) ?_
   refine AR.nil ?_
   show AW _ _ _ _ _ _
   refine AW.cond rfl (fun _ => ?_) (fun hx => bool_no rfl hx)
   refine AW.region ?_
   show AR _ _ _ _ _ [0] _
   refine sS rfl rfl rfl (asg rfl) ?_
   refine AR.nil ?_
   exact Exists.intro () ⟨H, WK.at [0] (.cons (.refl _) (.cons (.refl _) (.cons (.refl _) (.nil _)))) rfl⟩
  rintro _ H
  replace H : rp_build_j9 = some r := H
  unfold rp_build_j9 at H
  show AW _ _ _ _ _ _
  refine AW.region ?_
  show AR _ _ _ _ _ [0, 1, 2] _
  refine sS rfl rfl rfl (mv rfl) ?_
  refine sS rfl rfl rfl (OpS.eq (av' := i64 6) (g_add rfl rfl (by decide)) rfl) ?_
  refine sS rfl rfl rfl (asg rfl) ?_
  refine AR.nil ?_
  show AW _ _ _ _ _ _
  refine AW.seq ?_
  refine AW.seq ?_
  refine AW.region ?_
  show AR _ _ _ _ _ [0, 1, 2, 3] _
  refine sS rfl rfl rfl (mv rfl) ?_
  refine sS rfl rfl rfl (opS_move (av := slE _ _ _) rfl) ?_
  refine sS rfl rfl rfl (OpS.eq (av' := i64 8) (opS_len_sl Tryz.underlying39 rfl) rfl) ?_
  refine sS rfl rfl rfl (OpS.eq (av' := B true) (opS_lt rfl rfl) (B_congr (by decide))) ?_
  refine AR.nil ?_
  show AW _ _ _ _ _ _
  refine AW.cond rfl (fun _ => ?_) (fun hx => bool_no rfl hx)
  refine AW.skip ?_
  show AW _ _ _ _ _ _
  refine AW.cut (X := Unit) (fun _ => ⟨[(3, slE Enc.str entOld q2), (4, B false), (5, i64 6)], [], [.obj o1 [.v (.int .u32 0), .v (.int .i32 1), .v (.int .u32 0), .v .nilIface, slE Enc.str entOld q2]]⟩) (fun _ => rp_build_j8 = some r) ?_ ?_
  ·
   refine AW.block ?_
   refine AW.seq ?_
   refine AW.seq ?_
   refine AW.region ?_
   show AR _ _ _ _ _ [0, 1, 2, 3, 4, 5] _
   refine sS rfl rfl rfl (opS_move (av := slE _ _ _) rfl) ?_
   refine sS rfl rfl rfl (mv rfl) ?_
   refine sS rfl rfl rfl (opS_indexAddr (E := Enc.str) (m := 6) Tryz.underlying39 (by kernel_rfl) rfl rfl rfl rfl) ?_
   refine sS rfl rfl rfl (opS_load_cp Tryz.underlying9 rfl rfl) ?_
   refine sS rfl rfl rfl (OpS.eq (av' := i64 1) (opS_len_str Tryz.underlying9 rfl) rfl) ?_
   refine sS rfl rfl rfl (OpS.eq (av' := B false) (opS_nei rfl rfl) (B_congr (by decide))) ?_
   refine AR.nil ?_
   show AW _ _ _ _ _ _
   refine AW.cond rfl (fun hx => bool_no hx rfl) (fun _ => ?_)
   refine AW.skip ?_
   show AW _ _ _ _ _ _
   refine AW.seq ?_
   refine AW.region ?_
   show AR _ _ _ _ _ [0, 1, 2, 3, 4, 5, 6] _
   refine sS rfl rfl rfl (opS_move (av := slE _ _ _) rfl) ?_
   refine sS rfl rfl rfl (mv rfl) ?_
   refine sS rfl rfl rfl (OpS.eq (av' := i64 7) (g_add rfl rfl (by decide)) rfl) ?_
   refine sS rfl rfl rfl (opS_indexAddr (E := Enc.str) (m := 7) Tryz.underlying39 (by kernel_rfl) rfl rfl rfl rfl) ?_
   refine sS rfl rfl rfl (opS_load_cp Tryz.underlying9 rfl rfl) ?_
   refine sS rfl rfl rfl (OpS.eq (av' := i64 6) (opS_len_str Tryz.underlying9 rfl) rfl) ?_
   refine sS rfl rfl rfl (OpS.eq (av' := B true) (opS_nei rfl rfl) (B_congr (by decide))) ?_
   refine AR.nil ?_
   show AW _ _ _ _ _ _
   refine AW.cond rfl (fun _ => ?_) (fun hx => bool_no rfl hx)
   refine AW.region ?_
   show AR _ _ _ _ _ [0] _
   refine sS rfl rfl rfl (asg rfl) ?_
   refine AR.nil ?_
   exact Exists.intro () ⟨H, WK.at [0] (.cons (.refl _) (.cons (.refl _) (.cons (.refl _) (.nil _)))) rfl⟩
  rintro _ H
  replace H : rp_build_j8 = some r := H
  unfold rp_build_j8 at H
  show AW _ _ _ _ _ _
  refine AW.region ?_
  show AR _ _ _ _ _ [0, 1, 2] _
  refine sS rfl rfl rfl (mv rfl) ?_
  refine sS rfl rfl rfl (OpS.eq (av' := i64 8) (g_add rfl rfl (by decide)) rfl) ?_
  refine sS rfl rfl rfl (asg rfl) ?_
  refine AR.nil ?_
  show AW _ _ _ _ _ _
  refine AW.seq ?_
  refine AW.seq ?_
  refine AW.region ?_
  show AR _ _ _ _ _ [0, 1, 2, 3] _
  refine sS rfl rfl rfl (mv rfl) ?_
  refine sS rfl rfl rfl (opS_move (av := slE _ _ _) rfl) ?_
  refine sS rfl rfl rfl (OpS.eq (av' := i64 8) (opS_len_sl Tryz.underlying39 rfl) rfl) ?_
  refine sS rfl rfl rfl (OpS.eq (av' := B false) (opS_lt rfl rfl) (B_congr (by decide))) ?_
  refine AR.nil ?_
  show AW _ _ _ _ _ _
  refine AW.cond rfl (fun hx => bool_no hx rfl) (fun _ => ?_)
  refine AW.exit ?_
  exact Exists.intro () ⟨H, WK.at [0] (.cons (.refl _) (.cons (.refl _) (.nil _))) rfl⟩
 rintro _ H
 replace H : rp_build_j7 = some r := H
 unfold rp_build_j7 at H
 show AW _ _ _ _ _ _
 refine AW.cut (X := Unit) (fun _ => ⟨[(3, slE Enc.str entOld q2)], [], [.obj o1 [.v (.int .u32 0), .v (.int .i32 1), .v (.int .u32 0), .v .nilIface, slE Enc.str entOld q2]]⟩) (fun _ => rp_build_j6 = some r) ?_ ?_
 ·
  refine AW.seq ?_
  refine AW.region ?_
  show AR _ _ _ _ _ [0] _
  refine sS rfl rfl rfl (mv rfl) ?_
  refine AR.nil ?_
  show AW _ _ _ _ _ _
  refine AW.cond rfl (fun hx => bool_no hx rfl) (fun _ => ?_)
  refine AW.skip ?_
  exact Exists.intro () ⟨H, WK.at [0] (.cons (.refl _) (.nil _)) rfl⟩
 rintro _ H
 replace H : rp_build_j6 = some r := H
 unfold rp_build_j6 at H
 show AW _ _ _ _ _ _
 refine AW.seq ?_
 obtain ⟨g9, H⟩ := grd_s H
 refine AW.region ?_
 show AR _ _ _ _ _ [0, 1, 2, 3, 4, 5, 6] _
 refine sS rfl rfl rfl (opS_move (av := slE _ _ _) rfl) ?_
 refine sS rfl rfl rfl (OpS.eq (av' := i64 8) (opS_len_sl Tryz.underlying39 rfl) rfl) ?_
 refine sS rfl rfl rfl (OpS.eq (av' := i64 4) (g_quo rfl rfl g9) rfl) ?_
 refine sX rfl rfl rfl (opX_makeRow (k := 1) (bytes := 16) (cap := 4) Tryz.underlying39 (by kernel_rfl) rfl rfl rfl rfl (by decide) (by decide) (by decide)) ?_
 rintro _ _ ⟨t10, rfl, rfl⟩
 refine sS rfl rfl rfl (g_build (zs := [.slice none 0 0, .slice none 0 0, .slice none 0 0, .slice none 0 0, .slice none 0 0, .slice none 0 0, .slice none 0 0, .slice none 0 0, .slice none 0 0, .slice none 0 0, .slice none 0 0, .slice none 0 0, .slice none 0 0, .slice none 0 0, .slice none 0 0, .slice none 0 0, .slice none 0 0, .slice none 0 0, .slice none 0 0, .slice none 0 0, .slice none 0 0, .slice none 0 0, .slice none 0 0, .slice none 0 0, .slice none 0 0, .slice none 0 0, .slice none 0 0, .slice none 0 0, .slice none 0 0, .slice none 0 0, .slice none 0 0, .slice none 0 0, .slice none 0 0, .slice none 0 0, .slice none 0 0, .slice none 0 0, .slice none 0 0, .slice none 0 0, .slice none 0 0, .slice none 0 0, .slice none 0 0, .slice none 0 0, .slice none 0 0, .slice none 0 0, .slice none 0 0, .slice none 0 0, .slice none 0 0, .slice none 0 0, .slice none 0 0, .slice none 0 0, .slice none 0 0, .slice none 0 0, .slice none 0 0, .slice none 0 0, .slice none 0 0, .slice none 0 0, .slice none 0 0, .slice none 0 0, .slice none 0 0, .slice none 0 0, .slice none 0 0, .slice none 0 0, .slice none 0 0, .slice none 0 0, .slice none 0 0, .slice none 0 0, .slice none 0 0, .slice none 0 0, .slice none 0 0, .slice none 0 0, .slice none 0 0, .slice none 0 0, .slice none 0 0, .slice none 0 0, .slice none 0 0, .slice none 0 0, .slice none 0 0, .slice none 0 0, .slice none 0 0, .slice none 0 0, .slice none 0 0, .slice none 0 0, .slice none 0 0, .slice none 0 0, .slice none 0 0, .slice none 0 0, .slice none 0 0, .slice none 0 0, .slice none 0 0, .slice none 0 0, .slice none 0 0, .slice none 0 0, .slice none 0 0, .slice none 0 0, .slice none 0 0, .slice none 0 0, .slice none 0 0, .slice none 0 0, .slice none 0 0, .slice none 0 0, .slice none 0 0, .slice none 0 0, .slice none 0 0, .slice none 0 0, .slice none 0 0, .slice none 0 0, .slice none 0 0, .slice none 0 0, .slice none 0 0, .slice none 0 0, .slice none 0 0, .slice none 0 0, .slice none 0 0, .slice none 0 0, .slice none 0 0, .slice none 0 0, .slice none 0 0, .slice none 0 0, .slice none 0 0, .slice none 0 0, .slice none 0 0, .slice none 0 0, .slice none 0 0, .slice none 0 0, .slice none 0 0, .slice none 0 0, .slice none 0 0, .slice none 0 0, .slice none 0 0, .slice none 0 0, .slice none 0 0, .slice none 0 0, .slice none 0 0, .slice none 0 0, .slice none 0 0, .slice none 0 0, .slice none 0 0, .slice none 0 0, .slice none 0 0, .slice none 0 0, .slice none 0 0, .slice none 0 0, .slice none 0 0, .slice none 0 0, .slice none 0 0, .slice none 0 0, .slice none 0 0, .slice none 0 0, .slice none 0 0, .slice none 0 0, .slice none 0 0, .slice none 0 0, .slice none 0 0, .slice none 0 0, .slice none 0 0, .slice none 0 0, .slice none 0 0, .slice none 0 0, .slice none 0 0, .slice none 0 0, .slice none 0 0, .slice none 0 0, .slice none 0 0, .slice none 0 0, .slice none 0 0, .slice none 0 0, .slice none 0 0, .slice none 0 0, .slice none 0 0, .slice none 0 0, .slice none 0 0, .slice none 0 0, .slice none 0 0, .slice none 0 0, .slice none 0 0, .slice none 0 0, .slice none 0 0, .slice none 0 0, .slice none 0 0, .slice none 0 0, .slice none 0 0, .slice none 0 0, .slice none 0 0, .slice none 0 0, .slice none 0 0, .slice none 0 0, .slice none 0 0, .slice none 0 0, .slice none 0 0, .slice none 0 0, .slice none 0 0, .slice none 0 0, .slice none 0 0, .slice none 0 0, .slice none 0 0, .slice none 0 0, .slice none 0 0, .slice none 0 0, .slice none 0 0, .slice none 0 0, .slice none 0 0, .slice none 0 0, .slice none 0 0, .slice none 0 0, .slice none 0 0, .slice none 0 0, .slice none 0 0, .slice none 0 0, .slice none 0 0, .slice none 0 0, .slice none 0 0, .slice none 0 0, .slice none 0 0, .slice none 0 0, .slice none 0 0, .slice none 0 0, .slice none 0 0, .slice none 0 0, .slice none 0 0, .slice none 0 0, .slice none 0 0, .slice none 0 0, .slice none 0 0, .slice none 0 0, .slice none 0 0, .slice none 0 0, .slice none 0 0, .slice none 0 0, .slice none 0 0, .slice none 0 0, .slice none 0 0, .slice none 0 0, .slice none 0 0, .slice none 0 0, .slice none 0 0, .slice none 0 0, .slice none 0 0, .slice none 0 0, .slice none 0 0, .slice none 0 0, .slice none 0 0, .slice none 0 0, .slice none 0 0, .slice none 0 0, .slice none 0 0, .slice none 0 0, .slice none 0 0, .slice none 0 0, .slice none 0 0, .slice none 0 0, .slice none 0 0, .slice none 0 0, .slice none 0 0, .slice none 0 0, .slice none 0 0, .slice none 0 0, .slice none 0 0]) (ps := [(0, 256), (256, 1)]) (cs := [nilS, nilS, nilS, nilS, nilS, nilS, nilS, nilS, nilS, nilS, nilS, nilS, nilS, nilS, nilS, nilS, nilS, nilS, nilS, nilS, nilS, nilS, nilS, nilS, nilS, nilS, nilS, nilS, nilS, nilS, nilS, nilS, nilS, nilS, nilS, nilS, nilS, nilS, nilS, nilS, nilS, nilS, nilS, nilS, nilS, nilS, nilS, nilS, nilS, nilS, nilS, nilS, nilS, nilS, nilS, nilS, nilS, nilS, nilS, nilS, nilS, nilS, nilS, nilS, nilS, nilS, nilS, nilS, nilS, nilS, nilS, nilS, nilS, nilS, nilS, nilS, nilS, nilS, nilS, nilS, nilS, nilS, nilS, nilS, nilS, nilS, nilS, nilS, nilS, nilS, nilS, nilS, nilS, nilS, nilS, nilS, nilS, nilS, nilS, nilS, nilS, nilS, nilS, nilS, nilS, nilS, nilS, nilS, nilS, nilS, nilS, nilS, nilS, nilS, nilS, nilS, nilS, nilS, nilS, nilS, nilS, nilS, nilS, nilS, nilS, nilS, nilS, nilS, nilS, nilS, nilS, nilS, nilS, nilS, nilS, nilS, nilS, nilS, nilS, nilS, nilS, nilS, nilS, nilS, nilS, nilS, nilS, nilS, nilS, nilS, nilS, nilS, nilS, nilS, nilS, nilS, nilS, nilS, nilS, nilS, nilS, nilS, nilS, nilS, nilS, nilS, nilS, nilS, nilS, nilS, nilS, nilS, nilS, nilS, nilS, nilS, nilS, nilS, nilS, nilS, nilS, nilS, nilS, nilS, nilS, nilS, nilS, nilS, nilS, nilS, nilS, nilS, nilS, nilS, nilS, nilS, nilS, nilS, nilS, nilS, nilS, nilS, nilS, nilS, nilS, nilS, nilS, nilS, nilS, nilS, nilS, nilS, nilS, nilS, nilS, nilS, nilS, nilS, nilS, nilS, nilS, nilS, nilS, nilS, nilS, nilS, nilS, nilS, nilS, nilS, nilS, nilS, nilS, nilS, nilS, nilS, nilS, nilS, nilS, nilS, nilS, nilS, nilS, nilS, nilS, nilS, nilS, nilS, nilS, nilS, nilS, nilS, nilS, nilS, nilS, nilS, slE Enc.str ([] : List (List UInt8)) (some t10)]) (by kernel_rfl) rfl rfl) ?_
 refine sX rfl rfl rfl (opX_alloc (zs := [.slice none 0 0, .slice none 0 0, .slice none 0 0, .slice none 0 0, .slice none 0 0, .slice none 0 0, .slice none 0 0, .slice none 0 0, .slice none 0 0, .slice none 0 0, .slice none 0 0, .slice none 0 0, .slice none 0 0, .slice none 0 0, .slice none 0 0, .slice none 0 0, .slice none 0 0, .slice none 0 0, .slice none 0 0, .slice none 0 0, .slice none 0 0, .slice none 0 0, .slice none 0 0, .slice none 0 0, .slice none 0 0, .slice none 0 0, .slice none 0 0, .slice none 0 0, .slice none 0 0, .slice none 0 0, .slice none 0 0, .slice none 0 0, .slice none 0 0, .slice none 0 0, .slice none 0 0, .slice none 0 0, .slice none 0 0, .slice none 0 0, .slice none 0 0, .slice none 0 0, .slice none 0 0, .slice none 0 0, .slice none 0 0, .slice none 0 0, .slice none 0 0, .slice none 0 0, .slice none 0 0, .slice none 0 0, .slice none 0 0, .slice none 0 0, .slice none 0 0, .slice none 0 0, .slice none 0 0, .slice none 0 0, .slice none 0 0, .slice none 0 0, .slice none 0 0, .slice none 0 0, .slice none 0 0, .slice none 0 0, .slice none 0 0, .slice none 0 0, .slice none 0 0, .slice none 0 0, .slice none 0 0, .slice none 0 0, .slice none 0 0, .slice none 0 0, .slice none 0 0, .slice none 0 0, .slice none 0 0, .slice none 0 0, .slice none 0 0, .slice none 0 0, .slice none 0 0, .slice none 0 0, .slice none 0 0, .slice none 0 0, .slice none 0 0, .slice none 0 0, .slice none 0 0, .slice none 0 0, .slice none 0 0, .slice none 0 0, .slice none 0 0, .slice none 0 0, .slice none 0 0, .slice none 0 0, .slice none 0 0, .slice none 0 0, .slice none 0 0, .slice none 0 0, .slice none 0 0, .slice none 0 0, .slice none 0 0, .slice none 0 0, .slice none 0 0, .slice none 0 0, .slice none 0 0, .slice none 0 0, .slice none 0 0, .slice none 0 0, .slice none 0 0, .slice none 0 0, .slice none 0 0, .slice none 0 0, .slice none 0 0, .slice none 0 0, .slice none 0 0, .slice none 0 0, .slice none 0 0, .slice none 0 0, .slice none 0 0, .slice none 0 0, .slice none 0 0, .slice none 0 0, .slice none 0 0, .slice none 0 0, .slice none 0 0, .slice none 0 0, .slice none 0 0, .slice none 0 0, .slice none 0 0, .slice none 0 0, .slice none 0 0, .slice none 0 0, .slice none 0 0, .slice none 0 0, .slice none 0 0, .slice none 0 0, .slice none 0 0, .slice none 0 0, .slice none 0 0, .slice none 0 0, .slice none 0 0, .slice none 0 0, .slice none 0 0, .slice none 0 0, .slice none 0 0, .slice none 0 0, .slice none 0 0, .slice none 0 0, .slice none 0 0, .slice none 0 0, .slice none 0 0, .slice none 0 0, .slice none 0 0, .slice none 0 0, .slice none 0 0, .slice none 0 0, .slice none 0 0, .slice none 0 0, .slice none 0 0, .slice none 0 0, .slice none 0 0, .slice none 0 0, .slice none 0 0, .slice none 0 0, .slice none 0 0, .slice none 0 0, .slice none 0 0, .slice none 0 0, .slice none 0 0, .slice none 0 0, .slice none 0 0, .slice none 0 0, .slice none 0 0, .slice none 0 0, .slice none 0 0, .slice none 0 0, .slice none 0 0, .slice none 0 0, .slice none 0 0, .slice none 0 0, .slice none 0 0, .slice none 0 0, .slice none 0 0, .slice none 0 0, .slice none 0 0, .slice none 0 0, .slice none 0 0, .slice none 0 0, .slice none 0 0, .slice none 0 0, .slice none 0 0, .slice none 0 0, .slice none 0 0, .slice none 0 0, .slice none 0 0, .slice none 0 0, .slice none 0 0, .slice none 0 0, .slice none 0 0, .slice none 0 0, .slice none 0 0, .slice none 0 0, .slice none 0 0, .slice none 0 0, .slice none 0 0, .slice none 0 0, .slice none 0 0, .slice none 0 0, .slice none 0 0, .slice none 0 0, .slice none 0 0, .slice none 0 0, .slice none 0 0, .slice none 0 0, .slice none 0 0, .slice none 0 0, .slice none 0 0, .slice none 0 0, .slice none 0 0, .slice none 0 0, .slice none 0 0, .slice none 0 0, .slice none 0 0, .slice none 0 0, .slice none 0 0, .slice none 0 0, .slice none 0 0, .slice none 0 0, .slice none 0 0, .slice none 0 0, .slice none 0 0, .slice none 0 0, .slice none 0 0, .slice none 0 0, .slice none 0 0, .slice none 0 0, .slice none 0 0, .slice none 0 0, .slice none 0 0, .slice none 0 0, .slice none 0 0, .slice none 0 0, .slice none 0 0, .slice none 0 0, .slice none 0 0, .slice none 0 0, .slice none 0 0, .slice none 0 0, .slice none 0 0, .slice none 0 0, .slice none 0 0, .slice none 0 0, .slice none 0 0, .slice none 0 0, .slice none 0 0, .slice none 0 0, .slice none 0 0, .slice none 0 0, .slice none 0 0, .slice none 0 0, .slice none 0 0, .slice none 0 0, .slice none 0 0]) (by kernel_rfl)) ?_
 rintro _ _ ⟨o11, rfl, rfl⟩
 refine s0 rfl rfl (opR_store_agg (i := 0) (vs := [nilS, nilS, nilS, nilS, nilS, nilS, nilS, nilS, nilS, nilS, nilS, nilS, nilS, nilS, nilS, nilS, nilS, nilS, nilS, nilS, nilS, nilS, nilS, nilS, nilS, nilS, nilS, nilS, nilS, nilS, nilS, nilS, nilS, nilS, nilS, nilS, nilS, nilS, nilS, nilS, nilS, nilS, nilS, nilS, nilS, nilS, nilS, nilS, nilS, nilS, nilS, nilS, nilS, nilS, nilS, nilS, nilS, nilS, nilS, nilS, nilS, nilS, nilS, nilS, nilS, nilS, nilS, nilS, nilS, nilS, nilS, nilS, nilS, nilS, nilS, nilS, nilS, nilS, nilS, nilS, nilS, nilS, nilS, nilS, nilS, nilS, nilS, nilS, nilS, nilS, nilS, nilS, nilS, nilS, nilS, nilS, nilS, nilS, nilS, nilS, nilS, nilS, nilS, nilS, nilS, nilS, nilS, nilS, nilS, nilS, nilS, nilS, nilS, nilS, nilS, nilS, nilS, nilS, nilS, nilS, nilS, nilS, nilS, nilS, nilS, nilS, nilS, nilS, nilS, nilS, nilS, nilS, nilS, nilS, nilS, nilS, nilS, nilS, nilS, nilS, nilS, nilS, nilS, nilS, nilS, nilS, nilS, nilS, nilS, nilS, nilS, nilS, nilS, nilS, nilS, nilS, nilS, nilS, nilS, nilS, nilS, nilS, nilS, nilS, nilS, nilS, nilS, nilS, nilS, nilS, nilS, nilS, nilS, nilS, nilS, nilS, nilS, nilS, nilS, nilS, nilS, nilS, nilS, nilS, nilS, nilS, nilS, nilS, nilS, nilS, nilS, nilS, nilS, nilS, nilS, nilS, nilS, nilS, nilS, nilS, nilS, nilS, nilS, nilS, nilS, nilS, nilS, nilS, nilS, nilS, nilS, nilS, nilS, nilS, nilS, nilS, nilS, nilS, nilS, nilS, nilS, nilS, nilS, nilS, nilS, nilS, nilS, nilS, nilS, nilS, nilS, nilS, nilS, nilS, nilS, nilS, nilS, nilS, nilS, nilS, nilS, nilS, nilS, nilS, nilS, nilS, nilS, nilS, nilS, nilS, nilS, nilS, nilS, nilS, nilS, nilS, slE Enc.str ([] : List (List UInt8)) (some t10)]) (by kernel_rfl) rfl rfl (by simp [isCell, slE]) rfl (Nat.le_of_ble_eq_true rfl)) ?_
 refine AR.nil ?_
 show AW _ _ _ _ _ _
 refine AW.cut (X := (List (List UInt8)) × Nat) (fun (y44, t45) => ⟨[(11, .pt o11 0)], [], [.obj o11 [nilS, nilS, nilS, nilS, nilS, nilS, nilS, nilS, nilS, nilS, nilS, nilS, nilS, nilS, nilS, nilS, nilS, nilS, nilS, nilS, nilS, nilS, nilS, nilS, nilS, nilS, nilS, nilS, nilS, nilS, nilS, nilS, nilS, nilS, slE Enc.byte ([38, 113, 117, 111, 116, 59] : List UInt8) none, nilS, nilS, nilS, slE Enc.byte ([38, 97, 109, 112, 59] : List UInt8) none, nilS, nilS, nilS, nilS, nilS, nilS, nilS, nilS, nilS, nilS, nilS, nilS, nilS, nilS, nilS, nilS, nilS, nilS, nilS, nilS, nilS, slE Enc.byte ([38, 108, 116, 59] : List UInt8) none, nilS, slE Enc.byte ([38, 103, 116, 59] : List UInt8) none, nilS, nilS, nilS, nilS, nilS, nilS, nilS, nilS, nilS, nilS, nilS, nilS, nilS, nilS, nilS, nilS, nilS, nilS, nilS, nilS, nilS, nilS, nilS, nilS, nilS, nilS, nilS, nilS, nilS, nilS, nilS, nilS, nilS, nilS, nilS, nilS, nilS, nilS, nilS, nilS, nilS, nilS, nilS, nilS, nilS, nilS, nilS, nilS, nilS, nilS, nilS, nilS, nilS, nilS, nilS, nilS, nilS, nilS, nilS, nilS, nilS, nilS, nilS, nilS, nilS, nilS, nilS, nilS, nilS, nilS, nilS, nilS, nilS, nilS, nilS, nilS, nilS, nilS, nilS, nilS, nilS, nilS, nilS, nilS, nilS, nilS, nilS, nilS, nilS, nilS, nilS, nilS, nilS, nilS, nilS, nilS, nilS, nilS, nilS, nilS, nilS, nilS, nilS, nilS, nilS, nilS, nilS, nilS, nilS, nilS, nilS, nilS, nilS, nilS, nilS, nilS, nilS, nilS, nilS, nilS, nilS, nilS, nilS, nilS, nilS, nilS, nilS, nilS, nilS, nilS, nilS, nilS, nilS, nilS, nilS, nilS, nilS, nilS, nilS, nilS, nilS, nilS, nilS, nilS, nilS, nilS, nilS, nilS, nilS, nilS, nilS, nilS, nilS, nilS, nilS, nilS, nilS, nilS, nilS, nilS, nilS, nilS, nilS, nilS, nilS, nilS, nilS, nilS, nilS, nilS, nilS, nilS, nilS, nilS, nilS, nilS, nilS, nilS, nilS, nilS, nilS, nilS, nilS, nilS, nilS, nilS, nilS, nilS, nilS, nilS, nilS, nilS, nilS, slE Enc.str y44 (some t45)], .obj o1 [.v (.int .u32 0), .v (.int .i32 1), .v (.int .u32 0), .v .nilIface, slE Enc.str entOld q2], .tok t45 9]⟩) (fun (y44, t45) => rp_build_j1 y44 = some r) ?_ ?_
 ·
  refine AW.seq ?_
  refine AW.region ?_
  show AR _ _ _ _ _ [0, 1, 2, 3] _
  refine sS rfl rfl rfl (opS_move (av := slE _ _ _) rfl) ?_
  refine sS rfl rfl rfl (OpS.eq (av' := i64 8) (opS_len_sl Tryz.underlying39 rfl) rfl) ?_
  refine sS rfl rfl rfl (OpS.eq (av' := i64 6) (g_sub rfl rfl (by decide)) rfl) ?_
  refine sS rfl rfl rfl (asg rfl) ?_
  refine AR.nil ?_
  show AW _ _ _ _ _ _
  refine AW.block ?_
  refine AW.rounds 6 ?_
  show AW _ _ _ _ _ _
  refine AW.seq ?_
  refine AW.seq ?_
  refine AW.region ?_
  show AR _ _ _ _ _ [0, 1] _
  refine sS rfl rfl rfl (mv rfl) ?_
  refine sS rfl rfl rfl (OpS.eq (av' := B true) (opS_ge rfl rfl) (B_congr (by decide))) ?_
  refine AR.nil ?_
  show AW _ _ _ _ _ _
  refine AW.cond rfl (fun _ => ?_) (fun hx => bool_no rfl hx)
  refine AW.skip ?_
  show AW _ _ _ _ _ _
  refine AW.seq ?_
  refine AW.block ?_
  refine AW.seq ?_
  refine AW.region ?_
  show AR _ _ _ _ _ [0, 1, 2, 3, 4, 5] _
  refine sS rfl rfl rfl (opS_move (av := slE _ _ _) rfl) ?_
  refine sS rfl rfl rfl (mv rfl) ?_
  refine sS rfl rfl rfl (opS_indexAddr (E := Enc.str) (m := 6) Tryz.underlying39 (by kernel_rfl) rfl rfl rfl rfl) ?_
  refine sS rfl rfl rfl (opS_load_cp Tryz.underlying9 rfl rfl) ?_
  refine sS rfl rfl rfl (opS_index_str (m := 0) (c := 34) Tryz.underlying9 rfl rfl rfl rfl) ?_
  refine sS rfl rfl rfl (asg rfl) ?_
  refine AR.nil ?_
  show AW _ _ _ _ _ _
  refine AW.seq ?_
  refine AW.region ?_
  show AR _ _ _ _ _ [0, 1, 2, 3, 4, 5] _
  refine sS rfl rfl rfl (opS_move (av := slE _ _ _) rfl) ?_
  refine sS rfl rfl rfl (mv rfl) ?_
  refine sS rfl rfl rfl (OpS.eq (av' := i64 7) (g_add rfl rfl (by decide)) rfl) ?_
  refine sS rfl rfl rfl (opS_indexAddr (E := Enc.str) (m := 7) Tryz.underlying39 (by kernel_rfl) rfl rfl rfl rfl) ?_
  refine sS rfl rfl rfl (opS_load_cp Tryz.underlying9 rfl rfl) ?_
  refine sS rfl rfl rfl (asg rfl) ?_
  refine AR.nil ?_
  show AW _ _ _ _ _ _
  refine AW.cut (X := (List (List UInt8)) × Nat) (fun (y16, t17) => ⟨[(3, slE Enc.str entOld q2), (11, .pt o11 0), (12, i64 6), (13, u8 34), (14, S ([38, 113, 117, 111, 116, 59] : List UInt8))], [], [.obj o11 [nilS, nilS, nilS, nilS, nilS, nilS, nilS, nilS, nilS, nilS, nilS, nilS, nilS, nilS, nilS, nilS, nilS, nilS, nilS, nilS, nilS, nilS, nilS, nilS, nilS, nilS, nilS, nilS, nilS, nilS, nilS, nilS, nilS, nilS, nilS, nilS, nilS, nilS, nilS, nilS, nilS, nilS, nilS, nilS, nilS, nilS, nilS, nilS, nilS, nilS, nilS, nilS, nilS, nilS, nilS, nilS, nilS, nilS, nilS, nilS, nilS, nilS, nilS, nilS, nilS, nilS, nilS, nilS, nilS, nilS, nilS, nilS, nilS, nilS, nilS, nilS, nilS, nilS, nilS, nilS, nilS, nilS, nilS, nilS, nilS, nilS, nilS, nilS, nilS, nilS, nilS, nilS, nilS, nilS, nilS, nilS, nilS, nilS, nilS, nilS, nilS, nilS, nilS, nilS, nilS, nilS, nilS, nilS, nilS, nilS, nilS, nilS, nilS, nilS, nilS, nilS, nilS, nilS, nilS, nilS, nilS, nilS, nilS, nilS, nilS, nilS, nilS, nilS, nilS, nilS, nilS, nilS, nilS, nilS, nilS, nilS, nilS, nilS, nilS, nilS, nilS, nilS, nilS, nilS, nilS, nilS, nilS, nilS, nilS, nilS, nilS, nilS, nilS, nilS, nilS, nilS, nilS, nilS, nilS, nilS, nilS, nilS, nilS, nilS, nilS, nilS, nilS, nilS, nilS, nilS, nilS, nilS, nilS, nilS, nilS, nilS, nilS, nilS, nilS, nilS, nilS, nilS, nilS, nilS, nilS, nilS, nilS, nilS, nilS, nilS, nilS, nilS, nilS, nilS, nilS, nilS, nilS, nilS, nilS, nilS, nilS, nilS, nilS, nilS, nilS, nilS, nilS, nilS, nilS, nilS, nilS, nilS, nilS, nilS, nilS, nilS, nilS, nilS, nilS, nilS, nilS, nilS, nilS, nilS, nilS, nilS, nilS, nilS, nilS, nilS, nilS, nilS, nilS, nilS, nilS, nilS, nilS, nilS, nilS, nilS, nilS, nilS, nilS, nilS, nilS, nilS, nilS, nilS, nilS, nilS, nilS, nilS, nilS, nilS, nilS, nilS, slE Enc.str y16 (some t17)], .obj o1 [.v (.int .u32 0), .v (.int .i32 1), .v (.int .u32 0), .v .nilIface, slE Enc.str entOld q2], .tok t17 9]⟩) (fun (y16, t17) => rp_build_j5 y16 = some r) ?_ ?_
  ·
   refine AW.seq ?_
   refine AW.region ?_
   show AR _ _ _ _ _ [0, 1, 2, 3, 4] _
   refine sS rfl rfl rfl (mv rfl) ?_
   refine sS rfl rfl rfl (opS_fieldAddr_pt (n := 0) (by kernel_rfl) rfl) ?_
   refine sS rfl rfl rfl (opS_indexAddr_arr (Ar := 0) (k := 1) (m := 34) Tryz.underlying99 (by kernel_rfl) rfl rfl rfl (by decide)) ?_
   refine sR rfl rfl rfl (opR_load_pt (i := 0) Tryz.underlying36 rfl rfl rfl rfl) ?_
   refine sS rfl rfl rfl (opS_nil_nil (.inl rfl) Tryz.underlying36 rfl rfl) ?_
   refine AR.nil ?_
   show AW _ _ _ _ _ _
   refine AW.cond rfl (fun _ => ?_) (fun hx => bool_no rfl hx)
   obtain ⟨g13, H⟩ := grd_s H
   obtain ⟨x14, e15, H⟩ := lt_s H
   refine AW.region ?_
   show AR _ _ _ _ _ [0, 1, 2, 3, 4, 5, 6, 7, 8] _
   refine sS rfl rfl rfl (opS_fieldAddr_pt (n := 256) (by kernel_rfl) rfl) ?_
   refine sR rfl rfl rfl (opR_load_pt (i := 0) Tryz.underlying39 rfl rfl rfl rfl) ?_
   refine sS rfl rfl rfl (mv rfl) ?_
   refine sR rfl rfl rfl (opR_buildE (E := Enc.byte) (bytes := 1) (xs := [.tmp 120]) (l := ([34] : List UInt8)) Tryz.underlying36 (by kernel_rfl) rfl rfl (by decide) rfl rfl) ?_
   refine sS rfl rfl rfl (opS_conv_bytes_str Tryz.underlying36 Tryz.underlying5 Tryz.underlying9 rfl) ?_
   refine sR rfl rfl rfl (opR_buildE (E := Enc.str) (bytes := 16) (xs := [.tmp 122]) (l := ([([34] : List UInt8)] : List (List UInt8))) Tryz.underlying39 (by kernel_rfl) rfl rfl (by decide) rfl rfl) ?_
   refine sX rfl rfl rfl (g_append (E := Enc.str) (bytes := 16) 1 Tryz.underlying39 Tryz.underlying39 rfl (by kernel_rfl) rfl rfl rfl rfl g13 e15) ?_
   rintro _ _ ⟨t12, rfl, rfl⟩
   refine sS rfl rfl rfl (opS_fieldAddr_pt (n := 256) (by kernel_rfl) rfl) ?_
   refine s0 rfl rfl (opR_store_pt (i := 0) (c := slE _ _ _) (by kernel_rfl) rfl rfl rfl rfl (Nat.le_of_ble_eq_true rfl)) ?_
   refine AR.nil ?_
   exact Exists.intro (x14, t12) ⟨H, WK.at [0, 1, 0] (.cons (.refl _) (.cons (.refl _) (.cons (.refl _) (.cons (.refl _) (.cons (.refl _) (.nil _)))))) rfl⟩
  rintro ⟨y16, t17⟩ H
  replace H : rp_build_j5 y16 = some r := H
  unfold rp_build_j5 at H
  show AW _ _ _ _ _ _
  obtain ⟨g19, H⟩ := grd_s H
  refine AW.region ?_
  show AR _ _ _ _ _ [0, 1, 2, 3, 4, 5] _
  refine sS rfl rfl rfl (mv rfl) ?_
  refine sS rfl rfl rfl (mv rfl) ?_
  refine sR rfl rfl rfl (OpX.still (g_conv_str_bytes (bytes := 1) Tryz.underlying9 Tryz.underlying36 Tryz.underlying5 rfl g19)) ?_
  refine sS rfl rfl rfl (opS_fieldAddr_pt (n := 0) (by kernel_rfl) rfl) ?_
  refine sS rfl rfl rfl (opS_indexAddr_arr (Ar := 0) (k := 1) (m := 34) Tryz.underlying99 (by kernel_rfl) rfl rfl rfl (by decide)) ?_
  refine s0 rfl rfl (opR_store_pt (i := 0) (c := slE _ _ _) (by kernel_rfl) rfl rfl rfl rfl (Nat.le_of_ble_eq_true rfl)) ?_
  refine AR.nil ?_
  show AW _ _ _ _ _ _
  refine AW.region ?_
  show AR _ _ _ _ _ [0, 1, 2] _
  refine sS rfl rfl rfl (mv rfl) ?_
  refine sS rfl rfl rfl (OpS.eq (av' := i64 4) (g_sub rfl rfl (by decide)) rfl) ?_
  refine sS rfl rfl rfl (asg rfl) ?_
  refine AR.nil ?_
  show AW _ _ _ _ _ _
  refine AW.seq ?_
  refine AW.seq ?_
  refine AW.region ?_
  show AR _ _ _ _ _ [0, 1] _
  refine sS rfl rfl rfl (mv rfl) ?_
  refine sS rfl rfl rfl (OpS.eq (av' := B true) (opS_ge rfl rfl) (B_congr (by decide))) ?_
  refine AR.nil ?_
  show AW _ _ _ _ _ _
  refine AW.cond rfl (fun _ => ?_) (fun hx => bool_no rfl hx)
  refine AW.skip ?_
  show AW _ _ _ _ _ _
  refine AW.seq ?_
  refine AW.block ?_
  refine AW.seq ?_
  refine AW.region ?_
  show AR _ _ _ _ _ [0, 1, 2, 3, 4, 5] _
  refine sS rfl rfl rfl (opS_move (av := slE _ _ _) rfl) ?_
  refine sS rfl rfl rfl (mv rfl) ?_
  refine sS rfl rfl rfl (opS_indexAddr (E := Enc.str) (m := 4) Tryz.underlying39 (by kernel_rfl) rfl rfl rfl rfl) ?_
  refine sS rfl rfl rfl (opS_load_cp Tryz.underlying9 rfl rfl) ?_
  refine sS rfl rfl rfl (opS_index_str (m := 0) (c := 62) Tryz.underlying9 rfl rfl rfl rfl) ?_
  refine sS rfl rfl rfl (asg rfl) ?_
  refine AR.nil ?_
  show AW _ _ _ _ _ _
  refine AW.seq ?_
  refine AW.region ?_
  show AR _ _ _ _ _ [0, 1, 2, 3, 4, 5] _
  refine sS rfl rfl rfl (opS_move (av := slE _ _ _) rfl) ?_
  refine sS rfl rfl rfl (mv rfl) ?_
  refine sS rfl rfl rfl (OpS.eq (av' := i64 5) (g_add rfl rfl (by decide)) rfl) ?_
  refine sS rfl rfl rfl (opS_indexAddr (E := Enc.str) (m := 5) Tryz.underlying39 (by kernel_rfl) rfl rfl rfl rfl) ?_
  refine sS rfl rfl rfl (opS_load_cp Tryz.underlying9 rfl rfl) ?_
  refine sS rfl rfl rfl (asg rfl) ?_
  refine AR.nil ?_
  show AW _ _ _ _ _ _
  refine AW.cut (X := (List (List UInt8)) × Nat) (fun (y24, t25) => ⟨[(3, slE Enc.str entOld q2), (11, .pt o11 0), (12, i64 4), (13, u8 62), (14, S ([38, 103, 116, 59] : List UInt8))], [], [.obj o11 [nilS, nilS, nilS, nilS, nilS, nilS, nilS, nilS, nilS, nilS, nilS, nilS, nilS, nilS, nilS, nilS, nilS, nilS, nilS, nilS, nilS, nilS, nilS, nilS, nilS, nilS, nilS, nilS, nilS, nilS, nilS, nilS, nilS, nilS, slE Enc.byte ([38, 113, 117, 111, 116, 59] : List UInt8) none, nilS, nilS, nilS, nilS, nilS, nilS, nilS, nilS, nilS, nilS, nilS, nilS, nilS, nilS, nilS, nilS, nilS, nilS, nilS, nilS, nilS, nilS, nilS, nilS, nilS, nilS, nilS, nilS, nilS, nilS, nilS, nilS, nilS, nilS, nilS, nilS, nilS, nilS, nilS, nilS, nilS, nilS, nilS, nilS, nilS, nilS, nilS, nilS, nilS, nilS, nilS, nilS, nilS, nilS, nilS, nilS, nilS, nilS, nilS, nilS, nilS, nilS, nilS, nilS, nilS, nilS, nilS, nilS, nilS, nilS, nilS, nilS, nilS, nilS, nilS, nilS, nilS, nilS, nilS, nilS, nilS, nilS, nilS, nilS, nilS, nilS, nilS, nilS, nilS, nilS, nilS, nilS, nilS, nilS, nilS, nilS, nilS, nilS, nilS, nilS, nilS, nilS, nilS, nilS, nilS, nilS, nilS, nilS, nilS, nilS, nilS, nilS, nilS, nilS, nilS, nilS, nilS, nilS, nilS, nilS, nilS, nilS, nilS, nilS, nilS, nilS, nilS, nilS, nilS, nilS, nilS, nilS, nilS, nilS, nilS, nilS, nilS, nilS, nilS, nilS, nilS, nilS, nilS, nilS, nilS, nilS, nilS, nilS, nilS, nilS, nilS, nilS, nilS, nilS, nilS, nilS, nilS, nilS, nilS, nilS, nilS, nilS, nilS, nilS, nilS, nilS, nilS, nilS, nilS, nilS, nilS, nilS, nilS, nilS, nilS, nilS, nilS, nilS, nilS, nilS, nilS, nilS, nilS, nilS, nilS, nilS, nilS, nilS, nilS, nilS, nilS, nilS, nilS, nilS, nilS, nilS, nilS, nilS, nilS, nilS, nilS, nilS, nilS, nilS, nilS, nilS, nilS, nilS, nilS, nilS, nilS, nilS, nilS, nilS, nilS, nilS, nilS, nilS, nilS, nilS, nilS, slE Enc.str y24 (some t25)], .obj o1 [.v (.int .u32 0), .v (.int .i32 1), .v (.int .u32 0), .v .nilIface, slE Enc.str entOld q2], .tok t25 9]⟩) (fun (y24, t25) => rp_build_j4 y24 = some r) ?_ ?_
  ·
   refine AW.seq ?_
   refine AW.region ?_
   show AR _ _ _ _ _ [0, 1, 2, 3, 4] _
   refine sS rfl rfl rfl (mv rfl) ?_
   refine sS rfl rfl rfl (opS_fieldAddr_pt (n := 0) (by kernel_rfl) rfl) ?_
   refine sS rfl rfl rfl (opS_indexAddr_arr (Ar := 0) (k := 1) (m := 62) Tryz.underlying99 (by kernel_rfl) rfl rfl rfl (by decide)) ?_
   refine sR rfl rfl rfl (opR_load_pt (i := 0) Tryz.underlying36 rfl rfl rfl rfl) ?_
   refine sS rfl rfl rfl (opS_nil_nil (.inl rfl) Tryz.underlying36 rfl rfl) ?_
   refine AR.nil ?_
   show AW _ _ _ _ _ _
   refine AW.cond rfl (fun _ => ?_) (fun hx => bool_no rfl hx)
   obtain ⟨g21, H⟩ := grd_s H
   obtain ⟨x22, e23, H⟩ := lt_s H
   refine AW.region ?_
   show AR _ _ _ _ _ [0, 1, 2, 3, 4, 5, 6, 7, 8] _
   refine sS rfl rfl rfl (opS_fieldAddr_pt (n := 256) (by kernel_rfl) rfl) ?_
   refine sR rfl rfl rfl (opR_load_pt (i := 0) Tryz.underlying39 rfl rfl rfl rfl) ?_
   refine sS rfl rfl rfl (mv rfl) ?_
   refine sR rfl rfl rfl (opR_buildE (E := Enc.byte) (bytes := 1) (xs := [.tmp 120]) (l := ([62] : List UInt8)) Tryz.underlying36 (by kernel_rfl) rfl rfl (by decide) rfl rfl) ?_
   refine sS rfl rfl rfl (opS_conv_bytes_str Tryz.underlying36 Tryz.underlying5 Tryz.underlying9 rfl) ?_
   refine sR rfl rfl rfl (opR_buildE (E := Enc.str) (bytes := 16) (xs := [.tmp 122]) (l := ([([62] : List UInt8)] : List (List UInt8))) Tryz.underlying39 (by kernel_rfl) rfl rfl (by decide) rfl rfl) ?_
   refine sX rfl rfl rfl (g_append (E := Enc.str) (bytes := 16) 2 Tryz.underlying39 Tryz.underlying39 rfl (by kernel_rfl) rfl rfl rfl rfl g21 e23) ?_
   rintro _ _ ⟨t20, rfl, rfl⟩
   refine sS rfl rfl rfl (opS_fieldAddr_pt (n := 256) (by kernel_rfl) rfl) ?_
   refine s0 rfl rfl (opR_store_pt (i := 0) (c := slE _ _ _) (by kernel_rfl) rfl rfl rfl rfl (Nat.le_of_ble_eq_true rfl)) ?_
   refine AR.nil ?_
   exact Exists.intro (x22, t20) ⟨H, WK.at [0, 0, 0] (.cons (.refl _) (.cons (.refl _) (.cons (.refl _) (.cons (.refl _) (.cons (.refl _) (.nil _)))))) rfl⟩
  rintro ⟨y24, t25⟩ H
  replace H : rp_build_j4 y24 = some r := H
  unfold rp_build_j4 at H
  show AW _ _ _ _ _ _
  obtain ⟨g27, H⟩ := grd_s H
  refine AW.region ?_
  show AR _ _ _ _ _ [0, 1, 2, 3, 4, 5] _
  refine sS rfl rfl rfl (mv rfl) ?_
  refine sS rfl rfl rfl (mv rfl) ?_
  refine sR rfl rfl rfl (OpX.still (g_conv_str_bytes (bytes := 1) Tryz.underlying9 Tryz.underlying36 Tryz.underlying5 rfl g27)) ?_
  refine sS rfl rfl rfl (opS_fieldAddr_pt (n := 0) (by kernel_rfl) rfl) ?_
  refine sS rfl rfl rfl (opS_indexAddr_arr (Ar := 0) (k := 1) (m := 62) Tryz.underlying99 (by kernel_rfl) rfl rfl rfl (by decide)) ?_
  refine s0 rfl rfl (opR_store_pt (i := 0) (c := slE _ _ _) (by kernel_rfl) rfl rfl rfl rfl (Nat.le_of_ble_eq_true rfl)) ?_
  refine AR.nil ?_
  show AW _ _ _ _ _ _
  refine AW.region ?_
  show AR _ _ _ _ _ [0, 1, 2] _
  refine sS rfl rfl rfl (mv rfl) ?_
  refine sS rfl rfl rfl (OpS.eq (av' := i64 2) (g_sub rfl rfl (by decide)) rfl) ?_
  refine sS rfl rfl rfl (asg rfl) ?_
  refine AR.nil ?_
  show AW _ _ _ _ _ _
  refine AW.seq ?_
  refine AW.seq ?_
  refine AW.region ?_
  show AR _ _ _ _ _ [0, 1] _
  refine sS rfl rfl rfl (mv rfl) ?_
  refine sS rfl rfl rfl (OpS.eq (av' := B true) (opS_ge rfl rfl) (B_congr (by decide))) ?_
  refine AR.nil ?_
  show AW _ _ _ _ _ _
  refine AW.cond rfl (fun _ => ?_) (fun hx => bool_no rfl hx)
  refine AW.skip ?_
  show AW _ _ _ _ _ _
  refine AW.seq ?_
  refine AW.block ?_
  refine AW.seq ?_
  refine AW.region ?_
  show AR _ _ _ _ _ [0, 1, 2, 3, 4, 5] _
  refine sS rfl rfl rfl (opS_move (av := slE _ _ _) rfl) ?_
  refine sS rfl rfl rfl (mv rfl) ?_
  refine sS rfl rfl rfl (opS_indexAddr (E := Enc.str) (m := 2) Tryz.underlying39 (by kernel_rfl) rfl rfl rfl rfl) ?_
  refine sS rfl rfl rfl (opS_load_cp Tryz.underlying9 rfl rfl) ?_
  refine sS rfl rfl rfl (opS_index_str (m := 0) (c := 60) Tryz.underlying9 rfl rfl rfl rfl) ?_
  refine sS rfl rfl rfl (asg rfl) ?_
  refine AR.nil ?_
  show AW _ _ _ _ _ _
  refine AW.seq ?_
  refine AW.region ?_
  show AR _ _ _ _ _ [0, 1, 2, 3, 4, 5] _
  refine sS rfl rfl rfl (opS_move (av := slE _ _ _) rfl) ?_
  refine sS rfl rfl rfl (mv rfl) ?_
  refine sS rfl rfl rfl (OpS.eq (av' := i64 3) (g_add rfl rfl (by decide)) rfl) ?_
  refine sS rfl rfl rfl (opS_indexAddr (E := Enc.str) (m := 3) Tryz.underlying39 (by kernel_rfl) rfl rfl rfl rfl) ?_
  refine sS rfl rfl rfl (opS_load_cp Tryz.underlying9 rfl rfl) ?_
  refine sS rfl rfl rfl (asg rfl) ?_
  refine AR.nil ?_
  show AW _ _ _ _ _ _
  refine AW.cut (X := (List (List UInt8)) × Nat) (fun (y32, t33) => ⟨[(3, slE Enc.str entOld q2), (11, .pt o11 0), (12, i64 2), (13, u8 60), (14, S ([38, 108, 116, 59] : List UInt8))], [], [.obj o11 [nilS, nilS, nilS, nilS, nilS, nilS, nilS, nilS, nilS, nilS, nilS, nilS, nilS, nilS, nilS, nilS, nilS, nilS, nilS, nilS, nilS, nilS, nilS, nilS, nilS, nilS, nilS, nilS, nilS, nilS, nilS, nilS, nilS, nilS, slE Enc.byte ([38, 113, 117, 111, 116, 59] : List UInt8) none, nilS, nilS, nilS, nilS, nilS, nilS, nilS, nilS, nilS, nilS, nilS, nilS, nilS, nilS, nilS, nilS, nilS, nilS, nilS, nilS, nilS, nilS, nilS, nilS, nilS, nilS, nilS, slE Enc.byte ([38, 103, 116, 59] : List UInt8) none, nilS, nilS, nilS, nilS, nilS, nilS, nilS, nilS, nilS, nilS, nilS, nilS, nilS, nilS, nilS, nilS, nilS, nilS, nilS, nilS, nilS, nilS, nilS, nilS, nilS, nilS, nilS, nilS, nilS, nilS, nilS, nilS, nilS, nilS, nilS, nilS, nilS, nilS, nilS, nilS, nilS, nilS, nilS, nilS, nilS, nilS, nilS, nilS, nilS, nilS, nilS, nilS, nilS, nilS, nilS, nilS, nilS, nilS, nilS, nilS, nilS, nilS, nilS, nilS, nilS, nilS, nilS, nilS, nilS, nilS, nilS, nilS, nilS, nilS, nilS, nilS, nilS, nilS, nilS, nilS, nilS, nilS, nilS, nilS, nilS, nilS, nilS, nilS, nilS, nilS, nilS, nilS, nilS, nilS, nilS, nilS, nilS, nilS, nilS, nilS, nilS, nilS, nilS, nilS, nilS, nilS, nilS, nilS, nilS, nilS, nilS, nilS, nilS, nilS, nilS, nilS, nilS, nilS, nilS, nilS, nilS, nilS, nilS, nilS, nilS, nilS, nilS, nilS, nilS, nilS, nilS, nilS, nilS, nilS, nilS, nilS, nilS, nilS, nilS, nilS, nilS, nilS, nilS, nilS, nilS, nilS, nilS, nilS, nilS, nilS, nilS, nilS, nilS, nilS, nilS, nilS, nilS, nilS, nilS, nilS, nilS, nilS, nilS, nilS, nilS, nilS, nilS, nilS, nilS, nilS, nilS, nilS, nilS, nilS, nilS, nilS, nilS, nilS, nilS, nilS, nilS, nilS, nilS, nilS, nilS, nilS, nilS, nilS, nilS, nilS, nilS, nilS, nilS, slE Enc.str y32 (some t33)], .obj o1 [.v (.int .u32 0), .v (.int .i32 1), .v (.int .u32 0), .v .nilIface, slE Enc.str entOld q2], .tok t33 9]⟩) (fun (y32, t33) => rp_build_j3 y32 = some r) ?_ ?_
  ·
   refine AW.seq ?_
   refine AW.region ?_
   show AR _ _ _ _ _ [0, 1, 2, 3, 4] _
   refine sS rfl rfl rfl (mv rfl) ?_
   refine sS rfl rfl rfl (opS_fieldAddr_pt (n := 0) (by kernel_rfl) rfl) ?_
   refine sS rfl rfl rfl (opS_indexAddr_arr (Ar := 0) (k := 1) (m := 60) Tryz.underlying99 (by kernel_rfl) rfl rfl rfl (by decide)) ?_
   refine sR rfl rfl rfl (opR_load_pt (i := 0) Tryz.underlying36 rfl rfl rfl rfl) ?_
   refine sS rfl rfl rfl (opS_nil_nil (.inl rfl) Tryz.underlying36 rfl rfl) ?_
   refine AR.nil ?_
   show AW _ _ _ _ _ _
   refine AW.cond rfl (fun _ => ?_) (fun hx => bool_no rfl hx)
   obtain ⟨g29, H⟩ := grd_s H
   obtain ⟨x30, e31, H⟩ := lt_s H
   refine AW.region ?_
   show AR _ _ _ _ _ [0, 1, 2, 3, 4, 5, 6, 7, 8] _
   refine sS rfl rfl rfl (opS_fieldAddr_pt (n := 256) (by kernel_rfl) rfl) ?_
   refine sR rfl rfl rfl (opR_load_pt (i := 0) Tryz.underlying39 rfl rfl rfl rfl) ?_
   refine sS rfl rfl rfl (mv rfl) ?_
   refine sR rfl rfl rfl (opR_buildE (E := Enc.byte) (bytes := 1) (xs := [.tmp 120]) (l := ([60] : List UInt8)) Tryz.underlying36 (by kernel_rfl) rfl rfl (by decide) rfl rfl) ?_
   refine sS rfl rfl rfl (opS_conv_bytes_str Tryz.underlying36 Tryz.underlying5 Tryz.underlying9 rfl) ?_
   refine sR rfl rfl rfl (opR_buildE (E := Enc.str) (bytes := 16) (xs := [.tmp 122]) (l := ([([60] : List UInt8)] : List (List UInt8))) Tryz.underlying39 (by kernel_rfl) rfl rfl (by decide) rfl rfl) ?_
   refine sX rfl rfl rfl (g_append (E := Enc.str) (bytes := 16) 2 Tryz.underlying39 Tryz.underlying39 rfl (by kernel_rfl) rfl rfl rfl rfl g29 e31) ?_
   rintro _ _ ⟨t28, rfl, rfl⟩
   refine sS rfl rfl rfl (opS_fieldAddr_pt (n := 256) (by kernel_rfl) rfl) ?_
   refine s0 rfl rfl (opR_store_pt (i := 0) (c := slE _ _ _) (by kernel_rfl) rfl rfl rfl rfl (Nat.le_of_ble_eq_true rfl)) ?_
   refine AR.nil ?_
   exact Exists.intro (x30, t28) ⟨H, WK.at [0, 0, 0] (.cons (.refl _) (.cons (.refl _) (.cons (.refl _) (.cons (.refl _) (.cons (.refl _) (.nil _)))))) rfl⟩
  rintro ⟨y32, t33⟩ H
  replace H : rp_build_j3 y32 = some r := H
  unfold rp_build_j3 at H
  show AW _ _ _ _ _ _
  obtain ⟨g35, H⟩ := grd_s H
  refine AW.region ?_
  show AR _ _ _ _ _ [0, 1, 2, 3, 4, 5] _
  refine sS rfl rfl rfl (mv rfl) ?_
  refine sS rfl rfl rfl (mv rfl) ?_
  refine sR rfl rfl rfl (OpX.still (g_conv_str_bytes (bytes := 1) Tryz.underlying9 Tryz.underlying36 Tryz.underlying5 rfl g35)) ?_
  refine sS rfl rfl rfl (opS_fieldAddr_pt (n := 0) (by kernel_rfl) rfl) ?_
  refine sS rfl rfl rfl (opS_indexAddr_arr (Ar := 0) (k := 1) (m := 60) Tryz.underlying99 (by kernel_rfl) rfl rfl rfl (by decide)) ?_
  refine s0 rfl rfl (opR_store_pt (i := 0) (c := slE _ _ _) (by kernel_rfl) rfl rfl rfl rfl (Nat.le_of_ble_eq_true rfl)) ?_
  refine AR.nil ?_
  show AW _ _ _ _ _ _
  refine AW.region ?_
  show AR _ _ _ _ _ [0, 1, 2] _
  refine sS rfl rfl rfl (mv rfl) ?_
  refine sS rfl rfl rfl (OpS.eq (av' := i64 0) (g_sub rfl rfl (by decide)) rfl) ?_
  refine sS rfl rfl rfl (asg rfl) ?_
  refine AR.nil ?_
  show AW _ _ _ _ _ _
  refine AW.seq ?_
  refine AW.seq ?_
  refine AW.region ?_
  show AR _ _ _ _ _ [0, 1] _
  refine sS rfl rfl rfl (mv rfl) ?_
  refine sS rfl rfl rfl (OpS.eq (av' := B true) (opS_ge rfl rfl) (B_congr (by decide))) ?_
  refine AR.nil ?_
  show AW _ _ _ _ _ _
  refine AW.cond rfl (fun _ => ?_) (fun hx => bool_no rfl hx)
  refine AW.skip ?_
  show AW _ _ _ _ _ _
  refine AW.seq ?_
  refine AW.block ?_
  refine AW.seq ?_
  refine AW.region ?_
  show AR _ _ _ _ _ [0, 1, 2, 3, 4, 5] _
  refine sS rfl rfl rfl (opS_move (av := slE _ _ _) rfl) ?_
  refine sS rfl rfl rfl (mv rfl) ?_
  refine sS rfl rfl rfl (opS_indexAddr (E := Enc.str) (m := 0) Tryz.underlying39 (by kernel_rfl) rfl rfl rfl rfl) ?_
  refine sS rfl rfl rfl (opS_load_cp Tryz.underlying9 rfl rfl) ?_
  refine sS rfl rfl rfl (opS_index_str (m := 0) (c := 38) Tryz.underlying9 rfl rfl rfl rfl) ?_
  refine sS rfl rfl rfl (asg rfl) ?_
  refine AR.nil ?_
  show AW _ _ _ _ _ _
  refine AW.seq ?_
  refine AW.region ?_
  show AR _ _ _ _ _ [0, 1, 2, 3, 4, 5] _
  refine sS rfl rfl rfl (opS_move (av := slE _ _ _) rfl) ?_
  refine sS rfl rfl rfl (mv rfl) ?_
  refine sS rfl rfl rfl (OpS.eq (av' := i64 1) (g_add rfl rfl (by decide)) rfl) ?_
  refine sS rfl rfl rfl (opS_indexAddr (E := Enc.str) (m := 1) Tryz.underlying39 (by kernel_rfl) rfl rfl rfl rfl) ?_
  refine sS rfl rfl rfl (opS_load_cp Tryz.underlying9 rfl rfl) ?_
  refine sS rfl rfl rfl (asg rfl) ?_
  refine AR.nil ?_
  show AW _ _ _ _ _ _
  refine AW.cut (X := (List (List UInt8)) × Nat) (fun (y40, t41) => ⟨[(3, slE Enc.str entOld q2), (11, .pt o11 0), (12, i64 0), (13, u8 38), (14, S ([38, 97, 109, 112, 59] : List UInt8))], [], [.obj o11 [nilS, nilS, nilS, nilS, nilS, nilS, nilS, nilS, nilS, nilS, nilS, nilS, nilS, nilS, nilS, nilS, nilS, nilS, nilS, nilS, nilS, nilS, nilS, nilS, nilS, nilS, nilS, nilS, nilS, nilS, nilS, nilS, nilS, nilS, slE Enc.byte ([38, 113, 117, 111, 116, 59] : List UInt8) none, nilS, nilS, nilS, nilS, nilS, nilS, nilS, nilS, nilS, nilS, nilS, nilS, nilS, nilS, nilS, nilS, nilS, nilS, nilS, nilS, nilS, nilS, nilS, nilS, nilS, slE Enc.byte ([38, 108, 116, 59] : List UInt8) none, nilS, slE Enc.byte ([38, 103, 116, 59] : List UInt8) none, nilS, nilS, nilS, nilS, nilS, nilS, nilS, nilS, nilS, nilS, nilS, nilS, nilS, nilS, nilS, nilS, nilS, nilS, nilS, nilS, nilS, nilS, nilS, nilS, nilS, nilS, nilS, nilS, nilS, nilS, nilS, nilS, nilS, nilS, nilS, nilS, nilS, nilS, nilS, nilS, nilS, nilS, nilS, nilS, nilS, nilS, nilS, nilS, nilS, nilS, nilS, nilS, nilS, nilS, nilS, nilS, nilS, nilS, nilS, nilS, nilS, nilS, nilS, nilS, nilS, nilS, nilS, nilS, nilS, nilS, nilS, nilS, nilS, nilS, nilS, nilS, nilS, nilS, nilS, nilS, nilS, nilS, nilS, nilS, nilS, nilS, nilS, nilS, nilS, nilS, nilS, nilS, nilS, nilS, nilS, nilS, nilS, nilS, nilS, nilS, nilS, nilS, nilS, nilS, nilS, nilS, nilS, nilS, nilS, nilS, nilS, nilS, nilS, nilS, nilS, nilS, nilS, nilS, nilS, nilS, nilS, nilS, nilS, nilS, nilS, nilS, nilS, nilS, nilS, nilS, nilS, nilS, nilS, nilS, nilS, nilS, nilS, nilS, nilS, nilS, nilS, nilS, nilS, nilS, nilS, nilS, nilS, nilS, nilS, nilS, nilS, nilS, nilS, nilS, nilS, nilS, nilS, nilS, nilS, nilS, nilS, nilS, nilS, nilS, nilS, nilS, nilS, nilS, nilS, nilS, nilS, nilS, nilS, nilS, nilS, nilS, nilS, nilS, nilS, nilS, nilS, nilS, nilS, nilS, nilS, nilS, nilS, nilS, nilS, nilS, nilS, nilS, nilS, slE Enc.str y40 (some t41)], .obj o1 [.v (.int .u32 0), .v (.int .i32 1), .v (.int .u32 0), .v .nilIface, slE Enc.str entOld q2], .tok t41 9]⟩) (fun (y40, t41) => rp_build_j2 y40 = some r) ?_ ?_
  ·
   refine AW.seq ?_
   refine AW.region ?_
   show AR _ _ _ _ _ [0, 1, 2, 3, 4] _
   refine sS rfl rfl rfl (mv rfl) ?_
   refine sS rfl rfl rfl (opS_fieldAddr_pt (n := 0) (by kernel_rfl) rfl) ?_
   refine sS rfl rfl rfl (opS_indexAddr_arr (Ar := 0) (k := 1) (m := 38) Tryz.underlying99 (by kernel_rfl) rfl rfl rfl (by decide)) ?_
   refine sR rfl rfl rfl (opR_load_pt (i := 0) Tryz.underlying36 rfl rfl rfl rfl) ?_
   refine sS rfl rfl rfl (opS_nil_nil (.inl rfl) Tryz.underlying36 rfl rfl) ?_
   refine AR.nil ?_
   show AW _ _ _ _ _ _
   refine AW.cond rfl (fun _ => ?_) (fun hx => bool_no rfl hx)
   obtain ⟨g37, H⟩ := grd_s H
   obtain ⟨x38, e39, H⟩ := lt_s H
   refine AW.region ?_
   show AR _ _ _ _ _ [0, 1, 2, 3, 4, 5, 6, 7, 8] _
   refine sS rfl rfl rfl (opS_fieldAddr_pt (n := 256) (by kernel_rfl) rfl) ?_
   refine sR rfl rfl rfl (opR_load_pt (i := 0) Tryz.underlying39 rfl rfl rfl rfl) ?_
   refine sS rfl rfl rfl (mv rfl) ?_
   refine sR rfl rfl rfl (opR_buildE (E := Enc.byte) (bytes := 1) (xs := [.tmp 120]) (l := ([38] : List UInt8)) Tryz.underlying36 (by kernel_rfl) rfl rfl (by decide) rfl rfl) ?_
   refine sS rfl rfl rfl (opS_conv_bytes_str Tryz.underlying36 Tryz.underlying5 Tryz.underlying9 rfl) ?_
   refine sR rfl rfl rfl (opR_buildE (E := Enc.str) (bytes := 16) (xs := [.tmp 122]) (l := ([([38] : List UInt8)] : List (List UInt8))) Tryz.underlying39 (by kernel_rfl) rfl rfl (by decide) rfl rfl) ?_
   refine sX rfl rfl rfl (g_append (E := Enc.str) (bytes := 16) 2 Tryz.underlying39 Tryz.underlying39 rfl (by kernel_rfl) rfl rfl rfl rfl g37 e39) ?_
   rintro _ _ ⟨t36, rfl, rfl⟩
   refine sS rfl rfl rfl (opS_fieldAddr_pt (n := 256) (by kernel_rfl) rfl) ?_
   refine s0 rfl rfl (opR_store_pt (i := 0) (c := slE _ _ _) (by kernel_rfl) rfl rfl rfl rfl (Nat.le_of_ble_eq_true rfl)) ?_
   refine AR.nil ?_
   exact Exists.intro (x38, t36) ⟨H, WK.at [0, 0, 0] (.cons (.refl _) (.cons (.refl _) (.cons (.refl _) (.cons (.refl _) (.cons (.refl _) (.nil _)))))) rfl⟩
  rintro ⟨y40, t41⟩ H
  replace H : rp_build_j2 y40 = some r := H
  unfold rp_build_j2 at H
  show AW _ _ _ _ _ _
  obtain ⟨g43, H⟩ := grd_s H
  refine AW.region ?_
  show AR _ _ _ _ _ [0, 1, 2, 3, 4, 5] _
  refine sS rfl rfl rfl (mv rfl) ?_
  refine sS rfl rfl rfl (mv rfl) ?_
  refine sR rfl rfl rfl (OpX.still (g_conv_str_bytes (bytes := 1) Tryz.underlying9 Tryz.underlying36 Tryz.underlying5 rfl g43)) ?_
  refine sS rfl rfl rfl (opS_fieldAddr_pt (n := 0) (by kernel_rfl) rfl) ?_
  refine sS rfl rfl rfl (opS_indexAddr_arr (Ar := 0) (k := 1) (m := 38) Tryz.underlying99 (by kernel_rfl) rfl rfl rfl (by decide)) ?_
  refine s0 rfl rfl (opR_store_pt (i := 0) (c := slE _ _ _) (by kernel_rfl) rfl rfl rfl rfl (Nat.le_of_ble_eq_true rfl)) ?_
  refine AR.nil ?_
  show AW _ _ _ _ _ _
  refine AW.region ?_
  show AR _ _ _ _ _ [0, 1, 2] _
  refine sS rfl rfl rfl (mv rfl) ?_
  refine sS rfl rfl rfl (OpS.eq (av' := i64 (-2)) (g_sub rfl rfl (by decide)) rfl) ?_
  refine sS rfl rfl rfl (asg rfl) ?_
  refine AR.nil ?_
  show AW _ _ _ _ _ _
  refine AW.seq ?_
  refine AW.seq ?_
  refine AW.region ?_
  show AR _ _ _ _ _ [0, 1] _
  refine sS rfl rfl rfl (mv rfl) ?_
  refine sS rfl rfl rfl (OpS.eq (av' := B false) (opS_ge rfl rfl) (B_congr (by decide))) ?_
  refine AR.nil ?_
  show AW _ _ _ _ _ _
  refine AW.cond rfl (fun hx => bool_no hx rfl) (fun _ => ?_)
  refine AW.exit ?_
  exact Exists.intro (y40, t41) ⟨H, WK.at [0, 0, 0] (.cons (.refl _) (.nil _)) rfl⟩
 rintro ⟨y44, t45⟩ H
 replace H : rp_build_j1 y44 = some r := H
 unfold rp_build_j1 at H
 show AW _ _ _ _ _ _
 refine AW.seq ?_
 refine AW.region ?_
 show AR _ _ _ _ _ [0, 1] _
 refine AR.freezeCp 11 0 rfl rfl ?_
 refine sS rfl rfl rfl (opS_makeInterface (a := .cp _) Tryz.underlying102 rfl rfl) ?_
 refine sS rfl rfl rfl (opS_assign (av := .ifc _ _) rfl) ?_
 refine AR.nil ?_
 show AW _ _ _ _ _ _
 refine AW.ret ?_
 obtain rfl := Option.some.inj H
 exact And.intro rfl ⟨_, _, ResV.oneW rfl (.refl _), Sub.at [0] rfl, t45, by kernel_rfl, rfl⟩
set_option maxRecDepth 100000 in
set_option maxHeartbeats 1000000 in
theorem w_rp_New (F : Nat) (q1 : Option Nat) (H : rp_New F = some ()) : ACalls Tryz.prog 25 [slE Enc.str entOld q1] [] (fun e A' => ∃ o t : Nat, e = .ret (.pt o 0) ∧ A' = [.obj o [.v (.int .u32 0), .v (.int .i32 0), .v (.int .u32 0), .v .nilIface, slE Enc.str entOld (some t)]]) := by
 unfold rp_New at H
 refine ACalls.of_body Tryz.func25 rfl rfl ?_
 show AW _ _ 12 _ _ _
 refine AW.seq ?_
 refine AW.region ?_
 show AR _ _ _ _ _ [0] _
 refine sS rfl rfl rfl (asg rfl) ?_
 refine AR.nil ?_
 show AW _ _ _ _ _ _
 refine AW.cut (X := Unit) (fun _ => ⟨[(0, slE Enc.str entOld q1)], [], []⟩) (fun _ => rp_New_j1 = some ()) ?_ ?_
 ·
  refine AW.seq ?_
  obtain ⟨g2, H⟩ := grd_s H
  refine AW.region ?_
  show AR _ _ _ _ _ [0, 1, 2, 3] _
  refine sS rfl rfl rfl (opS_move (av := slE _ _ _) rfl) ?_
  refine sS rfl rfl rfl (OpS.eq (av' := i64 8) (opS_len_sl Tryz.underlying39 rfl) rfl) ?_
  refine sS rfl rfl rfl (OpS.eq (av' := i64 0) (g_rem rfl rfl g2) rfl) ?_
  refine sS rfl rfl rfl (OpS.eq (av' := B false) (opS_eqi rfl rfl) (B_congr (by decide))) ?_
  refine AR.nil ?_
  show AW _ _ _ _ _ _
  refine AW.cond rfl (fun hx => bool_no hx rfl) (fun _ => ?_)
  refine AW.skip ?_
  exact Exists.intro () ⟨H, WK.at [] (.cons (.refl _) (.nil _)) rfl⟩
 rintro _ H
 replace H : rp_New_j1 = some () := H
 unfold rp_New_j1 at H
 show AW _ _ _ _ _ _
 refine AW.seq ?_
 obtain ⟨g5, H⟩ := grd_s H
 refine AW.region ?_
 show AR _ _ _ _ _ [0, 1, 2, 3, 4] _
 refine sS rfl rfl rfl (opS_move (av := slE _ _ _) rfl) ?_
 refine sX rfl rfl rfl (g_append_nil (E := Enc.str) (bytes := 16) Tryz.underlying39 Tryz.underlying39 rfl (by kernel_rfl) rfl rfl rfl g5) ?_
 rintro _ _ ⟨t4, rfl, rfl⟩
 refine sS rfl rfl rfl (g_build (zs := [(.int .u32 0), (.int .i32 0), (.int .u32 0), .nilIface, .slice none 0 0]) (ps := [(0, 3), (3, 1), (4, 1)]) (cs := [.v (.int .u32 0), .v (.int .i32 0), .v (.int .u32 0), .v .nilIface, slE Enc.str entOld (some t4)]) (by kernel_rfl) rfl rfl) ?_
 refine sX rfl rfl rfl (opX_box rfl (.inr ⟨_, rfl⟩)) ?_
 rintro _ _ ⟨o6, rfl, rfl⟩
 refine sS rfl rfl rfl (opS_assign (av := .pt _ _) rfl) ?_
 refine AR.nil ?_
 show AW _ _ _ _ _ _
 refine AW.ret ?_
 exact And.intro rfl ⟨_, _, ResV.oneW rfl (.refl _), Sub.at [0] rfl, _, _, rfl, rfl⟩
set_option maxRecDepth 100000 in
set_option maxHeartbeats 1000000 in
theorem w_rp_Replace (F : Nat) (q1 : Option Nat) (a2 : List UInt8) (r3 : List UInt8) (H : rp_Replace F a2 = some r3) : ACalls Tryz.prog 143 [.cp (entCells entRep q1), S a2] [] (Ret (S r3) []) := by
 unfold rp_Replace at H
 refine ACalls.of_body Tryz.func143 rfl rfl ?_
 show AW _ _ 122 _ _ _
 refine AW.seq ?_
 refine AW.region ?_
 show AR _ _ _ _ _ [0] _
 refine sS rfl rfl rfl (asg rfl) ?_
 refine AR.nil ?_
 show AW _ _ _ _ _ _
 refine AW.seq ?_
 refine AW.region ?_
 show AR _ _ _ _ _ [0, 1, 2] _
 refine sS rfl rfl rfl (mv rfl) ?_
 refine sS rfl rfl rfl (opS_len_str Tryz.underlying9 rfl) ?_
 refine sS rfl rfl rfl (asg rfl) ?_
 refine AR.nil ?_
 show AW _ _ _ _ _ _
 refine AW.seq ?_
 refine AW.region ?_
 show AR _ _ _ _ _ [0] _
 refine sS rfl rfl rfl (asg rfl) ?_
 refine AR.nil ?_
 show AW _ _ _ _ _ _
 refine AW.cut (X := Int × Bool) (fun (y55, y56) => ⟨[(0, .cp (entCells entRep q1)), (1, S a2), (5, i64 y55), (6, B y56)], [], []⟩) (fun (y55, y56) => rp_Replace_j3 F a2 y55 y56 = some r3) ?_ ?_
 ·
  refine AW.seq ?_
  obtain ⟨g4, H⟩ := grd_s H
  refine AW.region ?_
  show AR _ _ _ _ _ [0, 1, 2, 3, 4, 5, 6, 7, 8] _
  refine sS rfl rfl rfl (opS_move (av := .cp _) rfl) ?_
  refine sS rfl rfl rfl (opS_nilCheck_cp rfl) ?_
  refine sS rfl rfl rfl (OpS.eq (av' := .cp [slE Enc.str entRep q1]) (opS_fieldAddr_cp (n := 256) (by kernel_rfl) rfl (entLe _)) (entRest _)) ?_
  refine sS rfl rfl rfl (opS_load_cp Tryz.underlying39 rfl rfl) ?_
  refine sS rfl rfl rfl (opS_len_sl Tryz.underlying39 rfl) ?_
  refine sS rfl rfl rfl (g_mul rfl rfl g4) ?_
  refine sS rfl rfl rfl (mv rfl) ?_
  refine sS rfl rfl rfl (opS_len_str Tryz.underlying9 rfl) ?_
  refine sS rfl rfl rfl (opS_le rfl rfl) ?_
  refine AR.nil ?_
  show AW _ _ _ _ _ _
  refine AW.cond rfl (fun c5 => ?_) (fun c5 => ?_)
  ·replace H := cnd_t c5 H
   refine AW.seq ?_
   refine AW.region ?_
   show AR _ _ _ _ _ [0, 1, 2, 3, 4, 5] _
   refine sS rfl rfl rfl (opS_move (av := .cp _) rfl) ?_
   refine sS rfl rfl rfl (opS_nilCheck_cp rfl) ?_
   refine sS rfl rfl rfl (OpS.eq (av' := .cp [slE Enc.str entRep q1]) (opS_fieldAddr_cp (n := 256) (by kernel_rfl) rfl (entLe _)) (entRest _)) ?_
   refine sS rfl rfl rfl (opS_load_cp Tryz.underlying39 rfl rfl) ?_
   refine sS rfl rfl rfl (opS_len_sl Tryz.underlying39 rfl) ?_
   refine sS rfl rfl rfl (mv rfl) ?_
   refine AR.nil ?_
   show AW _ _ _ _ _ _
   refine AW.block ?_
   refine AW.loop (X := Nat × Int × Bool × Int) (fun (n10, y6, y7, y8) => ⟨[(0, .cp (entCells entRep q1)), (1, S a2), (5, i64 y6), (6, B y7), (30, slE Enc.str entRep q1), (31, i64 (entRep.length : Int)), (32, i64 y8)], [], []⟩) (fun (n10, y6, y7, y8) => rp_Replace_L2 F a2 n10 (y6, y7, y8) = some r3) (fun (n10, y6, y7, y8) => n10) (F, (a2.length : Int), false, 0) H (WK.at [] (.cons (.refl _) (.cons (.refl _) (.cons (.refl _) (.cons (.refl _) (.cons (.refl _) (.cons (.refl _) (.cons (.refl _) (.nil _)))))))) rfl) ?_
   rintro ⟨n10, y6, y7, y8⟩ H
   obtain ⟨n10, rfl, H⟩ := loop_s H
   replace H : rp_Replace_B2 F a2 (rp_Replace_L2 F a2 n10) y6 y7 y8 = some r3 := H
   unfold rp_Replace_B2 at H
   show AW _ _ _ _ _ _
   refine AW.seq ?_
   refine AW.region ?_
   show AR _ _ _ _ _ [0] _
   refine sS rfl rfl rfl (opS_lt rfl rfl) ?_
   refine AR.nil ?_
   show AW _ _ _ _ _ _
   refine AW.seq ?_
   refine AW.cond rfl (fun c11 => ?_) (fun c11 => ?_)
   ·replace H := cnd_t c11 H
    refine AW.skip ?_
    show AW _ _ _ _ _ _
    refine AW.cut (X := Int × Bool) (fun (y28, y29) => ⟨[(0, .cp (entCells entRep q1)), (1, S a2), (5, i64 y28), (6, B y29), (30, slE Enc.str entRep q1), (31, i64 (entRep.length : Int)), (32, i64 y8)], [], []⟩) (fun (y28, y29) => rp_Replace_j4 y8 (rp_Replace_L2 F a2 n10) y28 y29 = some r3) ?_ ?_
    ·
     refine AW.block ?_
     refine AW.seq ?_
     obtain ⟨g12, H⟩ := grd_s H
     obtain ⟨x13, e14, H⟩ := lt_s H
     refine AW.region ?_
     show AR _ _ _ _ _ [0, 1, 2] _
     refine sS rfl rfl rfl (g_indexAddr (E := Enc.str) Tryz.underlying39 (by kernel_rfl) rfl rfl g12 e14) ?_
     refine sS rfl rfl rfl (opS_load_cp Tryz.underlying9 rfl rfl) ?_
     refine sS rfl rfl rfl (asg rfl) ?_
     refine AR.nil ?_
     show AW _ _ _ _ _ _
     refine AW.seq ?_
     obtain ⟨g15, H⟩ := grd_s H
     obtain ⟨x16, e17, H⟩ := lt_s H
     refine AW.region ?_
     show AR _ _ _ _ _ [0, 1, 2, 3] _
     refine sS rfl rfl rfl (mv rfl) ?_
     refine sS rfl rfl rfl (mv rfl) ?_
     refine AR.run rfl rfl (AO.callp rfl en145_rep rfl (show ACalls _ _ _ [] (Ret (i64 x16) []) from by subst e17; exact lib_Count1 a2 x13 (of_decide_eq_true g15)) ?_)
     refine sS rfl rfl rfl (asg rfl) ?_
     refine AR.nil ?_
     show AW _ _ _ _ _ _
     refine AW.seq ?_
     refine AW.region ?_
     show AR _ _ _ _ _ [0, 1] _
     refine sS rfl rfl rfl (mv rfl) ?_
     refine sS rfl rfl rfl (opS_nei rfl rfl) ?_
     refine AR.nil ?_
     show AW _ _ _ _ _ _
     refine AW.cond rfl (fun c18 => ?_) (fun c18 => ?_)
     ·replace H := cnd_t c18 H
      refine AW.seq ?_
      obtain ⟨g19, H⟩ := grd_s H
      obtain ⟨x20, e21, H⟩ := lt_s H
      obtain ⟨g22, H⟩ := grd_s H
      obtain ⟨x23, e24, H⟩ := lt_s H
      obtain ⟨g25, H⟩ := grd_s H
      obtain ⟨g26, H⟩ := grd_s H
      obtain ⟨g27, H⟩ := grd_s H
      refine AW.region_draw (by kernel_rfl) ?_
      show AI _ _ _ _ 14 (Array.replicate 14 false) _
      refine AI.take (i := 0) rfl rfl (by kernel_rfl) (by kernel_rfl) (by kernel_rfl) (fun _ _ h => h) (mv rfl) ?_
      show AI _ _ _ _ _ #[true, false, false, false, false, false, false, false, false, false, false, false, false, false] _
      refine AI.take (i := 1) rfl rfl (by kernel_rfl) (by kernel_rfl) (by kernel_rfl) (fun _ _ h => h) (mv rfl) ?_
      show AI _ _ _ _ _ #[true, true, false, false, false, false, false, false, false, false, false, false, false, false] _
      refine AI.take (i := 2) rfl rfl (by kernel_rfl) (by kernel_rfl) (by kernel_rfl) (fun _ _ h => h) (opS_move (av := .cp _) rfl) ?_
      show AI _ _ _ _ _ #[true, true, true, false, false, false, false, false, false, false, false, false, false, false] _
      refine AI.take (i := 3) rfl rfl (by kernel_rfl) (by kernel_rfl) (by kernel_rfl) (fun _ _ h => h) (mv rfl) ?_
      show AI _ _ _ _ _ #[true, true, true, true, false, false, false, false, false, false, false, false, false, false] _
      refine AI.take (i := 4) rfl rfl (by kernel_rfl) (by kernel_rfl) (by kernel_rfl) (fun _ _ h => h) (g_index_str Tryz.underlying9 rfl rfl g19 e21) ?_
      show AI _ _ _ _ _ #[true, true, true, true, true, false, false, false, false, false, false, false, false, false] _
      refine AI.take (i := 5) rfl rfl (by kernel_rfl) (by kernel_rfl) (by kernel_rfl) (fun _ _ h => h) (opS_nilCheck_cp rfl) ?_
      show AI _ _ _ _ _ #[true, true, true, true, true, true, false, false, false, false, false, false, false, false] _
      refine AI.take (i := 6) rfl rfl (by kernel_rfl) (by kernel_rfl) (by kernel_rfl) (fun _ _ h => h) (OpS.eq (opS_fieldAddr_cp (n := 0) (by kernel_rfl) rfl (Nat.zero_le _)) rfl) ?_
      show AI _ _ _ _ _ #[true, true, true, true, true, true, true, false, false, false, false, false, false, false] _
      refine AI.take (i := 7) rfl rfl (by kernel_rfl) (by kernel_rfl) (by kernel_rfl) (fun _ _ h => h) (opS_indexAddr_arrv_cp (E := Enc.ob) (l := entTab) (post := [slE Enc.str entRep q1]) rfl Tryz.underlying99 (by kernel_rfl) rfl rfl (by decide) g22 e24 rfl) ?_
      show AI _ _ _ _ _ #[true, true, true, true, true, true, true, true, false, false, false, false, false, false] _
      refine AI.one (i := 8) (by kernel_rfl) rfl rfl ?_
      refine AIO.op rfl (OpS.opR (OpS.weak (opS_load_cp (c := ob x23) Tryz.underlying36 rfl rfl) (ob_sl _)) _) ?_
      show AI _ _ _ _ _ #[true, true, true, true, true, true, true, true, true, false, false, false, false, false] _
      refine AI.take (i := 9) rfl rfl (by kernel_rfl) (by kernel_rfl) (by kernel_rfl) (fun _ _ h => h) (opS_len_sl Tryz.underlying36 rfl) ?_
      show AI _ _ _ _ _ #[true, true, true, true, true, true, true, true, true, true, false, false, false, false] _
      refine AI.take (i := 10) rfl rfl (by kernel_rfl) (by kernel_rfl) (by kernel_rfl) (fun _ _ h => h) (g_sub rfl rfl g25) ?_
      show AI _ _ _ _ _ #[true, true, true, true, true, true, true, true, true, true, true, false, false, false] _
      refine AI.take (i := 11) rfl rfl (by kernel_rfl) (by kernel_rfl) (by kernel_rfl) (fun _ _ h => h) (g_mul rfl rfl g26) ?_
      show AI _ _ _ _ _ #[true, true, true, true, true, true, true, true, true, true, true, true, false, false] _
      refine AI.take (i := 12) rfl rfl (by kernel_rfl) (by kernel_rfl) (by kernel_rfl) (fun _ _ h => h) (g_add rfl rfl g27) ?_
      show AI _ _ _ _ _ #[true, true, true, true, true, true, true, true, true, true, true, true, true, false] _
      refine AI.take (i := 13) rfl rfl (by kernel_rfl) (by kernel_rfl) (by kernel_rfl) (fun _ _ h => h) (asg rfl) ?_
      show AI _ _ _ _ _ #[true, true, true, true, true, true, true, true, true, true, true, true, true, true] _
      refine AI.done rfl ?_
      show AW _ _ _ _ _ _
      refine AW.region ?_
      show AR _ _ _ _ _ [0] _
      refine sS rfl rfl rfl (asg rfl) ?_
      refine AR.nil ?_
      exact Exists.intro (y6 + (x16 * (((x23.getD []).length : Int) - 1)), true) ⟨H, WK.at [] (.cons (.refl _) (.cons (.refl _) (.cons (.refl _) (.cons (.refl _) (.cons (.refl _) (.cons (.refl _) (.cons (.refl _) (.nil _)))))))) rfl⟩
     ·replace H := cnd_f c18 H
      refine AW.skip ?_
      exact Exists.intro (y6, y7) ⟨H, WK.at [] (.cons (.refl _) (.cons (.refl _) (.cons (.refl _) (.cons (.refl _) (.cons (.refl _) (.cons (.refl _) (.cons (.refl _) (.nil _)))))))) rfl⟩
    rintro ⟨y28, y29⟩ H
    replace H : rp_Replace_j4 y8 (rp_Replace_L2 F a2 n10) y28 y29 = some r3 := H
    unfold rp_Replace_j4 at H
    show AW _ _ _ _ _ _
    obtain ⟨g31, H⟩ := grd_s H
    refine AW.region ?_
    show AR _ _ _ _ _ [0, 1] _
    refine sS rfl rfl rfl (g_add rfl rfl g31) ?_
    refine sS rfl rfl rfl (mv rfl) ?_
    refine AR.nil ?_
    exact Exists.intro (n10, y28, y29, y8 + 1) ⟨H, Nat.lt_succ_self _, WK.at [] (.cons (.refl _) (.cons (.refl _) (.cons (.refl _) (.cons (.refl _) (.cons (.refl _) (.cons (.refl _) (.cons (.refl _) (.nil _)))))))) rfl⟩
   ·replace H := cnd_f c11 H
    refine AW.exit ?_
    exact Exists.intro (y6, y7) ⟨H, WK.at [] (.cons (.refl _) (.cons (.refl _) (.cons (.refl _) (.cons (.refl _) (.nil _))))) rfl⟩
  ·replace H := cnd_f c5 H
   refine AW.seq ?_
   refine AW.region ?_
   show AR _ _ _ _ _ [0] _
   refine sS rfl rfl rfl (asg rfl) ?_
   refine AR.nil ?_
   show AW _ _ _ _ _ _
   refine AW.block ?_
   refine AW.loop (X := Nat × Int × Bool × Int) (fun (n36, y32, y33, y34) => ⟨[(0, .cp (entCells entRep q1)), (1, S a2), (5, i64 y32), (6, B y33), (10, i64 y34)], [], []⟩) (fun (n36, y32, y33, y34) => rp_Replace_L3 F a2 n36 (y32, y33, y34) = some r3) (fun (n36, y32, y33, y34) => n36) (F, (a2.length : Int), false, 0) H (WK.at [] (.cons (.refl _) (.cons (.refl _) (.cons (.refl _) (.cons (.refl _) (.cons (.refl _) (.nil _)))))) rfl) ?_
   rintro ⟨n36, y32, y33, y34⟩ H
   obtain ⟨n36, rfl, H⟩ := loop_s H
   replace H : rp_Replace_B3 F a2 (rp_Replace_L3 F a2 n36) y32 y33 y34 = some r3 := H
   unfold rp_Replace_B3 at H
   show AW _ _ _ _ _ _
   refine AW.seq ?_
   refine AW.seq ?_
   refine AW.region ?_
   show AR _ _ _ _ _ [0, 1, 2, 3] _
   refine sS rfl rfl rfl (mv rfl) ?_
   refine sS rfl rfl rfl (mv rfl) ?_
   refine sS rfl rfl rfl (opS_len_str Tryz.underlying9 rfl) ?_
   refine sS rfl rfl rfl (opS_lt rfl rfl) ?_
   refine AR.nil ?_
   show AW _ _ _ _ _ _
   refine AW.cond rfl (fun c37 => ?_) (fun c37 => ?_)
   ·replace H := cnd_t c37 H
    refine AW.skip ?_
    show AW _ _ _ _ _ _
    refine AW.cut (X := Int × Bool) (fun (y51, y52) => ⟨[(0, .cp (entCells entRep q1)), (1, S a2), (5, i64 y51), (6, B y52), (10, i64 y34)], [], []⟩) (fun (y51, y52) => rp_Replace_j5 y34 (rp_Replace_L3 F a2 n36) y51 y52 = some r3) ?_ ?_
    ·
     refine AW.block ?_
     refine AW.seq ?_
     obtain ⟨g38, H⟩ := grd_s H
     obtain ⟨x39, e40, H⟩ := lt_s H
     refine AW.region ?_
     show AR _ _ _ _ _ [0, 1, 2, 3] _
     refine sS rfl rfl rfl (mv rfl) ?_
     refine sS rfl rfl rfl (mv rfl) ?_
     refine sS rfl rfl rfl (g_index_str Tryz.underlying9 rfl rfl g38 e40) ?_
     refine sS rfl rfl rfl (asg rfl) ?_
     refine AR.nil ?_
     show AW _ _ _ _ _ _
     refine AW.seq ?_
     obtain ⟨g41, H⟩ := grd_s H
     obtain ⟨x42, e43, H⟩ := lt_s H
     obtain ⟨g44, H⟩ := grd_s H
     refine AW.region ?_
     show AR _ _ _ _ _ [0, 1, 2, 3, 4, 5, 6] _
     refine sS rfl rfl rfl (opS_move (av := .cp _) rfl) ?_
     refine sS rfl rfl rfl (mv rfl) ?_
     refine sS rfl rfl rfl (opS_nilCheck_cp rfl) ?_
     refine sS rfl rfl rfl (OpS.eq (opS_fieldAddr_cp (n := 0) (by kernel_rfl) rfl (Nat.zero_le _)) rfl) ?_
     refine sS rfl rfl rfl (opS_indexAddr_arrv_cp (E := Enc.ob) (l := entTab) (post := [slE Enc.str entRep q1]) rfl Tryz.underlying99 (by kernel_rfl) rfl rfl (by decide) g41 e43 rfl) ?_
     refine sS rfl rfl rfl (opS_load_cp (c := ob x42) Tryz.underlying36 rfl rfl) ?_
     refine sS rfl rfl rfl (opS_ob_nil (.inr rfl) Tryz.underlying36 rfl rfl g44) ?_
     refine AR.nil ?_
     show AW _ _ _ _ _ _
     refine AW.cond rfl (fun c45 => ?_) (fun c45 => ?_)
     ·replace H := cnd_t c45 H
      refine AW.seq ?_
      obtain ⟨g46, H⟩ := grd_s H
      obtain ⟨x47, e48, H⟩ := lt_s H
      obtain ⟨g49, H⟩ := grd_s H
      obtain ⟨g50, H⟩ := grd_s H
      refine AW.region ?_
      show AR _ _ _ _ _ [0, 1, 2, 3, 4, 5, 6, 7, 8, 9, 10] _
      refine sS rfl rfl rfl (mv rfl) ?_
      refine sS rfl rfl rfl (opS_move (av := .cp _) rfl) ?_
      refine sS rfl rfl rfl (mv rfl) ?_
      refine sS rfl rfl rfl (opS_nilCheck_cp rfl) ?_
      refine sS rfl rfl rfl (OpS.eq (opS_fieldAddr_cp (n := 0) (by kernel_rfl) rfl (Nat.zero_le _)) rfl) ?_
      refine sS rfl rfl rfl (opS_indexAddr_arrv_cp (E := Enc.ob) (l := entTab) (post := [slE Enc.str entRep q1]) rfl Tryz.underlying99 (by kernel_rfl) rfl rfl (by decide) g46 e48 rfl) ?_
      refine sS rfl rfl rfl (OpS.weak (opS_load_cp (c := ob x47) Tryz.underlying36 rfl rfl) (ob_sl _)) ?_
      refine sS rfl rfl rfl (opS_len_sl Tryz.underlying36 rfl) ?_
      refine sS rfl rfl rfl (g_sub rfl rfl g49) ?_
      refine sS rfl rfl rfl (g_add rfl rfl g50) ?_
      refine sS rfl rfl rfl (asg rfl) ?_
      refine AR.nil ?_
      show AW _ _ _ _ _ _
      refine AW.region ?_
      show AR _ _ _ _ _ [0] _
      refine sS rfl rfl rfl (asg rfl) ?_
      refine AR.nil ?_
      exact Exists.intro (y32 + (((x47.getD []).length : Int) - 1), true) ⟨H, WK.at [] (.cons (.refl _) (.cons (.refl _) (.cons (.refl _) (.cons (.refl _) (.cons (.refl _) (.nil _)))))) rfl⟩
     ·replace H := cnd_f c45 H
      refine AW.skip ?_
      exact Exists.intro (y32, y33) ⟨H, WK.at [] (.cons (.refl _) (.cons (.refl _) (.cons (.refl _) (.cons (.refl _) (.cons (.refl _) (.nil _)))))) rfl⟩
    rintro ⟨y51, y52⟩ H
    replace H : rp_Replace_j5 y34 (rp_Replace_L3 F a2 n36) y51 y52 = some r3 := H
    unfold rp_Replace_j5 at H
    show AW _ _ _ _ _ _
    obtain ⟨g54, H⟩ := grd_s H
    refine AW.region ?_
    show AR _ _ _ _ _ [0, 1, 2] _
    refine sS rfl rfl rfl (mv rfl) ?_
    refine sS rfl rfl rfl (g_add rfl rfl g54) ?_
    refine sS rfl rfl rfl (asg rfl) ?_
    refine AR.nil ?_
    exact Exists.intro (n36, y51, y52, y34 + 1) ⟨H, Nat.lt_succ_self _, WK.at [] (.cons (.refl _) (.cons (.refl _) (.cons (.refl _) (.cons (.refl _) (.cons (.refl _) (.nil _)))))) rfl⟩
   ·replace H := cnd_f c37 H
    refine AW.exit ?_
    exact Exists.intro (y32, y33) ⟨H, WK.at [] (.cons (.refl _) (.cons (.refl _) (.cons (.refl _) (.cons (.refl _) (.nil _))))) rfl⟩
 rintro ⟨y55, y56⟩ H
 replace H : rp_Replace_j3 F a2 y55 y56 = some r3 := H
 unfold rp_Replace_j3 at H
 show AW _ _ _ _ _ _
 refine AW.seq ?_
 refine AW.seq ?_
 refine AW.region ?_
 show AR _ _ _ _ _ [0, 1] _
 refine sS rfl rfl rfl (mv rfl) ?_
 refine sS rfl rfl rfl (opS_not rfl) ?_
 refine AR.nil ?_
 show AW _ _ _ _ _ _
 refine AW.cond rfl (fun c58 => ?_) (fun c58 => ?_)
 ·replace H := cnd_t c58 H
  refine AW.seq ?_
  refine AW.region ?_
  show AR _ _ _ _ _ [0, 1] _
  refine sS rfl rfl rfl (mv rfl) ?_
  refine sS rfl rfl rfl (asg rfl) ?_
  refine AR.nil ?_
  show AW _ _ _ _ _ _
  refine AW.ret ?_
  obtain rfl := Option.some.inj H
  exact And.intro rfl (Exists.intro _ (Exists.intro _ ⟨ResV.oneW rfl (.refl _), Sub.at [] rfl, rfl, rfl⟩))
 ·replace H := cnd_f c58 H
  refine AW.skip ?_
  show AW _ _ _ _ _ _
  refine AW.seq ?_
  obtain ⟨g59, H⟩ := grd_s H
  refine AW.region ?_
  show AR _ _ _ _ _ [0, 1, 2] _
  refine sS rfl rfl rfl (mv rfl) ?_
  refine sX rfl rfl rfl (opX_makeOwn (E := Enc.byte) (bytes := 1) (zv := 0) Tryz.underlying36 (by kernel_rfl) (by kernel_rfl) rfl rfl rfl rfl rfl g59) ?_
  rintro _ _ ⟨o60, rfl, rfl⟩
  refine sS rfl rfl rfl (opS_assign (av := .vw _ _ _ _) rfl) ?_
  refine AR.nil ?_
  show AW _ _ _ _ _ _
  refine AW.seq ?_
  refine AW.region ?_
  show AR _ _ _ _ _ [0] _
  refine sS rfl rfl rfl (asg rfl) ?_
  refine AR.nil ?_
  show AW _ _ _ _ _ _
  refine AW.cut (X := (List UInt8)) (fun y93 => ⟨[(12, .vw o60 0 (Int.toNat y55) (Int.toNat y55))], [], [.obj o60 (Enc.byte.fl y93 ++ List.replicate 0 .any)]⟩) (fun y93 => rp_Replace_j1 y55 y93 = some r3) ?_ ?_
  ·
   refine AW.seq ?_
   refine AW.region ?_
   show AR _ _ _ _ _ [0] _
   refine sS rfl rfl rfl (asg rfl) ?_
   refine AR.nil ?_
   show AW _ _ _ _ _ _
   refine AW.block ?_
   refine AW.loop (X := Nat × Int × Int × (List UInt8)) (fun (n65, y61, y62, y63) => ⟨[(0, .cp (entCells entRep q1)), (1, S a2), (12, .vw o60 0 (Int.toNat y55) (Int.toNat y55)), (13, i64 y61), (14, i64 y62)], [], [.obj o60 (Enc.byte.fl y63 ++ List.replicate 0 .any)]⟩) (fun (n65, y61, y62, y63) => rp_Replace_L1 a2 y55 n65 (y61, y62, y63) = some r3) (fun (n65, y61, y62, y63) => n65) (F, 0, 0, List.replicate (Int.toNat y55) 0) H (WK.at [0] (.cons (.refl _) (.cons (.refl _) (.cons (.refl _) (.cons (.refl _) (.cons (.refl _) (.nil _)))))) rfl) ?_
   rintro ⟨n65, y61, y62, y63⟩ H
   obtain ⟨n65, rfl, H⟩ := loop_s H
   replace H : rp_Replace_B1 a2 y55 (rp_Replace_L1 a2 y55 n65) y61 y62 y63 = some r3 := H
   unfold rp_Replace_B1 at H
   show AW _ _ _ _ _ _
   refine AW.seq ?_
   refine AW.seq ?_
   refine AW.region ?_
   show AR _ _ _ _ _ [0, 1, 2, 3] _
   refine sS rfl rfl rfl (mv rfl) ?_
   refine sS rfl rfl rfl (mv rfl) ?_
   refine sS rfl rfl rfl (opS_len_str Tryz.underlying9 rfl) ?_
   refine sS rfl rfl rfl (opS_lt rfl rfl) ?_
   refine AR.nil ?_
   show AW _ _ _ _ _ _
   refine AW.cond rfl (fun c66 => ?_) (fun c66 => ?_)
   ·replace H := cnd_t c66 H
    refine AW.skip ?_
    show AW _ _ _ _ _ _
    refine AW.cut (X := Int × (List UInt8)) (fun (y89, y90) => ⟨[(0, .cp (entCells entRep q1)), (1, S a2), (12, .vw o60 0 (Int.toNat y55) (Int.toNat y55)), (13, i64 y89), (14, i64 y62)], [], [.obj o60 (Enc.byte.fl y90 ++ List.replicate 0 .any)]⟩) (fun (y89, y90) => rp_Replace_j2 y62 (rp_Replace_L1 a2 y55 n65) y89 y90 = some r3) ?_ ?_
    ·
     refine AW.block ?_
     refine AW.seq ?_
     obtain ⟨g67, H⟩ := grd_s H
     obtain ⟨x68, e69, H⟩ := lt_s H
     refine AW.region ?_
     show AR _ _ _ _ _ [0, 1, 2, 3] _
     refine sS rfl rfl rfl (mv rfl) ?_
     refine sS rfl rfl rfl (mv rfl) ?_
     refine sS rfl rfl rfl (g_index_str Tryz.underlying9 rfl rfl g67 e69) ?_
     refine sS rfl rfl rfl (asg rfl) ?_
     refine AR.nil ?_
     show AW _ _ _ _ _ _
     refine AW.seq ?_
     obtain ⟨g70, H⟩ := grd_s H
     obtain ⟨x71, e72, H⟩ := lt_s H
     obtain ⟨g73, H⟩ := grd_s H
     refine AW.region ?_
     show AR _ _ _ _ _ [0, 1, 2, 3, 4, 5, 6] _
     refine sS rfl rfl rfl (opS_move (av := .cp _) rfl) ?_
     refine sS rfl rfl rfl (mv rfl) ?_
     refine sS rfl rfl rfl (opS_nilCheck_cp rfl) ?_
     refine sS rfl rfl rfl (OpS.eq (opS_fieldAddr_cp (n := 0) (by kernel_rfl) rfl (Nat.zero_le _)) rfl) ?_
     refine sS rfl rfl rfl (opS_indexAddr_arrv_cp (E := Enc.ob) (l := entTab) (post := [slE Enc.str entRep q1]) rfl Tryz.underlying99 (by kernel_rfl) rfl rfl (by decide) g70 e72 rfl) ?_
     refine sS rfl rfl rfl (opS_load_cp (c := ob x71) Tryz.underlying36 rfl rfl) ?_
     refine sS rfl rfl rfl (opS_ob_nil (.inr rfl) Tryz.underlying36 rfl rfl g73) ?_
     refine AR.nil ?_
     show AW _ _ _ _ _ _
     refine AW.cond rfl (fun c74 => ?_) (fun c74 => ?_)
     ·replace H := cnd_t c74 H
      obtain ⟨g75, H⟩ := grd_s H
      obtain ⟨g76, H⟩ := grd_s H
      obtain ⟨x77, e78, H⟩ := lt_s H
      obtain ⟨g79, H⟩ := grd_s H
      obtain ⟨g80, H⟩ := grd_s H
      obtain ⟨x81, e82, H⟩ := lt_s H
      obtain ⟨g83, H⟩ := grd_s H
      refine AW.region_draw (by kernel_rfl) ?_
      show AI _ _ _ _ 13 (Array.replicate 13 false) _
      refine AI.take (i := 0) rfl rfl (by kernel_rfl) (by kernel_rfl) (by kernel_rfl) (fun _ _ h => h) (mv rfl) ?_
      show AI _ _ _ _ _ #[true, false, false, false, false, false, false, false, false, false, false, false, false] _
      refine AI.take (i := 1) rfl rfl (by kernel_rfl) (by kernel_rfl) (by kernel_rfl) (fun _ _ h => h) (opS_move (av := .vw _ _ _ _) rfl) ?_
      show AI _ _ _ _ _ #[true, true, false, false, false, false, false, false, false, false, false, false, false] _
      refine AI.take (i := 2) rfl rfl (by kernel_rfl) (by kernel_rfl) (by kernel_rfl) (fun _ _ h => h) (mv rfl) ?_
      show AI _ _ _ _ _ #[true, true, true, false, false, false, false, false, false, false, false, false, false] _
      refine AI.take (i := 3) rfl rfl (by kernel_rfl) (by kernel_rfl) (by kernel_rfl) (fun _ _ h => h) (g_slice_vwf Tryz.underlying36 (by kernel_rfl) rfl rfl g75 (Nat.le_refl _)) ?_
      show AI _ _ _ _ _ #[true, true, true, true, false, false, false, false, false, false, false, false, false] _
      refine AI.take (i := 4) rfl rfl (by kernel_rfl) (by kernel_rfl) (by kernel_rfl) (fun _ _ h => h) (opS_move (av := .cp _) rfl) ?_
      show AI _ _ _ _ _ #[true, true, true, true, true, false, false, false, false, false, false, false, false] _
      refine AI.take (i := 5) rfl rfl (by kernel_rfl) (by kernel_rfl) (by kernel_rfl) (fun _ _ h => h) (mv rfl) ?_
      show AI _ _ _ _ _ #[true, true, true, true, true, true, false, false, false, false, false, false, false] _
      refine AI.take (i := 6) rfl rfl (by kernel_rfl) (by kernel_rfl) (by kernel_rfl) (fun _ _ h => h) (opS_nilCheck_cp rfl) ?_
      show AI _ _ _ _ _ #[true, true, true, true, true, true, true, false, false, false, false, false, false] _
      refine AI.take (i := 7) rfl rfl (by kernel_rfl) (by kernel_rfl) (by kernel_rfl) (fun _ _ h => h) (OpS.eq (opS_fieldAddr_cp (n := 0) (by kernel_rfl) rfl (Nat.zero_le _)) rfl) ?_
      show AI _ _ _ _ _ #[true, true, true, true, true, true, true, true, false, false, false, false, false] _
      refine AI.take (i := 8) rfl rfl (by kernel_rfl) (by kernel_rfl) (by kernel_rfl) (fun _ _ h => h) (opS_indexAddr_arrv_cp (E := Enc.ob) (l := entTab) (post := [slE Enc.str entRep q1]) rfl Tryz.underlying99 (by kernel_rfl) rfl rfl (by decide) g76 e78 rfl) ?_
      show AI _ _ _ _ _ #[true, true, true, true, true, true, true, true, true, false, false, false, false] _
      refine AI.one (i := 9) (by kernel_rfl) rfl rfl ?_
      refine AIO.op rfl (OpS.opR (OpS.weak (opS_load_cp (c := ob x77) Tryz.underlying36 rfl rfl) (ob_sl _)) _) ?_
      show AI _ _ _ _ _ #[true, true, true, true, true, true, true, true, true, true, false, false, false] _
      refine AI.one (i := 10) (by kernel_rfl) rfl rfl ?_
      refine AIO.op rfl (g_copy_row (k := 0) Tryz.underlying36 (by kernel_rfl) rfl rfl rfl g79 g80 e82) ?_
      show AI _ _ _ _ _ #[true, true, true, true, true, true, true, true, true, true, true, false, false] _
      refine AI.take (i := 11) rfl rfl (by kernel_rfl) (by kernel_rfl) (by kernel_rfl) (fun _ _ h => h) (g_add rfl rfl g83) ?_
      show AI _ _ _ _ _ #[true, true, true, true, true, true, true, true, true, true, true, true, false] _
      refine AI.take (i := 12) rfl rfl (by kernel_rfl) (by kernel_rfl) (by kernel_rfl) (fun _ _ h => h) (asg rfl) ?_
      show AI _ _ _ _ _ #[true, true, true, true, true, true, true, true, true, true, true, true, true] _
      refine AI.done rfl ?_
      exact Exists.intro (y61 + ((x77.getD []).length : Int), x81) ⟨H, WK.at [0] (.cons (.refl _) (.cons (.refl _) (.cons (.refl _) (.cons (.refl _) (.cons (.refl _) (.nil _)))))) rfl⟩
     ·replace H := cnd_f c74 H
      refine AW.seq ?_
      obtain ⟨g84, H⟩ := grd_s H
      obtain ⟨g85, H⟩ := grd_s H
      obtain ⟨x86, e87, H⟩ := lt_s H
      refine AW.region ?_
      show AR _ _ _ _ _ [0, 1, 2, 3, 4] _
      refine sS rfl rfl rfl (opS_move (av := .vw _ _ _ _) rfl) ?_
      refine sS rfl rfl rfl (mv rfl) ?_
      refine sS rfl rfl rfl (mv rfl) ?_
      refine sS rfl rfl rfl (g_indexAddr_row Tryz.underlying36 (by kernel_rfl) rfl rfl g84) ?_
      refine s0 rfl rfl (g_store_row (k := 0) (c := x68) (by kernel_rfl) rfl rfl rfl g85 e87) ?_
      refine AR.nil ?_
      show AW _ _ _ _ _ _
      obtain ⟨g88, H⟩ := grd_s H
      refine AW.region ?_
      show AR _ _ _ _ _ [0, 1, 2] _
      refine sS rfl rfl rfl (mv rfl) ?_
      refine sS rfl rfl rfl (g_add rfl rfl g88) ?_
      refine sS rfl rfl rfl (asg rfl) ?_
      refine AR.nil ?_
      exact Exists.intro (y61 + 1, x86) ⟨H, WK.at [0] (.cons (.refl _) (.cons (.refl _) (.cons (.refl _) (.cons (.refl _) (.cons (.refl _) (.nil _)))))) rfl⟩
    rintro ⟨y89, y90⟩ H
    replace H : rp_Replace_j2 y62 (rp_Replace_L1 a2 y55 n65) y89 y90 = some r3 := H
    unfold rp_Replace_j2 at H
    show AW _ _ _ _ _ _
    obtain ⟨g92, H⟩ := grd_s H
    refine AW.region ?_
    show AR _ _ _ _ _ [0, 1, 2] _
    refine sS rfl rfl rfl (mv rfl) ?_
    refine sS rfl rfl rfl (g_add rfl rfl g92) ?_
    refine sS rfl rfl rfl (asg rfl) ?_
    refine AR.nil ?_
    exact Exists.intro (n65, y89, y62 + 1, y90) ⟨H, Nat.lt_succ_self _, WK.at [0] (.cons (.refl _) (.cons (.refl _) (.cons (.refl _) (.cons (.refl _) (.cons (.refl _) (.nil _)))))) rfl⟩
   ·replace H := cnd_f c66 H
    refine AW.exit ?_
    exact Exists.intro y63 ⟨H, WK.at [0] (.cons (.refl _) (.nil _)) rfl⟩
  rintro y93 H
  replace H : rp_Replace_j1 y55 y93 = some r3 := H
  unfold rp_Replace_j1 at H
  show AW _ _ _ _ _ _
  refine AW.seq ?_
  obtain ⟨g95, H⟩ := grd_s H
  refine AW.region ?_
  show AR _ _ _ _ _ [0, 1, 2] _
  refine sS rfl rfl rfl (opS_move (av := .vw _ _ _ _) rfl) ?_
  refine sR rfl rfl rfl (opR_conv_row_str (k := 0) Tryz.underlying36 Tryz.underlying5 Tryz.underlying9 rfl g95 rfl) ?_
  refine sS rfl rfl rfl (asg rfl) ?_
  refine AR.nil ?_
  show AW _ _ _ _ _ _
  refine AW.ret ?_
  obtain rfl := Option.some.inj H
  exact And.intro rfl (Exists.intro _ (Exists.intro _ ⟨ResV.oneW rfl (.refl _), Sub.at [] rfl, rfl, rfl⟩))
theorem en44_h : ∀ (args : Array Value) (w : World), (callFunc 44 args).run Tryz.prog w = .ok (.enter 44 args) w := fun _ _ => by kernel_rfl
theorem en57_h : ∀ (args : Array Value) (w : World), (callFunc 57 args).run Tryz.prog w = .ok (.enter 57 args) w := fun _ _ => by kernel_rfl
theorem en58_h : ∀ (args : Array Value) (w : World), (callFunc 58 args).run Tryz.prog w = .ok (.enter 58 args) w := fun _ _ => by kernel_rfl
theorem en59_h : ∀ (args : Array Value) (w : World), (callFunc 59 args).run Tryz.prog w = .ok (.enter 59 args) w := fun _ _ => by kernel_rfl
theorem en42_h : ∀ (args : Array Value) (w : World), (callFunc 42 args).run Tryz.prog w = .ok (.enter 42 args) w := fun _ _ => by kernel_rfl
theorem en35_h : ∀ (args : Array Value) (w : World), (callFunc 35 args).run Tryz.prog w = .ok (.enter 35 args) w := fun _ _ => by kernel_rfl
theorem en43_h : ∀ (args : Array Value) (w : World), (callFunc 43 args).run Tryz.prog w = .ok (.enter 43 args) w := fun _ _ => by kernel_rfl
theorem en34_h : ∀ (args : Array Value) (w : World), (callFunc 34 args).run Tryz.prog w = .ok (.enter 34 args) w := fun _ _ => by kernel_rfl
theorem en143_h : ∀ (args : Array Value) (w : World), (callFunc 143 args).run Tryz.prog w = .ok (.enter 143 args) w := fun _ _ => by kernel_rfl
theorem en25_h : ∀ (args : Array Value) (w : World), (callFunc 25 args).run Tryz.prog w = .ok (.enter 25 args) w := fun _ _ => by kernel_rfl
theorem en26_h : ∀ (args : Array Value) (w : World), (callFunc 26 args).run Tryz.prog w = .ok (.enter 26 args) w := fun _ _ => by kernel_rfl

/-- The replacer's cells. -/
abbrev rpC (d s : Int) (x y : AV) : List AV := [.v (.int .u32 d), .v (.int .i32 s), .v (.int .u32 0), x, y]
abbrev rpT (t : Nat) : AV := .ifc 102 (.cp (entCells entRep (some t)))

set_option maxRecDepth 100000 in
theorem w_buildOnce (o : Nat) (q : Option Nat) : ACalls Tryz.prog 35 [.pt o 0] [.obj o (rpC 0 1 (.v .nilIface) (slE Enc.str entOld q))] (fun e A' => ∃ t : Nat, e = .ret (.tup []) ∧ A' = [.obj o (rpC 0 1 (rpT t) nilS)]) := by
 refine ACalls.of_body Tryz.func35 rfl rfl ?_
 show AW _ _ 10 _ _ _
 refine AW.seq ?_
 refine AW.region ?_
 show AR _ _ _ _ _ [0, 1, 2, 3, 4, 5] _
 refine sS rfl rfl rfl (opS_move (av := .pt _ _) rfl) ?_
 refine sS rfl rfl rfl (opS_move (av := .pt _ _) rfl) ?_
 refine AR.run rfl rfl (AO.call [] rfl en44_h rfl (w_rp_build 0 o q entRep (by decide +kernel)) (List.Perm.refl _) ?_ (fun c A' h => by obtain ⟨t, h, _⟩ := h; cases h))
 rintro av A' ⟨t, h, rfl⟩
 cases h
 refine sS rfl rfl rfl (opS_nilCheck_pt rfl) ?_
 refine sS rfl rfl rfl (opS_fieldAddr_pt (n := 3) (by kernel_rfl) rfl) ?_
 refine s0 rfl rfl (opR_store_pt (i := 0) (c := .ifc _ _) (by kernel_rfl) rfl rfl rfl rfl (Nat.le_of_ble_eq_true rfl)) ?_
 refine AR.nil ?_
 show AW _ _ _ _ _ _
 refine AW.region ?_
 show AR _ _ _ _ _ [0, 1, 2, 3] _
 refine sS rfl rfl rfl (opS_move (av := .pt _ _) rfl) ?_
 refine sS rfl rfl rfl (opS_nilCheck_pt rfl) ?_
 refine sS rfl rfl rfl (opS_fieldAddr_pt (n := 4) (by kernel_rfl) rfl) ?_
 refine s0 rfl rfl (opR_store_pt (i := 0) (c := .v _) (by kernel_rfl) rfl rfl rfl rfl (Nat.le_of_ble_eq_true rfl)) ?_
 refine AR.nil ?_
 exact And.intro rfl ⟨_, _, ResV.noneW rfl, Sub.at [0] rfl, t, rfl, rfl⟩

set_option maxRecDepth 100000 in
theorem w_doSlow (o : Nat) (q : Option Nat) : ACalls Tryz.prog 43 [.pt o 0, .fn (.func 35) [.pt o 0] []] [.obj o (rpC 0 0 (.v .nilIface) (slE Enc.str entOld q))] (fun e A' => ∃ t : Nat, e = .ret (.tup []) ∧ A' = [.obj o (rpC 1 0 (rpT t) nilS)]) := by
 refine ACalls.of_bodyD [] Tryz.func43 rfl rfl ?_
 show AW _ _ 21 _ _ _
 refine AW.seq ?_
 refine AW.region ?_
 show AR _ _ _ _ _ [0, 1, 2, 3] _
 refine sS rfl rfl rfl (opS_move (av := .pt _ _) rfl) ?_
 refine sS rfl rfl rfl (opS_nilCheck_pt rfl) ?_
 refine sS rfl rfl rfl (opS_fieldAddr_pt (n := 1) (by kernel_rfl) rfl) ?_
 refine AR.run rfl rfl (AO.callAt [0] rfl en57_h rfl (w_sy_Lock 0 o _ _ rfl) rfl (fun c A' h => by cases h.1) ?_)
 rintro av A' ⟨h, rfl⟩; cases h
 refine AR.nil ?_
 show AW _ _ _ _ _ _
 refine AW.seq ?_
 refine AW.region ?_
 show AR _ _ _ _ _ [0, 1, 2, 3] _
 refine sS rfl rfl rfl (opS_move (av := .pt _ _) rfl) ?_
 refine sS rfl rfl rfl (opS_nilCheck_pt rfl) ?_
 refine sS rfl rfl rfl (opS_fieldAddr_pt (n := 1) (by kernel_rfl) rfl) ?_
 refine AR.run rfl rfl (AO.deferFn rfl ?_)
 refine AR.nil ?_
 show AW _ _ _ _ _ _
 refine AW.seq ?_
 refine AW.region ?_
 show AR _ _ _ _ _ [0, 1, 2, 3, 4] _
 refine sS rfl rfl rfl (opS_move (av := .pt _ _) rfl) ?_
 refine sS rfl rfl rfl (opS_nilCheck_pt rfl) ?_
 refine sS rfl rfl rfl (opS_fieldAddr_pt (n := 0) (by kernel_rfl) rfl) ?_
 refine AR.run rfl rfl (AO.callAt [0] rfl en42_h rfl (w_sy_Load 0 o 0 1 _ _ false rfl) rfl (fun c A' h => by cases h.1) ?_)
 rintro av A' ⟨h, rfl⟩; cases h
 refine sS rfl rfl rfl (opS_not rfl) ?_
 refine AR.nil ?_
 show AW _ _ _ _ _ _
 refine AW.cond rfl (fun c => ?_) (fun c => by cases c)
 show AW _ _ _ _ _ _
 refine AW.seq ?_
 refine AW.region ?_
 show AR _ _ _ _ _ [0, 1, 2, 3] _
 refine sS rfl rfl rfl (opS_move (av := .pt _ _) rfl) ?_
 refine sS rfl rfl rfl (opS_nilCheck_pt rfl) ?_
 refine sS rfl rfl rfl (opS_fieldAddr_pt (n := 0) (by kernel_rfl) rfl) ?_
 refine AR.run rfl rfl (AO.deferFn rfl ?_)
 refine AR.nil ?_
 show AW _ _ _ _ _ _
 refine AW.region ?_
 show AR _ _ _ _ _ [0, 1] _
 refine sS rfl rfl rfl (opS_move (av := .fn _ _ _) rfl) ?_
 refine AR.run rfl rfl (AO.callF [] rfl rfl en35_h rfl (w_buildOnce o q) (List.Perm.refl _) ?_ (fun c A' h => by obtain ⟨t, h, _⟩ := h; cases h))
 rintro av A' ⟨t, h, rfl⟩
 cases h
 refine AR.nil ?_
 show ALeaves _ _ _ _ _ [.call (.func 59) [] [.pt o 0, B true], .call (.func 58) [] [.pt o 1]] .returning [.obj o (rpC 0 1 (rpT t) nilS)]
 refine ALeaves.cons1 (v := .tup []) (u1 := .returning) (A2 := [.obj o (rpC 1 1 (rpT t) nilS)]) [0] (fun h => by cases h) en59_h rfl (d_sy_Store .returning 0 o _ _ true 1 rfl) ?_
 refine ALeaves.cons1 (v := .tup []) (u1 := .returning) (A2 := [.obj o (rpC 1 0 (rpT t) nilS)]) [0] (fun h => by cases h) en58_h rfl (d_sy_Unlock .returning 0 o 1 _ _ rfl) ?_
 exact ⟨.tup [], _, ResT.none rfl, Sub.refl _, t, rfl, rfl⟩

set_option maxRecDepth 100000 in
theorem w_Do (o : Nat) (q : Option Nat) : ACalls Tryz.prog 34 [.pt o 0, .fn (.func 35) [.pt o 0] []] [.obj o (rpC 0 0 (.v .nilIface) (slE Enc.str entOld q))] (fun e A' => ∃ t : Nat, e = .ret (.tup []) ∧ A' = [.obj o (rpC 1 0 (rpT t) nilS)]) := by
 refine ACalls.of_body Tryz.func34 rfl rfl ?_
 show AW _ _ 12 _ _ _
 refine AW.seq ?_
 refine AW.region ?_
 show AR _ _ _ _ _ [0, 1, 2, 3, 4] _
 refine sS rfl rfl rfl (opS_move (av := .pt _ _) rfl) ?_
 refine sS rfl rfl rfl (opS_nilCheck_pt rfl) ?_
 refine sS rfl rfl rfl (opS_fieldAddr_pt (n := 0) (by kernel_rfl) rfl) ?_
 refine AR.run rfl rfl (AO.callAt [0] rfl en42_h rfl (w_sy_Load 0 o 0 0 _ _ false rfl) rfl (fun c A' h => by cases h.1) ?_)
 rintro av A' ⟨h, rfl⟩; cases h
 refine sS rfl rfl rfl (opS_not rfl) ?_
 refine AR.nil ?_
 show AW _ _ _ _ _ _
 refine AW.cond rfl (fun c => ?_) (fun c => by cases c)
 refine AW.region ?_
 show AR _ _ _ _ _ [0, 1, 2] _
 refine sS rfl rfl rfl (opS_move (av := .pt _ _) rfl) ?_
 refine sS rfl rfl rfl (opS_move (av := .fn _ _ _) rfl) ?_
 refine AR.run rfl rfl (AO.call [] rfl en43_h rfl (w_doSlow o q) (List.Perm.refl _) ?_ (fun c A' h => by obtain ⟨t, h, _⟩ := h; cases h))
 rintro av A' ⟨t, h, rfl⟩
 cases h
 refine AR.nil ?_
 exact And.intro rfl ⟨_, _, ResV.noneW rfl, Sub.at [0] rfl, t, rfl, rfl⟩

set_option maxRecDepth 100000 in
theorem w_RReplace (F o : Nat) (q : Option Nat) (s r : List UInt8) (H : rp_Replace F s = some r) : ACalls Tryz.prog 26 [.pt o 0, S s] [.obj o (rpC 0 0 (.v .nilIface) (slE Enc.str entOld q))] (fun e A' => e = .ret (S r) ∧ A' = []) := by
 refine ACalls.of_body Tryz.func26 rfl rfl ?_
 show AW _ _ 17 _ _ _
 refine AW.seq ?_
 refine AW.region ?_
 show AR _ _ _ _ _ [0] _
 refine sS rfl rfl rfl (asg rfl) ?_
 refine AR.nil ?_
 show AW _ _ _ _ _ _
 refine AW.seq ?_
 refine AW.region ?_
 show AR _ _ _ _ _ [0, 1, 2, 3, 4, 5] _
 refine sS rfl rfl rfl (opS_move (av := .pt _ _) rfl) ?_
 refine sS rfl rfl rfl (opS_nilCheck_pt rfl) ?_
 refine sS rfl rfl rfl (opS_fieldAddr_pt (n := 0) (by kernel_rfl) rfl) ?_
 refine sS rfl rfl rfl (opS_move (av := .pt _ _) rfl) ?_
 refine sS rfl rfl rfl (opS_makeFunc rfl rfl) ?_
 refine AR.run rfl rfl (AO.call [] rfl en34_h rfl (w_Do o q) (List.Perm.refl _) ?_ (fun c A' h => by obtain ⟨t, h, _⟩ := h; cases h))
 rintro av A' ⟨t, h, rfl⟩
 cases h
 refine AR.nil ?_
 show AW _ _ _ _ _ _
 refine AW.seq ?_
 refine AW.region ?_
 show AR _ _ _ _ _ [0, 1, 2, 3, 4, 5, 6] _
 refine sS rfl rfl rfl (opS_move (av := .pt _ _) rfl) ?_
 refine sS rfl rfl rfl (opS_nilCheck_pt rfl) ?_
 refine sS rfl rfl rfl (opS_fieldAddr_pt (n := 3) (by kernel_rfl) rfl) ?_
 refine sR rfl rfl rfl (opR_load_pt (i := 0) Tryz.underlying66 rfl rfl rfl rfl) ?_
 refine sS rfl rfl rfl (mv rfl) ?_
 refine AR.run rfl rfl (AO.invoke [.obj o (rpC 1 0 (rpT t) nilS)] rfl rfl (fun v w => by kernel_rfl) en143_h rfl (w_rp_Replace F (some t) s r H) (List.Perm.refl _) ?_ (fun c A' h => by cases h.1))
 rintro av A' ⟨h, rfl⟩
 cases h
 refine sS rfl rfl rfl (asg rfl) ?_
 refine AR.nil ?_
 show AW _ _ _ _ _ _
 refine AW.ret ?_
 exact And.intro rfl ⟨_, _, ResV.oneW rfl (.refl _), Sub.nil _, rfl, rfl⟩

set_option maxRecDepth 100000 in
theorem w_Encode (F : Nat) (s r : List UInt8) (H : rp_Replace F s = some r) : ACalls Tryz.prog 17 [S s] [] (Ret (S r) []) := by
 refine ACalls.of_body Tryz.func17 rfl rfl ?_
 show AW _ _ 7 _ _ _
 refine AW.seq ?_
 refine AW.region ?_
 show AR _ _ _ _ _ [0] _
 refine sS rfl rfl rfl (asg rfl) ?_
 refine AR.nil ?_
 show AW _ _ _ _ _ _
 refine AW.seq ?_
 refine AW.region ?_
 show AR _ _ _ _ _ [0, 1, 2, 3, 4] _
 refine sR rfl rfl rfl (opR_buildE (E := Enc.str) (bytes := 16) (xs := entOld.map fun l => .const (.string ⟨l.toArray⟩)) (l := entOld) Tryz.underlying39 (by kernel_rfl) rfl rfl (by decide) rfl rfl) ?_
 refine AR.run rfl rfl (AO.call [] rfl en25_h rfl (w_rp_New 0 none (by decide +kernel)) (List.Perm.refl _) ?_ (fun c A' h => by obtain ⟨o, t, h, _⟩ := h; cases h))
 rintro av A' ⟨o, t, h, rfl⟩
 cases h
 refine sS rfl rfl rfl (mv rfl) ?_
 refine AR.run rfl rfl (AO.call [] rfl en26_h rfl (w_RReplace F o (some t) s r H) (List.Perm.refl _) ?_ (fun c A' h => by cases h.1))
 rintro av A' ⟨h, rfl⟩
 cases h
 refine sS rfl rfl rfl (asg rfl) ?_
 refine AR.nil ?_
 show AW _ _ _ _ _ _
 refine AW.ret ?_
 exact And.intro rfl ⟨_, _, ResV.oneW rfl (.refl _), Sub.nil _, rfl, rfl⟩

end Go.Proofs.YtjhlnhipjomdeaaGreatDoor
