/-
  The statement about what the document says of plain texts: what is run is what the plain functions say. Printed by a program of ours.
-/
import Derived.Test.YtjajiokihccobaaGreatDoorAvE
import Derived.Test.YtjajiokihccobaaGreatDoorPvLib
import Derived.Test.YtjajiokihccobaaGreatDoorP11Split
import Derived.Test.YtjajiokihccobaaGreatDoorChecked
import Derived.Test.YtjajiokihccobaaGreatDoorPlainLW
import Derived.Test.YtjajiokihccobaaGreatDoorRefAW
import Derived.Test.YtjajiokihccobaaGreatDoorPlainTP
set_option linter.unusedVariables false
set_option linter.unusedSimpArgs false
namespace Go.Proofs.YtjajiokihccobaaGreatDoor
open Go.RowKit Go.Av Go.Pv
theorem en4 : ∀ (args : Array Value) (w : World), (callFunc 4 args).run Tryz.prog w = .ok (.enter 4 args) w := fun _ _ => by kernel_rfl
theorem en5 : ∀ (args : Array Value) (w : World), (callFunc 5 args).run Tryz.prog w = .ok (.enter 5 args) w := fun _ _ => by kernel_rfl
theorem en7 : ∀ (args : Array Value) (w : World), (callFunc 7 args).run Tryz.prog w = .ok (.enter 7 args) w := fun _ _ => by kernel_rfl
theorem en9 : ∀ (args : Array Value) (w : World), (callFunc 9 args).run Tryz.prog w = .ok (.enter 9 args) w := fun _ _ => by kernel_rfl
set_option maxRecDepth 100000 in
set_option maxHeartbeats 1000000 in
theorem w_law11_PlainTells (F : Nat) (a1 : List UInt8) (a2 : Int) (r3 : Bool) (H : law11_PlainTells F a1 a2 = some r3) : ACalls Tryz.prog 3 [S a1, i64 a2] [] (Ret (B r3) []) := by
  unfold law11_PlainTells at H
  refine ACalls.of_body Tryz.func3 rfl rfl ?_
  show AW _ _ 31 _ _ _
  refine AW.seq ?_
  refine AW.region ?_
  show AR _ _ _ _ _ [0] _
  refine sS rfl rfl rfl (asg rfl) ?_
  refine AR.nil ?_
  show AW _ _ _ _ _ _
  refine AW.seq ?_
  obtain ⟨x4, e5, H⟩ := bnd_s H
  refine AW.region ?_
  show AR _ _ _ _ _ [0, 1] _
  refine AR.run rfl rfl (AO.callp rfl en4 rfl (w_law11_awake F x4 e5) ?_)
  refine sS rfl rfl rfl (asg rfl) ?_
  refine AR.nil ?_
  show AW _ _ _ _ _ _
  refine AW.seq ?_
  refine AW.seq ?_
  refine AW.region ?_
  show AR _ _ _ _ _ [0, 1, 2, 3, 4, 5, 6] _
  refine sS rfl rfl rfl (mv rfl) ?_
  refine sS rfl rfl rfl (opS_not rfl) ?_
  refine sS rfl rfl rfl (mv rfl) ?_
  refine AR.meet (l := []) 14 (B ((!x4) || (decide (1000 < (a1.length : Int))))) (fun K => ?_) ?_
  · rcases Bool.eq_false_or_eq_true (!x4) with h6 | h6
    ·
      refine gF h6 rfl rfl rfl rfl rfl ?_
      refine gF h6 rfl rfl rfl rfl rfl ?_
      refine gF h6 rfl rfl rfl rfl rfl ?_
      refine sS rfl rfl rfl (opS_pick_t (av := .v _) rfl h6 rfl) ?_
      exact K _ 3 _ (B_congr (or_t h6)) rfl rfl
    ·
      refine gT h6 rfl rfl rfl rfl rfl rfl (AO.ops rfl rfl (mv rfl) ?_)
      refine gT h6 rfl rfl rfl rfl rfl rfl (AO.ops rfl rfl (opS_len_str Tryz.underlying9 rfl) ?_)
      refine gT h6 rfl rfl rfl rfl rfl rfl (AO.ops rfl rfl (opS_gt rfl rfl) ?_)
      refine sS rfl rfl rfl (opS_pick_f (av := .v _) rfl h6 rfl) ?_
      exact K _ 3 _ (B_congr (or_f h6)) rfl rfl
  refine AR.nil ?_
  show AW _ _ _ _ _ _
  refine AW.cond rfl (fun c7 => ?_) (fun c7 => ?_)
  · replace H := cnd_t c7 H
    refine AW.seq ?_
    refine AW.region ?_
    show AR _ _ _ _ _ [0, 1] _
    refine sS rfl rfl rfl (mv rfl) ?_
    refine sS rfl rfl rfl (asg rfl) ?_
    refine AR.nil ?_
    show AW _ _ _ _ _ _
    refine AW.ret ?_
    obtain rfl := Option.some.inj H
    exact And.intro rfl (Exists.intro _ (Exists.intro _ ⟨ResV.oneW rfl (.refl _), Sub.at [] rfl, rfl, rfl⟩))
  · replace H := cnd_f c7 H
    refine AW.skip ?_
    show AW _ _ _ _ _ _
    refine AW.seq ?_
    obtain ⟨x8, e9, H⟩ := bnd_s H
    obtain ⟨x10, e11, H⟩ := bnd_s H
    obtain ⟨x12, e13, H⟩ := bnd_s H
    refine AW.region ?_
    show AR _ _ _ _ _ [0, 1, 2, 3, 4, 5, 6, 7] _
    refine sS rfl rfl rfl (mv rfl) ?_
    refine sS rfl rfl rfl (mv rfl) ?_
    refine AR.run rfl rfl (AO.callp rfl en6 rfl (w_plain_Wrap F a1 a2 x8 e9) ?_)
    refine sS rfl rfl rfl (mv rfl) ?_
    refine sS rfl rfl rfl (mv rfl) ?_
    refine AR.run rfl rfl (AO.callp rfl en7 rfl (w_ref11_Wrap F a1 a2 x10 e11) ?_)
    refine AR.run rfl rfl (AO.callp rfl en5 rfl (w_ref11_Same F x8 none x10 none x12 e13) ?_)
    refine sS rfl rfl rfl (asg rfl) ?_
    refine AR.nil ?_
    show AW _ _ _ _ _ _
    refine AW.seq ?_
    obtain ⟨x15, e16, H⟩ := bndc_s H
    obtain ⟨x17, e18, H⟩ := bndc_s H
    refine AW.region ?_
    show AR _ _ _ _ _ [0, 1, 2, 3, 4, 5, 6, 7, 8] _
    refine sS rfl rfl rfl (mv rfl) ?_
    refine sS rfl rfl rfl (mv rfl) ?_
    refine AR.meet (l := [8]) 30 (B (x12 && (decide (x15 = x17)))) (fun K => ?_) ?_
    · rcases Bool.eq_false_or_eq_true x12 with h14 | h14
      ·
        refine gT h14 rfl rfl rfl rfl rfl rfl (AO.ops rfl rfl (mv rfl) ?_)
        refine gT h14 rfl rfl rfl rfl rfl rfl (AO.callp rfl en8 rfl (w_plain_Of F a1 x15 (e16 h14)) ?_)
        refine gT h14 rfl rfl rfl rfl rfl rfl (AO.ops rfl rfl (mv rfl) ?_)
        refine gT h14 rfl rfl rfl rfl rfl rfl (AO.callp rfl en9 rfl (w_ref11_Of F a1 x17 (e18 h14)) ?_)
        refine gT h14 rfl rfl rfl rfl rfl rfl (AO.ops rfl rfl (opS_eqs rfl rfl) ?_)
        refine sS rfl rfl rfl (opS_pick_t (av := .v _) rfl h14 rfl) ?_
        exact K _ 5 _ (B_congr (and_t h14)) rfl rfl
      ·
        refine gF h14 rfl rfl rfl rfl rfl ?_
        refine gF h14 rfl rfl rfl rfl rfl ?_
        refine gF h14 rfl rfl rfl rfl rfl ?_
        refine gF h14 rfl rfl rfl rfl rfl ?_
        refine gF h14 rfl rfl rfl rfl rfl ?_
        refine sS rfl rfl rfl (opS_pick_f (av := .v _) rfl h14 rfl) ?_
        exact K _ 5 _ (B_congr (and_f h14)) rfl rfl
    refine sS rfl rfl rfl (asg rfl) ?_
    refine AR.nil ?_
    show AW _ _ _ _ _ _
    refine AW.ret ?_
    obtain rfl := Option.some.inj H
    exact And.intro rfl (Exists.intro _ (Exists.intro _ ⟨ResV.oneW rfl (.refl _), Sub.at [] rfl, rfl, rfl⟩))
end Go.Proofs.YtjajiokihccobaaGreatDoor
