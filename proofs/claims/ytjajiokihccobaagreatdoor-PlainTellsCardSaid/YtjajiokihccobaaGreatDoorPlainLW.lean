/-
  The statements about plain texts: what is run is what the plain functions say. Printed by a program of ours.
-/
import Derived.Test.YtjajiokihccobaaGreatDoorAvE
import Derived.Test.YtjajiokihccobaaGreatDoorPvLib
import Derived.Test.YtjajiokihccobaaGreatDoorP11Split
import Derived.Test.YtjajiokihccobaaGreatDoorChecked
import Derived.Test.YtjajiokihccobaaGreatDoorPlainAW
import Derived.Test.YtjajiokihccobaaGreatDoorPlainLP
set_option linter.unusedVariables false
set_option linter.unusedSimpArgs false
namespace Go.Proofs.YtjajiokihccobaaGreatDoor
open Go.RowKit Go.Av Go.Pv
theorem en6 : ∀ (args : Array Value) (w : World), (callFunc 6 args).run Tryz.prog w = .ok (.enter 6 args) w := fun _ _ => by kernel_rfl
theorem en8 : ∀ (args : Array Value) (w : World), (callFunc 8 args).run Tryz.prog w = .ok (.enter 8 args) w := fun _ _ => by kernel_rfl
set_option maxRecDepth 100000 in
set_option maxHeartbeats 1000000 in
theorem w_law11_awake (F : Nat) (r1 : Bool) (H : law11_awake F = some r1) : ACalls Tryz.prog 4 [] [] (Ret (B r1) []) := by
  unfold law11_awake at H
  refine ACalls.of_body Tryz.func4 rfl rfl ?_
  show AW _ _ 22 _ _ _
  refine AW.seq ?_
  refine AW.region ?_
  show AR _ _ _ _ _ [0] _
  refine sS rfl rfl rfl (asg rfl) ?_
  refine AR.nil ?_
  show AW _ _ _ _ _ _
  refine AW.seq ?_
  obtain ⟨x2, e3, H⟩ := bnd_s H
  refine AW.region ?_
  show AR _ _ _ _ _ [0, 1] _
  refine AR.run rfl rfl (AO.callp rfl en6 rfl (w_plain_Wrap F ([97, 32, 98, 99, 32, 100] : List UInt8) 4 x2 e3) ?_)
  refine sS rfl rfl rfl (opS_assign (av := slE _ _ _) rfl) ?_
  refine AR.nil ?_
  show AW _ _ _ _ _ _
  refine AW.seq ?_
  obtain ⟨x4, e5, H⟩ := bnd_s H
  obtain ⟨g8, H⟩ := grdc_s H
  obtain ⟨x9, e10, H⟩ := lt_s H
  obtain ⟨g12, H⟩ := grdc_s H
  obtain ⟨x13, e14, H⟩ := lt_s H
  refine AW.region ?_
  show AR _ _ _ _ _ [0, 1, 2, 3, 4, 5, 6, 7, 8, 9, 10, 11, 12, 13, 14, 15, 16, 17, 18, 19] _
  refine AR.run rfl rfl (AO.callp rfl en8 rfl (w_plain_Of F plainl_k1 x4 e5) ?_)
  refine sS rfl rfl rfl (opS_eqs rfl rfl) ?_
  refine sS rfl rfl rfl (mv rfl) ?_
  refine AR.meet (l := [7, 8, 9, 10, 11, 12, 13, 14, 15, 16, 17, 18, 19]) 9 (B ((decide (x4 = ([97, 10, 98, 38, 32, 99] : List UInt8))) && (decide ((x2.length : Int) = 2)))) (fun K => ?_) ?_
  · rcases Bool.eq_false_or_eq_true (decide (x4 = ([97, 10, 98, 38, 32, 99] : List UInt8))) with h6 | h6
    ·
      refine gT h6 rfl rfl rfl rfl rfl rfl (AO.ops rfl rfl (opS_move (av := slE _ _ _) rfl) ?_)
      refine gT h6 rfl rfl rfl rfl rfl rfl (AO.ops rfl rfl (opS_len_sl Tryz.underlying24 rfl) ?_)
      refine gT h6 rfl rfl rfl rfl rfl rfl (AO.ops rfl rfl (opS_eqi rfl rfl) ?_)
      refine sS rfl rfl rfl (opS_pick_t (av := .v _) rfl h6 rfl) ?_
      exact K _ 3 _ (B_congr (and_t h6)) rfl rfl
    ·
      refine gF h6 rfl rfl rfl rfl rfl ?_
      refine gF h6 rfl rfl rfl rfl rfl ?_
      refine gF h6 rfl rfl rfl rfl rfl ?_
      refine sS rfl rfl rfl (opS_pick_f (av := .v _) rfl h6 rfl) ?_
      exact K _ 3 _ (B_congr (and_f h6)) rfl rfl
  refine sS rfl rfl rfl (mv rfl) ?_
  refine AR.meet (l := [13, 14, 15, 16, 17, 18, 19]) 15 (B (((decide (x4 = ([97, 10, 98, 38, 32, 99] : List UInt8))) && (decide ((x2.length : Int) = 2))) && (decide (x9 = ([97, 32, 98, 99] : List UInt8))))) (fun K => ?_) ?_
  · rcases Bool.eq_false_or_eq_true ((decide (x4 = ([97, 10, 98, 38, 32, 99] : List UInt8))) && (decide ((x2.length : Int) = 2))) with h7 | h7
    ·
      refine gT h7 rfl rfl rfl rfl rfl rfl (AO.ops rfl rfl (opS_move (av := slE _ _ _) rfl) ?_)
      refine gT h7 rfl rfl rfl rfl rfl rfl (AO.ops rfl rfl (g_indexAddr (E := Enc.str) Tryz.underlying24 (by kernel_rfl) rfl rfl (g8 h7) e10) ?_)
      refine gT h7 rfl rfl rfl rfl rfl rfl (AO.ops rfl rfl (opS_load_cp Tryz.underlying9 rfl rfl) ?_)
      refine gT h7 rfl rfl rfl rfl rfl rfl (AO.ops rfl rfl (opS_eqs rfl rfl) ?_)
      refine sS rfl rfl rfl (opS_pick_t (av := .v _) rfl h7 rfl) ?_
      exact K _ 4 _ (B_congr (and_t h7)) rfl rfl
    ·
      refine gF h7 rfl rfl rfl rfl rfl ?_
      refine gF h7 rfl rfl rfl rfl rfl ?_
      refine gF h7 rfl rfl rfl rfl rfl ?_
      refine gF h7 rfl rfl rfl rfl rfl ?_
      refine sS rfl rfl rfl (opS_pick_f (av := .v _) rfl h7 rfl) ?_
      exact K _ 4 _ (B_congr (and_f h7)) rfl rfl
  refine sS rfl rfl rfl (mv rfl) ?_
  refine AR.meet (l := [19]) 21 (B ((((decide (x4 = ([97, 10, 98, 38, 32, 99] : List UInt8))) && (decide ((x2.length : Int) = 2))) && (decide (x9 = ([97, 32, 98, 99] : List UInt8)))) && (decide (x13 = ([100] : List UInt8))))) (fun K => ?_) ?_
  · rcases Bool.eq_false_or_eq_true (((decide (x4 = ([97, 10, 98, 38, 32, 99] : List UInt8))) && (decide ((x2.length : Int) = 2))) && (decide (x9 = ([97, 32, 98, 99] : List UInt8)))) with h11 | h11
    ·
      refine gT h11 rfl rfl rfl rfl rfl rfl (AO.ops rfl rfl (opS_move (av := slE _ _ _) rfl) ?_)
      refine gT h11 rfl rfl rfl rfl rfl rfl (AO.ops rfl rfl (g_indexAddr (E := Enc.str) Tryz.underlying24 (by kernel_rfl) rfl rfl (g12 h11) e14) ?_)
      refine gT h11 rfl rfl rfl rfl rfl rfl (AO.ops rfl rfl (opS_load_cp Tryz.underlying9 rfl rfl) ?_)
      refine gT h11 rfl rfl rfl rfl rfl rfl (AO.ops rfl rfl (opS_eqs rfl rfl) ?_)
      refine sS rfl rfl rfl (opS_pick_t (av := .v _) rfl h11 rfl) ?_
      exact K _ 4 _ (B_congr (and_t h11)) rfl rfl
    ·
      refine gF h11 rfl rfl rfl rfl rfl ?_
      refine gF h11 rfl rfl rfl rfl rfl ?_
      refine gF h11 rfl rfl rfl rfl rfl ?_
      refine gF h11 rfl rfl rfl rfl rfl ?_
      refine sS rfl rfl rfl (opS_pick_f (av := .v _) rfl h11 rfl) ?_
      exact K _ 4 _ (B_congr (and_f h11)) rfl rfl
  refine sS rfl rfl rfl (asg rfl) ?_
  refine AR.nil ?_
  show AW _ _ _ _ _ _
  refine AW.ret ?_
  obtain rfl := Option.some.inj H
  exact And.intro rfl (Exists.intro _ (Exists.intro _ ⟨ResV.oneW rfl (.refl _), Sub.at [] rfl, rfl, rfl⟩))
end Go.Proofs.YtjajiokihccobaaGreatDoor
