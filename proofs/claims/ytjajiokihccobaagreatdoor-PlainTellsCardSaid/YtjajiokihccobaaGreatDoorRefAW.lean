/-
  The document's answers about entities and marks: what is run is what the plain functions say. Printed by a program of ours.
-/
import Derived.Test.YtjajiokihccobaaGreatDoorAvE
import Derived.Test.YtjajiokihccobaaGreatDoorPvLib
import Derived.Test.YtjajiokihccobaaGreatDoorP11Split
import Derived.Test.YtjajiokihccobaaGreatDoorChecked
import Derived.Test.YtjajiokihccobaaGreatDoorAvN
import Derived.Test.YtjajiokihccobaaGreatDoorAvOwn
import Derived.Test.YtjajiokihccobaaGreatDoorLibLW
import Derived.Test.YtjajiokihccobaaGreatDoorEntAW
import Derived.Test.YtjajiokihccobaaGreatDoorRefAP
set_option linter.unusedVariables false
set_option linter.unusedSimpArgs false
namespace Go.Proofs.YtjajiokihccobaaGreatDoor
open Go.RowKit Go.Av Go.Pv
theorem en13 : ∀ (args : Array Value) (w : World), (callFunc 13 args).run Tryz.prog w = .ok (.enter 13 args) w := fun _ _ => by kernel_rfl
theorem en17 : ∀ (args : Array Value) (w : World), (callFunc 17 args).run Tryz.prog w = .ok (.enter 17 args) w := fun _ _ => by kernel_rfl
theorem en19 : ∀ (args : Array Value) (w : World), (callFunc 19 args).run Tryz.prog w = .ok (.enter 19 args) w := fun _ _ => by kernel_rfl
theorem en31 : ∀ (args : Array Value) (w : World), (callFunc 31 args).run Tryz.prog w = .ok (.enter 31 args) w := fun _ _ => by kernel_rfl
theorem en32 : ∀ (args : Array Value) (w : World), (callFunc 32 args).run Tryz.prog w = .ok (.enter 32 args) w := fun _ _ => by kernel_rfl
theorem en33 : ∀ (args : Array Value) (w : World), (callFunc 33 args).run Tryz.prog w = .ok (.enter 33 args) w := fun _ _ => by kernel_rfl
theorem en34 : ∀ (args : Array Value) (w : World), (callFunc 34 args).run Tryz.prog w = .ok (.enter 34 args) w := fun _ _ => by kernel_rfl
theorem en36 : ∀ (args : Array Value) (w : World), (callFunc 36 args).run Tryz.prog w = .ok (.enter 36 args) w := fun _ _ => by kernel_rfl
theorem en48 : ∀ (args : Array Value) (w : World), (callFunc 48 args).run Tryz.prog w = .ok (.enter 48 args) w := fun _ _ => by kernel_rfl
theorem en49 : ∀ (args : Array Value) (w : World), (callFunc 49 args).run Tryz.prog w = .ok (.enter 49 args) w := fun _ _ => by kernel_rfl
theorem en50 : ∀ (args : Array Value) (w : World), (callFunc 50 args).run Tryz.prog w = .ok (.enter 50 args) w := fun _ _ => by kernel_rfl
theorem en51 : ∀ (args : Array Value) (w : World), (callFunc 51 args).run Tryz.prog w = .ok (.enter 51 args) w := fun _ _ => by kernel_rfl
theorem en52 : ∀ (args : Array Value) (w : World), (callFunc 52 args).run Tryz.prog w = .ok (.enter 52 args) w := fun _ _ => by kernel_rfl
theorem en65 : ∀ (args : Array Value) (w : World), (callFunc 65 args).run Tryz.prog w = .ok (.enter 65 args) w := fun _ _ => by kernel_rfl
theorem en66 : ∀ (args : Array Value) (w : World), (callFunc 66 args).run Tryz.prog w = .ok (.enter 66 args) w := fun _ _ => by kernel_rfl
theorem en79 : ∀ (args : Array Value) (w : World), (callFunc 79 args).run Tryz.prog w = .ok (.enter 79 args) w := fun _ _ => by kernel_rfl
set_option maxRecDepth 100000 in
set_option maxHeartbeats 1000000 in
theorem w_ref07_Rune (F : Nat) (a1 : Int) (r2 : List UInt8) (r3 : Bool) (H : ref07_Rune F a1 = some (r2, r3)) : ACalls Tryz.prog 66 [i64 a1] [] (Ret (.tup [S r2, B r3]) []) := by
  unfold ref07_Rune at H
  refine ACalls.of_body Tryz.func66 rfl rfl ?_
  show AW _ _ 98 _ _ _
  refine AW.seq ?_
  refine AW.region ?_
  show AR _ _ _ _ _ [0, 1] _
  refine sS rfl rfl rfl (asg rfl) ?_
  refine sS rfl rfl rfl (asg rfl) ?_
  refine AR.nil ?_
  show AW _ _ _ _ _ _
  refine AW.seq ?_
  refine AW.region ?_
  show AR _ _ _ _ _ [0, 1, 2, 3, 4, 5, 6, 7, 8, 9, 10, 11, 12, 13, 14, 15, 16, 17, 18] _
  refine sS rfl rfl rfl (mv rfl) ?_
  refine sS rfl rfl rfl (opS_eqi rfl rfl) ?_
  refine sS rfl rfl rfl (mv rfl) ?_
  refine AR.meet (l := [6, 7, 8, 9, 10, 11, 12, 13, 14, 15, 16, 17, 18]) 10 (B ((decide (a1 = 9)) || (decide (a1 = 10)))) (fun K => ?_) ?_
  · rcases Bool.eq_false_or_eq_true (decide (a1 = 9)) with h4 | h4
    ·
      refine gF h4 rfl rfl rfl rfl rfl ?_
      refine gF h4 rfl rfl rfl rfl rfl ?_
      refine sS rfl rfl rfl (opS_pick_t (av := .v _) rfl h4 rfl) ?_
      exact K _ 2 _ (B_congr (or_t h4)) rfl rfl
    ·
      refine gT h4 rfl rfl rfl rfl rfl rfl (AO.ops rfl rfl (mv rfl) ?_)
      refine gT h4 rfl rfl rfl rfl rfl rfl (AO.ops rfl rfl (opS_eqi rfl rfl) ?_)
      refine sS rfl rfl rfl (opS_pick_f (av := .v _) rfl h4 rfl) ?_
      exact K _ 2 _ (B_congr (or_f h4)) rfl rfl
  refine sS rfl rfl rfl (mv rfl) ?_
  refine AR.meet (l := [10, 11, 12, 13, 14, 15, 16, 17, 18]) 14 (B (((decide (a1 = 9)) || (decide (a1 = 10))) || (decide (a1 = 13)))) (fun K => ?_) ?_
  · rcases Bool.eq_false_or_eq_true ((decide (a1 = 9)) || (decide (a1 = 10))) with h5 | h5
    ·
      refine gF h5 rfl rfl rfl rfl rfl ?_
      refine gF h5 rfl rfl rfl rfl rfl ?_
      refine sS rfl rfl rfl (opS_pick_t (av := .v _) rfl h5 rfl) ?_
      exact K _ 2 _ (B_congr (or_t h5)) rfl rfl
    ·
      refine gT h5 rfl rfl rfl rfl rfl rfl (AO.ops rfl rfl (mv rfl) ?_)
      refine gT h5 rfl rfl rfl rfl rfl rfl (AO.ops rfl rfl (opS_eqi rfl rfl) ?_)
      refine sS rfl rfl rfl (opS_pick_f (av := .v _) rfl h5 rfl) ?_
      exact K _ 2 _ (B_congr (or_f h5)) rfl rfl
  refine sS rfl rfl rfl (mv rfl) ?_
  refine AR.meet (l := [18]) 22 (B ((((decide (a1 = 9)) || (decide (a1 = 10))) || (decide (a1 = 13))) || ((decide (32 ≤ a1)) && (decide (a1 ≤ 55295))))) (fun K => ?_) ?_
  · rcases Bool.eq_false_or_eq_true (((decide (a1 = 9)) || (decide (a1 = 10))) || (decide (a1 = 13))) with h6 | h6
    ·
      refine gF h6 rfl rfl rfl rfl rfl ?_
      refine gF h6 rfl rfl rfl rfl rfl ?_
      refine gF h6 rfl rfl rfl rfl rfl ?_
      refine gU rfl rfl rfl rfl rfl ?_
      refine gU rfl rfl rfl rfl rfl ?_
      refine gF h6 rfl rfl rfl rfl rfl ?_
      refine sS rfl rfl rfl (opS_pick_t (av := .v _) rfl h6 rfl) ?_
      exact K _ 6 _ (B_congr (or_t h6)) rfl rfl
    ·
      refine gT h6 rfl rfl rfl rfl rfl rfl (AO.ops rfl rfl (mv rfl) ?_)
      refine gT h6 rfl rfl rfl rfl rfl rfl (AO.ops rfl rfl (opS_ge rfl rfl) ?_)
      refine gT h6 rfl rfl rfl rfl rfl rfl (AO.ops rfl rfl (mv rfl) ?_)
      refine AR.meet (l := [17, 18]) 21 (B ((decide (32 ≤ a1)) && (decide (a1 ≤ 55295)))) (fun K => ?_) ?_
      · rcases Bool.eq_false_or_eq_true (decide (32 ≤ a1)) with h7 | h7
        ·
          refine gT h7 rfl rfl rfl rfl rfl rfl (AO.ops rfl rfl (mv rfl) ?_)
          refine gT h7 rfl rfl rfl rfl rfl rfl (AO.ops rfl rfl (opS_le rfl rfl) ?_)
          refine gT h6 rfl rfl rfl rfl rfl rfl (AO.ops rfl rfl (opS_pick_t (av := .v _) rfl h7 rfl) ?_)
          exact K _ 2 _ (B_congr (and_t h7)) rfl rfl
        ·
          refine gF h7 rfl rfl rfl rfl rfl ?_
          refine gF h7 rfl rfl rfl rfl rfl ?_
          refine gT h6 rfl rfl rfl rfl rfl rfl (AO.ops rfl rfl (opS_pick_f (av := .v _) rfl h7 rfl) ?_)
          exact K _ 2 _ (B_congr (and_f h7)) rfl rfl
      refine sS rfl rfl rfl (opS_pick_f (av := .v _) rfl h6 rfl) ?_
      exact K _ 4 _ (B_congr (or_f h6)) rfl rfl
  refine sS rfl rfl rfl (asg rfl) ?_
  refine AR.nil ?_
  show AW _ _ _ _ _ _
  refine AW.seq ?_
  refine AW.seq ?_
  refine AW.region ?_
  show AR _ _ _ _ _ [0, 1, 2, 3, 4, 5, 6, 7, 8, 9, 10, 11, 12, 13, 14, 15, 16, 17, 18, 19] _
  refine sS rfl rfl rfl (mv rfl) ?_
  refine sS rfl rfl rfl (opS_not rfl) ?_
  refine sS rfl rfl rfl (mv rfl) ?_
  refine AR.meet (l := [11, 12, 13, 14, 15, 16, 17, 18, 19]) 33 (B ((!((((decide (a1 = 9)) || (decide (a1 = 10))) || (decide (a1 = 13))) || ((decide (32 ≤ a1)) && (decide (a1 ≤ 55295))))) && (!((decide (57344 ≤ a1)) && (decide (a1 ≤ 65533)))))) (fun K => ?_) ?_
  · rcases Bool.eq_false_or_eq_true (!((((decide (a1 = 9)) || (decide (a1 = 10))) || (decide (a1 = 13))) || ((decide (32 ≤ a1)) && (decide (a1 ≤ 55295))))) with h8 | h8
    ·
      refine gT h8 rfl rfl rfl rfl rfl rfl (AO.ops rfl rfl (mv rfl) ?_)
      refine gT h8 rfl rfl rfl rfl rfl rfl (AO.ops rfl rfl (opS_ge rfl rfl) ?_)
      refine gT h8 rfl rfl rfl rfl rfl rfl (AO.ops rfl rfl (mv rfl) ?_)
      refine AR.meet (l := [9, 10, 11, 12, 13, 14, 15, 16, 17, 18, 19]) 31 (B ((decide (57344 ≤ a1)) && (decide (a1 ≤ 65533)))) (fun K => ?_) ?_
      · rcases Bool.eq_false_or_eq_true (decide (57344 ≤ a1)) with h9 | h9
        ·
          refine gT h9 rfl rfl rfl rfl rfl rfl (AO.ops rfl rfl (mv rfl) ?_)
          refine gT h9 rfl rfl rfl rfl rfl rfl (AO.ops rfl rfl (opS_le rfl rfl) ?_)
          refine gT h8 rfl rfl rfl rfl rfl rfl (AO.ops rfl rfl (opS_pick_t (av := .v _) rfl h9 rfl) ?_)
          exact K _ 2 _ (B_congr (and_t h9)) rfl rfl
        ·
          refine gF h9 rfl rfl rfl rfl rfl ?_
          refine gF h9 rfl rfl rfl rfl rfl ?_
          refine gT h8 rfl rfl rfl rfl rfl rfl (AO.ops rfl rfl (opS_pick_f (av := .v _) rfl h9 rfl) ?_)
          exact K _ 2 _ (B_congr (and_f h9)) rfl rfl
      refine gT h8 rfl rfl rfl rfl rfl rfl (AO.ops rfl rfl (opS_not rfl) ?_)
      refine sS rfl rfl rfl (opS_pick_t (av := .v _) rfl h8 rfl) ?_
      exact K _ 5 _ (B_congr (and_t h8)) rfl rfl
    ·
      refine gF h8 rfl rfl rfl rfl rfl ?_
      refine gF h8 rfl rfl rfl rfl rfl ?_
      refine gF h8 rfl rfl rfl rfl rfl ?_
      refine gU rfl rfl rfl rfl rfl ?_
      refine gU rfl rfl rfl rfl rfl ?_
      refine gF h8 rfl rfl rfl rfl rfl ?_
      refine gF h8 rfl rfl rfl rfl rfl ?_
      refine sS rfl rfl rfl (opS_pick_f (av := .v _) rfl h8 rfl) ?_
      exact K _ 7 _ (B_congr (and_f h8)) rfl rfl
  refine sS rfl rfl rfl (mv rfl) ?_
  refine AR.meet (l := []) 42 (B (((!((((decide (a1 = 9)) || (decide (a1 = 10))) || (decide (a1 = 13))) || ((decide (32 ≤ a1)) && (decide (a1 ≤ 55295))))) && (!((decide (57344 ≤ a1)) && (decide (a1 ≤ 65533))))) && (!((decide (65536 ≤ a1)) && (decide (a1 ≤ 1114111)))))) (fun K => ?_) ?_
  · rcases Bool.eq_false_or_eq_true ((!((((decide (a1 = 9)) || (decide (a1 = 10))) || (decide (a1 = 13))) || ((decide (32 ≤ a1)) && (decide (a1 ≤ 55295))))) && (!((decide (57344 ≤ a1)) && (decide (a1 ≤ 65533))))) with h10 | h10
    ·
      refine gT h10 rfl rfl rfl rfl rfl rfl (AO.ops rfl rfl (mv rfl) ?_)
      refine gT h10 rfl rfl rfl rfl rfl rfl (AO.ops rfl rfl (opS_ge rfl rfl) ?_)
      refine gT h10 rfl rfl rfl rfl rfl rfl (AO.ops rfl rfl (mv rfl) ?_)
      refine AR.meet (l := [18, 19]) 40 (B ((decide (65536 ≤ a1)) && (decide (a1 ≤ 1114111)))) (fun K => ?_) ?_
      · rcases Bool.eq_false_or_eq_true (decide (65536 ≤ a1)) with h11 | h11
        ·
          refine gT h11 rfl rfl rfl rfl rfl rfl (AO.ops rfl rfl (mv rfl) ?_)
          refine gT h11 rfl rfl rfl rfl rfl rfl (AO.ops rfl rfl (opS_le rfl rfl) ?_)
          refine gT h10 rfl rfl rfl rfl rfl rfl (AO.ops rfl rfl (opS_pick_t (av := .v _) rfl h11 rfl) ?_)
          exact K _ 2 _ (B_congr (and_t h11)) rfl rfl
        ·
          refine gF h11 rfl rfl rfl rfl rfl ?_
          refine gF h11 rfl rfl rfl rfl rfl ?_
          refine gT h10 rfl rfl rfl rfl rfl rfl (AO.ops rfl rfl (opS_pick_f (av := .v _) rfl h11 rfl) ?_)
          exact K _ 2 _ (B_congr (and_f h11)) rfl rfl
      refine gT h10 rfl rfl rfl rfl rfl rfl (AO.ops rfl rfl (opS_not rfl) ?_)
      refine sS rfl rfl rfl (opS_pick_t (av := .v _) rfl h10 rfl) ?_
      exact K _ 5 _ (B_congr (and_t h10)) rfl rfl
    ·
      refine gF h10 rfl rfl rfl rfl rfl ?_
      refine gF h10 rfl rfl rfl rfl rfl ?_
      refine gF h10 rfl rfl rfl rfl rfl ?_
      refine gU rfl rfl rfl rfl rfl ?_
      refine gU rfl rfl rfl rfl rfl ?_
      refine gF h10 rfl rfl rfl rfl rfl ?_
      refine gF h10 rfl rfl rfl rfl rfl ?_
      refine sS rfl rfl rfl (opS_pick_f (av := .v _) rfl h10 rfl) ?_
      exact K _ 7 _ (B_congr (and_f h10)) rfl rfl
  refine AR.nil ?_
  show AW _ _ _ _ _ _
  refine AW.cond rfl (fun c12 => ?_) (fun c12 => ?_)
  · replace H := cnd_t c12 H
    refine AW.seq ?_
    refine AW.region ?_
    show AR _ _ _ _ _ [0, 1] _
    refine sS rfl rfl rfl (asg rfl) ?_
    refine sS rfl rfl rfl (asg rfl) ?_
    refine AR.nil ?_
    show AW _ _ _ _ _ _
    refine AW.ret ?_
    obtain ⟨rfl, rfl⟩ := res2 H
    exact And.intro rfl (Exists.intro _ (Exists.intro _ ⟨ResV.twoW rfl (.refl _) (.refl _), Sub.at [] rfl, rfl, rfl⟩))
  · replace H := cnd_f c12 H
    refine AW.skip ?_
    show AW _ _ _ _ _ _
    refine AW.seq ?_
    refine AW.seq ?_
    refine AW.region ?_
    show AR _ _ _ _ _ [0, 1] _
    refine sS rfl rfl rfl (mv rfl) ?_
    refine sS rfl rfl rfl (opS_lt rfl rfl) ?_
    refine AR.nil ?_
    show AW _ _ _ _ _ _
    refine AW.cond rfl (fun c13 => ?_) (fun c13 => ?_)
    · replace H := cnd_t c13 H
      refine AW.seq ?_
      refine AW.region ?_
      show AR _ _ _ _ _ [0, 1, 2, 3, 4, 5] _
      refine sS rfl rfl rfl (mv rfl) ?_
      refine sS rfl rfl rfl (g_conv_to8 (by kernel_rfl) Tryz.underlying5 rfl) ?_
      refine sR rfl rfl rfl (opR_buildE (E := Enc.byte) (bytes := 1) (xs := [.tmp 46]) (l := ([Go.Av.toB a1] : List UInt8)) Tryz.underlying33 (by kernel_rfl) rfl rfl (by decide) rfl rfl) ?_
      refine sS rfl rfl rfl (opS_conv_bytes_str Tryz.underlying33 Tryz.underlying5 Tryz.underlying9 rfl) ?_
      refine sS rfl rfl rfl (asg rfl) ?_
      refine sS rfl rfl rfl (asg rfl) ?_
      refine AR.nil ?_
      show AW _ _ _ _ _ _
      refine AW.ret ?_
      obtain ⟨rfl, rfl⟩ := res2 H
      exact And.intro rfl (Exists.intro _ (Exists.intro _ ⟨ResV.twoW rfl (.refl _) (.refl _), Sub.at [] rfl, rfl, rfl⟩))
    · replace H := cnd_f c13 H
      refine AW.skip ?_
      show AW _ _ _ _ _ _
      refine AW.seq ?_
      refine AW.seq ?_
      refine AW.region ?_
      show AR _ _ _ _ _ [0, 1] _
      refine sS rfl rfl rfl (mv rfl) ?_
      refine sS rfl rfl rfl (opS_lt rfl rfl) ?_
      refine AR.nil ?_
      show AW _ _ _ _ _ _
      refine AW.cond rfl (fun c14 => ?_) (fun c14 => ?_)
      · replace H := cnd_t c14 H
        refine AW.seq ?_
        obtain ⟨g15, H⟩ := grd_s H
        obtain ⟨g16, H⟩ := grd_s H
        obtain ⟨g17, H⟩ := grd_s H
        obtain ⟨g18, H⟩ := grd_s H
        refine AW.region ?_
        show AR _ _ _ _ _ [0, 1, 2, 3, 4, 5, 6, 7, 8, 9, 10, 11] _
        refine sS rfl rfl rfl (mv rfl) ?_
        refine sS rfl rfl rfl (g_quo rfl rfl g15) ?_
        refine sS rfl rfl rfl (g_add rfl rfl g16) ?_
        refine sS rfl rfl rfl (g_conv_to8 (by kernel_rfl) Tryz.underlying5 rfl) ?_
        refine sS rfl rfl rfl (mv rfl) ?_
        refine sS rfl rfl rfl (g_rem rfl rfl g17) ?_
        refine sS rfl rfl rfl (g_add rfl rfl g18) ?_
        refine sS rfl rfl rfl (g_conv_to8 (by kernel_rfl) Tryz.underlying5 rfl) ?_
        refine sR rfl rfl rfl (opR_buildE (E := Enc.byte) (bytes := 1) (xs := [.tmp 54, .tmp 58]) (l := ([Go.Av.toB (192 + (a1 / 64)), Go.Av.toB (128 + (a1 % 64))] : List UInt8)) Tryz.underlying33 (by kernel_rfl) rfl rfl (by decide) rfl rfl) ?_
        refine sS rfl rfl rfl (opS_conv_bytes_str Tryz.underlying33 Tryz.underlying5 Tryz.underlying9 rfl) ?_
        refine sS rfl rfl rfl (asg rfl) ?_
        refine sS rfl rfl rfl (asg rfl) ?_
        refine AR.nil ?_
        show AW _ _ _ _ _ _
        refine AW.ret ?_
        obtain ⟨rfl, rfl⟩ := res2 H
        exact And.intro rfl (Exists.intro _ (Exists.intro _ ⟨ResV.twoW rfl (.refl _) (.refl _), Sub.at [] rfl, rfl, rfl⟩))
      · replace H := cnd_f c14 H
        refine AW.skip ?_
        show AW _ _ _ _ _ _
        refine AW.seq ?_
        refine AW.seq ?_
        refine AW.region ?_
        show AR _ _ _ _ _ [0, 1] _
        refine sS rfl rfl rfl (mv rfl) ?_
        refine sS rfl rfl rfl (opS_lt rfl rfl) ?_
        refine AR.nil ?_
        show AW _ _ _ _ _ _
        refine AW.cond rfl (fun c19 => ?_) (fun c19 => ?_)
        · replace H := cnd_t c19 H
          refine AW.seq ?_
          obtain ⟨g20, H⟩ := grd_s H
          obtain ⟨g21, H⟩ := grd_s H
          obtain ⟨g22, H⟩ := grd_s H
          obtain ⟨g23, H⟩ := grd_s H
          obtain ⟨g24, H⟩ := grd_s H
          obtain ⟨g25, H⟩ := grd_s H
          obtain ⟨g26, H⟩ := grd_s H
          refine AW.region ?_
          show AR _ _ _ _ _ [0, 1, 2, 3, 4, 5, 6, 7, 8, 9, 10, 11, 12, 13, 14, 15, 16] _
          refine sS rfl rfl rfl (mv rfl) ?_
          refine sS rfl rfl rfl (g_quo rfl rfl g20) ?_
          refine sS rfl rfl rfl (g_add rfl rfl g21) ?_
          refine sS rfl rfl rfl (g_conv_to8 (by kernel_rfl) Tryz.underlying5 rfl) ?_
          refine sS rfl rfl rfl (mv rfl) ?_
          refine sS rfl rfl rfl (g_quo rfl rfl g22) ?_
          refine sS rfl rfl rfl (g_rem rfl rfl g23) ?_
          refine sS rfl rfl rfl (g_add rfl rfl g24) ?_
          refine sS rfl rfl rfl (g_conv_to8 (by kernel_rfl) Tryz.underlying5 rfl) ?_
          refine sS rfl rfl rfl (mv rfl) ?_
          refine sS rfl rfl rfl (g_rem rfl rfl g25) ?_
          refine sS rfl rfl rfl (g_add rfl rfl g26) ?_
          refine sS rfl rfl rfl (g_conv_to8 (by kernel_rfl) Tryz.underlying5 rfl) ?_
          refine sR rfl rfl rfl (opR_buildE (E := Enc.byte) (bytes := 1) (xs := [.tmp 66, .tmp 71, .tmp 75]) (l := ([Go.Av.toB (224 + (a1 / 4096)), Go.Av.toB (128 + ((a1 / 64) % 64)), Go.Av.toB (128 + (a1 % 64))] : List UInt8)) Tryz.underlying33 (by kernel_rfl) rfl rfl (by decide) rfl rfl) ?_
          refine sS rfl rfl rfl (opS_conv_bytes_str Tryz.underlying33 Tryz.underlying5 Tryz.underlying9 rfl) ?_
          refine sS rfl rfl rfl (asg rfl) ?_
          refine sS rfl rfl rfl (asg rfl) ?_
          refine AR.nil ?_
          show AW _ _ _ _ _ _
          refine AW.ret ?_
          obtain ⟨rfl, rfl⟩ := res2 H
          exact And.intro rfl (Exists.intro _ (Exists.intro _ ⟨ResV.twoW rfl (.refl _) (.refl _), Sub.at [] rfl, rfl, rfl⟩))
        · replace H := cnd_f c19 H
          refine AW.skip ?_
          show AW _ _ _ _ _ _
          refine AW.seq ?_
          obtain ⟨g27, H⟩ := grd_s H
          obtain ⟨g28, H⟩ := grd_s H
          obtain ⟨g29, H⟩ := grd_s H
          obtain ⟨g30, H⟩ := grd_s H
          obtain ⟨g31, H⟩ := grd_s H
          obtain ⟨g32, H⟩ := grd_s H
          obtain ⟨g33, H⟩ := grd_s H
          obtain ⟨g34, H⟩ := grd_s H
          obtain ⟨g35, H⟩ := grd_s H
          obtain ⟨g36, H⟩ := grd_s H
          refine AW.region ?_
          show AR _ _ _ _ _ [0, 1, 2, 3, 4, 5, 6, 7, 8, 9, 10, 11, 12, 13, 14, 15, 16, 17, 18, 19, 20, 21] _
          refine sS rfl rfl rfl (mv rfl) ?_
          refine sS rfl rfl rfl (g_quo rfl rfl g27) ?_
          refine sS rfl rfl rfl (g_add rfl rfl g28) ?_
          refine sS rfl rfl rfl (g_conv_to8 (by kernel_rfl) Tryz.underlying5 rfl) ?_
          refine sS rfl rfl rfl (mv rfl) ?_
          refine sS rfl rfl rfl (g_quo rfl rfl g29) ?_
          refine sS rfl rfl rfl (g_rem rfl rfl g30) ?_
          refine sS rfl rfl rfl (g_add rfl rfl g31) ?_
          refine sS rfl rfl rfl (g_conv_to8 (by kernel_rfl) Tryz.underlying5 rfl) ?_
          refine sS rfl rfl rfl (mv rfl) ?_
          refine sS rfl rfl rfl (g_quo rfl rfl g32) ?_
          refine sS rfl rfl rfl (g_rem rfl rfl g33) ?_
          refine sS rfl rfl rfl (g_add rfl rfl g34) ?_
          refine sS rfl rfl rfl (g_conv_to8 (by kernel_rfl) Tryz.underlying5 rfl) ?_
          refine sS rfl rfl rfl (mv rfl) ?_
          refine sS rfl rfl rfl (g_rem rfl rfl g35) ?_
          refine sS rfl rfl rfl (g_add rfl rfl g36) ?_
          refine sS rfl rfl rfl (g_conv_to8 (by kernel_rfl) Tryz.underlying5 rfl) ?_
          refine sR rfl rfl rfl (opR_buildE (E := Enc.byte) (bytes := 1) (xs := [.tmp 81, .tmp 86, .tmp 91, .tmp 95]) (l := ([Go.Av.toB (240 + (a1 / 262144)), Go.Av.toB (128 + ((a1 / 4096) % 64)), Go.Av.toB (128 + ((a1 / 64) % 64)), Go.Av.toB (128 + (a1 % 64))] : List UInt8)) Tryz.underlying33 (by kernel_rfl) rfl rfl (by decide) rfl rfl) ?_
          refine sS rfl rfl rfl (opS_conv_bytes_str Tryz.underlying33 Tryz.underlying5 Tryz.underlying9 rfl) ?_
          refine sS rfl rfl rfl (asg rfl) ?_
          refine sS rfl rfl rfl (asg rfl) ?_
          refine AR.nil ?_
          show AW _ _ _ _ _ _
          refine AW.ret ?_
          obtain ⟨rfl, rfl⟩ := res2 H
          exact And.intro rfl (Exists.intro _ (Exists.intro _ ⟨ResV.twoW rfl (.refl _) (.refl _), Sub.at [] rfl, rfl, rfl⟩))
set_option maxRecDepth 100000 in
set_option maxHeartbeats 1000000 in
theorem w_ref07_digit (F : Nat) (a1 : UInt8) (r2 : Int) (H : ref07_digit F a1 = some r2) : ACalls Tryz.prog 79 [u8 a1] [] (Ret (i64 r2) []) := by
  unfold ref07_digit at H
  refine ACalls.of_body Tryz.func79 rfl rfl ?_
  show AW _ _ 32 _ _ _
  refine AW.seq ?_
  refine AW.region ?_
  show AR _ _ _ _ _ [0] _
  refine sS rfl rfl rfl (asg rfl) ?_
  refine AR.nil ?_
  show AW _ _ _ _ _ _
  refine AW.seq ?_
  refine AW.seq ?_
  refine AW.region ?_
  show AR _ _ _ _ _ [0, 1, 2, 3, 4, 5] _
  refine sS rfl rfl rfl (mv rfl) ?_
  refine sS rfl rfl rfl (opS_ge rfl rfl) ?_
  refine sS rfl rfl rfl (mv rfl) ?_
  refine AR.meet (l := []) 8 (B ((decide (48 ≤ (a1.toNat : Int))) && (decide ((a1.toNat : Int) ≤ 57)))) (fun K => ?_) ?_
  · rcases Bool.eq_false_or_eq_true (decide (48 ≤ (a1.toNat : Int))) with h3 | h3
    ·
      refine gT h3 rfl rfl rfl rfl rfl rfl (AO.ops rfl rfl (mv rfl) ?_)
      refine gT h3 rfl rfl rfl rfl rfl rfl (AO.ops rfl rfl (opS_le rfl rfl) ?_)
      refine sS rfl rfl rfl (opS_pick_t (av := .v _) rfl h3 rfl) ?_
      exact K _ 2 _ (B_congr (and_t h3)) rfl rfl
    ·
      refine gF h3 rfl rfl rfl rfl rfl ?_
      refine gF h3 rfl rfl rfl rfl rfl ?_
      refine sS rfl rfl rfl (opS_pick_f (av := .v _) rfl h3 rfl) ?_
      exact K _ 2 _ (B_congr (and_f h3)) rfl rfl
  refine AR.nil ?_
  show AW _ _ _ _ _ _
  refine AW.cond rfl (fun c4 => ?_) (fun c4 => ?_)
  · replace H := cnd_t c4 H
    refine AW.seq ?_
    refine AW.region ?_
    show AR _ _ _ _ _ [0, 1, 2, 3] _
    refine sS rfl rfl rfl (mv rfl) ?_
    refine sS rfl rfl rfl (g_sub8 (a := a1) (b := 48) rfl rfl) ?_
    refine sS rfl rfl rfl (opS_conv_u8 (c := a1 - 48) (by kernel_rfl) Tryz.underlying3 rfl) ?_
    refine sS rfl rfl rfl (asg rfl) ?_
    refine AR.nil ?_
    show AW _ _ _ _ _ _
    refine AW.ret ?_
    obtain rfl := Option.some.inj H
    exact And.intro rfl (Exists.intro _ (Exists.intro _ ⟨ResV.oneW rfl (.refl _), Sub.at [] rfl, rfl, rfl⟩))
  · replace H := cnd_f c4 H
    refine AW.skip ?_
    show AW _ _ _ _ _ _
    refine AW.seq ?_
    refine AW.seq ?_
    refine AW.region ?_
    show AR _ _ _ _ _ [0, 1, 2, 3, 4, 5] _
    refine sS rfl rfl rfl (mv rfl) ?_
    refine sS rfl rfl rfl (opS_ge rfl rfl) ?_
    refine sS rfl rfl rfl (mv rfl) ?_
    refine AR.meet (l := []) 17 (B ((decide (97 ≤ (a1.toNat : Int))) && (decide ((a1.toNat : Int) ≤ 102)))) (fun K => ?_) ?_
    · rcases Bool.eq_false_or_eq_true (decide (97 ≤ (a1.toNat : Int))) with h5 | h5
      ·
        refine gT h5 rfl rfl rfl rfl rfl rfl (AO.ops rfl rfl (mv rfl) ?_)
        refine gT h5 rfl rfl rfl rfl rfl rfl (AO.ops rfl rfl (opS_le rfl rfl) ?_)
        refine sS rfl rfl rfl (opS_pick_t (av := .v _) rfl h5 rfl) ?_
        exact K _ 2 _ (B_congr (and_t h5)) rfl rfl
      ·
        refine gF h5 rfl rfl rfl rfl rfl ?_
        refine gF h5 rfl rfl rfl rfl rfl ?_
        refine sS rfl rfl rfl (opS_pick_f (av := .v _) rfl h5 rfl) ?_
        exact K _ 2 _ (B_congr (and_f h5)) rfl rfl
    refine AR.nil ?_
    show AW _ _ _ _ _ _
    refine AW.cond rfl (fun c6 => ?_) (fun c6 => ?_)
    · replace H := cnd_t c6 H
      refine AW.seq ?_
      obtain ⟨g7, H⟩ := grd_s H
      refine AW.region ?_
      show AR _ _ _ _ _ [0, 1, 2, 3, 4] _
      refine sS rfl rfl rfl (mv rfl) ?_
      refine sS rfl rfl rfl (g_sub8 (a := a1) (b := 97) rfl rfl) ?_
      refine sS rfl rfl rfl (opS_conv_u8 (c := a1 - 97) (by kernel_rfl) Tryz.underlying3 rfl) ?_
      refine sS rfl rfl rfl (g_add rfl rfl g7) ?_
      refine sS rfl rfl rfl (asg rfl) ?_
      refine AR.nil ?_
      show AW _ _ _ _ _ _
      refine AW.ret ?_
      obtain rfl := Option.some.inj H
      exact And.intro rfl (Exists.intro _ (Exists.intro _ ⟨ResV.oneW rfl (.refl _), Sub.at [] rfl, rfl, rfl⟩))
    · replace H := cnd_f c6 H
      refine AW.skip ?_
      show AW _ _ _ _ _ _
      refine AW.seq ?_
      refine AW.seq ?_
      refine AW.region ?_
      show AR _ _ _ _ _ [0, 1, 2, 3, 4, 5] _
      refine sS rfl rfl rfl (mv rfl) ?_
      refine sS rfl rfl rfl (opS_ge rfl rfl) ?_
      refine sS rfl rfl rfl (mv rfl) ?_
      refine AR.meet (l := []) 27 (B ((decide (65 ≤ (a1.toNat : Int))) && (decide ((a1.toNat : Int) ≤ 70)))) (fun K => ?_) ?_
      · rcases Bool.eq_false_or_eq_true (decide (65 ≤ (a1.toNat : Int))) with h8 | h8
        ·
          refine gT h8 rfl rfl rfl rfl rfl rfl (AO.ops rfl rfl (mv rfl) ?_)
          refine gT h8 rfl rfl rfl rfl rfl rfl (AO.ops rfl rfl (opS_le rfl rfl) ?_)
          refine sS rfl rfl rfl (opS_pick_t (av := .v _) rfl h8 rfl) ?_
          exact K _ 2 _ (B_congr (and_t h8)) rfl rfl
        ·
          refine gF h8 rfl rfl rfl rfl rfl ?_
          refine gF h8 rfl rfl rfl rfl rfl ?_
          refine sS rfl rfl rfl (opS_pick_f (av := .v _) rfl h8 rfl) ?_
          exact K _ 2 _ (B_congr (and_f h8)) rfl rfl
      refine AR.nil ?_
      show AW _ _ _ _ _ _
      refine AW.cond rfl (fun c9 => ?_) (fun c9 => ?_)
      · replace H := cnd_t c9 H
        refine AW.seq ?_
        obtain ⟨g10, H⟩ := grd_s H
        refine AW.region ?_
        show AR _ _ _ _ _ [0, 1, 2, 3, 4] _
        refine sS rfl rfl rfl (mv rfl) ?_
        refine sS rfl rfl rfl (g_sub8 (a := a1) (b := 65) rfl rfl) ?_
        refine sS rfl rfl rfl (opS_conv_u8 (c := a1 - 65) (by kernel_rfl) Tryz.underlying3 rfl) ?_
        refine sS rfl rfl rfl (g_add rfl rfl g10) ?_
        refine sS rfl rfl rfl (asg rfl) ?_
        refine AR.nil ?_
        show AW _ _ _ _ _ _
        refine AW.ret ?_
        obtain rfl := Option.some.inj H
        exact And.intro rfl (Exists.intro _ (Exists.intro _ ⟨ResV.oneW rfl (.refl _), Sub.at [] rfl, rfl, rfl⟩))
      · replace H := cnd_f c9 H
        refine AW.skip ?_
        show AW _ _ _ _ _ _
        refine AW.seq ?_
        refine AW.region ?_
        show AR _ _ _ _ _ [0] _
        refine sS rfl rfl rfl (asg rfl) ?_
        refine AR.nil ?_
        show AW _ _ _ _ _ _
        refine AW.ret ?_
        obtain rfl := Option.some.inj H
        exact And.intro rfl (Exists.intro _ (Exists.intro _ ⟨ResV.oneW rfl (.refl _), Sub.at [] rfl, rfl, rfl⟩))
set_option maxRecDepth 100000 in
set_option maxHeartbeats 1000000 in
theorem w_ref07_number (F : Nat) (a1 : List UInt8) (a2 : Int) (r3 : Int) (H : ref07_number F a1 a2 = some r3) : ACalls Tryz.prog 65 [S a1, i64 a2] [] (Ret (i64 r3) []) := by
  unfold ref07_number at H
  refine ACalls.of_body Tryz.func65 rfl rfl ?_
  show AW _ _ 32 _ _ _
  refine AW.seq ?_
  refine AW.region ?_
  show AR _ _ _ _ _ [0] _
  refine sS rfl rfl rfl (asg rfl) ?_
  refine AR.nil ?_
  show AW _ _ _ _ _ _
  refine AW.seq ?_
  refine AW.region ?_
  show AR _ _ _ _ _ [0] _
  refine sS rfl rfl rfl (asg rfl) ?_
  refine AR.nil ?_
  show AW _ _ _ _ _ _
  refine AW.cut (X := Int) (fun y21 => ⟨[(0, S a1), (5, i64 y21)], [], []⟩) (fun y21 => ref07_number_j1 a1 y21 = some r3) ?_ ?_
  ·
    refine AW.seq ?_
    refine AW.region ?_
    show AR _ _ _ _ _ [0] _
    refine sS rfl rfl rfl (asg rfl) ?_
    refine AR.nil ?_
    show AW _ _ _ _ _ _
    refine AW.block ?_
    refine AW.loop (X := Nat × Int × Int) (fun (n7, y4, y5) => ⟨[(0, S a1), (1, i64 a2), (5, i64 y4), (6, i64 y5)], [], []⟩) (fun (n7, y4, y5) => ref07_number_L1 F a1 a2 n7 (y4, y5) = some r3) (fun (n7, y4, y5) => n7) (F, 0, 0) H (WK.at [] (.cons (.refl _) (.cons (.refl _) (.cons (.refl _) (.cons (.refl _) (.nil _))))) rfl) ?_
    rintro ⟨n7, y4, y5⟩ H
    obtain ⟨n7, rfl, H⟩ := loop_s H
    replace H : ref07_number_B1 F a1 a2 (ref07_number_L1 F a1 a2 n7) y4 y5 = some r3 := H
    unfold ref07_number_B1 at H
    show AW _ _ _ _ _ _
    refine AW.seq ?_
    refine AW.seq ?_
    refine AW.region ?_
    show AR _ _ _ _ _ [0, 1, 2, 3] _
    refine sS rfl rfl rfl (mv rfl) ?_
    refine sS rfl rfl rfl (mv rfl) ?_
    refine sS rfl rfl rfl (opS_len_str Tryz.underlying9 rfl) ?_
    refine sS rfl rfl rfl (opS_lt rfl rfl) ?_
    refine AR.nil ?_
    show AW _ _ _ _ _ _
    refine AW.cond rfl (fun c8 => ?_) (fun c8 => ?_)
    · replace H := cnd_t c8 H
      refine AW.skip ?_
      show AW _ _ _ _ _ _
      refine AW.cut (X := Int) (fun y18 => ⟨[(0, S a1), (1, i64 a2), (5, i64 y18), (6, i64 y5)], [], []⟩) (fun y18 => ref07_number_j2 y5 (ref07_number_L1 F a1 a2 n7) y18 = some r3) ?_ ?_
      ·
        refine AW.block ?_
        refine AW.seq ?_
        obtain ⟨g9, H⟩ := grd_s H
        obtain ⟨x10, e11, H⟩ := lt_s H
        obtain ⟨x12, e13, H⟩ := bnd_s H
        refine AW.region ?_
        show AR _ _ _ _ _ [0, 1, 2, 3, 4] _
        refine sS rfl rfl rfl (mv rfl) ?_
        refine sS rfl rfl rfl (mv rfl) ?_
        refine sS rfl rfl rfl (g_index_str Tryz.underlying9 rfl rfl g9 e11) ?_
        refine AR.run rfl rfl (AO.callp rfl en79 rfl (w_ref07_digit F x10 x12 e13) ?_)
        refine sS rfl rfl rfl (asg rfl) ?_
        refine AR.nil ?_
        show AW _ _ _ _ _ _
        refine AW.seq ?_
        refine AW.seq ?_
        refine AW.region ?_
        show AR _ _ _ _ _ [0, 1, 2] _
        refine sS rfl rfl rfl (mv rfl) ?_
        refine sS rfl rfl rfl (mv rfl) ?_
        refine sS rfl rfl rfl (opS_ge rfl rfl) ?_
        refine AR.nil ?_
        show AW _ _ _ _ _ _
        refine AW.cond rfl (fun c14 => ?_) (fun c14 => ?_)
        · replace H := cnd_t c14 H
          refine AW.seq ?_
          refine AW.region ?_
          show AR _ _ _ _ _ [0] _
          refine sS rfl rfl rfl (asg rfl) ?_
          refine AR.nil ?_
          show AW _ _ _ _ _ _
          refine AW.ret ?_
          obtain rfl := Option.some.inj H
          exact And.intro rfl (Exists.intro _ (Exists.intro _ ⟨ResV.oneW rfl (.refl _), Sub.at [] rfl, rfl, rfl⟩))
        · replace H := cnd_f c14 H
          refine AW.skip ?_
          show AW _ _ _ _ _ _
          refine AW.seq ?_
          obtain ⟨g15, H⟩ := grd_s H
          obtain ⟨g16, H⟩ := grd_s H
          refine AW.region ?_
          show AR _ _ _ _ _ [0, 1, 2, 3, 4, 5] _
          refine sS rfl rfl rfl (mv rfl) ?_
          refine sS rfl rfl rfl (mv rfl) ?_
          refine sS rfl rfl rfl (g_mul rfl rfl g15) ?_
          refine sS rfl rfl rfl (mv rfl) ?_
          refine sS rfl rfl rfl (g_add rfl rfl g16) ?_
          refine sS rfl rfl rfl (asg rfl) ?_
          refine AR.nil ?_
          show AW _ _ _ _ _ _
          refine AW.seq ?_
          refine AW.region ?_
          show AR _ _ _ _ _ [0, 1] _
          refine sS rfl rfl rfl (mv rfl) ?_
          refine sS rfl rfl rfl (opS_gt rfl rfl) ?_
          refine AR.nil ?_
          show AW _ _ _ _ _ _
          refine AW.cond rfl (fun c17 => ?_) (fun c17 => ?_)
          · replace H := cnd_t c17 H
            refine AW.region ?_
            show AR _ _ _ _ _ [0] _
            refine sS rfl rfl rfl (asg rfl) ?_
            refine AR.nil ?_
            exact Exists.intro 1114112 ⟨H, WK.at [] (.cons (.refl _) (.cons (.refl _) (.cons (.refl _) (.cons (.refl _) (.nil _))))) rfl⟩
          · replace H := cnd_f c17 H
            refine AW.skip ?_
            exact Exists.intro ((a2 * y4) + x12) ⟨H, WK.at [] (.cons (.refl _) (.cons (.refl _) (.cons (.refl _) (.cons (.refl _) (.nil _))))) rfl⟩
      rintro y18 H
      replace H : ref07_number_j2 y5 (ref07_number_L1 F a1 a2 n7) y18 = some r3 := H
      unfold ref07_number_j2 at H
      show AW _ _ _ _ _ _
      obtain ⟨g20, H⟩ := grd_s H
      refine AW.region ?_
      show AR _ _ _ _ _ [0, 1, 2] _
      refine sS rfl rfl rfl (mv rfl) ?_
      refine sS rfl rfl rfl (g_add rfl rfl g20) ?_
      refine sS rfl rfl rfl (asg rfl) ?_
      refine AR.nil ?_
      exact Exists.intro (n7, y18, y5 + 1) ⟨H, Nat.lt_succ_self _, WK.at [] (.cons (.refl _) (.cons (.refl _) (.cons (.refl _) (.cons (.refl _) (.nil _))))) rfl⟩
    · replace H := cnd_f c8 H
      refine AW.exit ?_
      exact Exists.intro y4 ⟨H, WK.at [] (.cons (.refl _) (.cons (.refl _) (.nil _))) rfl⟩
  rintro y21 H
  replace H : ref07_number_j1 a1 y21 = some r3 := H
  unfold ref07_number_j1 at H
  show AW _ _ _ _ _ _
  refine AW.seq ?_
  refine AW.seq ?_
  refine AW.region ?_
  show AR _ _ _ _ _ [0, 1, 2] _
  refine sS rfl rfl rfl (mv rfl) ?_
  refine sS rfl rfl rfl (opS_len_str Tryz.underlying9 rfl) ?_
  refine sS rfl rfl rfl (opS_eqi rfl rfl) ?_
  refine AR.nil ?_
  show AW _ _ _ _ _ _
  refine AW.cond rfl (fun c23 => ?_) (fun c23 => ?_)
  · replace H := cnd_t c23 H
    refine AW.seq ?_
    refine AW.region ?_
    show AR _ _ _ _ _ [0] _
    refine sS rfl rfl rfl (asg rfl) ?_
    refine AR.nil ?_
    show AW _ _ _ _ _ _
    refine AW.ret ?_
    obtain rfl := Option.some.inj H
    exact And.intro rfl (Exists.intro _ (Exists.intro _ ⟨ResV.oneW rfl (.refl _), Sub.at [] rfl, rfl, rfl⟩))
  · replace H := cnd_f c23 H
    refine AW.skip ?_
    show AW _ _ _ _ _ _
    refine AW.seq ?_
    refine AW.region ?_
    show AR _ _ _ _ _ [0, 1] _
    refine sS rfl rfl rfl (mv rfl) ?_
    refine sS rfl rfl rfl (asg rfl) ?_
    refine AR.nil ?_
    show AW _ _ _ _ _ _
    refine AW.ret ?_
    obtain rfl := Option.some.inj H
    exact And.intro rfl (Exists.intro _ (Exists.intro _ ⟨ResV.oneW rfl (.refl _), Sub.at [] rfl, rfl, rfl⟩))
set_option maxRecDepth 100000 in
set_option maxHeartbeats 1000000 in
theorem w_ref07_sign (F : Nat) (a1 : List UInt8) (r2 : List UInt8) (r3 : Bool) (H : ref07_sign F a1 = some (r2, r3)) : ACalls Tryz.prog 52 [S a1] [] (Ret (.tup [S r2, B r3]) []) := by
  unfold ref07_sign at H
  refine ACalls.of_body Tryz.func52 rfl rfl ?_
  show AW _ _ 42 _ _ _
  refine AW.seq ?_
  refine AW.region ?_
  show AR _ _ _ _ _ [0, 1] _
  refine sS rfl rfl rfl (asg rfl) ?_
  refine sS rfl rfl rfl (asg rfl) ?_
  refine AR.nil ?_
  show AW _ _ _ _ _ _
  refine AW.seq ?_
  refine AW.seq ?_
  refine AW.region ?_
  show AR _ _ _ _ _ [0] _
  refine sS rfl rfl rfl (mv rfl) ?_
  refine AR.nil ?_
  show AW _ _ _ _ _ _
  refine AW.block ?_
  refine AW.seq ?_
  refine AW.region ?_
  show AR _ _ _ _ _ [0, 1] _
  refine sS rfl rfl rfl (opS_eqs rfl rfl) ?_
  refine sS rfl rfl rfl (asg rfl) ?_
  refine AR.nil ?_
  show AW _ _ _ _ _ _
  refine AW.cond rfl (fun c4 => ?_) (fun c4 => ?_)
  · replace H := cnd_t c4 H
    refine AW.seq ?_
    refine AW.region ?_
    show AR _ _ _ _ _ [0, 1] _
    refine sS rfl rfl rfl (asg rfl) ?_
    refine sS rfl rfl rfl (asg rfl) ?_
    refine AR.nil ?_
    show AW _ _ _ _ _ _
    refine AW.ret ?_
    obtain ⟨rfl, rfl⟩ := res2 H
    exact And.intro rfl (Exists.intro _ (Exists.intro _ ⟨ResV.twoW rfl (.refl _) (.refl _), Sub.at [] rfl, rfl, rfl⟩))
  · replace H := cnd_f c4 H
    refine AW.seq ?_
    refine AW.region ?_
    show AR _ _ _ _ _ [0, 1] _
    refine sS rfl rfl rfl (opS_eqs rfl rfl) ?_
    refine sS rfl rfl rfl (asg rfl) ?_
    refine AR.nil ?_
    show AW _ _ _ _ _ _
    refine AW.cond rfl (fun c5 => ?_) (fun c5 => ?_)
    · replace H := cnd_t c5 H
      refine AW.seq ?_
      refine AW.region ?_
      show AR _ _ _ _ _ [0, 1] _
      refine sS rfl rfl rfl (asg rfl) ?_
      refine sS rfl rfl rfl (asg rfl) ?_
      refine AR.nil ?_
      show AW _ _ _ _ _ _
      refine AW.ret ?_
      obtain ⟨rfl, rfl⟩ := res2 H
      exact And.intro rfl (Exists.intro _ (Exists.intro _ ⟨ResV.twoW rfl (.refl _) (.refl _), Sub.at [] rfl, rfl, rfl⟩))
    · replace H := cnd_f c5 H
      refine AW.seq ?_
      refine AW.region ?_
      show AR _ _ _ _ _ [0, 1] _
      refine sS rfl rfl rfl (opS_eqs rfl rfl) ?_
      refine sS rfl rfl rfl (asg rfl) ?_
      refine AR.nil ?_
      show AW _ _ _ _ _ _
      refine AW.cond rfl (fun c6 => ?_) (fun c6 => ?_)
      · replace H := cnd_t c6 H
        refine AW.seq ?_
        refine AW.region ?_
        show AR _ _ _ _ _ [0, 1] _
        refine sS rfl rfl rfl (asg rfl) ?_
        refine sS rfl rfl rfl (asg rfl) ?_
        refine AR.nil ?_
        show AW _ _ _ _ _ _
        refine AW.ret ?_
        obtain ⟨rfl, rfl⟩ := res2 H
        exact And.intro rfl (Exists.intro _ (Exists.intro _ ⟨ResV.twoW rfl (.refl _) (.refl _), Sub.at [] rfl, rfl, rfl⟩))
      · replace H := cnd_f c6 H
        refine AW.seq ?_
        refine AW.region ?_
        show AR _ _ _ _ _ [0, 1] _
        refine sS rfl rfl rfl (opS_eqs rfl rfl) ?_
        refine sS rfl rfl rfl (asg rfl) ?_
        refine AR.nil ?_
        show AW _ _ _ _ _ _
        refine AW.cond rfl (fun c7 => ?_) (fun c7 => ?_)
        · replace H := cnd_t c7 H
          refine AW.seq ?_
          refine AW.region ?_
          show AR _ _ _ _ _ [0, 1] _
          refine sS rfl rfl rfl (asg rfl) ?_
          refine sS rfl rfl rfl (asg rfl) ?_
          refine AR.nil ?_
          show AW _ _ _ _ _ _
          refine AW.ret ?_
          obtain ⟨rfl, rfl⟩ := res2 H
          exact And.intro rfl (Exists.intro _ (Exists.intro _ ⟨ResV.twoW rfl (.refl _) (.refl _), Sub.at [] rfl, rfl, rfl⟩))
        · replace H := cnd_f c7 H
          refine AW.seq ?_
          refine AW.region ?_
          show AR _ _ _ _ _ [0, 1] _
          refine sS rfl rfl rfl (opS_eqs rfl rfl) ?_
          refine sS rfl rfl rfl (asg rfl) ?_
          refine AR.nil ?_
          show AW _ _ _ _ _ _
          refine AW.cond rfl (fun c8 => ?_) (fun c8 => ?_)
          · replace H := cnd_t c8 H
            refine AW.seq ?_
            refine AW.region ?_
            show AR _ _ _ _ _ [0, 1] _
            refine sS rfl rfl rfl (asg rfl) ?_
            refine sS rfl rfl rfl (asg rfl) ?_
            refine AR.nil ?_
            show AW _ _ _ _ _ _
            refine AW.ret ?_
            obtain ⟨rfl, rfl⟩ := res2 H
            exact And.intro rfl (Exists.intro _ (Exists.intro _ ⟨ResV.twoW rfl (.refl _) (.refl _), Sub.at [] rfl, rfl, rfl⟩))
          · replace H := cnd_f c8 H
            refine AW.skip ?_
            show AW _ _ _ _ _ _
            refine AW.seq ?_
            refine AW.seq ?_
            obtain ⟨g10, H⟩ := grdc_s H
            obtain ⟨x11, e12, H⟩ := lt_s H
            refine AW.region ?_
            show AR _ _ _ _ _ [0, 1, 2, 3, 4, 5, 6, 7] _
            refine sS rfl rfl rfl (mv rfl) ?_
            refine sS rfl rfl rfl (opS_len_str Tryz.underlying9 rfl) ?_
            refine sS rfl rfl rfl (opS_lt rfl rfl) ?_
            refine sS rfl rfl rfl (mv rfl) ?_
            refine AR.meet (l := []) 25 (B ((decide ((a1.length : Int) < 2)) || (!decide (x11 = 35)))) (fun K => ?_) ?_
            · rcases Bool.eq_false_or_eq_true (decide ((a1.length : Int) < 2)) with h9 | h9
              ·
                refine gF h9 rfl rfl rfl rfl rfl ?_
                refine gF h9 rfl rfl rfl rfl rfl ?_
                refine gF h9 rfl rfl rfl rfl rfl ?_
                refine sS rfl rfl rfl (opS_pick_t (av := .v _) rfl h9 rfl) ?_
                exact K _ 3 _ (B_congr (or_t h9)) rfl rfl
              ·
                refine gT h9 rfl rfl rfl rfl rfl rfl (AO.ops rfl rfl (mv rfl) ?_)
                refine gT h9 rfl rfl rfl rfl rfl rfl (AO.ops rfl rfl (g_index_str Tryz.underlying9 rfl rfl (g10 (nf h9)) e12) ?_)
                refine gT h9 rfl rfl rfl rfl rfl rfl (AO.ops rfl rfl (g_ne8 (a := x11) (b := 35) rfl rfl) ?_)
                refine sS rfl rfl rfl (opS_pick_f (av := .v _) rfl h9 rfl) ?_
                exact K _ 3 _ (B_congr (or_f h9)) rfl rfl
            refine AR.nil ?_
            show AW _ _ _ _ _ _
            refine AW.cond rfl (fun c13 => ?_) (fun c13 => ?_)
            · replace H := cnd_t c13 H
              refine AW.seq ?_
              refine AW.region ?_
              show AR _ _ _ _ _ [0, 1] _
              refine sS rfl rfl rfl (asg rfl) ?_
              refine sS rfl rfl rfl (asg rfl) ?_
              refine AR.nil ?_
              show AW _ _ _ _ _ _
              refine AW.ret ?_
              obtain ⟨rfl, rfl⟩ := res2 H
              exact And.intro rfl (Exists.intro _ (Exists.intro _ ⟨ResV.twoW rfl (.refl _) (.refl _), Sub.at [] rfl, rfl, rfl⟩))
            · replace H := cnd_f c13 H
              refine AW.skip ?_
              show AW _ _ _ _ _ _
              refine AW.seq ?_
              obtain ⟨g14, H⟩ := grd_s H
              obtain ⟨x15, e16, H⟩ := lt_s H
              obtain ⟨x17, e18, H⟩ := bnd_s H
              refine AW.region ?_
              show AR _ _ _ _ _ [0, 1, 2, 3] _
              refine sS rfl rfl rfl (mv rfl) ?_
              refine sS rfl rfl rfl (g_from_str Tryz.underlying9 rfl rfl g14 e16) ?_
              refine AR.run rfl rfl (AO.callp rfl en65 rfl (w_ref07_number F x15 10 x17 e18) ?_)
              refine sS rfl rfl rfl (asg rfl) ?_
              refine AR.nil ?_
              show AW _ _ _ _ _ _
              refine AW.cut (X := Int) (fun y28 => ⟨[(4, i64 y28)], [], []⟩) (fun y28 => ref07_sign_j1 F y28 = some (r2, r3)) ?_ ?_
              ·
                refine AW.seq ?_
                obtain ⟨g19, H⟩ := grd_s H
                obtain ⟨x20, e21, H⟩ := lt_s H
                refine AW.region ?_
                show AR _ _ _ _ _ [0, 1, 2] _
                refine sS rfl rfl rfl (mv rfl) ?_
                refine sS rfl rfl rfl (g_index_str Tryz.underlying9 rfl rfl g19 e21) ?_
                refine sS rfl rfl rfl (g_eq8 (a := x20) (b := 120) rfl rfl) ?_
                refine AR.nil ?_
                show AW _ _ _ _ _ _
                refine AW.cond rfl (fun c22 => ?_) (fun c22 => ?_)
                · replace H := cnd_t c22 H
                  obtain ⟨g23, H⟩ := grd_s H
                  obtain ⟨x24, e25, H⟩ := lt_s H
                  obtain ⟨x26, e27, H⟩ := bnd_s H
                  refine AW.region ?_
                  show AR _ _ _ _ _ [0, 1, 2, 3] _
                  refine sS rfl rfl rfl (mv rfl) ?_
                  refine sS rfl rfl rfl (g_from_str Tryz.underlying9 rfl rfl g23 e25) ?_
                  refine AR.run rfl rfl (AO.callp rfl en65 rfl (w_ref07_number F x24 16 x26 e27) ?_)
                  refine sS rfl rfl rfl (asg rfl) ?_
                  refine AR.nil ?_
                  exact Exists.intro x26 ⟨H, WK.at [] (.cons (.refl _) (.nil _)) rfl⟩
                · replace H := cnd_f c22 H
                  refine AW.skip ?_
                  exact Exists.intro x17 ⟨H, WK.at [] (.cons (.refl _) (.nil _)) rfl⟩
              rintro y28 H
              replace H : ref07_sign_j1 F y28 = some (r2, r3) := H
              unfold ref07_sign_j1 at H
              show AW _ _ _ _ _ _
              refine AW.seq ?_
              obtain ⟨x30, x31, e32, H⟩ := bnd2_s H
              refine AW.region ?_
              show AR _ _ _ _ _ [0, 1, 2, 3, 4, 5, 6] _
              refine sS rfl rfl rfl (mv rfl) ?_
              refine AR.run rfl rfl (AO.callp rfl en66 rfl (w_ref07_Rune F y28 x30 x31 e32) ?_)
              refine sS rfl rfl rfl (opS_move (av := .tup _) rfl) ?_
              refine sS rfl rfl rfl (opS_extract (av := .v _) rfl rfl) ?_
              refine sS rfl rfl rfl (opS_extract (av := .v _) rfl rfl) ?_
              refine sS rfl rfl rfl (asg rfl) ?_
              refine sS rfl rfl rfl (asg rfl) ?_
              refine AR.nil ?_
              show AW _ _ _ _ _ _
              refine AW.seq ?_
              refine AW.region ?_
              show AR _ _ _ _ _ [0, 1, 2, 3] _
              refine sS rfl rfl rfl (mv rfl) ?_
              refine sS rfl rfl rfl (mv rfl) ?_
              refine sS rfl rfl rfl (asg rfl) ?_
              refine sS rfl rfl rfl (asg rfl) ?_
              refine AR.nil ?_
              show AW _ _ _ _ _ _
              refine AW.ret ?_
              obtain ⟨rfl, rfl⟩ := res2 H
              exact And.intro rfl (Exists.intro _ (Exists.intro _ ⟨ResV.twoW rfl (.refl _) (.refl _), Sub.at [] rfl, rfl, rfl⟩))
set_option maxRecDepth 100000 in
set_option maxHeartbeats 1000000 in
theorem w_ref07_body (F : Nat) (a1 : List UInt8) (a2 : Int) (r3 : List UInt8) (r4 : Bool) (H : ref07_body F a1 a2 = some (r3, r4)) : ACalls Tryz.prog 51 [S a1, i64 a2] [] (Ret (.tup [S r3, B r4]) []) := by
  unfold ref07_body at H
  refine ACalls.of_body Tryz.func51 rfl rfl ?_
  show AW _ _ 38 _ _ _
  refine AW.seq ?_
  refine AW.region ?_
  show AR _ _ _ _ _ [0, 1] _
  refine sS rfl rfl rfl (asg rfl) ?_
  refine sS rfl rfl rfl (asg rfl) ?_
  refine AR.nil ?_
  show AW _ _ _ _ _ _
  refine AW.cut (X := Unit) (fun _ => ⟨[], [], []⟩) (fun _ => ref07_body_j1 = some (r3, r4)) ?_ ?_
  ·
    refine AW.seq ?_
    obtain ⟨g5, H⟩ := grd_s H
    refine AW.region ?_
    show AR _ _ _ _ _ [0, 1, 2] _
    refine sS rfl rfl rfl (mv rfl) ?_
    refine sS rfl rfl rfl (g_add rfl rfl g5) ?_
    refine sS rfl rfl rfl (asg rfl) ?_
    refine AR.nil ?_
    show AW _ _ _ _ _ _
    refine AW.block ?_
    refine AW.loop (X := Nat × Int) (fun (n8, y6) => ⟨[(0, S a1), (1, i64 a2), (6, i64 y6)], [], []⟩) (fun (n8, y6) => ref07_body_L1 a1 a2 n8 y6 = some (r3, r4)) (fun (n8, y6) => n8) (F, a2 + 1) H (WK.at [] (.cons (.refl _) (.cons (.refl _) (.cons (.refl _) (.nil _)))) rfl) ?_
    rintro ⟨n8, y6⟩ H
    obtain ⟨n8, rfl, H⟩ := loop_s H
    replace H : ref07_body_B1 a1 a2 (ref07_body_L1 a1 a2 n8) y6 = some (r3, r4) := H
    unfold ref07_body_B1 at H
    show AW _ _ _ _ _ _
    refine AW.seq ?_
    refine AW.seq ?_
    obtain ⟨g10, H⟩ := grdc_s H
    refine AW.region ?_
    show AR _ _ _ _ _ [0, 1, 2, 3, 4, 5, 6, 7, 8, 9] _
    refine sS rfl rfl rfl (mv rfl) ?_
    refine sS rfl rfl rfl (mv rfl) ?_
    refine sS rfl rfl rfl (opS_len_str Tryz.underlying9 rfl) ?_
    refine sS rfl rfl rfl (opS_lt rfl rfl) ?_
    refine sS rfl rfl rfl (mv rfl) ?_
    refine AR.meet (l := []) 18 (B ((decide (y6 < (a1.length : Int))) && (decide (y6 ≤ a2 + 11)))) (fun K => ?_) ?_
    · rcases Bool.eq_false_or_eq_true (decide (y6 < (a1.length : Int))) with h9 | h9
      ·
        refine gT h9 rfl rfl rfl rfl rfl rfl (AO.ops rfl rfl (mv rfl) ?_)
        refine gT h9 rfl rfl rfl rfl rfl rfl (AO.ops rfl rfl (mv rfl) ?_)
        refine gT h9 rfl rfl rfl rfl rfl rfl (AO.ops rfl rfl (g_add rfl rfl (g10 h9)) ?_)
        refine gT h9 rfl rfl rfl rfl rfl rfl (AO.ops rfl rfl (opS_le rfl rfl) ?_)
        refine sS rfl rfl rfl (opS_pick_t (av := .v _) rfl h9 rfl) ?_
        exact K _ 4 _ (B_congr (and_t h9)) rfl rfl
      ·
        refine gF h9 rfl rfl rfl rfl rfl ?_
        refine gF h9 rfl rfl rfl rfl rfl ?_
        refine gF h9 rfl rfl rfl rfl rfl ?_
        refine gF h9 rfl rfl rfl rfl rfl ?_
        refine sS rfl rfl rfl (opS_pick_f (av := .v _) rfl h9 rfl) ?_
        exact K _ 4 _ (B_congr (and_f h9)) rfl rfl
    refine AR.nil ?_
    show AW _ _ _ _ _ _
    refine AW.cond rfl (fun c11 => ?_) (fun c11 => ?_)
    · replace H := cnd_t c11 H
      refine AW.skip ?_
      show AW _ _ _ _ _ _
      refine AW.seq ?_
      refine AW.block ?_
      refine AW.seq ?_
      refine AW.seq ?_
      obtain ⟨g12, H⟩ := grd_s H
      obtain ⟨x13, e14, H⟩ := lt_s H
      refine AW.region ?_
      show AR _ _ _ _ _ [0, 1, 2, 3] _
      refine sS rfl rfl rfl (mv rfl) ?_
      refine sS rfl rfl rfl (mv rfl) ?_
      refine sS rfl rfl rfl (g_index_str Tryz.underlying9 rfl rfl g12 e14) ?_
      refine sS rfl rfl rfl (g_eq8 (a := x13) (b := 38) rfl rfl) ?_
      refine AR.nil ?_
      show AW _ _ _ _ _ _
      refine AW.cond rfl (fun c15 => ?_) (fun c15 => ?_)
      · replace H := cnd_t c15 H
        refine AW.seq ?_
        refine AW.region ?_
        show AR _ _ _ _ _ [0, 1] _
        refine sS rfl rfl rfl (asg rfl) ?_
        refine sS rfl rfl rfl (asg rfl) ?_
        refine AR.nil ?_
        show AW _ _ _ _ _ _
        refine AW.ret ?_
        obtain ⟨rfl, rfl⟩ := res2 H
        exact And.intro rfl (Exists.intro _ (Exists.intro _ ⟨ResV.twoW rfl (.refl _) (.refl _), Sub.at [] rfl, rfl, rfl⟩))
      · replace H := cnd_f c15 H
        refine AW.skip ?_
        show AW _ _ _ _ _ _
        refine AW.seq ?_
        obtain ⟨g16, H⟩ := grd_s H
        obtain ⟨x17, e18, H⟩ := lt_s H
        refine AW.region ?_
        show AR _ _ _ _ _ [0, 1, 2, 3] _
        refine sS rfl rfl rfl (mv rfl) ?_
        refine sS rfl rfl rfl (mv rfl) ?_
        refine sS rfl rfl rfl (g_index_str Tryz.underlying9 rfl rfl g16 e18) ?_
        refine sS rfl rfl rfl (g_eq8 (a := x17) (b := 59) rfl rfl) ?_
        refine AR.nil ?_
        show AW _ _ _ _ _ _
        refine AW.cond rfl (fun c19 => ?_) (fun c19 => ?_)
        · replace H := cnd_t c19 H
          refine AW.seq ?_
          obtain ⟨g20, H⟩ := grd_s H
          obtain ⟨g21, H⟩ := grd_s H
          obtain ⟨x22, e23, H⟩ := lt_s H
          obtain ⟨g24, H⟩ := grd_s H
          refine AW.region ?_
          show AR _ _ _ _ _ [0, 1, 2, 3, 4, 5, 6, 7, 8, 9, 10] _
          refine sS rfl rfl rfl (mv rfl) ?_
          refine sS rfl rfl rfl (mv rfl) ?_
          refine sS rfl rfl rfl (g_add rfl rfl g20) ?_
          refine sS rfl rfl rfl (mv rfl) ?_
          refine sS rfl rfl rfl (g_slice_str Tryz.underlying9 rfl rfl rfl g21 e23) ?_
          refine sS rfl rfl rfl (mv rfl) ?_
          refine sS rfl rfl rfl (mv rfl) ?_
          refine sS rfl rfl rfl (g_add rfl rfl g24) ?_
          refine sS rfl rfl rfl (opS_gt rfl rfl) ?_
          refine sS rfl rfl rfl (asg rfl) ?_
          refine sS rfl rfl rfl (asg rfl) ?_
          refine AR.nil ?_
          show AW _ _ _ _ _ _
          refine AW.ret ?_
          obtain ⟨rfl, rfl⟩ := res2 H
          exact And.intro rfl (Exists.intro _ (Exists.intro _ ⟨ResV.twoW rfl (.refl _) (.refl _), Sub.at [] rfl, rfl, rfl⟩))
        · replace H := cnd_f c19 H
          refine AW.skip ?_
          show AW _ _ _ _ _ _
          obtain ⟨g25, H⟩ := grd_s H
          refine AW.region ?_
          show AR _ _ _ _ _ [0, 1, 2] _
          refine sS rfl rfl rfl (mv rfl) ?_
          refine sS rfl rfl rfl (g_add rfl rfl g25) ?_
          refine sS rfl rfl rfl (asg rfl) ?_
          refine AR.nil ?_
          exact Exists.intro (n8, y6 + 1) ⟨H, Nat.lt_succ_self _, WK.at [] (.cons (.refl _) (.cons (.refl _) (.cons (.refl _) (.nil _)))) rfl⟩
    · replace H := cnd_f c11 H
      refine AW.exit ?_
      exact Exists.intro () ⟨H, WK.at [] (.nil _) rfl⟩
  rintro _ H
  replace H : ref07_body_j1 = some (r3, r4) := H
  unfold ref07_body_j1 at H
  show AW _ _ _ _ _ _
  refine AW.seq ?_
  refine AW.region ?_
  show AR _ _ _ _ _ [0, 1] _
  refine sS rfl rfl rfl (asg rfl) ?_
  refine sS rfl rfl rfl (asg rfl) ?_
  refine AR.nil ?_
  show AW _ _ _ _ _ _
  refine AW.ret ?_
  obtain ⟨rfl, rfl⟩ := res2 H
  exact And.intro rfl (Exists.intro _ (Exists.intro _ ⟨ResV.twoW rfl (.refl _) (.refl _), Sub.at [] rfl, rfl, rfl⟩))
set_option maxRecDepth 100000 in
set_option maxHeartbeats 1000000 in
theorem w_ref07_gone (F : Nat) (a1 : List UInt8) (r2 : List UInt8) (r3 : Bool) (H : ref07_gone F a1 = some (r2, r3)) : ACalls Tryz.prog 36 [S a1] [] (Ret (.tup [S r2, B r3]) []) := by
  unfold ref07_gone at H
  refine ACalls.of_body Tryz.func36 rfl rfl ?_
  show AW _ _ 53 _ _ _
  refine AW.seq ?_
  refine AW.region ?_
  show AR _ _ _ _ _ [0, 1] _
  refine sS rfl rfl rfl (asg rfl) ?_
  refine sS rfl rfl rfl (asg rfl) ?_
  refine AR.nil ?_
  show AW _ _ _ _ _ _
  refine AW.seq ?_
  refine AW.region ?_
  show AR _ _ _ _ _ [0] _
  refine sS rfl rfl rfl (asg rfl) ?_
  refine AR.nil ?_
  show AW _ _ _ _ _ _
  refine AW.nil_grows 4 1 5 rfl fun t4 => ?_
  show AW _ _ _ _ _ ⟨(4, slE Enc.byte [] (some t4)) :: _, _, _⟩
  refine AW.seq ?_
  refine AW.region ?_
  show AR _ _ _ _ _ [0] _
  refine sS rfl rfl rfl (asg rfl) ?_
  refine AR.nil ?_
  show AW _ _ _ _ _ _
  refine AW.cut (X := (List UInt8) × Nat × Bool) (fun (y40, t41, y42) => ⟨[(4, slE Enc.byte y40 (some t41)), (5, B y42)], [], [.tok t41 5]⟩) (fun (y40, t41, y42) => ref07_gone_j1 y40 y42 = some (r2, r3)) ?_ ?_
  ·
    refine AW.seq ?_
    refine AW.region ?_
    show AR _ _ _ _ _ [0] _
    refine sS rfl rfl rfl (asg rfl) ?_
    refine AR.nil ?_
    show AW _ _ _ _ _ _
    refine AW.block ?_
    refine AW.loop (X := Nat × (List UInt8) × Nat × Bool × Int) (fun (n10, y5, t6, y7, y8) => ⟨[(0, S a1), (4, slE Enc.byte y5 (some t6)), (5, B y7), (6, i64 y8)], [], [.tok t6 5]⟩) (fun (n10, y5, t6, y7, y8) => ref07_gone_L1 F a1 n10 (y5, y7, y8) = some (r2, r3)) (fun (n10, y5, t6, y7, y8) => n10) (F, [], t4, true, 0) H (WK.at [0] (.cons (.refl _) (.cons (.refl _) (.cons (.refl _) (.cons (.refl _) (.nil _))))) rfl) ?_
    rintro ⟨n10, y5, t6, y7, y8⟩ H
    obtain ⟨n10, rfl, H⟩ := loop_s H
    replace H : ref07_gone_B1 F a1 (ref07_gone_L1 F a1 n10) y5 y7 y8 = some (r2, r3) := H
    unfold ref07_gone_B1 at H
    show AW _ _ _ _ _ _
    refine AW.seq ?_
    refine AW.seq ?_
    refine AW.region ?_
    show AR _ _ _ _ _ [0, 1, 2, 3] _
    refine sS rfl rfl rfl (mv rfl) ?_
    refine sS rfl rfl rfl (mv rfl) ?_
    refine sS rfl rfl rfl (opS_len_str Tryz.underlying9 rfl) ?_
    refine sS rfl rfl rfl (opS_lt rfl rfl) ?_
    refine AR.nil ?_
    show AW _ _ _ _ _ _
    refine AW.cond rfl (fun c11 => ?_) (fun c11 => ?_)
    · replace H := cnd_t c11 H
      refine AW.skip ?_
      show AW _ _ _ _ _ _
      refine AW.block ?_
      refine AW.cut (X := Bool) (fun y30 => ⟨[(0, S a1), (4, slE Enc.byte y5 (some t6)), (5, B y30), (6, i64 y8)], [], [.tok t6 5]⟩) (fun y30 => ref07_gone_j2 a1 y5 y8 (ref07_gone_L1 F a1 n10) y30 = some (r2, r3)) ?_ ?_
      ·
        refine AW.seq ?_
        obtain ⟨g12, H⟩ := grd_s H
        obtain ⟨x13, e14, H⟩ := lt_s H
        refine AW.region ?_
        show AR _ _ _ _ _ [0, 1, 2, 3] _
        refine sS rfl rfl rfl (mv rfl) ?_
        refine sS rfl rfl rfl (mv rfl) ?_
        refine sS rfl rfl rfl (g_index_str Tryz.underlying9 rfl rfl g12 e14) ?_
        refine sS rfl rfl rfl (g_eq8 (a := x13) (b := 38) rfl rfl) ?_
        refine AR.nil ?_
        show AW _ _ _ _ _ _
        refine AW.cond rfl (fun c15 => ?_) (fun c15 => ?_)
        · replace H := cnd_t c15 H
          refine AW.seq ?_
          obtain ⟨x16, x17, e18, H⟩ := bnd2_s H
          refine AW.region ?_
          show AR _ _ _ _ _ [0, 1, 2, 3, 4, 5, 6, 7] _
          refine sS rfl rfl rfl (mv rfl) ?_
          refine sS rfl rfl rfl (mv rfl) ?_
          refine AR.run rfl rfl (AO.callp rfl en51 rfl (w_ref07_body F a1 y8 x16 x17 e18) ?_)
          refine sS rfl rfl rfl (opS_move (av := .tup _) rfl) ?_
          refine sS rfl rfl rfl (opS_extract (av := .v _) rfl rfl) ?_
          refine sS rfl rfl rfl (opS_extract (av := .v _) rfl rfl) ?_
          refine sS rfl rfl rfl (asg rfl) ?_
          refine sS rfl rfl rfl (asg rfl) ?_
          refine AR.nil ?_
          show AW _ _ _ _ _ _
          refine AW.seq ?_
          obtain ⟨x19, x20, e21, H⟩ := bnd2_s H
          refine AW.region ?_
          show AR _ _ _ _ _ [0, 1, 2, 3, 4, 5, 6] _
          refine sS rfl rfl rfl (mv rfl) ?_
          refine AR.run rfl rfl (AO.callp rfl en52 rfl (w_ref07_sign F x16 x19 x20 e21) ?_)
          refine sS rfl rfl rfl (opS_move (av := .tup _) rfl) ?_
          refine sS rfl rfl rfl (opS_extract (av := .v _) rfl rfl) ?_
          refine sS rfl rfl rfl (opS_extract (av := .v _) rfl rfl) ?_
          refine sS rfl rfl rfl (asg rfl) ?_
          refine sS rfl rfl rfl (asg rfl) ?_
          refine AR.nil ?_
          show AW _ _ _ _ _ _
          refine AW.seq ?_
          refine AW.seq ?_
          refine AW.region ?_
          show AR _ _ _ _ _ [0, 1, 2, 3] _
          refine sS rfl rfl rfl (mv rfl) ?_
          refine sS rfl rfl rfl (mv rfl) ?_
          refine AR.meet (l := []) 33 (B (x17 && x20)) (fun K => ?_) ?_
          · rcases Bool.eq_false_or_eq_true x17 with h22 | h22
            ·
              refine gT h22 rfl rfl rfl rfl rfl rfl (AO.ops rfl rfl (mv rfl) ?_)
              refine sS rfl rfl rfl (opS_pick_t (av := .v _) rfl h22 rfl) ?_
              exact K _ 1 _ (B_congr (and_t h22)) rfl rfl
            ·
              refine gF h22 rfl rfl rfl rfl rfl ?_
              refine sS rfl rfl rfl (opS_pick_f (av := .v _) rfl h22 rfl) ?_
              exact K _ 1 _ (B_congr (and_f h22)) rfl rfl
          refine AR.nil ?_
          show AW _ _ _ _ _ _
          refine AW.cond rfl (fun c23 => ?_) (fun c23 => ?_)
          · replace H := cnd_t c23 H
            refine AW.seq ?_
            obtain ⟨g25, H⟩ := grd_s H
            obtain ⟨x26, e27, H⟩ := lt_s H
            refine AW.region ?_
            show AR _ _ _ _ _ [0, 1, 2, 3] _
            refine sS rfl rfl rfl (opS_move (av := slE _ _ _) rfl) ?_
            refine sS rfl rfl rfl (mv rfl) ?_
            refine sX rfl rfl rfl (g_append_str (bytes := 1) 0 Tryz.underlying33 Tryz.underlying9 rfl (by kernel_rfl) rfl rfl rfl rfl g25 e27) ?_
            rintro _ _ ⟨t24, rfl, rfl⟩
            refine sS rfl rfl rfl (opS_assign (av := slE _ _ _) rfl) ?_
            refine AR.nil ?_
            show AW _ _ _ _ _ _
            refine AW.seq ?_
            obtain ⟨g28, H⟩ := grd_s H
            obtain ⟨g29, H⟩ := grd_s H
            refine AW.region ?_
            show AR _ _ _ _ _ [0, 1, 2, 3, 4, 5] _
            refine sS rfl rfl rfl (mv rfl) ?_
            refine sS rfl rfl rfl (mv rfl) ?_
            refine sS rfl rfl rfl (opS_len_str Tryz.underlying9 rfl) ?_
            refine sS rfl rfl rfl (g_add rfl rfl g28) ?_
            refine sS rfl rfl rfl (g_add rfl rfl g29) ?_
            refine sS rfl rfl rfl (asg rfl) ?_
            refine AR.nil ?_
            show AW _ _ _ _ _ _
            refine AW.exit ?_
            exact Exists.intro (n10, x26, t24, y7, (y8 + (x16.length : Int)) + 2) ⟨H, Nat.lt_succ_self _, WK.at [0] (.cons (.refl _) (.cons (.refl _) (.cons (.refl _) (.cons (.refl _) (.nil _))))) rfl⟩
          · replace H := cnd_f c23 H
            refine AW.skip ?_
            show AW _ _ _ _ _ _
            refine AW.region ?_
            show AR _ _ _ _ _ [0] _
            refine sS rfl rfl rfl (asg rfl) ?_
            refine AR.nil ?_
            exact Exists.intro false ⟨H, WK.at [0] (.cons (.refl _) (.cons (.refl _) (.cons (.refl _) (.cons (.refl _) (.nil _))))) rfl⟩
        · replace H := cnd_f c15 H
          refine AW.skip ?_
          exact Exists.intro y7 ⟨H, WK.at [0] (.cons (.refl _) (.cons (.refl _) (.cons (.refl _) (.cons (.refl _) (.nil _))))) rfl⟩
      rintro y30 H
      replace H : ref07_gone_j2 a1 y5 y8 (ref07_gone_L1 F a1 n10) y30 = some (r2, r3) := H
      unfold ref07_gone_j2 at H
      show AW _ _ _ _ _ _
      refine AW.seq ?_
      obtain ⟨g32, H⟩ := grd_s H
      obtain ⟨x33, e34, H⟩ := lt_s H
      obtain ⟨g36, H⟩ := grd_s H
      obtain ⟨x37, e38, H⟩ := lt_s H
      refine AW.region ?_
      show AR _ _ _ _ _ [0, 1, 2, 3, 4, 5, 6] _
      refine sS rfl rfl rfl (opS_move (av := slE _ _ _) rfl) ?_
      refine sS rfl rfl rfl (mv rfl) ?_
      refine sS rfl rfl rfl (mv rfl) ?_
      refine sS rfl rfl rfl (g_index_str Tryz.underlying9 rfl rfl g32 e34) ?_
      refine sR rfl rfl rfl (opR_buildE (E := Enc.byte) (bytes := 1) (xs := [.tmp 45]) (l := ([x33] : List UInt8)) Tryz.underlying33 (by kernel_rfl) rfl rfl (by decide) rfl rfl) ?_
      refine sX rfl rfl rfl (g_append (E := Enc.byte) (bytes := 1) 0 Tryz.underlying33 Tryz.underlying33 rfl (by kernel_rfl) rfl rfl rfl rfl g36 e38) ?_
      rintro _ _ ⟨t35, rfl, rfl⟩
      refine sS rfl rfl rfl (opS_assign (av := slE _ _ _) rfl) ?_
      refine AR.nil ?_
      show AW _ _ _ _ _ _
      obtain ⟨g39, H⟩ := grd_s H
      refine AW.region ?_
      show AR _ _ _ _ _ [0, 1, 2] _
      refine sS rfl rfl rfl (mv rfl) ?_
      refine sS rfl rfl rfl (g_add rfl rfl g39) ?_
      refine sS rfl rfl rfl (asg rfl) ?_
      refine AR.nil ?_
      exact Exists.intro (n10, x37, t35, y30, y8 + 1) ⟨H, Nat.lt_succ_self _, WK.at [0] (.cons (.refl _) (.cons (.refl _) (.cons (.refl _) (.cons (.refl _) (.nil _))))) rfl⟩
    · replace H := cnd_f c11 H
      refine AW.exit ?_
      exact Exists.intro (y5, t6, y7) ⟨H, WK.at [0] (.cons (.refl _) (.cons (.refl _) (.nil _))) rfl⟩
  rintro ⟨y40, t41, y42⟩ H
  replace H : ref07_gone_j1 y40 y42 = some (r2, r3) := H
  unfold ref07_gone_j1 at H
  show AW _ _ _ _ _ _
  refine AW.seq ?_
  refine AW.region ?_
  show AR _ _ _ _ _ [0, 1, 2, 3, 4] _
  refine sS rfl rfl rfl (opS_move (av := slE _ _ _) rfl) ?_
  refine sS rfl rfl rfl (opS_conv_bytes_str Tryz.underlying33 Tryz.underlying5 Tryz.underlying9 rfl) ?_
  refine sS rfl rfl rfl (mv rfl) ?_
  refine sS rfl rfl rfl (asg rfl) ?_
  refine sS rfl rfl rfl (asg rfl) ?_
  refine AR.nil ?_
  show AW _ _ _ _ _ _
  refine AW.ret ?_
  obtain ⟨rfl, rfl⟩ := res2 H
  exact And.intro rfl (Exists.intro _ (Exists.intro _ ⟨ResV.twoW rfl (.refl _) (.refl _), Sub.at [] rfl, rfl, rfl⟩))
set_option maxRecDepth 100000 in
set_option maxHeartbeats 1000000 in
theorem w_ref07_Loose (F : Nat) (a1 : List UInt8) (r2 : List UInt8) (H : ref07_Loose F a1 = some r2) : ACalls Tryz.prog 19 [S a1] [] (Ret (S r2) []) := by
  unfold ref07_Loose at H
  refine ACalls.of_body Tryz.func19 rfl rfl ?_
  show AW _ _ 11 _ _ _
  refine AW.seq ?_
  refine AW.region ?_
  show AR _ _ _ _ _ [0] _
  refine sS rfl rfl rfl (asg rfl) ?_
  refine AR.nil ?_
  show AW _ _ _ _ _ _
  refine AW.seq ?_
  obtain ⟨x3, x4, e5, H⟩ := bnd2_s H
  refine AW.region ?_
  show AR _ _ _ _ _ [0, 1, 2, 3, 4, 5, 6] _
  refine sS rfl rfl rfl (mv rfl) ?_
  refine AR.run rfl rfl (AO.callp rfl en36 rfl (w_ref07_gone F a1 x3 x4 e5) ?_)
  refine sS rfl rfl rfl (opS_move (av := .tup _) rfl) ?_
  refine sS rfl rfl rfl (opS_extract (av := .v _) rfl rfl) ?_
  refine sS rfl rfl rfl (opS_extract (av := .v _) rfl rfl) ?_
  refine sS rfl rfl rfl (asg rfl) ?_
  refine sS rfl rfl rfl (asg rfl) ?_
  refine AR.nil ?_
  show AW _ _ _ _ _ _
  refine AW.seq ?_
  refine AW.region ?_
  show AR _ _ _ _ _ [0, 1] _
  refine sS rfl rfl rfl (mv rfl) ?_
  refine sS rfl rfl rfl (asg rfl) ?_
  refine AR.nil ?_
  show AW _ _ _ _ _ _
  refine AW.ret ?_
  obtain rfl := Option.some.inj H
  exact And.intro rfl (Exists.intro _ (Exists.intro _ ⟨ResV.oneW rfl (.refl _), Sub.at [] rfl, rfl, rfl⟩))
set_option maxRecDepth 100000 in
set_option maxHeartbeats 1000000 in
theorem w_ref05_Small (F : Nat) (a1 : List UInt8) (r2 : List UInt8) (H : ref05_Small F a1 = some r2) : ACalls Tryz.prog 50 [S a1] [] (Ret (S r2) []) := by
  unfold ref05_Small at H
  refine ACalls.of_body Tryz.func50 rfl rfl ?_
  show AW _ _ 29 _ _ _
  refine AW.seq ?_
  refine AW.region ?_
  show AR _ _ _ _ _ [0] _
  refine sS rfl rfl rfl (asg rfl) ?_
  refine AR.nil ?_
  show AW _ _ _ _ _ _
  refine AW.seq ?_
  refine AW.region ?_
  show AR _ _ _ _ _ [0] _
  refine sS rfl rfl rfl (asg rfl) ?_
  refine AR.nil ?_
  show AW _ _ _ _ _ _
  refine AW.cut (X := (List UInt8)) (fun y19 => ⟨[(3, S y19)], [], []⟩) (fun y19 => ref05_Small_j1 y19 = some r2) ?_ ?_
  ·
    refine AW.seq ?_
    refine AW.region ?_
    show AR _ _ _ _ _ [0] _
    refine sS rfl rfl rfl (asg rfl) ?_
    refine AR.nil ?_
    show AW _ _ _ _ _ _
    refine AW.block ?_
    refine AW.loop (X := Nat × (List UInt8) × Int) (fun (n6, y3, y4) => ⟨[(0, S a1), (3, S y3), (4, i64 y4)], [], []⟩) (fun (n6, y3, y4) => ref05_Small_L1 a1 n6 (y3, y4) = some r2) (fun (n6, y3, y4) => n6) (F, ([] : List UInt8), 0) H (WK.at [] (.cons (.refl _) (.cons (.refl _) (.cons (.refl _) (.nil _)))) rfl) ?_
    rintro ⟨n6, y3, y4⟩ H
    obtain ⟨n6, rfl, H⟩ := loop_s H
    replace H : ref05_Small_B1 a1 (ref05_Small_L1 a1 n6) y3 y4 = some r2 := H
    unfold ref05_Small_B1 at H
    show AW _ _ _ _ _ _
    refine AW.seq ?_
    refine AW.seq ?_
    refine AW.region ?_
    show AR _ _ _ _ _ [0, 1, 2, 3] _
    refine sS rfl rfl rfl (mv rfl) ?_
    refine sS rfl rfl rfl (mv rfl) ?_
    refine sS rfl rfl rfl (opS_len_str Tryz.underlying9 rfl) ?_
    refine sS rfl rfl rfl (opS_lt rfl rfl) ?_
    refine AR.nil ?_
    show AW _ _ _ _ _ _
    refine AW.cond rfl (fun c7 => ?_) (fun c7 => ?_)
    · replace H := cnd_t c7 H
      refine AW.skip ?_
      show AW _ _ _ _ _ _
      refine AW.seq ?_
      refine AW.block ?_
      refine AW.seq ?_
      obtain ⟨g8, H⟩ := grd_s H
      obtain ⟨x9, e10, H⟩ := lt_s H
      refine AW.region ?_
      show AR _ _ _ _ _ [0, 1, 2, 3] _
      refine sS rfl rfl rfl (mv rfl) ?_
      refine sS rfl rfl rfl (mv rfl) ?_
      refine sS rfl rfl rfl (g_index_str Tryz.underlying9 rfl rfl g8 e10) ?_
      refine sS rfl rfl rfl (asg rfl) ?_
      refine AR.nil ?_
      show AW _ _ _ _ _ _
      refine AW.cut (X := UInt8) (fun y13 => ⟨[(0, S a1), (3, S y3), (4, i64 y4), (5, u8 y13)], [], []⟩) (fun y13 => ref05_Small_j2 y3 y4 (ref05_Small_L1 a1 n6) y13 = some r2) ?_ ?_
      ·
        refine AW.seq ?_
        refine AW.region ?_
        show AR _ _ _ _ _ [0, 1, 2, 3, 4, 5] _
        refine sS rfl rfl rfl (mv rfl) ?_
        refine sS rfl rfl rfl (opS_ge rfl rfl) ?_
        refine sS rfl rfl rfl (mv rfl) ?_
        refine AR.meet (l := []) 20 (B ((decide (65 ≤ (x9.toNat : Int))) && (decide ((x9.toNat : Int) ≤ 90)))) (fun K => ?_) ?_
        · rcases Bool.eq_false_or_eq_true (decide (65 ≤ (x9.toNat : Int))) with h11 | h11
          ·
            refine gT h11 rfl rfl rfl rfl rfl rfl (AO.ops rfl rfl (mv rfl) ?_)
            refine gT h11 rfl rfl rfl rfl rfl rfl (AO.ops rfl rfl (opS_le rfl rfl) ?_)
            refine sS rfl rfl rfl (opS_pick_t (av := .v _) rfl h11 rfl) ?_
            exact K _ 2 _ (B_congr (and_t h11)) rfl rfl
          ·
            refine gF h11 rfl rfl rfl rfl rfl ?_
            refine gF h11 rfl rfl rfl rfl rfl ?_
            refine sS rfl rfl rfl (opS_pick_f (av := .v _) rfl h11 rfl) ?_
            exact K _ 2 _ (B_congr (and_f h11)) rfl rfl
        refine AR.nil ?_
        show AW _ _ _ _ _ _
        refine AW.cond rfl (fun c12 => ?_) (fun c12 => ?_)
        · replace H := cnd_t c12 H
          refine AW.region ?_
          show AR _ _ _ _ _ [0, 1, 2] _
          refine sS rfl rfl rfl (mv rfl) ?_
          refine sS rfl rfl rfl (g_add8 (a := x9) (b := 32) rfl rfl) ?_
          refine sS rfl rfl rfl (asg rfl) ?_
          refine AR.nil ?_
          exact Exists.intro (x9 + 32) ⟨H, WK.at [] (.cons (.refl _) (.cons (.refl _) (.cons (.refl _) (.cons (.refl _) (.nil _))))) rfl⟩
        · replace H := cnd_f c12 H
          refine AW.skip ?_
          exact Exists.intro x9 ⟨H, WK.at [] (.cons (.refl _) (.cons (.refl _) (.cons (.refl _) (.cons (.refl _) (.nil _))))) rfl⟩
      rintro y13 H
      replace H : ref05_Small_j2 y3 y4 (ref05_Small_L1 a1 n6) y13 = some r2 := H
      unfold ref05_Small_j2 at H
      show AW _ _ _ _ _ _
      obtain ⟨g15, H⟩ := grd_s H
      obtain ⟨x16, e17, H⟩ := lt_s H
      refine AW.region ?_
      show AR _ _ _ _ _ [0, 1, 2, 3, 4, 5] _
      refine sS rfl rfl rfl (mv rfl) ?_
      refine sS rfl rfl rfl (mv rfl) ?_
      refine sR rfl rfl rfl (opR_buildE (E := Enc.byte) (bytes := 1) (xs := [.tmp 24]) (l := ([y13] : List UInt8)) Tryz.underlying33 (by kernel_rfl) rfl rfl (by decide) rfl rfl) ?_
      refine sS rfl rfl rfl (opS_conv_bytes_str Tryz.underlying33 Tryz.underlying5 Tryz.underlying9 rfl) ?_
      refine sS rfl rfl rfl (g_cat rfl rfl g15 e17) ?_
      refine sS rfl rfl rfl (asg rfl) ?_
      refine AR.nil ?_
      show AW _ _ _ _ _ _
      obtain ⟨g18, H⟩ := grd_s H
      refine AW.region ?_
      show AR _ _ _ _ _ [0, 1, 2] _
      refine sS rfl rfl rfl (mv rfl) ?_
      refine sS rfl rfl rfl (g_add rfl rfl g18) ?_
      refine sS rfl rfl rfl (asg rfl) ?_
      refine AR.nil ?_
      exact Exists.intro (n6, x16, y4 + 1) ⟨H, Nat.lt_succ_self _, WK.at [] (.cons (.refl _) (.cons (.refl _) (.cons (.refl _) (.nil _)))) rfl⟩
    · replace H := cnd_f c7 H
      refine AW.exit ?_
      exact Exists.intro y3 ⟨H, WK.at [] (.cons (.refl _) (.nil _)) rfl⟩
  rintro y19 H
  replace H : ref05_Small_j1 y19 = some r2 := H
  unfold ref05_Small_j1 at H
  show AW _ _ _ _ _ _
  refine AW.seq ?_
  refine AW.region ?_
  show AR _ _ _ _ _ [0, 1] _
  refine sS rfl rfl rfl (mv rfl) ?_
  refine sS rfl rfl rfl (asg rfl) ?_
  refine AR.nil ?_
  show AW _ _ _ _ _ _
  refine AW.ret ?_
  obtain rfl := Option.some.inj H
  exact And.intro rfl (Exists.intro _ (Exists.intro _ ⟨ResV.oneW rfl (.refl _), Sub.at [] rfl, rfl, rfl⟩))
set_option maxRecDepth 100000 in
set_option maxHeartbeats 1000000 in
theorem w_ref11_letter (F : Nat) (a1 : UInt8) (r2 : Bool) (H : ref11_letter F a1 = some r2) : ACalls Tryz.prog 48 [u8 a1] [] (Ret (B r2) []) := by
  unfold ref11_letter at H
  refine ACalls.of_body Tryz.func48 rfl rfl ?_
  show AW _ _ 17 _ _ _
  refine AW.seq ?_
  refine AW.region ?_
  show AR _ _ _ _ _ [0] _
  refine sS rfl rfl rfl (asg rfl) ?_
  refine AR.nil ?_
  show AW _ _ _ _ _ _
  refine AW.seq ?_
  refine AW.region ?_
  show AR _ _ _ _ _ [0, 1, 2, 3, 4, 5, 6, 7, 8, 9, 10, 11, 12, 13, 14] _
  refine sS rfl rfl rfl (mv rfl) ?_
  refine sS rfl rfl rfl (opS_ge rfl rfl) ?_
  refine sS rfl rfl rfl (mv rfl) ?_
  refine AR.meet (l := [6, 7, 8, 9, 10, 11, 12, 13, 14]) 8 (B ((decide (97 ≤ (a1.toNat : Int))) && (decide ((a1.toNat : Int) ≤ 122)))) (fun K => ?_) ?_
  · rcases Bool.eq_false_or_eq_true (decide (97 ≤ (a1.toNat : Int))) with h3 | h3
    ·
      refine gT h3 rfl rfl rfl rfl rfl rfl (AO.ops rfl rfl (mv rfl) ?_)
      refine gT h3 rfl rfl rfl rfl rfl rfl (AO.ops rfl rfl (opS_le rfl rfl) ?_)
      refine sS rfl rfl rfl (opS_pick_t (av := .v _) rfl h3 rfl) ?_
      exact K _ 2 _ (B_congr (and_t h3)) rfl rfl
    ·
      refine gF h3 rfl rfl rfl rfl rfl ?_
      refine gF h3 rfl rfl rfl rfl rfl ?_
      refine sS rfl rfl rfl (opS_pick_f (av := .v _) rfl h3 rfl) ?_
      exact K _ 2 _ (B_congr (and_f h3)) rfl rfl
  refine sS rfl rfl rfl (mv rfl) ?_
  refine AR.meet (l := [14]) 16 (B (((decide (97 ≤ (a1.toNat : Int))) && (decide ((a1.toNat : Int) ≤ 122))) || ((decide (65 ≤ (a1.toNat : Int))) && (decide ((a1.toNat : Int) ≤ 90))))) (fun K => ?_) ?_
  · rcases Bool.eq_false_or_eq_true ((decide (97 ≤ (a1.toNat : Int))) && (decide ((a1.toNat : Int) ≤ 122))) with h4 | h4
    ·
      refine gF h4 rfl rfl rfl rfl rfl ?_
      refine gF h4 rfl rfl rfl rfl rfl ?_
      refine gF h4 rfl rfl rfl rfl rfl ?_
      refine gU rfl rfl rfl rfl rfl ?_
      refine gU rfl rfl rfl rfl rfl ?_
      refine gF h4 rfl rfl rfl rfl rfl ?_
      refine sS rfl rfl rfl (opS_pick_t (av := .v _) rfl h4 rfl) ?_
      exact K _ 6 _ (B_congr (or_t h4)) rfl rfl
    ·
      refine gT h4 rfl rfl rfl rfl rfl rfl (AO.ops rfl rfl (mv rfl) ?_)
      refine gT h4 rfl rfl rfl rfl rfl rfl (AO.ops rfl rfl (opS_ge rfl rfl) ?_)
      refine gT h4 rfl rfl rfl rfl rfl rfl (AO.ops rfl rfl (mv rfl) ?_)
      refine AR.meet (l := [13, 14]) 15 (B ((decide (65 ≤ (a1.toNat : Int))) && (decide ((a1.toNat : Int) ≤ 90)))) (fun K => ?_) ?_
      · rcases Bool.eq_false_or_eq_true (decide (65 ≤ (a1.toNat : Int))) with h5 | h5
        ·
          refine gT h5 rfl rfl rfl rfl rfl rfl (AO.ops rfl rfl (mv rfl) ?_)
          refine gT h5 rfl rfl rfl rfl rfl rfl (AO.ops rfl rfl (opS_le rfl rfl) ?_)
          refine gT h4 rfl rfl rfl rfl rfl rfl (AO.ops rfl rfl (opS_pick_t (av := .v _) rfl h5 rfl) ?_)
          exact K _ 2 _ (B_congr (and_t h5)) rfl rfl
        ·
          refine gF h5 rfl rfl rfl rfl rfl ?_
          refine gF h5 rfl rfl rfl rfl rfl ?_
          refine gT h4 rfl rfl rfl rfl rfl rfl (AO.ops rfl rfl (opS_pick_f (av := .v _) rfl h5 rfl) ?_)
          exact K _ 2 _ (B_congr (and_f h5)) rfl rfl
      refine sS rfl rfl rfl (opS_pick_f (av := .v _) rfl h4 rfl) ?_
      exact K _ 4 _ (B_congr (or_f h4)) rfl rfl
  refine sS rfl rfl rfl (asg rfl) ?_
  refine AR.nil ?_
  show AW _ _ _ _ _ _
  refine AW.ret ?_
  obtain rfl := Option.some.inj H
  exact And.intro rfl (Exists.intro _ (Exists.intro _ ⟨ResV.oneW rfl (.refl _), Sub.at [] rfl, rfl, rfl⟩))
set_option maxRecDepth 100000 in
set_option maxHeartbeats 1000000 in
theorem w_ref11_word (F : Nat) (a1 : UInt8) (r2 : Bool) (H : ref11_word F a1 = some r2) : ACalls Tryz.prog 49 [u8 a1] [] (Ret (B r2) []) := by
  unfold ref11_word at H
  refine ACalls.of_body Tryz.func49 rfl rfl ?_
  show AW _ _ 15 _ _ _
  refine AW.seq ?_
  refine AW.region ?_
  show AR _ _ _ _ _ [0] _
  refine sS rfl rfl rfl (asg rfl) ?_
  refine AR.nil ?_
  show AW _ _ _ _ _ _
  refine AW.seq ?_
  obtain ⟨x3, e4, H⟩ := bnd_s H
  refine AW.region ?_
  show AR _ _ _ _ _ [0, 1, 2] _
  refine sS rfl rfl rfl (mv rfl) ?_
  refine AR.run rfl rfl (AO.callp rfl en48 rfl (w_ref11_letter F a1 x3 e4) ?_)
  refine sS rfl rfl rfl (asg rfl) ?_
  refine AR.nil ?_
  show AW _ _ _ _ _ _
  refine AW.seq ?_
  refine AW.region ?_
  show AR _ _ _ _ _ [0, 1, 2, 3, 4, 5, 6, 7, 8, 9] _
  refine sS rfl rfl rfl (mv rfl) ?_
  refine sS rfl rfl rfl (mv rfl) ?_
  refine AR.meet (l := [9]) 14 (B (x3 || ((decide (48 ≤ (a1.toNat : Int))) && (decide ((a1.toNat : Int) ≤ 57))))) (fun K => ?_) ?_
  · rcases Bool.eq_false_or_eq_true x3 with h5 | h5
    ·
      refine gF h5 rfl rfl rfl rfl rfl ?_
      refine gF h5 rfl rfl rfl rfl rfl ?_
      refine gF h5 rfl rfl rfl rfl rfl ?_
      refine gU rfl rfl rfl rfl rfl ?_
      refine gU rfl rfl rfl rfl rfl ?_
      refine gF h5 rfl rfl rfl rfl rfl ?_
      refine sS rfl rfl rfl (opS_pick_t (av := .v _) rfl h5 rfl) ?_
      exact K _ 6 _ (B_congr (or_t h5)) rfl rfl
    ·
      refine gT h5 rfl rfl rfl rfl rfl rfl (AO.ops rfl rfl (mv rfl) ?_)
      refine gT h5 rfl rfl rfl rfl rfl rfl (AO.ops rfl rfl (opS_ge rfl rfl) ?_)
      refine gT h5 rfl rfl rfl rfl rfl rfl (AO.ops rfl rfl (mv rfl) ?_)
      refine AR.meet (l := [8, 9]) 13 (B ((decide (48 ≤ (a1.toNat : Int))) && (decide ((a1.toNat : Int) ≤ 57)))) (fun K => ?_) ?_
      · rcases Bool.eq_false_or_eq_true (decide (48 ≤ (a1.toNat : Int))) with h6 | h6
        ·
          refine gT h6 rfl rfl rfl rfl rfl rfl (AO.ops rfl rfl (mv rfl) ?_)
          refine gT h6 rfl rfl rfl rfl rfl rfl (AO.ops rfl rfl (opS_le rfl rfl) ?_)
          refine gT h5 rfl rfl rfl rfl rfl rfl (AO.ops rfl rfl (opS_pick_t (av := .v _) rfl h6 rfl) ?_)
          exact K _ 2 _ (B_congr (and_t h6)) rfl rfl
        ·
          refine gF h6 rfl rfl rfl rfl rfl ?_
          refine gF h6 rfl rfl rfl rfl rfl ?_
          refine gT h5 rfl rfl rfl rfl rfl rfl (AO.ops rfl rfl (opS_pick_f (av := .v _) rfl h6 rfl) ?_)
          exact K _ 2 _ (B_congr (and_f h6)) rfl rfl
      refine sS rfl rfl rfl (opS_pick_f (av := .v _) rfl h5 rfl) ?_
      exact K _ 4 _ (B_congr (or_f h5)) rfl rfl
  refine sS rfl rfl rfl (asg rfl) ?_
  refine AR.nil ?_
  show AW _ _ _ _ _ _
  refine AW.ret ?_
  obtain rfl := Option.some.inj H
  exact And.intro rfl (Exists.intro _ (Exists.intro _ ⟨ResV.oneW rfl (.refl _), Sub.at [] rfl, rfl, rfl⟩))
set_option maxRecDepth 100000 in
set_option maxHeartbeats 1000000 in
theorem w_ref11_Mark (F : Nat) (a1 : List UInt8) (a2 : Int) (r3 : Bool) (H : ref11_Mark F a1 a2 = some r3) : ACalls Tryz.prog 31 [S a1, i64 a2] [] (Ret (B r3) []) := by
  unfold ref11_Mark at H
  refine ACalls.of_body Tryz.func31 rfl rfl ?_
  show AW _ _ 37 _ _ _
  refine AW.seq ?_
  refine AW.region ?_
  show AR _ _ _ _ _ [0] _
  refine sS rfl rfl rfl (asg rfl) ?_
  refine AR.nil ?_
  show AW _ _ _ _ _ _
  refine AW.seq ?_
  refine AW.seq ?_
  obtain ⟨g4, H⟩ := grd_s H
  obtain ⟨x5, e6, H⟩ := lt_s H
  obtain ⟨g8, H⟩ := grdc_s H
  refine AW.region ?_
  show AR _ _ _ _ _ [0, 1, 2, 3, 4, 5, 6, 7, 8, 9, 10] _
  refine sS rfl rfl rfl (mv rfl) ?_
  refine sS rfl rfl rfl (mv rfl) ?_
  refine sS rfl rfl rfl (g_index_str Tryz.underlying9 rfl rfl g4 e6) ?_
  refine sS rfl rfl rfl (g_ne8 (a := x5) (b := 60) rfl rfl) ?_
  refine sS rfl rfl rfl (mv rfl) ?_
  refine AR.meet (l := []) 16 (B ((!decide (x5 = 60)) || (decide ((a1.length : Int) ≤ a2 + 1)))) (fun K => ?_) ?_
  · rcases Bool.eq_false_or_eq_true (!decide (x5 = 60)) with h7 | h7
    ·
      refine gF h7 rfl rfl rfl rfl rfl ?_
      refine gF h7 rfl rfl rfl rfl rfl ?_
      refine gF h7 rfl rfl rfl rfl rfl ?_
      refine gF h7 rfl rfl rfl rfl rfl ?_
      refine gF h7 rfl rfl rfl rfl rfl ?_
      refine sS rfl rfl rfl (opS_pick_t (av := .v _) rfl h7 rfl) ?_
      exact K _ 5 _ (B_congr (or_t h7)) rfl rfl
    ·
      refine gT h7 rfl rfl rfl rfl rfl rfl (AO.ops rfl rfl (mv rfl) ?_)
      refine gT h7 rfl rfl rfl rfl rfl rfl (AO.ops rfl rfl (g_add rfl rfl (g8 (nf h7))) ?_)
      refine gT h7 rfl rfl rfl rfl rfl rfl (AO.ops rfl rfl (mv rfl) ?_)
      refine gT h7 rfl rfl rfl rfl rfl rfl (AO.ops rfl rfl (opS_len_str Tryz.underlying9 rfl) ?_)
      refine gT h7 rfl rfl rfl rfl rfl rfl (AO.ops rfl rfl (opS_ge rfl rfl) ?_)
      refine sS rfl rfl rfl (opS_pick_f (av := .v _) rfl h7 rfl) ?_
      exact K _ 5 _ (B_congr (or_f h7)) rfl rfl
  refine AR.nil ?_
  show AW _ _ _ _ _ _
  refine AW.cond rfl (fun c9 => ?_) (fun c9 => ?_)
  · replace H := cnd_t c9 H
    refine AW.seq ?_
    refine AW.region ?_
    show AR _ _ _ _ _ [0] _
    refine sS rfl rfl rfl (asg rfl) ?_
    refine AR.nil ?_
    show AW _ _ _ _ _ _
    refine AW.ret ?_
    obtain rfl := Option.some.inj H
    exact And.intro rfl (Exists.intro _ (Exists.intro _ ⟨ResV.oneW rfl (.refl _), Sub.at [] rfl, rfl, rfl⟩))
  · replace H := cnd_f c9 H
    refine AW.skip ?_
    show AW _ _ _ _ _ _
    refine AW.seq ?_
    obtain ⟨g10, H⟩ := grd_s H
    obtain ⟨g11, H⟩ := grd_s H
    obtain ⟨x12, e13, H⟩ := lt_s H
    obtain ⟨x14, e15, H⟩ := bnd_s H
    refine AW.region ?_
    show AR _ _ _ _ _ [0, 1, 2, 3, 4, 5] _
    refine sS rfl rfl rfl (mv rfl) ?_
    refine sS rfl rfl rfl (mv rfl) ?_
    refine sS rfl rfl rfl (g_add rfl rfl g10) ?_
    refine sS rfl rfl rfl (g_index_str Tryz.underlying9 rfl rfl g11 e13) ?_
    refine AR.run rfl rfl (AO.callp rfl en48 rfl (w_ref11_letter F x12 x14 e15) ?_)
    refine sS rfl rfl rfl (asg rfl) ?_
    refine AR.nil ?_
    show AW _ _ _ _ _ _
    refine AW.seq ?_
    obtain ⟨g17, H⟩ := grdc_s H
    obtain ⟨g18, H⟩ := grdc_s H
    obtain ⟨x19, e20, H⟩ := lt_s H
    obtain ⟨g22, H⟩ := grdc_s H
    obtain ⟨g23, H⟩ := grdc_s H
    obtain ⟨x24, e25, H⟩ := lt_s H
    refine AW.region ?_
    show AR _ _ _ _ _ [0, 1, 2, 3, 4, 5, 6, 7, 8, 9, 10, 11, 12, 13, 14, 15] _
    refine sS rfl rfl rfl (mv rfl) ?_
    refine sS rfl rfl rfl (mv rfl) ?_
    refine AR.meet (l := [8, 9, 10, 11, 12, 13, 14, 15]) 29 (B (x14 || (decide (x19 = 47)))) (fun K => ?_) ?_
    · rcases Bool.eq_false_or_eq_true x14 with h16 | h16
      ·
        refine gF h16 rfl rfl rfl rfl rfl ?_
        refine gF h16 rfl rfl rfl rfl rfl ?_
        refine gF h16 rfl rfl rfl rfl rfl ?_
        refine gF h16 rfl rfl rfl rfl rfl ?_
        refine gF h16 rfl rfl rfl rfl rfl ?_
        refine sS rfl rfl rfl (opS_pick_t (av := .v _) rfl h16 rfl) ?_
        exact K _ 5 _ (B_congr (or_t h16)) rfl rfl
      ·
        refine gT h16 rfl rfl rfl rfl rfl rfl (AO.ops rfl rfl (mv rfl) ?_)
        refine gT h16 rfl rfl rfl rfl rfl rfl (AO.ops rfl rfl (mv rfl) ?_)
        refine gT h16 rfl rfl rfl rfl rfl rfl (AO.ops rfl rfl (g_add rfl rfl (g17 (nf h16))) ?_)
        refine gT h16 rfl rfl rfl rfl rfl rfl (AO.ops rfl rfl (g_index_str Tryz.underlying9 rfl rfl (g18 (nf h16)) e20) ?_)
        refine gT h16 rfl rfl rfl rfl rfl rfl (AO.ops rfl rfl (g_eq8 (a := x19) (b := 47) rfl rfl) ?_)
        refine sS rfl rfl rfl (opS_pick_f (av := .v _) rfl h16 rfl) ?_
        exact K _ 5 _ (B_congr (or_f h16)) rfl rfl
    refine sS rfl rfl rfl (mv rfl) ?_
    refine AR.meet (l := [15]) 36 (B ((x14 || (decide (x19 = 47))) || (decide (x24 = 33)))) (fun K => ?_) ?_
    · rcases Bool.eq_false_or_eq_true (x14 || (decide (x19 = 47))) with h21 | h21
      ·
        refine gF h21 rfl rfl rfl rfl rfl ?_
        refine gF h21 rfl rfl rfl rfl rfl ?_
        refine gF h21 rfl rfl rfl rfl rfl ?_
        refine gF h21 rfl rfl rfl rfl rfl ?_
        refine gF h21 rfl rfl rfl rfl rfl ?_
        refine sS rfl rfl rfl (opS_pick_t (av := .v _) rfl h21 rfl) ?_
        exact K _ 5 _ (B_congr (or_t h21)) rfl rfl
      ·
        refine gT h21 rfl rfl rfl rfl rfl rfl (AO.ops rfl rfl (mv rfl) ?_)
        refine gT h21 rfl rfl rfl rfl rfl rfl (AO.ops rfl rfl (mv rfl) ?_)
        refine gT h21 rfl rfl rfl rfl rfl rfl (AO.ops rfl rfl (g_add rfl rfl (g22 (nf h21))) ?_)
        refine gT h21 rfl rfl rfl rfl rfl rfl (AO.ops rfl rfl (g_index_str Tryz.underlying9 rfl rfl (g23 (nf h21)) e25) ?_)
        refine gT h21 rfl rfl rfl rfl rfl rfl (AO.ops rfl rfl (g_eq8 (a := x24) (b := 33) rfl rfl) ?_)
        refine sS rfl rfl rfl (opS_pick_f (av := .v _) rfl h21 rfl) ?_
        exact K _ 5 _ (B_congr (or_f h21)) rfl rfl
    refine sS rfl rfl rfl (asg rfl) ?_
    refine AR.nil ?_
    show AW _ _ _ _ _ _
    refine AW.ret ?_
    obtain rfl := Option.some.inj H
    exact And.intro rfl (Exists.intro _ (Exists.intro _ ⟨ResV.oneW rfl (.refl _), Sub.at [] rfl, rfl, rfl⟩))
set_option maxRecDepth 100000 in
set_option maxHeartbeats 1000000 in
theorem w_ref11_name (F : Nat) (a1 : List UInt8) (a2 : Int) (r3 : List UInt8) (H : ref11_name F a1 a2 = some r3) : ACalls Tryz.prog 32 [S a1, i64 a2] [] (Ret (S r3) []) := by
  unfold ref11_name at H
  refine ACalls.of_body Tryz.func32 rfl rfl ?_
  show AW _ _ 33 _ _ _
  refine AW.seq ?_
  refine AW.region ?_
  show AR _ _ _ _ _ [0] _
  refine sS rfl rfl rfl (asg rfl) ?_
  refine AR.nil ?_
  show AW _ _ _ _ _ _
  refine AW.seq ?_
  obtain ⟨g4, H⟩ := grd_s H
  refine AW.region ?_
  show AR _ _ _ _ _ [0, 1, 2] _
  refine sS rfl rfl rfl (mv rfl) ?_
  refine sS rfl rfl rfl (g_add rfl rfl g4) ?_
  refine sS rfl rfl rfl (asg rfl) ?_
  refine AR.nil ?_
  show AW _ _ _ _ _ _
  refine AW.cut (X := Int) (fun y10 => ⟨[(0, S a1), (1, i64 y10)], [], []⟩) (fun y10 => ref11_name_j2 F a1 y10 = some r3) ?_ ?_
  ·
    refine AW.seq ?_
    obtain ⟨g5, H⟩ := grd_s H
    obtain ⟨x6, e7, H⟩ := lt_s H
    refine AW.region ?_
    show AR _ _ _ _ _ [0, 1, 2, 3] _
    refine sS rfl rfl rfl (mv rfl) ?_
    refine sS rfl rfl rfl (mv rfl) ?_
    refine sS rfl rfl rfl (g_index_str Tryz.underlying9 rfl rfl g5 e7) ?_
    refine sS rfl rfl rfl (g_eq8 (a := x6) (b := 47) rfl rfl) ?_
    refine AR.nil ?_
    show AW _ _ _ _ _ _
    refine AW.cond rfl (fun c8 => ?_) (fun c8 => ?_)
    · replace H := cnd_t c8 H
      obtain ⟨g9, H⟩ := grd_s H
      refine AW.region ?_
      show AR _ _ _ _ _ [0, 1, 2] _
      refine sS rfl rfl rfl (mv rfl) ?_
      refine sS rfl rfl rfl (g_add rfl rfl g9) ?_
      refine sS rfl rfl rfl (asg rfl) ?_
      refine AR.nil ?_
      exact Exists.intro ((a2 + 1) + 1) ⟨H, WK.at [] (.cons (.refl _) (.cons (.refl _) (.nil _))) rfl⟩
    · replace H := cnd_f c8 H
      refine AW.skip ?_
      exact Exists.intro (a2 + 1) ⟨H, WK.at [] (.cons (.refl _) (.cons (.refl _) (.nil _))) rfl⟩
  rintro y10 H
  replace H : ref11_name_j2 F a1 y10 = some r3 := H
  unfold ref11_name_j2 at H
  show AW _ _ _ _ _ _
  refine AW.seq ?_
  refine AW.region ?_
  show AR _ _ _ _ _ [0, 1] _
  refine sS rfl rfl rfl (mv rfl) ?_
  refine sS rfl rfl rfl (asg rfl) ?_
  refine AR.nil ?_
  show AW _ _ _ _ _ _
  refine AW.cut (X := Int) (fun y23 => ⟨[(0, S a1), (1, i64 y23), (5, i64 y10)], [], []⟩) (fun y23 => ref11_name_j1 F a1 y10 y23 = some r3) ?_ ?_
  ·
    refine AW.block ?_
    refine AW.loop (X := Nat × Int) (fun (n14, y12) => ⟨[(0, S a1), (1, i64 y12), (5, i64 y10)], [], []⟩) (fun (n14, y12) => ref11_name_L1 F a1 y10 n14 y12 = some r3) (fun (n14, y12) => n14) (F, y10) H (WK.at [] (.cons (.refl _) (.cons (.refl _) (.cons (.refl _) (.nil _)))) rfl) ?_
    rintro ⟨n14, y12⟩ H
    obtain ⟨n14, rfl, H⟩ := loop_s H
    replace H : ref11_name_B1 F a1 y10 (ref11_name_L1 F a1 y10 n14) y12 = some r3 := H
    unfold ref11_name_B1 at H
    show AW _ _ _ _ _ _
    refine AW.seq ?_
    refine AW.seq ?_
    refine AW.region ?_
    show AR _ _ _ _ _ [0, 1, 2, 3] _
    refine sS rfl rfl rfl (mv rfl) ?_
    refine sS rfl rfl rfl (mv rfl) ?_
    refine sS rfl rfl rfl (opS_len_str Tryz.underlying9 rfl) ?_
    refine sS rfl rfl rfl (opS_lt rfl rfl) ?_
    refine AR.nil ?_
    show AW _ _ _ _ _ _
    refine AW.cond rfl (fun c15 => ?_) (fun c15 => ?_)
    · replace H := cnd_t c15 H
      refine AW.skip ?_
      show AW _ _ _ _ _ _
      refine AW.block ?_
      refine AW.seq ?_
      obtain ⟨g16, H⟩ := grd_s H
      obtain ⟨x17, e18, H⟩ := lt_s H
      obtain ⟨x19, e20, H⟩ := bnd_s H
      refine AW.region ?_
      show AR _ _ _ _ _ [0, 1, 2, 3, 4] _
      refine sS rfl rfl rfl (mv rfl) ?_
      refine sS rfl rfl rfl (mv rfl) ?_
      refine sS rfl rfl rfl (g_index_str Tryz.underlying9 rfl rfl g16 e18) ?_
      refine AR.run rfl rfl (AO.callp rfl en49 rfl (w_ref11_word F x17 x19 e20) ?_)
      refine sS rfl rfl rfl (asg rfl) ?_
      refine AR.nil ?_
      show AW _ _ _ _ _ _
      refine AW.seq ?_
      refine AW.seq ?_
      refine AW.region ?_
      show AR _ _ _ _ _ [0, 1] _
      refine sS rfl rfl rfl (mv rfl) ?_
      refine sS rfl rfl rfl (opS_not rfl) ?_
      refine AR.nil ?_
      show AW _ _ _ _ _ _
      refine AW.cond rfl (fun c21 => ?_) (fun c21 => ?_)
      · replace H := cnd_t c21 H
        refine AW.exit ?_
        exact Exists.intro y12 ⟨H, WK.at [] (.cons (.refl _) (.cons (.refl _) (.cons (.refl _) (.nil _)))) rfl⟩
      · replace H := cnd_f c21 H
        refine AW.skip ?_
        show AW _ _ _ _ _ _
        obtain ⟨g22, H⟩ := grd_s H
        refine AW.region ?_
        show AR _ _ _ _ _ [0, 1, 2] _
        refine sS rfl rfl rfl (mv rfl) ?_
        refine sS rfl rfl rfl (g_add rfl rfl g22) ?_
        refine sS rfl rfl rfl (asg rfl) ?_
        refine AR.nil ?_
        exact Exists.intro (n14, y12 + 1) ⟨H, Nat.lt_succ_self _, WK.at [] (.cons (.refl _) (.cons (.refl _) (.cons (.refl _) (.nil _)))) rfl⟩
    · replace H := cnd_f c15 H
      refine AW.exit ?_
      exact Exists.intro y12 ⟨H, WK.at [] (.cons (.refl _) (.cons (.refl _) (.cons (.refl _) (.nil _)))) rfl⟩
  rintro y23 H
  replace H : ref11_name_j1 F a1 y10 y23 = some r3 := H
  unfold ref11_name_j1 at H
  show AW _ _ _ _ _ _
  refine AW.seq ?_
  obtain ⟨g25, H⟩ := grd_s H
  obtain ⟨x26, e27, H⟩ := lt_s H
  obtain ⟨x28, e29, H⟩ := bnd_s H
  refine AW.region ?_
  show AR _ _ _ _ _ [0, 1, 2, 3, 4, 5] _
  refine sS rfl rfl rfl (mv rfl) ?_
  refine sS rfl rfl rfl (mv rfl) ?_
  refine sS rfl rfl rfl (mv rfl) ?_
  refine sS rfl rfl rfl (g_slice_str Tryz.underlying9 rfl rfl rfl g25 e27) ?_
  refine AR.run rfl rfl (AO.callp rfl en50 rfl (w_ref05_Small F x26 x28 e29) ?_)
  refine sS rfl rfl rfl (asg rfl) ?_
  refine AR.nil ?_
  show AW _ _ _ _ _ _
  refine AW.ret ?_
  obtain rfl := Option.some.inj H
  exact And.intro rfl (Exists.intro _ (Exists.intro _ ⟨ResV.oneW rfl (.refl _), Sub.at [] rfl, rfl, rfl⟩))
set_option maxRecDepth 100000 in
set_option maxHeartbeats 1000000 in
theorem w_ref11_breaks (F : Nat) (a1 : List UInt8) (r2 : Bool) (H : ref11_breaks F a1 = some r2) : ACalls Tryz.prog 34 [S a1] [] (Ret (B r2) []) := by
  unfold ref11_breaks at H
  refine ACalls.of_body Tryz.func34 rfl rfl ?_
  show AW _ _ 19 _ _ _
  refine AW.seq ?_
  refine AW.region ?_
  show AR _ _ _ _ _ [0] _
  refine sS rfl rfl rfl (asg rfl) ?_
  refine AR.nil ?_
  show AW _ _ _ _ _ _
  refine AW.seq ?_
  refine AW.seq ?_
  refine AW.region ?_
  show AR _ _ _ _ _ [0] _
  refine sS rfl rfl rfl (mv rfl) ?_
  refine AR.nil ?_
  show AW _ _ _ _ _ _
  refine AW.block ?_
  refine AW.cut (X := Bool) (fun y16 => ⟨[(4, B y16)], [], []⟩) (fun y16 => ref11_breaks_j1 y16 = some r2) ?_ ?_
  ·
    refine AW.seq ?_
    refine AW.region ?_
    show AR _ _ _ _ _ [0, 1] _
    refine sS rfl rfl rfl (opS_eqs rfl rfl) ?_
    refine sS rfl rfl rfl (asg rfl) ?_
    refine AR.nil ?_
    show AW _ _ _ _ _ _
    refine AW.cond rfl (fun c3 => ?_) (fun c3 => ?_)
    · replace H := cnd_t c3 H
      refine AW.skip ?_
      exact Exists.intro (decide (a1 = ([112] : List UInt8))) ⟨H, WK.at [] (.cons (.refl _) (.nil _)) rfl⟩
    · replace H := cnd_f c3 H
      refine AW.seq ?_
      refine AW.region ?_
      show AR _ _ _ _ _ [0, 1] _
      refine sS rfl rfl rfl (opS_eqs rfl rfl) ?_
      refine sS rfl rfl rfl (asg rfl) ?_
      refine AR.nil ?_
      show AW _ _ _ _ _ _
      refine AW.cond rfl (fun c4 => ?_) (fun c4 => ?_)
      · replace H := cnd_t c4 H
        refine AW.skip ?_
        exact Exists.intro (decide (a1 = ([98, 114] : List UInt8))) ⟨H, WK.at [] (.cons (.refl _) (.nil _)) rfl⟩
      · replace H := cnd_f c4 H
        refine AW.seq ?_
        refine AW.region ?_
        show AR _ _ _ _ _ [0, 1] _
        refine sS rfl rfl rfl (opS_eqs rfl rfl) ?_
        refine sS rfl rfl rfl (asg rfl) ?_
        refine AR.nil ?_
        show AW _ _ _ _ _ _
        refine AW.cond rfl (fun c5 => ?_) (fun c5 => ?_)
        · replace H := cnd_t c5 H
          refine AW.skip ?_
          exact Exists.intro (decide (a1 = ([100, 105, 118] : List UInt8))) ⟨H, WK.at [] (.cons (.refl _) (.nil _)) rfl⟩
        · replace H := cnd_f c5 H
          refine AW.seq ?_
          refine AW.region ?_
          show AR _ _ _ _ _ [0, 1] _
          refine sS rfl rfl rfl (opS_eqs rfl rfl) ?_
          refine sS rfl rfl rfl (asg rfl) ?_
          refine AR.nil ?_
          show AW _ _ _ _ _ _
          refine AW.cond rfl (fun c6 => ?_) (fun c6 => ?_)
          · replace H := cnd_t c6 H
            refine AW.skip ?_
            exact Exists.intro (decide (a1 = ([108, 105] : List UInt8))) ⟨H, WK.at [] (.cons (.refl _) (.nil _)) rfl⟩
          · replace H := cnd_f c6 H
            refine AW.seq ?_
            refine AW.region ?_
            show AR _ _ _ _ _ [0, 1] _
            refine sS rfl rfl rfl (opS_eqs rfl rfl) ?_
            refine sS rfl rfl rfl (asg rfl) ?_
            refine AR.nil ?_
            show AW _ _ _ _ _ _
            refine AW.cond rfl (fun c7 => ?_) (fun c7 => ?_)
            · replace H := cnd_t c7 H
              refine AW.skip ?_
              exact Exists.intro (decide (a1 = ([116, 114] : List UInt8))) ⟨H, WK.at [] (.cons (.refl _) (.nil _)) rfl⟩
            · replace H := cnd_f c7 H
              refine AW.seq ?_
              refine AW.region ?_
              show AR _ _ _ _ _ [0, 1] _
              refine sS rfl rfl rfl (opS_eqs rfl rfl) ?_
              refine sS rfl rfl rfl (asg rfl) ?_
              refine AR.nil ?_
              show AW _ _ _ _ _ _
              refine AW.cond rfl (fun c8 => ?_) (fun c8 => ?_)
              · replace H := cnd_t c8 H
                refine AW.skip ?_
                exact Exists.intro (decide (a1 = ([117, 108] : List UInt8))) ⟨H, WK.at [] (.cons (.refl _) (.nil _)) rfl⟩
              · replace H := cnd_f c8 H
                refine AW.seq ?_
                refine AW.region ?_
                show AR _ _ _ _ _ [0, 1] _
                refine sS rfl rfl rfl (opS_eqs rfl rfl) ?_
                refine sS rfl rfl rfl (asg rfl) ?_
                refine AR.nil ?_
                show AW _ _ _ _ _ _
                refine AW.cond rfl (fun c9 => ?_) (fun c9 => ?_)
                · replace H := cnd_t c9 H
                  refine AW.skip ?_
                  exact Exists.intro (decide (a1 = ([111, 108] : List UInt8))) ⟨H, WK.at [] (.cons (.refl _) (.nil _)) rfl⟩
                · replace H := cnd_f c9 H
                  refine AW.seq ?_
                  refine AW.region ?_
                  show AR _ _ _ _ _ [0, 1] _
                  refine sS rfl rfl rfl (opS_eqs rfl rfl) ?_
                  refine sS rfl rfl rfl (asg rfl) ?_
                  refine AR.nil ?_
                  show AW _ _ _ _ _ _
                  refine AW.cond rfl (fun c10 => ?_) (fun c10 => ?_)
                  · replace H := cnd_t c10 H
                    refine AW.skip ?_
                    exact Exists.intro (decide (a1 = ([116, 97, 98, 108, 101] : List UInt8))) ⟨H, WK.at [] (.cons (.refl _) (.nil _)) rfl⟩
                  · replace H := cnd_f c10 H
                    refine AW.seq ?_
                    refine AW.region ?_
                    show AR _ _ _ _ _ [0, 1] _
                    refine sS rfl rfl rfl (opS_eqs rfl rfl) ?_
                    refine sS rfl rfl rfl (asg rfl) ?_
                    refine AR.nil ?_
                    show AW _ _ _ _ _ _
                    refine AW.cond rfl (fun c11 => ?_) (fun c11 => ?_)
                    · replace H := cnd_t c11 H
                      refine AW.skip ?_
                      exact Exists.intro (decide (a1 = ([104, 49] : List UInt8))) ⟨H, WK.at [] (.cons (.refl _) (.nil _)) rfl⟩
                    · replace H := cnd_f c11 H
                      refine AW.seq ?_
                      refine AW.region ?_
                      show AR _ _ _ _ _ [0, 1] _
                      refine sS rfl rfl rfl (opS_eqs rfl rfl) ?_
                      refine sS rfl rfl rfl (asg rfl) ?_
                      refine AR.nil ?_
                      show AW _ _ _ _ _ _
                      refine AW.cond rfl (fun c12 => ?_) (fun c12 => ?_)
                      · replace H := cnd_t c12 H
                        refine AW.skip ?_
                        exact Exists.intro (decide (a1 = ([104, 50] : List UInt8))) ⟨H, WK.at [] (.cons (.refl _) (.nil _)) rfl⟩
                      · replace H := cnd_f c12 H
                        refine AW.seq ?_
                        refine AW.region ?_
                        show AR _ _ _ _ _ [0, 1] _
                        refine sS rfl rfl rfl (opS_eqs rfl rfl) ?_
                        refine sS rfl rfl rfl (asg rfl) ?_
                        refine AR.nil ?_
                        show AW _ _ _ _ _ _
                        refine AW.cond rfl (fun c13 => ?_) (fun c13 => ?_)
                        · replace H := cnd_t c13 H
                          refine AW.skip ?_
                          exact Exists.intro (decide (a1 = ([104, 51] : List UInt8))) ⟨H, WK.at [] (.cons (.refl _) (.nil _)) rfl⟩
                        · replace H := cnd_f c13 H
                          refine AW.seq ?_
                          refine AW.region ?_
                          show AR _ _ _ _ _ [0, 1] _
                          refine sS rfl rfl rfl (opS_eqs rfl rfl) ?_
                          refine sS rfl rfl rfl (asg rfl) ?_
                          refine AR.nil ?_
                          show AW _ _ _ _ _ _
                          refine AW.cond rfl (fun c14 => ?_) (fun c14 => ?_)
                          · replace H := cnd_t c14 H
                            refine AW.skip ?_
                            exact Exists.intro (decide (a1 = ([104, 52] : List UInt8))) ⟨H, WK.at [] (.cons (.refl _) (.nil _)) rfl⟩
                          · replace H := cnd_f c14 H
                            refine AW.seq ?_
                            refine AW.region ?_
                            show AR _ _ _ _ _ [0, 1] _
                            refine sS rfl rfl rfl (opS_eqs rfl rfl) ?_
                            refine sS rfl rfl rfl (asg rfl) ?_
                            refine AR.nil ?_
                            show AW _ _ _ _ _ _
                            refine AW.cond rfl (fun c15 => ?_) (fun c15 => ?_)
                            · replace H := cnd_t c15 H
                              refine AW.skip ?_
                              exact Exists.intro (decide (a1 = ([104, 53] : List UInt8))) ⟨H, WK.at [] (.cons (.refl _) (.nil _)) rfl⟩
                            · replace H := cnd_f c15 H
                              refine AW.region ?_
                              show AR _ _ _ _ _ [0, 1] _
                              refine sS rfl rfl rfl (opS_eqs rfl rfl) ?_
                              refine sS rfl rfl rfl (asg rfl) ?_
                              refine AR.nil ?_
                              exact Exists.intro (decide (a1 = ([104, 54] : List UInt8))) ⟨H, WK.at [] (.cons (.refl _) (.nil _)) rfl⟩
  rintro y16 H
  replace H : ref11_breaks_j1 y16 = some r2 := H
  unfold ref11_breaks_j1 at H
  show AW _ _ _ _ _ _
  refine AW.cond rfl (fun c18 => ?_) (fun c18 => ?_)
  · replace H := cnd_t c18 H
    refine AW.seq ?_
    refine AW.region ?_
    show AR _ _ _ _ _ [0] _
    refine sS rfl rfl rfl (asg rfl) ?_
    refine AR.nil ?_
    show AW _ _ _ _ _ _
    refine AW.ret ?_
    obtain rfl := Option.some.inj H
    exact And.intro rfl (Exists.intro _ (Exists.intro _ ⟨ResV.oneW rfl (.refl _), Sub.at [] rfl, rfl, rfl⟩))
  · replace H := cnd_f c18 H
    refine AW.skip ?_
    show AW _ _ _ _ _ _
    refine AW.seq ?_
    refine AW.region ?_
    show AR _ _ _ _ _ [0] _
    refine sS rfl rfl rfl (asg rfl) ?_
    refine AR.nil ?_
    show AW _ _ _ _ _ _
    refine AW.ret ?_
    obtain rfl := Option.some.inj H
    exact And.intro rfl (Exists.intro _ (Exists.intro _ ⟨ResV.oneW rfl (.refl _), Sub.at [] rfl, rfl, rfl⟩))
set_option maxRecDepth 100000 in
set_option maxHeartbeats 1000000 in
theorem w_ref11_hidden (F : Nat) (a1 : List UInt8) (a2 : Int) (a3 : List UInt8) (r4 : Int) (H : ref11_hidden F a1 a2 a3 = some r4) : ACalls Tryz.prog 33 [S a1, i64 a2, S a3] [] (Ret (i64 r4) []) := by
  unfold ref11_hidden at H
  refine ACalls.of_body Tryz.func33 rfl rfl ?_
  show AW _ _ 34 _ _ _
  refine AW.seq ?_
  refine AW.region ?_
  show AR _ _ _ _ _ [0] _
  refine sS rfl rfl rfl (asg rfl) ?_
  refine AR.nil ?_
  show AW _ _ _ _ _ _
  refine AW.seq ?_
  obtain ⟨g5, H⟩ := grd_s H
  obtain ⟨x6, e7, H⟩ := lt_s H
  refine AW.region ?_
  show AR _ _ _ _ _ [0, 1, 2] _
  refine sS rfl rfl rfl (mv rfl) ?_
  refine sS rfl rfl rfl (g_cat rfl rfl g5 e7) ?_
  refine sS rfl rfl rfl (asg rfl) ?_
  refine AR.nil ?_
  show AW _ _ _ _ _ _
  refine AW.cut (X := Unit) (fun _ => ⟨[(0, S a1)], [], []⟩) (fun _ => ref11_hidden_j1 a1 = some r4) ?_ ?_
  ·
    refine AW.seq ?_
    refine AW.region ?_
    show AR _ _ _ _ _ [0, 1] _
    refine sS rfl rfl rfl (mv rfl) ?_
    refine sS rfl rfl rfl (asg rfl) ?_
    refine AR.nil ?_
    show AW _ _ _ _ _ _
    refine AW.block ?_
    refine AW.loop (X := Nat × Int) (fun (n10, y8) => ⟨[(0, S a1), (7, S x6), (8, i64 y8)], [], []⟩) (fun (n10, y8) => ref11_hidden_L1 F a1 x6 n10 y8 = some r4) (fun (n10, y8) => n10) (F, a2) H (WK.at [] (.cons (.refl _) (.cons (.refl _) (.cons (.refl _) (.nil _)))) rfl) ?_
    rintro ⟨n10, y8⟩ H
    obtain ⟨n10, rfl, H⟩ := loop_s H
    replace H : ref11_hidden_B1 F a1 x6 (ref11_hidden_L1 F a1 x6 n10) y8 = some r4 := H
    unfold ref11_hidden_B1 at H
    show AW _ _ _ _ _ _
    refine AW.seq ?_
    refine AW.seq ?_
    obtain ⟨g11, H⟩ := grd_s H
    refine AW.region ?_
    show AR _ _ _ _ _ [0, 1, 2, 3, 4, 5, 6] _
    refine sS rfl rfl rfl (mv rfl) ?_
    refine sS rfl rfl rfl (mv rfl) ?_
    refine sS rfl rfl rfl (opS_len_str Tryz.underlying9 rfl) ?_
    refine sS rfl rfl rfl (g_add rfl rfl g11) ?_
    refine sS rfl rfl rfl (mv rfl) ?_
    refine sS rfl rfl rfl (opS_len_str Tryz.underlying9 rfl) ?_
    refine sS rfl rfl rfl (opS_le rfl rfl) ?_
    refine AR.nil ?_
    show AW _ _ _ _ _ _
    refine AW.cond rfl (fun c12 => ?_) (fun c12 => ?_)
    · replace H := cnd_t c12 H
      refine AW.skip ?_
      show AW _ _ _ _ _ _
      refine AW.seq ?_
      refine AW.block ?_
      refine AW.seq ?_
      obtain ⟨g13, H⟩ := grd_s H
      obtain ⟨g14, H⟩ := grd_s H
      obtain ⟨x15, e16, H⟩ := lt_s H
      obtain ⟨x17, e18, H⟩ := bnd_s H
      refine AW.region ?_
      show AR _ _ _ _ _ [0, 1, 2, 3, 4, 5, 6, 7, 8, 9] _
      refine sS rfl rfl rfl (mv rfl) ?_
      refine sS rfl rfl rfl (mv rfl) ?_
      refine sS rfl rfl rfl (mv rfl) ?_
      refine sS rfl rfl rfl (mv rfl) ?_
      refine sS rfl rfl rfl (opS_len_str Tryz.underlying9 rfl) ?_
      refine sS rfl rfl rfl (g_add rfl rfl g13) ?_
      refine sS rfl rfl rfl (g_slice_str Tryz.underlying9 rfl rfl rfl g14 e16) ?_
      refine AR.run rfl rfl (AO.callp rfl en50 rfl (w_ref05_Small F x15 x17 e18) ?_)
      refine sS rfl rfl rfl (mv rfl) ?_
      refine sS rfl rfl rfl (opS_eqs rfl rfl) ?_
      refine AR.nil ?_
      show AW _ _ _ _ _ _
      refine AW.cond rfl (fun c19 => ?_) (fun c19 => ?_)
      · replace H := cnd_t c19 H
        refine AW.seq ?_
        refine AW.region ?_
        show AR _ _ _ _ _ [0, 1] _
        refine sS rfl rfl rfl (mv rfl) ?_
        refine sS rfl rfl rfl (asg rfl) ?_
        refine AR.nil ?_
        show AW _ _ _ _ _ _
        refine AW.ret ?_
        obtain rfl := Option.some.inj H
        exact And.intro rfl (Exists.intro _ (Exists.intro _ ⟨ResV.oneW rfl (.refl _), Sub.at [] rfl, rfl, rfl⟩))
      · replace H := cnd_f c19 H
        refine AW.skip ?_
        show AW _ _ _ _ _ _
        obtain ⟨g20, H⟩ := grd_s H
        refine AW.region ?_
        show AR _ _ _ _ _ [0, 1, 2] _
        refine sS rfl rfl rfl (mv rfl) ?_
        refine sS rfl rfl rfl (g_add rfl rfl g20) ?_
        refine sS rfl rfl rfl (asg rfl) ?_
        refine AR.nil ?_
        exact Exists.intro (n10, y8 + 1) ⟨H, Nat.lt_succ_self _, WK.at [] (.cons (.refl _) (.cons (.refl _) (.cons (.refl _) (.nil _)))) rfl⟩
    · replace H := cnd_f c12 H
      refine AW.exit ?_
      exact Exists.intro () ⟨H, WK.at [] (.cons (.refl _) (.nil _)) rfl⟩
  rintro _ H
  replace H : ref11_hidden_j1 a1 = some r4 := H
  unfold ref11_hidden_j1 at H
  show AW _ _ _ _ _ _
  refine AW.seq ?_
  refine AW.region ?_
  show AR _ _ _ _ _ [0, 1, 2] _
  refine sS rfl rfl rfl (mv rfl) ?_
  refine sS rfl rfl rfl (opS_len_str Tryz.underlying9 rfl) ?_
  refine sS rfl rfl rfl (asg rfl) ?_
  refine AR.nil ?_
  show AW _ _ _ _ _ _
  refine AW.ret ?_
  obtain rfl := Option.some.inj H
  exact And.intro rfl (Exists.intro _ (Exists.intro _ ⟨ResV.oneW rfl (.refl _), Sub.at [] rfl, rfl, rfl⟩))
set_option maxRecDepth 100000 in
set_option maxHeartbeats 1000000 in
theorem w_ref11_pieces (F : Nat) (a1 : List UInt8) (r2 : List (List UInt8)) (H : ref11_pieces F a1 = some r2) : ACalls Tryz.prog 17 [S a1] [] (Ret (slE Enc.str r2 none) []) := by
  unfold ref11_pieces at H
  refine ACalls.of_body Tryz.func17 rfl rfl ?_
  show AW _ _ 84 _ _ _
  refine AW.seq ?_
  refine AW.region ?_
  show AR _ _ _ _ _ [0] _
  refine sS rfl rfl rfl (asg rfl) ?_
  refine AR.nil ?_
  show AW _ _ _ _ _ _
  refine AW.seq ?_
  refine AW.region ?_
  show AR _ _ _ _ _ [0, 1] _
  refine sX rfl rfl rfl (opX_buildRow (E := Enc.str) (bytes := 16) (xs := [.const _]) (l := ([([] : List UInt8)] : List (List UInt8))) Tryz.underlying24 (by kernel_rfl) rfl rfl rfl (by decide) rfl) ?_
  rintro _ _ ⟨o3, rfl, rfl⟩
  refine sS rfl rfl rfl (opS_assign (av := .vw _ _ _ _) rfl) ?_
  refine AR.nil ?_
  show AW _ _ _ _ _ _
  refine AW.cut (X := Nat × Nat × Nat × (List (List UInt8))) (fun (o71, y72, n73, y74) => ⟨[(3, .vw o71 0 y72 (y72 + n73))], [], [.obj o71 (Enc.str.fl y74 ++ List.replicate n73 .any)]⟩) (fun (o71, y72, n73, y74) => ref11_pieces_j1 y72 y74 = some r2) ?_ ?_
  ·
    refine AW.seq ?_
    refine AW.region ?_
    show AR _ _ _ _ _ [0] _
    refine sS rfl rfl rfl (asg rfl) ?_
    refine AR.nil ?_
    show AW _ _ _ _ _ _
    refine AW.block ?_
    refine AW.loop (X := Nat × Nat × Nat × Nat × Int × (List (List UInt8))) (fun (n10, o4, y5, n6, y7, y8) => ⟨[(0, S a1), (3, .vw o4 0 y5 (y5 + n6)), (4, i64 y7)], [], [.obj o4 (Enc.str.fl y8 ++ List.replicate n6 .any)]⟩) (fun (n10, o4, y5, n6, y7, y8) => ref11_pieces_L2 F a1 n10 (y5, y7, y8) = some r2) (fun (n10, o4, y5, n6, y7, y8) => n10) (F, o3, ([([] : List UInt8)] : List (List UInt8)).length, 0, 0, ([([] : List UInt8)] : List (List UInt8))) H (WK.at [0] (.cons (.refl _) (.cons (.refl _) (.cons (.refl _) (.nil _)))) rfl) ?_
    rintro ⟨n10, o4, y5, n6, y7, y8⟩ H
    obtain ⟨n10, rfl, H⟩ := loop_s H
    replace H : ref11_pieces_B2 F a1 (ref11_pieces_L2 F a1 n10) y5 y7 y8 = some r2 := H
    unfold ref11_pieces_B2 at H
    show AW _ _ _ _ _ _
    refine AW.seq ?_
    refine AW.seq ?_
    refine AW.region ?_
    show AR _ _ _ _ _ [0, 1, 2, 3] _
    refine sS rfl rfl rfl (mv rfl) ?_
    refine sS rfl rfl rfl (mv rfl) ?_
    refine sS rfl rfl rfl (opS_len_str Tryz.underlying9 rfl) ?_
    refine sS rfl rfl rfl (opS_lt rfl rfl) ?_
    refine AR.nil ?_
    show AW _ _ _ _ _ _
    refine AW.cond rfl (fun c11 => ?_) (fun c11 => ?_)
    · replace H := cnd_t c11 H
      refine AW.skip ?_
      show AW _ _ _ _ _ _
      refine AW.block ?_
      refine AW.seq ?_
      obtain ⟨x12, e13, H⟩ := bnd_s H
      refine AW.region ?_
      show AR _ _ _ _ _ [0, 1, 2, 3] _
      refine sS rfl rfl rfl (mv rfl) ?_
      refine sS rfl rfl rfl (mv rfl) ?_
      refine AR.run rfl rfl (AO.callp rfl en31 rfl (w_ref11_Mark F a1 y7 x12 e13) ?_)
      refine sS rfl rfl rfl (asg rfl) ?_
      refine AR.nil ?_
      show AW _ _ _ _ _ _
      refine AW.seq ?_
      refine AW.seq ?_
      refine AW.region ?_
      show AR _ _ _ _ _ [0, 1] _
      refine sS rfl rfl rfl (mv rfl) ?_
      refine sS rfl rfl rfl (opS_not rfl) ?_
      refine AR.nil ?_
      show AW _ _ _ _ _ _
      refine AW.cond rfl (fun c14 => ?_) (fun c14 => ?_)
      · replace H := cnd_t c14 H
        refine AW.seq ?_
        obtain ⟨g15, H⟩ := grd_s H
        obtain ⟨g16, H⟩ := grd_s H
        obtain ⟨g17, H⟩ := grd_s H
        obtain ⟨g18, H⟩ := grd_s H
        obtain ⟨g19, H⟩ := grd_s H
        obtain ⟨x20, e21, H⟩ := lt_s H
        obtain ⟨g22, H⟩ := grd_s H
        obtain ⟨x23, e24, H⟩ := lt_s H
        obtain ⟨g25, H⟩ := grd_s H
        obtain ⟨x26, e27, H⟩ := lt_s H
        obtain ⟨g28, H⟩ := grd_s H
        obtain ⟨g29, H⟩ := grd_s H
        obtain ⟨x30, e31, H⟩ := lt_s H
        refine AW.region_draw (by kernel_rfl) ?_
        show AI _ _ _ _ 18 (Array.replicate 18 false) _
        refine AI.take (i := 0) rfl rfl (by kernel_rfl) (by kernel_rfl) (by kernel_rfl) (fun _ _ h => by obtain ⟨_, _, _, h, _⟩ := h; cases h) (opS_move (av := .vw _ _ _ _) rfl) ?_
        show AI _ _ _ _ _ #[true, false, false, false, false, false, false, false, false, false, false, false, false, false, false, false, false, false] _
        refine AI.take (i := 1) rfl rfl (by kernel_rfl) (by kernel_rfl) (by kernel_rfl) (fun _ _ h => by obtain ⟨_, _, _, h, _⟩ := h; cases h) (opS_move (av := .vw _ _ _ _) rfl) ?_
        show AI _ _ _ _ _ #[true, true, false, false, false, false, false, false, false, false, false, false, false, false, false, false, false, false] _
        refine AI.take (i := 2) rfl rfl (by kernel_rfl) (by kernel_rfl) (by kernel_rfl) (fun _ _ h => by obtain ⟨_, _, _, h, _⟩ := h; cases h) (opS_len_vw Tryz.underlying24 rfl) ?_
        show AI _ _ _ _ _ #[true, true, true, false, false, false, false, false, false, false, false, false, false, false, false, false, false, false] _
        refine AI.take (i := 3) rfl rfl (by kernel_rfl) (by kernel_rfl) (by kernel_rfl) (fun _ _ h => by obtain ⟨_, _, _, h, _⟩ := h; cases h) (g_sub rfl rfl g15) ?_
        show AI _ _ _ _ _ #[true, true, true, true, false, false, false, false, false, false, false, false, false, false, false, false, false, false] _
        refine AI.take (i := 4) rfl rfl (by kernel_rfl) (by kernel_rfl) (by kernel_rfl) (fun _ _ h => by obtain ⟨_, _, _, h, _⟩ := h; cases h) (opS_move (av := .vw _ _ _ _) rfl) ?_
        show AI _ _ _ _ _ #[true, true, true, true, true, false, false, false, false, false, false, false, false, false, false, false, false, false] _
        refine AI.take (i := 5) rfl rfl (by kernel_rfl) (by kernel_rfl) (by kernel_rfl) (fun _ _ h => by obtain ⟨_, _, _, h, _⟩ := h; cases h) (opS_move (av := .vw _ _ _ _) rfl) ?_
        show AI _ _ _ _ _ #[true, true, true, true, true, true, false, false, false, false, false, false, false, false, false, false, false, false] _
        refine AI.take (i := 6) rfl rfl (by kernel_rfl) (by kernel_rfl) (by kernel_rfl) (fun _ _ h => by obtain ⟨_, _, _, h, _⟩ := h; cases h) (opS_len_vw Tryz.underlying24 rfl) ?_
        show AI _ _ _ _ _ #[true, true, true, true, true, true, true, false, false, false, false, false, false, false, false, false, false, false] _
        refine AI.take (i := 7) rfl rfl (by kernel_rfl) (by kernel_rfl) (by kernel_rfl) (fun _ _ h => by obtain ⟨_, _, _, h, _⟩ := h; cases h) (g_sub rfl rfl g16) ?_
        show AI _ _ _ _ _ #[true, true, true, true, true, true, true, true, false, false, false, false, false, false, false, false, false, false] _
        refine AI.take (i := 8) rfl rfl (by kernel_rfl) (by kernel_rfl) (by kernel_rfl) (fun _ _ h => by obtain ⟨_, _, _, h, _⟩ := h; cases h) (g_indexAddr_row Tryz.underlying24 (by kernel_rfl) rfl rfl g17) ?_
        show AI _ _ _ _ _ #[true, true, true, true, true, true, true, true, true, false, false, false, false, false, false, false, false, false] _
        refine AI.take (i := 10) rfl rfl (by kernel_rfl) (by kernel_rfl) (by kernel_rfl) (fun _ _ h => by obtain ⟨_, _, _, h, _⟩ := h; cases h) (mv rfl) ?_
        show AI _ _ _ _ _ #[true, true, true, true, true, true, true, true, true, false, true, false, false, false, false, false, false, false] _
        refine AI.take (i := 11) rfl rfl (by kernel_rfl) (by kernel_rfl) (by kernel_rfl) (fun _ _ h => by obtain ⟨_, _, _, h, _⟩ := h; cases h) (mv rfl) ?_
        show AI _ _ _ _ _ #[true, true, true, true, true, true, true, true, true, false, true, true, false, false, false, false, false, false] _
        refine AI.take (i := 12) rfl rfl (by kernel_rfl) (by kernel_rfl) (by kernel_rfl) (fun _ _ h => by obtain ⟨_, _, _, h, _⟩ := h; cases h) (mv rfl) ?_
        show AI _ _ _ _ _ #[true, true, true, true, true, true, true, true, true, false, true, true, true, false, false, false, false, false] _
        refine AI.take (i := 13) rfl rfl (by kernel_rfl) (by kernel_rfl) (by kernel_rfl) (fun _ _ h => by obtain ⟨_, _, _, h, _⟩ := h; cases h) (g_add rfl rfl g18) ?_
        show AI _ _ _ _ _ #[true, true, true, true, true, true, true, true, true, false, true, true, true, true, false, false, false, false] _
        refine AI.take (i := 14) rfl rfl (by kernel_rfl) (by kernel_rfl) (by kernel_rfl) (fun _ _ h => by obtain ⟨_, _, _, h, _⟩ := h; cases h) (g_slice_str Tryz.underlying9 rfl rfl rfl g19 e21) ?_
        show AI _ _ _ _ _ #[true, true, true, true, true, true, true, true, true, false, true, true, true, true, true, false, false, false] _
        refine AI.one (i := 9) (by kernel_rfl) rfl rfl ?_
        refine AIO.op rfl (g_load_rows (k := 0) Tryz.underlying9 rfl rfl rfl g22 e24) ?_
        show AI _ _ _ _ _ #[true, true, true, true, true, true, true, true, true, true, true, true, true, true, true, false, false, false] _
        refine AI.take (i := 15) rfl rfl (by kernel_rfl) (by kernel_rfl) (by kernel_rfl) (fun _ _ h => by obtain ⟨_, _, _, h, _⟩ := h; cases h) (g_cat rfl rfl g25 e27) ?_
        show AI _ _ _ _ _ #[true, true, true, true, true, true, true, true, true, true, true, true, true, true, true, true, false, false] _
        refine AI.take (i := 16) rfl rfl (by kernel_rfl) (by kernel_rfl) (by kernel_rfl) (fun _ _ h => by obtain ⟨_, _, _, h, _⟩ := h; cases h) (g_indexAddr_row Tryz.underlying24 (by kernel_rfl) rfl rfl g28) ?_
        show AI _ _ _ _ _ #[true, true, true, true, true, true, true, true, true, true, true, true, true, true, true, true, true, false] _
        refine AI.one (i := 17) (by kernel_rfl) rfl rfl ?_
        refine AIO.op0 (g_store_rows (k := 0) (c := x26) (by kernel_rfl) rfl rfl rfl g29 e31) ?_
        show AI _ _ _ _ _ #[true, true, true, true, true, true, true, true, true, true, true, true, true, true, true, true, true, true] _
        refine AI.done rfl ?_
        show AW _ _ _ _ _ _
        refine AW.seq ?_
        obtain ⟨g32, H⟩ := grd_s H
        refine AW.region ?_
        show AR _ _ _ _ _ [0, 1, 2] _
        refine sS rfl rfl rfl (mv rfl) ?_
        refine sS rfl rfl rfl (g_add rfl rfl g32) ?_
        refine sS rfl rfl rfl (asg rfl) ?_
        refine AR.nil ?_
        show AW _ _ _ _ _ _
        refine AW.exit ?_
        exact Exists.intro (n10, o4, y5, n6, y7 + 1, x30) ⟨H, Nat.lt_succ_self _, WK.at [0] (.cons (.refl _) (.cons (.refl _) (.cons (.refl _) (.nil _)))) rfl⟩
      · replace H := cnd_f c14 H
        refine AW.skip ?_
        show AW _ _ _ _ _ _
        refine AW.seq ?_
        obtain ⟨x33, e34, H⟩ := bnd_s H
        refine AW.region ?_
        show AR _ _ _ _ _ [0, 1, 2, 3] _
        refine sS rfl rfl rfl (mv rfl) ?_
        refine sS rfl rfl rfl (mv rfl) ?_
        refine AR.run rfl rfl (AO.callp rfl en32 rfl (w_ref11_name F a1 y7 x33 e34) ?_)
        refine sS rfl rfl rfl (asg rfl) ?_
        refine AR.nil ?_
        show AW _ _ _ _ _ _
        refine AW.seq ?_
        obtain ⟨g35, H⟩ := grd_s H
        obtain ⟨g36, H⟩ := grd_s H
        obtain ⟨x37, e38, H⟩ := lt_s H
        refine AW.region ?_
        show AR _ _ _ _ _ [0, 1, 2, 3, 4, 5, 6, 7, 8, 9, 10, 11, 12, 13] _
        refine sS rfl rfl rfl (mv rfl) ?_
        refine sS rfl rfl rfl (mv rfl) ?_
        refine sS rfl rfl rfl (g_add rfl rfl g35) ?_
        refine sS rfl rfl rfl (g_index_str Tryz.underlying9 rfl rfl g36 e38) ?_
        refine sS rfl rfl rfl (g_ne8 (a := x37) (b := 47) rfl rfl) ?_
        refine sS rfl rfl rfl (mv rfl) ?_
        refine AR.meet (l := [13]) 53 (B ((!decide (x37 = 47)) && ((decide (x33 = ([115, 99, 114, 105, 112, 116] : List UInt8))) || (decide (x33 = ([115, 116, 121, 108, 101] : List UInt8)))))) (fun K => ?_) ?_
        · rcases Bool.eq_false_or_eq_true (!decide (x37 = 47)) with h39 | h39
          ·
            refine gT h39 rfl rfl rfl rfl rfl rfl (AO.ops rfl rfl (mv rfl) ?_)
            refine gT h39 rfl rfl rfl rfl rfl rfl (AO.ops rfl rfl (opS_eqs rfl rfl) ?_)
            refine gT h39 rfl rfl rfl rfl rfl rfl (AO.ops rfl rfl (mv rfl) ?_)
            refine AR.meet (l := [12, 13]) 52 (B ((decide (x33 = ([115, 99, 114, 105, 112, 116] : List UInt8))) || (decide (x33 = ([115, 116, 121, 108, 101] : List UInt8))))) (fun K => ?_) ?_
            · rcases Bool.eq_false_or_eq_true (decide (x33 = ([115, 99, 114, 105, 112, 116] : List UInt8))) with h40 | h40
              ·
                refine gF h40 rfl rfl rfl rfl rfl ?_
                refine gF h40 rfl rfl rfl rfl rfl ?_
                refine gT h39 rfl rfl rfl rfl rfl rfl (AO.ops rfl rfl (opS_pick_t (av := .v _) rfl h40 rfl) ?_)
                exact K _ 2 _ (B_congr (or_t h40)) rfl rfl
              ·
                refine gT h40 rfl rfl rfl rfl rfl rfl (AO.ops rfl rfl (mv rfl) ?_)
                refine gT h40 rfl rfl rfl rfl rfl rfl (AO.ops rfl rfl (opS_eqs rfl rfl) ?_)
                refine gT h39 rfl rfl rfl rfl rfl rfl (AO.ops rfl rfl (opS_pick_f (av := .v _) rfl h40 rfl) ?_)
                exact K _ 2 _ (B_congr (or_f h40)) rfl rfl
            refine sS rfl rfl rfl (opS_pick_t (av := .v _) rfl h39 rfl) ?_
            exact K _ 4 _ (B_congr (and_t h39)) rfl rfl
          ·
            refine gF h39 rfl rfl rfl rfl rfl ?_
            refine gF h39 rfl rfl rfl rfl rfl ?_
            refine gF h39 rfl rfl rfl rfl rfl ?_
            refine gU rfl rfl rfl rfl rfl ?_
            refine gU rfl rfl rfl rfl rfl ?_
            refine gF h39 rfl rfl rfl rfl rfl ?_
            refine sS rfl rfl rfl (opS_pick_f (av := .v _) rfl h39 rfl) ?_
            exact K _ 6 _ (B_congr (and_f h39)) rfl rfl
        refine sS rfl rfl rfl (asg rfl) ?_
        refine AR.nil ?_
        show AW _ _ _ _ _ _
        refine AW.cut (X := Int) (fun y50 => ⟨[(0, S a1), (3, .vw o4 0 y5 (y5 + n6)), (4, i64 y50), (6, S x33), (7, B ((!decide (x37 = 47)) && ((decide (x33 = ([115, 99, 114, 105, 112, 116] : List UInt8))) || (decide (x33 = ([115, 116, 121, 108, 101] : List UInt8))))))], [], [.obj o4 (Enc.str.fl y8 ++ List.replicate n6 .any)]⟩) (fun y50 => ref11_pieces_j4 F a1 y5 y8 x33 x37 (ref11_pieces_L2 F a1 n10) y50 = some r2) ?_ ?_
        ·
          refine AW.block ?_
          refine AW.loop (X := Nat × Int) (fun (n43, y41) => ⟨[(0, S a1), (3, .vw o4 0 y5 (y5 + n6)), (4, i64 y41), (6, S x33), (7, B ((!decide (x37 = 47)) && ((decide (x33 = ([115, 99, 114, 105, 112, 116] : List UInt8))) || (decide (x33 = ([115, 116, 121, 108, 101] : List UInt8))))))], [], [.obj o4 (Enc.str.fl y8 ++ List.replicate n6 .any)]⟩) (fun (n43, y41) => ref11_pieces_L1 F a1 y5 y8 x33 x37 (ref11_pieces_L2 F a1 n10) n43 y41 = some r2) (fun (n43, y41) => n43) (F, y7) H (WK.at [0] (.cons (.refl _) (.cons (.refl _) (.cons (.refl _) (.cons (.refl _) (.cons (.refl _) (.nil _)))))) rfl) ?_
          rintro ⟨n43, y41⟩ H
          obtain ⟨n43, rfl, H⟩ := loop_s H
          replace H : ref11_pieces_B1 F a1 y5 y8 x33 x37 (ref11_pieces_L2 F a1 n10) (ref11_pieces_L1 F a1 y5 y8 x33 x37 (ref11_pieces_L2 F a1 n10) n43) y41 = some r2 := H
          unfold ref11_pieces_B1 at H
          show AW _ _ _ _ _ _
          refine AW.seq ?_
          refine AW.seq ?_
          obtain ⟨g45, H⟩ := grdc_s H
          obtain ⟨x46, e47, H⟩ := lt_s H
          refine AW.region ?_
          show AR _ _ _ _ _ [0, 1, 2, 3, 4, 5, 6, 7, 8, 9] _
          refine sS rfl rfl rfl (mv rfl) ?_
          refine sS rfl rfl rfl (mv rfl) ?_
          refine sS rfl rfl rfl (opS_len_str Tryz.underlying9 rfl) ?_
          refine sS rfl rfl rfl (opS_lt rfl rfl) ?_
          refine sS rfl rfl rfl (mv rfl) ?_
          refine AR.meet (l := []) 63 (B ((decide (y41 < (a1.length : Int))) && (!decide (x46 = 62)))) (fun K => ?_) ?_
          · rcases Bool.eq_false_or_eq_true (decide (y41 < (a1.length : Int))) with h44 | h44
            ·
              refine gT h44 rfl rfl rfl rfl rfl rfl (AO.ops rfl rfl (mv rfl) ?_)
              refine gT h44 rfl rfl rfl rfl rfl rfl (AO.ops rfl rfl (mv rfl) ?_)
              refine gT h44 rfl rfl rfl rfl rfl rfl (AO.ops rfl rfl (g_index_str Tryz.underlying9 rfl rfl (g45 h44) e47) ?_)
              refine gT h44 rfl rfl rfl rfl rfl rfl (AO.ops rfl rfl (g_ne8 (a := x46) (b := 62) rfl rfl) ?_)
              refine sS rfl rfl rfl (opS_pick_t (av := .v _) rfl h44 rfl) ?_
              exact K _ 4 _ (B_congr (and_t h44)) rfl rfl
            ·
              refine gF h44 rfl rfl rfl rfl rfl ?_
              refine gF h44 rfl rfl rfl rfl rfl ?_
              refine gF h44 rfl rfl rfl rfl rfl ?_
              refine gF h44 rfl rfl rfl rfl rfl ?_
              refine sS rfl rfl rfl (opS_pick_f (av := .v _) rfl h44 rfl) ?_
              exact K _ 4 _ (B_congr (and_f h44)) rfl rfl
          refine AR.nil ?_
          show AW _ _ _ _ _ _
          refine AW.cond rfl (fun c48 => ?_) (fun c48 => ?_)
          · replace H := cnd_t c48 H
            refine AW.skip ?_
            show AW _ _ _ _ _ _
            refine AW.block ?_
            obtain ⟨g49, H⟩ := grd_s H
            refine AW.region ?_
            show AR _ _ _ _ _ [0, 1, 2] _
            refine sS rfl rfl rfl (mv rfl) ?_
            refine sS rfl rfl rfl (g_add rfl rfl g49) ?_
            refine sS rfl rfl rfl (asg rfl) ?_
            refine AR.nil ?_
            exact Exists.intro (n43, y41 + 1) ⟨H, Nat.lt_succ_self _, WK.at [0] (.cons (.refl _) (.cons (.refl _) (.cons (.refl _) (.cons (.refl _) (.cons (.refl _) (.nil _)))))) rfl⟩
          · replace H := cnd_f c48 H
            refine AW.exit ?_
            exact Exists.intro y41 ⟨H, WK.at [0] (.cons (.refl _) (.cons (.refl _) (.cons (.refl _) (.cons (.refl _) (.cons (.refl _) (.nil _)))))) rfl⟩
        rintro y50 H
        replace H : ref11_pieces_j4 F a1 y5 y8 x33 x37 (ref11_pieces_L2 F a1 n10) y50 = some r2 := H
        unfold ref11_pieces_j4 at H
        show AW _ _ _ _ _ _
        refine AW.cut (X := Int) (fun y54 => ⟨[(0, S a1), (3, .vw o4 0 y5 (y5 + n6)), (4, i64 y54), (6, S x33), (7, B ((!decide (x37 = 47)) && ((decide (x33 = ([115, 99, 114, 105, 112, 116] : List UInt8))) || (decide (x33 = ([115, 116, 121, 108, 101] : List UInt8))))))], [], [.obj o4 (Enc.str.fl y8 ++ List.replicate n6 .any)]⟩) (fun y54 => ref11_pieces_j3 F a1 y5 y8 x33 x37 (ref11_pieces_L2 F a1 n10) y54 = some r2) ?_ ?_
        ·
          refine AW.seq ?_
          refine AW.region ?_
          show AR _ _ _ _ _ [0, 1, 2, 3] _
          refine sS rfl rfl rfl (mv rfl) ?_
          refine sS rfl rfl rfl (mv rfl) ?_
          refine sS rfl rfl rfl (opS_len_str Tryz.underlying9 rfl) ?_
          refine sS rfl rfl rfl (opS_lt rfl rfl) ?_
          refine AR.nil ?_
          show AW _ _ _ _ _ _
          refine AW.cond rfl (fun c52 => ?_) (fun c52 => ?_)
          · replace H := cnd_t c52 H
            obtain ⟨g53, H⟩ := grd_s H
            refine AW.region ?_
            show AR _ _ _ _ _ [0, 1, 2] _
            refine sS rfl rfl rfl (mv rfl) ?_
            refine sS rfl rfl rfl (g_add rfl rfl g53) ?_
            refine sS rfl rfl rfl (asg rfl) ?_
            refine AR.nil ?_
            exact Exists.intro (y50 + 1) ⟨H, WK.at [0] (.cons (.refl _) (.cons (.refl _) (.cons (.refl _) (.cons (.refl _) (.cons (.refl _) (.nil _)))))) rfl⟩
          · replace H := cnd_f c52 H
            refine AW.skip ?_
            exact Exists.intro y50 ⟨H, WK.at [0] (.cons (.refl _) (.cons (.refl _) (.cons (.refl _) (.cons (.refl _) (.cons (.refl _) (.nil _)))))) rfl⟩
        rintro y54 H
        replace H : ref11_pieces_j3 F a1 y5 y8 x33 x37 (ref11_pieces_L2 F a1 n10) y54 = some r2 := H
        unfold ref11_pieces_j3 at H
        show AW _ _ _ _ _ _
        refine AW.cut (X := Int) (fun y59 => ⟨[(0, S a1), (3, .vw o4 0 y5 (y5 + n6)), (4, i64 y59), (6, S x33)], [], [.obj o4 (Enc.str.fl y8 ++ List.replicate n6 .any)]⟩) (fun y59 => ref11_pieces_j2 F y5 y8 x33 (ref11_pieces_L2 F a1 n10) y59 = some r2) ?_ ?_
        ·
          refine AW.seq ?_
          refine AW.region ?_
          show AR _ _ _ _ _ [0] _
          refine sS rfl rfl rfl (mv rfl) ?_
          refine AR.nil ?_
          show AW _ _ _ _ _ _
          refine AW.cond rfl (fun c56 => ?_) (fun c56 => ?_)
          · replace H := cnd_t c56 H
            obtain ⟨x57, e58, H⟩ := bnd_s H
            refine AW.region ?_
            show AR _ _ _ _ _ [0, 1, 2, 3, 4] _
            refine sS rfl rfl rfl (mv rfl) ?_
            refine sS rfl rfl rfl (mv rfl) ?_
            refine sS rfl rfl rfl (mv rfl) ?_
            refine AR.run rfl rfl (AO.callp rfl en33 rfl (w_ref11_hidden F a1 y54 x33 x57 e58) ?_)
            refine sS rfl rfl rfl (asg rfl) ?_
            refine AR.nil ?_
            exact Exists.intro x57 ⟨H, WK.at [0] (.cons (.refl _) (.cons (.refl _) (.cons (.refl _) (.cons (.refl _) (.nil _))))) rfl⟩
          · replace H := cnd_f c56 H
            refine AW.skip ?_
            exact Exists.intro y54 ⟨H, WK.at [0] (.cons (.refl _) (.cons (.refl _) (.cons (.refl _) (.cons (.refl _) (.nil _))))) rfl⟩
        rintro y59 H
        replace H : ref11_pieces_j2 F y5 y8 x33 (ref11_pieces_L2 F a1 n10) y59 = some r2 := H
        unfold ref11_pieces_j2 at H
        show AW _ _ _ _ _ _
        refine AW.seq ?_
        obtain ⟨x61, e62, H⟩ := bnd_s H
        refine AW.region ?_
        show AR _ _ _ _ _ [0, 1, 2] _
        refine sS rfl rfl rfl (mv rfl) ?_
        refine AR.run rfl rfl (AO.callp rfl en34 rfl (w_ref11_breaks F x33 x61 e62) ?_)
        refine sS rfl rfl rfl (asg rfl) ?_
        refine AR.nil ?_
        show AW _ _ _ _ _ _
        refine AW.seq ?_
        refine AW.region ?_
        show AR _ _ _ _ _ [0] _
        refine sS rfl rfl rfl (mv rfl) ?_
        refine AR.nil ?_
        show AW _ _ _ _ _ _
        refine AW.cond rfl (fun c63 => ?_) (fun c63 => ?_)
        · replace H := cnd_t c63 H
          obtain ⟨g67, H⟩ := grd_s H
          obtain ⟨g68, H⟩ := grd_s H
          obtain ⟨x69, e70, H⟩ := lt_s H
          refine AW.region ?_
          show AR _ _ _ _ _ [0, 1, 2, 3] _
          refine sS rfl rfl rfl (opS_move (av := .vw _ _ _ _) rfl) ?_
          refine sR rfl rfl rfl (opR_buildE (E := Enc.str) (bytes := 16) (xs := [.const _]) (l := ([([] : List UInt8)] : List (List UInt8))) Tryz.underlying24 (by kernel_rfl) rfl rfl (by decide) rfl rfl) ?_
          refine sX rfl rfl rfl (g_append_row (E := Enc.str) (bytes := 16) 0 Tryz.underlying24 Tryz.underlying24 rfl (by kernel_rfl) rfl rfl rfl g67 rfl rfl g68 e70) ?_
          rintro _ _ ⟨o65, n66, rfl, rfl⟩
          refine sS rfl rfl rfl (opS_assign (av := .vw _ _ _ _) rfl) ?_
          refine AR.nil ?_
          exact Exists.intro (n10, o65, x69.length, n66, y59, x69) ⟨H, Nat.lt_succ_self _, WK.at [0] (.cons (.refl _) (.cons (.refl _) (.cons (.refl _) (.nil _)))) rfl⟩
        · replace H := cnd_f c63 H
          refine AW.skip ?_
          exact Exists.intro (n10, o4, y5, n6, y59, y8) ⟨H, Nat.lt_succ_self _, WK.at [0] (.cons (.refl _) (.cons (.refl _) (.cons (.refl _) (.nil _)))) rfl⟩
    · replace H := cnd_f c11 H
      refine AW.exit ?_
      exact Exists.intro (o4, y5, n6, y8) ⟨H, WK.at [0] (.cons (.refl _) (.nil _)) rfl⟩
  rintro ⟨o71, y72, n73, y74⟩ H
  replace H : ref11_pieces_j1 y72 y74 = some r2 := H
  unfold ref11_pieces_j1 at H
  show AW _ _ _ _ _ _
  refine AW.seq ?_
  refine AW.region ?_
  show AR _ _ _ _ _ [0, 1] _
  refine sS rfl rfl rfl (opS_move (av := .vw _ _ _ _) rfl) ?_
  refine sS rfl rfl rfl (opS_assign (av := .vw _ _ _ _) rfl) ?_
  refine AR.nil ?_
  show AW _ _ _ _ _ _
  obtain ⟨g76, H⟩ := grd_s H
  refine AW.freeze_rowG (E := Enc.str) (l := y74) 2 rfl rfl (of_decide_eq_true g76) rfl (perm_front 0 rfl) ?_
  refine AW.ret ?_
  obtain rfl := Option.some.inj H
  exact And.intro rfl (Exists.intro _ (Exists.intro _ ⟨ResV.oneW rfl (.refl _), Sub.at [] rfl, rfl, rfl⟩))
set_option maxRecDepth 100000 in
set_option maxHeartbeats 1000000 in
theorem w_ref11_Of (F : Nat) (a1 : List UInt8) (r2 : List UInt8) (H : ref11_Of F a1 = some r2) : ACalls Tryz.prog 9 [S a1] [] (Ret (S r2) []) := by
  unfold ref11_Of at H
  refine ACalls.of_body Tryz.func9 rfl rfl ?_
  show AW _ _ 31 _ _ _
  refine AW.seq ?_
  refine AW.region ?_
  show AR _ _ _ _ _ [0] _
  refine sS rfl rfl rfl (asg rfl) ?_
  refine AR.nil ?_
  show AW _ _ _ _ _ _
  refine AW.seq ?_
  obtain ⟨x3, e4, H⟩ := bnd_s H
  refine AW.region ?_
  show AR _ _ _ _ _ [0, 1, 2] _
  refine sS rfl rfl rfl (mv rfl) ?_
  refine AR.run rfl rfl (AO.callp rfl en17 rfl (w_ref11_pieces F a1 x3 e4) ?_)
  refine sS rfl rfl rfl (opS_assign (av := slE _ _ _) rfl) ?_
  refine AR.nil ?_
  show AW _ _ _ _ _ _
  refine AW.seq ?_
  refine AW.region ?_
  show AR _ _ _ _ _ [0] _
  refine sS rfl rfl rfl (asg rfl) ?_
  refine AR.nil ?_
  show AW _ _ _ _ _ _
  refine AW.cut (X := (List UInt8)) (fun y30 => ⟨[(4, S y30)], [], []⟩) (fun y30 => ref11_Of_j1 y30 = some r2) ?_ ?_
  ·
    refine AW.seq ?_
    refine AW.region ?_
    show AR _ _ _ _ _ [0] _
    refine sS rfl rfl rfl (asg rfl) ?_
    refine AR.nil ?_
    show AW _ _ _ _ _ _
    refine AW.block ?_
    refine AW.loop (X := Nat × (List UInt8) × Int) (fun (n8, y5, y6) => ⟨[(3, slE Enc.str x3 none), (4, S y5), (5, i64 y6)], [], []⟩) (fun (n8, y5, y6) => ref11_Of_L1 F x3 n8 (y5, y6) = some r2) (fun (n8, y5, y6) => n8) (F, ([] : List UInt8), 0) H (WK.at [] (.cons (.refl _) (.cons (.refl _) (.cons (.refl _) (.nil _)))) rfl) ?_
    rintro ⟨n8, y5, y6⟩ H
    obtain ⟨n8, rfl, H⟩ := loop_s H
    replace H : ref11_Of_B1 F x3 (ref11_Of_L1 F x3 n8) y5 y6 = some r2 := H
    unfold ref11_Of_B1 at H
    show AW _ _ _ _ _ _
    refine AW.seq ?_
    refine AW.seq ?_
    refine AW.region ?_
    show AR _ _ _ _ _ [0, 1, 2, 3] _
    refine sS rfl rfl rfl (mv rfl) ?_
    refine sS rfl rfl rfl (opS_move (av := slE _ _ _) rfl) ?_
    refine sS rfl rfl rfl (opS_len_sl Tryz.underlying24 rfl) ?_
    refine sS rfl rfl rfl (opS_lt rfl rfl) ?_
    refine AR.nil ?_
    show AW _ _ _ _ _ _
    refine AW.cond rfl (fun c9 => ?_) (fun c9 => ?_)
    · replace H := cnd_t c9 H
      refine AW.skip ?_
      show AW _ _ _ _ _ _
      refine AW.cut (X := (List UInt8)) (fun y27 => ⟨[(3, slE Enc.str x3 none), (4, S y27), (5, i64 y6)], [], []⟩) (fun y27 => ref11_Of_j2 y6 (ref11_Of_L1 F x3 n8) y27 = some r2) ?_ ?_
      ·
        refine AW.block ?_
        refine AW.seq ?_
        obtain ⟨g10, H⟩ := grd_s H
        obtain ⟨x11, e12, H⟩ := lt_s H
        obtain ⟨x13, e14, H⟩ := bnd_s H
        obtain ⟨x15, e16, H⟩ := bnd_s H
        refine AW.region ?_
        show AR _ _ _ _ _ [0, 1, 2, 3, 4, 5, 6] _
        refine sS rfl rfl rfl (opS_move (av := slE _ _ _) rfl) ?_
        refine sS rfl rfl rfl (mv rfl) ?_
        refine sS rfl rfl rfl (g_indexAddr (E := Enc.str) Tryz.underlying24 (by kernel_rfl) rfl rfl g10 e12) ?_
        refine sS rfl rfl rfl (opS_load_cp Tryz.underlying9 rfl rfl) ?_
        refine AR.run rfl rfl (AO.callp rfl en19 rfl (w_ref07_Loose F x11 x13 e14) ?_)
        refine AR.run rfl rfl (AO.callp rfl en18 rfl (w_ref07_Trim F x13 x15 e16) ?_)
        refine sS rfl rfl rfl (asg rfl) ?_
        refine AR.nil ?_
        show AW _ _ _ _ _ _
        refine AW.seq ?_
        refine AW.seq ?_
        refine AW.region ?_
        show AR _ _ _ _ _ [0, 1] _
        refine sS rfl rfl rfl (mv rfl) ?_
        refine sS rfl rfl rfl (opS_eqs rfl rfl) ?_
        refine AR.nil ?_
        show AW _ _ _ _ _ _
        refine AW.cond rfl (fun c17 => ?_) (fun c17 => ?_)
        · replace H := cnd_t c17 H
          refine AW.exit ?_
          exact Exists.intro y5 ⟨H, WK.at [] (.cons (.refl _) (.cons (.refl _) (.cons (.refl _) (.nil _)))) rfl⟩
        · replace H := cnd_f c17 H
          refine AW.skip ?_
          show AW _ _ _ _ _ _
          refine AW.cut (X := (List UInt8)) (fun y22 => ⟨[(3, slE Enc.str x3 none), (4, S y22), (5, i64 y6), (6, S x15)], [], []⟩) (fun y22 => ref11_Of_j3 y6 x15 (ref11_Of_L1 F x3 n8) y22 = some r2) ?_ ?_
          ·
            refine AW.seq ?_
            refine AW.region ?_
            show AR _ _ _ _ _ [0, 1] _
            refine sS rfl rfl rfl (mv rfl) ?_
            refine sS rfl rfl rfl (opS_nes rfl rfl) ?_
            refine AR.nil ?_
            show AW _ _ _ _ _ _
            refine AW.cond rfl (fun c18 => ?_) (fun c18 => ?_)
            · replace H := cnd_t c18 H
              obtain ⟨g19, H⟩ := grd_s H
              obtain ⟨x20, e21, H⟩ := lt_s H
              refine AW.region ?_
              show AR _ _ _ _ _ [0, 1, 2] _
              refine sS rfl rfl rfl (mv rfl) ?_
              refine sS rfl rfl rfl (g_cat rfl rfl g19 e21) ?_
              refine sS rfl rfl rfl (asg rfl) ?_
              refine AR.nil ?_
              exact Exists.intro x20 ⟨H, WK.at [] (.cons (.refl _) (.cons (.refl _) (.cons (.refl _) (.cons (.refl _) (.nil _))))) rfl⟩
            · replace H := cnd_f c18 H
              refine AW.skip ?_
              exact Exists.intro y5 ⟨H, WK.at [] (.cons (.refl _) (.cons (.refl _) (.cons (.refl _) (.cons (.refl _) (.nil _))))) rfl⟩
          rintro y22 H
          replace H : ref11_Of_j3 y6 x15 (ref11_Of_L1 F x3 n8) y22 = some r2 := H
          unfold ref11_Of_j3 at H
          show AW _ _ _ _ _ _
          obtain ⟨g24, H⟩ := grd_s H
          obtain ⟨x25, e26, H⟩ := lt_s H
          refine AW.region ?_
          show AR _ _ _ _ _ [0, 1, 2, 3] _
          refine sS rfl rfl rfl (mv rfl) ?_
          refine sS rfl rfl rfl (mv rfl) ?_
          refine sS rfl rfl rfl (g_cat rfl rfl g24 e26) ?_
          refine sS rfl rfl rfl (asg rfl) ?_
          refine AR.nil ?_
          exact Exists.intro x25 ⟨H, WK.at [] (.cons (.refl _) (.cons (.refl _) (.cons (.refl _) (.nil _)))) rfl⟩
      rintro y27 H
      replace H : ref11_Of_j2 y6 (ref11_Of_L1 F x3 n8) y27 = some r2 := H
      unfold ref11_Of_j2 at H
      show AW _ _ _ _ _ _
      obtain ⟨g29, H⟩ := grd_s H
      refine AW.region ?_
      show AR _ _ _ _ _ [0, 1, 2] _
      refine sS rfl rfl rfl (mv rfl) ?_
      refine sS rfl rfl rfl (g_add rfl rfl g29) ?_
      refine sS rfl rfl rfl (asg rfl) ?_
      refine AR.nil ?_
      exact Exists.intro (n8, y27, y6 + 1) ⟨H, Nat.lt_succ_self _, WK.at [] (.cons (.refl _) (.cons (.refl _) (.cons (.refl _) (.nil _)))) rfl⟩
    · replace H := cnd_f c9 H
      refine AW.exit ?_
      exact Exists.intro y5 ⟨H, WK.at [] (.cons (.refl _) (.nil _)) rfl⟩
  rintro y30 H
  replace H : ref11_Of_j1 y30 = some r2 := H
  unfold ref11_Of_j1 at H
  show AW _ _ _ _ _ _
  refine AW.seq ?_
  refine AW.region ?_
  show AR _ _ _ _ _ [0, 1] _
  refine sS rfl rfl rfl (mv rfl) ?_
  refine sS rfl rfl rfl (asg rfl) ?_
  refine AR.nil ?_
  show AW _ _ _ _ _ _
  refine AW.ret ?_
  obtain rfl := Option.some.inj H
  exact And.intro rfl (Exists.intro _ (Exists.intro _ ⟨ResV.oneW rfl (.refl _), Sub.at [] rfl, rfl, rfl⟩))
set_option maxRecDepth 100000 in
set_option maxHeartbeats 1000000 in
theorem w_ref11_Wrap (F : Nat) (a1 : List UInt8) (a2 : Int) (r3 : List (List UInt8)) (H : ref11_Wrap F a1 a2 = some r3) : ACalls Tryz.prog 7 [S a1, i64 a2] [] (Ret (slE Enc.str r3 none) []) := by
  unfold ref11_Wrap at H
  refine ACalls.of_body Tryz.func7 rfl rfl ?_
  show AW _ _ 69 _ _ _
  refine AW.seq ?_
  refine AW.region ?_
  show AR _ _ _ _ _ [0] _
  refine sS rfl rfl rfl (asg rfl) ?_
  refine AR.nil ?_
  show AW _ _ _ _ _ _
  refine AW.seq ?_
  refine AW.seq ?_
  refine AW.region ?_
  show AR _ _ _ _ _ [0, 1] _
  refine sS rfl rfl rfl (mv rfl) ?_
  refine sS rfl rfl rfl (opS_lt rfl rfl) ?_
  refine AR.nil ?_
  show AW _ _ _ _ _ _
  refine AW.cond rfl (fun c4 => ?_) (fun c4 => ?_)
  · replace H := cnd_t c4 H
    refine AW.seq ?_
    refine AW.region ?_
    show AR _ _ _ _ _ [0] _
    refine sS rfl rfl rfl (asg rfl) ?_
    refine AR.nil ?_
    show AW _ _ _ _ _ _
    refine AW.ret ?_
    obtain rfl := Option.some.inj H
    exact And.intro rfl (Exists.intro _ (Exists.intro _ ⟨ResV.oneW rfl (.nil _), Sub.at [] rfl, rfl, rfl⟩))
  · replace H := cnd_f c4 H
    refine AW.skip ?_
    show AW _ _ _ _ _ _
    refine AW.seq ?_
    obtain ⟨x5, e6, H⟩ := bnd_s H
    refine AW.region ?_
    show AR _ _ _ _ _ [0, 1, 2] _
    refine sS rfl rfl rfl (mv rfl) ?_
    refine AR.run rfl rfl (AO.callp rfl en12 rfl (w_ref05_Split F a1 10 x5 e6) ?_)
    refine sS rfl rfl rfl (opS_assign (av := slE _ _ _) rfl) ?_
    refine AR.nil ?_
    show AW _ _ _ _ _ _
    refine AW.seq ?_
    refine AW.region ?_
    show AR _ _ _ _ _ [0] _
    refine sS rfl rfl rfl (asg rfl) ?_
    refine AR.nil ?_
    show AW _ _ _ _ _ _
    refine AW.nil_grows 6 1 9 rfl fun t7 => ?_
    show AW _ _ _ _ _ ⟨(6, slE Enc.str [] (some t7)) :: _, _, _⟩
    refine AW.cut (X := (List (List UInt8)) × Nat) (fun (y70, t71) => ⟨[(6, slE Enc.str y70 (some t71))], [], [.tok t71 9]⟩) (fun (y70, t71) => ref11_Wrap_j1 y70 = some r3) ?_ ?_
    ·
      refine AW.seq ?_
      refine AW.region ?_
      show AR _ _ _ _ _ [0] _
      refine sS rfl rfl rfl (asg rfl) ?_
      refine AR.nil ?_
      show AW _ _ _ _ _ _
      refine AW.block ?_
      refine AW.loop (X := Nat × (List (List UInt8)) × Nat × Int) (fun (n12, y8, t9, y10) => ⟨[(1, i64 a2), (5, slE Enc.str x5 none), (6, slE Enc.str y8 (some t9)), (7, i64 y10)], [], [.tok t9 9]⟩) (fun (n12, y8, t9, y10) => ref11_Wrap_L2 F a2 x5 n12 (y8, y10) = some r3) (fun (n12, y8, t9, y10) => n12) (F, [], t7, 0) H (WK.at [0] (.cons (.refl _) (.cons (.refl _) (.cons (.refl _) (.cons (.refl _) (.nil _))))) rfl) ?_
      rintro ⟨n12, y8, t9, y10⟩ H
      obtain ⟨n12, rfl, H⟩ := loop_s H
      replace H : ref11_Wrap_B2 F a2 x5 (ref11_Wrap_L2 F a2 x5 n12) y8 y10 = some r3 := H
      unfold ref11_Wrap_B2 at H
      show AW _ _ _ _ _ _
      refine AW.seq ?_
      refine AW.seq ?_
      refine AW.region ?_
      show AR _ _ _ _ _ [0, 1, 2, 3] _
      refine sS rfl rfl rfl (mv rfl) ?_
      refine sS rfl rfl rfl (opS_move (av := slE _ _ _) rfl) ?_
      refine sS rfl rfl rfl (opS_len_sl Tryz.underlying24 rfl) ?_
      refine sS rfl rfl rfl (opS_lt rfl rfl) ?_
      refine AR.nil ?_
      show AW _ _ _ _ _ _
      refine AW.cond rfl (fun c13 => ?_) (fun c13 => ?_)
      · replace H := cnd_t c13 H
        refine AW.skip ?_
        show AW _ _ _ _ _ _
        refine AW.cut (X := (List (List UInt8)) × Nat) (fun (y66, t67) => ⟨[(1, i64 a2), (5, slE Enc.str x5 none), (6, slE Enc.str y66 (some t67)), (7, i64 y10)], [], [.tok t67 9]⟩) (fun (y66, t67) => ref11_Wrap_j2 y10 (ref11_Wrap_L2 F a2 x5 n12) y66 = some r3) ?_ ?_
        ·
          refine AW.block ?_
          refine AW.seq ?_
          obtain ⟨g14, H⟩ := grd_s H
          obtain ⟨x15, e16, H⟩ := lt_s H
          obtain ⟨x17, e18, H⟩ := bnd_s H
          refine AW.region ?_
          show AR _ _ _ _ _ [0, 1, 2, 3, 4, 5] _
          refine sS rfl rfl rfl (opS_move (av := slE _ _ _) rfl) ?_
          refine sS rfl rfl rfl (mv rfl) ?_
          refine sS rfl rfl rfl (g_indexAddr (E := Enc.str) Tryz.underlying24 (by kernel_rfl) rfl rfl g14 e16) ?_
          refine sS rfl rfl rfl (opS_load_cp Tryz.underlying9 rfl rfl) ?_
          refine AR.run rfl rfl (AO.callp rfl en13 rfl (w_ref11_Words F x15 x17 e18) ?_)
          refine sS rfl rfl rfl (opS_assign (av := slE _ _ _) rfl) ?_
          refine AR.nil ?_
          show AW _ _ _ _ _ _
          refine AW.seq ?_
          refine AW.region ?_
          show AR _ _ _ _ _ [0] _
          refine sS rfl rfl rfl (asg rfl) ?_
          refine AR.nil ?_
          show AW _ _ _ _ _ _
          refine AW.cut (X := (List (List UInt8)) × Nat × (List UInt8)) (fun (y58, t59, y60) => ⟨[(1, i64 a2), (5, slE Enc.str x5 none), (6, slE Enc.str y58 (some t59)), (7, i64 y10), (9, S y60)], [], [.tok t59 9]⟩) (fun (y58, t59, y60) => ref11_Wrap_j3 y10 (ref11_Wrap_L2 F a2 x5 n12) y58 y60 = some r3) ?_ ?_
          ·
            refine AW.seq ?_
            refine AW.region ?_
            show AR _ _ _ _ _ [0] _
            refine sS rfl rfl rfl (asg rfl) ?_
            refine AR.nil ?_
            show AW _ _ _ _ _ _
            refine AW.block ?_
            refine AW.loop (X := Nat × (List (List UInt8)) × Nat × (List UInt8) × Int) (fun (n24, y19, t20, y21, y22) => ⟨[(1, i64 a2), (5, slE Enc.str x5 none), (6, slE Enc.str y19 (some t20)), (7, i64 y10), (8, slE Enc.str x17 none), (9, S y21), (10, i64 y22)], [], [.tok t20 9]⟩) (fun (n24, y19, t20, y21, y22) => ref11_Wrap_L1 a2 y10 x17 (ref11_Wrap_L2 F a2 x5 n12) n24 (y19, y21, y22) = some r3) (fun (n24, y19, t20, y21, y22) => n24) (F, y8, t9, ([] : List UInt8), 0) H (WK.at [0] (.cons (.refl _) (.cons (.refl _) (.cons (.refl _) (.cons (.refl _) (.cons (.refl _) (.cons (.refl _) (.cons (.refl _) (.nil _)))))))) rfl) ?_
            rintro ⟨n24, y19, t20, y21, y22⟩ H
            obtain ⟨n24, rfl, H⟩ := loop_s H
            replace H : ref11_Wrap_B1 a2 y10 x17 (ref11_Wrap_L2 F a2 x5 n12) (ref11_Wrap_L1 a2 y10 x17 (ref11_Wrap_L2 F a2 x5 n12) n24) y19 y21 y22 = some r3 := H
            unfold ref11_Wrap_B1 at H
            show AW _ _ _ _ _ _
            refine AW.seq ?_
            refine AW.seq ?_
            refine AW.region ?_
            show AR _ _ _ _ _ [0, 1, 2, 3] _
            refine sS rfl rfl rfl (mv rfl) ?_
            refine sS rfl rfl rfl (opS_move (av := slE _ _ _) rfl) ?_
            refine sS rfl rfl rfl (opS_len_sl Tryz.underlying24 rfl) ?_
            refine sS rfl rfl rfl (opS_lt rfl rfl) ?_
            refine AR.nil ?_
            show AW _ _ _ _ _ _
            refine AW.cond rfl (fun c25 => ?_) (fun c25 => ?_)
            · replace H := cnd_t c25 H
              refine AW.skip ?_
              show AW _ _ _ _ _ _
              refine AW.cut (X := (List (List UInt8)) × Nat × (List UInt8)) (fun (y53, t54, y55) => ⟨[(1, i64 a2), (5, slE Enc.str x5 none), (6, slE Enc.str y53 (some t54)), (7, i64 y10), (8, slE Enc.str x17 none), (9, S y55), (10, i64 y22)], [], [.tok t54 9]⟩) (fun (y53, t54, y55) => ref11_Wrap_j4 y22 (ref11_Wrap_L1 a2 y10 x17 (ref11_Wrap_L2 F a2 x5 n12) n24) y53 y55 = some r3) ?_ ?_
              ·
                refine AW.block ?_
                refine AW.seq ?_
                refine AW.seq ?_
                obtain ⟨g27, H⟩ := grdc_s H
                obtain ⟨g28, H⟩ := grdc_s H
                obtain ⟨x29, e30, H⟩ := lt_s H
                obtain ⟨g31, H⟩ := grdc_s H
                refine AW.region ?_
                show AR _ _ _ _ _ [0, 1, 2, 3, 4, 5, 6, 7, 8, 9, 10, 11, 12, 13, 14] _
                refine sS rfl rfl rfl (mv rfl) ?_
                refine sS rfl rfl rfl (opS_gt rfl rfl) ?_
                refine sS rfl rfl rfl (mv rfl) ?_
                refine AR.meet (l := []) 46 (B ((decide (0 < y22)) && (decide (((y21.length : Int) + 1) + (x29.length : Int) ≤ a2)))) (fun K => ?_) ?_
                · rcases Bool.eq_false_or_eq_true (decide (0 < y22)) with h26 | h26
                  ·
                    refine gT h26 rfl rfl rfl rfl rfl rfl (AO.ops rfl rfl (mv rfl) ?_)
                    refine gT h26 rfl rfl rfl rfl rfl rfl (AO.ops rfl rfl (opS_len_str Tryz.underlying9 rfl) ?_)
                    refine gT h26 rfl rfl rfl rfl rfl rfl (AO.ops rfl rfl (g_add rfl rfl (g27 h26)) ?_)
                    refine gT h26 rfl rfl rfl rfl rfl rfl (AO.ops rfl rfl (opS_move (av := slE _ _ _) rfl) ?_)
                    refine gT h26 rfl rfl rfl rfl rfl rfl (AO.ops rfl rfl (mv rfl) ?_)
                    refine gT h26 rfl rfl rfl rfl rfl rfl (AO.ops rfl rfl (g_indexAddr (E := Enc.str) Tryz.underlying24 (by kernel_rfl) rfl rfl (g28 h26) e30) ?_)
                    refine gT h26 rfl rfl rfl rfl rfl rfl (AO.ops rfl rfl (opS_load_cp Tryz.underlying9 rfl rfl) ?_)
                    refine gT h26 rfl rfl rfl rfl rfl rfl (AO.ops rfl rfl (opS_len_str Tryz.underlying9 rfl) ?_)
                    refine gT h26 rfl rfl rfl rfl rfl rfl (AO.ops rfl rfl (g_add rfl rfl (g31 h26)) ?_)
                    refine gT h26 rfl rfl rfl rfl rfl rfl (AO.ops rfl rfl (mv rfl) ?_)
                    refine gT h26 rfl rfl rfl rfl rfl rfl (AO.ops rfl rfl (opS_le rfl rfl) ?_)
                    refine sS rfl rfl rfl (opS_pick_t (av := .v _) rfl h26 rfl) ?_
                    exact K _ 11 _ (B_congr (and_t h26)) rfl rfl
                  ·
                    refine gF h26 rfl rfl rfl rfl rfl ?_
                    refine gF h26 rfl rfl rfl rfl rfl ?_
                    refine gF h26 rfl rfl rfl rfl rfl ?_
                    refine gF h26 rfl rfl rfl rfl rfl ?_
                    refine gF h26 rfl rfl rfl rfl rfl ?_
                    refine gF h26 rfl rfl rfl rfl rfl ?_
                    refine gF h26 rfl rfl rfl rfl rfl ?_
                    refine gF h26 rfl rfl rfl rfl rfl ?_
                    refine gF h26 rfl rfl rfl rfl rfl ?_
                    refine gF h26 rfl rfl rfl rfl rfl ?_
                    refine gF h26 rfl rfl rfl rfl rfl ?_
                    refine sS rfl rfl rfl (opS_pick_f (av := .v _) rfl h26 rfl) ?_
                    exact K _ 11 _ (B_congr (and_f h26)) rfl rfl
                refine AR.nil ?_
                show AW _ _ _ _ _ _
                refine AW.cond rfl (fun c32 => ?_) (fun c32 => ?_)
                · replace H := cnd_t c32 H
                  refine AW.seq ?_
                  obtain ⟨g33, H⟩ := grd_s H
                  obtain ⟨x34, e35, H⟩ := lt_s H
                  obtain ⟨g36, H⟩ := grd_s H
                  obtain ⟨x37, e38, H⟩ := lt_s H
                  obtain ⟨g39, H⟩ := grd_s H
                  obtain ⟨x40, e41, H⟩ := lt_s H
                  refine AW.region ?_
                  show AR _ _ _ _ _ [0, 1, 2, 3, 4, 5, 6, 7] _
                  refine sS rfl rfl rfl (mv rfl) ?_
                  refine sS rfl rfl rfl (g_cat rfl rfl g33 e35) ?_
                  refine sS rfl rfl rfl (opS_move (av := slE _ _ _) rfl) ?_
                  refine sS rfl rfl rfl (mv rfl) ?_
                  refine sS rfl rfl rfl (g_indexAddr (E := Enc.str) Tryz.underlying24 (by kernel_rfl) rfl rfl g36 e38) ?_
                  refine sS rfl rfl rfl (opS_load_cp Tryz.underlying9 rfl rfl) ?_
                  refine sS rfl rfl rfl (g_cat rfl rfl g39 e41) ?_
                  refine sS rfl rfl rfl (asg rfl) ?_
                  refine AR.nil ?_
                  show AW _ _ _ _ _ _
                  refine AW.exit ?_
                  exact Exists.intro (y19, t20, x40) ⟨H, WK.at [0] (.cons (.refl _) (.cons (.refl _) (.cons (.refl _) (.cons (.refl _) (.cons (.refl _) (.cons (.refl _) (.cons (.refl _) (.nil _)))))))) rfl⟩
                · replace H := cnd_f c32 H
                  refine AW.skip ?_
                  show AW _ _ _ _ _ _
                  refine AW.cut (X := (List (List UInt8)) × Nat) (fun (y47, t48) => ⟨[(1, i64 a2), (5, slE Enc.str x5 none), (6, slE Enc.str y47 (some t48)), (7, i64 y10), (8, slE Enc.str x17 none), (10, i64 y22)], [], [.tok t48 9]⟩) (fun (y47, t48) => ref11_Wrap_j5 x17 y22 (ref11_Wrap_L1 a2 y10 x17 (ref11_Wrap_L2 F a2 x5 n12) n24) y47 = some r3) ?_ ?_
                  ·
                    refine AW.seq ?_
                    refine AW.region ?_
                    show AR _ _ _ _ _ [0, 1] _
                    refine sS rfl rfl rfl (mv rfl) ?_
                    refine sS rfl rfl rfl (opS_gt rfl rfl) ?_
                    refine AR.nil ?_
                    show AW _ _ _ _ _ _
                    refine AW.cond rfl (fun c42 => ?_) (fun c42 => ?_)
                    · replace H := cnd_t c42 H
                      obtain ⟨g44, H⟩ := grd_s H
                      obtain ⟨x45, e46, H⟩ := lt_s H
                      refine AW.region ?_
                      show AR _ _ _ _ _ [0, 1, 2, 3, 4] _
                      refine sS rfl rfl rfl (opS_move (av := slE _ _ _) rfl) ?_
                      refine sS rfl rfl rfl (mv rfl) ?_
                      refine sR rfl rfl rfl (opR_buildE (E := Enc.str) (bytes := 16) (xs := [.tmp 57]) (l := ([y21] : List (List UInt8))) Tryz.underlying24 (by kernel_rfl) rfl rfl (by decide) rfl rfl) ?_
                      refine sX rfl rfl rfl (g_append (E := Enc.str) (bytes := 16) 0 Tryz.underlying24 Tryz.underlying24 rfl (by kernel_rfl) rfl rfl rfl rfl g44 e46) ?_
                      rintro _ _ ⟨t43, rfl, rfl⟩
                      refine sS rfl rfl rfl (opS_assign (av := slE _ _ _) rfl) ?_
                      refine AR.nil ?_
                      exact Exists.intro (x45, t43) ⟨H, WK.at [0] (.cons (.refl _) (.cons (.refl _) (.cons (.refl _) (.cons (.refl _) (.cons (.refl _) (.cons (.refl _) (.nil _))))))) rfl⟩
                    · replace H := cnd_f c42 H
                      refine AW.skip ?_
                      exact Exists.intro (y19, t20) ⟨H, WK.at [0] (.cons (.refl _) (.cons (.refl _) (.cons (.refl _) (.cons (.refl _) (.cons (.refl _) (.cons (.refl _) (.nil _))))))) rfl⟩
                  rintro ⟨y47, t48⟩ H
                  replace H : ref11_Wrap_j5 x17 y22 (ref11_Wrap_L1 a2 y10 x17 (ref11_Wrap_L2 F a2 x5 n12) n24) y47 = some r3 := H
                  unfold ref11_Wrap_j5 at H
                  show AW _ _ _ _ _ _
                  obtain ⟨g50, H⟩ := grd_s H
                  obtain ⟨x51, e52, H⟩ := lt_s H
                  refine AW.region ?_
                  show AR _ _ _ _ _ [0, 1, 2, 3, 4] _
                  refine sS rfl rfl rfl (opS_move (av := slE _ _ _) rfl) ?_
                  refine sS rfl rfl rfl (mv rfl) ?_
                  refine sS rfl rfl rfl (g_indexAddr (E := Enc.str) Tryz.underlying24 (by kernel_rfl) rfl rfl g50 e52) ?_
                  refine sS rfl rfl rfl (opS_load_cp Tryz.underlying9 rfl rfl) ?_
                  refine sS rfl rfl rfl (asg rfl) ?_
                  refine AR.nil ?_
                  exact Exists.intro (y47, t48, x51) ⟨H, WK.at [0] (.cons (.refl _) (.cons (.refl _) (.cons (.refl _) (.cons (.refl _) (.cons (.refl _) (.cons (.refl _) (.cons (.refl _) (.nil _)))))))) rfl⟩
              rintro ⟨y53, t54, y55⟩ H
              replace H : ref11_Wrap_j4 y22 (ref11_Wrap_L1 a2 y10 x17 (ref11_Wrap_L2 F a2 x5 n12) n24) y53 y55 = some r3 := H
              unfold ref11_Wrap_j4 at H
              show AW _ _ _ _ _ _
              obtain ⟨g57, H⟩ := grd_s H
              refine AW.region ?_
              show AR _ _ _ _ _ [0, 1, 2] _
              refine sS rfl rfl rfl (mv rfl) ?_
              refine sS rfl rfl rfl (g_add rfl rfl g57) ?_
              refine sS rfl rfl rfl (asg rfl) ?_
              refine AR.nil ?_
              exact Exists.intro (n24, y53, t54, y55, y22 + 1) ⟨H, Nat.lt_succ_self _, WK.at [0] (.cons (.refl _) (.cons (.refl _) (.cons (.refl _) (.cons (.refl _) (.cons (.refl _) (.cons (.refl _) (.cons (.refl _) (.nil _)))))))) rfl⟩
            · replace H := cnd_f c25 H
              refine AW.exit ?_
              exact Exists.intro (y19, t20, y21) ⟨H, WK.at [0] (.cons (.refl _) (.cons (.refl _) (.cons (.refl _) (.cons (.refl _) (.cons (.refl _) (.nil _)))))) rfl⟩
          rintro ⟨y58, t59, y60⟩ H
          replace H : ref11_Wrap_j3 y10 (ref11_Wrap_L2 F a2 x5 n12) y58 y60 = some r3 := H
          unfold ref11_Wrap_j3 at H
          show AW _ _ _ _ _ _
          obtain ⟨g63, H⟩ := grd_s H
          obtain ⟨x64, e65, H⟩ := lt_s H
          refine AW.region ?_
          show AR _ _ _ _ _ [0, 1, 2, 3, 4] _
          refine sS rfl rfl rfl (opS_move (av := slE _ _ _) rfl) ?_
          refine sS rfl rfl rfl (mv rfl) ?_
          refine sR rfl rfl rfl (opR_buildE (E := Enc.str) (bytes := 16) (xs := [.tmp 65]) (l := ([y60] : List (List UInt8))) Tryz.underlying24 (by kernel_rfl) rfl rfl (by decide) rfl rfl) ?_
          refine sX rfl rfl rfl (g_append (E := Enc.str) (bytes := 16) 0 Tryz.underlying24 Tryz.underlying24 rfl (by kernel_rfl) rfl rfl rfl rfl g63 e65) ?_
          rintro _ _ ⟨t62, rfl, rfl⟩
          refine sS rfl rfl rfl (opS_assign (av := slE _ _ _) rfl) ?_
          refine AR.nil ?_
          exact Exists.intro (x64, t62) ⟨H, WK.at [0] (.cons (.refl _) (.cons (.refl _) (.cons (.refl _) (.cons (.refl _) (.nil _))))) rfl⟩
        rintro ⟨y66, t67⟩ H
        replace H : ref11_Wrap_j2 y10 (ref11_Wrap_L2 F a2 x5 n12) y66 = some r3 := H
        unfold ref11_Wrap_j2 at H
        show AW _ _ _ _ _ _
        obtain ⟨g69, H⟩ := grd_s H
        refine AW.region ?_
        show AR _ _ _ _ _ [0, 1, 2] _
        refine sS rfl rfl rfl (mv rfl) ?_
        refine sS rfl rfl rfl (g_add rfl rfl g69) ?_
        refine sS rfl rfl rfl (asg rfl) ?_
        refine AR.nil ?_
        exact Exists.intro (n12, y66, t67, y10 + 1) ⟨H, Nat.lt_succ_self _, WK.at [0] (.cons (.refl _) (.cons (.refl _) (.cons (.refl _) (.cons (.refl _) (.nil _))))) rfl⟩
      · replace H := cnd_f c13 H
        refine AW.exit ?_
        exact Exists.intro (y8, t9) ⟨H, WK.at [0] (.cons (.refl _) (.nil _)) rfl⟩
    rintro ⟨y70, t71⟩ H
    replace H : ref11_Wrap_j1 y70 = some r3 := H
    unfold ref11_Wrap_j1 at H
    show AW _ _ _ _ _ _
    refine AW.seq ?_
    refine AW.region ?_
    show AR _ _ _ _ _ [0, 1] _
    refine sS rfl rfl rfl (opS_move (av := slE _ _ _) rfl) ?_
    refine sS rfl rfl rfl (opS_assign (av := slE _ _ _) rfl) ?_
    refine AR.nil ?_
    show AW _ _ _ _ _ _
    refine AW.ret ?_
    obtain rfl := Option.some.inj H
    exact And.intro rfl (Exists.intro _ (Exists.intro _ ⟨ResV.oneW rfl (.tok _ _ _), Sub.at [] rfl, rfl, rfl⟩))
set_option maxRecDepth 100000 in
set_option maxHeartbeats 1000000 in
theorem w_ref11_Same (F : Nat) (a1 : List (List UInt8)) (q2 : Option Nat) (a3 : List (List UInt8)) (q4 : Option Nat) (r5 : Bool) (H : ref11_Same F a1 a3 = some r5) : ACalls Tryz.prog 5 [slE Enc.str a1 q2, slE Enc.str a3 q4] [] (Ret (B r5) []) := by
  unfold ref11_Same at H
  refine ACalls.of_body Tryz.func5 rfl rfl ?_
  show AW _ _ 26 _ _ _
  refine AW.seq ?_
  refine AW.region ?_
  show AR _ _ _ _ _ [0] _
  refine sS rfl rfl rfl (asg rfl) ?_
  refine AR.nil ?_
  show AW _ _ _ _ _ _
  refine AW.seq ?_
  refine AW.seq ?_
  refine AW.region ?_
  show AR _ _ _ _ _ [0, 1, 2, 3, 4] _
  refine sS rfl rfl rfl (opS_move (av := slE _ _ _) rfl) ?_
  refine sS rfl rfl rfl (opS_len_sl Tryz.underlying24 rfl) ?_
  refine sS rfl rfl rfl (opS_move (av := slE _ _ _) rfl) ?_
  refine sS rfl rfl rfl (opS_len_sl Tryz.underlying24 rfl) ?_
  refine sS rfl rfl rfl (opS_nei rfl rfl) ?_
  refine AR.nil ?_
  show AW _ _ _ _ _ _
  refine AW.cond rfl (fun c6 => ?_) (fun c6 => ?_)
  · replace H := cnd_t c6 H
    refine AW.seq ?_
    refine AW.region ?_
    show AR _ _ _ _ _ [0] _
    refine sS rfl rfl rfl (asg rfl) ?_
    refine AR.nil ?_
    show AW _ _ _ _ _ _
    refine AW.ret ?_
    obtain rfl := Option.some.inj H
    exact And.intro rfl (Exists.intro _ (Exists.intro _ ⟨ResV.oneW rfl (.refl _), Sub.at [] rfl, rfl, rfl⟩))
  · replace H := cnd_f c6 H
    refine AW.skip ?_
    show AW _ _ _ _ _ _
    refine AW.cut (X := Unit) (fun _ => ⟨[], [], []⟩) (fun _ => ref11_Same_j1 = some r5) ?_ ?_
    ·
      refine AW.seq ?_
      refine AW.region ?_
      show AR _ _ _ _ _ [0] _
      refine sS rfl rfl rfl (asg rfl) ?_
      refine AR.nil ?_
      show AW _ _ _ _ _ _
      refine AW.block ?_
      refine AW.loop (X := Nat × Int) (fun (n9, y7) => ⟨[(0, slE Enc.str a1 q2), (1, slE Enc.str a3 q4), (5, i64 y7)], [], []⟩) (fun (n9, y7) => ref11_Same_L1 a1 a3 n9 y7 = some r5) (fun (n9, y7) => n9) (F, 0) H (WK.at [] (.cons (.refl _) (.cons (.refl _) (.cons (.refl _) (.nil _)))) rfl) ?_
      rintro ⟨n9, y7⟩ H
      obtain ⟨n9, rfl, H⟩ := loop_s H
      replace H : ref11_Same_B1 a1 a3 (ref11_Same_L1 a1 a3 n9) y7 = some r5 := H
      unfold ref11_Same_B1 at H
      show AW _ _ _ _ _ _
      refine AW.seq ?_
      refine AW.seq ?_
      refine AW.region ?_
      show AR _ _ _ _ _ [0, 1, 2, 3] _
      refine sS rfl rfl rfl (mv rfl) ?_
      refine sS rfl rfl rfl (opS_move (av := slE _ _ _) rfl) ?_
      refine sS rfl rfl rfl (opS_len_sl Tryz.underlying24 rfl) ?_
      refine sS rfl rfl rfl (opS_lt rfl rfl) ?_
      refine AR.nil ?_
      show AW _ _ _ _ _ _
      refine AW.cond rfl (fun c10 => ?_) (fun c10 => ?_)
      · replace H := cnd_t c10 H
        refine AW.skip ?_
        show AW _ _ _ _ _ _
        refine AW.seq ?_
        refine AW.block ?_
        refine AW.seq ?_
        obtain ⟨g11, H⟩ := grd_s H
        obtain ⟨x12, e13, H⟩ := lt_s H
        obtain ⟨g14, H⟩ := grd_s H
        obtain ⟨x15, e16, H⟩ := lt_s H
        refine AW.region_draw (by kernel_rfl) ?_
        show AI _ _ _ _ 9 (Array.replicate 9 false) _
        refine AI.take (i := 0) rfl rfl (by kernel_rfl) (by kernel_rfl) (by kernel_rfl) (fun _ _ h => by obtain ⟨_, _, _, h, _⟩ := h; cases h) (opS_move (av := slE _ _ _) rfl) ?_
        show AI _ _ _ _ _ #[true, false, false, false, false, false, false, false, false] _
        refine AI.take (i := 1) rfl rfl (by kernel_rfl) (by kernel_rfl) (by kernel_rfl) (fun _ _ h => by obtain ⟨_, _, _, h, _⟩ := h; cases h) (mv rfl) ?_
        show AI _ _ _ _ _ #[true, true, false, false, false, false, false, false, false] _
        refine AI.take (i := 2) rfl rfl (by kernel_rfl) (by kernel_rfl) (by kernel_rfl) (fun _ _ h => by obtain ⟨_, _, _, h, _⟩ := h; cases h) (g_indexAddr (E := Enc.str) Tryz.underlying24 (by kernel_rfl) rfl rfl g11 e13) ?_
        show AI _ _ _ _ _ #[true, true, true, false, false, false, false, false, false] _
        refine AI.take (i := 3) rfl rfl (by kernel_rfl) (by kernel_rfl) (by kernel_rfl) (fun _ _ h => by obtain ⟨_, _, _, h, _⟩ := h; cases h) (opS_load_cp Tryz.underlying9 rfl rfl) ?_
        show AI _ _ _ _ _ #[true, true, true, true, false, false, false, false, false] _
        refine AI.take (i := 4) rfl rfl (by kernel_rfl) (by kernel_rfl) (by kernel_rfl) (fun _ _ h => by obtain ⟨_, _, _, h, _⟩ := h; cases h) (opS_move (av := slE _ _ _) rfl) ?_
        show AI _ _ _ _ _ #[true, true, true, true, true, false, false, false, false] _
        refine AI.take (i := 5) rfl rfl (by kernel_rfl) (by kernel_rfl) (by kernel_rfl) (fun _ _ h => by obtain ⟨_, _, _, h, _⟩ := h; cases h) (mv rfl) ?_
        show AI _ _ _ _ _ #[true, true, true, true, true, true, false, false, false] _
        refine AI.take (i := 6) rfl rfl (by kernel_rfl) (by kernel_rfl) (by kernel_rfl) (fun _ _ h => by obtain ⟨_, _, _, h, _⟩ := h; cases h) (g_indexAddr (E := Enc.str) Tryz.underlying24 (by kernel_rfl) rfl rfl g14 e16) ?_
        show AI _ _ _ _ _ #[true, true, true, true, true, true, true, false, false] _
        refine AI.take (i := 7) rfl rfl (by kernel_rfl) (by kernel_rfl) (by kernel_rfl) (fun _ _ h => by obtain ⟨_, _, _, h, _⟩ := h; cases h) (opS_load_cp Tryz.underlying9 rfl rfl) ?_
        show AI _ _ _ _ _ #[true, true, true, true, true, true, true, true, false] _
        refine AI.take (i := 8) rfl rfl (by kernel_rfl) (by kernel_rfl) (by kernel_rfl) (fun _ _ h => by obtain ⟨_, _, _, h, _⟩ := h; cases h) (opS_nes rfl rfl) ?_
        show AI _ _ _ _ _ #[true, true, true, true, true, true, true, true, true] _
        refine AI.done rfl ?_
        show AW _ _ _ _ _ _
        refine AW.cond rfl (fun c17 => ?_) (fun c17 => ?_)
        · replace H := cnd_t c17 H
          refine AW.seq ?_
          refine AW.region ?_
          show AR _ _ _ _ _ [0] _
          refine sS rfl rfl rfl (asg rfl) ?_
          refine AR.nil ?_
          show AW _ _ _ _ _ _
          refine AW.ret ?_
          obtain rfl := Option.some.inj H
          exact And.intro rfl (Exists.intro _ (Exists.intro _ ⟨ResV.oneW rfl (.refl _), Sub.at [] rfl, rfl, rfl⟩))
        · replace H := cnd_f c17 H
          refine AW.skip ?_
          show AW _ _ _ _ _ _
          obtain ⟨g18, H⟩ := grd_s H
          refine AW.region ?_
          show AR _ _ _ _ _ [0, 1, 2] _
          refine sS rfl rfl rfl (mv rfl) ?_
          refine sS rfl rfl rfl (g_add rfl rfl g18) ?_
          refine sS rfl rfl rfl (asg rfl) ?_
          refine AR.nil ?_
          exact Exists.intro (n9, y7 + 1) ⟨H, Nat.lt_succ_self _, WK.at [] (.cons (.refl _) (.cons (.refl _) (.cons (.refl _) (.nil _)))) rfl⟩
      · replace H := cnd_f c10 H
        refine AW.exit ?_
        exact Exists.intro () ⟨H, WK.at [] (.nil _) rfl⟩
    rintro _ H
    replace H : ref11_Same_j1 = some r5 := H
    unfold ref11_Same_j1 at H
    show AW _ _ _ _ _ _
    refine AW.seq ?_
    refine AW.region ?_
    show AR _ _ _ _ _ [0] _
    refine sS rfl rfl rfl (asg rfl) ?_
    refine AR.nil ?_
    show AW _ _ _ _ _ _
    refine AW.ret ?_
    obtain rfl := Option.some.inj H
    exact And.intro rfl (Exists.intro _ (Exists.intro _ ⟨ResV.oneW rfl (.refl _), Sub.at [] rfl, rfl, rfl⟩))
end Go.Proofs.YtjajiokihccobaaGreatDoor
