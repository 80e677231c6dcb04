/-
  What the statements about entities share: what is run is what the plain functions say. Printed by a program of ours.
-/
import Derived.Test.YtjhlnhipjomdeaaGreatDoorAvE
import Derived.Test.YtjhlnhipjomdeaaGreatDoorPvLib
import Derived.Test.YtjhlnhipjomdeaaGreatDoorP11Join
import Derived.Test.YtjhlnhipjomdeaaGreatDoorShelf
import Derived.Lib.ItoaNum
import Derived.Test.YtjhlnhipjomdeaaGreatDoorAvStill
import Derived.Test.YtjhlnhipjomdeaaGreatDoorAvSync
import Derived.Test.YtjhlnhipjomdeaaGreatDoorChecked
import Derived.Test.YtjhlnhipjomdeaaGreatDoorEntBW
import Derived.Test.YtjhlnhipjomdeaaGreatDoorRepW
import Derived.Test.YtjhlnhipjomdeaaGreatDoorEntLP
set_option linter.unusedVariables false
set_option linter.unusedSimpArgs false
namespace Go.Proofs.YtjhlnhipjomdeaaGreatDoor
open Go.RowKit Go.Av Go.Pv
theorem en10_entl : ∀ (args : Array Value) (w : World), (callFunc 10 args).run Tryz.prog w = .ok (.enter 10 args) w := fun _ _ => by kernel_rfl
theorem en15_entl : ∀ (args : Array Value) (w : World), (callFunc 15 args).run Tryz.prog w = .ok (.enter 15 args) w := fun _ _ => by kernel_rfl
theorem en17_entl : ∀ (args : Array Value) (w : World), (callFunc 17 args).run Tryz.prog w = .ok (.enter 17 args) w := fun _ _ => by kernel_rfl
theorem en19_entl : ∀ (args : Array Value) (w : World), (callFunc 19 args).run Tryz.prog w = .ok (.enter 19 args) w := fun _ _ => by kernel_rfl
theorem en21_entl : ∀ (args : Array Value) (w : World), (callFunc 21 args).run Tryz.prog w = .ok (.enter 21 args) w := fun _ _ => by kernel_rfl
set_option maxRecDepth 100000 in
set_option maxHeartbeats 1000000 in
theorem w_law07_awake (F : Nat) (r1 : Bool) (H : law07_awake F = some r1) : ACalls Tryz.prog 9 [] [] (Ret (B r1) []) := by
 unfold law07_awake at H
 refine ACalls.of_body Tryz.func9 rfl rfl ?_
 show AW _ _ 38 _ _ _
 refine AW.seq ?_
 refine AW.region ?_
 show AR _ _ _ _ _ [0] _
 refine sS rfl rfl rfl (asg rfl) ?_
 refine AR.nil ?_
 show AW _ _ _ _ _ _
 refine AW.seq ?_
 obtain ⟨x2, x3, e4, H⟩ := bnd2_s H
 refine AW.region ?_
 show AR _ _ _ _ _ [0, 1, 2, 3, 4, 5] _
 refine AR.run rfl rfl (AO.callp rfl en10_entl rfl (w_ent_Decode F ([97, 38, 35, 120, 52, 49, 59, 38, 108, 116, 59] : List UInt8) x2 x3 e4) ?_)
 refine sS rfl rfl rfl (opS_move (av := .tup _) rfl) ?_
 refine sS rfl rfl rfl (opS_extract (av := .v _) rfl rfl) ?_
 refine sS rfl rfl rfl (opS_extract (av := .v _) rfl rfl) ?_
 refine sS rfl rfl rfl (asg rfl) ?_
 refine sS rfl rfl rfl (asg rfl) ?_
 refine AR.nil ?_
 show AW _ _ _ _ _ _
 refine AW.seq ?_
 obtain ⟨x5, x6, e7, H⟩ := bnd2_s H
 refine AW.region ?_
 show AR _ _ _ _ _ [0, 1, 2, 3, 4, 5] _
 refine AR.run rfl rfl (AO.callp rfl en10_entl rfl (w_ent_Decode F ([38, 120, 59] : List UInt8) x5 x6 e7) ?_)
 refine sS rfl rfl rfl (opS_move (av := .tup _) rfl) ?_
 refine sS rfl rfl rfl (opS_extract (av := .v _) rfl rfl) ?_
 refine sS rfl rfl rfl (opS_extract (av := .v _) rfl rfl) ?_
 refine sS rfl rfl rfl (asg rfl) ?_
 refine sS rfl rfl rfl (asg rfl) ?_
 refine AR.nil ?_
 show AW _ _ _ _ _ _
 refine AW.seq ?_
 obtain ⟨x11, e12, H⟩ := bndc_s H
 obtain ⟨x14, e15, H⟩ := bndc_s H
 obtain ⟨x17, e18, H⟩ := bndc_s H
 obtain ⟨x20, e21, H⟩ := bndc_s H
 refine AW.region ?_
 show AR _ _ _ _ _ [0, 1, 2, 3, 4, 5, 6, 7, 8, 9, 10, 11, 12, 13, 14, 15, 16, 17, 18, 19, 20, 21, 22, 23, 24, 25] _
 refine sS rfl rfl rfl (mv rfl) ?_
 refine sS rfl rfl rfl (opS_eqi rfl rfl) ?_
 refine sS rfl rfl rfl (mv rfl) ?_
 refine AR.meet (l := [6, 7, 8, 9, 10, 11, 12, 13, 14, 15, 16, 17, 18, 19, 20, 21, 22, 23, 24, 25]) 18 (B ((decide (x3 = 0)) && (decide (x2 = ([97, 65, 60] : List UInt8))))) (fun K => ?_) ?_
 ·rcases Bool.eq_false_or_eq_true (decide (x3 = 0)) with h8 | h8
  ·
   refine gT h8 rfl rfl rfl rfl rfl rfl (AO.ops rfl rfl (mv rfl) ?_)
   refine gT h8 rfl rfl rfl rfl rfl rfl (AO.ops rfl rfl (opS_eqs rfl rfl) ?_)
   refine sS rfl rfl rfl (opS_pick_t (av := .v _) rfl h8 rfl) ?_
   exact K _ 2 _ (B_congr (and_t h8)) rfl rfl
  ·
   refine gF h8 rfl rfl rfl rfl rfl ?_
   refine gF h8 rfl rfl rfl rfl rfl ?_
   refine sS rfl rfl rfl (opS_pick_f (av := .v _) rfl h8 rfl) ?_
   exact K _ 2 _ (B_congr (and_f h8)) rfl rfl
 refine sS rfl rfl rfl (mv rfl) ?_
 refine AR.meet (l := [10, 11, 12, 13, 14, 15, 16, 17, 18, 19, 20, 21, 22, 23, 24, 25]) 22 (B (((decide (x3 = 0)) && (decide (x2 = ([97, 65, 60] : List UInt8)))) && (decide (x6 = 2)))) (fun K => ?_) ?_
 ·rcases Bool.eq_false_or_eq_true ((decide (x3 = 0)) && (decide (x2 = ([97, 65, 60] : List UInt8)))) with h9 | h9
  ·
   refine gT h9 rfl rfl rfl rfl rfl rfl (AO.ops rfl rfl (mv rfl) ?_)
   refine gT h9 rfl rfl rfl rfl rfl rfl (AO.ops rfl rfl (opS_eqi rfl rfl) ?_)
   refine sS rfl rfl rfl (opS_pick_t (av := .v _) rfl h9 rfl) ?_
   exact K _ 2 _ (B_congr (and_t h9)) rfl rfl
  ·
   refine gF h9 rfl rfl rfl rfl rfl ?_
   refine gF h9 rfl rfl rfl rfl rfl ?_
   refine sS rfl rfl rfl (opS_pick_f (av := .v _) rfl h9 rfl) ?_
   exact K _ 2 _ (B_congr (and_f h9)) rfl rfl
 refine sS rfl rfl rfl (mv rfl) ?_
 refine AR.meet (l := [14, 15, 16, 17, 18, 19, 20, 21, 22, 23, 24, 25]) 26 (B ((((decide (x3 = 0)) && (decide (x2 = ([97, 65, 60] : List UInt8)))) && (decide (x6 = 2))) && (decide (x11 = ([38, 120, 59] : List UInt8))))) (fun K => ?_) ?_
 ·rcases Bool.eq_false_or_eq_true (((decide (x3 = 0)) && (decide (x2 = ([97, 65, 60] : List UInt8)))) && (decide (x6 = 2))) with h10 | h10
  ·
   refine gT h10 rfl rfl rfl rfl rfl rfl (AO.callp rfl en15_entl rfl (w_ent_Loose F ([38, 120, 59] : List UInt8) x11 (e12 h10)) ?_)
   refine gT h10 rfl rfl rfl rfl rfl rfl (AO.ops rfl rfl (opS_eqs rfl rfl) ?_)
   refine sS rfl rfl rfl (opS_pick_t (av := .v _) rfl h10 rfl) ?_
   exact K _ 2 _ (B_congr (and_t h10)) rfl rfl
  ·
   refine gF h10 rfl rfl rfl rfl rfl ?_
   refine gF h10 rfl rfl rfl rfl rfl ?_
   refine sS rfl rfl rfl (opS_pick_f (av := .v _) rfl h10 rfl) ?_
   exact K _ 2 _ (B_congr (and_f h10)) rfl rfl
 refine sS rfl rfl rfl (mv rfl) ?_
 refine AR.meet (l := [18, 19, 20, 21, 22, 23, 24, 25]) 30 (B (((((decide (x3 = 0)) && (decide (x2 = ([97, 65, 60] : List UInt8)))) && (decide (x6 = 2))) && (decide (x11 = ([38, 120, 59] : List UInt8)))) && (decide (x14 = ([38, 108, 116, 59] : List UInt8))))) (fun K => ?_) ?_
 ·rcases Bool.eq_false_or_eq_true ((((decide (x3 = 0)) && (decide (x2 = ([97, 65, 60] : List UInt8)))) && (decide (x6 = 2))) && (decide (x11 = ([38, 120, 59] : List UInt8)))) with h13 | h13
  ·
   refine gT h13 rfl rfl rfl rfl rfl rfl (AO.callp rfl en17_entl rfl (w_Encode F _ _ (e15 h13)) ?_)
   refine gT h13 rfl rfl rfl rfl rfl rfl (AO.ops rfl rfl (opS_eqs rfl rfl) ?_)
   refine sS rfl rfl rfl (opS_pick_t (av := .v _) rfl h13 rfl) ?_
   exact K _ 2 _ (B_congr (and_t h13)) rfl rfl
  ·
   refine gF h13 rfl rfl rfl rfl rfl ?_
   refine gF h13 rfl rfl rfl rfl rfl ?_
   refine sS rfl rfl rfl (opS_pick_f (av := .v _) rfl h13 rfl) ?_
   exact K _ 2 _ (B_congr (and_f h13)) rfl rfl
 refine sS rfl rfl rfl (mv rfl) ?_
 refine AR.meet (l := [22, 23, 24, 25]) 34 (B ((((((decide (x3 = 0)) && (decide (x2 = ([97, 65, 60] : List UInt8)))) && (decide (x6 = 2))) && (decide (x11 = ([38, 120, 59] : List UInt8)))) && (decide (x14 = ([38, 108, 116, 59] : List UInt8)))) && (decide (x17 = ([97, 32, 98] : List UInt8))))) (fun K => ?_) ?_
 ·rcases Bool.eq_false_or_eq_true (((((decide (x3 = 0)) && (decide (x2 = ([97, 65, 60] : List UInt8)))) && (decide (x6 = 2))) && (decide (x11 = ([38, 120, 59] : List UInt8)))) && (decide (x14 = ([38, 108, 116, 59] : List UInt8)))) with h16 | h16
  ·
   refine gT h16 rfl rfl rfl rfl rfl rfl (AO.callp rfl en19_entl rfl (w_ent_Trim F ([32, 97, 32, 32, 98, 32] : List UInt8) x17 (e18 h16)) ?_)
   refine gT h16 rfl rfl rfl rfl rfl rfl (AO.ops rfl rfl (opS_eqs rfl rfl) ?_)
   refine sS rfl rfl rfl (opS_pick_t (av := .v _) rfl h16 rfl) ?_
   exact K _ 2 _ (B_congr (and_t h16)) rfl rfl
  ·
   refine gF h16 rfl rfl rfl rfl rfl ?_
   refine gF h16 rfl rfl rfl rfl rfl ?_
   refine sS rfl rfl rfl (opS_pick_f (av := .v _) rfl h16 rfl) ?_
   exact K _ 2 _ (B_congr (and_f h16)) rfl rfl
 refine sS rfl rfl rfl (mv rfl) ?_
 refine AR.meet (l := [25]) 37 (B (((((((decide (x3 = 0)) && (decide (x2 = ([97, 65, 60] : List UInt8)))) && (decide (x6 = 2))) && (decide (x11 = ([38, 120, 59] : List UInt8)))) && (decide (x14 = ([38, 108, 116, 59] : List UInt8)))) && (decide (x17 = ([97, 32, 98] : List UInt8)))) && x20)) (fun K => ?_) ?_
 ·rcases Bool.eq_false_or_eq_true ((((((decide (x3 = 0)) && (decide (x2 = ([97, 65, 60] : List UInt8)))) && (decide (x6 = 2))) && (decide (x11 = ([38, 120, 59] : List UInt8)))) && (decide (x14 = ([38, 108, 116, 59] : List UInt8)))) && (decide (x17 = ([97, 32, 98] : List UInt8)))) with h19 | h19
  ·
   refine gT h19 rfl rfl rfl rfl rfl rfl (AO.callp rfl en21_entl rfl (w_ent_Space F 9 x20 (e21 h19)) ?_)
   refine sS rfl rfl rfl (opS_pick_t (av := .v _) rfl h19 rfl) ?_
   exact K _ 1 _ (B_congr (and_t h19)) rfl rfl
  ·
   refine gF h19 rfl rfl rfl rfl rfl ?_
   refine sS rfl rfl rfl (opS_pick_f (av := .v _) rfl h19 rfl) ?_
   exact K _ 1 _ (B_congr (and_f h19)) rfl rfl
 refine sS rfl rfl rfl (asg rfl) ?_
 refine AR.nil ?_
 show AW _ _ _ _ _ _
 refine AW.ret ?_
 obtain rfl := Option.some.inj H
 exact And.intro rfl (Exists.intro _ (Exists.intro _ ⟨ResV.oneW rfl (.refl _), Sub.at [] rfl, rfl, rfl⟩))
end Go.Proofs.YtjhlnhipjomdeaaGreatDoor
