/-
  Texts in one: AvOpen8, RefEW, LEntTellsW.
-/
import Derived.Test.YtjhlnhipjomdeaaGreatDoorAvLaw
import Derived.OpenShut
import Derived.Test.YtjhlnhipjomdeaaGreatDoorAvE
import Derived.Test.YtjhlnhipjomdeaaGreatDoorPvLib
import Derived.Test.YtjhlnhipjomdeaaGreatDoorP11Join
import Derived.Test.YtjhlnhipjomdeaaGreatDoorShelf
import Derived.Lib.ItoaNum
import Derived.Test.YtjhlnhipjomdeaaGreatDoorAvStill
import Derived.Test.YtjhlnhipjomdeaaGreatDoorAvSync
import Derived.Test.YtjhlnhipjomdeaaGreatDoorChecked
import Derived.Test.YtjhlnhipjomdeaaGreatDoorAvN
import Derived.Test.YtjhlnhipjomdeaaGreatDoorAvOwn
import Derived.Test.YtjhlnhipjomdeaaGreatDoorLibLW
import Derived.Test.YtjhlnhipjomdeaaGreatDoorRefEP
import Derived.Test.YtjhlnhipjomdeaaGreatDoorEntLW
import Derived.Test.YtjhlnhipjomdeaaGreatDoorLEntTellsP
set_option linter.unusedVariables false
set_option linter.unusedSimpArgs false
namespace Go.Av

theorem rel_u8 {J : Info} {w : World} {n : Int} (h : (Lit.int .u8 n).wf = true) : Rel J w (u8 (UInt8.ofNat n.toNat)) (.int .u8 n) := by
  have hb : 0 ≤ n ∧ n ≤ 255 := by first | exact bounds_u8 h | exact RowKit.bounds_u8 h | exact OpenShut.bounds_u8 h
  have e : ((UInt8.ofNat n.toNat).toNat : Int) = n := by
    have h2 : (UInt8.ofNat n.toNat).toNat = n.toNat := by simp; omega
    rw [h2]; omega
  show Rel _ _ (.v (.int .u8 ((UInt8.ofNat n.toNat).toNat : Int))) _
  rw [e]
  exact .v _
end Go.Av
namespace Go.Proofs.YtjhlnhipjomdeaaGreatDoor
open Go.RowKit Go.Av Go.Pv
theorem en13_refe : ∀ (args : Array Value) (w : World), (callFunc 13 args).run Tryz.prog w = .ok (.enter 13 args) w := fun _ _ => by kernel_rfl
theorem en14_refe : ∀ (args : Array Value) (w : World), (callFunc 14 args).run Tryz.prog w = .ok (.enter 14 args) w := fun _ _ => by kernel_rfl
theorem en23_refe : ∀ (args : Array Value) (w : World), (callFunc 23 args).run Tryz.prog w = .ok (.enter 23 args) w := fun _ _ => by kernel_rfl
theorem en32_refe : ∀ (args : Array Value) (w : World), (callFunc 32 args).run Tryz.prog w = .ok (.enter 32 args) w := fun _ _ => by kernel_rfl
theorem en33_refe : ∀ (args : Array Value) (w : World), (callFunc 33 args).run Tryz.prog w = .ok (.enter 33 args) w := fun _ _ => by kernel_rfl
theorem en41_refe : ∀ (args : Array Value) (w : World), (callFunc 41 args).run Tryz.prog w = .ok (.enter 41 args) w := fun _ _ => by kernel_rfl
theorem en55_refe : ∀ (args : Array Value) (w : World), (callFunc 55 args).run Tryz.prog w = .ok (.enter 55 args) w := fun _ _ => by kernel_rfl
set_option maxRecDepth 100000 in
set_option maxHeartbeats 1000000 in
theorem w_ref07_Space (F : Nat) (a1 : UInt8) (r2 : Bool) (H : ref07_Space F a1 = some r2) : ACalls Tryz.prog 14 [u8 a1] [] (Ret (B r2) []) := by
 unfold ref07_Space at H
 refine ACalls.of_body Tryz.func14 rfl rfl ?_
 show AW _ _ 17 _ _ _
 refine AW.seq ?_
 refine AW.region ?_
 show AR _ _ _ _ _ [0] _
 refine sS rfl rfl rfl (asg rfl) ?_
 refine AR.nil ?_
 show AW _ _ _ _ _ _
 refine AW.seq ?_
 refine AW.region ?_
 show AR _ _ _ _ _ [0, 1, 2, 3, 4, 5, 6, 7, 8, 9, 10, 11, 12, 13, 14] _
 refine sS rfl rfl rfl (mv rfl) ?_
 refine sS rfl rfl rfl (g_eq8 (a := a1) (b := 9) rfl rfl) ?_
 refine sS rfl rfl rfl (mv rfl) ?_
 refine AR.meet (l := [6, 7, 8, 9, 10, 11, 12, 13, 14]) 8 (B ((decide (a1 = 9)) || (decide (a1 = 10)))) (fun K => ?_) ?_
 ·rcases Bool.eq_false_or_eq_true (decide (a1 = 9)) with h3 | h3
  ·
   refine gF h3 rfl rfl rfl rfl rfl ?_
   refine gF h3 rfl rfl rfl rfl rfl ?_
   refine sS rfl rfl rfl (opS_pick_t (av := .v _) rfl h3 rfl) ?_
   exact K _ 2 _ (B_congr (or_t h3)) rfl rfl
  ·
   refine gT h3 rfl rfl rfl rfl rfl rfl (AO.ops rfl rfl (mv rfl) ?_)
   refine gT h3 rfl rfl rfl rfl rfl rfl (AO.ops rfl rfl (g_eq8 (a := a1) (b := 10) rfl rfl) ?_)
   refine sS rfl rfl rfl (opS_pick_f (av := .v _) rfl h3 rfl) ?_
   exact K _ 2 _ (B_congr (or_f h3)) rfl rfl
 refine sS rfl rfl rfl (mv rfl) ?_
 refine AR.meet (l := [10, 11, 12, 13, 14]) 12 (B (((decide (a1 = 9)) || (decide (a1 = 10))) || (decide (a1 = 13)))) (fun K => ?_) ?_
 ·rcases Bool.eq_false_or_eq_true ((decide (a1 = 9)) || (decide (a1 = 10))) with h4 | h4
  ·
   refine gF h4 rfl rfl rfl rfl rfl ?_
   refine gF h4 rfl rfl rfl rfl rfl ?_
   refine sS rfl rfl rfl (opS_pick_t (av := .v _) rfl h4 rfl) ?_
   exact K _ 2 _ (B_congr (or_t h4)) rfl rfl
  ·
   refine gT h4 rfl rfl rfl rfl rfl rfl (AO.ops rfl rfl (mv rfl) ?_)
   refine gT h4 rfl rfl rfl rfl rfl rfl (AO.ops rfl rfl (g_eq8 (a := a1) (b := 13) rfl rfl) ?_)
   refine sS rfl rfl rfl (opS_pick_f (av := .v _) rfl h4 rfl) ?_
   exact K _ 2 _ (B_congr (or_f h4)) rfl rfl
 refine sS rfl rfl rfl (mv rfl) ?_
 refine AR.meet (l := [14]) 16 (B ((((decide (a1 = 9)) || (decide (a1 = 10))) || (decide (a1 = 13))) || (decide (a1 = 32)))) (fun K => ?_) ?_
 ·rcases Bool.eq_false_or_eq_true (((decide (a1 = 9)) || (decide (a1 = 10))) || (decide (a1 = 13))) with h5 | h5
  ·
   refine gF h5 rfl rfl rfl rfl rfl ?_
   refine gF h5 rfl rfl rfl rfl rfl ?_
   refine sS rfl rfl rfl (opS_pick_t (av := .v _) rfl h5 rfl) ?_
   exact K _ 2 _ (B_congr (or_t h5)) rfl rfl
  ·
   refine gT h5 rfl rfl rfl rfl rfl rfl (AO.ops rfl rfl (mv rfl) ?_)
   refine gT h5 rfl rfl rfl rfl rfl rfl (AO.ops rfl rfl (g_eq8 (a := a1) (b := 32) rfl rfl) ?_)
   refine sS rfl rfl rfl (opS_pick_f (av := .v _) rfl h5 rfl) ?_
   exact K _ 2 _ (B_congr (or_f h5)) rfl rfl
 refine sS rfl rfl rfl (asg rfl) ?_
 refine AR.nil ?_
 show AW _ _ _ _ _ _
 refine AW.ret ?_
 obtain rfl := Option.some.inj H
 exact And.intro rfl (Exists.intro _ (Exists.intro _ ⟨ResV.oneW rfl (.refl _), Sub.at [] rfl, rfl, rfl⟩))
set_option maxRecDepth 100000 in
set_option maxHeartbeats 1000000 in
theorem w_ref07_Rune (F : Nat) (a1 : Int) (r2 : List UInt8) (r3 : Bool) (H : ref07_Rune F a1 = some (r2, r3)) : ACalls Tryz.prog 13 [i64 a1] [] (Ret (.tup [S r2, B r3]) []) := by
 unfold ref07_Rune at H
 refine ACalls.of_body Tryz.func13 rfl rfl ?_
 show AW _ _ 98 _ _ _
 refine AW.seq ?_
 refine AW.region ?_
 show AR _ _ _ _ _ [0, 1] _
 refine sS rfl rfl rfl (asg rfl) ?_
 refine sS rfl rfl rfl (asg rfl) ?_
 refine AR.nil ?_
 show AW _ _ _ _ _ _
 refine AW.seq ?_
 refine AW.region ?_
 show AR _ _ _ _ _ [0, 1, 2, 3, 4, 5, 6, 7, 8, 9, 10, 11, 12, 13, 14, 15, 16, 17, 18] _
 refine sS rfl rfl rfl (mv rfl) ?_
 refine sS rfl rfl rfl (opS_eqi rfl rfl) ?_
 refine sS rfl rfl rfl (mv rfl) ?_
 refine AR.meet (l := [6, 7, 8, 9, 10, 11, 12, 13, 14, 15, 16, 17, 18]) 10 (B ((decide (a1 = 9)) || (decide (a1 = 10)))) (fun K => ?_) ?_
 ·rcases Bool.eq_false_or_eq_true (decide (a1 = 9)) with h4 | h4
  ·
   refine gF h4 rfl rfl rfl rfl rfl ?_
   refine gF h4 rfl rfl rfl rfl rfl ?_
   refine sS rfl rfl rfl (opS_pick_t (av := .v _) rfl h4 rfl) ?_
   exact K _ 2 _ (B_congr (or_t h4)) rfl rfl
  ·
   refine gT h4 rfl rfl rfl rfl rfl rfl (AO.ops rfl rfl (mv rfl) ?_)
   refine gT h4 rfl rfl rfl rfl rfl rfl (AO.ops rfl rfl (opS_eqi rfl rfl) ?_)
   refine sS rfl rfl rfl (opS_pick_f (av := .v _) rfl h4 rfl) ?_
   exact K _ 2 _ (B_congr (or_f h4)) rfl rfl
 refine sS rfl rfl rfl (mv rfl) ?_
 refine AR.meet (l := [10, 11, 12, 13, 14, 15, 16, 17, 18]) 14 (B (((decide (a1 = 9)) || (decide (a1 = 10))) || (decide (a1 = 13)))) (fun K => ?_) ?_
 ·rcases Bool.eq_false_or_eq_true ((decide (a1 = 9)) || (decide (a1 = 10))) with h5 | h5
  ·
   refine gF h5 rfl rfl rfl rfl rfl ?_
   refine gF h5 rfl rfl rfl rfl rfl ?_
   refine sS rfl rfl rfl (opS_pick_t (av := .v _) rfl h5 rfl) ?_
   exact K _ 2 _ (B_congr (or_t h5)) rfl rfl
  ·
   refine gT h5 rfl rfl rfl rfl rfl rfl (AO.ops rfl rfl (mv rfl) ?_)
   refine gT h5 rfl rfl rfl rfl rfl rfl (AO.ops rfl rfl (opS_eqi rfl rfl) ?_)
   refine sS rfl rfl rfl (opS_pick_f (av := .v _) rfl h5 rfl) ?_
   exact K _ 2 _ (B_congr (or_f h5)) rfl rfl
 refine sS rfl rfl rfl (mv rfl) ?_
 refine AR.meet (l := [18]) 22 (B ((((decide (a1 = 9)) || (decide (a1 = 10))) || (decide (a1 = 13))) || ((decide (32 ≤ a1)) && (decide (a1 ≤ 55295))))) (fun K => ?_) ?_
 ·rcases Bool.eq_false_or_eq_true (((decide (a1 = 9)) || (decide (a1 = 10))) || (decide (a1 = 13))) with h6 | h6
  ·
   refine gF h6 rfl rfl rfl rfl rfl ?_
   refine gF h6 rfl rfl rfl rfl rfl ?_
   refine gF h6 rfl rfl rfl rfl rfl ?_
   refine gU rfl rfl rfl rfl rfl ?_
   refine gU rfl rfl rfl rfl rfl ?_
   refine gF h6 rfl rfl rfl rfl rfl ?_
   refine sS rfl rfl rfl (opS_pick_t (av := .v _) rfl h6 rfl) ?_
   exact K _ 6 _ (B_congr (or_t h6)) rfl rfl
  ·
   refine gT h6 rfl rfl rfl rfl rfl rfl (AO.ops rfl rfl (mv rfl) ?_)
   refine gT h6 rfl rfl rfl rfl rfl rfl (AO.ops rfl rfl (opS_ge rfl rfl) ?_)
   refine gT h6 rfl rfl rfl rfl rfl rfl (AO.ops rfl rfl (mv rfl) ?_)
   refine AR.meet (l := [17, 18]) 21 (B ((decide (32 ≤ a1)) && (decide (a1 ≤ 55295)))) (fun K => ?_) ?_
   ·rcases Bool.eq_false_or_eq_true (decide (32 ≤ a1)) with h7 | h7
    ·
     refine gT h7 rfl rfl rfl rfl rfl rfl (AO.ops rfl rfl (mv rfl) ?_)
     refine gT h7 rfl rfl rfl rfl rfl rfl (AO.ops rfl rfl (opS_le rfl rfl) ?_)
     refine gT h6 rfl rfl rfl rfl rfl rfl (AO.ops rfl rfl (opS_pick_t (av := .v _) rfl h7 rfl) ?_)
     exact K _ 2 _ (B_congr (and_t h7)) rfl rfl
    ·
     refine gF h7 rfl rfl rfl rfl rfl ?_
     refine gF h7 rfl rfl rfl rfl rfl ?_
     refine gT h6 rfl rfl rfl rfl rfl rfl (AO.ops rfl rfl (opS_pick_f (av := .v _) rfl h7 rfl) ?_)
     exact K _ 2 _ (B_congr (and_f h7)) rfl rfl
   refine sS rfl rfl rfl (opS_pick_f (av := .v _) rfl h6 rfl) ?_
   exact K _ 4 _ (B_congr (or_f h6)) rfl rfl
 refine sS rfl rfl rfl (asg rfl) ?_
 refine AR.nil ?_
 show AW _ _ _ _ _ _
 refine AW.seq ?_
 refine AW.seq ?_
 refine AW.region ?_
 show AR _ _ _ _ _ [0, 1, 2, 3, 4, 5, 6, 7, 8, 9, 10, 11, 12, 13, 14, 15, 16, 17, 18, 19] _
 refine sS rfl rfl rfl (mv rfl) ?_
 refine sS rfl rfl rfl (opS_not rfl) ?_
 refine sS rfl rfl rfl (mv rfl) ?_
 refine AR.meet (l := [11, 12, 13, 14, 15, 16, 17, 18, 19]) 33 (B ((!((((decide (a1 = 9)) || (decide (a1 = 10))) || (decide (a1 = 13))) || ((decide (32 ≤ a1)) && (decide (a1 ≤ 55295))))) && (!((decide (57344 ≤ a1)) && (decide (a1 ≤ 65533)))))) (fun K => ?_) ?_
 ·rcases Bool.eq_false_or_eq_true (!((((decide (a1 = 9)) || (decide (a1 = 10))) || (decide (a1 = 13))) || ((decide (32 ≤ a1)) && (decide (a1 ≤ 55295))))) with h8 | h8
  ·
   refine gT h8 rfl rfl rfl rfl rfl rfl (AO.ops rfl rfl (mv rfl) ?_)
   refine gT h8 rfl rfl rfl rfl rfl rfl (AO.ops rfl rfl (opS_ge rfl rfl) ?_)
   refine gT h8 rfl rfl rfl rfl rfl rfl (AO.ops rfl rfl (mv rfl) ?_)
   refine AR.meet (l := [9, 10, 11, 12, 13, 14, 15, 16, 17, 18, 19]) 31 (B ((decide (57344 ≤ a1)) && (decide (a1 ≤ 65533)))) (fun K => ?_) ?_
   ·rcases Bool.eq_false_or_eq_true (decide (57344 ≤ a1)) with h9 | h9
    ·
     refine gT h9 rfl rfl rfl rfl rfl rfl (AO.ops rfl rfl (mv rfl) ?_)
     refine gT h9 rfl rfl rfl rfl rfl rfl (AO.ops rfl rfl (opS_le rfl rfl) ?_)
     refine gT h8 rfl rfl rfl rfl rfl rfl (AO.ops rfl rfl (opS_pick_t (av := .v _) rfl h9 rfl) ?_)
     exact K _ 2 _ (B_congr (and_t h9)) rfl rfl
    ·
     refine gF h9 rfl rfl rfl rfl rfl ?_
     refine gF h9 rfl rfl rfl rfl rfl ?_
     refine gT h8 rfl rfl rfl rfl rfl rfl (AO.ops rfl rfl (opS_pick_f (av := .v _) rfl h9 rfl) ?_)
     exact K _ 2 _ (B_congr (and_f h9)) rfl rfl
   refine gT h8 rfl rfl rfl rfl rfl rfl (AO.ops rfl rfl (opS_not rfl) ?_)
   refine sS rfl rfl rfl (opS_pick_t (av := .v _) rfl h8 rfl) ?_
   exact K _ 5 _ (B_congr (and_t h8)) rfl rfl
  ·
   refine gF h8 rfl rfl rfl rfl rfl ?_
   refine gF h8 rfl rfl rfl rfl rfl ?_
   refine gF h8 rfl rfl rfl rfl rfl ?_
   refine gU rfl rfl rfl rfl rfl ?_
   refine gU rfl rfl rfl rfl rfl ?_
   refine gF h8 rfl rfl rfl rfl rfl ?_
   refine gF h8 rfl rfl rfl rfl rfl ?_
   refine sS rfl rfl rfl (opS_pick_f (av := .v _) rfl h8 rfl) ?_
   exact K _ 7 _ (B_congr (and_f h8)) rfl rfl
 refine sS rfl rfl rfl (mv rfl) ?_
 refine AR.meet (l := []) 42 (B (((!((((decide (a1 = 9)) || (decide (a1 = 10))) || (decide (a1 = 13))) || ((decide (32 ≤ a1)) && (decide (a1 ≤ 55295))))) && (!((decide (57344 ≤ a1)) && (decide (a1 ≤ 65533))))) && (!((decide (65536 ≤ a1)) && (decide (a1 ≤ 1114111)))))) (fun K => ?_) ?_
 ·rcases Bool.eq_false_or_eq_true ((!((((decide (a1 = 9)) || (decide (a1 = 10))) || (decide (a1 = 13))) || ((decide (32 ≤ a1)) && (decide (a1 ≤ 55295))))) && (!((decide (57344 ≤ a1)) && (decide (a1 ≤ 65533))))) with h10 | h10
  ·
   refine gT h10 rfl rfl rfl rfl rfl rfl (AO.ops rfl rfl (mv rfl) ?_)
   refine gT h10 rfl rfl rfl rfl rfl rfl (AO.ops rfl rfl (opS_ge rfl rfl) ?_)
   refine gT h10 rfl rfl rfl rfl rfl rfl (AO.ops rfl rfl (mv rfl) ?_)
   refine AR.meet (l := [18, 19]) 40 (B ((decide (65536 ≤ a1)) && (decide (a1 ≤ 1114111)))) (fun K => ?_) ?_
   ·rcases Bool.eq_false_or_eq_true (decide (65536 ≤ a1)) with h11 | h11
    ·
     refine gT h11 rfl rfl rfl rfl rfl rfl (AO.ops rfl rfl (mv rfl) ?_)
     refine gT h11 rfl rfl rfl rfl rfl rfl (AO.ops rfl rfl (opS_le rfl rfl) ?_)
     refine gT h10 rfl rfl rfl rfl rfl rfl (AO.ops rfl rfl (opS_pick_t (av := .v _) rfl h11 rfl) ?_)
     exact K _ 2 _ (B_congr (and_t h11)) rfl rfl
    ·
     refine gF h11 rfl rfl rfl rfl rfl ?_
     refine gF h11 rfl rfl rfl rfl rfl ?_
     refine gT h10 rfl rfl rfl rfl rfl rfl (AO.ops rfl rfl (opS_pick_f (av := .v _) rfl h11 rfl) ?_)
     exact K _ 2 _ (B_congr (and_f h11)) rfl rfl
   refine gT h10 rfl rfl rfl rfl rfl rfl (AO.ops rfl rfl (opS_not rfl) ?_)
   refine sS rfl rfl rfl (opS_pick_t (av := .v _) rfl h10 rfl) ?_
   exact K _ 5 _ (B_congr (and_t h10)) rfl rfl
  ·
   refine gF h10 rfl rfl rfl rfl rfl ?_
   refine gF h10 rfl rfl rfl rfl rfl ?_
   refine gF h10 rfl rfl rfl rfl rfl ?_
   refine gU rfl rfl rfl rfl rfl ?_
   refine gU rfl rfl rfl rfl rfl ?_
   refine gF h10 rfl rfl rfl rfl rfl ?_
   refine gF h10 rfl rfl rfl rfl rfl ?_
   refine sS rfl rfl rfl (opS_pick_f (av := .v _) rfl h10 rfl) ?_
   exact K _ 7 _ (B_congr (and_f h10)) rfl rfl
 refine AR.nil ?_
 show AW _ _ _ _ _ _
 refine AW.cond rfl (fun c12 => ?_) (fun c12 => ?_)
 ·replace H := cnd_t c12 H
  refine AW.seq ?_
  refine AW.region ?_
  show AR _ _ _ _ _ [0, 1] _
  refine sS rfl rfl rfl (asg rfl) ?_
  refine sS rfl rfl rfl (asg rfl) ?_
  refine AR.nil ?_
  show AW _ _ _ _ _ _
  refine AW.ret ?_
  obtain ⟨rfl, rfl⟩ := res2 H
  exact And.intro rfl (Exists.intro _ (Exists.intro _ ⟨ResV.twoW rfl (.refl _) (.refl _), Sub.at [] rfl, rfl, rfl⟩))
 ·replace H := cnd_f c12 H
  refine AW.skip ?_
  show AW _ _ _ _ _ _
  refine AW.seq ?_
  refine AW.seq ?_
  refine AW.region ?_
  show AR _ _ _ _ _ [0, 1] _
  refine sS rfl rfl rfl (mv rfl) ?_
  refine sS rfl rfl rfl (opS_lt rfl rfl) ?_
  refine AR.nil ?_
  show AW _ _ _ _ _ _
  refine AW.cond rfl (fun c13 => ?_) (fun c13 => ?_)
  ·replace H := cnd_t c13 H
   refine AW.seq ?_
   refine AW.region ?_
   show AR _ _ _ _ _ [0, 1, 2, 3, 4, 5] _
   refine sS rfl rfl rfl (mv rfl) ?_
   refine sS rfl rfl rfl (g_conv_to8 (by kernel_rfl) Tryz.underlying5 rfl) ?_
   refine sR rfl rfl rfl (opR_buildE (E := Enc.byte) (bytes := 1) (xs := [.tmp 46]) (l := ([Go.Av.toB a1] : List UInt8)) Tryz.underlying36 (by kernel_rfl) rfl rfl (by decide) rfl rfl) ?_
   refine sS rfl rfl rfl (opS_conv_bytes_str Tryz.underlying36 Tryz.underlying5 Tryz.underlying9 rfl) ?_
   refine sS rfl rfl rfl (asg rfl) ?_
   refine sS rfl rfl rfl (asg rfl) ?_
   refine AR.nil ?_
   show AW _ _ _ _ _ _
   refine AW.ret ?_
   obtain ⟨rfl, rfl⟩ := res2 H
   exact And.intro rfl (Exists.intro _ (Exists.intro _ ⟨ResV.twoW rfl (.refl _) (.refl _), Sub.at [] rfl, rfl, rfl⟩))
  ·replace H := cnd_f c13 H
   refine AW.skip ?_
   show AW _ _ _ _ _ _
   refine AW.seq ?_
   refine AW.seq ?_
   refine AW.region ?_
   show AR _ _ _ _ _ [0, 1] _
   refine sS rfl rfl rfl (mv rfl) ?_
   refine sS rfl rfl rfl (opS_lt rfl rfl) ?_
   refine AR.nil ?_
   show AW _ _ _ _ _ _
   refine AW.cond rfl (fun c14 => ?_) (fun c14 => ?_)
   ·replace H := cnd_t c14 H
    refine AW.seq ?_
    obtain ⟨g15, H⟩ := grd_s H
    obtain ⟨g16, H⟩ := grd_s H
    obtain ⟨g17, H⟩ := grd_s H
    obtain ⟨g18, H⟩ := grd_s H
    refine AW.region ?_
    show AR _ _ _ _ _ [0, 1, 2, 3, 4, 5, 6, 7, 8, 9, 10, 11] _
    refine sS rfl rfl rfl (mv rfl) ?_
    refine sS rfl rfl rfl (g_quo rfl rfl g15) ?_
    refine sS rfl rfl rfl (g_add rfl rfl g16) ?_
    refine sS rfl rfl rfl (g_conv_to8 (by kernel_rfl) Tryz.underlying5 rfl) ?_
    refine sS rfl rfl rfl (mv rfl) ?_
    refine sS rfl rfl rfl (g_rem rfl rfl g17) ?_
    refine sS rfl rfl rfl (g_add rfl rfl g18) ?_
    refine sS rfl rfl rfl (g_conv_to8 (by kernel_rfl) Tryz.underlying5 rfl) ?_
    refine sR rfl rfl rfl (opR_buildE (E := Enc.byte) (bytes := 1) (xs := [.tmp 54, .tmp 58]) (l := ([Go.Av.toB (192 + (a1 / 64)), Go.Av.toB (128 + (a1 % 64))] : List UInt8)) Tryz.underlying36 (by kernel_rfl) rfl rfl (by decide) rfl rfl) ?_
    refine sS rfl rfl rfl (opS_conv_bytes_str Tryz.underlying36 Tryz.underlying5 Tryz.underlying9 rfl) ?_
    refine sS rfl rfl rfl (asg rfl) ?_
    refine sS rfl rfl rfl (asg rfl) ?_
    refine AR.nil ?_
    show AW _ _ _ _ _ _
    refine AW.ret ?_
    obtain ⟨rfl, rfl⟩ := res2 H
    exact And.intro rfl (Exists.intro _ (Exists.intro _ ⟨ResV.twoW rfl (.refl _) (.refl _), Sub.at [] rfl, rfl, rfl⟩))
   ·replace H := cnd_f c14 H
    refine AW.skip ?_
    show AW _ _ _ _ _ _
    refine AW.seq ?_
    refine AW.seq ?_
    refine AW.region ?_
    show AR _ _ _ _ _ [0, 1] _
    refine sS rfl rfl rfl (mv rfl) ?_
    refine sS rfl rfl rfl (opS_lt rfl rfl) ?_
    refine AR.nil ?_
    show AW _ _ _ _ _ _
    refine AW.cond rfl (fun c19 => ?_) (fun c19 => ?_)
    ·replace H := cnd_t c19 H
     refine AW.seq ?_
     obtain ⟨g20, H⟩ := grd_s H
     obtain ⟨g21, H⟩ := grd_s H
     obtain ⟨g22, H⟩ := grd_s H
     obtain ⟨g23, H⟩ := grd_s H
     obtain ⟨g24, H⟩ := grd_s H
     obtain ⟨g25, H⟩ := grd_s H
     obtain ⟨g26, H⟩ := grd_s H
     refine AW.region ?_
     show AR _ _ _ _ _ [0, 1, 2, 3, 4, 5, 6, 7, 8, 9, 10, 11, 12, 13, 14, 15, 16] _
     refine sS rfl rfl rfl (mv rfl) ?_
     refine sS rfl rfl rfl (g_quo rfl rfl g20) ?_
     refine sS rfl rfl rfl (g_add rfl rfl g21) ?_
     refine sS rfl rfl rfl (g_conv_to8 (by kernel_rfl) Tryz.underlying5 rfl) ?_
     refine sS rfl rfl rfl (mv rfl) ?_
     refine sS rfl rfl rfl (g_quo rfl rfl g22) ?_
     refine sS rfl rfl rfl (g_rem rfl rfl g23) ?_
     refine sS rfl rfl rfl (g_add rfl rfl g24) ?_
     refine sS rfl rfl rfl (g_conv_to8 (by kernel_rfl) Tryz.underlying5 rfl) ?_
     refine sS rfl rfl rfl (mv rfl) ?_
     refine sS rfl rfl rfl (g_rem rfl rfl g25) ?_
     refine sS rfl rfl rfl (g_add rfl rfl g26) ?_
     refine sS rfl rfl rfl (g_conv_to8 (by kernel_rfl) Tryz.underlying5 rfl) ?_
     refine sR rfl rfl rfl (opR_buildE (E := Enc.byte) (bytes := 1) (xs := [.tmp 66, .tmp 71, .tmp 75]) (l := ([Go.Av.toB (224 + (a1 / 4096)), Go.Av.toB (128 + ((a1 / 64) % 64)), Go.Av.toB (128 + (a1 % 64))] : List UInt8)) Tryz.underlying36 (by kernel_rfl) rfl rfl (by decide) rfl rfl) ?_
     refine sS rfl rfl rfl (opS_conv_bytes_str Tryz.underlying36 Tryz.underlying5 Tryz.underlying9 rfl) ?_
     refine sS rfl rfl rfl (asg rfl) ?_
     refine sS rfl rfl rfl (asg rfl) ?_
     refine AR.nil ?_
     show AW _ _ _ _ _ _
     refine AW.ret ?_
     obtain ⟨rfl, rfl⟩ := res2 H
     exact And.intro rfl (Exists.intro _ (Exists.intro _ ⟨ResV.twoW rfl (.refl _) (.refl _), Sub.at [] rfl, rfl, rfl⟩))
    ·replace H := cnd_f c19 H
     refine AW.skip ?_
     show AW _ _ _ _ _ _
     refine AW.seq ?_
     obtain ⟨g27, H⟩ := grd_s H
     obtain ⟨g28, H⟩ := grd_s H
     obtain ⟨g29, H⟩ := grd_s H
     obtain ⟨g30, H⟩ := grd_s H
     obtain ⟨g31, H⟩ := grd_s H
     obtain ⟨g32, H⟩ := grd_s H
     obtain ⟨g33, H⟩ := grd_s H
     obtain ⟨g34, H⟩ := grd_s H
     obtain ⟨g35, H⟩ := grd_s H
     obtain ⟨g36, H⟩ := grd_s H
     refine AW.region ?_
     show AR _ _ _ _ _ [0, 1, 2, 3, 4, 5, 6, 7, 8, 9, 10, 11, 12, 13, 14, 15, 16, 17, 18, 19, 20, 21] _
     refine sS rfl rfl rfl (mv rfl) ?_
     refine sS rfl rfl rfl (g_quo rfl rfl g27) ?_
     refine sS rfl rfl rfl (g_add rfl rfl g28) ?_
     refine sS rfl rfl rfl (g_conv_to8 (by kernel_rfl) Tryz.underlying5 rfl) ?_
     refine sS rfl rfl rfl (mv rfl) ?_
     refine sS rfl rfl rfl (g_quo rfl rfl g29) ?_
     refine sS rfl rfl rfl (g_rem rfl rfl g30) ?_
     refine sS rfl rfl rfl (g_add rfl rfl g31) ?_
     refine sS rfl rfl rfl (g_conv_to8 (by kernel_rfl) Tryz.underlying5 rfl) ?_
     refine sS rfl rfl rfl (mv rfl) ?_
     refine sS rfl rfl rfl (g_quo rfl rfl g32) ?_
     refine sS rfl rfl rfl (g_rem rfl rfl g33) ?_
     refine sS rfl rfl rfl (g_add rfl rfl g34) ?_
     refine sS rfl rfl rfl (g_conv_to8 (by kernel_rfl) Tryz.underlying5 rfl) ?_
     refine sS rfl rfl rfl (mv rfl) ?_
     refine sS rfl rfl rfl (g_rem rfl rfl g35) ?_
     refine sS rfl rfl rfl (g_add rfl rfl g36) ?_
     refine sS rfl rfl rfl (g_conv_to8 (by kernel_rfl) Tryz.underlying5 rfl) ?_
     refine sR rfl rfl rfl (opR_buildE (E := Enc.byte) (bytes := 1) (xs := [.tmp 81, .tmp 86, .tmp 91, .tmp 95]) (l := ([Go.Av.toB (240 + (a1 / 262144)), Go.Av.toB (128 + ((a1 / 4096) % 64)), Go.Av.toB (128 + ((a1 / 64) % 64)), Go.Av.toB (128 + (a1 % 64))] : List UInt8)) Tryz.underlying36 (by kernel_rfl) rfl rfl (by decide) rfl rfl) ?_
     refine sS rfl rfl rfl (opS_conv_bytes_str Tryz.underlying36 Tryz.underlying5 Tryz.underlying9 rfl) ?_
     refine sS rfl rfl rfl (asg rfl) ?_
     refine sS rfl rfl rfl (asg rfl) ?_
     refine AR.nil ?_
     show AW _ _ _ _ _ _
     refine AW.ret ?_
     obtain ⟨rfl, rfl⟩ := res2 H
     exact And.intro rfl (Exists.intro _ (Exists.intro _ ⟨ResV.twoW rfl (.refl _) (.refl _), Sub.at [] rfl, rfl, rfl⟩))
set_option maxRecDepth 100000 in
set_option maxHeartbeats 1000000 in
theorem w_ref07_digit (F : Nat) (a1 : UInt8) (r2 : Int) (H : ref07_digit F a1 = some r2) : ACalls Tryz.prog 55 [u8 a1] [] (Ret (i64 r2) []) := by
 unfold ref07_digit at H
 refine ACalls.of_body Tryz.func55 rfl rfl ?_
 show AW _ _ 32 _ _ _
 refine AW.seq ?_
 refine AW.region ?_
 show AR _ _ _ _ _ [0] _
 refine sS rfl rfl rfl (asg rfl) ?_
 refine AR.nil ?_
 show AW _ _ _ _ _ _
 refine AW.seq ?_
 refine AW.seq ?_
 refine AW.region ?_
 show AR _ _ _ _ _ [0, 1, 2, 3, 4, 5] _
 refine sS rfl rfl rfl (mv rfl) ?_
 refine sS rfl rfl rfl (opS_ge rfl rfl) ?_
 refine sS rfl rfl rfl (mv rfl) ?_
 refine AR.meet (l := []) 8 (B ((decide (48 ≤ (a1.toNat : Int))) && (decide ((a1.toNat : Int) ≤ 57)))) (fun K => ?_) ?_
 ·rcases Bool.eq_false_or_eq_true (decide (48 ≤ (a1.toNat : Int))) with h3 | h3
  ·
   refine gT h3 rfl rfl rfl rfl rfl rfl (AO.ops rfl rfl (mv rfl) ?_)
   refine gT h3 rfl rfl rfl rfl rfl rfl (AO.ops rfl rfl (opS_le rfl rfl) ?_)
   refine sS rfl rfl rfl (opS_pick_t (av := .v _) rfl h3 rfl) ?_
   exact K _ 2 _ (B_congr (and_t h3)) rfl rfl
  ·
   refine gF h3 rfl rfl rfl rfl rfl ?_
   refine gF h3 rfl rfl rfl rfl rfl ?_
   refine sS rfl rfl rfl (opS_pick_f (av := .v _) rfl h3 rfl) ?_
   exact K _ 2 _ (B_congr (and_f h3)) rfl rfl
 refine AR.nil ?_
 show AW _ _ _ _ _ _
 refine AW.cond rfl (fun c4 => ?_) (fun c4 => ?_)
 ·replace H := cnd_t c4 H
  refine AW.seq ?_
  refine AW.region ?_
  show AR _ _ _ _ _ [0, 1, 2, 3] _
  refine sS rfl rfl rfl (mv rfl) ?_
  refine sS rfl rfl rfl (g_sub8 (a := a1) (b := 48) rfl rfl) ?_
  refine sS rfl rfl rfl (opS_conv_u8 (c := a1 - 48) (by kernel_rfl) Tryz.underlying3 rfl) ?_
  refine sS rfl rfl rfl (asg rfl) ?_
  refine AR.nil ?_
  show AW _ _ _ _ _ _
  refine AW.ret ?_
  obtain rfl := Option.some.inj H
  exact And.intro rfl (Exists.intro _ (Exists.intro _ ⟨ResV.oneW rfl (.refl _), Sub.at [] rfl, rfl, rfl⟩))
 ·replace H := cnd_f c4 H
  refine AW.skip ?_
  show AW _ _ _ _ _ _
  refine AW.seq ?_
  refine AW.seq ?_
  refine AW.region ?_
  show AR _ _ _ _ _ [0, 1, 2, 3, 4, 5] _
  refine sS rfl rfl rfl (mv rfl) ?_
  refine sS rfl rfl rfl (opS_ge rfl rfl) ?_
  refine sS rfl rfl rfl (mv rfl) ?_
  refine AR.meet (l := []) 17 (B ((decide (97 ≤ (a1.toNat : Int))) && (decide ((a1.toNat : Int) ≤ 102)))) (fun K => ?_) ?_
  ·rcases Bool.eq_false_or_eq_true (decide (97 ≤ (a1.toNat : Int))) with h5 | h5
   ·
    refine gT h5 rfl rfl rfl rfl rfl rfl (AO.ops rfl rfl (mv rfl) ?_)
    refine gT h5 rfl rfl rfl rfl rfl rfl (AO.ops rfl rfl (opS_le rfl rfl) ?_)
    refine sS rfl rfl rfl (opS_pick_t (av := .v _) rfl h5 rfl) ?_
    exact K _ 2 _ (B_congr (and_t h5)) rfl rfl
   ·
    refine gF h5 rfl rfl rfl rfl rfl ?_
    refine gF h5 rfl rfl rfl rfl rfl ?_
    refine sS rfl rfl rfl (opS_pick_f (av := .v _) rfl h5 rfl) ?_
    exact K _ 2 _ (B_congr (and_f h5)) rfl rfl
  refine AR.nil ?_
  show AW _ _ _ _ _ _
  refine AW.cond rfl (fun c6 => ?_) (fun c6 => ?_)
  ·replace H := cnd_t c6 H
   refine AW.seq ?_
   obtain ⟨g7, H⟩ := grd_s H
   refine AW.region ?_
   show AR _ _ _ _ _ [0, 1, 2, 3, 4] _
   refine sS rfl rfl rfl (mv rfl) ?_
   refine sS rfl rfl rfl (g_sub8 (a := a1) (b := 97) rfl rfl) ?_
   refine sS rfl rfl rfl (opS_conv_u8 (c := a1 - 97) (by kernel_rfl) Tryz.underlying3 rfl) ?_
   refine sS rfl rfl rfl (g_add rfl rfl g7) ?_
   refine sS rfl rfl rfl (asg rfl) ?_
   refine AR.nil ?_
   show AW _ _ _ _ _ _
   refine AW.ret ?_
   obtain rfl := Option.some.inj H
   exact And.intro rfl (Exists.intro _ (Exists.intro _ ⟨ResV.oneW rfl (.refl _), Sub.at [] rfl, rfl, rfl⟩))
  ·replace H := cnd_f c6 H
   refine AW.skip ?_
   show AW _ _ _ _ _ _
   refine AW.seq ?_
   refine AW.seq ?_
   refine AW.region ?_
   show AR _ _ _ _ _ [0, 1, 2, 3, 4, 5] _
   refine sS rfl rfl rfl (mv rfl) ?_
   refine sS rfl rfl rfl (opS_ge rfl rfl) ?_
   refine sS rfl rfl rfl (mv rfl) ?_
   refine AR.meet (l := []) 27 (B ((decide (65 ≤ (a1.toNat : Int))) && (decide ((a1.toNat : Int) ≤ 70)))) (fun K => ?_) ?_
   ·rcases Bool.eq_false_or_eq_true (decide (65 ≤ (a1.toNat : Int))) with h8 | h8
    ·
     refine gT h8 rfl rfl rfl rfl rfl rfl (AO.ops rfl rfl (mv rfl) ?_)
     refine gT h8 rfl rfl rfl rfl rfl rfl (AO.ops rfl rfl (opS_le rfl rfl) ?_)
     refine sS rfl rfl rfl (opS_pick_t (av := .v _) rfl h8 rfl) ?_
     exact K _ 2 _ (B_congr (and_t h8)) rfl rfl
    ·
     refine gF h8 rfl rfl rfl rfl rfl ?_
     refine gF h8 rfl rfl rfl rfl rfl ?_
     refine sS rfl rfl rfl (opS_pick_f (av := .v _) rfl h8 rfl) ?_
     exact K _ 2 _ (B_congr (and_f h8)) rfl rfl
   refine AR.nil ?_
   show AW _ _ _ _ _ _
   refine AW.cond rfl (fun c9 => ?_) (fun c9 => ?_)
   ·replace H := cnd_t c9 H
    refine AW.seq ?_
    obtain ⟨g10, H⟩ := grd_s H
    refine AW.region ?_
    show AR _ _ _ _ _ [0, 1, 2, 3, 4] _
    refine sS rfl rfl rfl (mv rfl) ?_
    refine sS rfl rfl rfl (g_sub8 (a := a1) (b := 65) rfl rfl) ?_
    refine sS rfl rfl rfl (opS_conv_u8 (c := a1 - 65) (by kernel_rfl) Tryz.underlying3 rfl) ?_
    refine sS rfl rfl rfl (g_add rfl rfl g10) ?_
    refine sS rfl rfl rfl (asg rfl) ?_
    refine AR.nil ?_
    show AW _ _ _ _ _ _
    refine AW.ret ?_
    obtain rfl := Option.some.inj H
    exact And.intro rfl (Exists.intro _ (Exists.intro _ ⟨ResV.oneW rfl (.refl _), Sub.at [] rfl, rfl, rfl⟩))
   ·replace H := cnd_f c9 H
    refine AW.skip ?_
    show AW _ _ _ _ _ _
    refine AW.seq ?_
    refine AW.region ?_
    show AR _ _ _ _ _ [0] _
    refine sS rfl rfl rfl (asg rfl) ?_
    refine AR.nil ?_
    show AW _ _ _ _ _ _
    refine AW.ret ?_
    obtain rfl := Option.some.inj H
    exact And.intro rfl (Exists.intro _ (Exists.intro _ ⟨ResV.oneW rfl (.refl _), Sub.at [] rfl, rfl, rfl⟩))
set_option maxRecDepth 100000 in
set_option maxHeartbeats 1000000 in
theorem w_ref07_number (F : Nat) (a1 : List UInt8) (a2 : Int) (r3 : Int) (H : ref07_number F a1 a2 = some r3) : ACalls Tryz.prog 41 [S a1, i64 a2] [] (Ret (i64 r3) []) := by
 unfold ref07_number at H
 refine ACalls.of_body Tryz.func41 rfl rfl ?_
 show AW _ _ 32 _ _ _
 refine AW.seq ?_
 refine AW.region ?_
 show AR _ _ _ _ _ [0] _
 refine sS rfl rfl rfl (asg rfl) ?_
 refine AR.nil ?_
 show AW _ _ _ _ _ _
 refine AW.seq ?_
 refine AW.region ?_
 show AR _ _ _ _ _ [0] _
 refine sS rfl rfl rfl (asg rfl) ?_
 refine AR.nil ?_
 show AW _ _ _ _ _ _
 refine AW.cut (X := Int) (fun y21 => ⟨[(0, S a1), (5, i64 y21)], [], []⟩) (fun y21 => ref07_number_j1 a1 y21 = some r3) ?_ ?_
 ·
  refine AW.seq ?_
  refine AW.region ?_
  show AR _ _ _ _ _ [0] _
  refine sS rfl rfl rfl (asg rfl) ?_
  refine AR.nil ?_
  show AW _ _ _ _ _ _
  refine AW.block ?_
  refine AW.loop (X := Nat × Int × Int) (fun (n7, y4, y5) => ⟨[(0, S a1), (1, i64 a2), (5, i64 y4), (6, i64 y5)], [], []⟩) (fun (n7, y4, y5) => ref07_number_L1 F a1 a2 n7 (y4, y5) = some r3) (fun (n7, y4, y5) => n7) (F, 0, 0) H (WK.at [] (.cons (.refl _) (.cons (.refl _) (.cons (.refl _) (.cons (.refl _) (.nil _))))) rfl) ?_
  rintro ⟨n7, y4, y5⟩ H
  obtain ⟨n7, rfl, H⟩ := loop_s H
  replace H : ref07_number_B1 F a1 a2 (ref07_number_L1 F a1 a2 n7) y4 y5 = some r3 := H
  unfold ref07_number_B1 at H
  show AW _ _ _ _ _ _
  refine AW.seq ?_
  refine AW.seq ?_
  refine AW.region ?_
  show AR _ _ _ _ _ [0, 1, 2, 3] _
  refine sS rfl rfl rfl (mv rfl) ?_
  refine sS rfl rfl rfl (mv rfl) ?_
  refine sS rfl rfl rfl (opS_len_str Tryz.underlying9 rfl) ?_
  refine sS rfl rfl rfl (opS_lt rfl rfl) ?_
  refine AR.nil ?_
  show AW _ _ _ _ _ _
  refine AW.cond rfl (fun c8 => ?_) (fun c8 => ?_)
  ·replace H := cnd_t c8 H
   refine AW.skip ?_
   show AW _ _ _ _ _ _
   refine AW.cut (X := Int) (fun y18 => ⟨[(0, S a1), (1, i64 a2), (5, i64 y18), (6, i64 y5)], [], []⟩) (fun y18 => ref07_number_j2 y5 (ref07_number_L1 F a1 a2 n7) y18 = some r3) ?_ ?_
   ·
    refine AW.block ?_
    refine AW.seq ?_
    obtain ⟨g9, H⟩ := grd_s H
    obtain ⟨x10, e11, H⟩ := lt_s H
    obtain ⟨x12, e13, H⟩ := bnd_s H
    refine AW.region ?_
    show AR _ _ _ _ _ [0, 1, 2, 3, 4] _
    refine sS rfl rfl rfl (mv rfl) ?_
    refine sS rfl rfl rfl (mv rfl) ?_
    refine sS rfl rfl rfl (g_index_str Tryz.underlying9 rfl rfl g9 e11) ?_
    refine AR.run rfl rfl (AO.callp rfl en55_refe rfl (w_ref07_digit F x10 x12 e13) ?_)
    refine sS rfl rfl rfl (asg rfl) ?_
    refine AR.nil ?_
    show AW _ _ _ _ _ _
    refine AW.seq ?_
    refine AW.seq ?_
    refine AW.region ?_
    show AR _ _ _ _ _ [0, 1, 2] _
    refine sS rfl rfl rfl (mv rfl) ?_
    refine sS rfl rfl rfl (mv rfl) ?_
    refine sS rfl rfl rfl (opS_ge rfl rfl) ?_
    refine AR.nil ?_
    show AW _ _ _ _ _ _
    refine AW.cond rfl (fun c14 => ?_) (fun c14 => ?_)
    ·replace H := cnd_t c14 H
     refine AW.seq ?_
     refine AW.region ?_
     show AR _ _ _ _ _ [0] _
     refine sS rfl rfl rfl (asg rfl) ?_
     refine AR.nil ?_
     show AW _ _ _ _ _ _
     refine AW.ret ?_
     obtain rfl := Option.some.inj H
     exact And.intro rfl (Exists.intro _ (Exists.intro _ ⟨ResV.oneW rfl (.refl _), Sub.at [] rfl, rfl, rfl⟩))
    ·replace H := cnd_f c14 H
     refine AW.skip ?_
     show AW _ _ _ _ _ _
     refine AW.seq ?_
     obtain ⟨g15, H⟩ := grd_s H
     obtain ⟨g16, H⟩ := grd_s H
     refine AW.region ?_
     show AR _ _ _ _ _ [0, 1, 2, 3, 4, 5] _
     refine sS rfl rfl rfl (mv rfl) ?_
     refine sS rfl rfl rfl (mv rfl) ?_
     refine sS rfl rfl rfl (g_mul rfl rfl g15) ?_
     refine sS rfl rfl rfl (mv rfl) ?_
     refine sS rfl rfl rfl (g_add rfl rfl g16) ?_
     refine sS rfl rfl rfl (asg rfl) ?_
     refine AR.nil ?_
     show AW _ _ _ _ _ _
     refine AW.seq ?_
     refine AW.region ?_
     show AR _ _ _ _ _ [0, 1] _
     refine sS rfl rfl rfl (mv rfl) ?_
     refine sS rfl rfl rfl (opS_gt rfl rfl) ?_
     refine AR.nil ?_
     show AW _ _ _ _ _ _
     refine AW.cond rfl (fun c17 => ?_) (fun c17 => ?_)
     ·replace H := cnd_t c17 H
      refine AW.region ?_
      show AR _ _ _ _ _ [0] _
      refine sS rfl rfl rfl (asg rfl) ?_
      refine AR.nil ?_
      exact Exists.intro 1114112 ⟨H, WK.at [] (.cons (.refl _) (.cons (.refl _) (.cons (.refl _) (.cons (.refl _) (.nil _))))) rfl⟩
     ·replace H := cnd_f c17 H
      refine AW.skip ?_
      exact Exists.intro ((a2 * y4) + x12) ⟨H, WK.at [] (.cons (.refl _) (.cons (.refl _) (.cons (.refl _) (.cons (.refl _) (.nil _))))) rfl⟩
   rintro y18 H
   replace H : ref07_number_j2 y5 (ref07_number_L1 F a1 a2 n7) y18 = some r3 := H
   unfold ref07_number_j2 at H
   show AW _ _ _ _ _ _
   obtain ⟨g20, H⟩ := grd_s H
   refine AW.region ?_
   show AR _ _ _ _ _ [0, 1, 2] _
   refine sS rfl rfl rfl (mv rfl) ?_
   refine sS rfl rfl rfl (g_add rfl rfl g20) ?_
   refine sS rfl rfl rfl (asg rfl) ?_
   refine AR.nil ?_
   exact Exists.intro (n7, y18, y5 + 1) ⟨H, Nat.lt_succ_self _, WK.at [] (.cons (.refl _) (.cons (.refl _) (.cons (.refl _) (.cons (.refl _) (.nil _))))) rfl⟩
  ·replace H := cnd_f c8 H
   refine AW.exit ?_
   exact Exists.intro y4 ⟨H, WK.at [] (.cons (.refl _) (.cons (.refl _) (.nil _))) rfl⟩
 rintro y21 H
 replace H : ref07_number_j1 a1 y21 = some r3 := H
 unfold ref07_number_j1 at H
 show AW _ _ _ _ _ _
 refine AW.seq ?_
 refine AW.seq ?_
 refine AW.region ?_
 show AR _ _ _ _ _ [0, 1, 2] _
 refine sS rfl rfl rfl (mv rfl) ?_
 refine sS rfl rfl rfl (opS_len_str Tryz.underlying9 rfl) ?_
 refine sS rfl rfl rfl (opS_eqi rfl rfl) ?_
 refine AR.nil ?_
 show AW _ _ _ _ _ _
 refine AW.cond rfl (fun c23 => ?_) (fun c23 => ?_)
 ·replace H := cnd_t c23 H
  refine AW.seq ?_
  refine AW.region ?_
  show AR _ _ _ _ _ [0] _
  refine sS rfl rfl rfl (asg rfl) ?_
  refine AR.nil ?_
  show AW _ _ _ _ _ _
  refine AW.ret ?_
  obtain rfl := Option.some.inj H
  exact And.intro rfl (Exists.intro _ (Exists.intro _ ⟨ResV.oneW rfl (.refl _), Sub.at [] rfl, rfl, rfl⟩))
 ·replace H := cnd_f c23 H
  refine AW.skip ?_
  show AW _ _ _ _ _ _
  refine AW.seq ?_
  refine AW.region ?_
  show AR _ _ _ _ _ [0, 1] _
  refine sS rfl rfl rfl (mv rfl) ?_
  refine sS rfl rfl rfl (asg rfl) ?_
  refine AR.nil ?_
  show AW _ _ _ _ _ _
  refine AW.ret ?_
  obtain rfl := Option.some.inj H
  exact And.intro rfl (Exists.intro _ (Exists.intro _ ⟨ResV.oneW rfl (.refl _), Sub.at [] rfl, rfl, rfl⟩))
set_option maxRecDepth 100000 in
set_option maxHeartbeats 1000000 in
theorem w_ref07_sign (F : Nat) (a1 : List UInt8) (r2 : List UInt8) (r3 : Bool) (H : ref07_sign F a1 = some (r2, r3)) : ACalls Tryz.prog 33 [S a1] [] (Ret (.tup [S r2, B r3]) []) := by
 unfold ref07_sign at H
 refine ACalls.of_body Tryz.func33 rfl rfl ?_
 show AW _ _ 42 _ _ _
 refine AW.seq ?_
 refine AW.region ?_
 show AR _ _ _ _ _ [0, 1] _
 refine sS rfl rfl rfl (asg rfl) ?_
 refine sS rfl rfl rfl (asg rfl) ?_
 refine AR.nil ?_
 show AW _ _ _ _ _ _
 refine AW.seq ?_
 refine AW.seq ?_
 refine AW.region ?_
 show AR _ _ _ _ _ [0] _
 refine sS rfl rfl rfl (mv rfl) ?_
 refine AR.nil ?_
 show AW _ _ _ _ _ _
 refine AW.block ?_
 refine AW.seq ?_
 refine AW.region ?_
 show AR _ _ _ _ _ [0, 1] _
 refine sS rfl rfl rfl (opS_eqs rfl rfl) ?_
 refine sS rfl rfl rfl (asg rfl) ?_
 refine AR.nil ?_
 show AW _ _ _ _ _ _
 refine AW.cond rfl (fun c4 => ?_) (fun c4 => ?_)
 ·replace H := cnd_t c4 H
  refine AW.seq ?_
  refine AW.region ?_
  show AR _ _ _ _ _ [0, 1] _
  refine sS rfl rfl rfl (asg rfl) ?_
  refine sS rfl rfl rfl (asg rfl) ?_
  refine AR.nil ?_
  show AW _ _ _ _ _ _
  refine AW.ret ?_
  obtain ⟨rfl, rfl⟩ := res2 H
  exact And.intro rfl (Exists.intro _ (Exists.intro _ ⟨ResV.twoW rfl (.refl _) (.refl _), Sub.at [] rfl, rfl, rfl⟩))
 ·replace H := cnd_f c4 H
  refine AW.seq ?_
  refine AW.region ?_
  show AR _ _ _ _ _ [0, 1] _
  refine sS rfl rfl rfl (opS_eqs rfl rfl) ?_
  refine sS rfl rfl rfl (asg rfl) ?_
  refine AR.nil ?_
  show AW _ _ _ _ _ _
  refine AW.cond rfl (fun c5 => ?_) (fun c5 => ?_)
  ·replace H := cnd_t c5 H
   refine AW.seq ?_
   refine AW.region ?_
   show AR _ _ _ _ _ [0, 1] _
   refine sS rfl rfl rfl (asg rfl) ?_
   refine sS rfl rfl rfl (asg rfl) ?_
   refine AR.nil ?_
   show AW _ _ _ _ _ _
   refine AW.ret ?_
   obtain ⟨rfl, rfl⟩ := res2 H
   exact And.intro rfl (Exists.intro _ (Exists.intro _ ⟨ResV.twoW rfl (.refl _) (.refl _), Sub.at [] rfl, rfl, rfl⟩))
  ·replace H := cnd_f c5 H
   refine AW.seq ?_
   refine AW.region ?_
   show AR _ _ _ _ _ [0, 1] _
   refine sS rfl rfl rfl (opS_eqs rfl rfl) ?_
   refine sS rfl rfl rfl (asg rfl) ?_
   refine AR.nil ?_
   show AW _ _ _ _ _ _
   refine AW.cond rfl (fun c6 => ?_) (fun c6 => ?_)
   ·replace H := cnd_t c6 H
    refine AW.seq ?_
    refine AW.region ?_
    show AR _ _ _ _ _ [0, 1] _
    refine sS rfl rfl rfl (asg rfl) ?_
    refine sS rfl rfl rfl (asg rfl) ?_
    refine AR.nil ?_
    show AW _ _ _ _ _ _
    refine AW.ret ?_
    obtain ⟨rfl, rfl⟩ := res2 H
    exact And.intro rfl (Exists.intro _ (Exists.intro _ ⟨ResV.twoW rfl (.refl _) (.refl _), Sub.at [] rfl, rfl, rfl⟩))
   ·replace H := cnd_f c6 H
    refine AW.seq ?_
    refine AW.region ?_
    show AR _ _ _ _ _ [0, 1] _
    refine sS rfl rfl rfl (opS_eqs rfl rfl) ?_
    refine sS rfl rfl rfl (asg rfl) ?_
    refine AR.nil ?_
    show AW _ _ _ _ _ _
    refine AW.cond rfl (fun c7 => ?_) (fun c7 => ?_)
    ·replace H := cnd_t c7 H
     refine AW.seq ?_
     refine AW.region ?_
     show AR _ _ _ _ _ [0, 1] _
     refine sS rfl rfl rfl (asg rfl) ?_
     refine sS rfl rfl rfl (asg rfl) ?_
     refine AR.nil ?_
     show AW _ _ _ _ _ _
     refine AW.ret ?_
     obtain ⟨rfl, rfl⟩ := res2 H
     exact And.intro rfl (Exists.intro _ (Exists.intro _ ⟨ResV.twoW rfl (.refl _) (.refl _), Sub.at [] rfl, rfl, rfl⟩))
    ·replace H := cnd_f c7 H
     refine AW.seq ?_
     refine AW.region ?_
     show AR _ _ _ _ _ [0, 1] _
     refine sS rfl rfl rfl (opS_eqs rfl rfl) ?_
     refine sS rfl rfl rfl (asg rfl) ?_
     refine AR.nil ?_
     show AW _ _ _ _ _ _
     refine AW.cond rfl (fun c8 => ?_) (fun c8 => ?_)
     ·replace H := cnd_t c8 H
      refine AW.seq ?_
      refine AW.region ?_
      show AR _ _ _ _ _ [0, 1] _
      refine sS rfl rfl rfl (asg rfl) ?_
      refine sS rfl rfl rfl (asg rfl) ?_
      refine AR.nil ?_
      show AW _ _ _ _ _ _
      refine AW.ret ?_
      obtain ⟨rfl, rfl⟩ := res2 H
      exact And.intro rfl (Exists.intro _ (Exists.intro _ ⟨ResV.twoW rfl (.refl _) (.refl _), Sub.at [] rfl, rfl, rfl⟩))
     ·replace H := cnd_f c8 H
      refine AW.skip ?_
      show AW _ _ _ _ _ _
      refine AW.seq ?_
      refine AW.seq ?_
      obtain ⟨g10, H⟩ := grdc_s H
      obtain ⟨x11, e12, H⟩ := lt_s H
      refine AW.region ?_
      show AR _ _ _ _ _ [0, 1, 2, 3, 4, 5, 6, 7] _
      refine sS rfl rfl rfl (mv rfl) ?_
      refine sS rfl rfl rfl (opS_len_str Tryz.underlying9 rfl) ?_
      refine sS rfl rfl rfl (opS_lt rfl rfl) ?_
      refine sS rfl rfl rfl (mv rfl) ?_
      refine AR.meet (l := []) 25 (B ((decide ((a1.length : Int) < 2)) || (!decide (x11 = 35)))) (fun K => ?_) ?_
      ·rcases Bool.eq_false_or_eq_true (decide ((a1.length : Int) < 2)) with h9 | h9
       ·
        refine gF h9 rfl rfl rfl rfl rfl ?_
        refine gF h9 rfl rfl rfl rfl rfl ?_
        refine gF h9 rfl rfl rfl rfl rfl ?_
        refine sS rfl rfl rfl (opS_pick_t (av := .v _) rfl h9 rfl) ?_
        exact K _ 3 _ (B_congr (or_t h9)) rfl rfl
       ·
        refine gT h9 rfl rfl rfl rfl rfl rfl (AO.ops rfl rfl (mv rfl) ?_)
        refine gT h9 rfl rfl rfl rfl rfl rfl (AO.ops rfl rfl (g_index_str Tryz.underlying9 rfl rfl (g10 (nf h9)) e12) ?_)
        refine gT h9 rfl rfl rfl rfl rfl rfl (AO.ops rfl rfl (g_ne8 (a := x11) (b := 35) rfl rfl) ?_)
        refine sS rfl rfl rfl (opS_pick_f (av := .v _) rfl h9 rfl) ?_
        exact K _ 3 _ (B_congr (or_f h9)) rfl rfl
      refine AR.nil ?_
      show AW _ _ _ _ _ _
      refine AW.cond rfl (fun c13 => ?_) (fun c13 => ?_)
      ·replace H := cnd_t c13 H
       refine AW.seq ?_
       refine AW.region ?_
       show AR _ _ _ _ _ [0, 1] _
       refine sS rfl rfl rfl (asg rfl) ?_
       refine sS rfl rfl rfl (asg rfl) ?_
       refine AR.nil ?_
       show AW _ _ _ _ _ _
       refine AW.ret ?_
       obtain ⟨rfl, rfl⟩ := res2 H
       exact And.intro rfl (Exists.intro _ (Exists.intro _ ⟨ResV.twoW rfl (.refl _) (.refl _), Sub.at [] rfl, rfl, rfl⟩))
      ·replace H := cnd_f c13 H
       refine AW.skip ?_
       show AW _ _ _ _ _ _
       refine AW.seq ?_
       obtain ⟨g14, H⟩ := grd_s H
       obtain ⟨x15, e16, H⟩ := lt_s H
       obtain ⟨x17, e18, H⟩ := bnd_s H
       refine AW.region ?_
       show AR _ _ _ _ _ [0, 1, 2, 3] _
       refine sS rfl rfl rfl (mv rfl) ?_
       refine sS rfl rfl rfl (g_from_str Tryz.underlying9 rfl rfl g14 e16) ?_
       refine AR.run rfl rfl (AO.callp rfl en41_refe rfl (w_ref07_number F x15 10 x17 e18) ?_)
       refine sS rfl rfl rfl (asg rfl) ?_
       refine AR.nil ?_
       show AW _ _ _ _ _ _
       refine AW.cut (X := Int) (fun y28 => ⟨[(4, i64 y28)], [], []⟩) (fun y28 => ref07_sign_j1 F y28 = some (r2, r3)) ?_ ?_
       ·
        refine AW.seq ?_
        obtain ⟨g19, H⟩ := grd_s H
        obtain ⟨x20, e21, H⟩ := lt_s H
        refine AW.region ?_
        show AR _ _ _ _ _ [0, 1, 2] _
        refine sS rfl rfl rfl (mv rfl) ?_
        refine sS rfl rfl rfl (g_index_str Tryz.underlying9 rfl rfl g19 e21) ?_
        refine sS rfl rfl rfl (g_eq8 (a := x20) (b := 120) rfl rfl) ?_
        refine AR.nil ?_
        show AW _ _ _ _ _ _
        refine AW.cond rfl (fun c22 => ?_) (fun c22 => ?_)
        ·replace H := cnd_t c22 H
         obtain ⟨g23, H⟩ := grd_s H
         obtain ⟨x24, e25, H⟩ := lt_s H
         obtain ⟨x26, e27, H⟩ := bnd_s H
         refine AW.region ?_
         show AR _ _ _ _ _ [0, 1, 2, 3] _
         refine sS rfl rfl rfl (mv rfl) ?_
         refine sS rfl rfl rfl (g_from_str Tryz.underlying9 rfl rfl g23 e25) ?_
         refine AR.run rfl rfl (AO.callp rfl en41_refe rfl (w_ref07_number F x24 16 x26 e27) ?_)
         refine sS rfl rfl rfl (asg rfl) ?_
         refine AR.nil ?_
         exact Exists.intro x26 ⟨H, WK.at [] (.cons (.refl _) (.nil _)) rfl⟩
        ·replace H := cnd_f c22 H
         refine AW.skip ?_
         exact Exists.intro x17 ⟨H, WK.at [] (.cons (.refl _) (.nil _)) rfl⟩
       rintro y28 H
       replace H : ref07_sign_j1 F y28 = some (r2, r3) := H
       unfold ref07_sign_j1 at H
       show AW _ _ _ _ _ _
       refine AW.seq ?_
       obtain ⟨x30, x31, e32, H⟩ := bnd2_s H
       refine AW.region ?_
       show AR _ _ _ _ _ [0, 1, 2, 3, 4, 5, 6] _
       refine sS rfl rfl rfl (mv rfl) ?_
       refine AR.run rfl rfl (AO.callp rfl en13_refe rfl (w_ref07_Rune F y28 x30 x31 e32) ?_)
       refine sS rfl rfl rfl (opS_move (av := .tup _) rfl) ?_
       refine sS rfl rfl rfl (opS_extract (av := .v _) rfl rfl) ?_
       refine sS rfl rfl rfl (opS_extract (av := .v _) rfl rfl) ?_
       refine sS rfl rfl rfl (asg rfl) ?_
       refine sS rfl rfl rfl (asg rfl) ?_
       refine AR.nil ?_
       show AW _ _ _ _ _ _
       refine AW.seq ?_
       refine AW.region ?_
       show AR _ _ _ _ _ [0, 1, 2, 3] _
       refine sS rfl rfl rfl (mv rfl) ?_
       refine sS rfl rfl rfl (mv rfl) ?_
       refine sS rfl rfl rfl (asg rfl) ?_
       refine sS rfl rfl rfl (asg rfl) ?_
       refine AR.nil ?_
       show AW _ _ _ _ _ _
       refine AW.ret ?_
       obtain ⟨rfl, rfl⟩ := res2 H
       exact And.intro rfl (Exists.intro _ (Exists.intro _ ⟨ResV.twoW rfl (.refl _) (.refl _), Sub.at [] rfl, rfl, rfl⟩))
set_option maxRecDepth 100000 in
set_option maxHeartbeats 1000000 in
theorem w_ref07_body (F : Nat) (a1 : List UInt8) (a2 : Int) (r3 : List UInt8) (r4 : Bool) (H : ref07_body F a1 a2 = some (r3, r4)) : ACalls Tryz.prog 32 [S a1, i64 a2] [] (Ret (.tup [S r3, B r4]) []) := by
 unfold ref07_body at H
 refine ACalls.of_body Tryz.func32 rfl rfl ?_
 show AW _ _ 38 _ _ _
 refine AW.seq ?_
 refine AW.region ?_
 show AR _ _ _ _ _ [0, 1] _
 refine sS rfl rfl rfl (asg rfl) ?_
 refine sS rfl rfl rfl (asg rfl) ?_
 refine AR.nil ?_
 show AW _ _ _ _ _ _
 refine AW.cut (X := Unit) (fun _ => ⟨[], [], []⟩) (fun _ => ref07_body_j1 = some (r3, r4)) ?_ ?_
 ·
  refine AW.seq ?_
  obtain ⟨g5, H⟩ := grd_s H
  refine AW.region ?_
  show AR _ _ _ _ _ [0, 1, 2] _
  refine sS rfl rfl rfl (mv rfl) ?_
  refine sS rfl rfl rfl (g_add rfl rfl g5) ?_
  refine sS rfl rfl rfl (asg rfl) ?_
  refine AR.nil ?_
  show AW _ _ _ _ _ _
  refine AW.block ?_
  refine AW.loop (X := Nat × Int) (fun (n8, y6) => ⟨[(0, S a1), (1, i64 a2), (6, i64 y6)], [], []⟩) (fun (n8, y6) => ref07_body_L1 a1 a2 n8 y6 = some (r3, r4)) (fun (n8, y6) => n8) (F, a2 + 1) H (WK.at [] (.cons (.refl _) (.cons (.refl _) (.cons (.refl _) (.nil _)))) rfl) ?_
  rintro ⟨n8, y6⟩ H
  obtain ⟨n8, rfl, H⟩ := loop_s H
  replace H : ref07_body_B1 a1 a2 (ref07_body_L1 a1 a2 n8) y6 = some (r3, r4) := H
  unfold ref07_body_B1 at H
  show AW _ _ _ _ _ _
  refine AW.seq ?_
  refine AW.seq ?_
  obtain ⟨g10, H⟩ := grdc_s H
  refine AW.region ?_
  show AR _ _ _ _ _ [0, 1, 2, 3, 4, 5, 6, 7, 8, 9] _
  refine sS rfl rfl rfl (mv rfl) ?_
  refine sS rfl rfl rfl (mv rfl) ?_
  refine sS rfl rfl rfl (opS_len_str Tryz.underlying9 rfl) ?_
  refine sS rfl rfl rfl (opS_lt rfl rfl) ?_
  refine sS rfl rfl rfl (mv rfl) ?_
  refine AR.meet (l := []) 18 (B ((decide (y6 < (a1.length : Int))) && (decide (y6 ≤ a2 + 11)))) (fun K => ?_) ?_
  ·rcases Bool.eq_false_or_eq_true (decide (y6 < (a1.length : Int))) with h9 | h9
   ·
    refine gT h9 rfl rfl rfl rfl rfl rfl (AO.ops rfl rfl (mv rfl) ?_)
    refine gT h9 rfl rfl rfl rfl rfl rfl (AO.ops rfl rfl (mv rfl) ?_)
    refine gT h9 rfl rfl rfl rfl rfl rfl (AO.ops rfl rfl (g_add rfl rfl (g10 h9)) ?_)
    refine gT h9 rfl rfl rfl rfl rfl rfl (AO.ops rfl rfl (opS_le rfl rfl) ?_)
    refine sS rfl rfl rfl (opS_pick_t (av := .v _) rfl h9 rfl) ?_
    exact K _ 4 _ (B_congr (and_t h9)) rfl rfl
   ·
    refine gF h9 rfl rfl rfl rfl rfl ?_
    refine gF h9 rfl rfl rfl rfl rfl ?_
    refine gF h9 rfl rfl rfl rfl rfl ?_
    refine gF h9 rfl rfl rfl rfl rfl ?_
    refine sS rfl rfl rfl (opS_pick_f (av := .v _) rfl h9 rfl) ?_
    exact K _ 4 _ (B_congr (and_f h9)) rfl rfl
  refine AR.nil ?_
  show AW _ _ _ _ _ _
  refine AW.cond rfl (fun c11 => ?_) (fun c11 => ?_)
  ·replace H := cnd_t c11 H
   refine AW.skip ?_
   show AW _ _ _ _ _ _
   refine AW.seq ?_
   refine AW.block ?_
   refine AW.seq ?_
   refine AW.seq ?_
   obtain ⟨g12, H⟩ := grd_s H
   obtain ⟨x13, e14, H⟩ := lt_s H
   refine AW.region ?_
   show AR _ _ _ _ _ [0, 1, 2, 3] _
   refine sS rfl rfl rfl (mv rfl) ?_
   refine sS rfl rfl rfl (mv rfl) ?_
   refine sS rfl rfl rfl (g_index_str Tryz.underlying9 rfl rfl g12 e14) ?_
   refine sS rfl rfl rfl (g_eq8 (a := x13) (b := 38) rfl rfl) ?_
   refine AR.nil ?_
   show AW _ _ _ _ _ _
   refine AW.cond rfl (fun c15 => ?_) (fun c15 => ?_)
   ·replace H := cnd_t c15 H
    refine AW.seq ?_
    refine AW.region ?_
    show AR _ _ _ _ _ [0, 1] _
    refine sS rfl rfl rfl (asg rfl) ?_
    refine sS rfl rfl rfl (asg rfl) ?_
    refine AR.nil ?_
    show AW _ _ _ _ _ _
    refine AW.ret ?_
    obtain ⟨rfl, rfl⟩ := res2 H
    exact And.intro rfl (Exists.intro _ (Exists.intro _ ⟨ResV.twoW rfl (.refl _) (.refl _), Sub.at [] rfl, rfl, rfl⟩))
   ·replace H := cnd_f c15 H
    refine AW.skip ?_
    show AW _ _ _ _ _ _
    refine AW.seq ?_
    obtain ⟨g16, H⟩ := grd_s H
    obtain ⟨x17, e18, H⟩ := lt_s H
    refine AW.region ?_
    show AR _ _ _ _ _ [0, 1, 2, 3] _
    refine sS rfl rfl rfl (mv rfl) ?_
    refine sS rfl rfl rfl (mv rfl) ?_
    refine sS rfl rfl rfl (g_index_str Tryz.underlying9 rfl rfl g16 e18) ?_
    refine sS rfl rfl rfl (g_eq8 (a := x17) (b := 59) rfl rfl) ?_
    refine AR.nil ?_
    show AW _ _ _ _ _ _
    refine AW.cond rfl (fun c19 => ?_) (fun c19 => ?_)
    ·replace H := cnd_t c19 H
     refine AW.seq ?_
     obtain ⟨g20, H⟩ := grd_s H
     obtain ⟨g21, H⟩ := grd_s H
     obtain ⟨x22, e23, H⟩ := lt_s H
     obtain ⟨g24, H⟩ := grd_s H
     refine AW.region ?_
     show AR _ _ _ _ _ [0, 1, 2, 3, 4, 5, 6, 7, 8, 9, 10] _
     refine sS rfl rfl rfl (mv rfl) ?_
     refine sS rfl rfl rfl (mv rfl) ?_
     refine sS rfl rfl rfl (g_add rfl rfl g20) ?_
     refine sS rfl rfl rfl (mv rfl) ?_
     refine sS rfl rfl rfl (g_slice_str Tryz.underlying9 rfl rfl rfl g21 e23) ?_
     refine sS rfl rfl rfl (mv rfl) ?_
     refine sS rfl rfl rfl (mv rfl) ?_
     refine sS rfl rfl rfl (g_add rfl rfl g24) ?_
     refine sS rfl rfl rfl (opS_gt rfl rfl) ?_
     refine sS rfl rfl rfl (asg rfl) ?_
     refine sS rfl rfl rfl (asg rfl) ?_
     refine AR.nil ?_
     show AW _ _ _ _ _ _
     refine AW.ret ?_
     obtain ⟨rfl, rfl⟩ := res2 H
     exact And.intro rfl (Exists.intro _ (Exists.intro _ ⟨ResV.twoW rfl (.refl _) (.refl _), Sub.at [] rfl, rfl, rfl⟩))
    ·replace H := cnd_f c19 H
     refine AW.skip ?_
     show AW _ _ _ _ _ _
     obtain ⟨g25, H⟩ := grd_s H
     refine AW.region ?_
     show AR _ _ _ _ _ [0, 1, 2] _
     refine sS rfl rfl rfl (mv rfl) ?_
     refine sS rfl rfl rfl (g_add rfl rfl g25) ?_
     refine sS rfl rfl rfl (asg rfl) ?_
     refine AR.nil ?_
     exact Exists.intro (n8, y6 + 1) ⟨H, Nat.lt_succ_self _, WK.at [] (.cons (.refl _) (.cons (.refl _) (.cons (.refl _) (.nil _)))) rfl⟩
  ·replace H := cnd_f c11 H
   refine AW.exit ?_
   exact Exists.intro () ⟨H, WK.at [] (.nil _) rfl⟩
 rintro _ H
 replace H : ref07_body_j1 = some (r3, r4) := H
 unfold ref07_body_j1 at H
 show AW _ _ _ _ _ _
 refine AW.seq ?_
 refine AW.region ?_
 show AR _ _ _ _ _ [0, 1] _
 refine sS rfl rfl rfl (asg rfl) ?_
 refine sS rfl rfl rfl (asg rfl) ?_
 refine AR.nil ?_
 show AW _ _ _ _ _ _
 refine AW.ret ?_
 obtain ⟨rfl, rfl⟩ := res2 H
 exact And.intro rfl (Exists.intro _ (Exists.intro _ ⟨ResV.twoW rfl (.refl _) (.refl _), Sub.at [] rfl, rfl, rfl⟩))
set_option maxRecDepth 100000 in
set_option maxHeartbeats 1000000 in
theorem w_ref07_gone (F : Nat) (a1 : List UInt8) (r2 : List UInt8) (r3 : Bool) (H : ref07_gone F a1 = some (r2, r3)) : ACalls Tryz.prog 23 [S a1] [] (Ret (.tup [S r2, B r3]) []) := by
 unfold ref07_gone at H
 refine ACalls.of_body Tryz.func23 rfl rfl ?_
 show AW _ _ 53 _ _ _
 refine AW.seq ?_
 refine AW.region ?_
 show AR _ _ _ _ _ [0, 1] _
 refine sS rfl rfl rfl (asg rfl) ?_
 refine sS rfl rfl rfl (asg rfl) ?_
 refine AR.nil ?_
 show AW _ _ _ _ _ _
 refine AW.seq ?_
 refine AW.region ?_
 show AR _ _ _ _ _ [0] _
 refine sS rfl rfl rfl (asg rfl) ?_
 refine AR.nil ?_
 show AW _ _ _ _ _ _
 refine AW.nil_grows 4 1 5 rfl fun t4 => ?_
 show AW _ _ _ _ _ ⟨(4, slE Enc.byte [] (some t4)) :: _, _, _⟩
 refine AW.seq ?_
 refine AW.region ?_
 show AR _ _ _ _ _ [0] _
 refine sS rfl rfl rfl (asg rfl) ?_
 refine AR.nil ?_
 show AW _ _ _ _ _ _
 refine AW.cut (X := (List UInt8) × Nat × Bool) (fun (y40, t41, y42) => ⟨[(4, slE Enc.byte y40 (some t41)), (5, B y42)], [], [.tok t41 5]⟩) (fun (y40, t41, y42) => ref07_gone_j1 y40 y42 = some (r2, r3)) ?_ ?_
 ·
  refine AW.seq ?_
  refine AW.region ?_
  show AR _ _ _ _ _ [0] _
  refine sS rfl rfl rfl (asg rfl) ?_
  refine AR.nil ?_
  show AW _ _ _ _ _ _
  refine AW.block ?_
  refine AW.loop (X := Nat × (List UInt8) × Nat × Bool × Int) (fun (n10, y5, t6, y7, y8) => ⟨[(0, S a1), (4, slE Enc.byte y5 (some t6)), (5, B y7), (6, i64 y8)], [], [.tok t6 5]⟩) (fun (n10, y5, t6, y7, y8) => ref07_gone_L1 F a1 n10 (y5, y7, y8) = some (r2, r3)) (fun (n10, y5, t6, y7, y8) => n10) (F, [], t4, true, 0) H (WK.at [0] (.cons (.refl _) (.cons (.refl _) (.cons (.refl _) (.cons (.refl _) (.nil _))))) rfl) ?_
  rintro ⟨n10, y5, t6, y7, y8⟩ H
  obtain ⟨n10, rfl, H⟩ := loop_s H
  replace H : ref07_gone_B1 F a1 (ref07_gone_L1 F a1 n10) y5 y7 y8 = some (r2, r3) := H
  unfold ref07_gone_B1 at H
  show AW _ _ _ _ _ _
  refine AW.seq ?_
  refine AW.seq ?_
  refine AW.region ?_
  show AR _ _ _ _ _ [0, 1, 2, 3] _
  refine sS rfl rfl rfl (mv rfl) ?_
  refine sS rfl rfl rfl (mv rfl) ?_
  refine sS rfl rfl rfl (opS_len_str Tryz.underlying9 rfl) ?_
  refine sS rfl rfl rfl (opS_lt rfl rfl) ?_
  refine AR.nil ?_
  show AW _ _ _ _ _ _
  refine AW.cond rfl (fun c11 => ?_) (fun c11 => ?_)
  ·replace H := cnd_t c11 H
   refine AW.skip ?_
   show AW _ _ _ _ _ _
   refine AW.block ?_
   refine AW.cut (X := Bool) (fun y30 => ⟨[(0, S a1), (4, slE Enc.byte y5 (some t6)), (5, B y30), (6, i64 y8)], [], [.tok t6 5]⟩) (fun y30 => ref07_gone_j2 a1 y5 y8 (ref07_gone_L1 F a1 n10) y30 = some (r2, r3)) ?_ ?_
   ·
    refine AW.seq ?_
    obtain ⟨g12, H⟩ := grd_s H
    obtain ⟨x13, e14, H⟩ := lt_s H
    refine AW.region ?_
    show AR _ _ _ _ _ [0, 1, 2, 3] _
    refine sS rfl rfl rfl (mv rfl) ?_
    refine sS rfl rfl rfl (mv rfl) ?_
    refine sS rfl rfl rfl (g_index_str Tryz.underlying9 rfl rfl g12 e14) ?_
    refine sS rfl rfl rfl (g_eq8 (a := x13) (b := 38) rfl rfl) ?_
    refine AR.nil ?_
    show AW _ _ _ _ _ _
    refine AW.cond rfl (fun c15 => ?_) (fun c15 => ?_)
    ·replace H := cnd_t c15 H
     refine AW.seq ?_
     obtain ⟨x16, x17, e18, H⟩ := bnd2_s H
     refine AW.region ?_
     show AR _ _ _ _ _ [0, 1, 2, 3, 4, 5, 6, 7] _
     refine sS rfl rfl rfl (mv rfl) ?_
     refine sS rfl rfl rfl (mv rfl) ?_
     refine AR.run rfl rfl (AO.callp rfl en32_refe rfl (w_ref07_body F a1 y8 x16 x17 e18) ?_)
     refine sS rfl rfl rfl (opS_move (av := .tup _) rfl) ?_
     refine sS rfl rfl rfl (opS_extract (av := .v _) rfl rfl) ?_
     refine sS rfl rfl rfl (opS_extract (av := .v _) rfl rfl) ?_
     refine sS rfl rfl rfl (asg rfl) ?_
     refine sS rfl rfl rfl (asg rfl) ?_
     refine AR.nil ?_
     show AW _ _ _ _ _ _
     refine AW.seq ?_
     obtain ⟨x19, x20, e21, H⟩ := bnd2_s H
     refine AW.region ?_
     show AR _ _ _ _ _ [0, 1, 2, 3, 4, 5, 6] _
     refine sS rfl rfl rfl (mv rfl) ?_
     refine AR.run rfl rfl (AO.callp rfl en33_refe rfl (w_ref07_sign F x16 x19 x20 e21) ?_)
     refine sS rfl rfl rfl (opS_move (av := .tup _) rfl) ?_
     refine sS rfl rfl rfl (opS_extract (av := .v _) rfl rfl) ?_
     refine sS rfl rfl rfl (opS_extract (av := .v _) rfl rfl) ?_
     refine sS rfl rfl rfl (asg rfl) ?_
     refine sS rfl rfl rfl (asg rfl) ?_
     refine AR.nil ?_
     show AW _ _ _ _ _ _
     refine AW.seq ?_
     refine AW.seq ?_
     refine AW.region ?_
     show AR _ _ _ _ _ [0, 1, 2, 3] _
     refine sS rfl rfl rfl (mv rfl) ?_
     refine sS rfl rfl rfl (mv rfl) ?_
     refine AR.meet (l := []) 33 (B (x17 && x20)) (fun K => ?_) ?_
     ·rcases Bool.eq_false_or_eq_true x17 with h22 | h22
      ·
       refine gT h22 rfl rfl rfl rfl rfl rfl (AO.ops rfl rfl (mv rfl) ?_)
       refine sS rfl rfl rfl (opS_pick_t (av := .v _) rfl h22 rfl) ?_
       exact K _ 1 _ (B_congr (and_t h22)) rfl rfl
      ·
       refine gF h22 rfl rfl rfl rfl rfl ?_
       refine sS rfl rfl rfl (opS_pick_f (av := .v _) rfl h22 rfl) ?_
       exact K _ 1 _ (B_congr (and_f h22)) rfl rfl
     refine AR.nil ?_
     show AW _ _ _ _ _ _
     refine AW.cond rfl (fun c23 => ?_) (fun c23 => ?_)
     ·replace H := cnd_t c23 H
      refine AW.seq ?_
      obtain ⟨g25, H⟩ := grd_s H
      obtain ⟨x26, e27, H⟩ := lt_s H
      refine AW.region ?_
      show AR _ _ _ _ _ [0, 1, 2, 3] _
      refine sS rfl rfl rfl (opS_move (av := slE _ _ _) rfl) ?_
      refine sS rfl rfl rfl (mv rfl) ?_
      refine sX rfl rfl rfl (g_append_str (bytes := 1) 0 Tryz.underlying36 Tryz.underlying9 rfl (by kernel_rfl) rfl rfl rfl rfl g25 e27) ?_
      rintro _ _ ⟨t24, rfl, rfl⟩
      refine sS rfl rfl rfl (opS_assign (av := slE _ _ _) rfl) ?_
      refine AR.nil ?_
      show AW _ _ _ _ _ _
      refine AW.seq ?_
      obtain ⟨g28, H⟩ := grd_s H
      obtain ⟨g29, H⟩ := grd_s H
      refine AW.region ?_
      show AR _ _ _ _ _ [0, 1, 2, 3, 4, 5] _
      refine sS rfl rfl rfl (mv rfl) ?_
      refine sS rfl rfl rfl (mv rfl) ?_
      refine sS rfl rfl rfl (opS_len_str Tryz.underlying9 rfl) ?_
      refine sS rfl rfl rfl (g_add rfl rfl g28) ?_
      refine sS rfl rfl rfl (g_add rfl rfl g29) ?_
      refine sS rfl rfl rfl (asg rfl) ?_
      refine AR.nil ?_
      show AW _ _ _ _ _ _
      refine AW.exit ?_
      exact Exists.intro (n10, x26, t24, y7, (y8 + (x16.length : Int)) + 2) ⟨H, Nat.lt_succ_self _, WK.at [0] (.cons (.refl _) (.cons (.refl _) (.cons (.refl _) (.cons (.refl _) (.nil _))))) rfl⟩
     ·replace H := cnd_f c23 H
      refine AW.skip ?_
      show AW _ _ _ _ _ _
      refine AW.region ?_
      show AR _ _ _ _ _ [0] _
      refine sS rfl rfl rfl (asg rfl) ?_
      refine AR.nil ?_
      exact Exists.intro false ⟨H, WK.at [0] (.cons (.refl _) (.cons (.refl _) (.cons (.refl _) (.cons (.refl _) (.nil _))))) rfl⟩
    ·replace H := cnd_f c15 H
     refine AW.skip ?_
     exact Exists.intro y7 ⟨H, WK.at [0] (.cons (.refl _) (.cons (.refl _) (.cons (.refl _) (.cons (.refl _) (.nil _))))) rfl⟩
   rintro y30 H
   replace H : ref07_gone_j2 a1 y5 y8 (ref07_gone_L1 F a1 n10) y30 = some (r2, r3) := H
   unfold ref07_gone_j2 at H
   show AW _ _ _ _ _ _
   refine AW.seq ?_
   obtain ⟨g32, H⟩ := grd_s H
   obtain ⟨x33, e34, H⟩ := lt_s H
   obtain ⟨g36, H⟩ := grd_s H
   obtain ⟨x37, e38, H⟩ := lt_s H
   refine AW.region ?_
   show AR _ _ _ _ _ [0, 1, 2, 3, 4, 5, 6] _
   refine sS rfl rfl rfl (opS_move (av := slE _ _ _) rfl) ?_
   refine sS rfl rfl rfl (mv rfl) ?_
   refine sS rfl rfl rfl (mv rfl) ?_
   refine sS rfl rfl rfl (g_index_str Tryz.underlying9 rfl rfl g32 e34) ?_
   refine sR rfl rfl rfl (opR_buildE (E := Enc.byte) (bytes := 1) (xs := [.tmp 45]) (l := ([x33] : List UInt8)) Tryz.underlying36 (by kernel_rfl) rfl rfl (by decide) rfl rfl) ?_
   refine sX rfl rfl rfl (g_append (E := Enc.byte) (bytes := 1) 0 Tryz.underlying36 Tryz.underlying36 rfl (by kernel_rfl) rfl rfl rfl rfl g36 e38) ?_
   rintro _ _ ⟨t35, rfl, rfl⟩
   refine sS rfl rfl rfl (opS_assign (av := slE _ _ _) rfl) ?_
   refine AR.nil ?_
   show AW _ _ _ _ _ _
   obtain ⟨g39, H⟩ := grd_s H
   refine AW.region ?_
   show AR _ _ _ _ _ [0, 1, 2] _
   refine sS rfl rfl rfl (mv rfl) ?_
   refine sS rfl rfl rfl (g_add rfl rfl g39) ?_
   refine sS rfl rfl rfl (asg rfl) ?_
   refine AR.nil ?_
   exact Exists.intro (n10, x37, t35, y30, y8 + 1) ⟨H, Nat.lt_succ_self _, WK.at [0] (.cons (.refl _) (.cons (.refl _) (.cons (.refl _) (.cons (.refl _) (.nil _))))) rfl⟩
  ·replace H := cnd_f c11 H
   refine AW.exit ?_
   exact Exists.intro (y5, t6, y7) ⟨H, WK.at [0] (.cons (.refl _) (.cons (.refl _) (.nil _))) rfl⟩
 rintro ⟨y40, t41, y42⟩ H
 replace H : ref07_gone_j1 y40 y42 = some (r2, r3) := H
 unfold ref07_gone_j1 at H
 show AW _ _ _ _ _ _
 refine AW.seq ?_
 refine AW.region ?_
 show AR _ _ _ _ _ [0, 1, 2, 3, 4] _
 refine sS rfl rfl rfl (opS_move (av := slE _ _ _) rfl) ?_
 refine sS rfl rfl rfl (opS_conv_bytes_str Tryz.underlying36 Tryz.underlying5 Tryz.underlying9 rfl) ?_
 refine sS rfl rfl rfl (mv rfl) ?_
 refine sS rfl rfl rfl (asg rfl) ?_
 refine sS rfl rfl rfl (asg rfl) ?_
 refine AR.nil ?_
 show AW _ _ _ _ _ _
 refine AW.ret ?_
 obtain ⟨rfl, rfl⟩ := res2 H
 exact And.intro rfl (Exists.intro _ (Exists.intro _ ⟨ResV.twoW rfl (.refl _) (.refl _), Sub.at [] rfl, rfl, rfl⟩))
set_option maxRecDepth 100000 in
set_option maxHeartbeats 1000000 in
theorem w_ref07_Decode (F : Nat) (a1 : List UInt8) (r2 : List UInt8) (r3 : Int) (H : ref07_Decode F a1 = some (r2, r3)) : ACalls Tryz.prog 11 [S a1] [] (Ret (.tup [S r2, i64 r3]) []) := by
 unfold ref07_Decode at H
 refine ACalls.of_body Tryz.func11 rfl rfl ?_
 show AW _ _ 14 _ _ _
 refine AW.seq ?_
 refine AW.region ?_
 show AR _ _ _ _ _ [0, 1] _
 refine sS rfl rfl rfl (asg rfl) ?_
 refine sS rfl rfl rfl (asg rfl) ?_
 refine AR.nil ?_
 show AW _ _ _ _ _ _
 refine AW.seq ?_
 obtain ⟨x4, x5, e6, H⟩ := bnd2_s H
 refine AW.region ?_
 show AR _ _ _ _ _ [0, 1, 2, 3, 4, 5, 6] _
 refine sS rfl rfl rfl (mv rfl) ?_
 refine AR.run rfl rfl (AO.callp rfl en23_refe rfl (w_ref07_gone F a1 x4 x5 e6) ?_)
 refine sS rfl rfl rfl (opS_move (av := .tup _) rfl) ?_
 refine sS rfl rfl rfl (opS_extract (av := .v _) rfl rfl) ?_
 refine sS rfl rfl rfl (opS_extract (av := .v _) rfl rfl) ?_
 refine sS rfl rfl rfl (asg rfl) ?_
 refine sS rfl rfl rfl (asg rfl) ?_
 refine AR.nil ?_
 show AW _ _ _ _ _ _
 refine AW.seq ?_
 refine AW.seq ?_
 refine AW.region ?_
 show AR _ _ _ _ _ [0, 1] _
 refine sS rfl rfl rfl (mv rfl) ?_
 refine sS rfl rfl rfl (opS_not rfl) ?_
 refine AR.nil ?_
 show AW _ _ _ _ _ _
 refine AW.cond rfl (fun c7 => ?_) (fun c7 => ?_)
 ·replace H := cnd_t c7 H
  refine AW.seq ?_
  refine AW.region ?_
  show AR _ _ _ _ _ [0, 1] _
  refine sS rfl rfl rfl (asg rfl) ?_
  refine sS rfl rfl rfl (asg rfl) ?_
  refine AR.nil ?_
  show AW _ _ _ _ _ _
  refine AW.ret ?_
  obtain ⟨rfl, rfl⟩ := res2 H
  exact And.intro rfl (Exists.intro _ (Exists.intro _ ⟨ResV.twoW rfl (.refl _) (.refl _), Sub.at [] rfl, rfl, rfl⟩))
 ·replace H := cnd_f c7 H
  refine AW.skip ?_
  show AW _ _ _ _ _ _
  refine AW.seq ?_
  refine AW.region ?_
  show AR _ _ _ _ _ [0, 1, 2] _
  refine sS rfl rfl rfl (mv rfl) ?_
  refine sS rfl rfl rfl (asg rfl) ?_
  refine sS rfl rfl rfl (asg rfl) ?_
  refine AR.nil ?_
  show AW _ _ _ _ _ _
  refine AW.ret ?_
  obtain ⟨rfl, rfl⟩ := res2 H
  exact And.intro rfl (Exists.intro _ (Exists.intro _ ⟨ResV.twoW rfl (.refl _) (.refl _), Sub.at [] rfl, rfl, rfl⟩))
set_option maxRecDepth 100000 in
set_option maxHeartbeats 1000000 in
theorem w_ref07_Loose (F : Nat) (a1 : List UInt8) (r2 : List UInt8) (H : ref07_Loose F a1 = some r2) : ACalls Tryz.prog 16 [S a1] [] (Ret (S r2) []) := by
 unfold ref07_Loose at H
 refine ACalls.of_body Tryz.func16 rfl rfl ?_
 show AW _ _ 11 _ _ _
 refine AW.seq ?_
 refine AW.region ?_
 show AR _ _ _ _ _ [0] _
 refine sS rfl rfl rfl (asg rfl) ?_
 refine AR.nil ?_
 show AW _ _ _ _ _ _
 refine AW.seq ?_
 obtain ⟨x3, x4, e5, H⟩ := bnd2_s H
 refine AW.region ?_
 show AR _ _ _ _ _ [0, 1, 2, 3, 4, 5, 6] _
 refine sS rfl rfl rfl (mv rfl) ?_
 refine AR.run rfl rfl (AO.callp rfl en23_refe rfl (w_ref07_gone F a1 x3 x4 e5) ?_)
 refine sS rfl rfl rfl (opS_move (av := .tup _) rfl) ?_
 refine sS rfl rfl rfl (opS_extract (av := .v _) rfl rfl) ?_
 refine sS rfl rfl rfl (opS_extract (av := .v _) rfl rfl) ?_
 refine sS rfl rfl rfl (asg rfl) ?_
 refine sS rfl rfl rfl (asg rfl) ?_
 refine AR.nil ?_
 show AW _ _ _ _ _ _
 refine AW.seq ?_
 refine AW.region ?_
 show AR _ _ _ _ _ [0, 1] _
 refine sS rfl rfl rfl (mv rfl) ?_
 refine sS rfl rfl rfl (asg rfl) ?_
 refine AR.nil ?_
 show AW _ _ _ _ _ _
 refine AW.ret ?_
 obtain rfl := Option.some.inj H
 exact And.intro rfl (Exists.intro _ (Exists.intro _ ⟨ResV.oneW rfl (.refl _), Sub.at [] rfl, rfl, rfl⟩))
set_option maxRecDepth 100000 in
set_option maxHeartbeats 1000000 in
theorem w_ref07_Encode (F : Nat) (a1 : List UInt8) (r2 : List UInt8) (H : ref07_Encode F a1 = some r2) : ACalls Tryz.prog 18 [S a1] [] (Ret (S r2) []) := by
 unfold ref07_Encode at H
 refine ACalls.of_body Tryz.func18 rfl rfl ?_
 show AW _ _ 38 _ _ _
 refine AW.seq ?_
 refine AW.region ?_
 show AR _ _ _ _ _ [0] _
 refine sS rfl rfl rfl (asg rfl) ?_
 refine AR.nil ?_
 show AW _ _ _ _ _ _
 refine AW.seq ?_
 refine AW.region ?_
 show AR _ _ _ _ _ [0] _
 refine sS rfl rfl rfl (asg rfl) ?_
 refine AR.nil ?_
 show AW _ _ _ _ _ _
 refine AW.nil_grows 3 1 5 rfl fun t3 => ?_
 show AW _ _ _ _ _ ⟨(3, slE Enc.byte [] (some t3)) :: _, _, _⟩
 refine AW.cut (X := (List UInt8) × Nat) (fun (y44, t45) => ⟨[(3, slE Enc.byte y44 (some t45))], [], [.tok t45 5]⟩) (fun (y44, t45) => ref07_Encode_j1 y44 = some r2) ?_ ?_
 ·
  refine AW.seq ?_
  refine AW.region ?_
  show AR _ _ _ _ _ [0] _
  refine sS rfl rfl rfl (asg rfl) ?_
  refine AR.nil ?_
  show AW _ _ _ _ _ _
  refine AW.block ?_
  refine AW.loop (X := Nat × (List UInt8) × Nat × Int) (fun (n8, y4, t5, y6) => ⟨[(0, S a1), (3, slE Enc.byte y4 (some t5)), (4, i64 y6)], [], [.tok t5 5]⟩) (fun (n8, y4, t5, y6) => ref07_Encode_L1 a1 n8 (y4, y6) = some r2) (fun (n8, y4, t5, y6) => n8) (F, [], t3, 0) H (WK.at [0] (.cons (.refl _) (.cons (.refl _) (.cons (.refl _) (.nil _)))) rfl) ?_
  rintro ⟨n8, y4, t5, y6⟩ H
  obtain ⟨n8, rfl, H⟩ := loop_s H
  replace H : ref07_Encode_B1 a1 (ref07_Encode_L1 a1 n8) y4 y6 = some r2 := H
  unfold ref07_Encode_B1 at H
  show AW _ _ _ _ _ _
  refine AW.seq ?_
  refine AW.seq ?_
  refine AW.region ?_
  show AR _ _ _ _ _ [0, 1, 2, 3] _
  refine sS rfl rfl rfl (mv rfl) ?_
  refine sS rfl rfl rfl (mv rfl) ?_
  refine sS rfl rfl rfl (opS_len_str Tryz.underlying9 rfl) ?_
  refine sS rfl rfl rfl (opS_lt rfl rfl) ?_
  refine AR.nil ?_
  show AW _ _ _ _ _ _
  refine AW.cond rfl (fun c9 => ?_) (fun c9 => ?_)
  ·replace H := cnd_t c9 H
   refine AW.skip ?_
   show AW _ _ _ _ _ _
   refine AW.cut (X := (List UInt8) × Nat) (fun (y40, t41) => ⟨[(0, S a1), (3, slE Enc.byte y40 (some t41)), (4, i64 y6)], [], [.tok t41 5]⟩) (fun (y40, t41) => ref07_Encode_j2 y6 (ref07_Encode_L1 a1 n8) y40 = some r2) ?_ ?_
   ·
    refine AW.block ?_
    refine AW.seq ?_
    obtain ⟨g10, H⟩ := grd_s H
    obtain ⟨x11, e12, H⟩ := lt_s H
    refine AW.region ?_
    show AR _ _ _ _ _ [0, 1, 2] _
    refine sS rfl rfl rfl (mv rfl) ?_
    refine sS rfl rfl rfl (mv rfl) ?_
    refine sS rfl rfl rfl (g_index_str Tryz.underlying9 rfl rfl g10 e12) ?_
    refine AR.nil ?_
    show AW _ _ _ _ _ _
    refine AW.block ?_
    refine AW.seq ?_
    refine AW.region ?_
    show AR _ _ _ _ _ [0, 1] _
    refine sS rfl rfl rfl (g_eq8 (a := x11) (b := 38) rfl rfl) ?_
    refine sS rfl rfl rfl (asg rfl) ?_
    refine AR.nil ?_
    show AW _ _ _ _ _ _
    refine AW.cond rfl (fun c13 => ?_) (fun c13 => ?_)
    ·replace H := cnd_t c13 H
     obtain ⟨g15, H⟩ := grd_s H
     obtain ⟨x16, e17, H⟩ := lt_s H
     refine AW.region ?_
     show AR _ _ _ _ _ [0, 1, 2] _
     refine sS rfl rfl rfl (opS_move (av := slE _ _ _) rfl) ?_
     refine sX rfl rfl rfl (g_append_str (bytes := 1) 0 Tryz.underlying36 Tryz.underlying9 rfl (by kernel_rfl) rfl rfl rfl rfl g15 e17) ?_
     rintro _ _ ⟨t14, rfl, rfl⟩
     refine sS rfl rfl rfl (opS_assign (av := slE _ _ _) rfl) ?_
     refine AR.nil ?_
     exact Exists.intro (x16, t14) ⟨H, WK.at [0] (.cons (.refl _) (.cons (.refl _) (.cons (.refl _) (.nil _)))) rfl⟩
    ·replace H := cnd_f c13 H
     refine AW.seq ?_
     refine AW.region ?_
     show AR _ _ _ _ _ [0, 1] _
     refine sS rfl rfl rfl (g_eq8 (a := x11) (b := 60) rfl rfl) ?_
     refine sS rfl rfl rfl (asg rfl) ?_
     refine AR.nil ?_
     show AW _ _ _ _ _ _
     refine AW.cond rfl (fun c18 => ?_) (fun c18 => ?_)
     ·replace H := cnd_t c18 H
      obtain ⟨g20, H⟩ := grd_s H
      obtain ⟨x21, e22, H⟩ := lt_s H
      refine AW.region ?_
      show AR _ _ _ _ _ [0, 1, 2] _
      refine sS rfl rfl rfl (opS_move (av := slE _ _ _) rfl) ?_
      refine sX rfl rfl rfl (g_append_str (bytes := 1) 0 Tryz.underlying36 Tryz.underlying9 rfl (by kernel_rfl) rfl rfl rfl rfl g20 e22) ?_
      rintro _ _ ⟨t19, rfl, rfl⟩
      refine sS rfl rfl rfl (opS_assign (av := slE _ _ _) rfl) ?_
      refine AR.nil ?_
      exact Exists.intro (x21, t19) ⟨H, WK.at [0] (.cons (.refl _) (.cons (.refl _) (.cons (.refl _) (.nil _)))) rfl⟩
     ·replace H := cnd_f c18 H
      refine AW.seq ?_
      refine AW.region ?_
      show AR _ _ _ _ _ [0, 1] _
      refine sS rfl rfl rfl (g_eq8 (a := x11) (b := 62) rfl rfl) ?_
      refine sS rfl rfl rfl (asg rfl) ?_
      refine AR.nil ?_
      show AW _ _ _ _ _ _
      refine AW.cond rfl (fun c23 => ?_) (fun c23 => ?_)
      ·replace H := cnd_t c23 H
       obtain ⟨g25, H⟩ := grd_s H
       obtain ⟨x26, e27, H⟩ := lt_s H
       refine AW.region ?_
       show AR _ _ _ _ _ [0, 1, 2] _
       refine sS rfl rfl rfl (opS_move (av := slE _ _ _) rfl) ?_
       refine sX rfl rfl rfl (g_append_str (bytes := 1) 0 Tryz.underlying36 Tryz.underlying9 rfl (by kernel_rfl) rfl rfl rfl rfl g25 e27) ?_
       rintro _ _ ⟨t24, rfl, rfl⟩
       refine sS rfl rfl rfl (opS_assign (av := slE _ _ _) rfl) ?_
       refine AR.nil ?_
       exact Exists.intro (x26, t24) ⟨H, WK.at [0] (.cons (.refl _) (.cons (.refl _) (.cons (.refl _) (.nil _)))) rfl⟩
      ·replace H := cnd_f c23 H
       refine AW.seq ?_
       refine AW.region ?_
       show AR _ _ _ _ _ [0, 1] _
       refine sS rfl rfl rfl (g_eq8 (a := x11) (b := 34) rfl rfl) ?_
       refine sS rfl rfl rfl (asg rfl) ?_
       refine AR.nil ?_
       show AW _ _ _ _ _ _
       refine AW.cond rfl (fun c28 => ?_) (fun c28 => ?_)
       ·replace H := cnd_t c28 H
        obtain ⟨g30, H⟩ := grd_s H
        obtain ⟨x31, e32, H⟩ := lt_s H
        refine AW.region ?_
        show AR _ _ _ _ _ [0, 1, 2] _
        refine sS rfl rfl rfl (opS_move (av := slE _ _ _) rfl) ?_
        refine sX rfl rfl rfl (g_append_str (bytes := 1) 0 Tryz.underlying36 Tryz.underlying9 rfl (by kernel_rfl) rfl rfl rfl rfl g30 e32) ?_
        rintro _ _ ⟨t29, rfl, rfl⟩
        refine sS rfl rfl rfl (opS_assign (av := slE _ _ _) rfl) ?_
        refine AR.nil ?_
        exact Exists.intro (x31, t29) ⟨H, WK.at [0] (.cons (.refl _) (.cons (.refl _) (.cons (.refl _) (.nil _)))) rfl⟩
       ·replace H := cnd_f c28 H
        obtain ⟨g33, H⟩ := grd_s H
        obtain ⟨x34, e35, H⟩ := lt_s H
        obtain ⟨g37, H⟩ := grd_s H
        obtain ⟨x38, e39, H⟩ := lt_s H
        refine AW.region ?_
        show AR _ _ _ _ _ [0, 1, 2, 3, 4, 5, 6] _
        refine sS rfl rfl rfl (opS_move (av := slE _ _ _) rfl) ?_
        refine sS rfl rfl rfl (mv rfl) ?_
        refine sS rfl rfl rfl (mv rfl) ?_
        refine sS rfl rfl rfl (g_index_str Tryz.underlying9 rfl rfl g33 e35) ?_
        refine sR rfl rfl rfl (opR_buildE (E := Enc.byte) (bytes := 1) (xs := [.tmp 17]) (l := ([x34] : List UInt8)) Tryz.underlying36 (by kernel_rfl) rfl rfl (by decide) rfl rfl) ?_
        refine sX rfl rfl rfl (g_append (E := Enc.byte) (bytes := 1) 0 Tryz.underlying36 Tryz.underlying36 rfl (by kernel_rfl) rfl rfl rfl rfl g37 e39) ?_
        rintro _ _ ⟨t36, rfl, rfl⟩
        refine sS rfl rfl rfl (opS_assign (av := slE _ _ _) rfl) ?_
        refine AR.nil ?_
        exact Exists.intro (x38, t36) ⟨H, WK.at [0] (.cons (.refl _) (.cons (.refl _) (.cons (.refl _) (.nil _)))) rfl⟩
   rintro ⟨y40, t41⟩ H
   replace H : ref07_Encode_j2 y6 (ref07_Encode_L1 a1 n8) y40 = some r2 := H
   unfold ref07_Encode_j2 at H
   show AW _ _ _ _ _ _
   obtain ⟨g43, H⟩ := grd_s H
   refine AW.region ?_
   show AR _ _ _ _ _ [0, 1, 2] _
   refine sS rfl rfl rfl (mv rfl) ?_
   refine sS rfl rfl rfl (g_add rfl rfl g43) ?_
   refine sS rfl rfl rfl (asg rfl) ?_
   refine AR.nil ?_
   exact Exists.intro (n8, y40, t41, y6 + 1) ⟨H, Nat.lt_succ_self _, WK.at [0] (.cons (.refl _) (.cons (.refl _) (.cons (.refl _) (.nil _)))) rfl⟩
  ·replace H := cnd_f c9 H
   refine AW.exit ?_
   exact Exists.intro (y4, t5) ⟨H, WK.at [0] (.cons (.refl _) (.nil _)) rfl⟩
 rintro ⟨y44, t45⟩ H
 replace H : ref07_Encode_j1 y44 = some r2 := H
 unfold ref07_Encode_j1 at H
 show AW _ _ _ _ _ _
 refine AW.seq ?_
 refine AW.region ?_
 show AR _ _ _ _ _ [0, 1, 2] _
 refine sS rfl rfl rfl (opS_move (av := slE _ _ _) rfl) ?_
 refine sS rfl rfl rfl (opS_conv_bytes_str Tryz.underlying36 Tryz.underlying5 Tryz.underlying9 rfl) ?_
 refine sS rfl rfl rfl (asg rfl) ?_
 refine AR.nil ?_
 show AW _ _ _ _ _ _
 refine AW.ret ?_
 obtain rfl := Option.some.inj H
 exact And.intro rfl (Exists.intro _ (Exists.intro _ ⟨ResV.oneW rfl (.refl _), Sub.at [] rfl, rfl, rfl⟩))
set_option maxRecDepth 100000 in
set_option maxHeartbeats 1000000 in
theorem w_ref07_Trim (F : Nat) (a1 : List UInt8) (r2 : List UInt8) (H : ref07_Trim F a1 = some r2) : ACalls Tryz.prog 20 [S a1] [] (Ret (S r2) []) := by
 unfold ref07_Trim at H
 refine ACalls.of_body Tryz.func20 rfl rfl ?_
 show AW _ _ 33 _ _ _
 refine AW.seq ?_
 refine AW.region ?_
 show AR _ _ _ _ _ [0] _
 refine sS rfl rfl rfl (asg rfl) ?_
 refine AR.nil ?_
 show AW _ _ _ _ _ _
 refine AW.seq ?_
 refine AW.region ?_
 show AR _ _ _ _ _ [0] _
 refine sS rfl rfl rfl (asg rfl) ?_
 refine AR.nil ?_
 show AW _ _ _ _ _ _
 refine AW.nil_grows 3 1 5 rfl fun t3 => ?_
 show AW _ _ _ _ _ ⟨(3, slE Enc.byte [] (some t3)) :: _, _, _⟩
 refine AW.seq ?_
 refine AW.region ?_
 show AR _ _ _ _ _ [0] _
 refine sS rfl rfl rfl (asg rfl) ?_
 refine AR.nil ?_
 show AW _ _ _ _ _ _
 refine AW.cut (X := (List UInt8) × Nat) (fun (y37, t38) => ⟨[(3, slE Enc.byte y37 (some t38))], [], [.tok t38 5]⟩) (fun (y37, t38) => ref07_Trim_j1 y37 = some r2) ?_ ?_
 ·
  refine AW.seq ?_
  refine AW.region ?_
  show AR _ _ _ _ _ [0] _
  refine sS rfl rfl rfl (asg rfl) ?_
  refine AR.nil ?_
  show AW _ _ _ _ _ _
  refine AW.block ?_
  refine AW.loop (X := Nat × (List UInt8) × Nat × Bool × Int) (fun (n9, y4, t5, y6, y7) => ⟨[(0, S a1), (3, slE Enc.byte y4 (some t5)), (4, B y6), (5, i64 y7)], [], [.tok t5 5]⟩) (fun (n9, y4, t5, y6, y7) => ref07_Trim_L1 F a1 n9 (y4, y6, y7) = some r2) (fun (n9, y4, t5, y6, y7) => n9) (F, [], t3, false, 0) H (WK.at [0] (.cons (.refl _) (.cons (.refl _) (.cons (.refl _) (.cons (.refl _) (.nil _))))) rfl) ?_
  rintro ⟨n9, y4, t5, y6, y7⟩ H
  obtain ⟨n9, rfl, H⟩ := loop_s H
  replace H : ref07_Trim_B1 F a1 (ref07_Trim_L1 F a1 n9) y4 y6 y7 = some r2 := H
  unfold ref07_Trim_B1 at H
  show AW _ _ _ _ _ _
  refine AW.seq ?_
  refine AW.seq ?_
  refine AW.region ?_
  show AR _ _ _ _ _ [0, 1, 2, 3] _
  refine sS rfl rfl rfl (mv rfl) ?_
  refine sS rfl rfl rfl (mv rfl) ?_
  refine sS rfl rfl rfl (opS_len_str Tryz.underlying9 rfl) ?_
  refine sS rfl rfl rfl (opS_lt rfl rfl) ?_
  refine AR.nil ?_
  show AW _ _ _ _ _ _
  refine AW.cond rfl (fun c10 => ?_) (fun c10 => ?_)
  ·replace H := cnd_t c10 H
   refine AW.skip ?_
   show AW _ _ _ _ _ _
   refine AW.cut (X := (List UInt8) × Nat × Bool) (fun (y32, t33, y34) => ⟨[(0, S a1), (3, slE Enc.byte y32 (some t33)), (4, B y34), (5, i64 y7)], [], [.tok t33 5]⟩) (fun (y32, t33, y34) => ref07_Trim_j2 y7 (ref07_Trim_L1 F a1 n9) y32 y34 = some r2) ?_ ?_
   ·
    refine AW.block ?_
    refine AW.seq ?_
    obtain ⟨g11, H⟩ := grd_s H
    obtain ⟨x12, e13, H⟩ := lt_s H
    obtain ⟨x14, e15, H⟩ := bnd_s H
    refine AW.region ?_
    show AR _ _ _ _ _ [0, 1, 2, 3, 4] _
    refine sS rfl rfl rfl (mv rfl) ?_
    refine sS rfl rfl rfl (mv rfl) ?_
    refine sS rfl rfl rfl (g_index_str Tryz.underlying9 rfl rfl g11 e13) ?_
    refine AR.run rfl rfl (AO.callp rfl en14_refe rfl (w_ref07_Space F x12 x14 e15) ?_)
    refine sS rfl rfl rfl (asg rfl) ?_
    refine AR.nil ?_
    show AW _ _ _ _ _ _
    refine AW.seq ?_
    refine AW.seq ?_
    refine AW.region ?_
    show AR _ _ _ _ _ [0] _
    refine sS rfl rfl rfl (mv rfl) ?_
    refine AR.nil ?_
    show AW _ _ _ _ _ _
    refine AW.cond rfl (fun c16 => ?_) (fun c16 => ?_)
    ·replace H := cnd_t c16 H
     refine AW.seq ?_
     refine AW.region ?_
     show AR _ _ _ _ _ [0, 1, 2, 3] _
     refine sS rfl rfl rfl (opS_move (av := slE _ _ _) rfl) ?_
     refine sS rfl rfl rfl (opS_len_sl Tryz.underlying36 rfl) ?_
     refine sS rfl rfl rfl (opS_gt rfl rfl) ?_
     refine sS rfl rfl rfl (asg rfl) ?_
     refine AR.nil ?_
     show AW _ _ _ _ _ _
     refine AW.exit ?_
     exact Exists.intro (y4, t5, decide (0 < (y4.length : Int))) ⟨H, WK.at [0] (.cons (.refl _) (.cons (.refl _) (.cons (.refl _) (.cons (.refl _) (.nil _))))) rfl⟩
    ·replace H := cnd_f c16 H
     refine AW.skip ?_
     show AW _ _ _ _ _ _
     refine AW.cut (X := (List UInt8) × Nat) (fun (y22, t23) => ⟨[(0, S a1), (3, slE Enc.byte y22 (some t23)), (5, i64 y7)], [], [.tok t23 5]⟩) (fun (y22, t23) => ref07_Trim_j3 a1 y7 (ref07_Trim_L1 F a1 n9) y22 = some r2) ?_ ?_
     ·
      refine AW.seq ?_
      refine AW.region ?_
      show AR _ _ _ _ _ [0] _
      refine sS rfl rfl rfl (mv rfl) ?_
      refine AR.nil ?_
      show AW _ _ _ _ _ _
      refine AW.cond rfl (fun c17 => ?_) (fun c17 => ?_)
      ·replace H := cnd_t c17 H
       obtain ⟨g19, H⟩ := grd_s H
       obtain ⟨x20, e21, H⟩ := lt_s H
       refine AW.region ?_
       show AR _ _ _ _ _ [0, 1, 2, 3] _
       refine sS rfl rfl rfl (opS_move (av := slE _ _ _) rfl) ?_
       refine sR rfl rfl rfl (opR_buildE (E := Enc.byte) (bytes := 1) (xs := [.const _]) (l := ([32] : List UInt8)) Tryz.underlying36 (by kernel_rfl) rfl rfl (by decide) rfl rfl) ?_
       refine sX rfl rfl rfl (g_append (E := Enc.byte) (bytes := 1) 0 Tryz.underlying36 Tryz.underlying36 rfl (by kernel_rfl) rfl rfl rfl rfl g19 e21) ?_
       rintro _ _ ⟨t18, rfl, rfl⟩
       refine sS rfl rfl rfl (opS_assign (av := slE _ _ _) rfl) ?_
       refine AR.nil ?_
       exact Exists.intro (x20, t18) ⟨H, WK.at [0] (.cons (.refl _) (.cons (.refl _) (.cons (.refl _) (.nil _)))) rfl⟩
      ·replace H := cnd_f c17 H
       refine AW.skip ?_
       exact Exists.intro (y4, t5) ⟨H, WK.at [0] (.cons (.refl _) (.cons (.refl _) (.cons (.refl _) (.nil _)))) rfl⟩
     rintro ⟨y22, t23⟩ H
     replace H : ref07_Trim_j3 a1 y7 (ref07_Trim_L1 F a1 n9) y22 = some r2 := H
     unfold ref07_Trim_j3 at H
     show AW _ _ _ _ _ _
     refine AW.seq ?_
     refine AW.region ?_
     show AR _ _ _ _ _ [0] _
     refine sS rfl rfl rfl (asg rfl) ?_
     refine AR.nil ?_
     show AW _ _ _ _ _ _
     obtain ⟨g25, H⟩ := grd_s H
     obtain ⟨x26, e27, H⟩ := lt_s H
     obtain ⟨g29, H⟩ := grd_s H
     obtain ⟨x30, e31, H⟩ := lt_s H
     refine AW.region ?_
     show AR _ _ _ _ _ [0, 1, 2, 3, 4, 5, 6] _
     refine sS rfl rfl rfl (opS_move (av := slE _ _ _) rfl) ?_
     refine sS rfl rfl rfl (mv rfl) ?_
     refine sS rfl rfl rfl (mv rfl) ?_
     refine sS rfl rfl rfl (g_index_str Tryz.underlying9 rfl rfl g25 e27) ?_
     refine sR rfl rfl rfl (opR_buildE (E := Enc.byte) (bytes := 1) (xs := [.tmp 28]) (l := ([x26] : List UInt8)) Tryz.underlying36 (by kernel_rfl) rfl rfl (by decide) rfl rfl) ?_
     refine sX rfl rfl rfl (g_append (E := Enc.byte) (bytes := 1) 0 Tryz.underlying36 Tryz.underlying36 rfl (by kernel_rfl) rfl rfl rfl rfl g29 e31) ?_
     rintro _ _ ⟨t28, rfl, rfl⟩
     refine sS rfl rfl rfl (opS_assign (av := slE _ _ _) rfl) ?_
     refine AR.nil ?_
     exact Exists.intro (x30, t28, false) ⟨H, WK.at [0] (.cons (.refl _) (.cons (.refl _) (.cons (.refl _) (.cons (.refl _) (.nil _))))) rfl⟩
   rintro ⟨y32, t33, y34⟩ H
   replace H : ref07_Trim_j2 y7 (ref07_Trim_L1 F a1 n9) y32 y34 = some r2 := H
   unfold ref07_Trim_j2 at H
   show AW _ _ _ _ _ _
   obtain ⟨g36, H⟩ := grd_s H
   refine AW.region ?_
   show AR _ _ _ _ _ [0, 1, 2] _
   refine sS rfl rfl rfl (mv rfl) ?_
   refine sS rfl rfl rfl (g_add rfl rfl g36) ?_
   refine sS rfl rfl rfl (asg rfl) ?_
   refine AR.nil ?_
   exact Exists.intro (n9, y32, t33, y34, y7 + 1) ⟨H, Nat.lt_succ_self _, WK.at [0] (.cons (.refl _) (.cons (.refl _) (.cons (.refl _) (.cons (.refl _) (.nil _))))) rfl⟩
  ·replace H := cnd_f c10 H
   refine AW.exit ?_
   exact Exists.intro (y4, t5) ⟨H, WK.at [0] (.cons (.refl _) (.nil _)) rfl⟩
 rintro ⟨y37, t38⟩ H
 replace H : ref07_Trim_j1 y37 = some r2 := H
 unfold ref07_Trim_j1 at H
 show AW _ _ _ _ _ _
 refine AW.seq ?_
 refine AW.region ?_
 show AR _ _ _ _ _ [0, 1, 2] _
 refine sS rfl rfl rfl (opS_move (av := slE _ _ _) rfl) ?_
 refine sS rfl rfl rfl (opS_conv_bytes_str Tryz.underlying36 Tryz.underlying5 Tryz.underlying9 rfl) ?_
 refine sS rfl rfl rfl (asg rfl) ?_
 refine AR.nil ?_
 show AW _ _ _ _ _ _
 refine AW.ret ?_
 obtain rfl := Option.some.inj H
 exact And.intro rfl (Exists.intro _ (Exists.intro _ ⟨ResV.oneW rfl (.refl _), Sub.at [] rfl, rfl, rfl⟩))
end Go.Proofs.YtjhlnhipjomdeaaGreatDoor
namespace Go.Proofs.YtjhlnhipjomdeaaGreatDoor
open Go.RowKit Go.Av Go.Pv
theorem en9_lenttells : ∀ (args : Array Value) (w : World), (callFunc 9 args).run Tryz.prog w = .ok (.enter 9 args) w := fun _ _ => by kernel_rfl
theorem en10_lenttells : ∀ (args : Array Value) (w : World), (callFunc 10 args).run Tryz.prog w = .ok (.enter 10 args) w := fun _ _ => by kernel_rfl
theorem en11_lenttells : ∀ (args : Array Value) (w : World), (callFunc 11 args).run Tryz.prog w = .ok (.enter 11 args) w := fun _ _ => by kernel_rfl
theorem en12_lenttells : ∀ (args : Array Value) (w : World), (callFunc 12 args).run Tryz.prog w = .ok (.enter 12 args) w := fun _ _ => by kernel_rfl
theorem en13_lenttells : ∀ (args : Array Value) (w : World), (callFunc 13 args).run Tryz.prog w = .ok (.enter 13 args) w := fun _ _ => by kernel_rfl
theorem en14_lenttells : ∀ (args : Array Value) (w : World), (callFunc 14 args).run Tryz.prog w = .ok (.enter 14 args) w := fun _ _ => by kernel_rfl
theorem en15_lenttells : ∀ (args : Array Value) (w : World), (callFunc 15 args).run Tryz.prog w = .ok (.enter 15 args) w := fun _ _ => by kernel_rfl
theorem en16_lenttells : ∀ (args : Array Value) (w : World), (callFunc 16 args).run Tryz.prog w = .ok (.enter 16 args) w := fun _ _ => by kernel_rfl
theorem en17_lenttells : ∀ (args : Array Value) (w : World), (callFunc 17 args).run Tryz.prog w = .ok (.enter 17 args) w := fun _ _ => by kernel_rfl
theorem en18_lenttells : ∀ (args : Array Value) (w : World), (callFunc 18 args).run Tryz.prog w = .ok (.enter 18 args) w := fun _ _ => by kernel_rfl
theorem en19_lenttells : ∀ (args : Array Value) (w : World), (callFunc 19 args).run Tryz.prog w = .ok (.enter 19 args) w := fun _ _ => by kernel_rfl
theorem en20_lenttells : ∀ (args : Array Value) (w : World), (callFunc 20 args).run Tryz.prog w = .ok (.enter 20 args) w := fun _ _ => by kernel_rfl
theorem en21_lenttells : ∀ (args : Array Value) (w : World), (callFunc 21 args).run Tryz.prog w = .ok (.enter 21 args) w := fun _ _ => by kernel_rfl
set_option maxRecDepth 100000 in
set_option maxHeartbeats 1000000 in
theorem w_law07_EntTells (F : Nat) (a1 : List UInt8) (a2 : Int) (a3 : UInt8) (r4 : Bool) (H : law07_EntTells F a1 a2 a3 = some r4) : ACalls Tryz.prog 3 [S a1, i64 a2, u8 a3] [] (Ret (B r4) []) := by
 unfold law07_EntTells at H
 refine ACalls.of_body Tryz.func3 rfl rfl ?_
 show AW _ _ 93 _ _ _
 refine AW.seq ?_
 refine AW.region ?_
 show AR _ _ _ _ _ [0] _
 refine sS rfl rfl rfl (asg rfl) ?_
 refine AR.nil ?_
 show AW _ _ _ _ _ _
 refine AW.seq ?_
 obtain ⟨x5, e6, H⟩ := bnd_s H
 refine AW.region ?_
 show AR _ _ _ _ _ [0, 1] _
 refine AR.run rfl rfl (AO.callp rfl en9_lenttells rfl (w_law07_awake F x5 e6) ?_)
 refine sS rfl rfl rfl (asg rfl) ?_
 refine AR.nil ?_
 show AW _ _ _ _ _ _
 refine AW.seq ?_
 refine AW.seq ?_
 refine AW.region ?_
 show AR _ _ _ _ _ [0, 1, 2, 3, 4, 5, 6] _
 refine sS rfl rfl rfl (mv rfl) ?_
 refine sS rfl rfl rfl (opS_not rfl) ?_
 refine sS rfl rfl rfl (mv rfl) ?_
 refine AR.meet (l := []) 24 (B ((!x5) || (decide (600 < (a1.length : Int))))) (fun K => ?_) ?_
 ·rcases Bool.eq_false_or_eq_true (!x5) with h7 | h7
  ·
   refine gF h7 rfl rfl rfl rfl rfl ?_
   refine gF h7 rfl rfl rfl rfl rfl ?_
   refine gF h7 rfl rfl rfl rfl rfl ?_
   refine sS rfl rfl rfl (opS_pick_t (av := .v _) rfl h7 rfl) ?_
   exact K _ 3 _ (B_congr (or_t h7)) rfl rfl
  ·
   refine gT h7 rfl rfl rfl rfl rfl rfl (AO.ops rfl rfl (mv rfl) ?_)
   refine gT h7 rfl rfl rfl rfl rfl rfl (AO.ops rfl rfl (opS_len_str Tryz.underlying9 rfl) ?_)
   refine gT h7 rfl rfl rfl rfl rfl rfl (AO.ops rfl rfl (opS_gt rfl rfl) ?_)
   refine sS rfl rfl rfl (opS_pick_f (av := .v _) rfl h7 rfl) ?_
   exact K _ 3 _ (B_congr (or_f h7)) rfl rfl
 refine AR.nil ?_
 show AW _ _ _ _ _ _
 refine AW.cond rfl (fun c8 => ?_) (fun c8 => ?_)
 ·replace H := cnd_t c8 H
  refine AW.seq ?_
  refine AW.region ?_
  show AR _ _ _ _ _ [0, 1] _
  refine sS rfl rfl rfl (mv rfl) ?_
  refine sS rfl rfl rfl (asg rfl) ?_
  refine AR.nil ?_
  show AW _ _ _ _ _ _
  refine AW.ret ?_
  obtain rfl := Option.some.inj H
  exact And.intro rfl (Exists.intro _ (Exists.intro _ ⟨ResV.oneW rfl (.refl _), Sub.at [] rfl, rfl, rfl⟩))
 ·replace H := cnd_f c8 H
  refine AW.skip ?_
  show AW _ _ _ _ _ _
  refine AW.seq ?_
  obtain ⟨x9, x10, e11, H⟩ := bnd2_s H
  refine AW.region ?_
  show AR _ _ _ _ _ [0, 1, 2, 3, 4, 5, 6] _
  refine sS rfl rfl rfl (mv rfl) ?_
  refine AR.run rfl rfl (AO.callp rfl en10_lenttells rfl (w_ent_Decode F a1 x9 x10 e11) ?_)
  refine sS rfl rfl rfl (opS_move (av := .tup _) rfl) ?_
  refine sS rfl rfl rfl (opS_extract (av := .v _) rfl rfl) ?_
  refine sS rfl rfl rfl (opS_extract (av := .v _) rfl rfl) ?_
  refine sS rfl rfl rfl (asg rfl) ?_
  refine sS rfl rfl rfl (asg rfl) ?_
  refine AR.nil ?_
  show AW _ _ _ _ _ _
  refine AW.seq ?_
  obtain ⟨x12, x13, e14, H⟩ := bnd2_s H
  refine AW.region ?_
  show AR _ _ _ _ _ [0, 1, 2, 3, 4, 5, 6] _
  refine sS rfl rfl rfl (mv rfl) ?_
  refine AR.run rfl rfl (AO.callp rfl en11_lenttells rfl (w_ref07_Decode F a1 x12 x13 e14) ?_)
  refine sS rfl rfl rfl (opS_move (av := .tup _) rfl) ?_
  refine sS rfl rfl rfl (opS_extract (av := .v _) rfl rfl) ?_
  refine sS rfl rfl rfl (opS_extract (av := .v _) rfl rfl) ?_
  refine sS rfl rfl rfl (asg rfl) ?_
  refine sS rfl rfl rfl (asg rfl) ?_
  refine AR.nil ?_
  show AW _ _ _ _ _ _
  refine AW.seq ?_
  obtain ⟨x15, x16, e17, H⟩ := bnd2_s H
  refine AW.region ?_
  show AR _ _ _ _ _ [0, 1, 2, 3, 4, 5, 6] _
  refine sS rfl rfl rfl (mv rfl) ?_
  refine AR.run rfl rfl (AO.callp rfl en12_lenttells rfl (w_ent_Rune F a2 x15 x16 e17) ?_)
  refine sS rfl rfl rfl (opS_move (av := .tup _) rfl) ?_
  refine sS rfl rfl rfl (opS_extract (av := .v _) rfl rfl) ?_
  refine sS rfl rfl rfl (opS_extract (av := .v _) rfl rfl) ?_
  refine sS rfl rfl rfl (asg rfl) ?_
  refine sS rfl rfl rfl (asg rfl) ?_
  refine AR.nil ?_
  show AW _ _ _ _ _ _
  refine AW.seq ?_
  obtain ⟨x18, x19, e20, H⟩ := bnd2_s H
  refine AW.region ?_
  show AR _ _ _ _ _ [0, 1, 2, 3, 4, 5, 6] _
  refine sS rfl rfl rfl (mv rfl) ?_
  refine AR.run rfl rfl (AO.callp rfl en13_lenttells rfl (w_ref07_Rune F a2 x18 x19 e20) ?_)
  refine sS rfl rfl rfl (opS_move (av := .tup _) rfl) ?_
  refine sS rfl rfl rfl (opS_extract (av := .v _) rfl rfl) ?_
  refine sS rfl rfl rfl (opS_extract (av := .v _) rfl rfl) ?_
  refine sS rfl rfl rfl (asg rfl) ?_
  refine sS rfl rfl rfl (asg rfl) ?_
  refine AR.nil ?_
  show AW _ _ _ _ _ _
  refine AW.seq ?_
  obtain ⟨x21, e22, H⟩ := bnd_s H
  refine AW.region ?_
  show AR _ _ _ _ _ [0, 1, 2] _
  refine sS rfl rfl rfl (mv rfl) ?_
  refine AR.run rfl rfl (AO.callp rfl en14_lenttells rfl (w_ref07_Space F a3 x21 e22) ?_)
  refine sS rfl rfl rfl (asg rfl) ?_
  refine AR.nil ?_
  show AW _ _ _ _ _ _
  refine AW.seq ?_
  obtain ⟨x27, e28, H⟩ := bndc_s H
  obtain ⟨x29, e30, H⟩ := bndc_s H
  obtain ⟨x32, e33, H⟩ := bndc_s H
  obtain ⟨x34, e35, H⟩ := bndc_s H
  obtain ⟨x37, e38, H⟩ := bndc_s H
  obtain ⟨x39, e40, H⟩ := bndc_s H
  obtain ⟨x42, e43, H⟩ := bndc_s H
  refine AW.region ?_
  show AR _ _ _ _ _ [0, 1, 2, 3, 4, 5, 6, 7, 8, 9, 10, 11, 12, 13, 14, 15, 16, 17, 18, 19, 20, 21, 22, 23, 24, 25, 26, 27, 28, 29, 30, 31, 32, 33, 34, 35, 36, 37, 38, 39, 40, 41, 42, 43, 44, 45] _
  refine sS rfl rfl rfl (mv rfl) ?_
  refine sS rfl rfl rfl (mv rfl) ?_
  refine sS rfl rfl rfl (opS_eqs rfl rfl) ?_
  refine sS rfl rfl rfl (mv rfl) ?_
  refine AR.meet (l := [8, 9, 10, 11, 12, 13, 14, 15, 16, 17, 18, 19, 20, 21, 22, 23, 24, 25, 26, 27, 28, 29, 30, 31, 32, 33, 34, 35, 36, 37, 38, 39, 40, 41, 42, 43, 44, 45]) 55 (B ((decide (x9 = x12)) && (decide (x10 = x13)))) (fun K => ?_) ?_
  ·rcases Bool.eq_false_or_eq_true (decide (x9 = x12)) with h23 | h23
   ·
    refine gT h23 rfl rfl rfl rfl rfl rfl (AO.ops rfl rfl (mv rfl) ?_)
    refine gT h23 rfl rfl rfl rfl rfl rfl (AO.ops rfl rfl (mv rfl) ?_)
    refine gT h23 rfl rfl rfl rfl rfl rfl (AO.ops rfl rfl (opS_eqi rfl rfl) ?_)
    refine sS rfl rfl rfl (opS_pick_t (av := .v _) rfl h23 rfl) ?_
    exact K _ 3 _ (B_congr (and_t h23)) rfl rfl
   ·
    refine gF h23 rfl rfl rfl rfl rfl ?_
    refine gF h23 rfl rfl rfl rfl rfl ?_
    refine gF h23 rfl rfl rfl rfl rfl ?_
    refine sS rfl rfl rfl (opS_pick_f (av := .v _) rfl h23 rfl) ?_
    exact K _ 3 _ (B_congr (and_f h23)) rfl rfl
  refine sS rfl rfl rfl (mv rfl) ?_
  refine AR.meet (l := [13, 14, 15, 16, 17, 18, 19, 20, 21, 22, 23, 24, 25, 26, 27, 28, 29, 30, 31, 32, 33, 34, 35, 36, 37, 38, 39, 40, 41, 42, 43, 44, 45]) 60 (B (((decide (x9 = x12)) && (decide (x10 = x13))) && (decide (x15 = x18)))) (fun K => ?_) ?_
  ·rcases Bool.eq_false_or_eq_true ((decide (x9 = x12)) && (decide (x10 = x13))) with h24 | h24
   ·
    refine gT h24 rfl rfl rfl rfl rfl rfl (AO.ops rfl rfl (mv rfl) ?_)
    refine gT h24 rfl rfl rfl rfl rfl rfl (AO.ops rfl rfl (mv rfl) ?_)
    refine gT h24 rfl rfl rfl rfl rfl rfl (AO.ops rfl rfl (opS_eqs rfl rfl) ?_)
    refine sS rfl rfl rfl (opS_pick_t (av := .v _) rfl h24 rfl) ?_
    exact K _ 3 _ (B_congr (and_t h24)) rfl rfl
   ·
    refine gF h24 rfl rfl rfl rfl rfl ?_
    refine gF h24 rfl rfl rfl rfl rfl ?_
    refine gF h24 rfl rfl rfl rfl rfl ?_
    refine sS rfl rfl rfl (opS_pick_f (av := .v _) rfl h24 rfl) ?_
    exact K _ 3 _ (B_congr (and_f h24)) rfl rfl
  refine sS rfl rfl rfl (mv rfl) ?_
  refine AR.meet (l := [18, 19, 20, 21, 22, 23, 24, 25, 26, 27, 28, 29, 30, 31, 32, 33, 34, 35, 36, 37, 38, 39, 40, 41, 42, 43, 44, 45]) 65 (B ((((decide (x9 = x12)) && (decide (x10 = x13))) && (decide (x15 = x18))) && (x16 == x19))) (fun K => ?_) ?_
  ·rcases Bool.eq_false_or_eq_true (((decide (x9 = x12)) && (decide (x10 = x13))) && (decide (x15 = x18))) with h25 | h25
   ·
    refine gT h25 rfl rfl rfl rfl rfl rfl (AO.ops rfl rfl (mv rfl) ?_)
    refine gT h25 rfl rfl rfl rfl rfl rfl (AO.ops rfl rfl (mv rfl) ?_)
    refine gT h25 rfl rfl rfl rfl rfl rfl (AO.ops rfl rfl (opS_eqb Tryz.underlying4 rfl rfl) ?_)
    refine sS rfl rfl rfl (opS_pick_t (av := .v _) rfl h25 rfl) ?_
    exact K _ 3 _ (B_congr (and_t h25)) rfl rfl
   ·
    refine gF h25 rfl rfl rfl rfl rfl ?_
    refine gF h25 rfl rfl rfl rfl rfl ?_
    refine gF h25 rfl rfl rfl rfl rfl ?_
    refine sS rfl rfl rfl (opS_pick_f (av := .v _) rfl h25 rfl) ?_
    exact K _ 3 _ (B_congr (and_f h25)) rfl rfl
  refine sS rfl rfl rfl (mv rfl) ?_
  refine AR.meet (l := [25, 26, 27, 28, 29, 30, 31, 32, 33, 34, 35, 36, 37, 38, 39, 40, 41, 42, 43, 44, 45]) 72 (B (((((decide (x9 = x12)) && (decide (x10 = x13))) && (decide (x15 = x18))) && (x16 == x19)) && (decide (x27 = x29)))) (fun K => ?_) ?_
  ·rcases Bool.eq_false_or_eq_true ((((decide (x9 = x12)) && (decide (x10 = x13))) && (decide (x15 = x18))) && (x16 == x19)) with h26 | h26
   ·
    refine gT h26 rfl rfl rfl rfl rfl rfl (AO.ops rfl rfl (mv rfl) ?_)
    refine gT h26 rfl rfl rfl rfl rfl rfl (AO.callp rfl en15_lenttells rfl (w_ent_Loose F a1 x27 (e28 h26)) ?_)
    refine gT h26 rfl rfl rfl rfl rfl rfl (AO.ops rfl rfl (mv rfl) ?_)
    refine gT h26 rfl rfl rfl rfl rfl rfl (AO.callp rfl en16_lenttells rfl (w_ref07_Loose F a1 x29 (e30 h26)) ?_)
    refine gT h26 rfl rfl rfl rfl rfl rfl (AO.ops rfl rfl (opS_eqs rfl rfl) ?_)
    refine sS rfl rfl rfl (opS_pick_t (av := .v _) rfl h26 rfl) ?_
    exact K _ 5 _ (B_congr (and_t h26)) rfl rfl
   ·
    refine gF h26 rfl rfl rfl rfl rfl ?_
    refine gF h26 rfl rfl rfl rfl rfl ?_
    refine gF h26 rfl rfl rfl rfl rfl ?_
    refine gF h26 rfl rfl rfl rfl rfl ?_
    refine gF h26 rfl rfl rfl rfl rfl ?_
    refine sS rfl rfl rfl (opS_pick_f (av := .v _) rfl h26 rfl) ?_
    exact K _ 5 _ (B_congr (and_f h26)) rfl rfl
  refine sS rfl rfl rfl (mv rfl) ?_
  refine AR.meet (l := [32, 33, 34, 35, 36, 37, 38, 39, 40, 41, 42, 43, 44, 45]) 79 (B ((((((decide (x9 = x12)) && (decide (x10 = x13))) && (decide (x15 = x18))) && (x16 == x19)) && (decide (x27 = x29))) && (decide (x32 = x34)))) (fun K => ?_) ?_
  ·rcases Bool.eq_false_or_eq_true (((((decide (x9 = x12)) && (decide (x10 = x13))) && (decide (x15 = x18))) && (x16 == x19)) && (decide (x27 = x29))) with h31 | h31
   ·
    refine gT h31 rfl rfl rfl rfl rfl rfl (AO.ops rfl rfl (mv rfl) ?_)
    refine gT h31 rfl rfl rfl rfl rfl rfl (AO.callp rfl en17_lenttells rfl (w_Encode F _ _ (e33 h31)) ?_)
    refine gT h31 rfl rfl rfl rfl rfl rfl (AO.ops rfl rfl (mv rfl) ?_)
    refine gT h31 rfl rfl rfl rfl rfl rfl (AO.callp rfl en18_lenttells rfl (w_ref07_Encode F a1 x34 (e35 h31)) ?_)
    refine gT h31 rfl rfl rfl rfl rfl rfl (AO.ops rfl rfl (opS_eqs rfl rfl) ?_)
    refine sS rfl rfl rfl (opS_pick_t (av := .v _) rfl h31 rfl) ?_
    exact K _ 5 _ (B_congr (and_t h31)) rfl rfl
   ·
    refine gF h31 rfl rfl rfl rfl rfl ?_
    refine gF h31 rfl rfl rfl rfl rfl ?_
    refine gF h31 rfl rfl rfl rfl rfl ?_
    refine gF h31 rfl rfl rfl rfl rfl ?_
    refine gF h31 rfl rfl rfl rfl rfl ?_
    refine sS rfl rfl rfl (opS_pick_f (av := .v _) rfl h31 rfl) ?_
    exact K _ 5 _ (B_congr (and_f h31)) rfl rfl
  refine sS rfl rfl rfl (mv rfl) ?_
  refine AR.meet (l := [39, 40, 41, 42, 43, 44, 45]) 86 (B (((((((decide (x9 = x12)) && (decide (x10 = x13))) && (decide (x15 = x18))) && (x16 == x19)) && (decide (x27 = x29))) && (decide (x32 = x34))) && (decide (x37 = x39)))) (fun K => ?_) ?_
  ·rcases Bool.eq_false_or_eq_true ((((((decide (x9 = x12)) && (decide (x10 = x13))) && (decide (x15 = x18))) && (x16 == x19)) && (decide (x27 = x29))) && (decide (x32 = x34))) with h36 | h36
   ·
    refine gT h36 rfl rfl rfl rfl rfl rfl (AO.ops rfl rfl (mv rfl) ?_)
    refine gT h36 rfl rfl rfl rfl rfl rfl (AO.callp rfl en19_lenttells rfl (w_ent_Trim F a1 x37 (e38 h36)) ?_)
    refine gT h36 rfl rfl rfl rfl rfl rfl (AO.ops rfl rfl (mv rfl) ?_)
    refine gT h36 rfl rfl rfl rfl rfl rfl (AO.callp rfl en20_lenttells rfl (w_ref07_Trim F a1 x39 (e40 h36)) ?_)
    refine gT h36 rfl rfl rfl rfl rfl rfl (AO.ops rfl rfl (opS_eqs rfl rfl) ?_)
    refine sS rfl rfl rfl (opS_pick_t (av := .v _) rfl h36 rfl) ?_
    exact K _ 5 _ (B_congr (and_t h36)) rfl rfl
   ·
    refine gF h36 rfl rfl rfl rfl rfl ?_
    refine gF h36 rfl rfl rfl rfl rfl ?_
    refine gF h36 rfl rfl rfl rfl rfl ?_
    refine gF h36 rfl rfl rfl rfl rfl ?_
    refine gF h36 rfl rfl rfl rfl rfl ?_
    refine sS rfl rfl rfl (opS_pick_f (av := .v _) rfl h36 rfl) ?_
    exact K _ 5 _ (B_congr (and_f h36)) rfl rfl
  refine sS rfl rfl rfl (mv rfl) ?_
  refine AR.meet (l := [45]) 92 (B ((((((((decide (x9 = x12)) && (decide (x10 = x13))) && (decide (x15 = x18))) && (x16 == x19)) && (decide (x27 = x29))) && (decide (x32 = x34))) && (decide (x37 = x39))) && (x42 == x21))) (fun K => ?_) ?_
  ·rcases Bool.eq_false_or_eq_true (((((((decide (x9 = x12)) && (decide (x10 = x13))) && (decide (x15 = x18))) && (x16 == x19)) && (decide (x27 = x29))) && (decide (x32 = x34))) && (decide (x37 = x39))) with h41 | h41
   ·
    refine gT h41 rfl rfl rfl rfl rfl rfl (AO.ops rfl rfl (mv rfl) ?_)
    refine gT h41 rfl rfl rfl rfl rfl rfl (AO.callp rfl en21_lenttells rfl (w_ent_Space F a3 x42 (e43 h41)) ?_)
    refine gT h41 rfl rfl rfl rfl rfl rfl (AO.ops rfl rfl (mv rfl) ?_)
    refine gT h41 rfl rfl rfl rfl rfl rfl (AO.ops rfl rfl (opS_eqb Tryz.underlying4 rfl rfl) ?_)
    refine sS rfl rfl rfl (opS_pick_t (av := .v _) rfl h41 rfl) ?_
    exact K _ 4 _ (B_congr (and_t h41)) rfl rfl
   ·
    refine gF h41 rfl rfl rfl rfl rfl ?_
    refine gF h41 rfl rfl rfl rfl rfl ?_
    refine gF h41 rfl rfl rfl rfl rfl ?_
    refine gF h41 rfl rfl rfl rfl rfl ?_
    refine sS rfl rfl rfl (opS_pick_f (av := .v _) rfl h41 rfl) ?_
    exact K _ 4 _ (B_congr (and_f h41)) rfl rfl
  refine sS rfl rfl rfl (asg rfl) ?_
  refine AR.nil ?_
  show AW _ _ _ _ _ _
  refine AW.ret ?_
  obtain rfl := Option.some.inj H
  exact And.intro rfl (Exists.intro _ (Exists.intro _ ⟨ResV.oneW rfl (.refl _), Sub.at [] rfl, rfl, rfl⟩))
end Go.Proofs.YtjhlnhipjomdeaaGreatDoor
