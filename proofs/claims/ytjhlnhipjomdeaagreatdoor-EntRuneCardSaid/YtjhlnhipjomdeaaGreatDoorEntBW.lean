/-
  What goes through entities: what is run is what the plain functions say. Printed by a program of ours.
-/
import Derived.Test.YtjhlnhipjomdeaaGreatDoorAvE
import Derived.Test.YtjhlnhipjomdeaaGreatDoorPvLib
import Derived.Test.YtjhlnhipjomdeaaGreatDoorP11Join
import Derived.Test.YtjhlnhipjomdeaaGreatDoorShelf
import Derived.Lib.ItoaNum
import Derived.Test.YtjhlnhipjomdeaaGreatDoorAvStill
import Derived.Test.YtjhlnhipjomdeaaGreatDoorAvSync
import Derived.Test.YtjhlnhipjomdeaaGreatDoorChecked
import Derived.Test.YtjhlnhipjomdeaaGreatDoorEntAW
import Derived.Test.YtjhlnhipjomdeaaGreatDoorNumW
import Derived.Test.YtjhlnhipjomdeaaGreatDoorAnyW
import Derived.Test.YtjhlnhipjomdeaaGreatDoorEntBP
set_option linter.unusedVariables false
set_option linter.unusedSimpArgs false
namespace Go.Proofs.YtjhlnhipjomdeaaGreatDoor
open Go.RowKit Go.Av Go.Pv
theorem en12_entb : ∀ (args : Array Value) (w : World), (callFunc 12 args).run Tryz.prog w = .ok (.enter 12 args) w := fun _ _ => by kernel_rfl
theorem en22_entb : ∀ (args : Array Value) (w : World), (callFunc 22 args).run Tryz.prog w = .ok (.enter 22 args) w := fun _ _ => by kernel_rfl
theorem en24_entb : ∀ (args : Array Value) (w : World), (callFunc 24 args).run Tryz.prog w = .ok (.enter 24 args) w := fun _ _ => by kernel_rfl
theorem en28_entb : ∀ (args : Array Value) (w : World), (callFunc 28 args).run Tryz.prog w = .ok (.enter 28 args) w := fun _ _ => by kernel_rfl
theorem en29_entb : ∀ (args : Array Value) (w : World), (callFunc 29 args).run Tryz.prog w = .ok (.enter 29 args) w := fun _ _ => by kernel_rfl
theorem en30_entb : ∀ (args : Array Value) (w : World), (callFunc 30 args).run Tryz.prog w = .ok (.enter 30 args) w := fun _ _ => by kernel_rfl
theorem en31_entb : ∀ (args : Array Value) (w : World), (callFunc 31 args).run Tryz.prog w = .ok (.enter 31 args) w := fun _ _ => by kernel_rfl
theorem en39_entb : ∀ (args : Array Value) (w : World), (callFunc 39 args).run Tryz.prog w = .ok (.enter 39 args) w := fun _ _ => by kernel_rfl
theorem en40_entb : ∀ (args : Array Value) (w : World), (callFunc 40 args).run Tryz.prog w = .ok (.enter 40 args) w := fun _ _ => by kernel_rfl
theorem en52_entb : ∀ (args : Array Value) (w : World), (callFunc 52 args).run Tryz.prog w = .ok (.enter 52 args) w := fun _ _ => by kernel_rfl
theorem en53_entb : ∀ (args : Array Value) (w : World), (callFunc 53 args).run Tryz.prog w = .ok (.enter 53 args) w := fun _ _ => by kernel_rfl
theorem en54_entb : ∀ (args : Array Value) (w : World), (callFunc 54 args).run Tryz.prog w = .ok (.enter 54 args) w := fun _ _ => by kernel_rfl
theorem en67_entb : ∀ (args : Array Value) (w : World), (callFunc 67 args).run Tryz.prog w = .ok (.enter 67 args) w := fun _ _ => by kernel_rfl
theorem en68_entb : ∀ (args : Array Value) (w : World), (callFunc 68 args).run Tryz.prog w = .ok (.enter 68 args) w := fun _ _ => by kernel_rfl
set_option maxRecDepth 100000 in
set_option maxHeartbeats 1000000 in
theorem w_ent_Rune (F : Nat) (a1 : Int) (r2 : List UInt8) (r3 : Bool) (H : ent_Rune F a1 = some (r2, r3)) : ACalls Tryz.prog 12 [i64 a1] [] (Ret (.tup [S r2, B r3]) []) := by
 unfold ent_Rune at H
 refine ACalls.of_body Tryz.func12 rfl rfl ?_
 show AW _ _ 35 _ _ _
 refine AW.seq ?_
 refine AW.region ?_
 show AR _ _ _ _ _ [0, 1] _
 refine sS rfl rfl rfl (asg rfl) ?_
 refine sS rfl rfl rfl (asg rfl) ?_
 refine AR.nil ?_
 show AW _ _ _ _ _ _
 refine AW.seq ?_
 refine AW.region ?_
 show AR _ _ _ _ _ [0, 1, 2, 3, 4, 5, 6, 7, 8, 9, 10] _
 refine sS rfl rfl rfl (mv rfl) ?_
 refine sS rfl rfl rfl (opS_eqi rfl rfl) ?_
 refine sS rfl rfl rfl (mv rfl) ?_
 refine AR.meet (l := [6, 7, 8, 9, 10]) 10 (B ((decide (a1 = 9)) || (decide (a1 = 10)))) (fun K => ?_) ?_
 ·rcases Bool.eq_false_or_eq_true (decide (a1 = 9)) with h4 | h4
  ·
   refine gF h4 rfl rfl rfl rfl rfl ?_
   refine gF h4 rfl rfl rfl rfl rfl ?_
   refine sS rfl rfl rfl (opS_pick_t (av := .v _) rfl h4 rfl) ?_
   exact K _ 2 _ (B_congr (or_t h4)) rfl rfl
  ·
   refine gT h4 rfl rfl rfl rfl rfl rfl (AO.ops rfl rfl (mv rfl) ?_)
   refine gT h4 rfl rfl rfl rfl rfl rfl (AO.ops rfl rfl (opS_eqi rfl rfl) ?_)
   refine sS rfl rfl rfl (opS_pick_f (av := .v _) rfl h4 rfl) ?_
   exact K _ 2 _ (B_congr (or_f h4)) rfl rfl
 refine sS rfl rfl rfl (mv rfl) ?_
 refine AR.meet (l := [10]) 14 (B (((decide (a1 = 9)) || (decide (a1 = 10))) || (decide (a1 = 13)))) (fun K => ?_) ?_
 ·rcases Bool.eq_false_or_eq_true ((decide (a1 = 9)) || (decide (a1 = 10))) with h5 | h5
  ·
   refine gF h5 rfl rfl rfl rfl rfl ?_
   refine gF h5 rfl rfl rfl rfl rfl ?_
   refine sS rfl rfl rfl (opS_pick_t (av := .v _) rfl h5 rfl) ?_
   exact K _ 2 _ (B_congr (or_t h5)) rfl rfl
  ·
   refine gT h5 rfl rfl rfl rfl rfl rfl (AO.ops rfl rfl (mv rfl) ?_)
   refine gT h5 rfl rfl rfl rfl rfl rfl (AO.ops rfl rfl (opS_eqi rfl rfl) ?_)
   refine sS rfl rfl rfl (opS_pick_f (av := .v _) rfl h5 rfl) ?_
   exact K _ 2 _ (B_congr (or_f h5)) rfl rfl
 refine sS rfl rfl rfl (asg rfl) ?_
 refine AR.nil ?_
 show AW _ _ _ _ _ _
 refine AW.seq ?_
 refine AW.seq ?_
 obtain ⟨x7, e8, H⟩ := bndc_s H
 obtain ⟨x10, e11, H⟩ := bndc_s H
 obtain ⟨x13, e14, H⟩ := bndc_s H
 refine AW.region ?_
 show AR _ _ _ _ _ [0, 1, 2, 3, 4, 5, 6, 7, 8, 9, 10, 11, 12, 13, 14, 15, 16] _
 refine sS rfl rfl rfl (mv rfl) ?_
 refine sS rfl rfl rfl (opS_not rfl) ?_
 refine sS rfl rfl rfl (mv rfl) ?_
 refine AR.meet (l := [7, 8, 9, 10, 11, 12, 13, 14, 15, 16]) 21 (B ((!(((decide (a1 = 9)) || (decide (a1 = 10))) || (decide (a1 = 13)))) && (!x7))) (fun K => ?_) ?_
 ·rcases Bool.eq_false_or_eq_true (!(((decide (a1 = 9)) || (decide (a1 = 10))) || (decide (a1 = 13)))) with h6 | h6
  ·
   refine gT h6 rfl rfl rfl rfl rfl rfl (AO.ops rfl rfl (mv rfl) ?_)
   refine gT h6 rfl rfl rfl rfl rfl rfl (AO.callp rfl en24_entb rfl (w_ent_in F a1 32 55295 x7 (e8 h6)) ?_)
   refine gT h6 rfl rfl rfl rfl rfl rfl (AO.ops rfl rfl (opS_not rfl) ?_)
   refine sS rfl rfl rfl (opS_pick_t (av := .v _) rfl h6 rfl) ?_
   exact K _ 3 _ (B_congr (and_t h6)) rfl rfl
  ·
   refine gF h6 rfl rfl rfl rfl rfl ?_
   refine gF h6 rfl rfl rfl rfl rfl ?_
   refine gF h6 rfl rfl rfl rfl rfl ?_
   refine sS rfl rfl rfl (opS_pick_f (av := .v _) rfl h6 rfl) ?_
   exact K _ 3 _ (B_congr (and_f h6)) rfl rfl
 refine sS rfl rfl rfl (mv rfl) ?_
 refine AR.meet (l := [12, 13, 14, 15, 16]) 26 (B (((!(((decide (a1 = 9)) || (decide (a1 = 10))) || (decide (a1 = 13)))) && (!x7)) && (!x10))) (fun K => ?_) ?_
 ·rcases Bool.eq_false_or_eq_true ((!(((decide (a1 = 9)) || (decide (a1 = 10))) || (decide (a1 = 13)))) && (!x7)) with h9 | h9
  ·
   refine gT h9 rfl rfl rfl rfl rfl rfl (AO.ops rfl rfl (mv rfl) ?_)
   refine gT h9 rfl rfl rfl rfl rfl rfl (AO.callp rfl en24_entb rfl (w_ent_in F a1 57344 65533 x10 (e11 h9)) ?_)
   refine gT h9 rfl rfl rfl rfl rfl rfl (AO.ops rfl rfl (opS_not rfl) ?_)
   refine sS rfl rfl rfl (opS_pick_t (av := .v _) rfl h9 rfl) ?_
   exact K _ 3 _ (B_congr (and_t h9)) rfl rfl
  ·
   refine gF h9 rfl rfl rfl rfl rfl ?_
   refine gF h9 rfl rfl rfl rfl rfl ?_
   refine gF h9 rfl rfl rfl rfl rfl ?_
   refine sS rfl rfl rfl (opS_pick_f (av := .v _) rfl h9 rfl) ?_
   exact K _ 3 _ (B_congr (and_f h9)) rfl rfl
 refine sS rfl rfl rfl (mv rfl) ?_
 refine AR.meet (l := []) 31 (B ((((!(((decide (a1 = 9)) || (decide (a1 = 10))) || (decide (a1 = 13)))) && (!x7)) && (!x10)) && (!x13))) (fun K => ?_) ?_
 ·rcases Bool.eq_false_or_eq_true (((!(((decide (a1 = 9)) || (decide (a1 = 10))) || (decide (a1 = 13)))) && (!x7)) && (!x10)) with h12 | h12
  ·
   refine gT h12 rfl rfl rfl rfl rfl rfl (AO.ops rfl rfl (mv rfl) ?_)
   refine gT h12 rfl rfl rfl rfl rfl rfl (AO.callp rfl en24_entb rfl (w_ent_in F a1 65536 1114111 x13 (e14 h12)) ?_)
   refine gT h12 rfl rfl rfl rfl rfl rfl (AO.ops rfl rfl (opS_not rfl) ?_)
   refine sS rfl rfl rfl (opS_pick_t (av := .v _) rfl h12 rfl) ?_
   exact K _ 3 _ (B_congr (and_t h12)) rfl rfl
  ·
   refine gF h12 rfl rfl rfl rfl rfl ?_
   refine gF h12 rfl rfl rfl rfl rfl ?_
   refine gF h12 rfl rfl rfl rfl rfl ?_
   refine sS rfl rfl rfl (opS_pick_f (av := .v _) rfl h12 rfl) ?_
   exact K _ 3 _ (B_congr (and_f h12)) rfl rfl
 refine AR.nil ?_
 show AW _ _ _ _ _ _
 refine AW.cond rfl (fun c15 => ?_) (fun c15 => ?_)
 ·replace H := cnd_t c15 H
  refine AW.seq ?_
  refine AW.region ?_
  show AR _ _ _ _ _ [0, 1] _
  refine sS rfl rfl rfl (asg rfl) ?_
  refine sS rfl rfl rfl (asg rfl) ?_
  refine AR.nil ?_
  show AW _ _ _ _ _ _
  refine AW.ret ?_
  obtain ⟨rfl, rfl⟩ := res2 H
  exact And.intro rfl (Exists.intro _ (Exists.intro _ ⟨ResV.twoW rfl (.refl _) (.refl _), Sub.at [] rfl, rfl, rfl⟩))
 ·replace H := cnd_f c15 H
  refine AW.skip ?_
  show AW _ _ _ _ _ _
  refine AW.seq ?_
  obtain ⟨g16, H⟩ := grd_s H
  obtain ⟨x17, e18, H⟩ := lt_s H
  refine AW.region ?_
  show AR _ _ _ _ _ [0, 1, 2, 3, 4] _
  refine sS rfl rfl rfl (mv rfl) ?_
  refine sS rfl rfl rfl (g_conv_32 (by kernel_rfl) Tryz.underlying21 rfl g16) ?_
  refine sS rfl rfl rfl (g_rune_str Tryz.underlying21 Tryz.underlying9 rfl e18) ?_
  refine sS rfl rfl rfl (asg rfl) ?_
  refine sS rfl rfl rfl (asg rfl) ?_
  refine AR.nil ?_
  show AW _ _ _ _ _ _
  refine AW.ret ?_
  obtain ⟨rfl, rfl⟩ := res2 H
  exact And.intro rfl (Exists.intro _ (Exists.intro _ ⟨ResV.twoW rfl (.refl _) (.refl _), Sub.at [] rfl, rfl, rfl⟩))
set_option maxRecDepth 100000 in
set_option maxHeartbeats 1000000 in
theorem w_ent_signs (F : Nat) (r1 : List (List UInt8 × Int)) (H : ent_signs F = some r1) : ACalls Tryz.prog 52 [] [] (Ret (mpI .i32 r1) []) := by
 unfold ent_signs at H
 refine ACalls.of_body Tryz.func52 rfl rfl ?_
 show AW _ _ 3 _ _ _
 refine AW.seq ?_
 refine AW.region ?_
 show AR _ _ _ _ _ [0] _
 refine sS rfl rfl rfl (asg rfl) ?_
 refine AR.nil ?_
 show AW _ _ _ _ _ _
 refine AW.seq ?_
 refine AW.region ?_
 show AR _ _ _ _ _ [0, 1, 2, 3, 4, 5, 6, 7] _
 refine AM.make (k := .i32) rfl rfl ?_
 refine AM.insert (s := ([97, 109, 112] : List UInt8)) rfl Tryz.underlying84 Tryz.underlying9 rfl (by decide) ?_
 refine AM.insert (s := ([108, 116] : List UInt8)) rfl Tryz.underlying84 Tryz.underlying9 rfl (by decide) ?_
 refine AM.insert (s := ([103, 116] : List UInt8)) rfl Tryz.underlying84 Tryz.underlying9 rfl (by decide) ?_
 refine AM.insert (s := ([113, 117, 111, 116] : List UInt8)) rfl Tryz.underlying84 Tryz.underlying9 rfl (by decide) ?_
 refine AM.insert (s := ([97, 112, 111, 115] : List UInt8)) rfl Tryz.underlying84 Tryz.underlying9 rfl (by decide) ?_
 refine AM.done (es := ([(([97, 109, 112] : List UInt8), 38), (([108, 116] : List UInt8), 60), (([103, 116] : List UInt8), 62), (([113, 117, 111, 116] : List UInt8), 34), (([97, 112, 111, 115] : List UInt8), 39)] : List (List UInt8 × Int))) ?_
 refine sS rfl rfl rfl (opS_move (av := mpI _ _) rfl) ?_
 refine sS rfl rfl rfl (opS_assign (av := mpI _ _) rfl) ?_
 refine AR.nil ?_
 show AW _ _ _ _ _ _
 refine AW.ret ?_
 obtain rfl := Option.some.inj H
 exact And.intro rfl (Exists.intro _ (Exists.intro _ ⟨ResV.oneW rfl (.refl _), Sub.at [] rfl, rfl, rfl⟩))
set_option maxRecDepth 100000 in
set_option maxHeartbeats 1000000 in
theorem w_ent_number (F : Nat) (a1 : List UInt8) (a2 : Int) (r3 : List UInt8) (r4 : Bool) (H : ent_number F a1 a2 = some (r3, r4)) : ACalls Tryz.prog 54 [S a1, i64 a2] [] (Ret (.tup [S r3, B r4]) []) := by
 unfold ent_number at H
 refine ACalls.of_body Tryz.func54 rfl rfl ?_
 show AW _ _ 41 _ _ _
 refine AW.seq ?_
 refine AW.region ?_
 show AR _ _ _ _ _ [0, 1] _
 refine sS rfl rfl rfl (asg rfl) ?_
 refine sS rfl rfl rfl (asg rfl) ?_
 refine AR.nil ?_
 show AW _ _ _ _ _ _
 refine AW.seq ?_
 refine AW.seq ?_
 obtain ⟨g6, H⟩ := grdc_s H
 obtain ⟨x7, e8, H⟩ := lt_s H
 obtain ⟨g10, H⟩ := grdc_s H
 obtain ⟨x11, e12, H⟩ := lt_s H
 obtain ⟨g14, H⟩ := grdc_s H
 obtain ⟨x15, e16, H⟩ := lt_s H
 obtain ⟨x18, e19, H⟩ := bndc_s H
 refine AW.region ?_
 show AR _ _ _ _ _ [0, 1, 2, 3, 4, 5, 6, 7, 8, 9, 10, 11, 12, 13, 14, 15, 16, 17, 18, 19, 20] _
 refine sS rfl rfl rfl (mv rfl) ?_
 refine sS rfl rfl rfl (opS_eqs rfl rfl) ?_
 refine sS rfl rfl rfl (mv rfl) ?_
 refine AR.meet (l := [7, 8, 9, 10, 11, 12, 13, 14, 15, 16, 17, 18, 19, 20]) 14 (B ((decide (a1 = ([] : List UInt8))) || (decide (x7 = 43)))) (fun K => ?_) ?_
 ·rcases Bool.eq_false_or_eq_true (decide (a1 = ([] : List UInt8))) with h5 | h5
  ·
   refine gF h5 rfl rfl rfl rfl rfl ?_
   refine gF h5 rfl rfl rfl rfl rfl ?_
   refine gF h5 rfl rfl rfl rfl rfl ?_
   refine sS rfl rfl rfl (opS_pick_t (av := .v _) rfl h5 rfl) ?_
   exact K _ 3 _ (B_congr (or_t h5)) rfl rfl
  ·
   refine gT h5 rfl rfl rfl rfl rfl rfl (AO.ops rfl rfl (mv rfl) ?_)
   refine gT h5 rfl rfl rfl rfl rfl rfl (AO.ops rfl rfl (g_index_str Tryz.underlying9 rfl rfl (g6 (nf h5)) e8) ?_)
   refine gT h5 rfl rfl rfl rfl rfl rfl (AO.ops rfl rfl (g_eq8 (a := x7) (b := 43) rfl rfl) ?_)
   refine sS rfl rfl rfl (opS_pick_f (av := .v _) rfl h5 rfl) ?_
   exact K _ 3 _ (B_congr (or_f h5)) rfl rfl
 refine sS rfl rfl rfl (mv rfl) ?_
 refine AR.meet (l := [12, 13, 14, 15, 16, 17, 18, 19, 20]) 19 (B (((decide (a1 = ([] : List UInt8))) || (decide (x7 = 43))) || (decide (x11 = 45)))) (fun K => ?_) ?_
 ·rcases Bool.eq_false_or_eq_true ((decide (a1 = ([] : List UInt8))) || (decide (x7 = 43))) with h9 | h9
  ·
   refine gF h9 rfl rfl rfl rfl rfl ?_
   refine gF h9 rfl rfl rfl rfl rfl ?_
   refine gF h9 rfl rfl rfl rfl rfl ?_
   refine sS rfl rfl rfl (opS_pick_t (av := .v _) rfl h9 rfl) ?_
   exact K _ 3 _ (B_congr (or_t h9)) rfl rfl
  ·
   refine gT h9 rfl rfl rfl rfl rfl rfl (AO.ops rfl rfl (mv rfl) ?_)
   refine gT h9 rfl rfl rfl rfl rfl rfl (AO.ops rfl rfl (g_index_str Tryz.underlying9 rfl rfl (g10 (nf h9)) e12) ?_)
   refine gT h9 rfl rfl rfl rfl rfl rfl (AO.ops rfl rfl (g_eq8 (a := x11) (b := 45) rfl rfl) ?_)
   refine sS rfl rfl rfl (opS_pick_f (av := .v _) rfl h9 rfl) ?_
   exact K _ 3 _ (B_congr (or_f h9)) rfl rfl
 refine sS rfl rfl rfl (mv rfl) ?_
 refine AR.meet (l := [17, 18, 19, 20]) 24 (B ((((decide (a1 = ([] : List UInt8))) || (decide (x7 = 43))) || (decide (x11 = 45))) || (decide (x15 = 95)))) (fun K => ?_) ?_
 ·rcases Bool.eq_false_or_eq_true (((decide (a1 = ([] : List UInt8))) || (decide (x7 = 43))) || (decide (x11 = 45))) with h13 | h13
  ·
   refine gF h13 rfl rfl rfl rfl rfl ?_
   refine gF h13 rfl rfl rfl rfl rfl ?_
   refine gF h13 rfl rfl rfl rfl rfl ?_
   refine sS rfl rfl rfl (opS_pick_t (av := .v _) rfl h13 rfl) ?_
   exact K _ 3 _ (B_congr (or_t h13)) rfl rfl
  ·
   refine gT h13 rfl rfl rfl rfl rfl rfl (AO.ops rfl rfl (mv rfl) ?_)
   refine gT h13 rfl rfl rfl rfl rfl rfl (AO.ops rfl rfl (g_index_str Tryz.underlying9 rfl rfl (g14 (nf h13)) e16) ?_)
   refine gT h13 rfl rfl rfl rfl rfl rfl (AO.ops rfl rfl (g_eq8 (a := x15) (b := 95) rfl rfl) ?_)
   refine sS rfl rfl rfl (opS_pick_f (av := .v _) rfl h13 rfl) ?_
   exact K _ 3 _ (B_congr (or_f h13)) rfl rfl
 refine sS rfl rfl rfl (mv rfl) ?_
 refine AR.meet (l := []) 28 (B (((((decide (a1 = ([] : List UInt8))) || (decide (x7 = 43))) || (decide (x11 = 45))) || (decide (x15 = 95))) || x18)) (fun K => ?_) ?_
 ·rcases Bool.eq_false_or_eq_true ((((decide (a1 = ([] : List UInt8))) || (decide (x7 = 43))) || (decide (x11 = 45))) || (decide (x15 = 95))) with h17 | h17
  ·
   refine gF h17 rfl rfl rfl rfl rfl ?_
   refine gF h17 rfl rfl rfl rfl rfl ?_
   refine sS rfl rfl rfl (opS_pick_t (av := .v _) rfl h17 rfl) ?_
   exact K _ 2 _ (B_congr (or_t h17)) rfl rfl
  ·
   refine gT h17 rfl rfl rfl rfl rfl rfl (AO.ops rfl rfl (mv rfl) ?_)
   refine gT h17 rfl rfl rfl rfl rfl rfl (AO.callp rfl en67_entb rfl (w_containsAny F a1 ([95] : List UInt8) x18 (e19 (nf h17))) ?_)
   refine sS rfl rfl rfl (opS_pick_f (av := .v _) rfl h17 rfl) ?_
   exact K _ 2 _ (B_congr (or_f h17)) rfl rfl
 refine AR.nil ?_
 show AW _ _ _ _ _ _
 refine AW.cond rfl (fun c20 => ?_) (fun c20 => ?_)
 ·replace H := cnd_t c20 H
  refine AW.seq ?_
  refine AW.region ?_
  show AR _ _ _ _ _ [0, 1] _
  refine sS rfl rfl rfl (asg rfl) ?_
  refine sS rfl rfl rfl (asg rfl) ?_
  refine AR.nil ?_
  show AW _ _ _ _ _ _
  refine AW.ret ?_
  obtain ⟨rfl, rfl⟩ := res2 H
  exact And.intro rfl (Exists.intro _ (Exists.intro _ ⟨ResV.twoW rfl (.refl _) (.refl _), Sub.at [] rfl, rfl, rfl⟩))
 ·replace H := cnd_f c20 H
  refine AW.skip ?_
  show AW _ _ _ _ _ _
  refine AW.seq ?_
  obtain ⟨x21, x22, e23, H⟩ := bnd2_s H
  refine AW.region ?_
  show AR _ _ _ _ _ [0, 1, 2, 3, 4, 5, 6, 7] _
  refine sS rfl rfl rfl (mv rfl) ?_
  refine sS rfl rfl rfl (mv rfl) ?_
  refine AR.run rfl rfl (AO.callp rfl en68_entb rfl (w_strconv_ParseInt F a1 a2 0 x21 x22 e23) ?_)
  refine sS rfl rfl rfl (opS_move (av := .tup _) rfl) ?_
  refine sS rfl rfl rfl (opS_extract (av := .v _) rfl rfl) ?_
  refine sS rfl rfl rfl (opS_extract (av := eAny _ _) rfl rfl) ?_
  refine sS rfl rfl rfl (asg rfl) ?_
  refine sS rfl rfl rfl (opS_assign (av := eAny _ _) rfl) ?_
  refine AR.nil ?_
  show AW _ _ _ _ _ _
  refine AW.seq ?_
  refine AW.seq ?_
  refine AW.region ?_
  show AR _ _ _ _ _ [0, 1] _
  refine sS rfl rfl rfl (opS_move (av := eAny _ _) rfl) ?_
  refine sS rfl rfl rfl (g_ne_nil_a Tryz.underlying46 rfl rfl) ?_
  refine AR.nil ?_
  show AW _ _ _ _ _ _
  refine AW.cond rfl (fun c24 => ?_) (fun c24 => ?_)
  ·replace H := cnd_t c24 H
   refine AW.seq ?_
   refine AW.region ?_
   show AR _ _ _ _ _ [0, 1] _
   refine sS rfl rfl rfl (asg rfl) ?_
   refine sS rfl rfl rfl (asg rfl) ?_
   refine AR.nil ?_
   show AW _ _ _ _ _ _
   refine AW.ret ?_
   obtain ⟨rfl, rfl⟩ := res2 H
   exact And.intro rfl (Exists.intro _ (Exists.intro _ ⟨ResV.twoW rfl (.refl _) (.refl _), Sub.at [] rfl, rfl, rfl⟩))
  ·replace H := cnd_f c24 H
   refine AW.skip ?_
   show AW _ _ _ _ _ _
   refine AW.seq ?_
   obtain ⟨x25, x26, e27, H⟩ := bnd2_s H
   refine AW.region ?_
   show AR _ _ _ _ _ [0, 1, 2, 3, 4, 5] _
   refine sS rfl rfl rfl (mv rfl) ?_
   refine AR.run rfl rfl (AO.callp rfl en12_entb rfl (w_ent_Rune F x21 x25 x26 e27) ?_)
   refine sS rfl rfl rfl (opS_extract (av := .v _) rfl rfl) ?_
   refine sS rfl rfl rfl (opS_extract (av := .v _) rfl rfl) ?_
   refine sS rfl rfl rfl (asg rfl) ?_
   refine sS rfl rfl rfl (asg rfl) ?_
   refine AR.nil ?_
   show AW _ _ _ _ _ _
   refine AW.ret ?_
   obtain ⟨rfl, rfl⟩ := res2 H
   exact And.intro rfl (Exists.intro _ (Exists.intro _ ⟨ResV.twoW rfl (.refl _) (.refl _), Sub.at [] rfl, rfl, rfl⟩))
set_option maxRecDepth 100000 in
set_option maxHeartbeats 1000000 in
theorem w_ent_sign (F : Nat) (a1 : List UInt8) (r2 : List UInt8) (r3 : Bool) (H : ent_sign F a1 = some (r2, r3)) : ACalls Tryz.prog 40 [S a1] [] (Ret (.tup [S r2, B r3]) []) := by
 unfold ent_sign at H
 refine ACalls.of_body Tryz.func40 rfl rfl ?_
 show AW _ _ 39 _ _ _
 refine AW.seq ?_
 refine AW.region ?_
 show AR _ _ _ _ _ [0, 1] _
 refine sS rfl rfl rfl (asg rfl) ?_
 refine sS rfl rfl rfl (asg rfl) ?_
 refine AR.nil ?_
 show AW _ _ _ _ _ _
 refine AW.seq ?_
 refine AW.seq ?_
 obtain ⟨x4, e5, H⟩ := bnd_s H
 refine AW.region ?_
 show AR _ _ _ _ _ [0, 1, 2, 3, 4, 5, 6, 7] _
 refine AR.run rfl rfl (AO.callp rfl en52_entb rfl (w_ent_signs F x4 e5) ?_)
 refine sS rfl rfl rfl (mv rfl) ?_
 refine sS rfl rfl rfl (g_lookup2 Tryz.underlying84 Tryz.underlying9 (fun _ => by kernel_rfl) rfl rfl) ?_
 refine sS rfl rfl rfl (opS_move (av := .tup _) rfl) ?_
 refine sS rfl rfl rfl (opS_extract (av := .v _) rfl rfl) ?_
 refine sS rfl rfl rfl (opS_extract (av := .v _) rfl rfl) ?_
 refine sS rfl rfl rfl (asg rfl) ?_
 refine sS rfl rfl rfl (asg rfl) ?_
 refine AR.nil ?_
 show AW _ _ _ _ _ _
 refine AW.seq ?_
 refine AW.region ?_
 show AR _ _ _ _ _ [0] _
 refine sS rfl rfl rfl (mv rfl) ?_
 refine AR.nil ?_
 show AW _ _ _ _ _ _
 refine AW.cond rfl (fun c6 => ?_) (fun c6 => ?_)
 ·replace H := cnd_t c6 H
  refine AW.seq ?_
  obtain ⟨x7, e8, H⟩ := lt_s H
  refine AW.region ?_
  show AR _ _ _ _ _ [0, 1, 2, 3] _
  refine sS rfl rfl rfl (mv rfl) ?_
  refine sS rfl rfl rfl (g_rune_str Tryz.underlying21 Tryz.underlying9 rfl e8) ?_
  refine sS rfl rfl rfl (asg rfl) ?_
  refine sS rfl rfl rfl (asg rfl) ?_
  refine AR.nil ?_
  show AW _ _ _ _ _ _
  refine AW.ret ?_
  obtain ⟨rfl, rfl⟩ := res2 H
  exact And.intro rfl (Exists.intro _ (Exists.intro _ ⟨ResV.twoW rfl (.refl _) (.refl _), Sub.at [] rfl, rfl, rfl⟩))
 ·replace H := cnd_f c6 H
  refine AW.skip ?_
  show AW _ _ _ _ _ _
  refine AW.seq ?_
  refine AW.seq ?_
  obtain ⟨x9, e10, H⟩ := lt_s H
  refine AW.region ?_
  show AR _ _ _ _ _ [0, 1, 2, 3, 4, 5, 6] _
  refine sS rfl rfl rfl (mv rfl) ?_
  refine AR.run rfl rfl (AO.callp rfl en53_entb rfl (show ACalls _ _ _ [] (Ret (.tup [S x9.1, B x9.2]) []) from by subst e10; exact lib_CutPrefix a1 ([35, 120] : List UInt8)) ?_)
  refine sS rfl rfl rfl (opS_move (av := .tup _) rfl) ?_
  refine sS rfl rfl rfl (opS_extract (av := .v _) rfl rfl) ?_
  refine sS rfl rfl rfl (opS_extract (av := .v _) rfl rfl) ?_
  refine sS rfl rfl rfl (asg rfl) ?_
  refine sS rfl rfl rfl (asg rfl) ?_
  refine AR.nil ?_
  show AW _ _ _ _ _ _
  refine AW.seq ?_
  refine AW.region ?_
  show AR _ _ _ _ _ [0] _
  refine sS rfl rfl rfl (mv rfl) ?_
  refine AR.nil ?_
  show AW _ _ _ _ _ _
  refine AW.cond rfl (fun c11 => ?_) (fun c11 => ?_)
  ·replace H := cnd_t c11 H
   refine AW.seq ?_
   obtain ⟨x12, x13, e14, H⟩ := bnd2_s H
   refine AW.region ?_
   show AR _ _ _ _ _ [0, 1, 2, 3, 4, 5] _
   refine sS rfl rfl rfl (mv rfl) ?_
   refine AR.run rfl rfl (AO.callp rfl en54_entb rfl (w_ent_number F x9.1 16 x12 x13 e14) ?_)
   refine sS rfl rfl rfl (opS_extract (av := .v _) rfl rfl) ?_
   refine sS rfl rfl rfl (opS_extract (av := .v _) rfl rfl) ?_
   refine sS rfl rfl rfl (asg rfl) ?_
   refine sS rfl rfl rfl (asg rfl) ?_
   refine AR.nil ?_
   show AW _ _ _ _ _ _
   refine AW.ret ?_
   obtain ⟨rfl, rfl⟩ := res2 H
   exact And.intro rfl (Exists.intro _ (Exists.intro _ ⟨ResV.twoW rfl (.refl _) (.refl _), Sub.at [] rfl, rfl, rfl⟩))
  ·replace H := cnd_f c11 H
   refine AW.skip ?_
   show AW _ _ _ _ _ _
   refine AW.seq ?_
   refine AW.seq ?_
   obtain ⟨x15, e16, H⟩ := lt_s H
   refine AW.region ?_
   show AR _ _ _ _ _ [0, 1, 2, 3, 4, 5, 6] _
   refine sS rfl rfl rfl (mv rfl) ?_
   refine AR.run rfl rfl (AO.callp rfl en53_entb rfl (show ACalls _ _ _ [] (Ret (.tup [S x15.1, B x15.2]) []) from by subst e16; exact lib_CutPrefix a1 ([35] : List UInt8)) ?_)
   refine sS rfl rfl rfl (opS_move (av := .tup _) rfl) ?_
   refine sS rfl rfl rfl (opS_extract (av := .v _) rfl rfl) ?_
   refine sS rfl rfl rfl (opS_extract (av := .v _) rfl rfl) ?_
   refine sS rfl rfl rfl (asg rfl) ?_
   refine sS rfl rfl rfl (asg rfl) ?_
   refine AR.nil ?_
   show AW _ _ _ _ _ _
   refine AW.seq ?_
   refine AW.region ?_
   show AR _ _ _ _ _ [0] _
   refine sS rfl rfl rfl (mv rfl) ?_
   refine AR.nil ?_
   show AW _ _ _ _ _ _
   refine AW.cond rfl (fun c17 => ?_) (fun c17 => ?_)
   ·replace H := cnd_t c17 H
    refine AW.seq ?_
    obtain ⟨x18, x19, e20, H⟩ := bnd2_s H
    refine AW.region ?_
    show AR _ _ _ _ _ [0, 1, 2, 3, 4, 5] _
    refine sS rfl rfl rfl (mv rfl) ?_
    refine AR.run rfl rfl (AO.callp rfl en54_entb rfl (w_ent_number F x15.1 10 x18 x19 e20) ?_)
    refine sS rfl rfl rfl (opS_extract (av := .v _) rfl rfl) ?_
    refine sS rfl rfl rfl (opS_extract (av := .v _) rfl rfl) ?_
    refine sS rfl rfl rfl (asg rfl) ?_
    refine sS rfl rfl rfl (asg rfl) ?_
    refine AR.nil ?_
    show AW _ _ _ _ _ _
    refine AW.ret ?_
    obtain ⟨rfl, rfl⟩ := res2 H
    exact And.intro rfl (Exists.intro _ (Exists.intro _ ⟨ResV.twoW rfl (.refl _) (.refl _), Sub.at [] rfl, rfl, rfl⟩))
   ·replace H := cnd_f c17 H
    refine AW.skip ?_
    show AW _ _ _ _ _ _
    refine AW.seq ?_
    refine AW.region ?_
    show AR _ _ _ _ _ [0, 1] _
    refine sS rfl rfl rfl (asg rfl) ?_
    refine sS rfl rfl rfl (asg rfl) ?_
    refine AR.nil ?_
    show AW _ _ _ _ _ _
    refine AW.ret ?_
    obtain ⟨rfl, rfl⟩ := res2 H
    exact And.intro rfl (Exists.intro _ (Exists.intro _ ⟨ResV.twoW rfl (.refl _) (.refl _), Sub.at [] rfl, rfl, rfl⟩))
set_option maxRecDepth 100000 in
set_option maxHeartbeats 1000000 in
theorem w_ent_first (F : Nat) (a1 : List UInt8) (r2 : List UInt8) (r3 : Int) (H : ent_first F a1 = some (r2, r3)) : ACalls Tryz.prog 31 [S a1] [] (Ret (.tup [S r2, i64 r3]) []) := by
 unfold ent_first at H
 refine ACalls.of_body Tryz.func31 rfl rfl ?_
 show AW _ _ 33 _ _ _
 refine AW.seq ?_
 refine AW.region ?_
 show AR _ _ _ _ _ [0, 1] _
 refine sS rfl rfl rfl (asg rfl) ?_
 refine sS rfl rfl rfl (asg rfl) ?_
 refine AR.nil ?_
 show AW _ _ _ _ _ _
 refine AW.seq ?_
 obtain ⟨g4, H⟩ := grd_s H
 obtain ⟨x5, e6, H⟩ := lt_s H
 obtain ⟨g7, H⟩ := grd_s H
 obtain ⟨g8, H⟩ := grd_s H
 obtain ⟨g9, H⟩ := grd_s H
 obtain ⟨x10, e11, H⟩ := bnd_s H
 refine AW.region ?_
 show AR _ _ _ _ _ [0, 1, 2, 3] _
 refine sS rfl rfl rfl (mv rfl) ?_
 refine sS rfl rfl rfl (g_from_str Tryz.underlying9 rfl rfl g4 e6) ?_
 refine AR.run rfl rfl (AO.callp rfl en39_entb rfl (lib_IndexAny F x5 ([38, 59] : List UInt8) x10 g7 g8 g9 e11) ?_)
 refine sS rfl rfl rfl (asg rfl) ?_
 refine AR.nil ?_
 show AW _ _ _ _ _ _
 refine AW.seq ?_
 refine AW.seq ?_
 obtain ⟨x12, e13, H⟩ := bnd_s H
 obtain ⟨g15, H⟩ := grdc_s H
 obtain ⟨g16, H⟩ := grdc_s H
 obtain ⟨x17, e18, H⟩ := lt_s H
 refine AW.region ?_
 show AR _ _ _ _ _ [0, 1, 2, 3, 4, 5, 6, 7, 8, 9] _
 refine sS rfl rfl rfl (mv rfl) ?_
 refine AR.run rfl rfl (AO.callp rfl en24_entb rfl (w_ent_in F x10 1 10 x12 e13) ?_)
 refine sS rfl rfl rfl (opS_not rfl) ?_
 refine sS rfl rfl rfl (mv rfl) ?_
 refine AR.meet (l := []) 19 (B ((!x12) || (decide (x17 = 38)))) (fun K => ?_) ?_
 ·rcases Bool.eq_false_or_eq_true (!x12) with h14 | h14
  ·
   refine gF h14 rfl rfl rfl rfl rfl ?_
   refine gF h14 rfl rfl rfl rfl rfl ?_
   refine gF h14 rfl rfl rfl rfl rfl ?_
   refine gF h14 rfl rfl rfl rfl rfl ?_
   refine gF h14 rfl rfl rfl rfl rfl ?_
   refine sS rfl rfl rfl (opS_pick_t (av := .v _) rfl h14 rfl) ?_
   exact K _ 5 _ (B_congr (or_t h14)) rfl rfl
  ·
   refine gT h14 rfl rfl rfl rfl rfl rfl (AO.ops rfl rfl (mv rfl) ?_)
   refine gT h14 rfl rfl rfl rfl rfl rfl (AO.ops rfl rfl (mv rfl) ?_)
   refine gT h14 rfl rfl rfl rfl rfl rfl (AO.ops rfl rfl (g_add rfl rfl (g15 (nf h14))) ?_)
   refine gT h14 rfl rfl rfl rfl rfl rfl (AO.ops rfl rfl (g_index_str Tryz.underlying9 rfl rfl (g16 (nf h14)) e18) ?_)
   refine gT h14 rfl rfl rfl rfl rfl rfl (AO.ops rfl rfl (g_eq8 (a := x17) (b := 38) rfl rfl) ?_)
   refine sS rfl rfl rfl (opS_pick_f (av := .v _) rfl h14 rfl) ?_
   exact K _ 5 _ (B_congr (or_f h14)) rfl rfl
 refine AR.nil ?_
 show AW _ _ _ _ _ _
 refine AW.cond rfl (fun c19 => ?_) (fun c19 => ?_)
 ·replace H := cnd_t c19 H
  refine AW.seq ?_
  refine AW.region ?_
  show AR _ _ _ _ _ [0, 1] _
  refine sS rfl rfl rfl (asg rfl) ?_
  refine sS rfl rfl rfl (asg rfl) ?_
  refine AR.nil ?_
  show AW _ _ _ _ _ _
  refine AW.ret ?_
  obtain ⟨rfl, rfl⟩ := res2 H
  exact And.intro rfl (Exists.intro _ (Exists.intro _ ⟨ResV.twoW rfl (.refl _) (.refl _), Sub.at [] rfl, rfl, rfl⟩))
 ·replace H := cnd_f c19 H
  refine AW.skip ?_
  show AW _ _ _ _ _ _
  refine AW.seq ?_
  obtain ⟨g20, H⟩ := grd_s H
  obtain ⟨g21, H⟩ := grd_s H
  obtain ⟨x22, e23, H⟩ := lt_s H
  obtain ⟨x24, x25, e26, H⟩ := bnd2_s H
  refine AW.region ?_
  show AR _ _ _ _ _ [0, 1, 2, 3, 4, 5, 6, 7, 8, 9] _
  refine sS rfl rfl rfl (mv rfl) ?_
  refine sS rfl rfl rfl (mv rfl) ?_
  refine sS rfl rfl rfl (g_add rfl rfl g20) ?_
  refine sS rfl rfl rfl (g_slice_str Tryz.underlying9 rfl rfl rfl g21 e23) ?_
  refine AR.run rfl rfl (AO.callp rfl en40_entb rfl (w_ent_sign F x22 x24 x25 e26) ?_)
  refine sS rfl rfl rfl (opS_move (av := .tup _) rfl) ?_
  refine sS rfl rfl rfl (opS_extract (av := .v _) rfl rfl) ?_
  refine sS rfl rfl rfl (opS_extract (av := .v _) rfl rfl) ?_
  refine sS rfl rfl rfl (asg rfl) ?_
  refine sS rfl rfl rfl (asg rfl) ?_
  refine AR.nil ?_
  show AW _ _ _ _ _ _
  refine AW.seq ?_
  refine AW.seq ?_
  refine AW.region ?_
  show AR _ _ _ _ _ [0, 1] _
  refine sS rfl rfl rfl (mv rfl) ?_
  refine sS rfl rfl rfl (opS_not rfl) ?_
  refine AR.nil ?_
  show AW _ _ _ _ _ _
  refine AW.cond rfl (fun c27 => ?_) (fun c27 => ?_)
  ·replace H := cnd_t c27 H
   refine AW.seq ?_
   refine AW.region ?_
   show AR _ _ _ _ _ [0, 1] _
   refine sS rfl rfl rfl (asg rfl) ?_
   refine sS rfl rfl rfl (asg rfl) ?_
   refine AR.nil ?_
   show AW _ _ _ _ _ _
   refine AW.ret ?_
   obtain ⟨rfl, rfl⟩ := res2 H
   exact And.intro rfl (Exists.intro _ (Exists.intro _ ⟨ResV.twoW rfl (.refl _) (.refl _), Sub.at [] rfl, rfl, rfl⟩))
  ·replace H := cnd_f c27 H
   refine AW.skip ?_
   show AW _ _ _ _ _ _
   refine AW.seq ?_
   obtain ⟨g28, H⟩ := grd_s H
   refine AW.region ?_
   show AR _ _ _ _ _ [0, 1, 2, 3, 4] _
   refine sS rfl rfl rfl (mv rfl) ?_
   refine sS rfl rfl rfl (mv rfl) ?_
   refine sS rfl rfl rfl (g_add rfl rfl g28) ?_
   refine sS rfl rfl rfl (asg rfl) ?_
   refine sS rfl rfl rfl (asg rfl) ?_
   refine AR.nil ?_
   show AW _ _ _ _ _ _
   refine AW.ret ?_
   obtain ⟨rfl, rfl⟩ := res2 H
   exact And.intro rfl (Exists.intro _ (Exists.intro _ ⟨ResV.twoW rfl (.refl _) (.refl _), Sub.at [] rfl, rfl, rfl⟩))
set_option maxRecDepth 100000 in
set_option maxHeartbeats 1000000 in
theorem w_ent_gone (F : Nat) (a1 : List UInt8) (r2 : List UInt8) (r3 : Bool) (H : ent_gone F a1 = some (r2, r3)) : ACalls Tryz.prog 22 [S a1] [] (Ret (.tup [S r2, B r3]) []) := by
 unfold ent_gone at H
 refine ACalls.of_body Tryz.func22 rfl rfl ?_
 show AW _ _ 36 _ _ _
 refine AW.seq ?_
 refine AW.region ?_
 show AR _ _ _ _ _ [0, 1] _
 refine sS rfl rfl rfl (asg rfl) ?_
 refine sS rfl rfl rfl (asg rfl) ?_
 refine AR.nil ?_
 show AW _ _ _ _ _ _
 refine AW.seq ?_
 refine AW.region ?_
 show AR _ _ _ _ _ [0] _
 refine sX rfl rfl rfl (opX_allocT (zs := [(.pointer none), .slice none 0 0]) (by kernel_rfl)) ?_
 rintro _ _ ⟨o4, rfl, rfl⟩
 refine AR.nil ?_
 show AW _ _ _ _ _ _
 refine AW.nil_objAt 0 1 1 5 rfl rfl fun t5 => ?_
 show AW _ _ _ _ _ ⟨_, _, [.tok t5 5, .obj o4 [.v (.pointer none), slE Enc.byte [] (some t5)], .ty o4 44]⟩
 refine AW.seq ?_
 refine AW.region ?_
 show AR _ _ _ _ _ [0] _
 refine sS rfl rfl rfl (asg rfl) ?_
 refine AR.nil ?_
 show AW _ _ _ _ _ _
 refine AW.block ?_
 refine AW.loop (X := Nat × (List UInt8) × Bool × AV × (List UInt8) × Nat) (fun (n12, y6, y7, t8, y9, t10) => ⟨[(0, S y6), (4, .pt o4 0), (5, B y7)], [], [.obj o4 [t8, slE Enc.byte y9 (some t10)], .ty o4 44, .tok t10 5]⟩) (fun (n12, y6, y7, t8, y9, t10) => ent_gone_L1 F n12 (y6, y7, y9) = some (r2, r3) ∧ (t8 = .v (.pointer none) ∨ t8 = .pt o4 0)) (fun (n12, y6, y7, t8, y9, t10) => n12) (F, a1, true, (.v (.pointer none)), [], t5) ⟨H, .inl rfl⟩ (WK.at [1, 1, 0] (.cons (.refl _) (.cons (.refl _) (.cons (.refl _) (.nil _)))) rfl) ?_
 rintro ⟨n12, y6, y7, t8, y9, t10⟩ ⟨H, ht8⟩
 obtain ⟨n12, rfl, H⟩ := loop_s H
 replace H : ent_gone_B1 F (ent_gone_L1 F n12) y6 y7 y9 = some (r2, r3) := H
 unfold ent_gone_B1 at H
 show AW _ _ _ _ _ _
 refine AW.block ?_
 refine AW.seq ?_
 obtain ⟨x13, e14, H⟩ := lt_s H
 refine AW.region ?_
 show AR _ _ _ _ _ [0, 1, 2] _
 refine sS rfl rfl rfl (mv rfl) ?_
 refine AR.run rfl rfl (AO.callp rfl en28_entb rfl (show ACalls _ _ _ [] (Ret (i64 x13) []) from by subst e14; exact lib_IndexByte y6 38) ?_)
 refine sS rfl rfl rfl (asg rfl) ?_
 refine AR.nil ?_
 show AW _ _ _ _ _ _
 refine AW.seq ?_
 refine AW.seq ?_
 refine AW.region ?_
 show AR _ _ _ _ _ [0, 1] _
 refine sS rfl rfl rfl (mv rfl) ?_
 refine sS rfl rfl rfl (opS_lt rfl rfl) ?_
 refine AR.nil ?_
 show AW _ _ _ _ _ _
 refine AW.cond rfl (fun c15 => ?_) (fun c15 => ?_)
 ·replace H := cnd_t c15 H
  refine AW.seq ?_
  obtain ⟨g16, H⟩ := grd_s H
  obtain ⟨x17, e18, H⟩ := lt_s H
  refine AW.region ?_
  show AR _ _ _ _ _ [0, 1] _
  refine sS rfl rfl rfl (mv rfl) ?_
  refine AR.run rfl rfl (AO.callAt [0, 0, 0] rfl en29_entb rfl (Builder_WriteString0  o4 (t8) ht8 y9 y6 t10 (okW_s g16)) rfl (fun c A' h => by cases h.1) ?_)
  rintro av A' ⟨h, t19, rfl⟩; cases h
  rw [e18]
  refine AR.nil ?_
  show AW _ _ _ _ _ _
  refine AW.seq ?_
  obtain ⟨g20, H⟩ := grd_s H
  refine AW.region ?_
  show AR _ _ _ _ _ [0, 1, 2, 3] _
  refine AR.run rfl rfl (AO.callAt [0, 1] rfl en30_entb rfl (Builder_String0  o4 (.pt o4 0) x17 t19 (okW0_s g20)) rfl (fun c A' h => by cases h.1) ?_)
  rintro av A' ⟨h, rfl⟩; cases h
  refine sS rfl rfl rfl (mv rfl) ?_
  refine sS rfl rfl rfl (asg rfl) ?_
  refine sS rfl rfl rfl (asg rfl) ?_
  refine AR.nil ?_
  show AW _ _ _ _ _ _
  refine AW.ret ?_
  obtain ⟨rfl, rfl⟩ := res2 H
  exact And.intro rfl (Exists.intro _ (Exists.intro _ ⟨ResV.twoW rfl (.refl _) (.refl _), Sub.at [] rfl, rfl, rfl⟩))
 ·replace H := cnd_f c15 H
  refine AW.skip ?_
  show AW _ _ _ _ _ _
  refine AW.seq ?_
  obtain ⟨g21, H⟩ := grd_s H
  obtain ⟨x22, e23, H⟩ := lt_s H
  obtain ⟨g24, H⟩ := grd_s H
  obtain ⟨x25, e26, H⟩ := lt_s H
  refine AW.region ?_
  show AR _ _ _ _ _ [0, 1, 2, 3] _
  refine sS rfl rfl rfl (mv rfl) ?_
  refine sS rfl rfl rfl (mv rfl) ?_
  refine sS rfl rfl rfl (g_to_str Tryz.underlying9 rfl rfl g21 e23) ?_
  refine AR.run rfl rfl (AO.callAt [0, 0, 0] rfl en29_entb rfl (Builder_WriteString0  o4 (t8) ht8 y9 x22 t10 (okW_s g24)) rfl (fun c A' h => by cases h.1) ?_)
  rintro av A' ⟨h, t27, rfl⟩; cases h
  rw [e26]
  refine AR.nil ?_
  show AW _ _ _ _ _ _
  refine AW.seq ?_
  obtain ⟨g28, H⟩ := grd_s H
  obtain ⟨x29, e30, H⟩ := lt_s H
  refine AW.region ?_
  show AR _ _ _ _ _ [0, 1, 2, 3] _
  refine sS rfl rfl rfl (mv rfl) ?_
  refine sS rfl rfl rfl (mv rfl) ?_
  refine sS rfl rfl rfl (g_from_str Tryz.underlying9 rfl rfl g28 e30) ?_
  refine sS rfl rfl rfl (asg rfl) ?_
  refine AR.nil ?_
  show AW _ _ _ _ _ _
  refine AW.seq ?_
  obtain ⟨x31, x32, e33, H⟩ := bnd2_s H
  refine AW.region ?_
  show AR _ _ _ _ _ [0, 1, 2, 3, 4, 5, 6] _
  refine sS rfl rfl rfl (mv rfl) ?_
  refine AR.run rfl rfl (AO.callp rfl en31_entb rfl (w_ent_first F x29 x31 x32 e33) ?_)
  refine sS rfl rfl rfl (opS_move (av := .tup _) rfl) ?_
  refine sS rfl rfl rfl (opS_extract (av := .v _) rfl rfl) ?_
  refine sS rfl rfl rfl (opS_extract (av := .v _) rfl rfl) ?_
  refine sS rfl rfl rfl (asg rfl) ?_
  refine sS rfl rfl rfl (asg rfl) ?_
  refine AR.nil ?_
  show AW _ _ _ _ _ _
  refine AW.cut (X := Bool × (List UInt8) × Int) (fun (y35, y36, y37) => ⟨[(0, S x29), (4, .pt o4 0), (5, B y35), (7, S y36), (8, i64 y37)], [], [.obj o4 [.pt o4 0, slE Enc.byte x25 (some t27)], .ty o4 44, .tok t27 5]⟩) (fun (y35, y36, y37) => ent_gone_j1 (ent_gone_L1 F n12) x25 x29 y35 y36 y37 = some (r2, r3)) ?_ ?_
  ·
   refine AW.seq ?_
   refine AW.region ?_
   show AR _ _ _ _ _ [0, 1] _
   refine sS rfl rfl rfl (mv rfl) ?_
   refine sS rfl rfl rfl (opS_eqi rfl rfl) ?_
   refine AR.nil ?_
   show AW _ _ _ _ _ _
   refine AW.cond rfl (fun c34 => ?_) (fun c34 => ?_)
   ·replace H := cnd_t c34 H
    refine AW.region ?_
    show AR _ _ _ _ _ [0, 1, 2] _
    refine sS rfl rfl rfl (asg rfl) ?_
    refine sS rfl rfl rfl (asg rfl) ?_
    refine sS rfl rfl rfl (asg rfl) ?_
    refine AR.nil ?_
    exact Exists.intro (false, ([38] : List UInt8), 1) ⟨H, WK.at [0, 0, 0] (.cons (.refl _) (.cons (.refl _) (.cons (.refl _) (.cons (.refl _) (.cons (.refl _) (.nil _)))))) rfl⟩
   ·replace H := cnd_f c34 H
    refine AW.skip ?_
    exact Exists.intro (y7, x31, x32) ⟨H, WK.at [0, 0, 0] (.cons (.refl _) (.cons (.refl _) (.cons (.refl _) (.cons (.refl _) (.cons (.refl _) (.nil _)))))) rfl⟩
  rintro ⟨y35, y36, y37⟩ H
  replace H : ent_gone_j1 (ent_gone_L1 F n12) x25 x29 y35 y36 y37 = some (r2, r3) := H
  unfold ent_gone_j1 at H
  show AW _ _ _ _ _ _
  refine AW.seq ?_
  obtain ⟨g39, H⟩ := grd_s H
  obtain ⟨x40, e41, H⟩ := lt_s H
  refine AW.region ?_
  show AR _ _ _ _ _ [0, 1] _
  refine sS rfl rfl rfl (mv rfl) ?_
  refine AR.run rfl rfl (AO.callAt [0, 0, 0] rfl en29_entb rfl (Builder_WriteString0  o4 (.pt o4 0) (.inr rfl) x25 y36 t27 (okW_s g39)) rfl (fun c A' h => by cases h.1) ?_)
  rintro av A' ⟨h, t42, rfl⟩; cases h
  rw [e41]
  refine AR.nil ?_
  show AW _ _ _ _ _ _
  obtain ⟨g43, H⟩ := grd_s H
  obtain ⟨x44, e45, H⟩ := lt_s H
  refine AW.region ?_
  show AR _ _ _ _ _ [0, 1, 2, 3] _
  refine sS rfl rfl rfl (mv rfl) ?_
  refine sS rfl rfl rfl (mv rfl) ?_
  refine sS rfl rfl rfl (g_from_str Tryz.underlying9 rfl rfl g43 e45) ?_
  refine sS rfl rfl rfl (asg rfl) ?_
  refine AR.nil ?_
  exact Exists.intro (n12, x44, y35, (.pt o4 0), x40, t42) ⟨⟨H, .inr rfl⟩, Nat.lt_succ_self _, WK.at [0, 0, 0] (.cons (.refl _) (.cons (.refl _) (.cons (.refl _) (.nil _)))) rfl⟩
set_option maxRecDepth 100000 in
set_option maxHeartbeats 1000000 in
theorem w_ent_Loose (F : Nat) (a1 : List UInt8) (r2 : List UInt8) (H : ent_Loose F a1 = some r2) : ACalls Tryz.prog 15 [S a1] [] (Ret (S r2) []) := by
 unfold ent_Loose at H
 refine ACalls.of_body Tryz.func15 rfl rfl ?_
 show AW _ _ 11 _ _ _
 refine AW.seq ?_
 refine AW.region ?_
 show AR _ _ _ _ _ [0] _
 refine sS rfl rfl rfl (asg rfl) ?_
 refine AR.nil ?_
 show AW _ _ _ _ _ _
 refine AW.seq ?_
 obtain ⟨x3, x4, e5, H⟩ := bnd2_s H
 refine AW.region ?_
 show AR _ _ _ _ _ [0, 1, 2, 3, 4, 5, 6] _
 refine sS rfl rfl rfl (mv rfl) ?_
 refine AR.run rfl rfl (AO.callp rfl en22_entb rfl (w_ent_gone F a1 x3 x4 e5) ?_)
 refine sS rfl rfl rfl (opS_move (av := .tup _) rfl) ?_
 refine sS rfl rfl rfl (opS_extract (av := .v _) rfl rfl) ?_
 refine sS rfl rfl rfl (opS_extract (av := .v _) rfl rfl) ?_
 refine sS rfl rfl rfl (asg rfl) ?_
 refine sS rfl rfl rfl (asg rfl) ?_
 refine AR.nil ?_
 show AW _ _ _ _ _ _
 refine AW.seq ?_
 refine AW.region ?_
 show AR _ _ _ _ _ [0, 1] _
 refine sS rfl rfl rfl (mv rfl) ?_
 refine sS rfl rfl rfl (asg rfl) ?_
 refine AR.nil ?_
 show AW _ _ _ _ _ _
 refine AW.ret ?_
 obtain rfl := Option.some.inj H
 exact And.intro rfl (Exists.intro _ (Exists.intro _ ⟨ResV.oneW rfl (.refl _), Sub.at [] rfl, rfl, rfl⟩))
set_option maxRecDepth 100000 in
set_option maxHeartbeats 1000000 in
theorem w_ent_Decode (F : Nat) (a1 : List UInt8) (r2 : List UInt8) (r3 : Int) (H : ent_Decode F a1 = some (r2, r3)) : ACalls Tryz.prog 10 [S a1] [] (Ret (.tup [S r2, i64 r3]) []) := by
 unfold ent_Decode at H
 refine ACalls.of_body Tryz.func10 rfl rfl ?_
 show AW _ _ 14 _ _ _
 refine AW.seq ?_
 refine AW.region ?_
 show AR _ _ _ _ _ [0, 1] _
 refine sS rfl rfl rfl (asg rfl) ?_
 refine sS rfl rfl rfl (asg rfl) ?_
 refine AR.nil ?_
 show AW _ _ _ _ _ _
 refine AW.seq ?_
 obtain ⟨x4, x5, e6, H⟩ := bnd2_s H
 refine AW.region ?_
 show AR _ _ _ _ _ [0, 1, 2, 3, 4, 5, 6] _
 refine sS rfl rfl rfl (mv rfl) ?_
 refine AR.run rfl rfl (AO.callp rfl en22_entb rfl (w_ent_gone F a1 x4 x5 e6) ?_)
 refine sS rfl rfl rfl (opS_move (av := .tup _) rfl) ?_
 refine sS rfl rfl rfl (opS_extract (av := .v _) rfl rfl) ?_
 refine sS rfl rfl rfl (opS_extract (av := .v _) rfl rfl) ?_
 refine sS rfl rfl rfl (asg rfl) ?_
 refine sS rfl rfl rfl (asg rfl) ?_
 refine AR.nil ?_
 show AW _ _ _ _ _ _
 refine AW.seq ?_
 refine AW.seq ?_
 refine AW.region ?_
 show AR _ _ _ _ _ [0, 1] _
 refine sS rfl rfl rfl (mv rfl) ?_
 refine sS rfl rfl rfl (opS_not rfl) ?_
 refine AR.nil ?_
 show AW _ _ _ _ _ _
 refine AW.cond rfl (fun c7 => ?_) (fun c7 => ?_)
 ·replace H := cnd_t c7 H
  refine AW.seq ?_
  refine AW.region ?_
  show AR _ _ _ _ _ [0, 1] _
  refine sS rfl rfl rfl (asg rfl) ?_
  refine sS rfl rfl rfl (asg rfl) ?_
  refine AR.nil ?_
  show AW _ _ _ _ _ _
  refine AW.ret ?_
  obtain ⟨rfl, rfl⟩ := res2 H
  exact And.intro rfl (Exists.intro _ (Exists.intro _ ⟨ResV.twoW rfl (.refl _) (.refl _), Sub.at [] rfl, rfl, rfl⟩))
 ·replace H := cnd_f c7 H
  refine AW.skip ?_
  show AW _ _ _ _ _ _
  refine AW.seq ?_
  refine AW.region ?_
  show AR _ _ _ _ _ [0, 1, 2] _
  refine sS rfl rfl rfl (mv rfl) ?_
  refine sS rfl rfl rfl (asg rfl) ?_
  refine sS rfl rfl rfl (asg rfl) ?_
  refine AR.nil ?_
  show AW _ _ _ _ _ _
  refine AW.ret ?_
  obtain ⟨rfl, rfl⟩ := res2 H
  exact And.intro rfl (Exists.intro _ (Exists.intro _ ⟨ResV.twoW rfl (.refl _) (.refl _), Sub.at [] rfl, rfl, rfl⟩))
end Go.Proofs.YtjhlnhipjomdeaaGreatDoor
