/-
  The statement EntBack: what is run is what the plain functions say. Printed by a program of ours.
-/
import Derived.Test.YtjhlnhipjomdeaaGreatDoorAvE
import Derived.Test.YtjhlnhipjomdeaaGreatDoorPvLib
import Derived.Test.YtjhlnhipjomdeaaGreatDoorP11Join
import Derived.Test.YtjhlnhipjomdeaaGreatDoorShelf
import Derived.Lib.ItoaNum
import Derived.Test.YtjhlnhipjomdeaaGreatDoorAvStill
import Derived.Test.YtjhlnhipjomdeaaGreatDoorAvSync
import Derived.Test.YtjhlnhipjomdeaaGreatDoorChecked
import Derived.Test.YtjhlnhipjomdeaaGreatDoorEntLW
import Derived.Test.YtjhlnhipjomdeaaGreatDoorLEntBackP
set_option linter.unusedVariables false
set_option linter.unusedSimpArgs false
namespace Go.Proofs.YtjhlnhipjomdeaaGreatDoor
open Go.RowKit Go.Av Go.Pv
theorem en9_lentback : ∀ (args : Array Value) (w : World), (callFunc 9 args).run Tryz.prog w = .ok (.enter 9 args) w := fun _ _ => by kernel_rfl
theorem en10_lentback : ∀ (args : Array Value) (w : World), (callFunc 10 args).run Tryz.prog w = .ok (.enter 10 args) w := fun _ _ => by kernel_rfl
theorem en15_lentback : ∀ (args : Array Value) (w : World), (callFunc 15 args).run Tryz.prog w = .ok (.enter 15 args) w := fun _ _ => by kernel_rfl
theorem en17_lentback : ∀ (args : Array Value) (w : World), (callFunc 17 args).run Tryz.prog w = .ok (.enter 17 args) w := fun _ _ => by kernel_rfl
set_option maxRecDepth 100000 in
set_option maxHeartbeats 1000000 in
theorem w_law07_EntBack (F : Nat) (a1 : List UInt8) (r2 : Bool) (H : law07_EntBack F a1 = some r2) : ACalls Tryz.prog 4 [S a1] [] (Ret (B r2) []) := by
 unfold law07_EntBack at H
 refine ACalls.of_body Tryz.func4 rfl rfl ?_
 show AW _ _ 59 _ _ _
 refine AW.seq ?_
 refine AW.region ?_
 show AR _ _ _ _ _ [0] _
 refine sS rfl rfl rfl (asg rfl) ?_
 refine AR.nil ?_
 show AW _ _ _ _ _ _
 refine AW.seq ?_
 obtain ⟨x3, e4, H⟩ := bnd_s H
 refine AW.region ?_
 show AR _ _ _ _ _ [0, 1] _
 refine AR.run rfl rfl (AO.callp rfl en9_lentback rfl (w_law07_awake F x3 e4) ?_)
 refine sS rfl rfl rfl (asg rfl) ?_
 refine AR.nil ?_
 show AW _ _ _ _ _ _
 refine AW.seq ?_
 refine AW.seq ?_
 refine AW.region ?_
 show AR _ _ _ _ _ [0, 1, 2, 3, 4, 5, 6] _
 refine sS rfl rfl rfl (mv rfl) ?_
 refine sS rfl rfl rfl (opS_not rfl) ?_
 refine sS rfl rfl rfl (mv rfl) ?_
 refine AR.meet (l := []) 15 (B ((!x3) || (decide (600 < (a1.length : Int))))) (fun K => ?_) ?_
 ·rcases Bool.eq_false_or_eq_true (!x3) with h5 | h5
  ·
   refine gF h5 rfl rfl rfl rfl rfl ?_
   refine gF h5 rfl rfl rfl rfl rfl ?_
   refine gF h5 rfl rfl rfl rfl rfl ?_
   refine sS rfl rfl rfl (opS_pick_t (av := .v _) rfl h5 rfl) ?_
   exact K _ 3 _ (B_congr (or_t h5)) rfl rfl
  ·
   refine gT h5 rfl rfl rfl rfl rfl rfl (AO.ops rfl rfl (mv rfl) ?_)
   refine gT h5 rfl rfl rfl rfl rfl rfl (AO.ops rfl rfl (opS_len_str Tryz.underlying9 rfl) ?_)
   refine gT h5 rfl rfl rfl rfl rfl rfl (AO.ops rfl rfl (opS_gt rfl rfl) ?_)
   refine sS rfl rfl rfl (opS_pick_f (av := .v _) rfl h5 rfl) ?_
   exact K _ 3 _ (B_congr (or_f h5)) rfl rfl
 refine AR.nil ?_
 show AW _ _ _ _ _ _
 refine AW.cond rfl (fun c6 => ?_) (fun c6 => ?_)
 ·replace H := cnd_t c6 H
  refine AW.seq ?_
  refine AW.region ?_
  show AR _ _ _ _ _ [0, 1] _
  refine sS rfl rfl rfl (mv rfl) ?_
  refine sS rfl rfl rfl (asg rfl) ?_
  refine AR.nil ?_
  show AW _ _ _ _ _ _
  refine AW.ret ?_
  obtain rfl := Option.some.inj H
  exact And.intro rfl (Exists.intro _ (Exists.intro _ ⟨ResV.oneW rfl (.refl _), Sub.at [] rfl, rfl, rfl⟩))
 ·replace H := cnd_f c6 H
  refine AW.skip ?_
  show AW _ _ _ _ _ _
  refine AW.seq ?_
  obtain ⟨x7, e8, H⟩ := bnd_s H
  refine AW.region ?_
  show AR _ _ _ _ _ [0, 1, 2] _
  refine sS rfl rfl rfl (mv rfl) ?_
  refine AR.run rfl rfl (AO.callp rfl en17_lentback rfl (w_Encode F _ _ e8) ?_)
  refine sS rfl rfl rfl (asg rfl) ?_
  refine AR.nil ?_
  show AW _ _ _ _ _ _
  refine AW.cut (X := Unit) (fun _ => ⟨[(0, S a1), (4, S x7)], [], []⟩) (fun _ => law07_EntBack_j1 F a1 x7 = some r2) ?_ ?_
  ·
   refine AW.seq ?_
   refine AW.region ?_
   show AR _ _ _ _ _ [0] _
   refine sS rfl rfl rfl (asg rfl) ?_
   refine AR.nil ?_
   show AW _ _ _ _ _ _
   refine AW.block ?_
   refine AW.loop (X := Nat × Int) (fun (n11, y9) => ⟨[(0, S a1), (4, S x7), (5, i64 y9)], [], []⟩) (fun (n11, y9) => law07_EntBack_L1 F a1 x7 n11 y9 = some r2) (fun (n11, y9) => n11) (F, 0) H (WK.at [] (.cons (.refl _) (.cons (.refl _) (.cons (.refl _) (.nil _)))) rfl) ?_
   rintro ⟨n11, y9⟩ H
   obtain ⟨n11, rfl, H⟩ := loop_s H
   replace H : law07_EntBack_B1 F a1 x7 (law07_EntBack_L1 F a1 x7 n11) y9 = some r2 := H
   unfold law07_EntBack_B1 at H
   show AW _ _ _ _ _ _
   refine AW.seq ?_
   refine AW.seq ?_
   refine AW.region ?_
   show AR _ _ _ _ _ [0, 1, 2, 3] _
   refine sS rfl rfl rfl (mv rfl) ?_
   refine sS rfl rfl rfl (mv rfl) ?_
   refine sS rfl rfl rfl (opS_len_str Tryz.underlying9 rfl) ?_
   refine sS rfl rfl rfl (opS_lt rfl rfl) ?_
   refine AR.nil ?_
   show AW _ _ _ _ _ _
   refine AW.cond rfl (fun c12 => ?_) (fun c12 => ?_)
   ·replace H := cnd_t c12 H
    refine AW.skip ?_
    show AW _ _ _ _ _ _
    refine AW.seq ?_
    refine AW.block ?_
    refine AW.seq ?_
    obtain ⟨g13, H⟩ := grd_s H
    obtain ⟨x14, e15, H⟩ := lt_s H
    obtain ⟨g17, H⟩ := grdc_s H
    obtain ⟨x18, e19, H⟩ := lt_s H
    obtain ⟨g21, H⟩ := grdc_s H
    obtain ⟨x22, e23, H⟩ := lt_s H
    refine AW.region ?_
    show AR _ _ _ _ _ [0, 1, 2, 3, 4, 5, 6, 7, 8, 9, 10, 11, 12, 13, 14, 15] _
    refine sS rfl rfl rfl (mv rfl) ?_
    refine sS rfl rfl rfl (mv rfl) ?_
    refine sS rfl rfl rfl (g_index_str Tryz.underlying9 rfl rfl g13 e15) ?_
    refine sS rfl rfl rfl (g_eq8 (a := x14) (b := 60) rfl rfl) ?_
    refine sS rfl rfl rfl (mv rfl) ?_
    refine AR.meet (l := [10, 11, 12, 13, 14, 15]) 34 (B ((decide (x14 = 60)) || (decide (x18 = 62)))) (fun K => ?_) ?_
    ·rcases Bool.eq_false_or_eq_true (decide (x14 = 60)) with h16 | h16
     ·
      refine gF h16 rfl rfl rfl rfl rfl ?_
      refine gF h16 rfl rfl rfl rfl rfl ?_
      refine gF h16 rfl rfl rfl rfl rfl ?_
      refine gF h16 rfl rfl rfl rfl rfl ?_
      refine sS rfl rfl rfl (opS_pick_t (av := .v _) rfl h16 rfl) ?_
      exact K _ 4 _ (B_congr (or_t h16)) rfl rfl
     ·
      refine gT h16 rfl rfl rfl rfl rfl rfl (AO.ops rfl rfl (mv rfl) ?_)
      refine gT h16 rfl rfl rfl rfl rfl rfl (AO.ops rfl rfl (mv rfl) ?_)
      refine gT h16 rfl rfl rfl rfl rfl rfl (AO.ops rfl rfl (g_index_str Tryz.underlying9 rfl rfl (g17 (nf h16)) e19) ?_)
      refine gT h16 rfl rfl rfl rfl rfl rfl (AO.ops rfl rfl (g_eq8 (a := x18) (b := 62) rfl rfl) ?_)
      refine sS rfl rfl rfl (opS_pick_f (av := .v _) rfl h16 rfl) ?_
      exact K _ 4 _ (B_congr (or_f h16)) rfl rfl
    refine sS rfl rfl rfl (mv rfl) ?_
    refine AR.meet (l := []) 40 (B (((decide (x14 = 60)) || (decide (x18 = 62))) || (decide (x22 = 34)))) (fun K => ?_) ?_
    ·rcases Bool.eq_false_or_eq_true ((decide (x14 = 60)) || (decide (x18 = 62))) with h20 | h20
     ·
      refine gF h20 rfl rfl rfl rfl rfl ?_
      refine gF h20 rfl rfl rfl rfl rfl ?_
      refine gF h20 rfl rfl rfl rfl rfl ?_
      refine gF h20 rfl rfl rfl rfl rfl ?_
      refine sS rfl rfl rfl (opS_pick_t (av := .v _) rfl h20 rfl) ?_
      exact K _ 4 _ (B_congr (or_t h20)) rfl rfl
     ·
      refine gT h20 rfl rfl rfl rfl rfl rfl (AO.ops rfl rfl (mv rfl) ?_)
      refine gT h20 rfl rfl rfl rfl rfl rfl (AO.ops rfl rfl (mv rfl) ?_)
      refine gT h20 rfl rfl rfl rfl rfl rfl (AO.ops rfl rfl (g_index_str Tryz.underlying9 rfl rfl (g21 (nf h20)) e23) ?_)
      refine gT h20 rfl rfl rfl rfl rfl rfl (AO.ops rfl rfl (g_eq8 (a := x22) (b := 34) rfl rfl) ?_)
      refine sS rfl rfl rfl (opS_pick_f (av := .v _) rfl h20 rfl) ?_
      exact K _ 4 _ (B_congr (or_f h20)) rfl rfl
    refine AR.nil ?_
    show AW _ _ _ _ _ _
    refine AW.cond rfl (fun c24 => ?_) (fun c24 => ?_)
    ·replace H := cnd_t c24 H
     refine AW.seq ?_
     refine AW.region ?_
     show AR _ _ _ _ _ [0] _
     refine sS rfl rfl rfl (asg rfl) ?_
     refine AR.nil ?_
     show AW _ _ _ _ _ _
     refine AW.ret ?_
     obtain rfl := Option.some.inj H
     exact And.intro rfl (Exists.intro _ (Exists.intro _ ⟨ResV.oneW rfl (.refl _), Sub.at [] rfl, rfl, rfl⟩))
    ·replace H := cnd_f c24 H
     refine AW.skip ?_
     show AW _ _ _ _ _ _
     obtain ⟨g25, H⟩ := grd_s H
     refine AW.region ?_
     show AR _ _ _ _ _ [0, 1, 2] _
     refine sS rfl rfl rfl (mv rfl) ?_
     refine sS rfl rfl rfl (g_add rfl rfl g25) ?_
     refine sS rfl rfl rfl (asg rfl) ?_
     refine AR.nil ?_
     exact Exists.intro (n11, y9 + 1) ⟨H, Nat.lt_succ_self _, WK.at [] (.cons (.refl _) (.cons (.refl _) (.cons (.refl _) (.nil _)))) rfl⟩
   ·replace H := cnd_f c12 H
    refine AW.exit ?_
    exact Exists.intro () ⟨H, WK.at [] (.cons (.refl _) (.cons (.refl _) (.nil _))) rfl⟩
  rintro _ H
  replace H : law07_EntBack_j1 F a1 x7 = some r2 := H
  unfold law07_EntBack_j1 at H
  show AW _ _ _ _ _ _
  refine AW.seq ?_
  obtain ⟨x27, x28, e29, H⟩ := bnd2_s H
  refine AW.region ?_
  show AR _ _ _ _ _ [0, 1, 2, 3, 4, 5, 6] _
  refine sS rfl rfl rfl (mv rfl) ?_
  refine AR.run rfl rfl (AO.callp rfl en10_lentback rfl (w_ent_Decode F x7 x27 x28 e29) ?_)
  refine sS rfl rfl rfl (opS_move (av := .tup _) rfl) ?_
  refine sS rfl rfl rfl (opS_extract (av := .v _) rfl rfl) ?_
  refine sS rfl rfl rfl (opS_extract (av := .v _) rfl rfl) ?_
  refine sS rfl rfl rfl (asg rfl) ?_
  refine sS rfl rfl rfl (asg rfl) ?_
  refine AR.nil ?_
  show AW _ _ _ _ _ _
  refine AW.seq ?_
  obtain ⟨x32, e33, H⟩ := bndc_s H
  refine AW.region ?_
  show AR _ _ _ _ _ [0, 1, 2, 3, 4, 5, 6, 7, 8, 9, 10, 11, 12, 13] _
  refine sS rfl rfl rfl (mv rfl) ?_
  refine sS rfl rfl rfl (opS_eqi rfl rfl) ?_
  refine sS rfl rfl rfl (mv rfl) ?_
  refine AR.meet (l := [7, 8, 9, 10, 11, 12, 13]) 52 (B ((decide (x28 = 0)) && (decide (x27 = a1)))) (fun K => ?_) ?_
  ·rcases Bool.eq_false_or_eq_true (decide (x28 = 0)) with h30 | h30
   ·
    refine gT h30 rfl rfl rfl rfl rfl rfl (AO.ops rfl rfl (mv rfl) ?_)
    refine gT h30 rfl rfl rfl rfl rfl rfl (AO.ops rfl rfl (mv rfl) ?_)
    refine gT h30 rfl rfl rfl rfl rfl rfl (AO.ops rfl rfl (opS_eqs rfl rfl) ?_)
    refine sS rfl rfl rfl (opS_pick_t (av := .v _) rfl h30 rfl) ?_
    exact K _ 3 _ (B_congr (and_t h30)) rfl rfl
   ·
    refine gF h30 rfl rfl rfl rfl rfl ?_
    refine gF h30 rfl rfl rfl rfl rfl ?_
    refine gF h30 rfl rfl rfl rfl rfl ?_
    refine sS rfl rfl rfl (opS_pick_f (av := .v _) rfl h30 rfl) ?_
    exact K _ 3 _ (B_congr (and_f h30)) rfl rfl
  refine sS rfl rfl rfl (mv rfl) ?_
  refine AR.meet (l := [13]) 58 (B (((decide (x28 = 0)) && (decide (x27 = a1))) && (decide (x32 = a1)))) (fun K => ?_) ?_
  ·rcases Bool.eq_false_or_eq_true ((decide (x28 = 0)) && (decide (x27 = a1))) with h31 | h31
   ·
    refine gT h31 rfl rfl rfl rfl rfl rfl (AO.ops rfl rfl (mv rfl) ?_)
    refine gT h31 rfl rfl rfl rfl rfl rfl (AO.callp rfl en15_lentback rfl (w_ent_Loose F x7 x32 (e33 h31)) ?_)
    refine gT h31 rfl rfl rfl rfl rfl rfl (AO.ops rfl rfl (mv rfl) ?_)
    refine gT h31 rfl rfl rfl rfl rfl rfl (AO.ops rfl rfl (opS_eqs rfl rfl) ?_)
    refine sS rfl rfl rfl (opS_pick_t (av := .v _) rfl h31 rfl) ?_
    exact K _ 4 _ (B_congr (and_t h31)) rfl rfl
   ·
    refine gF h31 rfl rfl rfl rfl rfl ?_
    refine gF h31 rfl rfl rfl rfl rfl ?_
    refine gF h31 rfl rfl rfl rfl rfl ?_
    refine gF h31 rfl rfl rfl rfl rfl ?_
    refine sS rfl rfl rfl (opS_pick_f (av := .v _) rfl h31 rfl) ?_
    exact K _ 4 _ (B_congr (and_f h31)) rfl rfl
  refine sS rfl rfl rfl (asg rfl) ?_
  refine AR.nil ?_
  show AW _ _ _ _ _ _
  refine AW.ret ?_
  obtain rfl := Option.some.inj H
  exact And.intro rfl (Exists.intro _ (Exists.intro _ ⟨ResV.oneW rfl (.refl _), Sub.at [] rfl, rfl, rfl⟩))
end Go.Proofs.YtjhlnhipjomdeaaGreatDoor
