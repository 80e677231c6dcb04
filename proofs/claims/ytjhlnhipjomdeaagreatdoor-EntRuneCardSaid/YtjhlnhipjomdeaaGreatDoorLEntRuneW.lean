/-
  The statement EntRune: what is run is what the plain functions say. Printed by a program of ours.
-/
import Derived.Test.YtjhlnhipjomdeaaGreatDoorAvE
import Derived.Test.YtjhlnhipjomdeaaGreatDoorPvLib
import Derived.Test.YtjhlnhipjomdeaaGreatDoorP11Join
import Derived.Test.YtjhlnhipjomdeaaGreatDoorShelf
import Derived.Lib.ItoaNum
import Derived.Test.YtjhlnhipjomdeaaGreatDoorAvStill
import Derived.Test.YtjhlnhipjomdeaaGreatDoorAvSync
import Derived.Test.YtjhlnhipjomdeaaGreatDoorChecked
import Derived.Test.YtjhlnhipjomdeaaGreatDoorEntLW
import Derived.Test.YtjhlnhipjomdeaaGreatDoorLEntRuneP
set_option linter.unusedVariables false
set_option linter.unusedSimpArgs false
namespace Go.Proofs.YtjhlnhipjomdeaaGreatDoor
open Go.RowKit Go.Av Go.Pv
theorem en9_lentrune : ∀ (args : Array Value) (w : World), (callFunc 9 args).run Tryz.prog w = .ok (.enter 9 args) w := fun _ _ => by kernel_rfl
theorem en10_lentrune : ∀ (args : Array Value) (w : World), (callFunc 10 args).run Tryz.prog w = .ok (.enter 10 args) w := fun _ _ => by kernel_rfl
theorem en12_lentrune : ∀ (args : Array Value) (w : World), (callFunc 12 args).run Tryz.prog w = .ok (.enter 12 args) w := fun _ _ => by kernel_rfl
set_option maxRecDepth 100000 in
set_option maxHeartbeats 1000000 in
theorem w_law07_EntRune (F : Nat) (a1 : Int) (r2 : Bool) (H : law07_EntRune F a1 = some r2) : ACalls Tryz.prog 6 [i64 a1] [] (Ret (B r2) []) := by
 unfold law07_EntRune at H
 refine ACalls.of_body Tryz.func6 rfl rfl ?_
 show AW _ _ 100 _ _ _
 refine AW.seq ?_
 refine AW.region ?_
 show AR _ _ _ _ _ [0] _
 refine sS rfl rfl rfl (asg rfl) ?_
 refine AR.nil ?_
 show AW _ _ _ _ _ _
 refine AW.seq ?_
 obtain ⟨x3, e4, H⟩ := bnd_s H
 refine AW.region ?_
 show AR _ _ _ _ _ [0, 1] _
 refine AR.run rfl rfl (AO.callp rfl en9_lentrune rfl (w_law07_awake F x3 e4) ?_)
 refine sS rfl rfl rfl (asg rfl) ?_
 refine AR.nil ?_
 show AW _ _ _ _ _ _
 refine AW.seq ?_
 obtain ⟨x5, x6, e7, H⟩ := bnd2_s H
 refine AW.region ?_
 show AR _ _ _ _ _ [0, 1, 2, 3, 4, 5, 6] _
 refine sS rfl rfl rfl (mv rfl) ?_
 refine AR.run rfl rfl (AO.callp rfl en12_lentrune rfl (w_ent_Rune F a1 x5 x6 e7) ?_)
 refine sS rfl rfl rfl (opS_move (av := .tup _) rfl) ?_
 refine sS rfl rfl rfl (opS_extract (av := .v _) rfl rfl) ?_
 refine sS rfl rfl rfl (opS_extract (av := .v _) rfl rfl) ?_
 refine sS rfl rfl rfl (asg rfl) ?_
 refine sS rfl rfl rfl (asg rfl) ?_
 refine AR.nil ?_
 show AW _ _ _ _ _ _
 refine AW.seq ?_
 refine AW.seq ?_
 refine AW.region ?_
 show AR _ _ _ _ _ [0, 1, 2, 3, 4, 5] _
 refine sS rfl rfl rfl (mv rfl) ?_
 refine sS rfl rfl rfl (opS_not rfl) ?_
 refine sS rfl rfl rfl (mv rfl) ?_
 refine AR.meet (l := []) 26 (B ((!x3) || (!x6))) (fun K => ?_) ?_
 ·rcases Bool.eq_false_or_eq_true (!x3) with h8 | h8
  ·
   refine gF h8 rfl rfl rfl rfl rfl ?_
   refine gF h8 rfl rfl rfl rfl rfl ?_
   refine sS rfl rfl rfl (opS_pick_t (av := .v _) rfl h8 rfl) ?_
   exact K _ 2 _ (B_congr (or_t h8)) rfl rfl
  ·
   refine gT h8 rfl rfl rfl rfl rfl rfl (AO.ops rfl rfl (mv rfl) ?_)
   refine gT h8 rfl rfl rfl rfl rfl rfl (AO.ops rfl rfl (opS_not rfl) ?_)
   refine sS rfl rfl rfl (opS_pick_f (av := .v _) rfl h8 rfl) ?_
   exact K _ 2 _ (B_congr (or_f h8)) rfl rfl
 refine AR.nil ?_
 show AW _ _ _ _ _ _
 refine AW.cond rfl (fun c9 => ?_) (fun c9 => ?_)
 ·replace H := cnd_t c9 H
  refine AW.seq ?_
  refine AW.region ?_
  show AR _ _ _ _ _ [0, 1, 2, 3, 4, 5] _
  refine sS rfl rfl rfl (mv rfl) ?_
  refine sS rfl rfl rfl (mv rfl) ?_
  refine AR.meet (l := [5]) 31 (B (x3 && (decide (x5 = ([] : List UInt8))))) (fun K => ?_) ?_
  ·rcases Bool.eq_false_or_eq_true x3 with h10 | h10
   ·
    refine gT h10 rfl rfl rfl rfl rfl rfl (AO.ops rfl rfl (mv rfl) ?_)
    refine gT h10 rfl rfl rfl rfl rfl rfl (AO.ops rfl rfl (opS_eqs rfl rfl) ?_)
    refine sS rfl rfl rfl (opS_pick_t (av := .v _) rfl h10 rfl) ?_
    exact K _ 2 _ (B_congr (and_t h10)) rfl rfl
   ·
    refine gF h10 rfl rfl rfl rfl rfl ?_
    refine gF h10 rfl rfl rfl rfl rfl ?_
    refine sS rfl rfl rfl (opS_pick_f (av := .v _) rfl h10 rfl) ?_
    exact K _ 2 _ (B_congr (and_f h10)) rfl rfl
  refine sS rfl rfl rfl (asg rfl) ?_
  refine AR.nil ?_
  show AW _ _ _ _ _ _
  refine AW.ret ?_
  obtain rfl := Option.some.inj H
  exact And.intro rfl (Exists.intro _ (Exists.intro _ ⟨ResV.oneW rfl (.refl _), Sub.at [] rfl, rfl, rfl⟩))
 ·replace H := cnd_f c9 H
  refine AW.skip ?_
  show AW _ _ _ _ _ _
  refine AW.seq ?_
  refine AW.region ?_
  show AR _ _ _ _ _ [0] _
  refine sS rfl rfl rfl (asg rfl) ?_
  refine AR.nil ?_
  show AW _ _ _ _ _ _
  refine AW.cut (X := Int) (fun y14 => ⟨[(0, i64 a1), (4, S x5), (6, i64 y14)], [], []⟩) (fun y14 => law07_EntRune_j3 F a1 x5 y14 = some r2) ?_ ?_
  ·
   refine AW.seq ?_
   refine AW.region ?_
   show AR _ _ _ _ _ [0, 1] _
   refine sS rfl rfl rfl (mv rfl) ?_
   refine sS rfl rfl rfl (opS_lt rfl rfl) ?_
   refine AR.nil ?_
   show AW _ _ _ _ _ _
   refine AW.cond rfl (fun c11 => ?_) (fun c11 => ?_)
   ·replace H := cnd_t c11 H
    refine AW.region ?_
    show AR _ _ _ _ _ [0] _
    refine sS rfl rfl rfl (asg rfl) ?_
    refine AR.nil ?_
    exact Exists.intro 1 ⟨H, WK.at [] (.cons (.refl _) (.cons (.refl _) (.cons (.refl _) (.nil _)))) rfl⟩
   ·replace H := cnd_f c11 H
    refine AW.seq ?_
    refine AW.region ?_
    show AR _ _ _ _ _ [0, 1] _
    refine sS rfl rfl rfl (mv rfl) ?_
    refine sS rfl rfl rfl (opS_lt rfl rfl) ?_
    refine AR.nil ?_
    show AW _ _ _ _ _ _
    refine AW.cond rfl (fun c12 => ?_) (fun c12 => ?_)
    ·replace H := cnd_t c12 H
     refine AW.region ?_
     show AR _ _ _ _ _ [0] _
     refine sS rfl rfl rfl (asg rfl) ?_
     refine AR.nil ?_
     exact Exists.intro 2 ⟨H, WK.at [] (.cons (.refl _) (.cons (.refl _) (.cons (.refl _) (.nil _)))) rfl⟩
    ·replace H := cnd_f c12 H
     refine AW.seq ?_
     refine AW.region ?_
     show AR _ _ _ _ _ [0, 1] _
     refine sS rfl rfl rfl (mv rfl) ?_
     refine sS rfl rfl rfl (opS_lt rfl rfl) ?_
     refine AR.nil ?_
     show AW _ _ _ _ _ _
     refine AW.cond rfl (fun c13 => ?_) (fun c13 => ?_)
     ·replace H := cnd_t c13 H
      refine AW.region ?_
      show AR _ _ _ _ _ [0] _
      refine sS rfl rfl rfl (asg rfl) ?_
      refine AR.nil ?_
      exact Exists.intro 3 ⟨H, WK.at [] (.cons (.refl _) (.cons (.refl _) (.cons (.refl _) (.nil _)))) rfl⟩
     ·replace H := cnd_f c13 H
      refine AW.skip ?_
      exact Exists.intro 4 ⟨H, WK.at [] (.cons (.refl _) (.cons (.refl _) (.cons (.refl _) (.nil _)))) rfl⟩
  rintro y14 H
  replace H : law07_EntRune_j3 F a1 x5 y14 = some r2 := H
  unfold law07_EntRune_j3 at H
  show AW _ _ _ _ _ _
  refine AW.seq ?_
  refine AW.region ?_
  show AR _ _ _ _ _ [0] _
  refine sS rfl rfl rfl (asg rfl) ?_
  refine AR.nil ?_
  show AW _ _ _ _ _ _
  refine AW.seq ?_
  refine AW.region ?_
  show AR _ _ _ _ _ [0] _
  refine sS rfl rfl rfl (asg rfl) ?_
  refine AR.nil ?_
  show AW _ _ _ _ _ _
  refine AW.cut (X := (List UInt8)) (fun y31 => ⟨[(0, i64 a1), (4, S x5), (6, i64 y14), (7, S y31), (8, S ([] : List UInt8))], [], []⟩) (fun y31 => law07_EntRune_j2 F a1 x5 y14 y31 = some r2) ?_ ?_
  ·
   refine AW.seq ?_
   refine AW.region ?_
   show AR _ _ _ _ _ [0, 1] _
   refine sS rfl rfl rfl (mv rfl) ?_
   refine sS rfl rfl rfl (asg rfl) ?_
   refine AR.nil ?_
   show AW _ _ _ _ _ _
   refine AW.block ?_
   refine AW.loop (X := Nat × (List UInt8) × Int) (fun (n19, y16, y17) => ⟨[(0, i64 a1), (4, S x5), (6, i64 y14), (7, S y16), (8, S ([] : List UInt8)), (9, i64 y17)], [], []⟩) (fun (n19, y16, y17) => law07_EntRune_L2 F a1 x5 y14 n19 (y16, y17) = some r2) (fun (n19, y16, y17) => n19) (F, ([] : List UInt8), a1) H (WK.at [] (.cons (.refl _) (.cons (.refl _) (.cons (.refl _) (.cons (.refl _) (.cons (.refl _) (.cons (.refl _) (.nil _))))))) rfl) ?_
   rintro ⟨n19, y16, y17⟩ H
   obtain ⟨n19, rfl, H⟩ := loop_s H
   replace H : law07_EntRune_B2 F a1 x5 y14 (law07_EntRune_L2 F a1 x5 y14 n19) y16 y17 = some r2 := H
   unfold law07_EntRune_B2 at H
   show AW _ _ _ _ _ _
   refine AW.seq ?_
   refine AW.seq ?_
   refine AW.region ?_
   show AR _ _ _ _ _ [0, 1] _
   refine sS rfl rfl rfl (mv rfl) ?_
   refine sS rfl rfl rfl (opS_gt rfl rfl) ?_
   refine AR.nil ?_
   show AW _ _ _ _ _ _
   refine AW.cond rfl (fun c20 => ?_) (fun c20 => ?_)
   ·replace H := cnd_t c20 H
    refine AW.skip ?_
    show AW _ _ _ _ _ _
    refine AW.seq ?_
    refine AW.block ?_
    obtain ⟨g21, H⟩ := grd_s H
    obtain ⟨g22, H⟩ := grd_s H
    obtain ⟨g23, H⟩ := grd_s H
    obtain ⟨g24, H⟩ := grd_s H
    obtain ⟨x25, e26, H⟩ := lt_s H
    obtain ⟨g27, H⟩ := grd_s H
    obtain ⟨x28, e29, H⟩ := lt_s H
    refine AW.region ?_
    show AR _ _ _ _ _ [0, 1, 2, 3, 4, 5, 6, 7, 8] _
    refine sS rfl rfl rfl (mv rfl) ?_
    refine sS rfl rfl rfl (g_rem rfl rfl g21) ?_
    refine sS rfl rfl rfl (mv rfl) ?_
    refine sS rfl rfl rfl (g_rem rfl rfl g22) ?_
    refine sS rfl rfl rfl (g_add rfl rfl g23) ?_
    refine sS rfl rfl rfl (g_slice_str Tryz.underlying9 rfl rfl rfl g24 e26) ?_
    refine sS rfl rfl rfl (mv rfl) ?_
    refine sS rfl rfl rfl (g_cat rfl rfl g27 e29) ?_
    refine sS rfl rfl rfl (asg rfl) ?_
    refine AR.nil ?_
    show AW _ _ _ _ _ _
    obtain ⟨g30, H⟩ := grd_s H
    refine AW.region ?_
    show AR _ _ _ _ _ [0, 1, 2] _
    refine sS rfl rfl rfl (mv rfl) ?_
    refine sS rfl rfl rfl (g_quo rfl rfl g30) ?_
    refine sS rfl rfl rfl (asg rfl) ?_
    refine AR.nil ?_
    exact Exists.intro (n19, x28, y17 / 10) ⟨H, Nat.lt_succ_self _, WK.at [] (.cons (.refl _) (.cons (.refl _) (.cons (.refl _) (.cons (.refl _) (.cons (.refl _) (.cons (.refl _) (.nil _))))))) rfl⟩
   ·replace H := cnd_f c20 H
    refine AW.exit ?_
    exact Exists.intro y16 ⟨H, WK.at [] (.cons (.refl _) (.cons (.refl _) (.cons (.refl _) (.cons (.refl _) (.cons (.refl _) (.nil _)))))) rfl⟩
  rintro y31 H
  replace H : law07_EntRune_j2 F a1 x5 y14 y31 = some r2 := H
  unfold law07_EntRune_j2 at H
  show AW _ _ _ _ _ _
  refine AW.cut (X := (List UInt8)) (fun y48 => ⟨[(4, S x5), (6, i64 y14), (7, S y31), (8, S y48)], [], []⟩) (fun y48 => law07_EntRune_j1 F x5 y14 y31 y48 = some r2) ?_ ?_
  ·
   refine AW.seq ?_
   refine AW.region ?_
   show AR _ _ _ _ _ [0, 1] _
   refine sS rfl rfl rfl (mv rfl) ?_
   refine sS rfl rfl rfl (asg rfl) ?_
   refine AR.nil ?_
   show AW _ _ _ _ _ _
   refine AW.block ?_
   refine AW.loop (X := Nat × (List UInt8) × Int) (fun (n36, y33, y34) => ⟨[(4, S x5), (6, i64 y14), (7, S y31), (8, S y33), (10, i64 y34)], [], []⟩) (fun (n36, y33, y34) => law07_EntRune_L1 F x5 y14 y31 n36 (y33, y34) = some r2) (fun (n36, y33, y34) => n36) (F, ([] : List UInt8), a1) H (WK.at [] (.cons (.refl _) (.cons (.refl _) (.cons (.refl _) (.cons (.refl _) (.cons (.refl _) (.nil _)))))) rfl) ?_
   rintro ⟨n36, y33, y34⟩ H
   obtain ⟨n36, rfl, H⟩ := loop_s H
   replace H : law07_EntRune_B1 F x5 y14 y31 (law07_EntRune_L1 F x5 y14 y31 n36) y33 y34 = some r2 := H
   unfold law07_EntRune_B1 at H
   show AW _ _ _ _ _ _
   refine AW.seq ?_
   refine AW.seq ?_
   refine AW.region ?_
   show AR _ _ _ _ _ [0, 1] _
   refine sS rfl rfl rfl (mv rfl) ?_
   refine sS rfl rfl rfl (opS_gt rfl rfl) ?_
   refine AR.nil ?_
   show AW _ _ _ _ _ _
   refine AW.cond rfl (fun c37 => ?_) (fun c37 => ?_)
   ·replace H := cnd_t c37 H
    refine AW.skip ?_
    show AW _ _ _ _ _ _
    refine AW.seq ?_
    refine AW.block ?_
    obtain ⟨g38, H⟩ := grd_s H
    obtain ⟨g39, H⟩ := grd_s H
    obtain ⟨g40, H⟩ := grd_s H
    obtain ⟨g41, H⟩ := grd_s H
    obtain ⟨x42, e43, H⟩ := lt_s H
    obtain ⟨g44, H⟩ := grd_s H
    obtain ⟨x45, e46, H⟩ := lt_s H
    refine AW.region ?_
    show AR _ _ _ _ _ [0, 1, 2, 3, 4, 5, 6, 7, 8] _
    refine sS rfl rfl rfl (mv rfl) ?_
    refine sS rfl rfl rfl (g_rem rfl rfl g38) ?_
    refine sS rfl rfl rfl (mv rfl) ?_
    refine sS rfl rfl rfl (g_rem rfl rfl g39) ?_
    refine sS rfl rfl rfl (g_add rfl rfl g40) ?_
    refine sS rfl rfl rfl (g_slice_str Tryz.underlying9 rfl rfl rfl g41 e43) ?_
    refine sS rfl rfl rfl (mv rfl) ?_
    refine sS rfl rfl rfl (g_cat rfl rfl g44 e46) ?_
    refine sS rfl rfl rfl (asg rfl) ?_
    refine AR.nil ?_
    show AW _ _ _ _ _ _
    obtain ⟨g47, H⟩ := grd_s H
    refine AW.region ?_
    show AR _ _ _ _ _ [0, 1, 2] _
    refine sS rfl rfl rfl (mv rfl) ?_
    refine sS rfl rfl rfl (g_quo rfl rfl g47) ?_
    refine sS rfl rfl rfl (asg rfl) ?_
    refine AR.nil ?_
    exact Exists.intro (n36, x45, y34 / 16) ⟨H, Nat.lt_succ_self _, WK.at [] (.cons (.refl _) (.cons (.refl _) (.cons (.refl _) (.cons (.refl _) (.cons (.refl _) (.nil _)))))) rfl⟩
   ·replace H := cnd_f c37 H
    refine AW.exit ?_
    exact Exists.intro y33 ⟨H, WK.at [] (.cons (.refl _) (.cons (.refl _) (.cons (.refl _) (.cons (.refl _) (.nil _))))) rfl⟩
  rintro y48 H
  replace H : law07_EntRune_j1 F x5 y14 y31 y48 = some r2 := H
  unfold law07_EntRune_j1 at H
  show AW _ _ _ _ _ _
  refine AW.seq ?_
  obtain ⟨g50, H⟩ := grd_s H
  obtain ⟨x51, e52, H⟩ := lt_s H
  obtain ⟨g53, H⟩ := grd_s H
  obtain ⟨x54, e55, H⟩ := lt_s H
  obtain ⟨x56, x57, e58, H⟩ := bnd2_s H
  refine AW.region ?_
  show AR _ _ _ _ _ [0, 1, 2, 3, 4, 5, 6, 7, 8] _
  refine sS rfl rfl rfl (mv rfl) ?_
  refine sS rfl rfl rfl (g_cat rfl rfl g50 e52) ?_
  refine sS rfl rfl rfl (g_cat rfl rfl g53 e55) ?_
  refine AR.run rfl rfl (AO.callp rfl en10_lentrune rfl (w_ent_Decode F x54 x56 x57 e58) ?_)
  refine sS rfl rfl rfl (opS_move (av := .tup _) rfl) ?_
  refine sS rfl rfl rfl (opS_extract (av := .v _) rfl rfl) ?_
  refine sS rfl rfl rfl (opS_extract (av := .v _) rfl rfl) ?_
  refine sS rfl rfl rfl (asg rfl) ?_
  refine sS rfl rfl rfl (asg rfl) ?_
  refine AR.nil ?_
  show AW _ _ _ _ _ _
  refine AW.seq ?_
  obtain ⟨g59, H⟩ := grd_s H
  obtain ⟨x60, e61, H⟩ := lt_s H
  obtain ⟨g62, H⟩ := grd_s H
  obtain ⟨x63, e64, H⟩ := lt_s H
  obtain ⟨x65, x66, e67, H⟩ := bnd2_s H
  refine AW.region ?_
  show AR _ _ _ _ _ [0, 1, 2, 3, 4, 5, 6, 7, 8] _
  refine sS rfl rfl rfl (mv rfl) ?_
  refine sS rfl rfl rfl (g_cat rfl rfl g59 e61) ?_
  refine sS rfl rfl rfl (g_cat rfl rfl g62 e64) ?_
  refine AR.run rfl rfl (AO.callp rfl en10_lentrune rfl (w_ent_Decode F x63 x65 x66 e67) ?_)
  refine sS rfl rfl rfl (opS_move (av := .tup _) rfl) ?_
  refine sS rfl rfl rfl (opS_extract (av := .v _) rfl rfl) ?_
  refine sS rfl rfl rfl (opS_extract (av := .v _) rfl rfl) ?_
  refine sS rfl rfl rfl (asg rfl) ?_
  refine sS rfl rfl rfl (asg rfl) ?_
  refine AR.nil ?_
  show AW _ _ _ _ _ _
  refine AW.seq ?_
  refine AW.region ?_
  show AR _ _ _ _ _ [0, 1, 2, 3, 4, 5, 6, 7, 8, 9, 10, 11, 12, 13, 14, 15, 16, 17, 18, 19, 20, 21, 22] _
  refine sS rfl rfl rfl (mv rfl) ?_
  refine sS rfl rfl rfl (opS_len_str Tryz.underlying9 rfl) ?_
  refine sS rfl rfl rfl (mv rfl) ?_
  refine sS rfl rfl rfl (opS_eqi rfl rfl) ?_
  refine sS rfl rfl rfl (mv rfl) ?_
  refine AR.meet (l := [8, 9, 10, 11, 12, 13, 14, 15, 16, 17, 18, 19, 20, 21, 22]) 85 (B ((decide ((x5.length : Int) = y14)) && (decide (x57 = 0)))) (fun K => ?_) ?_
  ·rcases Bool.eq_false_or_eq_true (decide ((x5.length : Int) = y14)) with h68 | h68
   ·
    refine gT h68 rfl rfl rfl rfl rfl rfl (AO.ops rfl rfl (mv rfl) ?_)
    refine gT h68 rfl rfl rfl rfl rfl rfl (AO.ops rfl rfl (opS_eqi rfl rfl) ?_)
    refine sS rfl rfl rfl (opS_pick_t (av := .v _) rfl h68 rfl) ?_
    exact K _ 2 _ (B_congr (and_t h68)) rfl rfl
   ·
    refine gF h68 rfl rfl rfl rfl rfl ?_
    refine gF h68 rfl rfl rfl rfl rfl ?_
    refine sS rfl rfl rfl (opS_pick_f (av := .v _) rfl h68 rfl) ?_
    exact K _ 2 _ (B_congr (and_f h68)) rfl rfl
  refine sS rfl rfl rfl (mv rfl) ?_
  refine AR.meet (l := [12, 13, 14, 15, 16, 17, 18, 19, 20, 21, 22]) 89 (B (((decide ((x5.length : Int) = y14)) && (decide (x57 = 0))) && (decide (x66 = 0)))) (fun K => ?_) ?_
  ·rcases Bool.eq_false_or_eq_true ((decide ((x5.length : Int) = y14)) && (decide (x57 = 0))) with h69 | h69
   ·
    refine gT h69 rfl rfl rfl rfl rfl rfl (AO.ops rfl rfl (mv rfl) ?_)
    refine gT h69 rfl rfl rfl rfl rfl rfl (AO.ops rfl rfl (opS_eqi rfl rfl) ?_)
    refine sS rfl rfl rfl (opS_pick_t (av := .v _) rfl h69 rfl) ?_
    exact K _ 2 _ (B_congr (and_t h69)) rfl rfl
   ·
    refine gF h69 rfl rfl rfl rfl rfl ?_
    refine gF h69 rfl rfl rfl rfl rfl ?_
    refine sS rfl rfl rfl (opS_pick_f (av := .v _) rfl h69 rfl) ?_
    exact K _ 2 _ (B_congr (and_f h69)) rfl rfl
  refine sS rfl rfl rfl (mv rfl) ?_
  refine AR.meet (l := [17, 18, 19, 20, 21, 22]) 94 (B ((((decide ((x5.length : Int) = y14)) && (decide (x57 = 0))) && (decide (x66 = 0))) && (decide (x56 = x5)))) (fun K => ?_) ?_
  ·rcases Bool.eq_false_or_eq_true (((decide ((x5.length : Int) = y14)) && (decide (x57 = 0))) && (decide (x66 = 0))) with h70 | h70
   ·
    refine gT h70 rfl rfl rfl rfl rfl rfl (AO.ops rfl rfl (mv rfl) ?_)
    refine gT h70 rfl rfl rfl rfl rfl rfl (AO.ops rfl rfl (mv rfl) ?_)
    refine gT h70 rfl rfl rfl rfl rfl rfl (AO.ops rfl rfl (opS_eqs rfl rfl) ?_)
    refine sS rfl rfl rfl (opS_pick_t (av := .v _) rfl h70 rfl) ?_
    exact K _ 3 _ (B_congr (and_t h70)) rfl rfl
   ·
    refine gF h70 rfl rfl rfl rfl rfl ?_
    refine gF h70 rfl rfl rfl rfl rfl ?_
    refine gF h70 rfl rfl rfl rfl rfl ?_
    refine sS rfl rfl rfl (opS_pick_f (av := .v _) rfl h70 rfl) ?_
    exact K _ 3 _ (B_congr (and_f h70)) rfl rfl
  refine sS rfl rfl rfl (mv rfl) ?_
  refine AR.meet (l := [22]) 99 (B (((((decide ((x5.length : Int) = y14)) && (decide (x57 = 0))) && (decide (x66 = 0))) && (decide (x56 = x5))) && (decide (x65 = x5)))) (fun K => ?_) ?_
  ·rcases Bool.eq_false_or_eq_true ((((decide ((x5.length : Int) = y14)) && (decide (x57 = 0))) && (decide (x66 = 0))) && (decide (x56 = x5))) with h71 | h71
   ·
    refine gT h71 rfl rfl rfl rfl rfl rfl (AO.ops rfl rfl (mv rfl) ?_)
    refine gT h71 rfl rfl rfl rfl rfl rfl (AO.ops rfl rfl (mv rfl) ?_)
    refine gT h71 rfl rfl rfl rfl rfl rfl (AO.ops rfl rfl (opS_eqs rfl rfl) ?_)
    refine sS rfl rfl rfl (opS_pick_t (av := .v _) rfl h71 rfl) ?_
    exact K _ 3 _ (B_congr (and_t h71)) rfl rfl
   ·
    refine gF h71 rfl rfl rfl rfl rfl ?_
    refine gF h71 rfl rfl rfl rfl rfl ?_
    refine gF h71 rfl rfl rfl rfl rfl ?_
    refine sS rfl rfl rfl (opS_pick_f (av := .v _) rfl h71 rfl) ?_
    exact K _ 3 _ (B_congr (and_f h71)) rfl rfl
  refine sS rfl rfl rfl (asg rfl) ?_
  refine AR.nil ?_
  show AW _ _ _ _ _ _
  refine AW.ret ?_
  obtain rfl := Option.some.inj H
  exact And.intro rfl (Exists.intro _ (Exists.intro _ ⟨ResV.oneW rfl (.refl _), Sub.at [] rfl, rfl, rfl⟩))
end Go.Proofs.YtjhlnhipjomdeaaGreatDoor
