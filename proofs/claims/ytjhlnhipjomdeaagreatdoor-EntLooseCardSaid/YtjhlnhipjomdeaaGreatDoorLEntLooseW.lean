/-
  The statement EntLoose: what is run is what the plain functions say. Printed by a program of ours.
-/
import Derived.Test.YtjhlnhipjomdeaaGreatDoorAvE
import Derived.Test.YtjhlnhipjomdeaaGreatDoorPvLib
import Derived.Test.YtjhlnhipjomdeaaGreatDoorP11Join
import Derived.Test.YtjhlnhipjomdeaaGreatDoorShelf
import Derived.Lib.ItoaNum
import Derived.Test.YtjhlnhipjomdeaaGreatDoorAvStill
import Derived.Test.YtjhlnhipjomdeaaGreatDoorAvSync
import Derived.Test.YtjhlnhipjomdeaaGreatDoorChecked
import Derived.Test.YtjhlnhipjomdeaaGreatDoorEntLW
import Derived.Test.YtjhlnhipjomdeaaGreatDoorLEntLooseP
set_option linter.unusedVariables false
set_option linter.unusedSimpArgs false
namespace Go.Proofs.YtjhlnhipjomdeaaGreatDoor
open Go.RowKit Go.Av Go.Pv
theorem en9_lentloose : ∀ (args : Array Value) (w : World), (callFunc 9 args).run Tryz.prog w = .ok (.enter 9 args) w := fun _ _ => by kernel_rfl
theorem en10_lentloose : ∀ (args : Array Value) (w : World), (callFunc 10 args).run Tryz.prog w = .ok (.enter 10 args) w := fun _ _ => by kernel_rfl
theorem en15_lentloose : ∀ (args : Array Value) (w : World), (callFunc 15 args).run Tryz.prog w = .ok (.enter 15 args) w := fun _ _ => by kernel_rfl
set_option maxRecDepth 100000 in
set_option maxHeartbeats 1000000 in
theorem w_law07_EntLoose (F : Nat) (a1 : List UInt8) (a2 : List UInt8) (r3 : Bool) (H : law07_EntLoose F a1 a2 = some r3) : ACalls Tryz.prog 5 [S a1, S a2] [] (Ret (B r3) []) := by
 unfold law07_EntLoose at H
 refine ACalls.of_body Tryz.func5 rfl rfl ?_
 show AW _ _ 74 _ _ _
 refine AW.seq ?_
 refine AW.region ?_
 show AR _ _ _ _ _ [0] _
 refine sS rfl rfl rfl (asg rfl) ?_
 refine AR.nil ?_
 show AW _ _ _ _ _ _
 refine AW.seq ?_
 obtain ⟨x4, e5, H⟩ := bnd_s H
 refine AW.region ?_
 show AR _ _ _ _ _ [0, 1] _
 refine AR.run rfl rfl (AO.callp rfl en9_lentloose rfl (w_law07_awake F x4 e5) ?_)
 refine sS rfl rfl rfl (asg rfl) ?_
 refine AR.nil ?_
 show AW _ _ _ _ _ _
 refine AW.seq ?_
 refine AW.seq ?_
 refine AW.region ?_
 show AR _ _ _ _ _ [0, 1, 2, 3, 4, 5, 6, 7, 8, 9, 10, 11] _
 refine sS rfl rfl rfl (mv rfl) ?_
 refine sS rfl rfl rfl (opS_not rfl) ?_
 refine sS rfl rfl rfl (mv rfl) ?_
 refine AR.meet (l := [7, 8, 9, 10, 11]) 17 (B ((!x4) || (decide (300 < (a1.length : Int))))) (fun K => ?_) ?_
 ·rcases Bool.eq_false_or_eq_true (!x4) with h6 | h6
  ·
   refine gF h6 rfl rfl rfl rfl rfl ?_
   refine gF h6 rfl rfl rfl rfl rfl ?_
   refine gF h6 rfl rfl rfl rfl rfl ?_
   refine sS rfl rfl rfl (opS_pick_t (av := .v _) rfl h6 rfl) ?_
   exact K _ 3 _ (B_congr (or_t h6)) rfl rfl
  ·
   refine gT h6 rfl rfl rfl rfl rfl rfl (AO.ops rfl rfl (mv rfl) ?_)
   refine gT h6 rfl rfl rfl rfl rfl rfl (AO.ops rfl rfl (opS_len_str Tryz.underlying9 rfl) ?_)
   refine gT h6 rfl rfl rfl rfl rfl rfl (AO.ops rfl rfl (opS_gt rfl rfl) ?_)
   refine sS rfl rfl rfl (opS_pick_f (av := .v _) rfl h6 rfl) ?_
   exact K _ 3 _ (B_congr (or_f h6)) rfl rfl
 refine sS rfl rfl rfl (mv rfl) ?_
 refine AR.meet (l := []) 22 (B (((!x4) || (decide (300 < (a1.length : Int)))) || (decide (300 < (a2.length : Int))))) (fun K => ?_) ?_
 ·rcases Bool.eq_false_or_eq_true ((!x4) || (decide (300 < (a1.length : Int)))) with h7 | h7
  ·
   refine gF h7 rfl rfl rfl rfl rfl ?_
   refine gF h7 rfl rfl rfl rfl rfl ?_
   refine gF h7 rfl rfl rfl rfl rfl ?_
   refine sS rfl rfl rfl (opS_pick_t (av := .v _) rfl h7 rfl) ?_
   exact K _ 3 _ (B_congr (or_t h7)) rfl rfl
  ·
   refine gT h7 rfl rfl rfl rfl rfl rfl (AO.ops rfl rfl (mv rfl) ?_)
   refine gT h7 rfl rfl rfl rfl rfl rfl (AO.ops rfl rfl (opS_len_str Tryz.underlying9 rfl) ?_)
   refine gT h7 rfl rfl rfl rfl rfl rfl (AO.ops rfl rfl (opS_gt rfl rfl) ?_)
   refine sS rfl rfl rfl (opS_pick_f (av := .v _) rfl h7 rfl) ?_
   exact K _ 3 _ (B_congr (or_f h7)) rfl rfl
 refine AR.nil ?_
 show AW _ _ _ _ _ _
 refine AW.cond rfl (fun c8 => ?_) (fun c8 => ?_)
 ·replace H := cnd_t c8 H
  refine AW.seq ?_
  refine AW.region ?_
  show AR _ _ _ _ _ [0, 1] _
  refine sS rfl rfl rfl (mv rfl) ?_
  refine sS rfl rfl rfl (asg rfl) ?_
  refine AR.nil ?_
  show AW _ _ _ _ _ _
  refine AW.ret ?_
  obtain rfl := Option.some.inj H
  exact And.intro rfl (Exists.intro _ (Exists.intro _ ⟨ResV.oneW rfl (.refl _), Sub.at [] rfl, rfl, rfl⟩))
 ·replace H := cnd_f c8 H
  refine AW.skip ?_
  show AW _ _ _ _ _ _
  refine AW.seq ?_
  obtain ⟨x9, x10, e11, H⟩ := bnd2_s H
  refine AW.region ?_
  show AR _ _ _ _ _ [0, 1, 2, 3, 4, 5, 6] _
  refine sS rfl rfl rfl (mv rfl) ?_
  refine AR.run rfl rfl (AO.callp rfl en10_lentloose rfl (w_ent_Decode F a1 x9 x10 e11) ?_)
  refine sS rfl rfl rfl (opS_move (av := .tup _) rfl) ?_
  refine sS rfl rfl rfl (opS_extract (av := .v _) rfl rfl) ?_
  refine sS rfl rfl rfl (opS_extract (av := .v _) rfl rfl) ?_
  refine sS rfl rfl rfl (asg rfl) ?_
  refine sS rfl rfl rfl (asg rfl) ?_
  refine AR.nil ?_
  show AW _ _ _ _ _ _
  refine AW.seq ?_
  refine AW.seq ?_
  obtain ⟨x13, e14, H⟩ := bndc_s H
  refine AW.region ?_
  show AR _ _ _ _ _ [0, 1, 2, 3, 4, 5, 6, 7] _
  refine sS rfl rfl rfl (mv rfl) ?_
  refine sS rfl rfl rfl (opS_eqi rfl rfl) ?_
  refine sS rfl rfl rfl (mv rfl) ?_
  refine AR.meet (l := []) 36 (B ((decide (x10 = 0)) && (!decide (x9 = x13)))) (fun K => ?_) ?_
  ·rcases Bool.eq_false_or_eq_true (decide (x10 = 0)) with h12 | h12
   ·
    refine gT h12 rfl rfl rfl rfl rfl rfl (AO.ops rfl rfl (mv rfl) ?_)
    refine gT h12 rfl rfl rfl rfl rfl rfl (AO.ops rfl rfl (mv rfl) ?_)
    refine gT h12 rfl rfl rfl rfl rfl rfl (AO.callp rfl en15_lentloose rfl (w_ent_Loose F a1 x13 (e14 h12)) ?_)
    refine gT h12 rfl rfl rfl rfl rfl rfl (AO.ops rfl rfl (opS_nes rfl rfl) ?_)
    refine sS rfl rfl rfl (opS_pick_t (av := .v _) rfl h12 rfl) ?_
    exact K _ 4 _ (B_congr (and_t h12)) rfl rfl
   ·
    refine gF h12 rfl rfl rfl rfl rfl ?_
    refine gF h12 rfl rfl rfl rfl rfl ?_
    refine gF h12 rfl rfl rfl rfl rfl ?_
    refine gF h12 rfl rfl rfl rfl rfl ?_
    refine sS rfl rfl rfl (opS_pick_f (av := .v _) rfl h12 rfl) ?_
    exact K _ 4 _ (B_congr (and_f h12)) rfl rfl
  refine AR.nil ?_
  show AW _ _ _ _ _ _
  refine AW.cond rfl (fun c15 => ?_) (fun c15 => ?_)
  ·replace H := cnd_t c15 H
   refine AW.seq ?_
   refine AW.region ?_
   show AR _ _ _ _ _ [0] _
   refine sS rfl rfl rfl (asg rfl) ?_
   refine AR.nil ?_
   show AW _ _ _ _ _ _
   refine AW.ret ?_
   obtain rfl := Option.some.inj H
   exact And.intro rfl (Exists.intro _ (Exists.intro _ ⟨ResV.oneW rfl (.refl _), Sub.at [] rfl, rfl, rfl⟩))
  ·replace H := cnd_f c15 H
   refine AW.skip ?_
   show AW _ _ _ _ _ _
   refine AW.seq ?_
   refine AW.region ?_
   show AR _ _ _ _ _ [0] _
   refine sS rfl rfl rfl (asg rfl) ?_
   refine AR.nil ?_
   show AW _ _ _ _ _ _
   refine AW.cut (X := Bool) (fun y26 => ⟨[(0, S a1), (1, S a2), (6, S x9), (7, i64 x10), (8, B y26)], [], []⟩) (fun y26 => law07_EntLoose_j1 F a1 a2 x9 x10 y26 = some r3) ?_ ?_
   ·
    refine AW.seq ?_
    refine AW.region ?_
    show AR _ _ _ _ _ [0] _
    refine sS rfl rfl rfl (asg rfl) ?_
    refine AR.nil ?_
    show AW _ _ _ _ _ _
    refine AW.block ?_
    refine AW.loop (X := Nat × Bool × Int) (fun (n19, y16, y17) => ⟨[(0, S a1), (1, S a2), (6, S x9), (7, i64 x10), (8, B y16), (9, i64 y17)], [], []⟩) (fun (n19, y16, y17) => law07_EntLoose_L1 F a1 a2 x9 x10 n19 (y16, y17) = some r3) (fun (n19, y16, y17) => n19) (F, false, 0) H (WK.at [] (.cons (.refl _) (.cons (.refl _) (.cons (.refl _) (.cons (.refl _) (.cons (.refl _) (.cons (.refl _) (.nil _))))))) rfl) ?_
    rintro ⟨n19, y16, y17⟩ H
    obtain ⟨n19, rfl, H⟩ := loop_s H
    replace H : law07_EntLoose_B1 F a1 a2 x9 x10 (law07_EntLoose_L1 F a1 a2 x9 x10 n19) y16 y17 = some r3 := H
    unfold law07_EntLoose_B1 at H
    show AW _ _ _ _ _ _
    refine AW.seq ?_
    refine AW.seq ?_
    refine AW.region ?_
    show AR _ _ _ _ _ [0, 1, 2, 3] _
    refine sS rfl rfl rfl (mv rfl) ?_
    refine sS rfl rfl rfl (mv rfl) ?_
    refine sS rfl rfl rfl (opS_len_str Tryz.underlying9 rfl) ?_
    refine sS rfl rfl rfl (opS_lt rfl rfl) ?_
    refine AR.nil ?_
    show AW _ _ _ _ _ _
    refine AW.cond rfl (fun c20 => ?_) (fun c20 => ?_)
    ·replace H := cnd_t c20 H
     refine AW.skip ?_
     show AW _ _ _ _ _ _
     refine AW.seq ?_
     refine AW.block ?_
     obtain ⟨g22, H⟩ := grdc_s H
     obtain ⟨x23, e24, H⟩ := lt_s H
     refine AW.region ?_
     show AR _ _ _ _ _ [0, 1, 2, 3, 4, 5, 6, 7] _
     refine sS rfl rfl rfl (mv rfl) ?_
     refine sS rfl rfl rfl (mv rfl) ?_
     refine AR.meet (l := [7]) 49 (B (y16 || (decide (x23 = 38)))) (fun K => ?_) ?_
     ·rcases Bool.eq_false_or_eq_true y16 with h21 | h21
      ·
       refine gF h21 rfl rfl rfl rfl rfl ?_
       refine gF h21 rfl rfl rfl rfl rfl ?_
       refine gF h21 rfl rfl rfl rfl rfl ?_
       refine gF h21 rfl rfl rfl rfl rfl ?_
       refine sS rfl rfl rfl (opS_pick_t (av := .v _) rfl h21 rfl) ?_
       exact K _ 4 _ (B_congr (or_t h21)) rfl rfl
      ·
       refine gT h21 rfl rfl rfl rfl rfl rfl (AO.ops rfl rfl (mv rfl) ?_)
       refine gT h21 rfl rfl rfl rfl rfl rfl (AO.ops rfl rfl (mv rfl) ?_)
       refine gT h21 rfl rfl rfl rfl rfl rfl (AO.ops rfl rfl (g_index_str Tryz.underlying9 rfl rfl (g22 (nf h21)) e24) ?_)
       refine gT h21 rfl rfl rfl rfl rfl rfl (AO.ops rfl rfl (g_eq8 (a := x23) (b := 38) rfl rfl) ?_)
       refine sS rfl rfl rfl (opS_pick_f (av := .v _) rfl h21 rfl) ?_
       exact K _ 4 _ (B_congr (or_f h21)) rfl rfl
     refine sS rfl rfl rfl (asg rfl) ?_
     refine AR.nil ?_
     show AW _ _ _ _ _ _
     obtain ⟨g25, H⟩ := grd_s H
     refine AW.region ?_
     show AR _ _ _ _ _ [0, 1, 2] _
     refine sS rfl rfl rfl (mv rfl) ?_
     refine sS rfl rfl rfl (g_add rfl rfl g25) ?_
     refine sS rfl rfl rfl (asg rfl) ?_
     refine AR.nil ?_
     exact Exists.intro (n19, y16 || (decide (x23 = 38)), y17 + 1) ⟨H, Nat.lt_succ_self _, WK.at [] (.cons (.refl _) (.cons (.refl _) (.cons (.refl _) (.cons (.refl _) (.cons (.refl _) (.cons (.refl _) (.nil _))))))) rfl⟩
    ·replace H := cnd_f c20 H
     refine AW.exit ?_
     exact Exists.intro y16 ⟨H, WK.at [] (.cons (.refl _) (.cons (.refl _) (.cons (.refl _) (.cons (.refl _) (.cons (.refl _) (.nil _)))))) rfl⟩
   rintro y26 H
   replace H : law07_EntLoose_j1 F a1 a2 x9 x10 y26 = some r3 := H
   unfold law07_EntLoose_j1 at H
   show AW _ _ _ _ _ _
   refine AW.seq ?_
   refine AW.seq ?_
   refine AW.region ?_
   show AR _ _ _ _ _ [0, 1, 2, 3, 4, 5, 6, 7, 8, 9, 10] _
   refine sS rfl rfl rfl (mv rfl) ?_
   refine sS rfl rfl rfl (opS_not rfl) ?_
   refine sS rfl rfl rfl (mv rfl) ?_
   refine AR.meet (l := []) 60 (B ((!y26) && ((!decide (x10 = 0)) || (!decide (x9 = a1))))) (fun K => ?_) ?_
   ·rcases Bool.eq_false_or_eq_true (!y26) with h28 | h28
    ·
     refine gT h28 rfl rfl rfl rfl rfl rfl (AO.ops rfl rfl (mv rfl) ?_)
     refine gT h28 rfl rfl rfl rfl rfl rfl (AO.ops rfl rfl (opS_nei rfl rfl) ?_)
     refine gT h28 rfl rfl rfl rfl rfl rfl (AO.ops rfl rfl (mv rfl) ?_)
     refine AR.meet (l := [10]) 59 (B ((!decide (x10 = 0)) || (!decide (x9 = a1)))) (fun K => ?_) ?_
     ·rcases Bool.eq_false_or_eq_true (!decide (x10 = 0)) with h29 | h29
      ·
       refine gF h29 rfl rfl rfl rfl rfl ?_
       refine gF h29 rfl rfl rfl rfl rfl ?_
       refine gF h29 rfl rfl rfl rfl rfl ?_
       refine gT h28 rfl rfl rfl rfl rfl rfl (AO.ops rfl rfl (opS_pick_t (av := .v _) rfl h29 rfl) ?_)
       exact K _ 3 _ (B_congr (or_t h29)) rfl rfl
      ·
       refine gT h29 rfl rfl rfl rfl rfl rfl (AO.ops rfl rfl (mv rfl) ?_)
       refine gT h29 rfl rfl rfl rfl rfl rfl (AO.ops rfl rfl (mv rfl) ?_)
       refine gT h29 rfl rfl rfl rfl rfl rfl (AO.ops rfl rfl (opS_nes rfl rfl) ?_)
       refine gT h28 rfl rfl rfl rfl rfl rfl (AO.ops rfl rfl (opS_pick_f (av := .v _) rfl h29 rfl) ?_)
       exact K _ 3 _ (B_congr (or_f h29)) rfl rfl
     refine sS rfl rfl rfl (opS_pick_t (av := .v _) rfl h28 rfl) ?_
     exact K _ 4 _ (B_congr (and_t h28)) rfl rfl
    ·
     refine gF h28 rfl rfl rfl rfl rfl ?_
     refine gF h28 rfl rfl rfl rfl rfl ?_
     refine gF h28 rfl rfl rfl rfl rfl ?_
     refine gU rfl rfl rfl rfl rfl ?_
     refine gU rfl rfl rfl rfl rfl ?_
     refine gU rfl rfl rfl rfl rfl ?_
     refine gF h28 rfl rfl rfl rfl rfl ?_
     refine sS rfl rfl rfl (opS_pick_f (av := .v _) rfl h28 rfl) ?_
     exact K _ 7 _ (B_congr (and_f h28)) rfl rfl
   refine AR.nil ?_
   show AW _ _ _ _ _ _
   refine AW.cond rfl (fun c30 => ?_) (fun c30 => ?_)
   ·replace H := cnd_t c30 H
    refine AW.seq ?_
    refine AW.region ?_
    show AR _ _ _ _ _ [0] _
    refine sS rfl rfl rfl (asg rfl) ?_
    refine AR.nil ?_
    show AW _ _ _ _ _ _
    refine AW.ret ?_
    obtain rfl := Option.some.inj H
    exact And.intro rfl (Exists.intro _ (Exists.intro _ ⟨ResV.oneW rfl (.refl _), Sub.at [] rfl, rfl, rfl⟩))
   ·replace H := cnd_f c30 H
    refine AW.skip ?_
    show AW _ _ _ _ _ _
    refine AW.seq ?_
    obtain ⟨g32, H⟩ := grdc_s H
    obtain ⟨x33, e34, H⟩ := lt_s H
    obtain ⟨x35, e36, H⟩ := bndc_s H
    obtain ⟨x37, e38, H⟩ := bndc_s H
    obtain ⟨g39, H⟩ := grdc_s H
    obtain ⟨x40, e41, H⟩ := lt_s H
    refine AW.region ?_
    show AR _ _ _ _ _ [0, 1, 2, 3, 4, 5, 6, 7, 8, 9, 10, 11, 12, 13] _
    refine sS rfl rfl rfl (mv rfl) ?_
    refine sS rfl rfl rfl (opS_nei rfl rfl) ?_
    refine sS rfl rfl rfl (mv rfl) ?_
    refine AR.meet (l := [13]) 73 (B ((!decide (x10 = 0)) || (decide (x35 = x40)))) (fun K => ?_) ?_
    ·rcases Bool.eq_false_or_eq_true (!decide (x10 = 0)) with h31 | h31
     ·
      refine gF h31 rfl rfl rfl rfl rfl ?_
      refine gF h31 rfl rfl rfl rfl rfl ?_
      refine gF h31 rfl rfl rfl rfl rfl ?_
      refine gF h31 rfl rfl rfl rfl rfl ?_
      refine gF h31 rfl rfl rfl rfl rfl ?_
      refine gF h31 rfl rfl rfl rfl rfl ?_
      refine gF h31 rfl rfl rfl rfl rfl ?_
      refine gF h31 rfl rfl rfl rfl rfl ?_
      refine gF h31 rfl rfl rfl rfl rfl ?_
      refine sS rfl rfl rfl (opS_pick_t (av := .v _) rfl h31 rfl) ?_
      exact K _ 9 _ (B_congr (or_t h31)) rfl rfl
     ·
      refine gT h31 rfl rfl rfl rfl rfl rfl (AO.ops rfl rfl (mv rfl) ?_)
      refine gT h31 rfl rfl rfl rfl rfl rfl (AO.ops rfl rfl (mv rfl) ?_)
      refine gT h31 rfl rfl rfl rfl rfl rfl (AO.ops rfl rfl (g_cat rfl rfl (g32 (nf h31)) e34) ?_)
      refine gT h31 rfl rfl rfl rfl rfl rfl (AO.callp rfl en15_lentloose rfl (w_ent_Loose F x33 x35 (e36 (nf h31))) ?_)
      refine gT h31 rfl rfl rfl rfl rfl rfl (AO.ops rfl rfl (mv rfl) ?_)
      refine gT h31 rfl rfl rfl rfl rfl rfl (AO.ops rfl rfl (mv rfl) ?_)
      refine gT h31 rfl rfl rfl rfl rfl rfl (AO.callp rfl en15_lentloose rfl (w_ent_Loose F a2 x37 (e38 (nf h31))) ?_)
      refine gT h31 rfl rfl rfl rfl rfl rfl (AO.ops rfl rfl (g_cat rfl rfl (g39 (nf h31)) e41) ?_)
      refine gT h31 rfl rfl rfl rfl rfl rfl (AO.ops rfl rfl (opS_eqs rfl rfl) ?_)
      refine sS rfl rfl rfl (opS_pick_f (av := .v _) rfl h31 rfl) ?_
      exact K _ 9 _ (B_congr (or_f h31)) rfl rfl
    refine sS rfl rfl rfl (asg rfl) ?_
    refine AR.nil ?_
    show AW _ _ _ _ _ _
    refine AW.ret ?_
    obtain rfl := Option.some.inj H
    exact And.intro rfl (Exists.intro _ (Exists.intro _ ⟨ResV.oneW rfl (.refl _), Sub.at [] rfl, rfl, rfl⟩))
end Go.Proofs.YtjhlnhipjomdeaaGreatDoor
