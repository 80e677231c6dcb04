/-
  The statement EntTrim: what is run is what the plain functions say. Printed by a program of ours.
-/
import Derived.Test.YtjhlnhipjomdeaaGreatDoorAvE
import Derived.Test.YtjhlnhipjomdeaaGreatDoorPvLib
import Derived.Test.YtjhlnhipjomdeaaGreatDoorP11Join
import Derived.Test.YtjhlnhipjomdeaaGreatDoorShelf
import Derived.Lib.ItoaNum
import Derived.Test.YtjhlnhipjomdeaaGreatDoorAvStill
import Derived.Test.YtjhlnhipjomdeaaGreatDoorAvSync
import Derived.Test.YtjhlnhipjomdeaaGreatDoorChecked
import Derived.Test.YtjhlnhipjomdeaaGreatDoorEntLW
import Derived.Test.YtjhlnhipjomdeaaGreatDoorLEntTrimP
set_option linter.unusedVariables false
set_option linter.unusedSimpArgs false
namespace Go.Proofs.YtjhlnhipjomdeaaGreatDoor
open Go.RowKit Go.Av Go.Pv
theorem en9_lenttrim : ∀ (args : Array Value) (w : World), (callFunc 9 args).run Tryz.prog w = .ok (.enter 9 args) w := fun _ _ => by kernel_rfl
theorem en19_lenttrim : ∀ (args : Array Value) (w : World), (callFunc 19 args).run Tryz.prog w = .ok (.enter 19 args) w := fun _ _ => by kernel_rfl
theorem en21_lenttrim : ∀ (args : Array Value) (w : World), (callFunc 21 args).run Tryz.prog w = .ok (.enter 21 args) w := fun _ _ => by kernel_rfl
set_option maxRecDepth 100000 in
set_option maxHeartbeats 1000000 in
theorem w_law07_EntTrim (F : Nat) (a1 : List UInt8) (r2 : Bool) (H : law07_EntTrim F a1 = some r2) : ACalls Tryz.prog 7 [S a1] [] (Ret (B r2) []) := by
 unfold law07_EntTrim at H
 refine ACalls.of_body Tryz.func7 rfl rfl ?_
 show AW _ _ 98 _ _ _
 refine AW.seq ?_
 refine AW.region ?_
 show AR _ _ _ _ _ [0] _
 refine sS rfl rfl rfl (asg rfl) ?_
 refine AR.nil ?_
 show AW _ _ _ _ _ _
 refine AW.seq ?_
 obtain ⟨x3, e4, H⟩ := bnd_s H
 refine AW.region ?_
 show AR _ _ _ _ _ [0, 1] _
 refine AR.run rfl rfl (AO.callp rfl en9_lenttrim rfl (w_law07_awake F x3 e4) ?_)
 refine sS rfl rfl rfl (asg rfl) ?_
 refine AR.nil ?_
 show AW _ _ _ _ _ _
 refine AW.seq ?_
 refine AW.seq ?_
 refine AW.region ?_
 show AR _ _ _ _ _ [0, 1, 2, 3, 4, 5, 6] _
 refine sS rfl rfl rfl (mv rfl) ?_
 refine sS rfl rfl rfl (opS_not rfl) ?_
 refine sS rfl rfl rfl (mv rfl) ?_
 refine AR.meet (l := []) 15 (B ((!x3) || (decide (600 < (a1.length : Int))))) (fun K => ?_) ?_
 ·rcases Bool.eq_false_or_eq_true (!x3) with h5 | h5
  ·
   refine gF h5 rfl rfl rfl rfl rfl ?_
   refine gF h5 rfl rfl rfl rfl rfl ?_
   refine gF h5 rfl rfl rfl rfl rfl ?_
   refine sS rfl rfl rfl (opS_pick_t (av := .v _) rfl h5 rfl) ?_
   exact K _ 3 _ (B_congr (or_t h5)) rfl rfl
  ·
   refine gT h5 rfl rfl rfl rfl rfl rfl (AO.ops rfl rfl (mv rfl) ?_)
   refine gT h5 rfl rfl rfl rfl rfl rfl (AO.ops rfl rfl (opS_len_str Tryz.underlying9 rfl) ?_)
   refine gT h5 rfl rfl rfl rfl rfl rfl (AO.ops rfl rfl (opS_gt rfl rfl) ?_)
   refine sS rfl rfl rfl (opS_pick_f (av := .v _) rfl h5 rfl) ?_
   exact K _ 3 _ (B_congr (or_f h5)) rfl rfl
 refine AR.nil ?_
 show AW _ _ _ _ _ _
 refine AW.cond rfl (fun c6 => ?_) (fun c6 => ?_)
 ·replace H := cnd_t c6 H
  refine AW.seq ?_
  refine AW.region ?_
  show AR _ _ _ _ _ [0, 1] _
  refine sS rfl rfl rfl (mv rfl) ?_
  refine sS rfl rfl rfl (asg rfl) ?_
  refine AR.nil ?_
  show AW _ _ _ _ _ _
  refine AW.ret ?_
  obtain rfl := Option.some.inj H
  exact And.intro rfl (Exists.intro _ (Exists.intro _ ⟨ResV.oneW rfl (.refl _), Sub.at [] rfl, rfl, rfl⟩))
 ·replace H := cnd_f c6 H
  refine AW.skip ?_
  show AW _ _ _ _ _ _
  refine AW.seq ?_
  obtain ⟨x7, e8, H⟩ := bnd_s H
  refine AW.region ?_
  show AR _ _ _ _ _ [0, 1, 2] _
  refine sS rfl rfl rfl (mv rfl) ?_
  refine AR.run rfl rfl (AO.callp rfl en19_lenttrim rfl (w_ent_Trim F a1 x7 e8) ?_)
  refine sS rfl rfl rfl (asg rfl) ?_
  refine AR.nil ?_
  show AW _ _ _ _ _ _
  refine AW.seq ?_
  refine AW.seq ?_
  obtain ⟨x9, e10, H⟩ := bnd_s H
  refine AW.region ?_
  show AR _ _ _ _ _ [0, 1, 2, 3] _
  refine sS rfl rfl rfl (mv rfl) ?_
  refine AR.run rfl rfl (AO.callp rfl en19_lenttrim rfl (w_ent_Trim F x7 x9 e10) ?_)
  refine sS rfl rfl rfl (mv rfl) ?_
  refine sS rfl rfl rfl (opS_nes rfl rfl) ?_
  refine AR.nil ?_
  show AW _ _ _ _ _ _
  refine AW.cond rfl (fun c11 => ?_) (fun c11 => ?_)
  ·replace H := cnd_t c11 H
   refine AW.seq ?_
   refine AW.region ?_
   show AR _ _ _ _ _ [0] _
   refine sS rfl rfl rfl (asg rfl) ?_
   refine AR.nil ?_
   show AW _ _ _ _ _ _
   refine AW.ret ?_
   obtain rfl := Option.some.inj H
   exact And.intro rfl (Exists.intro _ (Exists.intro _ ⟨ResV.oneW rfl (.refl _), Sub.at [] rfl, rfl, rfl⟩))
  ·replace H := cnd_f c11 H
   refine AW.skip ?_
   show AW _ _ _ _ _ _
   refine AW.seq ?_
   refine AW.region ?_
   show AR _ _ _ _ _ [0] _
   refine sS rfl rfl rfl (asg rfl) ?_
   refine AR.nil ?_
   show AW _ _ _ _ _ _
   refine AW.cut (X := Int) (fun y46 => ⟨[(4, S x7), (5, i64 y46)], [], []⟩) (fun y46 => law07_EntTrim_j2 F x7 y46 = some r2) ?_ ?_
   ·
    refine AW.seq ?_
    refine AW.region ?_
    show AR _ _ _ _ _ [0] _
    refine sS rfl rfl rfl (asg rfl) ?_
    refine AR.nil ?_
    show AW _ _ _ _ _ _
    refine AW.block ?_
    refine AW.loop (X := Nat × Int × Int) (fun (n15, y12, y13) => ⟨[(0, S a1), (4, S x7), (5, i64 y12), (6, i64 y13)], [], []⟩) (fun (n15, y12, y13) => law07_EntTrim_L3 F a1 x7 n15 (y12, y13) = some r2) (fun (n15, y12, y13) => n15) (F, 0, 0) H (WK.at [] (.cons (.refl _) (.cons (.refl _) (.cons (.refl _) (.cons (.refl _) (.nil _))))) rfl) ?_
    rintro ⟨n15, y12, y13⟩ H
    obtain ⟨n15, rfl, H⟩ := loop_s H
    replace H : law07_EntTrim_B3 F a1 x7 (law07_EntTrim_L3 F a1 x7 n15) y12 y13 = some r2 := H
    unfold law07_EntTrim_B3 at H
    show AW _ _ _ _ _ _
    refine AW.seq ?_
    refine AW.seq ?_
    refine AW.region ?_
    show AR _ _ _ _ _ [0, 1, 2, 3] _
    refine sS rfl rfl rfl (mv rfl) ?_
    refine sS rfl rfl rfl (mv rfl) ?_
    refine sS rfl rfl rfl (opS_len_str Tryz.underlying9 rfl) ?_
    refine sS rfl rfl rfl (opS_lt rfl rfl) ?_
    refine AR.nil ?_
    show AW _ _ _ _ _ _
    refine AW.cond rfl (fun c16 => ?_) (fun c16 => ?_)
    ·replace H := cnd_t c16 H
     refine AW.skip ?_
     show AW _ _ _ _ _ _
     refine AW.cut (X := Int) (fun y43 => ⟨[(0, S a1), (4, S x7), (5, i64 y43), (6, i64 y13)], [], []⟩) (fun y43 => law07_EntTrim_j3 y13 (law07_EntTrim_L3 F a1 x7 n15) y43 = some r2) ?_ ?_
     ·
      refine AW.block ?_
      refine AW.seq ?_
      refine AW.seq ?_
      obtain ⟨g17, H⟩ := grd_s H
      obtain ⟨x18, e19, H⟩ := lt_s H
      obtain ⟨x20, e21, H⟩ := bnd_s H
      refine AW.region ?_
      show AR _ _ _ _ _ [0, 1, 2, 3] _
      refine sS rfl rfl rfl (mv rfl) ?_
      refine sS rfl rfl rfl (mv rfl) ?_
      refine sS rfl rfl rfl (g_index_str Tryz.underlying9 rfl rfl g17 e19) ?_
      refine AR.run rfl rfl (AO.callp rfl en21_lenttrim rfl (w_ent_Space F x18 x20 e21) ?_)
      refine AR.nil ?_
      show AW _ _ _ _ _ _
      refine AW.cond rfl (fun c22 => ?_) (fun c22 => ?_)
      ·replace H := cnd_t c22 H
       refine AW.exit ?_
       exact Exists.intro y12 ⟨H, WK.at [] (.cons (.refl _) (.cons (.refl _) (.cons (.refl _) (.cons (.refl _) (.nil _))))) rfl⟩
      ·replace H := cnd_f c22 H
       refine AW.skip ?_
       show AW _ _ _ _ _ _
       refine AW.cut (X := Int) (fun y32 => ⟨[(0, S a1), (4, S x7), (5, i64 y32), (6, i64 y13)], [], []⟩) (fun y32 => law07_EntTrim_j4 a1 x7 y13 (law07_EntTrim_L3 F a1 x7 n15) y32 = some r2) ?_ ?_
       ·
        refine AW.block ?_
        refine AW.loop (X := Nat × Int) (fun (n25, y23) => ⟨[(0, S a1), (4, S x7), (5, i64 y23), (6, i64 y13)], [], []⟩) (fun (n25, y23) => law07_EntTrim_L2 a1 x7 y13 (law07_EntTrim_L3 F a1 x7 n15) n25 y23 = some r2) (fun (n25, y23) => n25) (F, y12) H (WK.at [] (.cons (.refl _) (.cons (.refl _) (.cons (.refl _) (.cons (.refl _) (.nil _))))) rfl) ?_
        rintro ⟨n25, y23⟩ H
        obtain ⟨n25, rfl, H⟩ := loop_s H
        replace H : law07_EntTrim_B2 a1 x7 y13 (law07_EntTrim_L3 F a1 x7 n15) (law07_EntTrim_L2 a1 x7 y13 (law07_EntTrim_L3 F a1 x7 n15) n25) y23 = some r2 := H
        unfold law07_EntTrim_B2 at H
        show AW _ _ _ _ _ _
        refine AW.seq ?_
        refine AW.seq ?_
        obtain ⟨g27, H⟩ := grdc_s H
        obtain ⟨x28, e29, H⟩ := lt_s H
        refine AW.region ?_
        show AR _ _ _ _ _ [0, 1, 2, 3, 4, 5, 6, 7, 8, 9] _
        refine sS rfl rfl rfl (mv rfl) ?_
        refine sS rfl rfl rfl (mv rfl) ?_
        refine sS rfl rfl rfl (opS_len_str Tryz.underlying9 rfl) ?_
        refine sS rfl rfl rfl (opS_lt rfl rfl) ?_
        refine sS rfl rfl rfl (mv rfl) ?_
        refine AR.meet (l := []) 42 (B ((decide (y23 < (x7.length : Int))) && (decide (x28 = 32)))) (fun K => ?_) ?_
        ·rcases Bool.eq_false_or_eq_true (decide (y23 < (x7.length : Int))) with h26 | h26
         ·
          refine gT h26 rfl rfl rfl rfl rfl rfl (AO.ops rfl rfl (mv rfl) ?_)
          refine gT h26 rfl rfl rfl rfl rfl rfl (AO.ops rfl rfl (mv rfl) ?_)
          refine gT h26 rfl rfl rfl rfl rfl rfl (AO.ops rfl rfl (g_index_str Tryz.underlying9 rfl rfl (g27 h26) e29) ?_)
          refine gT h26 rfl rfl rfl rfl rfl rfl (AO.ops rfl rfl (g_eq8 (a := x28) (b := 32) rfl rfl) ?_)
          refine sS rfl rfl rfl (opS_pick_t (av := .v _) rfl h26 rfl) ?_
          exact K _ 4 _ (B_congr (and_t h26)) rfl rfl
         ·
          refine gF h26 rfl rfl rfl rfl rfl ?_
          refine gF h26 rfl rfl rfl rfl rfl ?_
          refine gF h26 rfl rfl rfl rfl rfl ?_
          refine gF h26 rfl rfl rfl rfl rfl ?_
          refine sS rfl rfl rfl (opS_pick_f (av := .v _) rfl h26 rfl) ?_
          exact K _ 4 _ (B_congr (and_f h26)) rfl rfl
        refine AR.nil ?_
        show AW _ _ _ _ _ _
        refine AW.cond rfl (fun c30 => ?_) (fun c30 => ?_)
        ·replace H := cnd_t c30 H
         refine AW.skip ?_
         show AW _ _ _ _ _ _
         refine AW.block ?_
         obtain ⟨g31, H⟩ := grd_s H
         refine AW.region ?_
         show AR _ _ _ _ _ [0, 1, 2] _
         refine sS rfl rfl rfl (mv rfl) ?_
         refine sS rfl rfl rfl (g_add rfl rfl g31) ?_
         refine sS rfl rfl rfl (asg rfl) ?_
         refine AR.nil ?_
         exact Exists.intro (n25, y23 + 1) ⟨H, Nat.lt_succ_self _, WK.at [] (.cons (.refl _) (.cons (.refl _) (.cons (.refl _) (.cons (.refl _) (.nil _))))) rfl⟩
        ·replace H := cnd_f c30 H
         refine AW.exit ?_
         exact Exists.intro y23 ⟨H, WK.at [] (.cons (.refl _) (.cons (.refl _) (.cons (.refl _) (.cons (.refl _) (.nil _))))) rfl⟩
       rintro y32 H
       replace H : law07_EntTrim_j4 a1 x7 y13 (law07_EntTrim_L3 F a1 x7 n15) y32 = some r2 := H
       unfold law07_EntTrim_j4 at H
       show AW _ _ _ _ _ _
       refine AW.seq ?_
       refine AW.seq ?_
       obtain ⟨g35, H⟩ := grdc_s H
       obtain ⟨x36, e37, H⟩ := lt_s H
       obtain ⟨g38, H⟩ := grdc_s H
       obtain ⟨x39, e40, H⟩ := lt_s H
       refine AW.region_draw (by kernel_rfl) ?_
       show AI _ _ _ _ 13 (Array.replicate 13 false) _
       refine AI.take (i := 0) rfl rfl (by kernel_rfl) (by kernel_rfl) (by kernel_rfl) (fun _ _ h => h) (mv rfl) ?_
       show AI _ _ _ _ _ #[true, false, false, false, false, false, false, false, false, false, false, false, false] _
       refine AI.take (i := 1) rfl rfl (by kernel_rfl) (by kernel_rfl) (by kernel_rfl) (fun _ _ h => h) (mv rfl) ?_
       show AI _ _ _ _ _ #[true, true, false, false, false, false, false, false, false, false, false, false, false] _
       refine AI.take (i := 2) rfl rfl (by kernel_rfl) (by kernel_rfl) (by kernel_rfl) (fun _ _ h => h) (opS_len_str Tryz.underlying9 rfl) ?_
       show AI _ _ _ _ _ #[true, true, true, false, false, false, false, false, false, false, false, false, false] _
       refine AI.take (i := 3) rfl rfl (by kernel_rfl) (by kernel_rfl) (by kernel_rfl) (fun _ _ h => h) (opS_ge rfl rfl) ?_
       show AI _ _ _ _ _ #[true, true, true, true, false, false, false, false, false, false, false, false, false] _
       refine AI.take (i := 4) rfl rfl (by kernel_rfl) (by kernel_rfl) (by kernel_rfl) (fun _ _ h => h) (mv rfl) ?_
       show AI _ _ _ _ _ #[true, true, true, true, true, false, false, false, false, false, false, false, false] _
       refine AI.meet 0 #[true, true, true, true, true, true, true, true, true, true, true, true, true] 57 (B ((decide ((x7.length : Int) ≤ y32)) || (!decide (x36 = x39)))) (fun K12 => ?_) ?_
       ·refine AI.gsplit (t := 49) rfl (fun h34 => ?_) (fun h34 => ?_)
        ·
         refine AI.gskip (i := 5) rfl rfl (by kernel_rfl) (by kernel_rfl) (by kernel_rfl) rfl rfl rfl (fun _ _ h => h) h34 ?_
         show AI _ _ _ _ _ #[true, true, true, true, true, true, false, false, false, false, false, false, false] _
         refine AI.gskip (i := 6) rfl rfl (by kernel_rfl) (by kernel_rfl) (by kernel_rfl) rfl rfl rfl (fun _ _ h => h) h34 ?_
         show AI _ _ _ _ _ #[true, true, true, true, true, true, true, false, false, false, false, false, false] _
         refine AI.gskip (i := 7) rfl rfl (by kernel_rfl) (by kernel_rfl) (by kernel_rfl) rfl rfl rfl (fun _ _ h => h) h34 ?_
         show AI _ _ _ _ _ #[true, true, true, true, true, true, true, true, false, false, false, false, false] _
         refine AI.gskip (i := 8) rfl rfl (by kernel_rfl) (by kernel_rfl) (by kernel_rfl) rfl rfl rfl (fun _ _ h => h) h34 ?_
         show AI _ _ _ _ _ #[true, true, true, true, true, true, true, true, true, false, false, false, false] _
         refine AI.gskip (i := 9) rfl rfl (by kernel_rfl) (by kernel_rfl) (by kernel_rfl) rfl rfl rfl (fun _ _ h => h) h34 ?_
         show AI _ _ _ _ _ #[true, true, true, true, true, true, true, true, true, true, false, false, false] _
         refine AI.gskip (i := 10) rfl rfl (by kernel_rfl) (by kernel_rfl) (by kernel_rfl) rfl rfl rfl (fun _ _ h => h) h34 ?_
         show AI _ _ _ _ _ #[true, true, true, true, true, true, true, true, true, true, true, false, false] _
         refine AI.gskip (i := 11) rfl rfl (by kernel_rfl) (by kernel_rfl) (by kernel_rfl) rfl rfl rfl (fun _ _ h => h) h34 ?_
         show AI _ _ _ _ _ #[true, true, true, true, true, true, true, true, true, true, true, true, false] _
         refine AI.take (i := 12) rfl rfl (by kernel_rfl) (by kernel_rfl) (by kernel_rfl) (fun _ _ h => h) (OpS.eq (av' := B ((decide ((x7.length : Int) ≤ y32)) || (!decide (x36 = x39)))) (opS_pick_t (av := .v _) rfl h34 rfl) (B_congr (or_t h34))) ?_
         show AI _ _ _ _ _ #[true, true, true, true, true, true, true, true, true, true, true, true, true] _
         exact K12 _ 7 rfl rfl
        ·
         refine AI.gtake (i := 5) rfl rfl (by kernel_rfl) (by kernel_rfl) (by kernel_rfl) rfl rfl rfl (fun _ _ h => h) h34 (mv rfl) ?_
         show AI _ _ _ _ _ #[true, true, true, true, true, true, false, false, false, false, false, false, false] _
         refine AI.gtake (i := 6) rfl rfl (by kernel_rfl) (by kernel_rfl) (by kernel_rfl) rfl rfl rfl (fun _ _ h => h) h34 (mv rfl) ?_
         show AI _ _ _ _ _ #[true, true, true, true, true, true, true, false, false, false, false, false, false] _
         refine AI.gtake (i := 7) rfl rfl (by kernel_rfl) (by kernel_rfl) (by kernel_rfl) rfl rfl rfl (fun _ _ h => h) h34 (g_index_str Tryz.underlying9 rfl rfl (g35 (nf h34)) e37) ?_
         show AI _ _ _ _ _ #[true, true, true, true, true, true, true, true, false, false, false, false, false] _
         refine AI.gtake (i := 8) rfl rfl (by kernel_rfl) (by kernel_rfl) (by kernel_rfl) rfl rfl rfl (fun _ _ h => h) h34 (mv rfl) ?_
         show AI _ _ _ _ _ #[true, true, true, true, true, true, true, true, true, false, false, false, false] _
         refine AI.gtake (i := 9) rfl rfl (by kernel_rfl) (by kernel_rfl) (by kernel_rfl) rfl rfl rfl (fun _ _ h => h) h34 (mv rfl) ?_
         show AI _ _ _ _ _ #[true, true, true, true, true, true, true, true, true, true, false, false, false] _
         refine AI.gtake (i := 10) rfl rfl (by kernel_rfl) (by kernel_rfl) (by kernel_rfl) rfl rfl rfl (fun _ _ h => h) h34 (g_index_str Tryz.underlying9 rfl rfl (g38 (nf h34)) e40) ?_
         show AI _ _ _ _ _ #[true, true, true, true, true, true, true, true, true, true, true, false, false] _
         refine AI.gtake (i := 11) rfl rfl (by kernel_rfl) (by kernel_rfl) (by kernel_rfl) rfl rfl rfl (fun _ _ h => h) h34 (g_ne8 (a := x36) (b := x39) rfl rfl) ?_
         show AI _ _ _ _ _ #[true, true, true, true, true, true, true, true, true, true, true, true, false] _
         refine AI.take (i := 12) rfl rfl (by kernel_rfl) (by kernel_rfl) (by kernel_rfl) (fun _ _ h => h) (OpS.eq (av' := B ((decide ((x7.length : Int) ≤ y32)) || (!decide (x36 = x39)))) (opS_pick_f (av := .v _) rfl h34 rfl) (B_congr (or_f h34))) ?_
         show AI _ _ _ _ _ #[true, true, true, true, true, true, true, true, true, true, true, true, true] _
         exact K12 _ 7 rfl rfl
       refine AI.done rfl ?_
       show AW _ _ _ _ _ _
       refine AW.cond rfl (fun c41 => ?_) (fun c41 => ?_)
       ·replace H := cnd_t c41 H
        refine AW.seq ?_
        refine AW.region ?_
        show AR _ _ _ _ _ [0] _
        refine sS rfl rfl rfl (asg rfl) ?_
        refine AR.nil ?_
        show AW _ _ _ _ _ _
        refine AW.ret ?_
        obtain rfl := Option.some.inj H
        exact And.intro rfl (Exists.intro _ (Exists.intro _ ⟨ResV.oneW rfl (.refl _), Sub.at [] rfl, rfl, rfl⟩))
       ·replace H := cnd_f c41 H
        refine AW.skip ?_
        show AW _ _ _ _ _ _
        obtain ⟨g42, H⟩ := grd_s H
        refine AW.region ?_
        show AR _ _ _ _ _ [0, 1, 2] _
        refine sS rfl rfl rfl (mv rfl) ?_
        refine sS rfl rfl rfl (g_add rfl rfl g42) ?_
        refine sS rfl rfl rfl (asg rfl) ?_
        refine AR.nil ?_
        exact Exists.intro (y32 + 1) ⟨H, WK.at [] (.cons (.refl _) (.cons (.refl _) (.cons (.refl _) (.cons (.refl _) (.nil _))))) rfl⟩
     rintro y43 H
     replace H : law07_EntTrim_j3 y13 (law07_EntTrim_L3 F a1 x7 n15) y43 = some r2 := H
     unfold law07_EntTrim_j3 at H
     show AW _ _ _ _ _ _
     obtain ⟨g45, H⟩ := grd_s H
     refine AW.region ?_
     show AR _ _ _ _ _ [0, 1, 2] _
     refine sS rfl rfl rfl (mv rfl) ?_
     refine sS rfl rfl rfl (g_add rfl rfl g45) ?_
     refine sS rfl rfl rfl (asg rfl) ?_
     refine AR.nil ?_
     exact Exists.intro (n15, y43, y13 + 1) ⟨H, Nat.lt_succ_self _, WK.at [] (.cons (.refl _) (.cons (.refl _) (.cons (.refl _) (.cons (.refl _) (.nil _))))) rfl⟩
    ·replace H := cnd_f c16 H
     refine AW.exit ?_
     exact Exists.intro y12 ⟨H, WK.at [] (.cons (.refl _) (.cons (.refl _) (.nil _))) rfl⟩
   rintro y46 H
   replace H : law07_EntTrim_j2 F x7 y46 = some r2 := H
   unfold law07_EntTrim_j2 at H
   show AW _ _ _ _ _ _
   refine AW.cut (X := Unit) (fun _ => ⟨[(4, S x7), (5, i64 y46)], [], []⟩) (fun _ => law07_EntTrim_j1 x7 y46 = some r2) ?_ ?_
   ·
    refine AW.seq ?_
    refine AW.region ?_
    show AR _ _ _ _ _ [0] _
    refine sS rfl rfl rfl (asg rfl) ?_
    refine AR.nil ?_
    show AW _ _ _ _ _ _
    refine AW.block ?_
    refine AW.loop (X := Nat × Int) (fun (n50, y48) => ⟨[(4, S x7), (5, i64 y46), (7, i64 y48)], [], []⟩) (fun (n50, y48) => law07_EntTrim_L1 F x7 y46 n50 y48 = some r2) (fun (n50, y48) => n50) (F, 0) H (WK.at [] (.cons (.refl _) (.cons (.refl _) (.cons (.refl _) (.nil _)))) rfl) ?_
    rintro ⟨n50, y48⟩ H
    obtain ⟨n50, rfl, H⟩ := loop_s H
    replace H : law07_EntTrim_B1 F x7 y46 (law07_EntTrim_L1 F x7 y46 n50) y48 = some r2 := H
    unfold law07_EntTrim_B1 at H
    show AW _ _ _ _ _ _
    refine AW.seq ?_
    refine AW.seq ?_
    refine AW.region ?_
    show AR _ _ _ _ _ [0, 1, 2, 3] _
    refine sS rfl rfl rfl (mv rfl) ?_
    refine sS rfl rfl rfl (mv rfl) ?_
    refine sS rfl rfl rfl (opS_len_str Tryz.underlying9 rfl) ?_
    refine sS rfl rfl rfl (opS_lt rfl rfl) ?_
    refine AR.nil ?_
    show AW _ _ _ _ _ _
    refine AW.cond rfl (fun c51 => ?_) (fun c51 => ?_)
    ·replace H := cnd_t c51 H
     refine AW.skip ?_
     show AW _ _ _ _ _ _
     refine AW.seq ?_
     refine AW.block ?_
     refine AW.seq ?_
     obtain ⟨g52, H⟩ := grd_s H
     obtain ⟨x53, e54, H⟩ := lt_s H
     obtain ⟨x55, e56, H⟩ := bnd_s H
     obtain ⟨g58, H⟩ := grdc_s H
     obtain ⟨x59, e60, H⟩ := lt_s H
     obtain ⟨g63, H⟩ := grdc_s H
     obtain ⟨g65, H⟩ := grdc_s H
     obtain ⟨g66, H⟩ := grdc_s H
     obtain ⟨x67, e68, H⟩ := lt_s H
     refine AW.region ?_
     show AR _ _ _ _ _ [0, 1, 2, 3, 4, 5, 6, 7, 8, 9, 10, 11, 12, 13, 14, 15, 16, 17, 18, 19, 20, 21, 22, 23, 24, 25, 26, 27] _
     refine sS rfl rfl rfl (mv rfl) ?_
     refine sS rfl rfl rfl (mv rfl) ?_
     refine sS rfl rfl rfl (g_index_str Tryz.underlying9 rfl rfl g52 e54) ?_
     refine AR.run rfl rfl (AO.callp rfl en21_lenttrim rfl (w_ent_Space F x53 x55 e56) ?_)
     refine sS rfl rfl rfl (mv rfl) ?_
     refine AR.meet (l := []) 93 (B (x55 && ((((!decide (x59 = 32)) || (decide (y48 = 0))) || (decide (y48 = (x7.length : Int) - 1))) || (decide (x67 = 32))))) (fun K => ?_) ?_
     ·rcases Bool.eq_false_or_eq_true x55 with h57 | h57
      ·
       refine gT h57 rfl rfl rfl rfl rfl rfl (AO.ops rfl rfl (mv rfl) ?_)
       refine gT h57 rfl rfl rfl rfl rfl rfl (AO.ops rfl rfl (mv rfl) ?_)
       refine gT h57 rfl rfl rfl rfl rfl rfl (AO.ops rfl rfl (g_index_str Tryz.underlying9 rfl rfl (g58 h57) e60) ?_)
       refine gT h57 rfl rfl rfl rfl rfl rfl (AO.ops rfl rfl (g_ne8 (a := x59) (b := 32) rfl rfl) ?_)
       refine gT h57 rfl rfl rfl rfl rfl rfl (AO.ops rfl rfl (mv rfl) ?_)
       refine AR.meet (l := [13, 14, 15, 16, 17, 18, 19, 20, 21, 22, 23, 24, 25, 26, 27]) 78 (B ((!decide (x59 = 32)) || (decide (y48 = 0)))) (fun K => ?_) ?_
       ·rcases Bool.eq_false_or_eq_true (!decide (x59 = 32)) with h61 | h61
        ·
         refine gF h61 rfl rfl rfl rfl rfl ?_
         refine gF h61 rfl rfl rfl rfl rfl ?_
         refine gT h57 rfl rfl rfl rfl rfl rfl (AO.ops rfl rfl (opS_pick_t (av := .v _) rfl h61 rfl) ?_)
         exact K _ 2 _ (B_congr (or_t h61)) rfl rfl
        ·
         refine gT h61 rfl rfl rfl rfl rfl rfl (AO.ops rfl rfl (mv rfl) ?_)
         refine gT h61 rfl rfl rfl rfl rfl rfl (AO.ops rfl rfl (opS_eqi rfl rfl) ?_)
         refine gT h57 rfl rfl rfl rfl rfl rfl (AO.ops rfl rfl (opS_pick_f (av := .v _) rfl h61 rfl) ?_)
         exact K _ 2 _ (B_congr (or_f h61)) rfl rfl
       refine gT h57 rfl rfl rfl rfl rfl rfl (AO.ops rfl rfl (mv rfl) ?_)
       refine AR.meet (l := [20, 21, 22, 23, 24, 25, 26, 27]) 85 (B (((!decide (x59 = 32)) || (decide (y48 = 0))) || (decide (y48 = (x7.length : Int) - 1)))) (fun K => ?_) ?_
       ·rcases Bool.eq_false_or_eq_true ((!decide (x59 = 32)) || (decide (y48 = 0))) with h62 | h62
        ·
         refine gF h62 rfl rfl rfl rfl rfl ?_
         refine gF h62 rfl rfl rfl rfl rfl ?_
         refine gF h62 rfl rfl rfl rfl rfl ?_
         refine gF h62 rfl rfl rfl rfl rfl ?_
         refine gF h62 rfl rfl rfl rfl rfl ?_
         refine gT h57 rfl rfl rfl rfl rfl rfl (AO.ops rfl rfl (opS_pick_t (av := .v _) rfl h62 rfl) ?_)
         exact K _ 5 _ (B_congr (or_t h62)) rfl rfl
        ·
         refine gT h62 rfl rfl rfl rfl rfl rfl (AO.ops rfl rfl (mv rfl) ?_)
         refine gT h62 rfl rfl rfl rfl rfl rfl (AO.ops rfl rfl (mv rfl) ?_)
         refine gT h62 rfl rfl rfl rfl rfl rfl (AO.ops rfl rfl (opS_len_str Tryz.underlying9 rfl) ?_)
         refine gT h62 rfl rfl rfl rfl rfl rfl (AO.ops rfl rfl (g_sub rfl rfl (g63 (and_tt h57 (nf h62)))) ?_)
         refine gT h62 rfl rfl rfl rfl rfl rfl (AO.ops rfl rfl (opS_eqi rfl rfl) ?_)
         refine gT h57 rfl rfl rfl rfl rfl rfl (AO.ops rfl rfl (opS_pick_f (av := .v _) rfl h62 rfl) ?_)
         exact K _ 5 _ (B_congr (or_f h62)) rfl rfl
       refine gT h57 rfl rfl rfl rfl rfl rfl (AO.ops rfl rfl (mv rfl) ?_)
       refine AR.meet (l := [27]) 92 (B ((((!decide (x59 = 32)) || (decide (y48 = 0))) || (decide (y48 = (x7.length : Int) - 1))) || (decide (x67 = 32)))) (fun K => ?_) ?_
       ·rcases Bool.eq_false_or_eq_true (((!decide (x59 = 32)) || (decide (y48 = 0))) || (decide (y48 = (x7.length : Int) - 1))) with h64 | h64
        ·
         refine gF h64 rfl rfl rfl rfl rfl ?_
         refine gF h64 rfl rfl rfl rfl rfl ?_
         refine gF h64 rfl rfl rfl rfl rfl ?_
         refine gF h64 rfl rfl rfl rfl rfl ?_
         refine gF h64 rfl rfl rfl rfl rfl ?_
         refine gT h57 rfl rfl rfl rfl rfl rfl (AO.ops rfl rfl (opS_pick_t (av := .v _) rfl h64 rfl) ?_)
         exact K _ 5 _ (B_congr (or_t h64)) rfl rfl
        ·
         refine gT h64 rfl rfl rfl rfl rfl rfl (AO.ops rfl rfl (mv rfl) ?_)
         refine gT h64 rfl rfl rfl rfl rfl rfl (AO.ops rfl rfl (mv rfl) ?_)
         refine gT h64 rfl rfl rfl rfl rfl rfl (AO.ops rfl rfl (g_sub rfl rfl (g65 (and_tt h57 (nf h64)))) ?_)
         refine gT h64 rfl rfl rfl rfl rfl rfl (AO.ops rfl rfl (g_index_str Tryz.underlying9 rfl rfl (g66 (and_tt h57 (nf h64))) e68) ?_)
         refine gT h64 rfl rfl rfl rfl rfl rfl (AO.ops rfl rfl (g_eq8 (a := x67) (b := 32) rfl rfl) ?_)
         refine gT h57 rfl rfl rfl rfl rfl rfl (AO.ops rfl rfl (opS_pick_f (av := .v _) rfl h64 rfl) ?_)
         exact K _ 5 _ (B_congr (or_f h64)) rfl rfl
       refine sS rfl rfl rfl (opS_pick_t (av := .v _) rfl h57 rfl) ?_
       exact K _ 10 _ (B_congr (and_t h57)) rfl rfl
      ·
       refine gF h57 rfl rfl rfl rfl rfl ?_
       refine gF h57 rfl rfl rfl rfl rfl ?_
       refine gF h57 rfl rfl rfl rfl rfl ?_
       refine gF h57 rfl rfl rfl rfl rfl ?_
       refine gF h57 rfl rfl rfl rfl rfl ?_
       refine gU rfl rfl rfl rfl rfl ?_
       refine gU rfl rfl rfl rfl rfl ?_
       refine gF h57 rfl rfl rfl rfl rfl ?_
       refine gF h57 rfl rfl rfl rfl rfl ?_
       refine gU rfl rfl rfl rfl rfl ?_
       refine gU rfl rfl rfl rfl rfl ?_
       refine gU rfl rfl rfl rfl rfl ?_
       refine gU rfl rfl rfl rfl rfl ?_
       refine gU rfl rfl rfl rfl rfl ?_
       refine gF h57 rfl rfl rfl rfl rfl ?_
       refine gF h57 rfl rfl rfl rfl rfl ?_
       refine gU rfl rfl rfl rfl rfl ?_
       refine gU rfl rfl rfl rfl rfl ?_
       refine gU rfl rfl rfl rfl rfl ?_
       refine gU rfl rfl rfl rfl rfl ?_
       refine gU rfl rfl rfl rfl rfl ?_
       refine gF h57 rfl rfl rfl rfl rfl ?_
       refine sS rfl rfl rfl (opS_pick_f (av := .v _) rfl h57 rfl) ?_
       exact K _ 22 _ (B_congr (and_f h57)) rfl rfl
     refine AR.nil ?_
     show AW _ _ _ _ _ _
     refine AW.cond rfl (fun c69 => ?_) (fun c69 => ?_)
     ·replace H := cnd_t c69 H
      refine AW.seq ?_
      refine AW.region ?_
      show AR _ _ _ _ _ [0] _
      refine sS rfl rfl rfl (asg rfl) ?_
      refine AR.nil ?_
      show AW _ _ _ _ _ _
      refine AW.ret ?_
      obtain rfl := Option.some.inj H
      exact And.intro rfl (Exists.intro _ (Exists.intro _ ⟨ResV.oneW rfl (.refl _), Sub.at [] rfl, rfl, rfl⟩))
     ·replace H := cnd_f c69 H
      refine AW.skip ?_
      show AW _ _ _ _ _ _
      obtain ⟨g70, H⟩ := grd_s H
      refine AW.region ?_
      show AR _ _ _ _ _ [0, 1, 2] _
      refine sS rfl rfl rfl (mv rfl) ?_
      refine sS rfl rfl rfl (g_add rfl rfl g70) ?_
      refine sS rfl rfl rfl (asg rfl) ?_
      refine AR.nil ?_
      exact Exists.intro (n50, y48 + 1) ⟨H, Nat.lt_succ_self _, WK.at [] (.cons (.refl _) (.cons (.refl _) (.cons (.refl _) (.nil _)))) rfl⟩
    ·replace H := cnd_f c51 H
     refine AW.exit ?_
     exact Exists.intro () ⟨H, WK.at [] (.cons (.refl _) (.cons (.refl _) (.nil _))) rfl⟩
   rintro _ H
   replace H : law07_EntTrim_j1 x7 y46 = some r2 := H
   unfold law07_EntTrim_j1 at H
   show AW _ _ _ _ _ _
   refine AW.seq ?_
   refine AW.region ?_
   show AR _ _ _ _ _ [0, 1, 2, 3, 4] _
   refine sS rfl rfl rfl (mv rfl) ?_
   refine sS rfl rfl rfl (mv rfl) ?_
   refine sS rfl rfl rfl (opS_len_str Tryz.underlying9 rfl) ?_
   refine sS rfl rfl rfl (opS_eqi rfl rfl) ?_
   refine sS rfl rfl rfl (asg rfl) ?_
   refine AR.nil ?_
   show AW _ _ _ _ _ _
   refine AW.ret ?_
   obtain rfl := Option.some.inj H
   exact And.intro rfl (Exists.intro _ (Exists.intro _ ⟨ResV.oneW rfl (.refl _), Sub.at [] rfl, rfl, rfl⟩))
end Go.Proofs.YtjhlnhipjomdeaaGreatDoor
