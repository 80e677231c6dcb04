/-
  What trims blanks: what is run is what the plain functions say. Printed by a program of ours.
-/
import Derived.Test.YtjajiokihccobaaGreatDoorAvE
import Derived.Test.YtjajiokihccobaaGreatDoorPvLib
import Derived.Test.YtjajiokihccobaaGreatDoorP11Split
import Derived.Test.YtjajiokihccobaaGreatDoorChecked
import Derived.Test.YtjajiokihccobaaGreatDoorLibLW
import Derived.Test.YtjajiokihccobaaGreatDoorEntAP
set_option linter.unusedVariables false
set_option linter.unusedSimpArgs false
namespace Go.Proofs.YtjajiokihccobaaGreatDoor
open Go.RowKit Go.Av Go.Pv
theorem en11 : ∀ (args : Array Value) (w : World), (callFunc 11 args).run Tryz.prog w = .ok (.enter 11 args) w := fun _ _ => by kernel_rfl
theorem en12 : ∀ (args : Array Value) (w : World), (callFunc 12 args).run Tryz.prog w = .ok (.enter 12 args) w := fun _ _ => by kernel_rfl
theorem en18 : ∀ (args : Array Value) (w : World), (callFunc 18 args).run Tryz.prog w = .ok (.enter 18 args) w := fun _ _ => by kernel_rfl
theorem en21 : ∀ (args : Array Value) (w : World), (callFunc 21 args).run Tryz.prog w = .ok (.enter 21 args) w := fun _ _ => by kernel_rfl
theorem en35 : ∀ (args : Array Value) (w : World), (callFunc 35 args).run Tryz.prog w = .ok (.enter 35 args) w := fun _ _ => by kernel_rfl
set_option maxRecDepth 100000 in
set_option maxHeartbeats 1000000 in
theorem w_ref07_Space (F : Nat) (a1 : UInt8) (r2 : Bool) (H : ref07_Space F a1 = some r2) : ACalls Tryz.prog 35 [u8 a1] [] (Ret (B r2) []) := by
  unfold ref07_Space at H
  refine ACalls.of_body Tryz.func35 rfl rfl ?_
  show AW _ _ 17 _ _ _
  refine AW.seq ?_
  refine AW.region ?_
  show AR _ _ _ _ _ [0] _
  refine sS rfl rfl rfl (asg rfl) ?_
  refine AR.nil ?_
  show AW _ _ _ _ _ _
  refine AW.seq ?_
  refine AW.region ?_
  show AR _ _ _ _ _ [0, 1, 2, 3, 4, 5, 6, 7, 8, 9, 10, 11, 12, 13, 14] _
  refine sS rfl rfl rfl (mv rfl) ?_
  refine sS rfl rfl rfl (g_eq8 (a := a1) (b := 9) rfl rfl) ?_
  refine sS rfl rfl rfl (mv rfl) ?_
  refine AR.meet (l := [6, 7, 8, 9, 10, 11, 12, 13, 14]) 8 (B ((decide (a1 = 9)) || (decide (a1 = 10)))) (fun K => ?_) ?_
  · rcases Bool.eq_false_or_eq_true (decide (a1 = 9)) with h3 | h3
    ·
      refine gF h3 rfl rfl rfl rfl rfl ?_
      refine gF h3 rfl rfl rfl rfl rfl ?_
      refine sS rfl rfl rfl (opS_pick_t (av := .v _) rfl h3 rfl) ?_
      exact K _ 2 _ (B_congr (or_t h3)) rfl rfl
    ·
      refine gT h3 rfl rfl rfl rfl rfl rfl (AO.ops rfl rfl (mv rfl) ?_)
      refine gT h3 rfl rfl rfl rfl rfl rfl (AO.ops rfl rfl (g_eq8 (a := a1) (b := 10) rfl rfl) ?_)
      refine sS rfl rfl rfl (opS_pick_f (av := .v _) rfl h3 rfl) ?_
      exact K _ 2 _ (B_congr (or_f h3)) rfl rfl
  refine sS rfl rfl rfl (mv rfl) ?_
  refine AR.meet (l := [10, 11, 12, 13, 14]) 12 (B (((decide (a1 = 9)) || (decide (a1 = 10))) || (decide (a1 = 13)))) (fun K => ?_) ?_
  · rcases Bool.eq_false_or_eq_true ((decide (a1 = 9)) || (decide (a1 = 10))) with h4 | h4
    ·
      refine gF h4 rfl rfl rfl rfl rfl ?_
      refine gF h4 rfl rfl rfl rfl rfl ?_
      refine sS rfl rfl rfl (opS_pick_t (av := .v _) rfl h4 rfl) ?_
      exact K _ 2 _ (B_congr (or_t h4)) rfl rfl
    ·
      refine gT h4 rfl rfl rfl rfl rfl rfl (AO.ops rfl rfl (mv rfl) ?_)
      refine gT h4 rfl rfl rfl rfl rfl rfl (AO.ops rfl rfl (g_eq8 (a := a1) (b := 13) rfl rfl) ?_)
      refine sS rfl rfl rfl (opS_pick_f (av := .v _) rfl h4 rfl) ?_
      exact K _ 2 _ (B_congr (or_f h4)) rfl rfl
  refine sS rfl rfl rfl (mv rfl) ?_
  refine AR.meet (l := [14]) 16 (B ((((decide (a1 = 9)) || (decide (a1 = 10))) || (decide (a1 = 13))) || (decide (a1 = 32)))) (fun K => ?_) ?_
  · rcases Bool.eq_false_or_eq_true (((decide (a1 = 9)) || (decide (a1 = 10))) || (decide (a1 = 13))) with h5 | h5
    ·
      refine gF h5 rfl rfl rfl rfl rfl ?_
      refine gF h5 rfl rfl rfl rfl rfl ?_
      refine sS rfl rfl rfl (opS_pick_t (av := .v _) rfl h5 rfl) ?_
      exact K _ 2 _ (B_congr (or_t h5)) rfl rfl
    ·
      refine gT h5 rfl rfl rfl rfl rfl rfl (AO.ops rfl rfl (mv rfl) ?_)
      refine gT h5 rfl rfl rfl rfl rfl rfl (AO.ops rfl rfl (g_eq8 (a := a1) (b := 32) rfl rfl) ?_)
      refine sS rfl rfl rfl (opS_pick_f (av := .v _) rfl h5 rfl) ?_
      exact K _ 2 _ (B_congr (or_f h5)) rfl rfl
  refine sS rfl rfl rfl (asg rfl) ?_
  refine AR.nil ?_
  show AW _ _ _ _ _ _
  refine AW.ret ?_
  obtain rfl := Option.some.inj H
  exact And.intro rfl (Exists.intro _ (Exists.intro _ ⟨ResV.oneW rfl (.refl _), Sub.at [] rfl, rfl, rfl⟩))
set_option maxRecDepth 100000 in
set_option maxHeartbeats 1000000 in
theorem w_ref07_Trim (F : Nat) (a1 : List UInt8) (r2 : List UInt8) (H : ref07_Trim F a1 = some r2) : ACalls Tryz.prog 18 [S a1] [] (Ret (S r2) []) := by
  unfold ref07_Trim at H
  refine ACalls.of_body Tryz.func18 rfl rfl ?_
  show AW _ _ 33 _ _ _
  refine AW.seq ?_
  refine AW.region ?_
  show AR _ _ _ _ _ [0] _
  refine sS rfl rfl rfl (asg rfl) ?_
  refine AR.nil ?_
  show AW _ _ _ _ _ _
  refine AW.seq ?_
  refine AW.region ?_
  show AR _ _ _ _ _ [0] _
  refine sS rfl rfl rfl (asg rfl) ?_
  refine AR.nil ?_
  show AW _ _ _ _ _ _
  refine AW.nil_grows 3 1 5 rfl fun t3 => ?_
  show AW _ _ _ _ _ ⟨(3, slE Enc.byte [] (some t3)) :: _, _, _⟩
  refine AW.seq ?_
  refine AW.region ?_
  show AR _ _ _ _ _ [0] _
  refine sS rfl rfl rfl (asg rfl) ?_
  refine AR.nil ?_
  show AW _ _ _ _ _ _
  refine AW.cut (X := (List UInt8) × Nat) (fun (y37, t38) => ⟨[(3, slE Enc.byte y37 (some t38))], [], [.tok t38 5]⟩) (fun (y37, t38) => ref07_Trim_j1 y37 = some r2) ?_ ?_
  ·
    refine AW.seq ?_
    refine AW.region ?_
    show AR _ _ _ _ _ [0] _
    refine sS rfl rfl rfl (asg rfl) ?_
    refine AR.nil ?_
    show AW _ _ _ _ _ _
    refine AW.block ?_
    refine AW.loop (X := Nat × (List UInt8) × Nat × Bool × Int) (fun (n9, y4, t5, y6, y7) => ⟨[(0, S a1), (3, slE Enc.byte y4 (some t5)), (4, B y6), (5, i64 y7)], [], [.tok t5 5]⟩) (fun (n9, y4, t5, y6, y7) => ref07_Trim_L1 F a1 n9 (y4, y6, y7) = some r2) (fun (n9, y4, t5, y6, y7) => n9) (F, [], t3, false, 0) H (WK.at [0] (.cons (.refl _) (.cons (.refl _) (.cons (.refl _) (.cons (.refl _) (.nil _))))) rfl) ?_
    rintro ⟨n9, y4, t5, y6, y7⟩ H
    obtain ⟨n9, rfl, H⟩ := loop_s H
    replace H : ref07_Trim_B1 F a1 (ref07_Trim_L1 F a1 n9) y4 y6 y7 = some r2 := H
    unfold ref07_Trim_B1 at H
    show AW _ _ _ _ _ _
    refine AW.seq ?_
    refine AW.seq ?_
    refine AW.region ?_
    show AR _ _ _ _ _ [0, 1, 2, 3] _
    refine sS rfl rfl rfl (mv rfl) ?_
    refine sS rfl rfl rfl (mv rfl) ?_
    refine sS rfl rfl rfl (opS_len_str Tryz.underlying9 rfl) ?_
    refine sS rfl rfl rfl (opS_lt rfl rfl) ?_
    refine AR.nil ?_
    show AW _ _ _ _ _ _
    refine AW.cond rfl (fun c10 => ?_) (fun c10 => ?_)
    · replace H := cnd_t c10 H
      refine AW.skip ?_
      show AW _ _ _ _ _ _
      refine AW.cut (X := (List UInt8) × Nat × Bool) (fun (y32, t33, y34) => ⟨[(0, S a1), (3, slE Enc.byte y32 (some t33)), (4, B y34), (5, i64 y7)], [], [.tok t33 5]⟩) (fun (y32, t33, y34) => ref07_Trim_j2 y7 (ref07_Trim_L1 F a1 n9) y32 y34 = some r2) ?_ ?_
      ·
        refine AW.block ?_
        refine AW.seq ?_
        obtain ⟨g11, H⟩ := grd_s H
        obtain ⟨x12, e13, H⟩ := lt_s H
        obtain ⟨x14, e15, H⟩ := bnd_s H
        refine AW.region ?_
        show AR _ _ _ _ _ [0, 1, 2, 3, 4] _
        refine sS rfl rfl rfl (mv rfl) ?_
        refine sS rfl rfl rfl (mv rfl) ?_
        refine sS rfl rfl rfl (g_index_str Tryz.underlying9 rfl rfl g11 e13) ?_
        refine AR.run rfl rfl (AO.callp rfl en35 rfl (w_ref07_Space F x12 x14 e15) ?_)
        refine sS rfl rfl rfl (asg rfl) ?_
        refine AR.nil ?_
        show AW _ _ _ _ _ _
        refine AW.seq ?_
        refine AW.seq ?_
        refine AW.region ?_
        show AR _ _ _ _ _ [0] _
        refine sS rfl rfl rfl (mv rfl) ?_
        refine AR.nil ?_
        show AW _ _ _ _ _ _
        refine AW.cond rfl (fun c16 => ?_) (fun c16 => ?_)
        · replace H := cnd_t c16 H
          refine AW.seq ?_
          refine AW.region ?_
          show AR _ _ _ _ _ [0, 1, 2, 3] _
          refine sS rfl rfl rfl (opS_move (av := slE _ _ _) rfl) ?_
          refine sS rfl rfl rfl (opS_len_sl Tryz.underlying33 rfl) ?_
          refine sS rfl rfl rfl (opS_gt rfl rfl) ?_
          refine sS rfl rfl rfl (asg rfl) ?_
          refine AR.nil ?_
          show AW _ _ _ _ _ _
          refine AW.exit ?_
          exact Exists.intro (y4, t5, decide (0 < (y4.length : Int))) ⟨H, WK.at [0] (.cons (.refl _) (.cons (.refl _) (.cons (.refl _) (.cons (.refl _) (.nil _))))) rfl⟩
        · replace H := cnd_f c16 H
          refine AW.skip ?_
          show AW _ _ _ _ _ _
          refine AW.cut (X := (List UInt8) × Nat) (fun (y22, t23) => ⟨[(0, S a1), (3, slE Enc.byte y22 (some t23)), (5, i64 y7)], [], [.tok t23 5]⟩) (fun (y22, t23) => ref07_Trim_j3 a1 y7 (ref07_Trim_L1 F a1 n9) y22 = some r2) ?_ ?_
          ·
            refine AW.seq ?_
            refine AW.region ?_
            show AR _ _ _ _ _ [0] _
            refine sS rfl rfl rfl (mv rfl) ?_
            refine AR.nil ?_
            show AW _ _ _ _ _ _
            refine AW.cond rfl (fun c17 => ?_) (fun c17 => ?_)
            · replace H := cnd_t c17 H
              obtain ⟨g19, H⟩ := grd_s H
              obtain ⟨x20, e21, H⟩ := lt_s H
              refine AW.region ?_
              show AR _ _ _ _ _ [0, 1, 2, 3] _
              refine sS rfl rfl rfl (opS_move (av := slE _ _ _) rfl) ?_
              refine sR rfl rfl rfl (opR_buildE (E := Enc.byte) (bytes := 1) (xs := [.const _]) (l := ([32] : List UInt8)) Tryz.underlying33 (by kernel_rfl) rfl rfl (by decide) rfl rfl) ?_
              refine sX rfl rfl rfl (g_append (E := Enc.byte) (bytes := 1) 0 Tryz.underlying33 Tryz.underlying33 rfl (by kernel_rfl) rfl rfl rfl rfl g19 e21) ?_
              rintro _ _ ⟨t18, rfl, rfl⟩
              refine sS rfl rfl rfl (opS_assign (av := slE _ _ _) rfl) ?_
              refine AR.nil ?_
              exact Exists.intro (x20, t18) ⟨H, WK.at [0] (.cons (.refl _) (.cons (.refl _) (.cons (.refl _) (.nil _)))) rfl⟩
            · replace H := cnd_f c17 H
              refine AW.skip ?_
              exact Exists.intro (y4, t5) ⟨H, WK.at [0] (.cons (.refl _) (.cons (.refl _) (.cons (.refl _) (.nil _)))) rfl⟩
          rintro ⟨y22, t23⟩ H
          replace H : ref07_Trim_j3 a1 y7 (ref07_Trim_L1 F a1 n9) y22 = some r2 := H
          unfold ref07_Trim_j3 at H
          show AW _ _ _ _ _ _
          refine AW.seq ?_
          refine AW.region ?_
          show AR _ _ _ _ _ [0] _
          refine sS rfl rfl rfl (asg rfl) ?_
          refine AR.nil ?_
          show AW _ _ _ _ _ _
          obtain ⟨g25, H⟩ := grd_s H
          obtain ⟨x26, e27, H⟩ := lt_s H
          obtain ⟨g29, H⟩ := grd_s H
          obtain ⟨x30, e31, H⟩ := lt_s H
          refine AW.region ?_
          show AR _ _ _ _ _ [0, 1, 2, 3, 4, 5, 6] _
          refine sS rfl rfl rfl (opS_move (av := slE _ _ _) rfl) ?_
          refine sS rfl rfl rfl (mv rfl) ?_
          refine sS rfl rfl rfl (mv rfl) ?_
          refine sS rfl rfl rfl (g_index_str Tryz.underlying9 rfl rfl g25 e27) ?_
          refine sR rfl rfl rfl (opR_buildE (E := Enc.byte) (bytes := 1) (xs := [.tmp 28]) (l := ([x26] : List UInt8)) Tryz.underlying33 (by kernel_rfl) rfl rfl (by decide) rfl rfl) ?_
          refine sX rfl rfl rfl (g_append (E := Enc.byte) (bytes := 1) 0 Tryz.underlying33 Tryz.underlying33 rfl (by kernel_rfl) rfl rfl rfl rfl g29 e31) ?_
          rintro _ _ ⟨t28, rfl, rfl⟩
          refine sS rfl rfl rfl (opS_assign (av := slE _ _ _) rfl) ?_
          refine AR.nil ?_
          exact Exists.intro (x30, t28, false) ⟨H, WK.at [0] (.cons (.refl _) (.cons (.refl _) (.cons (.refl _) (.cons (.refl _) (.nil _))))) rfl⟩
      rintro ⟨y32, t33, y34⟩ H
      replace H : ref07_Trim_j2 y7 (ref07_Trim_L1 F a1 n9) y32 y34 = some r2 := H
      unfold ref07_Trim_j2 at H
      show AW _ _ _ _ _ _
      obtain ⟨g36, H⟩ := grd_s H
      refine AW.region ?_
      show AR _ _ _ _ _ [0, 1, 2] _
      refine sS rfl rfl rfl (mv rfl) ?_
      refine sS rfl rfl rfl (g_add rfl rfl g36) ?_
      refine sS rfl rfl rfl (asg rfl) ?_
      refine AR.nil ?_
      exact Exists.intro (n9, y32, t33, y34, y7 + 1) ⟨H, Nat.lt_succ_self _, WK.at [0] (.cons (.refl _) (.cons (.refl _) (.cons (.refl _) (.cons (.refl _) (.nil _))))) rfl⟩
    · replace H := cnd_f c10 H
      refine AW.exit ?_
      exact Exists.intro (y4, t5) ⟨H, WK.at [0] (.cons (.refl _) (.nil _)) rfl⟩
  rintro ⟨y37, t38⟩ H
  replace H : ref07_Trim_j1 y37 = some r2 := H
  unfold ref07_Trim_j1 at H
  show AW _ _ _ _ _ _
  refine AW.seq ?_
  refine AW.region ?_
  show AR _ _ _ _ _ [0, 1, 2] _
  refine sS rfl rfl rfl (opS_move (av := slE _ _ _) rfl) ?_
  refine sS rfl rfl rfl (opS_conv_bytes_str Tryz.underlying33 Tryz.underlying5 Tryz.underlying9 rfl) ?_
  refine sS rfl rfl rfl (asg rfl) ?_
  refine AR.nil ?_
  show AW _ _ _ _ _ _
  refine AW.ret ?_
  obtain rfl := Option.some.inj H
  exact And.intro rfl (Exists.intro _ (Exists.intro _ ⟨ResV.oneW rfl (.refl _), Sub.at [] rfl, rfl, rfl⟩))
set_option maxRecDepth 100000 in
set_option maxHeartbeats 1000000 in
theorem w_ent_in (F : Nat) (a1 : Int) (a2 : Int) (a3 : Int) (r4 : Bool) (H : ent_in F a1 a2 a3 = some r4) : ACalls Tryz.prog 62 [i64 a1, i64 a2, i64 a3] [] (Ret (B r4) []) := by
  unfold ent_in at H
  refine ACalls.of_body Tryz.func62 rfl rfl ?_
  show AW _ _ 15 _ _ _
  refine AW.seq ?_
  refine AW.region ?_
  show AR _ _ _ _ _ [0] _
  refine sS rfl rfl rfl (asg rfl) ?_
  refine AR.nil ?_
  show AW _ _ _ _ _ _
  refine AW.seq ?_
  refine AW.region ?_
  show AR _ _ _ _ _ [0, 1, 2, 3, 4, 5, 6, 7, 8] _
  refine sS rfl rfl rfl (mv rfl) ?_
  refine sS rfl rfl rfl (mv rfl) ?_
  refine sS rfl rfl rfl (opS_ge rfl rfl) ?_
  refine sS rfl rfl rfl (mv rfl) ?_
  refine AR.meet (l := [8]) 14 (B ((decide (a2 ≤ a1)) && (decide (a1 ≤ a3)))) (fun K => ?_) ?_
  · rcases Bool.eq_false_or_eq_true (decide (a2 ≤ a1)) with h5 | h5
    ·
      refine gT h5 rfl rfl rfl rfl rfl rfl (AO.ops rfl rfl (mv rfl) ?_)
      refine gT h5 rfl rfl rfl rfl rfl rfl (AO.ops rfl rfl (mv rfl) ?_)
      refine gT h5 rfl rfl rfl rfl rfl rfl (AO.ops rfl rfl (opS_le rfl rfl) ?_)
      refine sS rfl rfl rfl (opS_pick_t (av := .v _) rfl h5 rfl) ?_
      exact K _ 3 _ (B_congr (and_t h5)) rfl rfl
    ·
      refine gF h5 rfl rfl rfl rfl rfl ?_
      refine gF h5 rfl rfl rfl rfl rfl ?_
      refine gF h5 rfl rfl rfl rfl rfl ?_
      refine sS rfl rfl rfl (opS_pick_f (av := .v _) rfl h5 rfl) ?_
      exact K _ 3 _ (B_congr (and_f h5)) rfl rfl
  refine sS rfl rfl rfl (asg rfl) ?_
  refine AR.nil ?_
  show AW _ _ _ _ _ _
  refine AW.ret ?_
  obtain rfl := Option.some.inj H
  exact And.intro rfl (Exists.intro _ (Exists.intro _ ⟨ResV.oneW rfl (.refl _), Sub.at [] rfl, rfl, rfl⟩))
set_option maxRecDepth 100000 in
set_option maxHeartbeats 1000000 in
theorem w_ent_Space (F : Nat) (a1 : UInt8) (r2 : Bool) (H : ent_Space F a1 = some r2) : ACalls Tryz.prog 21 [u8 a1] [] (Ret (B r2) []) := by
  unfold ent_Space at H
  refine ACalls.of_body Tryz.func21 rfl rfl ?_
  show AW _ _ 6 _ _ _
  refine AW.seq ?_
  refine AW.region ?_
  show AR _ _ _ _ _ [0] _
  refine sS rfl rfl rfl (asg rfl) ?_
  refine AR.nil ?_
  show AW _ _ _ _ _ _
  refine AW.seq ?_
  obtain ⟨x3, e4, H⟩ := lt_s H
  refine AW.region ?_
  show AR _ _ _ _ _ [0, 1, 2, 3] _
  refine sS rfl rfl rfl (mv rfl) ?_
  refine AR.run rfl rfl (AO.callp rfl en23 rfl (show ACalls _ _ _ [] (Ret (i64 x3) []) from by subst e4; exact lib_IndexByte ([9, 10, 13, 32] : List UInt8) a1) ?_)
  refine sS rfl rfl rfl (opS_ge rfl rfl) ?_
  refine sS rfl rfl rfl (asg rfl) ?_
  refine AR.nil ?_
  show AW _ _ _ _ _ _
  refine AW.ret ?_
  obtain rfl := Option.some.inj H
  exact And.intro rfl (Exists.intro _ (Exists.intro _ ⟨ResV.oneW rfl (.refl _), Sub.at [] rfl, rfl, rfl⟩))
set_option maxRecDepth 100000 in
set_option maxHeartbeats 1000000 in
theorem w_ent_Trim (F : Nat) (a1 : List UInt8) (r2 : List UInt8) (H : ent_Trim F a1 = some r2) : ACalls Tryz.prog 11 [S a1] [] (Ret (S r2) []) := by
  unfold ent_Trim at H
  refine ACalls.of_body Tryz.func11 rfl rfl ?_
  show AW _ _ 46 _ _ _
  refine AW.seq ?_
  refine AW.region ?_
  show AR _ _ _ _ _ [0] _
  refine sS rfl rfl rfl (asg rfl) ?_
  refine AR.nil ?_
  show AW _ _ _ _ _ _
  refine AW.seq ?_
  refine AW.region ?_
  show AR _ _ _ _ _ [0] _
  refine sS rfl rfl rfl (asg rfl) ?_
  refine AR.nil ?_
  show AW _ _ _ _ _ _
  refine AW.nil_grows 3 1 9 rfl fun t3 => ?_
  show AW _ _ _ _ _ ⟨(3, slE Enc.str [] (some t3)) :: _, _, _⟩
  refine AW.seq ?_
  refine AW.region ?_
  show AR _ _ _ _ _ [0] _
  refine sS rfl rfl rfl (asg rfl) ?_
  refine AR.nil ?_
  show AW _ _ _ _ _ _
  refine AW.cut (X := (List (List UInt8)) × Nat) (fun (y33, t34) => ⟨[(3, slE Enc.str y33 (some t34))], [], [.tok t34 9]⟩) (fun (y33, t34) => ent_Trim_j1 y33 = some r2) ?_ ?_
  ·
    refine AW.seq ?_
    refine AW.region ?_
    show AR _ _ _ _ _ [0] _
    refine sS rfl rfl rfl (asg rfl) ?_
    refine AR.nil ?_
    show AW _ _ _ _ _ _
    refine AW.block ?_
    refine AW.loop (X := Nat × (List (List UInt8)) × Nat × Int × Int) (fun (n9, y4, t5, y6, y7) => ⟨[(0, S a1), (3, slE Enc.str y4 (some t5)), (4, i64 y6), (5, i64 y7)], [], [.tok t5 9]⟩) (fun (n9, y4, t5, y6, y7) => ent_Trim_L1 F a1 n9 (y4, y6, y7) = some r2) (fun (n9, y4, t5, y6, y7) => n9) (F, [], t3, (-1), 0) H (WK.at [0] (.cons (.refl _) (.cons (.refl _) (.cons (.refl _) (.cons (.refl _) (.nil _))))) rfl) ?_
    rintro ⟨n9, y4, t5, y6, y7⟩ H
    obtain ⟨n9, rfl, H⟩ := loop_s H
    replace H : ent_Trim_B1 F a1 (ent_Trim_L1 F a1 n9) y4 y6 y7 = some r2 := H
    unfold ent_Trim_B1 at H
    show AW _ _ _ _ _ _
    refine AW.seq ?_
    refine AW.seq ?_
    refine AW.region ?_
    show AR _ _ _ _ _ [0, 1, 2, 3] _
    refine sS rfl rfl rfl (mv rfl) ?_
    refine sS rfl rfl rfl (mv rfl) ?_
    refine sS rfl rfl rfl (opS_len_str Tryz.underlying9 rfl) ?_
    refine sS rfl rfl rfl (opS_le rfl rfl) ?_
    refine AR.nil ?_
    show AW _ _ _ _ _ _
    refine AW.cond rfl (fun c10 => ?_) (fun c10 => ?_)
    · replace H := cnd_t c10 H
      refine AW.skip ?_
      show AW _ _ _ _ _ _
      refine AW.cut (X := (List (List UInt8)) × Nat × Int) (fun (y28, t29, y30) => ⟨[(0, S a1), (3, slE Enc.str y28 (some t29)), (4, i64 y30), (5, i64 y7)], [], [.tok t29 9]⟩) (fun (y28, t29, y30) => ent_Trim_j2 y7 (ent_Trim_L1 F a1 n9) y28 y30 = some r2) ?_ ?_
      ·
        refine AW.block ?_
        refine AW.seq ?_
        obtain ⟨g12, H⟩ := grdc_s H
        obtain ⟨x13, e14, H⟩ := lt_s H
        obtain ⟨x15, e16, H⟩ := bndc_s H
        refine AW.region ?_
        show AR _ _ _ _ _ [0, 1, 2, 3, 4, 5, 6, 7, 8, 9, 10] _
        refine sS rfl rfl rfl (mv rfl) ?_
        refine sS rfl rfl rfl (mv rfl) ?_
        refine sS rfl rfl rfl (opS_len_str Tryz.underlying9 rfl) ?_
        refine sS rfl rfl rfl (opS_eqi rfl rfl) ?_
        refine sS rfl rfl rfl (mv rfl) ?_
        refine AR.meet (l := [10]) 22 (B ((decide (y7 = (a1.length : Int))) || x15)) (fun K => ?_) ?_
        · rcases Bool.eq_false_or_eq_true (decide (y7 = (a1.length : Int))) with h11 | h11
          ·
            refine gF h11 rfl rfl rfl rfl rfl ?_
            refine gF h11 rfl rfl rfl rfl rfl ?_
            refine gF h11 rfl rfl rfl rfl rfl ?_
            refine gF h11 rfl rfl rfl rfl rfl ?_
            refine sS rfl rfl rfl (opS_pick_t (av := .v _) rfl h11 rfl) ?_
            exact K _ 4 _ (B_congr (or_t h11)) rfl rfl
          ·
            refine gT h11 rfl rfl rfl rfl rfl rfl (AO.ops rfl rfl (mv rfl) ?_)
            refine gT h11 rfl rfl rfl rfl rfl rfl (AO.ops rfl rfl (mv rfl) ?_)
            refine gT h11 rfl rfl rfl rfl rfl rfl (AO.ops rfl rfl (g_index_str Tryz.underlying9 rfl rfl (g12 (nf h11)) e14) ?_)
            refine gT h11 rfl rfl rfl rfl rfl rfl (AO.callp rfl en21 rfl (w_ent_Space F x13 x15 (e16 (nf h11))) ?_)
            refine sS rfl rfl rfl (opS_pick_f (av := .v _) rfl h11 rfl) ?_
            exact K _ 4 _ (B_congr (or_f h11)) rfl rfl
        refine sS rfl rfl rfl (asg rfl) ?_
        refine AR.nil ?_
        show AW _ _ _ _ _ _
        refine AW.block ?_
        refine AW.seq ?_
        refine AW.region ?_
        show AR _ _ _ _ _ [0, 1, 2, 3, 4, 5, 6] _
        refine sS rfl rfl rfl (mv rfl) ?_
        refine sS rfl rfl rfl (opS_not rfl) ?_
        refine sS rfl rfl rfl (mv rfl) ?_
        refine AR.meet (l := [6]) 29 (B ((!((decide (y7 = (a1.length : Int))) || x15)) && (decide (y6 < 0)))) (fun K => ?_) ?_
        · rcases Bool.eq_false_or_eq_true (!((decide (y7 = (a1.length : Int))) || x15)) with h17 | h17
          ·
            refine gT h17 rfl rfl rfl rfl rfl rfl (AO.ops rfl rfl (mv rfl) ?_)
            refine gT h17 rfl rfl rfl rfl rfl rfl (AO.ops rfl rfl (opS_lt rfl rfl) ?_)
            refine sS rfl rfl rfl (opS_pick_t (av := .v _) rfl h17 rfl) ?_
            exact K _ 2 _ (B_congr (and_t h17)) rfl rfl
          ·
            refine gF h17 rfl rfl rfl rfl rfl ?_
            refine gF h17 rfl rfl rfl rfl rfl ?_
            refine sS rfl rfl rfl (opS_pick_f (av := .v _) rfl h17 rfl) ?_
            exact K _ 2 _ (B_congr (and_f h17)) rfl rfl
        refine sS rfl rfl rfl (asg rfl) ?_
        refine AR.nil ?_
        show AW _ _ _ _ _ _
        refine AW.cond rfl (fun c18 => ?_) (fun c18 => ?_)
        · replace H := cnd_t c18 H
          refine AW.region ?_
          show AR _ _ _ _ _ [0, 1] _
          refine sS rfl rfl rfl (mv rfl) ?_
          refine sS rfl rfl rfl (asg rfl) ?_
          refine AR.nil ?_
          exact Exists.intro (y4, t5, y7) ⟨H, WK.at [0] (.cons (.refl _) (.cons (.refl _) (.cons (.refl _) (.cons (.refl _) (.nil _))))) rfl⟩
        · replace H := cnd_f c18 H
          refine AW.seq ?_
          refine AW.region ?_
          show AR _ _ _ _ _ [0, 1, 2, 3, 4, 5] _
          refine sS rfl rfl rfl (mv rfl) ?_
          refine sS rfl rfl rfl (mv rfl) ?_
          refine AR.meet (l := [5]) 36 (B (((decide (y7 = (a1.length : Int))) || x15) && (decide (0 ≤ y6)))) (fun K => ?_) ?_
          · rcases Bool.eq_false_or_eq_true ((decide (y7 = (a1.length : Int))) || x15) with h19 | h19
            ·
              refine gT h19 rfl rfl rfl rfl rfl rfl (AO.ops rfl rfl (mv rfl) ?_)
              refine gT h19 rfl rfl rfl rfl rfl rfl (AO.ops rfl rfl (opS_ge rfl rfl) ?_)
              refine sS rfl rfl rfl (opS_pick_t (av := .v _) rfl h19 rfl) ?_
              exact K _ 2 _ (B_congr (and_t h19)) rfl rfl
            ·
              refine gF h19 rfl rfl rfl rfl rfl ?_
              refine gF h19 rfl rfl rfl rfl rfl ?_
              refine sS rfl rfl rfl (opS_pick_f (av := .v _) rfl h19 rfl) ?_
              exact K _ 2 _ (B_congr (and_f h19)) rfl rfl
          refine sS rfl rfl rfl (asg rfl) ?_
          refine AR.nil ?_
          show AW _ _ _ _ _ _
          refine AW.cond rfl (fun c20 => ?_) (fun c20 => ?_)
          · replace H := cnd_t c20 H
            obtain ⟨g21, H⟩ := grd_s H
            obtain ⟨x22, e23, H⟩ := lt_s H
            obtain ⟨g25, H⟩ := grd_s H
            obtain ⟨x26, e27, H⟩ := lt_s H
            refine AW.region ?_
            show AR _ _ _ _ _ [0, 1, 2, 3, 4, 5, 6, 7, 8] _
            refine sS rfl rfl rfl (opS_move (av := slE _ _ _) rfl) ?_
            refine sS rfl rfl rfl (mv rfl) ?_
            refine sS rfl rfl rfl (mv rfl) ?_
            refine sS rfl rfl rfl (mv rfl) ?_
            refine sS rfl rfl rfl (g_slice_str Tryz.underlying9 rfl rfl rfl g21 e23) ?_
            refine sR rfl rfl rfl (opR_buildE (E := Enc.str) (bytes := 16) (xs := [.tmp 41]) (l := ([x22] : List (List UInt8))) Tryz.underlying24 (by kernel_rfl) rfl rfl (by decide) rfl rfl) ?_
            refine sX rfl rfl rfl (g_append (E := Enc.str) (bytes := 16) 0 Tryz.underlying24 Tryz.underlying24 rfl (by kernel_rfl) rfl rfl rfl rfl g25 e27) ?_
            rintro _ _ ⟨t24, rfl, rfl⟩
            refine sS rfl rfl rfl (opS_assign (av := slE _ _ _) rfl) ?_
            refine sS rfl rfl rfl (asg rfl) ?_
            refine AR.nil ?_
            exact Exists.intro (x26, t24, (-1)) ⟨H, WK.at [0] (.cons (.refl _) (.cons (.refl _) (.cons (.refl _) (.cons (.refl _) (.nil _))))) rfl⟩
          · replace H := cnd_f c20 H
            refine AW.skip ?_
            exact Exists.intro (y4, t5, y6) ⟨H, WK.at [0] (.cons (.refl _) (.cons (.refl _) (.cons (.refl _) (.cons (.refl _) (.nil _))))) rfl⟩
      rintro ⟨y28, t29, y30⟩ H
      replace H : ent_Trim_j2 y7 (ent_Trim_L1 F a1 n9) y28 y30 = some r2 := H
      unfold ent_Trim_j2 at H
      show AW _ _ _ _ _ _
      obtain ⟨g32, H⟩ := grd_s H
      refine AW.region ?_
      show AR _ _ _ _ _ [0, 1, 2] _
      refine sS rfl rfl rfl (mv rfl) ?_
      refine sS rfl rfl rfl (g_add rfl rfl g32) ?_
      refine sS rfl rfl rfl (asg rfl) ?_
      refine AR.nil ?_
      exact Exists.intro (n9, y28, t29, y30, y7 + 1) ⟨H, Nat.lt_succ_self _, WK.at [0] (.cons (.refl _) (.cons (.refl _) (.cons (.refl _) (.cons (.refl _) (.nil _))))) rfl⟩
    · replace H := cnd_f c10 H
      refine AW.exit ?_
      exact Exists.intro (y4, t5) ⟨H, WK.at [0] (.cons (.refl _) (.nil _)) rfl⟩
  rintro ⟨y33, t34⟩ H
  replace H : ent_Trim_j1 y33 = some r2 := H
  unfold ent_Trim_j1 at H
  show AW _ _ _ _ _ _
  refine AW.seq ?_
  obtain ⟨g36, H⟩ := grd_s H
  obtain ⟨x37, e38, H⟩ := lt_s H
  refine AW.region ?_
  show AR _ _ _ _ _ [0, 1, 2] _
  refine sS rfl rfl rfl (opS_move (av := slE _ _ _) rfl) ?_
  refine AR.run rfl rfl (AO.callp rfl en16 rfl (show ACalls _ _ _ [] (Ret (S x37) []) from by subst e38; exact strings_Join y33 ([32] : List UInt8) (some t34) (okJoin_s g36).1 (okJoin_s g36).2) ?_)
  refine sS rfl rfl rfl (asg rfl) ?_
  refine AR.nil ?_
  show AW _ _ _ _ _ _
  refine AW.ret ?_
  obtain rfl := Option.some.inj H
  exact And.intro rfl (Exists.intro _ (Exists.intro _ ⟨ResV.oneW rfl (.refl _), Sub.at [] rfl, rfl, rfl⟩))
set_option maxRecDepth 100000 in
set_option maxHeartbeats 1000000 in
theorem w_ref05_Split (F : Nat) (a1 : List UInt8) (a2 : UInt8) (r3 : List (List UInt8)) (H : ref05_Split F a1 a2 = some r3) : ACalls Tryz.prog 12 [S a1, u8 a2] [] (Ret (slE Enc.str r3 none) []) := by
  unfold ref05_Split at H
  refine ACalls.of_body Tryz.func12 rfl rfl ?_
  show AW _ _ 35 _ _ _
  refine AW.seq ?_
  refine AW.region ?_
  show AR _ _ _ _ _ [0] _
  refine sS rfl rfl rfl (asg rfl) ?_
  refine AR.nil ?_
  show AW _ _ _ _ _ _
  refine AW.seq ?_
  refine AW.region ?_
  show AR _ _ _ _ _ [0] _
  refine sS rfl rfl rfl (asg rfl) ?_
  refine AR.nil ?_
  show AW _ _ _ _ _ _
  refine AW.nil_grows 5 1 9 rfl fun t4 => ?_
  show AW _ _ _ _ _ ⟨(5, slE Enc.str [] (some t4)) :: _, _, _⟩
  refine AW.seq ?_
  refine AW.region ?_
  show AR _ _ _ _ _ [0] _
  refine sS rfl rfl rfl (asg rfl) ?_
  refine AR.nil ?_
  show AW _ _ _ _ _ _
  refine AW.cut (X := (List (List UInt8)) × Nat) (fun (y30, t31) => ⟨[(5, slE Enc.str y30 (some t31))], [], [.tok t31 9]⟩) (fun (y30, t31) => ref05_Split_j1 y30 = some r3) ?_ ?_
  ·
    refine AW.seq ?_
    refine AW.region ?_
    show AR _ _ _ _ _ [0] _
    refine sS rfl rfl rfl (asg rfl) ?_
    refine AR.nil ?_
    show AW _ _ _ _ _ _
    refine AW.block ?_
    refine AW.loop (X := Nat × (List (List UInt8)) × Nat × Int × Int) (fun (n10, y5, t6, y7, y8) => ⟨[(0, S a1), (1, u8 a2), (5, slE Enc.str y5 (some t6)), (6, i64 y7), (7, i64 y8)], [], [.tok t6 9]⟩) (fun (n10, y5, t6, y7, y8) => ref05_Split_L1 a1 a2 n10 (y5, y7, y8) = some r3) (fun (n10, y5, t6, y7, y8) => n10) (F, [], t4, 0, 0) H (WK.at [0] (.cons (.refl _) (.cons (.refl _) (.cons (.refl _) (.cons (.refl _) (.cons (.refl _) (.nil _)))))) rfl) ?_
    rintro ⟨n10, y5, t6, y7, y8⟩ H
    obtain ⟨n10, rfl, H⟩ := loop_s H
    replace H : ref05_Split_B1 a1 a2 (ref05_Split_L1 a1 a2 n10) y5 y7 y8 = some r3 := H
    unfold ref05_Split_B1 at H
    show AW _ _ _ _ _ _
    refine AW.seq ?_
    refine AW.seq ?_
    refine AW.region ?_
    show AR _ _ _ _ _ [0, 1, 2, 3] _
    refine sS rfl rfl rfl (mv rfl) ?_
    refine sS rfl rfl rfl (mv rfl) ?_
    refine sS rfl rfl rfl (opS_len_str Tryz.underlying9 rfl) ?_
    refine sS rfl rfl rfl (opS_le rfl rfl) ?_
    refine AR.nil ?_
    show AW _ _ _ _ _ _
    refine AW.cond rfl (fun c11 => ?_) (fun c11 => ?_)
    · replace H := cnd_t c11 H
      refine AW.skip ?_
      show AW _ _ _ _ _ _
      refine AW.cut (X := (List (List UInt8)) × Nat × Int) (fun (y25, t26, y27) => ⟨[(0, S a1), (1, u8 a2), (5, slE Enc.str y25 (some t26)), (6, i64 y27), (7, i64 y8)], [], [.tok t26 9]⟩) (fun (y25, t26, y27) => ref05_Split_j2 y8 (ref05_Split_L1 a1 a2 n10) y25 y27 = some r3) ?_ ?_
      ·
        refine AW.block ?_
        refine AW.seq ?_
        obtain ⟨g13, H⟩ := grdc_s H
        obtain ⟨x14, e15, H⟩ := lt_s H
        refine AW.region ?_
        show AR _ _ _ _ _ [0, 1, 2, 3, 4, 5, 6, 7, 8, 9, 10] _
        refine sS rfl rfl rfl (mv rfl) ?_
        refine sS rfl rfl rfl (mv rfl) ?_
        refine sS rfl rfl rfl (opS_len_str Tryz.underlying9 rfl) ?_
        refine sS rfl rfl rfl (opS_eqi rfl rfl) ?_
        refine sS rfl rfl rfl (mv rfl) ?_
        refine AR.meet (l := []) 24 (B ((decide (y8 = (a1.length : Int))) || (decide (x14 = a2)))) (fun K => ?_) ?_
        · rcases Bool.eq_false_or_eq_true (decide (y8 = (a1.length : Int))) with h12 | h12
          ·
            refine gF h12 rfl rfl rfl rfl rfl ?_
            refine gF h12 rfl rfl rfl rfl rfl ?_
            refine gF h12 rfl rfl rfl rfl rfl ?_
            refine gF h12 rfl rfl rfl rfl rfl ?_
            refine gF h12 rfl rfl rfl rfl rfl ?_
            refine sS rfl rfl rfl (opS_pick_t (av := .v _) rfl h12 rfl) ?_
            exact K _ 5 _ (B_congr (or_t h12)) rfl rfl
          ·
            refine gT h12 rfl rfl rfl rfl rfl rfl (AO.ops rfl rfl (mv rfl) ?_)
            refine gT h12 rfl rfl rfl rfl rfl rfl (AO.ops rfl rfl (mv rfl) ?_)
            refine gT h12 rfl rfl rfl rfl rfl rfl (AO.ops rfl rfl (g_index_str Tryz.underlying9 rfl rfl (g13 (nf h12)) e15) ?_)
            refine gT h12 rfl rfl rfl rfl rfl rfl (AO.ops rfl rfl (mv rfl) ?_)
            refine gT h12 rfl rfl rfl rfl rfl rfl (AO.ops rfl rfl (g_eq8 (a := x14) (b := a2) rfl rfl) ?_)
            refine sS rfl rfl rfl (opS_pick_f (av := .v _) rfl h12 rfl) ?_
            exact K _ 5 _ (B_congr (or_f h12)) rfl rfl
        refine AR.nil ?_
        show AW _ _ _ _ _ _
        refine AW.cond rfl (fun c16 => ?_) (fun c16 => ?_)
        · replace H := cnd_t c16 H
          refine AW.seq ?_
          obtain ⟨g17, H⟩ := grd_s H
          obtain ⟨x18, e19, H⟩ := lt_s H
          obtain ⟨g21, H⟩ := grd_s H
          obtain ⟨x22, e23, H⟩ := lt_s H
          refine AW.region ?_
          show AR _ _ _ _ _ [0, 1, 2, 3, 4, 5, 6, 7] _
          refine sS rfl rfl rfl (opS_move (av := slE _ _ _) rfl) ?_
          refine sS rfl rfl rfl (mv rfl) ?_
          refine sS rfl rfl rfl (mv rfl) ?_
          refine sS rfl rfl rfl (mv rfl) ?_
          refine sS rfl rfl rfl (g_slice_str Tryz.underlying9 rfl rfl rfl g17 e19) ?_
          refine sR rfl rfl rfl (opR_buildE (E := Enc.str) (bytes := 16) (xs := [.tmp 29]) (l := ([x18] : List (List UInt8))) Tryz.underlying24 (by kernel_rfl) rfl rfl (by decide) rfl rfl) ?_
          refine sX rfl rfl rfl (g_append (E := Enc.str) (bytes := 16) 0 Tryz.underlying24 Tryz.underlying24 rfl (by kernel_rfl) rfl rfl rfl rfl g21 e23) ?_
          rintro _ _ ⟨t20, rfl, rfl⟩
          refine sS rfl rfl rfl (opS_assign (av := slE _ _ _) rfl) ?_
          refine AR.nil ?_
          show AW _ _ _ _ _ _
          obtain ⟨g24, H⟩ := grd_s H
          refine AW.region ?_
          show AR _ _ _ _ _ [0, 1, 2] _
          refine sS rfl rfl rfl (mv rfl) ?_
          refine sS rfl rfl rfl (g_add rfl rfl g24) ?_
          refine sS rfl rfl rfl (asg rfl) ?_
          refine AR.nil ?_
          exact Exists.intro (x22, t20, y8 + 1) ⟨H, WK.at [0] (.cons (.refl _) (.cons (.refl _) (.cons (.refl _) (.cons (.refl _) (.cons (.refl _) (.nil _)))))) rfl⟩
        · replace H := cnd_f c16 H
          refine AW.skip ?_
          exact Exists.intro (y5, t6, y7) ⟨H, WK.at [0] (.cons (.refl _) (.cons (.refl _) (.cons (.refl _) (.cons (.refl _) (.cons (.refl _) (.nil _)))))) rfl⟩
      rintro ⟨y25, t26, y27⟩ H
      replace H : ref05_Split_j2 y8 (ref05_Split_L1 a1 a2 n10) y25 y27 = some r3 := H
      unfold ref05_Split_j2 at H
      show AW _ _ _ _ _ _
      obtain ⟨g29, H⟩ := grd_s H
      refine AW.region ?_
      show AR _ _ _ _ _ [0, 1, 2] _
      refine sS rfl rfl rfl (mv rfl) ?_
      refine sS rfl rfl rfl (g_add rfl rfl g29) ?_
      refine sS rfl rfl rfl (asg rfl) ?_
      refine AR.nil ?_
      exact Exists.intro (n10, y25, t26, y27, y8 + 1) ⟨H, Nat.lt_succ_self _, WK.at [0] (.cons (.refl _) (.cons (.refl _) (.cons (.refl _) (.cons (.refl _) (.cons (.refl _) (.nil _)))))) rfl⟩
    · replace H := cnd_f c11 H
      refine AW.exit ?_
      exact Exists.intro (y5, t6) ⟨H, WK.at [0] (.cons (.refl _) (.nil _)) rfl⟩
  rintro ⟨y30, t31⟩ H
  replace H : ref05_Split_j1 y30 = some r3 := H
  unfold ref05_Split_j1 at H
  show AW _ _ _ _ _ _
  refine AW.seq ?_
  refine AW.region ?_
  show AR _ _ _ _ _ [0, 1] _
  refine sS rfl rfl rfl (opS_move (av := slE _ _ _) rfl) ?_
  refine sS rfl rfl rfl (opS_assign (av := slE _ _ _) rfl) ?_
  refine AR.nil ?_
  show AW _ _ _ _ _ _
  refine AW.ret ?_
  obtain rfl := Option.some.inj H
  exact And.intro rfl (Exists.intro _ (Exists.intro _ ⟨ResV.oneW rfl (.tok _ _ _), Sub.at [] rfl, rfl, rfl⟩))
set_option maxRecDepth 100000 in
set_option maxHeartbeats 1000000 in
theorem w_ref11_Words (F : Nat) (a1 : List UInt8) (r2 : List (List UInt8)) (H : ref11_Words F a1 = some r2) : ACalls Tryz.prog 13 [S a1] [] (Ret (slE Enc.str r2 none) []) := by
  unfold ref11_Words at H
  refine ACalls.of_body Tryz.func13 rfl rfl ?_
  show AW _ _ 10 _ _ _
  refine AW.seq ?_
  refine AW.region ?_
  show AR _ _ _ _ _ [0] _
  refine sS rfl rfl rfl (asg rfl) ?_
  refine AR.nil ?_
  show AW _ _ _ _ _ _
  refine AW.seq ?_
  obtain ⟨x3, e4, H⟩ := bnd_s H
  refine AW.region ?_
  show AR _ _ _ _ _ [0, 1, 2] _
  refine sS rfl rfl rfl (mv rfl) ?_
  refine AR.run rfl rfl (AO.callp rfl en18 rfl (w_ref07_Trim F a1 x3 e4) ?_)
  refine sS rfl rfl rfl (asg rfl) ?_
  refine AR.nil ?_
  show AW _ _ _ _ _ _
  refine AW.seq ?_
  refine AW.seq ?_
  refine AW.region ?_
  show AR _ _ _ _ _ [0, 1] _
  refine sS rfl rfl rfl (mv rfl) ?_
  refine sS rfl rfl rfl (opS_eqs rfl rfl) ?_
  refine AR.nil ?_
  show AW _ _ _ _ _ _
  refine AW.cond rfl (fun c5 => ?_) (fun c5 => ?_)
  · replace H := cnd_t c5 H
    refine AW.seq ?_
    refine AW.region ?_
    show AR _ _ _ _ _ [0] _
    refine sS rfl rfl rfl (asg rfl) ?_
    refine AR.nil ?_
    show AW _ _ _ _ _ _
    refine AW.ret ?_
    obtain rfl := Option.some.inj H
    exact And.intro rfl (Exists.intro _ (Exists.intro _ ⟨ResV.oneW rfl (.nil _), Sub.at [] rfl, rfl, rfl⟩))
  · replace H := cnd_f c5 H
    refine AW.skip ?_
    show AW _ _ _ _ _ _
    refine AW.seq ?_
    obtain ⟨x6, e7, H⟩ := bnd_s H
    refine AW.region ?_
    show AR _ _ _ _ _ [0, 1, 2] _
    refine sS rfl rfl rfl (mv rfl) ?_
    refine AR.run rfl rfl (AO.callp rfl en12 rfl (w_ref05_Split F x3 32 x6 e7) ?_)
    refine sS rfl rfl rfl (opS_assign (av := slE _ _ _) rfl) ?_
    refine AR.nil ?_
    show AW _ _ _ _ _ _
    refine AW.ret ?_
    obtain rfl := Option.some.inj H
    exact And.intro rfl (Exists.intro _ (Exists.intro _ ⟨ResV.oneW rfl (.refl _), Sub.at [] rfl, rfl, rfl⟩))
set_option maxRecDepth 100000 in
set_option maxHeartbeats 1000000 in
theorem w_plain_one (F : Nat) (a1 : List UInt8) (a2 : Int) (a3 : List UInt8) (r4 : Bool) (H : plain_one F a1 a2 a3 = some r4) : ACalls Tryz.prog 26 [S a1, i64 a2, S a3] [] (Ret (B r4) []) := by
  unfold plain_one at H
  refine ACalls.of_body Tryz.func26 rfl rfl ?_
  show AW _ _ 19 _ _ _
  refine AW.seq ?_
  refine AW.region ?_
  show AR _ _ _ _ _ [0] _
  refine sS rfl rfl rfl (asg rfl) ?_
  refine AR.nil ?_
  show AW _ _ _ _ _ _
  refine AW.seq ?_
  obtain ⟨g6, H⟩ := grdc_s H
  obtain ⟨x7, e8, H⟩ := lt_s H
  obtain ⟨x9, e10, H⟩ := lt_s H
  refine AW.region ?_
  show AR _ _ _ _ _ [0, 1, 2, 3, 4, 5, 6, 7, 8, 9, 10, 11, 12] _
  refine sS rfl rfl rfl (mv rfl) ?_
  refine sS rfl rfl rfl (mv rfl) ?_
  refine sS rfl rfl rfl (opS_len_str Tryz.underlying9 rfl) ?_
  refine sS rfl rfl rfl (opS_lt rfl rfl) ?_
  refine sS rfl rfl rfl (mv rfl) ?_
  refine AR.meet (l := [12]) 18 (B ((decide (a2 < (a1.length : Int))) && (decide (0 ≤ x9)))) (fun K => ?_) ?_
  · rcases Bool.eq_false_or_eq_true (decide (a2 < (a1.length : Int))) with h5 | h5
    ·
      refine gT h5 rfl rfl rfl rfl rfl rfl (AO.ops rfl rfl (mv rfl) ?_)
      refine gT h5 rfl rfl rfl rfl rfl rfl (AO.ops rfl rfl (mv rfl) ?_)
      refine gT h5 rfl rfl rfl rfl rfl rfl (AO.ops rfl rfl (mv rfl) ?_)
      refine gT h5 rfl rfl rfl rfl rfl rfl (AO.ops rfl rfl (g_index_str Tryz.underlying9 rfl rfl (g6 h5) e8) ?_)
      refine gT h5 rfl rfl rfl rfl rfl rfl (AO.callp rfl en23 rfl (show ACalls _ _ _ [] (Ret (i64 x9) []) from by subst e10; exact lib_IndexByte a3 x7) ?_)
      refine gT h5 rfl rfl rfl rfl rfl rfl (AO.ops rfl rfl (opS_ge rfl rfl) ?_)
      refine sS rfl rfl rfl (opS_pick_t (av := .v _) rfl h5 rfl) ?_
      exact K _ 6 _ (B_congr (and_t h5)) rfl rfl
    ·
      refine gF h5 rfl rfl rfl rfl rfl ?_
      refine gF h5 rfl rfl rfl rfl rfl ?_
      refine gF h5 rfl rfl rfl rfl rfl ?_
      refine gF h5 rfl rfl rfl rfl rfl ?_
      refine gF h5 rfl rfl rfl rfl rfl ?_
      refine gF h5 rfl rfl rfl rfl rfl ?_
      refine sS rfl rfl rfl (opS_pick_f (av := .v _) rfl h5 rfl) ?_
      exact K _ 6 _ (B_congr (and_f h5)) rfl rfl
  refine sS rfl rfl rfl (asg rfl) ?_
  refine AR.nil ?_
  show AW _ _ _ _ _ _
  refine AW.ret ?_
  obtain rfl := Option.some.inj H
  exact And.intro rfl (Exists.intro _ (Exists.intro _ ⟨ResV.oneW rfl (.refl _), Sub.at [] rfl, rfl, rfl⟩))
set_option maxRecDepth 100000 in
set_option maxHeartbeats 1000000 in
theorem w_plain_small (F : Nat) (a1 : List UInt8) (r2 : List UInt8) (H : plain_small F a1 = some r2) : ACalls Tryz.prog 44 [S a1] [] (Ret (S r2) []) := by
  unfold plain_small at H
  refine ACalls.of_body Tryz.func44 rfl rfl ?_
  show AW _ _ 30 _ _ _
  refine AW.seq ?_
  refine AW.region ?_
  show AR _ _ _ _ _ [0] _
  refine sS rfl rfl rfl (asg rfl) ?_
  refine AR.nil ?_
  show AW _ _ _ _ _ _
  refine AW.seq ?_
  obtain ⟨g3, H⟩ := grd_s H
  refine AW.region ?_
  show AR _ _ _ _ _ [0, 1, 2] _
  refine sS rfl rfl rfl (mv rfl) ?_
  refine sX rfl rfl rfl (g_conv_str_row Tryz.underlying9 Tryz.underlying33 Tryz.underlying5 rfl g3) ?_
  rintro _ _ ⟨o4, n5, rfl, rfl⟩
  refine sS rfl rfl rfl (opS_assign (av := .vw _ _ _ _) rfl) ?_
  refine AR.nil ?_
  show AW _ _ _ _ _ _
  refine AW.cut (X := (List UInt8)) (fun y24 => ⟨[(3, .vw o4 0 a1.length (a1.length + n5))], [], [.obj o4 (Enc.byte.fl y24 ++ List.replicate n5 .any)]⟩) (fun y24 => plain_small_j1 a1 y24 = some r2) ?_ ?_
  ·
    refine AW.seq ?_
    refine AW.region ?_
    show AR _ _ _ _ _ [0, 1, 2] _
    refine sS rfl rfl rfl (opS_move (av := .vw _ _ _ _) rfl) ?_
    refine sS rfl rfl rfl (opS_len_vw Tryz.underlying33 rfl) ?_
    refine sS rfl rfl rfl (mv rfl) ?_
    refine AR.nil ?_
    show AW _ _ _ _ _ _
    refine AW.block ?_
    refine AW.loop (X := Nat × Int × (List UInt8)) (fun (n9, y6, y7) => ⟨[(3, .vw o4 0 a1.length (a1.length + n5)), (8, .vw o4 0 a1.length (a1.length + n5)), (9, i64 (a1.length : Int)), (10, i64 y6)], [], [.obj o4 (Enc.byte.fl y7 ++ List.replicate n5 .any)]⟩) (fun (n9, y6, y7) => plain_small_L1 a1 n9 (y6, y7) = some r2) (fun (n9, y6, y7) => n9) (F, 0, a1) H (WK.at [0] (.cons (.refl _) (.cons (.refl _) (.cons (.refl _) (.cons (.refl _) (.nil _))))) rfl) ?_
    rintro ⟨n9, y6, y7⟩ H
    obtain ⟨n9, rfl, H⟩ := loop_s H
    replace H : plain_small_B1 a1 (plain_small_L1 a1 n9) y6 y7 = some r2 := H
    unfold plain_small_B1 at H
    show AW _ _ _ _ _ _
    refine AW.seq ?_
    refine AW.region ?_
    show AR _ _ _ _ _ [0] _
    refine sS rfl rfl rfl (opS_lt rfl rfl) ?_
    refine AR.nil ?_
    show AW _ _ _ _ _ _
    refine AW.seq ?_
    refine AW.cond rfl (fun c10 => ?_) (fun c10 => ?_)
    · replace H := cnd_t c10 H
      refine AW.skip ?_
      show AW _ _ _ _ _ _
      refine AW.cut (X := (List UInt8)) (fun y21 => ⟨[(3, .vw o4 0 a1.length (a1.length + n5)), (8, .vw o4 0 a1.length (a1.length + n5)), (9, i64 (a1.length : Int)), (10, i64 y6)], [], [.obj o4 (Enc.byte.fl y21 ++ List.replicate n5 .any)]⟩) (fun y21 => plain_small_j2 y6 (plain_small_L1 a1 n9) y21 = some r2) ?_ ?_
      ·
        refine AW.block ?_
        refine AW.seq ?_
        obtain ⟨g11, H⟩ := grd_s H
        obtain ⟨g12, H⟩ := grd_s H
        obtain ⟨x13, e14, H⟩ := lt_s H
        refine AW.region ?_
        show AR _ _ _ _ _ [0, 1, 2, 3, 4] _
        refine sS rfl rfl rfl (mv rfl) ?_
        refine sS rfl rfl rfl (g_indexAddr_row Tryz.underlying33 (by kernel_rfl) rfl rfl g11) ?_
        refine sR rfl rfl rfl (g_load_row (k := 0) Tryz.underlying5 rfl rfl rfl g12 e14) ?_
        refine sS rfl rfl rfl (asg rfl) ?_
        refine sS rfl rfl rfl (asg rfl) ?_
        refine AR.nil ?_
        show AW _ _ _ _ _ _
        refine AW.seq ?_
        refine AW.region ?_
        show AR _ _ _ _ _ [0, 1, 2, 3, 4, 5] _
        refine sS rfl rfl rfl (mv rfl) ?_
        refine sS rfl rfl rfl (opS_ge rfl rfl) ?_
        refine sS rfl rfl rfl (mv rfl) ?_
        refine AR.meet (l := []) 20 (B ((decide (65 ≤ (x13.toNat : Int))) && (decide ((x13.toNat : Int) ≤ 90)))) (fun K => ?_) ?_
        · rcases Bool.eq_false_or_eq_true (decide (65 ≤ (x13.toNat : Int))) with h15 | h15
          ·
            refine gT h15 rfl rfl rfl rfl rfl rfl (AO.ops rfl rfl (mv rfl) ?_)
            refine gT h15 rfl rfl rfl rfl rfl rfl (AO.ops rfl rfl (opS_le rfl rfl) ?_)
            refine sS rfl rfl rfl (opS_pick_t (av := .v _) rfl h15 rfl) ?_
            exact K _ 2 _ (B_congr (and_t h15)) rfl rfl
          ·
            refine gF h15 rfl rfl rfl rfl rfl ?_
            refine gF h15 rfl rfl rfl rfl rfl ?_
            refine sS rfl rfl rfl (opS_pick_f (av := .v _) rfl h15 rfl) ?_
            exact K _ 2 _ (B_congr (and_f h15)) rfl rfl
        refine AR.nil ?_
        show AW _ _ _ _ _ _
        refine AW.cond rfl (fun c16 => ?_) (fun c16 => ?_)
        · replace H := cnd_t c16 H
          obtain ⟨g17, H⟩ := grd_s H
          obtain ⟨g18, H⟩ := grd_s H
          obtain ⟨x19, e20, H⟩ := lt_s H
          refine AW.region ?_
          show AR _ _ _ _ _ [0, 1, 2, 3, 4, 5, 6] _
          refine sS rfl rfl rfl (opS_move (av := .vw _ _ _ _) rfl) ?_
          refine sS rfl rfl rfl (mv rfl) ?_
          refine sS rfl rfl rfl (mv rfl) ?_
          refine sS rfl rfl rfl (g_add8 (a := x13) (b := 97) rfl rfl) ?_
          refine sS rfl rfl rfl (g_sub8 (a := x13 + 97) (b := 65) rfl rfl) ?_
          refine sS rfl rfl rfl (g_indexAddr_row Tryz.underlying33 (by kernel_rfl) rfl rfl g17) ?_
          refine s0 rfl rfl (g_store_row (k := 0) (c := ((x13 + 97) - 65)) (by kernel_rfl) rfl rfl rfl g18 e20) ?_
          refine AR.nil ?_
          exact Exists.intro x19 ⟨H, WK.at [0] (.cons (.refl _) (.cons (.refl _) (.cons (.refl _) (.cons (.refl _) (.nil _))))) rfl⟩
        · replace H := cnd_f c16 H
          refine AW.skip ?_
          exact Exists.intro y7 ⟨H, WK.at [0] (.cons (.refl _) (.cons (.refl _) (.cons (.refl _) (.cons (.refl _) (.nil _))))) rfl⟩
      rintro y21 H
      replace H : plain_small_j2 y6 (plain_small_L1 a1 n9) y21 = some r2 := H
      unfold plain_small_j2 at H
      show AW _ _ _ _ _ _
      obtain ⟨g23, H⟩ := grd_s H
      refine AW.region ?_
      show AR _ _ _ _ _ [0, 1] _
      refine sS rfl rfl rfl (g_add rfl rfl g23) ?_
      refine sS rfl rfl rfl (mv rfl) ?_
      refine AR.nil ?_
      exact Exists.intro (n9, y6 + 1, y21) ⟨H, Nat.lt_succ_self _, WK.at [0] (.cons (.refl _) (.cons (.refl _) (.cons (.refl _) (.cons (.refl _) (.nil _))))) rfl⟩
    · replace H := cnd_f c10 H
      refine AW.exit ?_
      exact Exists.intro y7 ⟨H, WK.at [0] (.cons (.refl _) (.nil _)) rfl⟩
  rintro y24 H
  replace H : plain_small_j1 a1 y24 = some r2 := H
  unfold plain_small_j1 at H
  show AW _ _ _ _ _ _
  refine AW.seq ?_
  obtain ⟨g26, H⟩ := grd_s H
  refine AW.region ?_
  show AR _ _ _ _ _ [0, 1, 2] _
  refine sS rfl rfl rfl (opS_move (av := .vw _ _ _ _) rfl) ?_
  refine sR rfl rfl rfl (opR_conv_row_str (k := 0) Tryz.underlying33 Tryz.underlying5 Tryz.underlying9 rfl g26 rfl) ?_
  refine sS rfl rfl rfl (asg rfl) ?_
  refine AR.nil ?_
  show AW _ _ _ _ _ _
  refine AW.ret ?_
  obtain rfl := Option.some.inj H
  exact And.intro rfl (Exists.intro _ (Exists.intro _ ⟨ResV.oneW rfl (.refl _), Sub.at [] rfl, rfl, rfl⟩))
set_option maxRecDepth 100000 in
set_option maxHeartbeats 1000000 in
theorem w_plain_Wrap (F : Nat) (a1 : List UInt8) (a2 : Int) (r3 : List (List UInt8)) (H : plain_Wrap F a1 a2 = some r3) : ACalls Tryz.prog 6 [S a1, i64 a2] [] (Ret (slE Enc.str r3 none) []) := by
  unfold plain_Wrap at H
  refine ACalls.of_body Tryz.func6 rfl rfl ?_
  show AW _ _ 57 _ _ _
  refine AW.seq ?_
  refine AW.region ?_
  show AR _ _ _ _ _ [0] _
  refine sS rfl rfl rfl (asg rfl) ?_
  refine AR.nil ?_
  show AW _ _ _ _ _ _
  refine AW.seq ?_
  refine AW.seq ?_
  refine AW.region ?_
  show AR _ _ _ _ _ [0, 1] _
  refine sS rfl rfl rfl (mv rfl) ?_
  refine sS rfl rfl rfl (opS_lt rfl rfl) ?_
  refine AR.nil ?_
  show AW _ _ _ _ _ _
  refine AW.cond rfl (fun c4 => ?_) (fun c4 => ?_)
  · replace H := cnd_t c4 H
    refine AW.seq ?_
    refine AW.region ?_
    show AR _ _ _ _ _ [0] _
    refine sS rfl rfl rfl (asg rfl) ?_
    refine AR.nil ?_
    show AW _ _ _ _ _ _
    refine AW.ret ?_
    obtain rfl := Option.some.inj H
    exact And.intro rfl (Exists.intro _ (Exists.intro _ ⟨ResV.oneW rfl (.nil _), Sub.at [] rfl, rfl, rfl⟩))
  · replace H := cnd_f c4 H
    refine AW.skip ?_
    show AW _ _ _ _ _ _
    refine AW.seq ?_
    refine AW.region ?_
    show AR _ _ _ _ _ [0] _
    refine sS rfl rfl rfl (asg rfl) ?_
    refine AR.nil ?_
    show AW _ _ _ _ _ _
    refine AW.nil_grows 5 1 9 rfl fun t5 => ?_
    show AW _ _ _ _ _ ⟨(5, slE Enc.str [] (some t5)) :: _, _, _⟩
    refine AW.cut (X := (List (List UInt8)) × Nat) (fun (y71, t72) => ⟨[(5, slE Enc.str y71 (some t72))], [], [.tok t72 9]⟩) (fun (y71, t72) => plain_Wrap_j1 y71 = some r3) ?_ ?_
    ·
      refine AW.seq ?_
      obtain ⟨g6, H⟩ := grd_s H
      obtain ⟨g7, H⟩ := grd_s H
      obtain ⟨x8, e9, H⟩ := lt_s H
      refine AW.region ?_
      show AR _ _ _ _ _ [0, 1, 2, 3] _
      refine sS rfl rfl rfl (mv rfl) ?_
      refine AR.run rfl rfl (AO.callp rfl en10 rfl (show ACalls _ _ _ [] (Ret (slE Enc.str x8 none) []) from by subst e9; exact lib_Split a1 ([10] : List UInt8) (okS_s g6) (of_decide_eq_true g7)) ?_)
      refine sS rfl rfl rfl (opS_len_sl Tryz.underlying24 rfl) ?_
      refine sS rfl rfl rfl (mv rfl) ?_
      refine AR.nil ?_
      show AW _ _ _ _ _ _
      refine AW.block ?_
      refine AW.loop (X := Nat × (List (List UInt8)) × Nat × Int) (fun (n14, y10, t11, y12) => ⟨[(1, i64 a2), (5, slE Enc.str y10 (some t11)), (15, slE Enc.str x8 none), (16, i64 (x8.length : Int)), (17, i64 y12)], [], [.tok t11 9]⟩) (fun (n14, y10, t11, y12) => plain_Wrap_L2 F a2 x8 n14 (y10, y12) = some r3) (fun (n14, y10, t11, y12) => n14) (F, [], t5, 0) H (WK.at [0] (.cons (.refl _) (.cons (.refl _) (.cons (.refl _) (.cons (.refl _) (.cons (.refl _) (.nil _)))))) rfl) ?_
      rintro ⟨n14, y10, t11, y12⟩ H
      obtain ⟨n14, rfl, H⟩ := loop_s H
      replace H : plain_Wrap_B2 F a2 x8 (plain_Wrap_L2 F a2 x8 n14) y10 y12 = some r3 := H
      unfold plain_Wrap_B2 at H
      show AW _ _ _ _ _ _
      refine AW.seq ?_
      refine AW.region ?_
      show AR _ _ _ _ _ [0] _
      refine sS rfl rfl rfl (opS_lt rfl rfl) ?_
      refine AR.nil ?_
      show AW _ _ _ _ _ _
      refine AW.seq ?_
      refine AW.cond rfl (fun c15 => ?_) (fun c15 => ?_)
      · replace H := cnd_t c15 H
        refine AW.skip ?_
        show AW _ _ _ _ _ _
        refine AW.cut (X := (List (List UInt8)) × Nat) (fun (y67, t68) => ⟨[(1, i64 a2), (5, slE Enc.str y67 (some t68)), (15, slE Enc.str x8 none), (16, i64 (x8.length : Int)), (17, i64 y12)], [], [.tok t68 9]⟩) (fun (y67, t68) => plain_Wrap_j2 y12 (plain_Wrap_L2 F a2 x8 n14) y67 = some r3) ?_ ?_
        ·
          refine AW.block ?_
          refine AW.seq ?_
          obtain ⟨g16, H⟩ := grd_s H
          obtain ⟨x17, e18, H⟩ := lt_s H
          refine AW.region ?_
          show AR _ _ _ _ _ [0, 1, 2] _
          refine sS rfl rfl rfl (g_indexAddr (E := Enc.str) Tryz.underlying24 (by kernel_rfl) rfl rfl g16 e18) ?_
          refine sS rfl rfl rfl (opS_load_cp Tryz.underlying9 rfl rfl) ?_
          refine sS rfl rfl rfl (asg rfl) ?_
          refine AR.nil ?_
          show AW _ _ _ _ _ _
          refine AW.seq ?_
          refine AW.region ?_
          show AR _ _ _ _ _ [0, 1] _
          refine sS rfl rfl rfl (asg rfl) ?_
          refine sS rfl rfl rfl (asg rfl) ?_
          refine AR.nil ?_
          show AW _ _ _ _ _ _
          refine AW.cut (X := (List (List UInt8)) × Nat × (List UInt8)) (fun (y59, t60, y61) => ⟨[(1, i64 a2), (5, slE Enc.str y59 (some t60)), (8, S y61), (15, slE Enc.str x8 none), (16, i64 (x8.length : Int)), (17, i64 y12)], [], [.tok t60 9]⟩) (fun (y59, t60, y61) => plain_Wrap_j3 y12 (plain_Wrap_L2 F a2 x8 n14) y59 y61 = some r3) ?_ ?_
          ·
            refine AW.seq ?_
            obtain ⟨x19, e20, H⟩ := bnd_s H
            obtain ⟨g21, H⟩ := grd_s H
            obtain ⟨g22, H⟩ := grd_s H
            obtain ⟨x23, e24, H⟩ := lt_s H
            refine AW.region ?_
            show AR _ _ _ _ _ [0, 1, 2, 3, 4] _
            refine sS rfl rfl rfl (mv rfl) ?_
            refine AR.run rfl rfl (AO.callp rfl en11 rfl (w_ent_Trim F x17 x19 e20) ?_)
            refine AR.run rfl rfl (AO.callp rfl en10 rfl (show ACalls _ _ _ [] (Ret (slE Enc.str x23 none) []) from by subst e24; exact lib_Split x19 ([32] : List UInt8) (okS_s g21) (of_decide_eq_true g22)) ?_)
            refine sS rfl rfl rfl (opS_len_sl Tryz.underlying24 rfl) ?_
            refine sS rfl rfl rfl (mv rfl) ?_
            refine AR.nil ?_
            show AW _ _ _ _ _ _
            refine AW.block ?_
            refine AW.loop (X := Nat × (List (List UInt8)) × Nat × (List UInt8) × Bool × Int) (fun (n34, y28, t29, y30, y31, y32) => ⟨[(1, i64 a2), (5, slE Enc.str y28 (some t29)), (8, S y30), (9, B y31), (15, slE Enc.str x8 none), (16, i64 (x8.length : Int)), (17, i64 y12), (23, slE Enc.str x23 none), (24, i64 (x23.length : Int)), (25, i64 y32)], [], [.tok t29 9]⟩) (fun (n34, y28, t29, y30, y31, y32) => plain_Wrap_L1 a2 y12 x23 (plain_Wrap_L2 F a2 x8 n14) n34 (y28, y30, y31, y32) = some r3) (fun (n34, y28, t29, y30, y31, y32) => n34) (F, y10, t11, ([] : List UInt8), true, 0) H (WK.at [0] (.cons (.refl _) (.cons (.refl _) (.cons (.refl _) (.cons (.refl _) (.cons (.refl _) (.cons (.refl _) (.cons (.refl _) (.cons (.refl _) (.cons (.refl _) (.cons (.refl _) (.nil _))))))))))) rfl) ?_
            rintro ⟨n34, y28, t29, y30, y31, y32⟩ H
            obtain ⟨n34, rfl, H⟩ := loop_s H
            replace H : plain_Wrap_B1 a2 y12 x23 (plain_Wrap_L2 F a2 x8 n14) (plain_Wrap_L1 a2 y12 x23 (plain_Wrap_L2 F a2 x8 n14) n34) y28 y30 y31 y32 = some r3 := H
            unfold plain_Wrap_B1 at H
            show AW _ _ _ _ _ _
            refine AW.seq ?_
            refine AW.region ?_
            show AR _ _ _ _ _ [0] _
            refine sS rfl rfl rfl (opS_lt rfl rfl) ?_
            refine AR.nil ?_
            show AW _ _ _ _ _ _
            refine AW.seq ?_
            refine AW.cond rfl (fun c35 => ?_) (fun c35 => ?_)
            · replace H := cnd_t c35 H
              refine AW.skip ?_
              show AW _ _ _ _ _ _
              refine AW.cut (X := (List (List UInt8)) × Nat × (List UInt8) × Bool) (fun (y53, t54, y55, y56) => ⟨[(1, i64 a2), (5, slE Enc.str y53 (some t54)), (8, S y55), (9, B y56), (15, slE Enc.str x8 none), (16, i64 (x8.length : Int)), (17, i64 y12), (23, slE Enc.str x23 none), (24, i64 (x23.length : Int)), (25, i64 y32)], [], [.tok t54 9]⟩) (fun (y53, t54, y55, y56) => plain_Wrap_j4 y32 (plain_Wrap_L1 a2 y12 x23 (plain_Wrap_L2 F a2 x8 n14) n34) y53 y55 y56 = some r3) ?_ ?_
              ·
                refine AW.block ?_
                refine AW.seq ?_
                obtain ⟨g36, H⟩ := grd_s H
                obtain ⟨x37, e38, H⟩ := lt_s H
                refine AW.region ?_
                show AR _ _ _ _ _ [0, 1, 2] _
                refine sS rfl rfl rfl (g_indexAddr (E := Enc.str) Tryz.underlying24 (by kernel_rfl) rfl rfl g36 e38) ?_
                refine sS rfl rfl rfl (opS_load_cp Tryz.underlying9 rfl rfl) ?_
                refine sS rfl rfl rfl (asg rfl) ?_
                refine AR.nil ?_
                show AW _ _ _ _ _ _
                refine AW.block ?_
                refine AW.seq ?_
                refine AW.region ?_
                show AR _ _ _ _ _ [0, 1] _
                refine sS rfl rfl rfl (mv rfl) ?_
                refine sS rfl rfl rfl (asg rfl) ?_
                refine AR.nil ?_
                show AW _ _ _ _ _ _
                refine AW.cond rfl (fun c39 => ?_) (fun c39 => ?_)
                · replace H := cnd_t c39 H
                  refine AW.region ?_
                  show AR _ _ _ _ _ [0, 1, 2] _
                  refine sS rfl rfl rfl (mv rfl) ?_
                  refine sS rfl rfl rfl (asg rfl) ?_
                  refine sS rfl rfl rfl (asg rfl) ?_
                  refine AR.nil ?_
                  exact Exists.intro (y28, t29, x37, false) ⟨H, WK.at [0] (.cons (.refl _) (.cons (.refl _) (.cons (.refl _) (.cons (.refl _) (.cons (.refl _) (.cons (.refl _) (.cons (.refl _) (.cons (.refl _) (.cons (.refl _) (.cons (.refl _) (.nil _))))))))))) rfl⟩
                · replace H := cnd_f c39 H
                  refine AW.seq ?_
                  obtain ⟨g40, H⟩ := grd_s H
                  obtain ⟨g41, H⟩ := grd_s H
                  refine AW.region ?_
                  show AR _ _ _ _ _ [0, 1, 2, 3, 4, 5, 6, 7, 8] _
                  refine sS rfl rfl rfl (mv rfl) ?_
                  refine sS rfl rfl rfl (opS_len_str Tryz.underlying9 rfl) ?_
                  refine sS rfl rfl rfl (g_add rfl rfl g40) ?_
                  refine sS rfl rfl rfl (mv rfl) ?_
                  refine sS rfl rfl rfl (opS_len_str Tryz.underlying9 rfl) ?_
                  refine sS rfl rfl rfl (g_add rfl rfl g41) ?_
                  refine sS rfl rfl rfl (mv rfl) ?_
                  refine sS rfl rfl rfl (opS_le rfl rfl) ?_
                  refine sS rfl rfl rfl (asg rfl) ?_
                  refine AR.nil ?_
                  show AW _ _ _ _ _ _
                  refine AW.cond rfl (fun c42 => ?_) (fun c42 => ?_)
                  · replace H := cnd_t c42 H
                    obtain ⟨g43, H⟩ := grd_s H
                    obtain ⟨x44, e45, H⟩ := lt_s H
                    obtain ⟨g46, H⟩ := grd_s H
                    obtain ⟨x47, e48, H⟩ := lt_s H
                    refine AW.region ?_
                    show AR _ _ _ _ _ [0, 1, 2, 3, 4] _
                    refine sS rfl rfl rfl (mv rfl) ?_
                    refine sS rfl rfl rfl (mv rfl) ?_
                    refine sS rfl rfl rfl (g_cat rfl rfl g43 e45) ?_
                    refine sS rfl rfl rfl (g_cat rfl rfl g46 e48) ?_
                    refine sS rfl rfl rfl (asg rfl) ?_
                    refine AR.nil ?_
                    exact Exists.intro (y28, t29, x47, y31) ⟨H, WK.at [0] (.cons (.refl _) (.cons (.refl _) (.cons (.refl _) (.cons (.refl _) (.cons (.refl _) (.cons (.refl _) (.cons (.refl _) (.cons (.refl _) (.cons (.refl _) (.cons (.refl _) (.nil _))))))))))) rfl⟩
                  · replace H := cnd_f c42 H
                    obtain ⟨g50, H⟩ := grd_s H
                    obtain ⟨x51, e52, H⟩ := lt_s H
                    refine AW.region ?_
                    show AR _ _ _ _ _ [0, 1, 2, 3, 4, 5, 6] _
                    refine sS rfl rfl rfl (opS_move (av := slE _ _ _) rfl) ?_
                    refine sS rfl rfl rfl (mv rfl) ?_
                    refine sR rfl rfl rfl (opR_buildE (E := Enc.str) (bytes := 16) (xs := [.tmp 30]) (l := ([y30] : List (List UInt8))) Tryz.underlying24 (by kernel_rfl) rfl rfl (by decide) rfl rfl) ?_
                    refine sX rfl rfl rfl (g_append (E := Enc.str) (bytes := 16) 0 Tryz.underlying24 Tryz.underlying24 rfl (by kernel_rfl) rfl rfl rfl rfl g50 e52) ?_
                    rintro _ _ ⟨t49, rfl, rfl⟩
                    refine sS rfl rfl rfl (mv rfl) ?_
                    refine sS rfl rfl rfl (opS_assign (av := slE _ _ _) rfl) ?_
                    refine sS rfl rfl rfl (asg rfl) ?_
                    refine AR.nil ?_
                    exact Exists.intro (x51, t49, x37, y31) ⟨H, WK.at [0] (.cons (.refl _) (.cons (.refl _) (.cons (.refl _) (.cons (.refl _) (.cons (.refl _) (.cons (.refl _) (.cons (.refl _) (.cons (.refl _) (.cons (.refl _) (.cons (.refl _) (.nil _))))))))))) rfl⟩
              rintro ⟨y53, t54, y55, y56⟩ H
              replace H : plain_Wrap_j4 y32 (plain_Wrap_L1 a2 y12 x23 (plain_Wrap_L2 F a2 x8 n14) n34) y53 y55 y56 = some r3 := H
              unfold plain_Wrap_j4 at H
              show AW _ _ _ _ _ _
              obtain ⟨g58, H⟩ := grd_s H
              refine AW.region ?_
              show AR _ _ _ _ _ [0, 1] _
              refine sS rfl rfl rfl (g_add rfl rfl g58) ?_
              refine sS rfl rfl rfl (mv rfl) ?_
              refine AR.nil ?_
              exact Exists.intro (n34, y53, t54, y55, y56, y32 + 1) ⟨H, Nat.lt_succ_self _, WK.at [0] (.cons (.refl _) (.cons (.refl _) (.cons (.refl _) (.cons (.refl _) (.cons (.refl _) (.cons (.refl _) (.cons (.refl _) (.cons (.refl _) (.cons (.refl _) (.cons (.refl _) (.nil _))))))))))) rfl⟩
            · replace H := cnd_f c35 H
              refine AW.exit ?_
              exact Exists.intro (y28, t29, y30) ⟨H, WK.at [0] (.cons (.refl _) (.cons (.refl _) (.cons (.refl _) (.cons (.refl _) (.cons (.refl _) (.cons (.refl _) (.nil _))))))) rfl⟩
          rintro ⟨y59, t60, y61⟩ H
          replace H : plain_Wrap_j3 y12 (plain_Wrap_L2 F a2 x8 n14) y59 y61 = some r3 := H
          unfold plain_Wrap_j3 at H
          show AW _ _ _ _ _ _
          obtain ⟨g64, H⟩ := grd_s H
          obtain ⟨x65, e66, H⟩ := lt_s H
          refine AW.region ?_
          show AR _ _ _ _ _ [0, 1, 2, 3, 4] _
          refine sS rfl rfl rfl (opS_move (av := slE _ _ _) rfl) ?_
          refine sS rfl rfl rfl (mv rfl) ?_
          refine sR rfl rfl rfl (opR_buildE (E := Enc.str) (bytes := 16) (xs := [.tmp 52]) (l := ([y61] : List (List UInt8))) Tryz.underlying24 (by kernel_rfl) rfl rfl (by decide) rfl rfl) ?_
          refine sX rfl rfl rfl (g_append (E := Enc.str) (bytes := 16) 0 Tryz.underlying24 Tryz.underlying24 rfl (by kernel_rfl) rfl rfl rfl rfl g64 e66) ?_
          rintro _ _ ⟨t63, rfl, rfl⟩
          refine sS rfl rfl rfl (opS_assign (av := slE _ _ _) rfl) ?_
          refine AR.nil ?_
          exact Exists.intro (x65, t63) ⟨H, WK.at [0] (.cons (.refl _) (.cons (.refl _) (.cons (.refl _) (.cons (.refl _) (.cons (.refl _) (.nil _)))))) rfl⟩
        rintro ⟨y67, t68⟩ H
        replace H : plain_Wrap_j2 y12 (plain_Wrap_L2 F a2 x8 n14) y67 = some r3 := H
        unfold plain_Wrap_j2 at H
        show AW _ _ _ _ _ _
        obtain ⟨g70, H⟩ := grd_s H
        refine AW.region ?_
        show AR _ _ _ _ _ [0, 1] _
        refine sS rfl rfl rfl (g_add rfl rfl g70) ?_
        refine sS rfl rfl rfl (mv rfl) ?_
        refine AR.nil ?_
        exact Exists.intro (n14, y67, t68, y12 + 1) ⟨H, Nat.lt_succ_self _, WK.at [0] (.cons (.refl _) (.cons (.refl _) (.cons (.refl _) (.cons (.refl _) (.cons (.refl _) (.nil _)))))) rfl⟩
      · replace H := cnd_f c15 H
        refine AW.exit ?_
        exact Exists.intro (y10, t11) ⟨H, WK.at [0] (.cons (.refl _) (.nil _)) rfl⟩
    rintro ⟨y71, t72⟩ H
    replace H : plain_Wrap_j1 y71 = some r3 := H
    unfold plain_Wrap_j1 at H
    show AW _ _ _ _ _ _
    refine AW.seq ?_
    refine AW.region ?_
    show AR _ _ _ _ _ [0, 1] _
    refine sS rfl rfl rfl (opS_move (av := slE _ _ _) rfl) ?_
    refine sS rfl rfl rfl (opS_assign (av := slE _ _ _) rfl) ?_
    refine AR.nil ?_
    show AW _ _ _ _ _ _
    refine AW.ret ?_
    obtain rfl := Option.some.inj H
    exact And.intro rfl (Exists.intro _ (Exists.intro _ ⟨ResV.oneW rfl (.tok _ _ _), Sub.at [] rfl, rfl, rfl⟩))
end Go.Proofs.YtjajiokihccobaaGreatDoor
