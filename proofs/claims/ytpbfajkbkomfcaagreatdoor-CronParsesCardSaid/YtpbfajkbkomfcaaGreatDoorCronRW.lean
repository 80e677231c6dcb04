/-
  The document's answer about a text: what is run is what the plain functions say. Printed by a program of ours.
-/
import Derived.Test.YtpbfajkbkomfcaaGreatDoorAvE
import Derived.Test.YtpbfajkbkomfcaaGreatDoorPvLib
import Derived.Test.YtpbfajkbkomfcaaGreatDoorP11Split
import Derived.Test.YtpbfajkbkomfcaaGreatDoorAvStill
import Derived.Test.YtpbfajkbkomfcaaGreatDoorChecked
import Derived.Test.YtpbfajkbkomfcaaGreatDoorCronQW
import Derived.Test.YtpbfajkbkomfcaaGreatDoorCronRP
set_option linter.unusedVariables false
set_option linter.unusedSimpArgs false
namespace Go.Proofs.YtpbfajkbkomfcaaGreatDoor
open Go.RowKit Go.Av Go.Pv
theorem en17_cronr : ∀ (args : Array Value) (w : World), (callFunc 17 args).run Tryz.prog w = .ok (.enter 17 args) w := fun _ _ => by kernel_rfl
theorem en33_cronr : ∀ (args : Array Value) (w : World), (callFunc 33 args).run Tryz.prog w = .ok (.enter 33 args) w := fun _ _ => by kernel_rfl
theorem en34_cronr : ∀ (args : Array Value) (w : World), (callFunc 34 args).run Tryz.prog w = .ok (.enter 34 args) w := fun _ _ => by kernel_rfl
theorem en35_cronr : ∀ (args : Array Value) (w : World), (callFunc 35 args).run Tryz.prog w = .ok (.enter 35 args) w := fun _ _ => by kernel_rfl
theorem en36_cronr : ∀ (args : Array Value) (w : World), (callFunc 36 args).run Tryz.prog w = .ok (.enter 36 args) w := fun _ _ => by kernel_rfl
theorem en51_cronr : ∀ (args : Array Value) (w : World), (callFunc 51 args).run Tryz.prog w = .ok (.enter 51 args) w := fun _ _ => by kernel_rfl
theorem en52_cronr : ∀ (args : Array Value) (w : World), (callFunc 52 args).run Tryz.prog w = .ok (.enter 52 args) w := fun _ _ => by kernel_rfl
theorem en67_cronr : ∀ (args : Array Value) (w : World), (callFunc 67 args).run Tryz.prog w = .ok (.enter 67 args) w := fun _ _ => by kernel_rfl
theorem en83_cronr : ∀ (args : Array Value) (w : World), (callFunc 83 args).run Tryz.prog w = .ok (.enter 83 args) w := fun _ _ => by kernel_rfl
set_option maxRecDepth 100000 in
set_option maxHeartbeats 1000000 in
theorem w_ref05_Split (F : Nat) (a1 : List UInt8) (a2 : UInt8) (r3 : List (List UInt8)) (H : ref05_Split F a1 a2 = some r3) : ACalls Tryz.prog 33 [S a1, u8 a2] [] (Ret (slE Enc.str r3 none) []) := by
 unfold ref05_Split at H
 refine ACalls.of_body Tryz.func33 rfl rfl ?_
 show AW _ _ 35 _ _ _
 refine AW.seq ?_
 refine AW.region ?_
 show AR _ _ _ _ _ [0] _
 refine sS rfl rfl rfl (asg rfl) ?_
 refine AR.nil ?_
 show AW _ _ _ _ _ _
 refine AW.seq ?_
 refine AW.region ?_
 show AR _ _ _ _ _ [0] _
 refine sS rfl rfl rfl (asg rfl) ?_
 refine AR.nil ?_
 show AW _ _ _ _ _ _
 refine AW.nil_grows 5 1 9 rfl fun t4 => ?_
 show AW _ _ _ _ _ ⟨(5, slE Enc.str [] (some t4)) :: _, _, _⟩
 refine AW.seq ?_
 refine AW.region ?_
 show AR _ _ _ _ _ [0] _
 refine sS rfl rfl rfl (asg rfl) ?_
 refine AR.nil ?_
 show AW _ _ _ _ _ _
 refine AW.cut (X := (List (List UInt8)) × Nat) (fun (y30, t31) => ⟨[(5, slE Enc.str y30 (some t31))], [], [.tok t31 9]⟩) (fun (y30, t31) => ref05_Split_j1 y30 = some r3) ?_ ?_
 ·
  refine AW.seq ?_
  refine AW.region ?_
  show AR _ _ _ _ _ [0] _
  refine sS rfl rfl rfl (asg rfl) ?_
  refine AR.nil ?_
  show AW _ _ _ _ _ _
  refine AW.block ?_
  refine AW.loop (X := Nat × (List (List UInt8)) × Nat × Int × Int) (fun (n10, y5, t6, y7, y8) => ⟨[(0, S a1), (1, u8 a2), (5, slE Enc.str y5 (some t6)), (6, i64 y7), (7, i64 y8)], [], [.tok t6 9]⟩) (fun (n10, y5, t6, y7, y8) => ref05_Split_L1 a1 a2 n10 (y5, y7, y8) = some r3) (fun (n10, y5, t6, y7, y8) => n10) (F, [], t4, 0, 0) H (WK.at [0] (.cons (.refl _) (.cons (.refl _) (.cons (.refl _) (.cons (.refl _) (.cons (.refl _) (.nil _)))))) rfl) ?_
  rintro ⟨n10, y5, t6, y7, y8⟩ H
  obtain ⟨n10, rfl, H⟩ := loop_s H
  replace H : ref05_Split_B1 a1 a2 (ref05_Split_L1 a1 a2 n10) y5 y7 y8 = some r3 := H
  unfold ref05_Split_B1 at H
  show AW _ _ _ _ _ _
  refine AW.seq ?_
  refine AW.seq ?_
  refine AW.region ?_
  show AR _ _ _ _ _ [0, 1, 2, 3] _
  refine sS rfl rfl rfl (mv rfl) ?_
  refine sS rfl rfl rfl (mv rfl) ?_
  refine sS rfl rfl rfl (opS_len_str Tryz.underlying9 rfl) ?_
  refine sS rfl rfl rfl (opS_le rfl rfl) ?_
  refine AR.nil ?_
  show AW _ _ _ _ _ _
  refine AW.cond rfl (fun c11 => ?_) (fun c11 => ?_)
  ·replace H := cnd_t c11 H
   refine AW.skip ?_
   show AW _ _ _ _ _ _
   refine AW.cut (X := (List (List UInt8)) × Nat × Int) (fun (y25, t26, y27) => ⟨[(0, S a1), (1, u8 a2), (5, slE Enc.str y25 (some t26)), (6, i64 y27), (7, i64 y8)], [], [.tok t26 9]⟩) (fun (y25, t26, y27) => ref05_Split_j2 y8 (ref05_Split_L1 a1 a2 n10) y25 y27 = some r3) ?_ ?_
   ·
    refine AW.block ?_
    refine AW.seq ?_
    obtain ⟨g13, H⟩ := grdc_s H
    obtain ⟨x14, e15, H⟩ := lt_s H
    refine AW.region ?_
    show AR _ _ _ _ _ [0, 1, 2, 3, 4, 5, 6, 7, 8, 9, 10] _
    refine sS rfl rfl rfl (mv rfl) ?_
    refine sS rfl rfl rfl (mv rfl) ?_
    refine sS rfl rfl rfl (opS_len_str Tryz.underlying9 rfl) ?_
    refine sS rfl rfl rfl (opS_eqi rfl rfl) ?_
    refine sS rfl rfl rfl (mv rfl) ?_
    refine AR.meet (l := []) 24 (B ((decide (y8 = (a1.length : Int))) || (decide (x14 = a2)))) (fun K => ?_) ?_
    ·rcases Bool.eq_false_or_eq_true (decide (y8 = (a1.length : Int))) with h12 | h12
     ·
      refine gF h12 rfl rfl rfl rfl rfl ?_
      refine gF h12 rfl rfl rfl rfl rfl ?_
      refine gF h12 rfl rfl rfl rfl rfl ?_
      refine gF h12 rfl rfl rfl rfl rfl ?_
      refine gF h12 rfl rfl rfl rfl rfl ?_
      refine sS rfl rfl rfl (opS_pick_t (av := .v _) rfl h12 rfl) ?_
      exact K _ 5 _ (B_congr (or_t h12)) rfl rfl
     ·
      refine gT h12 rfl rfl rfl rfl rfl rfl (AO.ops rfl rfl (mv rfl) ?_)
      refine gT h12 rfl rfl rfl rfl rfl rfl (AO.ops rfl rfl (mv rfl) ?_)
      refine gT h12 rfl rfl rfl rfl rfl rfl (AO.ops rfl rfl (g_index_str Tryz.underlying9 rfl rfl (g13 (nf h12)) e15) ?_)
      refine gT h12 rfl rfl rfl rfl rfl rfl (AO.ops rfl rfl (mv rfl) ?_)
      refine gT h12 rfl rfl rfl rfl rfl rfl (AO.ops rfl rfl (g_eq8 (a := x14) (b := a2) rfl rfl) ?_)
      refine sS rfl rfl rfl (opS_pick_f (av := .v _) rfl h12 rfl) ?_
      exact K _ 5 _ (B_congr (or_f h12)) rfl rfl
    refine AR.nil ?_
    show AW _ _ _ _ _ _
    refine AW.cond rfl (fun c16 => ?_) (fun c16 => ?_)
    ·replace H := cnd_t c16 H
     refine AW.seq ?_
     obtain ⟨g17, H⟩ := grd_s H
     obtain ⟨x18, e19, H⟩ := lt_s H
     obtain ⟨g21, H⟩ := grd_s H
     obtain ⟨x22, e23, H⟩ := lt_s H
     refine AW.region ?_
     show AR _ _ _ _ _ [0, 1, 2, 3, 4, 5, 6, 7] _
     refine sS rfl rfl rfl (opS_move (av := slE _ _ _) rfl) ?_
     refine sS rfl rfl rfl (mv rfl) ?_
     refine sS rfl rfl rfl (mv rfl) ?_
     refine sS rfl rfl rfl (mv rfl) ?_
     refine sS rfl rfl rfl (g_slice_str Tryz.underlying9 rfl rfl rfl g17 e19) ?_
     refine sR rfl rfl rfl (opR_buildE (E := Enc.str) (bytes := 16) (xs := [.tmp 29]) (l := ([x18] : List (List UInt8))) Tryz.underlying53 (by kernel_rfl) rfl rfl (by decide) rfl rfl) ?_
     refine sX rfl rfl rfl (g_append (E := Enc.str) (bytes := 16) 0 Tryz.underlying53 Tryz.underlying53 rfl (by kernel_rfl) rfl rfl rfl rfl g21 e23) ?_
     rintro _ _ ⟨t20, rfl, rfl⟩
     refine sS rfl rfl rfl (opS_assign (av := slE _ _ _) rfl) ?_
     refine AR.nil ?_
     show AW _ _ _ _ _ _
     obtain ⟨g24, H⟩ := grd_s H
     refine AW.region ?_
     show AR _ _ _ _ _ [0, 1, 2] _
     refine sS rfl rfl rfl (mv rfl) ?_
     refine sS rfl rfl rfl (g_add rfl rfl g24) ?_
     refine sS rfl rfl rfl (asg rfl) ?_
     refine AR.nil ?_
     exact Exists.intro (x22, t20, y8 + 1) ⟨H, WK.at [0] (.cons (.refl _) (.cons (.refl _) (.cons (.refl _) (.cons (.refl _) (.cons (.refl _) (.nil _)))))) rfl⟩
    ·replace H := cnd_f c16 H
     refine AW.skip ?_
     exact Exists.intro (y5, t6, y7) ⟨H, WK.at [0] (.cons (.refl _) (.cons (.refl _) (.cons (.refl _) (.cons (.refl _) (.cons (.refl _) (.nil _)))))) rfl⟩
   rintro ⟨y25, t26, y27⟩ H
   replace H : ref05_Split_j2 y8 (ref05_Split_L1 a1 a2 n10) y25 y27 = some r3 := H
   unfold ref05_Split_j2 at H
   show AW _ _ _ _ _ _
   obtain ⟨g29, H⟩ := grd_s H
   refine AW.region ?_
   show AR _ _ _ _ _ [0, 1, 2] _
   refine sS rfl rfl rfl (mv rfl) ?_
   refine sS rfl rfl rfl (g_add rfl rfl g29) ?_
   refine sS rfl rfl rfl (asg rfl) ?_
   refine AR.nil ?_
   exact Exists.intro (n10, y25, t26, y27, y8 + 1) ⟨H, Nat.lt_succ_self _, WK.at [0] (.cons (.refl _) (.cons (.refl _) (.cons (.refl _) (.cons (.refl _) (.cons (.refl _) (.nil _)))))) rfl⟩
  ·replace H := cnd_f c11 H
   refine AW.exit ?_
   exact Exists.intro (y5, t6) ⟨H, WK.at [0] (.cons (.refl _) (.nil _)) rfl⟩
 rintro ⟨y30, t31⟩ H
 replace H : ref05_Split_j1 y30 = some r3 := H
 unfold ref05_Split_j1 at H
 show AW _ _ _ _ _ _
 refine AW.seq ?_
 refine AW.region ?_
 show AR _ _ _ _ _ [0, 1] _
 refine sS rfl rfl rfl (opS_move (av := slE _ _ _) rfl) ?_
 refine sS rfl rfl rfl (opS_assign (av := slE _ _ _) rfl) ?_
 refine AR.nil ?_
 show AW _ _ _ _ _ _
 refine AW.ret ?_
 obtain rfl := Option.some.inj H
 exact And.intro rfl (Exists.intro _ (Exists.intro _ ⟨ResV.oneW rfl (.tok _ _ _), Sub.at [] rfl, rfl, rfl⟩))
set_option maxRecDepth 100000 in
set_option maxHeartbeats 1000000 in
theorem w_ref05_Small (F : Nat) (a1 : List UInt8) (r2 : List UInt8) (H : ref05_Small F a1 = some r2) : ACalls Tryz.prog 83 [S a1] [] (Ret (S r2) []) := by
 unfold ref05_Small at H
 refine ACalls.of_body Tryz.func83 rfl rfl ?_
 show AW _ _ 29 _ _ _
 refine AW.seq ?_
 refine AW.region ?_
 show AR _ _ _ _ _ [0] _
 refine sS rfl rfl rfl (asg rfl) ?_
 refine AR.nil ?_
 show AW _ _ _ _ _ _
 refine AW.seq ?_
 refine AW.region ?_
 show AR _ _ _ _ _ [0] _
 refine sS rfl rfl rfl (asg rfl) ?_
 refine AR.nil ?_
 show AW _ _ _ _ _ _
 refine AW.cut (X := (List UInt8)) (fun y19 => ⟨[(3, S y19)], [], []⟩) (fun y19 => ref05_Small_j1 y19 = some r2) ?_ ?_
 ·
  refine AW.seq ?_
  refine AW.region ?_
  show AR _ _ _ _ _ [0] _
  refine sS rfl rfl rfl (asg rfl) ?_
  refine AR.nil ?_
  show AW _ _ _ _ _ _
  refine AW.block ?_
  refine AW.loop (X := Nat × (List UInt8) × Int) (fun (n6, y3, y4) => ⟨[(0, S a1), (3, S y3), (4, i64 y4)], [], []⟩) (fun (n6, y3, y4) => ref05_Small_L1 a1 n6 (y3, y4) = some r2) (fun (n6, y3, y4) => n6) (F, ([] : List UInt8), 0) H (WK.at [] (.cons (.refl _) (.cons (.refl _) (.cons (.refl _) (.nil _)))) rfl) ?_
  rintro ⟨n6, y3, y4⟩ H
  obtain ⟨n6, rfl, H⟩ := loop_s H
  replace H : ref05_Small_B1 a1 (ref05_Small_L1 a1 n6) y3 y4 = some r2 := H
  unfold ref05_Small_B1 at H
  show AW _ _ _ _ _ _
  refine AW.seq ?_
  refine AW.seq ?_
  refine AW.region ?_
  show AR _ _ _ _ _ [0, 1, 2, 3] _
  refine sS rfl rfl rfl (mv rfl) ?_
  refine sS rfl rfl rfl (mv rfl) ?_
  refine sS rfl rfl rfl (opS_len_str Tryz.underlying9 rfl) ?_
  refine sS rfl rfl rfl (opS_lt rfl rfl) ?_
  refine AR.nil ?_
  show AW _ _ _ _ _ _
  refine AW.cond rfl (fun c7 => ?_) (fun c7 => ?_)
  ·replace H := cnd_t c7 H
   refine AW.skip ?_
   show AW _ _ _ _ _ _
   refine AW.seq ?_
   refine AW.block ?_
   refine AW.seq ?_
   obtain ⟨g8, H⟩ := grd_s H
   obtain ⟨x9, e10, H⟩ := lt_s H
   refine AW.region ?_
   show AR _ _ _ _ _ [0, 1, 2, 3] _
   refine sS rfl rfl rfl (mv rfl) ?_
   refine sS rfl rfl rfl (mv rfl) ?_
   refine sS rfl rfl rfl (g_index_str Tryz.underlying9 rfl rfl g8 e10) ?_
   refine sS rfl rfl rfl (asg rfl) ?_
   refine AR.nil ?_
   show AW _ _ _ _ _ _
   refine AW.cut (X := UInt8) (fun y13 => ⟨[(0, S a1), (3, S y3), (4, i64 y4), (5, u8 y13)], [], []⟩) (fun y13 => ref05_Small_j2 y3 y4 (ref05_Small_L1 a1 n6) y13 = some r2) ?_ ?_
   ·
    refine AW.seq ?_
    refine AW.region ?_
    show AR _ _ _ _ _ [0, 1, 2, 3, 4, 5] _
    refine sS rfl rfl rfl (mv rfl) ?_
    refine sS rfl rfl rfl (opS_ge rfl rfl) ?_
    refine sS rfl rfl rfl (mv rfl) ?_
    refine AR.meet (l := []) 20 (B ((decide (65 ≤ (x9.toNat : Int))) && (decide ((x9.toNat : Int) ≤ 90)))) (fun K => ?_) ?_
    ·rcases Bool.eq_false_or_eq_true (decide (65 ≤ (x9.toNat : Int))) with h11 | h11
     ·
      refine gT h11 rfl rfl rfl rfl rfl rfl (AO.ops rfl rfl (mv rfl) ?_)
      refine gT h11 rfl rfl rfl rfl rfl rfl (AO.ops rfl rfl (opS_le rfl rfl) ?_)
      refine sS rfl rfl rfl (opS_pick_t (av := .v _) rfl h11 rfl) ?_
      exact K _ 2 _ (B_congr (and_t h11)) rfl rfl
     ·
      refine gF h11 rfl rfl rfl rfl rfl ?_
      refine gF h11 rfl rfl rfl rfl rfl ?_
      refine sS rfl rfl rfl (opS_pick_f (av := .v _) rfl h11 rfl) ?_
      exact K _ 2 _ (B_congr (and_f h11)) rfl rfl
    refine AR.nil ?_
    show AW _ _ _ _ _ _
    refine AW.cond rfl (fun c12 => ?_) (fun c12 => ?_)
    ·replace H := cnd_t c12 H
     refine AW.region ?_
     show AR _ _ _ _ _ [0, 1, 2] _
     refine sS rfl rfl rfl (mv rfl) ?_
     refine sS rfl rfl rfl (g_add8 (a := x9) (b := 32) rfl rfl) ?_
     refine sS rfl rfl rfl (asg rfl) ?_
     refine AR.nil ?_
     exact Exists.intro (x9 + 32) ⟨H, WK.at [] (.cons (.refl _) (.cons (.refl _) (.cons (.refl _) (.cons (.refl _) (.nil _))))) rfl⟩
    ·replace H := cnd_f c12 H
     refine AW.skip ?_
     exact Exists.intro x9 ⟨H, WK.at [] (.cons (.refl _) (.cons (.refl _) (.cons (.refl _) (.cons (.refl _) (.nil _))))) rfl⟩
   rintro y13 H
   replace H : ref05_Small_j2 y3 y4 (ref05_Small_L1 a1 n6) y13 = some r2 := H
   unfold ref05_Small_j2 at H
   show AW _ _ _ _ _ _
   obtain ⟨g15, H⟩ := grd_s H
   obtain ⟨x16, e17, H⟩ := lt_s H
   refine AW.region ?_
   show AR _ _ _ _ _ [0, 1, 2, 3, 4, 5] _
   refine sS rfl rfl rfl (mv rfl) ?_
   refine sS rfl rfl rfl (mv rfl) ?_
   refine sR rfl rfl rfl (opR_buildE (E := Enc.byte) (bytes := 1) (xs := [.tmp 24]) (l := ([y13] : List UInt8)) Tryz.underlying78 (by kernel_rfl) rfl rfl (by decide) rfl rfl) ?_
   refine sS rfl rfl rfl (opS_conv_bytes_str Tryz.underlying78 Tryz.underlying5 Tryz.underlying9 rfl) ?_
   refine sS rfl rfl rfl (g_cat rfl rfl g15 e17) ?_
   refine sS rfl rfl rfl (asg rfl) ?_
   refine AR.nil ?_
   show AW _ _ _ _ _ _
   obtain ⟨g18, H⟩ := grd_s H
   refine AW.region ?_
   show AR _ _ _ _ _ [0, 1, 2] _
   refine sS rfl rfl rfl (mv rfl) ?_
   refine sS rfl rfl rfl (g_add rfl rfl g18) ?_
   refine sS rfl rfl rfl (asg rfl) ?_
   refine AR.nil ?_
   exact Exists.intro (n6, x16, y4 + 1) ⟨H, Nat.lt_succ_self _, WK.at [] (.cons (.refl _) (.cons (.refl _) (.cons (.refl _) (.nil _)))) rfl⟩
  ·replace H := cnd_f c7 H
   refine AW.exit ?_
   exact Exists.intro y3 ⟨H, WK.at [] (.cons (.refl _) (.nil _)) rfl⟩
 rintro y19 H
 replace H : ref05_Small_j1 y19 = some r2 := H
 unfold ref05_Small_j1 at H
 show AW _ _ _ _ _ _
 refine AW.seq ?_
 refine AW.region ?_
 show AR _ _ _ _ _ [0, 1] _
 refine sS rfl rfl rfl (mv rfl) ?_
 refine sS rfl rfl rfl (asg rfl) ?_
 refine AR.nil ?_
 show AW _ _ _ _ _ _
 refine AW.ret ?_
 obtain rfl := Option.some.inj H
 exact And.intro rfl (Exists.intro _ (Exists.intro _ ⟨ResV.oneW rfl (.refl _), Sub.at [] rfl, rfl, rfl⟩))
set_option maxRecDepth 100000 in
set_option maxHeartbeats 1000000 in
theorem w_ref05_digits (F : Nat) (a1 : List UInt8) (r2 : Int) (H : ref05_digits F a1 = some r2) : ACalls Tryz.prog 51 [S a1] [] (Ret (i64 r2) []) := by
 unfold ref05_digits at H
 refine ACalls.of_body Tryz.func51 rfl rfl ?_
 show AW _ _ 38 _ _ _
 refine AW.seq ?_
 refine AW.region ?_
 show AR _ _ _ _ _ [0] _
 refine sS rfl rfl rfl (asg rfl) ?_
 refine AR.nil ?_
 show AW _ _ _ _ _ _
 refine AW.seq ?_
 refine AW.seq ?_
 refine AW.region ?_
 show AR _ _ _ _ _ [0, 1, 2, 3, 4, 5, 6, 7] _
 refine sS rfl rfl rfl (mv rfl) ?_
 refine sS rfl rfl rfl (opS_len_str Tryz.underlying9 rfl) ?_
 refine sS rfl rfl rfl (opS_lt rfl rfl) ?_
 refine sS rfl rfl rfl (mv rfl) ?_
 refine AR.meet (l := []) 12 (B ((decide ((a1.length : Int) < 1)) || (decide (2 < (a1.length : Int))))) (fun K => ?_) ?_
 ·rcases Bool.eq_false_or_eq_true (decide ((a1.length : Int) < 1)) with h3 | h3
  ·
   refine gF h3 rfl rfl rfl rfl rfl ?_
   refine gF h3 rfl rfl rfl rfl rfl ?_
   refine gF h3 rfl rfl rfl rfl rfl ?_
   refine sS rfl rfl rfl (opS_pick_t (av := .v _) rfl h3 rfl) ?_
   exact K _ 3 _ (B_congr (or_t h3)) rfl rfl
  ·
   refine gT h3 rfl rfl rfl rfl rfl rfl (AO.ops rfl rfl (mv rfl) ?_)
   refine gT h3 rfl rfl rfl rfl rfl rfl (AO.ops rfl rfl (opS_len_str Tryz.underlying9 rfl) ?_)
   refine gT h3 rfl rfl rfl rfl rfl rfl (AO.ops rfl rfl (opS_gt rfl rfl) ?_)
   refine sS rfl rfl rfl (opS_pick_f (av := .v _) rfl h3 rfl) ?_
   exact K _ 3 _ (B_congr (or_f h3)) rfl rfl
 refine AR.nil ?_
 show AW _ _ _ _ _ _
 refine AW.cond rfl (fun c4 => ?_) (fun c4 => ?_)
 ·replace H := cnd_t c4 H
  refine AW.seq ?_
  refine AW.region ?_
  show AR _ _ _ _ _ [0] _
  refine sS rfl rfl rfl (asg rfl) ?_
  refine AR.nil ?_
  show AW _ _ _ _ _ _
  refine AW.ret ?_
  obtain rfl := Option.some.inj H
  exact And.intro rfl (Exists.intro _ (Exists.intro _ ⟨ResV.oneW rfl (.refl _), Sub.at [] rfl, rfl, rfl⟩))
 ·replace H := cnd_f c4 H
  refine AW.skip ?_
  show AW _ _ _ _ _ _
  refine AW.seq ?_
  refine AW.region ?_
  show AR _ _ _ _ _ [0] _
  refine sS rfl rfl rfl (asg rfl) ?_
  refine AR.nil ?_
  show AW _ _ _ _ _ _
  refine AW.cut (X := Int) (fun y24 => ⟨[(3, i64 y24)], [], []⟩) (fun y24 => ref05_digits_j1 y24 = some r2) ?_ ?_
  ·
   refine AW.seq ?_
   refine AW.region ?_
   show AR _ _ _ _ _ [0] _
   refine sS rfl rfl rfl (asg rfl) ?_
   refine AR.nil ?_
   show AW _ _ _ _ _ _
   refine AW.block ?_
   refine AW.loop (X := Nat × Int × Int) (fun (n8, y5, y6) => ⟨[(0, S a1), (3, i64 y5), (4, i64 y6)], [], []⟩) (fun (n8, y5, y6) => ref05_digits_L1 a1 n8 (y5, y6) = some r2) (fun (n8, y5, y6) => n8) (F, 0, 0) H (WK.at [] (.cons (.refl _) (.cons (.refl _) (.cons (.refl _) (.nil _)))) rfl) ?_
   rintro ⟨n8, y5, y6⟩ H
   obtain ⟨n8, rfl, H⟩ := loop_s H
   replace H : ref05_digits_B1 a1 (ref05_digits_L1 a1 n8) y5 y6 = some r2 := H
   unfold ref05_digits_B1 at H
   show AW _ _ _ _ _ _
   refine AW.seq ?_
   refine AW.seq ?_
   refine AW.region ?_
   show AR _ _ _ _ _ [0, 1, 2, 3] _
   refine sS rfl rfl rfl (mv rfl) ?_
   refine sS rfl rfl rfl (mv rfl) ?_
   refine sS rfl rfl rfl (opS_len_str Tryz.underlying9 rfl) ?_
   refine sS rfl rfl rfl (opS_lt rfl rfl) ?_
   refine AR.nil ?_
   show AW _ _ _ _ _ _
   refine AW.cond rfl (fun c9 => ?_) (fun c9 => ?_)
   ·replace H := cnd_t c9 H
    refine AW.skip ?_
    show AW _ _ _ _ _ _
    refine AW.seq ?_
    refine AW.block ?_
    refine AW.seq ?_
    refine AW.seq ?_
    obtain ⟨g10, H⟩ := grd_s H
    obtain ⟨x11, e12, H⟩ := lt_s H
    obtain ⟨g14, H⟩ := grdc_s H
    obtain ⟨x15, e16, H⟩ := lt_s H
    refine AW.region ?_
    show AR _ _ _ _ _ [0, 1, 2, 3, 4, 5, 6, 7, 8, 9] _
    refine sS rfl rfl rfl (mv rfl) ?_
    refine sS rfl rfl rfl (mv rfl) ?_
    refine sS rfl rfl rfl (g_index_str Tryz.underlying9 rfl rfl g10 e12) ?_
    refine sS rfl rfl rfl (opS_lt rfl rfl) ?_
    refine sS rfl rfl rfl (mv rfl) ?_
    refine AR.meet (l := []) 28 (B ((decide ((x11.toNat : Int) < 48)) || (decide (57 < (x15.toNat : Int))))) (fun K => ?_) ?_
    ·rcases Bool.eq_false_or_eq_true (decide ((x11.toNat : Int) < 48)) with h13 | h13
     ·
      refine gF h13 rfl rfl rfl rfl rfl ?_
      refine gF h13 rfl rfl rfl rfl rfl ?_
      refine gF h13 rfl rfl rfl rfl rfl ?_
      refine gF h13 rfl rfl rfl rfl rfl ?_
      refine sS rfl rfl rfl (opS_pick_t (av := .v _) rfl h13 rfl) ?_
      exact K _ 4 _ (B_congr (or_t h13)) rfl rfl
     ·
      refine gT h13 rfl rfl rfl rfl rfl rfl (AO.ops rfl rfl (mv rfl) ?_)
      refine gT h13 rfl rfl rfl rfl rfl rfl (AO.ops rfl rfl (mv rfl) ?_)
      refine gT h13 rfl rfl rfl rfl rfl rfl (AO.ops rfl rfl (g_index_str Tryz.underlying9 rfl rfl (g14 (nf h13)) e16) ?_)
      refine gT h13 rfl rfl rfl rfl rfl rfl (AO.ops rfl rfl (opS_gt rfl rfl) ?_)
      refine sS rfl rfl rfl (opS_pick_f (av := .v _) rfl h13 rfl) ?_
      exact K _ 4 _ (B_congr (or_f h13)) rfl rfl
    refine AR.nil ?_
    show AW _ _ _ _ _ _
    refine AW.cond rfl (fun c17 => ?_) (fun c17 => ?_)
    ·replace H := cnd_t c17 H
     refine AW.seq ?_
     refine AW.region ?_
     show AR _ _ _ _ _ [0] _
     refine sS rfl rfl rfl (asg rfl) ?_
     refine AR.nil ?_
     show AW _ _ _ _ _ _
     refine AW.ret ?_
     obtain rfl := Option.some.inj H
     exact And.intro rfl (Exists.intro _ (Exists.intro _ ⟨ResV.oneW rfl (.refl _), Sub.at [] rfl, rfl, rfl⟩))
    ·replace H := cnd_f c17 H
     refine AW.skip ?_
     show AW _ _ _ _ _ _
     obtain ⟨g18, H⟩ := grd_s H
     obtain ⟨g19, H⟩ := grd_s H
     obtain ⟨x20, e21, H⟩ := lt_s H
     obtain ⟨g22, H⟩ := grd_s H
     refine AW.region ?_
     show AR _ _ _ _ _ [0, 1, 2, 3, 4, 5, 6, 7, 8] _
     refine sS rfl rfl rfl (mv rfl) ?_
     refine sS rfl rfl rfl (g_mul rfl rfl g18) ?_
     refine sS rfl rfl rfl (mv rfl) ?_
     refine sS rfl rfl rfl (mv rfl) ?_
     refine sS rfl rfl rfl (g_index_str Tryz.underlying9 rfl rfl g19 e21) ?_
     refine sS rfl rfl rfl (g_sub8 (a := x20) (b := 48) rfl rfl) ?_
     refine sS rfl rfl rfl (opS_conv_u8 (c := x20 - 48) (by kernel_rfl) Tryz.underlying3 rfl) ?_
     refine sS rfl rfl rfl (g_add rfl rfl g22) ?_
     refine sS rfl rfl rfl (asg rfl) ?_
     refine AR.nil ?_
     show AW _ _ _ _ _ _
     obtain ⟨g23, H⟩ := grd_s H
     refine AW.region ?_
     show AR _ _ _ _ _ [0, 1, 2] _
     refine sS rfl rfl rfl (mv rfl) ?_
     refine sS rfl rfl rfl (g_add rfl rfl g23) ?_
     refine sS rfl rfl rfl (asg rfl) ?_
     refine AR.nil ?_
     exact Exists.intro (n8, (10 * y5) + ((x20 - 48).toNat : Int), y6 + 1) ⟨H, Nat.lt_succ_self _, WK.at [] (.cons (.refl _) (.cons (.refl _) (.cons (.refl _) (.nil _)))) rfl⟩
   ·replace H := cnd_f c9 H
    refine AW.exit ?_
    exact Exists.intro y5 ⟨H, WK.at [] (.cons (.refl _) (.nil _)) rfl⟩
  rintro y24 H
  replace H : ref05_digits_j1 y24 = some r2 := H
  unfold ref05_digits_j1 at H
  show AW _ _ _ _ _ _
  refine AW.seq ?_
  refine AW.region ?_
  show AR _ _ _ _ _ [0, 1] _
  refine sS rfl rfl rfl (mv rfl) ?_
  refine sS rfl rfl rfl (asg rfl) ?_
  refine AR.nil ?_
  show AW _ _ _ _ _ _
  refine AW.ret ?_
  obtain rfl := Option.some.inj H
  exact And.intro rfl (Exists.intro _ (Exists.intro _ ⟨ResV.oneW rfl (.refl _), Sub.at [] rfl, rfl, rfl⟩))
set_option maxRecDepth 100000 in
set_option maxHeartbeats 1000000 in
theorem w_ref05_named (F : Nat) (a1 : List UInt8) (a2 : List UInt8) (a3 : Int) (r4 : Int) (H : ref05_named F a1 a2 a3 = some r4) : ACalls Tryz.prog 67 [S a1, S a2, i64 a3] [] (Ret (i64 r4) []) := by
 unfold ref05_named at H
 refine ACalls.of_body Tryz.func67 rfl rfl ?_
 show AW _ _ 33 _ _ _
 refine AW.seq ?_
 refine AW.region ?_
 show AR _ _ _ _ _ [0] _
 refine sS rfl rfl rfl (asg rfl) ?_
 refine AR.nil ?_
 show AW _ _ _ _ _ _
 refine AW.seq ?_
 refine AW.seq ?_
 refine AW.region ?_
 show AR _ _ _ _ _ [0, 1, 2] _
 refine sS rfl rfl rfl (mv rfl) ?_
 refine sS rfl rfl rfl (opS_len_str Tryz.underlying9 rfl) ?_
 refine sS rfl rfl rfl (opS_nei rfl rfl) ?_
 refine AR.nil ?_
 show AW _ _ _ _ _ _
 refine AW.cond rfl (fun c5 => ?_) (fun c5 => ?_)
 ·replace H := cnd_t c5 H
  refine AW.seq ?_
  refine AW.region ?_
  show AR _ _ _ _ _ [0] _
  refine sS rfl rfl rfl (asg rfl) ?_
  refine AR.nil ?_
  show AW _ _ _ _ _ _
  refine AW.ret ?_
  obtain rfl := Option.some.inj H
  exact And.intro rfl (Exists.intro _ (Exists.intro _ ⟨ResV.oneW rfl (.refl _), Sub.at [] rfl, rfl, rfl⟩))
 ·replace H := cnd_f c5 H
  refine AW.skip ?_
  show AW _ _ _ _ _ _
  refine AW.seq ?_
  obtain ⟨x6, e7, H⟩ := bnd_s H
  refine AW.region ?_
  show AR _ _ _ _ _ [0, 1, 2] _
  refine sS rfl rfl rfl (mv rfl) ?_
  refine AR.run rfl rfl (AO.callp rfl en83_cronr rfl (w_ref05_Small F a1 x6 e7) ?_)
  refine sS rfl rfl rfl (asg rfl) ?_
  refine AR.nil ?_
  show AW _ _ _ _ _ _
  refine AW.cut (X := Unit) (fun _ => ⟨[], [], []⟩) (fun _ => ref05_named_j1 = some r4) ?_ ?_
  ·
   refine AW.seq ?_
   refine AW.region ?_
   show AR _ _ _ _ _ [0] _
   refine sS rfl rfl rfl (asg rfl) ?_
   refine AR.nil ?_
   show AW _ _ _ _ _ _
   refine AW.block ?_
   refine AW.loop (X := Nat × Int) (fun (n10, y8) => ⟨[(1, S a2), (2, i64 a3), (7, S x6), (8, i64 y8)], [], []⟩) (fun (n10, y8) => ref05_named_L1 a2 a3 x6 n10 y8 = some r4) (fun (n10, y8) => n10) (F, 0) H (WK.at [] (.cons (.refl _) (.cons (.refl _) (.cons (.refl _) (.cons (.refl _) (.nil _))))) rfl) ?_
   rintro ⟨n10, y8⟩ H
   obtain ⟨n10, rfl, H⟩ := loop_s H
   replace H : ref05_named_B1 a2 a3 x6 (ref05_named_L1 a2 a3 x6 n10) y8 = some r4 := H
   unfold ref05_named_B1 at H
   show AW _ _ _ _ _ _
   refine AW.seq ?_
   refine AW.seq ?_
   obtain ⟨g11, H⟩ := grd_s H
   refine AW.region ?_
   show AR _ _ _ _ _ [0, 1, 2, 3, 4] _
   refine sS rfl rfl rfl (mv rfl) ?_
   refine sS rfl rfl rfl (g_mul rfl rfl g11) ?_
   refine sS rfl rfl rfl (mv rfl) ?_
   refine sS rfl rfl rfl (opS_len_str Tryz.underlying9 rfl) ?_
   refine sS rfl rfl rfl (opS_lt rfl rfl) ?_
   refine AR.nil ?_
   show AW _ _ _ _ _ _
   refine AW.cond rfl (fun c12 => ?_) (fun c12 => ?_)
   ·replace H := cnd_t c12 H
    refine AW.skip ?_
    show AW _ _ _ _ _ _
    refine AW.seq ?_
    refine AW.block ?_
    refine AW.seq ?_
    obtain ⟨g13, H⟩ := grd_s H
    obtain ⟨g14, H⟩ := grd_s H
    obtain ⟨g15, H⟩ := grd_s H
    obtain ⟨g16, H⟩ := grd_s H
    obtain ⟨x17, e18, H⟩ := lt_s H
    refine AW.region ?_
    show AR _ _ _ _ _ [0, 1, 2, 3, 4, 5, 6, 7, 8] _
    refine sS rfl rfl rfl (mv rfl) ?_
    refine sS rfl rfl rfl (mv rfl) ?_
    refine sS rfl rfl rfl (g_mul rfl rfl g13) ?_
    refine sS rfl rfl rfl (mv rfl) ?_
    refine sS rfl rfl rfl (g_mul rfl rfl g14) ?_
    refine sS rfl rfl rfl (g_add rfl rfl g15) ?_
    refine sS rfl rfl rfl (g_slice_str Tryz.underlying9 rfl rfl rfl g16 e18) ?_
    refine sS rfl rfl rfl (mv rfl) ?_
    refine sS rfl rfl rfl (opS_eqs rfl rfl) ?_
    refine AR.nil ?_
    show AW _ _ _ _ _ _
    refine AW.cond rfl (fun c19 => ?_) (fun c19 => ?_)
    ·replace H := cnd_t c19 H
     refine AW.seq ?_
     obtain ⟨g20, H⟩ := grd_s H
     refine AW.region ?_
     show AR _ _ _ _ _ [0, 1, 2, 3] _
     refine sS rfl rfl rfl (mv rfl) ?_
     refine sS rfl rfl rfl (mv rfl) ?_
     refine sS rfl rfl rfl (g_add rfl rfl g20) ?_
     refine sS rfl rfl rfl (asg rfl) ?_
     refine AR.nil ?_
     show AW _ _ _ _ _ _
     refine AW.ret ?_
     obtain rfl := Option.some.inj H
     exact And.intro rfl (Exists.intro _ (Exists.intro _ ⟨ResV.oneW rfl (.refl _), Sub.at [] rfl, rfl, rfl⟩))
    ·replace H := cnd_f c19 H
     refine AW.skip ?_
     show AW _ _ _ _ _ _
     obtain ⟨g21, H⟩ := grd_s H
     refine AW.region ?_
     show AR _ _ _ _ _ [0, 1, 2] _
     refine sS rfl rfl rfl (mv rfl) ?_
     refine sS rfl rfl rfl (g_add rfl rfl g21) ?_
     refine sS rfl rfl rfl (asg rfl) ?_
     refine AR.nil ?_
     exact Exists.intro (n10, y8 + 1) ⟨H, Nat.lt_succ_self _, WK.at [] (.cons (.refl _) (.cons (.refl _) (.cons (.refl _) (.cons (.refl _) (.nil _))))) rfl⟩
   ·replace H := cnd_f c12 H
    refine AW.exit ?_
    exact Exists.intro () ⟨H, WK.at [] (.nil _) rfl⟩
  rintro _ H
  replace H : ref05_named_j1 = some r4 := H
  unfold ref05_named_j1 at H
  show AW _ _ _ _ _ _
  refine AW.seq ?_
  refine AW.region ?_
  show AR _ _ _ _ _ [0] _
  refine sS rfl rfl rfl (asg rfl) ?_
  refine AR.nil ?_
  show AW _ _ _ _ _ _
  refine AW.ret ?_
  obtain rfl := Option.some.inj H
  exact And.intro rfl (Exists.intro _ (Exists.intro _ ⟨ResV.oneW rfl (.refl _), Sub.at [] rfl, rfl, rfl⟩))
set_option maxRecDepth 100000 in
set_option maxHeartbeats 1000000 in
theorem w_ref05_number (F : Nat) (a1 : Int) (a2 : List UInt8) (r3 : Int) (H : ref05_number F a1 a2 = some r3) : ACalls Tryz.prog 52 [i64 a1, S a2] [] (Ret (i64 r3) []) := by
 unfold ref05_number at H
 refine ACalls.of_body Tryz.func52 rfl rfl ?_
 show AW _ _ 39 _ _ _
 refine AW.seq ?_
 refine AW.region ?_
 show AR _ _ _ _ _ [0] _
 refine sS rfl rfl rfl (asg rfl) ?_
 refine AR.nil ?_
 show AW _ _ _ _ _ _
 refine AW.seq ?_
 obtain ⟨x4, e5, H⟩ := bnd_s H
 refine AW.region ?_
 show AR _ _ _ _ _ [0, 1, 2] _
 refine sS rfl rfl rfl (mv rfl) ?_
 refine AR.run rfl rfl (AO.callp rfl en51_cronr rfl (w_ref05_digits F a2 x4 e5) ?_)
 refine sS rfl rfl rfl (asg rfl) ?_
 refine AR.nil ?_
 show AW _ _ _ _ _ _
 refine AW.cut (X := Int) (fun y10 => ⟨[(0, i64 a1), (1, S a2), (5, i64 y10)], [], []⟩) (fun y10 => ref05_number_j3 F a1 a2 y10 = some r3) ?_ ?_
 ·
  refine AW.seq ?_
  refine AW.region ?_
  show AR _ _ _ _ _ [0, 1, 2, 3, 4, 5] _
  refine sS rfl rfl rfl (mv rfl) ?_
  refine sS rfl rfl rfl (opS_eqi rfl rfl) ?_
  refine sS rfl rfl rfl (mv rfl) ?_
  refine AR.meet (l := []) 14 (B ((decide (a1 = 3)) && (decide (x4 < 0)))) (fun K => ?_) ?_
  ·rcases Bool.eq_false_or_eq_true (decide (a1 = 3)) with h6 | h6
   ·
    refine gT h6 rfl rfl rfl rfl rfl rfl (AO.ops rfl rfl (mv rfl) ?_)
    refine gT h6 rfl rfl rfl rfl rfl rfl (AO.ops rfl rfl (opS_lt rfl rfl) ?_)
    refine sS rfl rfl rfl (opS_pick_t (av := .v _) rfl h6 rfl) ?_
    exact K _ 2 _ (B_congr (and_t h6)) rfl rfl
   ·
    refine gF h6 rfl rfl rfl rfl rfl ?_
    refine gF h6 rfl rfl rfl rfl rfl ?_
    refine sS rfl rfl rfl (opS_pick_f (av := .v _) rfl h6 rfl) ?_
    exact K _ 2 _ (B_congr (and_f h6)) rfl rfl
  refine AR.nil ?_
  show AW _ _ _ _ _ _
  refine AW.cond rfl (fun c7 => ?_) (fun c7 => ?_)
  ·replace H := cnd_t c7 H
   obtain ⟨x8, e9, H⟩ := bnd_s H
   refine AW.region ?_
   show AR _ _ _ _ _ [0, 1, 2] _
   refine sS rfl rfl rfl (mv rfl) ?_
   refine AR.run rfl rfl (AO.callp rfl en67_cronr rfl (w_ref05_named F a2 cronr_k1 1 x8 e9) ?_)
   refine sS rfl rfl rfl (asg rfl) ?_
   refine AR.nil ?_
   exact Exists.intro x8 ⟨H, WK.at [] (.cons (.refl _) (.cons (.refl _) (.cons (.refl _) (.nil _)))) rfl⟩
  ·replace H := cnd_f c7 H
   refine AW.skip ?_
   exact Exists.intro x4 ⟨H, WK.at [] (.cons (.refl _) (.cons (.refl _) (.cons (.refl _) (.nil _)))) rfl⟩
 rintro y10 H
 replace H : ref05_number_j3 F a1 a2 y10 = some r3 := H
 unfold ref05_number_j3 at H
 show AW _ _ _ _ _ _
 refine AW.cut (X := Int) (fun y16 => ⟨[(0, i64 a1), (5, i64 y16)], [], []⟩) (fun y16 => ref05_number_j2 F a1 y16 = some r3) ?_ ?_
 ·
  refine AW.seq ?_
  refine AW.region ?_
  show AR _ _ _ _ _ [0, 1, 2, 3, 4, 5] _
  refine sS rfl rfl rfl (mv rfl) ?_
  refine sS rfl rfl rfl (opS_eqi rfl rfl) ?_
  refine sS rfl rfl rfl (mv rfl) ?_
  refine AR.meet (l := []) 22 (B ((decide (a1 = 4)) && (decide (y10 < 0)))) (fun K => ?_) ?_
  ·rcases Bool.eq_false_or_eq_true (decide (a1 = 4)) with h12 | h12
   ·
    refine gT h12 rfl rfl rfl rfl rfl rfl (AO.ops rfl rfl (mv rfl) ?_)
    refine gT h12 rfl rfl rfl rfl rfl rfl (AO.ops rfl rfl (opS_lt rfl rfl) ?_)
    refine sS rfl rfl rfl (opS_pick_t (av := .v _) rfl h12 rfl) ?_
    exact K _ 2 _ (B_congr (and_t h12)) rfl rfl
   ·
    refine gF h12 rfl rfl rfl rfl rfl ?_
    refine gF h12 rfl rfl rfl rfl rfl ?_
    refine sS rfl rfl rfl (opS_pick_f (av := .v _) rfl h12 rfl) ?_
    exact K _ 2 _ (B_congr (and_f h12)) rfl rfl
  refine AR.nil ?_
  show AW _ _ _ _ _ _
  refine AW.cond rfl (fun c13 => ?_) (fun c13 => ?_)
  ·replace H := cnd_t c13 H
   obtain ⟨x14, e15, H⟩ := bnd_s H
   refine AW.region ?_
   show AR _ _ _ _ _ [0, 1, 2] _
   refine sS rfl rfl rfl (mv rfl) ?_
   refine AR.run rfl rfl (AO.callp rfl en67_cronr rfl (w_ref05_named F a2 cronr_k2 0 x14 e15) ?_)
   refine sS rfl rfl rfl (asg rfl) ?_
   refine AR.nil ?_
   exact Exists.intro x14 ⟨H, WK.at [] (.cons (.refl _) (.cons (.refl _) (.nil _))) rfl⟩
  ·replace H := cnd_f c13 H
   refine AW.skip ?_
   exact Exists.intro y10 ⟨H, WK.at [] (.cons (.refl _) (.cons (.refl _) (.nil _))) rfl⟩
 rintro y16 H
 replace H : ref05_number_j2 F a1 y16 = some r3 := H
 unfold ref05_number_j2 at H
 show AW _ _ _ _ _ _
 refine AW.seq ?_
 obtain ⟨x18, e19, H⟩ := bnd_s H
 refine AW.region ?_
 show AR _ _ _ _ _ [0, 1, 2] _
 refine sS rfl rfl rfl (mv rfl) ?_
 refine AR.run rfl rfl (AO.callp rfl en36_cronr rfl (w_ref05_High F a1 x18 e19) ?_)
 refine sS rfl rfl rfl (asg rfl) ?_
 refine AR.nil ?_
 show AW _ _ _ _ _ _
 refine AW.cut (X := Int) (fun y21 => ⟨[(0, i64 a1), (5, i64 y16), (6, i64 y21)], [], []⟩) (fun y21 => ref05_number_j1 F a1 y16 y21 = some r3) ?_ ?_
 ·
  refine AW.seq ?_
  refine AW.region ?_
  show AR _ _ _ _ _ [0, 1] _
  refine sS rfl rfl rfl (mv rfl) ?_
  refine sS rfl rfl rfl (opS_eqi rfl rfl) ?_
  refine AR.nil ?_
  show AW _ _ _ _ _ _
  refine AW.cond rfl (fun c20 => ?_) (fun c20 => ?_)
  ·replace H := cnd_t c20 H
   refine AW.region ?_
   show AR _ _ _ _ _ [0] _
   refine sS rfl rfl rfl (asg rfl) ?_
   refine AR.nil ?_
   exact Exists.intro 7 ⟨H, WK.at [] (.cons (.refl _) (.cons (.refl _) (.cons (.refl _) (.nil _)))) rfl⟩
  ·replace H := cnd_f c20 H
   refine AW.skip ?_
   exact Exists.intro x18 ⟨H, WK.at [] (.cons (.refl _) (.cons (.refl _) (.cons (.refl _) (.nil _)))) rfl⟩
 rintro y21 H
 replace H : ref05_number_j1 F a1 y16 y21 = some r3 := H
 unfold ref05_number_j1 at H
 show AW _ _ _ _ _ _
 refine AW.seq ?_
 refine AW.seq ?_
 obtain ⟨x23, e24, H⟩ := bnd_s H
 refine AW.region ?_
 show AR _ _ _ _ _ [0, 1, 2, 3, 4, 5, 6, 7, 8] _
 refine sS rfl rfl rfl (mv rfl) ?_
 refine sS rfl rfl rfl (mv rfl) ?_
 refine AR.run rfl rfl (AO.callp rfl en35_cronr rfl (w_ref05_Low F a1 x23 e24) ?_)
 refine sS rfl rfl rfl (opS_lt rfl rfl) ?_
 refine sS rfl rfl rfl (mv rfl) ?_
 refine AR.meet (l := []) 37 (B ((decide (y16 < x23)) || (decide (y21 < y16)))) (fun K => ?_) ?_
 ·rcases Bool.eq_false_or_eq_true (decide (y16 < x23)) with h25 | h25
  ·
   refine gF h25 rfl rfl rfl rfl rfl ?_
   refine gF h25 rfl rfl rfl rfl rfl ?_
   refine gF h25 rfl rfl rfl rfl rfl ?_
   refine sS rfl rfl rfl (opS_pick_t (av := .v _) rfl h25 rfl) ?_
   exact K _ 3 _ (B_congr (or_t h25)) rfl rfl
  ·
   refine gT h25 rfl rfl rfl rfl rfl rfl (AO.ops rfl rfl (mv rfl) ?_)
   refine gT h25 rfl rfl rfl rfl rfl rfl (AO.ops rfl rfl (mv rfl) ?_)
   refine gT h25 rfl rfl rfl rfl rfl rfl (AO.ops rfl rfl (opS_gt rfl rfl) ?_)
   refine sS rfl rfl rfl (opS_pick_f (av := .v _) rfl h25 rfl) ?_
   exact K _ 3 _ (B_congr (or_f h25)) rfl rfl
 refine AR.nil ?_
 show AW _ _ _ _ _ _
 refine AW.cond rfl (fun c26 => ?_) (fun c26 => ?_)
 ·replace H := cnd_t c26 H
  refine AW.seq ?_
  refine AW.region ?_
  show AR _ _ _ _ _ [0] _
  refine sS rfl rfl rfl (asg rfl) ?_
  refine AR.nil ?_
  show AW _ _ _ _ _ _
  refine AW.ret ?_
  obtain rfl := Option.some.inj H
  exact And.intro rfl (Exists.intro _ (Exists.intro _ ⟨ResV.oneW rfl (.refl _), Sub.at [] rfl, rfl, rfl⟩))
 ·replace H := cnd_f c26 H
  refine AW.skip ?_
  show AW _ _ _ _ _ _
  refine AW.seq ?_
  refine AW.region ?_
  show AR _ _ _ _ _ [0, 1] _
  refine sS rfl rfl rfl (mv rfl) ?_
  refine sS rfl rfl rfl (asg rfl) ?_
  refine AR.nil ?_
  show AW _ _ _ _ _ _
  refine AW.ret ?_
  obtain rfl := Option.some.inj H
  exact And.intro rfl (Exists.intro _ (Exists.intro _ ⟨ResV.oneW rfl (.refl _), Sub.at [] rfl, rfl, rfl⟩))
set_option maxRecDepth 100000 in
set_option maxHeartbeats 1000000 in
theorem w_ref05_piece (F : Nat) (a1 : Int) (a2 : List UInt8) (r3 : List Int) (H : ref05_piece F a1 a2 = some r3) : ACalls Tryz.prog 34 [i64 a1, S a2] [] (Ret (slE Enc.int r3 none) []) := by
 unfold ref05_piece at H
 refine ACalls.of_body Tryz.func34 rfl rfl ?_
 show AW _ _ 89 _ _ _
 refine AW.seq ?_
 refine AW.region ?_
 show AR _ _ _ _ _ [0] _
 refine sS rfl rfl rfl (asg rfl) ?_
 refine AR.nil ?_
 show AW _ _ _ _ _ _
 refine AW.seq ?_
 obtain ⟨x4, e5, H⟩ := bnd_s H
 refine AW.region ?_
 show AR _ _ _ _ _ [0, 1, 2] _
 refine sS rfl rfl rfl (mv rfl) ?_
 refine AR.run rfl rfl (AO.callp rfl en33_cronr rfl (w_ref05_Split F a2 47 x4 e5) ?_)
 refine sS rfl rfl rfl (opS_assign (av := slE _ _ _) rfl) ?_
 refine AR.nil ?_
 show AW _ _ _ _ _ _
 refine AW.seq ?_
 refine AW.seq ?_
 refine AW.region ?_
 show AR _ _ _ _ _ [0, 1, 2] _
 refine sS rfl rfl rfl (opS_move (av := slE _ _ _) rfl) ?_
 refine sS rfl rfl rfl (opS_len_sl Tryz.underlying53 rfl) ?_
 refine sS rfl rfl rfl (opS_gt rfl rfl) ?_
 refine AR.nil ?_
 show AW _ _ _ _ _ _
 refine AW.cond rfl (fun c6 => ?_) (fun c6 => ?_)
 ·replace H := cnd_t c6 H
  refine AW.seq ?_
  refine AW.region ?_
  show AR _ _ _ _ _ [0] _
  refine sS rfl rfl rfl (asg rfl) ?_
  refine AR.nil ?_
  show AW _ _ _ _ _ _
  refine AW.ret ?_
  obtain rfl := Option.some.inj H
  exact And.intro rfl (Exists.intro _ (Exists.intro _ ⟨ResV.oneW rfl (.nil _), Sub.at [] rfl, rfl, rfl⟩))
 ·replace H := cnd_f c6 H
  refine AW.skip ?_
  show AW _ _ _ _ _ _
  refine AW.seq ?_
  refine AW.region ?_
  show AR _ _ _ _ _ [0] _
  refine sS rfl rfl rfl (asg rfl) ?_
  refine AR.nil ?_
  show AW _ _ _ _ _ _
  refine AW.cut (X := Int) (fun y13 => ⟨[(0, i64 a1), (5, slE Enc.str x4 none), (6, i64 y13)], [], []⟩) (fun y13 => ref05_piece_j3 F a1 x4 y13 = some r3) ?_ ?_
  ·
   refine AW.seq ?_
   refine AW.region ?_
   show AR _ _ _ _ _ [0, 1, 2] _
   refine sS rfl rfl rfl (opS_move (av := slE _ _ _) rfl) ?_
   refine sS rfl rfl rfl (opS_len_sl Tryz.underlying53 rfl) ?_
   refine sS rfl rfl rfl (opS_eqi rfl rfl) ?_
   refine AR.nil ?_
   show AW _ _ _ _ _ _
   refine AW.cond rfl (fun c7 => ?_) (fun c7 => ?_)
   ·replace H := cnd_t c7 H
    obtain ⟨g8, H⟩ := grd_s H
    obtain ⟨x9, e10, H⟩ := lt_s H
    obtain ⟨x11, e12, H⟩ := bnd_s H
    refine AW.region ?_
    show AR _ _ _ _ _ [0, 1, 2, 3, 4] _
    refine sS rfl rfl rfl (opS_move (av := slE _ _ _) rfl) ?_
    refine sS rfl rfl rfl (g_indexAddr (E := Enc.str) Tryz.underlying53 (by kernel_rfl) rfl rfl g8 e10) ?_
    refine sS rfl rfl rfl (opS_load_cp Tryz.underlying9 rfl rfl) ?_
    refine AR.run rfl rfl (AO.callp rfl en51_cronr rfl (w_ref05_digits F x9 x11 e12) ?_)
    refine sS rfl rfl rfl (asg rfl) ?_
    refine AR.nil ?_
    exact Exists.intro x11 ⟨H, WK.at [] (.cons (.refl _) (.cons (.refl _) (.cons (.refl _) (.nil _)))) rfl⟩
   ·replace H := cnd_f c7 H
    refine AW.skip ?_
    exact Exists.intro 1 ⟨H, WK.at [] (.cons (.refl _) (.cons (.refl _) (.cons (.refl _) (.nil _)))) rfl⟩
  rintro y13 H
  replace H : ref05_piece_j3 F a1 x4 y13 = some r3 := H
  unfold ref05_piece_j3 at H
  show AW _ _ _ _ _ _
  refine AW.seq ?_
  obtain ⟨x15, e16, H⟩ := bnd_s H
  refine AW.region ?_
  show AR _ _ _ _ _ [0, 1, 2] _
  refine sS rfl rfl rfl (mv rfl) ?_
  refine AR.run rfl rfl (AO.callp rfl en35_cronr rfl (w_ref05_Low F a1 x15 e16) ?_)
  refine sS rfl rfl rfl (asg rfl) ?_
  refine AR.nil ?_
  show AW _ _ _ _ _ _
  refine AW.seq ?_
  obtain ⟨x17, e18, H⟩ := bnd_s H
  refine AW.region ?_
  show AR _ _ _ _ _ [0, 1, 2] _
  refine sS rfl rfl rfl (mv rfl) ?_
  refine AR.run rfl rfl (AO.callp rfl en36_cronr rfl (w_ref05_High F a1 x17 e18) ?_)
  refine sS rfl rfl rfl (asg rfl) ?_
  refine AR.nil ?_
  show AW _ _ _ _ _ _
  refine AW.cut (X := Int × Int) (fun (y42, y43) => ⟨[(6, i64 y13), (7, i64 y42), (8, i64 y43)], [], []⟩) (fun (y42, y43) => ref05_piece_j2 F y13 y42 y43 = some r3) ?_ ?_
  ·
   refine AW.seq ?_
   obtain ⟨g19, H⟩ := grd_s H
   obtain ⟨x20, e21, H⟩ := lt_s H
   refine AW.region ?_
   show AR _ _ _ _ _ [0, 1, 2, 3] _
   refine sS rfl rfl rfl (opS_move (av := slE _ _ _) rfl) ?_
   refine sS rfl rfl rfl (g_indexAddr (E := Enc.str) Tryz.underlying53 (by kernel_rfl) rfl rfl g19 e21) ?_
   refine sS rfl rfl rfl (opS_load_cp Tryz.underlying9 rfl rfl) ?_
   refine sS rfl rfl rfl (opS_nes rfl rfl) ?_
   refine AR.nil ?_
   show AW _ _ _ _ _ _
   refine AW.cond rfl (fun c22 => ?_) (fun c22 => ?_)
   ·replace H := cnd_t c22 H
    refine AW.seq ?_
    obtain ⟨g23, H⟩ := grd_s H
    obtain ⟨x24, e25, H⟩ := lt_s H
    obtain ⟨x26, e27, H⟩ := bnd_s H
    refine AW.region ?_
    show AR _ _ _ _ _ [0, 1, 2, 3, 4] _
    refine sS rfl rfl rfl (opS_move (av := slE _ _ _) rfl) ?_
    refine sS rfl rfl rfl (g_indexAddr (E := Enc.str) Tryz.underlying53 (by kernel_rfl) rfl rfl g23 e25) ?_
    refine sS rfl rfl rfl (opS_load_cp Tryz.underlying9 rfl rfl) ?_
    refine AR.run rfl rfl (AO.callp rfl en33_cronr rfl (w_ref05_Split F x24 45 x26 e27) ?_)
    refine sS rfl rfl rfl (opS_assign (av := slE _ _ _) rfl) ?_
    refine AR.nil ?_
    show AW _ _ _ _ _ _
    refine AW.seq ?_
    refine AW.seq ?_
    refine AW.region ?_
    show AR _ _ _ _ _ [0, 1, 2, 3, 4, 5, 6, 7, 8, 9, 10, 11, 12] _
    refine sS rfl rfl rfl (opS_move (av := slE _ _ _) rfl) ?_
    refine sS rfl rfl rfl (opS_len_sl Tryz.underlying53 rfl) ?_
    refine sS rfl rfl rfl (opS_gt rfl rfl) ?_
    refine sS rfl rfl rfl (mv rfl) ?_
    refine AR.meet (l := []) 48 (B ((decide (2 < (x26.length : Int))) || ((decide ((x26.length : Int) = 1)) && (decide ((x4.length : Int) = 2))))) (fun K => ?_) ?_
    ·rcases Bool.eq_false_or_eq_true (decide (2 < (x26.length : Int))) with h28 | h28
     ·
      refine gF h28 rfl rfl rfl rfl rfl ?_
      refine gF h28 rfl rfl rfl rfl rfl ?_
      refine gF h28 rfl rfl rfl rfl rfl ?_
      refine gF h28 rfl rfl rfl rfl rfl ?_
      refine gU rfl rfl rfl rfl rfl ?_
      refine gU rfl rfl rfl rfl rfl ?_
      refine gU rfl rfl rfl rfl rfl ?_
      refine gF h28 rfl rfl rfl rfl rfl ?_
      refine sS rfl rfl rfl (opS_pick_t (av := .v _) rfl h28 rfl) ?_
      exact K _ 8 _ (B_congr (or_t h28)) rfl rfl
     ·
      refine gT h28 rfl rfl rfl rfl rfl rfl (AO.ops rfl rfl (opS_move (av := slE _ _ _) rfl) ?_)
      refine gT h28 rfl rfl rfl rfl rfl rfl (AO.ops rfl rfl (opS_len_sl Tryz.underlying53 rfl) ?_)
      refine gT h28 rfl rfl rfl rfl rfl rfl (AO.ops rfl rfl (opS_eqi rfl rfl) ?_)
      refine gT h28 rfl rfl rfl rfl rfl rfl (AO.ops rfl rfl (mv rfl) ?_)
      refine AR.meet (l := [12]) 47 (B ((decide ((x26.length : Int) = 1)) && (decide ((x4.length : Int) = 2)))) (fun K => ?_) ?_
      ·rcases Bool.eq_false_or_eq_true (decide ((x26.length : Int) = 1)) with h29 | h29
       ·
        refine gT h29 rfl rfl rfl rfl rfl rfl (AO.ops rfl rfl (opS_move (av := slE _ _ _) rfl) ?_)
        refine gT h29 rfl rfl rfl rfl rfl rfl (AO.ops rfl rfl (opS_len_sl Tryz.underlying53 rfl) ?_)
        refine gT h29 rfl rfl rfl rfl rfl rfl (AO.ops rfl rfl (opS_eqi rfl rfl) ?_)
        refine gT h28 rfl rfl rfl rfl rfl rfl (AO.ops rfl rfl (opS_pick_t (av := .v _) rfl h29 rfl) ?_)
        exact K _ 3 _ (B_congr (and_t h29)) rfl rfl
       ·
        refine gF h29 rfl rfl rfl rfl rfl ?_
        refine gF h29 rfl rfl rfl rfl rfl ?_
        refine gF h29 rfl rfl rfl rfl rfl ?_
        refine gT h28 rfl rfl rfl rfl rfl rfl (AO.ops rfl rfl (opS_pick_f (av := .v _) rfl h29 rfl) ?_)
        exact K _ 3 _ (B_congr (and_f h29)) rfl rfl
      refine sS rfl rfl rfl (opS_pick_f (av := .v _) rfl h28 rfl) ?_
      exact K _ 5 _ (B_congr (or_f h28)) rfl rfl
    refine AR.nil ?_
    show AW _ _ _ _ _ _
    refine AW.cond rfl (fun c30 => ?_) (fun c30 => ?_)
    ·replace H := cnd_t c30 H
     refine AW.seq ?_
     refine AW.region ?_
     show AR _ _ _ _ _ [0] _
     refine sS rfl rfl rfl (asg rfl) ?_
     refine AR.nil ?_
     show AW _ _ _ _ _ _
     refine AW.ret ?_
     obtain rfl := Option.some.inj H
     exact And.intro rfl (Exists.intro _ (Exists.intro _ ⟨ResV.oneW rfl (.nil _), Sub.at [] rfl, rfl, rfl⟩))
    ·replace H := cnd_f c30 H
     refine AW.skip ?_
     show AW _ _ _ _ _ _
     refine AW.seq ?_
     obtain ⟨g31, H⟩ := grd_s H
     obtain ⟨x32, e33, H⟩ := lt_s H
     obtain ⟨x34, e35, H⟩ := bnd_s H
     refine AW.region ?_
     show AR _ _ _ _ _ [0, 1, 2, 3, 4, 5] _
     refine sS rfl rfl rfl (mv rfl) ?_
     refine sS rfl rfl rfl (opS_move (av := slE _ _ _) rfl) ?_
     refine sS rfl rfl rfl (g_indexAddr (E := Enc.str) Tryz.underlying53 (by kernel_rfl) rfl rfl g31 e33) ?_
     refine sS rfl rfl rfl (opS_load_cp Tryz.underlying9 rfl rfl) ?_
     refine AR.run rfl rfl (AO.callp rfl en52_cronr rfl (w_ref05_number F a1 x32 x34 e35) ?_)
     refine sS rfl rfl rfl (asg rfl) ?_
     refine AR.nil ?_
     show AW _ _ _ _ _ _
     obtain ⟨g36, H⟩ := grd_s H
     obtain ⟨g37, H⟩ := grd_s H
     obtain ⟨x38, e39, H⟩ := lt_s H
     obtain ⟨x40, e41, H⟩ := bnd_s H
     refine AW.region ?_
     show AR _ _ _ _ _ [0, 1, 2, 3, 4, 5, 6, 7, 8] _
     refine sS rfl rfl rfl (mv rfl) ?_
     refine sS rfl rfl rfl (opS_move (av := slE _ _ _) rfl) ?_
     refine sS rfl rfl rfl (opS_move (av := slE _ _ _) rfl) ?_
     refine sS rfl rfl rfl (opS_len_sl Tryz.underlying53 rfl) ?_
     refine sS rfl rfl rfl (g_sub rfl rfl g36) ?_
     refine sS rfl rfl rfl (g_indexAddr (E := Enc.str) Tryz.underlying53 (by kernel_rfl) rfl rfl g37 e39) ?_
     refine sS rfl rfl rfl (opS_load_cp Tryz.underlying9 rfl rfl) ?_
     refine AR.run rfl rfl (AO.callp rfl en52_cronr rfl (w_ref05_number F a1 x38 x40 e41) ?_)
     refine sS rfl rfl rfl (asg rfl) ?_
     refine AR.nil ?_
     exact Exists.intro (x34, x40) ⟨H, WK.at [] (.cons (.refl _) (.cons (.refl _) (.cons (.refl _) (.nil _)))) rfl⟩
   ·replace H := cnd_f c22 H
    refine AW.skip ?_
    exact Exists.intro (x15, x17) ⟨H, WK.at [] (.cons (.refl _) (.cons (.refl _) (.cons (.refl _) (.nil _)))) rfl⟩
  rintro ⟨y42, y43⟩ H
  replace H : ref05_piece_j2 F y13 y42 y43 = some r3 := H
  unfold ref05_piece_j2 at H
  show AW _ _ _ _ _ _
  refine AW.seq ?_
  refine AW.seq ?_
  refine AW.region ?_
  show AR _ _ _ _ _ [0, 1, 2, 3, 4, 5, 6, 7, 8, 9, 10, 11, 12, 13, 14] _
  refine sS rfl rfl rfl (mv rfl) ?_
  refine sS rfl rfl rfl (opS_lt rfl rfl) ?_
  refine sS rfl rfl rfl (mv rfl) ?_
  refine AR.meet (l := [6, 7, 8, 9, 10, 11, 12, 13, 14]) 67 (B ((decide (y13 < 1)) || (decide (y42 < 0)))) (fun K => ?_) ?_
  ·rcases Bool.eq_false_or_eq_true (decide (y13 < 1)) with h45 | h45
   ·
    refine gF h45 rfl rfl rfl rfl rfl ?_
    refine gF h45 rfl rfl rfl rfl rfl ?_
    refine sS rfl rfl rfl (opS_pick_t (av := .v _) rfl h45 rfl) ?_
    exact K _ 2 _ (B_congr (or_t h45)) rfl rfl
   ·
    refine gT h45 rfl rfl rfl rfl rfl rfl (AO.ops rfl rfl (mv rfl) ?_)
    refine gT h45 rfl rfl rfl rfl rfl rfl (AO.ops rfl rfl (opS_lt rfl rfl) ?_)
    refine sS rfl rfl rfl (opS_pick_f (av := .v _) rfl h45 rfl) ?_
    exact K _ 2 _ (B_congr (or_f h45)) rfl rfl
  refine sS rfl rfl rfl (mv rfl) ?_
  refine AR.meet (l := [10, 11, 12, 13, 14]) 71 (B (((decide (y13 < 1)) || (decide (y42 < 0))) || (decide (y43 < 0)))) (fun K => ?_) ?_
  ·rcases Bool.eq_false_or_eq_true ((decide (y13 < 1)) || (decide (y42 < 0))) with h46 | h46
   ·
    refine gF h46 rfl rfl rfl rfl rfl ?_
    refine gF h46 rfl rfl rfl rfl rfl ?_
    refine sS rfl rfl rfl (opS_pick_t (av := .v _) rfl h46 rfl) ?_
    exact K _ 2 _ (B_congr (or_t h46)) rfl rfl
   ·
    refine gT h46 rfl rfl rfl rfl rfl rfl (AO.ops rfl rfl (mv rfl) ?_)
    refine gT h46 rfl rfl rfl rfl rfl rfl (AO.ops rfl rfl (opS_lt rfl rfl) ?_)
    refine sS rfl rfl rfl (opS_pick_f (av := .v _) rfl h46 rfl) ?_
    exact K _ 2 _ (B_congr (or_f h46)) rfl rfl
  refine sS rfl rfl rfl (mv rfl) ?_
  refine AR.meet (l := []) 76 (B ((((decide (y13 < 1)) || (decide (y42 < 0))) || (decide (y43 < 0))) || (decide (y43 < y42)))) (fun K => ?_) ?_
  ·rcases Bool.eq_false_or_eq_true (((decide (y13 < 1)) || (decide (y42 < 0))) || (decide (y43 < 0))) with h47 | h47
   ·
    refine gF h47 rfl rfl rfl rfl rfl ?_
    refine gF h47 rfl rfl rfl rfl rfl ?_
    refine gF h47 rfl rfl rfl rfl rfl ?_
    refine sS rfl rfl rfl (opS_pick_t (av := .v _) rfl h47 rfl) ?_
    exact K _ 3 _ (B_congr (or_t h47)) rfl rfl
   ·
    refine gT h47 rfl rfl rfl rfl rfl rfl (AO.ops rfl rfl (mv rfl) ?_)
    refine gT h47 rfl rfl rfl rfl rfl rfl (AO.ops rfl rfl (mv rfl) ?_)
    refine gT h47 rfl rfl rfl rfl rfl rfl (AO.ops rfl rfl (opS_gt rfl rfl) ?_)
    refine sS rfl rfl rfl (opS_pick_f (av := .v _) rfl h47 rfl) ?_
    exact K _ 3 _ (B_congr (or_f h47)) rfl rfl
  refine AR.nil ?_
  show AW _ _ _ _ _ _
  refine AW.cond rfl (fun c48 => ?_) (fun c48 => ?_)
  ·replace H := cnd_t c48 H
   refine AW.seq ?_
   refine AW.region ?_
   show AR _ _ _ _ _ [0] _
   refine sS rfl rfl rfl (asg rfl) ?_
   refine AR.nil ?_
   show AW _ _ _ _ _ _
   refine AW.ret ?_
   obtain rfl := Option.some.inj H
   exact And.intro rfl (Exists.intro _ (Exists.intro _ ⟨ResV.oneW rfl (.nil _), Sub.at [] rfl, rfl, rfl⟩))
  ·replace H := cnd_f c48 H
   refine AW.skip ?_
   show AW _ _ _ _ _ _
   refine AW.seq ?_
   refine AW.region ?_
   show AR _ _ _ _ _ [0] _
   refine sS rfl rfl rfl (asg rfl) ?_
   refine AR.nil ?_
   show AW _ _ _ _ _ _
   refine AW.nil_grows 10 1 3 rfl fun t49 => ?_
   show AW _ _ _ _ _ ⟨(10, slE Enc.int [] (some t49)) :: _, _, _⟩
   refine AW.cut (X := (List Int) × Nat) (fun (y61, t62) => ⟨[(10, slE Enc.int y61 (some t62))], [], [.tok t62 3]⟩) (fun (y61, t62) => ref05_piece_j1 y61 = some r3) ?_ ?_
   ·
    refine AW.seq ?_
    refine AW.region ?_
    show AR _ _ _ _ _ [0, 1] _
    refine sS rfl rfl rfl (mv rfl) ?_
    refine sS rfl rfl rfl (asg rfl) ?_
    refine AR.nil ?_
    show AW _ _ _ _ _ _
    refine AW.block ?_
    refine AW.loop (X := Nat × (List Int) × Nat × Int) (fun (n54, y50, t51, y52) => ⟨[(6, i64 y13), (8, i64 y43), (10, slE Enc.int y50 (some t51)), (11, i64 y52)], [], [.tok t51 3]⟩) (fun (n54, y50, t51, y52) => ref05_piece_L1 y13 y43 n54 (y50, y52) = some r3) (fun (n54, y50, t51, y52) => n54) (F, [], t49, y42) H (WK.at [0] (.cons (.refl _) (.cons (.refl _) (.cons (.refl _) (.cons (.refl _) (.nil _))))) rfl) ?_
    rintro ⟨n54, y50, t51, y52⟩ H
    obtain ⟨n54, rfl, H⟩ := loop_s H
    replace H : ref05_piece_B1 y13 y43 (ref05_piece_L1 y13 y43 n54) y50 y52 = some r3 := H
    unfold ref05_piece_B1 at H
    show AW _ _ _ _ _ _
    refine AW.seq ?_
    refine AW.seq ?_
    refine AW.region ?_
    show AR _ _ _ _ _ [0, 1, 2] _
    refine sS rfl rfl rfl (mv rfl) ?_
    refine sS rfl rfl rfl (mv rfl) ?_
    refine sS rfl rfl rfl (opS_le rfl rfl) ?_
    refine AR.nil ?_
    show AW _ _ _ _ _ _
    refine AW.cond rfl (fun c55 => ?_) (fun c55 => ?_)
    ·replace H := cnd_t c55 H
     refine AW.skip ?_
     show AW _ _ _ _ _ _
     refine AW.seq ?_
     refine AW.block ?_
     obtain ⟨g57, H⟩ := grd_s H
     obtain ⟨x58, e59, H⟩ := lt_s H
     refine AW.region ?_
     show AR _ _ _ _ _ [0, 1, 2, 3, 4] _
     refine sS rfl rfl rfl (opS_move (av := slE _ _ _) rfl) ?_
     refine sS rfl rfl rfl (mv rfl) ?_
     refine sR rfl rfl rfl (opR_buildE (E := Enc.int) (bytes := 8) (xs := [.tmp 85]) (l := ([y52] : List Int)) Tryz.underlying23 (by kernel_rfl) rfl rfl (by decide) rfl rfl) ?_
     refine sX rfl rfl rfl (g_append (E := Enc.int) (bytes := 8) 0 Tryz.underlying23 Tryz.underlying23 rfl (by kernel_rfl) rfl rfl rfl rfl g57 e59) ?_
     rintro _ _ ⟨t56, rfl, rfl⟩
     refine sS rfl rfl rfl (opS_assign (av := slE _ _ _) rfl) ?_
     refine AR.nil ?_
     show AW _ _ _ _ _ _
     obtain ⟨g60, H⟩ := grd_s H
     refine AW.region ?_
     show AR _ _ _ _ _ [0, 1, 2, 3] _
     refine sS rfl rfl rfl (mv rfl) ?_
     refine sS rfl rfl rfl (mv rfl) ?_
     refine sS rfl rfl rfl (g_add rfl rfl g60) ?_
     refine sS rfl rfl rfl (asg rfl) ?_
     refine AR.nil ?_
     exact Exists.intro (n54, x58, t56, y52 + y13) ⟨H, Nat.lt_succ_self _, WK.at [0] (.cons (.refl _) (.cons (.refl _) (.cons (.refl _) (.cons (.refl _) (.nil _))))) rfl⟩
    ·replace H := cnd_f c55 H
     refine AW.exit ?_
     exact Exists.intro (y50, t51) ⟨H, WK.at [0] (.cons (.refl _) (.nil _)) rfl⟩
   rintro ⟨y61, t62⟩ H
   replace H : ref05_piece_j1 y61 = some r3 := H
   unfold ref05_piece_j1 at H
   show AW _ _ _ _ _ _
   refine AW.seq ?_
   refine AW.region ?_
   show AR _ _ _ _ _ [0, 1] _
   refine sS rfl rfl rfl (opS_move (av := slE _ _ _) rfl) ?_
   refine sS rfl rfl rfl (opS_assign (av := slE _ _ _) rfl) ?_
   refine AR.nil ?_
   show AW _ _ _ _ _ _
   refine AW.ret ?_
   obtain rfl := Option.some.inj H
   exact And.intro rfl (Exists.intro _ (Exists.intro _ ⟨ResV.oneW rfl (.tok _ _ _), Sub.at [] rfl, rfl, rfl⟩))
set_option maxRecDepth 100000 in
set_option maxHeartbeats 1000000 in
theorem w_ref05_Parse (F : Nat) (a1 : List UInt8) (r2 : List Int) (r3 : List Int) (r4 : List Int) (r5 : List Int) (r6 : List Int) (r7 : Bool) (r8 : Bool) (r9 : Bool) (r10 : Bool) (r11 : Bool) (r12 : Int) (H : ref05_Parse F a1 = some (r2, r3, r4, r5, r6, r7, r8, r9, r10, r11, r12)) : ACalls Tryz.prog 11 [S a1] [] (Ret (.tup [.agg [slE Enc.int r2 none, slE Enc.int r3 none, slE Enc.int r4 none, slE Enc.int r5 none, slE Enc.int r6 none, B r7, B r8, B r9, B r10, B r11], i64 r12]) []) := by
 unfold ref05_Parse at H
 refine ACalls.of_body Tryz.func11 rfl rfl ?_
 show AW _ _ 104 _ _ _
 refine AW.seq ?_
 refine AW.region ?_
 show AR _ _ _ _ _ [0, 1] _
 refine sX rfl rfl rfl (opX_alloc (zs := [.slice none 0 0, .slice none 0 0, .slice none 0 0, .slice none 0 0, .slice none 0 0, .bool false, .bool false, .bool false, .bool false, .bool false]) (by kernel_rfl)) ?_
 rintro _ _ ⟨o13, rfl, rfl⟩
 refine sS rfl rfl rfl (asg rfl) ?_
 refine AR.nil ?_
 show AW _ _ _ _ _ _
 refine AW.seq ?_
 refine AW.region ?_
 show AR _ _ _ _ _ [0, 1, 2] _
 refine sS rfl rfl rfl (g_build (zs := [.slice none 0 0, .slice none 0 0, .slice none 0 0, .slice none 0 0, .slice none 0 0, .bool false, .bool false, .bool false, .bool false, .bool false]) (ps := [(0, 5), (5, 5)]) (cs := [nilS, nilS, nilS, nilS, nilS, B false, B false, B false, B false, B false]) (by kernel_rfl) rfl rfl) ?_
 refine sX rfl rfl rfl (opX_alloc (zs := [.slice none 0 0, .slice none 0 0, .slice none 0 0, .slice none 0 0, .slice none 0 0, .bool false, .bool false, .bool false, .bool false, .bool false]) (by kernel_rfl)) ?_
 rintro _ _ ⟨o14, rfl, rfl⟩
 refine s0 rfl rfl (opR_store_agg (i := 0) (vs := [nilS, nilS, nilS, nilS, nilS, B false, B false, B false, B false, B false]) (by kernel_rfl) rfl rfl (by simp [isCell, slE]) rfl (Nat.le_of_ble_eq_true rfl)) ?_
 refine AR.freezeCp 4 0 rfl rfl ?_
 show AR _ _ _ _ _ _ ⟨_, _, [.obj o13 [nilS, nilS, nilS, nilS, nilS, B false, B false, B false, B false, B false]]⟩
 refine AR.nil ?_
 show AW _ _ _ _ _ _
 refine AW.seq ?_
 refine AW.seq ?_
 refine AW.region ?_
 show AR _ _ _ _ _ [0, 1, 2] _
 refine sS rfl rfl rfl (mv rfl) ?_
 refine sS rfl rfl rfl (opS_len_str Tryz.underlying9 rfl) ?_
 refine sS rfl rfl rfl (opS_gt rfl rfl) ?_
 refine AR.nil ?_
 show AW _ _ _ _ _ _
 refine AW.cond rfl (fun c15 => ?_) (fun c15 => ?_)
 ·replace H := cnd_t c15 H
  refine AW.seq ?_
  refine AW.region ?_
  show AR _ _ _ _ _ [0, 1, 2] _
  refine sS rfl rfl rfl (opS_load_cp_agg Tryz.underlying27 rfl (n := 10) (by kernel_rfl) rfl (Nat.le_of_ble_eq_true rfl)) ?_
  refine s0 rfl rfl (opR_store_agg (i := 0) (vs := [nilS, nilS, nilS, nilS, nilS, B false, B false, B false, B false, B false]) (by kernel_rfl) rfl rfl (by simp [isCell, slE]) rfl (Nat.le_of_ble_eq_true rfl)) ?_
  refine sS rfl rfl rfl (asg rfl) ?_
  refine AR.nil ?_
  show AW _ _ _ _ _ _
  refine AW.ret ?_
  obtain ⟨rfl, rfl, rfl, rfl, rfl, rfl, rfl, rfl, rfl, rfl, rfl⟩ := res11 H
  exact And.intro rfl (Exists.intro _ (Exists.intro _ ⟨ResT.resV (ResT.place2 rfl (CellV.aggW (cs := [nilS, nilS, nilS, nilS, nilS, B false, B false, B false, B false, B false]) (CellV.agg (off := 0) (cs := [nilS, nilS, nilS, nilS, nilS, B false, B false, B false, B false, B false]) (n := 10) 0 Tryz.underlying27 rfl (by kernel_rfl) rfl rfl (Nat.le_of_ble_eq_true rfl)) (.cons (.nil _) (.cons (.nil _) (.cons (.nil _) (.cons (.nil _) (.cons (.nil _) (.cons (.refl _) (.cons (.refl _) (.cons (.refl _) (.cons (.refl _) (.cons (.refl _) (.nil)))))))))))) ((show PlaceV _ _ _ (.tmp _) _ from (.refl _)))), Sub.at [] rfl, rfl, rfl⟩))
 ·replace H := cnd_f c15 H
  refine AW.skip ?_
  show AW _ _ _ _ _ _
  refine AW.seq ?_
  obtain ⟨x16, e17, H⟩ := bnd_s H
  refine AW.region ?_
  show AR _ _ _ _ _ [0, 1, 2] _
  refine sS rfl rfl rfl (mv rfl) ?_
  refine AR.run rfl rfl (AO.callp rfl en33_cronr rfl (w_ref05_Split F a1 32 x16 e17) ?_)
  refine sS rfl rfl rfl (opS_assign (av := slE _ _ _) rfl) ?_
  refine AR.nil ?_
  show AW _ _ _ _ _ _
  refine AW.seq ?_
  refine AW.seq ?_
  refine AW.region ?_
  show AR _ _ _ _ _ [0, 1, 2] _
  refine sS rfl rfl rfl (opS_move (av := slE _ _ _) rfl) ?_
  refine sS rfl rfl rfl (opS_len_sl Tryz.underlying53 rfl) ?_
  refine sS rfl rfl rfl (opS_nei rfl rfl) ?_
  refine AR.nil ?_
  show AW _ _ _ _ _ _
  refine AW.cond rfl (fun c18 => ?_) (fun c18 => ?_)
  ·replace H := cnd_t c18 H
   refine AW.seq ?_
   refine AW.region ?_
   show AR _ _ _ _ _ [0, 1, 2] _
   refine sS rfl rfl rfl (opS_load_cp_agg Tryz.underlying27 rfl (n := 10) (by kernel_rfl) rfl (Nat.le_of_ble_eq_true rfl)) ?_
   refine s0 rfl rfl (opR_store_agg (i := 0) (vs := [nilS, nilS, nilS, nilS, nilS, B false, B false, B false, B false, B false]) (by kernel_rfl) rfl rfl (by simp [isCell, slE]) rfl (Nat.le_of_ble_eq_true rfl)) ?_
   refine sS rfl rfl rfl (asg rfl) ?_
   refine AR.nil ?_
   show AW _ _ _ _ _ _
   refine AW.ret ?_
   obtain ⟨rfl, rfl, rfl, rfl, rfl, rfl, rfl, rfl, rfl, rfl, rfl⟩ := res11 H
   exact And.intro rfl (Exists.intro _ (Exists.intro _ ⟨ResT.resV (ResT.place2 rfl (CellV.aggW (cs := [nilS, nilS, nilS, nilS, nilS, B false, B false, B false, B false, B false]) (CellV.agg (off := 0) (cs := [nilS, nilS, nilS, nilS, nilS, B false, B false, B false, B false, B false]) (n := 10) 0 Tryz.underlying27 rfl (by kernel_rfl) rfl rfl (Nat.le_of_ble_eq_true rfl)) (.cons (.nil _) (.cons (.nil _) (.cons (.nil _) (.cons (.nil _) (.cons (.nil _) (.cons (.refl _) (.cons (.refl _) (.cons (.refl _) (.cons (.refl _) (.cons (.refl _) (.nil)))))))))))) ((show PlaceV _ _ _ (.tmp _) _ from (.refl _)))), Sub.at [] rfl, rfl, rfl⟩))
  ·replace H := cnd_f c18 H
   refine AW.skip ?_
   show AW _ _ _ _ _ _
   refine AW.seq ?_
   refine AW.region ?_
   show AR _ _ _ _ _ [0, 1, 2] _
   refine sS rfl rfl rfl (g_build (zs := [.slice none 0 0, .slice none 0 0, .slice none 0 0, .slice none 0 0, .slice none 0 0, .bool false, .bool false, .bool false, .bool false, .bool false]) (ps := [(0, 5), (5, 5)]) (cs := [nilS, nilS, nilS, nilS, nilS, B false, B false, B false, B false, B false]) (by kernel_rfl) rfl rfl) ?_
   refine sX rfl rfl rfl (opX_alloc (zs := [.slice none 0 0, .slice none 0 0, .slice none 0 0, .slice none 0 0, .slice none 0 0, .bool false, .bool false, .bool false, .bool false, .bool false]) (by kernel_rfl)) ?_
   rintro _ _ ⟨o19, rfl, rfl⟩
   refine s0 rfl rfl (opR_store_agg (i := 0) (vs := [nilS, nilS, nilS, nilS, nilS, B false, B false, B false, B false, B false]) (by kernel_rfl) rfl rfl (by simp [isCell, slE]) rfl (Nat.le_of_ble_eq_true rfl)) ?_
   refine AR.nil ?_
   show AW _ _ _ _ _ _
   refine AW.nil_objAt 0 0 1 3 rfl rfl fun t20 => ?_
   show AW _ _ _ _ _ ⟨_, _, [.tok t20 3, .obj o19 [slE Enc.int [] (some t20), nilS, nilS, nilS, nilS, B false, B false, B false, B false, B false], .obj o13 [nilS, nilS, nilS, nilS, nilS, B false, B false, B false, B false, B false]]⟩
   refine AW.nil_objAt 1 1 1 3 rfl rfl fun t21 => ?_
   show AW _ _ _ _ _ ⟨_, _, [.tok t21 3, .tok t20 3, .obj o19 [slE Enc.int [] (some t20), slE Enc.int [] (some t21), nilS, nilS, nilS, B false, B false, B false, B false, B false], .obj o13 [nilS, nilS, nilS, nilS, nilS, B false, B false, B false, B false, B false]]⟩
   refine AW.nil_objAt 2 2 1 3 rfl rfl fun t22 => ?_
   show AW _ _ _ _ _ ⟨_, _, [.tok t22 3, .tok t21 3, .tok t20 3, .obj o19 [slE Enc.int [] (some t20), slE Enc.int [] (some t21), slE Enc.int [] (some t22), nilS, nilS, B false, B false, B false, B false, B false], .obj o13 [nilS, nilS, nilS, nilS, nilS, B false, B false, B false, B false, B false]]⟩
   refine AW.nil_objAt 3 3 1 3 rfl rfl fun t23 => ?_
   show AW _ _ _ _ _ ⟨_, _, [.tok t23 3, .tok t22 3, .tok t21 3, .tok t20 3, .obj o19 [slE Enc.int [] (some t20), slE Enc.int [] (some t21), slE Enc.int [] (some t22), slE Enc.int [] (some t23), nilS, B false, B false, B false, B false, B false], .obj o13 [nilS, nilS, nilS, nilS, nilS, B false, B false, B false, B false, B false]]⟩
   refine AW.nil_objAt 4 4 1 3 rfl rfl fun t24 => ?_
   show AW _ _ _ _ _ ⟨_, _, [.tok t24 3, .tok t23 3, .tok t22 3, .tok t21 3, .tok t20 3, .obj o19 [slE Enc.int [] (some t20), slE Enc.int [] (some t21), slE Enc.int [] (some t22), slE Enc.int [] (some t23), slE Enc.int [] (some t24), B false, B false, B false, B false, B false], .obj o13 [nilS, nilS, nilS, nilS, nilS, B false, B false, B false, B false, B false]]⟩
   refine AW.cut (X := (List Int) × Nat × (List Int) × Nat × (List Int) × Nat × (List Int) × Nat × (List Int) × Nat × Bool × Bool × Bool × Bool × Bool) (fun (y382, t383, y384, t385, y386, t387, y388, t389, y390, t391, y392, y393, y394, y395, y396) => ⟨[(2, .pt o13 0), (6, .pt o19 0)], [], [.obj o19 [slE Enc.int y382 (some t383), slE Enc.int y384 (some t385), slE Enc.int y386 (some t387), slE Enc.int y388 (some t389), slE Enc.int y390 (some t391), B y392, B y393, B y394, B y395, B y396], .obj o13 [nilS, nilS, nilS, nilS, nilS, B false, B false, B false, B false, B false], .tok t383 3, .tok t385 3, .tok t387 3, .tok t389 3, .tok t391 3]⟩) (fun (y382, t383, y384, t385, y386, t387, y388, t389, y390, t391, y392, y393, y394, y395, y396) => ref05_Parse_j1 y382 y384 y386 y388 y390 y392 y393 y394 y395 y396 = some (r2, r3, r4, r5, r6, r7, r8, r9, r10, r11, r12)) ?_ ?_
   ·
    refine AW.seq ?_
    refine AW.region ?_
    show AR _ _ _ _ _ [0] _
    refine sS rfl rfl rfl (asg rfl) ?_
    refine AR.nil ?_
    show AW _ _ _ _ _ _
    refine AW.block ?_
    refine AW.rounds 7 ?_
    show AW _ _ _ _ _ _
    refine AW.seq ?_
    refine AW.seq ?_
    refine AW.region ?_
    show AR _ _ _ _ _ [0, 1] _
    refine sS rfl rfl rfl (mv rfl) ?_
    refine sS rfl rfl rfl (OpS.eq (av' := B true) (opS_lt rfl rfl) (B_congr (by decide))) ?_
    refine AR.nil ?_
    show AW _ _ _ _ _ _
    refine AW.cond rfl (fun _ => ?_) (fun hx => bool_no rfl hx)
    refine AW.skip ?_
    show AW _ _ _ _ _ _
    refine AW.cut (X := (List Int) × Nat × Bool) (fun (y92, t93, y94) => ⟨[(2, .pt o13 0), (4, .cp [nilS, nilS, nilS, nilS, nilS, B false, B false, B false, B false, B false]), (5, slE Enc.str x16 none), (6, .pt o19 0), (7, i64 0)], [], [.obj o19 [slE Enc.int y92 (some t93), slE Enc.int [] (some t21), slE Enc.int [] (some t22), slE Enc.int [] (some t23), slE Enc.int [] (some t24), B y94, B false, B false, B false, B false], .obj o13 [nilS, nilS, nilS, nilS, nilS, B false, B false, B false, B false, B false], .tok t93 3, .tok t21 3, .tok t22 3, .tok t23 3, .tok t24 3]⟩) (fun (y92, t93, y94) => ref05_Parse_j26 F x16 y92 y94 = some (r2, r3, r4, r5, r6, r7, r8, r9, r10, r11, r12)) ?_ ?_
    ·
     refine AW.block ?_
     refine AW.seq ?_
     refine AW.region ?_
     show AR _ _ _ _ _ [0] _
     refine sS rfl rfl rfl (asg rfl) ?_
     refine AR.nil ?_
     show AW _ _ _ _ _ _
     refine AW.nil_grows 8 1 3 rfl fun t25 => ?_
     show AW _ _ _ _ _ ⟨(8, slE Enc.int [] (some t25)) :: _, _, _⟩
     refine AW.seq ?_
     obtain ⟨g26, H⟩ := grd_s H
     obtain ⟨x27, e28, H⟩ := lt_s H
     obtain ⟨x29, e30, H⟩ := bnd_s H
     refine AW.region ?_
     show AR _ _ _ _ _ [0, 1, 2, 3, 4, 5] _
     refine sS rfl rfl rfl (opS_move (av := slE _ _ _) rfl) ?_
     refine sS rfl rfl rfl (mv rfl) ?_
     refine sS rfl rfl rfl (g_indexAddr (E := Enc.str) Tryz.underlying53 (by kernel_rfl) rfl rfl g26 e28) ?_
     refine sS rfl rfl rfl (opS_load_cp Tryz.underlying9 rfl rfl) ?_
     refine AR.run rfl rfl (AO.callp rfl en33_cronr rfl (w_ref05_Split F x27 44 x29 e30) ?_)
     refine sS rfl rfl rfl (opS_assign (av := slE _ _ _) rfl) ?_
     refine AR.nil ?_
     show AW _ _ _ _ _ _
     refine AW.cut (X := (List Int) × Nat) (fun (y62, t63) => ⟨[(2, .pt o13 0), (4, .cp [nilS, nilS, nilS, nilS, nilS, B false, B false, B false, B false, B false]), (5, slE Enc.str x16 none), (6, .pt o19 0), (7, i64 0), (8, slE Enc.int y62 (some t63))], [], [.obj o19 [slE Enc.int [] (some t20), slE Enc.int [] (some t21), slE Enc.int [] (some t22), slE Enc.int [] (some t23), slE Enc.int [] (some t24), B false, B false, B false, B false, B false], .obj o13 [nilS, nilS, nilS, nilS, nilS, B false, B false, B false, B false, B false], .tok t63 3, .tok t20 3, .tok t21 3, .tok t22 3, .tok t23 3, .tok t24 3]⟩) (fun (y62, t63) => ref05_Parse_j29 F x16 y62 = some (r2, r3, r4, r5, r6, r7, r8, r9, r10, r11, r12)) ?_ ?_
     ·
      refine AW.seq ?_
      refine AW.region ?_
      show AR _ _ _ _ _ [0] _
      refine sS rfl rfl rfl (asg rfl) ?_
      refine AR.nil ?_
      show AW _ _ _ _ _ _
      refine AW.block ?_
      refine AW.loop (X := Nat × (List Int) × Nat × Int) (fun (n35, y31, t32, y33) => ⟨[(2, .pt o13 0), (4, .cp [nilS, nilS, nilS, nilS, nilS, B false, B false, B false, B false, B false]), (5, slE Enc.str x16 none), (6, .pt o19 0), (7, i64 0), (8, slE Enc.int y31 (some t32)), (9, slE Enc.str x29 none), (10, i64 y33)], [], [.obj o19 [slE Enc.int [] (some t20), slE Enc.int [] (some t21), slE Enc.int [] (some t22), slE Enc.int [] (some t23), slE Enc.int [] (some t24), B false, B false, B false, B false, B false], .obj o13 [nilS, nilS, nilS, nilS, nilS, B false, B false, B false, B false, B false], .tok t32 3, .tok t20 3, .tok t21 3, .tok t22 3, .tok t23 3, .tok t24 3]⟩) (fun (n35, y31, t32, y33) => ref05_Parse_L15 F x16 x29 n35 (y31, y33) = some (r2, r3, r4, r5, r6, r7, r8, r9, r10, r11, r12)) (fun (n35, y31, t32, y33) => n35) (F, [], t25, 0) H (WK.at [6, 6, 0, 4, 3, 2, 1, 0] (.cons (.refl _) (.cons (.refl _) (.cons (.refl _) (.cons (.refl _) (.cons (.refl _) (.cons (.refl _) (.cons (.refl _) (.cons (.refl _) (.nil _))))))))) rfl) ?_
      rintro ⟨n35, y31, t32, y33⟩ H
      obtain ⟨n35, rfl, H⟩ := loop_s H
      replace H : ref05_Parse_B15 F x16 x29 (ref05_Parse_L15 F x16 x29 n35) y31 y33 = some (r2, r3, r4, r5, r6, r7, r8, r9, r10, r11, r12) := H
      unfold ref05_Parse_B15 at H
      show AW _ _ _ _ _ _
      refine AW.seq ?_
      refine AW.seq ?_
      refine AW.region ?_
      show AR _ _ _ _ _ [0, 1, 2, 3] _
      refine sS rfl rfl rfl (mv rfl) ?_
      refine sS rfl rfl rfl (opS_move (av := slE _ _ _) rfl) ?_
      refine sS rfl rfl rfl (opS_len_sl Tryz.underlying53 rfl) ?_
      refine sS rfl rfl rfl (opS_lt rfl rfl) ?_
      refine AR.nil ?_
      show AW _ _ _ _ _ _
      refine AW.cond rfl (fun c36 => ?_) (fun c36 => ?_)
      ·replace H := cnd_t c36 H
       refine AW.skip ?_
       show AW _ _ _ _ _ _
       refine AW.cut (X := (List Int) × Nat) (fun (y58, t59) => ⟨[(2, .pt o13 0), (4, .cp [nilS, nilS, nilS, nilS, nilS, B false, B false, B false, B false, B false]), (5, slE Enc.str x16 none), (6, .pt o19 0), (7, i64 0), (8, slE Enc.int y58 (some t59)), (9, slE Enc.str x29 none), (10, i64 y33)], [], [.obj o19 [slE Enc.int [] (some t20), slE Enc.int [] (some t21), slE Enc.int [] (some t22), slE Enc.int [] (some t23), slE Enc.int [] (some t24), B false, B false, B false, B false, B false], .obj o13 [nilS, nilS, nilS, nilS, nilS, B false, B false, B false, B false, B false], .tok t59 3, .tok t20 3, .tok t21 3, .tok t22 3, .tok t23 3, .tok t24 3]⟩) (fun (y58, t59) => ref05_Parse_j30 y33 (ref05_Parse_L15 F x16 x29 n35) y58 = some (r2, r3, r4, r5, r6, r7, r8, r9, r10, r11, r12)) ?_ ?_
       ·
        refine AW.block ?_
        refine AW.seq ?_
        obtain ⟨g37, H⟩ := grd_s H
        obtain ⟨x38, e39, H⟩ := lt_s H
        obtain ⟨x40, e41, H⟩ := bnd_s H
        refine AW.region ?_
        show AR _ _ _ _ _ [0, 1, 2, 3, 4, 5, 6] _
        refine sS rfl rfl rfl (mv rfl) ?_
        refine sS rfl rfl rfl (opS_move (av := slE _ _ _) rfl) ?_
        refine sS rfl rfl rfl (mv rfl) ?_
        refine sS rfl rfl rfl (g_indexAddr (E := Enc.str) Tryz.underlying53 (by kernel_rfl) rfl rfl g37 e39) ?_
        refine sS rfl rfl rfl (opS_load_cp Tryz.underlying9 rfl rfl) ?_
        refine AR.run rfl rfl (AO.callp rfl en34_cronr rfl (w_ref05_piece F 0 x38 x40 e41) ?_)
        refine sS rfl rfl rfl (opS_assign (av := slE _ _ _) rfl) ?_
        refine AR.nil ?_
        show AW _ _ _ _ _ _
        refine AW.seq ?_
        refine AW.seq ?_
        refine AW.region ?_
        show AR _ _ _ _ _ [0, 1, 2] _
        refine sS rfl rfl rfl (opS_move (av := slE _ _ _) rfl) ?_
        refine sS rfl rfl rfl (opS_len_sl Tryz.underlying23 rfl) ?_
        refine sS rfl rfl rfl (opS_eqi rfl rfl) ?_
        refine AR.nil ?_
        show AW _ _ _ _ _ _
        refine AW.cond rfl (fun c42 => ?_) (fun c42 => ?_)
        ·replace H := cnd_t c42 H
         refine AW.seq ?_
         refine AW.region ?_
         show AR _ _ _ _ _ [0, 1, 2] _
         refine sS rfl rfl rfl (opS_load_cp_agg Tryz.underlying27 rfl (n := 10) (by kernel_rfl) rfl (Nat.le_of_ble_eq_true rfl)) ?_
         refine s0 rfl rfl (opR_store_agg (i := 1) (vs := [nilS, nilS, nilS, nilS, nilS, B false, B false, B false, B false, B false]) (by kernel_rfl) rfl rfl (by simp [isCell, slE]) rfl (Nat.le_of_ble_eq_true rfl)) ?_
         refine sS rfl rfl rfl (asg rfl) ?_
         refine AR.nil ?_
         show AW _ _ _ _ _ _
         refine AW.ret ?_
         obtain ⟨rfl, rfl, rfl, rfl, rfl, rfl, rfl, rfl, rfl, rfl, rfl⟩ := res11 H
         exact And.intro rfl (Exists.intro _ (Exists.intro _ ⟨ResT.resV (ResT.place2 rfl (CellV.aggW (cs := [nilS, nilS, nilS, nilS, nilS, B false, B false, B false, B false, B false]) (CellV.agg (off := 0) (cs := [nilS, nilS, nilS, nilS, nilS, B false, B false, B false, B false, B false]) (n := 10) 1 Tryz.underlying27 rfl (by kernel_rfl) rfl rfl (Nat.le_of_ble_eq_true rfl)) (.cons (.nil _) (.cons (.nil _) (.cons (.nil _) (.cons (.nil _) (.cons (.nil _) (.cons (.refl _) (.cons (.refl _) (.cons (.refl _) (.cons (.refl _) (.cons (.refl _) (.nil)))))))))))) ((show PlaceV _ _ _ (.tmp _) _ from (.refl _)))), Sub.at [] rfl, rfl, rfl⟩))
        ·replace H := cnd_f c42 H
         refine AW.skip ?_
         show AW _ _ _ _ _ _
         refine AW.seq ?_
         refine AW.region ?_
         show AR _ _ _ _ _ [0] _
         refine sS rfl rfl rfl (asg rfl) ?_
         refine AR.nil ?_
         show AW _ _ _ _ _ _
         refine AW.block ?_
         refine AW.loop (X := Nat × (List Int) × Nat × Int) (fun (n47, y43, t44, y45) => ⟨[(2, .pt o13 0), (4, .cp [nilS, nilS, nilS, nilS, nilS, B false, B false, B false, B false, B false]), (5, slE Enc.str x16 none), (6, .pt o19 0), (7, i64 0), (8, slE Enc.int y43 (some t44)), (9, slE Enc.str x29 none), (10, i64 y33), (11, slE Enc.int x40 none), (12, i64 y45)], [], [.obj o19 [slE Enc.int [] (some t20), slE Enc.int [] (some t21), slE Enc.int [] (some t22), slE Enc.int [] (some t23), slE Enc.int [] (some t24), B false, B false, B false, B false, B false], .obj o13 [nilS, nilS, nilS, nilS, nilS, B false, B false, B false, B false, B false], .tok t44 3, .tok t20 3, .tok t21 3, .tok t22 3, .tok t23 3, .tok t24 3]⟩) (fun (n47, y43, t44, y45) => ref05_Parse_L14 y33 x40 (ref05_Parse_L15 F x16 x29 n35) n47 (y43, y45) = some (r2, r3, r4, r5, r6, r7, r8, r9, r10, r11, r12)) (fun (n47, y43, t44, y45) => n47) (F, y31, t32, 0) H (WK.at [0, 0, 0, 0, 0, 0, 0, 0] (.cons (.refl _) (.cons (.refl _) (.cons (.refl _) (.cons (.refl _) (.cons (.refl _) (.cons (.refl _) (.cons (.refl _) (.cons (.refl _) (.cons (.refl _) (.cons (.refl _) (.nil _))))))))))) rfl) ?_
         rintro ⟨n47, y43, t44, y45⟩ H
         obtain ⟨n47, rfl, H⟩ := loop_s H
         replace H : ref05_Parse_B14 y33 x40 (ref05_Parse_L15 F x16 x29 n35) (ref05_Parse_L14 y33 x40 (ref05_Parse_L15 F x16 x29 n35) n47) y43 y45 = some (r2, r3, r4, r5, r6, r7, r8, r9, r10, r11, r12) := H
         unfold ref05_Parse_B14 at H
         show AW _ _ _ _ _ _
         refine AW.seq ?_
         refine AW.seq ?_
         refine AW.region ?_
         show AR _ _ _ _ _ [0, 1, 2, 3] _
         refine sS rfl rfl rfl (mv rfl) ?_
         refine sS rfl rfl rfl (opS_move (av := slE _ _ _) rfl) ?_
         refine sS rfl rfl rfl (opS_len_sl Tryz.underlying23 rfl) ?_
         refine sS rfl rfl rfl (opS_lt rfl rfl) ?_
         refine AR.nil ?_
         show AW _ _ _ _ _ _
         refine AW.cond rfl (fun c48 => ?_) (fun c48 => ?_)
         ·replace H := cnd_t c48 H
          refine AW.skip ?_
          show AW _ _ _ _ _ _
          refine AW.seq ?_
          refine AW.block ?_
          refine AW.seq ?_
          obtain ⟨g49, H⟩ := grd_s H
          obtain ⟨x50, e51, H⟩ := lt_s H
          refine AW.region ?_
          show AR _ _ _ _ _ [0, 1, 2, 3, 4] _
          refine sS rfl rfl rfl (opS_move (av := slE _ _ _) rfl) ?_
          refine sS rfl rfl rfl (mv rfl) ?_
          refine sS rfl rfl rfl (g_indexAddr (E := Enc.int) Tryz.underlying23 (by kernel_rfl) rfl rfl g49 e51) ?_
          refine sS rfl rfl rfl (opS_load_cp Tryz.underlying3 rfl rfl) ?_
          refine sS rfl rfl rfl (asg rfl) ?_
          refine AR.nil ?_
          show AW _ _ _ _ _ _
          refine AW.cut (X := Unit) (fun _ => ⟨[(2, .pt o13 0), (4, .cp [nilS, nilS, nilS, nilS, nilS, B false, B false, B false, B false, B false]), (5, slE Enc.str x16 none), (6, .pt o19 0), (7, i64 0), (8, slE Enc.int y43 (some t44)), (9, slE Enc.str x29 none), (10, i64 y33), (11, slE Enc.int x40 none), (12, i64 y45), (13, i64 x50)], [], [.obj o19 [slE Enc.int [] (some t20), slE Enc.int [] (some t21), slE Enc.int [] (some t22), slE Enc.int [] (some t23), slE Enc.int [] (some t24), B false, B false, B false, B false, B false], .obj o13 [nilS, nilS, nilS, nilS, nilS, B false, B false, B false, B false, B false], .tok t44 3, .tok t20 3, .tok t21 3, .tok t22 3, .tok t23 3, .tok t24 3]⟩) (fun _ => ref05_Parse_j31 y43 y45 x50 (ref05_Parse_L14 y33 x40 (ref05_Parse_L15 F x16 x29 n35) n47) = some (r2, r3, r4, r5, r6, r7, r8, r9, r10, r11, r12)) ?_ ?_
          ·
           refine AW.seq ?_
           refine AW.region ?_
           show AR _ _ _ _ _ [0, 1, 2, 3, 4, 5] _
           refine sS rfl rfl rfl (mv rfl) ?_
           refine sS rfl rfl rfl (OpS.eq (av' := B false) (opS_eqi rfl rfl) (B_congr (by decide))) ?_
           refine sS rfl rfl rfl (mv rfl) ?_
           refine gF rfl rfl rfl rfl rfl rfl ?_
           refine gF rfl rfl rfl rfl rfl rfl ?_
           refine sS rfl rfl rfl (opS_pick_f (av := .v _) rfl rfl rfl) ?_
           refine AR.nil ?_
           show AW _ _ _ _ _ _
           refine AW.cond rfl (fun hx => bool_no hx rfl) (fun _ => ?_)
           refine AW.skip ?_
           exact Exists.intro () ⟨H, WK.at [0, 0, 0, 0, 0, 0, 0, 0] (.cons (.refl _) (.cons (.refl _) (.cons (.refl _) (.cons (.refl _) (.cons (.refl _) (.cons (.refl _) (.cons (.refl _) (.cons (.refl _) (.cons (.refl _) (.cons (.refl _) (.cons (.refl _) (.nil _)))))))))))) rfl⟩
          rintro _ H
          replace H : ref05_Parse_j31 y43 y45 x50 (ref05_Parse_L14 y33 x40 (ref05_Parse_L15 F x16 x29 n35) n47) = some (r2, r3, r4, r5, r6, r7, r8, r9, r10, r11, r12) := H
          unfold ref05_Parse_j31 at H
          show AW _ _ _ _ _ _
          obtain ⟨g54, H⟩ := grd_s H
          obtain ⟨x55, e56, H⟩ := lt_s H
          refine AW.region ?_
          show AR _ _ _ _ _ [0, 1, 2, 3, 4] _
          refine sS rfl rfl rfl (opS_move (av := slE _ _ _) rfl) ?_
          refine sS rfl rfl rfl (mv rfl) ?_
          refine sR rfl rfl rfl (opR_buildE (E := Enc.int) (bytes := 8) (xs := [.tmp 70]) (l := ([x50] : List Int)) Tryz.underlying23 (by kernel_rfl) rfl rfl (by decide) rfl rfl) ?_
          refine sX rfl rfl rfl (g_append (E := Enc.int) (bytes := 8) 2 Tryz.underlying23 Tryz.underlying23 rfl (by kernel_rfl) rfl rfl rfl rfl g54 e56) ?_
          rintro _ _ ⟨t53, rfl, rfl⟩
          refine sS rfl rfl rfl (opS_assign (av := slE _ _ _) rfl) ?_
          refine AR.nil ?_
          show AW _ _ _ _ _ _
          obtain ⟨g57, H⟩ := grd_s H
          refine AW.region ?_
          show AR _ _ _ _ _ [0, 1, 2] _
          refine sS rfl rfl rfl (mv rfl) ?_
          refine sS rfl rfl rfl (g_add rfl rfl g57) ?_
          refine sS rfl rfl rfl (asg rfl) ?_
          refine AR.nil ?_
          exact Exists.intro (n47, x55, t53, y45 + 1) ⟨H, Nat.lt_succ_self _, WK.at [0, 0, 0, 0, 0, 0, 0, 0] (.cons (.refl _) (.cons (.refl _) (.cons (.refl _) (.cons (.refl _) (.cons (.refl _) (.cons (.refl _) (.cons (.refl _) (.cons (.refl _) (.cons (.refl _) (.cons (.refl _) (.nil _))))))))))) rfl⟩
         ·replace H := cnd_f c48 H
          refine AW.exit ?_
          exact Exists.intro (y43, t44) ⟨H, WK.at [0, 0, 0, 0, 0, 0, 0, 0] (.cons (.refl _) (.cons (.refl _) (.cons (.refl _) (.cons (.refl _) (.cons (.refl _) (.cons (.refl _) (.cons (.refl _) (.cons (.refl _) (.nil _))))))))) rfl⟩
       rintro ⟨y58, t59⟩ H
       replace H : ref05_Parse_j30 y33 (ref05_Parse_L15 F x16 x29 n35) y58 = some (r2, r3, r4, r5, r6, r7, r8, r9, r10, r11, r12) := H
       unfold ref05_Parse_j30 at H
       show AW _ _ _ _ _ _
       obtain ⟨g61, H⟩ := grd_s H
       refine AW.region ?_
       show AR _ _ _ _ _ [0, 1, 2] _
       refine sS rfl rfl rfl (mv rfl) ?_
       refine sS rfl rfl rfl (g_add rfl rfl g61) ?_
       refine sS rfl rfl rfl (asg rfl) ?_
       refine AR.nil ?_
       exact Exists.intro (n35, y58, t59, y33 + 1) ⟨H, Nat.lt_succ_self _, WK.at [0, 0, 0, 0, 0, 0, 0, 0] (.cons (.refl _) (.cons (.refl _) (.cons (.refl _) (.cons (.refl _) (.cons (.refl _) (.cons (.refl _) (.cons (.refl _) (.cons (.refl _) (.nil _))))))))) rfl⟩
      ·replace H := cnd_f c36 H
       refine AW.exit ?_
       exact Exists.intro (y31, t32) ⟨H, WK.at [0, 0, 0, 0, 0, 0, 0, 0] (.cons (.refl _) (.cons (.refl _) (.cons (.refl _) (.cons (.refl _) (.cons (.refl _) (.cons (.refl _) (.nil _))))))) rfl⟩
     rintro ⟨y62, t63⟩ H
     replace H : ref05_Parse_j29 F x16 y62 = some (r2, r3, r4, r5, r6, r7, r8, r9, r10, r11, r12) := H
     unfold ref05_Parse_j29 at H
     show AW _ _ _ _ _ _
     refine AW.cut (X := (List Int) × Nat) (fun (y86, t87) => ⟨[(2, .pt o13 0), (4, .cp [nilS, nilS, nilS, nilS, nilS, B false, B false, B false, B false, B false]), (5, slE Enc.str x16 none), (6, .pt o19 0), (7, i64 0)], [], [.obj o19 [slE Enc.int y86 (some t87), slE Enc.int [] (some t21), slE Enc.int [] (some t22), slE Enc.int [] (some t23), slE Enc.int [] (some t24), B false, B false, B false, B false, B false], .obj o13 [nilS, nilS, nilS, nilS, nilS, B false, B false, B false, B false, B false], .tok t87 3, .tok t21 3, .tok t22 3, .tok t23 3, .tok t24 3]⟩) (fun (y86, t87) => ref05_Parse_j27 F x16 y86 = some (r2, r3, r4, r5, r6, r7, r8, r9, r10, r11, r12)) ?_ ?_
     ·
      refine AW.seq ?_
      obtain ⟨x65, e66, H⟩ := bnd_s H
      refine AW.region ?_
      show AR _ _ _ _ _ [0, 1, 2] _
      refine sS rfl rfl rfl (mv rfl) ?_
      refine AR.run rfl rfl (AO.callp rfl en35_cronr rfl (w_ref05_Low F 0 x65 e66) ?_)
      refine sS rfl rfl rfl (asg rfl) ?_
      refine AR.nil ?_
      show AW _ _ _ _ _ _
      refine AW.block ?_
      refine AW.loop (X := Nat × Int × (List Int) × Nat) (fun (n71, y67, y68, t69) => ⟨[(2, .pt o13 0), (4, .cp [nilS, nilS, nilS, nilS, nilS, B false, B false, B false, B false, B false]), (5, slE Enc.str x16 none), (6, .pt o19 0), (7, i64 0), (8, slE Enc.int y62 (some t63)), (14, i64 y67)], [], [.obj o19 [slE Enc.int y68 (some t69), slE Enc.int [] (some t21), slE Enc.int [] (some t22), slE Enc.int [] (some t23), slE Enc.int [] (some t24), B false, B false, B false, B false, B false], .obj o13 [nilS, nilS, nilS, nilS, nilS, B false, B false, B false, B false, B false], .tok t63 3, .tok t69 3, .tok t21 3, .tok t22 3, .tok t23 3, .tok t24 3]⟩) (fun (n71, y67, y68, t69) => ref05_Parse_L13 F x16 y62 n71 (y67, y68) = some (r2, r3, r4, r5, r6, r7, r8, r9, r10, r11, r12)) (fun (n71, y67, y68, t69) => n71) (F, x65, [], t20) H (WK.at [0, 0, 0, 0, 0, 0, 0, 0] (.cons (.refl _) (.cons (.refl _) (.cons (.refl _) (.cons (.refl _) (.cons (.refl _) (.cons (.refl _) (.cons (.refl _) (.nil _)))))))) rfl) ?_
      rintro ⟨n71, y67, y68, t69⟩ H
      obtain ⟨n71, rfl, H⟩ := loop_s H
      replace H : ref05_Parse_B13 F x16 y62 (ref05_Parse_L13 F x16 y62 n71) y67 y68 = some (r2, r3, r4, r5, r6, r7, r8, r9, r10, r11, r12) := H
      unfold ref05_Parse_B13 at H
      show AW _ _ _ _ _ _
      refine AW.seq ?_
      refine AW.seq ?_
      obtain ⟨x72, e73, H⟩ := bnd_s H
      refine AW.region ?_
      show AR _ _ _ _ _ [0, 1, 2, 3] _
      refine sS rfl rfl rfl (mv rfl) ?_
      refine sS rfl rfl rfl (mv rfl) ?_
      refine AR.run rfl rfl (AO.callp rfl en36_cronr rfl (w_ref05_High F 0 x72 e73) ?_)
      refine sS rfl rfl rfl (opS_le rfl rfl) ?_
      refine AR.nil ?_
      show AW _ _ _ _ _ _
      refine AW.cond rfl (fun c74 => ?_) (fun c74 => ?_)
      ·replace H := cnd_t c74 H
       refine AW.skip ?_
       show AW _ _ _ _ _ _
       refine AW.cut (X := (List Int) × Nat) (fun (y82, t83) => ⟨[(2, .pt o13 0), (4, .cp [nilS, nilS, nilS, nilS, nilS, B false, B false, B false, B false, B false]), (5, slE Enc.str x16 none), (6, .pt o19 0), (7, i64 0), (8, slE Enc.int y62 (some t63)), (14, i64 y67)], [], [.obj o19 [slE Enc.int y82 (some t83), slE Enc.int [] (some t21), slE Enc.int [] (some t22), slE Enc.int [] (some t23), slE Enc.int [] (some t24), B false, B false, B false, B false, B false], .obj o13 [nilS, nilS, nilS, nilS, nilS, B false, B false, B false, B false, B false], .tok t63 3, .tok t83 3, .tok t21 3, .tok t22 3, .tok t23 3, .tok t24 3]⟩) (fun (y82, t83) => ref05_Parse_j28 y67 (ref05_Parse_L13 F x16 y62 n71) y82 = some (r2, r3, r4, r5, r6, r7, r8, r9, r10, r11, r12)) ?_ ?_
       ·
        refine AW.block ?_
        refine AW.seq ?_
        obtain ⟨x75, e76, H⟩ := bnd_s H
        refine AW.region ?_
        show AR _ _ _ _ _ [0, 1, 2, 3] _
        refine sS rfl rfl rfl (opS_move (av := slE _ _ _) rfl) ?_
        refine sS rfl rfl rfl (mv rfl) ?_
        refine AR.run rfl rfl (AO.callp rfl en17_cronr rfl (w_ref05_Has F y62 (some t63) y67 x75 e76) ?_)
        refine sS rfl rfl rfl (asg rfl) ?_
        refine AR.nil ?_
        show AW _ _ _ _ _ _
        refine AW.seq ?_
        refine AW.region ?_
        show AR _ _ _ _ _ [0] _
        refine sS rfl rfl rfl (mv rfl) ?_
        refine AR.nil ?_
        show AW _ _ _ _ _ _
        refine AW.cond rfl (fun c77 => ?_) (fun c77 => ?_)
        ·replace H := cnd_t c77 H
         obtain ⟨g79, H⟩ := grd_s H
         obtain ⟨x80, e81, H⟩ := lt_s H
         refine AW.region ?_
         show AR _ _ _ _ _ [0, 1, 2, 3, 4, 5, 6, 7, 8, 9, 10] _
         refine sS rfl rfl rfl (mv rfl) ?_
         refine sS rfl rfl rfl (mv rfl) ?_
         refine sS rfl rfl rfl (opS_fieldAddr_pt (n := 0) (by kernel_rfl) rfl) ?_
         refine sS rfl rfl rfl (opS_indexAddr_arr (Ar := 0) (k := 1) (m := 0) Tryz.underlying24 (by kernel_rfl) rfl rfl rfl (by decide)) ?_
         refine sR rfl rfl rfl (opR_load_pt (i := 0) Tryz.underlying23 rfl rfl rfl rfl) ?_
         refine sS rfl rfl rfl (mv rfl) ?_
         refine sR rfl rfl rfl (opR_buildE (E := Enc.int) (bytes := 8) (xs := [.tmp 90]) (l := ([y67] : List Int)) Tryz.underlying23 (by kernel_rfl) rfl rfl (by decide) rfl rfl) ?_
         refine sX rfl rfl rfl (g_append (E := Enc.int) (bytes := 8) 3 Tryz.underlying23 Tryz.underlying23 rfl (by kernel_rfl) rfl rfl rfl rfl g79 e81) ?_
         rintro _ _ ⟨t78, rfl, rfl⟩
         refine sS rfl rfl rfl (opS_fieldAddr_pt (n := 0) (by kernel_rfl) rfl) ?_
         refine sS rfl rfl rfl (opS_indexAddr_arr (Ar := 0) (k := 1) (m := 0) Tryz.underlying24 (by kernel_rfl) rfl rfl rfl (by decide)) ?_
         refine s0 rfl rfl (opR_store_pt (i := 0) (c := slE _ _ _) (by kernel_rfl) rfl rfl rfl rfl (Nat.le_of_ble_eq_true rfl)) ?_
         refine AR.nil ?_
         exact Exists.intro (x80, t78) ⟨H, WK.at [0, 0, 0, 0, 0, 0, 0, 0] (.cons (.refl _) (.cons (.refl _) (.cons (.refl _) (.cons (.refl _) (.cons (.refl _) (.cons (.refl _) (.cons (.refl _) (.nil _)))))))) rfl⟩
        ·replace H := cnd_f c77 H
         refine AW.skip ?_
         exact Exists.intro (y68, t69) ⟨H, WK.at [0, 0, 0, 0, 0, 0, 0, 0] (.cons (.refl _) (.cons (.refl _) (.cons (.refl _) (.cons (.refl _) (.cons (.refl _) (.cons (.refl _) (.cons (.refl _) (.nil _)))))))) rfl⟩
       rintro ⟨y82, t83⟩ H
       replace H : ref05_Parse_j28 y67 (ref05_Parse_L13 F x16 y62 n71) y82 = some (r2, r3, r4, r5, r6, r7, r8, r9, r10, r11, r12) := H
       unfold ref05_Parse_j28 at H
       show AW _ _ _ _ _ _
       obtain ⟨g85, H⟩ := grd_s H
       refine AW.region ?_
       show AR _ _ _ _ _ [0, 1, 2] _
       refine sS rfl rfl rfl (mv rfl) ?_
       refine sS rfl rfl rfl (g_add rfl rfl g85) ?_
       refine sS rfl rfl rfl (asg rfl) ?_
       refine AR.nil ?_
       exact Exists.intro (n71, y67 + 1, y82, t83) ⟨H, Nat.lt_succ_self _, WK.at [0, 0, 0, 0, 0, 0, 0, 0] (.cons (.refl _) (.cons (.refl _) (.cons (.refl _) (.cons (.refl _) (.cons (.refl _) (.cons (.refl _) (.cons (.refl _) (.nil _)))))))) rfl⟩
      ·replace H := cnd_f c74 H
       refine AW.exit ?_
       exact Exists.intro (y68, t69) ⟨H, WK.at [0, 0, 1, 1, 1, 1, 1] (.cons (.refl _) (.cons (.refl _) (.cons (.refl _) (.cons (.refl _) (.cons (.refl _) (.nil _)))))) rfl⟩
     rintro ⟨y86, t87⟩ H
     replace H : ref05_Parse_j27 F x16 y86 = some (r2, r3, r4, r5, r6, r7, r8, r9, r10, r11, r12) := H
     unfold ref05_Parse_j27 at H
     show AW _ _ _ _ _ _
     obtain ⟨g89, H⟩ := grd_s H
     obtain ⟨x90, e91, H⟩ := lt_s H
     refine AW.region ?_
     show AR _ _ _ _ _ [0, 1, 2, 3, 4, 5, 6, 7, 8] _
     refine sS rfl rfl rfl (mv rfl) ?_
     refine sS rfl rfl rfl (opS_move (av := slE _ _ _) rfl) ?_
     refine sS rfl rfl rfl (mv rfl) ?_
     refine sS rfl rfl rfl (g_indexAddr (E := Enc.str) Tryz.underlying53 (by kernel_rfl) rfl rfl g89 e91) ?_
     refine sS rfl rfl rfl (opS_load_cp Tryz.underlying9 rfl rfl) ?_
     refine sS rfl rfl rfl (opS_eqs rfl rfl) ?_
     refine sS rfl rfl rfl (opS_fieldAddr_pt (n := 5) (by kernel_rfl) rfl) ?_
     refine sS rfl rfl rfl (opS_indexAddr_arr (Ar := 0) (k := 1) (m := 0) Tryz.underlying25 (by kernel_rfl) rfl rfl rfl (by decide)) ?_
     refine s0 rfl rfl (opR_store_pt (i := 0) (c := .v _) (by kernel_rfl) rfl rfl rfl rfl (Nat.le_of_ble_eq_true rfl)) ?_
     refine AR.nil ?_
     exact Exists.intro (y86, t87, decide (x90 = ([42] : List UInt8))) ⟨H, WK.at [0, 0, 0, 0, 0, 0, 0] (.cons (.refl _) (.cons (.refl _) (.cons (.refl _) (.cons (.refl _) (.cons (.refl _) (.nil _)))))) rfl⟩
    rintro ⟨y92, t93, y94⟩ H
    replace H : ref05_Parse_j26 F x16 y92 y94 = some (r2, r3, r4, r5, r6, r7, r8, r9, r10, r11, r12) := H
    unfold ref05_Parse_j26 at H
    show AW _ _ _ _ _ _
    refine AW.region ?_
    show AR _ _ _ _ _ [0, 1, 2] _
    refine sS rfl rfl rfl (mv rfl) ?_
    refine sS rfl rfl rfl (OpS.eq (av' := i64 1) (g_add rfl rfl (by decide)) rfl) ?_
    refine sS rfl rfl rfl (asg rfl) ?_
    refine AR.nil ?_
    show AW _ _ _ _ _ _
    refine AW.seq ?_
    refine AW.seq ?_
    refine AW.region ?_
    show AR _ _ _ _ _ [0, 1] _
    refine sS rfl rfl rfl (mv rfl) ?_
    refine sS rfl rfl rfl (OpS.eq (av' := B true) (opS_lt rfl rfl) (B_congr (by decide))) ?_
    refine AR.nil ?_
    show AW _ _ _ _ _ _
    refine AW.cond rfl (fun _ => ?_) (fun hx => bool_no rfl hx)
    refine AW.skip ?_
    show AW _ _ _ _ _ _
    refine AW.cut (X := (List Int) × Nat × Bool) (fun (y163, t164, y165) => ⟨[(2, .pt o13 0), (4, .cp [nilS, nilS, nilS, nilS, nilS, B false, B false, B false, B false, B false]), (5, slE Enc.str x16 none), (6, .pt o19 0), (7, i64 1)], [], [.obj o19 [slE Enc.int y92 (some t93), slE Enc.int y163 (some t164), slE Enc.int [] (some t22), slE Enc.int [] (some t23), slE Enc.int [] (some t24), B y94, B y165, B false, B false, B false], .obj o13 [nilS, nilS, nilS, nilS, nilS, B false, B false, B false, B false, B false], .tok t93 3, .tok t164 3, .tok t22 3, .tok t23 3, .tok t24 3]⟩) (fun (y163, t164, y165) => ref05_Parse_j20 F x16 y92 y94 y163 y165 = some (r2, r3, r4, r5, r6, r7, r8, r9, r10, r11, r12)) ?_ ?_
    ·
     refine AW.block ?_
     refine AW.seq ?_
     refine AW.region ?_
     show AR _ _ _ _ _ [0] _
     refine sS rfl rfl rfl (asg rfl) ?_
     refine AR.nil ?_
     show AW _ _ _ _ _ _
     refine AW.nil_grows 8 1 3 rfl fun t96 => ?_
     show AW _ _ _ _ _ ⟨(8, slE Enc.int [] (some t96)) :: _, _, _⟩
     refine AW.seq ?_
     obtain ⟨g97, H⟩ := grd_s H
     obtain ⟨x98, e99, H⟩ := lt_s H
     obtain ⟨x100, e101, H⟩ := bnd_s H
     refine AW.region ?_
     show AR _ _ _ _ _ [0, 1, 2, 3, 4, 5] _
     refine sS rfl rfl rfl (opS_move (av := slE _ _ _) rfl) ?_
     refine sS rfl rfl rfl (mv rfl) ?_
     refine sS rfl rfl rfl (g_indexAddr (E := Enc.str) Tryz.underlying53 (by kernel_rfl) rfl rfl g97 e99) ?_
     refine sS rfl rfl rfl (opS_load_cp Tryz.underlying9 rfl rfl) ?_
     refine AR.run rfl rfl (AO.callp rfl en33_cronr rfl (w_ref05_Split F x98 44 x100 e101) ?_)
     refine sS rfl rfl rfl (opS_assign (av := slE _ _ _) rfl) ?_
     refine AR.nil ?_
     show AW _ _ _ _ _ _
     refine AW.cut (X := (List Int) × Nat) (fun (y133, t134) => ⟨[(2, .pt o13 0), (4, .cp [nilS, nilS, nilS, nilS, nilS, B false, B false, B false, B false, B false]), (5, slE Enc.str x16 none), (6, .pt o19 0), (7, i64 1), (8, slE Enc.int y133 (some t134))], [], [.obj o19 [slE Enc.int y92 (some t93), slE Enc.int [] (some t21), slE Enc.int [] (some t22), slE Enc.int [] (some t23), slE Enc.int [] (some t24), B y94, B false, B false, B false, B false], .obj o13 [nilS, nilS, nilS, nilS, nilS, B false, B false, B false, B false, B false], .tok t134 3, .tok t93 3, .tok t21 3, .tok t22 3, .tok t23 3, .tok t24 3]⟩) (fun (y133, t134) => ref05_Parse_j23 F x16 y92 y94 y133 = some (r2, r3, r4, r5, r6, r7, r8, r9, r10, r11, r12)) ?_ ?_
     ·
      refine AW.seq ?_
      refine AW.region ?_
      show AR _ _ _ _ _ [0] _
      refine sS rfl rfl rfl (asg rfl) ?_
      refine AR.nil ?_
      show AW _ _ _ _ _ _
      refine AW.block ?_
      refine AW.loop (X := Nat × (List Int) × Nat × Int) (fun (n106, y102, t103, y104) => ⟨[(2, .pt o13 0), (4, .cp [nilS, nilS, nilS, nilS, nilS, B false, B false, B false, B false, B false]), (5, slE Enc.str x16 none), (6, .pt o19 0), (7, i64 1), (8, slE Enc.int y102 (some t103)), (9, slE Enc.str x100 none), (10, i64 y104)], [], [.obj o19 [slE Enc.int y92 (some t93), slE Enc.int [] (some t21), slE Enc.int [] (some t22), slE Enc.int [] (some t23), slE Enc.int [] (some t24), B y94, B false, B false, B false, B false], .obj o13 [nilS, nilS, nilS, nilS, nilS, B false, B false, B false, B false, B false], .tok t103 3, .tok t93 3, .tok t21 3, .tok t22 3, .tok t23 3, .tok t24 3]⟩) (fun (n106, y102, t103, y104) => ref05_Parse_L12 F x16 y92 y94 x100 n106 (y102, y104) = some (r2, r3, r4, r5, r6, r7, r8, r9, r10, r11, r12)) (fun (n106, y102, t103, y104) => n106) (F, [], t96, 0) H (WK.at [1, 1, 0, 0, 0, 0, 0, 0] (.cons (.refl _) (.cons (.refl _) (.cons (.refl _) (.cons (.refl _) (.cons (.refl _) (.cons (.refl _) (.cons (.refl _) (.cons (.refl _) (.nil _))))))))) rfl) ?_
      rintro ⟨n106, y102, t103, y104⟩ H
      obtain ⟨n106, rfl, H⟩ := loop_s H
      replace H : ref05_Parse_B12 F x16 y92 y94 x100 (ref05_Parse_L12 F x16 y92 y94 x100 n106) y102 y104 = some (r2, r3, r4, r5, r6, r7, r8, r9, r10, r11, r12) := H
      unfold ref05_Parse_B12 at H
      show AW _ _ _ _ _ _
      refine AW.seq ?_
      refine AW.seq ?_
      refine AW.region ?_
      show AR _ _ _ _ _ [0, 1, 2, 3] _
      refine sS rfl rfl rfl (mv rfl) ?_
      refine sS rfl rfl rfl (opS_move (av := slE _ _ _) rfl) ?_
      refine sS rfl rfl rfl (opS_len_sl Tryz.underlying53 rfl) ?_
      refine sS rfl rfl rfl (opS_lt rfl rfl) ?_
      refine AR.nil ?_
      show AW _ _ _ _ _ _
      refine AW.cond rfl (fun c107 => ?_) (fun c107 => ?_)
      ·replace H := cnd_t c107 H
       refine AW.skip ?_
       show AW _ _ _ _ _ _
       refine AW.cut (X := (List Int) × Nat) (fun (y129, t130) => ⟨[(2, .pt o13 0), (4, .cp [nilS, nilS, nilS, nilS, nilS, B false, B false, B false, B false, B false]), (5, slE Enc.str x16 none), (6, .pt o19 0), (7, i64 1), (8, slE Enc.int y129 (some t130)), (9, slE Enc.str x100 none), (10, i64 y104)], [], [.obj o19 [slE Enc.int y92 (some t93), slE Enc.int [] (some t21), slE Enc.int [] (some t22), slE Enc.int [] (some t23), slE Enc.int [] (some t24), B y94, B false, B false, B false, B false], .obj o13 [nilS, nilS, nilS, nilS, nilS, B false, B false, B false, B false, B false], .tok t130 3, .tok t93 3, .tok t21 3, .tok t22 3, .tok t23 3, .tok t24 3]⟩) (fun (y129, t130) => ref05_Parse_j24 y104 (ref05_Parse_L12 F x16 y92 y94 x100 n106) y129 = some (r2, r3, r4, r5, r6, r7, r8, r9, r10, r11, r12)) ?_ ?_
       ·
        refine AW.block ?_
        refine AW.seq ?_
        obtain ⟨g108, H⟩ := grd_s H
        obtain ⟨x109, e110, H⟩ := lt_s H
        obtain ⟨x111, e112, H⟩ := bnd_s H
        refine AW.region ?_
        show AR _ _ _ _ _ [0, 1, 2, 3, 4, 5, 6] _
        refine sS rfl rfl rfl (mv rfl) ?_
        refine sS rfl rfl rfl (opS_move (av := slE _ _ _) rfl) ?_
        refine sS rfl rfl rfl (mv rfl) ?_
        refine sS rfl rfl rfl (g_indexAddr (E := Enc.str) Tryz.underlying53 (by kernel_rfl) rfl rfl g108 e110) ?_
        refine sS rfl rfl rfl (opS_load_cp Tryz.underlying9 rfl rfl) ?_
        refine AR.run rfl rfl (AO.callp rfl en34_cronr rfl (w_ref05_piece F 1 x109 x111 e112) ?_)
        refine sS rfl rfl rfl (opS_assign (av := slE _ _ _) rfl) ?_
        refine AR.nil ?_
        show AW _ _ _ _ _ _
        refine AW.seq ?_
        refine AW.seq ?_
        refine AW.region ?_
        show AR _ _ _ _ _ [0, 1, 2] _
        refine sS rfl rfl rfl (opS_move (av := slE _ _ _) rfl) ?_
        refine sS rfl rfl rfl (opS_len_sl Tryz.underlying23 rfl) ?_
        refine sS rfl rfl rfl (opS_eqi rfl rfl) ?_
        refine AR.nil ?_
        show AW _ _ _ _ _ _
        refine AW.cond rfl (fun c113 => ?_) (fun c113 => ?_)
        ·replace H := cnd_t c113 H
         refine AW.seq ?_
         refine AW.region ?_
         show AR _ _ _ _ _ [0, 1, 2] _
         refine sS rfl rfl rfl (opS_load_cp_agg Tryz.underlying27 rfl (n := 10) (by kernel_rfl) rfl (Nat.le_of_ble_eq_true rfl)) ?_
         refine s0 rfl rfl (opR_store_agg (i := 1) (vs := [nilS, nilS, nilS, nilS, nilS, B false, B false, B false, B false, B false]) (by kernel_rfl) rfl rfl (by simp [isCell, slE]) rfl (Nat.le_of_ble_eq_true rfl)) ?_
         refine sS rfl rfl rfl (asg rfl) ?_
         refine AR.nil ?_
         show AW _ _ _ _ _ _
         refine AW.ret ?_
         obtain ⟨rfl, rfl, rfl, rfl, rfl, rfl, rfl, rfl, rfl, rfl, rfl⟩ := res11 H
         exact And.intro rfl (Exists.intro _ (Exists.intro _ ⟨ResT.resV (ResT.place2 rfl (CellV.aggW (cs := [nilS, nilS, nilS, nilS, nilS, B false, B false, B false, B false, B false]) (CellV.agg (off := 0) (cs := [nilS, nilS, nilS, nilS, nilS, B false, B false, B false, B false, B false]) (n := 10) 1 Tryz.underlying27 rfl (by kernel_rfl) rfl rfl (Nat.le_of_ble_eq_true rfl)) (.cons (.nil _) (.cons (.nil _) (.cons (.nil _) (.cons (.nil _) (.cons (.nil _) (.cons (.refl _) (.cons (.refl _) (.cons (.refl _) (.cons (.refl _) (.cons (.refl _) (.nil)))))))))))) ((show PlaceV _ _ _ (.tmp _) _ from (.refl _)))), Sub.at [] rfl, rfl, rfl⟩))
        ·replace H := cnd_f c113 H
         refine AW.skip ?_
         show AW _ _ _ _ _ _
         refine AW.seq ?_
         refine AW.region ?_
         show AR _ _ _ _ _ [0] _
         refine sS rfl rfl rfl (asg rfl) ?_
         refine AR.nil ?_
         show AW _ _ _ _ _ _
         refine AW.block ?_
         refine AW.loop (X := Nat × (List Int) × Nat × Int) (fun (n118, y114, t115, y116) => ⟨[(2, .pt o13 0), (4, .cp [nilS, nilS, nilS, nilS, nilS, B false, B false, B false, B false, B false]), (5, slE Enc.str x16 none), (6, .pt o19 0), (7, i64 1), (8, slE Enc.int y114 (some t115)), (9, slE Enc.str x100 none), (10, i64 y104), (11, slE Enc.int x111 none), (12, i64 y116)], [], [.obj o19 [slE Enc.int y92 (some t93), slE Enc.int [] (some t21), slE Enc.int [] (some t22), slE Enc.int [] (some t23), slE Enc.int [] (some t24), B y94, B false, B false, B false, B false], .obj o13 [nilS, nilS, nilS, nilS, nilS, B false, B false, B false, B false, B false], .tok t115 3, .tok t93 3, .tok t21 3, .tok t22 3, .tok t23 3, .tok t24 3]⟩) (fun (n118, y114, t115, y116) => ref05_Parse_L11 y104 x111 (ref05_Parse_L12 F x16 y92 y94 x100 n106) n118 (y114, y116) = some (r2, r3, r4, r5, r6, r7, r8, r9, r10, r11, r12)) (fun (n118, y114, t115, y116) => n118) (F, y102, t103, 0) H (WK.at [0, 0, 0, 0, 0, 0, 0, 0] (.cons (.refl _) (.cons (.refl _) (.cons (.refl _) (.cons (.refl _) (.cons (.refl _) (.cons (.refl _) (.cons (.refl _) (.cons (.refl _) (.cons (.refl _) (.cons (.refl _) (.nil _))))))))))) rfl) ?_
         rintro ⟨n118, y114, t115, y116⟩ H
         obtain ⟨n118, rfl, H⟩ := loop_s H
         replace H : ref05_Parse_B11 y104 x111 (ref05_Parse_L12 F x16 y92 y94 x100 n106) (ref05_Parse_L11 y104 x111 (ref05_Parse_L12 F x16 y92 y94 x100 n106) n118) y114 y116 = some (r2, r3, r4, r5, r6, r7, r8, r9, r10, r11, r12) := H
         unfold ref05_Parse_B11 at H
         show AW _ _ _ _ _ _
         refine AW.seq ?_
         refine AW.seq ?_
         refine AW.region ?_
         show AR _ _ _ _ _ [0, 1, 2, 3] _
         refine sS rfl rfl rfl (mv rfl) ?_
         refine sS rfl rfl rfl (opS_move (av := slE _ _ _) rfl) ?_
         refine sS rfl rfl rfl (opS_len_sl Tryz.underlying23 rfl) ?_
         refine sS rfl rfl rfl (opS_lt rfl rfl) ?_
         refine AR.nil ?_
         show AW _ _ _ _ _ _
         refine AW.cond rfl (fun c119 => ?_) (fun c119 => ?_)
         ·replace H := cnd_t c119 H
          refine AW.skip ?_
          show AW _ _ _ _ _ _
          refine AW.seq ?_
          refine AW.block ?_
          refine AW.seq ?_
          obtain ⟨g120, H⟩ := grd_s H
          obtain ⟨x121, e122, H⟩ := lt_s H
          refine AW.region ?_
          show AR _ _ _ _ _ [0, 1, 2, 3, 4] _
          refine sS rfl rfl rfl (opS_move (av := slE _ _ _) rfl) ?_
          refine sS rfl rfl rfl (mv rfl) ?_
          refine sS rfl rfl rfl (g_indexAddr (E := Enc.int) Tryz.underlying23 (by kernel_rfl) rfl rfl g120 e122) ?_
          refine sS rfl rfl rfl (opS_load_cp Tryz.underlying3 rfl rfl) ?_
          refine sS rfl rfl rfl (asg rfl) ?_
          refine AR.nil ?_
          show AW _ _ _ _ _ _
          refine AW.cut (X := Unit) (fun _ => ⟨[(2, .pt o13 0), (4, .cp [nilS, nilS, nilS, nilS, nilS, B false, B false, B false, B false, B false]), (5, slE Enc.str x16 none), (6, .pt o19 0), (7, i64 1), (8, slE Enc.int y114 (some t115)), (9, slE Enc.str x100 none), (10, i64 y104), (11, slE Enc.int x111 none), (12, i64 y116), (13, i64 x121)], [], [.obj o19 [slE Enc.int y92 (some t93), slE Enc.int [] (some t21), slE Enc.int [] (some t22), slE Enc.int [] (some t23), slE Enc.int [] (some t24), B y94, B false, B false, B false, B false], .obj o13 [nilS, nilS, nilS, nilS, nilS, B false, B false, B false, B false, B false], .tok t115 3, .tok t93 3, .tok t21 3, .tok t22 3, .tok t23 3, .tok t24 3]⟩) (fun _ => ref05_Parse_j25 y114 y116 x121 (ref05_Parse_L11 y104 x111 (ref05_Parse_L12 F x16 y92 y94 x100 n106) n118) = some (r2, r3, r4, r5, r6, r7, r8, r9, r10, r11, r12)) ?_ ?_
          ·
           refine AW.seq ?_
           refine AW.region ?_
           show AR _ _ _ _ _ [0, 1, 2, 3, 4, 5] _
           refine sS rfl rfl rfl (mv rfl) ?_
           refine sS rfl rfl rfl (OpS.eq (av' := B false) (opS_eqi rfl rfl) (B_congr (by decide))) ?_
           refine sS rfl rfl rfl (mv rfl) ?_
           refine gF rfl rfl rfl rfl rfl rfl ?_
           refine gF rfl rfl rfl rfl rfl rfl ?_
           refine sS rfl rfl rfl (opS_pick_f (av := .v _) rfl rfl rfl) ?_
           refine AR.nil ?_
           show AW _ _ _ _ _ _
           refine AW.cond rfl (fun hx => bool_no hx rfl) (fun _ => ?_)
           refine AW.skip ?_
           exact Exists.intro () ⟨H, WK.at [0, 0, 0, 0, 0, 0, 0, 0] (.cons (.refl _) (.cons (.refl _) (.cons (.refl _) (.cons (.refl _) (.cons (.refl _) (.cons (.refl _) (.cons (.refl _) (.cons (.refl _) (.cons (.refl _) (.cons (.refl _) (.cons (.refl _) (.nil _)))))))))))) rfl⟩
          rintro _ H
          replace H : ref05_Parse_j25 y114 y116 x121 (ref05_Parse_L11 y104 x111 (ref05_Parse_L12 F x16 y92 y94 x100 n106) n118) = some (r2, r3, r4, r5, r6, r7, r8, r9, r10, r11, r12) := H
          unfold ref05_Parse_j25 at H
          show AW _ _ _ _ _ _
          obtain ⟨g125, H⟩ := grd_s H
          obtain ⟨x126, e127, H⟩ := lt_s H
          refine AW.region ?_
          show AR _ _ _ _ _ [0, 1, 2, 3, 4] _
          refine sS rfl rfl rfl (opS_move (av := slE _ _ _) rfl) ?_
          refine sS rfl rfl rfl (mv rfl) ?_
          refine sR rfl rfl rfl (opR_buildE (E := Enc.int) (bytes := 8) (xs := [.tmp 70]) (l := ([x121] : List Int)) Tryz.underlying23 (by kernel_rfl) rfl rfl (by decide) rfl rfl) ?_
          refine sX rfl rfl rfl (g_append (E := Enc.int) (bytes := 8) 2 Tryz.underlying23 Tryz.underlying23 rfl (by kernel_rfl) rfl rfl rfl rfl g125 e127) ?_
          rintro _ _ ⟨t124, rfl, rfl⟩
          refine sS rfl rfl rfl (opS_assign (av := slE _ _ _) rfl) ?_
          refine AR.nil ?_
          show AW _ _ _ _ _ _
          obtain ⟨g128, H⟩ := grd_s H
          refine AW.region ?_
          show AR _ _ _ _ _ [0, 1, 2] _
          refine sS rfl rfl rfl (mv rfl) ?_
          refine sS rfl rfl rfl (g_add rfl rfl g128) ?_
          refine sS rfl rfl rfl (asg rfl) ?_
          refine AR.nil ?_
          exact Exists.intro (n118, x126, t124, y116 + 1) ⟨H, Nat.lt_succ_self _, WK.at [0, 0, 0, 0, 0, 0, 0, 0] (.cons (.refl _) (.cons (.refl _) (.cons (.refl _) (.cons (.refl _) (.cons (.refl _) (.cons (.refl _) (.cons (.refl _) (.cons (.refl _) (.cons (.refl _) (.cons (.refl _) (.nil _))))))))))) rfl⟩
         ·replace H := cnd_f c119 H
          refine AW.exit ?_
          exact Exists.intro (y114, t115) ⟨H, WK.at [0, 0, 0, 0, 0, 0, 0, 0] (.cons (.refl _) (.cons (.refl _) (.cons (.refl _) (.cons (.refl _) (.cons (.refl _) (.cons (.refl _) (.cons (.refl _) (.cons (.refl _) (.nil _))))))))) rfl⟩
       rintro ⟨y129, t130⟩ H
       replace H : ref05_Parse_j24 y104 (ref05_Parse_L12 F x16 y92 y94 x100 n106) y129 = some (r2, r3, r4, r5, r6, r7, r8, r9, r10, r11, r12) := H
       unfold ref05_Parse_j24 at H
       show AW _ _ _ _ _ _
       obtain ⟨g132, H⟩ := grd_s H
       refine AW.region ?_
       show AR _ _ _ _ _ [0, 1, 2] _
       refine sS rfl rfl rfl (mv rfl) ?_
       refine sS rfl rfl rfl (g_add rfl rfl g132) ?_
       refine sS rfl rfl rfl (asg rfl) ?_
       refine AR.nil ?_
       exact Exists.intro (n106, y129, t130, y104 + 1) ⟨H, Nat.lt_succ_self _, WK.at [0, 0, 0, 0, 0, 0, 0, 0] (.cons (.refl _) (.cons (.refl _) (.cons (.refl _) (.cons (.refl _) (.cons (.refl _) (.cons (.refl _) (.cons (.refl _) (.cons (.refl _) (.nil _))))))))) rfl⟩
      ·replace H := cnd_f c107 H
       refine AW.exit ?_
       exact Exists.intro (y102, t103) ⟨H, WK.at [0, 0, 0, 0, 0, 0, 0, 0] (.cons (.refl _) (.cons (.refl _) (.cons (.refl _) (.cons (.refl _) (.cons (.refl _) (.cons (.refl _) (.nil _))))))) rfl⟩
     rintro ⟨y133, t134⟩ H
     replace H : ref05_Parse_j23 F x16 y92 y94 y133 = some (r2, r3, r4, r5, r6, r7, r8, r9, r10, r11, r12) := H
     unfold ref05_Parse_j23 at H
     show AW _ _ _ _ _ _
     refine AW.cut (X := (List Int) × Nat) (fun (y157, t158) => ⟨[(2, .pt o13 0), (4, .cp [nilS, nilS, nilS, nilS, nilS, B false, B false, B false, B false, B false]), (5, slE Enc.str x16 none), (6, .pt o19 0), (7, i64 1)], [], [.obj o19 [slE Enc.int y92 (some t93), slE Enc.int y157 (some t158), slE Enc.int [] (some t22), slE Enc.int [] (some t23), slE Enc.int [] (some t24), B y94, B false, B false, B false, B false], .obj o13 [nilS, nilS, nilS, nilS, nilS, B false, B false, B false, B false, B false], .tok t93 3, .tok t158 3, .tok t22 3, .tok t23 3, .tok t24 3]⟩) (fun (y157, t158) => ref05_Parse_j21 F x16 y92 y94 y157 = some (r2, r3, r4, r5, r6, r7, r8, r9, r10, r11, r12)) ?_ ?_
     ·
      refine AW.seq ?_
      obtain ⟨x136, e137, H⟩ := bnd_s H
      refine AW.region ?_
      show AR _ _ _ _ _ [0, 1, 2] _
      refine sS rfl rfl rfl (mv rfl) ?_
      refine AR.run rfl rfl (AO.callp rfl en35_cronr rfl (w_ref05_Low F 1 x136 e137) ?_)
      refine sS rfl rfl rfl (asg rfl) ?_
      refine AR.nil ?_
      show AW _ _ _ _ _ _
      refine AW.block ?_
      refine AW.loop (X := Nat × Int × (List Int) × Nat) (fun (n142, y138, y139, t140) => ⟨[(2, .pt o13 0), (4, .cp [nilS, nilS, nilS, nilS, nilS, B false, B false, B false, B false, B false]), (5, slE Enc.str x16 none), (6, .pt o19 0), (7, i64 1), (8, slE Enc.int y133 (some t134)), (14, i64 y138)], [], [.obj o19 [slE Enc.int y92 (some t93), slE Enc.int y139 (some t140), slE Enc.int [] (some t22), slE Enc.int [] (some t23), slE Enc.int [] (some t24), B y94, B false, B false, B false, B false], .obj o13 [nilS, nilS, nilS, nilS, nilS, B false, B false, B false, B false, B false], .tok t134 3, .tok t93 3, .tok t140 3, .tok t22 3, .tok t23 3, .tok t24 3]⟩) (fun (n142, y138, y139, t140) => ref05_Parse_L10 F x16 y92 y94 y133 n142 (y138, y139) = some (r2, r3, r4, r5, r6, r7, r8, r9, r10, r11, r12)) (fun (n142, y138, y139, t140) => n142) (F, x136, [], t21) H (WK.at [0, 0, 0, 0, 0, 0, 0, 0] (.cons (.refl _) (.cons (.refl _) (.cons (.refl _) (.cons (.refl _) (.cons (.refl _) (.cons (.refl _) (.cons (.refl _) (.nil _)))))))) rfl) ?_
      rintro ⟨n142, y138, y139, t140⟩ H
      obtain ⟨n142, rfl, H⟩ := loop_s H
      replace H : ref05_Parse_B10 F x16 y92 y94 y133 (ref05_Parse_L10 F x16 y92 y94 y133 n142) y138 y139 = some (r2, r3, r4, r5, r6, r7, r8, r9, r10, r11, r12) := H
      unfold ref05_Parse_B10 at H
      show AW _ _ _ _ _ _
      refine AW.seq ?_
      refine AW.seq ?_
      obtain ⟨x143, e144, H⟩ := bnd_s H
      refine AW.region ?_
      show AR _ _ _ _ _ [0, 1, 2, 3] _
      refine sS rfl rfl rfl (mv rfl) ?_
      refine sS rfl rfl rfl (mv rfl) ?_
      refine AR.run rfl rfl (AO.callp rfl en36_cronr rfl (w_ref05_High F 1 x143 e144) ?_)
      refine sS rfl rfl rfl (opS_le rfl rfl) ?_
      refine AR.nil ?_
      show AW _ _ _ _ _ _
      refine AW.cond rfl (fun c145 => ?_) (fun c145 => ?_)
      ·replace H := cnd_t c145 H
       refine AW.skip ?_
       show AW _ _ _ _ _ _
       refine AW.cut (X := (List Int) × Nat) (fun (y153, t154) => ⟨[(2, .pt o13 0), (4, .cp [nilS, nilS, nilS, nilS, nilS, B false, B false, B false, B false, B false]), (5, slE Enc.str x16 none), (6, .pt o19 0), (7, i64 1), (8, slE Enc.int y133 (some t134)), (14, i64 y138)], [], [.obj o19 [slE Enc.int y92 (some t93), slE Enc.int y153 (some t154), slE Enc.int [] (some t22), slE Enc.int [] (some t23), slE Enc.int [] (some t24), B y94, B false, B false, B false, B false], .obj o13 [nilS, nilS, nilS, nilS, nilS, B false, B false, B false, B false, B false], .tok t134 3, .tok t93 3, .tok t154 3, .tok t22 3, .tok t23 3, .tok t24 3]⟩) (fun (y153, t154) => ref05_Parse_j22 y138 (ref05_Parse_L10 F x16 y92 y94 y133 n142) y153 = some (r2, r3, r4, r5, r6, r7, r8, r9, r10, r11, r12)) ?_ ?_
       ·
        refine AW.block ?_
        refine AW.seq ?_
        obtain ⟨x146, e147, H⟩ := bnd_s H
        refine AW.region ?_
        show AR _ _ _ _ _ [0, 1, 2, 3] _
        refine sS rfl rfl rfl (opS_move (av := slE _ _ _) rfl) ?_
        refine sS rfl rfl rfl (mv rfl) ?_
        refine AR.run rfl rfl (AO.callp rfl en17_cronr rfl (w_ref05_Has F y133 (some t134) y138 x146 e147) ?_)
        refine sS rfl rfl rfl (asg rfl) ?_
        refine AR.nil ?_
        show AW _ _ _ _ _ _
        refine AW.seq ?_
        refine AW.region ?_
        show AR _ _ _ _ _ [0] _
        refine sS rfl rfl rfl (mv rfl) ?_
        refine AR.nil ?_
        show AW _ _ _ _ _ _
        refine AW.cond rfl (fun c148 => ?_) (fun c148 => ?_)
        ·replace H := cnd_t c148 H
         obtain ⟨g150, H⟩ := grd_s H
         obtain ⟨x151, e152, H⟩ := lt_s H
         refine AW.region ?_
         show AR _ _ _ _ _ [0, 1, 2, 3, 4, 5, 6, 7, 8, 9, 10] _
         refine sS rfl rfl rfl (mv rfl) ?_
         refine sS rfl rfl rfl (mv rfl) ?_
         refine sS rfl rfl rfl (opS_fieldAddr_pt (n := 0) (by kernel_rfl) rfl) ?_
         refine sS rfl rfl rfl (opS_indexAddr_arr (Ar := 0) (k := 1) (m := 1) Tryz.underlying24 (by kernel_rfl) rfl rfl rfl (by decide)) ?_
         refine sR rfl rfl rfl (opR_load_pt (i := 0) Tryz.underlying23 rfl rfl rfl rfl) ?_
         refine sS rfl rfl rfl (mv rfl) ?_
         refine sR rfl rfl rfl (opR_buildE (E := Enc.int) (bytes := 8) (xs := [.tmp 90]) (l := ([y138] : List Int)) Tryz.underlying23 (by kernel_rfl) rfl rfl (by decide) rfl rfl) ?_
         refine sX rfl rfl rfl (g_append (E := Enc.int) (bytes := 8) 4 Tryz.underlying23 Tryz.underlying23 rfl (by kernel_rfl) rfl rfl rfl rfl g150 e152) ?_
         rintro _ _ ⟨t149, rfl, rfl⟩
         refine sS rfl rfl rfl (opS_fieldAddr_pt (n := 0) (by kernel_rfl) rfl) ?_
         refine sS rfl rfl rfl (opS_indexAddr_arr (Ar := 0) (k := 1) (m := 1) Tryz.underlying24 (by kernel_rfl) rfl rfl rfl (by decide)) ?_
         refine s0 rfl rfl (opR_store_pt (i := 0) (c := slE _ _ _) (by kernel_rfl) rfl rfl rfl rfl (Nat.le_of_ble_eq_true rfl)) ?_
         refine AR.nil ?_
         exact Exists.intro (x151, t149) ⟨H, WK.at [0, 0, 0, 0, 0, 0, 0, 0] (.cons (.refl _) (.cons (.refl _) (.cons (.refl _) (.cons (.refl _) (.cons (.refl _) (.cons (.refl _) (.cons (.refl _) (.nil _)))))))) rfl⟩
        ·replace H := cnd_f c148 H
         refine AW.skip ?_
         exact Exists.intro (y139, t140) ⟨H, WK.at [0, 0, 0, 0, 0, 0, 0, 0] (.cons (.refl _) (.cons (.refl _) (.cons (.refl _) (.cons (.refl _) (.cons (.refl _) (.cons (.refl _) (.cons (.refl _) (.nil _)))))))) rfl⟩
       rintro ⟨y153, t154⟩ H
       replace H : ref05_Parse_j22 y138 (ref05_Parse_L10 F x16 y92 y94 y133 n142) y153 = some (r2, r3, r4, r5, r6, r7, r8, r9, r10, r11, r12) := H
       unfold ref05_Parse_j22 at H
       show AW _ _ _ _ _ _
       obtain ⟨g156, H⟩ := grd_s H
       refine AW.region ?_
       show AR _ _ _ _ _ [0, 1, 2] _
       refine sS rfl rfl rfl (mv rfl) ?_
       refine sS rfl rfl rfl (g_add rfl rfl g156) ?_
       refine sS rfl rfl rfl (asg rfl) ?_
       refine AR.nil ?_
       exact Exists.intro (n142, y138 + 1, y153, t154) ⟨H, Nat.lt_succ_self _, WK.at [0, 0, 0, 0, 0, 0, 0, 0] (.cons (.refl _) (.cons (.refl _) (.cons (.refl _) (.cons (.refl _) (.cons (.refl _) (.cons (.refl _) (.cons (.refl _) (.nil _)))))))) rfl⟩
      ·replace H := cnd_f c145 H
       refine AW.exit ?_
       exact Exists.intro (y139, t140) ⟨H, WK.at [0, 0, 1, 1, 1, 1, 1] (.cons (.refl _) (.cons (.refl _) (.cons (.refl _) (.cons (.refl _) (.cons (.refl _) (.nil _)))))) rfl⟩
     rintro ⟨y157, t158⟩ H
     replace H : ref05_Parse_j21 F x16 y92 y94 y157 = some (r2, r3, r4, r5, r6, r7, r8, r9, r10, r11, r12) := H
     unfold ref05_Parse_j21 at H
     show AW _ _ _ _ _ _
     obtain ⟨g160, H⟩ := grd_s H
     obtain ⟨x161, e162, H⟩ := lt_s H
     refine AW.region ?_
     show AR _ _ _ _ _ [0, 1, 2, 3, 4, 5, 6, 7, 8] _
     refine sS rfl rfl rfl (mv rfl) ?_
     refine sS rfl rfl rfl (opS_move (av := slE _ _ _) rfl) ?_
     refine sS rfl rfl rfl (mv rfl) ?_
     refine sS rfl rfl rfl (g_indexAddr (E := Enc.str) Tryz.underlying53 (by kernel_rfl) rfl rfl g160 e162) ?_
     refine sS rfl rfl rfl (opS_load_cp Tryz.underlying9 rfl rfl) ?_
     refine sS rfl rfl rfl (opS_eqs rfl rfl) ?_
     refine sS rfl rfl rfl (opS_fieldAddr_pt (n := 5) (by kernel_rfl) rfl) ?_
     refine sS rfl rfl rfl (opS_indexAddr_arr (Ar := 0) (k := 1) (m := 1) Tryz.underlying25 (by kernel_rfl) rfl rfl rfl (by decide)) ?_
     refine s0 rfl rfl (opR_store_pt (i := 0) (c := .v _) (by kernel_rfl) rfl rfl rfl rfl (Nat.le_of_ble_eq_true rfl)) ?_
     refine AR.nil ?_
     exact Exists.intro (y157, t158, decide (x161 = ([42] : List UInt8))) ⟨H, WK.at [0, 0, 0, 0, 0, 0, 0] (.cons (.refl _) (.cons (.refl _) (.cons (.refl _) (.cons (.refl _) (.cons (.refl _) (.nil _)))))) rfl⟩
    rintro ⟨y163, t164, y165⟩ H
    replace H : ref05_Parse_j20 F x16 y92 y94 y163 y165 = some (r2, r3, r4, r5, r6, r7, r8, r9, r10, r11, r12) := H
    unfold ref05_Parse_j20 at H
    show AW _ _ _ _ _ _
    refine AW.region ?_
    show AR _ _ _ _ _ [0, 1, 2] _
    refine sS rfl rfl rfl (mv rfl) ?_
    refine sS rfl rfl rfl (OpS.eq (av' := i64 2) (g_add rfl rfl (by decide)) rfl) ?_
    refine sS rfl rfl rfl (asg rfl) ?_
    refine AR.nil ?_
    show AW _ _ _ _ _ _
    refine AW.seq ?_
    refine AW.seq ?_
    refine AW.region ?_
    show AR _ _ _ _ _ [0, 1] _
    refine sS rfl rfl rfl (mv rfl) ?_
    refine sS rfl rfl rfl (OpS.eq (av' := B true) (opS_lt rfl rfl) (B_congr (by decide))) ?_
    refine AR.nil ?_
    show AW _ _ _ _ _ _
    refine AW.cond rfl (fun _ => ?_) (fun hx => bool_no rfl hx)
    refine AW.skip ?_
    show AW _ _ _ _ _ _
    refine AW.cut (X := (List Int) × Nat × Bool) (fun (y234, t235, y236) => ⟨[(2, .pt o13 0), (4, .cp [nilS, nilS, nilS, nilS, nilS, B false, B false, B false, B false, B false]), (5, slE Enc.str x16 none), (6, .pt o19 0), (7, i64 2)], [], [.obj o19 [slE Enc.int y92 (some t93), slE Enc.int y163 (some t164), slE Enc.int y234 (some t235), slE Enc.int [] (some t23), slE Enc.int [] (some t24), B y94, B y165, B y236, B false, B false], .obj o13 [nilS, nilS, nilS, nilS, nilS, B false, B false, B false, B false, B false], .tok t93 3, .tok t164 3, .tok t235 3, .tok t23 3, .tok t24 3]⟩) (fun (y234, t235, y236) => ref05_Parse_j14 F x16 y92 y94 y163 y165 y234 y236 = some (r2, r3, r4, r5, r6, r7, r8, r9, r10, r11, r12)) ?_ ?_
    ·
     refine AW.block ?_
     refine AW.seq ?_
     refine AW.region ?_
     show AR _ _ _ _ _ [0] _
     refine sS rfl rfl rfl (asg rfl) ?_
     refine AR.nil ?_
     show AW _ _ _ _ _ _
     refine AW.nil_grows 8 1 3 rfl fun t167 => ?_
     show AW _ _ _ _ _ ⟨(8, slE Enc.int [] (some t167)) :: _, _, _⟩
     refine AW.seq ?_
     obtain ⟨g168, H⟩ := grd_s H
     obtain ⟨x169, e170, H⟩ := lt_s H
     obtain ⟨x171, e172, H⟩ := bnd_s H
     refine AW.region ?_
     show AR _ _ _ _ _ [0, 1, 2, 3, 4, 5] _
     refine sS rfl rfl rfl (opS_move (av := slE _ _ _) rfl) ?_
     refine sS rfl rfl rfl (mv rfl) ?_
     refine sS rfl rfl rfl (g_indexAddr (E := Enc.str) Tryz.underlying53 (by kernel_rfl) rfl rfl g168 e170) ?_
     refine sS rfl rfl rfl (opS_load_cp Tryz.underlying9 rfl rfl) ?_
     refine AR.run rfl rfl (AO.callp rfl en33_cronr rfl (w_ref05_Split F x169 44 x171 e172) ?_)
     refine sS rfl rfl rfl (opS_assign (av := slE _ _ _) rfl) ?_
     refine AR.nil ?_
     show AW _ _ _ _ _ _
     refine AW.cut (X := (List Int) × Nat) (fun (y204, t205) => ⟨[(2, .pt o13 0), (4, .cp [nilS, nilS, nilS, nilS, nilS, B false, B false, B false, B false, B false]), (5, slE Enc.str x16 none), (6, .pt o19 0), (7, i64 2), (8, slE Enc.int y204 (some t205))], [], [.obj o19 [slE Enc.int y92 (some t93), slE Enc.int y163 (some t164), slE Enc.int [] (some t22), slE Enc.int [] (some t23), slE Enc.int [] (some t24), B y94, B y165, B false, B false, B false], .obj o13 [nilS, nilS, nilS, nilS, nilS, B false, B false, B false, B false, B false], .tok t205 3, .tok t93 3, .tok t164 3, .tok t22 3, .tok t23 3, .tok t24 3]⟩) (fun (y204, t205) => ref05_Parse_j17 F x16 y92 y94 y163 y165 y204 = some (r2, r3, r4, r5, r6, r7, r8, r9, r10, r11, r12)) ?_ ?_
     ·
      refine AW.seq ?_
      refine AW.region ?_
      show AR _ _ _ _ _ [0] _
      refine sS rfl rfl rfl (asg rfl) ?_
      refine AR.nil ?_
      show AW _ _ _ _ _ _
      refine AW.block ?_
      refine AW.loop (X := Nat × (List Int) × Nat × Int) (fun (n177, y173, t174, y175) => ⟨[(2, .pt o13 0), (4, .cp [nilS, nilS, nilS, nilS, nilS, B false, B false, B false, B false, B false]), (5, slE Enc.str x16 none), (6, .pt o19 0), (7, i64 2), (8, slE Enc.int y173 (some t174)), (9, slE Enc.str x171 none), (10, i64 y175)], [], [.obj o19 [slE Enc.int y92 (some t93), slE Enc.int y163 (some t164), slE Enc.int [] (some t22), slE Enc.int [] (some t23), slE Enc.int [] (some t24), B y94, B y165, B false, B false, B false], .obj o13 [nilS, nilS, nilS, nilS, nilS, B false, B false, B false, B false, B false], .tok t174 3, .tok t93 3, .tok t164 3, .tok t22 3, .tok t23 3, .tok t24 3]⟩) (fun (n177, y173, t174, y175) => ref05_Parse_L9 F x16 y92 y94 y163 y165 x171 n177 (y173, y175) = some (r2, r3, r4, r5, r6, r7, r8, r9, r10, r11, r12)) (fun (n177, y173, t174, y175) => n177) (F, [], t167, 0) H (WK.at [1, 1, 0, 0, 0, 0, 0, 0] (.cons (.refl _) (.cons (.refl _) (.cons (.refl _) (.cons (.refl _) (.cons (.refl _) (.cons (.refl _) (.cons (.refl _) (.cons (.refl _) (.nil _))))))))) rfl) ?_
      rintro ⟨n177, y173, t174, y175⟩ H
      obtain ⟨n177, rfl, H⟩ := loop_s H
      replace H : ref05_Parse_B9 F x16 y92 y94 y163 y165 x171 (ref05_Parse_L9 F x16 y92 y94 y163 y165 x171 n177) y173 y175 = some (r2, r3, r4, r5, r6, r7, r8, r9, r10, r11, r12) := H
      unfold ref05_Parse_B9 at H
      show AW _ _ _ _ _ _
      refine AW.seq ?_
      refine AW.seq ?_
      refine AW.region ?_
      show AR _ _ _ _ _ [0, 1, 2, 3] _
      refine sS rfl rfl rfl (mv rfl) ?_
      refine sS rfl rfl rfl (opS_move (av := slE _ _ _) rfl) ?_
      refine sS rfl rfl rfl (opS_len_sl Tryz.underlying53 rfl) ?_
      refine sS rfl rfl rfl (opS_lt rfl rfl) ?_
      refine AR.nil ?_
      show AW _ _ _ _ _ _
      refine AW.cond rfl (fun c178 => ?_) (fun c178 => ?_)
      ·replace H := cnd_t c178 H
       refine AW.skip ?_
       show AW _ _ _ _ _ _
       refine AW.cut (X := (List Int) × Nat) (fun (y200, t201) => ⟨[(2, .pt o13 0), (4, .cp [nilS, nilS, nilS, nilS, nilS, B false, B false, B false, B false, B false]), (5, slE Enc.str x16 none), (6, .pt o19 0), (7, i64 2), (8, slE Enc.int y200 (some t201)), (9, slE Enc.str x171 none), (10, i64 y175)], [], [.obj o19 [slE Enc.int y92 (some t93), slE Enc.int y163 (some t164), slE Enc.int [] (some t22), slE Enc.int [] (some t23), slE Enc.int [] (some t24), B y94, B y165, B false, B false, B false], .obj o13 [nilS, nilS, nilS, nilS, nilS, B false, B false, B false, B false, B false], .tok t201 3, .tok t93 3, .tok t164 3, .tok t22 3, .tok t23 3, .tok t24 3]⟩) (fun (y200, t201) => ref05_Parse_j18 y175 (ref05_Parse_L9 F x16 y92 y94 y163 y165 x171 n177) y200 = some (r2, r3, r4, r5, r6, r7, r8, r9, r10, r11, r12)) ?_ ?_
       ·
        refine AW.block ?_
        refine AW.seq ?_
        obtain ⟨g179, H⟩ := grd_s H
        obtain ⟨x180, e181, H⟩ := lt_s H
        obtain ⟨x182, e183, H⟩ := bnd_s H
        refine AW.region ?_
        show AR _ _ _ _ _ [0, 1, 2, 3, 4, 5, 6] _
        refine sS rfl rfl rfl (mv rfl) ?_
        refine sS rfl rfl rfl (opS_move (av := slE _ _ _) rfl) ?_
        refine sS rfl rfl rfl (mv rfl) ?_
        refine sS rfl rfl rfl (g_indexAddr (E := Enc.str) Tryz.underlying53 (by kernel_rfl) rfl rfl g179 e181) ?_
        refine sS rfl rfl rfl (opS_load_cp Tryz.underlying9 rfl rfl) ?_
        refine AR.run rfl rfl (AO.callp rfl en34_cronr rfl (w_ref05_piece F 2 x180 x182 e183) ?_)
        refine sS rfl rfl rfl (opS_assign (av := slE _ _ _) rfl) ?_
        refine AR.nil ?_
        show AW _ _ _ _ _ _
        refine AW.seq ?_
        refine AW.seq ?_
        refine AW.region ?_
        show AR _ _ _ _ _ [0, 1, 2] _
        refine sS rfl rfl rfl (opS_move (av := slE _ _ _) rfl) ?_
        refine sS rfl rfl rfl (opS_len_sl Tryz.underlying23 rfl) ?_
        refine sS rfl rfl rfl (opS_eqi rfl rfl) ?_
        refine AR.nil ?_
        show AW _ _ _ _ _ _
        refine AW.cond rfl (fun c184 => ?_) (fun c184 => ?_)
        ·replace H := cnd_t c184 H
         refine AW.seq ?_
         refine AW.region ?_
         show AR _ _ _ _ _ [0, 1, 2] _
         refine sS rfl rfl rfl (opS_load_cp_agg Tryz.underlying27 rfl (n := 10) (by kernel_rfl) rfl (Nat.le_of_ble_eq_true rfl)) ?_
         refine s0 rfl rfl (opR_store_agg (i := 1) (vs := [nilS, nilS, nilS, nilS, nilS, B false, B false, B false, B false, B false]) (by kernel_rfl) rfl rfl (by simp [isCell, slE]) rfl (Nat.le_of_ble_eq_true rfl)) ?_
         refine sS rfl rfl rfl (asg rfl) ?_
         refine AR.nil ?_
         show AW _ _ _ _ _ _
         refine AW.ret ?_
         obtain ⟨rfl, rfl, rfl, rfl, rfl, rfl, rfl, rfl, rfl, rfl, rfl⟩ := res11 H
         exact And.intro rfl (Exists.intro _ (Exists.intro _ ⟨ResT.resV (ResT.place2 rfl (CellV.aggW (cs := [nilS, nilS, nilS, nilS, nilS, B false, B false, B false, B false, B false]) (CellV.agg (off := 0) (cs := [nilS, nilS, nilS, nilS, nilS, B false, B false, B false, B false, B false]) (n := 10) 1 Tryz.underlying27 rfl (by kernel_rfl) rfl rfl (Nat.le_of_ble_eq_true rfl)) (.cons (.nil _) (.cons (.nil _) (.cons (.nil _) (.cons (.nil _) (.cons (.nil _) (.cons (.refl _) (.cons (.refl _) (.cons (.refl _) (.cons (.refl _) (.cons (.refl _) (.nil)))))))))))) ((show PlaceV _ _ _ (.tmp _) _ from (.refl _)))), Sub.at [] rfl, rfl, rfl⟩))
        ·replace H := cnd_f c184 H
         refine AW.skip ?_
         show AW _ _ _ _ _ _
         refine AW.seq ?_
         refine AW.region ?_
         show AR _ _ _ _ _ [0] _
         refine sS rfl rfl rfl (asg rfl) ?_
         refine AR.nil ?_
         show AW _ _ _ _ _ _
         refine AW.block ?_
         refine AW.loop (X := Nat × (List Int) × Nat × Int) (fun (n189, y185, t186, y187) => ⟨[(2, .pt o13 0), (4, .cp [nilS, nilS, nilS, nilS, nilS, B false, B false, B false, B false, B false]), (5, slE Enc.str x16 none), (6, .pt o19 0), (7, i64 2), (8, slE Enc.int y185 (some t186)), (9, slE Enc.str x171 none), (10, i64 y175), (11, slE Enc.int x182 none), (12, i64 y187)], [], [.obj o19 [slE Enc.int y92 (some t93), slE Enc.int y163 (some t164), slE Enc.int [] (some t22), slE Enc.int [] (some t23), slE Enc.int [] (some t24), B y94, B y165, B false, B false, B false], .obj o13 [nilS, nilS, nilS, nilS, nilS, B false, B false, B false, B false, B false], .tok t186 3, .tok t93 3, .tok t164 3, .tok t22 3, .tok t23 3, .tok t24 3]⟩) (fun (n189, y185, t186, y187) => ref05_Parse_L8 y175 x182 (ref05_Parse_L9 F x16 y92 y94 y163 y165 x171 n177) n189 (y185, y187) = some (r2, r3, r4, r5, r6, r7, r8, r9, r10, r11, r12)) (fun (n189, y185, t186, y187) => n189) (F, y173, t174, 0) H (WK.at [0, 0, 0, 0, 0, 0, 0, 0] (.cons (.refl _) (.cons (.refl _) (.cons (.refl _) (.cons (.refl _) (.cons (.refl _) (.cons (.refl _) (.cons (.refl _) (.cons (.refl _) (.cons (.refl _) (.cons (.refl _) (.nil _))))))))))) rfl) ?_
         rintro ⟨n189, y185, t186, y187⟩ H
         obtain ⟨n189, rfl, H⟩ := loop_s H
         replace H : ref05_Parse_B8 y175 x182 (ref05_Parse_L9 F x16 y92 y94 y163 y165 x171 n177) (ref05_Parse_L8 y175 x182 (ref05_Parse_L9 F x16 y92 y94 y163 y165 x171 n177) n189) y185 y187 = some (r2, r3, r4, r5, r6, r7, r8, r9, r10, r11, r12) := H
         unfold ref05_Parse_B8 at H
         show AW _ _ _ _ _ _
         refine AW.seq ?_
         refine AW.seq ?_
         refine AW.region ?_
         show AR _ _ _ _ _ [0, 1, 2, 3] _
         refine sS rfl rfl rfl (mv rfl) ?_
         refine sS rfl rfl rfl (opS_move (av := slE _ _ _) rfl) ?_
         refine sS rfl rfl rfl (opS_len_sl Tryz.underlying23 rfl) ?_
         refine sS rfl rfl rfl (opS_lt rfl rfl) ?_
         refine AR.nil ?_
         show AW _ _ _ _ _ _
         refine AW.cond rfl (fun c190 => ?_) (fun c190 => ?_)
         ·replace H := cnd_t c190 H
          refine AW.skip ?_
          show AW _ _ _ _ _ _
          refine AW.seq ?_
          refine AW.block ?_
          refine AW.seq ?_
          obtain ⟨g191, H⟩ := grd_s H
          obtain ⟨x192, e193, H⟩ := lt_s H
          refine AW.region ?_
          show AR _ _ _ _ _ [0, 1, 2, 3, 4] _
          refine sS rfl rfl rfl (opS_move (av := slE _ _ _) rfl) ?_
          refine sS rfl rfl rfl (mv rfl) ?_
          refine sS rfl rfl rfl (g_indexAddr (E := Enc.int) Tryz.underlying23 (by kernel_rfl) rfl rfl g191 e193) ?_
          refine sS rfl rfl rfl (opS_load_cp Tryz.underlying3 rfl rfl) ?_
          refine sS rfl rfl rfl (asg rfl) ?_
          refine AR.nil ?_
          show AW _ _ _ _ _ _
          refine AW.cut (X := Unit) (fun _ => ⟨[(2, .pt o13 0), (4, .cp [nilS, nilS, nilS, nilS, nilS, B false, B false, B false, B false, B false]), (5, slE Enc.str x16 none), (6, .pt o19 0), (7, i64 2), (8, slE Enc.int y185 (some t186)), (9, slE Enc.str x171 none), (10, i64 y175), (11, slE Enc.int x182 none), (12, i64 y187), (13, i64 x192)], [], [.obj o19 [slE Enc.int y92 (some t93), slE Enc.int y163 (some t164), slE Enc.int [] (some t22), slE Enc.int [] (some t23), slE Enc.int [] (some t24), B y94, B y165, B false, B false, B false], .obj o13 [nilS, nilS, nilS, nilS, nilS, B false, B false, B false, B false, B false], .tok t186 3, .tok t93 3, .tok t164 3, .tok t22 3, .tok t23 3, .tok t24 3]⟩) (fun _ => ref05_Parse_j19 y185 y187 x192 (ref05_Parse_L8 y175 x182 (ref05_Parse_L9 F x16 y92 y94 y163 y165 x171 n177) n189) = some (r2, r3, r4, r5, r6, r7, r8, r9, r10, r11, r12)) ?_ ?_
          ·
           refine AW.seq ?_
           refine AW.region ?_
           show AR _ _ _ _ _ [0, 1, 2, 3, 4, 5] _
           refine sS rfl rfl rfl (mv rfl) ?_
           refine sS rfl rfl rfl (OpS.eq (av' := B false) (opS_eqi rfl rfl) (B_congr (by decide))) ?_
           refine sS rfl rfl rfl (mv rfl) ?_
           refine gF rfl rfl rfl rfl rfl rfl ?_
           refine gF rfl rfl rfl rfl rfl rfl ?_
           refine sS rfl rfl rfl (opS_pick_f (av := .v _) rfl rfl rfl) ?_
           refine AR.nil ?_
           show AW _ _ _ _ _ _
           refine AW.cond rfl (fun hx => bool_no hx rfl) (fun _ => ?_)
           refine AW.skip ?_
           exact Exists.intro () ⟨H, WK.at [0, 0, 0, 0, 0, 0, 0, 0] (.cons (.refl _) (.cons (.refl _) (.cons (.refl _) (.cons (.refl _) (.cons (.refl _) (.cons (.refl _) (.cons (.refl _) (.cons (.refl _) (.cons (.refl _) (.cons (.refl _) (.cons (.refl _) (.nil _)))))))))))) rfl⟩
          rintro _ H
          replace H : ref05_Parse_j19 y185 y187 x192 (ref05_Parse_L8 y175 x182 (ref05_Parse_L9 F x16 y92 y94 y163 y165 x171 n177) n189) = some (r2, r3, r4, r5, r6, r7, r8, r9, r10, r11, r12) := H
          unfold ref05_Parse_j19 at H
          show AW _ _ _ _ _ _
          obtain ⟨g196, H⟩ := grd_s H
          obtain ⟨x197, e198, H⟩ := lt_s H
          refine AW.region ?_
          show AR _ _ _ _ _ [0, 1, 2, 3, 4] _
          refine sS rfl rfl rfl (opS_move (av := slE _ _ _) rfl) ?_
          refine sS rfl rfl rfl (mv rfl) ?_
          refine sR rfl rfl rfl (opR_buildE (E := Enc.int) (bytes := 8) (xs := [.tmp 70]) (l := ([x192] : List Int)) Tryz.underlying23 (by kernel_rfl) rfl rfl (by decide) rfl rfl) ?_
          refine sX rfl rfl rfl (g_append (E := Enc.int) (bytes := 8) 2 Tryz.underlying23 Tryz.underlying23 rfl (by kernel_rfl) rfl rfl rfl rfl g196 e198) ?_
          rintro _ _ ⟨t195, rfl, rfl⟩
          refine sS rfl rfl rfl (opS_assign (av := slE _ _ _) rfl) ?_
          refine AR.nil ?_
          show AW _ _ _ _ _ _
          obtain ⟨g199, H⟩ := grd_s H
          refine AW.region ?_
          show AR _ _ _ _ _ [0, 1, 2] _
          refine sS rfl rfl rfl (mv rfl) ?_
          refine sS rfl rfl rfl (g_add rfl rfl g199) ?_
          refine sS rfl rfl rfl (asg rfl) ?_
          refine AR.nil ?_
          exact Exists.intro (n189, x197, t195, y187 + 1) ⟨H, Nat.lt_succ_self _, WK.at [0, 0, 0, 0, 0, 0, 0, 0] (.cons (.refl _) (.cons (.refl _) (.cons (.refl _) (.cons (.refl _) (.cons (.refl _) (.cons (.refl _) (.cons (.refl _) (.cons (.refl _) (.cons (.refl _) (.cons (.refl _) (.nil _))))))))))) rfl⟩
         ·replace H := cnd_f c190 H
          refine AW.exit ?_
          exact Exists.intro (y185, t186) ⟨H, WK.at [0, 0, 0, 0, 0, 0, 0, 0] (.cons (.refl _) (.cons (.refl _) (.cons (.refl _) (.cons (.refl _) (.cons (.refl _) (.cons (.refl _) (.cons (.refl _) (.cons (.refl _) (.nil _))))))))) rfl⟩
       rintro ⟨y200, t201⟩ H
       replace H : ref05_Parse_j18 y175 (ref05_Parse_L9 F x16 y92 y94 y163 y165 x171 n177) y200 = some (r2, r3, r4, r5, r6, r7, r8, r9, r10, r11, r12) := H
       unfold ref05_Parse_j18 at H
       show AW _ _ _ _ _ _
       obtain ⟨g203, H⟩ := grd_s H
       refine AW.region ?_
       show AR _ _ _ _ _ [0, 1, 2] _
       refine sS rfl rfl rfl (mv rfl) ?_
       refine sS rfl rfl rfl (g_add rfl rfl g203) ?_
       refine sS rfl rfl rfl (asg rfl) ?_
       refine AR.nil ?_
       exact Exists.intro (n177, y200, t201, y175 + 1) ⟨H, Nat.lt_succ_self _, WK.at [0, 0, 0, 0, 0, 0, 0, 0] (.cons (.refl _) (.cons (.refl _) (.cons (.refl _) (.cons (.refl _) (.cons (.refl _) (.cons (.refl _) (.cons (.refl _) (.cons (.refl _) (.nil _))))))))) rfl⟩
      ·replace H := cnd_f c178 H
       refine AW.exit ?_
       exact Exists.intro (y173, t174) ⟨H, WK.at [0, 0, 0, 0, 0, 0, 0, 0] (.cons (.refl _) (.cons (.refl _) (.cons (.refl _) (.cons (.refl _) (.cons (.refl _) (.cons (.refl _) (.nil _))))))) rfl⟩
     rintro ⟨y204, t205⟩ H
     replace H : ref05_Parse_j17 F x16 y92 y94 y163 y165 y204 = some (r2, r3, r4, r5, r6, r7, r8, r9, r10, r11, r12) := H
     unfold ref05_Parse_j17 at H
     show AW _ _ _ _ _ _
     refine AW.cut (X := (List Int) × Nat) (fun (y228, t229) => ⟨[(2, .pt o13 0), (4, .cp [nilS, nilS, nilS, nilS, nilS, B false, B false, B false, B false, B false]), (5, slE Enc.str x16 none), (6, .pt o19 0), (7, i64 2)], [], [.obj o19 [slE Enc.int y92 (some t93), slE Enc.int y163 (some t164), slE Enc.int y228 (some t229), slE Enc.int [] (some t23), slE Enc.int [] (some t24), B y94, B y165, B false, B false, B false], .obj o13 [nilS, nilS, nilS, nilS, nilS, B false, B false, B false, B false, B false], .tok t93 3, .tok t164 3, .tok t229 3, .tok t23 3, .tok t24 3]⟩) (fun (y228, t229) => ref05_Parse_j15 F x16 y92 y94 y163 y165 y228 = some (r2, r3, r4, r5, r6, r7, r8, r9, r10, r11, r12)) ?_ ?_
     ·
      refine AW.seq ?_
      obtain ⟨x207, e208, H⟩ := bnd_s H
      refine AW.region ?_
      show AR _ _ _ _ _ [0, 1, 2] _
      refine sS rfl rfl rfl (mv rfl) ?_
      refine AR.run rfl rfl (AO.callp rfl en35_cronr rfl (w_ref05_Low F 2 x207 e208) ?_)
      refine sS rfl rfl rfl (asg rfl) ?_
      refine AR.nil ?_
      show AW _ _ _ _ _ _
      refine AW.block ?_
      refine AW.loop (X := Nat × Int × (List Int) × Nat) (fun (n213, y209, y210, t211) => ⟨[(2, .pt o13 0), (4, .cp [nilS, nilS, nilS, nilS, nilS, B false, B false, B false, B false, B false]), (5, slE Enc.str x16 none), (6, .pt o19 0), (7, i64 2), (8, slE Enc.int y204 (some t205)), (14, i64 y209)], [], [.obj o19 [slE Enc.int y92 (some t93), slE Enc.int y163 (some t164), slE Enc.int y210 (some t211), slE Enc.int [] (some t23), slE Enc.int [] (some t24), B y94, B y165, B false, B false, B false], .obj o13 [nilS, nilS, nilS, nilS, nilS, B false, B false, B false, B false, B false], .tok t205 3, .tok t93 3, .tok t164 3, .tok t211 3, .tok t23 3, .tok t24 3]⟩) (fun (n213, y209, y210, t211) => ref05_Parse_L7 F x16 y92 y94 y163 y165 y204 n213 (y209, y210) = some (r2, r3, r4, r5, r6, r7, r8, r9, r10, r11, r12)) (fun (n213, y209, y210, t211) => n213) (F, x207, [], t22) H (WK.at [0, 0, 0, 0, 0, 0, 0, 0] (.cons (.refl _) (.cons (.refl _) (.cons (.refl _) (.cons (.refl _) (.cons (.refl _) (.cons (.refl _) (.cons (.refl _) (.nil _)))))))) rfl) ?_
      rintro ⟨n213, y209, y210, t211⟩ H
      obtain ⟨n213, rfl, H⟩ := loop_s H
      replace H : ref05_Parse_B7 F x16 y92 y94 y163 y165 y204 (ref05_Parse_L7 F x16 y92 y94 y163 y165 y204 n213) y209 y210 = some (r2, r3, r4, r5, r6, r7, r8, r9, r10, r11, r12) := H
      unfold ref05_Parse_B7 at H
      show AW _ _ _ _ _ _
      refine AW.seq ?_
      refine AW.seq ?_
      obtain ⟨x214, e215, H⟩ := bnd_s H
      refine AW.region ?_
      show AR _ _ _ _ _ [0, 1, 2, 3] _
      refine sS rfl rfl rfl (mv rfl) ?_
      refine sS rfl rfl rfl (mv rfl) ?_
      refine AR.run rfl rfl (AO.callp rfl en36_cronr rfl (w_ref05_High F 2 x214 e215) ?_)
      refine sS rfl rfl rfl (opS_le rfl rfl) ?_
      refine AR.nil ?_
      show AW _ _ _ _ _ _
      refine AW.cond rfl (fun c216 => ?_) (fun c216 => ?_)
      ·replace H := cnd_t c216 H
       refine AW.skip ?_
       show AW _ _ _ _ _ _
       refine AW.cut (X := (List Int) × Nat) (fun (y224, t225) => ⟨[(2, .pt o13 0), (4, .cp [nilS, nilS, nilS, nilS, nilS, B false, B false, B false, B false, B false]), (5, slE Enc.str x16 none), (6, .pt o19 0), (7, i64 2), (8, slE Enc.int y204 (some t205)), (14, i64 y209)], [], [.obj o19 [slE Enc.int y92 (some t93), slE Enc.int y163 (some t164), slE Enc.int y224 (some t225), slE Enc.int [] (some t23), slE Enc.int [] (some t24), B y94, B y165, B false, B false, B false], .obj o13 [nilS, nilS, nilS, nilS, nilS, B false, B false, B false, B false, B false], .tok t205 3, .tok t93 3, .tok t164 3, .tok t225 3, .tok t23 3, .tok t24 3]⟩) (fun (y224, t225) => ref05_Parse_j16 y209 (ref05_Parse_L7 F x16 y92 y94 y163 y165 y204 n213) y224 = some (r2, r3, r4, r5, r6, r7, r8, r9, r10, r11, r12)) ?_ ?_
       ·
        refine AW.block ?_
        refine AW.seq ?_
        obtain ⟨x217, e218, H⟩ := bnd_s H
        refine AW.region ?_
        show AR _ _ _ _ _ [0, 1, 2, 3] _
        refine sS rfl rfl rfl (opS_move (av := slE _ _ _) rfl) ?_
        refine sS rfl rfl rfl (mv rfl) ?_
        refine AR.run rfl rfl (AO.callp rfl en17_cronr rfl (w_ref05_Has F y204 (some t205) y209 x217 e218) ?_)
        refine sS rfl rfl rfl (asg rfl) ?_
        refine AR.nil ?_
        show AW _ _ _ _ _ _
        refine AW.seq ?_
        refine AW.region ?_
        show AR _ _ _ _ _ [0] _
        refine sS rfl rfl rfl (mv rfl) ?_
        refine AR.nil ?_
        show AW _ _ _ _ _ _
        refine AW.cond rfl (fun c219 => ?_) (fun c219 => ?_)
        ·replace H := cnd_t c219 H
         obtain ⟨g221, H⟩ := grd_s H
         obtain ⟨x222, e223, H⟩ := lt_s H
         refine AW.region ?_
         show AR _ _ _ _ _ [0, 1, 2, 3, 4, 5, 6, 7, 8, 9, 10] _
         refine sS rfl rfl rfl (mv rfl) ?_
         refine sS rfl rfl rfl (mv rfl) ?_
         refine sS rfl rfl rfl (opS_fieldAddr_pt (n := 0) (by kernel_rfl) rfl) ?_
         refine sS rfl rfl rfl (opS_indexAddr_arr (Ar := 0) (k := 1) (m := 2) Tryz.underlying24 (by kernel_rfl) rfl rfl rfl (by decide)) ?_
         refine sR rfl rfl rfl (opR_load_pt (i := 0) Tryz.underlying23 rfl rfl rfl rfl) ?_
         refine sS rfl rfl rfl (mv rfl) ?_
         refine sR rfl rfl rfl (opR_buildE (E := Enc.int) (bytes := 8) (xs := [.tmp 90]) (l := ([y209] : List Int)) Tryz.underlying23 (by kernel_rfl) rfl rfl (by decide) rfl rfl) ?_
         refine sX rfl rfl rfl (g_append (E := Enc.int) (bytes := 8) 5 Tryz.underlying23 Tryz.underlying23 rfl (by kernel_rfl) rfl rfl rfl rfl g221 e223) ?_
         rintro _ _ ⟨t220, rfl, rfl⟩
         refine sS rfl rfl rfl (opS_fieldAddr_pt (n := 0) (by kernel_rfl) rfl) ?_
         refine sS rfl rfl rfl (opS_indexAddr_arr (Ar := 0) (k := 1) (m := 2) Tryz.underlying24 (by kernel_rfl) rfl rfl rfl (by decide)) ?_
         refine s0 rfl rfl (opR_store_pt (i := 0) (c := slE _ _ _) (by kernel_rfl) rfl rfl rfl rfl (Nat.le_of_ble_eq_true rfl)) ?_
         refine AR.nil ?_
         exact Exists.intro (x222, t220) ⟨H, WK.at [0, 0, 0, 0, 0, 0, 0, 0] (.cons (.refl _) (.cons (.refl _) (.cons (.refl _) (.cons (.refl _) (.cons (.refl _) (.cons (.refl _) (.cons (.refl _) (.nil _)))))))) rfl⟩
        ·replace H := cnd_f c219 H
         refine AW.skip ?_
         exact Exists.intro (y210, t211) ⟨H, WK.at [0, 0, 0, 0, 0, 0, 0, 0] (.cons (.refl _) (.cons (.refl _) (.cons (.refl _) (.cons (.refl _) (.cons (.refl _) (.cons (.refl _) (.cons (.refl _) (.nil _)))))))) rfl⟩
       rintro ⟨y224, t225⟩ H
       replace H : ref05_Parse_j16 y209 (ref05_Parse_L7 F x16 y92 y94 y163 y165 y204 n213) y224 = some (r2, r3, r4, r5, r6, r7, r8, r9, r10, r11, r12) := H
       unfold ref05_Parse_j16 at H
       show AW _ _ _ _ _ _
       obtain ⟨g227, H⟩ := grd_s H
       refine AW.region ?_
       show AR _ _ _ _ _ [0, 1, 2] _
       refine sS rfl rfl rfl (mv rfl) ?_
       refine sS rfl rfl rfl (g_add rfl rfl g227) ?_
       refine sS rfl rfl rfl (asg rfl) ?_
       refine AR.nil ?_
       exact Exists.intro (n213, y209 + 1, y224, t225) ⟨H, Nat.lt_succ_self _, WK.at [0, 0, 0, 0, 0, 0, 0, 0] (.cons (.refl _) (.cons (.refl _) (.cons (.refl _) (.cons (.refl _) (.cons (.refl _) (.cons (.refl _) (.cons (.refl _) (.nil _)))))))) rfl⟩
      ·replace H := cnd_f c216 H
       refine AW.exit ?_
       exact Exists.intro (y210, t211) ⟨H, WK.at [0, 0, 1, 1, 1, 1, 1] (.cons (.refl _) (.cons (.refl _) (.cons (.refl _) (.cons (.refl _) (.cons (.refl _) (.nil _)))))) rfl⟩
     rintro ⟨y228, t229⟩ H
     replace H : ref05_Parse_j15 F x16 y92 y94 y163 y165 y228 = some (r2, r3, r4, r5, r6, r7, r8, r9, r10, r11, r12) := H
     unfold ref05_Parse_j15 at H
     show AW _ _ _ _ _ _
     obtain ⟨g231, H⟩ := grd_s H
     obtain ⟨x232, e233, H⟩ := lt_s H
     refine AW.region ?_
     show AR _ _ _ _ _ [0, 1, 2, 3, 4, 5, 6, 7, 8] _
     refine sS rfl rfl rfl (mv rfl) ?_
     refine sS rfl rfl rfl (opS_move (av := slE _ _ _) rfl) ?_
     refine sS rfl rfl rfl (mv rfl) ?_
     refine sS rfl rfl rfl (g_indexAddr (E := Enc.str) Tryz.underlying53 (by kernel_rfl) rfl rfl g231 e233) ?_
     refine sS rfl rfl rfl (opS_load_cp Tryz.underlying9 rfl rfl) ?_
     refine sS rfl rfl rfl (opS_eqs rfl rfl) ?_
     refine sS rfl rfl rfl (opS_fieldAddr_pt (n := 5) (by kernel_rfl) rfl) ?_
     refine sS rfl rfl rfl (opS_indexAddr_arr (Ar := 0) (k := 1) (m := 2) Tryz.underlying25 (by kernel_rfl) rfl rfl rfl (by decide)) ?_
     refine s0 rfl rfl (opR_store_pt (i := 0) (c := .v _) (by kernel_rfl) rfl rfl rfl rfl (Nat.le_of_ble_eq_true rfl)) ?_
     refine AR.nil ?_
     exact Exists.intro (y228, t229, decide (x232 = ([42] : List UInt8))) ⟨H, WK.at [0, 0, 0, 0, 0, 0, 0] (.cons (.refl _) (.cons (.refl _) (.cons (.refl _) (.cons (.refl _) (.cons (.refl _) (.nil _)))))) rfl⟩
    rintro ⟨y234, t235, y236⟩ H
    replace H : ref05_Parse_j14 F x16 y92 y94 y163 y165 y234 y236 = some (r2, r3, r4, r5, r6, r7, r8, r9, r10, r11, r12) := H
    unfold ref05_Parse_j14 at H
    show AW _ _ _ _ _ _
    refine AW.region ?_
    show AR _ _ _ _ _ [0, 1, 2] _
    refine sS rfl rfl rfl (mv rfl) ?_
    refine sS rfl rfl rfl (OpS.eq (av' := i64 3) (g_add rfl rfl (by decide)) rfl) ?_
    refine sS rfl rfl rfl (asg rfl) ?_
    refine AR.nil ?_
    show AW _ _ _ _ _ _
    refine AW.seq ?_
    refine AW.seq ?_
    refine AW.region ?_
    show AR _ _ _ _ _ [0, 1] _
    refine sS rfl rfl rfl (mv rfl) ?_
    refine sS rfl rfl rfl (OpS.eq (av' := B true) (opS_lt rfl rfl) (B_congr (by decide))) ?_
    refine AR.nil ?_
    show AW _ _ _ _ _ _
    refine AW.cond rfl (fun _ => ?_) (fun hx => bool_no rfl hx)
    refine AW.skip ?_
    show AW _ _ _ _ _ _
    refine AW.cut (X := (List Int) × Nat × Bool) (fun (y305, t306, y307) => ⟨[(2, .pt o13 0), (4, .cp [nilS, nilS, nilS, nilS, nilS, B false, B false, B false, B false, B false]), (5, slE Enc.str x16 none), (6, .pt o19 0), (7, i64 3)], [], [.obj o19 [slE Enc.int y92 (some t93), slE Enc.int y163 (some t164), slE Enc.int y234 (some t235), slE Enc.int y305 (some t306), slE Enc.int [] (some t24), B y94, B y165, B y236, B y307, B false], .obj o13 [nilS, nilS, nilS, nilS, nilS, B false, B false, B false, B false, B false], .tok t93 3, .tok t164 3, .tok t235 3, .tok t306 3, .tok t24 3]⟩) (fun (y305, t306, y307) => ref05_Parse_j8 F x16 y92 y94 y163 y165 y234 y236 y305 y307 = some (r2, r3, r4, r5, r6, r7, r8, r9, r10, r11, r12)) ?_ ?_
    ·
     refine AW.block ?_
     refine AW.seq ?_
     refine AW.region ?_
     show AR _ _ _ _ _ [0] _
     refine sS rfl rfl rfl (asg rfl) ?_
     refine AR.nil ?_
     show AW _ _ _ _ _ _
     refine AW.nil_grows 8 1 3 rfl fun t238 => ?_
     show AW _ _ _ _ _ ⟨(8, slE Enc.int [] (some t238)) :: _, _, _⟩
     refine AW.seq ?_
     obtain ⟨g239, H⟩ := grd_s H
     obtain ⟨x240, e241, H⟩ := lt_s H
     obtain ⟨x242, e243, H⟩ := bnd_s H
     refine AW.region ?_
     show AR _ _ _ _ _ [0, 1, 2, 3, 4, 5] _
     refine sS rfl rfl rfl (opS_move (av := slE _ _ _) rfl) ?_
     refine sS rfl rfl rfl (mv rfl) ?_
     refine sS rfl rfl rfl (g_indexAddr (E := Enc.str) Tryz.underlying53 (by kernel_rfl) rfl rfl g239 e241) ?_
     refine sS rfl rfl rfl (opS_load_cp Tryz.underlying9 rfl rfl) ?_
     refine AR.run rfl rfl (AO.callp rfl en33_cronr rfl (w_ref05_Split F x240 44 x242 e243) ?_)
     refine sS rfl rfl rfl (opS_assign (av := slE _ _ _) rfl) ?_
     refine AR.nil ?_
     show AW _ _ _ _ _ _
     refine AW.cut (X := (List Int) × Nat) (fun (y275, t276) => ⟨[(2, .pt o13 0), (4, .cp [nilS, nilS, nilS, nilS, nilS, B false, B false, B false, B false, B false]), (5, slE Enc.str x16 none), (6, .pt o19 0), (7, i64 3), (8, slE Enc.int y275 (some t276))], [], [.obj o19 [slE Enc.int y92 (some t93), slE Enc.int y163 (some t164), slE Enc.int y234 (some t235), slE Enc.int [] (some t23), slE Enc.int [] (some t24), B y94, B y165, B y236, B false, B false], .obj o13 [nilS, nilS, nilS, nilS, nilS, B false, B false, B false, B false, B false], .tok t276 3, .tok t93 3, .tok t164 3, .tok t235 3, .tok t23 3, .tok t24 3]⟩) (fun (y275, t276) => ref05_Parse_j11 F x16 y92 y94 y163 y165 y234 y236 y275 = some (r2, r3, r4, r5, r6, r7, r8, r9, r10, r11, r12)) ?_ ?_
     ·
      refine AW.seq ?_
      refine AW.region ?_
      show AR _ _ _ _ _ [0] _
      refine sS rfl rfl rfl (asg rfl) ?_
      refine AR.nil ?_
      show AW _ _ _ _ _ _
      refine AW.block ?_
      refine AW.loop (X := Nat × (List Int) × Nat × Int) (fun (n248, y244, t245, y246) => ⟨[(2, .pt o13 0), (4, .cp [nilS, nilS, nilS, nilS, nilS, B false, B false, B false, B false, B false]), (5, slE Enc.str x16 none), (6, .pt o19 0), (7, i64 3), (8, slE Enc.int y244 (some t245)), (9, slE Enc.str x242 none), (10, i64 y246)], [], [.obj o19 [slE Enc.int y92 (some t93), slE Enc.int y163 (some t164), slE Enc.int y234 (some t235), slE Enc.int [] (some t23), slE Enc.int [] (some t24), B y94, B y165, B y236, B false, B false], .obj o13 [nilS, nilS, nilS, nilS, nilS, B false, B false, B false, B false, B false], .tok t245 3, .tok t93 3, .tok t164 3, .tok t235 3, .tok t23 3, .tok t24 3]⟩) (fun (n248, y244, t245, y246) => ref05_Parse_L6 F x16 y92 y94 y163 y165 y234 y236 x242 n248 (y244, y246) = some (r2, r3, r4, r5, r6, r7, r8, r9, r10, r11, r12)) (fun (n248, y244, t245, y246) => n248) (F, [], t238, 0) H (WK.at [1, 1, 0, 0, 0, 0, 0, 0] (.cons (.refl _) (.cons (.refl _) (.cons (.refl _) (.cons (.refl _) (.cons (.refl _) (.cons (.refl _) (.cons (.refl _) (.cons (.refl _) (.nil _))))))))) rfl) ?_
      rintro ⟨n248, y244, t245, y246⟩ H
      obtain ⟨n248, rfl, H⟩ := loop_s H
      replace H : ref05_Parse_B6 F x16 y92 y94 y163 y165 y234 y236 x242 (ref05_Parse_L6 F x16 y92 y94 y163 y165 y234 y236 x242 n248) y244 y246 = some (r2, r3, r4, r5, r6, r7, r8, r9, r10, r11, r12) := H
      unfold ref05_Parse_B6 at H
      show AW _ _ _ _ _ _
      refine AW.seq ?_
      refine AW.seq ?_
      refine AW.region ?_
      show AR _ _ _ _ _ [0, 1, 2, 3] _
      refine sS rfl rfl rfl (mv rfl) ?_
      refine sS rfl rfl rfl (opS_move (av := slE _ _ _) rfl) ?_
      refine sS rfl rfl rfl (opS_len_sl Tryz.underlying53 rfl) ?_
      refine sS rfl rfl rfl (opS_lt rfl rfl) ?_
      refine AR.nil ?_
      show AW _ _ _ _ _ _
      refine AW.cond rfl (fun c249 => ?_) (fun c249 => ?_)
      ·replace H := cnd_t c249 H
       refine AW.skip ?_
       show AW _ _ _ _ _ _
       refine AW.cut (X := (List Int) × Nat) (fun (y271, t272) => ⟨[(2, .pt o13 0), (4, .cp [nilS, nilS, nilS, nilS, nilS, B false, B false, B false, B false, B false]), (5, slE Enc.str x16 none), (6, .pt o19 0), (7, i64 3), (8, slE Enc.int y271 (some t272)), (9, slE Enc.str x242 none), (10, i64 y246)], [], [.obj o19 [slE Enc.int y92 (some t93), slE Enc.int y163 (some t164), slE Enc.int y234 (some t235), slE Enc.int [] (some t23), slE Enc.int [] (some t24), B y94, B y165, B y236, B false, B false], .obj o13 [nilS, nilS, nilS, nilS, nilS, B false, B false, B false, B false, B false], .tok t272 3, .tok t93 3, .tok t164 3, .tok t235 3, .tok t23 3, .tok t24 3]⟩) (fun (y271, t272) => ref05_Parse_j12 y246 (ref05_Parse_L6 F x16 y92 y94 y163 y165 y234 y236 x242 n248) y271 = some (r2, r3, r4, r5, r6, r7, r8, r9, r10, r11, r12)) ?_ ?_
       ·
        refine AW.block ?_
        refine AW.seq ?_
        obtain ⟨g250, H⟩ := grd_s H
        obtain ⟨x251, e252, H⟩ := lt_s H
        obtain ⟨x253, e254, H⟩ := bnd_s H
        refine AW.region ?_
        show AR _ _ _ _ _ [0, 1, 2, 3, 4, 5, 6] _
        refine sS rfl rfl rfl (mv rfl) ?_
        refine sS rfl rfl rfl (opS_move (av := slE _ _ _) rfl) ?_
        refine sS rfl rfl rfl (mv rfl) ?_
        refine sS rfl rfl rfl (g_indexAddr (E := Enc.str) Tryz.underlying53 (by kernel_rfl) rfl rfl g250 e252) ?_
        refine sS rfl rfl rfl (opS_load_cp Tryz.underlying9 rfl rfl) ?_
        refine AR.run rfl rfl (AO.callp rfl en34_cronr rfl (w_ref05_piece F 3 x251 x253 e254) ?_)
        refine sS rfl rfl rfl (opS_assign (av := slE _ _ _) rfl) ?_
        refine AR.nil ?_
        show AW _ _ _ _ _ _
        refine AW.seq ?_
        refine AW.seq ?_
        refine AW.region ?_
        show AR _ _ _ _ _ [0, 1, 2] _
        refine sS rfl rfl rfl (opS_move (av := slE _ _ _) rfl) ?_
        refine sS rfl rfl rfl (opS_len_sl Tryz.underlying23 rfl) ?_
        refine sS rfl rfl rfl (opS_eqi rfl rfl) ?_
        refine AR.nil ?_
        show AW _ _ _ _ _ _
        refine AW.cond rfl (fun c255 => ?_) (fun c255 => ?_)
        ·replace H := cnd_t c255 H
         refine AW.seq ?_
         refine AW.region ?_
         show AR _ _ _ _ _ [0, 1, 2] _
         refine sS rfl rfl rfl (opS_load_cp_agg Tryz.underlying27 rfl (n := 10) (by kernel_rfl) rfl (Nat.le_of_ble_eq_true rfl)) ?_
         refine s0 rfl rfl (opR_store_agg (i := 1) (vs := [nilS, nilS, nilS, nilS, nilS, B false, B false, B false, B false, B false]) (by kernel_rfl) rfl rfl (by simp [isCell, slE]) rfl (Nat.le_of_ble_eq_true rfl)) ?_
         refine sS rfl rfl rfl (asg rfl) ?_
         refine AR.nil ?_
         show AW _ _ _ _ _ _
         refine AW.ret ?_
         obtain ⟨rfl, rfl, rfl, rfl, rfl, rfl, rfl, rfl, rfl, rfl, rfl⟩ := res11 H
         exact And.intro rfl (Exists.intro _ (Exists.intro _ ⟨ResT.resV (ResT.place2 rfl (CellV.aggW (cs := [nilS, nilS, nilS, nilS, nilS, B false, B false, B false, B false, B false]) (CellV.agg (off := 0) (cs := [nilS, nilS, nilS, nilS, nilS, B false, B false, B false, B false, B false]) (n := 10) 1 Tryz.underlying27 rfl (by kernel_rfl) rfl rfl (Nat.le_of_ble_eq_true rfl)) (.cons (.nil _) (.cons (.nil _) (.cons (.nil _) (.cons (.nil _) (.cons (.nil _) (.cons (.refl _) (.cons (.refl _) (.cons (.refl _) (.cons (.refl _) (.cons (.refl _) (.nil)))))))))))) ((show PlaceV _ _ _ (.tmp _) _ from (.refl _)))), Sub.at [] rfl, rfl, rfl⟩))
        ·replace H := cnd_f c255 H
         refine AW.skip ?_
         show AW _ _ _ _ _ _
         refine AW.seq ?_
         refine AW.region ?_
         show AR _ _ _ _ _ [0] _
         refine sS rfl rfl rfl (asg rfl) ?_
         refine AR.nil ?_
         show AW _ _ _ _ _ _
         refine AW.block ?_
         refine AW.loop (X := Nat × (List Int) × Nat × Int) (fun (n260, y256, t257, y258) => ⟨[(2, .pt o13 0), (4, .cp [nilS, nilS, nilS, nilS, nilS, B false, B false, B false, B false, B false]), (5, slE Enc.str x16 none), (6, .pt o19 0), (7, i64 3), (8, slE Enc.int y256 (some t257)), (9, slE Enc.str x242 none), (10, i64 y246), (11, slE Enc.int x253 none), (12, i64 y258)], [], [.obj o19 [slE Enc.int y92 (some t93), slE Enc.int y163 (some t164), slE Enc.int y234 (some t235), slE Enc.int [] (some t23), slE Enc.int [] (some t24), B y94, B y165, B y236, B false, B false], .obj o13 [nilS, nilS, nilS, nilS, nilS, B false, B false, B false, B false, B false], .tok t257 3, .tok t93 3, .tok t164 3, .tok t235 3, .tok t23 3, .tok t24 3]⟩) (fun (n260, y256, t257, y258) => ref05_Parse_L5 y246 x253 (ref05_Parse_L6 F x16 y92 y94 y163 y165 y234 y236 x242 n248) n260 (y256, y258) = some (r2, r3, r4, r5, r6, r7, r8, r9, r10, r11, r12)) (fun (n260, y256, t257, y258) => n260) (F, y244, t245, 0) H (WK.at [0, 0, 0, 0, 0, 0, 0, 0] (.cons (.refl _) (.cons (.refl _) (.cons (.refl _) (.cons (.refl _) (.cons (.refl _) (.cons (.refl _) (.cons (.refl _) (.cons (.refl _) (.cons (.refl _) (.cons (.refl _) (.nil _))))))))))) rfl) ?_
         rintro ⟨n260, y256, t257, y258⟩ H
         obtain ⟨n260, rfl, H⟩ := loop_s H
         replace H : ref05_Parse_B5 y246 x253 (ref05_Parse_L6 F x16 y92 y94 y163 y165 y234 y236 x242 n248) (ref05_Parse_L5 y246 x253 (ref05_Parse_L6 F x16 y92 y94 y163 y165 y234 y236 x242 n248) n260) y256 y258 = some (r2, r3, r4, r5, r6, r7, r8, r9, r10, r11, r12) := H
         unfold ref05_Parse_B5 at H
         show AW _ _ _ _ _ _
         refine AW.seq ?_
         refine AW.seq ?_
         refine AW.region ?_
         show AR _ _ _ _ _ [0, 1, 2, 3] _
         refine sS rfl rfl rfl (mv rfl) ?_
         refine sS rfl rfl rfl (opS_move (av := slE _ _ _) rfl) ?_
         refine sS rfl rfl rfl (opS_len_sl Tryz.underlying23 rfl) ?_
         refine sS rfl rfl rfl (opS_lt rfl rfl) ?_
         refine AR.nil ?_
         show AW _ _ _ _ _ _
         refine AW.cond rfl (fun c261 => ?_) (fun c261 => ?_)
         ·replace H := cnd_t c261 H
          refine AW.skip ?_
          show AW _ _ _ _ _ _
          refine AW.seq ?_
          refine AW.block ?_
          refine AW.seq ?_
          obtain ⟨g262, H⟩ := grd_s H
          obtain ⟨x263, e264, H⟩ := lt_s H
          refine AW.region ?_
          show AR _ _ _ _ _ [0, 1, 2, 3, 4] _
          refine sS rfl rfl rfl (opS_move (av := slE _ _ _) rfl) ?_
          refine sS rfl rfl rfl (mv rfl) ?_
          refine sS rfl rfl rfl (g_indexAddr (E := Enc.int) Tryz.underlying23 (by kernel_rfl) rfl rfl g262 e264) ?_
          refine sS rfl rfl rfl (opS_load_cp Tryz.underlying3 rfl rfl) ?_
          refine sS rfl rfl rfl (asg rfl) ?_
          refine AR.nil ?_
          show AW _ _ _ _ _ _
          refine AW.cut (X := Unit) (fun _ => ⟨[(2, .pt o13 0), (4, .cp [nilS, nilS, nilS, nilS, nilS, B false, B false, B false, B false, B false]), (5, slE Enc.str x16 none), (6, .pt o19 0), (7, i64 3), (8, slE Enc.int y256 (some t257)), (9, slE Enc.str x242 none), (10, i64 y246), (11, slE Enc.int x253 none), (12, i64 y258), (13, i64 x263)], [], [.obj o19 [slE Enc.int y92 (some t93), slE Enc.int y163 (some t164), slE Enc.int y234 (some t235), slE Enc.int [] (some t23), slE Enc.int [] (some t24), B y94, B y165, B y236, B false, B false], .obj o13 [nilS, nilS, nilS, nilS, nilS, B false, B false, B false, B false, B false], .tok t257 3, .tok t93 3, .tok t164 3, .tok t235 3, .tok t23 3, .tok t24 3]⟩) (fun _ => ref05_Parse_j13 y256 y258 x263 (ref05_Parse_L5 y246 x253 (ref05_Parse_L6 F x16 y92 y94 y163 y165 y234 y236 x242 n248) n260) = some (r2, r3, r4, r5, r6, r7, r8, r9, r10, r11, r12)) ?_ ?_
          ·
           refine AW.seq ?_
           refine AW.region ?_
           show AR _ _ _ _ _ [0, 1, 2, 3, 4, 5] _
           refine sS rfl rfl rfl (mv rfl) ?_
           refine sS rfl rfl rfl (OpS.eq (av' := B false) (opS_eqi rfl rfl) (B_congr (by decide))) ?_
           refine sS rfl rfl rfl (mv rfl) ?_
           refine gF rfl rfl rfl rfl rfl rfl ?_
           refine gF rfl rfl rfl rfl rfl rfl ?_
           refine sS rfl rfl rfl (opS_pick_f (av := .v _) rfl rfl rfl) ?_
           refine AR.nil ?_
           show AW _ _ _ _ _ _
           refine AW.cond rfl (fun hx => bool_no hx rfl) (fun _ => ?_)
           refine AW.skip ?_
           exact Exists.intro () ⟨H, WK.at [0, 0, 0, 0, 0, 0, 0, 0] (.cons (.refl _) (.cons (.refl _) (.cons (.refl _) (.cons (.refl _) (.cons (.refl _) (.cons (.refl _) (.cons (.refl _) (.cons (.refl _) (.cons (.refl _) (.cons (.refl _) (.cons (.refl _) (.nil _)))))))))))) rfl⟩
          rintro _ H
          replace H : ref05_Parse_j13 y256 y258 x263 (ref05_Parse_L5 y246 x253 (ref05_Parse_L6 F x16 y92 y94 y163 y165 y234 y236 x242 n248) n260) = some (r2, r3, r4, r5, r6, r7, r8, r9, r10, r11, r12) := H
          unfold ref05_Parse_j13 at H
          show AW _ _ _ _ _ _
          obtain ⟨g267, H⟩ := grd_s H
          obtain ⟨x268, e269, H⟩ := lt_s H
          refine AW.region ?_
          show AR _ _ _ _ _ [0, 1, 2, 3, 4] _
          refine sS rfl rfl rfl (opS_move (av := slE _ _ _) rfl) ?_
          refine sS rfl rfl rfl (mv rfl) ?_
          refine sR rfl rfl rfl (opR_buildE (E := Enc.int) (bytes := 8) (xs := [.tmp 70]) (l := ([x263] : List Int)) Tryz.underlying23 (by kernel_rfl) rfl rfl (by decide) rfl rfl) ?_
          refine sX rfl rfl rfl (g_append (E := Enc.int) (bytes := 8) 2 Tryz.underlying23 Tryz.underlying23 rfl (by kernel_rfl) rfl rfl rfl rfl g267 e269) ?_
          rintro _ _ ⟨t266, rfl, rfl⟩
          refine sS rfl rfl rfl (opS_assign (av := slE _ _ _) rfl) ?_
          refine AR.nil ?_
          show AW _ _ _ _ _ _
          obtain ⟨g270, H⟩ := grd_s H
          refine AW.region ?_
          show AR _ _ _ _ _ [0, 1, 2] _
          refine sS rfl rfl rfl (mv rfl) ?_
          refine sS rfl rfl rfl (g_add rfl rfl g270) ?_
          refine sS rfl rfl rfl (asg rfl) ?_
          refine AR.nil ?_
          exact Exists.intro (n260, x268, t266, y258 + 1) ⟨H, Nat.lt_succ_self _, WK.at [0, 0, 0, 0, 0, 0, 0, 0] (.cons (.refl _) (.cons (.refl _) (.cons (.refl _) (.cons (.refl _) (.cons (.refl _) (.cons (.refl _) (.cons (.refl _) (.cons (.refl _) (.cons (.refl _) (.cons (.refl _) (.nil _))))))))))) rfl⟩
         ·replace H := cnd_f c261 H
          refine AW.exit ?_
          exact Exists.intro (y256, t257) ⟨H, WK.at [0, 0, 0, 0, 0, 0, 0, 0] (.cons (.refl _) (.cons (.refl _) (.cons (.refl _) (.cons (.refl _) (.cons (.refl _) (.cons (.refl _) (.cons (.refl _) (.cons (.refl _) (.nil _))))))))) rfl⟩
       rintro ⟨y271, t272⟩ H
       replace H : ref05_Parse_j12 y246 (ref05_Parse_L6 F x16 y92 y94 y163 y165 y234 y236 x242 n248) y271 = some (r2, r3, r4, r5, r6, r7, r8, r9, r10, r11, r12) := H
       unfold ref05_Parse_j12 at H
       show AW _ _ _ _ _ _
       obtain ⟨g274, H⟩ := grd_s H
       refine AW.region ?_
       show AR _ _ _ _ _ [0, 1, 2] _
       refine sS rfl rfl rfl (mv rfl) ?_
       refine sS rfl rfl rfl (g_add rfl rfl g274) ?_
       refine sS rfl rfl rfl (asg rfl) ?_
       refine AR.nil ?_
       exact Exists.intro (n248, y271, t272, y246 + 1) ⟨H, Nat.lt_succ_self _, WK.at [0, 0, 0, 0, 0, 0, 0, 0] (.cons (.refl _) (.cons (.refl _) (.cons (.refl _) (.cons (.refl _) (.cons (.refl _) (.cons (.refl _) (.cons (.refl _) (.cons (.refl _) (.nil _))))))))) rfl⟩
      ·replace H := cnd_f c249 H
       refine AW.exit ?_
       exact Exists.intro (y244, t245) ⟨H, WK.at [0, 0, 0, 0, 0, 0, 0, 0] (.cons (.refl _) (.cons (.refl _) (.cons (.refl _) (.cons (.refl _) (.cons (.refl _) (.cons (.refl _) (.nil _))))))) rfl⟩
     rintro ⟨y275, t276⟩ H
     replace H : ref05_Parse_j11 F x16 y92 y94 y163 y165 y234 y236 y275 = some (r2, r3, r4, r5, r6, r7, r8, r9, r10, r11, r12) := H
     unfold ref05_Parse_j11 at H
     show AW _ _ _ _ _ _
     refine AW.cut (X := (List Int) × Nat) (fun (y299, t300) => ⟨[(2, .pt o13 0), (4, .cp [nilS, nilS, nilS, nilS, nilS, B false, B false, B false, B false, B false]), (5, slE Enc.str x16 none), (6, .pt o19 0), (7, i64 3)], [], [.obj o19 [slE Enc.int y92 (some t93), slE Enc.int y163 (some t164), slE Enc.int y234 (some t235), slE Enc.int y299 (some t300), slE Enc.int [] (some t24), B y94, B y165, B y236, B false, B false], .obj o13 [nilS, nilS, nilS, nilS, nilS, B false, B false, B false, B false, B false], .tok t93 3, .tok t164 3, .tok t235 3, .tok t300 3, .tok t24 3]⟩) (fun (y299, t300) => ref05_Parse_j9 F x16 y92 y94 y163 y165 y234 y236 y299 = some (r2, r3, r4, r5, r6, r7, r8, r9, r10, r11, r12)) ?_ ?_
     ·
      refine AW.seq ?_
      obtain ⟨x278, e279, H⟩ := bnd_s H
      refine AW.region ?_
      show AR _ _ _ _ _ [0, 1, 2] _
      refine sS rfl rfl rfl (mv rfl) ?_
      refine AR.run rfl rfl (AO.callp rfl en35_cronr rfl (w_ref05_Low F 3 x278 e279) ?_)
      refine sS rfl rfl rfl (asg rfl) ?_
      refine AR.nil ?_
      show AW _ _ _ _ _ _
      refine AW.block ?_
      refine AW.loop (X := Nat × Int × (List Int) × Nat) (fun (n284, y280, y281, t282) => ⟨[(2, .pt o13 0), (4, .cp [nilS, nilS, nilS, nilS, nilS, B false, B false, B false, B false, B false]), (5, slE Enc.str x16 none), (6, .pt o19 0), (7, i64 3), (8, slE Enc.int y275 (some t276)), (14, i64 y280)], [], [.obj o19 [slE Enc.int y92 (some t93), slE Enc.int y163 (some t164), slE Enc.int y234 (some t235), slE Enc.int y281 (some t282), slE Enc.int [] (some t24), B y94, B y165, B y236, B false, B false], .obj o13 [nilS, nilS, nilS, nilS, nilS, B false, B false, B false, B false, B false], .tok t276 3, .tok t93 3, .tok t164 3, .tok t235 3, .tok t282 3, .tok t24 3]⟩) (fun (n284, y280, y281, t282) => ref05_Parse_L4 F x16 y92 y94 y163 y165 y234 y236 y275 n284 (y280, y281) = some (r2, r3, r4, r5, r6, r7, r8, r9, r10, r11, r12)) (fun (n284, y280, y281, t282) => n284) (F, x278, [], t23) H (WK.at [0, 0, 0, 0, 0, 0, 0, 0] (.cons (.refl _) (.cons (.refl _) (.cons (.refl _) (.cons (.refl _) (.cons (.refl _) (.cons (.refl _) (.cons (.refl _) (.nil _)))))))) rfl) ?_
      rintro ⟨n284, y280, y281, t282⟩ H
      obtain ⟨n284, rfl, H⟩ := loop_s H
      replace H : ref05_Parse_B4 F x16 y92 y94 y163 y165 y234 y236 y275 (ref05_Parse_L4 F x16 y92 y94 y163 y165 y234 y236 y275 n284) y280 y281 = some (r2, r3, r4, r5, r6, r7, r8, r9, r10, r11, r12) := H
      unfold ref05_Parse_B4 at H
      show AW _ _ _ _ _ _
      refine AW.seq ?_
      refine AW.seq ?_
      obtain ⟨x285, e286, H⟩ := bnd_s H
      refine AW.region ?_
      show AR _ _ _ _ _ [0, 1, 2, 3] _
      refine sS rfl rfl rfl (mv rfl) ?_
      refine sS rfl rfl rfl (mv rfl) ?_
      refine AR.run rfl rfl (AO.callp rfl en36_cronr rfl (w_ref05_High F 3 x285 e286) ?_)
      refine sS rfl rfl rfl (opS_le rfl rfl) ?_
      refine AR.nil ?_
      show AW _ _ _ _ _ _
      refine AW.cond rfl (fun c287 => ?_) (fun c287 => ?_)
      ·replace H := cnd_t c287 H
       refine AW.skip ?_
       show AW _ _ _ _ _ _
       refine AW.cut (X := (List Int) × Nat) (fun (y295, t296) => ⟨[(2, .pt o13 0), (4, .cp [nilS, nilS, nilS, nilS, nilS, B false, B false, B false, B false, B false]), (5, slE Enc.str x16 none), (6, .pt o19 0), (7, i64 3), (8, slE Enc.int y275 (some t276)), (14, i64 y280)], [], [.obj o19 [slE Enc.int y92 (some t93), slE Enc.int y163 (some t164), slE Enc.int y234 (some t235), slE Enc.int y295 (some t296), slE Enc.int [] (some t24), B y94, B y165, B y236, B false, B false], .obj o13 [nilS, nilS, nilS, nilS, nilS, B false, B false, B false, B false, B false], .tok t276 3, .tok t93 3, .tok t164 3, .tok t235 3, .tok t296 3, .tok t24 3]⟩) (fun (y295, t296) => ref05_Parse_j10 y280 (ref05_Parse_L4 F x16 y92 y94 y163 y165 y234 y236 y275 n284) y295 = some (r2, r3, r4, r5, r6, r7, r8, r9, r10, r11, r12)) ?_ ?_
       ·
        refine AW.block ?_
        refine AW.seq ?_
        obtain ⟨x288, e289, H⟩ := bnd_s H
        refine AW.region ?_
        show AR _ _ _ _ _ [0, 1, 2, 3] _
        refine sS rfl rfl rfl (opS_move (av := slE _ _ _) rfl) ?_
        refine sS rfl rfl rfl (mv rfl) ?_
        refine AR.run rfl rfl (AO.callp rfl en17_cronr rfl (w_ref05_Has F y275 (some t276) y280 x288 e289) ?_)
        refine sS rfl rfl rfl (asg rfl) ?_
        refine AR.nil ?_
        show AW _ _ _ _ _ _
        refine AW.seq ?_
        refine AW.region ?_
        show AR _ _ _ _ _ [0] _
        refine sS rfl rfl rfl (mv rfl) ?_
        refine AR.nil ?_
        show AW _ _ _ _ _ _
        refine AW.cond rfl (fun c290 => ?_) (fun c290 => ?_)
        ·replace H := cnd_t c290 H
         obtain ⟨g292, H⟩ := grd_s H
         obtain ⟨x293, e294, H⟩ := lt_s H
         refine AW.region ?_
         show AR _ _ _ _ _ [0, 1, 2, 3, 4, 5, 6, 7, 8, 9, 10] _
         refine sS rfl rfl rfl (mv rfl) ?_
         refine sS rfl rfl rfl (mv rfl) ?_
         refine sS rfl rfl rfl (opS_fieldAddr_pt (n := 0) (by kernel_rfl) rfl) ?_
         refine sS rfl rfl rfl (opS_indexAddr_arr (Ar := 0) (k := 1) (m := 3) Tryz.underlying24 (by kernel_rfl) rfl rfl rfl (by decide)) ?_
         refine sR rfl rfl rfl (opR_load_pt (i := 0) Tryz.underlying23 rfl rfl rfl rfl) ?_
         refine sS rfl rfl rfl (mv rfl) ?_
         refine sR rfl rfl rfl (opR_buildE (E := Enc.int) (bytes := 8) (xs := [.tmp 90]) (l := ([y280] : List Int)) Tryz.underlying23 (by kernel_rfl) rfl rfl (by decide) rfl rfl) ?_
         refine sX rfl rfl rfl (g_append (E := Enc.int) (bytes := 8) 6 Tryz.underlying23 Tryz.underlying23 rfl (by kernel_rfl) rfl rfl rfl rfl g292 e294) ?_
         rintro _ _ ⟨t291, rfl, rfl⟩
         refine sS rfl rfl rfl (opS_fieldAddr_pt (n := 0) (by kernel_rfl) rfl) ?_
         refine sS rfl rfl rfl (opS_indexAddr_arr (Ar := 0) (k := 1) (m := 3) Tryz.underlying24 (by kernel_rfl) rfl rfl rfl (by decide)) ?_
         refine s0 rfl rfl (opR_store_pt (i := 0) (c := slE _ _ _) (by kernel_rfl) rfl rfl rfl rfl (Nat.le_of_ble_eq_true rfl)) ?_
         refine AR.nil ?_
         exact Exists.intro (x293, t291) ⟨H, WK.at [0, 0, 0, 0, 0, 0, 0, 0] (.cons (.refl _) (.cons (.refl _) (.cons (.refl _) (.cons (.refl _) (.cons (.refl _) (.cons (.refl _) (.cons (.refl _) (.nil _)))))))) rfl⟩
        ·replace H := cnd_f c290 H
         refine AW.skip ?_
         exact Exists.intro (y281, t282) ⟨H, WK.at [0, 0, 0, 0, 0, 0, 0, 0] (.cons (.refl _) (.cons (.refl _) (.cons (.refl _) (.cons (.refl _) (.cons (.refl _) (.cons (.refl _) (.cons (.refl _) (.nil _)))))))) rfl⟩
       rintro ⟨y295, t296⟩ H
       replace H : ref05_Parse_j10 y280 (ref05_Parse_L4 F x16 y92 y94 y163 y165 y234 y236 y275 n284) y295 = some (r2, r3, r4, r5, r6, r7, r8, r9, r10, r11, r12) := H
       unfold ref05_Parse_j10 at H
       show AW _ _ _ _ _ _
       obtain ⟨g298, H⟩ := grd_s H
       refine AW.region ?_
       show AR _ _ _ _ _ [0, 1, 2] _
       refine sS rfl rfl rfl (mv rfl) ?_
       refine sS rfl rfl rfl (g_add rfl rfl g298) ?_
       refine sS rfl rfl rfl (asg rfl) ?_
       refine AR.nil ?_
       exact Exists.intro (n284, y280 + 1, y295, t296) ⟨H, Nat.lt_succ_self _, WK.at [0, 0, 0, 0, 0, 0, 0, 0] (.cons (.refl _) (.cons (.refl _) (.cons (.refl _) (.cons (.refl _) (.cons (.refl _) (.cons (.refl _) (.cons (.refl _) (.nil _)))))))) rfl⟩
      ·replace H := cnd_f c287 H
       refine AW.exit ?_
       exact Exists.intro (y281, t282) ⟨H, WK.at [0, 0, 1, 1, 1, 1, 1] (.cons (.refl _) (.cons (.refl _) (.cons (.refl _) (.cons (.refl _) (.cons (.refl _) (.nil _)))))) rfl⟩
     rintro ⟨y299, t300⟩ H
     replace H : ref05_Parse_j9 F x16 y92 y94 y163 y165 y234 y236 y299 = some (r2, r3, r4, r5, r6, r7, r8, r9, r10, r11, r12) := H
     unfold ref05_Parse_j9 at H
     show AW _ _ _ _ _ _
     obtain ⟨g302, H⟩ := grd_s H
     obtain ⟨x303, e304, H⟩ := lt_s H
     refine AW.region ?_
     show AR _ _ _ _ _ [0, 1, 2, 3, 4, 5, 6, 7, 8] _
     refine sS rfl rfl rfl (mv rfl) ?_
     refine sS rfl rfl rfl (opS_move (av := slE _ _ _) rfl) ?_
     refine sS rfl rfl rfl (mv rfl) ?_
     refine sS rfl rfl rfl (g_indexAddr (E := Enc.str) Tryz.underlying53 (by kernel_rfl) rfl rfl g302 e304) ?_
     refine sS rfl rfl rfl (opS_load_cp Tryz.underlying9 rfl rfl) ?_
     refine sS rfl rfl rfl (opS_eqs rfl rfl) ?_
     refine sS rfl rfl rfl (opS_fieldAddr_pt (n := 5) (by kernel_rfl) rfl) ?_
     refine sS rfl rfl rfl (opS_indexAddr_arr (Ar := 0) (k := 1) (m := 3) Tryz.underlying25 (by kernel_rfl) rfl rfl rfl (by decide)) ?_
     refine s0 rfl rfl (opR_store_pt (i := 0) (c := .v _) (by kernel_rfl) rfl rfl rfl rfl (Nat.le_of_ble_eq_true rfl)) ?_
     refine AR.nil ?_
     exact Exists.intro (y299, t300, decide (x303 = ([42] : List UInt8))) ⟨H, WK.at [0, 0, 0, 0, 0, 0, 0] (.cons (.refl _) (.cons (.refl _) (.cons (.refl _) (.cons (.refl _) (.cons (.refl _) (.nil _)))))) rfl⟩
    rintro ⟨y305, t306, y307⟩ H
    replace H : ref05_Parse_j8 F x16 y92 y94 y163 y165 y234 y236 y305 y307 = some (r2, r3, r4, r5, r6, r7, r8, r9, r10, r11, r12) := H
    unfold ref05_Parse_j8 at H
    show AW _ _ _ _ _ _
    refine AW.region ?_
    show AR _ _ _ _ _ [0, 1, 2] _
    refine sS rfl rfl rfl (mv rfl) ?_
    refine sS rfl rfl rfl (OpS.eq (av' := i64 4) (g_add rfl rfl (by decide)) rfl) ?_
    refine sS rfl rfl rfl (asg rfl) ?_
    refine AR.nil ?_
    show AW _ _ _ _ _ _
    refine AW.seq ?_
    refine AW.seq ?_
    refine AW.region ?_
    show AR _ _ _ _ _ [0, 1] _
    refine sS rfl rfl rfl (mv rfl) ?_
    refine sS rfl rfl rfl (OpS.eq (av' := B true) (opS_lt rfl rfl) (B_congr (by decide))) ?_
    refine AR.nil ?_
    show AW _ _ _ _ _ _
    refine AW.cond rfl (fun _ => ?_) (fun hx => bool_no rfl hx)
    refine AW.skip ?_
    show AW _ _ _ _ _ _
    refine AW.cut (X := (List Int) × Nat × Bool) (fun (y378, t379, y380) => ⟨[(2, .pt o13 0), (4, .cp [nilS, nilS, nilS, nilS, nilS, B false, B false, B false, B false, B false]), (5, slE Enc.str x16 none), (6, .pt o19 0), (7, i64 4)], [], [.obj o19 [slE Enc.int y92 (some t93), slE Enc.int y163 (some t164), slE Enc.int y234 (some t235), slE Enc.int y305 (some t306), slE Enc.int y378 (some t379), B y94, B y165, B y236, B y307, B y380], .obj o13 [nilS, nilS, nilS, nilS, nilS, B false, B false, B false, B false, B false], .tok t93 3, .tok t164 3, .tok t235 3, .tok t306 3, .tok t379 3]⟩) (fun (y378, t379, y380) => ref05_Parse_j2 y92 y94 y163 y165 y234 y236 y305 y307 y378 y380 = some (r2, r3, r4, r5, r6, r7, r8, r9, r10, r11, r12)) ?_ ?_
    ·
     refine AW.block ?_
     refine AW.seq ?_
     refine AW.region ?_
     show AR _ _ _ _ _ [0] _
     refine sS rfl rfl rfl (asg rfl) ?_
     refine AR.nil ?_
     show AW _ _ _ _ _ _
     refine AW.nil_grows 8 1 3 rfl fun t309 => ?_
     show AW _ _ _ _ _ ⟨(8, slE Enc.int [] (some t309)) :: _, _, _⟩
     refine AW.seq ?_
     obtain ⟨g310, H⟩ := grd_s H
     obtain ⟨x311, e312, H⟩ := lt_s H
     obtain ⟨x313, e314, H⟩ := bnd_s H
     refine AW.region ?_
     show AR _ _ _ _ _ [0, 1, 2, 3, 4, 5] _
     refine sS rfl rfl rfl (opS_move (av := slE _ _ _) rfl) ?_
     refine sS rfl rfl rfl (mv rfl) ?_
     refine sS rfl rfl rfl (g_indexAddr (E := Enc.str) Tryz.underlying53 (by kernel_rfl) rfl rfl g310 e312) ?_
     refine sS rfl rfl rfl (opS_load_cp Tryz.underlying9 rfl rfl) ?_
     refine AR.run rfl rfl (AO.callp rfl en33_cronr rfl (w_ref05_Split F x311 44 x313 e314) ?_)
     refine sS rfl rfl rfl (opS_assign (av := slE _ _ _) rfl) ?_
     refine AR.nil ?_
     show AW _ _ _ _ _ _
     refine AW.cut (X := (List Int) × Nat) (fun (y348, t349) => ⟨[(2, .pt o13 0), (4, .cp [nilS, nilS, nilS, nilS, nilS, B false, B false, B false, B false, B false]), (5, slE Enc.str x16 none), (6, .pt o19 0), (7, i64 4), (8, slE Enc.int y348 (some t349))], [], [.obj o19 [slE Enc.int y92 (some t93), slE Enc.int y163 (some t164), slE Enc.int y234 (some t235), slE Enc.int y305 (some t306), slE Enc.int [] (some t24), B y94, B y165, B y236, B y307, B false], .obj o13 [nilS, nilS, nilS, nilS, nilS, B false, B false, B false, B false, B false], .tok t349 3, .tok t93 3, .tok t164 3, .tok t235 3, .tok t306 3, .tok t24 3]⟩) (fun (y348, t349) => ref05_Parse_j5 F x16 y92 y94 y163 y165 y234 y236 y305 y307 y348 = some (r2, r3, r4, r5, r6, r7, r8, r9, r10, r11, r12)) ?_ ?_
     ·
      refine AW.seq ?_
      refine AW.region ?_
      show AR _ _ _ _ _ [0] _
      refine sS rfl rfl rfl (asg rfl) ?_
      refine AR.nil ?_
      show AW _ _ _ _ _ _
      refine AW.block ?_
      refine AW.loop (X := Nat × (List Int) × Nat × Int) (fun (n319, y315, t316, y317) => ⟨[(2, .pt o13 0), (4, .cp [nilS, nilS, nilS, nilS, nilS, B false, B false, B false, B false, B false]), (5, slE Enc.str x16 none), (6, .pt o19 0), (7, i64 4), (8, slE Enc.int y315 (some t316)), (9, slE Enc.str x313 none), (10, i64 y317)], [], [.obj o19 [slE Enc.int y92 (some t93), slE Enc.int y163 (some t164), slE Enc.int y234 (some t235), slE Enc.int y305 (some t306), slE Enc.int [] (some t24), B y94, B y165, B y236, B y307, B false], .obj o13 [nilS, nilS, nilS, nilS, nilS, B false, B false, B false, B false, B false], .tok t316 3, .tok t93 3, .tok t164 3, .tok t235 3, .tok t306 3, .tok t24 3]⟩) (fun (n319, y315, t316, y317) => ref05_Parse_L3 F x16 y92 y94 y163 y165 y234 y236 y305 y307 x313 n319 (y315, y317) = some (r2, r3, r4, r5, r6, r7, r8, r9, r10, r11, r12)) (fun (n319, y315, t316, y317) => n319) (F, [], t309, 0) H (WK.at [1, 1, 0, 0, 0, 0, 0, 0] (.cons (.refl _) (.cons (.refl _) (.cons (.refl _) (.cons (.refl _) (.cons (.refl _) (.cons (.refl _) (.cons (.refl _) (.cons (.refl _) (.nil _))))))))) rfl) ?_
      rintro ⟨n319, y315, t316, y317⟩ H
      obtain ⟨n319, rfl, H⟩ := loop_s H
      replace H : ref05_Parse_B3 F x16 y92 y94 y163 y165 y234 y236 y305 y307 x313 (ref05_Parse_L3 F x16 y92 y94 y163 y165 y234 y236 y305 y307 x313 n319) y315 y317 = some (r2, r3, r4, r5, r6, r7, r8, r9, r10, r11, r12) := H
      unfold ref05_Parse_B3 at H
      show AW _ _ _ _ _ _
      refine AW.seq ?_
      refine AW.seq ?_
      refine AW.region ?_
      show AR _ _ _ _ _ [0, 1, 2, 3] _
      refine sS rfl rfl rfl (mv rfl) ?_
      refine sS rfl rfl rfl (opS_move (av := slE _ _ _) rfl) ?_
      refine sS rfl rfl rfl (opS_len_sl Tryz.underlying53 rfl) ?_
      refine sS rfl rfl rfl (opS_lt rfl rfl) ?_
      refine AR.nil ?_
      show AW _ _ _ _ _ _
      refine AW.cond rfl (fun c320 => ?_) (fun c320 => ?_)
      ·replace H := cnd_t c320 H
       refine AW.skip ?_
       show AW _ _ _ _ _ _
       refine AW.cut (X := (List Int) × Nat) (fun (y344, t345) => ⟨[(2, .pt o13 0), (4, .cp [nilS, nilS, nilS, nilS, nilS, B false, B false, B false, B false, B false]), (5, slE Enc.str x16 none), (6, .pt o19 0), (7, i64 4), (8, slE Enc.int y344 (some t345)), (9, slE Enc.str x313 none), (10, i64 y317)], [], [.obj o19 [slE Enc.int y92 (some t93), slE Enc.int y163 (some t164), slE Enc.int y234 (some t235), slE Enc.int y305 (some t306), slE Enc.int [] (some t24), B y94, B y165, B y236, B y307, B false], .obj o13 [nilS, nilS, nilS, nilS, nilS, B false, B false, B false, B false, B false], .tok t345 3, .tok t93 3, .tok t164 3, .tok t235 3, .tok t306 3, .tok t24 3]⟩) (fun (y344, t345) => ref05_Parse_j6 y317 (ref05_Parse_L3 F x16 y92 y94 y163 y165 y234 y236 y305 y307 x313 n319) y344 = some (r2, r3, r4, r5, r6, r7, r8, r9, r10, r11, r12)) ?_ ?_
       ·
        refine AW.block ?_
        refine AW.seq ?_
        obtain ⟨g321, H⟩ := grd_s H
        obtain ⟨x322, e323, H⟩ := lt_s H
        obtain ⟨x324, e325, H⟩ := bnd_s H
        refine AW.region ?_
        show AR _ _ _ _ _ [0, 1, 2, 3, 4, 5, 6] _
        refine sS rfl rfl rfl (mv rfl) ?_
        refine sS rfl rfl rfl (opS_move (av := slE _ _ _) rfl) ?_
        refine sS rfl rfl rfl (mv rfl) ?_
        refine sS rfl rfl rfl (g_indexAddr (E := Enc.str) Tryz.underlying53 (by kernel_rfl) rfl rfl g321 e323) ?_
        refine sS rfl rfl rfl (opS_load_cp Tryz.underlying9 rfl rfl) ?_
        refine AR.run rfl rfl (AO.callp rfl en34_cronr rfl (w_ref05_piece F 4 x322 x324 e325) ?_)
        refine sS rfl rfl rfl (opS_assign (av := slE _ _ _) rfl) ?_
        refine AR.nil ?_
        show AW _ _ _ _ _ _
        refine AW.seq ?_
        refine AW.seq ?_
        refine AW.region ?_
        show AR _ _ _ _ _ [0, 1, 2] _
        refine sS rfl rfl rfl (opS_move (av := slE _ _ _) rfl) ?_
        refine sS rfl rfl rfl (opS_len_sl Tryz.underlying23 rfl) ?_
        refine sS rfl rfl rfl (opS_eqi rfl rfl) ?_
        refine AR.nil ?_
        show AW _ _ _ _ _ _
        refine AW.cond rfl (fun c326 => ?_) (fun c326 => ?_)
        ·replace H := cnd_t c326 H
         refine AW.seq ?_
         refine AW.region ?_
         show AR _ _ _ _ _ [0, 1, 2] _
         refine sS rfl rfl rfl (opS_load_cp_agg Tryz.underlying27 rfl (n := 10) (by kernel_rfl) rfl (Nat.le_of_ble_eq_true rfl)) ?_
         refine s0 rfl rfl (opR_store_agg (i := 1) (vs := [nilS, nilS, nilS, nilS, nilS, B false, B false, B false, B false, B false]) (by kernel_rfl) rfl rfl (by simp [isCell, slE]) rfl (Nat.le_of_ble_eq_true rfl)) ?_
         refine sS rfl rfl rfl (asg rfl) ?_
         refine AR.nil ?_
         show AW _ _ _ _ _ _
         refine AW.ret ?_
         obtain ⟨rfl, rfl, rfl, rfl, rfl, rfl, rfl, rfl, rfl, rfl, rfl⟩ := res11 H
         exact And.intro rfl (Exists.intro _ (Exists.intro _ ⟨ResT.resV (ResT.place2 rfl (CellV.aggW (cs := [nilS, nilS, nilS, nilS, nilS, B false, B false, B false, B false, B false]) (CellV.agg (off := 0) (cs := [nilS, nilS, nilS, nilS, nilS, B false, B false, B false, B false, B false]) (n := 10) 1 Tryz.underlying27 rfl (by kernel_rfl) rfl rfl (Nat.le_of_ble_eq_true rfl)) (.cons (.nil _) (.cons (.nil _) (.cons (.nil _) (.cons (.nil _) (.cons (.nil _) (.cons (.refl _) (.cons (.refl _) (.cons (.refl _) (.cons (.refl _) (.cons (.refl _) (.nil)))))))))))) ((show PlaceV _ _ _ (.tmp _) _ from (.refl _)))), Sub.at [] rfl, rfl, rfl⟩))
        ·replace H := cnd_f c326 H
         refine AW.skip ?_
         show AW _ _ _ _ _ _
         refine AW.seq ?_
         refine AW.region ?_
         show AR _ _ _ _ _ [0] _
         refine sS rfl rfl rfl (asg rfl) ?_
         refine AR.nil ?_
         show AW _ _ _ _ _ _
         refine AW.block ?_
         refine AW.loop (X := Nat × (List Int) × Nat × Int) (fun (n331, y327, t328, y329) => ⟨[(2, .pt o13 0), (4, .cp [nilS, nilS, nilS, nilS, nilS, B false, B false, B false, B false, B false]), (5, slE Enc.str x16 none), (6, .pt o19 0), (7, i64 4), (8, slE Enc.int y327 (some t328)), (9, slE Enc.str x313 none), (10, i64 y317), (11, slE Enc.int x324 none), (12, i64 y329)], [], [.obj o19 [slE Enc.int y92 (some t93), slE Enc.int y163 (some t164), slE Enc.int y234 (some t235), slE Enc.int y305 (some t306), slE Enc.int [] (some t24), B y94, B y165, B y236, B y307, B false], .obj o13 [nilS, nilS, nilS, nilS, nilS, B false, B false, B false, B false, B false], .tok t328 3, .tok t93 3, .tok t164 3, .tok t235 3, .tok t306 3, .tok t24 3]⟩) (fun (n331, y327, t328, y329) => ref05_Parse_L2 y317 x324 (ref05_Parse_L3 F x16 y92 y94 y163 y165 y234 y236 y305 y307 x313 n319) n331 (y327, y329) = some (r2, r3, r4, r5, r6, r7, r8, r9, r10, r11, r12)) (fun (n331, y327, t328, y329) => n331) (F, y315, t316, 0) H (WK.at [0, 0, 0, 0, 0, 0, 0, 0] (.cons (.refl _) (.cons (.refl _) (.cons (.refl _) (.cons (.refl _) (.cons (.refl _) (.cons (.refl _) (.cons (.refl _) (.cons (.refl _) (.cons (.refl _) (.cons (.refl _) (.nil _))))))))))) rfl) ?_
         rintro ⟨n331, y327, t328, y329⟩ H
         obtain ⟨n331, rfl, H⟩ := loop_s H
         replace H : ref05_Parse_B2 y317 x324 (ref05_Parse_L3 F x16 y92 y94 y163 y165 y234 y236 y305 y307 x313 n319) (ref05_Parse_L2 y317 x324 (ref05_Parse_L3 F x16 y92 y94 y163 y165 y234 y236 y305 y307 x313 n319) n331) y327 y329 = some (r2, r3, r4, r5, r6, r7, r8, r9, r10, r11, r12) := H
         unfold ref05_Parse_B2 at H
         show AW _ _ _ _ _ _
         refine AW.seq ?_
         refine AW.seq ?_
         refine AW.region ?_
         show AR _ _ _ _ _ [0, 1, 2, 3] _
         refine sS rfl rfl rfl (mv rfl) ?_
         refine sS rfl rfl rfl (opS_move (av := slE _ _ _) rfl) ?_
         refine sS rfl rfl rfl (opS_len_sl Tryz.underlying23 rfl) ?_
         refine sS rfl rfl rfl (opS_lt rfl rfl) ?_
         refine AR.nil ?_
         show AW _ _ _ _ _ _
         refine AW.cond rfl (fun c332 => ?_) (fun c332 => ?_)
         ·replace H := cnd_t c332 H
          refine AW.skip ?_
          show AW _ _ _ _ _ _
          refine AW.seq ?_
          refine AW.block ?_
          refine AW.seq ?_
          obtain ⟨g333, H⟩ := grd_s H
          obtain ⟨x334, e335, H⟩ := lt_s H
          refine AW.region ?_
          show AR _ _ _ _ _ [0, 1, 2, 3, 4] _
          refine sS rfl rfl rfl (opS_move (av := slE _ _ _) rfl) ?_
          refine sS rfl rfl rfl (mv rfl) ?_
          refine sS rfl rfl rfl (g_indexAddr (E := Enc.int) Tryz.underlying23 (by kernel_rfl) rfl rfl g333 e335) ?_
          refine sS rfl rfl rfl (opS_load_cp Tryz.underlying3 rfl rfl) ?_
          refine sS rfl rfl rfl (asg rfl) ?_
          refine AR.nil ?_
          show AW _ _ _ _ _ _
          refine AW.cut (X := Int) (fun y337 => ⟨[(2, .pt o13 0), (4, .cp [nilS, nilS, nilS, nilS, nilS, B false, B false, B false, B false, B false]), (5, slE Enc.str x16 none), (6, .pt o19 0), (7, i64 4), (8, slE Enc.int y327 (some t328)), (9, slE Enc.str x313 none), (10, i64 y317), (11, slE Enc.int x324 none), (12, i64 y329), (13, i64 y337), (66, i64 x334), (67, B (decide (x334 = 7)))], [], [.obj o19 [slE Enc.int y92 (some t93), slE Enc.int y163 (some t164), slE Enc.int y234 (some t235), slE Enc.int y305 (some t306), slE Enc.int [] (some t24), B y94, B y165, B y236, B y307, B false], .obj o13 [nilS, nilS, nilS, nilS, nilS, B false, B false, B false, B false, B false], .tok t328 3, .tok t93 3, .tok t164 3, .tok t235 3, .tok t306 3, .tok t24 3]⟩) (fun y337 => ref05_Parse_j7 y327 y329 (ref05_Parse_L2 y317 x324 (ref05_Parse_L3 F x16 y92 y94 y163 y165 y234 y236 y305 y307 x313 n319) n331) y337 = some (r2, r3, r4, r5, r6, r7, r8, r9, r10, r11, r12)) ?_ ?_
          ·
           refine AW.seq ?_
           refine AW.region ?_
           show AR _ _ _ _ _ [0, 1, 2, 3, 4, 5] _
           refine sS rfl rfl rfl (mv rfl) ?_
           refine sS rfl rfl rfl (OpS.eq (av' := B true) (opS_eqi rfl rfl) (B_congr (by decide))) ?_
           refine sS rfl rfl rfl (mv rfl) ?_
           refine gT rfl rfl rfl rfl rfl rfl rfl (AO.ops rfl rfl (mv rfl) ?_)
           refine gT rfl rfl rfl rfl rfl rfl rfl (AO.ops rfl rfl (opS_eqi rfl rfl) ?_)
           refine sS rfl rfl rfl (opS_pick_t (av := .v _) rfl rfl rfl) ?_
           refine AR.nil ?_
           show AW _ _ _ _ _ _
           refine AW.cond rfl (fun c336 => ?_) (fun c336 => ?_)
           ·replace H := cnd_t c336 H
            refine AW.region ?_
            show AR _ _ _ _ _ [0] _
            refine sS rfl rfl rfl (asg rfl) ?_
            refine AR.nil ?_
            exact Exists.intro 0 ⟨H, WK.at [0, 0, 0, 0, 0, 0, 0, 0] (.cons (.refl _) (.cons (.refl _) (.cons (.refl _) (.cons (.refl _) (.cons (.refl _) (.cons (.refl _) (.cons (.refl _) (.cons (.refl _) (.cons (.refl _) (.cons (.refl _) (.cons (.refl _) (.cons (.refl _) (.cons (.refl _) (.nil _)))))))))))))) rfl⟩
           ·replace H := cnd_f c336 H
            refine AW.skip ?_
            exact Exists.intro x334 ⟨H, WK.at [0, 0, 0, 0, 0, 0, 0, 0] (.cons (.refl _) (.cons (.refl _) (.cons (.refl _) (.cons (.refl _) (.cons (.refl _) (.cons (.refl _) (.cons (.refl _) (.cons (.refl _) (.cons (.refl _) (.cons (.refl _) (.cons (.refl _) (.cons (.refl _) (.cons (.refl _) (.nil _)))))))))))))) rfl⟩
          rintro y337 H
          replace H : ref05_Parse_j7 y327 y329 (ref05_Parse_L2 y317 x324 (ref05_Parse_L3 F x16 y92 y94 y163 y165 y234 y236 y305 y307 x313 n319) n331) y337 = some (r2, r3, r4, r5, r6, r7, r8, r9, r10, r11, r12) := H
          unfold ref05_Parse_j7 at H
          show AW _ _ _ _ _ _
          obtain ⟨g340, H⟩ := grd_s H
          obtain ⟨x341, e342, H⟩ := lt_s H
          refine AW.region ?_
          show AR _ _ _ _ _ [0, 1, 2, 3, 4] _
          refine sS rfl rfl rfl (opS_move (av := slE _ _ _) rfl) ?_
          refine sS rfl rfl rfl (mv rfl) ?_
          refine sR rfl rfl rfl (opR_buildE (E := Enc.int) (bytes := 8) (xs := [.tmp 70]) (l := ([y337] : List Int)) Tryz.underlying23 (by kernel_rfl) rfl rfl (by decide) rfl rfl) ?_
          refine sX rfl rfl rfl (g_append (E := Enc.int) (bytes := 8) 2 Tryz.underlying23 Tryz.underlying23 rfl (by kernel_rfl) rfl rfl rfl rfl g340 e342) ?_
          rintro _ _ ⟨t339, rfl, rfl⟩
          refine sS rfl rfl rfl (opS_assign (av := slE _ _ _) rfl) ?_
          refine AR.nil ?_
          show AW _ _ _ _ _ _
          obtain ⟨g343, H⟩ := grd_s H
          refine AW.region ?_
          show AR _ _ _ _ _ [0, 1, 2] _
          refine sS rfl rfl rfl (mv rfl) ?_
          refine sS rfl rfl rfl (g_add rfl rfl g343) ?_
          refine sS rfl rfl rfl (asg rfl) ?_
          refine AR.nil ?_
          exact Exists.intro (n331, x341, t339, y329 + 1) ⟨H, Nat.lt_succ_self _, WK.at [0, 0, 0, 0, 0, 0, 0, 0] (.cons (.refl _) (.cons (.refl _) (.cons (.refl _) (.cons (.refl _) (.cons (.refl _) (.cons (.refl _) (.cons (.refl _) (.cons (.refl _) (.cons (.refl _) (.cons (.refl _) (.nil _))))))))))) rfl⟩
         ·replace H := cnd_f c332 H
          refine AW.exit ?_
          exact Exists.intro (y327, t328) ⟨H, WK.at [0, 0, 0, 0, 0, 0, 0, 0] (.cons (.refl _) (.cons (.refl _) (.cons (.refl _) (.cons (.refl _) (.cons (.refl _) (.cons (.refl _) (.cons (.refl _) (.cons (.refl _) (.nil _))))))))) rfl⟩
       rintro ⟨y344, t345⟩ H
       replace H : ref05_Parse_j6 y317 (ref05_Parse_L3 F x16 y92 y94 y163 y165 y234 y236 y305 y307 x313 n319) y344 = some (r2, r3, r4, r5, r6, r7, r8, r9, r10, r11, r12) := H
       unfold ref05_Parse_j6 at H
       show AW _ _ _ _ _ _
       obtain ⟨g347, H⟩ := grd_s H
       refine AW.region ?_
       show AR _ _ _ _ _ [0, 1, 2] _
       refine sS rfl rfl rfl (mv rfl) ?_
       refine sS rfl rfl rfl (g_add rfl rfl g347) ?_
       refine sS rfl rfl rfl (asg rfl) ?_
       refine AR.nil ?_
       exact Exists.intro (n319, y344, t345, y317 + 1) ⟨H, Nat.lt_succ_self _, WK.at [0, 0, 0, 0, 0, 0, 0, 0] (.cons (.refl _) (.cons (.refl _) (.cons (.refl _) (.cons (.refl _) (.cons (.refl _) (.cons (.refl _) (.cons (.refl _) (.cons (.refl _) (.nil _))))))))) rfl⟩
      ·replace H := cnd_f c320 H
       refine AW.exit ?_
       exact Exists.intro (y315, t316) ⟨H, WK.at [0, 0, 0, 0, 0, 0, 0, 0] (.cons (.refl _) (.cons (.refl _) (.cons (.refl _) (.cons (.refl _) (.cons (.refl _) (.cons (.refl _) (.nil _))))))) rfl⟩
     rintro ⟨y348, t349⟩ H
     replace H : ref05_Parse_j5 F x16 y92 y94 y163 y165 y234 y236 y305 y307 y348 = some (r2, r3, r4, r5, r6, r7, r8, r9, r10, r11, r12) := H
     unfold ref05_Parse_j5 at H
     show AW _ _ _ _ _ _
     refine AW.cut (X := (List Int) × Nat) (fun (y372, t373) => ⟨[(2, .pt o13 0), (4, .cp [nilS, nilS, nilS, nilS, nilS, B false, B false, B false, B false, B false]), (5, slE Enc.str x16 none), (6, .pt o19 0), (7, i64 4)], [], [.obj o19 [slE Enc.int y92 (some t93), slE Enc.int y163 (some t164), slE Enc.int y234 (some t235), slE Enc.int y305 (some t306), slE Enc.int y372 (some t373), B y94, B y165, B y236, B y307, B false], .obj o13 [nilS, nilS, nilS, nilS, nilS, B false, B false, B false, B false, B false], .tok t93 3, .tok t164 3, .tok t235 3, .tok t306 3, .tok t373 3]⟩) (fun (y372, t373) => ref05_Parse_j3 x16 y92 y94 y163 y165 y234 y236 y305 y307 y372 = some (r2, r3, r4, r5, r6, r7, r8, r9, r10, r11, r12)) ?_ ?_
     ·
      refine AW.seq ?_
      obtain ⟨x351, e352, H⟩ := bnd_s H
      refine AW.region ?_
      show AR _ _ _ _ _ [0, 1, 2] _
      refine sS rfl rfl rfl (mv rfl) ?_
      refine AR.run rfl rfl (AO.callp rfl en35_cronr rfl (w_ref05_Low F 4 x351 e352) ?_)
      refine sS rfl rfl rfl (asg rfl) ?_
      refine AR.nil ?_
      show AW _ _ _ _ _ _
      refine AW.block ?_
      refine AW.loop (X := Nat × Int × (List Int) × Nat) (fun (n357, y353, y354, t355) => ⟨[(2, .pt o13 0), (4, .cp [nilS, nilS, nilS, nilS, nilS, B false, B false, B false, B false, B false]), (5, slE Enc.str x16 none), (6, .pt o19 0), (7, i64 4), (8, slE Enc.int y348 (some t349)), (14, i64 y353)], [], [.obj o19 [slE Enc.int y92 (some t93), slE Enc.int y163 (some t164), slE Enc.int y234 (some t235), slE Enc.int y305 (some t306), slE Enc.int y354 (some t355), B y94, B y165, B y236, B y307, B false], .obj o13 [nilS, nilS, nilS, nilS, nilS, B false, B false, B false, B false, B false], .tok t349 3, .tok t93 3, .tok t164 3, .tok t235 3, .tok t306 3, .tok t355 3]⟩) (fun (n357, y353, y354, t355) => ref05_Parse_L1 F x16 y92 y94 y163 y165 y234 y236 y305 y307 y348 n357 (y353, y354) = some (r2, r3, r4, r5, r6, r7, r8, r9, r10, r11, r12)) (fun (n357, y353, y354, t355) => n357) (F, x351, [], t24) H (WK.at [0, 0, 0, 0, 0, 0, 0, 0] (.cons (.refl _) (.cons (.refl _) (.cons (.refl _) (.cons (.refl _) (.cons (.refl _) (.cons (.refl _) (.cons (.refl _) (.nil _)))))))) rfl) ?_
      rintro ⟨n357, y353, y354, t355⟩ H
      obtain ⟨n357, rfl, H⟩ := loop_s H
      replace H : ref05_Parse_B1 F x16 y92 y94 y163 y165 y234 y236 y305 y307 y348 (ref05_Parse_L1 F x16 y92 y94 y163 y165 y234 y236 y305 y307 y348 n357) y353 y354 = some (r2, r3, r4, r5, r6, r7, r8, r9, r10, r11, r12) := H
      unfold ref05_Parse_B1 at H
      show AW _ _ _ _ _ _
      refine AW.seq ?_
      refine AW.seq ?_
      obtain ⟨x358, e359, H⟩ := bnd_s H
      refine AW.region ?_
      show AR _ _ _ _ _ [0, 1, 2, 3] _
      refine sS rfl rfl rfl (mv rfl) ?_
      refine sS rfl rfl rfl (mv rfl) ?_
      refine AR.run rfl rfl (AO.callp rfl en36_cronr rfl (w_ref05_High F 4 x358 e359) ?_)
      refine sS rfl rfl rfl (opS_le rfl rfl) ?_
      refine AR.nil ?_
      show AW _ _ _ _ _ _
      refine AW.cond rfl (fun c360 => ?_) (fun c360 => ?_)
      ·replace H := cnd_t c360 H
       refine AW.skip ?_
       show AW _ _ _ _ _ _
       refine AW.cut (X := (List Int) × Nat) (fun (y368, t369) => ⟨[(2, .pt o13 0), (4, .cp [nilS, nilS, nilS, nilS, nilS, B false, B false, B false, B false, B false]), (5, slE Enc.str x16 none), (6, .pt o19 0), (7, i64 4), (8, slE Enc.int y348 (some t349)), (14, i64 y353)], [], [.obj o19 [slE Enc.int y92 (some t93), slE Enc.int y163 (some t164), slE Enc.int y234 (some t235), slE Enc.int y305 (some t306), slE Enc.int y368 (some t369), B y94, B y165, B y236, B y307, B false], .obj o13 [nilS, nilS, nilS, nilS, nilS, B false, B false, B false, B false, B false], .tok t349 3, .tok t93 3, .tok t164 3, .tok t235 3, .tok t306 3, .tok t369 3]⟩) (fun (y368, t369) => ref05_Parse_j4 y353 (ref05_Parse_L1 F x16 y92 y94 y163 y165 y234 y236 y305 y307 y348 n357) y368 = some (r2, r3, r4, r5, r6, r7, r8, r9, r10, r11, r12)) ?_ ?_
       ·
        refine AW.block ?_
        refine AW.seq ?_
        obtain ⟨x361, e362, H⟩ := bnd_s H
        refine AW.region ?_
        show AR _ _ _ _ _ [0, 1, 2, 3] _
        refine sS rfl rfl rfl (opS_move (av := slE _ _ _) rfl) ?_
        refine sS rfl rfl rfl (mv rfl) ?_
        refine AR.run rfl rfl (AO.callp rfl en17_cronr rfl (w_ref05_Has F y348 (some t349) y353 x361 e362) ?_)
        refine sS rfl rfl rfl (asg rfl) ?_
        refine AR.nil ?_
        show AW _ _ _ _ _ _
        refine AW.seq ?_
        refine AW.region ?_
        show AR _ _ _ _ _ [0] _
        refine sS rfl rfl rfl (mv rfl) ?_
        refine AR.nil ?_
        show AW _ _ _ _ _ _
        refine AW.cond rfl (fun c363 => ?_) (fun c363 => ?_)
        ·replace H := cnd_t c363 H
         obtain ⟨g365, H⟩ := grd_s H
         obtain ⟨x366, e367, H⟩ := lt_s H
         refine AW.region ?_
         show AR _ _ _ _ _ [0, 1, 2, 3, 4, 5, 6, 7, 8, 9, 10] _
         refine sS rfl rfl rfl (mv rfl) ?_
         refine sS rfl rfl rfl (mv rfl) ?_
         refine sS rfl rfl rfl (opS_fieldAddr_pt (n := 0) (by kernel_rfl) rfl) ?_
         refine sS rfl rfl rfl (opS_indexAddr_arr (Ar := 0) (k := 1) (m := 4) Tryz.underlying24 (by kernel_rfl) rfl rfl rfl (by decide)) ?_
         refine sR rfl rfl rfl (opR_load_pt (i := 0) Tryz.underlying23 rfl rfl rfl rfl) ?_
         refine sS rfl rfl rfl (mv rfl) ?_
         refine sR rfl rfl rfl (opR_buildE (E := Enc.int) (bytes := 8) (xs := [.tmp 90]) (l := ([y353] : List Int)) Tryz.underlying23 (by kernel_rfl) rfl rfl (by decide) rfl rfl) ?_
         refine sX rfl rfl rfl (g_append (E := Enc.int) (bytes := 8) 7 Tryz.underlying23 Tryz.underlying23 rfl (by kernel_rfl) rfl rfl rfl rfl g365 e367) ?_
         rintro _ _ ⟨t364, rfl, rfl⟩
         refine sS rfl rfl rfl (opS_fieldAddr_pt (n := 0) (by kernel_rfl) rfl) ?_
         refine sS rfl rfl rfl (opS_indexAddr_arr (Ar := 0) (k := 1) (m := 4) Tryz.underlying24 (by kernel_rfl) rfl rfl rfl (by decide)) ?_
         refine s0 rfl rfl (opR_store_pt (i := 0) (c := slE _ _ _) (by kernel_rfl) rfl rfl rfl rfl (Nat.le_of_ble_eq_true rfl)) ?_
         refine AR.nil ?_
         exact Exists.intro (x366, t364) ⟨H, WK.at [0, 0, 0, 0, 0, 0, 0, 0] (.cons (.refl _) (.cons (.refl _) (.cons (.refl _) (.cons (.refl _) (.cons (.refl _) (.cons (.refl _) (.cons (.refl _) (.nil _)))))))) rfl⟩
        ·replace H := cnd_f c363 H
         refine AW.skip ?_
         exact Exists.intro (y354, t355) ⟨H, WK.at [0, 0, 0, 0, 0, 0, 0, 0] (.cons (.refl _) (.cons (.refl _) (.cons (.refl _) (.cons (.refl _) (.cons (.refl _) (.cons (.refl _) (.cons (.refl _) (.nil _)))))))) rfl⟩
       rintro ⟨y368, t369⟩ H
       replace H : ref05_Parse_j4 y353 (ref05_Parse_L1 F x16 y92 y94 y163 y165 y234 y236 y305 y307 y348 n357) y368 = some (r2, r3, r4, r5, r6, r7, r8, r9, r10, r11, r12) := H
       unfold ref05_Parse_j4 at H
       show AW _ _ _ _ _ _
       obtain ⟨g371, H⟩ := grd_s H
       refine AW.region ?_
       show AR _ _ _ _ _ [0, 1, 2] _
       refine sS rfl rfl rfl (mv rfl) ?_
       refine sS rfl rfl rfl (g_add rfl rfl g371) ?_
       refine sS rfl rfl rfl (asg rfl) ?_
       refine AR.nil ?_
       exact Exists.intro (n357, y353 + 1, y368, t369) ⟨H, Nat.lt_succ_self _, WK.at [0, 0, 0, 0, 0, 0, 0, 0] (.cons (.refl _) (.cons (.refl _) (.cons (.refl _) (.cons (.refl _) (.cons (.refl _) (.cons (.refl _) (.cons (.refl _) (.nil _)))))))) rfl⟩
      ·replace H := cnd_f c360 H
       refine AW.exit ?_
       exact Exists.intro (y354, t355) ⟨H, WK.at [0, 0, 1, 1, 1, 1, 1] (.cons (.refl _) (.cons (.refl _) (.cons (.refl _) (.cons (.refl _) (.cons (.refl _) (.nil _)))))) rfl⟩
     rintro ⟨y372, t373⟩ H
     replace H : ref05_Parse_j3 x16 y92 y94 y163 y165 y234 y236 y305 y307 y372 = some (r2, r3, r4, r5, r6, r7, r8, r9, r10, r11, r12) := H
     unfold ref05_Parse_j3 at H
     show AW _ _ _ _ _ _
     obtain ⟨g375, H⟩ := grd_s H
     obtain ⟨x376, e377, H⟩ := lt_s H
     refine AW.region ?_
     show AR _ _ _ _ _ [0, 1, 2, 3, 4, 5, 6, 7, 8] _
     refine sS rfl rfl rfl (mv rfl) ?_
     refine sS rfl rfl rfl (opS_move (av := slE _ _ _) rfl) ?_
     refine sS rfl rfl rfl (mv rfl) ?_
     refine sS rfl rfl rfl (g_indexAddr (E := Enc.str) Tryz.underlying53 (by kernel_rfl) rfl rfl g375 e377) ?_
     refine sS rfl rfl rfl (opS_load_cp Tryz.underlying9 rfl rfl) ?_
     refine sS rfl rfl rfl (opS_eqs rfl rfl) ?_
     refine sS rfl rfl rfl (opS_fieldAddr_pt (n := 5) (by kernel_rfl) rfl) ?_
     refine sS rfl rfl rfl (opS_indexAddr_arr (Ar := 0) (k := 1) (m := 4) Tryz.underlying25 (by kernel_rfl) rfl rfl rfl (by decide)) ?_
     refine s0 rfl rfl (opR_store_pt (i := 0) (c := .v _) (by kernel_rfl) rfl rfl rfl rfl (Nat.le_of_ble_eq_true rfl)) ?_
     refine AR.nil ?_
     exact Exists.intro (y372, t373, decide (x376 = ([42] : List UInt8))) ⟨H, WK.at [0, 0, 0, 0, 0, 0, 0] (.cons (.refl _) (.cons (.refl _) (.cons (.refl _) (.cons (.refl _) (.cons (.refl _) (.nil _)))))) rfl⟩
    rintro ⟨y378, t379, y380⟩ H
    replace H : ref05_Parse_j2 y92 y94 y163 y165 y234 y236 y305 y307 y378 y380 = some (r2, r3, r4, r5, r6, r7, r8, r9, r10, r11, r12) := H
    unfold ref05_Parse_j2 at H
    show AW _ _ _ _ _ _
    refine AW.region ?_
    show AR _ _ _ _ _ [0, 1, 2] _
    refine sS rfl rfl rfl (mv rfl) ?_
    refine sS rfl rfl rfl (OpS.eq (av' := i64 5) (g_add rfl rfl (by decide)) rfl) ?_
    refine sS rfl rfl rfl (asg rfl) ?_
    refine AR.nil ?_
    show AW _ _ _ _ _ _
    refine AW.seq ?_
    refine AW.seq ?_
    refine AW.region ?_
    show AR _ _ _ _ _ [0, 1] _
    refine sS rfl rfl rfl (mv rfl) ?_
    refine sS rfl rfl rfl (OpS.eq (av' := B false) (opS_lt rfl rfl) (B_congr (by decide))) ?_
    refine AR.nil ?_
    show AW _ _ _ _ _ _
    refine AW.cond rfl (fun hx => bool_no hx rfl) (fun _ => ?_)
    refine AW.exit ?_
    exact Exists.intro (y92, t93, y163, t164, y234, t235, y305, t306, y378, t379, y94, y165, y236, y307, y380) ⟨H, WK.at [0, 0, 0, 0, 0, 0, 0] (.cons (.refl _) (.cons (.refl _) (.nil _))) rfl⟩
   rintro ⟨y382, t383, y384, t385, y386, t387, y388, t389, y390, t391, y392, y393, y394, y395, y396⟩ H
   replace H : ref05_Parse_j1 y382 y384 y386 y388 y390 y392 y393 y394 y395 y396 = some (r2, r3, r4, r5, r6, r7, r8, r9, r10, r11, r12) := H
   unfold ref05_Parse_j1 at H
   show AW _ _ _ _ _ _
   refine AW.seq ?_
   refine AW.region ?_
   show AR _ _ _ _ _ [0, 1, 2] _
   refine sR rfl rfl rfl (opR_load_agg (i := 0) (n := 10) Tryz.underlying27 rfl (by kernel_rfl) rfl rfl (Nat.le_of_ble_eq_true rfl)) ?_
   refine s0 rfl rfl (opR_store_agg (i := 1) (vs := [slE Enc.int y382 (some t383), slE Enc.int y384 (some t385), slE Enc.int y386 (some t387), slE Enc.int y388 (some t389), slE Enc.int y390 (some t391), B y392, B y393, B y394, B y395, B y396]) (by kernel_rfl) rfl rfl (by simp [isCell, slE]) rfl (Nat.le_of_ble_eq_true rfl)) ?_
   refine sS rfl rfl rfl (asg rfl) ?_
   refine AR.nil ?_
   show AW _ _ _ _ _ _
   refine AW.ret ?_
   obtain ⟨rfl, rfl, rfl, rfl, rfl, rfl, rfl, rfl, rfl, rfl, rfl⟩ := res11 H
   exact And.intro rfl (Exists.intro _ (Exists.intro _ ⟨ResT.resV (ResT.place2 rfl (CellV.aggW (cs := [slE Enc.int y382 (some t383), slE Enc.int y384 (some t385), slE Enc.int y386 (some t387), slE Enc.int y388 (some t389), slE Enc.int y390 (some t391), B y392, B y393, B y394, B y395, B y396]) (CellV.agg (off := 0) (cs := [slE Enc.int y382 (some t383), slE Enc.int y384 (some t385), slE Enc.int y386 (some t387), slE Enc.int y388 (some t389), slE Enc.int y390 (some t391), B y392, B y393, B y394, B y395, B y396]) (n := 10) 1 Tryz.underlying27 rfl (by kernel_rfl) rfl rfl (Nat.le_of_ble_eq_true rfl)) (.cons (.tok _ _ _) (.cons (.tok _ _ _) (.cons (.tok _ _ _) (.cons (.tok _ _ _) (.cons (.tok _ _ _) (.cons (.refl _) (.cons (.refl _) (.cons (.refl _) (.cons (.refl _) (.cons (.refl _) (.nil)))))))))))) ((show PlaceV _ _ _ (.tmp _) _ from (.refl _)))), Sub.at [] rfl, rfl, rfl⟩))
end Go.Proofs.YtpbfajkbkomfcaaGreatDoor
