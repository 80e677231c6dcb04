/-
  Texts in one (only what HeadAll needs): HeadRW, LHeadAllP, LHeadAllW, HdSp, HdA, HdD, HdR, HdW, HdL, HdF, HdV, HdB, HdK, HdC, HdAll, AvOpen.
-/
import Derived.Test.YtiahdbdkjjmfiaaDoorZHeadAll3
import Derived.Test.YtiahdbdkjjmfiaaDoorShelf
import Derived.Test.YtiahdbdkjjmfiaaDoorChecked
import Derived.Lib.SplitLaws
import Derived.Lib.IndexMore
import Derived.Lib.TrimByte
import Derived.Laws.RangeString
import Derived.Laws.RangeAny
import Derived.RowKit
import Derived.OpenShut
import Derived.ChangeSlices
import Derived.SliceStrings
set_option linter.unusedVariables false
set_option linter.unusedSimpArgs false
namespace Go.Proofs.YtiahdbdkjjmfiaaDoor
open Go.RowKit Go.Av Go.Pv
theorem en13_headr : ∀ (args : Array Value) (w : World), (callFunc 13 args).run Tryd.prog w = .ok (.enter 13 args) w := fun _ _ => by kernel_rfl
theorem en16_headr : ∀ (args : Array Value) (w : World), (callFunc 16 args).run Tryd.prog w = .ok (.enter 16 args) w := fun _ _ => by kernel_rfl
theorem en17_headr : ∀ (args : Array Value) (w : World), (callFunc 17 args).run Tryd.prog w = .ok (.enter 17 args) w := fun _ _ => by kernel_rfl
theorem en33_headr : ∀ (args : Array Value) (w : World), (callFunc 33 args).run Tryd.prog w = .ok (.enter 33 args) w := fun _ _ => by kernel_rfl
theorem en35_headr : ∀ (args : Array Value) (w : World), (callFunc 35 args).run Tryd.prog w = .ok (.enter 35 args) w := fun _ _ => by kernel_rfl
theorem en36_headr : ∀ (args : Array Value) (w : World), (callFunc 36 args).run Tryd.prog w = .ok (.enter 36 args) w := fun _ _ => by kernel_rfl
theorem en37_headr : ∀ (args : Array Value) (w : World), (callFunc 37 args).run Tryd.prog w = .ok (.enter 37 args) w := fun _ _ => by kernel_rfl
set_option maxRecDepth 100000 in
set_option maxHeartbeats 1000000 in
theorem w_ref05_Split (F : Nat) (a1 : List UInt8) (a2 : UInt8) (r3 : List (List UInt8)) (H : ref05_Split F a1 a2 = some r3) : ACalls Tryd.prog 35 [S a1, u8 a2] [] (Ret (slE Enc.str r3 none) []) := by
 unfold ref05_Split at H
 refine ACalls.of_body Tryd.func35 rfl rfl ?_
 show AW _ _ 35 _ _ _
 refine AW.seq ?_
 refine AW.region ?_
 show AR _ _ _ _ _ [0] _
 refine sS rfl rfl rfl (asg rfl) ?_
 refine AR.nil ?_
 show AW _ _ _ _ _ _
 refine AW.seq ?_
 refine AW.region ?_
 show AR _ _ _ _ _ [0] _
 refine sS rfl rfl rfl (asg rfl) ?_
 refine AR.nil ?_
 show AW _ _ _ _ _ _
 refine AW.nil_grows 5 1 9 rfl fun t4 => ?_
 show AW _ _ _ _ _ ⟨(5, slE Enc.str [] (some t4)) :: _, _, _⟩
 refine AW.seq ?_
 refine AW.region ?_
 show AR _ _ _ _ _ [0] _
 refine sS rfl rfl rfl (asg rfl) ?_
 refine AR.nil ?_
 show AW _ _ _ _ _ _
 refine AW.cut (X := (List (List UInt8)) × Nat) (fun (y30, t31) => ⟨[(5, slE Enc.str y30 (some t31))], [], [.tok t31 9]⟩) (fun (y30, t31) => ref05_Split_j1 y30 = some r3) ?_ ?_
 ·
  refine AW.seq ?_
  refine AW.region ?_
  show AR _ _ _ _ _ [0] _
  refine sS rfl rfl rfl (asg rfl) ?_
  refine AR.nil ?_
  show AW _ _ _ _ _ _
  refine AW.block ?_
  refine AW.loop (X := Nat × (List (List UInt8)) × Nat × Int × Int) (fun (n10, y5, t6, y7, y8) => ⟨[(0, S a1), (1, u8 a2), (5, slE Enc.str y5 (some t6)), (6, i64 y7), (7, i64 y8)], [], [.tok t6 9]⟩) (fun (n10, y5, t6, y7, y8) => ref05_Split_L1 a1 a2 n10 (y5, y7, y8) = some r3) (fun (n10, y5, t6, y7, y8) => n10) (F, [], t4, 0, 0) H (WK.at [0] (.cons (.refl _) (.cons (.refl _) (.cons (.refl _) (.cons (.refl _) (.cons (.refl _) (.nil _)))))) rfl) ?_
  rintro ⟨n10, y5, t6, y7, y8⟩ H
  obtain ⟨n10, rfl, H⟩ := loop_s H
  replace H : ref05_Split_B1 a1 a2 (ref05_Split_L1 a1 a2 n10) y5 y7 y8 = some r3 := H
  unfold ref05_Split_B1 at H
  show AW _ _ _ _ _ _
  refine AW.seq ?_
  refine AW.seq ?_
  refine AW.region ?_
  show AR _ _ _ _ _ [0, 1, 2, 3] _
  refine sS rfl rfl rfl (mv rfl) ?_
  refine sS rfl rfl rfl (mv rfl) ?_
  refine sS rfl rfl rfl (opS_len_str Tryd.underlying9 rfl) ?_
  refine sS rfl rfl rfl (opS_le rfl rfl) ?_
  refine AR.nil ?_
  show AW _ _ _ _ _ _
  refine AW.cond rfl (fun c11 => ?_) (fun c11 => ?_)
  ·replace H := cnd_t c11 H
   refine AW.skip ?_
   show AW _ _ _ _ _ _
   refine AW.cut (X := (List (List UInt8)) × Nat × Int) (fun (y25, t26, y27) => ⟨[(0, S a1), (1, u8 a2), (5, slE Enc.str y25 (some t26)), (6, i64 y27), (7, i64 y8)], [], [.tok t26 9]⟩) (fun (y25, t26, y27) => ref05_Split_j2 y8 (ref05_Split_L1 a1 a2 n10) y25 y27 = some r3) ?_ ?_
   ·
    refine AW.block ?_
    refine AW.seq ?_
    obtain ⟨g13, H⟩ := grdc_s H
    obtain ⟨x14, e15, H⟩ := lt_s H
    refine AW.region ?_
    show AR _ _ _ _ _ [0, 1, 2, 3, 4, 5, 6, 7, 8, 9, 10] _
    refine sS rfl rfl rfl (mv rfl) ?_
    refine sS rfl rfl rfl (mv rfl) ?_
    refine sS rfl rfl rfl (opS_len_str Tryd.underlying9 rfl) ?_
    refine sS rfl rfl rfl (opS_eqi rfl rfl) ?_
    refine sS rfl rfl rfl (mv rfl) ?_
    refine AR.meet (l := []) 24 (B ((decide (y8 = (a1.length : Int))) || (decide (x14 = a2)))) (fun K => ?_) ?_
    ·rcases Bool.eq_false_or_eq_true (decide (y8 = (a1.length : Int))) with h12 | h12
     ·
      refine gF h12 rfl rfl rfl rfl rfl ?_
      refine gF h12 rfl rfl rfl rfl rfl ?_
      refine gF h12 rfl rfl rfl rfl rfl ?_
      refine gF h12 rfl rfl rfl rfl rfl ?_
      refine gF h12 rfl rfl rfl rfl rfl ?_
      refine sS rfl rfl rfl (opS_pick_t (av := .v _) rfl h12 rfl) ?_
      exact K _ 5 _ (B_congr (or_t h12)) rfl rfl
     ·
      refine gT h12 rfl rfl rfl rfl rfl rfl (AO.ops rfl rfl (mv rfl) ?_)
      refine gT h12 rfl rfl rfl rfl rfl rfl (AO.ops rfl rfl (mv rfl) ?_)
      refine gT h12 rfl rfl rfl rfl rfl rfl (AO.ops rfl rfl (g_index_str Tryd.underlying9 rfl rfl (g13 (nf h12)) e15) ?_)
      refine gT h12 rfl rfl rfl rfl rfl rfl (AO.ops rfl rfl (mv rfl) ?_)
      refine gT h12 rfl rfl rfl rfl rfl rfl (AO.ops rfl rfl (g_eq8 (a := x14) (b := a2) rfl rfl) ?_)
      refine sS rfl rfl rfl (opS_pick_f (av := .v _) rfl h12 rfl) ?_
      exact K _ 5 _ (B_congr (or_f h12)) rfl rfl
    refine AR.nil ?_
    show AW _ _ _ _ _ _
    refine AW.cond rfl (fun c16 => ?_) (fun c16 => ?_)
    ·replace H := cnd_t c16 H
     refine AW.seq ?_
     obtain ⟨g17, H⟩ := grd_s H
     obtain ⟨x18, e19, H⟩ := lt_s H
     obtain ⟨g21, H⟩ := grd_s H
     obtain ⟨x22, e23, H⟩ := lt_s H
     refine AW.region ?_
     show AR _ _ _ _ _ [0, 1, 2, 3, 4, 5, 6, 7] _
     refine sS rfl rfl rfl (opS_move (av := slE _ _ _) rfl) ?_
     refine sS rfl rfl rfl (mv rfl) ?_
     refine sS rfl rfl rfl (mv rfl) ?_
     refine sS rfl rfl rfl (mv rfl) ?_
     refine sS rfl rfl rfl (g_slice_str Tryd.underlying9 rfl rfl rfl g17 e19) ?_
     refine sR rfl rfl rfl (opR_buildE (E := Enc.str) (bytes := 16) (xs := [.tmp 29]) (l := ([x18] : List (List UInt8))) Tryd.underlying36 (by kernel_rfl) rfl rfl (by decide) rfl rfl) ?_
     refine sX rfl rfl rfl (g_append (E := Enc.str) (bytes := 16) 0 Tryd.underlying36 Tryd.underlying36 rfl (by kernel_rfl) rfl rfl rfl rfl g21 e23) ?_
     rintro _ _ ⟨t20, rfl, rfl⟩
     refine sS rfl rfl rfl (opS_assign (av := slE _ _ _) rfl) ?_
     refine AR.nil ?_
     show AW _ _ _ _ _ _
     obtain ⟨g24, H⟩ := grd_s H
     refine AW.region ?_
     show AR _ _ _ _ _ [0, 1, 2] _
     refine sS rfl rfl rfl (mv rfl) ?_
     refine sS rfl rfl rfl (g_add rfl rfl g24) ?_
     refine sS rfl rfl rfl (asg rfl) ?_
     refine AR.nil ?_
     exact Exists.intro (x22, t20, y8 + 1) ⟨H, WK.at [0] (.cons (.refl _) (.cons (.refl _) (.cons (.refl _) (.cons (.refl _) (.cons (.refl _) (.nil _)))))) rfl⟩
    ·replace H := cnd_f c16 H
     refine AW.skip ?_
     exact Exists.intro (y5, t6, y7) ⟨H, WK.at [0] (.cons (.refl _) (.cons (.refl _) (.cons (.refl _) (.cons (.refl _) (.cons (.refl _) (.nil _)))))) rfl⟩
   rintro ⟨y25, t26, y27⟩ H
   replace H : ref05_Split_j2 y8 (ref05_Split_L1 a1 a2 n10) y25 y27 = some r3 := H
   unfold ref05_Split_j2 at H
   show AW _ _ _ _ _ _
   obtain ⟨g29, H⟩ := grd_s H
   refine AW.region ?_
   show AR _ _ _ _ _ [0, 1, 2] _
   refine sS rfl rfl rfl (mv rfl) ?_
   refine sS rfl rfl rfl (g_add rfl rfl g29) ?_
   refine sS rfl rfl rfl (asg rfl) ?_
   refine AR.nil ?_
   exact Exists.intro (n10, y25, t26, y27, y8 + 1) ⟨H, Nat.lt_succ_self _, WK.at [0] (.cons (.refl _) (.cons (.refl _) (.cons (.refl _) (.cons (.refl _) (.cons (.refl _) (.nil _)))))) rfl⟩
  ·replace H := cnd_f c11 H
   refine AW.exit ?_
   exact Exists.intro (y5, t6) ⟨H, WK.at [0] (.cons (.refl _) (.nil _)) rfl⟩
 rintro ⟨y30, t31⟩ H
 replace H : ref05_Split_j1 y30 = some r3 := H
 unfold ref05_Split_j1 at H
 show AW _ _ _ _ _ _
 refine AW.seq ?_
 refine AW.region ?_
 show AR _ _ _ _ _ [0, 1] _
 refine sS rfl rfl rfl (opS_move (av := slE _ _ _) rfl) ?_
 refine sS rfl rfl rfl (opS_assign (av := slE _ _ _) rfl) ?_
 refine AR.nil ?_
 show AW _ _ _ _ _ _
 refine AW.ret ?_
 obtain rfl := Option.some.inj H
 exact And.intro rfl (Exists.intro _ (Exists.intro _ ⟨ResV.oneW rfl (.tok _ _ _), Sub.at [] rfl, rfl, rfl⟩))
set_option maxRecDepth 100000 in
set_option maxHeartbeats 1000000 in
theorem w_ref13_Raw (F : Nat) (a1 : List UInt8) (q2 : Option Nat) (r3 : List UInt8) (H : ref13_Raw F a1 = some r3) : ACalls Tryd.prog 37 [slE Enc.byte a1 q2] [] (Ret (S r3) []) := by
 unfold ref13_Raw at H
 refine ACalls.of_body Tryd.func37 rfl rfl ?_
 show AW _ _ 74 _ _ _
 refine AW.seq ?_
 refine AW.region ?_
 show AR _ _ _ _ _ [0] _
 refine sS rfl rfl rfl (asg rfl) ?_
 refine AR.nil ?_
 show AW _ _ _ _ _ _
 refine AW.seq ?_
 refine AW.region ?_
 show AR _ _ _ _ _ [0] _
 refine sS rfl rfl rfl (asg rfl) ?_
 refine AR.nil ?_
 show AW _ _ _ _ _ _
 refine AW.nil_grows 3 1 5 rfl fun t4 => ?_
 show AW _ _ _ _ _ ⟨(3, slE Enc.byte [] (some t4)) :: _, _, _⟩
 refine AW.cut (X := (List UInt8) × Nat) (fun (y77, t78) => ⟨[(3, slE Enc.byte y77 (some t78))], [], [.tok t78 5]⟩) (fun (y77, t78) => ref13_Raw_j1 y77 = some r3) ?_ ?_
 ·
  refine AW.seq ?_
  refine AW.region ?_
  show AR _ _ _ _ _ [0] _
  refine sS rfl rfl rfl (asg rfl) ?_
  refine AR.nil ?_
  show AW _ _ _ _ _ _
  refine AW.block ?_
  refine AW.loop (X := Nat × (List UInt8) × Nat × Int) (fun (n9, y5, t6, y7) => ⟨[(0, slE Enc.byte a1 q2), (3, slE Enc.byte y5 (some t6)), (4, i64 y7)], [], [.tok t6 5]⟩) (fun (n9, y5, t6, y7) => ref13_Raw_L2 F a1 n9 (y5, y7) = some r3) (fun (n9, y5, t6, y7) => n9) (F, [], t4, 0) H (WK.at [0] (.cons (.refl _) (.cons (.refl _) (.cons (.refl _) (.nil _)))) rfl) ?_
  rintro ⟨n9, y5, t6, y7⟩ H
  obtain ⟨n9, rfl, H⟩ := loop_s H
  replace H : ref13_Raw_B2 F a1 (ref13_Raw_L2 F a1 n9) y5 y7 = some r3 := H
  unfold ref13_Raw_B2 at H
  show AW _ _ _ _ _ _
  refine AW.seq ?_
  refine AW.seq ?_
  refine AW.region ?_
  show AR _ _ _ _ _ [0, 1, 2, 3] _
  refine sS rfl rfl rfl (mv rfl) ?_
  refine sS rfl rfl rfl (opS_move (av := slE _ _ _) rfl) ?_
  refine sS rfl rfl rfl (opS_len_sl Tryd.underlying24 rfl) ?_
  refine sS rfl rfl rfl (opS_lt rfl rfl) ?_
  refine AR.nil ?_
  show AW _ _ _ _ _ _
  refine AW.cond rfl (fun c10 => ?_) (fun c10 => ?_)
  ·replace H := cnd_t c10 H
   refine AW.skip ?_
   show AW _ _ _ _ _ _
   refine AW.cut (X := (List UInt8) × Nat) (fun (y73, t74) => ⟨[(0, slE Enc.byte a1 q2), (3, slE Enc.byte y73 (some t74)), (4, i64 y7)], [], [.tok t74 5]⟩) (fun (y73, t74) => ref13_Raw_j2 y7 (ref13_Raw_L2 F a1 n9) y73 = some r3) ?_ ?_
   ·
    refine AW.block ?_
    refine AW.seq ?_
    refine AW.region ?_
    show AR _ _ _ _ _ [0] _
    refine sS rfl rfl rfl (asg rfl) ?_
    refine AR.nil ?_
    show AW _ _ _ _ _ _
    refine AW.cut (X := Int) (fun y26 => ⟨[(0, slE Enc.byte a1 q2), (3, slE Enc.byte y5 (some t6)), (4, i64 y7), (5, i64 y26)], [], [.tok t6 5]⟩) (fun y26 => ref13_Raw_j4 a1 y5 y7 (ref13_Raw_L2 F a1 n9) y26 = some r3) ?_ ?_
    ·
     refine AW.seq ?_
     refine AW.region ?_
     show AR _ _ _ _ _ [0, 1] _
     refine sS rfl rfl rfl (mv rfl) ?_
     refine sS rfl rfl rfl (asg rfl) ?_
     refine AR.nil ?_
     show AW _ _ _ _ _ _
     refine AW.block ?_
     refine AW.loop (X := Nat × Int × Int) (fun (n14, y11, y12) => ⟨[(0, slE Enc.byte a1 q2), (3, slE Enc.byte y5 (some t6)), (4, i64 y7), (5, i64 y11), (6, i64 y12)], [], [.tok t6 5]⟩) (fun (n14, y11, y12) => ref13_Raw_L1 a1 y5 y7 (ref13_Raw_L2 F a1 n9) n14 (y11, y12) = some r3) (fun (n14, y11, y12) => n14) (F, 0, y7) H (WK.at [0] (.cons (.refl _) (.cons (.refl _) (.cons (.refl _) (.cons (.refl _) (.cons (.refl _) (.nil _)))))) rfl) ?_
     rintro ⟨n14, y11, y12⟩ H
     obtain ⟨n14, rfl, H⟩ := loop_s H
     replace H : ref13_Raw_B1 a1 y5 y7 (ref13_Raw_L2 F a1 n9) (ref13_Raw_L1 a1 y5 y7 (ref13_Raw_L2 F a1 n9) n14) y11 y12 = some r3 := H
     unfold ref13_Raw_B1 at H
     show AW _ _ _ _ _ _
     refine AW.seq ?_
     refine AW.seq ?_
     obtain ⟨g15, H⟩ := grd_s H
     refine AW.region ?_
     show AR _ _ _ _ _ [0, 1, 2, 3] _
     refine sS rfl rfl rfl (mv rfl) ?_
     refine sS rfl rfl rfl (mv rfl) ?_
     refine sS rfl rfl rfl (g_add rfl rfl g15) ?_
     refine sS rfl rfl rfl (opS_lt rfl rfl) ?_
     refine AR.nil ?_
     show AW _ _ _ _ _ _
     refine AW.cond rfl (fun c16 => ?_) (fun c16 => ?_)
     ·replace H := cnd_t c16 H
      refine AW.skip ?_
      show AW _ _ _ _ _ _
      refine AW.cut (X := Int) (fun y23 => ⟨[(0, slE Enc.byte a1 q2), (3, slE Enc.byte y5 (some t6)), (4, i64 y7), (5, i64 y23), (6, i64 y12)], [], [.tok t6 5]⟩) (fun y23 => ref13_Raw_j5 y12 (ref13_Raw_L1 a1 y5 y7 (ref13_Raw_L2 F a1 n9) n14) y23 = some r3) ?_ ?_
      ·
       refine AW.block ?_
       refine AW.seq ?_
       obtain ⟨g17, H⟩ := grd_s H
       refine AW.region ?_
       show AR _ _ _ _ _ [0, 1, 2] _
       refine sS rfl rfl rfl (mv rfl) ?_
       refine sS rfl rfl rfl (g_mul rfl rfl g17) ?_
       refine sS rfl rfl rfl (asg rfl) ?_
       refine AR.nil ?_
       show AW _ _ _ _ _ _
       refine AW.seq ?_
       refine AW.region ?_
       show AR _ _ _ _ _ [0, 1, 2, 3] _
       refine sS rfl rfl rfl (mv rfl) ?_
       refine sS rfl rfl rfl (opS_move (av := slE _ _ _) rfl) ?_
       refine sS rfl rfl rfl (opS_len_sl Tryd.underlying24 rfl) ?_
       refine sS rfl rfl rfl (opS_lt rfl rfl) ?_
       refine AR.nil ?_
       show AW _ _ _ _ _ _
       refine AW.cond rfl (fun c18 => ?_) (fun c18 => ?_)
       ·replace H := cnd_t c18 H
        obtain ⟨g19, H⟩ := grd_s H
        obtain ⟨x20, e21, H⟩ := lt_s H
        obtain ⟨g22, H⟩ := grd_s H
        refine AW.region ?_
        show AR _ _ _ _ _ [0, 1, 2, 3, 4, 5, 6, 7] _
        refine sS rfl rfl rfl (mv rfl) ?_
        refine sS rfl rfl rfl (opS_move (av := slE _ _ _) rfl) ?_
        refine sS rfl rfl rfl (mv rfl) ?_
        refine sS rfl rfl rfl (g_indexAddr (E := Enc.byte) Tryd.underlying24 (by kernel_rfl) rfl rfl g19 e21) ?_
        refine sS rfl rfl rfl (opS_load_cp Tryd.underlying5 rfl rfl) ?_
        refine sS rfl rfl rfl (opS_conv_u8 (c := x20) (by kernel_rfl) Tryd.underlying3 rfl) ?_
        refine sS rfl rfl rfl (g_add rfl rfl g22) ?_
        refine sS rfl rfl rfl (asg rfl) ?_
        refine AR.nil ?_
        exact Exists.intro ((256 * y11) + (x20.toNat : Int)) ⟨H, WK.at [0] (.cons (.refl _) (.cons (.refl _) (.cons (.refl _) (.cons (.refl _) (.cons (.refl _) (.nil _)))))) rfl⟩
       ·replace H := cnd_f c18 H
        refine AW.skip ?_
        exact Exists.intro (256 * y11) ⟨H, WK.at [0] (.cons (.refl _) (.cons (.refl _) (.cons (.refl _) (.cons (.refl _) (.cons (.refl _) (.nil _)))))) rfl⟩
      rintro y23 H
      replace H : ref13_Raw_j5 y12 (ref13_Raw_L1 a1 y5 y7 (ref13_Raw_L2 F a1 n9) n14) y23 = some r3 := H
      unfold ref13_Raw_j5 at H
      show AW _ _ _ _ _ _
      obtain ⟨g25, H⟩ := grd_s H
      refine AW.region ?_
      show AR _ _ _ _ _ [0, 1, 2] _
      refine sS rfl rfl rfl (mv rfl) ?_
      refine sS rfl rfl rfl (g_add rfl rfl g25) ?_
      refine sS rfl rfl rfl (asg rfl) ?_
      refine AR.nil ?_
      exact Exists.intro (n14, y23, y12 + 1) ⟨H, Nat.lt_succ_self _, WK.at [0] (.cons (.refl _) (.cons (.refl _) (.cons (.refl _) (.cons (.refl _) (.cons (.refl _) (.nil _)))))) rfl⟩
     ·replace H := cnd_f c16 H
      refine AW.exit ?_
      exact Exists.intro y11 ⟨H, WK.at [0] (.cons (.refl _) (.cons (.refl _) (.cons (.refl _) (.cons (.refl _) (.nil _))))) rfl⟩
    rintro y26 H
    replace H : ref13_Raw_j4 a1 y5 y7 (ref13_Raw_L2 F a1 n9) y26 = some r3 := H
    unfold ref13_Raw_j4 at H
    show AW _ _ _ _ _ _
    refine AW.seq ?_
    obtain ⟨g28, H⟩ := grd_s H
    obtain ⟨g29, H⟩ := grd_s H
    obtain ⟨x30, e31, H⟩ := lt_s H
    obtain ⟨g32, H⟩ := grd_s H
    obtain ⟨g33, H⟩ := grd_s H
    obtain ⟨g34, H⟩ := grd_s H
    obtain ⟨x35, e36, H⟩ := lt_s H
    obtain ⟨g38, H⟩ := grd_s H
    obtain ⟨x39, e40, H⟩ := lt_s H
    refine AW.region_draw (by kernel_rfl) ?_
    show AI _ _ _ _ _ 11 (Array.replicate 11 false) _
    refine AI.take (i := 0) rfl rfl (by kernel_rfl) (by kernel_rfl) (by kernel_rfl) (fun _ _ h => h) (opS_move (av := slE _ _ _) rfl) ?_
    show AI _ _ _ _ _ _ #[true, false, false, false, false, false, false, false, false, false, false] _
    refine AI.take (i := 1) rfl rfl (by kernel_rfl) (by kernel_rfl) (by kernel_rfl) (fun _ _ h => h) (mv rfl) ?_
    show AI _ _ _ _ _ _ #[true, true, false, false, false, false, false, false, false, false, false] _
    refine AI.take (i := 2) rfl rfl (by kernel_rfl) (by kernel_rfl) (by kernel_rfl) (fun _ _ h => h) (g_quo rfl rfl g28) ?_
    show AI _ _ _ _ _ _ #[true, true, true, false, false, false, false, false, false, false, false] _
    refine AI.take (i := 3) rfl rfl (by kernel_rfl) (by kernel_rfl) (by kernel_rfl) (fun _ _ h => h) (g_index_str Tryd.underlying9 rfl rfl g29 e31) ?_
    show AI _ _ _ _ _ _ #[true, true, true, true, false, false, false, false, false, false, false] _
    refine AI.take (i := 4) rfl rfl (by kernel_rfl) (by kernel_rfl) (by kernel_rfl) (fun _ _ h => h) (mv rfl) ?_
    show AI _ _ _ _ _ _ #[true, true, true, true, true, false, false, false, false, false, false] _
    refine AI.take (i := 5) rfl rfl (by kernel_rfl) (by kernel_rfl) (by kernel_rfl) (fun _ _ h => h) (g_quo rfl rfl g32) ?_
    show AI _ _ _ _ _ _ #[true, true, true, true, true, true, false, false, false, false, false] _
    refine AI.take (i := 6) rfl rfl (by kernel_rfl) (by kernel_rfl) (by kernel_rfl) (fun _ _ h => h) (g_rem rfl rfl g33) ?_
    show AI _ _ _ _ _ _ #[true, true, true, true, true, true, true, false, false, false, false] _
    refine AI.take (i := 7) rfl rfl (by kernel_rfl) (by kernel_rfl) (by kernel_rfl) (fun _ _ h => h) (g_index_str Tryd.underlying9 rfl rfl g34 e36) ?_
    show AI _ _ _ _ _ _ #[true, true, true, true, true, true, true, true, false, false, false] _
    refine AI.one (i := 8) (by kernel_rfl) rfl rfl ?_
    refine AIO.op rfl (opR_buildE (E := Enc.byte) (bytes := 1) (xs := [.tmp 36, .tmp 40]) (l := ([x30, x35] : List UInt8)) Tryd.underlying24 (by kernel_rfl) rfl rfl (by decide) rfl rfl) ?_
    show AI _ _ _ _ _ _ #[true, true, true, true, true, true, true, true, true, false, false] _
    refine AI.one (i := 9) (by kernel_rfl) rfl rfl ?_
    refine AIO.opx rfl (g_append (E := Enc.byte) (bytes := 1) 0 Tryd.underlying24 Tryd.underlying24 rfl (by kernel_rfl) rfl rfl rfl rfl g38 e40) ?_
    rintro _ _ ⟨t37, rfl, rfl⟩
    show AI _ _ _ _ _ _ #[true, true, true, true, true, true, true, true, true, true, false] _
    refine AI.take (i := 10) rfl rfl (by kernel_rfl) (by kernel_rfl) (by kernel_rfl) (fun _ _ h => h) (opS_assign (av := slE _ _ _) rfl) ?_
    show AI _ _ _ _ _ _ #[true, true, true, true, true, true, true, true, true, true, true] _
    refine AI.done rfl ?_
    show AW _ _ _ _ _ _
    refine AW.cut (X := (List UInt8) × Nat) (fun (y56, t57) => ⟨[(0, slE Enc.byte a1 q2), (3, slE Enc.byte y56 (some t57)), (4, i64 y7), (5, i64 y26)], [], [.tok t57 5]⟩) (fun (y56, t57) => ref13_Raw_j3 a1 y7 y26 (ref13_Raw_L2 F a1 n9) y56 = some r3) ?_ ?_
    ·
     refine AW.seq ?_
     obtain ⟨g41, H⟩ := grd_s H
     refine AW.region ?_
     show AR _ _ _ _ _ [0, 1, 2, 3, 4] _
     refine sS rfl rfl rfl (mv rfl) ?_
     refine sS rfl rfl rfl (g_add rfl rfl g41) ?_
     refine sS rfl rfl rfl (opS_move (av := slE _ _ _) rfl) ?_
     refine sS rfl rfl rfl (opS_len_sl Tryd.underlying24 rfl) ?_
     refine sS rfl rfl rfl (opS_lt rfl rfl) ?_
     refine AR.nil ?_
     show AW _ _ _ _ _ _
     refine AW.cond rfl (fun c42 => ?_) (fun c42 => ?_)
     ·replace H := cnd_t c42 H
      obtain ⟨g43, H⟩ := grd_s H
      obtain ⟨g44, H⟩ := grd_s H
      obtain ⟨g45, H⟩ := grd_s H
      obtain ⟨x46, e47, H⟩ := lt_s H
      obtain ⟨g49, H⟩ := grd_s H
      obtain ⟨x50, e51, H⟩ := lt_s H
      refine AW.region ?_
      show AR _ _ _ _ _ [0, 1, 2, 3, 4, 5, 6, 7] _
      refine sS rfl rfl rfl (opS_move (av := slE _ _ _) rfl) ?_
      refine sS rfl rfl rfl (mv rfl) ?_
      refine sS rfl rfl rfl (g_quo rfl rfl g43) ?_
      refine sS rfl rfl rfl (g_rem rfl rfl g44) ?_
      refine sS rfl rfl rfl (g_index_str Tryd.underlying9 rfl rfl g45 e47) ?_
      refine sR rfl rfl rfl (opR_buildE (E := Enc.byte) (bytes := 1) (xs := [.tmp 52]) (l := ([x46] : List UInt8)) Tryd.underlying24 (by kernel_rfl) rfl rfl (by decide) rfl rfl) ?_
      refine sX rfl rfl rfl (g_append (E := Enc.byte) (bytes := 1) 0 Tryd.underlying24 Tryd.underlying24 rfl (by kernel_rfl) rfl rfl rfl rfl g49 e51) ?_
      rintro _ _ ⟨t48, rfl, rfl⟩
      refine sS rfl rfl rfl (opS_assign (av := slE _ _ _) rfl) ?_
      refine AR.nil ?_
      exact Exists.intro (x50, t48) ⟨H, WK.at [0] (.cons (.refl _) (.cons (.refl _) (.cons (.refl _) (.cons (.refl _) (.nil _))))) rfl⟩
     ·replace H := cnd_f c42 H
      obtain ⟨g53, H⟩ := grd_s H
      obtain ⟨x54, e55, H⟩ := lt_s H
      refine AW.region ?_
      show AR _ _ _ _ _ [0, 1, 2, 3] _
      refine sS rfl rfl rfl (opS_move (av := slE _ _ _) rfl) ?_
      refine sR rfl rfl rfl (opR_buildE (E := Enc.byte) (bytes := 1) (xs := [.const _]) (l := ([61] : List UInt8)) Tryd.underlying24 (by kernel_rfl) rfl rfl (by decide) rfl rfl) ?_
      refine sX rfl rfl rfl (g_append (E := Enc.byte) (bytes := 1) 0 Tryd.underlying24 Tryd.underlying24 rfl (by kernel_rfl) rfl rfl rfl rfl g53 e55) ?_
      rintro _ _ ⟨t52, rfl, rfl⟩
      refine sS rfl rfl rfl (opS_assign (av := slE _ _ _) rfl) ?_
      refine AR.nil ?_
      exact Exists.intro (x54, t52) ⟨H, WK.at [0] (.cons (.refl _) (.cons (.refl _) (.cons (.refl _) (.cons (.refl _) (.nil _))))) rfl⟩
    rintro ⟨y56, t57⟩ H
    replace H : ref13_Raw_j3 a1 y7 y26 (ref13_Raw_L2 F a1 n9) y56 = some r3 := H
    unfold ref13_Raw_j3 at H
    show AW _ _ _ _ _ _
    refine AW.seq ?_
    obtain ⟨g59, H⟩ := grd_s H
    refine AW.region ?_
    show AR _ _ _ _ _ [0, 1, 2, 3, 4] _
    refine sS rfl rfl rfl (mv rfl) ?_
    refine sS rfl rfl rfl (g_add rfl rfl g59) ?_
    refine sS rfl rfl rfl (opS_move (av := slE _ _ _) rfl) ?_
    refine sS rfl rfl rfl (opS_len_sl Tryd.underlying24 rfl) ?_
    refine sS rfl rfl rfl (opS_lt rfl rfl) ?_
    refine AR.nil ?_
    show AW _ _ _ _ _ _
    refine AW.cond rfl (fun c60 => ?_) (fun c60 => ?_)
    ·replace H := cnd_t c60 H
     obtain ⟨g61, H⟩ := grd_s H
     obtain ⟨g62, H⟩ := grd_s H
     obtain ⟨x63, e64, H⟩ := lt_s H
     obtain ⟨g66, H⟩ := grd_s H
     obtain ⟨x67, e68, H⟩ := lt_s H
     refine AW.region ?_
     show AR _ _ _ _ _ [0, 1, 2, 3, 4, 5, 6] _
     refine sS rfl rfl rfl (opS_move (av := slE _ _ _) rfl) ?_
     refine sS rfl rfl rfl (mv rfl) ?_
     refine sS rfl rfl rfl (g_rem rfl rfl g61) ?_
     refine sS rfl rfl rfl (g_index_str Tryd.underlying9 rfl rfl g62 e64) ?_
     refine sR rfl rfl rfl (opR_buildE (E := Enc.byte) (bytes := 1) (xs := [.tmp 66]) (l := ([x63] : List UInt8)) Tryd.underlying24 (by kernel_rfl) rfl rfl (by decide) rfl rfl) ?_
     refine sX rfl rfl rfl (g_append (E := Enc.byte) (bytes := 1) 0 Tryd.underlying24 Tryd.underlying24 rfl (by kernel_rfl) rfl rfl rfl rfl g66 e68) ?_
     rintro _ _ ⟨t65, rfl, rfl⟩
     refine sS rfl rfl rfl (opS_assign (av := slE _ _ _) rfl) ?_
     refine AR.nil ?_
     exact Exists.intro (x67, t65) ⟨H, WK.at [0] (.cons (.refl _) (.cons (.refl _) (.cons (.refl _) (.nil _)))) rfl⟩
    ·replace H := cnd_f c60 H
     obtain ⟨g70, H⟩ := grd_s H
     obtain ⟨x71, e72, H⟩ := lt_s H
     refine AW.region ?_
     show AR _ _ _ _ _ [0, 1, 2, 3] _
     refine sS rfl rfl rfl (opS_move (av := slE _ _ _) rfl) ?_
     refine sR rfl rfl rfl (opR_buildE (E := Enc.byte) (bytes := 1) (xs := [.const _]) (l := ([61] : List UInt8)) Tryd.underlying24 (by kernel_rfl) rfl rfl (by decide) rfl rfl) ?_
     refine sX rfl rfl rfl (g_append (E := Enc.byte) (bytes := 1) 0 Tryd.underlying24 Tryd.underlying24 rfl (by kernel_rfl) rfl rfl rfl rfl g70 e72) ?_
     rintro _ _ ⟨t69, rfl, rfl⟩
     refine sS rfl rfl rfl (opS_assign (av := slE _ _ _) rfl) ?_
     refine AR.nil ?_
     exact Exists.intro (x71, t69) ⟨H, WK.at [0] (.cons (.refl _) (.cons (.refl _) (.cons (.refl _) (.nil _)))) rfl⟩
   rintro ⟨y73, t74⟩ H
   replace H : ref13_Raw_j2 y7 (ref13_Raw_L2 F a1 n9) y73 = some r3 := H
   unfold ref13_Raw_j2 at H
   show AW _ _ _ _ _ _
   obtain ⟨g76, H⟩ := grd_s H
   refine AW.region ?_
   show AR _ _ _ _ _ [0, 1, 2] _
   refine sS rfl rfl rfl (mv rfl) ?_
   refine sS rfl rfl rfl (g_add rfl rfl g76) ?_
   refine sS rfl rfl rfl (asg rfl) ?_
   refine AR.nil ?_
   exact Exists.intro (n9, y73, t74, y7 + 3) ⟨H, Nat.lt_succ_self _, WK.at [0] (.cons (.refl _) (.cons (.refl _) (.cons (.refl _) (.nil _)))) rfl⟩
  ·replace H := cnd_f c10 H
   refine AW.exit ?_
   exact Exists.intro (y5, t6) ⟨H, WK.at [0] (.cons (.refl _) (.nil _)) rfl⟩
 rintro ⟨y77, t78⟩ H
 replace H : ref13_Raw_j1 y77 = some r3 := H
 unfold ref13_Raw_j1 at H
 show AW _ _ _ _ _ _
 refine AW.seq ?_
 refine AW.region ?_
 show AR _ _ _ _ _ [0, 1, 2] _
 refine sS rfl rfl rfl (opS_move (av := slE _ _ _) rfl) ?_
 refine sS rfl rfl rfl (opS_conv_bytes_str Tryd.underlying24 Tryd.underlying5 Tryd.underlying9 rfl) ?_
 refine sS rfl rfl rfl (asg rfl) ?_
 refine AR.nil ?_
 show AW _ _ _ _ _ _
 refine AW.ret ?_
 obtain rfl := Option.some.inj H
 exact And.intro rfl (Exists.intro _ (Exists.intro _ ⟨ResV.oneW rfl (.refl _), Sub.at [] rfl, rfl, rfl⟩))
set_option maxRecDepth 100000 in
set_option maxHeartbeats 1000000 in
theorem w_ref14_Name (F : Nat) (a1 : List UInt8) (r2 : Bool) (H : ref14_Name F a1 = some r2) : ACalls Tryd.prog 33 [S a1] [] (Ret (B r2) []) := by
 unfold ref14_Name at H
 refine ACalls.of_body Tryd.func33 rfl rfl ?_
 show AW _ _ 49 _ _ _
 refine AW.seq ?_
 refine AW.region ?_
 show AR _ _ _ _ _ [0] _
 refine sS rfl rfl rfl (asg rfl) ?_
 refine AR.nil ?_
 show AW _ _ _ _ _ _
 refine AW.cut (X := Unit) (fun _ => ⟨[(0, S a1)], [], []⟩) (fun _ => ref14_Name_j1 a1 = some r2) ?_ ?_
 ·
  refine AW.seq ?_
  refine AW.region ?_
  show AR _ _ _ _ _ [0] _
  refine sS rfl rfl rfl (asg rfl) ?_
  refine AR.nil ?_
  show AW _ _ _ _ _ _
  refine AW.block ?_
  refine AW.loop (X := Nat × Int) (fun (n5, y3) => ⟨[(0, S a1), (3, i64 y3)], [], []⟩) (fun (n5, y3) => ref14_Name_L1 a1 n5 y3 = some r2) (fun (n5, y3) => n5) (F, 0) H (WK.at [] (.cons (.refl _) (.cons (.refl _) (.nil _))) rfl) ?_
  rintro ⟨n5, y3⟩ H
  obtain ⟨n5, rfl, H⟩ := loop_s H
  replace H : ref14_Name_B1 a1 (ref14_Name_L1 a1 n5) y3 = some r2 := H
  unfold ref14_Name_B1 at H
  show AW _ _ _ _ _ _
  refine AW.seq ?_
  refine AW.seq ?_
  refine AW.region ?_
  show AR _ _ _ _ _ [0, 1, 2, 3] _
  refine sS rfl rfl rfl (mv rfl) ?_
  refine sS rfl rfl rfl (mv rfl) ?_
  refine sS rfl rfl rfl (opS_len_str Tryd.underlying9 rfl) ?_
  refine sS rfl rfl rfl (opS_lt rfl rfl) ?_
  refine AR.nil ?_
  show AW _ _ _ _ _ _
  refine AW.cond rfl (fun c6 => ?_) (fun c6 => ?_)
  ·replace H := cnd_t c6 H
   refine AW.skip ?_
   show AW _ _ _ _ _ _
   refine AW.seq ?_
   refine AW.block ?_
   refine AW.seq ?_
   obtain ⟨g7, H⟩ := grd_s H
   obtain ⟨x8, e9, H⟩ := lt_s H
   refine AW.region ?_
   show AR _ _ _ _ _ [0, 1, 2, 3] _
   refine sS rfl rfl rfl (mv rfl) ?_
   refine sS rfl rfl rfl (mv rfl) ?_
   refine sS rfl rfl rfl (g_index_str Tryd.underlying9 rfl rfl g7 e9) ?_
   refine sS rfl rfl rfl (asg rfl) ?_
   refine AR.nil ?_
   show AW _ _ _ _ _ _
   refine AW.seq ?_
   refine AW.region ?_
   show AR _ _ _ _ _ [0, 1, 2, 3, 4, 5, 6, 7, 8, 9, 10, 11, 12, 13, 14, 15, 16, 17, 18, 19, 20, 21, 22, 23, 24, 25, 26] _
   refine sS rfl rfl rfl (mv rfl) ?_
   refine sS rfl rfl rfl (opS_ge rfl rfl) ?_
   refine sS rfl rfl rfl (mv rfl) ?_
   refine AR.meet (l := [6, 7, 8, 9, 10, 11, 12, 13, 14, 15, 16, 17, 18, 19, 20, 21, 22, 23, 24, 25, 26]) 19 (B ((decide (97 ≤ (x8.toNat : Int))) && (decide ((x8.toNat : Int) ≤ 122)))) (fun K => ?_) ?_
   ·rcases Bool.eq_false_or_eq_true (decide (97 ≤ (x8.toNat : Int))) with h10 | h10
    ·
     refine gT h10 rfl rfl rfl rfl rfl rfl (AO.ops rfl rfl (mv rfl) ?_)
     refine gT h10 rfl rfl rfl rfl rfl rfl (AO.ops rfl rfl (opS_le rfl rfl) ?_)
     refine sS rfl rfl rfl (opS_pick_t (av := .v _) rfl h10 rfl) ?_
     exact K _ 2 _ (B_congr (and_t h10)) rfl rfl
    ·
     refine gF h10 rfl rfl rfl rfl rfl ?_
     refine gF h10 rfl rfl rfl rfl rfl ?_
     refine sS rfl rfl rfl (opS_pick_f (av := .v _) rfl h10 rfl) ?_
     exact K _ 2 _ (B_congr (and_f h10)) rfl rfl
   refine sS rfl rfl rfl (mv rfl) ?_
   refine AR.meet (l := [14, 15, 16, 17, 18, 19, 20, 21, 22, 23, 24, 25, 26]) 27 (B (((decide (97 ≤ (x8.toNat : Int))) && (decide ((x8.toNat : Int) ≤ 122))) || ((decide (65 ≤ (x8.toNat : Int))) && (decide ((x8.toNat : Int) ≤ 90))))) (fun K => ?_) ?_
   ·rcases Bool.eq_false_or_eq_true ((decide (97 ≤ (x8.toNat : Int))) && (decide ((x8.toNat : Int) ≤ 122))) with h11 | h11
    ·
     refine gF h11 rfl rfl rfl rfl rfl ?_
     refine gF h11 rfl rfl rfl rfl rfl ?_
     refine gF h11 rfl rfl rfl rfl rfl ?_
     refine gU rfl rfl rfl rfl rfl ?_
     refine gU rfl rfl rfl rfl rfl ?_
     refine gF h11 rfl rfl rfl rfl rfl ?_
     refine sS rfl rfl rfl (opS_pick_t (av := .v _) rfl h11 rfl) ?_
     exact K _ 6 _ (B_congr (or_t h11)) rfl rfl
    ·
     refine gT h11 rfl rfl rfl rfl rfl rfl (AO.ops rfl rfl (mv rfl) ?_)
     refine gT h11 rfl rfl rfl rfl rfl rfl (AO.ops rfl rfl (opS_ge rfl rfl) ?_)
     refine gT h11 rfl rfl rfl rfl rfl rfl (AO.ops rfl rfl (mv rfl) ?_)
     refine AR.meet (l := [13, 14, 15, 16, 17, 18, 19, 20, 21, 22, 23, 24, 25, 26]) 26 (B ((decide (65 ≤ (x8.toNat : Int))) && (decide ((x8.toNat : Int) ≤ 90)))) (fun K => ?_) ?_
     ·rcases Bool.eq_false_or_eq_true (decide (65 ≤ (x8.toNat : Int))) with h12 | h12
      ·
       refine gT h12 rfl rfl rfl rfl rfl rfl (AO.ops rfl rfl (mv rfl) ?_)
       refine gT h12 rfl rfl rfl rfl rfl rfl (AO.ops rfl rfl (opS_le rfl rfl) ?_)
       refine gT h11 rfl rfl rfl rfl rfl rfl (AO.ops rfl rfl (opS_pick_t (av := .v _) rfl h12 rfl) ?_)
       exact K _ 2 _ (B_congr (and_t h12)) rfl rfl
      ·
       refine gF h12 rfl rfl rfl rfl rfl ?_
       refine gF h12 rfl rfl rfl rfl rfl ?_
       refine gT h11 rfl rfl rfl rfl rfl rfl (AO.ops rfl rfl (opS_pick_f (av := .v _) rfl h12 rfl) ?_)
       exact K _ 2 _ (B_congr (and_f h12)) rfl rfl
     refine sS rfl rfl rfl (opS_pick_f (av := .v _) rfl h11 rfl) ?_
     exact K _ 4 _ (B_congr (or_f h11)) rfl rfl
   refine sS rfl rfl rfl (mv rfl) ?_
   refine AR.meet (l := [22, 23, 24, 25, 26]) 35 (B ((((decide (97 ≤ (x8.toNat : Int))) && (decide ((x8.toNat : Int) ≤ 122))) || ((decide (65 ≤ (x8.toNat : Int))) && (decide ((x8.toNat : Int) ≤ 90)))) || ((decide (48 ≤ (x8.toNat : Int))) && (decide ((x8.toNat : Int) ≤ 57))))) (fun K => ?_) ?_
   ·rcases Bool.eq_false_or_eq_true (((decide (97 ≤ (x8.toNat : Int))) && (decide ((x8.toNat : Int) ≤ 122))) || ((decide (65 ≤ (x8.toNat : Int))) && (decide ((x8.toNat : Int) ≤ 90)))) with h13 | h13
    ·
     refine gF h13 rfl rfl rfl rfl rfl ?_
     refine gF h13 rfl rfl rfl rfl rfl ?_
     refine gF h13 rfl rfl rfl rfl rfl ?_
     refine gU rfl rfl rfl rfl rfl ?_
     refine gU rfl rfl rfl rfl rfl ?_
     refine gF h13 rfl rfl rfl rfl rfl ?_
     refine sS rfl rfl rfl (opS_pick_t (av := .v _) rfl h13 rfl) ?_
     exact K _ 6 _ (B_congr (or_t h13)) rfl rfl
    ·
     refine gT h13 rfl rfl rfl rfl rfl rfl (AO.ops rfl rfl (mv rfl) ?_)
     refine gT h13 rfl rfl rfl rfl rfl rfl (AO.ops rfl rfl (opS_ge rfl rfl) ?_)
     refine gT h13 rfl rfl rfl rfl rfl rfl (AO.ops rfl rfl (mv rfl) ?_)
     refine AR.meet (l := [21, 22, 23, 24, 25, 26]) 34 (B ((decide (48 ≤ (x8.toNat : Int))) && (decide ((x8.toNat : Int) ≤ 57)))) (fun K => ?_) ?_
     ·rcases Bool.eq_false_or_eq_true (decide (48 ≤ (x8.toNat : Int))) with h14 | h14
      ·
       refine gT h14 rfl rfl rfl rfl rfl rfl (AO.ops rfl rfl (mv rfl) ?_)
       refine gT h14 rfl rfl rfl rfl rfl rfl (AO.ops rfl rfl (opS_le rfl rfl) ?_)
       refine gT h13 rfl rfl rfl rfl rfl rfl (AO.ops rfl rfl (opS_pick_t (av := .v _) rfl h14 rfl) ?_)
       exact K _ 2 _ (B_congr (and_t h14)) rfl rfl
      ·
       refine gF h14 rfl rfl rfl rfl rfl ?_
       refine gF h14 rfl rfl rfl rfl rfl ?_
       refine gT h13 rfl rfl rfl rfl rfl rfl (AO.ops rfl rfl (opS_pick_f (av := .v _) rfl h14 rfl) ?_)
       exact K _ 2 _ (B_congr (and_f h14)) rfl rfl
     refine sS rfl rfl rfl (opS_pick_f (av := .v _) rfl h13 rfl) ?_
     exact K _ 4 _ (B_congr (or_f h13)) rfl rfl
   refine sS rfl rfl rfl (mv rfl) ?_
   refine AR.meet (l := [26]) 39 (B (((((decide (97 ≤ (x8.toNat : Int))) && (decide ((x8.toNat : Int) ≤ 122))) || ((decide (65 ≤ (x8.toNat : Int))) && (decide ((x8.toNat : Int) ≤ 90)))) || ((decide (48 ≤ (x8.toNat : Int))) && (decide ((x8.toNat : Int) ≤ 57)))) || (decide (x8 = 45)))) (fun K => ?_) ?_
   ·rcases Bool.eq_false_or_eq_true ((((decide (97 ≤ (x8.toNat : Int))) && (decide ((x8.toNat : Int) ≤ 122))) || ((decide (65 ≤ (x8.toNat : Int))) && (decide ((x8.toNat : Int) ≤ 90)))) || ((decide (48 ≤ (x8.toNat : Int))) && (decide ((x8.toNat : Int) ≤ 57)))) with h15 | h15
    ·
     refine gF h15 rfl rfl rfl rfl rfl ?_
     refine gF h15 rfl rfl rfl rfl rfl ?_
     refine sS rfl rfl rfl (opS_pick_t (av := .v _) rfl h15 rfl) ?_
     exact K _ 2 _ (B_congr (or_t h15)) rfl rfl
    ·
     refine gT h15 rfl rfl rfl rfl rfl rfl (AO.ops rfl rfl (mv rfl) ?_)
     refine gT h15 rfl rfl rfl rfl rfl rfl (AO.ops rfl rfl (g_eq8 (a := x8) (b := 45) rfl rfl) ?_)
     refine sS rfl rfl rfl (opS_pick_f (av := .v _) rfl h15 rfl) ?_
     exact K _ 2 _ (B_congr (or_f h15)) rfl rfl
   refine sS rfl rfl rfl (opS_not rfl) ?_
   refine AR.nil ?_
   show AW _ _ _ _ _ _
   refine AW.cond rfl (fun c16 => ?_) (fun c16 => ?_)
   ·replace H := cnd_t c16 H
    refine AW.seq ?_
    refine AW.region ?_
    show AR _ _ _ _ _ [0] _
    refine sS rfl rfl rfl (asg rfl) ?_
    refine AR.nil ?_
    show AW _ _ _ _ _ _
    refine AW.ret ?_
    obtain rfl := Option.some.inj H
    exact And.intro rfl (Exists.intro _ (Exists.intro _ ⟨ResV.oneW rfl (.refl _), Sub.at [] rfl, rfl, rfl⟩))
   ·replace H := cnd_f c16 H
    refine AW.skip ?_
    show AW _ _ _ _ _ _
    obtain ⟨g17, H⟩ := grd_s H
    refine AW.region ?_
    show AR _ _ _ _ _ [0, 1, 2] _
    refine sS rfl rfl rfl (mv rfl) ?_
    refine sS rfl rfl rfl (g_add rfl rfl g17) ?_
    refine sS rfl rfl rfl (asg rfl) ?_
    refine AR.nil ?_
    exact Exists.intro (n5, y3 + 1) ⟨H, Nat.lt_succ_self _, WK.at [] (.cons (.refl _) (.cons (.refl _) (.nil _))) rfl⟩
  ·replace H := cnd_f c6 H
   refine AW.exit ?_
   exact Exists.intro () ⟨H, WK.at [] (.cons (.refl _) (.nil _)) rfl⟩
 rintro _ H
 replace H : ref14_Name_j1 a1 = some r2 := H
 unfold ref14_Name_j1 at H
 show AW _ _ _ _ _ _
 refine AW.seq ?_
 refine AW.region ?_
 show AR _ _ _ _ _ [0, 1, 2, 3, 4, 5, 6, 7, 8] _
 refine sS rfl rfl rfl (mv rfl) ?_
 refine sS rfl rfl rfl (opS_len_str Tryd.underlying9 rfl) ?_
 refine sS rfl rfl rfl (opS_ge rfl rfl) ?_
 refine sS rfl rfl rfl (mv rfl) ?_
 refine AR.meet (l := [8]) 48 (B ((decide (1 ≤ (a1.length : Int))) && (decide ((a1.length : Int) ≤ 40)))) (fun K => ?_) ?_
 ·rcases Bool.eq_false_or_eq_true (decide (1 ≤ (a1.length : Int))) with h19 | h19
  ·
   refine gT h19 rfl rfl rfl rfl rfl rfl (AO.ops rfl rfl (mv rfl) ?_)
   refine gT h19 rfl rfl rfl rfl rfl rfl (AO.ops rfl rfl (opS_len_str Tryd.underlying9 rfl) ?_)
   refine gT h19 rfl rfl rfl rfl rfl rfl (AO.ops rfl rfl (opS_le rfl rfl) ?_)
   refine sS rfl rfl rfl (opS_pick_t (av := .v _) rfl h19 rfl) ?_
   exact K _ 3 _ (B_congr (and_t h19)) rfl rfl
  ·
   refine gF h19 rfl rfl rfl rfl rfl ?_
   refine gF h19 rfl rfl rfl rfl rfl ?_
   refine gF h19 rfl rfl rfl rfl rfl ?_
   refine sS rfl rfl rfl (opS_pick_f (av := .v _) rfl h19 rfl) ?_
   exact K _ 3 _ (B_congr (and_f h19)) rfl rfl
 refine sS rfl rfl rfl (asg rfl) ?_
 refine AR.nil ?_
 show AW _ _ _ _ _ _
 refine AW.ret ?_
 obtain rfl := Option.some.inj H
 exact And.intro rfl (Exists.intro _ (Exists.intro _ ⟨ResV.oneW rfl (.refl _), Sub.at [] rfl, rfl, rfl⟩))
set_option maxRecDepth 100000 in
set_option maxHeartbeats 1000000 in
theorem w_ref14_Plain (F : Nat) (a1 : List UInt8) (r2 : Bool) (H : ref14_Plain F a1 = some r2) : ACalls Tryd.prog 17 [S a1] [] (Ret (B r2) []) := by
 unfold ref14_Plain at H
 refine ACalls.of_body Tryd.func17 rfl rfl ?_
 show AW _ _ 64 _ _ _
 refine AW.seq ?_
 refine AW.region ?_
 show AR _ _ _ _ _ [0] _
 refine sS rfl rfl rfl (asg rfl) ?_
 refine AR.nil ?_
 show AW _ _ _ _ _ _
 refine AW.cut (X := Unit) (fun _ => ⟨[(0, S a1)], [], []⟩) (fun _ => ref14_Plain_j1 a1 = some r2) ?_ ?_
 ·
  refine AW.seq ?_
  refine AW.region ?_
  show AR _ _ _ _ _ [0] _
  refine sS rfl rfl rfl (asg rfl) ?_
  refine AR.nil ?_
  show AW _ _ _ _ _ _
  refine AW.block ?_
  refine AW.loop (X := Nat × Int) (fun (n5, y3) => ⟨[(0, S a1), (3, i64 y3)], [], []⟩) (fun (n5, y3) => ref14_Plain_L1 a1 n5 y3 = some r2) (fun (n5, y3) => n5) (F, 0) H (WK.at [] (.cons (.refl _) (.cons (.refl _) (.nil _))) rfl) ?_
  rintro ⟨n5, y3⟩ H
  obtain ⟨n5, rfl, H⟩ := loop_s H
  replace H : ref14_Plain_B1 a1 (ref14_Plain_L1 a1 n5) y3 = some r2 := H
  unfold ref14_Plain_B1 at H
  show AW _ _ _ _ _ _
  refine AW.seq ?_
  refine AW.seq ?_
  refine AW.region ?_
  show AR _ _ _ _ _ [0, 1, 2, 3] _
  refine sS rfl rfl rfl (mv rfl) ?_
  refine sS rfl rfl rfl (mv rfl) ?_
  refine sS rfl rfl rfl (opS_len_str Tryd.underlying9 rfl) ?_
  refine sS rfl rfl rfl (opS_lt rfl rfl) ?_
  refine AR.nil ?_
  show AW _ _ _ _ _ _
  refine AW.cond rfl (fun c6 => ?_) (fun c6 => ?_)
  ·replace H := cnd_t c6 H
   refine AW.skip ?_
   show AW _ _ _ _ _ _
   refine AW.seq ?_
   refine AW.block ?_
   refine AW.seq ?_
   refine AW.seq ?_
   obtain ⟨g7, H⟩ := grd_s H
   obtain ⟨x8, e9, H⟩ := lt_s H
   obtain ⟨g11, H⟩ := grdc_s H
   obtain ⟨x12, e13, H⟩ := lt_s H
   refine AW.region ?_
   show AR _ _ _ _ _ [0, 1, 2, 3, 4, 5, 6, 7, 8, 9] _
   refine sS rfl rfl rfl (mv rfl) ?_
   refine sS rfl rfl rfl (mv rfl) ?_
   refine sS rfl rfl rfl (g_index_str Tryd.underlying9 rfl rfl g7 e9) ?_
   refine sS rfl rfl rfl (opS_lt rfl rfl) ?_
   refine sS rfl rfl rfl (mv rfl) ?_
   refine AR.meet (l := []) 19 (B ((decide ((x8.toNat : Int) < 32)) || (decide (126 < (x12.toNat : Int))))) (fun K => ?_) ?_
   ·rcases Bool.eq_false_or_eq_true (decide ((x8.toNat : Int) < 32)) with h10 | h10
    ·
     refine gF h10 rfl rfl rfl rfl rfl ?_
     refine gF h10 rfl rfl rfl rfl rfl ?_
     refine gF h10 rfl rfl rfl rfl rfl ?_
     refine gF h10 rfl rfl rfl rfl rfl ?_
     refine sS rfl rfl rfl (opS_pick_t (av := .v _) rfl h10 rfl) ?_
     exact K _ 4 _ (B_congr (or_t h10)) rfl rfl
    ·
     refine gT h10 rfl rfl rfl rfl rfl rfl (AO.ops rfl rfl (mv rfl) ?_)
     refine gT h10 rfl rfl rfl rfl rfl rfl (AO.ops rfl rfl (mv rfl) ?_)
     refine gT h10 rfl rfl rfl rfl rfl rfl (AO.ops rfl rfl (g_index_str Tryd.underlying9 rfl rfl (g11 (nf h10)) e13) ?_)
     refine gT h10 rfl rfl rfl rfl rfl rfl (AO.ops rfl rfl (opS_gt rfl rfl) ?_)
     refine sS rfl rfl rfl (opS_pick_f (av := .v _) rfl h10 rfl) ?_
     exact K _ 4 _ (B_congr (or_f h10)) rfl rfl
   refine AR.nil ?_
   show AW _ _ _ _ _ _
   refine AW.cond rfl (fun c14 => ?_) (fun c14 => ?_)
   ·replace H := cnd_t c14 H
    refine AW.seq ?_
    refine AW.region ?_
    show AR _ _ _ _ _ [0] _
    refine sS rfl rfl rfl (asg rfl) ?_
    refine AR.nil ?_
    show AW _ _ _ _ _ _
    refine AW.ret ?_
    obtain rfl := Option.some.inj H
    exact And.intro rfl (Exists.intro _ (Exists.intro _ ⟨ResV.oneW rfl (.refl _), Sub.at [] rfl, rfl, rfl⟩))
   ·replace H := cnd_f c14 H
    refine AW.skip ?_
    show AW _ _ _ _ _ _
    refine AW.seq ?_
    obtain ⟨g16, H⟩ := grdc_s H
    obtain ⟨x17, e18, H⟩ := lt_s H
    obtain ⟨g20, H⟩ := grdc_s H
    obtain ⟨g21, H⟩ := grdc_s H
    obtain ⟨x22, e23, H⟩ := lt_s H
    obtain ⟨g25, H⟩ := grdc_s H
    obtain ⟨x26, e27, H⟩ := lt_s H
    obtain ⟨g29, H⟩ := grdc_s H
    obtain ⟨g30, H⟩ := grdc_s H
    obtain ⟨x31, e32, H⟩ := lt_s H
    refine AW.region ?_
    show AR _ _ _ _ _ [0, 1, 2, 3, 4, 5, 6, 7, 8, 9, 10, 11, 12, 13, 14, 15, 16, 17, 18, 19, 20, 21, 22, 23, 24, 25, 26, 27] _
    refine sS rfl rfl rfl (mv rfl) ?_
    refine sS rfl rfl rfl (opS_gt rfl rfl) ?_
    refine sS rfl rfl rfl (mv rfl) ?_
    refine AR.meet (l := []) 47 (B ((decide (0 < y3)) && (((decide (x17 = 32)) && (decide (x22 = 32))) || ((decide (x26 = 63)) && (decide (x31 = 61)))))) (fun K => ?_) ?_
    ·rcases Bool.eq_false_or_eq_true (decide (0 < y3)) with h15 | h15
     ·
      refine gT h15 rfl rfl rfl rfl rfl rfl (AO.ops rfl rfl (mv rfl) ?_)
      refine gT h15 rfl rfl rfl rfl rfl rfl (AO.ops rfl rfl (mv rfl) ?_)
      refine gT h15 rfl rfl rfl rfl rfl rfl (AO.ops rfl rfl (g_index_str Tryd.underlying9 rfl rfl (g16 h15) e18) ?_)
      refine gT h15 rfl rfl rfl rfl rfl rfl (AO.ops rfl rfl (g_eq8 (a := x17) (b := 32) rfl rfl) ?_)
      refine gT h15 rfl rfl rfl rfl rfl rfl (AO.ops rfl rfl (mv rfl) ?_)
      refine AR.meet (l := [14, 15, 16, 17, 18, 19, 20, 21, 22, 23, 24, 25, 26, 27]) 33 (B ((decide (x17 = 32)) && (decide (x22 = 32)))) (fun K => ?_) ?_
      ·rcases Bool.eq_false_or_eq_true (decide (x17 = 32)) with h19 | h19
       ·
        refine gT h19 rfl rfl rfl rfl rfl rfl (AO.ops rfl rfl (mv rfl) ?_)
        refine gT h19 rfl rfl rfl rfl rfl rfl (AO.ops rfl rfl (mv rfl) ?_)
        refine gT h19 rfl rfl rfl rfl rfl rfl (AO.ops rfl rfl (g_sub rfl rfl (g20 (and_tt h15 h19))) ?_)
        refine gT h19 rfl rfl rfl rfl rfl rfl (AO.ops rfl rfl (g_index_str Tryd.underlying9 rfl rfl (g21 (and_tt h15 h19)) e23) ?_)
        refine gT h19 rfl rfl rfl rfl rfl rfl (AO.ops rfl rfl (g_eq8 (a := x22) (b := 32) rfl rfl) ?_)
        refine gT h15 rfl rfl rfl rfl rfl rfl (AO.ops rfl rfl (opS_pick_t (av := .v _) rfl h19 rfl) ?_)
        exact K _ 5 _ (B_congr (and_t h19)) rfl rfl
       ·
        refine gF h19 rfl rfl rfl rfl rfl ?_
        refine gF h19 rfl rfl rfl rfl rfl ?_
        refine gF h19 rfl rfl rfl rfl rfl ?_
        refine gF h19 rfl rfl rfl rfl rfl ?_
        refine gF h19 rfl rfl rfl rfl rfl ?_
        refine gT h15 rfl rfl rfl rfl rfl rfl (AO.ops rfl rfl (opS_pick_f (av := .v _) rfl h19 rfl) ?_)
        exact K _ 5 _ (B_congr (and_f h19)) rfl rfl
      refine gT h15 rfl rfl rfl rfl rfl rfl (AO.ops rfl rfl (mv rfl) ?_)
      refine AR.meet (l := [27]) 46 (B (((decide (x17 = 32)) && (decide (x22 = 32))) || ((decide (x26 = 63)) && (decide (x31 = 61))))) (fun K => ?_) ?_
      ·rcases Bool.eq_false_or_eq_true ((decide (x17 = 32)) && (decide (x22 = 32))) with h24 | h24
       ·
        refine gF h24 rfl rfl rfl rfl rfl ?_
        refine gF h24 rfl rfl rfl rfl rfl ?_
        refine gF h24 rfl rfl rfl rfl rfl ?_
        refine gF h24 rfl rfl rfl rfl rfl ?_
        refine gF h24 rfl rfl rfl rfl rfl ?_
        refine gU rfl rfl rfl rfl rfl ?_
        refine gU rfl rfl rfl rfl rfl ?_
        refine gU rfl rfl rfl rfl rfl ?_
        refine gU rfl rfl rfl rfl rfl ?_
        refine gU rfl rfl rfl rfl rfl ?_
        refine gF h24 rfl rfl rfl rfl rfl ?_
        refine gT h15 rfl rfl rfl rfl rfl rfl (AO.ops rfl rfl (opS_pick_t (av := .v _) rfl h24 rfl) ?_)
        exact K _ 11 _ (B_congr (or_t h24)) rfl rfl
       ·
        refine gT h24 rfl rfl rfl rfl rfl rfl (AO.ops rfl rfl (mv rfl) ?_)
        refine gT h24 rfl rfl rfl rfl rfl rfl (AO.ops rfl rfl (mv rfl) ?_)
        refine gT h24 rfl rfl rfl rfl rfl rfl (AO.ops rfl rfl (g_index_str Tryd.underlying9 rfl rfl (g25 (and_tt h15 (nf h24))) e27) ?_)
        refine gT h24 rfl rfl rfl rfl rfl rfl (AO.ops rfl rfl (g_eq8 (a := x26) (b := 63) rfl rfl) ?_)
        refine gT h24 rfl rfl rfl rfl rfl rfl (AO.ops rfl rfl (mv rfl) ?_)
        refine AR.meet (l := [26, 27]) 45 (B ((decide (x26 = 63)) && (decide (x31 = 61)))) (fun K => ?_) ?_
        ·rcases Bool.eq_false_or_eq_true (decide (x26 = 63)) with h28 | h28
         ·
          refine gT h28 rfl rfl rfl rfl rfl rfl (AO.ops rfl rfl (mv rfl) ?_)
          refine gT h28 rfl rfl rfl rfl rfl rfl (AO.ops rfl rfl (mv rfl) ?_)
          refine gT h28 rfl rfl rfl rfl rfl rfl (AO.ops rfl rfl (g_sub rfl rfl (g29 (and_tt (and_tt h15 (nf h24)) h28))) ?_)
          refine gT h28 rfl rfl rfl rfl rfl rfl (AO.ops rfl rfl (g_index_str Tryd.underlying9 rfl rfl (g30 (and_tt (and_tt h15 (nf h24)) h28)) e32) ?_)
          refine gT h28 rfl rfl rfl rfl rfl rfl (AO.ops rfl rfl (g_eq8 (a := x31) (b := 61) rfl rfl) ?_)
          refine gT h24 rfl rfl rfl rfl rfl rfl (AO.ops rfl rfl (opS_pick_t (av := .v _) rfl h28 rfl) ?_)
          exact K _ 5 _ (B_congr (and_t h28)) rfl rfl
         ·
          refine gF h28 rfl rfl rfl rfl rfl ?_
          refine gF h28 rfl rfl rfl rfl rfl ?_
          refine gF h28 rfl rfl rfl rfl rfl ?_
          refine gF h28 rfl rfl rfl rfl rfl ?_
          refine gF h28 rfl rfl rfl rfl rfl ?_
          refine gT h24 rfl rfl rfl rfl rfl rfl (AO.ops rfl rfl (opS_pick_f (av := .v _) rfl h28 rfl) ?_)
          exact K _ 5 _ (B_congr (and_f h28)) rfl rfl
        refine gT h15 rfl rfl rfl rfl rfl rfl (AO.ops rfl rfl (opS_pick_f (av := .v _) rfl h24 rfl) ?_)
        exact K _ 6 _ (B_congr (or_f h24)) rfl rfl
      refine sS rfl rfl rfl (opS_pick_t (av := .v _) rfl h15 rfl) ?_
      exact K _ 8 _ (B_congr (and_t h15)) rfl rfl
     ·
      refine gF h15 rfl rfl rfl rfl rfl ?_
      refine gF h15 rfl rfl rfl rfl rfl ?_
      refine gF h15 rfl rfl rfl rfl rfl ?_
      refine gF h15 rfl rfl rfl rfl rfl ?_
      refine gF h15 rfl rfl rfl rfl rfl ?_
      refine gU rfl rfl rfl rfl rfl ?_
      refine gU rfl rfl rfl rfl rfl ?_
      refine gU rfl rfl rfl rfl rfl ?_
      refine gU rfl rfl rfl rfl rfl ?_
      refine gU rfl rfl rfl rfl rfl ?_
      refine gF h15 rfl rfl rfl rfl rfl ?_
      refine gF h15 rfl rfl rfl rfl rfl ?_
      refine gU rfl rfl rfl rfl rfl ?_
      refine gU rfl rfl rfl rfl rfl ?_
      refine gU rfl rfl rfl rfl rfl ?_
      refine gU rfl rfl rfl rfl rfl ?_
      refine gU rfl rfl rfl rfl rfl ?_
      refine gU rfl rfl rfl rfl rfl ?_
      refine gU rfl rfl rfl rfl rfl ?_
      refine gU rfl rfl rfl rfl rfl ?_
      refine gU rfl rfl rfl rfl rfl ?_
      refine gU rfl rfl rfl rfl rfl ?_
      refine gU rfl rfl rfl rfl rfl ?_
      refine gF h15 rfl rfl rfl rfl rfl ?_
      refine sS rfl rfl rfl (opS_pick_f (av := .v _) rfl h15 rfl) ?_
      exact K _ 24 _ (B_congr (and_f h15)) rfl rfl
    refine AR.nil ?_
    show AW _ _ _ _ _ _
    refine AW.cond rfl (fun c33 => ?_) (fun c33 => ?_)
    ·replace H := cnd_t c33 H
     refine AW.seq ?_
     refine AW.region ?_
     show AR _ _ _ _ _ [0] _
     refine sS rfl rfl rfl (asg rfl) ?_
     refine AR.nil ?_
     show AW _ _ _ _ _ _
     refine AW.ret ?_
     obtain rfl := Option.some.inj H
     exact And.intro rfl (Exists.intro _ (Exists.intro _ ⟨ResV.oneW rfl (.refl _), Sub.at [] rfl, rfl, rfl⟩))
    ·replace H := cnd_f c33 H
     refine AW.skip ?_
     show AW _ _ _ _ _ _
     obtain ⟨g34, H⟩ := grd_s H
     refine AW.region ?_
     show AR _ _ _ _ _ [0, 1, 2] _
     refine sS rfl rfl rfl (mv rfl) ?_
     refine sS rfl rfl rfl (g_add rfl rfl g34) ?_
     refine sS rfl rfl rfl (asg rfl) ?_
     refine AR.nil ?_
     exact Exists.intro (n5, y3 + 1) ⟨H, Nat.lt_succ_self _, WK.at [] (.cons (.refl _) (.cons (.refl _) (.nil _))) rfl⟩
  ·replace H := cnd_f c6 H
   refine AW.exit ?_
   exact Exists.intro () ⟨H, WK.at [] (.cons (.refl _) (.nil _)) rfl⟩
 rintro _ H
 replace H : ref14_Plain_j1 a1 = some r2 := H
 unfold ref14_Plain_j1 at H
 show AW _ _ _ _ _ _
 refine AW.seq ?_
 obtain ⟨g37, H⟩ := grdc_s H
 obtain ⟨x38, e39, H⟩ := lt_s H
 obtain ⟨g41, H⟩ := grdc_s H
 obtain ⟨g42, H⟩ := grdc_s H
 obtain ⟨x43, e44, H⟩ := lt_s H
 refine AW.region ?_
 show AR _ _ _ _ _ [0, 1, 2, 3, 4, 5, 6, 7, 8, 9, 10, 11, 12, 13, 14, 15, 16] _
 refine sS rfl rfl rfl (mv rfl) ?_
 refine sS rfl rfl rfl (opS_len_str Tryd.underlying9 rfl) ?_
 refine sS rfl rfl rfl (opS_gt rfl rfl) ?_
 refine sS rfl rfl rfl (mv rfl) ?_
 refine AR.meet (l := [8, 9, 10, 11, 12, 13, 14, 15, 16]) 55 (B ((decide (0 < (a1.length : Int))) && (!decide (x38 = 32)))) (fun K => ?_) ?_
 ·rcases Bool.eq_false_or_eq_true (decide (0 < (a1.length : Int))) with h36 | h36
  ·
   refine gT h36 rfl rfl rfl rfl rfl rfl (AO.ops rfl rfl (mv rfl) ?_)
   refine gT h36 rfl rfl rfl rfl rfl rfl (AO.ops rfl rfl (g_index_str Tryd.underlying9 rfl rfl (g37 h36) e39) ?_)
   refine gT h36 rfl rfl rfl rfl rfl rfl (AO.ops rfl rfl (g_ne8 (a := x38) (b := 32) rfl rfl) ?_)
   refine sS rfl rfl rfl (opS_pick_t (av := .v _) rfl h36 rfl) ?_
   exact K _ 3 _ (B_congr (and_t h36)) rfl rfl
  ·
   refine gF h36 rfl rfl rfl rfl rfl ?_
   refine gF h36 rfl rfl rfl rfl rfl ?_
   refine gF h36 rfl rfl rfl rfl rfl ?_
   refine sS rfl rfl rfl (opS_pick_f (av := .v _) rfl h36 rfl) ?_
   exact K _ 3 _ (B_congr (and_f h36)) rfl rfl
 refine sS rfl rfl rfl (mv rfl) ?_
 refine AR.meet (l := [16]) 63 (B (((decide (0 < (a1.length : Int))) && (!decide (x38 = 32))) && (!decide (x43 = 32)))) (fun K => ?_) ?_
 ·rcases Bool.eq_false_or_eq_true ((decide (0 < (a1.length : Int))) && (!decide (x38 = 32))) with h40 | h40
  ·
   refine gT h40 rfl rfl rfl rfl rfl rfl (AO.ops rfl rfl (mv rfl) ?_)
   refine gT h40 rfl rfl rfl rfl rfl rfl (AO.ops rfl rfl (mv rfl) ?_)
   refine gT h40 rfl rfl rfl rfl rfl rfl (AO.ops rfl rfl (opS_len_str Tryd.underlying9 rfl) ?_)
   refine gT h40 rfl rfl rfl rfl rfl rfl (AO.ops rfl rfl (g_sub rfl rfl (g41 h40)) ?_)
   refine gT h40 rfl rfl rfl rfl rfl rfl (AO.ops rfl rfl (g_index_str Tryd.underlying9 rfl rfl (g42 h40) e44) ?_)
   refine gT h40 rfl rfl rfl rfl rfl rfl (AO.ops rfl rfl (g_ne8 (a := x43) (b := 32) rfl rfl) ?_)
   refine sS rfl rfl rfl (opS_pick_t (av := .v _) rfl h40 rfl) ?_
   exact K _ 6 _ (B_congr (and_t h40)) rfl rfl
  ·
   refine gF h40 rfl rfl rfl rfl rfl ?_
   refine gF h40 rfl rfl rfl rfl rfl ?_
   refine gF h40 rfl rfl rfl rfl rfl ?_
   refine gF h40 rfl rfl rfl rfl rfl ?_
   refine gF h40 rfl rfl rfl rfl rfl ?_
   refine gF h40 rfl rfl rfl rfl rfl ?_
   refine sS rfl rfl rfl (opS_pick_f (av := .v _) rfl h40 rfl) ?_
   exact K _ 6 _ (B_congr (and_f h40)) rfl rfl
 refine sS rfl rfl rfl (asg rfl) ?_
 refine AR.nil ?_
 show AW _ _ _ _ _ _
 refine AW.ret ?_
 obtain rfl := Option.some.inj H
 exact And.intro rfl (Exists.intro _ (Exists.intro _ ⟨ResV.oneW rfl (.refl _), Sub.at [] rfl, rfl, rfl⟩))
set_option maxRecDepth 100000 in
set_option maxHeartbeats 1000000 in
theorem w_ref14_part (F : Nat) (a1 : List UInt8) (r2 : Int) (H : ref14_part F a1 = some r2) : ACalls Tryd.prog 36 [S a1] [] (Ret (i64 r2) []) := by
 unfold ref14_part at H
 refine ACalls.of_body Tryd.func36 rfl rfl ?_
 show AW _ _ 24 _ _ _
 refine AW.seq ?_
 refine AW.region ?_
 show AR _ _ _ _ _ [0] _
 refine sS rfl rfl rfl (asg rfl) ?_
 refine AR.nil ?_
 show AW _ _ _ _ _ _
 refine AW.seq ?_
 refine AW.seq ?_
 refine AW.region ?_
 show AR _ _ _ _ _ [0, 1, 2] _
 refine sS rfl rfl rfl (mv rfl) ?_
 refine sS rfl rfl rfl (opS_len_str Tryd.underlying9 rfl) ?_
 refine sS rfl rfl rfl (opS_le rfl rfl) ?_
 refine AR.nil ?_
 show AW _ _ _ _ _ _
 refine AW.cond rfl (fun c3 => ?_) (fun c3 => ?_)
 ·replace H := cnd_t c3 H
  refine AW.seq ?_
  refine AW.region ?_
  show AR _ _ _ _ _ [0, 1, 2] _
  refine sS rfl rfl rfl (mv rfl) ?_
  refine sS rfl rfl rfl (opS_len_str Tryd.underlying9 rfl) ?_
  refine sS rfl rfl rfl (asg rfl) ?_
  refine AR.nil ?_
  show AW _ _ _ _ _ _
  refine AW.ret ?_
  obtain rfl := Option.some.inj H
  exact And.intro rfl (Exists.intro _ (Exists.intro _ ⟨ResV.oneW rfl (.refl _), Sub.at [] rfl, rfl, rfl⟩))
 ·replace H := cnd_f c3 H
  refine AW.skip ?_
  show AW _ _ _ _ _ _
  refine AW.cut (X := Unit) (fun _ => ⟨[], [], []⟩) (fun _ => ref14_part_j1 = some r2) ?_ ?_
  ·
   refine AW.seq ?_
   refine AW.region ?_
   show AR _ _ _ _ _ [0] _
   refine sS rfl rfl rfl (asg rfl) ?_
   refine AR.nil ?_
   show AW _ _ _ _ _ _
   refine AW.block ?_
   refine AW.loop (X := Nat × Int) (fun (n6, y4) => ⟨[(0, S a1), (3, i64 y4)], [], []⟩) (fun (n6, y4) => ref14_part_L1 a1 n6 y4 = some r2) (fun (n6, y4) => n6) (F, 45) H (WK.at [] (.cons (.refl _) (.cons (.refl _) (.nil _))) rfl) ?_
   rintro ⟨n6, y4⟩ H
   obtain ⟨n6, rfl, H⟩ := loop_s H
   replace H : ref14_part_B1 a1 (ref14_part_L1 a1 n6) y4 = some r2 := H
   unfold ref14_part_B1 at H
   show AW _ _ _ _ _ _
   refine AW.seq ?_
   refine AW.seq ?_
   refine AW.region ?_
   show AR _ _ _ _ _ [0, 1] _
   refine sS rfl rfl rfl (mv rfl) ?_
   refine sS rfl rfl rfl (opS_ge rfl rfl) ?_
   refine AR.nil ?_
   show AW _ _ _ _ _ _
   refine AW.cond rfl (fun c7 => ?_) (fun c7 => ?_)
   ·replace H := cnd_t c7 H
    refine AW.skip ?_
    show AW _ _ _ _ _ _
    refine AW.seq ?_
    refine AW.block ?_
    refine AW.seq ?_
    obtain ⟨g8, H⟩ := grd_s H
    obtain ⟨x9, e10, H⟩ := lt_s H
    obtain ⟨g12, H⟩ := grdc_s H
    obtain ⟨x13, e14, H⟩ := lt_s H
    refine AW.region ?_
    show AR _ _ _ _ _ [0, 1, 2, 3, 4, 5, 6, 7, 8, 9] _
    refine sS rfl rfl rfl (mv rfl) ?_
    refine sS rfl rfl rfl (mv rfl) ?_
    refine sS rfl rfl rfl (g_index_str Tryd.underlying9 rfl rfl g8 e10) ?_
    refine sS rfl rfl rfl (opS_lt rfl rfl) ?_
    refine sS rfl rfl rfl (mv rfl) ?_
    refine AR.meet (l := []) 22 (B ((decide ((x9.toNat : Int) < 128)) || (decide (191 < (x13.toNat : Int))))) (fun K => ?_) ?_
    ·rcases Bool.eq_false_or_eq_true (decide ((x9.toNat : Int) < 128)) with h11 | h11
     ·
      refine gF h11 rfl rfl rfl rfl rfl ?_
      refine gF h11 rfl rfl rfl rfl rfl ?_
      refine gF h11 rfl rfl rfl rfl rfl ?_
      refine gF h11 rfl rfl rfl rfl rfl ?_
      refine sS rfl rfl rfl (opS_pick_t (av := .v _) rfl h11 rfl) ?_
      exact K _ 4 _ (B_congr (or_t h11)) rfl rfl
     ·
      refine gT h11 rfl rfl rfl rfl rfl rfl (AO.ops rfl rfl (mv rfl) ?_)
      refine gT h11 rfl rfl rfl rfl rfl rfl (AO.ops rfl rfl (mv rfl) ?_)
      refine gT h11 rfl rfl rfl rfl rfl rfl (AO.ops rfl rfl (g_index_str Tryd.underlying9 rfl rfl (g12 (nf h11)) e14) ?_)
      refine gT h11 rfl rfl rfl rfl rfl rfl (AO.ops rfl rfl (opS_gt rfl rfl) ?_)
      refine sS rfl rfl rfl (opS_pick_f (av := .v _) rfl h11 rfl) ?_
      exact K _ 4 _ (B_congr (or_f h11)) rfl rfl
    refine AR.nil ?_
    show AW _ _ _ _ _ _
    refine AW.cond rfl (fun c15 => ?_) (fun c15 => ?_)
    ·replace H := cnd_t c15 H
     refine AW.seq ?_
     refine AW.region ?_
     show AR _ _ _ _ _ [0, 1] _
     refine sS rfl rfl rfl (mv rfl) ?_
     refine sS rfl rfl rfl (asg rfl) ?_
     refine AR.nil ?_
     show AW _ _ _ _ _ _
     refine AW.ret ?_
     obtain rfl := Option.some.inj H
     exact And.intro rfl (Exists.intro _ (Exists.intro _ ⟨ResV.oneW rfl (.refl _), Sub.at [] rfl, rfl, rfl⟩))
    ·replace H := cnd_f c15 H
     refine AW.skip ?_
     show AW _ _ _ _ _ _
     obtain ⟨g16, H⟩ := grd_s H
     refine AW.region ?_
     show AR _ _ _ _ _ [0, 1, 2] _
     refine sS rfl rfl rfl (mv rfl) ?_
     refine sS rfl rfl rfl (g_sub rfl rfl g16) ?_
     refine sS rfl rfl rfl (asg rfl) ?_
     refine AR.nil ?_
     exact Exists.intro (n6, y4 - 1) ⟨H, Nat.lt_succ_self _, WK.at [] (.cons (.refl _) (.cons (.refl _) (.nil _))) rfl⟩
   ·replace H := cnd_f c7 H
    refine AW.exit ?_
    exact Exists.intro () ⟨H, WK.at [] (.nil _) rfl⟩
  rintro _ H
  replace H : ref14_part_j1 = some r2 := H
  unfold ref14_part_j1 at H
  show AW _ _ _ _ _ _
  refine AW.seq ?_
  refine AW.region ?_
  show AR _ _ _ _ _ [0] _
  refine sS rfl rfl rfl (asg rfl) ?_
  refine AR.nil ?_
  show AW _ _ _ _ _ _
  refine AW.ret ?_
  obtain rfl := Option.some.inj H
  exact And.intro rfl (Exists.intro _ (Exists.intro _ ⟨ResV.oneW rfl (.refl _), Sub.at [] rfl, rfl, rfl⟩))
set_option maxRecDepth 100000 in
set_option maxHeartbeats 1000000 in
theorem w_ref14_Words (F : Nat) (a1 : List UInt8) (r2 : List (List UInt8)) (H : ref14_Words F a1 = some r2) : ACalls Tryd.prog 16 [S a1] [] (Ret (slE Enc.str r2 none) []) := by
 unfold ref14_Words at H
 refine ACalls.of_body Tryd.func16 rfl rfl ?_
 show AW _ _ 30 _ _ _
 refine AW.seq ?_
 refine AW.region ?_
 show AR _ _ _ _ _ [0] _
 refine sS rfl rfl rfl (asg rfl) ?_
 refine AR.nil ?_
 show AW _ _ _ _ _ _
 refine AW.seq ?_
 obtain ⟨x3, e4, H⟩ := bnd_s H
 refine AW.region ?_
 show AR _ _ _ _ _ [0, 1, 2] _
 refine sS rfl rfl rfl (mv rfl) ?_
 refine AR.run rfl rfl (AO.callp rfl en17_headr rfl (w_ref14_Plain F a1 x3 e4) ?_)
 refine sS rfl rfl rfl (asg rfl) ?_
 refine AR.nil ?_
 show AW _ _ _ _ _ _
 refine AW.seq ?_
 refine AW.seq ?_
 refine AW.region ?_
 show AR _ _ _ _ _ [0] _
 refine sS rfl rfl rfl (mv rfl) ?_
 refine AR.nil ?_
 show AW _ _ _ _ _ _
 refine AW.cond rfl (fun c5 => ?_) (fun c5 => ?_)
 ·replace H := cnd_t c5 H
  refine AW.seq ?_
  obtain ⟨x6, e7, H⟩ := bnd_s H
  refine AW.region ?_
  show AR _ _ _ _ _ [0, 1, 2] _
  refine sS rfl rfl rfl (mv rfl) ?_
  refine AR.run rfl rfl (AO.callp rfl en35_headr rfl (w_ref05_Split F a1 32 x6 e7) ?_)
  refine sS rfl rfl rfl (opS_assign (av := slE _ _ _) rfl) ?_
  refine AR.nil ?_
  show AW _ _ _ _ _ _
  refine AW.ret ?_
  obtain rfl := Option.some.inj H
  exact And.intro rfl (Exists.intro _ (Exists.intro _ ⟨ResV.oneW rfl (.refl _), Sub.at [] rfl, rfl, rfl⟩))
 ·replace H := cnd_f c5 H
  refine AW.skip ?_
  show AW _ _ _ _ _ _
  refine AW.seq ?_
  refine AW.region ?_
  show AR _ _ _ _ _ [0] _
  refine sS rfl rfl rfl (asg rfl) ?_
  refine AR.nil ?_
  show AW _ _ _ _ _ _
  refine AW.nil_grows 4 1 9 rfl fun t8 => ?_
  show AW _ _ _ _ _ ⟨(4, slE Enc.str [] (some t8)) :: _, _, _⟩
  refine AW.cut (X := (List (List UInt8)) × Nat) (fun (y37, t38) => ⟨[(4, slE Enc.str y37 (some t38))], [], [.tok t38 9]⟩) (fun (y37, t38) => ref14_Words_j1 y37 = some r2) ?_ ?_
  ·
   refine AW.block ?_
   refine AW.loop (X := Nat × (List UInt8) × (List (List UInt8)) × Nat) (fun (n13, y9, y10, t11) => ⟨[(0, S y9), (4, slE Enc.str y10 (some t11))], [], [.tok t11 9]⟩) (fun (n13, y9, y10, t11) => ref14_Words_L1 F n13 (y9, y10) = some r2) (fun (n13, y9, y10, t11) => n13) (F, a1, [], t8) H (WK.at [0] (.cons (.refl _) (.cons (.refl _) (.nil _))) rfl) ?_
   rintro ⟨n13, y9, y10, t11⟩ H
   obtain ⟨n13, rfl, H⟩ := loop_s H
   replace H : ref14_Words_B1 F (ref14_Words_L1 F n13) y9 y10 = some r2 := H
   unfold ref14_Words_B1 at H
   show AW _ _ _ _ _ _
   refine AW.seq ?_
   refine AW.seq ?_
   refine AW.region ?_
   show AR _ _ _ _ _ [0, 1, 2] _
   refine sS rfl rfl rfl (mv rfl) ?_
   refine sS rfl rfl rfl (opS_len_str Tryd.underlying9 rfl) ?_
   refine sS rfl rfl rfl (opS_gt rfl rfl) ?_
   refine AR.nil ?_
   show AW _ _ _ _ _ _
   refine AW.cond rfl (fun c14 => ?_) (fun c14 => ?_)
   ·replace H := cnd_t c14 H
    refine AW.skip ?_
    show AW _ _ _ _ _ _
    refine AW.block ?_
    refine AW.seq ?_
    obtain ⟨x15, e16, H⟩ := bnd_s H
    refine AW.region ?_
    show AR _ _ _ _ _ [0, 1, 2] _
    refine sS rfl rfl rfl (mv rfl) ?_
    refine AR.run rfl rfl (AO.callp rfl en36_headr rfl (w_ref14_part F y9 x15 e16) ?_)
    refine sS rfl rfl rfl (asg rfl) ?_
    refine AR.nil ?_
    show AW _ _ _ _ _ _
    refine AW.seq ?_
    obtain ⟨g17, H⟩ := grd_s H
    obtain ⟨x18, e19, H⟩ := lt_s H
    obtain ⟨g20, H⟩ := grd_s H
    obtain ⟨x22, e23, H⟩ := bnd_s H
    obtain ⟨g24, H⟩ := grd_s H
    obtain ⟨x25, e26, H⟩ := lt_s H
    obtain ⟨g27, H⟩ := grd_s H
    obtain ⟨x28, e29, H⟩ := lt_s H
    obtain ⟨g31, H⟩ := grd_s H
    obtain ⟨x32, e33, H⟩ := lt_s H
    refine AW.region ?_
    show AR _ _ _ _ _ [0, 1, 2, 3, 4, 5, 6, 7, 8, 9, 10] _
    refine sS rfl rfl rfl (opS_move (av := slE _ _ _) rfl) ?_
    refine sS rfl rfl rfl (mv rfl) ?_
    refine sS rfl rfl rfl (mv rfl) ?_
    refine sS rfl rfl rfl (g_to_str Tryd.underlying9 rfl rfl g17 e19) ?_
    refine sX rfl rfl rfl (g_conv_str_bytes (bytes := 1) Tryd.underlying9 Tryd.underlying24 Tryd.underlying5 rfl g20) ?_
    rintro _ _ ⟨t21, rfl, rfl⟩
    refine AR.run rfl rfl (AO.callp rfl en37_headr rfl (w_ref13_Raw F x18 (some t21) x22 e23) ?_)
    refine sS rfl rfl rfl (g_cat rfl rfl g24 e26) ?_
    refine sS rfl rfl rfl (g_cat rfl rfl g27 e29) ?_
    refine sR rfl rfl rfl (opR_buildE (E := Enc.str) (bytes := 16) (xs := [.tmp 23]) (l := ([x28] : List (List UInt8))) Tryd.underlying36 (by kernel_rfl) rfl rfl (by decide) rfl rfl) ?_
    refine sX rfl rfl rfl (g_append (E := Enc.str) (bytes := 16) 1 Tryd.underlying36 Tryd.underlying36 rfl (by kernel_rfl) rfl rfl rfl rfl g31 e33) ?_
    rintro _ _ ⟨t30, rfl, rfl⟩
    refine sS rfl rfl rfl (opS_assign (av := slE _ _ _) rfl) ?_
    refine AR.nil ?_
    show AW _ _ _ _ _ _
    obtain ⟨g34, H⟩ := grd_s H
    obtain ⟨x35, e36, H⟩ := lt_s H
    refine AW.region ?_
    show AR _ _ _ _ _ [0, 1, 2, 3] _
    refine sS rfl rfl rfl (mv rfl) ?_
    refine sS rfl rfl rfl (mv rfl) ?_
    refine sS rfl rfl rfl (g_from_str Tryd.underlying9 rfl rfl g34 e36) ?_
    refine sS rfl rfl rfl (asg rfl) ?_
    refine AR.nil ?_
    exact Exists.intro (n13, x35, x32, t30) ⟨H, Nat.lt_succ_self _, WK.at [1] (.cons (.refl _) (.cons (.refl _) (.nil _))) rfl⟩
   ·replace H := cnd_f c14 H
    refine AW.exit ?_
    exact Exists.intro (y10, t11) ⟨H, WK.at [0] (.cons (.refl _) (.nil _)) rfl⟩
  rintro ⟨y37, t38⟩ H
  replace H : ref14_Words_j1 y37 = some r2 := H
  unfold ref14_Words_j1 at H
  show AW _ _ _ _ _ _
  refine AW.seq ?_
  refine AW.region ?_
  show AR _ _ _ _ _ [0, 1] _
  refine sS rfl rfl rfl (opS_move (av := slE _ _ _) rfl) ?_
  refine sS rfl rfl rfl (opS_assign (av := slE _ _ _) rfl) ?_
  refine AR.nil ?_
  show AW _ _ _ _ _ _
  refine AW.ret ?_
  obtain rfl := Option.some.inj H
  exact And.intro rfl (Exists.intro _ (Exists.intro _ ⟨ResV.oneW rfl (.tok _ _ _), Sub.at [] rfl, rfl, rfl⟩))
set_option maxRecDepth 100000 in
set_option maxHeartbeats 1000000 in
theorem w_ref14_Line (F : Nat) (a1 : List UInt8) (a2 : List UInt8) (r3 : List UInt8) (r4 : Int) (H : ref14_Line F a1 a2 = some (r3, r4)) : ACalls Tryd.prog 13 [.agg [S a1, S a2]] [] (Ret (.tup [slE Enc.byte r3 none, i64 r4]) []) := by
 unfold ref14_Line at H
 refine ACalls.of_body Tryd.func13 rfl rfl ?_
 show AW _ _ 65 _ _ _
 refine AW.seq ?_
 refine AW.region ?_
 show AR _ _ _ _ _ [0, 1, 2] _
 refine sR rfl rfl rfl (opR_boxCp rfl (.inr ⟨_, rfl⟩)) ?_
 refine sS rfl rfl rfl (asg rfl) ?_
 refine sS rfl rfl rfl (asg rfl) ?_
 refine AR.nil ?_
 show AW _ _ _ _ _ _
 refine AW.seq ?_
 obtain ⟨x5, e6, H⟩ := bnd_s H
 refine AW.region ?_
 show AR _ _ _ _ _ [0, 1, 2, 3] _
 refine sS rfl rfl rfl (opS_fieldAddr_cp (n := 0) (by kernel_rfl) rfl (Nat.le_of_ble_eq_true rfl)) ?_
 refine sS rfl rfl rfl (opS_load_cp Tryd.underlying9 rfl rfl) ?_
 refine AR.run rfl rfl (AO.callp rfl en33_headr rfl (w_ref14_Name F a1 x5 e6) ?_)
 refine sS rfl rfl rfl (asg rfl) ?_
 refine AR.nil ?_
 show AW _ _ _ _ _ _
 refine AW.seq ?_
 refine AW.seq ?_
 refine AW.region ?_
 show AR _ _ _ _ _ [0, 1, 2, 3, 4, 5, 6, 7] _
 refine sS rfl rfl rfl (mv rfl) ?_
 refine sS rfl rfl rfl (opS_not rfl) ?_
 refine sS rfl rfl rfl (mv rfl) ?_
 refine AR.meet (l := []) 19 (B ((!x5) || (decide (4000 < (a2.length : Int))))) (fun K => ?_) ?_
 ·rcases Bool.eq_false_or_eq_true (!x5) with h7 | h7
  ·
   refine gF h7 rfl rfl rfl rfl rfl ?_
   refine gF h7 rfl rfl rfl rfl rfl ?_
   refine gF h7 rfl rfl rfl rfl rfl ?_
   refine gF h7 rfl rfl rfl rfl rfl ?_
   refine sS rfl rfl rfl (opS_pick_t (av := .v _) rfl h7 rfl) ?_
   exact K _ 4 _ (B_congr (or_t h7)) rfl rfl
  ·
   refine gT h7 rfl rfl rfl rfl rfl rfl (AO.ops rfl rfl (opS_fieldAddr_cp (n := 1) (by kernel_rfl) rfl (Nat.le_of_ble_eq_true rfl)) ?_)
   refine gT h7 rfl rfl rfl rfl rfl rfl (AO.ops rfl rfl (opS_load_cp Tryd.underlying9 rfl rfl) ?_)
   refine gT h7 rfl rfl rfl rfl rfl rfl (AO.ops rfl rfl (opS_len_str Tryd.underlying9 rfl) ?_)
   refine gT h7 rfl rfl rfl rfl rfl rfl (AO.ops rfl rfl (opS_gt rfl rfl) ?_)
   refine sS rfl rfl rfl (opS_pick_f (av := .v _) rfl h7 rfl) ?_
   exact K _ 4 _ (B_congr (or_f h7)) rfl rfl
 refine AR.nil ?_
 show AW _ _ _ _ _ _
 refine AW.cond rfl (fun c8 => ?_) (fun c8 => ?_)
 ·replace H := cnd_t c8 H
  refine AW.seq ?_
  refine AW.region ?_
  show AR _ _ _ _ _ [0, 1] _
  refine sS rfl rfl rfl (asg rfl) ?_
  refine sS rfl rfl rfl (asg rfl) ?_
  refine AR.nil ?_
  show AW _ _ _ _ _ _
  refine AW.ret ?_
  obtain ⟨rfl, rfl⟩ := res2 H
  exact And.intro rfl (Exists.intro _ (Exists.intro _ ⟨ResV.twoW rfl (.nil _) (.refl _), Sub.at [] rfl, rfl, rfl⟩))
 ·replace H := cnd_f c8 H
  refine AW.skip ?_
  show AW _ _ _ _ _ _
  refine AW.seq ?_
  obtain ⟨g9, H⟩ := grd_s H
  obtain ⟨x10, e11, H⟩ := lt_s H
  obtain ⟨g12, H⟩ := grd_s H
  refine AW.region ?_
  show AR _ _ _ _ _ [0, 1, 2, 3, 4] _
  refine sS rfl rfl rfl (opS_fieldAddr_cp (n := 0) (by kernel_rfl) rfl (Nat.le_of_ble_eq_true rfl)) ?_
  refine sS rfl rfl rfl (opS_load_cp Tryd.underlying9 rfl rfl) ?_
  refine sS rfl rfl rfl (g_cat rfl rfl g9 e11) ?_
  refine sX rfl rfl rfl (g_conv_str_bytes (bytes := 1) Tryd.underlying9 Tryd.underlying24 Tryd.underlying5 rfl g12) ?_
  rintro _ _ ⟨t13, rfl, rfl⟩
  refine sS rfl rfl rfl (opS_assign (av := slE _ _ _) rfl) ?_
  refine AR.nil ?_
  show AW _ _ _ _ _ _
  refine AW.seq ?_
  refine AW.region ?_
  show AR _ _ _ _ _ [0, 1, 2] _
  refine sS rfl rfl rfl (opS_move (av := slE _ _ _) rfl) ?_
  refine sS rfl rfl rfl (opS_len_sl Tryd.underlying24 rfl) ?_
  refine sS rfl rfl rfl (asg rfl) ?_
  refine AR.nil ?_
  show AW _ _ _ _ _ _
  refine AW.seq ?_
  obtain ⟨x14, e15, H⟩ := bnd_s H
  refine AW.region ?_
  show AR _ _ _ _ _ [0, 1, 2, 3] _
  refine sS rfl rfl rfl (opS_fieldAddr_cp (n := 1) (by kernel_rfl) rfl (Nat.le_of_ble_eq_true rfl)) ?_
  refine sS rfl rfl rfl (opS_load_cp Tryd.underlying9 rfl rfl) ?_
  refine AR.run rfl rfl (AO.callp rfl en16_headr rfl (w_ref14_Words F a2 x14 e15) ?_)
  refine sS rfl rfl rfl (opS_assign (av := slE _ _ _) rfl) ?_
  refine AR.nil ?_
  show AW _ _ _ _ _ _
  refine AW.cut (X := (List UInt8) × Nat) (fun (y53, t54) => ⟨[(5, slE Enc.byte y53 (some t54))], [], [.tok t54 5]⟩) (fun (y53, t54) => ref14_Line_j1 y53 = some (r3, r4)) ?_ ?_
  ·
   refine AW.seq ?_
   refine AW.region ?_
   show AR _ _ _ _ _ [0] _
   refine sS rfl rfl rfl (asg rfl) ?_
   refine AR.nil ?_
   show AW _ _ _ _ _ _
   refine AW.block ?_
   refine AW.loop (X := Nat × (List UInt8) × Nat × Int × Int) (fun (n21, y16, t17, y18, y19) => ⟨[(5, slE Enc.byte y16 (some t17)), (6, i64 y18), (7, slE Enc.str x14 none), (8, i64 y19)], [], [.tok t17 5]⟩) (fun (n21, y16, t17, y18, y19) => ref14_Line_L1 x14 n21 (y16, y18, y19) = some (r3, r4)) (fun (n21, y16, t17, y18, y19) => n21) (F, x10, t13, (x10.length : Int), 0) H (WK.at [0] (.cons (.refl _) (.cons (.refl _) (.cons (.refl _) (.cons (.refl _) (.nil _))))) rfl) ?_
   rintro ⟨n21, y16, t17, y18, y19⟩ H
   obtain ⟨n21, rfl, H⟩ := loop_s H
   replace H : ref14_Line_B1 x14 (ref14_Line_L1 x14 n21) y16 y18 y19 = some (r3, r4) := H
   unfold ref14_Line_B1 at H
   show AW _ _ _ _ _ _
   refine AW.seq ?_
   refine AW.seq ?_
   refine AW.region ?_
   show AR _ _ _ _ _ [0, 1, 2, 3] _
   refine sS rfl rfl rfl (mv rfl) ?_
   refine sS rfl rfl rfl (opS_move (av := slE _ _ _) rfl) ?_
   refine sS rfl rfl rfl (opS_len_sl Tryd.underlying36 rfl) ?_
   refine sS rfl rfl rfl (opS_lt rfl rfl) ?_
   refine AR.nil ?_
   show AW _ _ _ _ _ _
   refine AW.cond rfl (fun c22 => ?_) (fun c22 => ?_)
   ·replace H := cnd_t c22 H
    refine AW.skip ?_
    show AW _ _ _ _ _ _
    refine AW.seq ?_
    refine AW.block ?_
    refine AW.cut (X := (List UInt8) × Nat × Int) (fun (y33, t34, y35) => ⟨[(5, slE Enc.byte y33 (some t34)), (6, i64 y35), (7, slE Enc.str x14 none), (8, i64 y19)], [], [.tok t34 5]⟩) (fun (y33, t34, y35) => ref14_Line_j2 x14 y19 (ref14_Line_L1 x14 n21) y33 y35 = some (r3, r4)) ?_ ?_
    ·
     refine AW.seq ?_
     obtain ⟨g23, H⟩ := grd_s H
     obtain ⟨g24, H⟩ := grd_s H
     obtain ⟨x25, e26, H⟩ := lt_s H
     obtain ⟨g27, H⟩ := grd_s H
     refine AW.region ?_
     show AR _ _ _ _ _ [0, 1, 2, 3, 4, 5, 6, 7, 8] _
     refine sS rfl rfl rfl (mv rfl) ?_
     refine sS rfl rfl rfl (g_add rfl rfl g23) ?_
     refine sS rfl rfl rfl (opS_move (av := slE _ _ _) rfl) ?_
     refine sS rfl rfl rfl (mv rfl) ?_
     refine sS rfl rfl rfl (g_indexAddr (E := Enc.str) Tryd.underlying36 (by kernel_rfl) rfl rfl g24 e26) ?_
     refine sS rfl rfl rfl (opS_load_cp Tryd.underlying9 rfl rfl) ?_
     refine sS rfl rfl rfl (opS_len_str Tryd.underlying9 rfl) ?_
     refine sS rfl rfl rfl (g_add rfl rfl g27) ?_
     refine sS rfl rfl rfl (opS_gt rfl rfl) ?_
     refine AR.nil ?_
     show AW _ _ _ _ _ _
     refine AW.cond rfl (fun c28 => ?_) (fun c28 => ?_)
     ·replace H := cnd_t c28 H
      refine AW.seq ?_
      obtain ⟨g30, H⟩ := grd_s H
      obtain ⟨x31, e32, H⟩ := lt_s H
      refine AW.region ?_
      show AR _ _ _ _ _ [0, 1, 2, 3] _
      refine sS rfl rfl rfl (opS_move (av := slE _ _ _) rfl) ?_
      refine sR rfl rfl rfl (opR_buildE (E := Enc.byte) (bytes := 1) (xs := [.const _, .const _]) (l := ([13, 10] : List UInt8)) Tryd.underlying24 (by kernel_rfl) rfl rfl (by decide) rfl rfl) ?_
      refine sX rfl rfl rfl (g_append (E := Enc.byte) (bytes := 1) 0 Tryd.underlying24 Tryd.underlying24 rfl (by kernel_rfl) rfl rfl rfl rfl g30 e32) ?_
      rintro _ _ ⟨t29, rfl, rfl⟩
      refine sS rfl rfl rfl (opS_assign (av := slE _ _ _) rfl) ?_
      refine AR.nil ?_
      show AW _ _ _ _ _ _
      refine AW.region ?_
      show AR _ _ _ _ _ [0] _
      refine sS rfl rfl rfl (asg rfl) ?_
      refine AR.nil ?_
      exact Exists.intro (x31, t29, 0) ⟨H, WK.at [0] (.cons (.refl _) (.cons (.refl _) (.cons (.refl _) (.cons (.refl _) (.nil _))))) rfl⟩
     ·replace H := cnd_f c28 H
      refine AW.skip ?_
      exact Exists.intro (y16, t17, y18) ⟨H, WK.at [0] (.cons (.refl _) (.cons (.refl _) (.cons (.refl _) (.cons (.refl _) (.nil _))))) rfl⟩
    rintro ⟨y33, t34, y35⟩ H
    replace H : ref14_Line_j2 x14 y19 (ref14_Line_L1 x14 n21) y33 y35 = some (r3, r4) := H
    unfold ref14_Line_j2 at H
    show AW _ _ _ _ _ _
    refine AW.seq ?_
    obtain ⟨g37, H⟩ := grd_s H
    obtain ⟨x38, e39, H⟩ := lt_s H
    obtain ⟨g40, H⟩ := grd_s H
    obtain ⟨x41, e42, H⟩ := lt_s H
    obtain ⟨g44, H⟩ := grd_s H
    obtain ⟨x45, e46, H⟩ := lt_s H
    refine AW.region ?_
    show AR _ _ _ _ _ [0, 1, 2, 3, 4, 5, 6, 7] _
    refine sS rfl rfl rfl (opS_move (av := slE _ _ _) rfl) ?_
    refine sS rfl rfl rfl (opS_move (av := slE _ _ _) rfl) ?_
    refine sS rfl rfl rfl (mv rfl) ?_
    refine sS rfl rfl rfl (g_indexAddr (E := Enc.str) Tryd.underlying36 (by kernel_rfl) rfl rfl g37 e39) ?_
    refine sS rfl rfl rfl (opS_load_cp Tryd.underlying9 rfl rfl) ?_
    refine sS rfl rfl rfl (g_cat rfl rfl g40 e42) ?_
    refine sX rfl rfl rfl (g_append_str (bytes := 1) 0 Tryd.underlying24 Tryd.underlying9 rfl (by kernel_rfl) rfl rfl rfl rfl g44 e46) ?_
    rintro _ _ ⟨t43, rfl, rfl⟩
    refine sS rfl rfl rfl (opS_assign (av := slE _ _ _) rfl) ?_
    refine AR.nil ?_
    show AW _ _ _ _ _ _
    obtain ⟨g47, H⟩ := grd_s H
    obtain ⟨g48, H⟩ := grd_s H
    obtain ⟨x49, e50, H⟩ := lt_s H
    obtain ⟨g51, H⟩ := grd_s H
    refine AW.region ?_
    show AR _ _ _ _ _ [0, 1, 2, 3, 4, 5, 6, 7, 8] _
    refine sS rfl rfl rfl (mv rfl) ?_
    refine sS rfl rfl rfl (g_add rfl rfl g47) ?_
    refine sS rfl rfl rfl (opS_move (av := slE _ _ _) rfl) ?_
    refine sS rfl rfl rfl (mv rfl) ?_
    refine sS rfl rfl rfl (g_indexAddr (E := Enc.str) Tryd.underlying36 (by kernel_rfl) rfl rfl g48 e50) ?_
    refine sS rfl rfl rfl (opS_load_cp Tryd.underlying9 rfl rfl) ?_
    refine sS rfl rfl rfl (opS_len_str Tryd.underlying9 rfl) ?_
    refine sS rfl rfl rfl (g_add rfl rfl g51) ?_
    refine sS rfl rfl rfl (asg rfl) ?_
    refine AR.nil ?_
    show AW _ _ _ _ _ _
    obtain ⟨g52, H⟩ := grd_s H
    refine AW.region ?_
    show AR _ _ _ _ _ [0, 1, 2] _
    refine sS rfl rfl rfl (mv rfl) ?_
    refine sS rfl rfl rfl (g_add rfl rfl g52) ?_
    refine sS rfl rfl rfl (asg rfl) ?_
    refine AR.nil ?_
    exact Exists.intro (n21, x45, t43, (y35 + 1) + (x49.length : Int), y19 + 1) ⟨H, Nat.lt_succ_self _, WK.at [0] (.cons (.refl _) (.cons (.refl _) (.cons (.refl _) (.cons (.refl _) (.nil _))))) rfl⟩
   ·replace H := cnd_f c22 H
    refine AW.exit ?_
    exact Exists.intro (y16, t17) ⟨H, WK.at [0] (.cons (.refl _) (.nil _)) rfl⟩
  rintro ⟨y53, t54⟩ H
  replace H : ref14_Line_j1 y53 = some (r3, r4) := H
  unfold ref14_Line_j1 at H
  show AW _ _ _ _ _ _
  refine AW.seq ?_
  obtain ⟨g57, H⟩ := grd_s H
  obtain ⟨x58, e59, H⟩ := lt_s H
  refine AW.region ?_
  show AR _ _ _ _ _ [0, 1, 2, 3, 4] _
  refine sS rfl rfl rfl (opS_move (av := slE _ _ _) rfl) ?_
  refine sR rfl rfl rfl (opR_buildE (E := Enc.byte) (bytes := 1) (xs := [.const _, .const _]) (l := ([13, 10] : List UInt8)) Tryd.underlying24 (by kernel_rfl) rfl rfl (by decide) rfl rfl) ?_
  refine sX rfl rfl rfl (g_append (E := Enc.byte) (bytes := 1) 0 Tryd.underlying24 Tryd.underlying24 rfl (by kernel_rfl) rfl rfl rfl rfl g57 e59) ?_
  rintro _ _ ⟨t56, rfl, rfl⟩
  refine sS rfl rfl rfl (opS_assign (av := slE _ _ _) rfl) ?_
  refine sS rfl rfl rfl (asg rfl) ?_
  refine AR.nil ?_
  show AW _ _ _ _ _ _
  refine AW.ret ?_
  obtain ⟨rfl, rfl⟩ := res2 H
  exact And.intro rfl (Exists.intro _ (Exists.intro _ ⟨ResV.twoW rfl (.tok _ _ _) (.refl _), Sub.at [] rfl, rfl, rfl⟩))
set_option maxRecDepth 100000 in
set_option maxHeartbeats 1000000 in
theorem w_ref14_All (F : Nat) (a1 : List ((List UInt8) × List UInt8)) (q2 : Option Nat) (r3 : List UInt8) (r4 : Int) (H : ref14_All F a1 = some (r3, r4)) : ACalls Tryd.prog 25 [slE (Enc.prod Enc.str Enc.str) a1 q2] [] (Ret (.tup [slE Enc.byte r3 none, i64 r4]) []) := by
 unfold ref14_All at H
 refine ACalls.of_body Tryd.func25 rfl rfl ?_
 show AW _ _ 34 _ _ _
 refine AW.seq ?_
 refine AW.region ?_
 show AR _ _ _ _ _ [0, 1] _
 refine sS rfl rfl rfl (asg rfl) ?_
 refine sS rfl rfl rfl (asg rfl) ?_
 refine AR.nil ?_
 show AW _ _ _ _ _ _
 refine AW.seq ?_
 refine AW.seq ?_
 refine AW.region ?_
 show AR _ _ _ _ _ [0, 1, 2] _
 refine sS rfl rfl rfl (opS_move (av := slE _ _ _) rfl) ?_
 refine sS rfl rfl rfl (opS_len_sl Tryd.underlying27 rfl) ?_
 refine sS rfl rfl rfl (opS_gt rfl rfl) ?_
 refine AR.nil ?_
 show AW _ _ _ _ _ _
 refine AW.cond rfl (fun c5 => ?_) (fun c5 => ?_)
 ·replace H := cnd_t c5 H
  refine AW.seq ?_
  refine AW.region ?_
  show AR _ _ _ _ _ [0, 1] _
  refine sS rfl rfl rfl (asg rfl) ?_
  refine sS rfl rfl rfl (asg rfl) ?_
  refine AR.nil ?_
  show AW _ _ _ _ _ _
  refine AW.ret ?_
  obtain ⟨rfl, rfl⟩ := res2 H
  exact And.intro rfl (Exists.intro _ (Exists.intro _ ⟨ResV.twoW rfl (.nil _) (.refl _), Sub.at [] rfl, rfl, rfl⟩))
 ·replace H := cnd_f c5 H
  refine AW.skip ?_
  show AW _ _ _ _ _ _
  refine AW.seq ?_
  refine AW.region ?_
  show AR _ _ _ _ _ [0] _
  refine sS rfl rfl rfl (asg rfl) ?_
  refine AR.nil ?_
  show AW _ _ _ _ _ _
  refine AW.nil_grows 4 1 5 rfl fun t6 => ?_
  show AW _ _ _ _ _ ⟨(4, slE Enc.byte [] (some t6)) :: _, _, _⟩
  refine AW.cut (X := (List UInt8) × Nat) (fun (y25, t26) => ⟨[(4, slE Enc.byte y25 (some t26))], [], [.tok t26 5]⟩) (fun (y25, t26) => ref14_All_j1 y25 = some (r3, r4)) ?_ ?_
  ·
   refine AW.seq ?_
   refine AW.region ?_
   show AR _ _ _ _ _ [0] _
   refine sS rfl rfl rfl (asg rfl) ?_
   refine AR.nil ?_
   show AW _ _ _ _ _ _
   refine AW.block ?_
   refine AW.loop (X := Nat × (List UInt8) × Nat × Int) (fun (n11, y7, t8, y9) => ⟨[(0, slE (Enc.prod Enc.str Enc.str) a1 q2), (4, slE Enc.byte y7 (some t8)), (5, i64 y9)], [], [.tok t8 5]⟩) (fun (n11, y7, t8, y9) => ref14_All_L1 F a1 n11 (y7, y9) = some (r3, r4)) (fun (n11, y7, t8, y9) => n11) (F, [], t6, 0) H (WK.at [0] (.cons (.refl _) (.cons (.refl _) (.cons (.refl _) (.nil _)))) rfl) ?_
   rintro ⟨n11, y7, t8, y9⟩ H
   obtain ⟨n11, rfl, H⟩ := loop_s H
   replace H : ref14_All_B1 F a1 (ref14_All_L1 F a1 n11) y7 y9 = some (r3, r4) := H
   unfold ref14_All_B1 at H
   show AW _ _ _ _ _ _
   refine AW.seq ?_
   refine AW.seq ?_
   refine AW.region ?_
   show AR _ _ _ _ _ [0, 1, 2, 3] _
   refine sS rfl rfl rfl (mv rfl) ?_
   refine sS rfl rfl rfl (opS_move (av := slE _ _ _) rfl) ?_
   refine sS rfl rfl rfl (opS_len_sl Tryd.underlying27 rfl) ?_
   refine sS rfl rfl rfl (opS_lt rfl rfl) ?_
   refine AR.nil ?_
   show AW _ _ _ _ _ _
   refine AW.cond rfl (fun c12 => ?_) (fun c12 => ?_)
   ·replace H := cnd_t c12 H
    refine AW.skip ?_
    show AW _ _ _ _ _ _
    refine AW.seq ?_
    refine AW.block ?_
    refine AW.seq ?_
    obtain ⟨g13, H⟩ := grd_s H
    obtain ⟨x14, e15, H⟩ := lt_s H
    obtain ⟨x16, x17, e18, H⟩ := bnd2_s H
    refine AW.region ?_
    show AR _ _ _ _ _ [0, 1, 2, 3, 4, 5, 6, 7, 8, 9] _
    refine sS rfl rfl rfl (opS_move (av := slE _ _ _) rfl) ?_
    refine sS rfl rfl rfl (mv rfl) ?_
    refine sS rfl rfl rfl (g_indexAddr (E := (Enc.prod Enc.str Enc.str)) Tryd.underlying27 (by kernel_rfl) rfl rfl g13 e15) ?_
    refine sS rfl rfl rfl (opS_load_cp_agg Tryd.underlying23 rfl (n := 2) (by kernel_rfl) rfl (Nat.le_of_ble_eq_true rfl)) ?_
    refine AR.run rfl rfl (AO.callp rfl en13_headr rfl (w_ref14_Line F x14.1 x14.2 x16 x17 e18) ?_)
    refine sS rfl rfl rfl (opS_move (av := .tup _) rfl) ?_
    refine sS rfl rfl rfl (opS_extract (av := slE _ _ _) rfl rfl) ?_
    refine sS rfl rfl rfl (opS_extract (av := .v _) rfl rfl) ?_
    refine sS rfl rfl rfl (opS_assign (av := slE _ _ _) rfl) ?_
    refine sS rfl rfl rfl (asg rfl) ?_
    refine AR.nil ?_
    show AW _ _ _ _ _ _
    refine AW.seq ?_
    refine AW.seq ?_
    refine AW.region ?_
    show AR _ _ _ _ _ [0, 1] _
    refine sS rfl rfl rfl (mv rfl) ?_
    refine sS rfl rfl rfl (opS_nei rfl rfl) ?_
    refine AR.nil ?_
    show AW _ _ _ _ _ _
    refine AW.cond rfl (fun c19 => ?_) (fun c19 => ?_)
    ·replace H := cnd_t c19 H
     refine AW.seq ?_
     refine AW.region ?_
     show AR _ _ _ _ _ [0, 1, 2] _
     refine sS rfl rfl rfl (mv rfl) ?_
     refine sS rfl rfl rfl (asg rfl) ?_
     refine sS rfl rfl rfl (asg rfl) ?_
     refine AR.nil ?_
     show AW _ _ _ _ _ _
     refine AW.ret ?_
     obtain ⟨rfl, rfl⟩ := res2 H
     exact And.intro rfl (Exists.intro _ (Exists.intro _ ⟨ResV.twoW rfl (.nil _) (.refl _), Sub.at [] rfl, rfl, rfl⟩))
    ·replace H := cnd_f c19 H
     refine AW.skip ?_
     show AW _ _ _ _ _ _
     obtain ⟨g21, H⟩ := grd_s H
     obtain ⟨x22, e23, H⟩ := lt_s H
     refine AW.region ?_
     show AR _ _ _ _ _ [0, 1, 2, 3] _
     refine sS rfl rfl rfl (opS_move (av := slE _ _ _) rfl) ?_
     refine sS rfl rfl rfl (opS_move (av := slE _ _ _) rfl) ?_
     refine sX rfl rfl rfl (g_append (E := Enc.byte) (bytes := 1) 0 Tryd.underlying24 Tryd.underlying24 rfl (by kernel_rfl) rfl rfl rfl rfl g21 e23) ?_
     rintro _ _ ⟨t20, rfl, rfl⟩
     refine sS rfl rfl rfl (opS_assign (av := slE _ _ _) rfl) ?_
     refine AR.nil ?_
     show AW _ _ _ _ _ _
     obtain ⟨g24, H⟩ := grd_s H
     refine AW.region ?_
     show AR _ _ _ _ _ [0, 1, 2] _
     refine sS rfl rfl rfl (mv rfl) ?_
     refine sS rfl rfl rfl (g_add rfl rfl g24) ?_
     refine sS rfl rfl rfl (asg rfl) ?_
     refine AR.nil ?_
     exact Exists.intro (n11, x22, t20, y9 + 1) ⟨H, Nat.lt_succ_self _, WK.at [0] (.cons (.refl _) (.cons (.refl _) (.cons (.refl _) (.nil _)))) rfl⟩
   ·replace H := cnd_f c12 H
    refine AW.exit ?_
    exact Exists.intro (y7, t8) ⟨H, WK.at [0] (.cons (.refl _) (.nil _)) rfl⟩
  rintro ⟨y25, t26⟩ H
  replace H : ref14_All_j1 y25 = some (r3, r4) := H
  unfold ref14_All_j1 at H
  show AW _ _ _ _ _ _
  refine AW.seq ?_
  obtain ⟨g29, H⟩ := grd_s H
  obtain ⟨x30, e31, H⟩ := lt_s H
  refine AW.region ?_
  show AR _ _ _ _ _ [0, 1, 2, 3, 4] _
  refine sS rfl rfl rfl (opS_move (av := slE _ _ _) rfl) ?_
  refine sR rfl rfl rfl (opR_buildE (E := Enc.byte) (bytes := 1) (xs := [.const _, .const _]) (l := ([13, 10] : List UInt8)) Tryd.underlying24 (by kernel_rfl) rfl rfl (by decide) rfl rfl) ?_
  refine sX rfl rfl rfl (g_append (E := Enc.byte) (bytes := 1) 0 Tryd.underlying24 Tryd.underlying24 rfl (by kernel_rfl) rfl rfl rfl rfl g29 e31) ?_
  rintro _ _ ⟨t28, rfl, rfl⟩
  refine sS rfl rfl rfl (opS_assign (av := slE _ _ _) rfl) ?_
  refine sS rfl rfl rfl (asg rfl) ?_
  refine AR.nil ?_
  show AW _ _ _ _ _ _
  refine AW.ret ?_
  obtain ⟨rfl, rfl⟩ := res2 H
  exact And.intro rfl (Exists.intro _ (Exists.intro _ ⟨ResV.twoW rfl (.tok _ _ _) (.refl _), Sub.at [] rfl, rfl, rfl⟩))
set_option maxRecDepth 100000 in
set_option maxHeartbeats 1000000 in
theorem w_ref14_Same (F : Nat) (a1 : List ((List UInt8) × List UInt8)) (q2 : Option Nat) (a3 : List ((List UInt8) × List UInt8)) (q4 : Option Nat) (r5 : Bool) (H : ref14_Same F a1 a3 = some r5) : ACalls Tryd.prog 23 [slE (Enc.prod Enc.str Enc.str) a1 q2, slE (Enc.prod Enc.str Enc.str) a3 q4] [] (Ret (B r5) []) := by
 unfold ref14_Same at H
 refine ACalls.of_body Tryd.func23 rfl rfl ?_
 show AW _ _ 26 _ _ _
 refine AW.seq ?_
 refine AW.region ?_
 show AR _ _ _ _ _ [0] _
 refine sS rfl rfl rfl (asg rfl) ?_
 refine AR.nil ?_
 show AW _ _ _ _ _ _
 refine AW.seq ?_
 refine AW.seq ?_
 refine AW.region ?_
 show AR _ _ _ _ _ [0, 1, 2, 3, 4] _
 refine sS rfl rfl rfl (opS_move (av := slE _ _ _) rfl) ?_
 refine sS rfl rfl rfl (opS_len_sl Tryd.underlying27 rfl) ?_
 refine sS rfl rfl rfl (opS_move (av := slE _ _ _) rfl) ?_
 refine sS rfl rfl rfl (opS_len_sl Tryd.underlying27 rfl) ?_
 refine sS rfl rfl rfl (opS_nei rfl rfl) ?_
 refine AR.nil ?_
 show AW _ _ _ _ _ _
 refine AW.cond rfl (fun c6 => ?_) (fun c6 => ?_)
 ·replace H := cnd_t c6 H
  refine AW.seq ?_
  refine AW.region ?_
  show AR _ _ _ _ _ [0] _
  refine sS rfl rfl rfl (asg rfl) ?_
  refine AR.nil ?_
  show AW _ _ _ _ _ _
  refine AW.ret ?_
  obtain rfl := Option.some.inj H
  exact And.intro rfl (Exists.intro _ (Exists.intro _ ⟨ResV.oneW rfl (.refl _), Sub.at [] rfl, rfl, rfl⟩))
 ·replace H := cnd_f c6 H
  refine AW.skip ?_
  show AW _ _ _ _ _ _
  refine AW.cut (X := Unit) (fun _ => ⟨[], [], []⟩) (fun _ => ref14_Same_j1 = some r5) ?_ ?_
  ·
   refine AW.seq ?_
   refine AW.region ?_
   show AR _ _ _ _ _ [0] _
   refine sS rfl rfl rfl (asg rfl) ?_
   refine AR.nil ?_
   show AW _ _ _ _ _ _
   refine AW.block ?_
   refine AW.loop (X := Nat × Int) (fun (n9, y7) => ⟨[(0, slE (Enc.prod Enc.str Enc.str) a1 q2), (1, slE (Enc.prod Enc.str Enc.str) a3 q4), (5, i64 y7)], [], []⟩) (fun (n9, y7) => ref14_Same_L1 a1 a3 n9 y7 = some r5) (fun (n9, y7) => n9) (F, 0) H (WK.at [] (.cons (.refl _) (.cons (.refl _) (.cons (.refl _) (.nil _)))) rfl) ?_
   rintro ⟨n9, y7⟩ H
   obtain ⟨n9, rfl, H⟩ := loop_s H
   replace H : ref14_Same_B1 a1 a3 (ref14_Same_L1 a1 a3 n9) y7 = some r5 := H
   unfold ref14_Same_B1 at H
   show AW _ _ _ _ _ _
   refine AW.seq ?_
   refine AW.seq ?_
   refine AW.region ?_
   show AR _ _ _ _ _ [0, 1, 2, 3] _
   refine sS rfl rfl rfl (mv rfl) ?_
   refine sS rfl rfl rfl (opS_move (av := slE _ _ _) rfl) ?_
   refine sS rfl rfl rfl (opS_len_sl Tryd.underlying27 rfl) ?_
   refine sS rfl rfl rfl (opS_lt rfl rfl) ?_
   refine AR.nil ?_
   show AW _ _ _ _ _ _
   refine AW.cond rfl (fun c10 => ?_) (fun c10 => ?_)
   ·replace H := cnd_t c10 H
    refine AW.skip ?_
    show AW _ _ _ _ _ _
    refine AW.seq ?_
    refine AW.block ?_
    refine AW.seq ?_
    obtain ⟨g11, H⟩ := grd_s H
    obtain ⟨x12, e13, H⟩ := lt_s H
    obtain ⟨g14, H⟩ := grd_s H
    obtain ⟨x15, e16, H⟩ := lt_s H
    refine AW.region_draw (by kernel_rfl) ?_
    show AI _ _ _ _ _ 9 (Array.replicate 9 false) _
    refine AI.take (i := 0) rfl rfl (by kernel_rfl) (by kernel_rfl) (by kernel_rfl) (fun _ _ h => h) (opS_move (av := slE _ _ _) rfl) ?_
    show AI _ _ _ _ _ _ #[true, false, false, false, false, false, false, false, false] _
    refine AI.take (i := 1) rfl rfl (by kernel_rfl) (by kernel_rfl) (by kernel_rfl) (fun _ _ h => h) (mv rfl) ?_
    show AI _ _ _ _ _ _ #[true, true, false, false, false, false, false, false, false] _
    refine AI.take (i := 2) rfl rfl (by kernel_rfl) (by kernel_rfl) (by kernel_rfl) (fun _ _ h => h) (g_indexAddr (E := (Enc.prod Enc.str Enc.str)) Tryd.underlying27 (by kernel_rfl) rfl rfl g11 e13) ?_
    show AI _ _ _ _ _ _ #[true, true, true, false, false, false, false, false, false] _
    refine AI.take (i := 3) rfl rfl (by kernel_rfl) (by kernel_rfl) (by kernel_rfl) (fun _ _ h => h) (opS_load_cp_agg Tryd.underlying23 rfl (n := 2) (by kernel_rfl) rfl (Nat.le_of_ble_eq_true rfl)) ?_
    show AI _ _ _ _ _ _ #[true, true, true, true, false, false, false, false, false] _
    refine AI.take (i := 4) rfl rfl (by kernel_rfl) (by kernel_rfl) (by kernel_rfl) (fun _ _ h => h) (opS_move (av := slE _ _ _) rfl) ?_
    show AI _ _ _ _ _ _ #[true, true, true, true, true, false, false, false, false] _
    refine AI.take (i := 5) rfl rfl (by kernel_rfl) (by kernel_rfl) (by kernel_rfl) (fun _ _ h => h) (mv rfl) ?_
    show AI _ _ _ _ _ _ #[true, true, true, true, true, true, false, false, false] _
    refine AI.take (i := 6) rfl rfl (by kernel_rfl) (by kernel_rfl) (by kernel_rfl) (fun _ _ h => h) (g_indexAddr (E := (Enc.prod Enc.str Enc.str)) Tryd.underlying27 (by kernel_rfl) rfl rfl g14 e16) ?_
    show AI _ _ _ _ _ _ #[true, true, true, true, true, true, true, false, false] _
    refine AI.take (i := 7) rfl rfl (by kernel_rfl) (by kernel_rfl) (by kernel_rfl) (fun _ _ h => h) (opS_load_cp_agg Tryd.underlying23 rfl (n := 2) (by kernel_rfl) rfl (Nat.le_of_ble_eq_true rfl)) ?_
    show AI _ _ _ _ _ _ #[true, true, true, true, true, true, true, true, false] _
    refine AI.take (i := 8) rfl rfl (by kernel_rfl) (by kernel_rfl) (by kernel_rfl) (fun _ _ h => h) (opS_eq_struct (r := (decide (x12.1 = x15.1)) && (decide (x12.2 = x15.2))) (.inr rfl) Tryd.underlying23 (by kernel_rfl) (by kernel_rfl) (by kernel_rfl) rfl rfl rfl (by simp only [List.all_cons, List.all_nil, id, str_beq, Bool.and_true])) ?_
    show AI _ _ _ _ _ _ #[true, true, true, true, true, true, true, true, true] _
    refine AI.done rfl ?_
    show AW _ _ _ _ _ _
    refine AW.cond rfl (fun c17 => ?_) (fun c17 => ?_)
    ·replace H := cnd_t c17 H
     refine AW.seq ?_
     refine AW.region ?_
     show AR _ _ _ _ _ [0] _
     refine sS rfl rfl rfl (asg rfl) ?_
     refine AR.nil ?_
     show AW _ _ _ _ _ _
     refine AW.ret ?_
     obtain rfl := Option.some.inj H
     exact And.intro rfl (Exists.intro _ (Exists.intro _ ⟨ResV.oneW rfl (.refl _), Sub.at [] rfl, rfl, rfl⟩))
    ·replace H := cnd_f c17 H
     refine AW.skip ?_
     show AW _ _ _ _ _ _
     obtain ⟨g18, H⟩ := grd_s H
     refine AW.region ?_
     show AR _ _ _ _ _ [0, 1, 2] _
     refine sS rfl rfl rfl (mv rfl) ?_
     refine sS rfl rfl rfl (g_add rfl rfl g18) ?_
     refine sS rfl rfl rfl (asg rfl) ?_
     refine AR.nil ?_
     exact Exists.intro (n9, y7 + 1) ⟨H, Nat.lt_succ_self _, WK.at [] (.cons (.refl _) (.cons (.refl _) (.cons (.refl _) (.nil _)))) rfl⟩
   ·replace H := cnd_f c10 H
    refine AW.exit ?_
    exact Exists.intro () ⟨H, WK.at [] (.nil _) rfl⟩
  rintro _ H
  replace H : ref14_Same_j1 = some r5 := H
  unfold ref14_Same_j1 at H
  show AW _ _ _ _ _ _
  refine AW.seq ?_
  refine AW.region ?_
  show AR _ _ _ _ _ [0] _
  refine sS rfl rfl rfl (asg rfl) ?_
  refine AR.nil ?_
  show AW _ _ _ _ _ _
  refine AW.ret ?_
  obtain rfl := Option.some.inj H
  exact And.intro rfl (Exists.intro _ (Exists.intro _ ⟨ResV.oneW rfl (.refl _), Sub.at [] rfl, rfl, rfl⟩))
end Go.Proofs.YtiahdbdkjjmfiaaDoor
namespace Go.Pv
def law14_HeadAll (F : Nat) (a1 : List ((List UInt8) × List UInt8)) (a3 : List UInt8) : Option Bool :=
bnd (law14_awake F) fun x6 =>
bnd (law14_Few F a1 60) fun x8 =>
bif ((!x6) || (!x8)) || (decide (300 < (a3.length : Int))) then
  some x6
else
  bnd2 (head_All F a1) fun x13 x14 =>
  bnd2 (ref14_All F a1) fun x16 x17 =>
  bif (!decide (x13 = x16)) || (!decide (x14 = x17)) then
    some false
  else
    bif !decide (x14 = 0) then
      some true
    else
      grd (okCat x13.length) <|
      grd (okCat (x13.length + a3.length)) <|
      lt (x13 ++ a3) fun x26 =>
      bnd3 (head_Cut F x26) fun x28 x29 x30 =>
      bnd (ref14_Same F a1 x28) fun x32 =>
      some (((decide (x30 = 0)) && x32) && (decide (x29 = a3)))
end Go.Pv
namespace Go.Proofs.YtiahdbdkjjmfiaaDoor
open Go.RowKit Go.Av Go.Pv
theorem en9_lheadall : ∀ (args : Array Value) (w : World), (callFunc 9 args).run Tryd.prog w = .ok (.enter 9 args) w := fun _ _ => by kernel_rfl
theorem en10_lheadall : ∀ (args : Array Value) (w : World), (callFunc 10 args).run Tryd.prog w = .ok (.enter 10 args) w := fun _ _ => by kernel_rfl
theorem en21_lheadall : ∀ (args : Array Value) (w : World), (callFunc 21 args).run Tryd.prog w = .ok (.enter 21 args) w := fun _ _ => by kernel_rfl
theorem en23_lheadall : ∀ (args : Array Value) (w : World), (callFunc 23 args).run Tryd.prog w = .ok (.enter 23 args) w := fun _ _ => by kernel_rfl
theorem en24_lheadall : ∀ (args : Array Value) (w : World), (callFunc 24 args).run Tryd.prog w = .ok (.enter 24 args) w := fun _ _ => by kernel_rfl
theorem en25_lheadall : ∀ (args : Array Value) (w : World), (callFunc 25 args).run Tryd.prog w = .ok (.enter 25 args) w := fun _ _ => by kernel_rfl
set_option maxRecDepth 100000 in
set_option maxHeartbeats 1000000 in
theorem w_law14_HeadAll (F : Nat) (a1 : List ((List UInt8) × List UInt8)) (q2 : Option Nat) (a3 : List UInt8) (q4 : Option Nat) (r5 : Bool) (H : law14_HeadAll F a1 a3 = some r5) : ACalls Tryd.prog 8 [slE (Enc.prod Enc.str Enc.str) a1 q2, slE Enc.byte a3 q4] [] (Ret (B r5) []) := by
 unfold law14_HeadAll at H
 refine ACalls.of_body Tryd.func8 rfl rfl ?_
 show AW _ _ 76 _ _ _
 refine AW.seq ?_
 refine AW.region ?_
 show AR _ _ _ _ _ [0] _
 refine sS rfl rfl rfl (asg rfl) ?_
 refine AR.nil ?_
 show AW _ _ _ _ _ _
 refine AW.seq ?_
 obtain ⟨x6, e7, H⟩ := bnd_s H
 refine AW.region ?_
 show AR _ _ _ _ _ [0, 1] _
 refine AR.run rfl rfl (AO.callp rfl en9_lheadall rfl (w_law14_awake F x6 e7) ?_)
 refine sS rfl rfl rfl (asg rfl) ?_
 refine AR.nil ?_
 show AW _ _ _ _ _ _
 refine AW.seq ?_
 obtain ⟨x8, e9, H⟩ := bnd_s H
 refine AW.region ?_
 show AR _ _ _ _ _ [0, 1, 2] _
 refine sS rfl rfl rfl (opS_move (av := slE _ _ _) rfl) ?_
 refine AR.run rfl rfl (AO.callp rfl en10_lheadall rfl (w_law14_Few F a1 q2 60 x8 e9) ?_)
 refine sS rfl rfl rfl (asg rfl) ?_
 refine AR.nil ?_
 show AW _ _ _ _ _ _
 refine AW.seq ?_
 refine AW.seq ?_
 refine AW.region ?_
 show AR _ _ _ _ _ [0, 1, 2, 3, 4, 5, 6, 7, 8, 9, 10] _
 refine sS rfl rfl rfl (mv rfl) ?_
 refine sS rfl rfl rfl (opS_not rfl) ?_
 refine sS rfl rfl rfl (mv rfl) ?_
 refine AR.meet (l := [6, 7, 8, 9, 10]) 23 (B ((!x6) || (!x8))) (fun K => ?_) ?_
 ·rcases Bool.eq_false_or_eq_true (!x6) with h10 | h10
  ·
   refine gF h10 rfl rfl rfl rfl rfl ?_
   refine gF h10 rfl rfl rfl rfl rfl ?_
   refine sS rfl rfl rfl (opS_pick_t (av := .v _) rfl h10 rfl) ?_
   exact K _ 2 _ (B_congr (or_t h10)) rfl rfl
  ·
   refine gT h10 rfl rfl rfl rfl rfl rfl (AO.ops rfl rfl (mv rfl) ?_)
   refine gT h10 rfl rfl rfl rfl rfl rfl (AO.ops rfl rfl (opS_not rfl) ?_)
   refine sS rfl rfl rfl (opS_pick_f (av := .v _) rfl h10 rfl) ?_
   exact K _ 2 _ (B_congr (or_f h10)) rfl rfl
 refine sS rfl rfl rfl (mv rfl) ?_
 refine AR.meet (l := []) 28 (B (((!x6) || (!x8)) || (decide (300 < (a3.length : Int))))) (fun K => ?_) ?_
 ·rcases Bool.eq_false_or_eq_true ((!x6) || (!x8)) with h11 | h11
  ·
   refine gF h11 rfl rfl rfl rfl rfl ?_
   refine gF h11 rfl rfl rfl rfl rfl ?_
   refine gF h11 rfl rfl rfl rfl rfl ?_
   refine sS rfl rfl rfl (opS_pick_t (av := .v _) rfl h11 rfl) ?_
   exact K _ 3 _ (B_congr (or_t h11)) rfl rfl
  ·
   refine gT h11 rfl rfl rfl rfl rfl rfl (AO.ops rfl rfl (opS_move (av := slE _ _ _) rfl) ?_)
   refine gT h11 rfl rfl rfl rfl rfl rfl (AO.ops rfl rfl (opS_len_sl Tryd.underlying24 rfl) ?_)
   refine gT h11 rfl rfl rfl rfl rfl rfl (AO.ops rfl rfl (opS_gt rfl rfl) ?_)
   refine sS rfl rfl rfl (opS_pick_f (av := .v _) rfl h11 rfl) ?_
   exact K _ 3 _ (B_congr (or_f h11)) rfl rfl
 refine AR.nil ?_
 show AW _ _ _ _ _ _
 refine AW.cond rfl (fun c12 => ?_) (fun c12 => ?_)
 ·replace H := cnd_t c12 H
  refine AW.seq ?_
  refine AW.region ?_
  show AR _ _ _ _ _ [0, 1] _
  refine sS rfl rfl rfl (mv rfl) ?_
  refine sS rfl rfl rfl (asg rfl) ?_
  refine AR.nil ?_
  show AW _ _ _ _ _ _
  refine AW.ret ?_
  obtain rfl := Option.some.inj H
  exact And.intro rfl (Exists.intro _ (Exists.intro _ ⟨ResV.oneW rfl (.refl _), Sub.at [] rfl, rfl, rfl⟩))
 ·replace H := cnd_f c12 H
  refine AW.skip ?_
  show AW _ _ _ _ _ _
  refine AW.seq ?_
  obtain ⟨x13, x14, e15, H⟩ := bnd2_s H
  refine AW.region ?_
  show AR _ _ _ _ _ [0, 1, 2, 3, 4, 5, 6] _
  refine sS rfl rfl rfl (opS_move (av := slE _ _ _) rfl) ?_
  refine AR.run rfl rfl (AO.callp rfl en24_lheadall rfl (w_head_All F a1 q2 x13 x14 e15) ?_)
  refine sS rfl rfl rfl (opS_move (av := .tup _) rfl) ?_
  refine sS rfl rfl rfl (opS_extract (av := slE _ _ _) rfl rfl) ?_
  refine sS rfl rfl rfl (opS_extract (av := .v _) rfl rfl) ?_
  refine sS rfl rfl rfl (opS_assign (av := slE _ _ _) rfl) ?_
  refine sS rfl rfl rfl (asg rfl) ?_
  refine AR.nil ?_
  show AW _ _ _ _ _ _
  refine AW.seq ?_
  obtain ⟨x16, x17, e18, H⟩ := bnd2_s H
  refine AW.region ?_
  show AR _ _ _ _ _ [0, 1, 2, 3, 4, 5, 6] _
  refine sS rfl rfl rfl (opS_move (av := slE _ _ _) rfl) ?_
  refine AR.run rfl rfl (AO.callp rfl en25_lheadall rfl (w_ref14_All F a1 q2 x16 x17 e18) ?_)
  refine sS rfl rfl rfl (opS_move (av := .tup _) rfl) ?_
  refine sS rfl rfl rfl (opS_extract (av := slE _ _ _) rfl rfl) ?_
  refine sS rfl rfl rfl (opS_extract (av := .v _) rfl rfl) ?_
  refine sS rfl rfl rfl (opS_assign (av := slE _ _ _) rfl) ?_
  refine sS rfl rfl rfl (asg rfl) ?_
  refine AR.nil ?_
  show AW _ _ _ _ _ _
  refine AW.seq ?_
  refine AW.seq ?_
  refine AW.region ?_
  show AR _ _ _ _ _ [0, 1, 2, 3, 4, 5, 6, 7, 8, 9] _
  refine sS rfl rfl rfl (opS_move (av := slE _ _ _) rfl) ?_
  refine sS rfl rfl rfl (opS_conv_bytes_str Tryd.underlying24 Tryd.underlying5 Tryd.underlying9 rfl) ?_
  refine sS rfl rfl rfl (opS_move (av := slE _ _ _) rfl) ?_
  refine sS rfl rfl rfl (opS_conv_bytes_str Tryd.underlying24 Tryd.underlying5 Tryd.underlying9 rfl) ?_
  refine sS rfl rfl rfl (opS_nes rfl rfl) ?_
  refine sS rfl rfl rfl (mv rfl) ?_
  refine AR.meet (l := []) 49 (B ((!decide (x13 = x16)) || (!decide (x14 = x17)))) (fun K => ?_) ?_
  ·rcases Bool.eq_false_or_eq_true (!decide (x13 = x16)) with h19 | h19
   ·
    refine gF h19 rfl rfl rfl rfl rfl ?_
    refine gF h19 rfl rfl rfl rfl rfl ?_
    refine gF h19 rfl rfl rfl rfl rfl ?_
    refine sS rfl rfl rfl (opS_pick_t (av := .v _) rfl h19 rfl) ?_
    exact K _ 3 _ (B_congr (or_t h19)) rfl rfl
   ·
    refine gT h19 rfl rfl rfl rfl rfl rfl (AO.ops rfl rfl (mv rfl) ?_)
    refine gT h19 rfl rfl rfl rfl rfl rfl (AO.ops rfl rfl (mv rfl) ?_)
    refine gT h19 rfl rfl rfl rfl rfl rfl (AO.ops rfl rfl (opS_nei rfl rfl) ?_)
    refine sS rfl rfl rfl (opS_pick_f (av := .v _) rfl h19 rfl) ?_
    exact K _ 3 _ (B_congr (or_f h19)) rfl rfl
  refine AR.nil ?_
  show AW _ _ _ _ _ _
  refine AW.cond rfl (fun c20 => ?_) (fun c20 => ?_)
  ·replace H := cnd_t c20 H
   refine AW.seq ?_
   refine AW.region ?_
   show AR _ _ _ _ _ [0] _
   refine sS rfl rfl rfl (asg rfl) ?_
   refine AR.nil ?_
   show AW _ _ _ _ _ _
   refine AW.ret ?_
   obtain rfl := Option.some.inj H
   exact And.intro rfl (Exists.intro _ (Exists.intro _ ⟨ResV.oneW rfl (.refl _), Sub.at [] rfl, rfl, rfl⟩))
  ·replace H := cnd_f c20 H
   refine AW.skip ?_
   show AW _ _ _ _ _ _
   refine AW.seq ?_
   refine AW.seq ?_
   refine AW.region ?_
   show AR _ _ _ _ _ [0, 1] _
   refine sS rfl rfl rfl (mv rfl) ?_
   refine sS rfl rfl rfl (opS_nei rfl rfl) ?_
   refine AR.nil ?_
   show AW _ _ _ _ _ _
   refine AW.cond rfl (fun c21 => ?_) (fun c21 => ?_)
   ·replace H := cnd_t c21 H
    refine AW.seq ?_
    refine AW.region ?_
    show AR _ _ _ _ _ [0] _
    refine sS rfl rfl rfl (asg rfl) ?_
    refine AR.nil ?_
    show AW _ _ _ _ _ _
    refine AW.ret ?_
    obtain rfl := Option.some.inj H
    exact And.intro rfl (Exists.intro _ (Exists.intro _ ⟨ResV.oneW rfl (.refl _), Sub.at [] rfl, rfl, rfl⟩))
   ·replace H := cnd_f c21 H
    refine AW.skip ?_
    show AW _ _ _ _ _ _
    refine AW.seq ?_
    obtain ⟨g23, H⟩ := grd_s H
    obtain ⟨g25, H⟩ := grd_s H
    obtain ⟨x26, e27, H⟩ := lt_s H
    obtain ⟨x28, x29, x30, e31, H⟩ := bnd3_s H
    refine AW.region ?_
    show AR _ _ _ _ _ [0, 1, 2, 3, 4, 5, 6, 7, 8, 9, 10, 11] _
    refine sS rfl rfl rfl (opS_move (av := slE _ _ _) rfl) ?_
    refine sX rfl rfl rfl (g_append_nil (E := Enc.byte) (bytes := 1) Tryd.underlying24 Tryd.underlying24 rfl (by kernel_rfl) rfl rfl rfl g23) ?_
    rintro _ _ ⟨t22, rfl, rfl⟩
    refine sS rfl rfl rfl (opS_move (av := slE _ _ _) rfl) ?_
    refine sX rfl rfl rfl (g_append (E := Enc.byte) (bytes := 1) 0 Tryd.underlying24 Tryd.underlying24 rfl (by kernel_rfl) rfl rfl rfl rfl g25 e27) ?_
    rintro _ _ ⟨t24, rfl, rfl⟩
    refine AR.run rfl rfl (AO.callp rfl en21_lheadall rfl (w_head_Cut F x26 (some t24) x28 x29 x30 e31) ?_)
    refine sS rfl rfl rfl (opS_move (av := .tup _) rfl) ?_
    refine sS rfl rfl rfl (opS_extract (av := slE _ _ _) rfl rfl) ?_
    refine sS rfl rfl rfl (opS_extract (av := slE _ _ _) rfl rfl) ?_
    refine sS rfl rfl rfl (opS_extract (av := .v _) rfl rfl) ?_
    refine sS rfl rfl rfl (opS_assign (av := slE _ _ _) rfl) ?_
    refine sS rfl rfl rfl (opS_assign (av := slE _ _ _) rfl) ?_
    refine sS rfl rfl rfl (asg rfl) ?_
    refine AR.nil ?_
    show AW _ _ _ _ _ _
    refine AW.seq ?_
    obtain ⟨x32, e33, H⟩ := bnd_s H
    refine AW.region ?_
    show AR _ _ _ _ _ [0, 1, 2, 3] _
    refine sS rfl rfl rfl (opS_move (av := slE _ _ _) rfl) ?_
    refine sS rfl rfl rfl (opS_move (av := slE _ _ _) rfl) ?_
    refine AR.run rfl rfl (AO.callp rfl en23_lheadall rfl (w_ref14_Same F a1 q2 x28 none x32 e33) ?_)
    refine sS rfl rfl rfl (asg rfl) ?_
    refine AR.nil ?_
    show AW _ _ _ _ _ _
    refine AW.seq ?_
    refine AW.region ?_
    show AR _ _ _ _ _ [0, 1, 2, 3, 4, 5, 6, 7, 8, 9, 10, 11, 12] _
    refine sS rfl rfl rfl (mv rfl) ?_
    refine sS rfl rfl rfl (opS_eqi rfl rfl) ?_
    refine sS rfl rfl rfl (mv rfl) ?_
    refine AR.meet (l := [5, 6, 7, 8, 9, 10, 11, 12]) 68 (B ((decide (x30 = 0)) && x32)) (fun K => ?_) ?_
    ·rcases Bool.eq_false_or_eq_true (decide (x30 = 0)) with h34 | h34
     ·
      refine gT h34 rfl rfl rfl rfl rfl rfl (AO.ops rfl rfl (mv rfl) ?_)
      refine sS rfl rfl rfl (opS_pick_t (av := .v _) rfl h34 rfl) ?_
      exact K _ 1 _ (B_congr (and_t h34)) rfl rfl
     ·
      refine gF h34 rfl rfl rfl rfl rfl ?_
      refine sS rfl rfl rfl (opS_pick_f (av := .v _) rfl h34 rfl) ?_
      exact K _ 1 _ (B_congr (and_f h34)) rfl rfl
    refine sS rfl rfl rfl (mv rfl) ?_
    refine AR.meet (l := [12]) 75 (B (((decide (x30 = 0)) && x32) && (decide (x29 = a3)))) (fun K => ?_) ?_
    ·rcases Bool.eq_false_or_eq_true ((decide (x30 = 0)) && x32) with h35 | h35
     ·
      refine gT h35 rfl rfl rfl rfl rfl rfl (AO.ops rfl rfl (opS_move (av := slE _ _ _) rfl) ?_)
      refine gT h35 rfl rfl rfl rfl rfl rfl (AO.ops rfl rfl (opS_conv_bytes_str Tryd.underlying24 Tryd.underlying5 Tryd.underlying9 rfl) ?_)
      refine gT h35 rfl rfl rfl rfl rfl rfl (AO.ops rfl rfl (opS_move (av := slE _ _ _) rfl) ?_)
      refine gT h35 rfl rfl rfl rfl rfl rfl (AO.ops rfl rfl (opS_conv_bytes_str Tryd.underlying24 Tryd.underlying5 Tryd.underlying9 rfl) ?_)
      refine gT h35 rfl rfl rfl rfl rfl rfl (AO.ops rfl rfl (opS_eqs rfl rfl) ?_)
      refine sS rfl rfl rfl (opS_pick_t (av := .v _) rfl h35 rfl) ?_
      exact K _ 5 _ (B_congr (and_t h35)) rfl rfl
     ·
      refine gF h35 rfl rfl rfl rfl rfl ?_
      refine gF h35 rfl rfl rfl rfl rfl ?_
      refine gF h35 rfl rfl rfl rfl rfl ?_
      refine gF h35 rfl rfl rfl rfl rfl ?_
      refine gF h35 rfl rfl rfl rfl rfl ?_
      refine sS rfl rfl rfl (opS_pick_f (av := .v _) rfl h35 rfl) ?_
      exact K _ 5 _ (B_congr (and_f h35)) rfl rfl
    refine sS rfl rfl rfl (asg rfl) ?_
    refine AR.nil ?_
    show AW _ _ _ _ _ _
    refine AW.ret ?_
    obtain rfl := Option.some.inj H
    exact And.intro rfl (Exists.intro _ (Exists.intro _ ⟨ResV.oneW rfl (.refl _), Sub.at [] rfl, rfl, rfl⟩))
end Go.Proofs.YtiahdbdkjjmfiaaDoor
namespace Go.Hd
open Go.Pv Go.Av
abbrev Bs := List UInt8
def sp (c : UInt8) : Bs → List Bs
  | [] => [[]]
  | b :: r => if b = c then [] :: sp c r else match sp c r with
    | [] => [[b]]
    | p :: ps => (b :: p) :: ps
theorem sp_ne (c : UInt8) (s : Bs) : sp c s ≠ [] := by
  cases s with
  | nil => simp [sp]
  | cons b r => unfold sp; split; simp; split <;> simp
theorem index_one_cons (b c : UInt8) (l : Bs) : Go.Lib.index (b :: l) [c] = if b = c then 0 else if Go.Lib.index l [c] = -1 then -1 else Go.Lib.index l [c] + 1 := by
  by_cases h : b = c
  · subst h; simp [Go.Lib.index]
  · simp [Go.Lib.index, h, Ne.symm h]
def prep (cur : Bs) : List Bs → List Bs
  | [] => [cur]
  | p :: ps => (cur ++ p) :: ps
theorem sp_cons_ne {b c : UInt8} (h : ¬ b = c) (r : Bs) : sp c (b :: r) = prep [b] (sp c r) := by
  simp only [sp, h, if_false]
  cases sp c r <;> rfl
theorem sp_cons_eq (c : UInt8) (r : Bs) : sp c (c :: r) = [] :: sp c r := by simp [sp]
theorem prep_prep (a b : Bs) (l : List Bs) : prep a (prep b l) = prep (a ++ b) l := by cases l <;> simp [prep]
theorem prep_nil {l : List Bs} (h : l ≠ []) : prep [] l = l := by cases l <;> simp_all [prep]
theorem splitK_eq (c : UInt8) : ∀ (s : Bs), Go.Lib.splitK [c] 0 (s.count c) s = sp c s
  | [] => rfl
  | b :: l => by
    have ih := splitK_eq c l
    have hi := index_one_cons b c l
    have hge := Go.Lib.index_ge l [c]
    by_cases h : b = c
    · subst h
      rw [List.count_cons_self, sp_cons_eq, Go.Lib.splitK, hi]
      simp [ih]
    · rw [List.count_cons_of_ne h, sp_cons_ne h, ← ih]
      cases hk : l.count c with
      | zero => simp [Go.Lib.splitK, prep]
      | succ k =>
        rw [Go.Lib.splitK, Go.Lib.splitK, hi]
        simp only [h, if_false]
        by_cases hm : Go.Lib.index l [c] = -1
        · simp [hm, prep]
        · obtain ⟨j, hj⟩ := Int.eq_ofNat_of_zero_le (show 0 ≤ Go.Lib.index l [c] by omega)
          have h2 : ¬ (Go.Lib.index l [c] + 1 = -1) := by omega
          have h3 : (Go.Lib.index l [c] + 1).toNat = j + 1 := by omega
          have h4 : (Go.Lib.index l [c]).toNat = j := by omega
          simp [hm, h2, h3, h4, prep]
theorem split_one (s : Bs) (c : UInt8) : Go.Lib.split s [c] = sp c s := by
  unfold Go.Lib.split
  rw [Go.Lib.count_one, splitK_eq]
theorem sp_length (c : UInt8) (s : Bs) : (sp c s).length ≤ s.length + 1 := by
  induction s with
  | nil => simp [sp]
  | cons b r ih =>
    by_cases h : b = c
    · subst h; rw [sp_cons_eq]; simp; omega
    · rw [sp_cons_ne h]
      cases hs : sp c r with
      | nil => simp [prep]
      | cons p ps => rw [hs] at ih; simp [prep] at ih ⊢; omega
theorem sp_total (c : UInt8) (s : Bs) : Str.total (sp c s) + (sp c s).length = s.length + 1 := by
  induction s with
  | nil => simp [sp, Str.total]
  | cons b r ih =>
    by_cases h : b = c
    · subst h; rw [sp_cons_eq]; simp [Str.total]; omega
    · rw [sp_cons_ne h]
      cases hs : sp c r with
      | nil => exact absurd hs (sp_ne c r)
      | cons p ps => rw [hs] at ih; simp [prep, Str.total] at ih ⊢; omega
theorem ref05_loop (s : Bs) (c : UInt8) (hs : s.length ≤ 1000000) : ∀ (n : Nat) (l : List Bs) (f i : Nat), s.length + 1 - i < n → i ≤ s.length → f ≤ i → l.length ≤ i →
    ref05_Split_L1 s c n (l, (f : Int), (i : Int)) = some (l ++ prep ((s.take i).drop f) (sp c (s.drop i))) := by
  intro n
  induction n with
  | zero => intro l f i h; omega
  | succ n ih =>
    intro l f i hn hi hf hl
    show ref05_Split_B1 s c (ref05_Split_L1 s c n) l (f : Int) (i : Int) = _
    unfold ref05_Split_B1 ref05_Split_j2
    by_cases h : i < s.length
    · have hd : s.drop i = s[i] :: s.drop (i + 1) := List.drop_eq_getElem_cons h
      have hne : decide ((i : Int) = (s.length : Int)) = false := decide_eq_false (by omega)
      simp (disch := omega) only [bT, hne, Bool.not_false, grdc_t, grd_At, lt_eq, at_nat h, Bool.false_or]
      rw [hd]
      by_cases hc : s[i] = c
      · simp (disch := (first | omega | (simp; omega))) only [hc, decide_true, cond_true, grd_Sub, sub_nat, grd_Cat, grd_I, cast_succ]
        rw [ih _ _ _ (by omega) (by omega) (by omega) (by simp; omega)]
        rw [List.drop_eq_nil_of_le (show (s.take (i + 1)).length ≤ i + 1 by simp; omega), prep_nil (sp_ne _ _), sp_cons_eq]
        simp [prep]
      · simp (disch := (first | omega | (simp; omega))) only [hc, decide_false, cond_false, grd_I, cast_succ]
        rw [ih _ _ _ (by omega) (by omega) (by omega) (by omega), sp_cons_ne hc, prep_prep]
        rw [List.take_succ_eq_append_getElem h, List.drop_append_of_le_length (by simp; omega)]
    · have hi2 : i = s.length := by omega
      subst hi2
      have hyes : decide ((s.length : Int) = (s.length : Int)) = true := decide_eq_true rfl
      simp (disch := (first | omega | (simp; omega))) only [bT, hyes, Bool.not_true, grdc_f, lt_eq, Bool.true_or, cond_true, grd_Sub, sub_nat, grd_Cat, grd_I, cast_succ, List.drop_length]
      obtain ⟨m, rfl⟩ : ∃ m, n = m + 1 := ⟨n - 1, by omega⟩
      show ref05_Split_B1 s c (ref05_Split_L1 s c m) _ _ ((s.length + 1 : Nat) : Int) = _
      unfold ref05_Split_B1 ref05_Split_j1
      have h1 : ¬ (((s.length + 1 : Nat) : Int) ≤ (s.length : Int)) := by omega
      rw [bF h1]
      simp [sp, prep]
theorem ref05_Split_eq (F : Nat) (s : Bs) (c : UInt8) (hs : s.length ≤ 1000000) (hF : s.length + 1 < F) : ref05_Split F s c = some (sp c s) := by
  have := ref05_loop s c hs F [] 0 0 (by omega) (by omega) (by omega) (by simp)
  rw [show ref05_Split F s c = ref05_Split_L1 s c F ([], ((0 : Nat) : Int), ((0 : Nat) : Int)) from rfl, this]
  simp [prep_nil (sp_ne _ _)]
end Go.Hd
namespace Go.Hd
open Go.Pv Go.Av
theorem of_all8 (p : UInt8 → Bool) (h : ∀ k : Fin 256, p (UInt8.ofNat k.val) = true) (b : UInt8) : p b = true := by
  have := h ⟨b.toNat, b.toNat_lt⟩
  simpa using this
theorem u64_id (x : Int) (h0 : 0 ≤ x) (h1 : x < 18446744073709551616) : IntKind.u64.wrap x = x := by
  have : IntKind.u64.wrap x = x % 18446744073709551616 := rfl
  rw [this]; omega
theorem bvn (n : Nat) (h : n < 2 ^ 64) : (BitVec.ofInt 64 (n : Int)).toNat = n := by
  rw [BitVec.ofInt_natCast, BitVec.toNat_ofNat]; exact Nat.mod_eq_of_lt h
theorem or_two (a b k : Nat) (ha : a * 2 ^ k < 2 ^ 64) (hb : b < 2 ^ k) (hk : b < 2 ^ 64) : (BitVec.ofInt IntKind.u64.bits ((a * 2 ^ k : Nat) : Int) ||| BitVec.ofInt IntKind.u64.bits (b : Int)).toNat = a * 2 ^ k + b := by
  show (BitVec.ofInt 64 ((a * 2 ^ k : Nat) : Int) ||| BitVec.ofInt 64 (b : Int)).toNat = _
  rw [BitVec.toNat_or, bvn _ ha, bvn _ hk, ← Nat.shiftLeft_eq, Nat.shiftLeft_add_eq_or_of_lt hb]
theorem and_63 (a : Nat) (ha : a < 2 ^ 64) : (BitVec.ofInt IntKind.u64.bits (a : Int) &&& BitVec.ofInt IntKind.u64.bits 63).toNat = a % 64 := by
  show (BitVec.ofInt 64 (a : Int) &&& BitVec.ofInt 64 ((63 : Nat) : Int)).toNat = _
  rw [BitVec.toNat_and, bvn _ ha, bvn _ (by decide)]
  exact Nat.and_two_pow_sub_one_eq_mod a 6
def q3 (a b c : Nat) : Nat := a * 65536 + b * 256 + c
def ch (n : Nat) : UInt8 := b64_k1.getD n default
theorem val3 (a b c : UInt8) : IntKind.u64.wrap ((BitVec.ofInt IntKind.u64.bits (IntKind.u64.wrap ((BitVec.ofInt IntKind.u64.bits (IntKind.u64.wrap ((IntKind.u64.wrap (a.toNat : Int)) * 2 ^ min (Int.toNat 16) IntKind.u64.bits)) ||| BitVec.ofInt IntKind.u64.bits (IntKind.u64.wrap ((IntKind.u64.wrap (b.toNat : Int)) * 2 ^ min (Int.toNat 8) IntKind.u64.bits))).toNat)) ||| BitVec.ofInt IntKind.u64.bits (IntKind.u64.wrap (c.toNat : Int))).toNat) = (q3 a.toNat b.toNat c.toNat : Int) := by
  have ha := a.toNat_lt
  have hb := b.toNat_lt
  have hc := c.toNat_lt
  have e16 : (2 : Int) ^ min (Int.toNat 16) IntKind.u64.bits = 65536 := by decide +kernel
  have e8 : (2 : Int) ^ min (Int.toNat 8) IntKind.u64.bits = 256 := by decide +kernel
  rw [e16, e8, u64_id a.toNat (by omega) (by omega), u64_id b.toNat (by omega) (by omega), u64_id c.toNat (by omega) (by omega)]
  rw [u64_id ((a.toNat : Int) * 65536) (by omega) (by omega), u64_id ((b.toNat : Int) * 256) (by omega) (by omega)]
  have e1 : (a.toNat : Int) * 65536 = ((a.toNat * 2 ^ 16 : Nat) : Int) := by omega
  have e2 : (b.toNat : Int) * 256 = ((b.toNat * 256 : Nat) : Int) := by omega
  rw [e1, e2, or_two a.toNat (b.toNat * 256) 16 (by omega) (by omega) (by omega)]
  rw [u64_id ((a.toNat * 2 ^ 16 + b.toNat * 256 : Nat) : Int) (by omega) (by omega)]
  have e3 : a.toNat * 2 ^ 16 + b.toNat * 256 = (a.toNat * 256 + b.toNat) * 2 ^ 8 := by omega
  rw [e3, or_two (a.toNat * 256 + b.toNat) c.toNat 8 (by omega) (by omega) (by omega)]
  rw [u64_id (((a.toNat * 256 + b.toNat) * 2 ^ 8 + c.toNat : Nat) : Int) (by omega) (by omega)]
  unfold q3; omega
theorem idx6 (s : Nat) (v : Nat) (hv : v < 16777216) (hs : s ≤ 18) : IntKind.u64.wrap ((BitVec.ofInt IntKind.u64.bits (Int.fdiv (v : Int) (2 ^ min s IntKind.u64.bits)) &&& BitVec.ofInt IntKind.u64.bits 63).toNat) = ((v / 2 ^ s % 64 : Nat) : Int) := by
  have e : min s IntKind.u64.bits = s := by show min s 64 = s; omega
  have e2 : Int.fdiv (v : Int) (2 ^ s) = ((v / 2 ^ s : Nat) : Int) := by
    have : ((2 : Int) ^ s) = ((2 ^ s : Nat) : Int) := by simp
    rw [this, Int.fdiv_eq_ediv_of_nonneg _ (Int.natCast_nonneg _)]; rfl
  have h1 : v / 2 ^ s ≤ v := Nat.div_le_self _ _
  rw [e, e2, and_63 _ (by omega), u64_id _ (by omega) (by omega)]
theorem k1_len : b64_k1.length = 64 := by decide +kernel
theorem rk_eq : headr_k1 = b64_k1 := by decide +kernel
theorem at_ch (n : Nat) : at_ b64_k1 (n : Int) = ch n := by
  unfold at_ ch; rw [Int.toNat_natCast]
def four (a b c : UInt8) : Bs := let v := q3 a.toNat b.toNat c.toNat; [ch (v / 262144), ch (v / 4096 % 64), ch (v / 64 % 64), ch (v % 64)]
def enc : Bs → Bs
  | a :: b :: c :: r => four a b c ++ enc r
  | [a, b] => (four a b 0).take 3 ++ [61]
  | [a] => (four a 0 0).take 2 ++ [61, 61]
  | [] => []
theorem enc_len : ∀ s : Bs, (enc s).length ≤ 2 * s.length + 2
  | a :: b :: c :: r => by
    have := enc_len r
    simp [enc, four]; omega
  | [a, b] => by simp [enc, four]
  | [a] => by simp [enc, four]
  | [] => by simp [enc]
theorem q3_lt (a b c : UInt8) : q3 a.toNat b.toNat c.toNat < 16777216 := by
  have ha := a.toNat_lt
  have hb := b.toNat_lt
  have hc := c.toNat_lt
  unfold q3; omega
theorem group_eq (F : Nat) (s : Bs) (a b c : UInt8) (hs : s.length ≤ 3) (h : cpyB [0, 0, 0] s = [a, b, c]) :
    b64_group F s = some (ch (q3 a.toNat b.toNat c.toNat / 262144), bif decide ((s.length : Int) < 1) then 61 else ch (q3 a.toNat b.toNat c.toNat / 4096 % 64), bif decide ((s.length : Int) < 2) then 61 else ch (q3 a.toNat b.toNat c.toNat / 64 % 64), bif decide ((s.length : Int) < 3) then 61 else ch (q3 a.toNat b.toNat c.toNat % 64)) := by
  have hq := q3_lt a b c
  unfold b64_group
  rw [grd_D hs, lt_eq, h]
  have g0 : ([a, b, c].getD 0 0) = a := rfl
  have g1 : ([a, b, c].getD 1 0) = b := rfl
  have g2 : ([a, b, c].getD 2 0) = c := rfl
  unfold b64_group_j5 b64_group_j4 b64_group_j3 b64_group_j2 b64_group_j1
  rw [g0, g1, g2, val3]
  have d16 : (decide ((0 : Int) ≤ 16)) = true := rfl
  have i18 := idx6 (Int.toNat 18) _ hq (by decide)
  have i12 := idx6 (Int.toNat 12) _ hq (by decide)
  have i6 := idx6 (Int.toNat 6) _ hq (by decide)
  have i0 := idx6 (Int.toNat 0) _ hq (by decide)
  rw [i18, i12, i6, i0]
  have k : ∀ n : Nat, okAt ((n % 64 : Nat) : Int) b64_k1.length = true := fun n => by rw [k1_len]; exact decide_eq_true (by omega)
  have e18 : q3 a.toNat b.toNat c.toNat / 2 ^ Int.toNat 18 % 64 = q3 a.toNat b.toNat c.toNat / 262144 := by
    show q3 a.toNat b.toNat c.toNat / 262144 % 64 = _; omega
  have e12 : q3 a.toNat b.toNat c.toNat / 2 ^ Int.toNat 12 % 64 = q3 a.toNat b.toNat c.toNat / 4096 % 64 := rfl
  have e6 : q3 a.toNat b.toNat c.toNat / 2 ^ Int.toNat 6 % 64 = q3 a.toNat b.toNat c.toNat / 64 % 64 := rfl
  have e0 : q3 a.toNat b.toNat c.toNat / 2 ^ Int.toNat 0 % 64 = q3 a.toNat b.toNat c.toNat % 64 := by
    show q3 a.toNat b.toNat c.toNat / 1 % 64 = _; omega
  have k2 : okAt ((q3 a.toNat b.toNat c.toNat / 262144 : Nat) : Int) b64_k1.length = true := by rw [k1_len]; exact decide_eq_true (by omega)
  simp (disch := first | omega | decide) only [grd_D, k, grd_t, lt_eq, at_ch, e18, e12, e6, e0, k2]
  rw [bF (by omega)]
  by_cases h1 : (s.length : Int) < 1
  · simp (disch := omega) only [bT]
  · by_cases h2 : (s.length : Int) < 2
    · simp (disch := omega) only [bT, bF]
    · by_cases h3 : (s.length : Int) < 3
      · simp (disch := omega) only [bT, bF]
      · simp (disch := omega) only [bF]
theorem raw_loop (F : Nat) : ∀ (n : Nat) (s out : Bs), s.length < n → out.length + 4 * s.length + 10 ≤ 100000000 → b64_Raw_L1 F n (s, out) = some (out ++ enc s) := by
  intro n
  induction n with
  | zero => intro s out h; omega
  | succ n ih =>
    intro s out hn hl
    show b64_Raw_B1 F (b64_Raw_L1 F n) s out = _
    unfold b64_Raw_B1
    have key : ∀ (p r g : Bs) (a b c : UInt8) (x y z w : UInt8), s = p ++ r → (min 3 (s.length : Int)) = (p.length : Int) → 1 ≤ p.length → p.length ≤ 3 → cpyB [0, 0, 0] p = [a, b, c] →
        b64_group F p = some (x, y, z, w) → enc s = [x, y, z, w] ++ enc r →
        (bif decide (0 < (s.length : Int)) then grd (okTo (min 3 (s.length : Int)) s.length) <| lt (to_ s (min 3 (s.length : Int))) fun x14 => bnd4 (b64_group F x14) fun x16 x17 x18 x19 => grd (okW out ([x16, x17, x18, x19] : List UInt8)) <| lt (out ++ ([x16, x17, x18, x19] : List UInt8)) fun x23 => grd (okTo (min 3 (s.length : Int)) s.length) <| lt (from_ s (min 3 (s.length : Int))) fun x27 => b64_Raw_L1 F n (x27, x23) else b64_Raw_j1 out) = some (out ++ enc s) := by
      intro p r g a b c x y z w hs hm h1 h3 hc hg he
      have hlen : s.length = p.length + r.length := by rw [hs]; simp
      rw [bT (by omega), grd_To (by omega), lt_eq, hm, to_nat]
      have e1 : s.take p.length = p := by rw [hs]; simp
      have e2 : s.drop p.length = r := by rw [hs]; simp
      rw [e1, hg]
      show grd (okW out [x, y, z, w]) _ = _
      rw [grd_W (by simp; omega), lt_eq, grd_To (by omega), lt_eq, from_nat, e2, ih _ _ (by omega) (by simp; omega), he]
      simp
    match s with
    | a :: b :: c :: r =>
      refine key [a, b, c] r [] a b c _ _ _ _ rfl (by simp; omega) (by simp) (by simp) rfl (group_eq F _ a b c (by simp) rfl) ?_
      rw [bF (by simp), bF (by simp), bF (by simp)]; rfl
    | [a, b] =>
      refine key [a, b] [] [] a b 0 _ _ _ _ rfl (by simp; try omega) (by simp) (by simp) rfl (group_eq F _ a b 0 (by simp) rfl) ?_
      rw [bF (by simp), bF (by simp), bT (by simp)]; rfl
    | [a] =>
      refine key [a] [] [] a 0 0 _ _ _ _ rfl (by simp; try omega) (by simp) (by simp) rfl (group_eq F _ a 0 0 (by simp) rfl) ?_
      rw [bF (by simp), bT (by simp), bT (by simp)]; rfl
    | [] =>
      rw [bF (by simp)]
      unfold b64_Raw_j1
      rw [grd_W (by simp at hl ⊢; omega)]; simp [enc]
theorem Raw_eq (F : Nat) (s : Bs) (hF : s.length < F) (hs : s.length ≤ 1000000) : b64_Raw F s = some (enc s) := by
  have := raw_loop F F s [] hF (by simp; omega)
  rw [List.nil_append] at this
  exact this
theorem rat_ch (n : Nat) : at_ headr_k1 (n : Int) = ch n := by rw [rk_eq]; exact at_ch n
theorem rk_len : headr_k1.length = 64 := by rw [rk_eq]; exact k1_len
theorem okc (n : Nat) (h : n < 64) : okAt (n : Int) headr_k1.length = true := by rw [rk_len]; exact decide_eq_true (by omega)
def gb (s : Bs) (i : Nat) : UInt8 := s.getD i 0
theorem j4_eq (s out : Bs) (i v : Nat) (rec8 : (Bs × Int) → Option Bs) (hs : s.length ≤ 1000000) (hi : i < s.length) (hv : v < 16777216) (ho : out.length ≤ 100000000) :
    ref13_Raw_j4 s out (i : Int) rec8 (v : Int) = rec8 (out ++ [ch (v / 262144), ch (v / 4096 % 64), bif decide (i + 1 < s.length) then ch (v / 64 % 64) else 61, bif decide (i + 2 < s.length) then ch (v % 64) else 61], ((i + 3 : Nat) : Int)) := by
  unfold ref13_Raw_j4
  have a1 : ((v : Int) / 262144) = ((v / 262144 : Nat) : Int) := by omega
  have a2 : ((v : Int) / 4096 % 64) = ((v / 4096 % 64 : Nat) : Int) := by omega
  have a3 : ((v : Int) / 64 % 64) = ((v / 64 % 64 : Nat) : Int) := by omega
  have a4 : ((v : Int) % 64) = ((v % 64 : Nat) : Int) := by omega
  have a5 : ((i : Int) + 3) = ((i + 3 : Nat) : Int) := by omega
  have hq : ∀ n : Nat, okAt ((n % 64 : Nat) : Int) headr_k1.length = true := fun n => okc _ (by omega)
  rw [grd_Div (by omega), a1, okc _ (by omega), grd_t, lt_eq, rat_ch, grd_Div (by omega), grd_Div (by omega), a2, hq, grd_t, lt_eq, rat_ch, grd_Cat (by simp; omega), lt_eq, grd_I (by omega)]
  unfold ref13_Raw_j3 ref13_Raw_j2
  by_cases h1 : i + 1 < s.length
  · rw [bT (show (i : Int) + 1 < s.length by omega), bT h1, grd_Div (by omega), grd_Div (by omega), a3, hq, grd_t, lt_eq, rat_ch, grd_Cat (by simp; omega), lt_eq, grd_I (by omega)]
    by_cases h2 : i + 2 < s.length
    · rw [bT (show (i : Int) + 2 < s.length by omega), bT h2, grd_Div (by omega), a4, hq, grd_t, lt_eq, rat_ch, grd_Cat (by simp; omega), lt_eq, grd_I (by omega), a5]
      simp
    · rw [bF (show ¬ (i : Int) + 2 < s.length by omega), bF h2, grd_Cat (by simp; omega), lt_eq, grd_I (by omega), a5]
      simp
  · rw [bF (show ¬ (i : Int) + 1 < s.length by omega), bF h1, grd_Cat (by simp; omega), lt_eq, grd_I (by omega)]
    rw [bF (show ¬ (i : Int) + 2 < s.length by omega), bF (show ¬ i + 2 < s.length by omega), grd_Cat (by simp; omega), lt_eq, grd_I (by omega), a5]
    simp
theorem rL1s (s out : Bs) (i : Int) (m : Nat) (rec8 : (Bs × Int) → Option Bs) (x : Int × Int) : ref13_Raw_L1 s out i rec8 (m + 1) x = ref13_Raw_B1 s out i rec8 (ref13_Raw_L1 s out i rec8 m) x.1 x.2 := rfl
theorem in_step (s out : Bs) (i j v m : Nat) (rec8 : (Bs × Int) → Option Bs) (hs : s.length ≤ 1000000) (hi : i < s.length) (hj : j < i + 3) (hv : v < 16777216) :
    ref13_Raw_L1 s out (i : Int) rec8 (m + 1) ((v : Int), (j : Int)) = ref13_Raw_L1 s out (i : Int) rec8 m (((256 * v + (gb s j).toNat : Nat) : Int), ((j + 1 : Nat) : Int)) := by
  show ref13_Raw_B1 s out (i : Int) rec8 (ref13_Raw_L1 s out (i : Int) rec8 m) (v : Int) (j : Int) = _
  unfold ref13_Raw_B1 ref13_Raw_j5
  rw [grd_I (by omega), bT (by omega), grd_I (by omega)]
  by_cases h : j < s.length
  · have h8 := s[j].toNat_lt
    rw [bT (by omega), grd_At (by omega), lt_eq, at_nat h, grd_I (by omega), grd_I (by omega)]
    have : gb s j = s[j] := by simp [gb, h]
    rw [this]; rfl
  · rw [bF (by omega), grd_I (by omega)]
    have : gb s j = 0 := by simp [gb, List.getD, List.getElem?_eq_none (show s.length ≤ j by omega)]
    rw [this]; rfl
theorem in_three (s out : Bs) (i m : Nat) (rec8 : (Bs × Int) → Option Bs) (hs : s.length ≤ 1000000) (hi : i < s.length) :
    ref13_Raw_L1 s out (i : Int) rec8 (m + 3) (((0 : Nat) : Int), (i : Int)) = ref13_Raw_L1 s out (i : Int) rec8 m (((q3 (gb s i).toNat (gb s (i + 1)).toNat (gb s (i + 2)).toNat : Nat) : Int), ((i + 3 : Nat) : Int)) := by
  have h0 := (gb s i).toNat_lt
  have h1 := (gb s (i + 1)).toNat_lt
  have h2 := (gb s (i + 2)).toNat_lt
  refine (in_step s out i i 0 (m + 2) rec8 hs hi (by omega) (by omega)).trans ?_
  refine (in_step s out i (i + 1) (256 * 0 + (gb s i).toNat) (m + 1) rec8 hs hi (by omega) (by omega)).trans ?_
  refine (in_step s out i (i + 2) (256 * (256 * 0 + (gb s i).toNat) + (gb s (i + 1)).toNat) m rec8 hs hi (by omega) (by omega)).trans ?_
  have e : 256 * (256 * (256 * 0 + (gb s i).toNat) + (gb s (i + 1)).toNat) + (gb s (i + 2)).toNat = q3 (gb s i).toNat (gb s (i + 1)).toNat (gb s (i + 2)).toNat := by unfold q3; omega
  rw [e]
theorem enc_drop (s : Bs) (i : Nat) (h : i < s.length) : enc (s.drop i) = [ch (q3 (gb s i).toNat (gb s (i + 1)).toNat (gb s (i + 2)).toNat / 262144), ch (q3 (gb s i).toNat (gb s (i + 1)).toNat (gb s (i + 2)).toNat / 4096 % 64), bif decide (i + 1 < s.length) then ch (q3 (gb s i).toNat (gb s (i + 1)).toNat (gb s (i + 2)).toNat / 64 % 64) else 61, bif decide (i + 2 < s.length) then ch (q3 (gb s i).toNat (gb s (i + 1)).toNat (gb s (i + 2)).toNat % 64) else 61] ++ enc (s.drop (i + 3)) := by
  have g : ∀ k, gb s (i + k) = (s.drop i).getD k 0 := by intro k; simp [gb, List.getD]
  have g0 := g 0
  have g1 := g 1
  have g2 := g 2
  have hl : (s.drop i).length = s.length - i := by simp
  have hd : s.drop (i + 3) = (s.drop i).drop 3 := by simp
  rw [Nat.add_zero] at g0
  rw [g0, g1, g2, hd]
  match hm : s.drop i with
  | a :: b :: c :: r => rw [hm] at hl; simp at hl; rw [bT (by omega), bT (by omega)]; rfl
  | [a, b] => rw [hm] at hl; simp at hl; rw [bT (by omega), bF (by omega)]; rfl
  | [a] => rw [hm] at hl; simp at hl; rw [bF (by omega), bF (by omega)]; rfl
  | [] => rw [hm] at hl; simp at hl; omega
theorem rraw_loop (F : Nat) (hF : 4 ≤ F) (s : Bs) (hs : s.length ≤ 1000000) : ∀ (n i : Nat) (out : Bs), s.length - i < n → i ≤ s.length + 3 → out.length ≤ 4 * i → ref13_Raw_L2 F s n (out, (i : Int)) = some (out ++ enc (s.drop i)) := by
  intro n
  induction n with
  | zero => intro i out h; omega
  | succ n ih =>
    intro i out hn hi ho
    show ref13_Raw_B2 F s (ref13_Raw_L2 F s n) out (i : Int) = _
    unfold ref13_Raw_B2
    by_cases h : i < s.length
    · obtain ⟨m, rfl⟩ : ∃ m, F = m + 4 := ⟨F - 4, by omega⟩
      have hq := q3_lt (gb s i) (gb s (i + 1)) (gb s (i + 2))
      rw [bT (by omega)]
      have h3 := in_three s out i (m + 1) (ref13_Raw_L2 (m + 4) s n) hs h
      refine h3.trans ?_
      rw [rL1s]
      unfold ref13_Raw_B1
      rw [grd_I (by omega), bF (by omega), j4_eq s out i _ _ hs h (by omega) (by omega), ih _ _ (by omega) (by omega) (by simp; omega), enc_drop s i h, List.append_assoc]
    · have hd : s.drop i = [] := List.drop_eq_nil_of_le (by omega)
      rw [bF (by omega), hd]
      unfold ref13_Raw_j1; simp [enc]
theorem rRaw_eq (F : Nat) (s : Bs) (hF : s.length + 4 < F) (hs : s.length ≤ 1000000) : ref13_Raw F s = some (enc s) := by
  have := rraw_loop F (by omega) s hs F 0 [] (by omega) (by omega) (by simp)
  rw [List.nil_append, List.drop_zero] at this
  exact this
end Go.Hd
namespace Go.Hd
open Go.Pv Go.Av
theorem of_all64 (p : Nat → Bool) (h : ∀ k : Fin 64, p k.val = true) (n : Nat) (hn : n < 64) : p n = true := h ⟨n, hn⟩
def num (c : UInt8) : Int := if c = 61 then 0 else Go.Lib.indexByte b64_k1 c
theorem num_ch (n : Nat) (h : n < 64) : num (ch n) = n ∧ ch n ≠ 61 := by
  have := of_all64 (fun n => decide (num (ch n) = n ∧ ch n ≠ 61)) (by decide +kernel) n h
  exact of_decide_eq_true this
def stp (acc n : Int) (c : UInt8) : Option (Int × Int) :=
  if num c < 0 ∨ (if c = 61 then n - 1 else n) < 1 then none
  else some (IntKind.u64.wrap ((BitVec.ofInt IntKind.u64.bits (IntKind.u64.wrap (acc * 2 ^ min (Int.toNat 6) IntKind.u64.bits)) ||| BitVec.ofInt IntKind.u64.bits (IntKind.u64.wrap (num c))).toNat), (if c = 61 then n - 1 else n))
theorem stp_n {acc n a m : Int} {c : UInt8} (h : stp acc n c = some (a, m)) : 1 ≤ m ∧ m ≤ n := by
  unfold stp at h
  by_cases hc : num c < 0 ∨ (if c = 61 then n - 1 else n) < 1
  · rw [if_pos hc] at h; cases h
  · rw [if_neg hc] at h
    have := (Prod.mk.inj (Option.some.inj h)).2
    rw [← this]
    by_cases h6 : c = 61
    · rw [if_pos h6] at hc ⊢; omega
    · rw [if_neg h6] at hc ⊢; omega
theorem stp_ch (acc : Nat) (n : Int) (k : Nat) (ha : acc < 262144) (hk : k < 64) (hn : 1 ≤ n) : stp (acc : Int) n (ch k) = some (((acc * 64 + k : Nat) : Int), n) := by
  have ⟨h1, h2⟩ := num_ch k hk
  have e6 : (2 : Int) ^ min (Int.toNat 6) IntKind.u64.bits = 64 := by decide +kernel
  have e7 : (acc : Int) * 64 = ((acc * 2 ^ 6 : Nat) : Int) := by omega
  unfold stp
  rw [if_neg h2, if_neg (by omega), h1, e6, u64_id ((acc : Int) * 64) (by omega) (by omega), u64_id (k : Int) (by omega) (by omega), e7, or_two acc k 6 (by omega) (by omega) (by omega), u64_id ((acc * 2 ^ 6 + k : Nat) : Int) (by omega) (by omega)]
theorem stp_pad (acc : Nat) (n : Int) (ha : acc < 262144) (hn : 2 ≤ n) : stp (acc : Int) n 61 = some (((acc * 64 : Nat) : Int), n - 1) := by
  have e6 : (2 : Int) ^ min (Int.toNat 6) IntKind.u64.bits = 64 := by decide +kernel
  have e7 : (acc : Int) * 64 = ((acc * 2 ^ 6 : Nat) : Int) := by omega
  have e8 : num 61 = ((0 : Nat) : Int) := rfl
  unfold stp
  rw [if_pos rfl, if_neg (by rw [e8]; omega), e8, e6, u64_id ((acc : Int) * 64) (by omega) (by omega), u64_id ((0 : Nat) : Int) (by omega) (by omega), e7, or_two acc 0 6 (by omega) (by omega) (by omega), u64_id ((acc * 2 ^ 6 + 0 : Nat) : Int) (by omega) (by omega), Nat.add_zero]
def g4 (c0 c1 c2 c3 : UInt8) : Option (Int × Int) :=
  match stp 0 3 c0 with
  | none => none
  | some (a, n) => match stp a n c1 with
    | none => none
    | some (a, n) => match stp a n c2 with
      | none => none
      | some (a, n) => stp a n c3
def three (v n : Int) : Bs := to_ ([Go.Av.toB (Int.fdiv v (2 ^ min (Int.toNat 16) IntKind.u64.bits)), Go.Av.toB (Int.fdiv v (2 ^ min (Int.toNat 8) IntKind.u64.bits)), Go.Av.toB v] : Bs) n
def decP : Bs → Option Bs
  | [] => some []
  | c0 :: c1 :: c2 :: c3 :: r => match g4 c0 c1 c2 c3 with
    | none => none
    | some (v, n) => match decP r with
      | none => none
      | some d => some (three v n ++ d)
  | _ => none
theorem p_step (out s : Bs) (rec8 : (Bs × Bs) → Option (Bs × Int)) (m j : Nat) (acc n : Int) (hj : j < 4) (hs : 4 ≤ s.length) (hn : n ≤ 3 ∧ 0 ≤ n) (c : UInt8) (hcc : s[j]'(by omega) = c) :
    b64_Bytes_L1 out s rec8 (m + 1) (acc, n, (j : Int)) = match stp acc n c with
      | none => some ([], 2)
      | some (a, k) => b64_Bytes_L1 out s rec8 m (a, k, ((j + 1 : Nat) : Int)) := by
  subst hcc
  show b64_Bytes_B1 out s rec8 (b64_Bytes_L1 out s rec8 m) acc n (j : Int) = _
  unfold b64_Bytes_B1 b64_Bytes_j3 stp num
  rw [bT (by omega), grd_At (by omega), lt_eq, at_nat (by omega), lt_eq, grd_At (by omega), lt_eq]
  by_cases hc : s[j]'(by omega) = 61
  · rw [bT hc, if_pos hc, if_pos hc, grd_I (by omega)]
    by_cases h1 : n - 1 < 1
    · rw [decide_eq_true h1, Bool.or_true, cond_true, if_pos (.inr h1)]
    · rw [decide_eq_false h1, decide_eq_false (by omega), Bool.or_false, cond_false, if_neg (by omega), grd_D (by omega), grd_I (by omega)]; rfl
  · rw [bF hc, if_neg hc, if_neg hc]
    by_cases h1 : Go.Lib.indexByte b64_k1 (s[j]'(by omega)) < 0
    · rw [decide_eq_true h1, Bool.true_or, cond_true, if_pos (.inl h1)]
    · by_cases h2 : n < 1
      · rw [decide_eq_true h2, Bool.or_true, cond_true, if_pos (.inr h2)]
      · rw [decide_eq_false h1, decide_eq_false h2, Bool.or_false, cond_false, if_neg (by omega), grd_D (by omega), grd_I (by omega)]; rfl
theorem three_len (v n : Int) : (three v n).length ≤ 3 := by unfold three to_; simp; omega
theorem p_four (out : Bs) (c0 c1 c2 c3 : UInt8) (r : Bs) (rec8 : (Bs × Bs) → Option (Bs × Int)) (m : Nat) (ho : out.length ≤ 10000000) :
    b64_Bytes_L1 out (c0 :: c1 :: c2 :: c3 :: r) rec8 (m + 5) (0, 3, 0) = match g4 c0 c1 c2 c3 with
      | none => some ([], 2)
      | some (v, n) => rec8 (out ++ three v n, r) := by
  have hl : 4 ≤ (c0 :: c1 :: c2 :: c3 :: r).length := by simp
  unfold g4
  refine (p_step out (c0 :: c1 :: c2 :: c3 :: r) rec8 (m + 4) 0 0 3 (by omega) hl (by omega) c0 rfl).trans ?_
  cases h0 : stp 0 3 c0 with
  | none => rfl
  | some x =>
    obtain ⟨a0, n0⟩ := x
    have b0 := stp_n h0
    refine (p_step out (c0 :: c1 :: c2 :: c3 :: r) rec8 (m + 3) 1 a0 n0 (by omega) hl (by omega) c1 rfl).trans ?_
    dsimp only
    cases h1 : stp a0 n0 c1 with
    | none => rfl
    | some x =>
      obtain ⟨a1, n1⟩ := x
      have b1 := stp_n h1
      refine (p_step out (c0 :: c1 :: c2 :: c3 :: r) rec8 (m + 2) 2 a1 n1 (by omega) hl (by omega) c2 rfl).trans ?_
      dsimp only
      cases h2 : stp a1 n1 c2 with
      | none => rfl
      | some x =>
        obtain ⟨a2, n2⟩ := x
        have b2 := stp_n h2
        refine (p_step out (c0 :: c1 :: c2 :: c3 :: r) rec8 (m + 1) 3 a2 n2 (by omega) hl (by omega) c3 rfl).trans ?_
        dsimp only
        cases h3 : stp a2 n2 c3 with
        | none => rfl
        | some x =>
          obtain ⟨a3, n3⟩ := x
          have b3 := stp_n h3
          show b64_Bytes_B1 out (c0 :: c1 :: c2 :: c3 :: r) rec8 (b64_Bytes_L1 out (c0 :: c1 :: c2 :: c3 :: r) rec8 m) a3 n3 ((4 : Nat) : Int) = _
          unfold b64_Bytes_B1 b64_Bytes_j2
          have ht := three_len a3 n3
          have hd : from_ (c0 :: c1 :: c2 :: c3 :: r) 4 = r := rfl
          rw [bF (by omega), grd_D (by omega), grd_D (by omega), grd_To (by simp; omega), lt_eq]
          show grd (okCat (out.length + (three a3 n3).length)) _ = _
          rw [grd_Cat (by omega), lt_eq, grd_To (by simp; omega), lt_eq, hd]; rfl
theorem p_loop (F : Nat) (hF : 5 ≤ F) (a : Bs) : ∀ (n : Nat) (out s : Bs), s.length < n → out.length + s.length ≤ 10000000 →
    b64_Bytes_L2 F a n (out, s) = match decP s with
      | none => some ([], 2)
      | some d => b64_Bytes_j1 F a (out ++ d) := by
  intro n
  induction n with
  | zero => intro out s h; omega
  | succ n ih =>
    intro out s hn hl
    show b64_Bytes_B2 F a (b64_Bytes_L2 F a n) out s = _
    unfold b64_Bytes_B2
    match s with
    | [] => 
      rw [decide_eq_true rfl, Bool.not_true, cond_false]
      show _ = b64_Bytes_j1 F a (out ++ [])
      rw [List.append_nil]
    | [_] => rw [decide_eq_false (by simp), Bool.not_false, cond_true, bT (by simp)]; rfl
    | [_, _] => rw [decide_eq_false (by simp), Bool.not_false, cond_true, bT (by simp)]; rfl
    | [_, _, _] => rw [decide_eq_false (by simp), Bool.not_false, cond_true, bT (by simp)]; rfl
    | c0 :: c1 :: c2 :: c3 :: r =>
      obtain ⟨m, rfl⟩ : ∃ m, F = m + 5 := ⟨F - 5, by omega⟩
      simp only [List.length_cons] at hl hn
      rw [decide_eq_false (by simp), Bool.not_false, cond_true, bF (by simp; omega), p_four out c0 c1 c2 c3 r _ m (by omega)]
      unfold decP
      cases hg : g4 c0 c1 c2 c3 with
      | none => rfl
      | some x =>
        obtain ⟨v, k⟩ := x
        have ht := three_len v k
        show b64_Bytes_L2 (m + 5) a n (out ++ three v k, r) = _
        rw [ih _ _ (by omega) (by simp; omega)]
        cases decP r with
        | none => rfl
        | some d => 
          show b64_Bytes_j1 _ a (out ++ three v k ++ d) = b64_Bytes_j1 _ a (out ++ (three v k ++ d))
          rw [List.append_assoc]
theorem toB_v (v : Nat) (b : UInt8) (h : v % 256 = b.toNat) : Go.Av.toB (v : Int) = b := by
  have e : ((v : Int) % 256).toNat = b.toNat := by omega
  unfold Go.Av.toB
  rw [e]; simp
theorem fd (v k : Nat) : Int.fdiv (v : Int) ((k : Nat) : Int) = ((v / k : Nat) : Int) := by
  rw [Int.fdiv_eq_ediv_of_nonneg _ (Int.natCast_nonneg _)]; rfl
theorem three_q (a b c : UInt8) (n : Nat) : three (q3 a.toNat b.toNat c.toNat : Int) (n : Int) = [a, b, c].take n := by
  have ha := a.toNat_lt
  have hb := b.toNat_lt
  have hc := c.toNat_lt
  have e16 : (2 : Int) ^ min (Int.toNat 16) IntKind.u64.bits = ((65536 : Nat) : Int) := by decide +kernel
  have e8 : (2 : Int) ^ min (Int.toNat 8) IntKind.u64.bits = ((256 : Nat) : Int) := by decide +kernel
  unfold three
  rw [e16, e8, fd, fd, toB_v _ a (by unfold q3; omega), toB_v _ b (by unfold q3; omega), toB_v _ c (by unfold q3; omega), to_nat]
theorem g4_full (a b c : UInt8) : g4 (ch (q3 a.toNat b.toNat c.toNat / 262144)) (ch (q3 a.toNat b.toNat c.toNat / 4096 % 64)) (ch (q3 a.toNat b.toNat c.toNat / 64 % 64)) (ch (q3 a.toNat b.toNat c.toNat % 64)) = some (((q3 a.toNat b.toNat c.toNat : Nat) : Int), 3) := by
  have hq := q3_lt a b c
  generalize q3 a.toNat b.toNat c.toNat = v at hq
  have h0 := stp_ch 0 3 (v / 262144) (by omega) (by omega) (by omega)
  have h1 := stp_ch (0 * 64 + v / 262144) 3 (v / 4096 % 64) (by omega) (by omega) (by omega)
  have h2 := stp_ch ((0 * 64 + v / 262144) * 64 + v / 4096 % 64) 3 (v / 64 % 64) (by omega) (by omega) (by omega)
  have h3 := stp_ch (((0 * 64 + v / 262144) * 64 + v / 4096 % 64) * 64 + v / 64 % 64) 3 (v % 64) (by omega) (by omega) (by omega)
  have e : (((0 * 64 + v / 262144) * 64 + v / 4096 % 64) * 64 + v / 64 % 64) * 64 + v % 64 = v := by omega
  rw [e] at h3
  unfold g4
  rw [show (0 : Int) = ((0 : Nat) : Int) from rfl, h0]
  simp only [h1, h2, h3]
theorem g4_two (a b : UInt8) : g4 (ch (q3 a.toNat b.toNat 0 / 262144)) (ch (q3 a.toNat b.toNat 0 / 4096 % 64)) (ch (q3 a.toNat b.toNat 0 / 64 % 64)) 61 = some (((q3 a.toNat b.toNat 0 : Nat) : Int), 2) := by
  have hq := q3_lt a b 0
  have hv : q3 a.toNat b.toNat 0 % 64 = 0 := by unfold q3; omega
  have hz : (0 : UInt8).toNat = 0 := rfl
  rw [hz] at hq
  generalize q3 a.toNat b.toNat 0 = v at hq hv
  have h0 := stp_ch 0 3 (v / 262144) (by omega) (by omega) (by omega)
  have h1 := stp_ch (0 * 64 + v / 262144) 3 (v / 4096 % 64) (by omega) (by omega) (by omega)
  have h2 := stp_ch ((0 * 64 + v / 262144) * 64 + v / 4096 % 64) 3 (v / 64 % 64) (by omega) (by omega) (by omega)
  have h3 := stp_pad (((0 * 64 + v / 262144) * 64 + v / 4096 % 64) * 64 + v / 64 % 64) 3 (by omega) (by omega)
  have e : (((0 * 64 + v / 262144) * 64 + v / 4096 % 64) * 64 + v / 64 % 64) * 64 = v := by omega
  rw [e] at h3
  unfold g4
  rw [show (0 : Int) = ((0 : Nat) : Int) from rfl, h0]
  simp only [h1, h2, h3]; rfl
theorem g4_one (a : UInt8) : g4 (ch (q3 a.toNat 0 0 / 262144)) (ch (q3 a.toNat 0 0 / 4096 % 64)) 61 61 = some (((q3 a.toNat 0 0 : Nat) : Int), 1) := by
  have hq := q3_lt a 0 0
  have hv : q3 a.toNat 0 0 % 4096 = 0 := by unfold q3; omega
  have hz : (0 : UInt8).toNat = 0 := rfl
  rw [hz] at hq
  generalize q3 a.toNat 0 0 = v at hq hv
  have h0 := stp_ch 0 3 (v / 262144) (by omega) (by omega) (by omega)
  have h1 := stp_ch (0 * 64 + v / 262144) 3 (v / 4096 % 64) (by omega) (by omega) (by omega)
  have h2 := stp_pad ((0 * 64 + v / 262144) * 64 + v / 4096 % 64) 3 (by omega) (by omega)
  have h3 := stp_pad (((0 * 64 + v / 262144) * 64 + v / 4096 % 64) * 64) (3 - 1) (by omega) (by omega)
  have e : (((0 * 64 + v / 262144) * 64 + v / 4096 % 64) * 64) * 64 = v := by omega
  rw [e] at h3
  unfold g4
  rw [show (0 : Int) = ((0 : Nat) : Int) from rfl, h0]
  simp only [h1, h2, h3]; rfl
theorem decP_enc : ∀ b : Bs, decP (enc b) = some b
  | a :: b :: c :: r => by
    have ih := decP_enc r
    show decP (_ :: _ :: _ :: _ :: enc r) = _
    unfold decP
    rw [g4_full, ih]
    show some (three (q3 a.toNat b.toNat c.toNat : Int) ((3 : Nat) : Int) ++ r) = _
    rw [three_q]; rfl
  | [a, b] => by
    show decP (_ :: _ :: _ :: _ :: []) = _
    unfold decP
    rw [show (0 : UInt8).toNat = 0 from rfl, g4_two]
    show some (three (q3 a.toNat b.toNat (0 : UInt8).toNat : Int) ((2 : Nat) : Int) ++ []) = _
    rw [three_q]; rfl
  | [a] => by
    show decP (_ :: _ :: _ :: _ :: []) = _
    unfold decP
    rw [show (0 : UInt8).toNat = 0 from rfl, g4_one]
    show some (three (q3 a.toNat (0 : UInt8).toNat (0 : UInt8).toNat : Int) ((1 : Nat) : Int) ++ []) = _
    rw [three_q]; rfl
  | [] => rfl
theorem enc_inj {a b : Bs} (h : enc a = enc b) : a = b := by
  have := decP_enc a
  rw [h, decP_enc] at this
  exact (Option.some.inj this).symm
theorem decP_len : ∀ (s d : Bs), decP s = some d → d.length ≤ s.length
  | [], d, h => by cases h; simp
  | [_], d, h => by cases h
  | [_, _], d, h => by cases h
  | [_, _, _], d, h => by cases h
  | c0 :: c1 :: c2 :: c3 :: r, d, h => by
    unfold decP at h
    cases hg : g4 c0 c1 c2 c3 with
    | none => rw [hg] at h; cases h
    | some x =>
      obtain ⟨v, n⟩ := x
      rw [hg] at h
      cases hr : decP r with
      | none => rw [hr] at h; cases h
      | some e =>
        rw [hr] at h
        cases h
        have := decP_len r e hr
        have := three_len v n
        simp; omega
open Classical in
noncomputable def dec (s : Bs) : Bs × Int := if h : ∃ b, enc b = s then (h.choose, 0) else ([], 2)
theorem dec_enc (b : Bs) : dec (enc b) = (b, 0) := by
  have h : ∃ x, enc x = enc b := ⟨b, rfl⟩
  unfold dec
  rw [dif_pos h]
  exact Prod.ext (enc_inj h.choose_spec) rfl
theorem dec_no {s : Bs} (h : ¬ ∃ b, enc b = s) : dec s = ([], 2) := by unfold dec; rw [dif_neg h]
theorem Bytes_eq (F : Nat) (s : Bs) (hs : s.length ≤ 400000) (hF : s.length + 10 < F) : b64_Bytes F s = some (dec s) := by
  have hl := p_loop F (by omega) s F [] s (by omega) (by simp; omega)
  show b64_Bytes_L2 F s F ([], s) = _
  rw [hl]
  cases hd : decP s with
  | none =>
    rw [dec_no (fun ⟨b, hb⟩ => by rw [← hb, decP_enc] at hd; cases hd)]
  | some d =>
    have hdl := decP_len s d hd
    show b64_Bytes_j1 F s ([] ++ d) = _
    unfold b64_Bytes_j1
    rw [List.nil_append, Raw_eq F d (by omega) (by omega), bnd_some]
    by_cases he : enc d = s
    · rw [decide_eq_true he, Bool.not_true, cond_false, ← he, dec_enc]
    · rw [decide_eq_false he, Bool.not_false, cond_true, dec_no (fun ⟨b, hb⟩ => by
        apply he; rw [← hb, decP_enc] at hd; cases hd; exact hb)]
end Go.Hd
namespace Go.Hd
open Go.Pv Go.Av
def nameb (c : UInt8) : Bool := ((((decide (97 ≤ (c.toNat : Int))) && (decide ((c.toNat : Int) ≤ 122))) || ((decide (65 ≤ (c.toNat : Int))) && (decide ((c.toNat : Int) ≤ 90)))) || ((decide (48 ≤ (c.toNat : Int))) && (decide ((c.toNat : Int) ≤ 57)))) || (decide (c = 45))
def okb (c : UInt8) : Bool := (decide (32 ≤ (c.toNat : Int))) && (decide ((c.toNat : Int) < 127))
theorem onlyN_loop (F : Nat) (s : Bs) (hs : s.length ≤ 1000000) : ∀ (n i : Nat), s.length - i < n → i ≤ s.length → head_onlyN_L1 F s n (i : Int) = some ((s.drop i).all nameb && !decide (s = [])) := by
  intro n
  induction n with
  | zero => intro i h; omega
  | succ n ih =>
    intro i hn hi
    show head_onlyN_B1 F s (head_onlyN_L1 F s n) (i : Int) = _
    unfold head_onlyN_B1 head_onlyN_j1
    by_cases h : i < s.length
    · have hd : s.drop i = s[i] :: s.drop (i + 1) := List.drop_eq_getElem_cons h
      have hc : head_nameC F s[i] = some (nameb s[i]) := rfl
      rw [bT (by omega), grd_At (by omega), lt_eq, at_nat h, hc, bnd_some, hd, List.all_cons]
      cases hp : nameb s[i] with
      | false => rfl
      | true => rw [Bool.not_true, cond_false, grd_I (by omega), cast_succ, ih (i + 1) (by omega) (by omega), Bool.true_and]
    · rw [bF (by omega), List.drop_eq_nil_of_le (by omega)]; simp
theorem onlyN_eq (F : Nat) (s : Bs) (hs : s.length ≤ 1000000) (hF : s.length < F) : head_onlyN F s = some (s.all nameb && !decide (s = [])) := onlyN_loop F s hs F 0 (by omega) (by omega)
theorem onlyP_loop (F : Nat) (s : Bs) (hs : s.length ≤ 1000000) : ∀ (n i : Nat), s.length - i < n → i ≤ s.length → head_onlyP_L1 F s n (i : Int) = some ((s.drop i).all okb && !decide (s = [])) := by
  intro n
  induction n with
  | zero => intro i h; omega
  | succ n ih =>
    intro i hn hi
    show head_onlyP_B1 F s (head_onlyP_L1 F s n) (i : Int) = _
    unfold head_onlyP_B1 head_onlyP_j1
    by_cases h : i < s.length
    · have hd : s.drop i = s[i] :: s.drop (i + 1) := List.drop_eq_getElem_cons h
      have hc : head_plainC F s[i] = some (okb s[i]) := rfl
      rw [bT (by omega), grd_At (by omega), lt_eq, at_nat h, hc, bnd_some, hd, List.all_cons]
      cases hp : okb s[i] with
      | false => rfl
      | true => rw [Bool.not_true, cond_false, grd_I (by omega), cast_succ, ih (i + 1) (by omega) (by omega), Bool.true_and]
    · rw [bF (by omega), List.drop_eq_nil_of_le (by omega)]; simp
theorem onlyP_eq (F : Nat) (s : Bs) (hs : s.length ≤ 1000000) (hF : s.length < F) : head_onlyP F s = some (s.all okb && !decide (s = [])) := onlyP_loop F s hs F 0 (by omega) (by omega)
def nameB (s : Bs) : Bool := (s.all nameb && !decide (s = [])) && decide (s.length ≤ 40)
theorem name_eq (F : Nat) (s : Bs) (hs : s.length ≤ 1000000) (hF : s.length < F) : head_name F s = some (nameB s) := by
  unfold head_name nameB
  rw [onlyN_eq F s hs hF]
  by_cases h : s.length ≤ 40
  · rw [decide_eq_true (show (s.length : Int) ≤ 40 by omega), decide_eq_true h, bndc_t, bnd_some, Bool.true_and, Bool.and_true]
  · rw [decide_eq_false (show ¬ (s.length : Int) ≤ 40 by omega), decide_eq_false h, bndc_f, Bool.false_and, Bool.and_false]
theorem rname_loop (s : Bs) (hs : s.length ≤ 1000000) : ∀ (n i : Nat), s.length - i < n → i ≤ s.length → ref14_Name_L1 s n (i : Int) = some (bif (s.drop i).all nameb then (decide (1 ≤ (s.length : Int))) && (decide ((s.length : Int) ≤ 40)) else false) := by
  intro n
  induction n with
  | zero => intro i h; omega
  | succ n ih =>
    intro i hn hi
    show ref14_Name_B1 s (ref14_Name_L1 s n) (i : Int) = _
    unfold ref14_Name_B1 ref14_Name_j1
    by_cases h : i < s.length
    · have hd : s.drop i = s[i] :: s.drop (i + 1) := List.drop_eq_getElem_cons h
      rw [bT (by omega), grd_At (by omega), lt_eq, at_nat h, hd, List.all_cons]
      change (bif !(nameb s[i]) then _ else _) = _
      cases hp : nameb s[i] with
      | false => rfl
      | true => rw [Bool.not_true, cond_false, grd_I (by omega), cast_succ, ih (i + 1) (by omega) (by omega), Bool.true_and]
    · rw [bF (by omega), List.drop_eq_nil_of_le (by omega)]; rfl
theorem rname_eq (F : Nat) (s : Bs) (hs : s.length ≤ 1000000) (hF : s.length < F) : ref14_Name F s = some (nameB s) := by
  have := rname_loop s hs F 0 (by omega) (by omega)
  unfold ref14_Name
  refine Eq.trans this ?_
  rw [List.drop_zero]
  unfold nameB
  cases s.all nameb with
  | false => rfl
  | true =>
    rw [cond_true, Bool.true_and]
    congr 1
    by_cases h : s = []
    · subst h; rfl
    · have h1 := List.length_pos_iff.2 h
      rw [decide_eq_false h, decide_eq_true (show 1 ≤ (s.length : Int) by omega), Bool.not_false]
      congr 1
      exact decide_eq_decide.2 (by omega)
def bad (x y : UInt8) : Bool := (x == 32 && y == 32) || (x == 61 && y == 63)
def has2 (p : UInt8 → UInt8 → Bool) : Bs → Bool
  | x :: y :: r => p x y || has2 p (y :: r)
  | _ => false
theorem contains_cons (x : UInt8) (r sub : Bs) : Go.Lib.contains (x :: r) sub = (sub.isPrefixOf (x :: r) || Go.Lib.contains r sub) := by
  unfold Go.Lib.contains
  have hg := Go.Lib.index_ge r sub
  rw [Go.Lib.index]
  cases hp : sub.isPrefixOf (x :: r) with
  | true => simp
  | false =>
    rw [if_neg (by simp), Bool.false_or]
    by_cases h : Go.Lib.index r sub = -1
    · rw [h]; rfl
    · rw [if_neg (by simpa using h)]
      exact decide_eq_decide.2 (by omega)
theorem contains_two (a b : UInt8) : ∀ s : Bs, Go.Lib.contains s [a, b] = has2 (fun x y => x == a && y == b) s
  | [] => rfl
  | [x] => by rw [contains_cons]; simp [has2, List.isPrefixOf, Go.Lib.contains, Go.Lib.index]
  | x :: y :: r => by
    rw [contains_cons, contains_two a b (y :: r), has2]
    simp only [List.isPrefixOf, Bool.and_true]
    rw [Bool.beq_comm (a := x), Bool.beq_comm (a := y)]
theorem has2_or (p q : UInt8 → UInt8 → Bool) : ∀ s : Bs, has2 (fun x y => p x y || q x y) s = (has2 p s || has2 q s)
  | [] => rfl
  | [x] => rfl
  | x :: y :: r => by
    rw [has2, has2, has2, has2_or p q (y :: r)]
    cases p x y <;> cases q x y <;> cases has2 p (y :: r) <;> rfl
theorem dw_len (p : UInt8 → Bool) : ∀ s : Bs, (s.dropWhile p).length ≤ s.length
  | [] => Nat.le_refl _
  | x :: r => by
    rw [List.dropWhile_cons]
    have := dw_len p r
    split
    · simp; omega
    · exact Nat.le_refl _
theorem dw_id (c : UInt8) (s : Bs) : s.dropWhile (· == c) = s ↔ s.head? ≠ some c := by
  cases s with
  | nil => simp
  | cons x r =>
    rw [List.dropWhile_cons]
    have := dw_len (· == c) r
    by_cases h : x = c
    · subst h
      simp only [beq_self_eq_true, if_true, List.head?_cons, ne_eq, not_true_eq_false, iff_false]
      intro he
      rw [he] at this
      simp at this
      omega
    · simp [h]
theorem trim_id (c : UInt8) (s : Bs) : Go.Lib.trimB s c = s ↔ s.head? ≠ some c ∧ s.getLast? ≠ some c := by
  have hr : Go.Lib.trimRightB s c = s ↔ s.getLast? ≠ some c := by
    unfold Go.Lib.trimRightB
    rw [← List.head?_reverse, ← dw_id, ← List.reverse_inj, List.reverse_reverse]
  have hl : (Go.Lib.trimRightB s c).length ≤ s.length := by
    have := dw_len (· == c) s.reverse
    unfold Go.Lib.trimRightB
    simpa using this
  unfold Go.Lib.trimB
  constructor
  · intro h
    have h1 := dw_len (· == c) (Go.Lib.trimRightB s c)
    have h2 : (Go.Lib.trimRightB s c) = s := by
      have e : (Go.Lib.trimRightB s c).length = s.length := by
        have := congrArg List.length h
        unfold Go.Lib.trimLeftB at this
        omega
      have p : Go.Lib.trimRightB s c <+: s := by
        unfold Go.Lib.trimRightB
        rw [← List.reverse_suffix, List.reverse_reverse]
        exact List.dropWhile_suffix _
      exact p.eq_of_length e
    rw [h2] at h
    exact ⟨(dw_id c s).1 h, hr.1 h2⟩
  · intro ⟨h1, h2⟩
    rw [hr.2 h2]
    exact (dw_id c s).2 h1
def plainB (s : Bs) : Bool := (((s.all okb && !decide (s = [])) && (decide (s.head? ≠ some 32) && decide (s.getLast? ≠ some 32))) && !has2 bad s)
theorem Plain_eq (F : Nat) (s : Bs) (hs : s.length ≤ 1000000) (hF : s.length < F) : head_Plain F s = some (plainB s) := by
  unfold head_Plain
  have hS : ∀ (c : Bool) (k : Option Bool), grdc c (okS s.length) k = k := fun c k => by
    rw [show okS s.length = true from decide_eq_true (by omega)]; cases c <;> rfl
  rw [onlyP_eq F s hs hF, bnd_some, hS, lt_eq, hS, lt_eq, hS, lt_eq, contains_two, contains_two]
  have e1 : has2 bad s = (has2 (fun x y => x == 32 && y == 32) s || has2 (fun x y => x == 61 && y == 63) s) := has2_or _ _ s
  have e2 : decide (Go.Lib.trimB s 32 = s) = (decide (s.head? ≠ some 32) && decide (s.getLast? ≠ some 32)) := by
    rw [← Bool.decide_and]; exact decide_eq_decide.2 (trim_id 32 s)
  unfold plainB
  rw [e1, e2, Bool.not_or, Bool.and_assoc _ (!_) (!_)]
def chk (p : Option UInt8) : Bs → Bool
  | [] => true
  | c :: r => okb c && !(match p with | none => false | some x => bad x c) && chk (some c) r
theorem chk_some : ∀ (r : Bs) (p : UInt8), chk (some p) r = (r.all okb && !has2 bad (p :: r))
  | [], p => rfl
  | c :: r, p => by
    rw [chk, chk_some r c, has2, List.all_cons]
    cases okb c <;> cases bad p c <;> cases r.all okb <;> rfl
theorem chk_none (s : Bs) : chk none s = (s.all okb && !has2 bad s) := by
  cases s with
  | nil => rfl
  | cons c r => rw [chk, chk_some, List.all_cons]; cases okb c <;> cases r.all okb <;> rfl
theorem bq (a b : UInt8) : decide (a = b) = (a == b) := by by_cases h : a = b <;> simp [h]
theorem fand (x : Bool) : (false && x) = false := Eq.symm (Eq.symm rfl)
theorem tand (x : Bool) : (true && x) = x := Eq.symm (Eq.symm rfl)
theorem nfl : (!false) = true := Eq.symm (Eq.symm rfl)
theorem ntr : (!true) = false := Eq.symm (Eq.symm rfl)
theorem cfl {α : Type} (a b : α) : (bif false then a else b) = b := Eq.symm (Eq.symm rfl)
theorem ctr {α : Type} (a b : α) : (bif true then a else b) = a := Eq.symm (Eq.symm rfl)
def prev (s : Bs) (i : Nat) : Option UInt8 := if i = 0 then none else s[i - 1]?
theorem rplain_loop (s : Bs) (hs : s.length ≤ 1000000) : ∀ (n i : Nat), s.length - i < n → i ≤ s.length → ref14_Plain_L1 s n (i : Int) = bif chk (prev s i) (s.drop i) then ref14_Plain_j1 s else some false := by
  intro n
  induction n with
  | zero => intro i h; omega
  | succ n ih =>
    intro i hn hi
    show ref14_Plain_B1 s (ref14_Plain_L1 s n) (i : Int) = _
    unfold ref14_Plain_B1
    by_cases h : i < s.length
    · have hd : s.drop i = s[i] :: s.drop (i + 1) := List.drop_eq_getElem_cons h
      have hp : prev s (i + 1) = some s[i] := by simp [prev, h]
      have hA : ∀ (c : Bool) (k : Option Bool), grdc c (okAt (i : Int) s.length) k = k := fun c k => by
        rw [show okAt (i : Int) s.length = true from decide_eq_true (by omega)]; cases c <;> rfl
      have ok1 : okb s[i] = !((decide ((s[i].toNat : Int) < 32)) || (decide (126 < (s[i].toNat : Int)))) := by
        unfold okb
        by_cases h1 : (s[i].toNat : Int) < 32
        · rw [decide_eq_true h1, decide_eq_false (by omega)]; rfl
        · by_cases h2 : 126 < (s[i].toNat : Int)
          · rw [decide_eq_false h1, decide_eq_true h2, decide_eq_false (show ¬ (s[i].toNat : Int) < 127 by omega)]; cases decide (32 ≤ (s[i].toNat : Int)) <;> rfl
          · rw [decide_eq_false h1, decide_eq_false h2, decide_eq_true (show 32 ≤ (s[i].toNat : Int) by omega), decide_eq_true (show (s[i].toNat : Int) < 127 by omega)]; rfl
      rw [bT (by omega), grd_At (by omega), lt_eq, at_nat h, hA, lt_eq, hd]
      unfold chk
      rw [ok1]
      cases hk : (decide ((s[i].toNat : Int) < 32)) || (decide (126 < (s[i].toNat : Int))) with
      | true => rw [ctr, ntr, fand, fand, cfl]
      | false =>
        rw [cfl, hA, lt_eq]
        by_cases h0 : i = 0
        · have d0 : decide ((0 : Int) < (i : Int)) = false := decide_eq_false (by omega)
          have ep : prev s i = none := by unfold prev; rw [if_pos h0]
          simp only [d0, fand, grdc_f, lt_eq, cfl, ep, nfl, tand]
          rw [grd_I (by omega), cast_succ, ih (i + 1) (by omega) (by omega), hp]
        · have d0 : decide ((0 : Int) < (i : Int)) = true := decide_eq_true (by omega)
          have e1 : (i : Int) - 1 = ((i - 1 : Nat) : Int) := by omega
          have ep : prev s i = some s[i - 1] := by simp [prev, h0]
          have hB : ∀ (c : Bool) (k : Option Bool), grdc c (okAt ((i - 1 : Nat) : Int) s.length) k = k := fun c k => by
            rw [show okAt ((i - 1 : Nat) : Int) s.length = true from decide_eq_true (by omega)]; cases c <;> rfl
          have hI : ∀ (c : Bool) (k : Option Bool), grdc c (okI ((i - 1 : Nat) : Int)) k = k := fun c k => by
            rw [show okI ((i - 1 : Nat) : Int) = true from decide_eq_true (by omega)]; cases c <;> rfl
          simp only [e1, d0, tand, hA, hB, hI, lt_eq, ep, nfl, at_nat (show i - 1 < s.length by omega)]
          have hb : (((decide (s[i] = 32)) && (decide (s[i - 1] = 32))) || ((decide (s[i] = 63)) && (decide (s[i - 1] = 61)))) = bad s[i - 1] s[i] := by
            unfold bad
            rw [bq, bq, bq, bq, Bool.and_comm, Bool.and_comm (s[i] == 63)]
          rw [hb]
          cases bad s[i - 1] s[i] with
          | true => rw [ctr, ntr, fand, cfl]
          | false => rw [cfl, grd_I (by omega), cast_succ, ih (i + 1) (by omega) (by omega), hp, nfl, tand]
    · rw [bF (by omega), List.drop_eq_nil_of_le (by omega)]; rfl
theorem rPlain_eq (F : Nat) (s : Bs) (hs : s.length ≤ 1000000) (hF : s.length < F) : ref14_Plain F s = some (plainB s) := by
  have := rplain_loop s hs F 0 (by omega) (by omega)
  unfold ref14_Plain
  refine Eq.trans this ?_
  rw [List.drop_zero, show prev s 0 = none from rfl, chk_none]
  unfold plainB
  by_cases h : s = []
  · subst h; rfl
  · have h1 := List.length_pos_iff.2 h
    have hj : ref14_Plain_j1 s = some (decide (s.head? ≠ some 32) && decide (s.getLast? ≠ some 32)) := by
      have e1 : (s.length : Int) - 1 = ((s.length - 1 : Nat) : Int) := by omega
      have hA : ∀ (c : Bool) (i : Nat) (k : Option Bool), i < s.length → grdc c (okAt (i : Int) s.length) k = k := fun c i k hi => by
        rw [show okAt (i : Int) s.length = true from decide_eq_true (by omega)]; cases c <;> rfl
      have hI : ∀ (c : Bool) (k : Option Bool), grdc c (okI ((s.length - 1 : Nat) : Int)) k = k := fun c k => by
        rw [show okI ((s.length - 1 : Nat) : Int) = true from decide_eq_true (by omega)]; cases c <;> rfl
      unfold ref14_Plain_j1
      rw [show (0 : Int) = ((0 : Nat) : Int) from rfl]
      rw [hA _ 0 _ h1, lt_eq, e1, hI, hA _ (s.length - 1) _ (by omega), lt_eq, at_nat h1, at_nat (by omega), decide_eq_true (show ((0 : Nat) : Int) < s.length by omega), Bool.true_and]
      have x1 : s.head? = some s[0] := by rw [List.head?_eq_getElem?, List.getElem?_eq_getElem h1]
      have x2 : s.getLast? = some s[s.length - 1] := by rw [List.getLast?_eq_getElem?, List.getElem?_eq_getElem (by omega)]
      rw [x1, x2]
      simp
    rw [hj, decide_eq_false h]
    cases s.all okb <;> cases has2 bad s <;> simp
def insb (c : UInt8) : Bool := decide (Go.Av.shr8 c 6 = 2)
theorem insb_eq (c : UInt8) : ((decide ((c.toNat : Int) < 128)) || (decide (191 < (c.toNat : Int)))) = !insb c := by
  have := of_all8 (fun c => ((decide ((c.toNat : Int) < 128)) || (decide (191 < (c.toNat : Int)))) == !insb c) (by decide +kernel) c
  exact eq_of_beq this
def dn (s : Bs) : Nat → Nat
  | 0 => 45
  | k + 1 => bif insb (gb s (42 + k)) then dn s k else 42 + k
theorem gb_at {s : Bs} {i : Nat} (h : i < s.length) : gb s i = s[i] := by simp [gb, h]
theorem part_loop (F : Nat) (s : Bs) (hs : 45 < s.length) : ∀ (n k : Nat), k < n → k ≤ 4 → head_part_L1 F s n ((41 + k : Nat) : Int) = some ((dn s k : Nat) : Int) := by
  intro n
  induction n with
  | zero => intro k h; omega
  | succ n ih =>
    intro k hk h4
    show head_part_B1 F s (head_part_L1 F s n) ((41 + k : Nat) : Int) = _
    unfold head_part_B1
    cases k with
    | zero => rfl
    | succ k =>
      have e : 41 + (k + 1) = 42 + k := by omega
      have hb : head_inside F s[42 + k] = some (insb (gb s (42 + k))) := by rw [gb_at (by omega)]; rfl
      rw [e, decide_eq_true (show (41 : Int) < ((42 + k : Nat) : Int) by omega), grdc_t, grd_At (by omega), lt_eq, at_nat (by omega), hb, bndc_t, bnd_some, Bool.true_and]
      unfold dn
      cases insb (gb s (42 + k)) with
      | true =>
        have e2 : ((42 + k : Nat) : Int) - 1 = ((41 + k : Nat) : Int) := by omega
        rw [cond_true, cond_true, grd_I (by omega), e2, ih k (by omega) (by omega)]
      | false =>
        rw [cond_false, cond_false]
        unfold head_part_j1
        rw [bF (by omega)]
theorem rpart_loop (s : Bs) (hs : 45 < s.length) : ∀ (n k : Nat), k < n → k ≤ 4 → ref14_part_L1 s n ((41 + k : Nat) : Int) = some ((dn s k : Nat) : Int) := by
  intro n
  induction n with
  | zero => intro k h; omega
  | succ n ih =>
    intro k hk h4
    show ref14_part_B1 s (ref14_part_L1 s n) ((41 + k : Nat) : Int) = _
    unfold ref14_part_B1
    cases k with
    | zero => rw [bF (by omega)]; rfl
    | succ k =>
      have e : 41 + (k + 1) = 42 + k := by omega
      have hA : ∀ (c : Bool) (k' : Option Int), grdc c (okAt ((42 + k : Nat) : Int) s.length) k' = k' := fun c k' => by
        rw [show okAt ((42 + k : Nat) : Int) s.length = true from decide_eq_true (by omega)]; cases c <;> rfl
      rw [e, bT (by omega), grd_At (by omega), lt_eq, at_nat (by omega), hA, lt_eq, insb_eq, ← gb_at (show 42 + k < s.length by omega)]
      unfold dn
      cases insb (gb s (42 + k)) with
      | true =>
        have e2 : ((42 + k : Nat) : Int) - 1 = ((41 + k : Nat) : Int) := by omega
        rw [Bool.not_true, cond_false, cond_true, grd_I (by omega), e2, ih k (by omega) (by omega)]
      | false => rfl
def pt (s : Bs) : Nat := if s.length ≤ 45 then s.length else dn s 4
theorem dn_le (s : Bs) : ∀ k, k ≤ 4 → 42 ≤ dn s k ∧ dn s k ≤ 45
  | 0, _ => by simp [dn]
  | k + 1, h => by
    have := dn_le s k (by omega)
    unfold dn
    cases insb (gb s (42 + k)) with
    | true => exact this
    | false => rw [cond_false]; omega
theorem pt_le (s : Bs) : pt s ≤ s.length ∧ pt s ≤ 45 ∧ (s ≠ [] → 1 ≤ pt s) := by
  have := dn_le s 4 (by omega)
  unfold pt
  split
  · exact ⟨Nat.le_refl _, by omega, fun h => List.length_pos_iff.2 h⟩
  · exact ⟨by omega, by omega, fun h => by omega⟩
theorem part_eq (F : Nat) (hF : 5 ≤ F) (s : Bs) : head_part F s = some ((pt s : Nat) : Int) := by
  unfold head_part pt
  by_cases h : s.length ≤ 45
  · rw [bT (by omega), if_pos h]
  · rw [bF (by omega), if_neg h]; exact part_loop F s (by omega) F 4 (by omega) (by omega)
theorem rpart_eq (F : Nat) (hF : 5 ≤ F) (s : Bs) : ref14_part F s = some ((pt s : Nat) : Int) := by
  unfold ref14_part pt
  by_cases h : s.length ≤ 45
  · rw [bT (by omega), if_pos h]
  · rw [bF (by omega), if_neg h]; exact rpart_loop s (by omega) F 4 (by omega) (by omega)
def ahead : Bs := [61, 63, 117, 116, 102, 45, 56, 63, 66, 63]
def behind : Bs := [63, 61]
def word (p : Bs) : Bs := ahead ++ enc p ++ behind
def pcs : Nat → Bs → List Bs
  | 0, _ => []
  | n + 1, s => if s = [] then [] else word (s.take (pt s)) :: pcs n (s.drop (pt s))
theorem pcs_nil (n : Nat) : pcs n [] = [] := by cases n <;> rfl
theorem pcs_more : ∀ (n m : Nat) (s : Bs), s.length ≤ n → s.length ≤ m → pcs n s = pcs m s := by
  intro n
  induction n with
  | zero => intro m s h1 h2; have : s = [] := List.eq_nil_of_length_eq_zero (by omega); subst this; rw [pcs_nil, pcs_nil]
  | succ n ih =>
    intro m s h1 h2
    by_cases h : s = []
    · subst h; rw [pcs_nil, pcs_nil]
    · have hp := pt_le s
      have hl := List.length_pos_iff.2 h
      have h3 := hp.2.2 h
      obtain ⟨m, rfl⟩ : ∃ k, m = k + 1 := ⟨m - 1, by omega⟩
      rw [pcs, pcs, if_neg h, if_neg h, ih m (s.drop (pt s)) (by simp; omega) (by simp; omega)]
def pieces (s : Bs) : List Bs := pcs s.length s
theorem pieces_cons {s : Bs} (h : s ≠ []) : pieces s = word (s.take (pt s)) :: pieces (s.drop (pt s)) := by
  have hp := pt_le s
  have hl := List.length_pos_iff.2 h
  have h3 := hp.2.2 h
  unfold pieces
  obtain ⟨m, hm⟩ : ∃ k, s.length = k + 1 := ⟨s.length - 1, by omega⟩
  rw [hm, pcs, if_neg h, pcs_more m (s.drop (pt s)).length _ (by simp; omega) (by simp)]
theorem pieces_nil : pieces [] = [] := rfl
def wordsOf (s : Bs) : List Bs := bif plainB s then sp 32 s else pieces s
def fold1 {σ : Type} (k : σ → Bs → Option (σ × Bool)) (st : σ) (w : Bs) : Option σ := match k st w with
  | some (st', true) => some st'
  | _ => none
def foldK {σ : Type} (k : σ → Bs → Option (σ × Bool)) : σ → List Bs → Option σ
  | st, [] => some st
  | st, w :: ws => match fold1 k st w with
    | none => none
    | some st' => foldK k st' ws
theorem fold1_s {σ : Type} {k : σ → Bs → Option (σ × Bool)} {st st' : σ} {w : Bs} (h : fold1 k st w = some st') : k st w = some (st', true) := by
  unfold fold1 at h
  split at h
  · rename_i h1; cases h; exact h1
  · cases h
theorem foldK_s {σ : Type} {k : σ → Bs → Option (σ × Bool)} {st st' : σ} {w : Bs} {ws : List Bs} (h : foldK k st (w :: ws) = some st') : ∃ m, k st w = some (m, true) ∧ foldK k m ws = some st' := by
  rw [foldK] at h
  cases hf : fold1 k st w with
  | none => rw [hf] at h; cases h
  | some m => rw [hf] at h; exact ⟨m, fold1_s hf, h⟩
theorem wI_loop {σ : Type} (F : Nat) (k : σ → Bs → Option (σ × Bool)) (hF : 60 ≤ F) : ∀ (n : Nat) (s : Bs) (st st' : σ), s.length < n → s.length ≤ 1000000 → foldK k st (pieces s) = some st' → ∃ r, head_wordsI_L1 F k n (s, st) = some (st', r) := by
  intro n
  induction n with
  | zero => intro s st st' h; omega
  | succ n ih =>
    intro s st st' hn hs H
    have e : head_wordsI_L1 F k (n + 1) (s, st) = head_wordsI_B1 F k (head_wordsI_L1 F k n) s st := rfl
    rw [e]
    unfold head_wordsI_B1
    by_cases h : s = []
    · subst h
      cases H
      exact ⟨[], rfl⟩
    · have hp := pt_le s
      have hl := List.length_pos_iff.2 h
      have h3 := hp.2.2 h
      rw [pieces_cons h] at H
      obtain ⟨m, h1, h2⟩ := foldK_s H
      obtain ⟨r, hr⟩ := ih (s.drop (pt s)) m st' (by simp; omega) (by simp; omega) h2
      refine ⟨r, ?_⟩
      have he := enc_len (s.take (pt s))
      have ht : (s.take (pt s)).length ≤ 45 := by simp; omega
      rw [decide_eq_false h, Bool.not_false, cond_true, part_eq F (by omega), bnd_some, grd_To (by omega), lt_eq, to_nat, grd_Cat (by omega), Raw_eq F _ (by omega) (by omega), bnd_some]
      rw [grd_Cat (by simp; omega), lt_eq, grd_Cat (by simp; omega), lt_eq]
      have hk : k st (([61, 63, 117, 116, 102, 45, 56, 63, 66, 63] : Bs) ++ enc (s.take (pt s)) ++ [63, 61]) = some (m, true) := h1
      rw [hk, bnd2_some, Bool.not_true, cond_false, grd_To (by omega), lt_eq, from_nat]
      exact hr
theorem wS_loop {σ : Type} (a : Bs) (k : σ → Bs → Option (σ × Bool)) (l : List Bs) (hl : l.length ≤ 10000000) : ∀ (n i : Nat) (st st' : σ), l.length - i < n → i ≤ l.length → foldK k st (l.drop i) = some st' → head_wordsI_L2 a k l n ((i : Int), st) = some (st', a) := by
  intro n
  induction n with
  | zero => intro i st st' h; omega
  | succ n ih =>
    intro i st st' hn hi H
    have e : head_wordsI_L2 a k l (n + 1) ((i : Int), st) = head_wordsI_B2 a k l (head_wordsI_L2 a k l n) (i : Int) st := rfl
    rw [e]
    unfold head_wordsI_B2
    by_cases h : i < l.length
    · rw [List.drop_eq_getElem_cons h] at H
      obtain ⟨m, h1, h2⟩ := foldK_s H
      rw [bT (by omega), grd_At (by omega), lt_eq, at_nat h, h1, bnd2_some, Bool.not_true, cond_false, grd_I (by omega), cast_succ]
      exact ih (i + 1) m st' (by omega) (by omega) h2
    · rw [List.drop_eq_nil_of_le (by omega)] at H
      cases H
      rw [bF (by omega)]
theorem wordsI_eq {σ : Type} (F : Nat) (k : σ → Bs → Option (σ × Bool)) (s : Bs) (st st' : σ) (hs : s.length ≤ 1000000) (hF : s.length + 100 < F) (H : foldK k st (wordsOf s) = some st') : ∃ r, head_wordsI F k st s = some (st', r) := by
  unfold head_wordsI
  rw [Plain_eq F s hs (by omega), bnd_some]
  unfold wordsOf at H
  cases hp : plainB s with
  | true =>
    rw [hp, cond_true] at H
    have hl := sp_length 32 s
    rw [cond_true, grd_S (by omega), grd_D (by simp), lt_eq, split_one]
    exact ⟨s, wS_loop s k (sp 32 s) (by omega) F 0 st st' (by omega) (by omega) H⟩
  | false =>
    rw [hp, cond_false] at H
    rw [cond_false]
    exact wI_loop F k (by omega) F s st st' (by omega) hs H
theorem pieces_len (s : Bs) : ∀ n, s.length ≤ n → (pieces s).length ≤ s.length ∧ ∀ w ∈ pieces s, w.length ≤ 104 := by
  intro n
  induction n generalizing s with
  | zero => intro h; have : s = [] := List.eq_nil_of_length_eq_zero (by omega); subst this; simp [pieces_nil]
  | succ n ih =>
    intro h
    by_cases h0 : s = []
    · subst h0; simp [pieces_nil]
    · have hp := pt_le s
      have hl := List.length_pos_iff.2 h0
      have h3 := hp.2.2 h0
      have ⟨i1, i2⟩ := ih (s.drop (pt s)) (by simp; omega)
      have he := enc_len (s.take (pt s))
      have ht : (s.take (pt s)).length ≤ 45 := by simp; omega
      rw [pieces_cons h0]
      refine ⟨by simp at i1 ⊢; omega, fun w hw => ?_⟩
      rcases List.mem_cons.1 hw with rfl | hw
      · simp [word, ahead, behind]; omega
      · exact i2 w hw
theorem mem_total {l : List Bs} {w : Bs} (h : w ∈ l) : w.length ≤ Str.total l := by
  induction l with
  | nil => cases h
  | cons x r ih =>
    rcases List.mem_cons.1 h with rfl | h
    · simp [Str.total]
    · have := ih h; simp [Str.total]; omega
theorem wordsOf_len (s : Bs) : (wordsOf s).length ≤ s.length + 1 ∧ ∀ w ∈ wordsOf s, w.length ≤ s.length + 104 := by
  unfold wordsOf
  cases plainB s with
  | true =>
    rw [cond_true]
    have h1 := sp_total 32 s
    have h2 := sp_length 32 s
    exact ⟨h2, fun w hw => by have := mem_total hw; have := List.length_pos_iff.2 (List.ne_nil_of_mem hw); omega⟩
  | false =>
    rw [cond_false]
    have ⟨h1, h2⟩ := pieces_len s s.length (by omega)
    exact ⟨by omega, fun w hw => by have := h2 w hw; omega⟩
theorem rW_loop (F : Nat) (hF : 200 ≤ F) : ∀ (n : Nat) (s : Bs) (acc : List Bs), s.length < n → acc.length + s.length ≤ 1000000 → ref14_Words_L1 F n (s, acc) = some (acc ++ pieces s) := by
  intro n
  induction n with
  | zero => intro s acc h; omega
  | succ n ih =>
    intro s acc hn hs
    show ref14_Words_B1 F (ref14_Words_L1 F n) s acc = _
    unfold ref14_Words_B1
    by_cases h : s = []
    · subst h; rw [bF (by simp), pieces_nil, List.append_nil]; rfl
    · have hp := pt_le s
      have hl := List.length_pos_iff.2 h
      have h3 := hp.2.2 h
      have he := enc_len (s.take (pt s))
      have ht : (s.take (pt s)).length ≤ 45 := by simp; omega
      rw [bT (by omega), rpart_eq F (by omega), bnd_some, grd_To (by omega), lt_eq, to_nat, grd_Cat (by omega), rRaw_eq F _ (by omega) (by omega), bnd_some]
      rw [grd_Cat (by simp; omega), lt_eq, grd_Cat (by simp; omega), lt_eq, grd_Cat (by simp; omega), lt_eq, grd_To (by omega), lt_eq, from_nat, ih _ _ (by simp; omega) (by simp; omega), pieces_cons h, List.append_assoc]
      rfl
theorem rWords_eq (F : Nat) (s : Bs) (hs : s.length ≤ 1000000) (hF : s.length + 300 < F) : ref14_Words F s = some (wordsOf s) := by
  unfold ref14_Words wordsOf
  rw [rPlain_eq F s hs (by omega), bnd_some]
  cases plainB s with
  | true => rw [cond_true, cond_true, ref05_Split_eq F s 32 hs (by omega), bnd_some]
  | false =>
    rw [cond_false, cond_false]
    have := rW_loop F (by omega) F s [] (by omega) (by simp; omega)
    rw [List.nil_append] at this
    exact this
end Go.Hd
namespace Go.Hd
open Go.Pv Go.Av
def lnStep (st : Int × Bs) (x : Bs) : Int × Bs := if 76 < st.1 + 1 + (x.length : Int) then (0 + 1 + (x.length : Int), st.2 ++ [13, 10] ++ [32] ++ x) else (st.1 + 1 + (x.length : Int), st.2 ++ [32] ++ x)
def lineOf (a b : Bs) : Bs := ((wordsOf b).foldl lnStep (((a.length + 1 : Nat) : Int), a ++ [58])).2 ++ [13, 10]
theorem lnStep_len (st : Int × Bs) (x : Bs) : (lnStep st x).2.length ≤ st.2.length + x.length + 3 := by
  unfold lnStep; split <;> simp <;> omega
theorem lnStep_n (st : Int × Bs) (x : Bs) (h : 0 ≤ st.1) (hx : x.length ≤ 2000000) : 0 ≤ (lnStep st x).1 ∧ (lnStep st x).1 ≤ 2000001 := by
  unfold lnStep; split <;> simp <;> omega
theorem k1_eq (st : Int × Bs) (x : Bs) (h0 : 0 ≤ st.1) (h1 : st.1 ≤ 10000000) (hx : x.length ≤ 2000000) (ho : st.2.length + x.length + 3 ≤ 50000000000) :
    fold1 (fun s x => head_Line_k1 s.1 s.2 x) st x = some (lnStep st x) := by
  have hk : head_Line_k1 st.1 st.2 x = some (lnStep st x, true) := by
    unfold head_Line_k1 head_Line_j2 lnStep
    by_cases h : 76 < st.1 + 1 + (x.length : Int)
    · rw [bT h, if_pos h]
      simp (disch := (first | omega | (simp; omega))) only [grd_I, grd_Cat, lt_eq]
    · rw [bF h, if_neg h]
      simp (disch := (first | omega | (simp; omega))) only [grd_I, grd_Cat, lt_eq]
  unfold fold1
  simp only [hk]
theorem line_fold : ∀ (ws : List Bs) (st : Int × Bs), (∀ w ∈ ws, w.length ≤ 2000000) → 0 ≤ st.1 → st.1 ≤ 10000000 → st.2.length + ws.length * 2000003 ≤ 50000000000 →
    foldK (fun s x => head_Line_k1 s.1 s.2 x) st ws = some (ws.foldl lnStep st) ∧ (ws.foldl lnStep st).2.length ≤ st.2.length + ws.length * 2000003
  | [], st, _, _, _, _ => ⟨rfl, by simp⟩
  | w :: ws, st, hw, h0, h1, hl => by
    have hx := hw w (by simp)
    have hn := lnStep_n st w h0 hx
    have hs := lnStep_len st w
    simp only [List.length_cons] at hl
    have ⟨i1, i2⟩ := line_fold ws (lnStep st w) (fun v hv => hw v (by simp [hv])) hn.1 (by omega) (by omega)
    rw [foldK, k1_eq st w h0 h1 hx (by omega)]
    refine ⟨i1, ?_⟩
    rw [List.foldl_cons, List.length_cons]; omega
def okLine (a b : Bs) : Bool := nameB a && decide (b.length ≤ 4000)
theorem okLine_s {a b : Bs} (h : okLine a b = true) : nameB a = true ∧ b.length ≤ 4000 ∧ a.length ≤ 40 := by
  unfold okLine at h
  rw [Bool.and_eq_true] at h
  refine ⟨h.1, of_decide_eq_true h.2, ?_⟩
  have := h.1
  unfold nameB at this
  rw [Bool.and_eq_true] at this
  exact of_decide_eq_true this.2
theorem lineOf_len (a b : Bs) (h : okLine a b = true) : (lineOf a b).length ≤ 50000000000 ∧ (a.length : Int) + 1 + (wordsOf b).length ≤ 10000 := by
  have ⟨h1, h2, h3⟩ := okLine_s h
  have ⟨w1, w2⟩ := wordsOf_len b
  have := (line_fold (wordsOf b) (((a.length + 1 : Nat) : Int), a ++ [58]) (fun w hw => by have := w2 w hw; omega) (by simp; omega) (by simp; omega) (by simp; omega)).2
  refine ⟨?_, by omega⟩
  unfold lineOf
  simp at this ⊢; omega
theorem Line_eq (F : Nat) (a b : Bs) (ha : a.length ≤ 1000000) (hFa : a.length < F) (hF : 4200 < F) : head_Line F a b = some (if okLine a b = true then (lineOf a b, 0) else ([], 1)) := by
  unfold head_Line head_Line_j1
  rw [name_eq F a ha hFa, bnd_some]
  by_cases h : okLine a b = true
  · have ⟨h1, h2, h3⟩ := okLine_s h
    have ⟨w1, w2⟩ := wordsOf_len b
    have hlen := (lineOf_len a b h).1
    have ⟨f1, f2⟩ := line_fold (wordsOf b) (((a.length + 1 : Nat) : Int), a ++ [58]) (fun w hw => by have := w2 w hw; omega) (by simp; omega) (by simp; omega) (by simp; omega)
    obtain ⟨r, hr⟩ := wordsI_eq F _ b _ _ (by omega) (by omega) f1
    rw [if_pos h, h1, Bool.not_true, Bool.false_or, bF (by omega), grd_Cat (by simp; omega), lt_eq, grd_Cat (by simp; omega)]
    unfold head_words
    rw [bnd_some]
    have e : (((a ++ [58] : Bs).length : Int), a ++ [58]) = (((a.length + 1 : Nat) : Int), a ++ [58]) := by simp
    rw [e, hr, bnd2_some, grd_Cat (by simp at f2 ⊢; omega), lt_eq]
    rfl
  · rw [if_neg h]
    have : ((!nameB a) || (decide (4000 < (b.length : Int)))) = true := by
      unfold okLine at h
      cases hn : nameB a with
      | false => rfl
      | true =>
        rw [hn, Bool.true_and, decide_eq_true_eq] at h
        rw [decide_eq_true (show 4000 < (b.length : Int) by omega)]; rfl
    rw [this, cond_true]
theorem rLine_loop (l : List Bs) (hl : l.length ≤ 100000) (hw : ∀ w ∈ l, w.length ≤ 2000000) : ∀ (n i : Nat) (st : Int × Bs), l.length - i < n → i ≤ l.length → 0 ≤ st.1 → st.1 ≤ 10000000 → st.2.length + (l.length - i) * 2000003 ≤ 50000000000 →
    ref14_Line_L1 l n (st.2, st.1, (i : Int)) = some (((l.drop i).foldl lnStep st).2 ++ [13, 10], 0) := by
  intro n
  induction n with
  | zero => intro i st h; omega
  | succ n ih =>
    intro i st hn hi h0 h1 hb
    show ref14_Line_B1 l (ref14_Line_L1 l n) st.2 st.1 (i : Int) = _
    unfold ref14_Line_B1 ref14_Line_j2 ref14_Line_j1
    by_cases h : i < l.length
    · have hx := hw l[i] (List.getElem_mem h)
      have hs := lnStep_len st l[i]
      have hnn := lnStep_n st l[i] h0 hx
      have hm : (l.length - i) * 2000003 = (l.length - (i + 1)) * 2000003 + 2000003 := by
        rw [show l.length - i = (l.length - (i + 1)) + 1 by omega, Nat.add_mul]
      have := ih (i + 1) (lnStep st l[i]) (by omega) (by omega) hnn.1 (by omega) (by omega)
      rw [List.drop_eq_getElem_cons h, List.foldl_cons, ← this]
      rw [bT (by omega), grd_I (by omega), grd_At (by omega), lt_eq, at_nat h, grd_I (by omega)]
      unfold lnStep
      by_cases hc : 76 < st.1 + 1 + (l[i].length : Int)
      · rw [bT hc, if_pos hc]
        simp (disch := (first | omega | (simp; omega))) only [grd_I, grd_Cat, lt_eq, grd_At, at_nat h, cast_succ, List.append_assoc]
      · rw [bF hc, if_neg hc]
        simp (disch := (first | omega | (simp; omega))) only [grd_I, grd_Cat, lt_eq, grd_At, at_nat h, cast_succ, List.append_assoc]
    · rw [bF (by omega), List.drop_eq_nil_of_le (by omega), grd_Cat (by simp; omega), lt_eq]; rfl
theorem rLine_eq (F : Nat) (a b : Bs) (ha : a.length ≤ 1000000) (hFa : a.length < F) (hF : 4400 < F) : ref14_Line F a b = some (if okLine a b = true then (lineOf a b, 0) else ([], 1)) := by
  unfold ref14_Line
  rw [rname_eq F a ha hFa, bnd_some]
  by_cases h : okLine a b = true
  · have ⟨h1, h2, h3⟩ := okLine_s h
    have ⟨w1, w2⟩ := wordsOf_len b
    rw [if_pos h, h1, Bool.not_true, Bool.false_or, bF (by omega), grd_Cat (by simp; omega), lt_eq, grd_Cat (by simp; omega), rWords_eq F b (by omega) (by omega), bnd_some]
    have := rLine_loop (wordsOf b) (by omega) (fun w hw => by have := w2 w hw; omega) F 0 (((a.length + 1 : Nat) : Int), a ++ [58]) (by omega) (by omega) (by simp; omega) (by simp; omega) (by simp; omega)
    have e : (((a ++ [58] : Bs).length : Int)) = ((a.length + 1 : Nat) : Int) := by simp
    rw [e]
    exact this
  · rw [if_neg h]
    have : ((!nameB a) || (decide (4000 < (b.length : Int)))) = true := by
      unfold okLine at h
      cases hn : nameB a with
      | false => rfl
      | true =>
        rw [hn, Bool.true_and, decide_eq_true_eq] at h
        rw [decide_eq_true (show 4000 < (b.length : Int) by omega)]; rfl
    rw [this, cond_true]
theorem few_loop (l : List (Bs × Bs)) (hl : l.length ≤ 1000000) : ∀ (n i : Nat), l.length - i < n → i ≤ l.length → ∃ b, law14_Few_L1 l n (i : Int) = some b ∧ (b = true → ∀ x ∈ l.drop i, x.1.length ≤ 100 ∧ x.2.length ≤ 600) := by
  intro n
  induction n with
  | zero => intro i h; omega
  | succ n ih =>
    intro i hn hi
    show ∃ b, law14_Few_B1 l (law14_Few_L1 l n) (i : Int) = some b ∧ _
    unfold law14_Few_B1 law14_Few_j1
    by_cases h : i < l.length
    · obtain ⟨b, h1, h2⟩ := ih (i + 1) (by omega) (by omega)
      have hA : ∀ (c : Bool) (k : Option Bool), grdc c (okAt (i : Int) l.length) k = k := fun c k => by
        rw [show okAt (i : Int) l.length = true from decide_eq_true (by omega)]; cases c <;> rfl
      rw [bT (by omega), grd_At (by omega), lt_eq, at_nat h, hA, lt_eq, List.drop_eq_getElem_cons h]
      cases hc : (decide (100 < (l[i].1.length : Int))) || (decide (600 < (l[i].2.length : Int))) with
      | true => exact ⟨false, rfl, fun h => by cases h⟩
      | false =>
        rw [Bool.or_eq_false_iff, decide_eq_false_iff_not, decide_eq_false_iff_not] at hc
        refine ⟨b, by rw [cond_false, grd_I (by omega), cast_succ, h1], fun hb x hx => ?_⟩
        rcases List.mem_cons.1 hx with rfl | hx
        · omega
        · exact h2 hb x hx
    · rw [bF (by omega), List.drop_eq_nil_of_le (by omega)]
      exact ⟨true, rfl, fun _ x hx => by cases hx⟩
theorem Few_eq (F : Nat) (l : List (Bs × Bs)) (m : Int) (hl : l.length ≤ 1000000) (hF : l.length < F) : ∃ b, law14_Few F l m = some b ∧ (b = true → (l.length : Int) ≤ m ∧ ∀ x ∈ l, x.1.length ≤ 100 ∧ x.2.length ≤ 600) := by
  unfold law14_Few
  by_cases h : m < (l.length : Int)
  · rw [bT h]; exact ⟨false, rfl, fun h => by cases h⟩
  · rw [bF h]
    obtain ⟨b, h1, h2⟩ := few_loop l hl F 0 (by omega) (by omega)
    exact ⟨b, h1, fun hb => ⟨by omega, by have := h2 hb; rwa [List.drop_zero] at this⟩⟩
end Go.Hd
namespace Go.Hd
open Go.Pv Go.Av
def spb (c : UInt8) : Bool := ((decide (c = 32)) || (decide (c = 13))) || (decide (c = 10))
def wf : Bs → Bs → List Bs
  | cur, [] => if cur = [] then [] else [cur]
  | cur, c :: r => if spb c = true then (if cur = [] then wf [] r else cur :: wf [] r) else wf (cur ++ [c]) r
theorem wf_run (r : Bs) : ∀ (p cur : Bs), (∀ c ∈ p, spb c = false) → wf cur (p ++ r) = wf (cur ++ p) r
  | [], cur, _ => by simp
  | c :: p, cur, h => by
    rw [List.cons_append, wf, if_neg (by rw [h c (by simp)]; simp), wf_run r p (cur ++ [c]) (fun x hx => h x (by simp [hx]))]
    simp
theorem spb_ascii (c : UInt8) (h : c.toNat < 128) : spB c.toNat = spb c := by
  have := of_all8 (fun c => decide (c.toNat < 128 → spB c.toNat = spb c)) (by decide +kernel) c
  exact of_decide_eq_true this h
theorem spb_high (c : UInt8) (h : 128 ≤ c.toNat) : spb c = false := by
  have := of_all8 (fun c => decide (128 ≤ c.toNat → spb c = false)) (by decide +kernel) c
  exact of_decide_eq_true this h
theorem spB_high (n : Nat) (h : 128 ≤ n) : spB n = false := by
  unfold spB
  rw [decide_eq_false (by omega), decide_eq_false (by omega), decide_eq_false (by omega)]; rfl
theorem ba_size (l : Bs) : (⟨l.toArray⟩ : ByteArray).size = l.length := by simp [ByteArray.size]
theorem ba_get (l : Bs) (i : Nat) (h : i < l.length) : (⟨l.toArray⟩ : ByteArray).get! i = l[i] := by
  simp [ByteArray.get!, h]
theorem ba_at (l : Bs) (i : Nat) (h : i < (⟨l.toArray⟩ : ByteArray).size) : (⟨l.toArray⟩ : ByteArray)[i]'h = l[i]'(by rwa [ba_size] at h) := rfl
theorem cover (l : Bs) (pos : Nat) (h : pos < l.length) (ha : 128 ≤ (l[pos]).toNat) :
    pos + (Utf8.decode ⟨l.toArray⟩ pos).2 ≤ l.length ∧ ∀ k, k < (Utf8.decode ⟨l.toArray⟩ pos).2 → 128 ≤ (gb l (pos + k)).toNat := by
  have hn : ¬ (l[pos]).toNat < 128 := by omega
  have e0 : (⟨l.toArray⟩ : ByteArray).get! (pos + 0) = l[pos] := ba_get l pos h
  have g0 : 128 ≤ (gb l (pos + 0)).toNat := by rw [Nat.add_zero, gb_at h]; exact ha
  have hg : ∀ k, pos + k < l.length → ((⟨l.toArray⟩ : ByteArray).get! (pos + k)).toNat / 64 = 2 → 128 ≤ (gb l (pos + k)).toNat := fun k hk he => by
    rw [ba_get l _ hk] at he; rw [gb_at hk]; omega
  have one : ∀ x : Nat × Nat, x.2 = 1 → pos + x.2 ≤ l.length ∧ ∀ k, k < x.2 → 128 ≤ (gb l (pos + k)).toNat := fun x hx => by
    rw [hx]; exact ⟨by omega, fun k hk => by obtain rfl : k = 0 := by omega
                                             exact g0⟩
  unfold Utf8.decode
  simp only [e0, ba_size]
  rw [if_neg hn]
  split
  · rename_i h1
    simp only [Bool.and_eq_true, beq_iff_eq, decide_eq_true_eq] at h1
    split
    · exact ⟨by dsimp only; omega, fun k hk => by
        dsimp only at hk
        rcases (show k = 0 ∨ k = 1 by omega) with rfl | rfl
        · exact g0
        · exact hg 1 h1.2.1 h1.2.2⟩
    · exact one _ rfl
  · split
    · rename_i h1
      simp only [Bool.and_eq_true, beq_iff_eq, decide_eq_true_eq] at h1
      split
      · exact ⟨by dsimp only; omega, fun k hk => by
          dsimp only at hk
          rcases (show k = 0 ∨ k = 1 ∨ k = 2 by omega) with rfl | rfl | rfl
          · exact g0
          · exact hg 1 h1.1.2.1 h1.1.2.2
          · exact hg 2 h1.2.1 h1.2.2⟩
      · exact one _ rfl
    · split
      · rename_i h1
        simp only [Bool.and_eq_true, beq_iff_eq, decide_eq_true_eq] at h1
        split
        · exact ⟨by dsimp only; omega, fun k hk => by
            dsimp only at hk
            rcases (show k = 0 ∨ k = 1 ∨ k = 2 ∨ k = 3 by omega) with rfl | rfl | rfl | rfl
            · exact g0
            · exact hg 1 h1.1.1.2.1 h1.1.1.2.2
            · exact hg 2 h1.1.2.1 h1.1.2.2
            · exact hg 3 h1.2.1 h1.2.2⟩
        · exact one _ rfl
      · exact one _ rfl
def opn (l : Bs) (st : Option Nat) (pos : Nat) : Bs := match st with
  | none => []
  | some a => (l.take pos).drop a
theorem opn_ne {l : Bs} {a pos : Nat} (h : a < pos) (hp : pos ≤ l.length) : (l.take pos).drop a ≠ [] := by
  intro h0
  have := congrArg List.length h0
  simp at this; omega
theorem ext_eq (l : Bs) (a b : Nat) : ((⟨l.toArray⟩ : ByteArray).extract a b).data.toList = (l.take b).drop a := by
  rw [Go.Lib.extract_data, ← List.drop_take]
theorem spans_wf (l : Bs) : ∀ (f pos : Nat) (st : Option Nat) (acc : List (Nat × Nat)), l.length - pos ≤ f → pos ≤ l.length → (∀ a, st = some a → a < pos) →
    (Go.Lib.closeSpans ⟨l.toArray⟩ (Go.Lib.spansFromP spB ⟨l.toArray⟩ f pos st acc)).map (fun x => (l.take x.2).drop x.1) = acc.map (fun x => (l.take x.2).drop x.1) ++ wf (opn l st pos) (l.drop pos) := by
  intro f
  induction f with
  | zero =>
    intro pos st acc hf hp hst
    have : pos = l.length := by omega
    subst this
    cases st with
    | none => simp [Go.Lib.spansFromP, Go.Lib.closeSpans, opn, wf]
    | some a =>
      have := opn_ne (hst a rfl) hp
      simp only [Go.Lib.spansFromP, Go.Lib.closeSpans, opn, ba_size, List.map_append, List.drop_length]
      rw [wf, if_neg this]; rfl
  | succ f ih =>
    intro pos st acc hf hp hst
    unfold Go.Lib.spansFromP
    by_cases h : pos < l.length
    · rw [if_pos (by rw [ba_size]; exact h)]
      have hd : l.drop pos = l[pos] :: l.drop (pos + 1) := List.drop_eq_getElem_cons h
      by_cases ha : (l[pos]).toNat < 128
      · have e := decode_ascii ⟨l.toArray⟩ pos (by rw [ba_size]; exact h) ha
        rw [ba_at] at e
        rw [e, spb_ascii _ ha, hd, wf]
        cases hs : spb l[pos] with
        | true =>
          rw [if_pos rfl, if_pos rfl]
          cases st with
          | none => 
            show (Go.Lib.closeSpans _ (Go.Lib.spansFromP spB _ f (pos + 1) none acc)).map _ = _
            rw [ih _ _ _ (by omega) (by omega) (fun a h => by cases h), if_pos (show opn l none pos = [] from rfl)]; rfl
          | some a =>
            have hn : opn l (some a) pos ≠ [] := opn_ne (hst a rfl) hp
            show (Go.Lib.closeSpans _ (Go.Lib.spansFromP spB _ f (pos + 1) none (acc ++ [(a, pos)]))).map _ = _
            rw [ih _ _ _ (by omega) (by omega) (fun a h => by cases h), if_neg hn, List.map_append, List.append_assoc]; rfl
        | false =>
          rw [if_neg (by simp), if_neg (by simp)]
          cases st with
          | none =>
            show (Go.Lib.closeSpans _ (Go.Lib.spansFromP spB _ f (pos + 1) (some pos) acc)).map _ = _
            rw [ih _ _ _ (by omega) (by omega) (fun a h => by cases h; omega)]
            have : opn l (some pos) (pos + 1) = opn l none pos ++ [l[pos]] := by
              show (l.take (pos + 1)).drop pos = _
              rw [List.take_succ_eq_append_getElem h, List.drop_left' (by simp; omega)]; rfl
            rw [this]
          | some a =>
            have hlt := hst a rfl
            show (Go.Lib.closeSpans _ (Go.Lib.spansFromP spB _ f (pos + 1) (some a) acc)).map _ = _
            rw [ih _ _ _ (by omega) (by omega) (fun b h => by cases h; omega)]
            have : opn l (some a) (pos + 1) = opn l (some a) pos ++ [l[pos]] := by
              show (l.take (pos + 1)).drop a = (l.take pos).drop a ++ _
              rw [List.take_succ_eq_append_getElem h, List.drop_append_of_le_length (by simp; omega)]
            rw [this]
      · have hb : 128 ≤ (l[pos]).toNat := by omega
        have ⟨d1, d2⟩ := decode_high ⟨l.toArray⟩ pos (by rw [ba_size]; exact h) hb
        have ⟨c1, c2⟩ := cover l pos h hb
        generalize Utf8.decode ⟨l.toArray⟩ pos = x at d1 d2 c1 c2
        obtain ⟨r, n⟩ := x
        dsimp only at d1 d2 c1 c2
        rw [spB_high _ d1, if_neg (by simp)]
        have hrun : l.drop pos = (l.take (pos + n)).drop pos ++ l.drop (pos + n) := by
          rw [← List.drop_append_of_le_length (by simp; omega), List.take_append_drop]
        have hall : ∀ c ∈ (l.take (pos + n)).drop pos, spb c = false := fun c hc => by
          obtain ⟨k, hk, rfl⟩ := List.mem_iff_getElem.1 hc
          simp at hk
          have := c2 k (by omega)
          rw [gb_at (by omega)] at this
          rw [List.getElem_drop, List.getElem_take]
          exact spb_high _ this
        rw [hrun, wf_run _ _ _ hall]
        cases st with
        | none =>
          show (Go.Lib.closeSpans _ (Go.Lib.spansFromP spB _ f (pos + n) (some pos) acc)).map _ = _
          rw [ih _ _ _ (by omega) c1 (fun a h => by cases h; omega)]; rfl
        | some a =>
          have hlt := hst a rfl
          show (Go.Lib.closeSpans _ (Go.Lib.spansFromP spB _ f (pos + n) (some a) acc)).map _ = _
          rw [ih _ _ _ (by omega) c1 (fun b h => by cases h; omega)]
          have : opn l (some a) (pos + n) = opn l (some a) pos ++ (l.take (pos + n)).drop pos := by
            show (l.take (pos + n)).drop a = (l.take pos).drop a ++ _
            have : l.take (pos + n) = l.take pos ++ (l.take (pos + n)).drop pos := by
              conv => lhs; rw [← List.take_append_drop pos (l.take (pos + n))]
              rw [List.take_take, Nat.min_eq_left (by omega)]
            rw [this, List.drop_append_of_le_length (by simp; omega)]
            congr 2
          rw [this]
    · have : pos = l.length := by omega
      subst this
      rw [if_neg (by rw [ba_size]; exact h)]
      cases st with
      | none => simp [Go.Lib.closeSpans, opn, wf]
      | some a =>
        have := opn_ne (hst a rfl) hp
        simp only [Go.Lib.closeSpans, opn, ba_size, List.map_append, List.drop_length]
        rw [wf, if_neg this]; rfl
theorem fields_eq (s : Bs) : fieldsP spB s = wf [] s := by
  have := spans_wf s (⟨s.toArray⟩ : ByteArray).size 0 none [] (by rw [ba_size]; omega) (by omega) (fun a h => by cases h)
  unfold fieldsP Go.Lib.goFieldsP Go.Lib.spansOfP
  rw [List.map_map]
  have e : ((fun x : ByteArray => x.data.toList) ∘ fun x : Nat × Nat => (⟨s.toArray⟩ : ByteArray).extract x.1 x.2) = fun x => (s.take x.2).drop x.1 := by
    funext x; exact ext_eq s x.1 x.2
  rw [e, this]; rfl
theorem wf_total : ∀ (s cur : Bs), Str.total (wf cur s) + (wf cur s).length ≤ cur.length + s.length + 1
  | [], cur => by
    rw [wf]; split
    · simp [Str.total]
    · simp [Str.total]
  | c :: r, cur => by
    rw [wf]
    split
    · have := wf_total r []
      split
      · simp at this ⊢; omega
      · simp [Str.total] at this ⊢; omega
    · have := wf_total r (cur ++ [c])
      simp at this ⊢; omega
end Go.Hd
namespace Go.Hd
open Go.Pv Go.Av
def isCoded (w : Bs) : Bool := decide (12 ≤ w.length) && (decide (w.take 10 = ahead) && decide (w.drop (w.length - 2) = behind))
def mid (w : Bs) : Bs := (w.take (w.length - 2)).drop 10
noncomputable def cdB (w : Bs) : Bool := isCoded w && decide ((dec (mid w)).2 = 0)
noncomputable def cdT (w : Bs) : Bs := (dec (mid w)).1
theorem dec_len (s : Bs) : (dec s).1.length ≤ s.length := by
  by_cases h : ∃ b, enc b = s
  · obtain ⟨b, rfl⟩ := h
    rw [dec_enc]
    have := decP_len (enc b) b (decP_enc b)
    exact this
  · rw [dec_no h]; simp
theorem bql (a b : Bs) : decide (a = b) = (a == b) := by by_cases h : a = b <;> simp [h]
theorem hp_take {w p : Bs} : Go.Lib.hasPrefix w p = (decide (p.length ≤ w.length) && decide (w.take p.length = p)) := by
  rw [← Go.Lib.hasPrefix_of_take, bql]
theorem hs_drop {w p : Bs} : Go.Lib.hasSuffix w p = (decide (p.length ≤ w.length) && decide (w.drop (w.length - p.length) = p)) := by
  rw [← Go.Lib.hasSuffix_of_drop, bql]
theorem coded_eq (F : Nat) (w : Bs) (hw : w.length ≤ 300000) (hF : w.length + 100 < F) : ∃ d, head_coded F w = some (d, cdB w) ∧ (cdB w = true → d = cdT w) := by
  unfold head_coded
  rw [lt_eq]
  have hal : ([61, 63, 117, 116, 102, 45, 56, 63, 66, 63] : Bs).length = 10 := rfl
  have hbl : ([63, 61] : Bs).length = 2 := rfl
  cases hp : Go.Lib.hasPrefix w [61, 63, 117, 116, 102, 45, 56, 63, 66, 63] with
  | false =>
    refine ⟨[], ?_, ?_⟩
    · dsimp only
      rw [Bool.not_false, cond_true]
      have : cdB w = false := by
        rw [hp_take, hal] at hp
        unfold cdB isCoded
        by_cases h : 12 ≤ w.length
        · rw [decide_eq_true (show 10 ≤ w.length by omega), tand] at hp
          have h9 : decide (w.take 10 = ahead) = false := hp
          rw [h9]; simp
        · rw [decide_eq_false h]; rfl
      rw [this]
    · intro h
      exfalso
      rw [hp_take, hal] at hp
      unfold cdB isCoded at h
      simp only [Bool.and_eq_true, decide_eq_true_eq] at h
      rw [decide_eq_true (show 10 ≤ w.length by omega), tand] at hp
      exact absurd h.1.2.1 (of_decide_eq_false hp)
  | true =>
    have hp2 := hp
    rw [hp_take, hal] at hp2
    simp only [Bool.and_eq_true, decide_eq_true_eq] at hp2
    have ht : Go.Lib.trimPrefix w [61, 63, 117, 116, 102, 45, 56, 63, 66, 63] = w.drop 10 := by unfold Go.Lib.trimPrefix; rw [hp]; rfl
    dsimp only
    rw [Bool.not_true, cond_false, ht, grd_S (by simp; omega), lt_eq]
    have hts : (Go.Lib.trimSuffix (w.drop 10) [63, 61]).length ≤ w.length := by have := Go.Lib.trimSuffix_le (w.drop 10) [63, 61]; simp at this; omega
    dsimp only
    rw [Bytes_eq F _ (by omega) (by omega), show dec (Go.Lib.trimSuffix (w.drop 10) [63, 61]) = ((dec (Go.Lib.trimSuffix (w.drop 10) [63, 61])).1, (dec (Go.Lib.trimSuffix (w.drop 10) [63, 61])).2) from rfl, bnd2_some]
    have hsf : Go.Lib.hasSuffix (w.drop 10) [63, 61] = isCoded w := by
      rw [hs_drop, hbl]
      unfold isCoded
      have h1 : decide (w.take 10 = ahead) = true := decide_eq_true hp2.2
      rw [h1, tand]
      by_cases h : 12 ≤ w.length
      · have e : (w.drop 10).drop ((w.drop 10).length - 2) = w.drop (w.length - 2) := by
          rw [List.drop_drop]; congr 1; simp; omega
        rw [e, decide_eq_true h, decide_eq_true (show 2 ≤ (w.drop 10).length by simp; omega)]; rfl
      · rw [decide_eq_false h, decide_eq_false (show ¬ 2 ≤ (w.drop 10).length by simp; omega)]; rfl
    cases hc : isCoded w with
    | false =>
      refine ⟨(dec (Go.Lib.trimSuffix (w.drop 10) [63, 61])).1, ?_, ?_⟩
      · rw [hsf, hc, fand]
        have : cdB w = false := by unfold cdB; rw [hc, fand]
        rw [this]
      · intro h; unfold cdB at h; rw [hc] at h; cases h
    | true =>
      have hm : Go.Lib.trimSuffix (w.drop 10) [63, 61] = mid w := by
        unfold Go.Lib.trimSuffix mid
        rw [hsf, hc, if_pos rfl, hbl, List.drop_take]
        congr 1
        rw [List.length_drop]; omega
      refine ⟨(dec (Go.Lib.trimSuffix (w.drop 10) [63, 61])).1, ?_, fun _ => ?_⟩
      · rw [hsf, hc, tand]
        have : cdB w = decide ((dec (mid w)).2 = 0) := by unfold cdB; rw [hc, tand]
        rw [this, hm]
      · rw [hm]; rfl
noncomputable def catT (ws : List Bs) : Bs := ws.flatMap cdT
noncomputable def valueOf (ws : List Bs) : Bs := bif ws.all cdB then catT ws else Str.join [32] ws
theorem cdT_len (w : Bs) : (cdT w).length ≤ w.length := by
  have h1 := dec_len (mid w)
  have h2 : (mid w).length ≤ w.length := by unfold mid; simp; omega
  unfold cdT; omega
theorem catT_cons (w : Bs) (ws : List Bs) : catT (w :: ws) = cdT w ++ catT ws := by unfold catT; rw [List.flatMap_cons]
theorem catT_len : ∀ ws : List Bs, (catT ws).length ≤ Str.total ws
  | [] => by simp [catT, Str.total]
  | w :: ws => by
    have := catT_len ws
    have := cdT_len w
    simp [catT, Str.total] at *; omega
theorem valueOf_len (ws : List Bs) : (valueOf ws).length ≤ ws.length + Str.total ws := by
  unfold valueOf
  cases ws.all cdB with
  | true => have := catT_len ws; rw [ctr]; omega
  | false => have := Str.join_length [32] ws; rw [cfl]; simpa using this
theorem value_loop (F : Nat) (ws : List Bs) (hF : 400100 < F) (hl : ws.length + Str.total ws ≤ 300000) : ∀ (n i : Nat) (out : Bs), ws.length - i < n → i ≤ ws.length → out.length + Str.total (ws.drop i) ≤ 300000 →
    head_value_L1 F ws n ((i : Int), out) = some (bif (ws.drop i).all cdB then out ++ catT (ws.drop i) else Str.join [32] ws) := by
  intro n
  induction n with
  | zero => intro i out h; omega
  | succ n ih =>
    intro i out hn hi ho
    show head_value_B1 F ws (head_value_L1 F ws n) (i : Int) out = _
    unfold head_value_B1 head_value_j1
    by_cases h : i < ws.length
    · have hd : ws.drop i = ws[i] :: ws.drop (i + 1) := List.drop_eq_getElem_cons h
      have ht := Str.total_drop ws i h
      obtain ⟨d, c1, c2⟩ := coded_eq F ws[i] (by omega) (by omega)
      rw [bT (by omega), grd_At (by omega), lt_eq, at_nat h, c1, bnd2_some, hd, List.all_cons]
      cases hc : cdB ws[i] with
      | false => rw [nfl, ctr, grd_Join (by simp; omega), lt_eq, fand, cfl]
      | true =>
        have hdl := cdT_len ws[i]
        rw [ntr, cfl, tand, c2 hc, grd_W (by omega), lt_eq, grd_I (by omega), cast_succ, ih (i + 1) _ (by omega) (by omega) (by simp; omega)]
        rw [catT_cons, List.append_assoc]
    · have hd : ws.drop i = [] := List.drop_eq_nil_of_le (by omega)
      rw [bF (by omega), grd_W (by simp; omega), hd]
      simp [catT]
theorem value_eq (F : Nat) (ws : List Bs) (hF : 400100 < F) (hl : ws.length + Str.total ws ≤ 300000) : head_value F ws = some (valueOf ws) := by
  have := value_loop F ws hF hl F 0 [] (by omega) (by omega) (by simp; omega)
  rw [List.drop_zero, List.nil_append] at this
  exact this
end Go.Hd
namespace Go.Hd
open Go.Pv Go.Av
def cutAt (c : UInt8) : Bs → Option (Bs × Bs)
  | [] => none
  | b :: r => if b = c then some ([], r) else match cutAt c r with
    | none => none
    | some (x, y) => some (b :: x, y)
theorem cut_one (c : UInt8) : ∀ s : Bs, Go.Lib.cut s [c] = match cutAt c s with
    | none => (s, [], false)
    | some (x, y) => (x, y, true)
  | [] => rfl
  | b :: r => by
    have ih := cut_one c r
    have hi := index_one_cons b c r
    have hge := Go.Lib.index_ge r [c]
    unfold cutAt
    unfold Go.Lib.cut at ih ⊢
    by_cases h : b = c
    · rw [if_pos h] at hi ⊢
      rw [hi]; rfl
    · rw [if_neg h] at hi ⊢
      by_cases hm : Go.Lib.index r [c] = -1
      · rw [if_pos hm] at hi
        rw [hm, if_neg (by omega)] at ih
        rw [hi, if_neg (by omega)]
        cases hc : cutAt c r with
        | none => rfl
        | some x => rw [hc] at ih; simp at ih
      · rw [if_neg hm] at hi
        obtain ⟨j, hj⟩ := Int.eq_ofNat_of_zero_le (show 0 ≤ Go.Lib.index r [c] by omega)
        rw [hj, if_pos (by omega), Int.toNat_natCast] at ih
        rw [hi, hj, if_pos (by omega), show ((j : Int) + 1).toNat = j + 1 by omega]
        cases hc : cutAt c r with
        | none => rw [hc] at ih; simp at ih
        | some x =>
          obtain ⟨x, y⟩ := x
          rw [hc] at ih
          simp only [Prod.mk.injEq] at ih
          show ((b :: r).take (j + 1), (b :: r).drop (j + 1 + 1), true) = (b :: x, y, true)
          rw [List.take_succ_cons, ih.1, List.drop_succ_cons]
          have h2 := ih.2.1
          rw [show ([c] : Bs).length = 1 from rfl] at h2
          rw [h2]
theorem cutAt_len {c : UInt8} : ∀ {s x y : Bs}, cutAt c s = some (x, y) → s = x ++ c :: y
  | [], x, y, h => by cases h
  | b :: r, x, y, h => by
    unfold cutAt at h
    by_cases hb : b = c
    · rw [if_pos hb] at h; cases h; rw [hb]; rfl
    · rw [if_neg hb] at h
      cases hc : cutAt c r with
      | none => rw [hc] at h; cases h
      | some z =>
        obtain ⟨p, q⟩ := z
        rw [hc] at h; cases h
        have := cutAt_len hc
        rw [this]; rfl
theorem cutAt_app {c : UInt8} : ∀ {x : Bs} (y : Bs), (∀ b ∈ x, b ≠ c) → cutAt c (x ++ c :: y) = some (x, y)
  | [], y, h => by show cutAt c (c :: y) = _; unfold cutAt; rw [if_pos rfl]
  | b :: x, y, h => by
    show cutAt c (b :: (x ++ c :: y)) = _
    unfold cutAt
    rw [if_neg (h b (by simp)), cutAt_app y (fun z hz => h z (by simp [hz]))]
noncomputable def readOf (s : Bs) : Bs × Bs × Int := match cutAt 58 s with
  | none => ([], [], 2)
  | some (x, y) => if okLine x (valueOf (wf [] y)) = true ∧ lineOf x (valueOf (wf [] y)) = s then (x, valueOf (wf [] y), 0) else ([], [], 2)
theorem Read_eq (F : Nat) (s : Bs) (hs : s.length ≤ 250000) (hF : 900000 < F) : head_Read F s = some (readOf s) := by
  unfold head_Read readOf
  rw [grd_S (by omega), lt_eq, cut_one]
  cases hc : cutAt 58 s with
  | none =>
    dsimp only
    have e : fieldsP spB [] = [] := fields_eq []
    rw [grd_S (by simp), lt_eq, e, value_eq F [] (by omega) (by simp [Str.total]), bnd_some, Line_eq F s _ (by omega) (by omega) (by omega)]
    generalize (if okLine s (valueOf []) = true then (lineOf s (valueOf []), (0 : Int)) else ([], 1)) = r
    obtain ⟨p, q⟩ := r
    rw [bnd2_some, lt_eq, nfl, Bool.true_or, Bool.true_or, ctr]
  | some z =>
    obtain ⟨x, y⟩ := z
    have hl := congrArg List.length (cutAt_len hc)
    rw [List.length_append, List.length_cons] at hl
    have ht := wf_total y []
    have hv := valueOf_len (wf [] y)
    simp only [List.length_nil] at ht
    dsimp only
    rw [grd_S (by omega), lt_eq, fields_eq, value_eq F _ (by omega) (by omega), bnd_some, Line_eq F x _ (by omega) (by omega) (by omega)]
    by_cases ho : okLine x (valueOf (wf [] y)) = true
    · rw [if_pos ho, bnd2_some, lt_eq, decide_eq_true rfl, ntr, Bool.false_or]
      by_cases he : lineOf x (valueOf (wf [] y)) = s
      · rw [decide_eq_true he, ntr, Bool.false_or, cfl, if_pos ⟨ho, he⟩]
      · rw [decide_eq_false he, nfl, Bool.false_or, ctr, if_neg (fun h => he h.2)]
    · rw [if_neg ho, bnd2_some, lt_eq, decide_eq_false (show ¬ (1 : Int) = 0 by omega), nfl, ntr, Bool.false_or, Bool.true_or, ctr, if_neg (fun h => ho h.1)]
end Go.Hd
namespace Go.Hd
open Go.Pv Go.Av
def noSp (w : Bs) : Prop := ∀ c ∈ w, spb c = false
theorem wf_word (w r : Bs) (hw : noSp w) (h0 : w ≠ []) (c : UInt8) (hc : spb c = true) : wf [] (w ++ c :: r) = w :: wf [] r := by
  rw [wf_run _ w [] hw, List.nil_append, wf, if_pos hc, if_neg h0]
theorem wf_sp (r : Bs) (c : UInt8) (hc : spb c = true) : wf [] (c :: r) = wf [] r := by
  rw [wf, if_pos hc, if_pos rfl]
def tailOf : Int → List Bs → Bs
  | _, [] => [13, 10]
  | n, w :: ws => (lnStep (n, []) w).2 ++ tailOf (lnStep (n, []) w).1 ws
theorem lnStep_app (n : Int) (o : Bs) (w : Bs) : lnStep (n, o) w = ((lnStep (n, []) w).1, o ++ (lnStep (n, []) w).2) := by
  unfold lnStep
  by_cases h : 76 < n + 1 + (w.length : Int)
  · rw [if_pos h, if_pos h]; simp
  · rw [if_neg h, if_neg h]; simp
theorem fold_tail : ∀ (ws : List Bs) (n : Int) (o : Bs), (ws.foldl lnStep (n, o)).2 ++ [13, 10] = o ++ tailOf n ws
  | [], n, o => rfl
  | w :: ws, n, o => by
    rw [List.foldl_cons, lnStep_app n o w, fold_tail ws _ _, tailOf, List.append_assoc]
theorem lineOf_eq (a b : Bs) : lineOf a b = a ++ 58 :: tailOf ((a.length + 1 : Nat) : Int) (wordsOf b) := by
  unfold lineOf
  rw [fold_tail]; simp
theorem wf_tail : ∀ (ws : List Bs) (n : Int), (∀ w ∈ ws, noSp w ∧ w ≠ []) → wf [] (tailOf n ws) = ws ∧ ∃ c r, tailOf n ws = c :: r ∧ spb c = true
  | [], n, h => ⟨rfl, 13, [10], rfl, rfl⟩
  | w :: ws, n, h => by
    have ⟨hw, hne⟩ := h w (by simp)
    obtain ⟨ih, c, r, e, hc⟩ := wf_tail ws (lnStep (n, []) w).1 (fun x hx => h x (by simp [hx]))
    rw [tailOf]
    have : ∃ p : Bs, (lnStep (n, []) w).2 = p ++ w ∧ (p = [32] ∨ p = [13, 10, 32]) := by
      unfold lnStep
      split
      · exact ⟨[13, 10, 32], rfl, .inr rfl⟩
      · exact ⟨[32], rfl, .inl rfl⟩
    obtain ⟨p, hp, hp2⟩ := this
    have key : wf [] (w ++ tailOf (lnStep (n, []) w).1 ws) = w :: ws := by
      rw [e] at ih ⊢
      rw [wf_word w r hw hne c hc]
      rw [wf_sp r c hc] at ih
      rw [ih]
    rw [hp, List.append_assoc]
    rcases hp2 with rfl | rfl
    · refine ⟨?_, 32, _, rfl, rfl⟩
      show wf [] (32 :: (w ++ _)) = _
      rw [wf_sp _ 32 rfl, key]
    · refine ⟨?_, 13, _, rfl, rfl⟩
      show wf [] (13 :: 10 :: 32 :: (w ++ _)) = _
      rw [wf_sp _ 13 rfl, wf_sp _ 10 rfl, wf_sp _ 32 rfl, key]
theorem ch_nosp (n : Nat) (h : n < 64) : spb (ch n) = false := by
  have := of_all64 (fun n => !(spb (ch n))) (by decide +kernel) n h
  simpa using this
theorem enc_nosp : ∀ b : Bs, noSp (enc b)
  | a :: b :: c :: r => by
    have ih := enc_nosp r
    have hq := q3_lt a b c
    intro x hx
    rw [enc] at hx
    rcases List.mem_append.1 hx with hx | hx
    · simp only [four, List.mem_cons, List.not_mem_nil, or_false] at hx
      rcases hx with rfl | rfl | rfl | rfl <;> exact ch_nosp _ (by omega)
    · exact ih x hx
  | [a, b] => by
    have hq := q3_lt a b 0
    intro x hx
    simp only [enc, four, List.take, List.mem_append, List.mem_cons, List.not_mem_nil, or_false] at hx
    rcases hx with (rfl | rfl | rfl) | rfl
    · exact ch_nosp _ (by omega)
    · exact ch_nosp _ (by omega)
    · exact ch_nosp _ (by omega)
    · rfl
  | [a] => by
    have hq := q3_lt a 0 0
    intro x hx
    simp only [enc, four, List.take, List.mem_append, List.mem_cons, List.not_mem_nil, or_false] at hx
    rcases hx with (rfl | rfl) | rfl | rfl
    · exact ch_nosp _ (by omega)
    · exact ch_nosp _ (by omega)
    · rfl
    · rfl
  | [] => fun x hx => by cases hx
theorem word_nosp (p : Bs) : noSp (word p) ∧ word p ≠ [] := by
  refine ⟨fun c hc => ?_, by simp [word, ahead]⟩
  unfold word at hc
  rcases List.mem_append.1 hc with hc | hc
  · rcases List.mem_append.1 hc with hc | hc
    · have : ∀ c ∈ ahead, spb c = false := by decide
      exact this c hc
    · exact enc_nosp p c hc
  · have : ∀ c ∈ behind, spb c = false := by decide
    exact this c hc
theorem pieces_nosp (s : Bs) : ∀ n, s.length ≤ n → ∀ w ∈ pieces s, ∃ p, w = word p := by
  intro n
  induction n generalizing s with
  | zero => intro h; have : s = [] := List.eq_nil_of_length_eq_zero (by omega); subst this; simp [pieces_nil]
  | succ n ih =>
    intro h
    by_cases h0 : s = []
    · subst h0; simp [pieces_nil]
    · have hp := pt_le s
      have hl := List.length_pos_iff.2 h0
      have h3 := hp.2.2 h0
      rw [pieces_cons h0]
      intro w hw
      rcases List.mem_cons.1 hw with rfl | hw
      · exact ⟨_, rfl⟩
      · exact ih _ (by simp; omega) w hw
theorem isCoded_word (p : Bs) : isCoded (word p) = true ∧ mid (word p) = enc p := by
  have hal : ahead.length = 10 := rfl
  have hbl : behind.length = 2 := rfl
  have hl : (word p).length = 12 + (enc p).length := by unfold word; simp [hal, hbl]; omega
  refine ⟨?_, ?_⟩
  · unfold isCoded
    have h1 : (word p).take 10 = ahead := by unfold word; rw [List.append_assoc, List.take_left' hal]
    have h2 : (word p).drop ((word p).length - 2) = behind := by
      rw [hl]; unfold word; rw [List.drop_left' (by simp [hal]; omega)]
    rw [decide_eq_true h1, decide_eq_true h2, decide_eq_true (by omega)]; rfl
  · unfold mid
    rw [hl]
    unfold word
    rw [List.take_left' (by simp [hal]; omega), List.drop_left' hal]
theorem cd_word (p : Bs) : cdB (word p) = true ∧ cdT (word p) = p := by
  have ⟨h1, h2⟩ := isCoded_word p
  unfold cdB cdT
  rw [h1, h2, dec_enc]
  exact ⟨rfl, rfl⟩
theorem value_pieces (s : Bs) : ∀ n, s.length ≤ n → (pieces s).all cdB = true ∧ catT (pieces s) = s := by
  intro n
  induction n generalizing s with
  | zero => intro h; have : s = [] := List.eq_nil_of_length_eq_zero (by omega); subst this; exact ⟨rfl, rfl⟩
  | succ n ih =>
    intro h
    by_cases h0 : s = []
    · subst h0; exact ⟨rfl, rfl⟩
    · have hp := pt_le s
      have hl := List.length_pos_iff.2 h0
      have h3 := hp.2.2 h0
      have ⟨i1, i2⟩ := ih (s.drop (pt s)) (by simp; omega)
      have ⟨c1, c2⟩ := cd_word (s.take (pt s))
      rw [pieces_cons h0, catT_cons, List.all_cons, c1, c2, i1, i2]
      exact ⟨rfl, List.take_append_drop _ _⟩
theorem join_prep (cur : Bs) (l : List Bs) (h : l ≠ []) : Str.join [32] (prep cur l) = cur ++ Str.join [32] l := by
  cases l with
  | nil => exact absurd rfl h
  | cons p ps => simp [prep, Str.join]
theorem join_cons_nil (l : List Bs) (h : l ≠ []) : Str.join [32] ([] :: l) = 32 :: Str.join [32] l := by
  cases l with
  | nil => exact absurd rfl h
  | cons p ps => simp [Str.join, Str.rest]
theorem join_sp : ∀ s : Bs, Str.join [32] (sp 32 s) = s
  | [] => rfl
  | c :: r => by
    have ih := join_sp r
    by_cases h : c = 32
    · subst h; rw [sp_cons_eq, join_cons_nil _ (sp_ne 32 r), ih]
    · rw [sp_cons_ne h, join_prep _ _ (sp_ne 32 r), ih]; rfl
theorem has2_tail {p : UInt8 → UInt8 → Bool} {c : UInt8} {r : Bs} (h : has2 p (c :: r) = false) : has2 p r = false := by
  cases r with
  | nil => rfl
  | cons d r => rw [has2, Bool.or_eq_false_iff] at h; exact h.2
theorem mem_prep {cur w : Bs} {l : List Bs} (h : w ∈ prep cur l) : (∃ p ps, l = p :: ps ∧ w = cur ++ p) ∨ w ∈ l.drop 1 ∨ (l = [] ∧ w = cur) := by
  cases l with
  | nil => simp [prep] at h; exact .inr (.inr ⟨rfl, h⟩)
  | cons p ps =>
    simp only [prep, List.mem_cons] at h
    rcases h with h | h
    · exact .inl ⟨p, ps, rfl, h⟩
    · exact .inr (.inl h)
theorem sp_nosp : ∀ s : Bs, (s.all okb = true) → ∀ w ∈ sp 32 s, noSp w
  | [], _, w, hw => by simp [sp] at hw; subst hw; exact fun c hc => by cases hc
  | c :: r, h, w, hw => by
    rw [List.all_cons, Bool.and_eq_true] at h
    have ih := sp_nosp r h.2
    by_cases hc : c = 32
    · subst hc
      rw [sp_cons_eq] at hw
      rcases List.mem_cons.1 hw with rfl | hw
      · exact fun c hc => by cases hc
      · exact ih w hw
    · rw [sp_cons_ne hc] at hw
      rcases mem_prep hw with ⟨p, ps, e, rfl⟩ | h2 | ⟨e, _⟩
      · intro x hx
        rcases List.mem_append.1 hx with hx | hx
        · have : x = c := by simpa using hx
          subst this
          have := h.1
          unfold okb at this
          simp only [Bool.and_eq_true, decide_eq_true_eq] at this
          unfold spb
          have n13 : x ≠ 13 := fun e => by rw [e] at this; revert this; decide
          have n10 : x ≠ 10 := fun e => by rw [e] at this; revert this; decide
          rw [decide_eq_false hc, decide_eq_false n13, decide_eq_false n10]; rfl
        · exact ih p (by rw [e]; simp) x hx
      · exact ih w (List.mem_of_mem_drop h2)
      · exact absurd e (sp_ne 32 r)
theorem sp_full : ∀ s : Bs, has2 bad s = false → s.getLast? ≠ some 32 → ∀ w ∈ (sp 32 s).drop 1, w ≠ []
  | [], _, _, w, hw => by simp [sp] at hw
  | c :: r, h, hl, w, hw => by
    have hr : r = [] ∨ r.getLast? ≠ some 32 := by
      cases r with
      | nil => exact .inl rfl
      | cons d r => right; simpa using hl
    have ih : ∀ w ∈ (sp 32 r).drop 1, w ≠ [] := by
      rcases hr with rfl | hr
      · intro w hw; simp [sp] at hw
      · exact sp_full r (has2_tail h) hr
    by_cases hc : c = 32
    · subst hc
      rw [sp_cons_eq] at hw
      cases r with
      | nil => simp at hl
      | cons d r =>
        have hd : d ≠ 32 := fun e => by
          subst e
          rw [has2, Bool.or_eq_false_iff] at h
          have := h.1
          revert this; decide
        rw [List.drop_one, List.tail_cons] at hw
        have hne := sp_ne 32 (d :: r)
        cases hs : sp 32 (d :: r) with
        | nil => exact absurd hs hne
        | cons p ps =>
          rw [hs] at hw ih
          rcases List.mem_cons.1 hw with rfl | hw
          · intro e
            subst e
            rw [sp_cons_ne hd] at hs
            cases h3 : sp 32 r with
            | nil => exact absurd h3 (sp_ne 32 r)
            | cons q qs => rw [h3] at hs; simp [prep] at hs
          · exact ih w (by simpa using hw)
    · rw [sp_cons_ne hc] at hw
      refine ih w ?_
      cases hs : sp 32 r with
      | nil => exact absurd hs (sp_ne 32 r)
      | cons p ps => rw [hs] at hw; simpa [prep] using hw
theorem sp_first (c : UInt8) (r : Bs) (hc : c ≠ 32) : ∃ p ps, sp 32 (c :: r) = (c :: p) :: ps ∧ ∃ q, r = p ++ q := by
  rw [sp_cons_ne hc]
  have : ∀ s : Bs, ∃ p ps, sp 32 s = p :: ps ∧ ∃ q, s = p ++ q := by
    intro s
    induction s with
    | nil => exact ⟨[], [], rfl, [], rfl⟩
    | cons d s ih =>
      obtain ⟨p, ps, e, q, hq⟩ := ih
      by_cases hd : d = 32
      · subst hd; exact ⟨[], _, sp_cons_eq 32 s, _, rfl⟩
      · exact ⟨d :: p, ps, by rw [sp_cons_ne hd, e]; rfl, q, by rw [hq]; rfl⟩
  obtain ⟨p, ps, e, q, hq⟩ := this r
  exact ⟨p, ps, by rw [e]; rfl, q, hq⟩
theorem words_plain {s : Bs} (h : plainB s = true) : (∀ w ∈ sp 32 s, noSp w ∧ w ≠ []) ∧ (sp 32 s).all cdB = false := by
  unfold plainB at h
  simp only [Bool.and_eq_true, Bool.not_eq_true', decide_eq_false_iff_not, decide_eq_true_eq] at h
  obtain ⟨⟨⟨ha, hne⟩, hh, hl⟩, hb⟩ := h
  cases s with
  | nil => exact absurd rfl hne
  | cons c r =>
    have hc : c ≠ 32 := fun e => hh (by rw [e]; rfl)
    have hs := sp_nosp (c :: r) ha
    have hf := sp_full (c :: r) hb hl
    obtain ⟨p, ps, e, q, hq⟩ := sp_first c r hc
    rw [e] at hs hf ⊢
    refine ⟨fun w hw => ⟨hs w hw, ?_⟩, ?_⟩
    · rcases List.mem_cons.1 hw with rfl | hw
      · simp
      · exact hf w (by simpa using hw)
    · rw [List.all_cons]
      have : cdB (c :: p) = false := by
        cases hi : isCoded (c :: p) with
        | false => unfold cdB; rw [hi, fand]
        | true =>
          exfalso
          unfold isCoded at hi
          simp only [Bool.and_eq_true, decide_eq_true_eq] at hi
          have h10 := hi.2.1
          cases p with
          | nil => simp at hi
          | cons d p =>
            have e1 : c = 61 ∧ d = 63 := by
              unfold ahead at h10
              simp only [List.take_succ_cons, List.cons.injEq] at h10
              exact ⟨h10.1, h10.2.1⟩
            rw [hq, e1.1, e1.2] at hb
            simp [has2, bad] at hb
      rw [this, fand]
theorem value_words (s : Bs) : valueOf (wordsOf s) = s ∧ ∀ w ∈ wordsOf s, noSp w ∧ w ≠ [] := by
  unfold wordsOf
  cases hp : plainB s with
  | true =>
    have ⟨h1, h2⟩ := words_plain hp
    rw [ctr]
    unfold valueOf
    rw [h2, cfl]
    exact ⟨join_sp s, h1⟩
  | false =>
    have ⟨h1, h2⟩ := value_pieces s s.length (by omega)
    rw [cfl]
    unfold valueOf
    rw [h1, ctr]
    exact ⟨h2, fun w hw => by obtain ⟨p, rfl⟩ := pieces_nosp s s.length (by omega) w hw; exact word_nosp p⟩
theorem name_colon {a : Bs} (h : nameB a = true) : ∀ c ∈ a, c ≠ 58 := by
  unfold nameB at h
  simp only [Bool.and_eq_true] at h
  intro c hc e
  have := List.all_eq_true.1 h.1.1 c hc
  rw [e] at this
  revert this; decide
theorem read_line (a b : Bs) (h : okLine a b = true) : readOf (lineOf a b) = (a, b, 0) := by
  have ⟨h1, h2⟩ := value_words b
  have h3 := (wf_tail (wordsOf b) ((a.length + 1 : Nat) : Int) h2).1
  unfold readOf
  rw [lineOf_eq, cutAt_app _ (name_colon (okLine_s h).1)]
  dsimp only
  rw [h3, h1, if_pos ⟨h, lineOf_eq a b⟩]
def wsum : List Bs → Nat
  | [] => 0
  | w :: ws => w.length + 3 + wsum ws
theorem fold_len : ∀ (ws : List Bs) (st : Int × Bs), (ws.foldl lnStep st).2.length ≤ st.2.length + wsum ws
  | [], st => by simp [wsum]
  | w :: ws, st => by
    have h1 := lnStep_len st w
    have h2 := fold_len ws (lnStep st w)
    rw [List.foldl_cons, wsum]; omega
theorem wsum_total : ∀ ws : List Bs, wsum ws = Str.total ws + 3 * ws.length
  | [] => rfl
  | w :: ws => by rw [wsum, wsum_total ws]; simp [Str.total]; omega
theorem pieces_few (s : Bs) : ∀ n, s.length ≤ n → 42 * (pieces s).length ≤ s.length + 42 := by
  intro n
  induction n generalizing s with
  | zero => intro h; have : s = [] := List.eq_nil_of_length_eq_zero (by omega); subst this; simp [pieces_nil]
  | succ n ih =>
    intro h
    by_cases h0 : s = []
    · subst h0; simp [pieces_nil]
    · have hp := pt_le s
      have hl := List.length_pos_iff.2 h0
      have h3 := hp.2.2 h0
      have hi := ih (s.drop (pt s)) (by simp; omega)
      rw [pieces_cons h0, List.length_cons]
      by_cases h45 : s.length ≤ 45
      · have : pt s = s.length := by unfold pt; rw [if_pos h45]
        rw [this, List.drop_length, pieces_nil]; simp
      · have h42 : 42 ≤ pt s := by unfold pt; rw [if_neg h45]; exact (dn_le s 4 (by omega)).1
        rw [List.length_drop] at hi
        omega
theorem wsum_pieces : ∀ l : List Bs, (∀ w ∈ l, w.length ≤ 104) → wsum l ≤ 107 * l.length
  | [], _ => by simp [wsum]
  | w :: ws, h => by
    have := wsum_pieces ws (fun x hx => h x (by simp [hx]))
    have := h w (by simp)
    rw [wsum, List.length_cons]; omega
theorem line_short (a b : Bs) (h : okLine a b = true) (hb : b.length ≤ 600) : (lineOf a b).length ≤ 1900 := by
  have ha := (okLine_s h).2.2
  have hf := fold_len (wordsOf b) (((a.length + 1 : Nat) : Int), a ++ [58])
  have hw : wsum (wordsOf b) ≤ 1803 := by
    unfold wordsOf
    cases plainB b with
    | true =>
      have h1 := sp_total 32 b
      rw [ctr, wsum_total]; omega
    | false =>
      have h1 := pieces_few b b.length (by omega)
      have h2 := wsum_pieces (pieces b) (pieces_len b b.length (by omega)).2
      rw [cfl]; omega
  unfold lineOf
  rw [List.length_append]
  simp at hf ⊢; omega
end Go.Hd
namespace Go.Hd
open Go.Pv Go.Av
def en : Bs → Option Nat
  | [] => none
  | c :: r => if (c = 13 ∧ r.head? = some 10) ∧ (r.drop 1).head? ≠ some 32 then some 2 else match en r with
    | none => none
    | some n => some (n + 1)
theorem en_le : ∀ {s : Bs} {n : Nat}, en s = some n → 2 ≤ n ∧ n ≤ s.length
  | [], n, h => by cases h
  | c :: r, n, h => by
    rw [en] at h
    split at h
    · rename_i hc
      cases h
      have : r ≠ [] := fun e => by rw [e] at hc; cases hc.1.2
      have := List.length_pos_iff.2 this
      rw [List.length_cons]; omega
    · cases hr : en r with
      | none => rw [hr] at h; cases h
      | some m =>
        rw [hr] at h; cases h
        have := en_le hr
        rw [List.length_cons]; omega
theorem head_at (s : Bs) (i : Nat) : (s.drop i).head? = s[i]? := by rw [List.head?_drop]
theorem index_cons (x : UInt8) (r sub : Bs) : Go.Lib.index (x :: r) sub = if sub.isPrefixOf (x :: r) = true then 0 else if Go.Lib.index r sub = -1 then -1 else Go.Lib.index r sub + 1 := by
  rw [Go.Lib.index]
  simp only [beq_iff_eq]
theorem pre2 (x : UInt8) (r : Bs) : ([13, 10] : Bs).isPrefixOf (x :: r) = true ↔ x = 13 ∧ r.head? = some 10 := by
  cases r with
  | nil => simp [List.isPrefixOf]
  | cons y r => simp [List.isPrefixOf]; constructor <;> (intro ⟨h1, h2⟩; exact ⟨h1.symm, h2.symm⟩)
theorem en_index : ∀ (s : Bs), (Go.Lib.index s [13, 10] = -1 ∧ en s = none) ∨ ∃ j : Nat, Go.Lib.index s [13, 10] = (j : Int) ∧ j + 2 ≤ s.length ∧
    en s = if (s.drop (j + 2)).head? = some 32 then (match en (s.drop (j + 2)) with | none => none | some k => some (j + 2 + k)) else some (j + 2)
  | [] => .inl ⟨rfl, rfl⟩
  | c :: r => by
    have ih := en_index r
    rw [index_cons, en]
    by_cases hp : c = 13 ∧ r.head? = some 10
    · right
      refine ⟨0, by rw [if_pos ((pre2 c r).2 hp)]; rfl, ?_, ?_⟩
      · have : r ≠ [] := fun e => by rw [e] at hp; cases hp.2
        have := List.length_pos_iff.2 this
        rw [List.length_cons]; omega
      · have hd : (c :: r).drop (0 + 2) = r.drop 1 := rfl
        rw [hd]
        by_cases h32 : (r.drop 1).head? = some 32
        · rw [if_neg (fun h => h.2 h32), if_pos h32]
          -- the sign behind is the line feed
          cases r with
          | nil => cases hp.2
          | cons d r =>
            have : d = 10 := by simpa using hp.2
            subst this
            rw [en, if_neg (fun h => by have := h.1.1; revert this; decide)]
            show (match (match en r with | none => none | some n => some (n + 1)) with | none => none | some n => some (n + 1)) = match en r with | none => none | some k => some (0 + 2 + k)
            cases en r with
            | none => rfl
            | some k => dsimp only; congr 1; omega
        · rw [if_pos ⟨hp, h32⟩, if_neg h32]
    · have hp1 : ¬ ([13, 10] : Bs).isPrefixOf (c :: r) = true := fun h => hp ((pre2 c r).1 h)
      have hp3 : ¬ ((c = 13 ∧ r.head? = some 10) ∧ (r.drop 1).head? ≠ some 32) := fun h => hp h.1
      rw [if_neg hp1, if_neg hp3]
      rcases ih with ⟨h1, h2⟩ | ⟨j, h1, hjl, h2⟩
      · left; rw [h1, h2]; exact ⟨rfl, rfl⟩
      · right
        refine ⟨j + 1, by rw [h1, if_neg (by omega)]; rfl, by rw [List.length_cons]; omega, ?_⟩
        have hd : (c :: r).drop (j + 1 + 2) = r.drop (j + 2) := by rw [show j + 1 + 2 = (j + 2) + 1 by omega]; rfl
        rw [hd, h2]
        by_cases h32 : (r.drop (j + 2)).head? = some 32
        · rw [if_pos h32, if_pos h32]
          cases en (r.drop (j + 2)) with
          | none => rfl
          | some k => dsimp only; congr 1; omega
        · rw [if_neg h32, if_neg h32]
theorem fo (x : Bool) : (false || x) = x := Eq.symm (Eq.symm rfl)
abbrev Rr := List Bs × Bs × Bool
theorem in_loop (s : Bs) (ls : List Bs) (rec10 : (Bs × List Bs) → Option Rr) (hs : s.length ≤ 1000000) : ∀ (m i : Nat), s.length - i + 1 < m → i ≤ s.length → (i = 0 ∨ (s.drop i).head? = some 32) →
    head_lines_L1 s ls rec10 m (i : Int) = match en (s.drop i) with
      | none => some ([], [], false)
      | some k => head_lines_j2 s ls rec10 ((i + k : Nat) : Int) := by
  intro m
  induction m with
  | zero => intro i h; omega
  | succ m ih =>
    intro i hm hi hz
    show head_lines_B1 s ls rec10 (head_lines_L1 s ls rec10 m) (i : Int) = _
    unfold head_lines_B1
    have hcond : ∀ k : UInt8 → Option Rr, (grdc ((!(decide ((i : Int) = 0))) && (decide ((i : Int) < (s.length : Int)))) (okAt (i : Int) s.length) <| lt (at_ s (i : Int)) fun x22 => k x22) = k (at_ s (i : Int)) := fun k => by
      rw [lt_eq]
      by_cases hl : i < s.length
      · rw [show okAt (i : Int) s.length = true from decide_eq_true (by omega)]
        cases (!(decide ((i : Int) = 0))) && (decide ((i : Int) < (s.length : Int))) <;> rfl
      · rw [decide_eq_false (show ¬ (i : Int) < s.length by omega), Bool.and_false, grdc_f]
    rw [hcond]
    have hgo : ((decide ((i : Int) = 0)) || ((decide ((i : Int) < (s.length : Int))) && (decide (at_ s (i : Int) = 32)))) = true := by
      rcases hz with h | h
      · rw [decide_eq_true (show (i : Int) = 0 by omega)]; rfl
      · rw [head_at] at h
        have hl : i < s.length := (List.getElem?_eq_some_iff.1 h).1
        have h3 := (List.getElem?_eq_some_iff.1 h).2
        rw [at_nat hl, decide_eq_true h3, decide_eq_true (show (i : Int) < s.length by omega)]; simp
    have h2 : decide (2 ≤ ([13, 10] : Bs).length) = true := rfl
    rw [hgo, ctr, grd_To (by omega), lt_eq, from_nat, grd_S (by simp; omega), h2, grd_t, grd_S (by simp), lt_eq]
    rcases en_index (s.drop i) with ⟨e1, e2⟩ | ⟨j, e1, hjl, e2⟩
    · rw [e1, e2, bT (by omega)]
    · rw [List.length_drop] at hjl
      have hij : (i : Int) + ((j : Int) + 2) = ((i + j + 2 : Nat) : Int) := by omega
      rw [e1, bF (by omega), grd_I (by omega), grd_I (by omega), hij]
      have hdd : (s.drop i).drop (j + 2) = s.drop (i + j + 2) := by rw [List.drop_drop]; congr 1
      rw [hdd] at e2
      rw [e2]
      by_cases h32 : (s.drop (i + j + 2)).head? = some 32
      · rw [if_pos h32, ih (i + j + 2) (by omega) (by omega) (.inr h32)]
        cases en (s.drop (i + j + 2)) with
        | none => rfl
        | some k => dsimp only; congr 2; omega
      · rw [if_neg h32]
        dsimp only
        obtain ⟨m, rfl⟩ : ∃ q, m = q + 1 := ⟨m - 1, by omega⟩
        show head_lines_B1 s ls rec10 (head_lines_L1 s ls rec10 m) ((i + j + 2 : Nat) : Int) = _
        unfold head_lines_B1
        simp only [decide_eq_false (show ¬ ((i + j + 2 : Nat) : Int) = 0 by omega), nfl, tand, fo]
        by_cases hl : i + j + 2 < s.length
        · rw [head_at, List.getElem?_eq_getElem hl] at h32
          have h3 : ¬ s[i + j + 2] = 32 := fun e => h32 (by rw [e])
          rw [decide_eq_true (show ((i + j + 2 : Nat) : Int) < s.length by omega), grdc_t, grd_At (by omega), lt_eq, at_nat hl, decide_eq_false h3, Bool.and_false, cfl]
          congr 1
        · rw [decide_eq_false (show ¬ ((i + j + 2 : Nat) : Int) < s.length by omega), grdc_f, lt_eq, fand, cfl]
          congr 1
def ln : Nat → Bs → Option (List Bs × Bs)
  | 0, _ => none
  | f + 1, s => if Go.Lib.hasPrefix s [13, 10] = true then some ([], s.drop 2) else match en s with
    | none => none
    | some n => match ln f (s.drop n) with
      | none => none
      | some (l, r) => some (s.take n :: l, r)
theorem lines_loop (F : Nat) : ∀ (m : Nat) (s : Bs) (ls : List Bs), s.length < m → s.length + 3 < F → s.length ≤ 1000000 → ls.length + s.length ≤ 1000000 →
    head_lines_L2 F m (s, ls) = some (match ln m s with
      | none => ([], [], false)
      | some (l, r) => (ls ++ l, r, decide (((ls ++ l).length : Int) ≤ 50))) := by
  intro m
  induction m with
  | zero => intro s ls h; omega
  | succ m ih =>
    intro s ls hm hF hs hl
    show head_lines_B2 F (head_lines_L2 F m) s ls = _
    unfold head_lines_B2
    rw [lt_eq, ln]
    by_cases hp : Go.Lib.hasPrefix s [13, 10] = true
    · have h2 : 2 ≤ s.length := by
        have := (List.isPrefixOf_iff_prefix.1 hp).length_le
        simpa using this
      rw [hp, ntr, cfl, if_pos rfl]
      unfold head_lines_j1
      rw [grd_To (by omega), lt_eq, show (2 : Int) = ((2 : Nat) : Int) from rfl, from_nat]
      dsimp only
      rw [List.append_nil]
    · rw [if_neg hp]
      have hp2 : Go.Lib.hasPrefix s [13, 10] = false := by simpa using hp
      rw [hp2, nfl, ctr]
      have := in_loop s ls (head_lines_L2 F m) hs F 0 (by omega) (by omega) (.inl rfl)
      refine Eq.trans this ?_
      rw [List.drop_zero]
      cases he : en s with
      | none => rfl
      | some n =>
        have ⟨n1, n2⟩ := en_le he
        dsimp only
        unfold head_lines_j2
        rw [Nat.zero_add, grd_To (by omega), lt_eq, to_nat, grd_To (by omega), lt_eq, from_nat, grd_Cat (by simp; omega), lt_eq, ih _ _ (by simp; omega) (by simp; omega) (by simp; omega) (by simp; omega)]
        cases ln m (s.drop n) with
        | none => rfl
        | some z =>
          obtain ⟨l, r⟩ := z
          dsimp only
          rw [List.append_assoc]; rfl
theorem ln_more : ∀ (m k : Nat) (s : Bs), s.length < m → s.length < k → ln m s = ln k s := by
  intro m
  induction m with
  | zero => intro k s h; omega
  | succ m ih =>
    intro k s h1 h2
    obtain ⟨k, rfl⟩ : ∃ j, k = j + 1 := ⟨k - 1, by omega⟩
    rw [ln, ln]
    split
    · rfl
    · cases he : en s with
      | none => rfl
      | some n =>
        have ⟨n1, n2⟩ := en_le he
        dsimp only
        rw [ih k (s.drop n) (by simp; omega) (by simp; omega)]
def lnOf (s : Bs) : Option (List Bs × Bs) := ln (s.length + 1) s
theorem ln_sum : ∀ (m : Nat) (s : Bs) {l : List Bs} {r : Bs}, ln m s = some (l, r) → Str.total l + 2 + r.length = s.length := by
  intro m
  induction m with
  | zero => intro s l r h; cases h
  | succ m ih =>
    intro s l r h
    rw [ln] at h
    by_cases hp : Go.Lib.hasPrefix s [13, 10] = true
    · have h2 : 2 ≤ s.length := by
        have := (List.isPrefixOf_iff_prefix.1 hp).length_le
        simpa using this
      rw [if_pos hp] at h
      cases h
      simp [Str.total]; omega
    · rw [if_neg hp] at h
      cases he : en s with
      | none => rw [he] at h; cases h
      | some n =>
        have ⟨n1, n2⟩ := en_le he
        rw [he] at h
        dsimp only at h
        cases hr : ln m (s.drop n) with
        | none => rw [hr] at h; cases h
        | some z =>
          obtain ⟨l2, r2⟩ := z
          rw [hr] at h
          cases h
          have := ih _ hr
          simp [Str.total] at this ⊢; omega
noncomputable def rdT (s : Bs) : Bs × Bs := ((readOf s).1, (readOf s).2.1)
noncomputable def rdB (s : Bs) : Bool := decide ((readOf s).2.2 = 0)
noncomputable def cutOf (s : Bs) : List (Bs × Bs) × Bs × Int := match lnOf s with
  | none => ([], [], 2)
  | some (l, r) => bif decide (l.length ≤ 50) && l.all rdB then (l.map rdT, r, 0) else ([], [], 2)
theorem each_loop (F : Nat) (hF : 900000 < F) (l : List Bs) (hl : l.length ≤ 1000000) (hw : ∀ w ∈ l, w.length ≤ 250000) : ∀ (m i : Nat) (hs : List (Bs × Bs)), l.length - i < m → i ≤ l.length → hs.length ≤ i →
    ∃ c : Int, head_eachR_L1 F l m (hs, (i : Int)) = some (bif (l.drop i).all rdB then (hs ++ (l.drop i).map rdT, 0) else ([], c)) ∧ c ≠ 0 := by
  intro m
  induction m with
  | zero => intro i hs h; omega
  | succ m ih =>
    intro i hs hm hi hh
    show ∃ c : Int, head_eachR_B1 F l (head_eachR_L1 F l m) hs (i : Int) = _ ∧ _
    unfold head_eachR_B1 head_eachR_j1
    by_cases h : i < l.length
    · have hd : l.drop i = l[i] :: l.drop (i + 1) := List.drop_eq_getElem_cons h
      obtain ⟨c, h1, h2⟩ := ih (i + 1) (hs ++ [rdT l[i]]) (by omega) (by omega) (by simp; omega)
      rw [bT (by omega), grd_At (by omega), lt_eq, at_nat h, Read_eq F _ (hw _ (List.getElem_mem h)) hF, hd, List.all_cons]
      have e : readOf l[i] = ((rdT l[i]).1, (rdT l[i]).2, (readOf l[i]).2.2) := rfl
      rw [e, bnd3_some]
      by_cases hz : (readOf l[i]).2.2 = 0
      · have hb : rdB l[i] = true := decide_eq_true hz
        refine ⟨c, ?_, h2⟩
        rw [decide_eq_true hz, ntr, cfl, grd_Cat (by simp; omega), lt_eq, grd_I (by omega), cast_succ, h1, hb, tand, List.map_cons, List.append_assoc]
        rfl
      · have hb : rdB l[i] = false := decide_eq_false hz
        refine ⟨(readOf l[i]).2.2, ?_, hz⟩
        rw [decide_eq_false hz, nfl, ctr, hb, fand, cfl]
    · have hd : l.drop i = [] := List.drop_eq_nil_of_le (by omega)
      rw [bF (by omega), hd]
      exact ⟨1, by simp, by omega⟩
theorem Cut_eq (F : Nat) (hF : 900000 < F) (s : Bs) (hs : s.length ≤ 250000) : head_Cut F s = some (cutOf s) := by
  have hl := lines_loop F F s [] (by omega) (by omega) (by omega) (by simp; omega)
  unfold head_Cut cutOf lnOf
  have hl2 : head_lines F s = _ := hl
  rw [hl2, ln_more F (s.length + 1) s (by omega) (by omega)]
  cases hn : ln (s.length + 1) s with
  | none => rfl
  | some z =>
    obtain ⟨l, r⟩ := z
    have hsum := ln_sum _ _ hn
    dsimp only
    rw [List.nil_append, bnd3_some]
    by_cases h50 : l.length ≤ 50
    · obtain ⟨c, h1, h2⟩ := each_loop F hF l (by omega) (fun w hw => by have := mem_total hw; omega) F 0 [] (by omega) (by omega) (by simp)
      have h1' : head_eachR F l = _ := h1
      rw [decide_eq_true (show (l.length : Int) ≤ 50 by omega), decide_eq_true h50, ntr, cfl, tand, h1', List.drop_zero]
      cases l.all rdB with
      | true => rw [ctr, ctr, bnd2_some, decide_eq_true rfl, ntr, cfl, grd_S (by omega), lt_eq, List.nil_append]
      | false => rw [cfl, cfl, bnd2_some, decide_eq_false h2, nfl, ctr]
    · rw [decide_eq_false (show ¬ (l.length : Int) ≤ 50 by omega), decide_eq_false h50, nfl, ctr, fand, cfl]
theorem hp2 (s : Bs) : Go.Lib.hasPrefix s [13, 10] = (decide (2 ≤ s.length) && (decide (gb s 0 = 13) && decide (gb s 1 = 10))) := by
  unfold Go.Lib.hasPrefix
  match s with
  | [] => rfl
  | [x] => simp [List.isPrefixOf]
  | x :: y :: r =>
    simp only [List.isPrefixOf, List.length_cons, Bool.and_true]
    rw [decide_eq_true (show 2 ≤ r.length + 1 + 1 by omega), tand]
    show (13 == x && 10 == y) = (decide (x = 13) && decide (y = 10))
    rw [bq, bq, Bool.beq_comm, Bool.beq_comm (a := (10 : UInt8))]
theorem rsame_loop (l : List (Bs × Bs)) (hl : l.length ≤ 1000000) : ∀ (n i : Nat), l.length - i < n → i ≤ l.length → ref14_Same_L1 l l n (i : Int) = some true := by
  intro n
  induction n with
  | zero => intro i h; omega
  | succ n ih =>
    intro i hn hi
    show ref14_Same_B1 l l (ref14_Same_L1 l l n) (i : Int) = _
    unfold ref14_Same_B1 ref14_Same_j1
    by_cases h : i < l.length
    · rw [bT (by omega), grd_At (by omega), lt_eq, at_nat h, grd_At (by omega), lt_eq, decide_eq_true rfl, decide_eq_true rfl, tand, ntr, cfl, grd_I (by omega), cast_succ, ih (i + 1) (by omega) (by omega)]
    · rw [bF (by omega)]
theorem rSame_eq (F : Nat) (l : List (Bs × Bs)) (hl : l.length ≤ 1000000) (hF : l.length < F) : ref14_Same F l l = some true := by
  unfold ref14_Same
  rw [decide_eq_true rfl, ntr, cfl]
  exact rsame_loop l hl F 0 (by omega) (by omega)
end Go.Hd
namespace Go.Hd
open Go.Pv Go.Av
theorem awake_eq : law14_awake 1000000 = some true := by decide +kernel
theorem Line_all (F : Nat) (a b : Bs) (hF : 4200 < F) : head_Line F a b = some (if okLine a b = true then (lineOf a b, 0) else ([], 1)) := by
  by_cases h : a.length ≤ 40
  · exact Line_eq F a b (by omega) (by omega) hF
  · have hn : okLine a b ≠ true := fun ho => h (okLine_s ho).2.2
    unfold head_Line head_name
    rw [if_neg hn, decide_eq_false (show ¬ (a.length : Int) ≤ 40 by omega), bndc_f, fand, bnd_some]; rfl
def okX (x : Bs × Bs) : Bool := okLine x.1 x.2
def lnX (x : Bs × Bs) : Bs := lineOf x.1 x.2
theorem eachL_loop (F : Nat) (hF : 900000 < F) (l : List (Bs × Bs)) (hl : l.length ≤ 1000000) : ∀ (m i : Nat) (ls : List Bs), l.length - i < m → i ≤ l.length → ls.length ≤ i →
    head_eachL_L1 F l m (ls, (i : Int)) = some (bif (l.drop i).all okX then (ls ++ (l.drop i).map lnX, 0) else ([], 1)) := by
  intro m
  induction m with
  | zero => intro i ls h; omega
  | succ m ih =>
    intro i ls hm hi hh
    show head_eachL_B1 F l (head_eachL_L1 F l m) ls (i : Int) = _
    unfold head_eachL_B1 head_eachL_j1
    by_cases h : i < l.length
    · have hd : l.drop i = l[i] :: l.drop (i + 1) := List.drop_eq_getElem_cons h
      rw [bT (by omega), grd_At (by omega), lt_eq, at_nat h, Line_all F _ _ (by omega), hd, List.all_cons]
      by_cases ho : okLine l[i].1 l[i].2 = true
      · have hb : okX l[i] = true := ho
        rw [if_pos ho, bnd2_some, decide_eq_true rfl, ntr, cfl, grd_Cat (by simp; omega), lt_eq, grd_I (by omega), cast_succ, ih (i + 1) _ (by omega) (by omega) (by simp; omega), hb, tand, List.map_cons, List.append_assoc]
        rfl
      · have hb : okX l[i] = false := by unfold okX; simpa using ho
        rw [if_neg ho, bnd2_some, decide_eq_false (show ¬ (1 : Int) = 0 by omega), nfl, ctr, hb, fand, cfl]
    · have hd : l.drop i = [] := List.drop_eq_nil_of_le (by omega)
      rw [bF (by omega), hd]; simp
def allOf (l : List (Bs × Bs)) : Bs × Int := bif decide (l.length ≤ 50) then (bif l.all okX then ((l.map lnX).flatten ++ [13, 10], 0) else ([], 1)) else ([], 4)
theorem flat_len : ∀ (l : List (Bs × Bs)), (∀ x ∈ l, x.2.length ≤ 600) → l.all okX = true → ((l.map lnX).flatten).length ≤ 1900 * l.length
  | [], _, _ => by simp
  | x :: l, h, ha => by
    rw [List.all_cons, Bool.and_eq_true] at ha
    have := flat_len l (fun y hy => h y (by simp [hy])) ha.2
    have h1 := line_short x.1 x.2 ha.1 (h x (by simp))
    rw [List.map_cons, List.flatten_cons, List.length_append, List.length_cons]
    have e : lnX x = lineOf x.1 x.2 := rfl
    rw [e]; omega
theorem All_eq (F : Nat) (hF : 900000 < F) (l : List (Bs × Bs)) (hx : ∀ x ∈ l, x.2.length ≤ 600) : head_All F l = some (allOf l) := by
  unfold head_All allOf
  by_cases h : l.length ≤ 50
  · have he : head_eachL F l = _ := eachL_loop F hF l (by omega) F 0 [] (by omega) (by omega) (by simp)
    rw [bF (by omega), decide_eq_true h, ctr, he, List.drop_zero]
    cases ha : l.all okX with
    | false => rw [cfl, cfl, bnd2_some, decide_eq_false (show ¬ (1 : Int) = 0 by omega), nfl, ctr]
    | true =>
      have hfl := flat_len l hx ha
      rw [ctr, ctr, bnd2_some, decide_eq_true rfl, ntr, cfl, List.nil_append]
      have hj : okJoin0 (l.map lnX) = true := by
        unfold okJoin0
        rw [decide_eq_true (show ((l.map lnX).flatten).length ≤ 1000000000 by omega), decide_eq_true (show (l.map lnX).length ≤ 1000000000 by simp; omega)]
        cases l with
        | nil => rfl
        | cons x l =>
          have e : lnX x = lineOf x.1 x.2 := rfl
          have : ((x :: l).map lnX).flatten ≠ [] := by
            rw [List.map_cons, List.flatten_cons, e, lineOf_eq]; simp
          cases hf : ((x :: l).map lnX).flatten with
          | nil => exact absurd hf this
          | cons y r => simp
      rw [hj, grd_t, lt_eq, grd_Cat (by simp only [List.length_append, List.length_cons, List.length_nil]; omega), lt_eq]
  · rw [bT (by omega), decide_eq_false h, cfl]
theorem rall_loop (F : Nat) (hF : 900000 < F) (l : List (Bs × Bs)) (hl : l.length ≤ 60) (hx : ∀ x ∈ l, x.1.length ≤ 100 ∧ x.2.length ≤ 600) : ∀ (m i : Nat) (o : Bs), l.length - i < m → i ≤ l.length → o.length ≤ 1900 * i →
    ref14_All_L1 F l m (o, (i : Int)) = some (bif (l.drop i).all okX then (o ++ ((l.drop i).map lnX).flatten ++ [13, 10], 0) else ([], 1)) := by
  intro m
  induction m with
  | zero => intro i o h; omega
  | succ m ih =>
    intro i o hm hi hh
    show ref14_All_B1 F l (ref14_All_L1 F l m) o (i : Int) = _
    unfold ref14_All_B1 ref14_All_j1
    by_cases h : i < l.length
    · have hd : l.drop i = l[i] :: l.drop (i + 1) := List.drop_eq_getElem_cons h
      have ⟨x1, x2⟩ := hx l[i] (List.getElem_mem h)
      rw [bT (by omega), grd_At (by omega), lt_eq, at_nat h, rLine_eq F _ _ (by omega) (by omega) (by omega), hd, List.all_cons]
      by_cases ho : okLine l[i].1 l[i].2 = true
      · have hb : okX l[i] = true := ho
        have hsh := line_short _ _ ho x2
        rw [if_pos ho, bnd2_some, decide_eq_true rfl, ntr, cfl, grd_Cat (by omega), lt_eq, grd_I (by omega), cast_succ, ih (i + 1) _ (by omega) (by omega) (by simp; omega), hb, tand, List.map_cons, List.flatten_cons, List.append_assoc]
        have e : lnX l[i] = lineOf l[i].1 l[i].2 := rfl
        rw [e]
        simp
      · have hb : okX l[i] = false := by unfold okX; simpa using ho
        rw [if_neg ho, bnd2_some, decide_eq_false (show ¬ (1 : Int) = 0 by omega), nfl, ctr, hb, fand, cfl]
    · have hd : l.drop i = [] := List.drop_eq_nil_of_le (by omega)
      rw [bF (by omega), hd, grd_Cat (by simp; omega), lt_eq]; simp
theorem rAll_eq (F : Nat) (hF : 900000 < F) (l : List (Bs × Bs)) (hx : ∀ x ∈ l, x.1.length ≤ 100 ∧ x.2.length ≤ 600) : ref14_All F l = some (allOf l) := by
  unfold ref14_All allOf
  by_cases h : l.length ≤ 50
  · have he := rall_loop F hF l (by omega) hx F 0 [] (by omega) (by omega) (by simp)
    rw [bF (by omega), decide_eq_true h, ctr]
    refine Eq.trans he ?_
    rw [List.drop_zero, List.nil_append]
  · rw [bT (by omega), decide_eq_false h, cfl]
def fld : Bs → Bool
  | [] => true
  | c :: r => (decide (c ≠ 13) || (decide (r.head? = some 10) && decide ((r.drop 1).head? = some 32))) && fld r
theorem en_fld : ∀ (p r : Bs), fld p = true → r.head? ≠ some 32 → en (p ++ 13 :: 10 :: r) = some (p.length + 2)
  | [], r, h, hr => by
    show en (13 :: 10 :: r) = _
    rw [en, if_pos ⟨⟨rfl, rfl⟩, hr⟩]; rfl
  | c :: p, r, h, hr => by
    rw [fld, Bool.and_eq_true] at h
    have ih := en_fld p r h.2 hr
    show en (c :: (p ++ 13 :: 10 :: r)) = _
    have hn : ¬ ((c = 13 ∧ (p ++ 13 :: 10 :: r).head? = some 10) ∧ ((p ++ 13 :: 10 :: r).drop 1).head? ≠ some 32) := by
      intro hh
      have h1 := h.1
      rw [decide_eq_false (show ¬ c ≠ 13 from fun e => e hh.1.1), fo, Bool.and_eq_true, decide_eq_true_eq, decide_eq_true_eq] at h1
      match p, h1 with
      | [], h1 => cases h1.1
      | [d], h1 => cases h1.2
      | d :: e :: p, h1 => exact hh.2 h1.2
    rw [en, ih, if_neg hn]; rfl
theorem fld_word (r : Bs) : ∀ (w : Bs), (∀ c ∈ w, c ≠ 13) → fld (w ++ r) = fld r
  | [], _ => rfl
  | c :: w, h => by
    rw [List.cons_append, fld, decide_eq_true (h c (by simp)), Bool.true_or, tand, fld_word r w (fun x hx => h x (by simp [hx]))]
theorem nosp_13 {w : Bs} (h : noSp w) : ∀ c ∈ w, c ≠ 13 := fun c hc e => by
  have := h c hc
  rw [e] at this; revert this; decide
def body : Int → List Bs → Bs
  | _, [] => []
  | n, w :: ws => (lnStep (n, []) w).2 ++ body (lnStep (n, []) w).1 ws
theorem tail_body : ∀ (ws : List Bs) (n : Int), tailOf n ws = body n ws ++ [13, 10]
  | [], n => rfl
  | w :: ws, n => by rw [tailOf, body, tail_body ws, List.append_assoc]
theorem fld_body : ∀ (ws : List Bs) (n : Int), (∀ w ∈ ws, noSp w) → fld (body n ws) = true
  | [], n, _ => rfl
  | w :: ws, n, h => by
    have ih := fld_body ws (lnStep (n, []) w).1 (fun x hx => h x (by simp [hx]))
    have hw := nosp_13 (h w (by simp))
    rw [body]
    generalize hb : body (lnStep (n, []) w).1 ws = b at ih
    unfold lnStep
    by_cases hc : 76 < n + 1 + (w.length : Int)
    · rw [if_pos hc]
      show fld (13 :: 10 :: 32 :: (w ++ b)) = true
      rw [fld, fld, fld, fld_word b w hw, ih]; rfl
    · rw [if_neg hc]
      show fld (32 :: (w ++ b)) = true
      rw [fld, fld_word b w hw, ih]; rfl
theorem name_13 {a : Bs} (h : nameB a = true) : ∀ c ∈ a, c ≠ 13 := by
  unfold nameB at h
  simp only [Bool.and_eq_true] at h
  intro c hc e
  have := List.all_eq_true.1 h.1.1 c hc
  rw [e] at this
  revert this; decide
theorem line_end (a b r : Bs) (h : okLine a b = true) (hr : r.head? ≠ some 32) : en (lineOf a b ++ r) = some (lineOf a b).length ∧ Go.Lib.hasPrefix (lineOf a b ++ r) [13, 10] = false := by
  have hn := (okLine_s h).1
  have h2 := (value_words b).2
  have e : lineOf a b = ((a ++ [58]) ++ body ((a.length + 1 : Nat) : Int) (wordsOf b)) ++ [13, 10] := by
    rw [lineOf_eq, tail_body]; simp
  have hf : fld ((a ++ [58]) ++ body ((a.length + 1 : Nat) : Int) (wordsOf b)) = true := by
    rw [fld_word _ (a ++ [58]) (by
      intro c hc
      rcases List.mem_append.1 hc with hc | hc
      · exact name_13 hn c hc
      · have : c = 58 := by simpa using hc
        rw [this]; decide)]
    exact fld_body _ _ (fun w hw => (h2 w hw).1)
  constructor
  · rw [e, List.append_assoc]
    have := en_fld ((a ++ [58]) ++ body ((a.length + 1 : Nat) : Int) (wordsOf b)) r hf hr
    refine Eq.trans this ?_
    rw [List.length_append (bs := [13, 10])]; rfl
  · rw [lineOf_eq]
    cases a with
    | nil => unfold nameB at hn; simp at hn
    | cons c a =>
      have := name_13 hn c (by simp)
      unfold Go.Lib.hasPrefix
      simp only [List.cons_append, List.isPrefixOf]
      rw [Bool.and_eq_false_iff]
      left
      simpa using fun e => this e.symm
theorem lines_back (t : Bs) : ∀ (l : List (Bs × Bs)) (m : Nat), l.all okX = true → ((l.map lnX).flatten ++ [13, 10] ++ t).length < m → ln m ((l.map lnX).flatten ++ [13, 10] ++ t) = some (l.map lnX, t) := by
  intro l
  induction l with
  | nil =>
    intro m ha hm
    obtain ⟨m, rfl⟩ : ∃ k, m = k + 1 := ⟨m - 1, by omega⟩
    show ln (m + 1) (13 :: 10 :: t) = _
    have hp : Go.Lib.hasPrefix (13 :: 10 :: t) [13, 10] = true := by simp [Go.Lib.hasPrefix, List.isPrefixOf]
    rw [ln, if_pos hp]; rfl
  | cons x l ih =>
    intro m ha hm
    rw [List.all_cons, Bool.and_eq_true] at ha
    obtain ⟨m, rfl⟩ : ∃ k, m = k + 1 := ⟨m - 1, by omega⟩
    have e : ((x :: l).map lnX).flatten ++ [13, 10] ++ t = lineOf x.1 x.2 ++ ((l.map lnX).flatten ++ [13, 10] ++ t) := by
      rw [List.map_cons, List.flatten_cons, List.append_assoc, List.append_assoc, List.append_assoc]; rfl
    have hr : ((l.map lnX).flatten ++ [13, 10] ++ t).head? ≠ some 32 := by
      cases l with
      | nil => simp
      | cons y l =>
        have hy := ha.2
        rw [List.all_cons, Bool.and_eq_true] at hy
        have hn := (okLine_s hy.1).1
        have ey : lnX y = lineOf y.1 y.2 := rfl
        rw [List.map_cons, List.flatten_cons, ey, lineOf_eq]
        cases hy1 : y.1 with
        | nil => rw [hy1] at hn; unfold nameB at hn; simp at hn
        | cons c a =>
          rw [hy1] at hn
          simp only [List.cons_append, List.head?_cons]
          intro e
          unfold nameB at hn
          simp only [Bool.and_eq_true, List.all_cons] at hn
          have := hn.1.1.1
          rw [Option.some.inj e] at this
          revert this; decide
    have ⟨h1, h2⟩ := line_end x.1 x.2 _ ha.1 hr
    rw [e] at hm ⊢
    rw [List.length_append] at hm
    have hl2 := (en_le h1).1
    rw [ln, h2, if_neg (by simp), h1]
    dsimp only
    rw [List.take_left' rfl, List.drop_left' rfl, ih m ha.2 (by omega)]
    rfl
theorem cut_all (l : List (Bs × Bs)) (t : Bs) (hl : l.length ≤ 50) (ha : l.all okX = true) : cutOf ((l.map lnX).flatten ++ [13, 10] ++ t) = (l, t, 0) := by
  have hr : ∀ x : Bs × Bs, okX x = true → readOf (lnX x) = (x.1, x.2, 0) := fun x hx => read_line x.1 x.2 hx
  have h1 : (l.map lnX).all rdB = true := by
    rw [List.all_map, List.all_eq_true]
    intro x hx
    have := hr x (List.all_eq_true.1 ha x hx)
    show rdB (lnX x) = true
    unfold rdB; rw [this]; rfl
  have h2 : (l.map lnX).map rdT = l := by
    rw [List.map_map]
    conv => rhs; rw [← List.map_id l]
    refine List.map_congr_left fun x hx => ?_
    have := hr x (List.all_eq_true.1 ha x hx)
    show rdT (lnX x) = x
    unfold rdT; rw [this]
  unfold cutOf lnOf
  rw [lines_back t l _ ha (Nat.lt_succ_self _)]
  dsimp only
  rw [decide_eq_true (show (l.map lnX).length ≤ 50 by simpa using hl), h1, tand, ctr, h2]
theorem HeadAll_F (F : Nat) (hF : 900000 < F) (hw : law14_awake F = some true) (l : List (Bs × Bs)) (t : Bs) : law14_HeadAll F l t = some true := by
  unfold law14_HeadAll
  obtain ⟨f, h1, h2⟩ : ∃ b, law14_Few F l 60 = some b ∧ (b = true → (l.length : Int) ≤ 60 ∧ ∀ x ∈ l, x.1.length ≤ 100 ∧ x.2.length ≤ 600) := by
    by_cases h : 60 < (l.length : Int)
    · exact ⟨false, by unfold law14_Few; rw [bT h], fun h => by cases h⟩
    · exact Few_eq F l 60 (by omega) (by omega)
  rw [hw, bnd_some, h1, bnd_some]
  cases f with
  | false => rfl
  | true =>
    have ⟨h60, hx⟩ := h2 rfl
    by_cases ht : 300 < (t.length : Int)
    · rw [decide_eq_true ht]; rfl
    · rw [decide_eq_false ht, ntr, fo, fo, cfl, All_eq F hF l (fun x hh => (hx x hh).2), rAll_eq F hF l hx]
      rw [show allOf l = ((allOf l).1, (allOf l).2) from rfl, bnd2_some, bnd2_some, decide_eq_true rfl, decide_eq_true rfl, ntr, fo, cfl]
      unfold allOf
      by_cases h50 : l.length ≤ 50
      · rw [decide_eq_true h50, ctr]
        cases ha : l.all okX with
        | false => rw [cfl, decide_eq_false (show ¬ (1 : Int) = 0 by omega), nfl, ctr]
        | true =>
          have hfl := flat_len l (fun x hh => (hx x hh).2) ha
          rw [ctr, decide_eq_true rfl, ntr, cfl]
          dsimp only
          rw [grd_Cat (by simp only [List.length_append, List.length_cons, List.length_nil]; omega), grd_Cat (by simp only [List.length_append, List.length_cons, List.length_nil]; omega), lt_eq, Cut_eq F hF _ (by simp only [List.length_append, List.length_cons, List.length_nil]; omega), cut_all l t h50 ha, bnd3_some, rSame_eq F l (by omega) (by omega), bnd_some, decide_eq_true rfl, decide_eq_true rfl]; rfl
      · rw [decide_eq_false h50, cfl, decide_eq_false (show ¬ (4 : Int) = 0 by omega), nfl, ctr]
theorem HeadAll_t (l : List (Bs × Bs)) (t : Bs) : law14_HeadAll 1000000 l t = some true := HeadAll_F 1000000 (by omega) awake_eq l t
end Go.Hd
namespace Go.Av
open Go.RowKit Go.ChangeShapes Go.WideShapes
section
variable {H : Type} {enc : TypeId × Value → H} {P : Program} {w : World}
def Opens {H : Type} (enc : TypeId × Value → H) (P : Program) (w : World) (t : TypeId) {α : Type} (E : α → List AV) (p : α → Prop) : Prop :=
  ∀ fuel cs d, DataW.trod enc P w 0 (fun _ => true) true fuel t cs = some d → ∃ x, p x ∧ RelL (Info.start w) w (E x) cs
theorem opens_str {t : TypeId} (ht : P.underlying t = some .string) : Opens enc P w t (fun s : List UInt8 => [S s]) (fun s => s.length ≤ maxLen) := by
  intro fuel cs d h
  obtain ⟨s, rfl, _, hw⟩ := DataW.trod_string ht h
  refine ⟨s.data.toList, by simpa using hw, .cons (rel_string _ _ s) .nil⟩
theorem add_add (a : Addr) (m r : Nat) : (a.add m).add r = a.add (m + r) := by
  unfold Addr.add
  by_cases hm : m = 0
  · subst hm; simp
  · by_cases hr : r = 0
    · subst hr; simp
    · simp [hm, hr, Nat.add_assoc]
theorem opens_slice {t e : TypeId} {α β : Type} {E : α → List AV} {p : α → Prop} (G : Enc β) (g : α → β) (ht : P.underlying t = some (.slice e)) (hc : P.cellsOf e = G.k)
    (h : Opens enc P w e E p) (hg : ∀ x, E x = G.f (g x)) : Opens enc P w t (fun l : List β => [slE G l none]) (fun l => l.length ≤ maxLen ∧ ∀ y ∈ l, ∃ x, g x = y ∧ p x) := by
  intro fuel cs d hd
  rcases DataW.trod_slice ht hd with ⟨rfl, _⟩ | ⟨a, len, cap, elems, rest, n, _, rfl, _, _, hl, hm, hlen, hel, _, _⟩
  · exact ⟨[], ⟨by simp, by simp⟩, .cons (.slz _ _ _) .nil⟩
  · have go : ∀ r i, i + r = len → ∃ (l : List β) (vs : List Value), (l.length = r ∧ ∀ y ∈ l, ∃ x, g x = y ∧ p x) ∧ RelL (Info.start w) w (G.fl l) vs ∧ ∀ j, j < vs.length → w.cell? (a.add (i * G.k + j)) = vs[j]? := by
      intro r
      induction r with
      | zero => intro i hi; exact ⟨[], [], ⟨rfl, by simp⟩, .nil, fun j hj => by simp at hj⟩
      | succ r ih =>
        intro i hi
        have hb := hel i (by omega)
        rw [List.getElem?_eq_getElem (by omega), Option.bind_eq_some_iff] at hb
        obtain ⟨cs', hcs, hy⟩ := hb
        rw [hc] at hcs
        obtain ⟨_, hcl, hce⟩ := World.cells?_some hcs
        obtain ⟨x, hx, rx⟩ := h _ _ _ hy
        rw [hg] at rx
        obtain ⟨l, vs, ⟨l1, l2⟩, rl, hv⟩ := ih (i + 1) (by omega)
        refine ⟨g x :: l, cs' ++ vs, ⟨by simp [l1], fun y hy => ?_⟩, by rw [G.fl_cons]; exact rx.append rl, fun j hj => ?_⟩
        · rcases List.mem_cons.1 hy with rfl | hy
          · exact ⟨x, rfl, hx⟩
          · exact l2 y hy
        · by_cases hjk : j < G.k
          · have := hce j hjk
            rw [add_add] at this
            rw [this, List.getElem?_append_left (by omega)]
          · have := hv (j - G.k) (by simp at hj; omega)
            rw [List.getElem?_append_right (by omega), hcl, ← this, Nat.succ_mul]
            congr 2; omega
    obtain ⟨l, vs, ⟨l1, l2⟩, rl, hv⟩ := go len 0 (by omega)
    refine ⟨l, ⟨by omega, l2⟩, .cons ?_ .nil⟩
    by_cases h0 : l = []
    · subst h0
      simp at l1
      subst l1
      exact .slz _ _ _
    · have hlp := List.length_pos_iff.2 h0
      have hvl : vs.length = len * G.k := by rw [rl.1, G.fl_length, l1]
      have hpos := G.pos
      have hv0 : 0 < vs.length := by rw [hvl]; exact Nat.mul_pos (by omega) hpos
      have hx0 := hv 0 hv0
      rw [List.getElem?_eq_getElem hv0, Nat.zero_mul] at hx0
      obtain ⟨hb, hs⟩ := cell_lt hx0
      have hx : a = ⟨a.block, a.off, none⟩ := by
        have : a.add (0 + 0) = a := rfl
        rw [this] at hs
        cases a; simp at hs; subst hs; rfl
      have hb' : a.block < w.heap.size := hb
      rw [hx]
      have hadd : ∀ i, w.cell? ⟨a.block, a.off + i, none⟩ = w.cell? (a.add i) := fun i => by
        unfold Addr.add
        by_cases h : i = 0
        · rw [if_pos h]; subst h; rw [Nat.add_zero, ← hx]
        · rw [if_neg h]
      unfold slE
      have hfl : (G.fl l).length = vs.length := rl.1.symm
      refine .sl G.k (G.fl l) none a.block a.off len cap (fun j => vs.getD j undef) G.pos (by rw [hfl, hvl]) hl (stab_start hb') ?_ ?_ (fun _ h => by cases h)
      · intro j hj
        have := hv j (by omega)
        rw [Nat.zero_mul, Nat.zero_add] at this
        rw [hadd j, this, List.getElem?_eq_getElem (by omega)]
        simp [List.getD, show j < vs.length by omega]
      · intro j hj
        have := rl.2 j hj
        simpa [List.getD, show j < vs.length by omega] using this
def OpensF {H : Type} (enc : TypeId × Value → H) (P : Program) (w : World) (tot off : Nat) (fs : List Field) {α : Type} (E : α → List AV) (p : α → Prop) : Prop :=
  ∀ (n : Nat) (cs : List Value), cs.length = tot → (∀ f ∈ fs, ∃ d, DataW.trod enc P w 0 (fun _ => true) true n f.type ((cs.drop f.offset).take (P.cellsOf f.type)) = some d) → ∃ x, p x ∧ RelL (Info.start w) w (E x) (cs.drop off)
theorem opensF_nil {tot : Nat} : OpensF enc P w tot tot [] (fun _ : Unit => []) (fun _ => True) := fun n cs hl _ => ⟨(), trivial, by rw [List.drop_eq_nil_of_le (by omega)]; exact .nil⟩
theorem opensF_cons {tot off k : Nat} {f : Field} {fs : List Field} {α β : Type} {E : α → List AV} {p : α → Prop} {F : β → List AV} {q : β → Prop} (ho : f.offset = off) (hk : P.cellsOf f.type = k)
    (h : Opens enc P w f.type E p) (g : OpensF enc P w tot (off + k) fs F q) : OpensF enc P w tot off (f :: fs) (fun x : α × β => E x.1 ++ F x.2) (fun x => p x.1 ∧ q x.2) := by
  intro n cs hl H
  obtain ⟨d, hd⟩ := H f (by simp)
  obtain ⟨x, hx, rx⟩ := h _ _ _ hd
  obtain ⟨y, hy, ry⟩ := g n cs hl fun f' hf' => H f' (by simp [hf'])
  refine ⟨(x, y), ⟨hx, hy⟩, ?_⟩
  rw [ho, hk] at rx
  have := rx.append ry
  rwa [← List.drop_drop, List.take_append_drop] at this
theorem opens_struct {t : TypeId} {fs : Array Field} {tot : Nat} {α : Type} {E : α → List AV} {p : α → Prop} (ht : P.underlying t = some (.struct fs)) (hc : P.cellsOf t = tot) (h : OpensF enc P w tot 0 fs.toList E p) :
    Opens enc P w t E p := by
  intro fuel cs d hd
  obtain ⟨xs, n, _, _, hl, hlen, each⟩ := DataW.trod_struct ht hd
  obtain ⟨x, hx, rx⟩ := h n cs (by omega) fun f hf => by
    obtain ⟨i, hi, rfl⟩ := List.getElem_of_mem hf
    have hi' : i < fs.size := by simpa using hi
    rw [each i _ (by simp [hi'])]
    exact ⟨xs[i]'(by omega), List.getElem?_eq_getElem _⟩
  exact ⟨x, hx, by simpa using rx⟩
theorem one_of {t : TypeId} {v : Value} {d : DataW H} {ps : List MemPlace} {α : Type} {E : α → AV} {p : α → Prop} (hv : v.cells = #[v]) (hd : DataW.Trod enc P w 0 (fun _ => true) true t v d ps) (h : Opens enc P w t (fun x => [E x]) p) :
    ∃ x, p x ∧ Rel (Info.start w) w (E x) v := by
  obtain ⟨fuel, hf⟩ := hd
  obtain ⟨x, hx, rx⟩ := h _ _ _ hf
  rw [hv] at rx
  exact ⟨x, hx, rx.head⟩
end
end Go.Av
