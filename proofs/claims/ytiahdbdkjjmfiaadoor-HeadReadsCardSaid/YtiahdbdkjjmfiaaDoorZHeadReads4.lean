/-
  Texts in one (only what HeadReads needs): HeadRW, LHeadReadsP, LHeadReadsW, HdSp, HdA, HdD, HdR, HdW, HdL, HdF.
-/
import Derived.Test.YtiahdbdkjjmfiaaDoorZHeadReads3
import Derived.Test.YtiahdbdkjjmfiaaDoorShelf
import Derived.Test.YtiahdbdkjjmfiaaDoorChecked
import Derived.Lib.SplitLaws
import Derived.Lib.IndexMore
import Derived.Lib.TrimByte
import Derived.Laws.RangeString
import Derived.Laws.RangeAny
set_option linter.unusedVariables false
set_option linter.unusedSimpArgs false
namespace Go.Proofs.YtiahdbdkjjmfiaaDoor
open Go.RowKit Go.Av Go.Pv
theorem en13_headr : ∀ (args : Array Value) (w : World), (callFunc 13 args).run Tryd.prog w = .ok (.enter 13 args) w := fun _ _ => by kernel_rfl
theorem en16_headr : ∀ (args : Array Value) (w : World), (callFunc 16 args).run Tryd.prog w = .ok (.enter 16 args) w := fun _ _ => by kernel_rfl
theorem en17_headr : ∀ (args : Array Value) (w : World), (callFunc 17 args).run Tryd.prog w = .ok (.enter 17 args) w := fun _ _ => by kernel_rfl
theorem en19_headr : ∀ (args : Array Value) (w : World), (callFunc 19 args).run Tryd.prog w = .ok (.enter 19 args) w := fun _ _ => by kernel_rfl
theorem en20_headr : ∀ (args : Array Value) (w : World), (callFunc 20 args).run Tryd.prog w = .ok (.enter 20 args) w := fun _ _ => by kernel_rfl
theorem en33_headr : ∀ (args : Array Value) (w : World), (callFunc 33 args).run Tryd.prog w = .ok (.enter 33 args) w := fun _ _ => by kernel_rfl
theorem en35_headr : ∀ (args : Array Value) (w : World), (callFunc 35 args).run Tryd.prog w = .ok (.enter 35 args) w := fun _ _ => by kernel_rfl
theorem en36_headr : ∀ (args : Array Value) (w : World), (callFunc 36 args).run Tryd.prog w = .ok (.enter 36 args) w := fun _ _ => by kernel_rfl
theorem en37_headr : ∀ (args : Array Value) (w : World), (callFunc 37 args).run Tryd.prog w = .ok (.enter 37 args) w := fun _ _ => by kernel_rfl
theorem en42_headr : ∀ (args : Array Value) (w : World), (callFunc 42 args).run Tryd.prog w = .ok (.enter 42 args) w := fun _ _ => by kernel_rfl
theorem en43_headr : ∀ (args : Array Value) (w : World), (callFunc 43 args).run Tryd.prog w = .ok (.enter 43 args) w := fun _ _ => by kernel_rfl
theorem en47_headr : ∀ (args : Array Value) (w : World), (callFunc 47 args).run Tryd.prog w = .ok (.enter 47 args) w := fun _ _ => by kernel_rfl
theorem en69_headr : ∀ (args : Array Value) (w : World), (callFunc 69 args).run Tryd.prog w = .ok (.enter 69 args) w := fun _ _ => by kernel_rfl
set_option maxRecDepth 100000 in
set_option maxHeartbeats 1000000 in
theorem w_ref05_Split (F : Nat) (a1 : List UInt8) (a2 : UInt8) (r3 : List (List UInt8)) (H : ref05_Split F a1 a2 = some r3) : ACalls Tryd.prog 35 [S a1, u8 a2] [] (Ret (slE Enc.str r3 none) []) := by
 unfold ref05_Split at H
 refine ACalls.of_body Tryd.func35 rfl rfl ?_
 show AW _ _ 35 _ _ _
 refine AW.seq ?_
 refine AW.region ?_
 show AR _ _ _ _ _ [0] _
 refine sS rfl rfl rfl (asg rfl) ?_
 refine AR.nil ?_
 show AW _ _ _ _ _ _
 refine AW.seq ?_
 refine AW.region ?_
 show AR _ _ _ _ _ [0] _
 refine sS rfl rfl rfl (asg rfl) ?_
 refine AR.nil ?_
 show AW _ _ _ _ _ _
 refine AW.nil_grows 5 1 9 rfl fun t4 => ?_
 show AW _ _ _ _ _ ⟨(5, slE Enc.str [] (some t4)) :: _, _, _⟩
 refine AW.seq ?_
 refine AW.region ?_
 show AR _ _ _ _ _ [0] _
 refine sS rfl rfl rfl (asg rfl) ?_
 refine AR.nil ?_
 show AW _ _ _ _ _ _
 refine AW.cut (X := (List (List UInt8)) × Nat) (fun (y30, t31) => ⟨[(5, slE Enc.str y30 (some t31))], [], [.tok t31 9]⟩) (fun (y30, t31) => ref05_Split_j1 y30 = some r3) ?_ ?_
 ·
  refine AW.seq ?_
  refine AW.region ?_
  show AR _ _ _ _ _ [0] _
  refine sS rfl rfl rfl (asg rfl) ?_
  refine AR.nil ?_
  show AW _ _ _ _ _ _
  refine AW.block ?_
  refine AW.loop (X := Nat × (List (List UInt8)) × Nat × Int × Int) (fun (n10, y5, t6, y7, y8) => ⟨[(0, S a1), (1, u8 a2), (5, slE Enc.str y5 (some t6)), (6, i64 y7), (7, i64 y8)], [], [.tok t6 9]⟩) (fun (n10, y5, t6, y7, y8) => ref05_Split_L1 a1 a2 n10 (y5, y7, y8) = some r3) (fun (n10, y5, t6, y7, y8) => n10) (F, [], t4, 0, 0) H (WK.at [0] (.cons (.refl _) (.cons (.refl _) (.cons (.refl _) (.cons (.refl _) (.cons (.refl _) (.nil _)))))) rfl) ?_
  rintro ⟨n10, y5, t6, y7, y8⟩ H
  obtain ⟨n10, rfl, H⟩ := loop_s H
  replace H : ref05_Split_B1 a1 a2 (ref05_Split_L1 a1 a2 n10) y5 y7 y8 = some r3 := H
  unfold ref05_Split_B1 at H
  show AW _ _ _ _ _ _
  refine AW.seq ?_
  refine AW.seq ?_
  refine AW.region ?_
  show AR _ _ _ _ _ [0, 1, 2, 3] _
  refine sS rfl rfl rfl (mv rfl) ?_
  refine sS rfl rfl rfl (mv rfl) ?_
  refine sS rfl rfl rfl (opS_len_str Tryd.underlying9 rfl) ?_
  refine sS rfl rfl rfl (opS_le rfl rfl) ?_
  refine AR.nil ?_
  show AW _ _ _ _ _ _
  refine AW.cond rfl (fun c11 => ?_) (fun c11 => ?_)
  ·replace H := cnd_t c11 H
   refine AW.skip ?_
   show AW _ _ _ _ _ _
   refine AW.cut (X := (List (List UInt8)) × Nat × Int) (fun (y25, t26, y27) => ⟨[(0, S a1), (1, u8 a2), (5, slE Enc.str y25 (some t26)), (6, i64 y27), (7, i64 y8)], [], [.tok t26 9]⟩) (fun (y25, t26, y27) => ref05_Split_j2 y8 (ref05_Split_L1 a1 a2 n10) y25 y27 = some r3) ?_ ?_
   ·
    refine AW.block ?_
    refine AW.seq ?_
    obtain ⟨g13, H⟩ := grdc_s H
    obtain ⟨x14, e15, H⟩ := lt_s H
    refine AW.region ?_
    show AR _ _ _ _ _ [0, 1, 2, 3, 4, 5, 6, 7, 8, 9, 10] _
    refine sS rfl rfl rfl (mv rfl) ?_
    refine sS rfl rfl rfl (mv rfl) ?_
    refine sS rfl rfl rfl (opS_len_str Tryd.underlying9 rfl) ?_
    refine sS rfl rfl rfl (opS_eqi rfl rfl) ?_
    refine sS rfl rfl rfl (mv rfl) ?_
    refine AR.meet (l := []) 24 (B ((decide (y8 = (a1.length : Int))) || (decide (x14 = a2)))) (fun K => ?_) ?_
    ·rcases Bool.eq_false_or_eq_true (decide (y8 = (a1.length : Int))) with h12 | h12
     ·
      refine gF h12 rfl rfl rfl rfl rfl ?_
      refine gF h12 rfl rfl rfl rfl rfl ?_
      refine gF h12 rfl rfl rfl rfl rfl ?_
      refine gF h12 rfl rfl rfl rfl rfl ?_
      refine gF h12 rfl rfl rfl rfl rfl ?_
      refine sS rfl rfl rfl (opS_pick_t (av := .v _) rfl h12 rfl) ?_
      exact K _ 5 _ (B_congr (or_t h12)) rfl rfl
     ·
      refine gT h12 rfl rfl rfl rfl rfl rfl (AO.ops rfl rfl (mv rfl) ?_)
      refine gT h12 rfl rfl rfl rfl rfl rfl (AO.ops rfl rfl (mv rfl) ?_)
      refine gT h12 rfl rfl rfl rfl rfl rfl (AO.ops rfl rfl (g_index_str Tryd.underlying9 rfl rfl (g13 (nf h12)) e15) ?_)
      refine gT h12 rfl rfl rfl rfl rfl rfl (AO.ops rfl rfl (mv rfl) ?_)
      refine gT h12 rfl rfl rfl rfl rfl rfl (AO.ops rfl rfl (g_eq8 (a := x14) (b := a2) rfl rfl) ?_)
      refine sS rfl rfl rfl (opS_pick_f (av := .v _) rfl h12 rfl) ?_
      exact K _ 5 _ (B_congr (or_f h12)) rfl rfl
    refine AR.nil ?_
    show AW _ _ _ _ _ _
    refine AW.cond rfl (fun c16 => ?_) (fun c16 => ?_)
    ·replace H := cnd_t c16 H
     refine AW.seq ?_
     obtain ⟨g17, H⟩ := grd_s H
     obtain ⟨x18, e19, H⟩ := lt_s H
     obtain ⟨g21, H⟩ := grd_s H
     obtain ⟨x22, e23, H⟩ := lt_s H
     refine AW.region ?_
     show AR _ _ _ _ _ [0, 1, 2, 3, 4, 5, 6, 7] _
     refine sS rfl rfl rfl (opS_move (av := slE _ _ _) rfl) ?_
     refine sS rfl rfl rfl (mv rfl) ?_
     refine sS rfl rfl rfl (mv rfl) ?_
     refine sS rfl rfl rfl (mv rfl) ?_
     refine sS rfl rfl rfl (g_slice_str Tryd.underlying9 rfl rfl rfl g17 e19) ?_
     refine sR rfl rfl rfl (opR_buildE (E := Enc.str) (bytes := 16) (xs := [.tmp 29]) (l := ([x18] : List (List UInt8))) Tryd.underlying36 (by kernel_rfl) rfl rfl (by decide) rfl rfl) ?_
     refine sX rfl rfl rfl (g_append (E := Enc.str) (bytes := 16) 0 Tryd.underlying36 Tryd.underlying36 rfl (by kernel_rfl) rfl rfl rfl rfl g21 e23) ?_
     rintro _ _ ⟨t20, rfl, rfl⟩
     refine sS rfl rfl rfl (opS_assign (av := slE _ _ _) rfl) ?_
     refine AR.nil ?_
     show AW _ _ _ _ _ _
     obtain ⟨g24, H⟩ := grd_s H
     refine AW.region ?_
     show AR _ _ _ _ _ [0, 1, 2] _
     refine sS rfl rfl rfl (mv rfl) ?_
     refine sS rfl rfl rfl (g_add rfl rfl g24) ?_
     refine sS rfl rfl rfl (asg rfl) ?_
     refine AR.nil ?_
     exact Exists.intro (x22, t20, y8 + 1) ⟨H, WK.at [0] (.cons (.refl _) (.cons (.refl _) (.cons (.refl _) (.cons (.refl _) (.cons (.refl _) (.nil _)))))) rfl⟩
    ·replace H := cnd_f c16 H
     refine AW.skip ?_
     exact Exists.intro (y5, t6, y7) ⟨H, WK.at [0] (.cons (.refl _) (.cons (.refl _) (.cons (.refl _) (.cons (.refl _) (.cons (.refl _) (.nil _)))))) rfl⟩
   rintro ⟨y25, t26, y27⟩ H
   replace H : ref05_Split_j2 y8 (ref05_Split_L1 a1 a2 n10) y25 y27 = some r3 := H
   unfold ref05_Split_j2 at H
   show AW _ _ _ _ _ _
   obtain ⟨g29, H⟩ := grd_s H
   refine AW.region ?_
   show AR _ _ _ _ _ [0, 1, 2] _
   refine sS rfl rfl rfl (mv rfl) ?_
   refine sS rfl rfl rfl (g_add rfl rfl g29) ?_
   refine sS rfl rfl rfl (asg rfl) ?_
   refine AR.nil ?_
   exact Exists.intro (n10, y25, t26, y27, y8 + 1) ⟨H, Nat.lt_succ_self _, WK.at [0] (.cons (.refl _) (.cons (.refl _) (.cons (.refl _) (.cons (.refl _) (.cons (.refl _) (.nil _)))))) rfl⟩
  ·replace H := cnd_f c11 H
   refine AW.exit ?_
   exact Exists.intro (y5, t6) ⟨H, WK.at [0] (.cons (.refl _) (.nil _)) rfl⟩
 rintro ⟨y30, t31⟩ H
 replace H : ref05_Split_j1 y30 = some r3 := H
 unfold ref05_Split_j1 at H
 show AW _ _ _ _ _ _
 refine AW.seq ?_
 refine AW.region ?_
 show AR _ _ _ _ _ [0, 1] _
 refine sS rfl rfl rfl (opS_move (av := slE _ _ _) rfl) ?_
 refine sS rfl rfl rfl (opS_assign (av := slE _ _ _) rfl) ?_
 refine AR.nil ?_
 show AW _ _ _ _ _ _
 refine AW.ret ?_
 obtain rfl := Option.some.inj H
 exact And.intro rfl (Exists.intro _ (Exists.intro _ ⟨ResV.oneW rfl (.tok _ _ _), Sub.at [] rfl, rfl, rfl⟩))
set_option maxRecDepth 100000 in
set_option maxHeartbeats 1000000 in
theorem w_ref13_number (F : Nat) (a1 : UInt8) (r2 : Int) (H : ref13_number F a1 = some r2) : ACalls Tryd.prog 42 [u8 a1] [] (Ret (i64 r2) []) := by
 unfold ref13_number at H
 refine ACalls.of_body Tryd.func42 rfl rfl ?_
 show AW _ _ 13 _ _ _
 refine AW.seq ?_
 refine AW.region ?_
 show AR _ _ _ _ _ [0] _
 refine sS rfl rfl rfl (asg rfl) ?_
 refine AR.nil ?_
 show AW _ _ _ _ _ _
 refine AW.cut (X := Unit) (fun _ => ⟨[], [], []⟩) (fun _ => ref13_number_j1 = some r2) ?_ ?_
 ·
  refine AW.seq ?_
  refine AW.region ?_
  show AR _ _ _ _ _ [0] _
  refine sS rfl rfl rfl (asg rfl) ?_
  refine AR.nil ?_
  show AW _ _ _ _ _ _
  refine AW.block ?_
  refine AW.loop (X := Nat × Int) (fun (n5, y3) => ⟨[(0, u8 a1), (3, i64 y3)], [], []⟩) (fun (n5, y3) => ref13_number_L1 a1 n5 y3 = some r2) (fun (n5, y3) => n5) (F, 0) H (WK.at [] (.cons (.refl _) (.cons (.refl _) (.nil _))) rfl) ?_
  rintro ⟨n5, y3⟩ H
  obtain ⟨n5, rfl, H⟩ := loop_s H
  replace H : ref13_number_B1 a1 (ref13_number_L1 a1 n5) y3 = some r2 := H
  unfold ref13_number_B1 at H
  show AW _ _ _ _ _ _
  refine AW.seq ?_
  refine AW.seq ?_
  refine AW.region ?_
  show AR _ _ _ _ _ [0, 1] _
  refine sS rfl rfl rfl (mv rfl) ?_
  refine sS rfl rfl rfl (opS_lt rfl rfl) ?_
  refine AR.nil ?_
  show AW _ _ _ _ _ _
  refine AW.cond rfl (fun c6 => ?_) (fun c6 => ?_)
  ·replace H := cnd_t c6 H
   refine AW.skip ?_
   show AW _ _ _ _ _ _
   refine AW.seq ?_
   refine AW.block ?_
   refine AW.seq ?_
   obtain ⟨g7, H⟩ := grd_s H
   obtain ⟨x8, e9, H⟩ := lt_s H
   refine AW.region ?_
   show AR _ _ _ _ _ [0, 1, 2, 3] _
   refine sS rfl rfl rfl (mv rfl) ?_
   refine sS rfl rfl rfl (g_index_str Tryd.underlying9 rfl rfl g7 e9) ?_
   refine sS rfl rfl rfl (mv rfl) ?_
   refine sS rfl rfl rfl (g_eq8 (a := x8) (b := a1) rfl rfl) ?_
   refine AR.nil ?_
   show AW _ _ _ _ _ _
   refine AW.cond rfl (fun c10 => ?_) (fun c10 => ?_)
   ·replace H := cnd_t c10 H
    refine AW.seq ?_
    refine AW.region ?_
    show AR _ _ _ _ _ [0, 1] _
    refine sS rfl rfl rfl (mv rfl) ?_
    refine sS rfl rfl rfl (asg rfl) ?_
    refine AR.nil ?_
    show AW _ _ _ _ _ _
    refine AW.ret ?_
    obtain rfl := Option.some.inj H
    exact And.intro rfl (Exists.intro _ (Exists.intro _ ⟨ResV.oneW rfl (.refl _), Sub.at [] rfl, rfl, rfl⟩))
   ·replace H := cnd_f c10 H
    refine AW.skip ?_
    show AW _ _ _ _ _ _
    obtain ⟨g11, H⟩ := grd_s H
    refine AW.region ?_
    show AR _ _ _ _ _ [0, 1, 2] _
    refine sS rfl rfl rfl (mv rfl) ?_
    refine sS rfl rfl rfl (g_add rfl rfl g11) ?_
    refine sS rfl rfl rfl (asg rfl) ?_
    refine AR.nil ?_
    exact Exists.intro (n5, y3 + 1) ⟨H, Nat.lt_succ_self _, WK.at [] (.cons (.refl _) (.cons (.refl _) (.nil _))) rfl⟩
  ·replace H := cnd_f c6 H
   refine AW.exit ?_
   exact Exists.intro () ⟨H, WK.at [] (.nil _) rfl⟩
 rintro _ H
 replace H : ref13_number_j1 = some r2 := H
 unfold ref13_number_j1 at H
 show AW _ _ _ _ _ _
 refine AW.seq ?_
 refine AW.region ?_
 show AR _ _ _ _ _ [0] _
 refine sS rfl rfl rfl (asg rfl) ?_
 refine AR.nil ?_
 show AW _ _ _ _ _ _
 refine AW.ret ?_
 obtain rfl := Option.some.inj H
 exact And.intro rfl (Exists.intro _ (Exists.intro _ ⟨ResV.oneW rfl (.refl _), Sub.at [] rfl, rfl, rfl⟩))
set_option maxRecDepth 100000 in
set_option maxHeartbeats 1000000 in
theorem w_ref13_Raw (F : Nat) (a1 : List UInt8) (q2 : Option Nat) (r3 : List UInt8) (H : ref13_Raw F a1 = some r3) : ACalls Tryd.prog 37 [slE Enc.byte a1 q2] [] (Ret (S r3) []) := by
 unfold ref13_Raw at H
 refine ACalls.of_body Tryd.func37 rfl rfl ?_
 show AW _ _ 74 _ _ _
 refine AW.seq ?_
 refine AW.region ?_
 show AR _ _ _ _ _ [0] _
 refine sS rfl rfl rfl (asg rfl) ?_
 refine AR.nil ?_
 show AW _ _ _ _ _ _
 refine AW.seq ?_
 refine AW.region ?_
 show AR _ _ _ _ _ [0] _
 refine sS rfl rfl rfl (asg rfl) ?_
 refine AR.nil ?_
 show AW _ _ _ _ _ _
 refine AW.nil_grows 3 1 5 rfl fun t4 => ?_
 show AW _ _ _ _ _ ⟨(3, slE Enc.byte [] (some t4)) :: _, _, _⟩
 refine AW.cut (X := (List UInt8) × Nat) (fun (y77, t78) => ⟨[(3, slE Enc.byte y77 (some t78))], [], [.tok t78 5]⟩) (fun (y77, t78) => ref13_Raw_j1 y77 = some r3) ?_ ?_
 ·
  refine AW.seq ?_
  refine AW.region ?_
  show AR _ _ _ _ _ [0] _
  refine sS rfl rfl rfl (asg rfl) ?_
  refine AR.nil ?_
  show AW _ _ _ _ _ _
  refine AW.block ?_
  refine AW.loop (X := Nat × (List UInt8) × Nat × Int) (fun (n9, y5, t6, y7) => ⟨[(0, slE Enc.byte a1 q2), (3, slE Enc.byte y5 (some t6)), (4, i64 y7)], [], [.tok t6 5]⟩) (fun (n9, y5, t6, y7) => ref13_Raw_L2 F a1 n9 (y5, y7) = some r3) (fun (n9, y5, t6, y7) => n9) (F, [], t4, 0) H (WK.at [0] (.cons (.refl _) (.cons (.refl _) (.cons (.refl _) (.nil _)))) rfl) ?_
  rintro ⟨n9, y5, t6, y7⟩ H
  obtain ⟨n9, rfl, H⟩ := loop_s H
  replace H : ref13_Raw_B2 F a1 (ref13_Raw_L2 F a1 n9) y5 y7 = some r3 := H
  unfold ref13_Raw_B2 at H
  show AW _ _ _ _ _ _
  refine AW.seq ?_
  refine AW.seq ?_
  refine AW.region ?_
  show AR _ _ _ _ _ [0, 1, 2, 3] _
  refine sS rfl rfl rfl (mv rfl) ?_
  refine sS rfl rfl rfl (opS_move (av := slE _ _ _) rfl) ?_
  refine sS rfl rfl rfl (opS_len_sl Tryd.underlying24 rfl) ?_
  refine sS rfl rfl rfl (opS_lt rfl rfl) ?_
  refine AR.nil ?_
  show AW _ _ _ _ _ _
  refine AW.cond rfl (fun c10 => ?_) (fun c10 => ?_)
  ·replace H := cnd_t c10 H
   refine AW.skip ?_
   show AW _ _ _ _ _ _
   refine AW.cut (X := (List UInt8) × Nat) (fun (y73, t74) => ⟨[(0, slE Enc.byte a1 q2), (3, slE Enc.byte y73 (some t74)), (4, i64 y7)], [], [.tok t74 5]⟩) (fun (y73, t74) => ref13_Raw_j2 y7 (ref13_Raw_L2 F a1 n9) y73 = some r3) ?_ ?_
   ·
    refine AW.block ?_
    refine AW.seq ?_
    refine AW.region ?_
    show AR _ _ _ _ _ [0] _
    refine sS rfl rfl rfl (asg rfl) ?_
    refine AR.nil ?_
    show AW _ _ _ _ _ _
    refine AW.cut (X := Int) (fun y26 => ⟨[(0, slE Enc.byte a1 q2), (3, slE Enc.byte y5 (some t6)), (4, i64 y7), (5, i64 y26)], [], [.tok t6 5]⟩) (fun y26 => ref13_Raw_j4 a1 y5 y7 (ref13_Raw_L2 F a1 n9) y26 = some r3) ?_ ?_
    ·
     refine AW.seq ?_
     refine AW.region ?_
     show AR _ _ _ _ _ [0, 1] _
     refine sS rfl rfl rfl (mv rfl) ?_
     refine sS rfl rfl rfl (asg rfl) ?_
     refine AR.nil ?_
     show AW _ _ _ _ _ _
     refine AW.block ?_
     refine AW.loop (X := Nat × Int × Int) (fun (n14, y11, y12) => ⟨[(0, slE Enc.byte a1 q2), (3, slE Enc.byte y5 (some t6)), (4, i64 y7), (5, i64 y11), (6, i64 y12)], [], [.tok t6 5]⟩) (fun (n14, y11, y12) => ref13_Raw_L1 a1 y5 y7 (ref13_Raw_L2 F a1 n9) n14 (y11, y12) = some r3) (fun (n14, y11, y12) => n14) (F, 0, y7) H (WK.at [0] (.cons (.refl _) (.cons (.refl _) (.cons (.refl _) (.cons (.refl _) (.cons (.refl _) (.nil _)))))) rfl) ?_
     rintro ⟨n14, y11, y12⟩ H
     obtain ⟨n14, rfl, H⟩ := loop_s H
     replace H : ref13_Raw_B1 a1 y5 y7 (ref13_Raw_L2 F a1 n9) (ref13_Raw_L1 a1 y5 y7 (ref13_Raw_L2 F a1 n9) n14) y11 y12 = some r3 := H
     unfold ref13_Raw_B1 at H
     show AW _ _ _ _ _ _
     refine AW.seq ?_
     refine AW.seq ?_
     obtain ⟨g15, H⟩ := grd_s H
     refine AW.region ?_
     show AR _ _ _ _ _ [0, 1, 2, 3] _
     refine sS rfl rfl rfl (mv rfl) ?_
     refine sS rfl rfl rfl (mv rfl) ?_
     refine sS rfl rfl rfl (g_add rfl rfl g15) ?_
     refine sS rfl rfl rfl (opS_lt rfl rfl) ?_
     refine AR.nil ?_
     show AW _ _ _ _ _ _
     refine AW.cond rfl (fun c16 => ?_) (fun c16 => ?_)
     ·replace H := cnd_t c16 H
      refine AW.skip ?_
      show AW _ _ _ _ _ _
      refine AW.cut (X := Int) (fun y23 => ⟨[(0, slE Enc.byte a1 q2), (3, slE Enc.byte y5 (some t6)), (4, i64 y7), (5, i64 y23), (6, i64 y12)], [], [.tok t6 5]⟩) (fun y23 => ref13_Raw_j5 y12 (ref13_Raw_L1 a1 y5 y7 (ref13_Raw_L2 F a1 n9) n14) y23 = some r3) ?_ ?_
      ·
       refine AW.block ?_
       refine AW.seq ?_
       obtain ⟨g17, H⟩ := grd_s H
       refine AW.region ?_
       show AR _ _ _ _ _ [0, 1, 2] _
       refine sS rfl rfl rfl (mv rfl) ?_
       refine sS rfl rfl rfl (g_mul rfl rfl g17) ?_
       refine sS rfl rfl rfl (asg rfl) ?_
       refine AR.nil ?_
       show AW _ _ _ _ _ _
       refine AW.seq ?_
       refine AW.region ?_
       show AR _ _ _ _ _ [0, 1, 2, 3] _
       refine sS rfl rfl rfl (mv rfl) ?_
       refine sS rfl rfl rfl (opS_move (av := slE _ _ _) rfl) ?_
       refine sS rfl rfl rfl (opS_len_sl Tryd.underlying24 rfl) ?_
       refine sS rfl rfl rfl (opS_lt rfl rfl) ?_
       refine AR.nil ?_
       show AW _ _ _ _ _ _
       refine AW.cond rfl (fun c18 => ?_) (fun c18 => ?_)
       ·replace H := cnd_t c18 H
        obtain ⟨g19, H⟩ := grd_s H
        obtain ⟨x20, e21, H⟩ := lt_s H
        obtain ⟨g22, H⟩ := grd_s H
        refine AW.region ?_
        show AR _ _ _ _ _ [0, 1, 2, 3, 4, 5, 6, 7] _
        refine sS rfl rfl rfl (mv rfl) ?_
        refine sS rfl rfl rfl (opS_move (av := slE _ _ _) rfl) ?_
        refine sS rfl rfl rfl (mv rfl) ?_
        refine sS rfl rfl rfl (g_indexAddr (E := Enc.byte) Tryd.underlying24 (by kernel_rfl) rfl rfl g19 e21) ?_
        refine sS rfl rfl rfl (opS_load_cp Tryd.underlying5 rfl rfl) ?_
        refine sS rfl rfl rfl (opS_conv_u8 (c := x20) (by kernel_rfl) Tryd.underlying3 rfl) ?_
        refine sS rfl rfl rfl (g_add rfl rfl g22) ?_
        refine sS rfl rfl rfl (asg rfl) ?_
        refine AR.nil ?_
        exact Exists.intro ((256 * y11) + (x20.toNat : Int)) ⟨H, WK.at [0] (.cons (.refl _) (.cons (.refl _) (.cons (.refl _) (.cons (.refl _) (.cons (.refl _) (.nil _)))))) rfl⟩
       ·replace H := cnd_f c18 H
        refine AW.skip ?_
        exact Exists.intro (256 * y11) ⟨H, WK.at [0] (.cons (.refl _) (.cons (.refl _) (.cons (.refl _) (.cons (.refl _) (.cons (.refl _) (.nil _)))))) rfl⟩
      rintro y23 H
      replace H : ref13_Raw_j5 y12 (ref13_Raw_L1 a1 y5 y7 (ref13_Raw_L2 F a1 n9) n14) y23 = some r3 := H
      unfold ref13_Raw_j5 at H
      show AW _ _ _ _ _ _
      obtain ⟨g25, H⟩ := grd_s H
      refine AW.region ?_
      show AR _ _ _ _ _ [0, 1, 2] _
      refine sS rfl rfl rfl (mv rfl) ?_
      refine sS rfl rfl rfl (g_add rfl rfl g25) ?_
      refine sS rfl rfl rfl (asg rfl) ?_
      refine AR.nil ?_
      exact Exists.intro (n14, y23, y12 + 1) ⟨H, Nat.lt_succ_self _, WK.at [0] (.cons (.refl _) (.cons (.refl _) (.cons (.refl _) (.cons (.refl _) (.cons (.refl _) (.nil _)))))) rfl⟩
     ·replace H := cnd_f c16 H
      refine AW.exit ?_
      exact Exists.intro y11 ⟨H, WK.at [0] (.cons (.refl _) (.cons (.refl _) (.cons (.refl _) (.cons (.refl _) (.nil _))))) rfl⟩
    rintro y26 H
    replace H : ref13_Raw_j4 a1 y5 y7 (ref13_Raw_L2 F a1 n9) y26 = some r3 := H
    unfold ref13_Raw_j4 at H
    show AW _ _ _ _ _ _
    refine AW.seq ?_
    obtain ⟨g28, H⟩ := grd_s H
    obtain ⟨g29, H⟩ := grd_s H
    obtain ⟨x30, e31, H⟩ := lt_s H
    obtain ⟨g32, H⟩ := grd_s H
    obtain ⟨g33, H⟩ := grd_s H
    obtain ⟨g34, H⟩ := grd_s H
    obtain ⟨x35, e36, H⟩ := lt_s H
    obtain ⟨g38, H⟩ := grd_s H
    obtain ⟨x39, e40, H⟩ := lt_s H
    refine AW.region_draw (by kernel_rfl) ?_
    show AI _ _ _ _ _ 11 (Array.replicate 11 false) _
    refine AI.take (i := 0) rfl rfl (by kernel_rfl) (by kernel_rfl) (by kernel_rfl) (fun _ _ h => h) (opS_move (av := slE _ _ _) rfl) ?_
    show AI _ _ _ _ _ _ #[true, false, false, false, false, false, false, false, false, false, false] _
    refine AI.take (i := 1) rfl rfl (by kernel_rfl) (by kernel_rfl) (by kernel_rfl) (fun _ _ h => h) (mv rfl) ?_
    show AI _ _ _ _ _ _ #[true, true, false, false, false, false, false, false, false, false, false] _
    refine AI.take (i := 2) rfl rfl (by kernel_rfl) (by kernel_rfl) (by kernel_rfl) (fun _ _ h => h) (g_quo rfl rfl g28) ?_
    show AI _ _ _ _ _ _ #[true, true, true, false, false, false, false, false, false, false, false] _
    refine AI.take (i := 3) rfl rfl (by kernel_rfl) (by kernel_rfl) (by kernel_rfl) (fun _ _ h => h) (g_index_str Tryd.underlying9 rfl rfl g29 e31) ?_
    show AI _ _ _ _ _ _ #[true, true, true, true, false, false, false, false, false, false, false] _
    refine AI.take (i := 4) rfl rfl (by kernel_rfl) (by kernel_rfl) (by kernel_rfl) (fun _ _ h => h) (mv rfl) ?_
    show AI _ _ _ _ _ _ #[true, true, true, true, true, false, false, false, false, false, false] _
    refine AI.take (i := 5) rfl rfl (by kernel_rfl) (by kernel_rfl) (by kernel_rfl) (fun _ _ h => h) (g_quo rfl rfl g32) ?_
    show AI _ _ _ _ _ _ #[true, true, true, true, true, true, false, false, false, false, false] _
    refine AI.take (i := 6) rfl rfl (by kernel_rfl) (by kernel_rfl) (by kernel_rfl) (fun _ _ h => h) (g_rem rfl rfl g33) ?_
    show AI _ _ _ _ _ _ #[true, true, true, true, true, true, true, false, false, false, false] _
    refine AI.take (i := 7) rfl rfl (by kernel_rfl) (by kernel_rfl) (by kernel_rfl) (fun _ _ h => h) (g_index_str Tryd.underlying9 rfl rfl g34 e36) ?_
    show AI _ _ _ _ _ _ #[true, true, true, true, true, true, true, true, false, false, false] _
    refine AI.one (i := 8) (by kernel_rfl) rfl rfl ?_
    refine AIO.op rfl (opR_buildE (E := Enc.byte) (bytes := 1) (xs := [.tmp 36, .tmp 40]) (l := ([x30, x35] : List UInt8)) Tryd.underlying24 (by kernel_rfl) rfl rfl (by decide) rfl rfl) ?_
    show AI _ _ _ _ _ _ #[true, true, true, true, true, true, true, true, true, false, false] _
    refine AI.one (i := 9) (by kernel_rfl) rfl rfl ?_
    refine AIO.opx rfl (g_append (E := Enc.byte) (bytes := 1) 0 Tryd.underlying24 Tryd.underlying24 rfl (by kernel_rfl) rfl rfl rfl rfl g38 e40) ?_
    rintro _ _ ⟨t37, rfl, rfl⟩
    show AI _ _ _ _ _ _ #[true, true, true, true, true, true, true, true, true, true, false] _
    refine AI.take (i := 10) rfl rfl (by kernel_rfl) (by kernel_rfl) (by kernel_rfl) (fun _ _ h => h) (opS_assign (av := slE _ _ _) rfl) ?_
    show AI _ _ _ _ _ _ #[true, true, true, true, true, true, true, true, true, true, true] _
    refine AI.done rfl ?_
    show AW _ _ _ _ _ _
    refine AW.cut (X := (List UInt8) × Nat) (fun (y56, t57) => ⟨[(0, slE Enc.byte a1 q2), (3, slE Enc.byte y56 (some t57)), (4, i64 y7), (5, i64 y26)], [], [.tok t57 5]⟩) (fun (y56, t57) => ref13_Raw_j3 a1 y7 y26 (ref13_Raw_L2 F a1 n9) y56 = some r3) ?_ ?_
    ·
     refine AW.seq ?_
     obtain ⟨g41, H⟩ := grd_s H
     refine AW.region ?_
     show AR _ _ _ _ _ [0, 1, 2, 3, 4] _
     refine sS rfl rfl rfl (mv rfl) ?_
     refine sS rfl rfl rfl (g_add rfl rfl g41) ?_
     refine sS rfl rfl rfl (opS_move (av := slE _ _ _) rfl) ?_
     refine sS rfl rfl rfl (opS_len_sl Tryd.underlying24 rfl) ?_
     refine sS rfl rfl rfl (opS_lt rfl rfl) ?_
     refine AR.nil ?_
     show AW _ _ _ _ _ _
     refine AW.cond rfl (fun c42 => ?_) (fun c42 => ?_)
     ·replace H := cnd_t c42 H
      obtain ⟨g43, H⟩ := grd_s H
      obtain ⟨g44, H⟩ := grd_s H
      obtain ⟨g45, H⟩ := grd_s H
      obtain ⟨x46, e47, H⟩ := lt_s H
      obtain ⟨g49, H⟩ := grd_s H
      obtain ⟨x50, e51, H⟩ := lt_s H
      refine AW.region ?_
      show AR _ _ _ _ _ [0, 1, 2, 3, 4, 5, 6, 7] _
      refine sS rfl rfl rfl (opS_move (av := slE _ _ _) rfl) ?_
      refine sS rfl rfl rfl (mv rfl) ?_
      refine sS rfl rfl rfl (g_quo rfl rfl g43) ?_
      refine sS rfl rfl rfl (g_rem rfl rfl g44) ?_
      refine sS rfl rfl rfl (g_index_str Tryd.underlying9 rfl rfl g45 e47) ?_
      refine sR rfl rfl rfl (opR_buildE (E := Enc.byte) (bytes := 1) (xs := [.tmp 52]) (l := ([x46] : List UInt8)) Tryd.underlying24 (by kernel_rfl) rfl rfl (by decide) rfl rfl) ?_
      refine sX rfl rfl rfl (g_append (E := Enc.byte) (bytes := 1) 0 Tryd.underlying24 Tryd.underlying24 rfl (by kernel_rfl) rfl rfl rfl rfl g49 e51) ?_
      rintro _ _ ⟨t48, rfl, rfl⟩
      refine sS rfl rfl rfl (opS_assign (av := slE _ _ _) rfl) ?_
      refine AR.nil ?_
      exact Exists.intro (x50, t48) ⟨H, WK.at [0] (.cons (.refl _) (.cons (.refl _) (.cons (.refl _) (.cons (.refl _) (.nil _))))) rfl⟩
     ·replace H := cnd_f c42 H
      obtain ⟨g53, H⟩ := grd_s H
      obtain ⟨x54, e55, H⟩ := lt_s H
      refine AW.region ?_
      show AR _ _ _ _ _ [0, 1, 2, 3] _
      refine sS rfl rfl rfl (opS_move (av := slE _ _ _) rfl) ?_
      refine sR rfl rfl rfl (opR_buildE (E := Enc.byte) (bytes := 1) (xs := [.const _]) (l := ([61] : List UInt8)) Tryd.underlying24 (by kernel_rfl) rfl rfl (by decide) rfl rfl) ?_
      refine sX rfl rfl rfl (g_append (E := Enc.byte) (bytes := 1) 0 Tryd.underlying24 Tryd.underlying24 rfl (by kernel_rfl) rfl rfl rfl rfl g53 e55) ?_
      rintro _ _ ⟨t52, rfl, rfl⟩
      refine sS rfl rfl rfl (opS_assign (av := slE _ _ _) rfl) ?_
      refine AR.nil ?_
      exact Exists.intro (x54, t52) ⟨H, WK.at [0] (.cons (.refl _) (.cons (.refl _) (.cons (.refl _) (.cons (.refl _) (.nil _))))) rfl⟩
    rintro ⟨y56, t57⟩ H
    replace H : ref13_Raw_j3 a1 y7 y26 (ref13_Raw_L2 F a1 n9) y56 = some r3 := H
    unfold ref13_Raw_j3 at H
    show AW _ _ _ _ _ _
    refine AW.seq ?_
    obtain ⟨g59, H⟩ := grd_s H
    refine AW.region ?_
    show AR _ _ _ _ _ [0, 1, 2, 3, 4] _
    refine sS rfl rfl rfl (mv rfl) ?_
    refine sS rfl rfl rfl (g_add rfl rfl g59) ?_
    refine sS rfl rfl rfl (opS_move (av := slE _ _ _) rfl) ?_
    refine sS rfl rfl rfl (opS_len_sl Tryd.underlying24 rfl) ?_
    refine sS rfl rfl rfl (opS_lt rfl rfl) ?_
    refine AR.nil ?_
    show AW _ _ _ _ _ _
    refine AW.cond rfl (fun c60 => ?_) (fun c60 => ?_)
    ·replace H := cnd_t c60 H
     obtain ⟨g61, H⟩ := grd_s H
     obtain ⟨g62, H⟩ := grd_s H
     obtain ⟨x63, e64, H⟩ := lt_s H
     obtain ⟨g66, H⟩ := grd_s H
     obtain ⟨x67, e68, H⟩ := lt_s H
     refine AW.region ?_
     show AR _ _ _ _ _ [0, 1, 2, 3, 4, 5, 6] _
     refine sS rfl rfl rfl (opS_move (av := slE _ _ _) rfl) ?_
     refine sS rfl rfl rfl (mv rfl) ?_
     refine sS rfl rfl rfl (g_rem rfl rfl g61) ?_
     refine sS rfl rfl rfl (g_index_str Tryd.underlying9 rfl rfl g62 e64) ?_
     refine sR rfl rfl rfl (opR_buildE (E := Enc.byte) (bytes := 1) (xs := [.tmp 66]) (l := ([x63] : List UInt8)) Tryd.underlying24 (by kernel_rfl) rfl rfl (by decide) rfl rfl) ?_
     refine sX rfl rfl rfl (g_append (E := Enc.byte) (bytes := 1) 0 Tryd.underlying24 Tryd.underlying24 rfl (by kernel_rfl) rfl rfl rfl rfl g66 e68) ?_
     rintro _ _ ⟨t65, rfl, rfl⟩
     refine sS rfl rfl rfl (opS_assign (av := slE _ _ _) rfl) ?_
     refine AR.nil ?_
     exact Exists.intro (x67, t65) ⟨H, WK.at [0] (.cons (.refl _) (.cons (.refl _) (.cons (.refl _) (.nil _)))) rfl⟩
    ·replace H := cnd_f c60 H
     obtain ⟨g70, H⟩ := grd_s H
     obtain ⟨x71, e72, H⟩ := lt_s H
     refine AW.region ?_
     show AR _ _ _ _ _ [0, 1, 2, 3] _
     refine sS rfl rfl rfl (opS_move (av := slE _ _ _) rfl) ?_
     refine sR rfl rfl rfl (opR_buildE (E := Enc.byte) (bytes := 1) (xs := [.const _]) (l := ([61] : List UInt8)) Tryd.underlying24 (by kernel_rfl) rfl rfl (by decide) rfl rfl) ?_
     refine sX rfl rfl rfl (g_append (E := Enc.byte) (bytes := 1) 0 Tryd.underlying24 Tryd.underlying24 rfl (by kernel_rfl) rfl rfl rfl rfl g70 e72) ?_
     rintro _ _ ⟨t69, rfl, rfl⟩
     refine sS rfl rfl rfl (opS_assign (av := slE _ _ _) rfl) ?_
     refine AR.nil ?_
     exact Exists.intro (x71, t69) ⟨H, WK.at [0] (.cons (.refl _) (.cons (.refl _) (.cons (.refl _) (.nil _)))) rfl⟩
   rintro ⟨y73, t74⟩ H
   replace H : ref13_Raw_j2 y7 (ref13_Raw_L2 F a1 n9) y73 = some r3 := H
   unfold ref13_Raw_j2 at H
   show AW _ _ _ _ _ _
   obtain ⟨g76, H⟩ := grd_s H
   refine AW.region ?_
   show AR _ _ _ _ _ [0, 1, 2] _
   refine sS rfl rfl rfl (mv rfl) ?_
   refine sS rfl rfl rfl (g_add rfl rfl g76) ?_
   refine sS rfl rfl rfl (asg rfl) ?_
   refine AR.nil ?_
   exact Exists.intro (n9, y73, t74, y7 + 3) ⟨H, Nat.lt_succ_self _, WK.at [0] (.cons (.refl _) (.cons (.refl _) (.cons (.refl _) (.nil _)))) rfl⟩
  ·replace H := cnd_f c10 H
   refine AW.exit ?_
   exact Exists.intro (y5, t6) ⟨H, WK.at [0] (.cons (.refl _) (.nil _)) rfl⟩
 rintro ⟨y77, t78⟩ H
 replace H : ref13_Raw_j1 y77 = some r3 := H
 unfold ref13_Raw_j1 at H
 show AW _ _ _ _ _ _
 refine AW.seq ?_
 refine AW.region ?_
 show AR _ _ _ _ _ [0, 1, 2] _
 refine sS rfl rfl rfl (opS_move (av := slE _ _ _) rfl) ?_
 refine sS rfl rfl rfl (opS_conv_bytes_str Tryd.underlying24 Tryd.underlying5 Tryd.underlying9 rfl) ?_
 refine sS rfl rfl rfl (asg rfl) ?_
 refine AR.nil ?_
 show AW _ _ _ _ _ _
 refine AW.ret ?_
 obtain rfl := Option.some.inj H
 exact And.intro rfl (Exists.intro _ (Exists.intro _ ⟨ResV.oneW rfl (.refl _), Sub.at [] rfl, rfl, rfl⟩))
set_option maxRecDepth 100000 in
set_option maxHeartbeats 1000000 in
theorem w_ref13_Bytes (F : Nat) (a1 : List UInt8) (r2 : List UInt8) (r3 : Int) (H : ref13_Bytes F a1 = some (r2, r3)) : ACalls Tryd.prog 19 [S a1] [] (Ret (.tup [slE Enc.byte r2 none, i64 r3]) []) := by
 unfold ref13_Bytes at H
 refine ACalls.of_body Tryd.func19 rfl rfl ?_
 show AW _ _ 74 _ _ _
 refine AW.seq ?_
 refine AW.region ?_
 show AR _ _ _ _ _ [0, 1] _
 refine sS rfl rfl rfl (asg rfl) ?_
 refine sS rfl rfl rfl (asg rfl) ?_
 refine AR.nil ?_
 show AW _ _ _ _ _ _
 refine AW.seq ?_
 refine AW.seq ?_
 obtain ⟨g4, H⟩ := grd_s H
 refine AW.region ?_
 show AR _ _ _ _ _ [0, 1, 2, 3] _
 refine sS rfl rfl rfl (mv rfl) ?_
 refine sS rfl rfl rfl (opS_len_str Tryd.underlying9 rfl) ?_
 refine sS rfl rfl rfl (g_rem rfl rfl g4) ?_
 refine sS rfl rfl rfl (opS_nei rfl rfl) ?_
 refine AR.nil ?_
 show AW _ _ _ _ _ _
 refine AW.cond rfl (fun c5 => ?_) (fun c5 => ?_)
 ·replace H := cnd_t c5 H
  refine AW.seq ?_
  refine AW.region ?_
  show AR _ _ _ _ _ [0, 1] _
  refine sS rfl rfl rfl (asg rfl) ?_
  refine sS rfl rfl rfl (asg rfl) ?_
  refine AR.nil ?_
  show AW _ _ _ _ _ _
  refine AW.ret ?_
  obtain ⟨rfl, rfl⟩ := res2 H
  exact And.intro rfl (Exists.intro _ (Exists.intro _ ⟨ResV.twoW rfl (.nil _) (.refl _), Sub.at [] rfl, rfl, rfl⟩))
 ·replace H := cnd_f c5 H
  refine AW.skip ?_
  show AW _ _ _ _ _ _
  refine AW.seq ?_
  refine AW.region ?_
  show AR _ _ _ _ _ [0] _
  refine sS rfl rfl rfl (asg rfl) ?_
  refine AR.nil ?_
  show AW _ _ _ _ _ _
  refine AW.nil_grows 4 1 5 rfl fun t6 => ?_
  show AW _ _ _ _ _ ⟨(4, slE Enc.byte [] (some t6)) :: _, _, _⟩
  refine AW.cut (X := (List UInt8) × Nat) (fun (y41, t42) => ⟨[(0, S a1), (4, slE Enc.byte y41 (some t42))], [], [.tok t42 5]⟩) (fun (y41, t42) => ref13_Bytes_j3 F a1 y41 = some (r2, r3)) ?_ ?_
  ·
   refine AW.seq ?_
   refine AW.region ?_
   show AR _ _ _ _ _ [0] _
   refine sS rfl rfl rfl (asg rfl) ?_
   refine AR.nil ?_
   show AW _ _ _ _ _ _
   refine AW.block ?_
   refine AW.loop (X := Nat × (List UInt8) × Nat × Int) (fun (n11, y7, t8, y9) => ⟨[(0, S a1), (4, slE Enc.byte y7 (some t8)), (5, i64 y9)], [], [.tok t8 5]⟩) (fun (n11, y7, t8, y9) => ref13_Bytes_L3 F a1 n11 (y7, y9) = some (r2, r3)) (fun (n11, y7, t8, y9) => n11) (F, [], t6, 0) H (WK.at [0] (.cons (.refl _) (.cons (.refl _) (.cons (.refl _) (.nil _)))) rfl) ?_
   rintro ⟨n11, y7, t8, y9⟩ H
   obtain ⟨n11, rfl, H⟩ := loop_s H
   replace H : ref13_Bytes_B3 F a1 (ref13_Bytes_L3 F a1 n11) y7 y9 = some (r2, r3) := H
   unfold ref13_Bytes_B3 at H
   show AW _ _ _ _ _ _
   refine AW.seq ?_
   refine AW.seq ?_
   refine AW.region ?_
   show AR _ _ _ _ _ [0, 1, 2, 3] _
   refine sS rfl rfl rfl (mv rfl) ?_
   refine sS rfl rfl rfl (mv rfl) ?_
   refine sS rfl rfl rfl (opS_len_str Tryd.underlying9 rfl) ?_
   refine sS rfl rfl rfl (opS_lt rfl rfl) ?_
   refine AR.nil ?_
   show AW _ _ _ _ _ _
   refine AW.cond rfl (fun c12 => ?_) (fun c12 => ?_)
   ·replace H := cnd_t c12 H
    refine AW.skip ?_
    show AW _ _ _ _ _ _
    refine AW.cut (X := (List UInt8) × Nat) (fun (y37, t38) => ⟨[(0, S a1), (4, slE Enc.byte y37 (some t38)), (5, i64 y9)], [], [.tok t38 5]⟩) (fun (y37, t38) => ref13_Bytes_j4 y9 (ref13_Bytes_L3 F a1 n11) y37 = some (r2, r3)) ?_ ?_
    ·
     refine AW.block ?_
     refine AW.seq ?_
     refine AW.region ?_
     show AR _ _ _ _ _ [0] _
     refine sS rfl rfl rfl (asg rfl) ?_
     refine AR.nil ?_
     show AW _ _ _ _ _ _
     refine AW.cut (X := Int) (fun y27 => ⟨[(0, S a1), (4, slE Enc.byte y7 (some t8)), (5, i64 y9), (6, i64 y27)], [], [.tok t8 5]⟩) (fun y27 => ref13_Bytes_j5 y7 y9 (ref13_Bytes_L3 F a1 n11) y27 = some (r2, r3)) ?_ ?_
     ·
      refine AW.seq ?_
      refine AW.region ?_
      show AR _ _ _ _ _ [0, 1] _
      refine sS rfl rfl rfl (mv rfl) ?_
      refine sS rfl rfl rfl (asg rfl) ?_
      refine AR.nil ?_
      show AW _ _ _ _ _ _
      refine AW.block ?_
      refine AW.loop (X := Nat × Int × Int) (fun (n16, y13, y14) => ⟨[(0, S a1), (4, slE Enc.byte y7 (some t8)), (5, i64 y9), (6, i64 y13), (7, i64 y14)], [], [.tok t8 5]⟩) (fun (n16, y13, y14) => ref13_Bytes_L2 F a1 y7 y9 (ref13_Bytes_L3 F a1 n11) n16 (y13, y14) = some (r2, r3)) (fun (n16, y13, y14) => n16) (F, 0, y9) H (WK.at [0] (.cons (.refl _) (.cons (.refl _) (.cons (.refl _) (.cons (.refl _) (.cons (.refl _) (.nil _)))))) rfl) ?_
      rintro ⟨n16, y13, y14⟩ H
      obtain ⟨n16, rfl, H⟩ := loop_s H
      replace H : ref13_Bytes_B2 F a1 y7 y9 (ref13_Bytes_L3 F a1 n11) (ref13_Bytes_L2 F a1 y7 y9 (ref13_Bytes_L3 F a1 n11) n16) y13 y14 = some (r2, r3) := H
      unfold ref13_Bytes_B2 at H
      show AW _ _ _ _ _ _
      refine AW.seq ?_
      refine AW.seq ?_
      obtain ⟨g17, H⟩ := grd_s H
      refine AW.region ?_
      show AR _ _ _ _ _ [0, 1, 2, 3] _
      refine sS rfl rfl rfl (mv rfl) ?_
      refine sS rfl rfl rfl (mv rfl) ?_
      refine sS rfl rfl rfl (g_add rfl rfl g17) ?_
      refine sS rfl rfl rfl (opS_lt rfl rfl) ?_
      refine AR.nil ?_
      show AW _ _ _ _ _ _
      refine AW.cond rfl (fun c18 => ?_) (fun c18 => ?_)
      ·replace H := cnd_t c18 H
       refine AW.skip ?_
       show AW _ _ _ _ _ _
       refine AW.seq ?_
       refine AW.block ?_
       obtain ⟨g19, H⟩ := grd_s H
       obtain ⟨g20, H⟩ := grd_s H
       obtain ⟨x21, e22, H⟩ := lt_s H
       obtain ⟨x23, e24, H⟩ := bnd_s H
       obtain ⟨g25, H⟩ := grd_s H
       refine AW.region ?_
       show AR _ _ _ _ _ [0, 1, 2, 3, 4, 5, 6, 7] _
       refine sS rfl rfl rfl (mv rfl) ?_
       refine sS rfl rfl rfl (g_mul rfl rfl g19) ?_
       refine sS rfl rfl rfl (mv rfl) ?_
       refine sS rfl rfl rfl (mv rfl) ?_
       refine sS rfl rfl rfl (g_index_str Tryd.underlying9 rfl rfl g20 e22) ?_
       refine AR.run rfl rfl (AO.callp rfl en42_headr rfl (w_ref13_number F x21 x23 e24) ?_)
       refine sS rfl rfl rfl (g_add rfl rfl g25) ?_
       refine sS rfl rfl rfl (asg rfl) ?_
       refine AR.nil ?_
       show AW _ _ _ _ _ _
       obtain ⟨g26, H⟩ := grd_s H
       refine AW.region ?_
       show AR _ _ _ _ _ [0, 1, 2] _
       refine sS rfl rfl rfl (mv rfl) ?_
       refine sS rfl rfl rfl (g_add rfl rfl g26) ?_
       refine sS rfl rfl rfl (asg rfl) ?_
       refine AR.nil ?_
       exact Exists.intro (n16, (64 * y13) + x23, y14 + 1) ⟨H, Nat.lt_succ_self _, WK.at [0] (.cons (.refl _) (.cons (.refl _) (.cons (.refl _) (.cons (.refl _) (.cons (.refl _) (.nil _)))))) rfl⟩
      ·replace H := cnd_f c18 H
       refine AW.exit ?_
       exact Exists.intro y13 ⟨H, WK.at [0] (.cons (.refl _) (.cons (.refl _) (.cons (.refl _) (.cons (.refl _) (.nil _))))) rfl⟩
     rintro y27 H
     replace H : ref13_Bytes_j5 y7 y9 (ref13_Bytes_L3 F a1 n11) y27 = some (r2, r3) := H
     unfold ref13_Bytes_j5 at H
     show AW _ _ _ _ _ _
     obtain ⟨g29, H⟩ := grd_s H
     obtain ⟨g30, H⟩ := grd_s H
     obtain ⟨g31, H⟩ := grd_s H
     obtain ⟨g32, H⟩ := grd_s H
     obtain ⟨g34, H⟩ := grd_s H
     obtain ⟨x35, e36, H⟩ := lt_s H
     refine AW.region ?_
     show AR _ _ _ _ _ [0, 1, 2, 3, 4, 5, 6, 7, 8, 9, 10, 11, 12, 13] _
     refine sS rfl rfl rfl (opS_move (av := slE _ _ _) rfl) ?_
     refine sS rfl rfl rfl (mv rfl) ?_
     refine sS rfl rfl rfl (g_quo rfl rfl g29) ?_
     refine sS rfl rfl rfl (g_conv_to8 (by kernel_rfl) Tryd.underlying5 rfl) ?_
     refine sS rfl rfl rfl (mv rfl) ?_
     refine sS rfl rfl rfl (g_quo rfl rfl g30) ?_
     refine sS rfl rfl rfl (g_rem rfl rfl g31) ?_
     refine sS rfl rfl rfl (g_conv_to8 (by kernel_rfl) Tryd.underlying5 rfl) ?_
     refine sS rfl rfl rfl (mv rfl) ?_
     refine sS rfl rfl rfl (g_rem rfl rfl g32) ?_
     refine sS rfl rfl rfl (g_conv_to8 (by kernel_rfl) Tryd.underlying5 rfl) ?_
     refine sR rfl rfl rfl (opR_buildE (E := Enc.byte) (bytes := 1) (xs := [.tmp 36, .tmp 40, .tmp 43]) (l := ([Go.Av.toB (y27 / 65536), Go.Av.toB ((y27 / 256) % 256), Go.Av.toB (y27 % 256)] : List UInt8)) Tryd.underlying24 (by kernel_rfl) rfl rfl (by decide) rfl rfl) ?_
     refine sX rfl rfl rfl (g_append (E := Enc.byte) (bytes := 1) 0 Tryd.underlying24 Tryd.underlying24 rfl (by kernel_rfl) rfl rfl rfl rfl g34 e36) ?_
     rintro _ _ ⟨t33, rfl, rfl⟩
     refine sS rfl rfl rfl (opS_assign (av := slE _ _ _) rfl) ?_
     refine AR.nil ?_
     exact Exists.intro (x35, t33) ⟨H, WK.at [0] (.cons (.refl _) (.cons (.refl _) (.cons (.refl _) (.nil _)))) rfl⟩
    rintro ⟨y37, t38⟩ H
    replace H : ref13_Bytes_j4 y9 (ref13_Bytes_L3 F a1 n11) y37 = some (r2, r3) := H
    unfold ref13_Bytes_j4 at H
    show AW _ _ _ _ _ _
    obtain ⟨g40, H⟩ := grd_s H
    refine AW.region ?_
    show AR _ _ _ _ _ [0, 1, 2] _
    refine sS rfl rfl rfl (mv rfl) ?_
    refine sS rfl rfl rfl (g_add rfl rfl g40) ?_
    refine sS rfl rfl rfl (asg rfl) ?_
    refine AR.nil ?_
    exact Exists.intro (n11, y37, t38, y9 + 4) ⟨H, Nat.lt_succ_self _, WK.at [0] (.cons (.refl _) (.cons (.refl _) (.cons (.refl _) (.nil _)))) rfl⟩
   ·replace H := cnd_f c12 H
    refine AW.exit ?_
    exact Exists.intro (y7, t8) ⟨H, WK.at [0] (.cons (.refl _) (.cons (.refl _) (.nil _))) rfl⟩
  rintro ⟨y41, t42⟩ H
  replace H : ref13_Bytes_j3 F a1 y41 = some (r2, r3) := H
  unfold ref13_Bytes_j3 at H
  show AW _ _ _ _ _ _
  refine AW.cut (X := (List UInt8) × Nat) (fun (y66, t67) => ⟨[(0, S a1), (4, slE Enc.byte y66 (some t67))], [], [.tok t67 5]⟩) (fun (y66, t67) => ref13_Bytes_j1 F a1 y66 = some (r2, r3)) ?_ ?_
  ·
   refine AW.seq ?_
   refine AW.region ?_
   show AR _ _ _ _ _ [0] _
   refine sS rfl rfl rfl (asg rfl) ?_
   refine AR.nil ?_
   show AW _ _ _ _ _ _
   refine AW.block ?_
   refine AW.loop (X := Nat × (List UInt8) × Nat × Int) (fun (n48, y44, t45, y46) => ⟨[(0, S a1), (4, slE Enc.byte y44 (some t45)), (8, i64 y46)], [], [.tok t45 5]⟩) (fun (n48, y44, t45, y46) => ref13_Bytes_L1 F a1 n48 (y44, y46) = some (r2, r3)) (fun (n48, y44, t45, y46) => n48) (F, y41, t42, 1) H (WK.at [0] (.cons (.refl _) (.cons (.refl _) (.cons (.refl _) (.nil _)))) rfl) ?_
   rintro ⟨n48, y44, t45, y46⟩ H
   obtain ⟨n48, rfl, H⟩ := loop_s H
   replace H : ref13_Bytes_B1 F a1 (ref13_Bytes_L1 F a1 n48) y44 y46 = some (r2, r3) := H
   unfold ref13_Bytes_B1 at H
   show AW _ _ _ _ _ _
   refine AW.seq ?_
   refine AW.seq ?_
   refine AW.region ?_
   show AR _ _ _ _ _ [0, 1] _
   refine sS rfl rfl rfl (mv rfl) ?_
   refine sS rfl rfl rfl (opS_le rfl rfl) ?_
   refine AR.nil ?_
   show AW _ _ _ _ _ _
   refine AW.cond rfl (fun c49 => ?_) (fun c49 => ?_)
   ·replace H := cnd_t c49 H
    refine AW.skip ?_
    show AW _ _ _ _ _ _
    refine AW.cut (X := (List UInt8) × Nat) (fun (y62, t63) => ⟨[(0, S a1), (4, slE Enc.byte y62 (some t63)), (8, i64 y46)], [], [.tok t63 5]⟩) (fun (y62, t63) => ref13_Bytes_j2 y46 (ref13_Bytes_L1 F a1 n48) y62 = some (r2, r3)) ?_ ?_
    ·
     refine AW.block ?_
     refine AW.seq ?_
     obtain ⟨g51, H⟩ := grdc_s H
     obtain ⟨g52, H⟩ := grdc_s H
     obtain ⟨x53, e54, H⟩ := lt_s H
     refine AW.region ?_
     show AR _ _ _ _ _ [0, 1, 2, 3, 4, 5, 6, 7, 8, 9, 10, 11, 12] _
     refine sS rfl rfl rfl (mv rfl) ?_
     refine sS rfl rfl rfl (opS_len_str Tryd.underlying9 rfl) ?_
     refine sS rfl rfl rfl (mv rfl) ?_
     refine sS rfl rfl rfl (opS_ge rfl rfl) ?_
     refine sS rfl rfl rfl (mv rfl) ?_
     refine AR.meet (l := []) 62 (B ((decide (y46 ≤ (a1.length : Int))) && (decide (x53 = 61)))) (fun K => ?_) ?_
     ·rcases Bool.eq_false_or_eq_true (decide (y46 ≤ (a1.length : Int))) with h50 | h50
      ·
       refine gT h50 rfl rfl rfl rfl rfl rfl (AO.ops rfl rfl (mv rfl) ?_)
       refine gT h50 rfl rfl rfl rfl rfl rfl (AO.ops rfl rfl (mv rfl) ?_)
       refine gT h50 rfl rfl rfl rfl rfl rfl (AO.ops rfl rfl (opS_len_str Tryd.underlying9 rfl) ?_)
       refine gT h50 rfl rfl rfl rfl rfl rfl (AO.ops rfl rfl (mv rfl) ?_)
       refine gT h50 rfl rfl rfl rfl rfl rfl (AO.ops rfl rfl (g_sub rfl rfl (g51 h50)) ?_)
       refine gT h50 rfl rfl rfl rfl rfl rfl (AO.ops rfl rfl (g_index_str Tryd.underlying9 rfl rfl (g52 h50) e54) ?_)
       refine gT h50 rfl rfl rfl rfl rfl rfl (AO.ops rfl rfl (g_eq8 (a := x53) (b := 61) rfl rfl) ?_)
       refine sS rfl rfl rfl (opS_pick_t (av := .v _) rfl h50 rfl) ?_
       exact K _ 7 _ (B_congr (and_t h50)) rfl rfl
      ·
       refine gF h50 rfl rfl rfl rfl rfl ?_
       refine gF h50 rfl rfl rfl rfl rfl ?_
       refine gF h50 rfl rfl rfl rfl rfl ?_
       refine gF h50 rfl rfl rfl rfl rfl ?_
       refine gF h50 rfl rfl rfl rfl rfl ?_
       refine gF h50 rfl rfl rfl rfl rfl ?_
       refine gF h50 rfl rfl rfl rfl rfl ?_
       refine sS rfl rfl rfl (opS_pick_f (av := .v _) rfl h50 rfl) ?_
       exact K _ 7 _ (B_congr (and_f h50)) rfl rfl
     refine AR.nil ?_
     show AW _ _ _ _ _ _
     refine AW.cond rfl (fun c55 => ?_) (fun c55 => ?_)
     ·replace H := cnd_t c55 H
      obtain ⟨g56, H⟩ := grd_s H
      obtain ⟨g57, H⟩ := grd_s H
      obtain ⟨x58, e59, H⟩ := lt_s H
      obtain ⟨g61, H⟩ := grd_s H
      refine AW.region ?_
      show AR _ _ _ _ _ [0, 1, 2, 3, 4, 5, 6] _
      refine sS rfl rfl rfl (opS_move (av := slE _ _ _) rfl) ?_
      refine sS rfl rfl rfl (opS_move (av := slE _ _ _) rfl) ?_
      refine sS rfl rfl rfl (opS_len_sl Tryd.underlying24 rfl) ?_
      refine sS rfl rfl rfl (g_sub rfl rfl g56) ?_
      refine sS rfl rfl rfl (g_to_sl (E := Enc.byte) Tryd.underlying24 (by kernel_rfl) rfl rfl g57 e59) ?_
      refine sX rfl rfl rfl (g_append_nil (E := Enc.byte) (bytes := 1) Tryd.underlying24 Tryd.underlying24 rfl (by kernel_rfl) rfl rfl rfl g61) ?_
      rintro _ _ ⟨t60, rfl, rfl⟩
      refine sS rfl rfl rfl (opS_assign (av := slE _ _ _) rfl) ?_
      refine AR.nil ?_
      exact Exists.intro (x58, t60) ⟨H, WK.at [0] (.cons (.refl _) (.cons (.refl _) (.cons (.refl _) (.nil _)))) rfl⟩
     ·replace H := cnd_f c55 H
      refine AW.skip ?_
      exact Exists.intro (y44, t45) ⟨H, WK.at [0] (.cons (.refl _) (.cons (.refl _) (.cons (.refl _) (.nil _)))) rfl⟩
    rintro ⟨y62, t63⟩ H
    replace H : ref13_Bytes_j2 y46 (ref13_Bytes_L1 F a1 n48) y62 = some (r2, r3) := H
    unfold ref13_Bytes_j2 at H
    show AW _ _ _ _ _ _
    obtain ⟨g65, H⟩ := grd_s H
    refine AW.region ?_
    show AR _ _ _ _ _ [0, 1, 2] _
    refine sS rfl rfl rfl (mv rfl) ?_
    refine sS rfl rfl rfl (g_add rfl rfl g65) ?_
    refine sS rfl rfl rfl (asg rfl) ?_
    refine AR.nil ?_
    exact Exists.intro (n48, y62, t63, y46 + 1) ⟨H, Nat.lt_succ_self _, WK.at [0] (.cons (.refl _) (.cons (.refl _) (.cons (.refl _) (.nil _)))) rfl⟩
   ·replace H := cnd_f c49 H
    refine AW.exit ?_
    exact Exists.intro (y44, t45) ⟨H, WK.at [0] (.cons (.refl _) (.cons (.refl _) (.nil _))) rfl⟩
  rintro ⟨y66, t67⟩ H
  replace H : ref13_Bytes_j1 F a1 y66 = some (r2, r3) := H
  unfold ref13_Bytes_j1 at H
  show AW _ _ _ _ _ _
  refine AW.seq ?_
  refine AW.seq ?_
  obtain ⟨x69, e70, H⟩ := bnd_s H
  refine AW.region ?_
  show AR _ _ _ _ _ [0, 1, 2, 3] _
  refine sS rfl rfl rfl (opS_move (av := slE _ _ _) rfl) ?_
  refine AR.run rfl rfl (AO.callp rfl en37_headr rfl (w_ref13_Raw F y66 (some t67) x69 e70) ?_)
  refine sS rfl rfl rfl (mv rfl) ?_
  refine sS rfl rfl rfl (opS_nes rfl rfl) ?_
  refine AR.nil ?_
  show AW _ _ _ _ _ _
  refine AW.cond rfl (fun c71 => ?_) (fun c71 => ?_)
  ·replace H := cnd_t c71 H
   refine AW.seq ?_
   refine AW.region ?_
   show AR _ _ _ _ _ [0, 1] _
   refine sS rfl rfl rfl (asg rfl) ?_
   refine sS rfl rfl rfl (asg rfl) ?_
   refine AR.nil ?_
   show AW _ _ _ _ _ _
   refine AW.ret ?_
   obtain ⟨rfl, rfl⟩ := res2 H
   exact And.intro rfl (Exists.intro _ (Exists.intro _ ⟨ResV.twoW rfl (.nil _) (.refl _), Sub.at [] rfl, rfl, rfl⟩))
  ·replace H := cnd_f c71 H
   refine AW.skip ?_
   show AW _ _ _ _ _ _
   refine AW.seq ?_
   refine AW.region ?_
   show AR _ _ _ _ _ [0, 1, 2] _
   refine sS rfl rfl rfl (opS_move (av := slE _ _ _) rfl) ?_
   refine sS rfl rfl rfl (opS_assign (av := slE _ _ _) rfl) ?_
   refine sS rfl rfl rfl (asg rfl) ?_
   refine AR.nil ?_
   show AW _ _ _ _ _ _
   refine AW.ret ?_
   obtain ⟨rfl, rfl⟩ := res2 H
   exact And.intro rfl (Exists.intro _ (Exists.intro _ ⟨ResV.twoW rfl (.tok _ _ _) (.refl _), Sub.at [] rfl, rfl, rfl⟩))
set_option maxRecDepth 100000 in
set_option maxHeartbeats 1000000 in
theorem w_ref14_Name (F : Nat) (a1 : List UInt8) (r2 : Bool) (H : ref14_Name F a1 = some r2) : ACalls Tryd.prog 33 [S a1] [] (Ret (B r2) []) := by
 unfold ref14_Name at H
 refine ACalls.of_body Tryd.func33 rfl rfl ?_
 show AW _ _ 49 _ _ _
 refine AW.seq ?_
 refine AW.region ?_
 show AR _ _ _ _ _ [0] _
 refine sS rfl rfl rfl (asg rfl) ?_
 refine AR.nil ?_
 show AW _ _ _ _ _ _
 refine AW.cut (X := Unit) (fun _ => ⟨[(0, S a1)], [], []⟩) (fun _ => ref14_Name_j1 a1 = some r2) ?_ ?_
 ·
  refine AW.seq ?_
  refine AW.region ?_
  show AR _ _ _ _ _ [0] _
  refine sS rfl rfl rfl (asg rfl) ?_
  refine AR.nil ?_
  show AW _ _ _ _ _ _
  refine AW.block ?_
  refine AW.loop (X := Nat × Int) (fun (n5, y3) => ⟨[(0, S a1), (3, i64 y3)], [], []⟩) (fun (n5, y3) => ref14_Name_L1 a1 n5 y3 = some r2) (fun (n5, y3) => n5) (F, 0) H (WK.at [] (.cons (.refl _) (.cons (.refl _) (.nil _))) rfl) ?_
  rintro ⟨n5, y3⟩ H
  obtain ⟨n5, rfl, H⟩ := loop_s H
  replace H : ref14_Name_B1 a1 (ref14_Name_L1 a1 n5) y3 = some r2 := H
  unfold ref14_Name_B1 at H
  show AW _ _ _ _ _ _
  refine AW.seq ?_
  refine AW.seq ?_
  refine AW.region ?_
  show AR _ _ _ _ _ [0, 1, 2, 3] _
  refine sS rfl rfl rfl (mv rfl) ?_
  refine sS rfl rfl rfl (mv rfl) ?_
  refine sS rfl rfl rfl (opS_len_str Tryd.underlying9 rfl) ?_
  refine sS rfl rfl rfl (opS_lt rfl rfl) ?_
  refine AR.nil ?_
  show AW _ _ _ _ _ _
  refine AW.cond rfl (fun c6 => ?_) (fun c6 => ?_)
  ·replace H := cnd_t c6 H
   refine AW.skip ?_
   show AW _ _ _ _ _ _
   refine AW.seq ?_
   refine AW.block ?_
   refine AW.seq ?_
   obtain ⟨g7, H⟩ := grd_s H
   obtain ⟨x8, e9, H⟩ := lt_s H
   refine AW.region ?_
   show AR _ _ _ _ _ [0, 1, 2, 3] _
   refine sS rfl rfl rfl (mv rfl) ?_
   refine sS rfl rfl rfl (mv rfl) ?_
   refine sS rfl rfl rfl (g_index_str Tryd.underlying9 rfl rfl g7 e9) ?_
   refine sS rfl rfl rfl (asg rfl) ?_
   refine AR.nil ?_
   show AW _ _ _ _ _ _
   refine AW.seq ?_
   refine AW.region ?_
   show AR _ _ _ _ _ [0, 1, 2, 3, 4, 5, 6, 7, 8, 9, 10, 11, 12, 13, 14, 15, 16, 17, 18, 19, 20, 21, 22, 23, 24, 25, 26] _
   refine sS rfl rfl rfl (mv rfl) ?_
   refine sS rfl rfl rfl (opS_ge rfl rfl) ?_
   refine sS rfl rfl rfl (mv rfl) ?_
   refine AR.meet (l := [6, 7, 8, 9, 10, 11, 12, 13, 14, 15, 16, 17, 18, 19, 20, 21, 22, 23, 24, 25, 26]) 19 (B ((decide (97 ≤ (x8.toNat : Int))) && (decide ((x8.toNat : Int) ≤ 122)))) (fun K => ?_) ?_
   ·rcases Bool.eq_false_or_eq_true (decide (97 ≤ (x8.toNat : Int))) with h10 | h10
    ·
     refine gT h10 rfl rfl rfl rfl rfl rfl (AO.ops rfl rfl (mv rfl) ?_)
     refine gT h10 rfl rfl rfl rfl rfl rfl (AO.ops rfl rfl (opS_le rfl rfl) ?_)
     refine sS rfl rfl rfl (opS_pick_t (av := .v _) rfl h10 rfl) ?_
     exact K _ 2 _ (B_congr (and_t h10)) rfl rfl
    ·
     refine gF h10 rfl rfl rfl rfl rfl ?_
     refine gF h10 rfl rfl rfl rfl rfl ?_
     refine sS rfl rfl rfl (opS_pick_f (av := .v _) rfl h10 rfl) ?_
     exact K _ 2 _ (B_congr (and_f h10)) rfl rfl
   refine sS rfl rfl rfl (mv rfl) ?_
   refine AR.meet (l := [14, 15, 16, 17, 18, 19, 20, 21, 22, 23, 24, 25, 26]) 27 (B (((decide (97 ≤ (x8.toNat : Int))) && (decide ((x8.toNat : Int) ≤ 122))) || ((decide (65 ≤ (x8.toNat : Int))) && (decide ((x8.toNat : Int) ≤ 90))))) (fun K => ?_) ?_
   ·rcases Bool.eq_false_or_eq_true ((decide (97 ≤ (x8.toNat : Int))) && (decide ((x8.toNat : Int) ≤ 122))) with h11 | h11
    ·
     refine gF h11 rfl rfl rfl rfl rfl ?_
     refine gF h11 rfl rfl rfl rfl rfl ?_
     refine gF h11 rfl rfl rfl rfl rfl ?_
     refine gU rfl rfl rfl rfl rfl ?_
     refine gU rfl rfl rfl rfl rfl ?_
     refine gF h11 rfl rfl rfl rfl rfl ?_
     refine sS rfl rfl rfl (opS_pick_t (av := .v _) rfl h11 rfl) ?_
     exact K _ 6 _ (B_congr (or_t h11)) rfl rfl
    ·
     refine gT h11 rfl rfl rfl rfl rfl rfl (AO.ops rfl rfl (mv rfl) ?_)
     refine gT h11 rfl rfl rfl rfl rfl rfl (AO.ops rfl rfl (opS_ge rfl rfl) ?_)
     refine gT h11 rfl rfl rfl rfl rfl rfl (AO.ops rfl rfl (mv rfl) ?_)
     refine AR.meet (l := [13, 14, 15, 16, 17, 18, 19, 20, 21, 22, 23, 24, 25, 26]) 26 (B ((decide (65 ≤ (x8.toNat : Int))) && (decide ((x8.toNat : Int) ≤ 90)))) (fun K => ?_) ?_
     ·rcases Bool.eq_false_or_eq_true (decide (65 ≤ (x8.toNat : Int))) with h12 | h12
      ·
       refine gT h12 rfl rfl rfl rfl rfl rfl (AO.ops rfl rfl (mv rfl) ?_)
       refine gT h12 rfl rfl rfl rfl rfl rfl (AO.ops rfl rfl (opS_le rfl rfl) ?_)
       refine gT h11 rfl rfl rfl rfl rfl rfl (AO.ops rfl rfl (opS_pick_t (av := .v _) rfl h12 rfl) ?_)
       exact K _ 2 _ (B_congr (and_t h12)) rfl rfl
      ·
       refine gF h12 rfl rfl rfl rfl rfl ?_
       refine gF h12 rfl rfl rfl rfl rfl ?_
       refine gT h11 rfl rfl rfl rfl rfl rfl (AO.ops rfl rfl (opS_pick_f (av := .v _) rfl h12 rfl) ?_)
       exact K _ 2 _ (B_congr (and_f h12)) rfl rfl
     refine sS rfl rfl rfl (opS_pick_f (av := .v _) rfl h11 rfl) ?_
     exact K _ 4 _ (B_congr (or_f h11)) rfl rfl
   refine sS rfl rfl rfl (mv rfl) ?_
   refine AR.meet (l := [22, 23, 24, 25, 26]) 35 (B ((((decide (97 ≤ (x8.toNat : Int))) && (decide ((x8.toNat : Int) ≤ 122))) || ((decide (65 ≤ (x8.toNat : Int))) && (decide ((x8.toNat : Int) ≤ 90)))) || ((decide (48 ≤ (x8.toNat : Int))) && (decide ((x8.toNat : Int) ≤ 57))))) (fun K => ?_) ?_
   ·rcases Bool.eq_false_or_eq_true (((decide (97 ≤ (x8.toNat : Int))) && (decide ((x8.toNat : Int) ≤ 122))) || ((decide (65 ≤ (x8.toNat : Int))) && (decide ((x8.toNat : Int) ≤ 90)))) with h13 | h13
    ·
     refine gF h13 rfl rfl rfl rfl rfl ?_
     refine gF h13 rfl rfl rfl rfl rfl ?_
     refine gF h13 rfl rfl rfl rfl rfl ?_
     refine gU rfl rfl rfl rfl rfl ?_
     refine gU rfl rfl rfl rfl rfl ?_
     refine gF h13 rfl rfl rfl rfl rfl ?_
     refine sS rfl rfl rfl (opS_pick_t (av := .v _) rfl h13 rfl) ?_
     exact K _ 6 _ (B_congr (or_t h13)) rfl rfl
    ·
     refine gT h13 rfl rfl rfl rfl rfl rfl (AO.ops rfl rfl (mv rfl) ?_)
     refine gT h13 rfl rfl rfl rfl rfl rfl (AO.ops rfl rfl (opS_ge rfl rfl) ?_)
     refine gT h13 rfl rfl rfl rfl rfl rfl (AO.ops rfl rfl (mv rfl) ?_)
     refine AR.meet (l := [21, 22, 23, 24, 25, 26]) 34 (B ((decide (48 ≤ (x8.toNat : Int))) && (decide ((x8.toNat : Int) ≤ 57)))) (fun K => ?_) ?_
     ·rcases Bool.eq_false_or_eq_true (decide (48 ≤ (x8.toNat : Int))) with h14 | h14
      ·
       refine gT h14 rfl rfl rfl rfl rfl rfl (AO.ops rfl rfl (mv rfl) ?_)
       refine gT h14 rfl rfl rfl rfl rfl rfl (AO.ops rfl rfl (opS_le rfl rfl) ?_)
       refine gT h13 rfl rfl rfl rfl rfl rfl (AO.ops rfl rfl (opS_pick_t (av := .v _) rfl h14 rfl) ?_)
       exact K _ 2 _ (B_congr (and_t h14)) rfl rfl
      ·
       refine gF h14 rfl rfl rfl rfl rfl ?_
       refine gF h14 rfl rfl rfl rfl rfl ?_
       refine gT h13 rfl rfl rfl rfl rfl rfl (AO.ops rfl rfl (opS_pick_f (av := .v _) rfl h14 rfl) ?_)
       exact K _ 2 _ (B_congr (and_f h14)) rfl rfl
     refine sS rfl rfl rfl (opS_pick_f (av := .v _) rfl h13 rfl) ?_
     exact K _ 4 _ (B_congr (or_f h13)) rfl rfl
   refine sS rfl rfl rfl (mv rfl) ?_
   refine AR.meet (l := [26]) 39 (B (((((decide (97 ≤ (x8.toNat : Int))) && (decide ((x8.toNat : Int) ≤ 122))) || ((decide (65 ≤ (x8.toNat : Int))) && (decide ((x8.toNat : Int) ≤ 90)))) || ((decide (48 ≤ (x8.toNat : Int))) && (decide ((x8.toNat : Int) ≤ 57)))) || (decide (x8 = 45)))) (fun K => ?_) ?_
   ·rcases Bool.eq_false_or_eq_true ((((decide (97 ≤ (x8.toNat : Int))) && (decide ((x8.toNat : Int) ≤ 122))) || ((decide (65 ≤ (x8.toNat : Int))) && (decide ((x8.toNat : Int) ≤ 90)))) || ((decide (48 ≤ (x8.toNat : Int))) && (decide ((x8.toNat : Int) ≤ 57)))) with h15 | h15
    ·
     refine gF h15 rfl rfl rfl rfl rfl ?_
     refine gF h15 rfl rfl rfl rfl rfl ?_
     refine sS rfl rfl rfl (opS_pick_t (av := .v _) rfl h15 rfl) ?_
     exact K _ 2 _ (B_congr (or_t h15)) rfl rfl
    ·
     refine gT h15 rfl rfl rfl rfl rfl rfl (AO.ops rfl rfl (mv rfl) ?_)
     refine gT h15 rfl rfl rfl rfl rfl rfl (AO.ops rfl rfl (g_eq8 (a := x8) (b := 45) rfl rfl) ?_)
     refine sS rfl rfl rfl (opS_pick_f (av := .v _) rfl h15 rfl) ?_
     exact K _ 2 _ (B_congr (or_f h15)) rfl rfl
   refine sS rfl rfl rfl (opS_not rfl) ?_
   refine AR.nil ?_
   show AW _ _ _ _ _ _
   refine AW.cond rfl (fun c16 => ?_) (fun c16 => ?_)
   ·replace H := cnd_t c16 H
    refine AW.seq ?_
    refine AW.region ?_
    show AR _ _ _ _ _ [0] _
    refine sS rfl rfl rfl (asg rfl) ?_
    refine AR.nil ?_
    show AW _ _ _ _ _ _
    refine AW.ret ?_
    obtain rfl := Option.some.inj H
    exact And.intro rfl (Exists.intro _ (Exists.intro _ ⟨ResV.oneW rfl (.refl _), Sub.at [] rfl, rfl, rfl⟩))
   ·replace H := cnd_f c16 H
    refine AW.skip ?_
    show AW _ _ _ _ _ _
    obtain ⟨g17, H⟩ := grd_s H
    refine AW.region ?_
    show AR _ _ _ _ _ [0, 1, 2] _
    refine sS rfl rfl rfl (mv rfl) ?_
    refine sS rfl rfl rfl (g_add rfl rfl g17) ?_
    refine sS rfl rfl rfl (asg rfl) ?_
    refine AR.nil ?_
    exact Exists.intro (n5, y3 + 1) ⟨H, Nat.lt_succ_self _, WK.at [] (.cons (.refl _) (.cons (.refl _) (.nil _))) rfl⟩
  ·replace H := cnd_f c6 H
   refine AW.exit ?_
   exact Exists.intro () ⟨H, WK.at [] (.cons (.refl _) (.nil _)) rfl⟩
 rintro _ H
 replace H : ref14_Name_j1 a1 = some r2 := H
 unfold ref14_Name_j1 at H
 show AW _ _ _ _ _ _
 refine AW.seq ?_
 refine AW.region ?_
 show AR _ _ _ _ _ [0, 1, 2, 3, 4, 5, 6, 7, 8] _
 refine sS rfl rfl rfl (mv rfl) ?_
 refine sS rfl rfl rfl (opS_len_str Tryd.underlying9 rfl) ?_
 refine sS rfl rfl rfl (opS_ge rfl rfl) ?_
 refine sS rfl rfl rfl (mv rfl) ?_
 refine AR.meet (l := [8]) 48 (B ((decide (1 ≤ (a1.length : Int))) && (decide ((a1.length : Int) ≤ 40)))) (fun K => ?_) ?_
 ·rcases Bool.eq_false_or_eq_true (decide (1 ≤ (a1.length : Int))) with h19 | h19
  ·
   refine gT h19 rfl rfl rfl rfl rfl rfl (AO.ops rfl rfl (mv rfl) ?_)
   refine gT h19 rfl rfl rfl rfl rfl rfl (AO.ops rfl rfl (opS_len_str Tryd.underlying9 rfl) ?_)
   refine gT h19 rfl rfl rfl rfl rfl rfl (AO.ops rfl rfl (opS_le rfl rfl) ?_)
   refine sS rfl rfl rfl (opS_pick_t (av := .v _) rfl h19 rfl) ?_
   exact K _ 3 _ (B_congr (and_t h19)) rfl rfl
  ·
   refine gF h19 rfl rfl rfl rfl rfl ?_
   refine gF h19 rfl rfl rfl rfl rfl ?_
   refine gF h19 rfl rfl rfl rfl rfl ?_
   refine sS rfl rfl rfl (opS_pick_f (av := .v _) rfl h19 rfl) ?_
   exact K _ 3 _ (B_congr (and_f h19)) rfl rfl
 refine sS rfl rfl rfl (asg rfl) ?_
 refine AR.nil ?_
 show AW _ _ _ _ _ _
 refine AW.ret ?_
 obtain rfl := Option.some.inj H
 exact And.intro rfl (Exists.intro _ (Exists.intro _ ⟨ResV.oneW rfl (.refl _), Sub.at [] rfl, rfl, rfl⟩))
set_option maxRecDepth 100000 in
set_option maxHeartbeats 1000000 in
theorem w_ref14_Plain (F : Nat) (a1 : List UInt8) (r2 : Bool) (H : ref14_Plain F a1 = some r2) : ACalls Tryd.prog 17 [S a1] [] (Ret (B r2) []) := by
 unfold ref14_Plain at H
 refine ACalls.of_body Tryd.func17 rfl rfl ?_
 show AW _ _ 64 _ _ _
 refine AW.seq ?_
 refine AW.region ?_
 show AR _ _ _ _ _ [0] _
 refine sS rfl rfl rfl (asg rfl) ?_
 refine AR.nil ?_
 show AW _ _ _ _ _ _
 refine AW.cut (X := Unit) (fun _ => ⟨[(0, S a1)], [], []⟩) (fun _ => ref14_Plain_j1 a1 = some r2) ?_ ?_
 ·
  refine AW.seq ?_
  refine AW.region ?_
  show AR _ _ _ _ _ [0] _
  refine sS rfl rfl rfl (asg rfl) ?_
  refine AR.nil ?_
  show AW _ _ _ _ _ _
  refine AW.block ?_
  refine AW.loop (X := Nat × Int) (fun (n5, y3) => ⟨[(0, S a1), (3, i64 y3)], [], []⟩) (fun (n5, y3) => ref14_Plain_L1 a1 n5 y3 = some r2) (fun (n5, y3) => n5) (F, 0) H (WK.at [] (.cons (.refl _) (.cons (.refl _) (.nil _))) rfl) ?_
  rintro ⟨n5, y3⟩ H
  obtain ⟨n5, rfl, H⟩ := loop_s H
  replace H : ref14_Plain_B1 a1 (ref14_Plain_L1 a1 n5) y3 = some r2 := H
  unfold ref14_Plain_B1 at H
  show AW _ _ _ _ _ _
  refine AW.seq ?_
  refine AW.seq ?_
  refine AW.region ?_
  show AR _ _ _ _ _ [0, 1, 2, 3] _
  refine sS rfl rfl rfl (mv rfl) ?_
  refine sS rfl rfl rfl (mv rfl) ?_
  refine sS rfl rfl rfl (opS_len_str Tryd.underlying9 rfl) ?_
  refine sS rfl rfl rfl (opS_lt rfl rfl) ?_
  refine AR.nil ?_
  show AW _ _ _ _ _ _
  refine AW.cond rfl (fun c6 => ?_) (fun c6 => ?_)
  ·replace H := cnd_t c6 H
   refine AW.skip ?_
   show AW _ _ _ _ _ _
   refine AW.seq ?_
   refine AW.block ?_
   refine AW.seq ?_
   refine AW.seq ?_
   obtain ⟨g7, H⟩ := grd_s H
   obtain ⟨x8, e9, H⟩ := lt_s H
   obtain ⟨g11, H⟩ := grdc_s H
   obtain ⟨x12, e13, H⟩ := lt_s H
   refine AW.region ?_
   show AR _ _ _ _ _ [0, 1, 2, 3, 4, 5, 6, 7, 8, 9] _
   refine sS rfl rfl rfl (mv rfl) ?_
   refine sS rfl rfl rfl (mv rfl) ?_
   refine sS rfl rfl rfl (g_index_str Tryd.underlying9 rfl rfl g7 e9) ?_
   refine sS rfl rfl rfl (opS_lt rfl rfl) ?_
   refine sS rfl rfl rfl (mv rfl) ?_
   refine AR.meet (l := []) 19 (B ((decide ((x8.toNat : Int) < 32)) || (decide (126 < (x12.toNat : Int))))) (fun K => ?_) ?_
   ·rcases Bool.eq_false_or_eq_true (decide ((x8.toNat : Int) < 32)) with h10 | h10
    ·
     refine gF h10 rfl rfl rfl rfl rfl ?_
     refine gF h10 rfl rfl rfl rfl rfl ?_
     refine gF h10 rfl rfl rfl rfl rfl ?_
     refine gF h10 rfl rfl rfl rfl rfl ?_
     refine sS rfl rfl rfl (opS_pick_t (av := .v _) rfl h10 rfl) ?_
     exact K _ 4 _ (B_congr (or_t h10)) rfl rfl
    ·
     refine gT h10 rfl rfl rfl rfl rfl rfl (AO.ops rfl rfl (mv rfl) ?_)
     refine gT h10 rfl rfl rfl rfl rfl rfl (AO.ops rfl rfl (mv rfl) ?_)
     refine gT h10 rfl rfl rfl rfl rfl rfl (AO.ops rfl rfl (g_index_str Tryd.underlying9 rfl rfl (g11 (nf h10)) e13) ?_)
     refine gT h10 rfl rfl rfl rfl rfl rfl (AO.ops rfl rfl (opS_gt rfl rfl) ?_)
     refine sS rfl rfl rfl (opS_pick_f (av := .v _) rfl h10 rfl) ?_
     exact K _ 4 _ (B_congr (or_f h10)) rfl rfl
   refine AR.nil ?_
   show AW _ _ _ _ _ _
   refine AW.cond rfl (fun c14 => ?_) (fun c14 => ?_)
   ·replace H := cnd_t c14 H
    refine AW.seq ?_
    refine AW.region ?_
    show AR _ _ _ _ _ [0] _
    refine sS rfl rfl rfl (asg rfl) ?_
    refine AR.nil ?_
    show AW _ _ _ _ _ _
    refine AW.ret ?_
    obtain rfl := Option.some.inj H
    exact And.intro rfl (Exists.intro _ (Exists.intro _ ⟨ResV.oneW rfl (.refl _), Sub.at [] rfl, rfl, rfl⟩))
   ·replace H := cnd_f c14 H
    refine AW.skip ?_
    show AW _ _ _ _ _ _
    refine AW.seq ?_
    obtain ⟨g16, H⟩ := grdc_s H
    obtain ⟨x17, e18, H⟩ := lt_s H
    obtain ⟨g20, H⟩ := grdc_s H
    obtain ⟨g21, H⟩ := grdc_s H
    obtain ⟨x22, e23, H⟩ := lt_s H
    obtain ⟨g25, H⟩ := grdc_s H
    obtain ⟨x26, e27, H⟩ := lt_s H
    obtain ⟨g29, H⟩ := grdc_s H
    obtain ⟨g30, H⟩ := grdc_s H
    obtain ⟨x31, e32, H⟩ := lt_s H
    refine AW.region ?_
    show AR _ _ _ _ _ [0, 1, 2, 3, 4, 5, 6, 7, 8, 9, 10, 11, 12, 13, 14, 15, 16, 17, 18, 19, 20, 21, 22, 23, 24, 25, 26, 27] _
    refine sS rfl rfl rfl (mv rfl) ?_
    refine sS rfl rfl rfl (opS_gt rfl rfl) ?_
    refine sS rfl rfl rfl (mv rfl) ?_
    refine AR.meet (l := []) 47 (B ((decide (0 < y3)) && (((decide (x17 = 32)) && (decide (x22 = 32))) || ((decide (x26 = 63)) && (decide (x31 = 61)))))) (fun K => ?_) ?_
    ·rcases Bool.eq_false_or_eq_true (decide (0 < y3)) with h15 | h15
     ·
      refine gT h15 rfl rfl rfl rfl rfl rfl (AO.ops rfl rfl (mv rfl) ?_)
      refine gT h15 rfl rfl rfl rfl rfl rfl (AO.ops rfl rfl (mv rfl) ?_)
      refine gT h15 rfl rfl rfl rfl rfl rfl (AO.ops rfl rfl (g_index_str Tryd.underlying9 rfl rfl (g16 h15) e18) ?_)
      refine gT h15 rfl rfl rfl rfl rfl rfl (AO.ops rfl rfl (g_eq8 (a := x17) (b := 32) rfl rfl) ?_)
      refine gT h15 rfl rfl rfl rfl rfl rfl (AO.ops rfl rfl (mv rfl) ?_)
      refine AR.meet (l := [14, 15, 16, 17, 18, 19, 20, 21, 22, 23, 24, 25, 26, 27]) 33 (B ((decide (x17 = 32)) && (decide (x22 = 32)))) (fun K => ?_) ?_
      ·rcases Bool.eq_false_or_eq_true (decide (x17 = 32)) with h19 | h19
       ·
        refine gT h19 rfl rfl rfl rfl rfl rfl (AO.ops rfl rfl (mv rfl) ?_)
        refine gT h19 rfl rfl rfl rfl rfl rfl (AO.ops rfl rfl (mv rfl) ?_)
        refine gT h19 rfl rfl rfl rfl rfl rfl (AO.ops rfl rfl (g_sub rfl rfl (g20 (and_tt h15 h19))) ?_)
        refine gT h19 rfl rfl rfl rfl rfl rfl (AO.ops rfl rfl (g_index_str Tryd.underlying9 rfl rfl (g21 (and_tt h15 h19)) e23) ?_)
        refine gT h19 rfl rfl rfl rfl rfl rfl (AO.ops rfl rfl (g_eq8 (a := x22) (b := 32) rfl rfl) ?_)
        refine gT h15 rfl rfl rfl rfl rfl rfl (AO.ops rfl rfl (opS_pick_t (av := .v _) rfl h19 rfl) ?_)
        exact K _ 5 _ (B_congr (and_t h19)) rfl rfl
       ·
        refine gF h19 rfl rfl rfl rfl rfl ?_
        refine gF h19 rfl rfl rfl rfl rfl ?_
        refine gF h19 rfl rfl rfl rfl rfl ?_
        refine gF h19 rfl rfl rfl rfl rfl ?_
        refine gF h19 rfl rfl rfl rfl rfl ?_
        refine gT h15 rfl rfl rfl rfl rfl rfl (AO.ops rfl rfl (opS_pick_f (av := .v _) rfl h19 rfl) ?_)
        exact K _ 5 _ (B_congr (and_f h19)) rfl rfl
      refine gT h15 rfl rfl rfl rfl rfl rfl (AO.ops rfl rfl (mv rfl) ?_)
      refine AR.meet (l := [27]) 46 (B (((decide (x17 = 32)) && (decide (x22 = 32))) || ((decide (x26 = 63)) && (decide (x31 = 61))))) (fun K => ?_) ?_
      ·rcases Bool.eq_false_or_eq_true ((decide (x17 = 32)) && (decide (x22 = 32))) with h24 | h24
       ·
        refine gF h24 rfl rfl rfl rfl rfl ?_
        refine gF h24 rfl rfl rfl rfl rfl ?_
        refine gF h24 rfl rfl rfl rfl rfl ?_
        refine gF h24 rfl rfl rfl rfl rfl ?_
        refine gF h24 rfl rfl rfl rfl rfl ?_
        refine gU rfl rfl rfl rfl rfl ?_
        refine gU rfl rfl rfl rfl rfl ?_
        refine gU rfl rfl rfl rfl rfl ?_
        refine gU rfl rfl rfl rfl rfl ?_
        refine gU rfl rfl rfl rfl rfl ?_
        refine gF h24 rfl rfl rfl rfl rfl ?_
        refine gT h15 rfl rfl rfl rfl rfl rfl (AO.ops rfl rfl (opS_pick_t (av := .v _) rfl h24 rfl) ?_)
        exact K _ 11 _ (B_congr (or_t h24)) rfl rfl
       ·
        refine gT h24 rfl rfl rfl rfl rfl rfl (AO.ops rfl rfl (mv rfl) ?_)
        refine gT h24 rfl rfl rfl rfl rfl rfl (AO.ops rfl rfl (mv rfl) ?_)
        refine gT h24 rfl rfl rfl rfl rfl rfl (AO.ops rfl rfl (g_index_str Tryd.underlying9 rfl rfl (g25 (and_tt h15 (nf h24))) e27) ?_)
        refine gT h24 rfl rfl rfl rfl rfl rfl (AO.ops rfl rfl (g_eq8 (a := x26) (b := 63) rfl rfl) ?_)
        refine gT h24 rfl rfl rfl rfl rfl rfl (AO.ops rfl rfl (mv rfl) ?_)
        refine AR.meet (l := [26, 27]) 45 (B ((decide (x26 = 63)) && (decide (x31 = 61)))) (fun K => ?_) ?_
        ·rcases Bool.eq_false_or_eq_true (decide (x26 = 63)) with h28 | h28
         ·
          refine gT h28 rfl rfl rfl rfl rfl rfl (AO.ops rfl rfl (mv rfl) ?_)
          refine gT h28 rfl rfl rfl rfl rfl rfl (AO.ops rfl rfl (mv rfl) ?_)
          refine gT h28 rfl rfl rfl rfl rfl rfl (AO.ops rfl rfl (g_sub rfl rfl (g29 (and_tt (and_tt h15 (nf h24)) h28))) ?_)
          refine gT h28 rfl rfl rfl rfl rfl rfl (AO.ops rfl rfl (g_index_str Tryd.underlying9 rfl rfl (g30 (and_tt (and_tt h15 (nf h24)) h28)) e32) ?_)
          refine gT h28 rfl rfl rfl rfl rfl rfl (AO.ops rfl rfl (g_eq8 (a := x31) (b := 61) rfl rfl) ?_)
          refine gT h24 rfl rfl rfl rfl rfl rfl (AO.ops rfl rfl (opS_pick_t (av := .v _) rfl h28 rfl) ?_)
          exact K _ 5 _ (B_congr (and_t h28)) rfl rfl
         ·
          refine gF h28 rfl rfl rfl rfl rfl ?_
          refine gF h28 rfl rfl rfl rfl rfl ?_
          refine gF h28 rfl rfl rfl rfl rfl ?_
          refine gF h28 rfl rfl rfl rfl rfl ?_
          refine gF h28 rfl rfl rfl rfl rfl ?_
          refine gT h24 rfl rfl rfl rfl rfl rfl (AO.ops rfl rfl (opS_pick_f (av := .v _) rfl h28 rfl) ?_)
          exact K _ 5 _ (B_congr (and_f h28)) rfl rfl
        refine gT h15 rfl rfl rfl rfl rfl rfl (AO.ops rfl rfl (opS_pick_f (av := .v _) rfl h24 rfl) ?_)
        exact K _ 6 _ (B_congr (or_f h24)) rfl rfl
      refine sS rfl rfl rfl (opS_pick_t (av := .v _) rfl h15 rfl) ?_
      exact K _ 8 _ (B_congr (and_t h15)) rfl rfl
     ·
      refine gF h15 rfl rfl rfl rfl rfl ?_
      refine gF h15 rfl rfl rfl rfl rfl ?_
      refine gF h15 rfl rfl rfl rfl rfl ?_
      refine gF h15 rfl rfl rfl rfl rfl ?_
      refine gF h15 rfl rfl rfl rfl rfl ?_
      refine gU rfl rfl rfl rfl rfl ?_
      refine gU rfl rfl rfl rfl rfl ?_
      refine gU rfl rfl rfl rfl rfl ?_
      refine gU rfl rfl rfl rfl rfl ?_
      refine gU rfl rfl rfl rfl rfl ?_
      refine gF h15 rfl rfl rfl rfl rfl ?_
      refine gF h15 rfl rfl rfl rfl rfl ?_
      refine gU rfl rfl rfl rfl rfl ?_
      refine gU rfl rfl rfl rfl rfl ?_
      refine gU rfl rfl rfl rfl rfl ?_
      refine gU rfl rfl rfl rfl rfl ?_
      refine gU rfl rfl rfl rfl rfl ?_
      refine gU rfl rfl rfl rfl rfl ?_
      refine gU rfl rfl rfl rfl rfl ?_
      refine gU rfl rfl rfl rfl rfl ?_
      refine gU rfl rfl rfl rfl rfl ?_
      refine gU rfl rfl rfl rfl rfl ?_
      refine gU rfl rfl rfl rfl rfl ?_
      refine gF h15 rfl rfl rfl rfl rfl ?_
      refine sS rfl rfl rfl (opS_pick_f (av := .v _) rfl h15 rfl) ?_
      exact K _ 24 _ (B_congr (and_f h15)) rfl rfl
    refine AR.nil ?_
    show AW _ _ _ _ _ _
    refine AW.cond rfl (fun c33 => ?_) (fun c33 => ?_)
    ·replace H := cnd_t c33 H
     refine AW.seq ?_
     refine AW.region ?_
     show AR _ _ _ _ _ [0] _
     refine sS rfl rfl rfl (asg rfl) ?_
     refine AR.nil ?_
     show AW _ _ _ _ _ _
     refine AW.ret ?_
     obtain rfl := Option.some.inj H
     exact And.intro rfl (Exists.intro _ (Exists.intro _ ⟨ResV.oneW rfl (.refl _), Sub.at [] rfl, rfl, rfl⟩))
    ·replace H := cnd_f c33 H
     refine AW.skip ?_
     show AW _ _ _ _ _ _
     obtain ⟨g34, H⟩ := grd_s H
     refine AW.region ?_
     show AR _ _ _ _ _ [0, 1, 2] _
     refine sS rfl rfl rfl (mv rfl) ?_
     refine sS rfl rfl rfl (g_add rfl rfl g34) ?_
     refine sS rfl rfl rfl (asg rfl) ?_
     refine AR.nil ?_
     exact Exists.intro (n5, y3 + 1) ⟨H, Nat.lt_succ_self _, WK.at [] (.cons (.refl _) (.cons (.refl _) (.nil _))) rfl⟩
  ·replace H := cnd_f c6 H
   refine AW.exit ?_
   exact Exists.intro () ⟨H, WK.at [] (.cons (.refl _) (.nil _)) rfl⟩
 rintro _ H
 replace H : ref14_Plain_j1 a1 = some r2 := H
 unfold ref14_Plain_j1 at H
 show AW _ _ _ _ _ _
 refine AW.seq ?_
 obtain ⟨g37, H⟩ := grdc_s H
 obtain ⟨x38, e39, H⟩ := lt_s H
 obtain ⟨g41, H⟩ := grdc_s H
 obtain ⟨g42, H⟩ := grdc_s H
 obtain ⟨x43, e44, H⟩ := lt_s H
 refine AW.region ?_
 show AR _ _ _ _ _ [0, 1, 2, 3, 4, 5, 6, 7, 8, 9, 10, 11, 12, 13, 14, 15, 16] _
 refine sS rfl rfl rfl (mv rfl) ?_
 refine sS rfl rfl rfl (opS_len_str Tryd.underlying9 rfl) ?_
 refine sS rfl rfl rfl (opS_gt rfl rfl) ?_
 refine sS rfl rfl rfl (mv rfl) ?_
 refine AR.meet (l := [8, 9, 10, 11, 12, 13, 14, 15, 16]) 55 (B ((decide (0 < (a1.length : Int))) && (!decide (x38 = 32)))) (fun K => ?_) ?_
 ·rcases Bool.eq_false_or_eq_true (decide (0 < (a1.length : Int))) with h36 | h36
  ·
   refine gT h36 rfl rfl rfl rfl rfl rfl (AO.ops rfl rfl (mv rfl) ?_)
   refine gT h36 rfl rfl rfl rfl rfl rfl (AO.ops rfl rfl (g_index_str Tryd.underlying9 rfl rfl (g37 h36) e39) ?_)
   refine gT h36 rfl rfl rfl rfl rfl rfl (AO.ops rfl rfl (g_ne8 (a := x38) (b := 32) rfl rfl) ?_)
   refine sS rfl rfl rfl (opS_pick_t (av := .v _) rfl h36 rfl) ?_
   exact K _ 3 _ (B_congr (and_t h36)) rfl rfl
  ·
   refine gF h36 rfl rfl rfl rfl rfl ?_
   refine gF h36 rfl rfl rfl rfl rfl ?_
   refine gF h36 rfl rfl rfl rfl rfl ?_
   refine sS rfl rfl rfl (opS_pick_f (av := .v _) rfl h36 rfl) ?_
   exact K _ 3 _ (B_congr (and_f h36)) rfl rfl
 refine sS rfl rfl rfl (mv rfl) ?_
 refine AR.meet (l := [16]) 63 (B (((decide (0 < (a1.length : Int))) && (!decide (x38 = 32))) && (!decide (x43 = 32)))) (fun K => ?_) ?_
 ·rcases Bool.eq_false_or_eq_true ((decide (0 < (a1.length : Int))) && (!decide (x38 = 32))) with h40 | h40
  ·
   refine gT h40 rfl rfl rfl rfl rfl rfl (AO.ops rfl rfl (mv rfl) ?_)
   refine gT h40 rfl rfl rfl rfl rfl rfl (AO.ops rfl rfl (mv rfl) ?_)
   refine gT h40 rfl rfl rfl rfl rfl rfl (AO.ops rfl rfl (opS_len_str Tryd.underlying9 rfl) ?_)
   refine gT h40 rfl rfl rfl rfl rfl rfl (AO.ops rfl rfl (g_sub rfl rfl (g41 h40)) ?_)
   refine gT h40 rfl rfl rfl rfl rfl rfl (AO.ops rfl rfl (g_index_str Tryd.underlying9 rfl rfl (g42 h40) e44) ?_)
   refine gT h40 rfl rfl rfl rfl rfl rfl (AO.ops rfl rfl (g_ne8 (a := x43) (b := 32) rfl rfl) ?_)
   refine sS rfl rfl rfl (opS_pick_t (av := .v _) rfl h40 rfl) ?_
   exact K _ 6 _ (B_congr (and_t h40)) rfl rfl
  ·
   refine gF h40 rfl rfl rfl rfl rfl ?_
   refine gF h40 rfl rfl rfl rfl rfl ?_
   refine gF h40 rfl rfl rfl rfl rfl ?_
   refine gF h40 rfl rfl rfl rfl rfl ?_
   refine gF h40 rfl rfl rfl rfl rfl ?_
   refine gF h40 rfl rfl rfl rfl rfl ?_
   refine sS rfl rfl rfl (opS_pick_f (av := .v _) rfl h40 rfl) ?_
   exact K _ 6 _ (B_congr (and_f h40)) rfl rfl
 refine sS rfl rfl rfl (asg rfl) ?_
 refine AR.nil ?_
 show AW _ _ _ _ _ _
 refine AW.ret ?_
 obtain rfl := Option.some.inj H
 exact And.intro rfl (Exists.intro _ (Exists.intro _ ⟨ResV.oneW rfl (.refl _), Sub.at [] rfl, rfl, rfl⟩))
set_option maxRecDepth 100000 in
set_option maxHeartbeats 1000000 in
theorem w_ref14_part (F : Nat) (a1 : List UInt8) (r2 : Int) (H : ref14_part F a1 = some r2) : ACalls Tryd.prog 36 [S a1] [] (Ret (i64 r2) []) := by
 unfold ref14_part at H
 refine ACalls.of_body Tryd.func36 rfl rfl ?_
 show AW _ _ 24 _ _ _
 refine AW.seq ?_
 refine AW.region ?_
 show AR _ _ _ _ _ [0] _
 refine sS rfl rfl rfl (asg rfl) ?_
 refine AR.nil ?_
 show AW _ _ _ _ _ _
 refine AW.seq ?_
 refine AW.seq ?_
 refine AW.region ?_
 show AR _ _ _ _ _ [0, 1, 2] _
 refine sS rfl rfl rfl (mv rfl) ?_
 refine sS rfl rfl rfl (opS_len_str Tryd.underlying9 rfl) ?_
 refine sS rfl rfl rfl (opS_le rfl rfl) ?_
 refine AR.nil ?_
 show AW _ _ _ _ _ _
 refine AW.cond rfl (fun c3 => ?_) (fun c3 => ?_)
 ·replace H := cnd_t c3 H
  refine AW.seq ?_
  refine AW.region ?_
  show AR _ _ _ _ _ [0, 1, 2] _
  refine sS rfl rfl rfl (mv rfl) ?_
  refine sS rfl rfl rfl (opS_len_str Tryd.underlying9 rfl) ?_
  refine sS rfl rfl rfl (asg rfl) ?_
  refine AR.nil ?_
  show AW _ _ _ _ _ _
  refine AW.ret ?_
  obtain rfl := Option.some.inj H
  exact And.intro rfl (Exists.intro _ (Exists.intro _ ⟨ResV.oneW rfl (.refl _), Sub.at [] rfl, rfl, rfl⟩))
 ·replace H := cnd_f c3 H
  refine AW.skip ?_
  show AW _ _ _ _ _ _
  refine AW.cut (X := Unit) (fun _ => ⟨[], [], []⟩) (fun _ => ref14_part_j1 = some r2) ?_ ?_
  ·
   refine AW.seq ?_
   refine AW.region ?_
   show AR _ _ _ _ _ [0] _
   refine sS rfl rfl rfl (asg rfl) ?_
   refine AR.nil ?_
   show AW _ _ _ _ _ _
   refine AW.block ?_
   refine AW.loop (X := Nat × Int) (fun (n6, y4) => ⟨[(0, S a1), (3, i64 y4)], [], []⟩) (fun (n6, y4) => ref14_part_L1 a1 n6 y4 = some r2) (fun (n6, y4) => n6) (F, 45) H (WK.at [] (.cons (.refl _) (.cons (.refl _) (.nil _))) rfl) ?_
   rintro ⟨n6, y4⟩ H
   obtain ⟨n6, rfl, H⟩ := loop_s H
   replace H : ref14_part_B1 a1 (ref14_part_L1 a1 n6) y4 = some r2 := H
   unfold ref14_part_B1 at H
   show AW _ _ _ _ _ _
   refine AW.seq ?_
   refine AW.seq ?_
   refine AW.region ?_
   show AR _ _ _ _ _ [0, 1] _
   refine sS rfl rfl rfl (mv rfl) ?_
   refine sS rfl rfl rfl (opS_ge rfl rfl) ?_
   refine AR.nil ?_
   show AW _ _ _ _ _ _
   refine AW.cond rfl (fun c7 => ?_) (fun c7 => ?_)
   ·replace H := cnd_t c7 H
    refine AW.skip ?_
    show AW _ _ _ _ _ _
    refine AW.seq ?_
    refine AW.block ?_
    refine AW.seq ?_
    obtain ⟨g8, H⟩ := grd_s H
    obtain ⟨x9, e10, H⟩ := lt_s H
    obtain ⟨g12, H⟩ := grdc_s H
    obtain ⟨x13, e14, H⟩ := lt_s H
    refine AW.region ?_
    show AR _ _ _ _ _ [0, 1, 2, 3, 4, 5, 6, 7, 8, 9] _
    refine sS rfl rfl rfl (mv rfl) ?_
    refine sS rfl rfl rfl (mv rfl) ?_
    refine sS rfl rfl rfl (g_index_str Tryd.underlying9 rfl rfl g8 e10) ?_
    refine sS rfl rfl rfl (opS_lt rfl rfl) ?_
    refine sS rfl rfl rfl (mv rfl) ?_
    refine AR.meet (l := []) 22 (B ((decide ((x9.toNat : Int) < 128)) || (decide (191 < (x13.toNat : Int))))) (fun K => ?_) ?_
    ·rcases Bool.eq_false_or_eq_true (decide ((x9.toNat : Int) < 128)) with h11 | h11
     ·
      refine gF h11 rfl rfl rfl rfl rfl ?_
      refine gF h11 rfl rfl rfl rfl rfl ?_
      refine gF h11 rfl rfl rfl rfl rfl ?_
      refine gF h11 rfl rfl rfl rfl rfl ?_
      refine sS rfl rfl rfl (opS_pick_t (av := .v _) rfl h11 rfl) ?_
      exact K _ 4 _ (B_congr (or_t h11)) rfl rfl
     ·
      refine gT h11 rfl rfl rfl rfl rfl rfl (AO.ops rfl rfl (mv rfl) ?_)
      refine gT h11 rfl rfl rfl rfl rfl rfl (AO.ops rfl rfl (mv rfl) ?_)
      refine gT h11 rfl rfl rfl rfl rfl rfl (AO.ops rfl rfl (g_index_str Tryd.underlying9 rfl rfl (g12 (nf h11)) e14) ?_)
      refine gT h11 rfl rfl rfl rfl rfl rfl (AO.ops rfl rfl (opS_gt rfl rfl) ?_)
      refine sS rfl rfl rfl (opS_pick_f (av := .v _) rfl h11 rfl) ?_
      exact K _ 4 _ (B_congr (or_f h11)) rfl rfl
    refine AR.nil ?_
    show AW _ _ _ _ _ _
    refine AW.cond rfl (fun c15 => ?_) (fun c15 => ?_)
    ·replace H := cnd_t c15 H
     refine AW.seq ?_
     refine AW.region ?_
     show AR _ _ _ _ _ [0, 1] _
     refine sS rfl rfl rfl (mv rfl) ?_
     refine sS rfl rfl rfl (asg rfl) ?_
     refine AR.nil ?_
     show AW _ _ _ _ _ _
     refine AW.ret ?_
     obtain rfl := Option.some.inj H
     exact And.intro rfl (Exists.intro _ (Exists.intro _ ⟨ResV.oneW rfl (.refl _), Sub.at [] rfl, rfl, rfl⟩))
    ·replace H := cnd_f c15 H
     refine AW.skip ?_
     show AW _ _ _ _ _ _
     obtain ⟨g16, H⟩ := grd_s H
     refine AW.region ?_
     show AR _ _ _ _ _ [0, 1, 2] _
     refine sS rfl rfl rfl (mv rfl) ?_
     refine sS rfl rfl rfl (g_sub rfl rfl g16) ?_
     refine sS rfl rfl rfl (asg rfl) ?_
     refine AR.nil ?_
     exact Exists.intro (n6, y4 - 1) ⟨H, Nat.lt_succ_self _, WK.at [] (.cons (.refl _) (.cons (.refl _) (.nil _))) rfl⟩
   ·replace H := cnd_f c7 H
    refine AW.exit ?_
    exact Exists.intro () ⟨H, WK.at [] (.nil _) rfl⟩
  rintro _ H
  replace H : ref14_part_j1 = some r2 := H
  unfold ref14_part_j1 at H
  show AW _ _ _ _ _ _
  refine AW.seq ?_
  refine AW.region ?_
  show AR _ _ _ _ _ [0] _
  refine sS rfl rfl rfl (asg rfl) ?_
  refine AR.nil ?_
  show AW _ _ _ _ _ _
  refine AW.ret ?_
  obtain rfl := Option.some.inj H
  exact And.intro rfl (Exists.intro _ (Exists.intro _ ⟨ResV.oneW rfl (.refl _), Sub.at [] rfl, rfl, rfl⟩))
set_option maxRecDepth 100000 in
set_option maxHeartbeats 1000000 in
theorem w_ref14_Words (F : Nat) (a1 : List UInt8) (r2 : List (List UInt8)) (H : ref14_Words F a1 = some r2) : ACalls Tryd.prog 16 [S a1] [] (Ret (slE Enc.str r2 none) []) := by
 unfold ref14_Words at H
 refine ACalls.of_body Tryd.func16 rfl rfl ?_
 show AW _ _ 30 _ _ _
 refine AW.seq ?_
 refine AW.region ?_
 show AR _ _ _ _ _ [0] _
 refine sS rfl rfl rfl (asg rfl) ?_
 refine AR.nil ?_
 show AW _ _ _ _ _ _
 refine AW.seq ?_
 obtain ⟨x3, e4, H⟩ := bnd_s H
 refine AW.region ?_
 show AR _ _ _ _ _ [0, 1, 2] _
 refine sS rfl rfl rfl (mv rfl) ?_
 refine AR.run rfl rfl (AO.callp rfl en17_headr rfl (w_ref14_Plain F a1 x3 e4) ?_)
 refine sS rfl rfl rfl (asg rfl) ?_
 refine AR.nil ?_
 show AW _ _ _ _ _ _
 refine AW.seq ?_
 refine AW.seq ?_
 refine AW.region ?_
 show AR _ _ _ _ _ [0] _
 refine sS rfl rfl rfl (mv rfl) ?_
 refine AR.nil ?_
 show AW _ _ _ _ _ _
 refine AW.cond rfl (fun c5 => ?_) (fun c5 => ?_)
 ·replace H := cnd_t c5 H
  refine AW.seq ?_
  obtain ⟨x6, e7, H⟩ := bnd_s H
  refine AW.region ?_
  show AR _ _ _ _ _ [0, 1, 2] _
  refine sS rfl rfl rfl (mv rfl) ?_
  refine AR.run rfl rfl (AO.callp rfl en35_headr rfl (w_ref05_Split F a1 32 x6 e7) ?_)
  refine sS rfl rfl rfl (opS_assign (av := slE _ _ _) rfl) ?_
  refine AR.nil ?_
  show AW _ _ _ _ _ _
  refine AW.ret ?_
  obtain rfl := Option.some.inj H
  exact And.intro rfl (Exists.intro _ (Exists.intro _ ⟨ResV.oneW rfl (.refl _), Sub.at [] rfl, rfl, rfl⟩))
 ·replace H := cnd_f c5 H
  refine AW.skip ?_
  show AW _ _ _ _ _ _
  refine AW.seq ?_
  refine AW.region ?_
  show AR _ _ _ _ _ [0] _
  refine sS rfl rfl rfl (asg rfl) ?_
  refine AR.nil ?_
  show AW _ _ _ _ _ _
  refine AW.nil_grows 4 1 9 rfl fun t8 => ?_
  show AW _ _ _ _ _ ⟨(4, slE Enc.str [] (some t8)) :: _, _, _⟩
  refine AW.cut (X := (List (List UInt8)) × Nat) (fun (y37, t38) => ⟨[(4, slE Enc.str y37 (some t38))], [], [.tok t38 9]⟩) (fun (y37, t38) => ref14_Words_j1 y37 = some r2) ?_ ?_
  ·
   refine AW.block ?_
   refine AW.loop (X := Nat × (List UInt8) × (List (List UInt8)) × Nat) (fun (n13, y9, y10, t11) => ⟨[(0, S y9), (4, slE Enc.str y10 (some t11))], [], [.tok t11 9]⟩) (fun (n13, y9, y10, t11) => ref14_Words_L1 F n13 (y9, y10) = some r2) (fun (n13, y9, y10, t11) => n13) (F, a1, [], t8) H (WK.at [0] (.cons (.refl _) (.cons (.refl _) (.nil _))) rfl) ?_
   rintro ⟨n13, y9, y10, t11⟩ H
   obtain ⟨n13, rfl, H⟩ := loop_s H
   replace H : ref14_Words_B1 F (ref14_Words_L1 F n13) y9 y10 = some r2 := H
   unfold ref14_Words_B1 at H
   show AW _ _ _ _ _ _
   refine AW.seq ?_
   refine AW.seq ?_
   refine AW.region ?_
   show AR _ _ _ _ _ [0, 1, 2] _
   refine sS rfl rfl rfl (mv rfl) ?_
   refine sS rfl rfl rfl (opS_len_str Tryd.underlying9 rfl) ?_
   refine sS rfl rfl rfl (opS_gt rfl rfl) ?_
   refine AR.nil ?_
   show AW _ _ _ _ _ _
   refine AW.cond rfl (fun c14 => ?_) (fun c14 => ?_)
   ·replace H := cnd_t c14 H
    refine AW.skip ?_
    show AW _ _ _ _ _ _
    refine AW.block ?_
    refine AW.seq ?_
    obtain ⟨x15, e16, H⟩ := bnd_s H
    refine AW.region ?_
    show AR _ _ _ _ _ [0, 1, 2] _
    refine sS rfl rfl rfl (mv rfl) ?_
    refine AR.run rfl rfl (AO.callp rfl en36_headr rfl (w_ref14_part F y9 x15 e16) ?_)
    refine sS rfl rfl rfl (asg rfl) ?_
    refine AR.nil ?_
    show AW _ _ _ _ _ _
    refine AW.seq ?_
    obtain ⟨g17, H⟩ := grd_s H
    obtain ⟨x18, e19, H⟩ := lt_s H
    obtain ⟨g20, H⟩ := grd_s H
    obtain ⟨x22, e23, H⟩ := bnd_s H
    obtain ⟨g24, H⟩ := grd_s H
    obtain ⟨x25, e26, H⟩ := lt_s H
    obtain ⟨g27, H⟩ := grd_s H
    obtain ⟨x28, e29, H⟩ := lt_s H
    obtain ⟨g31, H⟩ := grd_s H
    obtain ⟨x32, e33, H⟩ := lt_s H
    refine AW.region ?_
    show AR _ _ _ _ _ [0, 1, 2, 3, 4, 5, 6, 7, 8, 9, 10] _
    refine sS rfl rfl rfl (opS_move (av := slE _ _ _) rfl) ?_
    refine sS rfl rfl rfl (mv rfl) ?_
    refine sS rfl rfl rfl (mv rfl) ?_
    refine sS rfl rfl rfl (g_to_str Tryd.underlying9 rfl rfl g17 e19) ?_
    refine sX rfl rfl rfl (g_conv_str_bytes (bytes := 1) Tryd.underlying9 Tryd.underlying24 Tryd.underlying5 rfl g20) ?_
    rintro _ _ ⟨t21, rfl, rfl⟩
    refine AR.run rfl rfl (AO.callp rfl en37_headr rfl (w_ref13_Raw F x18 (some t21) x22 e23) ?_)
    refine sS rfl rfl rfl (g_cat rfl rfl g24 e26) ?_
    refine sS rfl rfl rfl (g_cat rfl rfl g27 e29) ?_
    refine sR rfl rfl rfl (opR_buildE (E := Enc.str) (bytes := 16) (xs := [.tmp 23]) (l := ([x28] : List (List UInt8))) Tryd.underlying36 (by kernel_rfl) rfl rfl (by decide) rfl rfl) ?_
    refine sX rfl rfl rfl (g_append (E := Enc.str) (bytes := 16) 1 Tryd.underlying36 Tryd.underlying36 rfl (by kernel_rfl) rfl rfl rfl rfl g31 e33) ?_
    rintro _ _ ⟨t30, rfl, rfl⟩
    refine sS rfl rfl rfl (opS_assign (av := slE _ _ _) rfl) ?_
    refine AR.nil ?_
    show AW _ _ _ _ _ _
    obtain ⟨g34, H⟩ := grd_s H
    obtain ⟨x35, e36, H⟩ := lt_s H
    refine AW.region ?_
    show AR _ _ _ _ _ [0, 1, 2, 3] _
    refine sS rfl rfl rfl (mv rfl) ?_
    refine sS rfl rfl rfl (mv rfl) ?_
    refine sS rfl rfl rfl (g_from_str Tryd.underlying9 rfl rfl g34 e36) ?_
    refine sS rfl rfl rfl (asg rfl) ?_
    refine AR.nil ?_
    exact Exists.intro (n13, x35, x32, t30) ⟨H, Nat.lt_succ_self _, WK.at [1] (.cons (.refl _) (.cons (.refl _) (.nil _))) rfl⟩
   ·replace H := cnd_f c14 H
    refine AW.exit ?_
    exact Exists.intro (y10, t11) ⟨H, WK.at [0] (.cons (.refl _) (.nil _)) rfl⟩
  rintro ⟨y37, t38⟩ H
  replace H : ref14_Words_j1 y37 = some r2 := H
  unfold ref14_Words_j1 at H
  show AW _ _ _ _ _ _
  refine AW.seq ?_
  refine AW.region ?_
  show AR _ _ _ _ _ [0, 1] _
  refine sS rfl rfl rfl (opS_move (av := slE _ _ _) rfl) ?_
  refine sS rfl rfl rfl (opS_assign (av := slE _ _ _) rfl) ?_
  refine AR.nil ?_
  show AW _ _ _ _ _ _
  refine AW.ret ?_
  obtain rfl := Option.some.inj H
  exact And.intro rfl (Exists.intro _ (Exists.intro _ ⟨ResV.oneW rfl (.tok _ _ _), Sub.at [] rfl, rfl, rfl⟩))
set_option maxRecDepth 100000 in
set_option maxHeartbeats 1000000 in
theorem w_ref14_Line (F : Nat) (a1 : List UInt8) (a2 : List UInt8) (r3 : List UInt8) (r4 : Int) (H : ref14_Line F a1 a2 = some (r3, r4)) : ACalls Tryd.prog 13 [.agg [S a1, S a2]] [] (Ret (.tup [slE Enc.byte r3 none, i64 r4]) []) := by
 unfold ref14_Line at H
 refine ACalls.of_body Tryd.func13 rfl rfl ?_
 show AW _ _ 65 _ _ _
 refine AW.seq ?_
 refine AW.region ?_
 show AR _ _ _ _ _ [0, 1, 2] _
 refine sR rfl rfl rfl (opR_boxCp rfl (.inr ⟨_, rfl⟩)) ?_
 refine sS rfl rfl rfl (asg rfl) ?_
 refine sS rfl rfl rfl (asg rfl) ?_
 refine AR.nil ?_
 show AW _ _ _ _ _ _
 refine AW.seq ?_
 obtain ⟨x5, e6, H⟩ := bnd_s H
 refine AW.region ?_
 show AR _ _ _ _ _ [0, 1, 2, 3] _
 refine sS rfl rfl rfl (opS_fieldAddr_cp (n := 0) (by kernel_rfl) rfl (Nat.le_of_ble_eq_true rfl)) ?_
 refine sS rfl rfl rfl (opS_load_cp Tryd.underlying9 rfl rfl) ?_
 refine AR.run rfl rfl (AO.callp rfl en33_headr rfl (w_ref14_Name F a1 x5 e6) ?_)
 refine sS rfl rfl rfl (asg rfl) ?_
 refine AR.nil ?_
 show AW _ _ _ _ _ _
 refine AW.seq ?_
 refine AW.seq ?_
 refine AW.region ?_
 show AR _ _ _ _ _ [0, 1, 2, 3, 4, 5, 6, 7] _
 refine sS rfl rfl rfl (mv rfl) ?_
 refine sS rfl rfl rfl (opS_not rfl) ?_
 refine sS rfl rfl rfl (mv rfl) ?_
 refine AR.meet (l := []) 19 (B ((!x5) || (decide (4000 < (a2.length : Int))))) (fun K => ?_) ?_
 ·rcases Bool.eq_false_or_eq_true (!x5) with h7 | h7
  ·
   refine gF h7 rfl rfl rfl rfl rfl ?_
   refine gF h7 rfl rfl rfl rfl rfl ?_
   refine gF h7 rfl rfl rfl rfl rfl ?_
   refine gF h7 rfl rfl rfl rfl rfl ?_
   refine sS rfl rfl rfl (opS_pick_t (av := .v _) rfl h7 rfl) ?_
   exact K _ 4 _ (B_congr (or_t h7)) rfl rfl
  ·
   refine gT h7 rfl rfl rfl rfl rfl rfl (AO.ops rfl rfl (opS_fieldAddr_cp (n := 1) (by kernel_rfl) rfl (Nat.le_of_ble_eq_true rfl)) ?_)
   refine gT h7 rfl rfl rfl rfl rfl rfl (AO.ops rfl rfl (opS_load_cp Tryd.underlying9 rfl rfl) ?_)
   refine gT h7 rfl rfl rfl rfl rfl rfl (AO.ops rfl rfl (opS_len_str Tryd.underlying9 rfl) ?_)
   refine gT h7 rfl rfl rfl rfl rfl rfl (AO.ops rfl rfl (opS_gt rfl rfl) ?_)
   refine sS rfl rfl rfl (opS_pick_f (av := .v _) rfl h7 rfl) ?_
   exact K _ 4 _ (B_congr (or_f h7)) rfl rfl
 refine AR.nil ?_
 show AW _ _ _ _ _ _
 refine AW.cond rfl (fun c8 => ?_) (fun c8 => ?_)
 ·replace H := cnd_t c8 H
  refine AW.seq ?_
  refine AW.region ?_
  show AR _ _ _ _ _ [0, 1] _
  refine sS rfl rfl rfl (asg rfl) ?_
  refine sS rfl rfl rfl (asg rfl) ?_
  refine AR.nil ?_
  show AW _ _ _ _ _ _
  refine AW.ret ?_
  obtain ⟨rfl, rfl⟩ := res2 H
  exact And.intro rfl (Exists.intro _ (Exists.intro _ ⟨ResV.twoW rfl (.nil _) (.refl _), Sub.at [] rfl, rfl, rfl⟩))
 ·replace H := cnd_f c8 H
  refine AW.skip ?_
  show AW _ _ _ _ _ _
  refine AW.seq ?_
  obtain ⟨g9, H⟩ := grd_s H
  obtain ⟨x10, e11, H⟩ := lt_s H
  obtain ⟨g12, H⟩ := grd_s H
  refine AW.region ?_
  show AR _ _ _ _ _ [0, 1, 2, 3, 4] _
  refine sS rfl rfl rfl (opS_fieldAddr_cp (n := 0) (by kernel_rfl) rfl (Nat.le_of_ble_eq_true rfl)) ?_
  refine sS rfl rfl rfl (opS_load_cp Tryd.underlying9 rfl rfl) ?_
  refine sS rfl rfl rfl (g_cat rfl rfl g9 e11) ?_
  refine sX rfl rfl rfl (g_conv_str_bytes (bytes := 1) Tryd.underlying9 Tryd.underlying24 Tryd.underlying5 rfl g12) ?_
  rintro _ _ ⟨t13, rfl, rfl⟩
  refine sS rfl rfl rfl (opS_assign (av := slE _ _ _) rfl) ?_
  refine AR.nil ?_
  show AW _ _ _ _ _ _
  refine AW.seq ?_
  refine AW.region ?_
  show AR _ _ _ _ _ [0, 1, 2] _
  refine sS rfl rfl rfl (opS_move (av := slE _ _ _) rfl) ?_
  refine sS rfl rfl rfl (opS_len_sl Tryd.underlying24 rfl) ?_
  refine sS rfl rfl rfl (asg rfl) ?_
  refine AR.nil ?_
  show AW _ _ _ _ _ _
  refine AW.seq ?_
  obtain ⟨x14, e15, H⟩ := bnd_s H
  refine AW.region ?_
  show AR _ _ _ _ _ [0, 1, 2, 3] _
  refine sS rfl rfl rfl (opS_fieldAddr_cp (n := 1) (by kernel_rfl) rfl (Nat.le_of_ble_eq_true rfl)) ?_
  refine sS rfl rfl rfl (opS_load_cp Tryd.underlying9 rfl rfl) ?_
  refine AR.run rfl rfl (AO.callp rfl en16_headr rfl (w_ref14_Words F a2 x14 e15) ?_)
  refine sS rfl rfl rfl (opS_assign (av := slE _ _ _) rfl) ?_
  refine AR.nil ?_
  show AW _ _ _ _ _ _
  refine AW.cut (X := (List UInt8) × Nat) (fun (y53, t54) => ⟨[(5, slE Enc.byte y53 (some t54))], [], [.tok t54 5]⟩) (fun (y53, t54) => ref14_Line_j1 y53 = some (r3, r4)) ?_ ?_
  ·
   refine AW.seq ?_
   refine AW.region ?_
   show AR _ _ _ _ _ [0] _
   refine sS rfl rfl rfl (asg rfl) ?_
   refine AR.nil ?_
   show AW _ _ _ _ _ _
   refine AW.block ?_
   refine AW.loop (X := Nat × (List UInt8) × Nat × Int × Int) (fun (n21, y16, t17, y18, y19) => ⟨[(5, slE Enc.byte y16 (some t17)), (6, i64 y18), (7, slE Enc.str x14 none), (8, i64 y19)], [], [.tok t17 5]⟩) (fun (n21, y16, t17, y18, y19) => ref14_Line_L1 x14 n21 (y16, y18, y19) = some (r3, r4)) (fun (n21, y16, t17, y18, y19) => n21) (F, x10, t13, (x10.length : Int), 0) H (WK.at [0] (.cons (.refl _) (.cons (.refl _) (.cons (.refl _) (.cons (.refl _) (.nil _))))) rfl) ?_
   rintro ⟨n21, y16, t17, y18, y19⟩ H
   obtain ⟨n21, rfl, H⟩ := loop_s H
   replace H : ref14_Line_B1 x14 (ref14_Line_L1 x14 n21) y16 y18 y19 = some (r3, r4) := H
   unfold ref14_Line_B1 at H
   show AW _ _ _ _ _ _
   refine AW.seq ?_
   refine AW.seq ?_
   refine AW.region ?_
   show AR _ _ _ _ _ [0, 1, 2, 3] _
   refine sS rfl rfl rfl (mv rfl) ?_
   refine sS rfl rfl rfl (opS_move (av := slE _ _ _) rfl) ?_
   refine sS rfl rfl rfl (opS_len_sl Tryd.underlying36 rfl) ?_
   refine sS rfl rfl rfl (opS_lt rfl rfl) ?_
   refine AR.nil ?_
   show AW _ _ _ _ _ _
   refine AW.cond rfl (fun c22 => ?_) (fun c22 => ?_)
   ·replace H := cnd_t c22 H
    refine AW.skip ?_
    show AW _ _ _ _ _ _
    refine AW.seq ?_
    refine AW.block ?_
    refine AW.cut (X := (List UInt8) × Nat × Int) (fun (y33, t34, y35) => ⟨[(5, slE Enc.byte y33 (some t34)), (6, i64 y35), (7, slE Enc.str x14 none), (8, i64 y19)], [], [.tok t34 5]⟩) (fun (y33, t34, y35) => ref14_Line_j2 x14 y19 (ref14_Line_L1 x14 n21) y33 y35 = some (r3, r4)) ?_ ?_
    ·
     refine AW.seq ?_
     obtain ⟨g23, H⟩ := grd_s H
     obtain ⟨g24, H⟩ := grd_s H
     obtain ⟨x25, e26, H⟩ := lt_s H
     obtain ⟨g27, H⟩ := grd_s H
     refine AW.region ?_
     show AR _ _ _ _ _ [0, 1, 2, 3, 4, 5, 6, 7, 8] _
     refine sS rfl rfl rfl (mv rfl) ?_
     refine sS rfl rfl rfl (g_add rfl rfl g23) ?_
     refine sS rfl rfl rfl (opS_move (av := slE _ _ _) rfl) ?_
     refine sS rfl rfl rfl (mv rfl) ?_
     refine sS rfl rfl rfl (g_indexAddr (E := Enc.str) Tryd.underlying36 (by kernel_rfl) rfl rfl g24 e26) ?_
     refine sS rfl rfl rfl (opS_load_cp Tryd.underlying9 rfl rfl) ?_
     refine sS rfl rfl rfl (opS_len_str Tryd.underlying9 rfl) ?_
     refine sS rfl rfl rfl (g_add rfl rfl g27) ?_
     refine sS rfl rfl rfl (opS_gt rfl rfl) ?_
     refine AR.nil ?_
     show AW _ _ _ _ _ _
     refine AW.cond rfl (fun c28 => ?_) (fun c28 => ?_)
     ·replace H := cnd_t c28 H
      refine AW.seq ?_
      obtain ⟨g30, H⟩ := grd_s H
      obtain ⟨x31, e32, H⟩ := lt_s H
      refine AW.region ?_
      show AR _ _ _ _ _ [0, 1, 2, 3] _
      refine sS rfl rfl rfl (opS_move (av := slE _ _ _) rfl) ?_
      refine sR rfl rfl rfl (opR_buildE (E := Enc.byte) (bytes := 1) (xs := [.const _, .const _]) (l := ([13, 10] : List UInt8)) Tryd.underlying24 (by kernel_rfl) rfl rfl (by decide) rfl rfl) ?_
      refine sX rfl rfl rfl (g_append (E := Enc.byte) (bytes := 1) 0 Tryd.underlying24 Tryd.underlying24 rfl (by kernel_rfl) rfl rfl rfl rfl g30 e32) ?_
      rintro _ _ ⟨t29, rfl, rfl⟩
      refine sS rfl rfl rfl (opS_assign (av := slE _ _ _) rfl) ?_
      refine AR.nil ?_
      show AW _ _ _ _ _ _
      refine AW.region ?_
      show AR _ _ _ _ _ [0] _
      refine sS rfl rfl rfl (asg rfl) ?_
      refine AR.nil ?_
      exact Exists.intro (x31, t29, 0) ⟨H, WK.at [0] (.cons (.refl _) (.cons (.refl _) (.cons (.refl _) (.cons (.refl _) (.nil _))))) rfl⟩
     ·replace H := cnd_f c28 H
      refine AW.skip ?_
      exact Exists.intro (y16, t17, y18) ⟨H, WK.at [0] (.cons (.refl _) (.cons (.refl _) (.cons (.refl _) (.cons (.refl _) (.nil _))))) rfl⟩
    rintro ⟨y33, t34, y35⟩ H
    replace H : ref14_Line_j2 x14 y19 (ref14_Line_L1 x14 n21) y33 y35 = some (r3, r4) := H
    unfold ref14_Line_j2 at H
    show AW _ _ _ _ _ _
    refine AW.seq ?_
    obtain ⟨g37, H⟩ := grd_s H
    obtain ⟨x38, e39, H⟩ := lt_s H
    obtain ⟨g40, H⟩ := grd_s H
    obtain ⟨x41, e42, H⟩ := lt_s H
    obtain ⟨g44, H⟩ := grd_s H
    obtain ⟨x45, e46, H⟩ := lt_s H
    refine AW.region ?_
    show AR _ _ _ _ _ [0, 1, 2, 3, 4, 5, 6, 7] _
    refine sS rfl rfl rfl (opS_move (av := slE _ _ _) rfl) ?_
    refine sS rfl rfl rfl (opS_move (av := slE _ _ _) rfl) ?_
    refine sS rfl rfl rfl (mv rfl) ?_
    refine sS rfl rfl rfl (g_indexAddr (E := Enc.str) Tryd.underlying36 (by kernel_rfl) rfl rfl g37 e39) ?_
    refine sS rfl rfl rfl (opS_load_cp Tryd.underlying9 rfl rfl) ?_
    refine sS rfl rfl rfl (g_cat rfl rfl g40 e42) ?_
    refine sX rfl rfl rfl (g_append_str (bytes := 1) 0 Tryd.underlying24 Tryd.underlying9 rfl (by kernel_rfl) rfl rfl rfl rfl g44 e46) ?_
    rintro _ _ ⟨t43, rfl, rfl⟩
    refine sS rfl rfl rfl (opS_assign (av := slE _ _ _) rfl) ?_
    refine AR.nil ?_
    show AW _ _ _ _ _ _
    obtain ⟨g47, H⟩ := grd_s H
    obtain ⟨g48, H⟩ := grd_s H
    obtain ⟨x49, e50, H⟩ := lt_s H
    obtain ⟨g51, H⟩ := grd_s H
    refine AW.region ?_
    show AR _ _ _ _ _ [0, 1, 2, 3, 4, 5, 6, 7, 8] _
    refine sS rfl rfl rfl (mv rfl) ?_
    refine sS rfl rfl rfl (g_add rfl rfl g47) ?_
    refine sS rfl rfl rfl (opS_move (av := slE _ _ _) rfl) ?_
    refine sS rfl rfl rfl (mv rfl) ?_
    refine sS rfl rfl rfl (g_indexAddr (E := Enc.str) Tryd.underlying36 (by kernel_rfl) rfl rfl g48 e50) ?_
    refine sS rfl rfl rfl (opS_load_cp Tryd.underlying9 rfl rfl) ?_
    refine sS rfl rfl rfl (opS_len_str Tryd.underlying9 rfl) ?_
    refine sS rfl rfl rfl (g_add rfl rfl g51) ?_
    refine sS rfl rfl rfl (asg rfl) ?_
    refine AR.nil ?_
    show AW _ _ _ _ _ _
    obtain ⟨g52, H⟩ := grd_s H
    refine AW.region ?_
    show AR _ _ _ _ _ [0, 1, 2] _
    refine sS rfl rfl rfl (mv rfl) ?_
    refine sS rfl rfl rfl (g_add rfl rfl g52) ?_
    refine sS rfl rfl rfl (asg rfl) ?_
    refine AR.nil ?_
    exact Exists.intro (n21, x45, t43, (y35 + 1) + (x49.length : Int), y19 + 1) ⟨H, Nat.lt_succ_self _, WK.at [0] (.cons (.refl _) (.cons (.refl _) (.cons (.refl _) (.cons (.refl _) (.nil _))))) rfl⟩
   ·replace H := cnd_f c22 H
    refine AW.exit ?_
    exact Exists.intro (y16, t17) ⟨H, WK.at [0] (.cons (.refl _) (.nil _)) rfl⟩
  rintro ⟨y53, t54⟩ H
  replace H : ref14_Line_j1 y53 = some (r3, r4) := H
  unfold ref14_Line_j1 at H
  show AW _ _ _ _ _ _
  refine AW.seq ?_
  obtain ⟨g57, H⟩ := grd_s H
  obtain ⟨x58, e59, H⟩ := lt_s H
  refine AW.region ?_
  show AR _ _ _ _ _ [0, 1, 2, 3, 4] _
  refine sS rfl rfl rfl (opS_move (av := slE _ _ _) rfl) ?_
  refine sR rfl rfl rfl (opR_buildE (E := Enc.byte) (bytes := 1) (xs := [.const _, .const _]) (l := ([13, 10] : List UInt8)) Tryd.underlying24 (by kernel_rfl) rfl rfl (by decide) rfl rfl) ?_
  refine sX rfl rfl rfl (g_append (E := Enc.byte) (bytes := 1) 0 Tryd.underlying24 Tryd.underlying24 rfl (by kernel_rfl) rfl rfl rfl rfl g57 e59) ?_
  rintro _ _ ⟨t56, rfl, rfl⟩
  refine sS rfl rfl rfl (opS_assign (av := slE _ _ _) rfl) ?_
  refine sS rfl rfl rfl (asg rfl) ?_
  refine AR.nil ?_
  show AW _ _ _ _ _ _
  refine AW.ret ?_
  obtain ⟨rfl, rfl⟩ := res2 H
  exact And.intro rfl (Exists.intro _ (Exists.intro _ ⟨ResV.twoW rfl (.tok _ _ _) (.refl _), Sub.at [] rfl, rfl, rfl⟩))
set_option maxRecDepth 100000 in
set_option maxHeartbeats 1000000 in
theorem w_ref14_coded (F : Nat) (a1 : List UInt8) (r2 : List UInt8) (r3 : Bool) (H : ref14_coded F a1 = some (r2, r3)) : ACalls Tryd.prog 69 [S a1] [] (Ret (.tup [S r2, B r3]) []) := by
 unfold ref14_coded at H
 refine ACalls.of_body Tryd.func69 rfl rfl ?_
 show AW _ _ 35 _ _ _
 refine AW.seq ?_
 refine AW.region ?_
 show AR _ _ _ _ _ [0, 1] _
 refine sS rfl rfl rfl (asg rfl) ?_
 refine sS rfl rfl rfl (asg rfl) ?_
 refine AR.nil ?_
 show AW _ _ _ _ _ _
 refine AW.seq ?_
 refine AW.seq ?_
 obtain ⟨g5, H⟩ := grdc_s H
 obtain ⟨x6, e7, H⟩ := lt_s H
 obtain ⟨g9, H⟩ := grdc_s H
 obtain ⟨g10, H⟩ := grdc_s H
 obtain ⟨x11, e12, H⟩ := lt_s H
 refine AW.region ?_
 show AR _ _ _ _ _ [0, 1, 2, 3, 4, 5, 6, 7, 8, 9, 10, 11, 12, 13, 14, 15] _
 refine sS rfl rfl rfl (mv rfl) ?_
 refine sS rfl rfl rfl (opS_len_str Tryd.underlying9 rfl) ?_
 refine sS rfl rfl rfl (opS_lt rfl rfl) ?_
 refine sS rfl rfl rfl (mv rfl) ?_
 refine AR.meet (l := [8, 9, 10, 11, 12, 13, 14, 15]) 13 (B ((decide ((a1.length : Int) < 12)) || (!decide (x6 = ([61, 63, 117, 116, 102, 45, 56, 63, 66, 63] : List UInt8))))) (fun K => ?_) ?_
 ·rcases Bool.eq_false_or_eq_true (decide ((a1.length : Int) < 12)) with h4 | h4
  ·
   refine gF h4 rfl rfl rfl rfl rfl ?_
   refine gF h4 rfl rfl rfl rfl rfl ?_
   refine gF h4 rfl rfl rfl rfl rfl ?_
   refine sS rfl rfl rfl (opS_pick_t (av := .v _) rfl h4 rfl) ?_
   exact K _ 3 _ (B_congr (or_t h4)) rfl rfl
  ·
   refine gT h4 rfl rfl rfl rfl rfl rfl (AO.ops rfl rfl (mv rfl) ?_)
   refine gT h4 rfl rfl rfl rfl rfl rfl (AO.ops rfl rfl (g_to_str Tryd.underlying9 rfl rfl (g5 (nf h4)) e7) ?_)
   refine gT h4 rfl rfl rfl rfl rfl rfl (AO.ops rfl rfl (opS_nes rfl rfl) ?_)
   refine sS rfl rfl rfl (opS_pick_f (av := .v _) rfl h4 rfl) ?_
   exact K _ 3 _ (B_congr (or_f h4)) rfl rfl
 refine sS rfl rfl rfl (mv rfl) ?_
 refine AR.meet (l := []) 21 (B (((decide ((a1.length : Int) < 12)) || (!decide (x6 = ([61, 63, 117, 116, 102, 45, 56, 63, 66, 63] : List UInt8)))) || (!decide (x11 = ([63, 61] : List UInt8))))) (fun K => ?_) ?_
 ·rcases Bool.eq_false_or_eq_true ((decide ((a1.length : Int) < 12)) || (!decide (x6 = ([61, 63, 117, 116, 102, 45, 56, 63, 66, 63] : List UInt8)))) with h8 | h8
  ·
   refine gF h8 rfl rfl rfl rfl rfl ?_
   refine gF h8 rfl rfl rfl rfl rfl ?_
   refine gF h8 rfl rfl rfl rfl rfl ?_
   refine gF h8 rfl rfl rfl rfl rfl ?_
   refine gF h8 rfl rfl rfl rfl rfl ?_
   refine gF h8 rfl rfl rfl rfl rfl ?_
   refine sS rfl rfl rfl (opS_pick_t (av := .v _) rfl h8 rfl) ?_
   exact K _ 6 _ (B_congr (or_t h8)) rfl rfl
  ·
   refine gT h8 rfl rfl rfl rfl rfl rfl (AO.ops rfl rfl (mv rfl) ?_)
   refine gT h8 rfl rfl rfl rfl rfl rfl (AO.ops rfl rfl (mv rfl) ?_)
   refine gT h8 rfl rfl rfl rfl rfl rfl (AO.ops rfl rfl (opS_len_str Tryd.underlying9 rfl) ?_)
   refine gT h8 rfl rfl rfl rfl rfl rfl (AO.ops rfl rfl (g_sub rfl rfl (g9 (nf h8))) ?_)
   refine gT h8 rfl rfl rfl rfl rfl rfl (AO.ops rfl rfl (g_from_str Tryd.underlying9 rfl rfl (g10 (nf h8)) e12) ?_)
   refine gT h8 rfl rfl rfl rfl rfl rfl (AO.ops rfl rfl (opS_nes rfl rfl) ?_)
   refine sS rfl rfl rfl (opS_pick_f (av := .v _) rfl h8 rfl) ?_
   exact K _ 6 _ (B_congr (or_f h8)) rfl rfl
 refine AR.nil ?_
 show AW _ _ _ _ _ _
 refine AW.cond rfl (fun c13 => ?_) (fun c13 => ?_)
 ·replace H := cnd_t c13 H
  refine AW.seq ?_
  refine AW.region ?_
  show AR _ _ _ _ _ [0, 1] _
  refine sS rfl rfl rfl (asg rfl) ?_
  refine sS rfl rfl rfl (asg rfl) ?_
  refine AR.nil ?_
  show AW _ _ _ _ _ _
  refine AW.ret ?_
  obtain ⟨rfl, rfl⟩ := res2 H
  exact And.intro rfl (Exists.intro _ (Exists.intro _ ⟨ResV.twoW rfl (.refl _) (.refl _), Sub.at [] rfl, rfl, rfl⟩))
 ·replace H := cnd_f c13 H
  refine AW.skip ?_
  show AW _ _ _ _ _ _
  refine AW.seq ?_
  obtain ⟨g14, H⟩ := grd_s H
  obtain ⟨g15, H⟩ := grd_s H
  obtain ⟨x16, e17, H⟩ := lt_s H
  obtain ⟨x18, x19, e20, H⟩ := bnd2_s H
  refine AW.region ?_
  show AR _ _ _ _ _ [0, 1, 2, 3, 4, 5, 6, 7, 8, 9, 10] _
  refine sS rfl rfl rfl (mv rfl) ?_
  refine sS rfl rfl rfl (mv rfl) ?_
  refine sS rfl rfl rfl (opS_len_str Tryd.underlying9 rfl) ?_
  refine sS rfl rfl rfl (g_sub rfl rfl g14) ?_
  refine sS rfl rfl rfl (g_slice_str Tryd.underlying9 rfl rfl rfl g15 e17) ?_
  refine AR.run rfl rfl (AO.callp rfl en19_headr rfl (w_ref13_Bytes F x16 x18 x19 e20) ?_)
  refine sS rfl rfl rfl (opS_move (av := .tup _) rfl) ?_
  refine sS rfl rfl rfl (opS_extract (av := slE _ _ _) rfl rfl) ?_
  refine sS rfl rfl rfl (opS_extract (av := .v _) rfl rfl) ?_
  refine sS rfl rfl rfl (opS_assign (av := slE _ _ _) rfl) ?_
  refine sS rfl rfl rfl (asg rfl) ?_
  refine AR.nil ?_
  show AW _ _ _ _ _ _
  refine AW.seq ?_
  refine AW.region ?_
  show AR _ _ _ _ _ [0, 1, 2, 3, 4, 5] _
  refine sS rfl rfl rfl (opS_move (av := slE _ _ _) rfl) ?_
  refine sS rfl rfl rfl (opS_conv_bytes_str Tryd.underlying24 Tryd.underlying5 Tryd.underlying9 rfl) ?_
  refine sS rfl rfl rfl (mv rfl) ?_
  refine sS rfl rfl rfl (opS_eqi rfl rfl) ?_
  refine sS rfl rfl rfl (asg rfl) ?_
  refine sS rfl rfl rfl (asg rfl) ?_
  refine AR.nil ?_
  show AW _ _ _ _ _ _
  refine AW.ret ?_
  obtain ⟨rfl, rfl⟩ := res2 H
  exact And.intro rfl (Exists.intro _ (Exists.intro _ ⟨ResV.twoW rfl (.refl _) (.refl _), Sub.at [] rfl, rfl, rfl⟩))
set_option maxRecDepth 100000 in
set_option maxHeartbeats 1000000 in
theorem w_ref14_value (F : Nat) (a1 : List (List UInt8)) (q2 : Option Nat) (r3 : List UInt8) (H : ref14_value F a1 = some r3) : ACalls Tryd.prog 43 [slE Enc.str a1 q2] [] (Ret (S r3) []) := by
 unfold ref14_value at H
 refine ACalls.of_body Tryd.func43 rfl rfl ?_
 show AW _ _ 43 _ _ _
 refine AW.seq ?_
 refine AW.region ?_
 show AR _ _ _ _ _ [0] _
 refine sS rfl rfl rfl (asg rfl) ?_
 refine AR.nil ?_
 show AW _ _ _ _ _ _
 refine AW.seq ?_
 refine AW.region ?_
 show AR _ _ _ _ _ [0] _
 refine sS rfl rfl rfl (asg rfl) ?_
 refine AR.nil ?_
 show AW _ _ _ _ _ _
 refine AW.seq ?_
 refine AW.region ?_
 show AR _ _ _ _ _ [0] _
 refine sS rfl rfl rfl (asg rfl) ?_
 refine AR.nil ?_
 show AW _ _ _ _ _ _
 refine AW.seq ?_
 refine AW.region ?_
 show AR _ _ _ _ _ [0] _
 refine sS rfl rfl rfl (asg rfl) ?_
 refine AR.nil ?_
 show AW _ _ _ _ _ _
 refine AW.cut (X := (List UInt8) × (List UInt8) × Bool) (fun (y34, y35, y36) => ⟨[(3, S y34), (4, S y35), (5, B y36)], [], []⟩) (fun (y34, y35, y36) => ref14_value_j1 y34 y35 y36 = some r3) ?_ ?_
 ·
  refine AW.seq ?_
  refine AW.region ?_
  show AR _ _ _ _ _ [0] _
  refine sS rfl rfl rfl (asg rfl) ?_
  refine AR.nil ?_
  show AW _ _ _ _ _ _
  refine AW.block ?_
  refine AW.loop (X := Nat × (List UInt8) × (List UInt8) × Bool × Int) (fun (n9, y4, y5, y6, y7) => ⟨[(0, slE Enc.str a1 q2), (3, S y4), (4, S y5), (5, B y6), (6, i64 y7)], [], []⟩) (fun (n9, y4, y5, y6, y7) => ref14_value_L1 F a1 n9 (y4, y5, y6, y7) = some r3) (fun (n9, y4, y5, y6, y7) => n9) (F, ([] : List UInt8), ([] : List UInt8), true, 0) H (WK.at [] (.cons (.refl _) (.cons (.refl _) (.cons (.refl _) (.cons (.refl _) (.cons (.refl _) (.nil _)))))) rfl) ?_
  rintro ⟨n9, y4, y5, y6, y7⟩ H
  obtain ⟨n9, rfl, H⟩ := loop_s H
  replace H : ref14_value_B1 F a1 (ref14_value_L1 F a1 n9) y4 y5 y6 y7 = some r3 := H
  unfold ref14_value_B1 at H
  show AW _ _ _ _ _ _
  refine AW.seq ?_
  refine AW.seq ?_
  refine AW.region ?_
  show AR _ _ _ _ _ [0, 1, 2, 3] _
  refine sS rfl rfl rfl (mv rfl) ?_
  refine sS rfl rfl rfl (opS_move (av := slE _ _ _) rfl) ?_
  refine sS rfl rfl rfl (opS_len_sl Tryd.underlying36 rfl) ?_
  refine sS rfl rfl rfl (opS_lt rfl rfl) ?_
  refine AR.nil ?_
  show AW _ _ _ _ _ _
  refine AW.cond rfl (fun c10 => ?_) (fun c10 => ?_)
  ·replace H := cnd_t c10 H
   refine AW.skip ?_
   show AW _ _ _ _ _ _
   refine AW.seq ?_
   refine AW.block ?_
   refine AW.seq ?_
   obtain ⟨g11, H⟩ := grd_s H
   obtain ⟨x12, e13, H⟩ := lt_s H
   obtain ⟨x14, x15, e16, H⟩ := bnd2_s H
   refine AW.region ?_
   show AR _ _ _ _ _ [0, 1, 2, 3, 4, 5, 6, 7, 8, 9] _
   refine sS rfl rfl rfl (opS_move (av := slE _ _ _) rfl) ?_
   refine sS rfl rfl rfl (mv rfl) ?_
   refine sS rfl rfl rfl (g_indexAddr (E := Enc.str) Tryd.underlying36 (by kernel_rfl) rfl rfl g11 e13) ?_
   refine sS rfl rfl rfl (opS_load_cp Tryd.underlying9 rfl rfl) ?_
   refine AR.run rfl rfl (AO.callp rfl en69_headr rfl (w_ref14_coded F x12 x14 x15 e16) ?_)
   refine sS rfl rfl rfl (opS_move (av := .tup _) rfl) ?_
   refine sS rfl rfl rfl (opS_extract (av := .v _) rfl rfl) ?_
   refine sS rfl rfl rfl (opS_extract (av := .v _) rfl rfl) ?_
   refine sS rfl rfl rfl (asg rfl) ?_
   refine sS rfl rfl rfl (asg rfl) ?_
   refine AR.nil ?_
   show AW _ _ _ _ _ _
   refine AW.seq ?_
   refine AW.region ?_
   show AR _ _ _ _ _ [0, 1, 2, 3, 4] _
   refine sS rfl rfl rfl (mv rfl) ?_
   refine sS rfl rfl rfl (mv rfl) ?_
   refine AR.meet (l := [4]) 26 (B (y6 && x15)) (fun K => ?_) ?_
   ·rcases Bool.eq_false_or_eq_true y6 with h17 | h17
    ·
     refine gT h17 rfl rfl rfl rfl rfl rfl (AO.ops rfl rfl (mv rfl) ?_)
     refine sS rfl rfl rfl (opS_pick_t (av := .v _) rfl h17 rfl) ?_
     exact K _ 1 _ (B_congr (and_t h17)) rfl rfl
    ·
     refine gF h17 rfl rfl rfl rfl rfl ?_
     refine sS rfl rfl rfl (opS_pick_f (av := .v _) rfl h17 rfl) ?_
     exact K _ 1 _ (B_congr (and_f h17)) rfl rfl
   refine sS rfl rfl rfl (asg rfl) ?_
   refine AR.nil ?_
   show AW _ _ _ _ _ _
   refine AW.seq ?_
   obtain ⟨g18, H⟩ := grd_s H
   obtain ⟨x19, e20, H⟩ := lt_s H
   refine AW.region ?_
   show AR _ _ _ _ _ [0, 1, 2, 3] _
   refine sS rfl rfl rfl (mv rfl) ?_
   refine sS rfl rfl rfl (mv rfl) ?_
   refine sS rfl rfl rfl (g_cat rfl rfl g18 e20) ?_
   refine sS rfl rfl rfl (asg rfl) ?_
   refine AR.nil ?_
   show AW _ _ _ _ _ _
   refine AW.cut (X := (List UInt8)) (fun y25 => ⟨[(0, slE Enc.str a1 q2), (3, S y25), (4, S x19), (5, B (y6 && x15)), (6, i64 y7)], [], []⟩) (fun y25 => ref14_value_j2 a1 y6 y7 x15 x19 (ref14_value_L1 F a1 n9) y25 = some r3) ?_ ?_
   ·
    refine AW.seq ?_
    refine AW.region ?_
    show AR _ _ _ _ _ [0, 1] _
    refine sS rfl rfl rfl (mv rfl) ?_
    refine sS rfl rfl rfl (opS_gt rfl rfl) ?_
    refine AR.nil ?_
    show AW _ _ _ _ _ _
    refine AW.cond rfl (fun c21 => ?_) (fun c21 => ?_)
    ·replace H := cnd_t c21 H
     obtain ⟨g22, H⟩ := grd_s H
     obtain ⟨x23, e24, H⟩ := lt_s H
     refine AW.region ?_
     show AR _ _ _ _ _ [0, 1, 2] _
     refine sS rfl rfl rfl (mv rfl) ?_
     refine sS rfl rfl rfl (g_cat rfl rfl g22 e24) ?_
     refine sS rfl rfl rfl (asg rfl) ?_
     refine AR.nil ?_
     exact Exists.intro x23 ⟨H, WK.at [] (.cons (.refl _) (.cons (.refl _) (.cons (.refl _) (.cons (.refl _) (.cons (.refl _) (.nil _)))))) rfl⟩
    ·replace H := cnd_f c21 H
     refine AW.skip ?_
     exact Exists.intro y4 ⟨H, WK.at [] (.cons (.refl _) (.cons (.refl _) (.cons (.refl _) (.cons (.refl _) (.cons (.refl _) (.nil _)))))) rfl⟩
   rintro y25 H
   replace H : ref14_value_j2 a1 y6 y7 x15 x19 (ref14_value_L1 F a1 n9) y25 = some r3 := H
   unfold ref14_value_j2 at H
   show AW _ _ _ _ _ _
   obtain ⟨g27, H⟩ := grd_s H
   obtain ⟨x28, e29, H⟩ := lt_s H
   obtain ⟨g30, H⟩ := grd_s H
   obtain ⟨x31, e32, H⟩ := lt_s H
   refine AW.region ?_
   show AR _ _ _ _ _ [0, 1, 2, 3, 4, 5, 6] _
   refine sS rfl rfl rfl (mv rfl) ?_
   refine sS rfl rfl rfl (opS_move (av := slE _ _ _) rfl) ?_
   refine sS rfl rfl rfl (mv rfl) ?_
   refine sS rfl rfl rfl (g_indexAddr (E := Enc.str) Tryd.underlying36 (by kernel_rfl) rfl rfl g27 e29) ?_
   refine sS rfl rfl rfl (opS_load_cp Tryd.underlying9 rfl rfl) ?_
   refine sS rfl rfl rfl (g_cat rfl rfl g30 e32) ?_
   refine sS rfl rfl rfl (asg rfl) ?_
   refine AR.nil ?_
   show AW _ _ _ _ _ _
   obtain ⟨g33, H⟩ := grd_s H
   refine AW.region ?_
   show AR _ _ _ _ _ [0, 1, 2] _
   refine sS rfl rfl rfl (mv rfl) ?_
   refine sS rfl rfl rfl (g_add rfl rfl g33) ?_
   refine sS rfl rfl rfl (asg rfl) ?_
   refine AR.nil ?_
   exact Exists.intro (n9, x31, x19, y6 && x15, y7 + 1) ⟨H, Nat.lt_succ_self _, WK.at [] (.cons (.refl _) (.cons (.refl _) (.cons (.refl _) (.cons (.refl _) (.cons (.refl _) (.nil _)))))) rfl⟩
  ·replace H := cnd_f c10 H
   refine AW.exit ?_
   exact Exists.intro (y4, y5, y6) ⟨H, WK.at [] (.cons (.refl _) (.cons (.refl _) (.cons (.refl _) (.nil _)))) rfl⟩
 rintro ⟨y34, y35, y36⟩ H
 replace H : ref14_value_j1 y34 y35 y36 = some r3 := H
 unfold ref14_value_j1 at H
 show AW _ _ _ _ _ _
 refine AW.seq ?_
 refine AW.seq ?_
 refine AW.region ?_
 show AR _ _ _ _ _ [0] _
 refine sS rfl rfl rfl (mv rfl) ?_
 refine AR.nil ?_
 show AW _ _ _ _ _ _
 refine AW.cond rfl (fun c38 => ?_) (fun c38 => ?_)
 ·replace H := cnd_t c38 H
  refine AW.seq ?_
  refine AW.region ?_
  show AR _ _ _ _ _ [0, 1] _
  refine sS rfl rfl rfl (mv rfl) ?_
  refine sS rfl rfl rfl (asg rfl) ?_
  refine AR.nil ?_
  show AW _ _ _ _ _ _
  refine AW.ret ?_
  obtain rfl := Option.some.inj H
  exact And.intro rfl (Exists.intro _ (Exists.intro _ ⟨ResV.oneW rfl (.refl _), Sub.at [] rfl, rfl, rfl⟩))
 ·replace H := cnd_f c38 H
  refine AW.skip ?_
  show AW _ _ _ _ _ _
  refine AW.seq ?_
  refine AW.region ?_
  show AR _ _ _ _ _ [0, 1] _
  refine sS rfl rfl rfl (mv rfl) ?_
  refine sS rfl rfl rfl (asg rfl) ?_
  refine AR.nil ?_
  show AW _ _ _ _ _ _
  refine AW.ret ?_
  obtain rfl := Option.some.inj H
  exact And.intro rfl (Exists.intro _ (Exists.intro _ ⟨ResV.oneW rfl (.refl _), Sub.at [] rfl, rfl, rfl⟩))
set_option maxRecDepth 100000 in
set_option maxHeartbeats 1000000 in
theorem w_ref14_Read (F : Nat) (a1 : List UInt8) (q2 : Option Nat) (r3 : List UInt8) (r4 : List UInt8) (r5 : Int) (H : ref14_Read F a1 = some (r3, r4, r5)) : ACalls Tryd.prog 20 [slE Enc.byte a1 q2] [] (Ret (.tup [.agg [S r3, S r4], i64 r5]) []) := by
 unfold ref14_Read at H
 refine ACalls.of_body Tryd.func20 rfl rfl ?_
 show AW _ _ 93 _ _ _
 refine AW.seq ?_
 refine AW.region ?_
 show AR _ _ _ _ _ [0, 1] _
 refine sX rfl rfl rfl (opX_alloc (zs := [.string ⟨#[]⟩, .string ⟨#[]⟩]) (by kernel_rfl)) ?_
 rintro _ _ ⟨o6, rfl, rfl⟩
 refine sS rfl rfl rfl (asg rfl) ?_
 refine AR.nil ?_
 show AW _ _ _ _ _ _
 refine AW.seq ?_
 refine AW.region ?_
 show AR _ _ _ _ _ [0] _
 refine sS rfl rfl rfl (asg rfl) ?_
 refine AR.nil ?_
 show AW _ _ _ _ _ _
 refine AW.cut (X := Int) (fun y16 => ⟨[(0, slE Enc.byte a1 q2), (2, .pt o6 0), (4, i64 y16)], [], [.obj o6 [S ([] : List UInt8), S ([] : List UInt8)]]⟩) (fun y16 => ref14_Read_j5 F a1 y16 = some (r3, r4, r5)) ?_ ?_
 ·
  refine AW.block ?_
  refine AW.loop (X := Nat × Int) (fun (n9, y7) => ⟨[(0, slE Enc.byte a1 q2), (2, .pt o6 0), (4, i64 y7)], [], [.obj o6 [S ([] : List UInt8), S ([] : List UInt8)]]⟩) (fun (n9, y7) => ref14_Read_L2 F a1 n9 y7 = some (r3, r4, r5)) (fun (n9, y7) => n9) (F, 0) H (WK.at [0] (.cons (.refl _) (.cons (.refl _) (.cons (.refl _) (.nil _)))) rfl) ?_
  rintro ⟨n9, y7⟩ H
  obtain ⟨n9, rfl, H⟩ := loop_s H
  replace H : ref14_Read_B2 F a1 (ref14_Read_L2 F a1 n9) y7 = some (r3, r4, r5) := H
  unfold ref14_Read_B2 at H
  show AW _ _ _ _ _ _
  refine AW.seq ?_
  refine AW.seq ?_
  obtain ⟨g11, H⟩ := grdc_s H
  obtain ⟨x12, e13, H⟩ := lt_s H
  refine AW.region ?_
  show AR _ _ _ _ _ [0, 1, 2, 3, 4, 5, 6, 7, 8, 9, 10] _
  refine sS rfl rfl rfl (mv rfl) ?_
  refine sS rfl rfl rfl (opS_move (av := slE _ _ _) rfl) ?_
  refine sS rfl rfl rfl (opS_len_sl Tryd.underlying24 rfl) ?_
  refine sS rfl rfl rfl (opS_lt rfl rfl) ?_
  refine sS rfl rfl rfl (mv rfl) ?_
  refine AR.meet (l := []) 21 (B ((decide (y7 < (a1.length : Int))) && (!decide (x12 = 58)))) (fun K => ?_) ?_
  ·rcases Bool.eq_false_or_eq_true (decide (y7 < (a1.length : Int))) with h10 | h10
   ·
    refine gT h10 rfl rfl rfl rfl rfl rfl (AO.ops rfl rfl (opS_move (av := slE _ _ _) rfl) ?_)
    refine gT h10 rfl rfl rfl rfl rfl rfl (AO.ops rfl rfl (mv rfl) ?_)
    refine gT h10 rfl rfl rfl rfl rfl rfl (AO.ops rfl rfl (g_indexAddr (E := Enc.byte) Tryd.underlying24 (by kernel_rfl) rfl rfl (g11 h10) e13) ?_)
    refine gT h10 rfl rfl rfl rfl rfl rfl (AO.ops rfl rfl (opS_load_cp Tryd.underlying5 rfl rfl) ?_)
    refine gT h10 rfl rfl rfl rfl rfl rfl (AO.ops rfl rfl (g_ne8 (a := x12) (b := 58) rfl rfl) ?_)
    refine sS rfl rfl rfl (opS_pick_t (av := .v _) rfl h10 rfl) ?_
    exact K _ 5 _ (B_congr (and_t h10)) rfl rfl
   ·
    refine gF h10 rfl rfl rfl rfl rfl ?_
    refine gF h10 rfl rfl rfl rfl rfl ?_
    refine gF h10 rfl rfl rfl rfl rfl ?_
    refine gF h10 rfl rfl rfl rfl rfl ?_
    refine gF h10 rfl rfl rfl rfl rfl ?_
    refine sS rfl rfl rfl (opS_pick_f (av := .v _) rfl h10 rfl) ?_
    exact K _ 5 _ (B_congr (and_f h10)) rfl rfl
  refine AR.nil ?_
  show AW _ _ _ _ _ _
  refine AW.cond rfl (fun c14 => ?_) (fun c14 => ?_)
  ·replace H := cnd_t c14 H
   refine AW.skip ?_
   show AW _ _ _ _ _ _
   refine AW.block ?_
   obtain ⟨g15, H⟩ := grd_s H
   refine AW.region ?_
   show AR _ _ _ _ _ [0, 1, 2] _
   refine sS rfl rfl rfl (mv rfl) ?_
   refine sS rfl rfl rfl (g_add rfl rfl g15) ?_
   refine sS rfl rfl rfl (asg rfl) ?_
   refine AR.nil ?_
   exact Exists.intro (n9, y7 + 1) ⟨H, Nat.lt_succ_self _, WK.at [0] (.cons (.refl _) (.cons (.refl _) (.cons (.refl _) (.nil _)))) rfl⟩
  ·replace H := cnd_f c14 H
   refine AW.exit ?_
   exact Exists.intro y7 ⟨H, WK.at [0] (.cons (.refl _) (.cons (.refl _) (.cons (.refl _) (.nil _)))) rfl⟩
 rintro y16 H
 replace H : ref14_Read_j5 F a1 y16 = some (r3, r4, r5) := H
 unfold ref14_Read_j5 at H
 show AW _ _ _ _ _ _
 refine AW.seq ?_
 refine AW.seq ?_
 refine AW.region ?_
 show AR _ _ _ _ _ [0, 1, 2, 3] _
 refine sS rfl rfl rfl (mv rfl) ?_
 refine sS rfl rfl rfl (opS_move (av := slE _ _ _) rfl) ?_
 refine sS rfl rfl rfl (opS_len_sl Tryd.underlying24 rfl) ?_
 refine sS rfl rfl rfl (opS_ge rfl rfl) ?_
 refine AR.nil ?_
 show AW _ _ _ _ _ _
 refine AW.cond rfl (fun c18 => ?_) (fun c18 => ?_)
 ·replace H := cnd_t c18 H
  refine AW.seq ?_
  refine AW.region ?_
  show AR _ _ _ _ _ [0, 1, 2] _
  refine sS rfl rfl rfl (g_build (zs := [.string ⟨#[]⟩, .string ⟨#[]⟩]) (ps := [(0, 1), (1, 1)]) (cs := [S ([] : List UInt8), S ([] : List UInt8)]) (by kernel_rfl) rfl rfl) ?_
  refine s0 rfl rfl (opR_store_agg (i := 0) (vs := [S ([] : List UInt8), S ([] : List UInt8)]) (by kernel_rfl) rfl rfl (by simp [isCell, slE]) rfl (Nat.le_of_ble_eq_true rfl)) ?_
  refine sS rfl rfl rfl (asg rfl) ?_
  refine AR.nil ?_
  show AW _ _ _ _ _ _
  refine AW.ret ?_
  obtain ⟨rfl, rfl, rfl⟩ := res3 H
  exact And.intro rfl (Exists.intro _ (Exists.intro _ ⟨ResT.resV (ResT.place2 rfl (CellV.agg (off := 0) (cs := [S ([] : List UInt8), S ([] : List UInt8)]) (n := 2) 0 Tryd.underlying23 rfl (by kernel_rfl) rfl rfl (Nat.le_of_ble_eq_true rfl)) ((show PlaceV _ _ _ (.tmp _) _ from (.refl _)))), Sub.at [] rfl, rfl, rfl⟩))
 ·replace H := cnd_f c18 H
  refine AW.skip ?_
  show AW _ _ _ _ _ _
  refine AW.seq ?_
  refine AW.region ?_
  show AR _ _ _ _ _ [0] _
  refine sS rfl rfl rfl (asg rfl) ?_
  refine AR.nil ?_
  show AW _ _ _ _ _ _
  refine AW.nil_grows 5 1 9 rfl fun t19 => ?_
  show AW _ _ _ _ _ ⟨(5, slE Enc.str [] (some t19)) :: _, _, _⟩
  refine AW.seq ?_
  refine AW.region ?_
  show AR _ _ _ _ _ [0] _
  refine sS rfl rfl rfl (asg rfl) ?_
  refine AR.nil ?_
  show AW _ _ _ _ _ _
  refine AW.cut (X := (List (List UInt8)) × Nat) (fun (y60, t61) => ⟨[(0, slE Enc.byte a1 q2), (2, .pt o6 0), (4, i64 y16), (5, slE Enc.str y60 (some t61))], [], [.obj o6 [S ([] : List UInt8), S ([] : List UInt8)], .tok t61 9]⟩) (fun (y60, t61) => ref14_Read_j2 F a1 y16 y60 = some (r3, r4, r5)) ?_ ?_
  ·
   refine AW.seq ?_
   obtain ⟨g20, H⟩ := grd_s H
   refine AW.region ?_
   show AR _ _ _ _ _ [0, 1, 2] _
   refine sS rfl rfl rfl (mv rfl) ?_
   refine sS rfl rfl rfl (g_add rfl rfl g20) ?_
   refine sS rfl rfl rfl (asg rfl) ?_
   refine AR.nil ?_
   show AW _ _ _ _ _ _
   refine AW.block ?_
   refine AW.loop (X := Nat × (List (List UInt8)) × Nat × (List UInt8) × Int) (fun (n26, y21, t22, y23, y24) => ⟨[(0, slE Enc.byte a1 q2), (2, .pt o6 0), (4, i64 y16), (5, slE Enc.str y21 (some t22)), (6, S y23), (7, i64 y24)], [], [.obj o6 [S ([] : List UInt8), S ([] : List UInt8)], .tok t22 9]⟩) (fun (n26, y21, t22, y23, y24) => ref14_Read_L1 F a1 y16 n26 (y21, y23, y24) = some (r3, r4, r5)) (fun (n26, y21, t22, y23, y24) => n26) (F, [], t19, ([] : List UInt8), y16 + 1) H (WK.at [1, 0] (.cons (.refl _) (.cons (.refl _) (.cons (.refl _) (.cons (.refl _) (.cons (.refl _) (.cons (.refl _) (.nil _))))))) rfl) ?_
   rintro ⟨n26, y21, t22, y23, y24⟩ H
   obtain ⟨n26, rfl, H⟩ := loop_s H
   replace H : ref14_Read_B1 F a1 y16 (ref14_Read_L1 F a1 y16 n26) y21 y23 y24 = some (r3, r4, r5) := H
   unfold ref14_Read_B1 at H
   show AW _ _ _ _ _ _
   refine AW.seq ?_
   refine AW.seq ?_
   refine AW.region ?_
   show AR _ _ _ _ _ [0, 1, 2, 3] _
   refine sS rfl rfl rfl (mv rfl) ?_
   refine sS rfl rfl rfl (opS_move (av := slE _ _ _) rfl) ?_
   refine sS rfl rfl rfl (opS_len_sl Tryd.underlying24 rfl) ?_
   refine sS rfl rfl rfl (opS_lt rfl rfl) ?_
   refine AR.nil ?_
   show AW _ _ _ _ _ _
   refine AW.cond rfl (fun c27 => ?_) (fun c27 => ?_)
   ·replace H := cnd_t c27 H
    refine AW.skip ?_
    show AW _ _ _ _ _ _
    refine AW.cut (X := (List (List UInt8)) × Nat × (List UInt8)) (fun (y55, t56, y57) => ⟨[(0, slE Enc.byte a1 q2), (2, .pt o6 0), (4, i64 y16), (5, slE Enc.str y55 (some t56)), (6, S y57), (7, i64 y24)], [], [.obj o6 [S ([] : List UInt8), S ([] : List UInt8)], .tok t56 9]⟩) (fun (y55, t56, y57) => ref14_Read_j3 y24 (ref14_Read_L1 F a1 y16 n26) y55 y57 = some (r3, r4, r5)) ?_ ?_
    ·
     refine AW.block ?_
     refine AW.seq ?_
     refine AW.seq ?_
     obtain ⟨g28, H⟩ := grd_s H
     obtain ⟨x29, e30, H⟩ := lt_s H
     obtain ⟨g32, H⟩ := grdc_s H
     obtain ⟨x33, e34, H⟩ := lt_s H
     obtain ⟨g36, H⟩ := grdc_s H
     obtain ⟨x37, e38, H⟩ := lt_s H
     refine AW.region ?_
     show AR _ _ _ _ _ [0, 1, 2, 3, 4, 5, 6, 7, 8, 9, 10, 11, 12, 13, 14, 15, 16, 17, 18] _
     refine sS rfl rfl rfl (opS_move (av := slE _ _ _) rfl) ?_
     refine sS rfl rfl rfl (mv rfl) ?_
     refine sS rfl rfl rfl (g_indexAddr (E := Enc.byte) Tryd.underlying24 (by kernel_rfl) rfl rfl g28 e30) ?_
     refine sS rfl rfl rfl (opS_load_cp Tryd.underlying5 rfl rfl) ?_
     refine sS rfl rfl rfl (g_eq8 (a := x29) (b := 32) rfl rfl) ?_
     refine sS rfl rfl rfl (mv rfl) ?_
     refine AR.meet (l := [12, 13, 14, 15, 16, 17, 18]) 48 (B ((decide (x29 = 32)) || (decide (x33 = 13)))) (fun K => ?_) ?_
     ·rcases Bool.eq_false_or_eq_true (decide (x29 = 32)) with h31 | h31
      ·
       refine gF h31 rfl rfl rfl rfl rfl ?_
       refine gF h31 rfl rfl rfl rfl rfl ?_
       refine gF h31 rfl rfl rfl rfl rfl ?_
       refine gF h31 rfl rfl rfl rfl rfl ?_
       refine gF h31 rfl rfl rfl rfl rfl ?_
       refine sS rfl rfl rfl (opS_pick_t (av := .v _) rfl h31 rfl) ?_
       exact K _ 5 _ (B_congr (or_t h31)) rfl rfl
      ·
       refine gT h31 rfl rfl rfl rfl rfl rfl (AO.ops rfl rfl (opS_move (av := slE _ _ _) rfl) ?_)
       refine gT h31 rfl rfl rfl rfl rfl rfl (AO.ops rfl rfl (mv rfl) ?_)
       refine gT h31 rfl rfl rfl rfl rfl rfl (AO.ops rfl rfl (g_indexAddr (E := Enc.byte) Tryd.underlying24 (by kernel_rfl) rfl rfl (g32 (nf h31)) e34) ?_)
       refine gT h31 rfl rfl rfl rfl rfl rfl (AO.ops rfl rfl (opS_load_cp Tryd.underlying5 rfl rfl) ?_)
       refine gT h31 rfl rfl rfl rfl rfl rfl (AO.ops rfl rfl (g_eq8 (a := x33) (b := 13) rfl rfl) ?_)
       refine sS rfl rfl rfl (opS_pick_f (av := .v _) rfl h31 rfl) ?_
       exact K _ 5 _ (B_congr (or_f h31)) rfl rfl
     refine sS rfl rfl rfl (mv rfl) ?_
     refine AR.meet (l := []) 55 (B (((decide (x29 = 32)) || (decide (x33 = 13))) || (decide (x37 = 10)))) (fun K => ?_) ?_
     ·rcases Bool.eq_false_or_eq_true ((decide (x29 = 32)) || (decide (x33 = 13))) with h35 | h35
      ·
       refine gF h35 rfl rfl rfl rfl rfl ?_
       refine gF h35 rfl rfl rfl rfl rfl ?_
       refine gF h35 rfl rfl rfl rfl rfl ?_
       refine gF h35 rfl rfl rfl rfl rfl ?_
       refine gF h35 rfl rfl rfl rfl rfl ?_
       refine sS rfl rfl rfl (opS_pick_t (av := .v _) rfl h35 rfl) ?_
       exact K _ 5 _ (B_congr (or_t h35)) rfl rfl
      ·
       refine gT h35 rfl rfl rfl rfl rfl rfl (AO.ops rfl rfl (opS_move (av := slE _ _ _) rfl) ?_)
       refine gT h35 rfl rfl rfl rfl rfl rfl (AO.ops rfl rfl (mv rfl) ?_)
       refine gT h35 rfl rfl rfl rfl rfl rfl (AO.ops rfl rfl (g_indexAddr (E := Enc.byte) Tryd.underlying24 (by kernel_rfl) rfl rfl (g36 (nf h35)) e38) ?_)
       refine gT h35 rfl rfl rfl rfl rfl rfl (AO.ops rfl rfl (opS_load_cp Tryd.underlying5 rfl rfl) ?_)
       refine gT h35 rfl rfl rfl rfl rfl rfl (AO.ops rfl rfl (g_eq8 (a := x37) (b := 10) rfl rfl) ?_)
       refine sS rfl rfl rfl (opS_pick_f (av := .v _) rfl h35 rfl) ?_
       exact K _ 5 _ (B_congr (or_f h35)) rfl rfl
     refine AR.nil ?_
     show AW _ _ _ _ _ _
     refine AW.cond rfl (fun c39 => ?_) (fun c39 => ?_)
     ·replace H := cnd_t c39 H
      refine AW.cut (X := (List (List UInt8)) × Nat) (fun (y45, t46) => ⟨[(0, slE Enc.byte a1 q2), (2, .pt o6 0), (4, i64 y16), (5, slE Enc.str y45 (some t46)), (7, i64 y24)], [], [.obj o6 [S ([] : List UInt8), S ([] : List UInt8)], .tok t46 9]⟩) (fun (y45, t46) => ref14_Read_j4 y24 (ref14_Read_L1 F a1 y16 n26) y45 = some (r3, r4, r5)) ?_ ?_
      ·
       refine AW.seq ?_
       refine AW.region ?_
       show AR _ _ _ _ _ [0, 1] _
       refine sS rfl rfl rfl (mv rfl) ?_
       refine sS rfl rfl rfl (opS_nes rfl rfl) ?_
       refine AR.nil ?_
       show AW _ _ _ _ _ _
       refine AW.cond rfl (fun c40 => ?_) (fun c40 => ?_)
       ·replace H := cnd_t c40 H
        obtain ⟨g42, H⟩ := grd_s H
        obtain ⟨x43, e44, H⟩ := lt_s H
        refine AW.region ?_
        show AR _ _ _ _ _ [0, 1, 2, 3, 4] _
        refine sS rfl rfl rfl (opS_move (av := slE _ _ _) rfl) ?_
        refine sS rfl rfl rfl (mv rfl) ?_
        refine sR rfl rfl rfl (opR_buildE (E := Enc.str) (bytes := 16) (xs := [.tmp 59]) (l := ([y23] : List (List UInt8))) Tryd.underlying36 (by kernel_rfl) rfl rfl (by decide) rfl rfl) ?_
        refine sX rfl rfl rfl (g_append (E := Enc.str) (bytes := 16) 1 Tryd.underlying36 Tryd.underlying36 rfl (by kernel_rfl) rfl rfl rfl rfl g42 e44) ?_
        rintro _ _ ⟨t41, rfl, rfl⟩
        refine sS rfl rfl rfl (opS_assign (av := slE _ _ _) rfl) ?_
        refine AR.nil ?_
        exact Exists.intro (x43, t41) ⟨H, WK.at [0, 0] (.cons (.refl _) (.cons (.refl _) (.cons (.refl _) (.cons (.refl _) (.cons (.refl _) (.nil _)))))) rfl⟩
       ·replace H := cnd_f c40 H
        refine AW.skip ?_
        exact Exists.intro (y21, t22) ⟨H, WK.at [0, 0] (.cons (.refl _) (.cons (.refl _) (.cons (.refl _) (.cons (.refl _) (.cons (.refl _) (.nil _)))))) rfl⟩
      rintro ⟨y45, t46⟩ H
      replace H : ref14_Read_j4 y24 (ref14_Read_L1 F a1 y16 n26) y45 = some (r3, r4, r5) := H
      unfold ref14_Read_j4 at H
      show AW _ _ _ _ _ _
      refine AW.seq ?_
      refine AW.region ?_
      show AR _ _ _ _ _ [0] _
      refine sS rfl rfl rfl (asg rfl) ?_
      refine AR.nil ?_
      show AW _ _ _ _ _ _
      refine AW.exit ?_
      exact Exists.intro (y45, t46, ([] : List UInt8)) ⟨H, WK.at [0, 0] (.cons (.refl _) (.cons (.refl _) (.cons (.refl _) (.cons (.refl _) (.cons (.refl _) (.cons (.refl _) (.nil _))))))) rfl⟩
     ·replace H := cnd_f c39 H
      refine AW.skip ?_
      show AW _ _ _ _ _ _
      obtain ⟨g48, H⟩ := grd_s H
      obtain ⟨g49, H⟩ := grd_s H
      obtain ⟨x50, e51, H⟩ := lt_s H
      obtain ⟨g52, H⟩ := grd_s H
      obtain ⟨x53, e54, H⟩ := lt_s H
      refine AW.region ?_
      show AR _ _ _ _ _ [0, 1, 2, 3, 4, 5, 6, 7, 8] _
      refine sS rfl rfl rfl (mv rfl) ?_
      refine sS rfl rfl rfl (opS_move (av := slE _ _ _) rfl) ?_
      refine sS rfl rfl rfl (mv rfl) ?_
      refine sS rfl rfl rfl (mv rfl) ?_
      refine sS rfl rfl rfl (g_add rfl rfl g48) ?_
      refine sS rfl rfl rfl (g_slice_sl (E := Enc.byte) Tryd.underlying24 (by kernel_rfl) rfl rfl rfl g49 e51) ?_
      refine sS rfl rfl rfl (opS_conv_bytes_str Tryd.underlying24 Tryd.underlying5 Tryd.underlying9 rfl) ?_
      refine sS rfl rfl rfl (g_cat rfl rfl g52 e54) ?_
      refine sS rfl rfl rfl (asg rfl) ?_
      refine AR.nil ?_
      exact Exists.intro (y21, t22, x53) ⟨H, WK.at [0, 0] (.cons (.refl _) (.cons (.refl _) (.cons (.refl _) (.cons (.refl _) (.cons (.refl _) (.cons (.refl _) (.nil _))))))) rfl⟩
    rintro ⟨y55, t56, y57⟩ H
    replace H : ref14_Read_j3 y24 (ref14_Read_L1 F a1 y16 n26) y55 y57 = some (r3, r4, r5) := H
    unfold ref14_Read_j3 at H
    show AW _ _ _ _ _ _
    obtain ⟨g59, H⟩ := grd_s H
    refine AW.region ?_
    show AR _ _ _ _ _ [0, 1, 2] _
    refine sS rfl rfl rfl (mv rfl) ?_
    refine sS rfl rfl rfl (g_add rfl rfl g59) ?_
    refine sS rfl rfl rfl (asg rfl) ?_
    refine AR.nil ?_
    exact Exists.intro (n26, y55, t56, y57, y24 + 1) ⟨H, Nat.lt_succ_self _, WK.at [0, 0] (.cons (.refl _) (.cons (.refl _) (.cons (.refl _) (.cons (.refl _) (.cons (.refl _) (.cons (.refl _) (.nil _))))))) rfl⟩
   ·replace H := cnd_f c27 H
    refine AW.exit ?_
    exact Exists.intro (y21, t22) ⟨H, WK.at [0, 0] (.cons (.refl _) (.cons (.refl _) (.cons (.refl _) (.cons (.refl _) (.nil _))))) rfl⟩
  rintro ⟨y60, t61⟩ H
  replace H : ref14_Read_j2 F a1 y16 y60 = some (r3, r4, r5) := H
  unfold ref14_Read_j2 at H
  show AW _ _ _ _ _ _
  refine AW.cut (X := Nat × (List UInt8) × (List UInt8)) (fun (o70, y71, y72) => ⟨[(0, slE Enc.byte a1 q2), (2, .pt o6 0), (8, .pt o70 0)], [], [.obj o70 [S y71, S y72], .obj o6 [S ([] : List UInt8), S ([] : List UInt8)]]⟩) (fun (o70, y71, y72) => ref14_Read_j1 F a1 y71 y72 = some (r3, r4, r5)) ?_ ?_
  ·
   obtain ⟨g63, H⟩ := grd_s H
   obtain ⟨x64, e65, H⟩ := lt_s H
   obtain ⟨x66, e67, H⟩ := bnd_s H
   refine AW.region_draw (by kernel_rfl) ?_
   show AI _ _ _ _ _ 9 (Array.replicate 9 false) _
   refine AI.take (i := 0) rfl rfl (by kernel_rfl) (by kernel_rfl) (by kernel_rfl) (fun _ _ h => h) (opS_move (av := slE _ _ _) rfl) ?_
   show AI _ _ _ _ _ _ #[true, false, false, false, false, false, false, false, false] _
   refine AI.take (i := 1) rfl rfl (by kernel_rfl) (by kernel_rfl) (by kernel_rfl) (fun _ _ h => h) (mv rfl) ?_
   show AI _ _ _ _ _ _ #[true, true, false, false, false, false, false, false, false] _
   refine AI.take (i := 2) rfl rfl (by kernel_rfl) (by kernel_rfl) (by kernel_rfl) (fun _ _ h => h) (g_to_sl (E := Enc.byte) Tryd.underlying24 (by kernel_rfl) rfl rfl g63 e65) ?_
   show AI _ _ _ _ _ _ #[true, true, true, false, false, false, false, false, false] _
   refine AI.take (i := 3) rfl rfl (by kernel_rfl) (by kernel_rfl) (by kernel_rfl) (fun _ _ h => h) (opS_conv_bytes_str Tryd.underlying24 Tryd.underlying5 Tryd.underlying9 rfl) ?_
   show AI _ _ _ _ _ _ #[true, true, true, true, false, false, false, false, false] _
   refine AI.take (i := 4) rfl rfl (by kernel_rfl) (by kernel_rfl) (by kernel_rfl) (fun _ _ h => h) (opS_move (av := slE _ _ _) rfl) ?_
   show AI _ _ _ _ _ _ #[true, true, true, true, true, false, false, false, false] _
   refine AI.two (i := 5) (j := 7) (by kernel_rfl) rfl rfl rfl rfl ?_ ?_
   ·
    refine AIO.callp rfl en43_headr rfl (w_ref14_value F y60 (some t61) x66 e67) ?_
    show AI _ _ _ _ _ _ #[true, true, true, true, true, true, false, false, false] _
    refine AI.take (i := 6) rfl rfl (by kernel_rfl) (by kernel_rfl) (by kernel_rfl) (fun _ _ h => h) (g_build (zs := [.string ⟨#[]⟩, .string ⟨#[]⟩]) (ps := [(0, 1), (1, 1)]) (cs := [S x64, S x66]) (by kernel_rfl) rfl rfl) ?_
    show AI _ _ _ _ _ _ #[true, true, true, true, true, true, true, false, false] _
    refine AI.one (i := 7) (by kernel_rfl) rfl rfl ?_
    refine AIO.opx rfl (opX_alloc (zs := [.string ⟨#[]⟩, .string ⟨#[]⟩]) (by kernel_rfl)) ?_
    rintro _ _ ⟨o68, rfl, rfl⟩
    show AI _ _ _ _ _ _ #[true, true, true, true, true, true, true, true, false] _
    refine AI.one (i := 8) (by kernel_rfl) rfl rfl ?_
    refine AIO.op0 (opR_store_agg (i := 0) (vs := [S x64, S x66]) (by kernel_rfl) rfl rfl (by simp [isCell, slE]) rfl (Nat.le_of_ble_eq_true rfl)) ?_
    show AI _ _ _ _ _ _ #[true, true, true, true, true, true, true, true, true] _
    refine AI.done rfl ?_
    exact Exists.intro (o68, x64, x66) ⟨H, WK.at [0, 0] (.cons (.refl _) (.cons (.refl _) (.cons (.refl _) (.nil _)))) rfl⟩
   ·
    refine AIO.opx rfl (opX_alloc (zs := [.string ⟨#[]⟩, .string ⟨#[]⟩]) (by kernel_rfl)) ?_
    rintro _ _ ⟨o69, rfl, rfl⟩
    show AI _ _ _ _ _ _ #[true, true, true, true, true, false, false, true, false] _
    refine AI.one (i := 5) (by kernel_rfl) rfl rfl ?_
    refine AIO.callp rfl en43_headr rfl (w_ref14_value F y60 (some t61) x66 e67) ?_
    show AI _ _ _ _ _ _ #[true, true, true, true, true, true, false, true, false] _
    refine AI.take (i := 6) rfl rfl (by kernel_rfl) (by kernel_rfl) (by kernel_rfl) (fun _ _ h => h) (g_build (zs := [.string ⟨#[]⟩, .string ⟨#[]⟩]) (ps := [(0, 1), (1, 1)]) (cs := [S x64, S x66]) (by kernel_rfl) rfl rfl) ?_
    show AI _ _ _ _ _ _ #[true, true, true, true, true, true, true, true, false] _
    refine AI.one (i := 8) (by kernel_rfl) rfl rfl ?_
    refine AIO.op0 (opR_store_agg (i := 0) (vs := [S x64, S x66]) (by kernel_rfl) rfl rfl (by simp [isCell, slE]) rfl (Nat.le_of_ble_eq_true rfl)) ?_
    show AI _ _ _ _ _ _ #[true, true, true, true, true, true, true, true, true] _
    refine AI.done rfl ?_
    exact Exists.intro (o69, x64, x66) ⟨H, WK.at [0, 0] (.cons (.refl _) (.cons (.refl _) (.cons (.refl _) (.nil _)))) rfl⟩
  rintro ⟨o70, y71, y72⟩ H
  replace H : ref14_Read_j1 F a1 y71 y72 = some (r3, r4, r5) := H
  unfold ref14_Read_j1 at H
  show AW _ _ _ _ _ _
  refine AW.seq ?_
  obtain ⟨x74, x75, e76, H⟩ := bnd2_s H
  refine AW.region ?_
  show AR _ _ _ _ _ [0, 1, 2, 3, 4, 5, 6] _
  refine sR rfl rfl rfl (opR_load_agg (i := 0) (n := 2) Tryd.underlying23 rfl (by kernel_rfl) rfl rfl (Nat.le_of_ble_eq_true rfl)) ?_
  refine AR.run rfl rfl (AO.callp rfl en13_headr rfl (w_ref14_Line F y71 y72 x74 x75 e76) ?_)
  refine sS rfl rfl rfl (opS_move (av := .tup _) rfl) ?_
  refine sS rfl rfl rfl (opS_extract (av := slE _ _ _) rfl rfl) ?_
  refine sS rfl rfl rfl (opS_extract (av := .v _) rfl rfl) ?_
  refine sS rfl rfl rfl (opS_assign (av := slE _ _ _) rfl) ?_
  refine sS rfl rfl rfl (asg rfl) ?_
  refine AR.nil ?_
  show AW _ _ _ _ _ _
  refine AW.seq ?_
  refine AW.seq ?_
  refine AW.region ?_
  show AR _ _ _ _ _ [0, 1, 2, 3, 4, 5, 6, 7, 8] _
  refine sS rfl rfl rfl (mv rfl) ?_
  refine sS rfl rfl rfl (opS_nei rfl rfl) ?_
  refine sS rfl rfl rfl (mv rfl) ?_
  refine AR.meet (l := []) 90 (B ((!decide (x75 = 0)) || (!decide (x74 = a1)))) (fun K => ?_) ?_
  ·rcases Bool.eq_false_or_eq_true (!decide (x75 = 0)) with h77 | h77
   ·
    refine gF h77 rfl rfl rfl rfl rfl ?_
    refine gF h77 rfl rfl rfl rfl rfl ?_
    refine gF h77 rfl rfl rfl rfl rfl ?_
    refine gF h77 rfl rfl rfl rfl rfl ?_
    refine gF h77 rfl rfl rfl rfl rfl ?_
    refine sS rfl rfl rfl (opS_pick_t (av := .v _) rfl h77 rfl) ?_
    exact K _ 5 _ (B_congr (or_t h77)) rfl rfl
   ·
    refine gT h77 rfl rfl rfl rfl rfl rfl (AO.ops rfl rfl (opS_move (av := slE _ _ _) rfl) ?_)
    refine gT h77 rfl rfl rfl rfl rfl rfl (AO.ops rfl rfl (opS_conv_bytes_str Tryd.underlying24 Tryd.underlying5 Tryd.underlying9 rfl) ?_)
    refine gT h77 rfl rfl rfl rfl rfl rfl (AO.ops rfl rfl (opS_move (av := slE _ _ _) rfl) ?_)
    refine gT h77 rfl rfl rfl rfl rfl rfl (AO.ops rfl rfl (opS_conv_bytes_str Tryd.underlying24 Tryd.underlying5 Tryd.underlying9 rfl) ?_)
    refine gT h77 rfl rfl rfl rfl rfl rfl (AO.ops rfl rfl (opS_nes rfl rfl) ?_)
    refine sS rfl rfl rfl (opS_pick_f (av := .v _) rfl h77 rfl) ?_
    exact K _ 5 _ (B_congr (or_f h77)) rfl rfl
  refine AR.nil ?_
  show AW _ _ _ _ _ _
  refine AW.cond rfl (fun c78 => ?_) (fun c78 => ?_)
  ·replace H := cnd_t c78 H
   refine AW.seq ?_
   refine AW.region ?_
   show AR _ _ _ _ _ [0, 1, 2] _
   refine sS rfl rfl rfl (g_build (zs := [.string ⟨#[]⟩, .string ⟨#[]⟩]) (ps := [(0, 1), (1, 1)]) (cs := [S ([] : List UInt8), S ([] : List UInt8)]) (by kernel_rfl) rfl rfl) ?_
   refine s0 rfl rfl (opR_store_agg (i := 1) (vs := [S ([] : List UInt8), S ([] : List UInt8)]) (by kernel_rfl) rfl rfl (by simp [isCell, slE]) rfl (Nat.le_of_ble_eq_true rfl)) ?_
   refine sS rfl rfl rfl (asg rfl) ?_
   refine AR.nil ?_
   show AW _ _ _ _ _ _
   refine AW.ret ?_
   obtain ⟨rfl, rfl, rfl⟩ := res3 H
   exact And.intro rfl (Exists.intro _ (Exists.intro _ ⟨ResT.resV (ResT.place2 rfl (CellV.agg (off := 0) (cs := [S ([] : List UInt8), S ([] : List UInt8)]) (n := 2) 1 Tryd.underlying23 rfl (by kernel_rfl) rfl rfl (Nat.le_of_ble_eq_true rfl)) ((show PlaceV _ _ _ (.tmp _) _ from (.refl _)))), Sub.at [] rfl, rfl, rfl⟩))
  ·replace H := cnd_f c78 H
   refine AW.skip ?_
   show AW _ _ _ _ _ _
   refine AW.seq ?_
   refine AW.region ?_
   show AR _ _ _ _ _ [0, 1, 2] _
   refine sR rfl rfl rfl (opR_load_agg (i := 0) (n := 2) Tryd.underlying23 rfl (by kernel_rfl) rfl rfl (Nat.le_of_ble_eq_true rfl)) ?_
   refine s0 rfl rfl (opR_store_agg (i := 1) (vs := [S y71, S y72]) (by kernel_rfl) rfl rfl (by simp [isCell, slE]) rfl (Nat.le_of_ble_eq_true rfl)) ?_
   refine sS rfl rfl rfl (asg rfl) ?_
   refine AR.nil ?_
   show AW _ _ _ _ _ _
   refine AW.ret ?_
   obtain ⟨rfl, rfl, rfl⟩ := res3 H
   exact And.intro rfl (Exists.intro _ (Exists.intro _ ⟨ResT.resV (ResT.place2 rfl (CellV.agg (off := 0) (cs := [S y71, S y72]) (n := 2) 1 Tryd.underlying23 rfl (by kernel_rfl) rfl rfl (Nat.le_of_ble_eq_true rfl)) ((show PlaceV _ _ _ (.tmp _) _ from (.refl _)))), Sub.at [] rfl, rfl, rfl⟩))
set_option maxRecDepth 100000 in
set_option maxHeartbeats 1000000 in
theorem w_ref14_end (F : Nat) (a1 : List UInt8) (q2 : Option Nat) (r3 : Int) (H : ref14_end F a1 = some r3) : ACalls Tryd.prog 47 [slE Enc.byte a1 q2] [] (Ret (i64 r3) []) := by
 unfold ref14_end at H
 refine ACalls.of_body Tryd.func47 rfl rfl ?_
 show AW _ _ 38 _ _ _
 refine AW.seq ?_
 refine AW.region ?_
 show AR _ _ _ _ _ [0] _
 refine sS rfl rfl rfl (asg rfl) ?_
 refine AR.nil ?_
 show AW _ _ _ _ _ _
 refine AW.cut (X := Unit) (fun _ => ⟨[], [], []⟩) (fun _ => ref14_end_j1 = some r3) ?_ ?_
 ·
  refine AW.seq ?_
  refine AW.region ?_
  show AR _ _ _ _ _ [0] _
  refine sS rfl rfl rfl (asg rfl) ?_
  refine AR.nil ?_
  show AW _ _ _ _ _ _
  refine AW.block ?_
  refine AW.loop (X := Nat × Int) (fun (n6, y4) => ⟨[(0, slE Enc.byte a1 q2), (3, i64 y4)], [], []⟩) (fun (n6, y4) => ref14_end_L1 a1 n6 y4 = some r3) (fun (n6, y4) => n6) (F, 2) H (WK.at [] (.cons (.refl _) (.cons (.refl _) (.nil _))) rfl) ?_
  rintro ⟨n6, y4⟩ H
  obtain ⟨n6, rfl, H⟩ := loop_s H
  replace H : ref14_end_B1 a1 (ref14_end_L1 a1 n6) y4 = some r3 := H
  unfold ref14_end_B1 at H
  show AW _ _ _ _ _ _
  refine AW.seq ?_
  refine AW.seq ?_
  refine AW.region ?_
  show AR _ _ _ _ _ [0, 1, 2, 3] _
  refine sS rfl rfl rfl (mv rfl) ?_
  refine sS rfl rfl rfl (opS_move (av := slE _ _ _) rfl) ?_
  refine sS rfl rfl rfl (opS_len_sl Tryd.underlying24 rfl) ?_
  refine sS rfl rfl rfl (opS_le rfl rfl) ?_
  refine AR.nil ?_
  show AW _ _ _ _ _ _
  refine AW.cond rfl (fun c7 => ?_) (fun c7 => ?_)
  ·replace H := cnd_t c7 H
   refine AW.skip ?_
   show AW _ _ _ _ _ _
   refine AW.seq ?_
   refine AW.block ?_
   refine AW.seq ?_
   obtain ⟨g8, H⟩ := grd_s H
   obtain ⟨g9, H⟩ := grd_s H
   obtain ⟨x10, e11, H⟩ := lt_s H
   obtain ⟨g13, H⟩ := grdc_s H
   obtain ⟨g14, H⟩ := grdc_s H
   obtain ⟨x15, e16, H⟩ := lt_s H
   obtain ⟨g19, H⟩ := grdc_s H
   obtain ⟨x20, e21, H⟩ := lt_s H
   refine AW.region ?_
   show AR _ _ _ _ _ [0, 1, 2, 3, 4, 5, 6, 7, 8, 9, 10, 11, 12, 13, 14, 15, 16, 17, 18, 19, 20, 21, 22, 23, 24, 25, 26] _
   refine sS rfl rfl rfl (opS_move (av := slE _ _ _) rfl) ?_
   refine sS rfl rfl rfl (mv rfl) ?_
   refine sS rfl rfl rfl (g_sub rfl rfl g8) ?_
   refine sS rfl rfl rfl (g_indexAddr (E := Enc.byte) Tryd.underlying24 (by kernel_rfl) rfl rfl g9 e11) ?_
   refine sS rfl rfl rfl (opS_load_cp Tryd.underlying5 rfl rfl) ?_
   refine sS rfl rfl rfl (g_eq8 (a := x10) (b := 13) rfl rfl) ?_
   refine sS rfl rfl rfl (mv rfl) ?_
   refine AR.meet (l := [14, 15, 16, 17, 18, 19, 20, 21, 22, 23, 24, 25, 26]) 23 (B ((decide (x10 = 13)) && (decide (x15 = 10)))) (fun K => ?_) ?_
   ·rcases Bool.eq_false_or_eq_true (decide (x10 = 13)) with h12 | h12
    ·
     refine gT h12 rfl rfl rfl rfl rfl rfl (AO.ops rfl rfl (opS_move (av := slE _ _ _) rfl) ?_)
     refine gT h12 rfl rfl rfl rfl rfl rfl (AO.ops rfl rfl (mv rfl) ?_)
     refine gT h12 rfl rfl rfl rfl rfl rfl (AO.ops rfl rfl (g_sub rfl rfl (g13 h12)) ?_)
     refine gT h12 rfl rfl rfl rfl rfl rfl (AO.ops rfl rfl (g_indexAddr (E := Enc.byte) Tryd.underlying24 (by kernel_rfl) rfl rfl (g14 h12) e16) ?_)
     refine gT h12 rfl rfl rfl rfl rfl rfl (AO.ops rfl rfl (opS_load_cp Tryd.underlying5 rfl rfl) ?_)
     refine gT h12 rfl rfl rfl rfl rfl rfl (AO.ops rfl rfl (g_eq8 (a := x15) (b := 10) rfl rfl) ?_)
     refine sS rfl rfl rfl (opS_pick_t (av := .v _) rfl h12 rfl) ?_
     exact K _ 6 _ (B_congr (and_t h12)) rfl rfl
    ·
     refine gF h12 rfl rfl rfl rfl rfl ?_
     refine gF h12 rfl rfl rfl rfl rfl ?_
     refine gF h12 rfl rfl rfl rfl rfl ?_
     refine gF h12 rfl rfl rfl rfl rfl ?_
     refine gF h12 rfl rfl rfl rfl rfl ?_
     refine gF h12 rfl rfl rfl rfl rfl ?_
     refine sS rfl rfl rfl (opS_pick_f (av := .v _) rfl h12 rfl) ?_
     exact K _ 6 _ (B_congr (and_f h12)) rfl rfl
   refine sS rfl rfl rfl (mv rfl) ?_
   refine AR.meet (l := []) 36 (B (((decide (x10 = 13)) && (decide (x15 = 10))) && ((decide (y4 = (a1.length : Int))) || (!decide (x20 = 32))))) (fun K => ?_) ?_
   ·rcases Bool.eq_false_or_eq_true ((decide (x10 = 13)) && (decide (x15 = 10))) with h17 | h17
    ·
     refine gT h17 rfl rfl rfl rfl rfl rfl (AO.ops rfl rfl (mv rfl) ?_)
     refine gT h17 rfl rfl rfl rfl rfl rfl (AO.ops rfl rfl (opS_move (av := slE _ _ _) rfl) ?_)
     refine gT h17 rfl rfl rfl rfl rfl rfl (AO.ops rfl rfl (opS_len_sl Tryd.underlying24 rfl) ?_)
     refine gT h17 rfl rfl rfl rfl rfl rfl (AO.ops rfl rfl (opS_eqi rfl rfl) ?_)
     refine gT h17 rfl rfl rfl rfl rfl rfl (AO.ops rfl rfl (mv rfl) ?_)
     refine AR.meet (l := [26]) 35 (B ((decide (y4 = (a1.length : Int))) || (!decide (x20 = 32)))) (fun K => ?_) ?_
     ·rcases Bool.eq_false_or_eq_true (decide (y4 = (a1.length : Int))) with h18 | h18
      ·
       refine gF h18 rfl rfl rfl rfl rfl ?_
       refine gF h18 rfl rfl rfl rfl rfl ?_
       refine gF h18 rfl rfl rfl rfl rfl ?_
       refine gF h18 rfl rfl rfl rfl rfl ?_
       refine gF h18 rfl rfl rfl rfl rfl ?_
       refine gT h17 rfl rfl rfl rfl rfl rfl (AO.ops rfl rfl (opS_pick_t (av := .v _) rfl h18 rfl) ?_)
       exact K _ 5 _ (B_congr (or_t h18)) rfl rfl
      ·
       refine gT h18 rfl rfl rfl rfl rfl rfl (AO.ops rfl rfl (opS_move (av := slE _ _ _) rfl) ?_)
       refine gT h18 rfl rfl rfl rfl rfl rfl (AO.ops rfl rfl (mv rfl) ?_)
       refine gT h18 rfl rfl rfl rfl rfl rfl (AO.ops rfl rfl (g_indexAddr (E := Enc.byte) Tryd.underlying24 (by kernel_rfl) rfl rfl (g19 (and_tt h17 (nf h18))) e21) ?_)
       refine gT h18 rfl rfl rfl rfl rfl rfl (AO.ops rfl rfl (opS_load_cp Tryd.underlying5 rfl rfl) ?_)
       refine gT h18 rfl rfl rfl rfl rfl rfl (AO.ops rfl rfl (g_ne8 (a := x20) (b := 32) rfl rfl) ?_)
       refine gT h17 rfl rfl rfl rfl rfl rfl (AO.ops rfl rfl (opS_pick_f (av := .v _) rfl h18 rfl) ?_)
       exact K _ 5 _ (B_congr (or_f h18)) rfl rfl
     refine sS rfl rfl rfl (opS_pick_t (av := .v _) rfl h17 rfl) ?_
     exact K _ 6 _ (B_congr (and_t h17)) rfl rfl
    ·
     refine gF h17 rfl rfl rfl rfl rfl ?_
     refine gF h17 rfl rfl rfl rfl rfl ?_
     refine gF h17 rfl rfl rfl rfl rfl ?_
     refine gF h17 rfl rfl rfl rfl rfl ?_
     refine gF h17 rfl rfl rfl rfl rfl ?_
     refine gU rfl rfl rfl rfl rfl ?_
     refine gU rfl rfl rfl rfl rfl ?_
     refine gU rfl rfl rfl rfl rfl ?_
     refine gU rfl rfl rfl rfl rfl ?_
     refine gU rfl rfl rfl rfl rfl ?_
     refine gF h17 rfl rfl rfl rfl rfl ?_
     refine sS rfl rfl rfl (opS_pick_f (av := .v _) rfl h17 rfl) ?_
     exact K _ 11 _ (B_congr (and_f h17)) rfl rfl
   refine AR.nil ?_
   show AW _ _ _ _ _ _
   refine AW.cond rfl (fun c22 => ?_) (fun c22 => ?_)
   ·replace H := cnd_t c22 H
    refine AW.seq ?_
    refine AW.region ?_
    show AR _ _ _ _ _ [0, 1] _
    refine sS rfl rfl rfl (mv rfl) ?_
    refine sS rfl rfl rfl (asg rfl) ?_
    refine AR.nil ?_
    show AW _ _ _ _ _ _
    refine AW.ret ?_
    obtain rfl := Option.some.inj H
    exact And.intro rfl (Exists.intro _ (Exists.intro _ ⟨ResV.oneW rfl (.refl _), Sub.at [] rfl, rfl, rfl⟩))
   ·replace H := cnd_f c22 H
    refine AW.skip ?_
    show AW _ _ _ _ _ _
    obtain ⟨g23, H⟩ := grd_s H
    refine AW.region ?_
    show AR _ _ _ _ _ [0, 1, 2] _
    refine sS rfl rfl rfl (mv rfl) ?_
    refine sS rfl rfl rfl (g_add rfl rfl g23) ?_
    refine sS rfl rfl rfl (asg rfl) ?_
    refine AR.nil ?_
    exact Exists.intro (n6, y4 + 1) ⟨H, Nat.lt_succ_self _, WK.at [] (.cons (.refl _) (.cons (.refl _) (.nil _))) rfl⟩
  ·replace H := cnd_f c7 H
   refine AW.exit ?_
   exact Exists.intro () ⟨H, WK.at [] (.nil _) rfl⟩
 rintro _ H
 replace H : ref14_end_j1 = some r3 := H
 unfold ref14_end_j1 at H
 show AW _ _ _ _ _ _
 refine AW.seq ?_
 refine AW.region ?_
 show AR _ _ _ _ _ [0] _
 refine sS rfl rfl rfl (asg rfl) ?_
 refine AR.nil ?_
 show AW _ _ _ _ _ _
 refine AW.ret ?_
 obtain rfl := Option.some.inj H
 exact And.intro rfl (Exists.intro _ (Exists.intro _ ⟨ResV.oneW rfl (.refl _), Sub.at [] rfl, rfl, rfl⟩))
set_option maxRecDepth 100000 in
set_option maxHeartbeats 1000000 in
theorem w_ref14_Cut (F : Nat) (a1 : List UInt8) (q2 : Option Nat) (r3 : List ((List UInt8) × List UInt8)) (r4 : List UInt8) (r5 : Int) (H : ref14_Cut F a1 = some (r3, r4, r5)) : ACalls Tryd.prog 22 [slE Enc.byte a1 q2] [] (Ret (.tup [slE (Enc.prod Enc.str Enc.str) r3 none, slE Enc.byte r4 none, i64 r5]) []) := by
 unfold ref14_Cut at H
 refine ACalls.of_body Tryd.func22 rfl rfl ?_
 show AW _ _ 56 _ _ _
 refine AW.seq ?_
 refine AW.region ?_
 show AR _ _ _ _ _ [0, 1, 2] _
 refine sS rfl rfl rfl (asg rfl) ?_
 refine sS rfl rfl rfl (asg rfl) ?_
 refine sS rfl rfl rfl (asg rfl) ?_
 refine AR.nil ?_
 show AW _ _ _ _ _ _
 refine AW.seq ?_
 refine AW.region ?_
 show AR _ _ _ _ _ [0] _
 refine sS rfl rfl rfl (asg rfl) ?_
 refine AR.nil ?_
 show AW _ _ _ _ _ _
 refine AW.nil_grows 5 2 23 rfl fun t6 => ?_
 show AW _ _ _ _ _ ⟨(5, slE (Enc.prod Enc.str Enc.str) [] (some t6)) :: _, _, _⟩
 refine AW.cut (X := Unit) (fun _ => ⟨[], [], []⟩) (fun _ => ref14_Cut_j1 = some (r3, r4, r5)) ?_ ?_
 ·
  refine AW.block ?_
  refine AW.loop (X := Nat × (List UInt8) × (List ((List UInt8) × List UInt8)) × Nat) (fun (n11, y7, y8, t9) => ⟨[(0, slE Enc.byte y7 none), (5, slE (Enc.prod Enc.str Enc.str) y8 (some t9))], [], [.tok t9 23]⟩) (fun (n11, y7, y8, t9) => ref14_Cut_L1 F n11 (y7, y8) = some (r3, r4, r5)) (fun (n11, y7, y8, t9) => n11) (F, a1, [], t6) H (WK.at [0] (.cons (.tok _ _ _) (.cons (.refl _) (.nil _))) rfl) ?_
  rintro ⟨n11, y7, y8, t9⟩ H
  obtain ⟨n11, rfl, H⟩ := loop_s H
  replace H : ref14_Cut_B1 F (ref14_Cut_L1 F n11) y7 y8 = some (r3, r4, r5) := H
  unfold ref14_Cut_B1 at H
  show AW _ _ _ _ _ _
  refine AW.seq ?_
  refine AW.seq ?_
  refine AW.region ?_
  show AR _ _ _ _ _ [0, 1, 2] _
  refine sS rfl rfl rfl (opS_move (av := slE _ _ _) rfl) ?_
  refine sS rfl rfl rfl (opS_len_sl Tryd.underlying27 rfl) ?_
  refine sS rfl rfl rfl (opS_le rfl rfl) ?_
  refine AR.nil ?_
  show AW _ _ _ _ _ _
  refine AW.cond rfl (fun c12 => ?_) (fun c12 => ?_)
  ·replace H := cnd_t c12 H
   refine AW.skip ?_
   show AW _ _ _ _ _ _
   refine AW.block ?_
   refine AW.seq ?_
   refine AW.seq ?_
   obtain ⟨g14, H⟩ := grdc_s H
   obtain ⟨x15, e16, H⟩ := lt_s H
   obtain ⟨g18, H⟩ := grdc_s H
   obtain ⟨x19, e20, H⟩ := lt_s H
   refine AW.region ?_
   show AR _ _ _ _ _ [0, 1, 2, 3, 4, 5, 6, 7, 8, 9, 10, 11, 12, 13, 14] _
   refine sS rfl rfl rfl (opS_move (av := slE _ _ _) rfl) ?_
   refine sS rfl rfl rfl (opS_len_sl Tryd.underlying24 rfl) ?_
   refine sS rfl rfl rfl (opS_ge rfl rfl) ?_
   refine sS rfl rfl rfl (mv rfl) ?_
   refine AR.meet (l := [9, 10, 11, 12, 13, 14]) 20 (B ((decide (2 ≤ (y7.length : Int))) && (decide (x15 = 13)))) (fun K => ?_) ?_
   ·rcases Bool.eq_false_or_eq_true (decide (2 ≤ (y7.length : Int))) with h13 | h13
    ·
     refine gT h13 rfl rfl rfl rfl rfl rfl (AO.ops rfl rfl (opS_move (av := slE _ _ _) rfl) ?_)
     refine gT h13 rfl rfl rfl rfl rfl rfl (AO.ops rfl rfl (g_indexAddr (E := Enc.byte) Tryd.underlying24 (by kernel_rfl) rfl rfl (g14 h13) e16) ?_)
     refine gT h13 rfl rfl rfl rfl rfl rfl (AO.ops rfl rfl (opS_load_cp Tryd.underlying5 rfl rfl) ?_)
     refine gT h13 rfl rfl rfl rfl rfl rfl (AO.ops rfl rfl (g_eq8 (a := x15) (b := 13) rfl rfl) ?_)
     refine sS rfl rfl rfl (opS_pick_t (av := .v _) rfl h13 rfl) ?_
     exact K _ 4 _ (B_congr (and_t h13)) rfl rfl
    ·
     refine gF h13 rfl rfl rfl rfl rfl ?_
     refine gF h13 rfl rfl rfl rfl rfl ?_
     refine gF h13 rfl rfl rfl rfl rfl ?_
     refine gF h13 rfl rfl rfl rfl rfl ?_
     refine sS rfl rfl rfl (opS_pick_f (av := .v _) rfl h13 rfl) ?_
     exact K _ 4 _ (B_congr (and_f h13)) rfl rfl
   refine sS rfl rfl rfl (mv rfl) ?_
   refine AR.meet (l := []) 26 (B (((decide (2 ≤ (y7.length : Int))) && (decide (x15 = 13))) && (decide (x19 = 10)))) (fun K => ?_) ?_
   ·rcases Bool.eq_false_or_eq_true ((decide (2 ≤ (y7.length : Int))) && (decide (x15 = 13))) with h17 | h17
    ·
     refine gT h17 rfl rfl rfl rfl rfl rfl (AO.ops rfl rfl (opS_move (av := slE _ _ _) rfl) ?_)
     refine gT h17 rfl rfl rfl rfl rfl rfl (AO.ops rfl rfl (g_indexAddr (E := Enc.byte) Tryd.underlying24 (by kernel_rfl) rfl rfl (g18 h17) e20) ?_)
     refine gT h17 rfl rfl rfl rfl rfl rfl (AO.ops rfl rfl (opS_load_cp Tryd.underlying5 rfl rfl) ?_)
     refine gT h17 rfl rfl rfl rfl rfl rfl (AO.ops rfl rfl (g_eq8 (a := x19) (b := 10) rfl rfl) ?_)
     refine sS rfl rfl rfl (opS_pick_t (av := .v _) rfl h17 rfl) ?_
     exact K _ 4 _ (B_congr (and_t h17)) rfl rfl
    ·
     refine gF h17 rfl rfl rfl rfl rfl ?_
     refine gF h17 rfl rfl rfl rfl rfl ?_
     refine gF h17 rfl rfl rfl rfl rfl ?_
     refine gF h17 rfl rfl rfl rfl rfl ?_
     refine sS rfl rfl rfl (opS_pick_f (av := .v _) rfl h17 rfl) ?_
     exact K _ 4 _ (B_congr (and_f h17)) rfl rfl
   refine AR.nil ?_
   show AW _ _ _ _ _ _
   refine AW.cond rfl (fun c21 => ?_) (fun c21 => ?_)
   ·replace H := cnd_t c21 H
    refine AW.seq ?_
    obtain ⟨g22, H⟩ := grd_s H
    obtain ⟨x23, e24, H⟩ := lt_s H
    obtain ⟨g26, H⟩ := grd_s H
    refine AW.region ?_
    show AR _ _ _ _ _ [0, 1, 2, 3, 4, 5, 6] _
    refine sS rfl rfl rfl (opS_move (av := slE _ _ _) rfl) ?_
    refine sS rfl rfl rfl (opS_move (av := slE _ _ _) rfl) ?_
    refine sS rfl rfl rfl (g_from_sl (E := Enc.byte) Tryd.underlying24 (by kernel_rfl) rfl rfl g22 e24) ?_
    refine sX rfl rfl rfl (g_append_nil (E := Enc.byte) (bytes := 1) Tryd.underlying24 Tryd.underlying24 rfl (by kernel_rfl) rfl rfl rfl g26) ?_
    rintro _ _ ⟨t25, rfl, rfl⟩
    refine sS rfl rfl rfl (opS_assign (av := slE _ _ _) rfl) ?_
    refine sS rfl rfl rfl (opS_assign (av := slE _ _ _) rfl) ?_
    refine sS rfl rfl rfl (asg rfl) ?_
    refine AR.nil ?_
    show AW _ _ _ _ _ _
    refine AW.ret ?_
    obtain ⟨rfl, rfl, rfl⟩ := res3 H
    exact And.intro rfl (Exists.intro _ (Exists.intro _ ⟨ResV.threeW rfl (.tok _ _ _) (.tok _ _ _) (.refl _), Sub.at [] rfl, rfl, rfl⟩))
   ·replace H := cnd_f c21 H
    refine AW.skip ?_
    show AW _ _ _ _ _ _
    refine AW.seq ?_
    obtain ⟨x27, e28, H⟩ := bnd_s H
    refine AW.region ?_
    show AR _ _ _ _ _ [0, 1, 2] _
    refine sS rfl rfl rfl (opS_move (av := slE _ _ _) rfl) ?_
    refine AR.run rfl rfl (AO.callp rfl en47_headr rfl (w_ref14_end F y7 none x27 e28) ?_)
    refine sS rfl rfl rfl (asg rfl) ?_
    refine AR.nil ?_
    show AW _ _ _ _ _ _
    refine AW.seq ?_
    refine AW.seq ?_
    refine AW.region ?_
    show AR _ _ _ _ _ [0, 1, 2, 3, 4, 5, 6] _
    refine sS rfl rfl rfl (mv rfl) ?_
    refine sS rfl rfl rfl (opS_lt rfl rfl) ?_
    refine sS rfl rfl rfl (mv rfl) ?_
    refine AR.meet (l := []) 39 (B ((decide (x27 < 0)) || (decide ((y8.length : Int) = 50)))) (fun K => ?_) ?_
    ·rcases Bool.eq_false_or_eq_true (decide (x27 < 0)) with h29 | h29
     ·
      refine gF h29 rfl rfl rfl rfl rfl ?_
      refine gF h29 rfl rfl rfl rfl rfl ?_
      refine gF h29 rfl rfl rfl rfl rfl ?_
      refine sS rfl rfl rfl (opS_pick_t (av := .v _) rfl h29 rfl) ?_
      exact K _ 3 _ (B_congr (or_t h29)) rfl rfl
     ·
      refine gT h29 rfl rfl rfl rfl rfl rfl (AO.ops rfl rfl (opS_move (av := slE _ _ _) rfl) ?_)
      refine gT h29 rfl rfl rfl rfl rfl rfl (AO.ops rfl rfl (opS_len_sl Tryd.underlying27 rfl) ?_)
      refine gT h29 rfl rfl rfl rfl rfl rfl (AO.ops rfl rfl (opS_eqi rfl rfl) ?_)
      refine sS rfl rfl rfl (opS_pick_f (av := .v _) rfl h29 rfl) ?_
      exact K _ 3 _ (B_congr (or_f h29)) rfl rfl
    refine AR.nil ?_
    show AW _ _ _ _ _ _
    refine AW.cond rfl (fun c30 => ?_) (fun c30 => ?_)
    ·replace H := cnd_t c30 H
     refine AW.seq ?_
     refine AW.region ?_
     show AR _ _ _ _ _ [0, 1, 2] _
     refine sS rfl rfl rfl (asg rfl) ?_
     refine sS rfl rfl rfl (asg rfl) ?_
     refine sS rfl rfl rfl (asg rfl) ?_
     refine AR.nil ?_
     show AW _ _ _ _ _ _
     refine AW.ret ?_
     obtain ⟨rfl, rfl, rfl⟩ := res3 H
     exact And.intro rfl (Exists.intro _ (Exists.intro _ ⟨ResV.threeW rfl (.nil _) (.nil _) (.refl _), Sub.at [] rfl, rfl, rfl⟩))
    ·replace H := cnd_f c30 H
     refine AW.skip ?_
     show AW _ _ _ _ _ _
     refine AW.seq ?_
     obtain ⟨g31, H⟩ := grd_s H
     obtain ⟨x32, e33, H⟩ := lt_s H
     obtain ⟨x34, x35, x36, e37, H⟩ := bnd3_s H
     refine AW.region ?_
     show AR _ _ _ _ _ [0, 1, 2, 3, 4, 5, 6, 7, 8, 9] _
     refine sS rfl rfl rfl (opS_move (av := slE _ _ _) rfl) ?_
     refine sS rfl rfl rfl (mv rfl) ?_
     refine sS rfl rfl rfl (g_to_sl (E := Enc.byte) Tryd.underlying24 (by kernel_rfl) rfl rfl g31 e33) ?_
     refine AR.run rfl rfl (AO.callp rfl en20_headr rfl (w_ref14_Read F x32 none x34 x35 x36 e37) ?_)
     refine sS rfl rfl rfl (opS_move (av := .tup _) rfl) ?_
     refine sS rfl rfl rfl (opS_extract (av := .agg _) rfl rfl) ?_
     refine sS rfl rfl rfl (opS_extract (av := .v _) rfl rfl) ?_
     refine sX rfl rfl rfl (opX_alloc (zs := [.string ⟨#[]⟩, .string ⟨#[]⟩]) (by kernel_rfl)) ?_
     rintro _ _ ⟨o38, rfl, rfl⟩
     refine s0 rfl rfl (opR_store_agg (i := 0) (vs := [S x34, S x35]) (by kernel_rfl) rfl rfl (by simp [isCell, slE]) rfl (Nat.le_of_ble_eq_true rfl)) ?_
     refine AR.freezeCp 7 0 rfl rfl ?_
     show AR _ _ _ _ _ _ ⟨_, _, [.tok t9 23]⟩
     refine sS rfl rfl rfl (asg rfl) ?_
     refine AR.nil ?_
     show AW _ _ _ _ _ _
     refine AW.seq ?_
     refine AW.seq ?_
     refine AW.region ?_
     show AR _ _ _ _ _ [0, 1] _
     refine sS rfl rfl rfl (mv rfl) ?_
     refine sS rfl rfl rfl (opS_nei rfl rfl) ?_
     refine AR.nil ?_
     show AW _ _ _ _ _ _
     refine AW.cond rfl (fun c39 => ?_) (fun c39 => ?_)
     ·replace H := cnd_t c39 H
      refine AW.seq ?_
      refine AW.region ?_
      show AR _ _ _ _ _ [0, 1, 2] _
      refine sS rfl rfl rfl (asg rfl) ?_
      refine sS rfl rfl rfl (asg rfl) ?_
      refine sS rfl rfl rfl (asg rfl) ?_
      refine AR.nil ?_
      show AW _ _ _ _ _ _
      refine AW.ret ?_
      obtain ⟨rfl, rfl, rfl⟩ := res3 H
      exact And.intro rfl (Exists.intro _ (Exists.intro _ ⟨ResV.threeW rfl (.nil _) (.nil _) (.refl _), Sub.at [] rfl, rfl, rfl⟩))
     ·replace H := cnd_f c39 H
      refine AW.skip ?_
      show AW _ _ _ _ _ _
      refine AW.seq ?_
      obtain ⟨g41, H⟩ := grd_s H
      obtain ⟨x42, e43, H⟩ := lt_s H
      refine AW.region ?_
      show AR _ _ _ _ _ [0, 1, 2, 3, 4] _
      refine sS rfl rfl rfl (opS_move (av := slE _ _ _) rfl) ?_
      refine sS rfl rfl rfl (opS_load_cp_agg Tryd.underlying23 rfl (n := 2) (by kernel_rfl) rfl (Nat.le_of_ble_eq_true rfl)) ?_
      refine sR rfl rfl rfl (opR_buildBig (E := (Enc.prod Enc.str Enc.str)) (bytes := 32) (zs := [.string ⟨#[]⟩, .string ⟨#[]⟩]) (l := ([(x34, x35)] : List ((List UInt8) × List UInt8))) Tryd.underlying27 (by kernel_rfl) (by kernel_rfl) rfl rfl rfl rfl rfl) ?_
      refine sX rfl rfl rfl (g_append (E := (Enc.prod Enc.str Enc.str)) (bytes := 32) 0 Tryd.underlying27 Tryd.underlying27 rfl (by kernel_rfl) rfl rfl rfl rfl g41 e43) ?_
      rintro _ _ ⟨t40, rfl, rfl⟩
      refine sS rfl rfl rfl (opS_assign (av := slE _ _ _) rfl) ?_
      refine AR.nil ?_
      show AW _ _ _ _ _ _
      obtain ⟨g44, H⟩ := grd_s H
      obtain ⟨x45, e46, H⟩ := lt_s H
      refine AW.region ?_
      show AR _ _ _ _ _ [0, 1, 2, 3] _
      refine sS rfl rfl rfl (opS_move (av := slE _ _ _) rfl) ?_
      refine sS rfl rfl rfl (mv rfl) ?_
      refine sS rfl rfl rfl (g_from_sl (E := Enc.byte) Tryd.underlying24 (by kernel_rfl) rfl rfl g44 e46) ?_
      refine sS rfl rfl rfl (opS_assign (av := slE _ _ _) rfl) ?_
      refine AR.nil ?_
      exact Exists.intro (n11, x45, x42, t40) ⟨H, Nat.lt_succ_self _, WK.at [0] (.cons (.refl _) (.cons (.refl _) (.nil _))) rfl⟩
  ·replace H := cnd_f c12 H
   refine AW.exit ?_
   exact Exists.intro () ⟨H, WK.at [] (.nil _) rfl⟩
 rintro _ H
 replace H : ref14_Cut_j1 = some (r3, r4, r5) := H
 unfold ref14_Cut_j1 at H
 show AW _ _ _ _ _ _
 refine AW.seq ?_
 refine AW.region ?_
 show AR _ _ _ _ _ [0, 1, 2] _
 refine sS rfl rfl rfl (asg rfl) ?_
 refine sS rfl rfl rfl (asg rfl) ?_
 refine sS rfl rfl rfl (asg rfl) ?_
 refine AR.nil ?_
 show AW _ _ _ _ _ _
 refine AW.ret ?_
 obtain ⟨rfl, rfl, rfl⟩ := res3 H
 exact And.intro rfl (Exists.intro _ (Exists.intro _ ⟨ResV.threeW rfl (.nil _) (.nil _) (.refl _), Sub.at [] rfl, rfl, rfl⟩))
set_option maxRecDepth 100000 in
set_option maxHeartbeats 1000000 in
theorem w_ref14_Same (F : Nat) (a1 : List ((List UInt8) × List UInt8)) (q2 : Option Nat) (a3 : List ((List UInt8) × List UInt8)) (q4 : Option Nat) (r5 : Bool) (H : ref14_Same F a1 a3 = some r5) : ACalls Tryd.prog 23 [slE (Enc.prod Enc.str Enc.str) a1 q2, slE (Enc.prod Enc.str Enc.str) a3 q4] [] (Ret (B r5) []) := by
 unfold ref14_Same at H
 refine ACalls.of_body Tryd.func23 rfl rfl ?_
 show AW _ _ 26 _ _ _
 refine AW.seq ?_
 refine AW.region ?_
 show AR _ _ _ _ _ [0] _
 refine sS rfl rfl rfl (asg rfl) ?_
 refine AR.nil ?_
 show AW _ _ _ _ _ _
 refine AW.seq ?_
 refine AW.seq ?_
 refine AW.region ?_
 show AR _ _ _ _ _ [0, 1, 2, 3, 4] _
 refine sS rfl rfl rfl (opS_move (av := slE _ _ _) rfl) ?_
 refine sS rfl rfl rfl (opS_len_sl Tryd.underlying27 rfl) ?_
 refine sS rfl rfl rfl (opS_move (av := slE _ _ _) rfl) ?_
 refine sS rfl rfl rfl (opS_len_sl Tryd.underlying27 rfl) ?_
 refine sS rfl rfl rfl (opS_nei rfl rfl) ?_
 refine AR.nil ?_
 show AW _ _ _ _ _ _
 refine AW.cond rfl (fun c6 => ?_) (fun c6 => ?_)
 ·replace H := cnd_t c6 H
  refine AW.seq ?_
  refine AW.region ?_
  show AR _ _ _ _ _ [0] _
  refine sS rfl rfl rfl (asg rfl) ?_
  refine AR.nil ?_
  show AW _ _ _ _ _ _
  refine AW.ret ?_
  obtain rfl := Option.some.inj H
  exact And.intro rfl (Exists.intro _ (Exists.intro _ ⟨ResV.oneW rfl (.refl _), Sub.at [] rfl, rfl, rfl⟩))
 ·replace H := cnd_f c6 H
  refine AW.skip ?_
  show AW _ _ _ _ _ _
  refine AW.cut (X := Unit) (fun _ => ⟨[], [], []⟩) (fun _ => ref14_Same_j1 = some r5) ?_ ?_
  ·
   refine AW.seq ?_
   refine AW.region ?_
   show AR _ _ _ _ _ [0] _
   refine sS rfl rfl rfl (asg rfl) ?_
   refine AR.nil ?_
   show AW _ _ _ _ _ _
   refine AW.block ?_
   refine AW.loop (X := Nat × Int) (fun (n9, y7) => ⟨[(0, slE (Enc.prod Enc.str Enc.str) a1 q2), (1, slE (Enc.prod Enc.str Enc.str) a3 q4), (5, i64 y7)], [], []⟩) (fun (n9, y7) => ref14_Same_L1 a1 a3 n9 y7 = some r5) (fun (n9, y7) => n9) (F, 0) H (WK.at [] (.cons (.refl _) (.cons (.refl _) (.cons (.refl _) (.nil _)))) rfl) ?_
   rintro ⟨n9, y7⟩ H
   obtain ⟨n9, rfl, H⟩ := loop_s H
   replace H : ref14_Same_B1 a1 a3 (ref14_Same_L1 a1 a3 n9) y7 = some r5 := H
   unfold ref14_Same_B1 at H
   show AW _ _ _ _ _ _
   refine AW.seq ?_
   refine AW.seq ?_
   refine AW.region ?_
   show AR _ _ _ _ _ [0, 1, 2, 3] _
   refine sS rfl rfl rfl (mv rfl) ?_
   refine sS rfl rfl rfl (opS_move (av := slE _ _ _) rfl) ?_
   refine sS rfl rfl rfl (opS_len_sl Tryd.underlying27 rfl) ?_
   refine sS rfl rfl rfl (opS_lt rfl rfl) ?_
   refine AR.nil ?_
   show AW _ _ _ _ _ _
   refine AW.cond rfl (fun c10 => ?_) (fun c10 => ?_)
   ·replace H := cnd_t c10 H
    refine AW.skip ?_
    show AW _ _ _ _ _ _
    refine AW.seq ?_
    refine AW.block ?_
    refine AW.seq ?_
    obtain ⟨g11, H⟩ := grd_s H
    obtain ⟨x12, e13, H⟩ := lt_s H
    obtain ⟨g14, H⟩ := grd_s H
    obtain ⟨x15, e16, H⟩ := lt_s H
    refine AW.region_draw (by kernel_rfl) ?_
    show AI _ _ _ _ _ 9 (Array.replicate 9 false) _
    refine AI.take (i := 0) rfl rfl (by kernel_rfl) (by kernel_rfl) (by kernel_rfl) (fun _ _ h => h) (opS_move (av := slE _ _ _) rfl) ?_
    show AI _ _ _ _ _ _ #[true, false, false, false, false, false, false, false, false] _
    refine AI.take (i := 1) rfl rfl (by kernel_rfl) (by kernel_rfl) (by kernel_rfl) (fun _ _ h => h) (mv rfl) ?_
    show AI _ _ _ _ _ _ #[true, true, false, false, false, false, false, false, false] _
    refine AI.take (i := 2) rfl rfl (by kernel_rfl) (by kernel_rfl) (by kernel_rfl) (fun _ _ h => h) (g_indexAddr (E := (Enc.prod Enc.str Enc.str)) Tryd.underlying27 (by kernel_rfl) rfl rfl g11 e13) ?_
    show AI _ _ _ _ _ _ #[true, true, true, false, false, false, false, false, false] _
    refine AI.take (i := 3) rfl rfl (by kernel_rfl) (by kernel_rfl) (by kernel_rfl) (fun _ _ h => h) (opS_load_cp_agg Tryd.underlying23 rfl (n := 2) (by kernel_rfl) rfl (Nat.le_of_ble_eq_true rfl)) ?_
    show AI _ _ _ _ _ _ #[true, true, true, true, false, false, false, false, false] _
    refine AI.take (i := 4) rfl rfl (by kernel_rfl) (by kernel_rfl) (by kernel_rfl) (fun _ _ h => h) (opS_move (av := slE _ _ _) rfl) ?_
    show AI _ _ _ _ _ _ #[true, true, true, true, true, false, false, false, false] _
    refine AI.take (i := 5) rfl rfl (by kernel_rfl) (by kernel_rfl) (by kernel_rfl) (fun _ _ h => h) (mv rfl) ?_
    show AI _ _ _ _ _ _ #[true, true, true, true, true, true, false, false, false] _
    refine AI.take (i := 6) rfl rfl (by kernel_rfl) (by kernel_rfl) (by kernel_rfl) (fun _ _ h => h) (g_indexAddr (E := (Enc.prod Enc.str Enc.str)) Tryd.underlying27 (by kernel_rfl) rfl rfl g14 e16) ?_
    show AI _ _ _ _ _ _ #[true, true, true, true, true, true, true, false, false] _
    refine AI.take (i := 7) rfl rfl (by kernel_rfl) (by kernel_rfl) (by kernel_rfl) (fun _ _ h => h) (opS_load_cp_agg Tryd.underlying23 rfl (n := 2) (by kernel_rfl) rfl (Nat.le_of_ble_eq_true rfl)) ?_
    show AI _ _ _ _ _ _ #[true, true, true, true, true, true, true, true, false] _
    refine AI.take (i := 8) rfl rfl (by kernel_rfl) (by kernel_rfl) (by kernel_rfl) (fun _ _ h => h) (opS_eq_struct (r := (decide (x12.1 = x15.1)) && (decide (x12.2 = x15.2))) (.inr rfl) Tryd.underlying23 (by kernel_rfl) (by kernel_rfl) (by kernel_rfl) rfl rfl rfl (by simp only [List.all_cons, List.all_nil, id, str_beq, Bool.and_true])) ?_
    show AI _ _ _ _ _ _ #[true, true, true, true, true, true, true, true, true] _
    refine AI.done rfl ?_
    show AW _ _ _ _ _ _
    refine AW.cond rfl (fun c17 => ?_) (fun c17 => ?_)
    ·replace H := cnd_t c17 H
     refine AW.seq ?_
     refine AW.region ?_
     show AR _ _ _ _ _ [0] _
     refine sS rfl rfl rfl (asg rfl) ?_
     refine AR.nil ?_
     show AW _ _ _ _ _ _
     refine AW.ret ?_
     obtain rfl := Option.some.inj H
     exact And.intro rfl (Exists.intro _ (Exists.intro _ ⟨ResV.oneW rfl (.refl _), Sub.at [] rfl, rfl, rfl⟩))
    ·replace H := cnd_f c17 H
     refine AW.skip ?_
     show AW _ _ _ _ _ _
     obtain ⟨g18, H⟩ := grd_s H
     refine AW.region ?_
     show AR _ _ _ _ _ [0, 1, 2] _
     refine sS rfl rfl rfl (mv rfl) ?_
     refine sS rfl rfl rfl (g_add rfl rfl g18) ?_
     refine sS rfl rfl rfl (asg rfl) ?_
     refine AR.nil ?_
     exact Exists.intro (n9, y7 + 1) ⟨H, Nat.lt_succ_self _, WK.at [] (.cons (.refl _) (.cons (.refl _) (.cons (.refl _) (.nil _)))) rfl⟩
   ·replace H := cnd_f c10 H
    refine AW.exit ?_
    exact Exists.intro () ⟨H, WK.at [] (.nil _) rfl⟩
  rintro _ H
  replace H : ref14_Same_j1 = some r5 := H
  unfold ref14_Same_j1 at H
  show AW _ _ _ _ _ _
  refine AW.seq ?_
  refine AW.region ?_
  show AR _ _ _ _ _ [0] _
  refine sS rfl rfl rfl (asg rfl) ?_
  refine AR.nil ?_
  show AW _ _ _ _ _ _
  refine AW.ret ?_
  obtain rfl := Option.some.inj H
  exact And.intro rfl (Exists.intro _ (Exists.intro _ ⟨ResV.oneW rfl (.refl _), Sub.at [] rfl, rfl, rfl⟩))
end Go.Proofs.YtiahdbdkjjmfiaaDoor
namespace Go.Pv
def law14_HeadReads (F : Nat) (a1 : List UInt8) : Option Bool :=
bnd (law14_awake F) fun x4 =>
bif (!x4) || (decide (2000 < (a1.length : Int))) then
  some x4
else
  bnd3 (head_Read F a1) fun x8 x9 x10 =>
  bnd3 (ref14_Read F a1) fun x13 x14 x15 =>
  bnd3 (head_Cut F a1) fun x18 x19 x20 =>
  bnd3 (ref14_Cut F a1) fun x22 x23 x24 =>
  bnd (ref14_Same F x18 x22) fun x26 =>
  some ((((((decide (x8 = x13)) && (decide (x9 = x14))) && (decide (x10 = x15))) && x26) && (decide (x19 = x23))) && (decide (x20 = x24)))
end Go.Pv
namespace Go.Proofs.YtiahdbdkjjmfiaaDoor
open Go.RowKit Go.Av Go.Pv
theorem en9_lheadreads : ∀ (args : Array Value) (w : World), (callFunc 9 args).run Tryd.prog w = .ok (.enter 9 args) w := fun _ _ => by kernel_rfl
theorem en12_lheadreads : ∀ (args : Array Value) (w : World), (callFunc 12 args).run Tryd.prog w = .ok (.enter 12 args) w := fun _ _ => by kernel_rfl
theorem en20_lheadreads : ∀ (args : Array Value) (w : World), (callFunc 20 args).run Tryd.prog w = .ok (.enter 20 args) w := fun _ _ => by kernel_rfl
theorem en21_lheadreads : ∀ (args : Array Value) (w : World), (callFunc 21 args).run Tryd.prog w = .ok (.enter 21 args) w := fun _ _ => by kernel_rfl
theorem en22_lheadreads : ∀ (args : Array Value) (w : World), (callFunc 22 args).run Tryd.prog w = .ok (.enter 22 args) w := fun _ _ => by kernel_rfl
theorem en23_lheadreads : ∀ (args : Array Value) (w : World), (callFunc 23 args).run Tryd.prog w = .ok (.enter 23 args) w := fun _ _ => by kernel_rfl
set_option maxRecDepth 100000 in
set_option maxHeartbeats 1000000 in
theorem w_law14_HeadReads (F : Nat) (a1 : List UInt8) (q2 : Option Nat) (r3 : Bool) (H : law14_HeadReads F a1 = some r3) : ACalls Tryd.prog 7 [slE Enc.byte a1 q2] [] (Ret (B r3) []) := by
 unfold law14_HeadReads at H
 refine ACalls.of_body Tryd.func7 rfl rfl ?_
 show AW _ _ 72 _ _ _
 refine AW.seq ?_
 refine AW.region ?_
 show AR _ _ _ _ _ [0] _
 refine sS rfl rfl rfl (asg rfl) ?_
 refine AR.nil ?_
 show AW _ _ _ _ _ _
 refine AW.seq ?_
 obtain ⟨x4, e5, H⟩ := bnd_s H
 refine AW.region ?_
 show AR _ _ _ _ _ [0, 1] _
 refine AR.run rfl rfl (AO.callp rfl en9_lheadreads rfl (w_law14_awake F x4 e5) ?_)
 refine sS rfl rfl rfl (asg rfl) ?_
 refine AR.nil ?_
 show AW _ _ _ _ _ _
 refine AW.seq ?_
 refine AW.seq ?_
 refine AW.region ?_
 show AR _ _ _ _ _ [0, 1, 2, 3, 4, 5, 6] _
 refine sS rfl rfl rfl (mv rfl) ?_
 refine sS rfl rfl rfl (opS_not rfl) ?_
 refine sS rfl rfl rfl (mv rfl) ?_
 refine AR.meet (l := []) 22 (B ((!x4) || (decide (2000 < (a1.length : Int))))) (fun K => ?_) ?_
 ·rcases Bool.eq_false_or_eq_true (!x4) with h6 | h6
  ·
   refine gF h6 rfl rfl rfl rfl rfl ?_
   refine gF h6 rfl rfl rfl rfl rfl ?_
   refine gF h6 rfl rfl rfl rfl rfl ?_
   refine sS rfl rfl rfl (opS_pick_t (av := .v _) rfl h6 rfl) ?_
   exact K _ 3 _ (B_congr (or_t h6)) rfl rfl
  ·
   refine gT h6 rfl rfl rfl rfl rfl rfl (AO.ops rfl rfl (opS_move (av := slE _ _ _) rfl) ?_)
   refine gT h6 rfl rfl rfl rfl rfl rfl (AO.ops rfl rfl (opS_len_sl Tryd.underlying24 rfl) ?_)
   refine gT h6 rfl rfl rfl rfl rfl rfl (AO.ops rfl rfl (opS_gt rfl rfl) ?_)
   refine sS rfl rfl rfl (opS_pick_f (av := .v _) rfl h6 rfl) ?_
   exact K _ 3 _ (B_congr (or_f h6)) rfl rfl
 refine AR.nil ?_
 show AW _ _ _ _ _ _
 refine AW.cond rfl (fun c7 => ?_) (fun c7 => ?_)
 ·replace H := cnd_t c7 H
  refine AW.seq ?_
  refine AW.region ?_
  show AR _ _ _ _ _ [0, 1] _
  refine sS rfl rfl rfl (mv rfl) ?_
  refine sS rfl rfl rfl (asg rfl) ?_
  refine AR.nil ?_
  show AW _ _ _ _ _ _
  refine AW.ret ?_
  obtain rfl := Option.some.inj H
  exact And.intro rfl (Exists.intro _ (Exists.intro _ ⟨ResV.oneW rfl (.refl _), Sub.at [] rfl, rfl, rfl⟩))
 ·replace H := cnd_f c7 H
  refine AW.skip ?_
  show AW _ _ _ _ _ _
  refine AW.seq ?_
  obtain ⟨x8, x9, x10, e11, H⟩ := bnd3_s H
  refine AW.region ?_
  show AR _ _ _ _ _ [0, 1, 2, 3, 4, 5, 6, 7] _
  refine sS rfl rfl rfl (opS_move (av := slE _ _ _) rfl) ?_
  refine AR.run rfl rfl (AO.callp rfl en12_lheadreads rfl (w_head_Read F a1 q2 x8 x9 x10 e11) ?_)
  refine sS rfl rfl rfl (opS_move (av := .tup _) rfl) ?_
  refine sS rfl rfl rfl (opS_extract (av := .agg _) rfl rfl) ?_
  refine sS rfl rfl rfl (opS_extract (av := .v _) rfl rfl) ?_
  refine sX rfl rfl rfl (opX_alloc (zs := [.string ⟨#[]⟩, .string ⟨#[]⟩]) (by kernel_rfl)) ?_
  rintro _ _ ⟨o12, rfl, rfl⟩
  refine s0 rfl rfl (opR_store_agg (i := 0) (vs := [S x8, S x9]) (by kernel_rfl) rfl rfl (by simp [isCell, slE]) rfl (Nat.le_of_ble_eq_true rfl)) ?_
  refine AR.freezeCp 4 0 rfl rfl ?_
  show AR _ _ _ _ _ _ ⟨_, _, []⟩
  refine sS rfl rfl rfl (asg rfl) ?_
  refine AR.nil ?_
  show AW _ _ _ _ _ _
  refine AW.seq ?_
  obtain ⟨x13, x14, x15, e16, H⟩ := bnd3_s H
  refine AW.region ?_
  show AR _ _ _ _ _ [0, 1, 2, 3, 4, 5, 6, 7] _
  refine sS rfl rfl rfl (opS_move (av := slE _ _ _) rfl) ?_
  refine AR.run rfl rfl (AO.callp rfl en20_lheadreads rfl (w_ref14_Read F a1 q2 x13 x14 x15 e16) ?_)
  refine sS rfl rfl rfl (opS_move (av := .tup _) rfl) ?_
  refine sS rfl rfl rfl (opS_extract (av := .agg _) rfl rfl) ?_
  refine sS rfl rfl rfl (opS_extract (av := .v _) rfl rfl) ?_
  refine sX rfl rfl rfl (opX_alloc (zs := [.string ⟨#[]⟩, .string ⟨#[]⟩]) (by kernel_rfl)) ?_
  rintro _ _ ⟨o17, rfl, rfl⟩
  refine s0 rfl rfl (opR_store_agg (i := 0) (vs := [S x13, S x14]) (by kernel_rfl) rfl rfl (by simp [isCell, slE]) rfl (Nat.le_of_ble_eq_true rfl)) ?_
  refine AR.freezeCp 6 0 rfl rfl ?_
  show AR _ _ _ _ _ _ ⟨_, _, []⟩
  refine sS rfl rfl rfl (asg rfl) ?_
  refine AR.nil ?_
  show AW _ _ _ _ _ _
  refine AW.seq ?_
  obtain ⟨x18, x19, x20, e21, H⟩ := bnd3_s H
  refine AW.region ?_
  show AR _ _ _ _ _ [0, 1, 2, 3, 4, 5, 6, 7, 8] _
  refine sS rfl rfl rfl (opS_move (av := slE _ _ _) rfl) ?_
  refine AR.run rfl rfl (AO.callp rfl en21_lheadreads rfl (w_head_Cut F a1 q2 x18 x19 x20 e21) ?_)
  refine sS rfl rfl rfl (opS_move (av := .tup _) rfl) ?_
  refine sS rfl rfl rfl (opS_extract (av := slE _ _ _) rfl rfl) ?_
  refine sS rfl rfl rfl (opS_extract (av := slE _ _ _) rfl rfl) ?_
  refine sS rfl rfl rfl (opS_extract (av := .v _) rfl rfl) ?_
  refine sS rfl rfl rfl (opS_assign (av := slE _ _ _) rfl) ?_
  refine sS rfl rfl rfl (opS_assign (av := slE _ _ _) rfl) ?_
  refine sS rfl rfl rfl (asg rfl) ?_
  refine AR.nil ?_
  show AW _ _ _ _ _ _
  refine AW.seq ?_
  obtain ⟨x22, x23, x24, e25, H⟩ := bnd3_s H
  refine AW.region ?_
  show AR _ _ _ _ _ [0, 1, 2, 3, 4, 5, 6, 7, 8] _
  refine sS rfl rfl rfl (opS_move (av := slE _ _ _) rfl) ?_
  refine AR.run rfl rfl (AO.callp rfl en22_lheadreads rfl (w_ref14_Cut F a1 q2 x22 x23 x24 e25) ?_)
  refine sS rfl rfl rfl (opS_move (av := .tup _) rfl) ?_
  refine sS rfl rfl rfl (opS_extract (av := slE _ _ _) rfl rfl) ?_
  refine sS rfl rfl rfl (opS_extract (av := slE _ _ _) rfl rfl) ?_
  refine sS rfl rfl rfl (opS_extract (av := .v _) rfl rfl) ?_
  refine sS rfl rfl rfl (opS_assign (av := slE _ _ _) rfl) ?_
  refine sS rfl rfl rfl (opS_assign (av := slE _ _ _) rfl) ?_
  refine sS rfl rfl rfl (asg rfl) ?_
  refine AR.nil ?_
  show AW _ _ _ _ _ _
  refine AW.seq ?_
  obtain ⟨x26, e27, H⟩ := bnd_s H
  refine AW.region ?_
  show AR _ _ _ _ _ [0, 1, 2, 3] _
  refine sS rfl rfl rfl (opS_move (av := slE _ _ _) rfl) ?_
  refine sS rfl rfl rfl (opS_move (av := slE _ _ _) rfl) ?_
  refine AR.run rfl rfl (AO.callp rfl en23_lheadreads rfl (w_ref14_Same F x18 none x22 none x26 e27) ?_)
  refine sS rfl rfl rfl (asg rfl) ?_
  refine AR.nil ?_
  show AW _ _ _ _ _ _
  refine AW.seq ?_
  refine AW.region ?_
  show AR _ _ _ _ _ [0, 1, 2, 3, 4, 5, 6, 7, 8, 9, 10, 11, 12, 13, 14, 15, 16, 17, 18, 19, 20, 21, 22, 23] _
  refine sS rfl rfl rfl (opS_load_cp_agg Tryd.underlying23 rfl (n := 2) (by kernel_rfl) rfl (Nat.le_of_ble_eq_true rfl)) ?_
  refine sS rfl rfl rfl (opS_load_cp_agg Tryd.underlying23 rfl (n := 2) (by kernel_rfl) rfl (Nat.le_of_ble_eq_true rfl)) ?_
  refine sS rfl rfl rfl (opS_eq_struct (r := (decide (x8 = x13)) && (decide (x9 = x14))) (.inl rfl) Tryd.underlying23 (by kernel_rfl) (by kernel_rfl) (by kernel_rfl) rfl rfl rfl (by simp only [List.all_cons, List.all_nil, id, str_beq, Bool.and_true])) ?_
  refine sS rfl rfl rfl (mv rfl) ?_
  refine AR.meet (l := [8, 9, 10, 11, 12, 13, 14, 15, 16, 17, 18, 19, 20, 21, 22, 23]) 56 (B (((decide (x8 = x13)) && (decide (x9 = x14))) && (decide (x10 = x15)))) (fun K => ?_) ?_
  ·rcases Bool.eq_false_or_eq_true ((decide (x8 = x13)) && (decide (x9 = x14))) with h28 | h28
   ·
    refine gT h28 rfl rfl rfl rfl rfl rfl (AO.ops rfl rfl (mv rfl) ?_)
    refine gT h28 rfl rfl rfl rfl rfl rfl (AO.ops rfl rfl (mv rfl) ?_)
    refine gT h28 rfl rfl rfl rfl rfl rfl (AO.ops rfl rfl (opS_eqi rfl rfl) ?_)
    refine sS rfl rfl rfl (opS_pick_t (av := .v _) rfl h28 rfl) ?_
    exact K _ 3 _ (B_congr (and_t h28)) rfl rfl
   ·
    refine gF h28 rfl rfl rfl rfl rfl ?_
    refine gF h28 rfl rfl rfl rfl rfl ?_
    refine gF h28 rfl rfl rfl rfl rfl ?_
    refine sS rfl rfl rfl (opS_pick_f (av := .v _) rfl h28 rfl) ?_
    exact K _ 3 _ (B_congr (and_f h28)) rfl rfl
  refine sS rfl rfl rfl (mv rfl) ?_
  refine AR.meet (l := [11, 12, 13, 14, 15, 16, 17, 18, 19, 20, 21, 22, 23]) 59 (B ((((decide (x8 = x13)) && (decide (x9 = x14))) && (decide (x10 = x15))) && x26)) (fun K => ?_) ?_
  ·rcases Bool.eq_false_or_eq_true (((decide (x8 = x13)) && (decide (x9 = x14))) && (decide (x10 = x15))) with h29 | h29
   ·
    refine gT h29 rfl rfl rfl rfl rfl rfl (AO.ops rfl rfl (mv rfl) ?_)
    refine sS rfl rfl rfl (opS_pick_t (av := .v _) rfl h29 rfl) ?_
    exact K _ 1 _ (B_congr (and_t h29)) rfl rfl
   ·
    refine gF h29 rfl rfl rfl rfl rfl ?_
    refine sS rfl rfl rfl (opS_pick_f (av := .v _) rfl h29 rfl) ?_
    exact K _ 1 _ (B_congr (and_f h29)) rfl rfl
  refine sS rfl rfl rfl (mv rfl) ?_
  refine AR.meet (l := [18, 19, 20, 21, 22, 23]) 66 (B (((((decide (x8 = x13)) && (decide (x9 = x14))) && (decide (x10 = x15))) && x26) && (decide (x19 = x23)))) (fun K => ?_) ?_
  ·rcases Bool.eq_false_or_eq_true ((((decide (x8 = x13)) && (decide (x9 = x14))) && (decide (x10 = x15))) && x26) with h30 | h30
   ·
    refine gT h30 rfl rfl rfl rfl rfl rfl (AO.ops rfl rfl (opS_move (av := slE _ _ _) rfl) ?_)
    refine gT h30 rfl rfl rfl rfl rfl rfl (AO.ops rfl rfl (opS_conv_bytes_str Tryd.underlying24 Tryd.underlying5 Tryd.underlying9 rfl) ?_)
    refine gT h30 rfl rfl rfl rfl rfl rfl (AO.ops rfl rfl (opS_move (av := slE _ _ _) rfl) ?_)
    refine gT h30 rfl rfl rfl rfl rfl rfl (AO.ops rfl rfl (opS_conv_bytes_str Tryd.underlying24 Tryd.underlying5 Tryd.underlying9 rfl) ?_)
    refine gT h30 rfl rfl rfl rfl rfl rfl (AO.ops rfl rfl (opS_eqs rfl rfl) ?_)
    refine sS rfl rfl rfl (opS_pick_t (av := .v _) rfl h30 rfl) ?_
    exact K _ 5 _ (B_congr (and_t h30)) rfl rfl
   ·
    refine gF h30 rfl rfl rfl rfl rfl ?_
    refine gF h30 rfl rfl rfl rfl rfl ?_
    refine gF h30 rfl rfl rfl rfl rfl ?_
    refine gF h30 rfl rfl rfl rfl rfl ?_
    refine gF h30 rfl rfl rfl rfl rfl ?_
    refine sS rfl rfl rfl (opS_pick_f (av := .v _) rfl h30 rfl) ?_
    exact K _ 5 _ (B_congr (and_f h30)) rfl rfl
  refine sS rfl rfl rfl (mv rfl) ?_
  refine AR.meet (l := [23]) 71 (B ((((((decide (x8 = x13)) && (decide (x9 = x14))) && (decide (x10 = x15))) && x26) && (decide (x19 = x23))) && (decide (x20 = x24)))) (fun K => ?_) ?_
  ·rcases Bool.eq_false_or_eq_true (((((decide (x8 = x13)) && (decide (x9 = x14))) && (decide (x10 = x15))) && x26) && (decide (x19 = x23))) with h31 | h31
   ·
    refine gT h31 rfl rfl rfl rfl rfl rfl (AO.ops rfl rfl (mv rfl) ?_)
    refine gT h31 rfl rfl rfl rfl rfl rfl (AO.ops rfl rfl (mv rfl) ?_)
    refine gT h31 rfl rfl rfl rfl rfl rfl (AO.ops rfl rfl (opS_eqi rfl rfl) ?_)
    refine sS rfl rfl rfl (opS_pick_t (av := .v _) rfl h31 rfl) ?_
    exact K _ 3 _ (B_congr (and_t h31)) rfl rfl
   ·
    refine gF h31 rfl rfl rfl rfl rfl ?_
    refine gF h31 rfl rfl rfl rfl rfl ?_
    refine gF h31 rfl rfl rfl rfl rfl ?_
    refine sS rfl rfl rfl (opS_pick_f (av := .v _) rfl h31 rfl) ?_
    exact K _ 3 _ (B_congr (and_f h31)) rfl rfl
  refine sS rfl rfl rfl (asg rfl) ?_
  refine AR.nil ?_
  show AW _ _ _ _ _ _
  refine AW.ret ?_
  obtain rfl := Option.some.inj H
  exact And.intro rfl (Exists.intro _ (Exists.intro _ ⟨ResV.oneW rfl (.refl _), Sub.at [] rfl, rfl, rfl⟩))
end Go.Proofs.YtiahdbdkjjmfiaaDoor
namespace Go.Hd
open Go.Pv Go.Av
abbrev Bs := List UInt8
def sp (c : UInt8) : Bs → List Bs
  | [] => [[]]
  | b :: r => if b = c then [] :: sp c r else match sp c r with
    | [] => [[b]]
    | p :: ps => (b :: p) :: ps
theorem sp_ne (c : UInt8) (s : Bs) : sp c s ≠ [] := by
  cases s with
  | nil => simp [sp]
  | cons b r => unfold sp; split; simp; split <;> simp
theorem index_one_cons (b c : UInt8) (l : Bs) : Go.Lib.index (b :: l) [c] = if b = c then 0 else if Go.Lib.index l [c] = -1 then -1 else Go.Lib.index l [c] + 1 := by
  by_cases h : b = c
  · subst h; simp [Go.Lib.index]
  · simp [Go.Lib.index, h, Ne.symm h]
def prep (cur : Bs) : List Bs → List Bs
  | [] => [cur]
  | p :: ps => (cur ++ p) :: ps
theorem sp_cons_ne {b c : UInt8} (h : ¬ b = c) (r : Bs) : sp c (b :: r) = prep [b] (sp c r) := by
  simp only [sp, h, if_false]
  cases sp c r <;> rfl
theorem sp_cons_eq (c : UInt8) (r : Bs) : sp c (c :: r) = [] :: sp c r := by simp [sp]
theorem prep_prep (a b : Bs) (l : List Bs) : prep a (prep b l) = prep (a ++ b) l := by cases l <;> simp [prep]
theorem prep_nil {l : List Bs} (h : l ≠ []) : prep [] l = l := by cases l <;> simp_all [prep]
theorem splitK_eq (c : UInt8) : ∀ (s : Bs), Go.Lib.splitK [c] 0 (s.count c) s = sp c s
  | [] => rfl
  | b :: l => by
    have ih := splitK_eq c l
    have hi := index_one_cons b c l
    have hge := Go.Lib.index_ge l [c]
    by_cases h : b = c
    · subst h
      rw [List.count_cons_self, sp_cons_eq, Go.Lib.splitK, hi]
      simp [ih]
    · rw [List.count_cons_of_ne h, sp_cons_ne h, ← ih]
      cases hk : l.count c with
      | zero => simp [Go.Lib.splitK, prep]
      | succ k =>
        rw [Go.Lib.splitK, Go.Lib.splitK, hi]
        simp only [h, if_false]
        by_cases hm : Go.Lib.index l [c] = -1
        · simp [hm, prep]
        · obtain ⟨j, hj⟩ := Int.eq_ofNat_of_zero_le (show 0 ≤ Go.Lib.index l [c] by omega)
          have h2 : ¬ (Go.Lib.index l [c] + 1 = -1) := by omega
          have h3 : (Go.Lib.index l [c] + 1).toNat = j + 1 := by omega
          have h4 : (Go.Lib.index l [c]).toNat = j := by omega
          simp [hm, h2, h3, h4, prep]
theorem split_one (s : Bs) (c : UInt8) : Go.Lib.split s [c] = sp c s := by
  unfold Go.Lib.split
  rw [Go.Lib.count_one, splitK_eq]
theorem sp_length (c : UInt8) (s : Bs) : (sp c s).length ≤ s.length + 1 := by
  induction s with
  | nil => simp [sp]
  | cons b r ih =>
    by_cases h : b = c
    · subst h; rw [sp_cons_eq]; simp; omega
    · rw [sp_cons_ne h]
      cases hs : sp c r with
      | nil => simp [prep]
      | cons p ps => rw [hs] at ih; simp [prep] at ih ⊢; omega
theorem sp_total (c : UInt8) (s : Bs) : Str.total (sp c s) + (sp c s).length = s.length + 1 := by
  induction s with
  | nil => simp [sp, Str.total]
  | cons b r ih =>
    by_cases h : b = c
    · subst h; rw [sp_cons_eq]; simp [Str.total]; omega
    · rw [sp_cons_ne h]
      cases hs : sp c r with
      | nil => exact absurd hs (sp_ne c r)
      | cons p ps => rw [hs] at ih; simp [prep, Str.total] at ih ⊢; omega
theorem ref05_loop (s : Bs) (c : UInt8) (hs : s.length ≤ 1000000) : ∀ (n : Nat) (l : List Bs) (f i : Nat), s.length + 1 - i < n → i ≤ s.length → f ≤ i → l.length ≤ i →
    ref05_Split_L1 s c n (l, (f : Int), (i : Int)) = some (l ++ prep ((s.take i).drop f) (sp c (s.drop i))) := by
  intro n
  induction n with
  | zero => intro l f i h; omega
  | succ n ih =>
    intro l f i hn hi hf hl
    show ref05_Split_B1 s c (ref05_Split_L1 s c n) l (f : Int) (i : Int) = _
    unfold ref05_Split_B1 ref05_Split_j2
    by_cases h : i < s.length
    · have hd : s.drop i = s[i] :: s.drop (i + 1) := List.drop_eq_getElem_cons h
      have hne : decide ((i : Int) = (s.length : Int)) = false := decide_eq_false (by omega)
      simp (disch := omega) only [bT, hne, Bool.not_false, grdc_t, grd_At, lt_eq, at_nat h, Bool.false_or]
      rw [hd]
      by_cases hc : s[i] = c
      · simp (disch := (first | omega | (simp; omega))) only [hc, decide_true, cond_true, grd_Sub, sub_nat, grd_Cat, grd_I, cast_succ]
        rw [ih _ _ _ (by omega) (by omega) (by omega) (by simp; omega)]
        rw [List.drop_eq_nil_of_le (show (s.take (i + 1)).length ≤ i + 1 by simp; omega), prep_nil (sp_ne _ _), sp_cons_eq]
        simp [prep]
      · simp (disch := (first | omega | (simp; omega))) only [hc, decide_false, cond_false, grd_I, cast_succ]
        rw [ih _ _ _ (by omega) (by omega) (by omega) (by omega), sp_cons_ne hc, prep_prep]
        rw [List.take_succ_eq_append_getElem h, List.drop_append_of_le_length (by simp; omega)]
    · have hi2 : i = s.length := by omega
      subst hi2
      have hyes : decide ((s.length : Int) = (s.length : Int)) = true := decide_eq_true rfl
      simp (disch := (first | omega | (simp; omega))) only [bT, hyes, Bool.not_true, grdc_f, lt_eq, Bool.true_or, cond_true, grd_Sub, sub_nat, grd_Cat, grd_I, cast_succ, List.drop_length]
      obtain ⟨m, rfl⟩ : ∃ m, n = m + 1 := ⟨n - 1, by omega⟩
      show ref05_Split_B1 s c (ref05_Split_L1 s c m) _ _ ((s.length + 1 : Nat) : Int) = _
      unfold ref05_Split_B1 ref05_Split_j1
      have h1 : ¬ (((s.length + 1 : Nat) : Int) ≤ (s.length : Int)) := by omega
      rw [bF h1]
      simp [sp, prep]
theorem ref05_Split_eq (F : Nat) (s : Bs) (c : UInt8) (hs : s.length ≤ 1000000) (hF : s.length + 1 < F) : ref05_Split F s c = some (sp c s) := by
  have := ref05_loop s c hs F [] 0 0 (by omega) (by omega) (by omega) (by simp)
  rw [show ref05_Split F s c = ref05_Split_L1 s c F ([], ((0 : Nat) : Int), ((0 : Nat) : Int)) from rfl, this]
  simp [prep_nil (sp_ne _ _)]
end Go.Hd
namespace Go.Hd
open Go.Pv Go.Av
theorem of_all8 (p : UInt8 → Bool) (h : ∀ k : Fin 256, p (UInt8.ofNat k.val) = true) (b : UInt8) : p b = true := by
  have := h ⟨b.toNat, b.toNat_lt⟩
  simpa using this
theorem u64_id (x : Int) (h0 : 0 ≤ x) (h1 : x < 18446744073709551616) : IntKind.u64.wrap x = x := by
  have : IntKind.u64.wrap x = x % 18446744073709551616 := rfl
  rw [this]; omega
theorem bvn (n : Nat) (h : n < 2 ^ 64) : (BitVec.ofInt 64 (n : Int)).toNat = n := by
  rw [BitVec.ofInt_natCast, BitVec.toNat_ofNat]; exact Nat.mod_eq_of_lt h
theorem or_two (a b k : Nat) (ha : a * 2 ^ k < 2 ^ 64) (hb : b < 2 ^ k) (hk : b < 2 ^ 64) : (BitVec.ofInt IntKind.u64.bits ((a * 2 ^ k : Nat) : Int) ||| BitVec.ofInt IntKind.u64.bits (b : Int)).toNat = a * 2 ^ k + b := by
  show (BitVec.ofInt 64 ((a * 2 ^ k : Nat) : Int) ||| BitVec.ofInt 64 (b : Int)).toNat = _
  rw [BitVec.toNat_or, bvn _ ha, bvn _ hk, ← Nat.shiftLeft_eq, Nat.shiftLeft_add_eq_or_of_lt hb]
theorem and_63 (a : Nat) (ha : a < 2 ^ 64) : (BitVec.ofInt IntKind.u64.bits (a : Int) &&& BitVec.ofInt IntKind.u64.bits 63).toNat = a % 64 := by
  show (BitVec.ofInt 64 (a : Int) &&& BitVec.ofInt 64 ((63 : Nat) : Int)).toNat = _
  rw [BitVec.toNat_and, bvn _ ha, bvn _ (by decide)]
  exact Nat.and_two_pow_sub_one_eq_mod a 6
def q3 (a b c : Nat) : Nat := a * 65536 + b * 256 + c
def ch (n : Nat) : UInt8 := b64_k1.getD n default
theorem val3 (a b c : UInt8) : IntKind.u64.wrap ((BitVec.ofInt IntKind.u64.bits (IntKind.u64.wrap ((BitVec.ofInt IntKind.u64.bits (IntKind.u64.wrap ((IntKind.u64.wrap (a.toNat : Int)) * 2 ^ min (Int.toNat 16) IntKind.u64.bits)) ||| BitVec.ofInt IntKind.u64.bits (IntKind.u64.wrap ((IntKind.u64.wrap (b.toNat : Int)) * 2 ^ min (Int.toNat 8) IntKind.u64.bits))).toNat)) ||| BitVec.ofInt IntKind.u64.bits (IntKind.u64.wrap (c.toNat : Int))).toNat) = (q3 a.toNat b.toNat c.toNat : Int) := by
  have ha := a.toNat_lt
  have hb := b.toNat_lt
  have hc := c.toNat_lt
  have e16 : (2 : Int) ^ min (Int.toNat 16) IntKind.u64.bits = 65536 := by decide +kernel
  have e8 : (2 : Int) ^ min (Int.toNat 8) IntKind.u64.bits = 256 := by decide +kernel
  rw [e16, e8, u64_id a.toNat (by omega) (by omega), u64_id b.toNat (by omega) (by omega), u64_id c.toNat (by omega) (by omega)]
  rw [u64_id ((a.toNat : Int) * 65536) (by omega) (by omega), u64_id ((b.toNat : Int) * 256) (by omega) (by omega)]
  have e1 : (a.toNat : Int) * 65536 = ((a.toNat * 2 ^ 16 : Nat) : Int) := by omega
  have e2 : (b.toNat : Int) * 256 = ((b.toNat * 256 : Nat) : Int) := by omega
  rw [e1, e2, or_two a.toNat (b.toNat * 256) 16 (by omega) (by omega) (by omega)]
  rw [u64_id ((a.toNat * 2 ^ 16 + b.toNat * 256 : Nat) : Int) (by omega) (by omega)]
  have e3 : a.toNat * 2 ^ 16 + b.toNat * 256 = (a.toNat * 256 + b.toNat) * 2 ^ 8 := by omega
  rw [e3, or_two (a.toNat * 256 + b.toNat) c.toNat 8 (by omega) (by omega) (by omega)]
  rw [u64_id (((a.toNat * 256 + b.toNat) * 2 ^ 8 + c.toNat : Nat) : Int) (by omega) (by omega)]
  unfold q3; omega
theorem idx6 (s : Nat) (v : Nat) (hv : v < 16777216) (hs : s ≤ 18) : IntKind.u64.wrap ((BitVec.ofInt IntKind.u64.bits (Int.fdiv (v : Int) (2 ^ min s IntKind.u64.bits)) &&& BitVec.ofInt IntKind.u64.bits 63).toNat) = ((v / 2 ^ s % 64 : Nat) : Int) := by
  have e : min s IntKind.u64.bits = s := by show min s 64 = s; omega
  have e2 : Int.fdiv (v : Int) (2 ^ s) = ((v / 2 ^ s : Nat) : Int) := by
    have : ((2 : Int) ^ s) = ((2 ^ s : Nat) : Int) := by simp
    rw [this, Int.fdiv_eq_ediv_of_nonneg _ (Int.natCast_nonneg _)]; rfl
  have h1 : v / 2 ^ s ≤ v := Nat.div_le_self _ _
  rw [e, e2, and_63 _ (by omega), u64_id _ (by omega) (by omega)]
theorem k1_len : b64_k1.length = 64 := by decide +kernel
theorem rk_eq : headr_k1 = b64_k1 := by decide +kernel
theorem at_ch (n : Nat) : at_ b64_k1 (n : Int) = ch n := by
  unfold at_ ch; rw [Int.toNat_natCast]
def four (a b c : UInt8) : Bs := let v := q3 a.toNat b.toNat c.toNat; [ch (v / 262144), ch (v / 4096 % 64), ch (v / 64 % 64), ch (v % 64)]
def enc : Bs → Bs
  | a :: b :: c :: r => four a b c ++ enc r
  | [a, b] => (four a b 0).take 3 ++ [61]
  | [a] => (four a 0 0).take 2 ++ [61, 61]
  | [] => []
theorem enc_len : ∀ s : Bs, (enc s).length ≤ 2 * s.length + 2
  | a :: b :: c :: r => by
    have := enc_len r
    simp [enc, four]; omega
  | [a, b] => by simp [enc, four]
  | [a] => by simp [enc, four]
  | [] => by simp [enc]
theorem q3_lt (a b c : UInt8) : q3 a.toNat b.toNat c.toNat < 16777216 := by
  have ha := a.toNat_lt
  have hb := b.toNat_lt
  have hc := c.toNat_lt
  unfold q3; omega
theorem group_eq (F : Nat) (s : Bs) (a b c : UInt8) (hs : s.length ≤ 3) (h : cpyB [0, 0, 0] s = [a, b, c]) :
    b64_group F s = some (ch (q3 a.toNat b.toNat c.toNat / 262144), bif decide ((s.length : Int) < 1) then 61 else ch (q3 a.toNat b.toNat c.toNat / 4096 % 64), bif decide ((s.length : Int) < 2) then 61 else ch (q3 a.toNat b.toNat c.toNat / 64 % 64), bif decide ((s.length : Int) < 3) then 61 else ch (q3 a.toNat b.toNat c.toNat % 64)) := by
  have hq := q3_lt a b c
  unfold b64_group
  rw [grd_D hs, lt_eq, h]
  have g0 : ([a, b, c].getD 0 0) = a := rfl
  have g1 : ([a, b, c].getD 1 0) = b := rfl
  have g2 : ([a, b, c].getD 2 0) = c := rfl
  unfold b64_group_j5 b64_group_j4 b64_group_j3 b64_group_j2 b64_group_j1
  rw [g0, g1, g2, val3]
  have d16 : (decide ((0 : Int) ≤ 16)) = true := rfl
  have i18 := idx6 (Int.toNat 18) _ hq (by decide)
  have i12 := idx6 (Int.toNat 12) _ hq (by decide)
  have i6 := idx6 (Int.toNat 6) _ hq (by decide)
  have i0 := idx6 (Int.toNat 0) _ hq (by decide)
  rw [i18, i12, i6, i0]
  have k : ∀ n : Nat, okAt ((n % 64 : Nat) : Int) b64_k1.length = true := fun n => by rw [k1_len]; exact decide_eq_true (by omega)
  have e18 : q3 a.toNat b.toNat c.toNat / 2 ^ Int.toNat 18 % 64 = q3 a.toNat b.toNat c.toNat / 262144 := by
    show q3 a.toNat b.toNat c.toNat / 262144 % 64 = _; omega
  have e12 : q3 a.toNat b.toNat c.toNat / 2 ^ Int.toNat 12 % 64 = q3 a.toNat b.toNat c.toNat / 4096 % 64 := rfl
  have e6 : q3 a.toNat b.toNat c.toNat / 2 ^ Int.toNat 6 % 64 = q3 a.toNat b.toNat c.toNat / 64 % 64 := rfl
  have e0 : q3 a.toNat b.toNat c.toNat / 2 ^ Int.toNat 0 % 64 = q3 a.toNat b.toNat c.toNat % 64 := by
    show q3 a.toNat b.toNat c.toNat / 1 % 64 = _; omega
  have k2 : okAt ((q3 a.toNat b.toNat c.toNat / 262144 : Nat) : Int) b64_k1.length = true := by rw [k1_len]; exact decide_eq_true (by omega)
  simp (disch := first | omega | decide) only [grd_D, k, grd_t, lt_eq, at_ch, e18, e12, e6, e0, k2]
  rw [bF (by omega)]
  by_cases h1 : (s.length : Int) < 1
  · simp (disch := omega) only [bT]
  · by_cases h2 : (s.length : Int) < 2
    · simp (disch := omega) only [bT, bF]
    · by_cases h3 : (s.length : Int) < 3
      · simp (disch := omega) only [bT, bF]
      · simp (disch := omega) only [bF]
theorem raw_loop (F : Nat) : ∀ (n : Nat) (s out : Bs), s.length < n → out.length + 4 * s.length + 10 ≤ 100000000 → b64_Raw_L1 F n (s, out) = some (out ++ enc s) := by
  intro n
  induction n with
  | zero => intro s out h; omega
  | succ n ih =>
    intro s out hn hl
    show b64_Raw_B1 F (b64_Raw_L1 F n) s out = _
    unfold b64_Raw_B1
    have key : ∀ (p r g : Bs) (a b c : UInt8) (x y z w : UInt8), s = p ++ r → (min 3 (s.length : Int)) = (p.length : Int) → 1 ≤ p.length → p.length ≤ 3 → cpyB [0, 0, 0] p = [a, b, c] →
        b64_group F p = some (x, y, z, w) → enc s = [x, y, z, w] ++ enc r →
        (bif decide (0 < (s.length : Int)) then grd (okTo (min 3 (s.length : Int)) s.length) <| lt (to_ s (min 3 (s.length : Int))) fun x14 => bnd4 (b64_group F x14) fun x16 x17 x18 x19 => grd (okW out ([x16, x17, x18, x19] : List UInt8)) <| lt (out ++ ([x16, x17, x18, x19] : List UInt8)) fun x23 => grd (okTo (min 3 (s.length : Int)) s.length) <| lt (from_ s (min 3 (s.length : Int))) fun x27 => b64_Raw_L1 F n (x27, x23) else b64_Raw_j1 out) = some (out ++ enc s) := by
      intro p r g a b c x y z w hs hm h1 h3 hc hg he
      have hlen : s.length = p.length + r.length := by rw [hs]; simp
      rw [bT (by omega), grd_To (by omega), lt_eq, hm, to_nat]
      have e1 : s.take p.length = p := by rw [hs]; simp
      have e2 : s.drop p.length = r := by rw [hs]; simp
      rw [e1, hg]
      show grd (okW out [x, y, z, w]) _ = _
      rw [grd_W (by simp; omega), lt_eq, grd_To (by omega), lt_eq, from_nat, e2, ih _ _ (by omega) (by simp; omega), he]
      simp
    match s with
    | a :: b :: c :: r =>
      refine key [a, b, c] r [] a b c _ _ _ _ rfl (by simp; omega) (by simp) (by simp) rfl (group_eq F _ a b c (by simp) rfl) ?_
      rw [bF (by simp), bF (by simp), bF (by simp)]; rfl
    | [a, b] =>
      refine key [a, b] [] [] a b 0 _ _ _ _ rfl (by simp; try omega) (by simp) (by simp) rfl (group_eq F _ a b 0 (by simp) rfl) ?_
      rw [bF (by simp), bF (by simp), bT (by simp)]; rfl
    | [a] =>
      refine key [a] [] [] a 0 0 _ _ _ _ rfl (by simp; try omega) (by simp) (by simp) rfl (group_eq F _ a 0 0 (by simp) rfl) ?_
      rw [bF (by simp), bT (by simp), bT (by simp)]; rfl
    | [] =>
      rw [bF (by simp)]
      unfold b64_Raw_j1
      rw [grd_W (by simp at hl ⊢; omega)]; simp [enc]
theorem Raw_eq (F : Nat) (s : Bs) (hF : s.length < F) (hs : s.length ≤ 1000000) : b64_Raw F s = some (enc s) := by
  have := raw_loop F F s [] hF (by simp; omega)
  rw [List.nil_append] at this
  exact this
theorem rat_ch (n : Nat) : at_ headr_k1 (n : Int) = ch n := by rw [rk_eq]; exact at_ch n
theorem rk_len : headr_k1.length = 64 := by rw [rk_eq]; exact k1_len
theorem okc (n : Nat) (h : n < 64) : okAt (n : Int) headr_k1.length = true := by rw [rk_len]; exact decide_eq_true (by omega)
def gb (s : Bs) (i : Nat) : UInt8 := s.getD i 0
theorem j4_eq (s out : Bs) (i v : Nat) (rec8 : (Bs × Int) → Option Bs) (hs : s.length ≤ 1000000) (hi : i < s.length) (hv : v < 16777216) (ho : out.length ≤ 100000000) :
    ref13_Raw_j4 s out (i : Int) rec8 (v : Int) = rec8 (out ++ [ch (v / 262144), ch (v / 4096 % 64), bif decide (i + 1 < s.length) then ch (v / 64 % 64) else 61, bif decide (i + 2 < s.length) then ch (v % 64) else 61], ((i + 3 : Nat) : Int)) := by
  unfold ref13_Raw_j4
  have a1 : ((v : Int) / 262144) = ((v / 262144 : Nat) : Int) := by omega
  have a2 : ((v : Int) / 4096 % 64) = ((v / 4096 % 64 : Nat) : Int) := by omega
  have a3 : ((v : Int) / 64 % 64) = ((v / 64 % 64 : Nat) : Int) := by omega
  have a4 : ((v : Int) % 64) = ((v % 64 : Nat) : Int) := by omega
  have a5 : ((i : Int) + 3) = ((i + 3 : Nat) : Int) := by omega
  have hq : ∀ n : Nat, okAt ((n % 64 : Nat) : Int) headr_k1.length = true := fun n => okc _ (by omega)
  rw [grd_Div (by omega), a1, okc _ (by omega), grd_t, lt_eq, rat_ch, grd_Div (by omega), grd_Div (by omega), a2, hq, grd_t, lt_eq, rat_ch, grd_Cat (by simp; omega), lt_eq, grd_I (by omega)]
  unfold ref13_Raw_j3 ref13_Raw_j2
  by_cases h1 : i + 1 < s.length
  · rw [bT (show (i : Int) + 1 < s.length by omega), bT h1, grd_Div (by omega), grd_Div (by omega), a3, hq, grd_t, lt_eq, rat_ch, grd_Cat (by simp; omega), lt_eq, grd_I (by omega)]
    by_cases h2 : i + 2 < s.length
    · rw [bT (show (i : Int) + 2 < s.length by omega), bT h2, grd_Div (by omega), a4, hq, grd_t, lt_eq, rat_ch, grd_Cat (by simp; omega), lt_eq, grd_I (by omega), a5]
      simp
    · rw [bF (show ¬ (i : Int) + 2 < s.length by omega), bF h2, grd_Cat (by simp; omega), lt_eq, grd_I (by omega), a5]
      simp
  · rw [bF (show ¬ (i : Int) + 1 < s.length by omega), bF h1, grd_Cat (by simp; omega), lt_eq, grd_I (by omega)]
    rw [bF (show ¬ (i : Int) + 2 < s.length by omega), bF (show ¬ i + 2 < s.length by omega), grd_Cat (by simp; omega), lt_eq, grd_I (by omega), a5]
    simp
theorem rL1s (s out : Bs) (i : Int) (m : Nat) (rec8 : (Bs × Int) → Option Bs) (x : Int × Int) : ref13_Raw_L1 s out i rec8 (m + 1) x = ref13_Raw_B1 s out i rec8 (ref13_Raw_L1 s out i rec8 m) x.1 x.2 := rfl
theorem in_step (s out : Bs) (i j v m : Nat) (rec8 : (Bs × Int) → Option Bs) (hs : s.length ≤ 1000000) (hi : i < s.length) (hj : j < i + 3) (hv : v < 16777216) :
    ref13_Raw_L1 s out (i : Int) rec8 (m + 1) ((v : Int), (j : Int)) = ref13_Raw_L1 s out (i : Int) rec8 m (((256 * v + (gb s j).toNat : Nat) : Int), ((j + 1 : Nat) : Int)) := by
  show ref13_Raw_B1 s out (i : Int) rec8 (ref13_Raw_L1 s out (i : Int) rec8 m) (v : Int) (j : Int) = _
  unfold ref13_Raw_B1 ref13_Raw_j5
  rw [grd_I (by omega), bT (by omega), grd_I (by omega)]
  by_cases h : j < s.length
  · have h8 := s[j].toNat_lt
    rw [bT (by omega), grd_At (by omega), lt_eq, at_nat h, grd_I (by omega), grd_I (by omega)]
    have : gb s j = s[j] := by simp [gb, h]
    rw [this]; rfl
  · rw [bF (by omega), grd_I (by omega)]
    have : gb s j = 0 := by simp [gb, List.getD, List.getElem?_eq_none (show s.length ≤ j by omega)]
    rw [this]; rfl
theorem in_three (s out : Bs) (i m : Nat) (rec8 : (Bs × Int) → Option Bs) (hs : s.length ≤ 1000000) (hi : i < s.length) :
    ref13_Raw_L1 s out (i : Int) rec8 (m + 3) (((0 : Nat) : Int), (i : Int)) = ref13_Raw_L1 s out (i : Int) rec8 m (((q3 (gb s i).toNat (gb s (i + 1)).toNat (gb s (i + 2)).toNat : Nat) : Int), ((i + 3 : Nat) : Int)) := by
  have h0 := (gb s i).toNat_lt
  have h1 := (gb s (i + 1)).toNat_lt
  have h2 := (gb s (i + 2)).toNat_lt
  refine (in_step s out i i 0 (m + 2) rec8 hs hi (by omega) (by omega)).trans ?_
  refine (in_step s out i (i + 1) (256 * 0 + (gb s i).toNat) (m + 1) rec8 hs hi (by omega) (by omega)).trans ?_
  refine (in_step s out i (i + 2) (256 * (256 * 0 + (gb s i).toNat) + (gb s (i + 1)).toNat) m rec8 hs hi (by omega) (by omega)).trans ?_
  have e : 256 * (256 * (256 * 0 + (gb s i).toNat) + (gb s (i + 1)).toNat) + (gb s (i + 2)).toNat = q3 (gb s i).toNat (gb s (i + 1)).toNat (gb s (i + 2)).toNat := by unfold q3; omega
  rw [e]
theorem enc_drop (s : Bs) (i : Nat) (h : i < s.length) : enc (s.drop i) = [ch (q3 (gb s i).toNat (gb s (i + 1)).toNat (gb s (i + 2)).toNat / 262144), ch (q3 (gb s i).toNat (gb s (i + 1)).toNat (gb s (i + 2)).toNat / 4096 % 64), bif decide (i + 1 < s.length) then ch (q3 (gb s i).toNat (gb s (i + 1)).toNat (gb s (i + 2)).toNat / 64 % 64) else 61, bif decide (i + 2 < s.length) then ch (q3 (gb s i).toNat (gb s (i + 1)).toNat (gb s (i + 2)).toNat % 64) else 61] ++ enc (s.drop (i + 3)) := by
  have g : ∀ k, gb s (i + k) = (s.drop i).getD k 0 := by intro k; simp [gb, List.getD]
  have g0 := g 0
  have g1 := g 1
  have g2 := g 2
  have hl : (s.drop i).length = s.length - i := by simp
  have hd : s.drop (i + 3) = (s.drop i).drop 3 := by simp
  rw [Nat.add_zero] at g0
  rw [g0, g1, g2, hd]
  match hm : s.drop i with
  | a :: b :: c :: r => rw [hm] at hl; simp at hl; rw [bT (by omega), bT (by omega)]; rfl
  | [a, b] => rw [hm] at hl; simp at hl; rw [bT (by omega), bF (by omega)]; rfl
  | [a] => rw [hm] at hl; simp at hl; rw [bF (by omega), bF (by omega)]; rfl
  | [] => rw [hm] at hl; simp at hl; omega
theorem rraw_loop (F : Nat) (hF : 4 ≤ F) (s : Bs) (hs : s.length ≤ 1000000) : ∀ (n i : Nat) (out : Bs), s.length - i < n → i ≤ s.length + 3 → out.length ≤ 4 * i → ref13_Raw_L2 F s n (out, (i : Int)) = some (out ++ enc (s.drop i)) := by
  intro n
  induction n with
  | zero => intro i out h; omega
  | succ n ih =>
    intro i out hn hi ho
    show ref13_Raw_B2 F s (ref13_Raw_L2 F s n) out (i : Int) = _
    unfold ref13_Raw_B2
    by_cases h : i < s.length
    · obtain ⟨m, rfl⟩ : ∃ m, F = m + 4 := ⟨F - 4, by omega⟩
      have hq := q3_lt (gb s i) (gb s (i + 1)) (gb s (i + 2))
      rw [bT (by omega)]
      have h3 := in_three s out i (m + 1) (ref13_Raw_L2 (m + 4) s n) hs h
      refine h3.trans ?_
      rw [rL1s]
      unfold ref13_Raw_B1
      rw [grd_I (by omega), bF (by omega), j4_eq s out i _ _ hs h (by omega) (by omega), ih _ _ (by omega) (by omega) (by simp; omega), enc_drop s i h, List.append_assoc]
    · have hd : s.drop i = [] := List.drop_eq_nil_of_le (by omega)
      rw [bF (by omega), hd]
      unfold ref13_Raw_j1; simp [enc]
theorem rRaw_eq (F : Nat) (s : Bs) (hF : s.length + 4 < F) (hs : s.length ≤ 1000000) : ref13_Raw F s = some (enc s) := by
  have := rraw_loop F (by omega) s hs F 0 [] (by omega) (by omega) (by simp)
  rw [List.nil_append, List.drop_zero] at this
  exact this
end Go.Hd
namespace Go.Hd
open Go.Pv Go.Av
theorem of_all64 (p : Nat → Bool) (h : ∀ k : Fin 64, p k.val = true) (n : Nat) (hn : n < 64) : p n = true := h ⟨n, hn⟩
def num (c : UInt8) : Int := if c = 61 then 0 else Go.Lib.indexByte b64_k1 c
theorem num_ch (n : Nat) (h : n < 64) : num (ch n) = n ∧ ch n ≠ 61 := by
  have := of_all64 (fun n => decide (num (ch n) = n ∧ ch n ≠ 61)) (by decide +kernel) n h
  exact of_decide_eq_true this
def stp (acc n : Int) (c : UInt8) : Option (Int × Int) :=
  if num c < 0 ∨ (if c = 61 then n - 1 else n) < 1 then none
  else some (IntKind.u64.wrap ((BitVec.ofInt IntKind.u64.bits (IntKind.u64.wrap (acc * 2 ^ min (Int.toNat 6) IntKind.u64.bits)) ||| BitVec.ofInt IntKind.u64.bits (IntKind.u64.wrap (num c))).toNat), (if c = 61 then n - 1 else n))
theorem stp_n {acc n a m : Int} {c : UInt8} (h : stp acc n c = some (a, m)) : 1 ≤ m ∧ m ≤ n := by
  unfold stp at h
  by_cases hc : num c < 0 ∨ (if c = 61 then n - 1 else n) < 1
  · rw [if_pos hc] at h; cases h
  · rw [if_neg hc] at h
    have := (Prod.mk.inj (Option.some.inj h)).2
    rw [← this]
    by_cases h6 : c = 61
    · rw [if_pos h6] at hc ⊢; omega
    · rw [if_neg h6] at hc ⊢; omega
theorem stp_ch (acc : Nat) (n : Int) (k : Nat) (ha : acc < 262144) (hk : k < 64) (hn : 1 ≤ n) : stp (acc : Int) n (ch k) = some (((acc * 64 + k : Nat) : Int), n) := by
  have ⟨h1, h2⟩ := num_ch k hk
  have e6 : (2 : Int) ^ min (Int.toNat 6) IntKind.u64.bits = 64 := by decide +kernel
  have e7 : (acc : Int) * 64 = ((acc * 2 ^ 6 : Nat) : Int) := by omega
  unfold stp
  rw [if_neg h2, if_neg (by omega), h1, e6, u64_id ((acc : Int) * 64) (by omega) (by omega), u64_id (k : Int) (by omega) (by omega), e7, or_two acc k 6 (by omega) (by omega) (by omega), u64_id ((acc * 2 ^ 6 + k : Nat) : Int) (by omega) (by omega)]
theorem stp_pad (acc : Nat) (n : Int) (ha : acc < 262144) (hn : 2 ≤ n) : stp (acc : Int) n 61 = some (((acc * 64 : Nat) : Int), n - 1) := by
  have e6 : (2 : Int) ^ min (Int.toNat 6) IntKind.u64.bits = 64 := by decide +kernel
  have e7 : (acc : Int) * 64 = ((acc * 2 ^ 6 : Nat) : Int) := by omega
  have e8 : num 61 = ((0 : Nat) : Int) := rfl
  unfold stp
  rw [if_pos rfl, if_neg (by rw [e8]; omega), e8, e6, u64_id ((acc : Int) * 64) (by omega) (by omega), u64_id ((0 : Nat) : Int) (by omega) (by omega), e7, or_two acc 0 6 (by omega) (by omega) (by omega), u64_id ((acc * 2 ^ 6 + 0 : Nat) : Int) (by omega) (by omega), Nat.add_zero]
def g4 (c0 c1 c2 c3 : UInt8) : Option (Int × Int) :=
  match stp 0 3 c0 with
  | none => none
  | some (a, n) => match stp a n c1 with
    | none => none
    | some (a, n) => match stp a n c2 with
      | none => none
      | some (a, n) => stp a n c3
def three (v n : Int) : Bs := to_ ([Go.Av.toB (Int.fdiv v (2 ^ min (Int.toNat 16) IntKind.u64.bits)), Go.Av.toB (Int.fdiv v (2 ^ min (Int.toNat 8) IntKind.u64.bits)), Go.Av.toB v] : Bs) n
def decP : Bs → Option Bs
  | [] => some []
  | c0 :: c1 :: c2 :: c3 :: r => match g4 c0 c1 c2 c3 with
    | none => none
    | some (v, n) => match decP r with
      | none => none
      | some d => some (three v n ++ d)
  | _ => none
theorem p_step (out s : Bs) (rec8 : (Bs × Bs) → Option (Bs × Int)) (m j : Nat) (acc n : Int) (hj : j < 4) (hs : 4 ≤ s.length) (hn : n ≤ 3 ∧ 0 ≤ n) (c : UInt8) (hcc : s[j]'(by omega) = c) :
    b64_Bytes_L1 out s rec8 (m + 1) (acc, n, (j : Int)) = match stp acc n c with
      | none => some ([], 2)
      | some (a, k) => b64_Bytes_L1 out s rec8 m (a, k, ((j + 1 : Nat) : Int)) := by
  subst hcc
  show b64_Bytes_B1 out s rec8 (b64_Bytes_L1 out s rec8 m) acc n (j : Int) = _
  unfold b64_Bytes_B1 b64_Bytes_j3 stp num
  rw [bT (by omega), grd_At (by omega), lt_eq, at_nat (by omega), lt_eq, grd_At (by omega), lt_eq]
  by_cases hc : s[j]'(by omega) = 61
  · rw [bT hc, if_pos hc, if_pos hc, grd_I (by omega)]
    by_cases h1 : n - 1 < 1
    · rw [decide_eq_true h1, Bool.or_true, cond_true, if_pos (.inr h1)]
    · rw [decide_eq_false h1, decide_eq_false (by omega), Bool.or_false, cond_false, if_neg (by omega), grd_D (by omega), grd_I (by omega)]; rfl
  · rw [bF hc, if_neg hc, if_neg hc]
    by_cases h1 : Go.Lib.indexByte b64_k1 (s[j]'(by omega)) < 0
    · rw [decide_eq_true h1, Bool.true_or, cond_true, if_pos (.inl h1)]
    · by_cases h2 : n < 1
      · rw [decide_eq_true h2, Bool.or_true, cond_true, if_pos (.inr h2)]
      · rw [decide_eq_false h1, decide_eq_false h2, Bool.or_false, cond_false, if_neg (by omega), grd_D (by omega), grd_I (by omega)]; rfl
theorem three_len (v n : Int) : (three v n).length ≤ 3 := by unfold three to_; simp; omega
theorem p_four (out : Bs) (c0 c1 c2 c3 : UInt8) (r : Bs) (rec8 : (Bs × Bs) → Option (Bs × Int)) (m : Nat) (ho : out.length ≤ 10000000) :
    b64_Bytes_L1 out (c0 :: c1 :: c2 :: c3 :: r) rec8 (m + 5) (0, 3, 0) = match g4 c0 c1 c2 c3 with
      | none => some ([], 2)
      | some (v, n) => rec8 (out ++ three v n, r) := by
  have hl : 4 ≤ (c0 :: c1 :: c2 :: c3 :: r).length := by simp
  unfold g4
  refine (p_step out (c0 :: c1 :: c2 :: c3 :: r) rec8 (m + 4) 0 0 3 (by omega) hl (by omega) c0 rfl).trans ?_
  cases h0 : stp 0 3 c0 with
  | none => rfl
  | some x =>
    obtain ⟨a0, n0⟩ := x
    have b0 := stp_n h0
    refine (p_step out (c0 :: c1 :: c2 :: c3 :: r) rec8 (m + 3) 1 a0 n0 (by omega) hl (by omega) c1 rfl).trans ?_
    dsimp only
    cases h1 : stp a0 n0 c1 with
    | none => rfl
    | some x =>
      obtain ⟨a1, n1⟩ := x
      have b1 := stp_n h1
      refine (p_step out (c0 :: c1 :: c2 :: c3 :: r) rec8 (m + 2) 2 a1 n1 (by omega) hl (by omega) c2 rfl).trans ?_
      dsimp only
      cases h2 : stp a1 n1 c2 with
      | none => rfl
      | some x =>
        obtain ⟨a2, n2⟩ := x
        have b2 := stp_n h2
        refine (p_step out (c0 :: c1 :: c2 :: c3 :: r) rec8 (m + 1) 3 a2 n2 (by omega) hl (by omega) c3 rfl).trans ?_
        dsimp only
        cases h3 : stp a2 n2 c3 with
        | none => rfl
        | some x =>
          obtain ⟨a3, n3⟩ := x
          have b3 := stp_n h3
          show b64_Bytes_B1 out (c0 :: c1 :: c2 :: c3 :: r) rec8 (b64_Bytes_L1 out (c0 :: c1 :: c2 :: c3 :: r) rec8 m) a3 n3 ((4 : Nat) : Int) = _
          unfold b64_Bytes_B1 b64_Bytes_j2
          have ht := three_len a3 n3
          have hd : from_ (c0 :: c1 :: c2 :: c3 :: r) 4 = r := rfl
          rw [bF (by omega), grd_D (by omega), grd_D (by omega), grd_To (by simp; omega), lt_eq]
          show grd (okCat (out.length + (three a3 n3).length)) _ = _
          rw [grd_Cat (by omega), lt_eq, grd_To (by simp; omega), lt_eq, hd]; rfl
theorem p_loop (F : Nat) (hF : 5 ≤ F) (a : Bs) : ∀ (n : Nat) (out s : Bs), s.length < n → out.length + s.length ≤ 10000000 →
    b64_Bytes_L2 F a n (out, s) = match decP s with
      | none => some ([], 2)
      | some d => b64_Bytes_j1 F a (out ++ d) := by
  intro n
  induction n with
  | zero => intro out s h; omega
  | succ n ih =>
    intro out s hn hl
    show b64_Bytes_B2 F a (b64_Bytes_L2 F a n) out s = _
    unfold b64_Bytes_B2
    match s with
    | [] => 
      rw [decide_eq_true rfl, Bool.not_true, cond_false]
      show _ = b64_Bytes_j1 F a (out ++ [])
      rw [List.append_nil]
    | [_] => rw [decide_eq_false (by simp), Bool.not_false, cond_true, bT (by simp)]; rfl
    | [_, _] => rw [decide_eq_false (by simp), Bool.not_false, cond_true, bT (by simp)]; rfl
    | [_, _, _] => rw [decide_eq_false (by simp), Bool.not_false, cond_true, bT (by simp)]; rfl
    | c0 :: c1 :: c2 :: c3 :: r =>
      obtain ⟨m, rfl⟩ : ∃ m, F = m + 5 := ⟨F - 5, by omega⟩
      simp only [List.length_cons] at hl hn
      rw [decide_eq_false (by simp), Bool.not_false, cond_true, bF (by simp; omega), p_four out c0 c1 c2 c3 r _ m (by omega)]
      unfold decP
      cases hg : g4 c0 c1 c2 c3 with
      | none => rfl
      | some x =>
        obtain ⟨v, k⟩ := x
        have ht := three_len v k
        show b64_Bytes_L2 (m + 5) a n (out ++ three v k, r) = _
        rw [ih _ _ (by omega) (by simp; omega)]
        cases decP r with
        | none => rfl
        | some d => 
          show b64_Bytes_j1 _ a (out ++ three v k ++ d) = b64_Bytes_j1 _ a (out ++ (three v k ++ d))
          rw [List.append_assoc]
theorem toB_v (v : Nat) (b : UInt8) (h : v % 256 = b.toNat) : Go.Av.toB (v : Int) = b := by
  have e : ((v : Int) % 256).toNat = b.toNat := by omega
  unfold Go.Av.toB
  rw [e]; simp
theorem fd (v k : Nat) : Int.fdiv (v : Int) ((k : Nat) : Int) = ((v / k : Nat) : Int) := by
  rw [Int.fdiv_eq_ediv_of_nonneg _ (Int.natCast_nonneg _)]; rfl
theorem three_q (a b c : UInt8) (n : Nat) : three (q3 a.toNat b.toNat c.toNat : Int) (n : Int) = [a, b, c].take n := by
  have ha := a.toNat_lt
  have hb := b.toNat_lt
  have hc := c.toNat_lt
  have e16 : (2 : Int) ^ min (Int.toNat 16) IntKind.u64.bits = ((65536 : Nat) : Int) := by decide +kernel
  have e8 : (2 : Int) ^ min (Int.toNat 8) IntKind.u64.bits = ((256 : Nat) : Int) := by decide +kernel
  unfold three
  rw [e16, e8, fd, fd, toB_v _ a (by unfold q3; omega), toB_v _ b (by unfold q3; omega), toB_v _ c (by unfold q3; omega), to_nat]
theorem g4_full (a b c : UInt8) : g4 (ch (q3 a.toNat b.toNat c.toNat / 262144)) (ch (q3 a.toNat b.toNat c.toNat / 4096 % 64)) (ch (q3 a.toNat b.toNat c.toNat / 64 % 64)) (ch (q3 a.toNat b.toNat c.toNat % 64)) = some (((q3 a.toNat b.toNat c.toNat : Nat) : Int), 3) := by
  have hq := q3_lt a b c
  generalize q3 a.toNat b.toNat c.toNat = v at hq
  have h0 := stp_ch 0 3 (v / 262144) (by omega) (by omega) (by omega)
  have h1 := stp_ch (0 * 64 + v / 262144) 3 (v / 4096 % 64) (by omega) (by omega) (by omega)
  have h2 := stp_ch ((0 * 64 + v / 262144) * 64 + v / 4096 % 64) 3 (v / 64 % 64) (by omega) (by omega) (by omega)
  have h3 := stp_ch (((0 * 64 + v / 262144) * 64 + v / 4096 % 64) * 64 + v / 64 % 64) 3 (v % 64) (by omega) (by omega) (by omega)
  have e : (((0 * 64 + v / 262144) * 64 + v / 4096 % 64) * 64 + v / 64 % 64) * 64 + v % 64 = v := by omega
  rw [e] at h3
  unfold g4
  rw [show (0 : Int) = ((0 : Nat) : Int) from rfl, h0]
  simp only [h1, h2, h3]
theorem g4_two (a b : UInt8) : g4 (ch (q3 a.toNat b.toNat 0 / 262144)) (ch (q3 a.toNat b.toNat 0 / 4096 % 64)) (ch (q3 a.toNat b.toNat 0 / 64 % 64)) 61 = some (((q3 a.toNat b.toNat 0 : Nat) : Int), 2) := by
  have hq := q3_lt a b 0
  have hv : q3 a.toNat b.toNat 0 % 64 = 0 := by unfold q3; omega
  have hz : (0 : UInt8).toNat = 0 := rfl
  rw [hz] at hq
  generalize q3 a.toNat b.toNat 0 = v at hq hv
  have h0 := stp_ch 0 3 (v / 262144) (by omega) (by omega) (by omega)
  have h1 := stp_ch (0 * 64 + v / 262144) 3 (v / 4096 % 64) (by omega) (by omega) (by omega)
  have h2 := stp_ch ((0 * 64 + v / 262144) * 64 + v / 4096 % 64) 3 (v / 64 % 64) (by omega) (by omega) (by omega)
  have h3 := stp_pad (((0 * 64 + v / 262144) * 64 + v / 4096 % 64) * 64 + v / 64 % 64) 3 (by omega) (by omega)
  have e : (((0 * 64 + v / 262144) * 64 + v / 4096 % 64) * 64 + v / 64 % 64) * 64 = v := by omega
  rw [e] at h3
  unfold g4
  rw [show (0 : Int) = ((0 : Nat) : Int) from rfl, h0]
  simp only [h1, h2, h3]; rfl
theorem g4_one (a : UInt8) : g4 (ch (q3 a.toNat 0 0 / 262144)) (ch (q3 a.toNat 0 0 / 4096 % 64)) 61 61 = some (((q3 a.toNat 0 0 : Nat) : Int), 1) := by
  have hq := q3_lt a 0 0
  have hv : q3 a.toNat 0 0 % 4096 = 0 := by unfold q3; omega
  have hz : (0 : UInt8).toNat = 0 := rfl
  rw [hz] at hq
  generalize q3 a.toNat 0 0 = v at hq hv
  have h0 := stp_ch 0 3 (v / 262144) (by omega) (by omega) (by omega)
  have h1 := stp_ch (0 * 64 + v / 262144) 3 (v / 4096 % 64) (by omega) (by omega) (by omega)
  have h2 := stp_pad ((0 * 64 + v / 262144) * 64 + v / 4096 % 64) 3 (by omega) (by omega)
  have h3 := stp_pad (((0 * 64 + v / 262144) * 64 + v / 4096 % 64) * 64) (3 - 1) (by omega) (by omega)
  have e : (((0 * 64 + v / 262144) * 64 + v / 4096 % 64) * 64) * 64 = v := by omega
  rw [e] at h3
  unfold g4
  rw [show (0 : Int) = ((0 : Nat) : Int) from rfl, h0]
  simp only [h1, h2, h3]; rfl
theorem decP_enc : ∀ b : Bs, decP (enc b) = some b
  | a :: b :: c :: r => by
    have ih := decP_enc r
    show decP (_ :: _ :: _ :: _ :: enc r) = _
    unfold decP
    rw [g4_full, ih]
    show some (three (q3 a.toNat b.toNat c.toNat : Int) ((3 : Nat) : Int) ++ r) = _
    rw [three_q]; rfl
  | [a, b] => by
    show decP (_ :: _ :: _ :: _ :: []) = _
    unfold decP
    rw [show (0 : UInt8).toNat = 0 from rfl, g4_two]
    show some (three (q3 a.toNat b.toNat (0 : UInt8).toNat : Int) ((2 : Nat) : Int) ++ []) = _
    rw [three_q]; rfl
  | [a] => by
    show decP (_ :: _ :: _ :: _ :: []) = _
    unfold decP
    rw [show (0 : UInt8).toNat = 0 from rfl, g4_one]
    show some (three (q3 a.toNat (0 : UInt8).toNat (0 : UInt8).toNat : Int) ((1 : Nat) : Int) ++ []) = _
    rw [three_q]; rfl
  | [] => rfl
theorem enc_inj {a b : Bs} (h : enc a = enc b) : a = b := by
  have := decP_enc a
  rw [h, decP_enc] at this
  exact (Option.some.inj this).symm
theorem decP_len : ∀ (s d : Bs), decP s = some d → d.length ≤ s.length
  | [], d, h => by cases h; simp
  | [_], d, h => by cases h
  | [_, _], d, h => by cases h
  | [_, _, _], d, h => by cases h
  | c0 :: c1 :: c2 :: c3 :: r, d, h => by
    unfold decP at h
    cases hg : g4 c0 c1 c2 c3 with
    | none => rw [hg] at h; cases h
    | some x =>
      obtain ⟨v, n⟩ := x
      rw [hg] at h
      cases hr : decP r with
      | none => rw [hr] at h; cases h
      | some e =>
        rw [hr] at h
        cases h
        have := decP_len r e hr
        have := three_len v n
        simp; omega
open Classical in
noncomputable def dec (s : Bs) : Bs × Int := if h : ∃ b, enc b = s then (h.choose, 0) else ([], 2)
theorem dec_enc (b : Bs) : dec (enc b) = (b, 0) := by
  have h : ∃ x, enc x = enc b := ⟨b, rfl⟩
  unfold dec
  rw [dif_pos h]
  exact Prod.ext (enc_inj h.choose_spec) rfl
theorem dec_no {s : Bs} (h : ¬ ∃ b, enc b = s) : dec s = ([], 2) := by unfold dec; rw [dif_neg h]
theorem Bytes_eq (F : Nat) (s : Bs) (hs : s.length ≤ 400000) (hF : s.length + 10 < F) : b64_Bytes F s = some (dec s) := by
  have hl := p_loop F (by omega) s F [] s (by omega) (by simp; omega)
  show b64_Bytes_L2 F s F ([], s) = _
  rw [hl]
  cases hd : decP s with
  | none =>
    rw [dec_no (fun ⟨b, hb⟩ => by rw [← hb, decP_enc] at hd; cases hd)]
  | some d =>
    have hdl := decP_len s d hd
    show b64_Bytes_j1 F s ([] ++ d) = _
    unfold b64_Bytes_j1
    rw [List.nil_append, Raw_eq F d (by omega) (by omega), bnd_some]
    by_cases he : enc d = s
    · rw [decide_eq_true he, Bool.not_true, cond_false, ← he, dec_enc]
    · rw [decide_eq_false he, Bool.not_false, cond_true, dec_no (fun ⟨b, hb⟩ => by
        apply he; rw [← hb, decP_enc] at hd; cases hd; exact hb)]
end Go.Hd
namespace Go.Hd
open Go.Pv Go.Av
def nrL (c : UInt8) : Bs → Nat → Nat
  | [], _ => 0
  | x :: r, i => if x = c then i else nrL c r (i + 1)
def nr (c : UInt8) : Nat := nrL c headr_k1 0
theorem nr_lt (c : UInt8) : nr c < 64 := by
  have := of_all8 (fun c => decide (nr c < 64)) (by decide +kernel) c
  exact of_decide_eq_true this
theorem nr_ch (n : Nat) (h : n < 64) : nr (ch n) = n := by
  have := of_all64 (fun n => decide (nr (ch n) = n)) (by decide +kernel) n h
  exact of_decide_eq_true this
theorem nr_loop (c : UInt8) : ∀ (n i : Nat), 64 - i < n → i ≤ 64 → ref13_number_L1 c n (i : Int) = some ((nrL c (headr_k1.drop i) i : Nat) : Int) := by
  intro n
  induction n with
  | zero => intro i h; omega
  | succ n ih =>
    intro i hn hi
    show ref13_number_B1 c (ref13_number_L1 c n) (i : Int) = _
    unfold ref13_number_B1 ref13_number_j1
    have hl := rk_len
    by_cases h : i < 64
    · have hd : headr_k1.drop i = headr_k1[i]'(by omega) :: headr_k1.drop (i + 1) := List.drop_eq_getElem_cons (by omega)
      rw [bT (by omega), grd_At (by omega), lt_eq, at_nat (by omega), hd]
      unfold nrL
      by_cases hc : headr_k1[i]'(by omega) = c
      · rw [bT hc, if_pos hc]
      · rw [bF hc, if_neg hc, grd_I (by omega), cast_succ, ih (i + 1) (by omega) (by omega)]
    · have hd : headr_k1.drop i = [] := List.drop_eq_nil_of_le (by omega)
      rw [bF (by omega), hd]; rfl
theorem number_eq (F : Nat) (hF : 64 < F) (c : UInt8) : ref13_number F c = some ((nr c : Nat) : Int) := by
  have := nr_loop c F 0 (by omega) (by omega)
  exact this
def v4 (a b c d : UInt8) : Nat := 64 * (64 * (64 * nr a + nr b) + nr c) + nr d
def bytes3 (v : Nat) : Bs := [UInt8.ofNat (v / 65536), UInt8.ofNat (v / 256 % 256), UInt8.ofNat (v % 256)]
def grR : Bs → Bs
  | a :: b :: c :: d :: r => bytes3 (v4 a b c d) ++ grR r
  | _ => []
def strip (s : Bs) (k : Nat) (d : Bs) : Bs := if k ≤ s.length ∧ gb s (s.length - k) = 61 then d.take (d.length - 1) else d
def decR (s : Bs) : Bs := strip s 2 (strip s 1 (grR s))
theorem r_step (F : Nat) (hF : 64 < F) (s out : Bs) (i j v m : Nat) (rec10 : (Bs × Int) → Option (Bs × Int)) (hs : s.length ≤ 1000000) (hi : i + 4 ≤ s.length) (hj : j < i + 4) (hv : v < 16777216) :
    ref13_Bytes_L2 F s out (i : Int) rec10 (m + 1) ((v : Int), (j : Int)) = ref13_Bytes_L2 F s out (i : Int) rec10 m (((64 * v + nr (gb s j) : Nat) : Int), ((j + 1 : Nat) : Int)) := by
  show ref13_Bytes_B2 F s out (i : Int) rec10 (ref13_Bytes_L2 F s out (i : Int) rec10 m) (v : Int) (j : Int) = _
  unfold ref13_Bytes_B2
  have hlt := nr_lt (gb s j)
  have hg : gb s j = s[j]'(by omega) := by simp [gb, show j < s.length by omega]
  rw [grd_I (by omega), bT (by omega), grd_I (by omega), grd_At (by omega), lt_eq, at_nat (by omega), number_eq F hF, bnd_some, ← hg, grd_I (by omega), grd_I (by omega)]
  rfl
theorem r_four (F : Nat) (hF : 64 < F) (s out : Bs) (i m : Nat) (rec10 : (Bs × Int) → Option (Bs × Int)) (hs : s.length ≤ 1000000) (hi : i + 4 ≤ s.length) :
    ref13_Bytes_L2 F s out (i : Int) rec10 (m + 4) (((0 : Nat) : Int), (i : Int)) = ref13_Bytes_L2 F s out (i : Int) rec10 m (((v4 (gb s i) (gb s (i + 1)) (gb s (i + 2)) (gb s (i + 3)) : Nat) : Int), ((i + 4 : Nat) : Int)) := by
  have h0 := nr_lt (gb s i)
  have h1 := nr_lt (gb s (i + 1))
  have h2 := nr_lt (gb s (i + 2))
  refine (r_step F hF s out i i 0 (m + 3) rec10 hs hi (by omega) (by omega)).trans ?_
  refine (r_step F hF s out i (i + 1) (64 * 0 + nr (gb s i)) (m + 2) rec10 hs hi (by omega) (by omega)).trans ?_
  refine (r_step F hF s out i (i + 2) (64 * (64 * 0 + nr (gb s i)) + nr (gb s (i + 1))) (m + 1) rec10 hs hi (by omega) (by omega)).trans ?_
  refine (r_step F hF s out i (i + 3) (64 * (64 * (64 * 0 + nr (gb s i)) + nr (gb s (i + 1))) + nr (gb s (i + 2))) m rec10 hs hi (by omega) (by omega)).trans ?_
  have e : 64 * (64 * (64 * (64 * 0 + nr (gb s i)) + nr (gb s (i + 1))) + nr (gb s (i + 2))) + nr (gb s (i + 3)) = v4 (gb s i) (gb s (i + 1)) (gb s (i + 2)) (gb s (i + 3)) := by unfold v4; omega
  rw [e]
theorem v4_lt (a b c d : UInt8) : v4 a b c d < 16777216 := by
  have h0 := nr_lt a
  have h1 := nr_lt b
  have h2 := nr_lt c
  have h3 := nr_lt d
  unfold v4; omega
theorem toB_n (v : Nat) (h : v < 256) : Go.Av.toB (v : Int) = UInt8.ofNat v := by
  have e : ((v : Int) % 256).toNat = v := by omega
  unfold Go.Av.toB
  rw [e]
theorem gr_drop (s : Bs) (i : Nat) (h : i + 4 ≤ s.length) : grR (s.drop i) = bytes3 (v4 (gb s i) (gb s (i + 1)) (gb s (i + 2)) (gb s (i + 3))) ++ grR (s.drop (i + 4)) := by
  have g : ∀ k, gb s (i + k) = (s.drop i).getD k 0 := by intro k; simp [gb, List.getD]
  have g0 := g 0
  have hl : (s.drop i).length = s.length - i := by simp
  have hd : s.drop (i + 4) = (s.drop i).drop 4 := by simp
  rw [Nat.add_zero] at g0
  rw [g0, g 1, g 2, g 3, hd]
  match hm : s.drop i with
  | a :: b :: c :: d :: r => rfl
  | [a, b, c] => rw [hm] at hl; simp at hl; omega
  | [a, b] => rw [hm] at hl; simp at hl; omega
  | [a] => rw [hm] at hl; simp at hl; omega
  | [] => rw [hm] at hl; simp at hl; omega
theorem rB2 (F : Nat) (s out : Bs) (i : Int) (rec10 : (Bs × Int) → Option (Bs × Int)) (m : Nat) (x : Int × Int) : ref13_Bytes_L2 F s out i rec10 (m + 1) x = ref13_Bytes_B2 F s out i rec10 (ref13_Bytes_L2 F s out i rec10 m) x.1 x.2 := rfl
theorem r_loop (F : Nat) (hF : 64 < F) (s : Bs) (hs : s.length ≤ 1000000) (h4 : s.length % 4 = 0) : ∀ (n i : Nat) (out : Bs), s.length - i < n → i ≤ s.length → i % 4 = 0 → out.length ≤ i → ref13_Bytes_L3 F s n (out, (i : Int)) = ref13_Bytes_j3 F s (out ++ grR (s.drop i)) := by
  intro n
  induction n with
  | zero => intro i out h; omega
  | succ n ih =>
    intro i out hn hi hm ho
    show ref13_Bytes_B3 F s (ref13_Bytes_L3 F s n) out (i : Int) = _
    unfold ref13_Bytes_B3
    by_cases h : i < s.length
    · obtain ⟨m, rfl⟩ : ∃ m, F = m + 5 := ⟨F - 5, by omega⟩
      have hv := v4_lt (gb s i) (gb s (i + 1)) (gb s (i + 2)) (gb s (i + 3))
      rw [bT (by omega)]
      have h3 := r_four (m + 5) hF s out i (m + 1) (ref13_Bytes_L3 (m + 5) s n) hs (by omega)
      refine h3.trans ?_
      rw [gr_drop s i (by omega)]
      generalize v4 (gb s i) (gb s (i + 1)) (gb s (i + 2)) (gb s (i + 3)) = v at hv
      rw [rB2]
      unfold ref13_Bytes_B2 ref13_Bytes_j5 ref13_Bytes_j4
      have a1 : (v : Int) / 65536 = ((v / 65536 : Nat) : Int) := by omega
      have a2 : (v : Int) / 256 % 256 = ((v / 256 % 256 : Nat) : Int) := by omega
      have a3 : (v : Int) % 256 = ((v % 256 : Nat) : Int) := by omega
      have a4 : ((i : Int) + 4) = ((i + 4 : Nat) : Int) := by omega
      rw [grd_I (by omega), bF (by omega), grd_Div (by omega), grd_Div (by omega), grd_Div (by omega), grd_Div (by omega), a1, a2, a3, toB_n _ (by omega), toB_n _ (by omega), toB_n _ (by omega)]
      rw [grd_Cat (by simp; omega), lt_eq, grd_I (by omega), a4, ih _ _ (by omega) (by omega) (by omega) (by simp; omega), List.append_assoc]
      rfl
    · have hd : s.drop i = [] := List.drop_eq_nil_of_le (by omega)
      rw [bF (by omega), hd]
      show _ = ref13_Bytes_j3 F s (out ++ [])
      rw [List.append_nil]
theorem grR_len : ∀ s : Bs, s.length % 4 = 0 → 4 * (grR s).length = 3 * s.length
  | a :: b :: c :: d :: r, h => by
    have ih := grR_len r (by simp at h; omega)
    simp [grR, bytes3]; omega
  | [a, b, c], h => by simp at h
  | [a, b], h => by simp at h
  | [a], h => by simp at h
  | [], h => rfl
theorem strip_len (s d : Bs) (k : Nat) : (strip s k d).length ≤ d.length ∧ d.length ≤ (strip s k d).length + 1 := by
  unfold strip
  split
  · simp; omega
  · omega
theorem s_step (F : Nat) (s d : Bs) (k m : Nat) (hk : 1 ≤ k ∧ k ≤ 2) (hs : s.length ≤ 1000000) (hd : d.length ≤ 1000000) (hd1 : k ≤ s.length → 1 ≤ d.length) :
    ref13_Bytes_L1 F s (m + 1) (d, (k : Int)) = ref13_Bytes_L1 F s m (strip s k d, ((k + 1 : Nat) : Int)) := by
  show ref13_Bytes_B1 F s (ref13_Bytes_L1 F s m) d (k : Int) = _
  unfold ref13_Bytes_B1 ref13_Bytes_j2 strip
  rw [bT (by omega)]
  by_cases h : k ≤ s.length
  · have e : (s.length : Int) - k = ((s.length - k : Nat) : Int) := by omega
    have hg : gb s (s.length - k) = s[s.length - k]'(by omega) := by simp [gb, show s.length - k < s.length by omega]
    rw [decide_eq_true (show (k : Int) ≤ s.length by omega), grdc_t, grd_I (by omega), grdc_t, grd_At (by omega), lt_eq, e, at_nat (by omega), Bool.true_and, hg]
    by_cases hc : s[s.length - k]'(by omega) = 61
    · have e2 : (d.length : Int) - 1 = ((d.length - 1 : Nat) : Int) := by have := hd1 h; omega
      rw [bT hc, if_pos ⟨h, hc⟩, grd_I (by omega), grd_To (by have := hd1 h; omega), lt_eq, e2, to_nat, grd_Cat (by simp; omega), grd_I (by omega)]; rfl
    · rw [bF hc, if_neg (fun x => hc x.2), grd_I (by omega)]; rfl
  · rw [decide_eq_false (show ¬ (k : Int) ≤ s.length by omega), grdc_f, grdc_f, lt_eq, Bool.false_and, cond_false, if_neg (fun x => h x.1), grd_I (by omega)]; rfl
theorem rBytes_dec (F : Nat) (s : Bs) (hs : s.length ≤ 400000) (hF : s.length + 100 < F) : ref13_Bytes F s = if s.length % 4 = 0 then ref13_Bytes_j1 F s (decR s) else some ([], 2) := by
  unfold ref13_Bytes
  rw [grd_Div (by omega)]
  by_cases h : s.length % 4 = 0
  · rw [decide_eq_true (show (s.length : Int) % 4 = 0 by omega), Bool.not_true, cond_false, if_pos h]
    have h2 := r_loop F (by omega) s (by omega) h F 0 [] (by omega) (by omega) rfl (by simp)
    refine h2.trans ?_
    rw [List.nil_append, List.drop_zero]
    obtain ⟨m, rfl⟩ : ∃ m, F = m + 3 := ⟨F - 3, by omega⟩
    have hl := grR_len s h
    have l1 := strip_len s (grR s) 1
    have l2 := strip_len s (strip s 1 (grR s)) 2
    have s1 := s_step (m + 3) s (grR s) 1 (m + 2) (by omega) (by omega) (by omega) (by omega)
    have s2 := s_step (m + 3) s (strip s 1 (grR s)) 2 (m + 1) (by omega) (by omega) (by omega) (by omega)
    show ref13_Bytes_L1 (m + 3) s (m + 3) (grR s, ((1 : Nat) : Int)) = _
    refine (s1.trans s2).trans ?_
    show ref13_Bytes_B1 (m + 3) s (ref13_Bytes_L1 (m + 3) s m) (decR s) ((3 : Nat) : Int) = _
    unfold ref13_Bytes_B1
    rw [bF (by omega)]
  · rw [decide_eq_false (show ¬ (s.length : Int) % 4 = 0 by omega), Bool.not_false, cond_true, if_neg h]
theorem gb_app (p s : Bs) (k : Nat) (hk : 1 ≤ k ∧ k ≤ s.length) : gb (p ++ s) ((p ++ s).length - k) = gb s (s.length - k) := by
  have e : (p ++ s).length - k = p.length + (s.length - k) := by simp; omega
  rw [e]
  unfold gb List.getD
  rw [List.getElem?_append_right (by omega)]
  congr 2; omega
theorem strip_app (p s P d : Bs) (k : Nat) (hk : 1 ≤ k ∧ k ≤ s.length) (hd : 1 ≤ d.length) : strip (p ++ s) k (P ++ d) = P ++ strip s k d := by
  unfold strip
  rw [gb_app p s k hk]
  by_cases h : gb s (s.length - k) = 61
  · rw [if_pos ⟨by simp; omega, h⟩, if_pos ⟨hk.2, h⟩, List.length_append, show P.length + d.length - 1 = P.length + (d.length - 1) by omega, List.take_append, List.take_of_length_le (by omega)]
    congr 2; omega
  · rw [if_neg (fun x => h x.2), if_neg (fun x => h x.2)]
theorem nr_61 : nr 61 = 0 := by decide +kernel
theorem ofN (v : Nat) (b : UInt8) (h : v = b.toNat) : UInt8.ofNat v = b := by rw [h]; simp
theorem b3_q (a b c : UInt8) : bytes3 (q3 a.toNat b.toNat c.toNat) = [a, b, c] := by
  have ha := a.toNat_lt
  have hb := b.toNat_lt
  have hc := c.toNat_lt
  unfold bytes3
  rw [ofN _ a (by unfold q3; omega), ofN _ b (by unfold q3; omega), ofN _ c (by unfold q3; omega)]
theorem v4_full (v : Nat) (h : v < 16777216) : v4 (ch (v / 262144)) (ch (v / 4096 % 64)) (ch (v / 64 % 64)) (ch (v % 64)) = v := by
  unfold v4
  rw [nr_ch _ (by omega), nr_ch _ (by omega), nr_ch _ (by omega), nr_ch _ (by omega)]; omega
theorem v4_two (v : Nat) (h : v < 16777216) (hv : v % 64 = 0) : v4 (ch (v / 262144)) (ch (v / 4096 % 64)) (ch (v / 64 % 64)) 61 = v := by
  unfold v4
  rw [nr_ch _ (by omega), nr_ch _ (by omega), nr_ch _ (by omega), nr_61]; omega
theorem v4_one (v : Nat) (h : v < 16777216) (hv : v % 4096 = 0) : v4 (ch (v / 262144)) (ch (v / 4096 % 64)) 61 61 = v := by
  unfold v4
  rw [nr_ch _ (by omega), nr_ch _ (by omega), nr_61]; omega
theorem enc_len4 : ∀ b : Bs, (enc b).length % 4 = 0
  | a :: b :: c :: r => by
    have := enc_len4 r
    simp [enc, four]; omega
  | [a, b] => by simp [enc, four]
  | [a] => by simp [enc, four]
  | [] => rfl
theorem enc_ne {b : Bs} (h : b ≠ []) : 4 ≤ (enc b).length := by
  match b with
  | a :: b :: c :: r => simp [enc, four]
  | [a, b] => simp [enc, four]
  | [a] => simp [enc, four]
  | [] => exact absurd rfl h
theorem decR_enc : ∀ b : Bs, decR (enc b) = b
  | a :: b :: c :: r => by
    have ih := decR_enc r
    have hq := q3_lt a b c
    by_cases h : r = []
    · subst h
      have e : enc [a, b, c] = four a b c := by simp [enc]
      have g : grR (four a b c) = [a, b, c] := by
        show bytes3 (v4 _ _ _ _) ++ [] = _
        rw [v4_full _ hq, b3_q]; rfl
      have c1 := (num_ch (q3 a.toNat b.toNat c.toNat % 64) (by omega)).2
      have c2 := (num_ch (q3 a.toNat b.toNat c.toNat / 64 % 64) (by omega)).2
      rw [e]
      unfold decR strip
      rw [g, if_neg (fun x => c2 x.2), if_neg (fun x => c1 x.2)]
    · have hl := enc_ne h
      have h4 := enc_len4 r
      have hg := grR_len (enc r) h4
      have l1 := strip_len (enc r) (grR (enc r)) 1
      have g : grR (four a b c ++ enc r) = [a, b, c] ++ grR (enc r) := by
        show bytes3 (v4 _ _ _ _) ++ grR (enc r) = _
        rw [v4_full _ hq, b3_q]
      show decR (four a b c ++ enc r) = _
      unfold decR
      rw [g, strip_app _ _ _ _ 1 (by omega) (by omega), strip_app _ _ _ _ 2 (by omega) (by omega)]
      unfold decR at ih
      rw [ih]; rfl
  | [a, b] => by
    have hq := q3_lt a b 0
    have g : grR (enc [a, b]) = [a, b, 0] := by
      show bytes3 (v4 _ _ _ _) ++ [] = _
      rw [v4_two _ hq (by show q3 _ _ 0 % 64 = 0; unfold q3; omega), b3_q]; rfl
    have c2 := (num_ch (q3 a.toNat b.toNat (0 : UInt8).toNat / 64 % 64) (by omega)).2
    unfold decR strip
    rw [g, if_neg (fun x => c2 x.2), if_pos ⟨by simp [enc, four], rfl⟩]; rfl
  | [a] => by
    have hq := q3_lt a 0 0
    have g : grR (enc [a]) = [a, 0, 0] := by
      show bytes3 (v4 _ _ _ _) ++ [] = _
      rw [v4_one _ hq (by show q3 _ 0 0 % 4096 = 0; unfold q3; omega), b3_q]; rfl
    unfold decR strip
    rw [g, if_pos ⟨by simp [enc, four], rfl⟩, if_pos ⟨by simp [enc, four], rfl⟩]; rfl
  | [] => rfl
theorem decR_len (s : Bs) (h : s.length % 4 = 0) : (decR s).length ≤ s.length := by
  have hg := grR_len s h
  have l1 := strip_len s (grR s) 1
  have l2 := strip_len s (strip s 1 (grR s)) 2
  unfold decR; omega
theorem rBytes_eq (F : Nat) (s : Bs) (hs : s.length ≤ 400000) (hF : s.length + 100 < F) : ref13_Bytes F s = some (dec s) := by
  rw [rBytes_dec F s hs hF]
  by_cases h : s.length % 4 = 0
  · have hl := decR_len s h
    rw [if_pos h]
    unfold ref13_Bytes_j1
    rw [rRaw_eq F _ (by omega) (by omega), bnd_some]
    by_cases he : enc (decR s) = s
    · rw [decide_eq_true he, Bool.not_true, cond_false]
      have := dec_enc (decR s)
      rw [he] at this
      rw [this]
    · rw [decide_eq_false he, Bool.not_false, cond_true, dec_no (fun ⟨b, hb⟩ => by
        apply he; rw [← hb, decR_enc])]
  · rw [if_neg h, dec_no (fun ⟨b, hb⟩ => by apply h; rw [← hb]; exact enc_len4 b)]
end Go.Hd
namespace Go.Hd
open Go.Pv Go.Av
def nameb (c : UInt8) : Bool := ((((decide (97 ≤ (c.toNat : Int))) && (decide ((c.toNat : Int) ≤ 122))) || ((decide (65 ≤ (c.toNat : Int))) && (decide ((c.toNat : Int) ≤ 90)))) || ((decide (48 ≤ (c.toNat : Int))) && (decide ((c.toNat : Int) ≤ 57)))) || (decide (c = 45))
def okb (c : UInt8) : Bool := (decide (32 ≤ (c.toNat : Int))) && (decide ((c.toNat : Int) < 127))
theorem onlyN_loop (F : Nat) (s : Bs) (hs : s.length ≤ 1000000) : ∀ (n i : Nat), s.length - i < n → i ≤ s.length → head_onlyN_L1 F s n (i : Int) = some ((s.drop i).all nameb && !decide (s = [])) := by
  intro n
  induction n with
  | zero => intro i h; omega
  | succ n ih =>
    intro i hn hi
    show head_onlyN_B1 F s (head_onlyN_L1 F s n) (i : Int) = _
    unfold head_onlyN_B1 head_onlyN_j1
    by_cases h : i < s.length
    · have hd : s.drop i = s[i] :: s.drop (i + 1) := List.drop_eq_getElem_cons h
      have hc : head_nameC F s[i] = some (nameb s[i]) := rfl
      rw [bT (by omega), grd_At (by omega), lt_eq, at_nat h, hc, bnd_some, hd, List.all_cons]
      cases hp : nameb s[i] with
      | false => rfl
      | true => rw [Bool.not_true, cond_false, grd_I (by omega), cast_succ, ih (i + 1) (by omega) (by omega), Bool.true_and]
    · rw [bF (by omega), List.drop_eq_nil_of_le (by omega)]; simp
theorem onlyN_eq (F : Nat) (s : Bs) (hs : s.length ≤ 1000000) (hF : s.length < F) : head_onlyN F s = some (s.all nameb && !decide (s = [])) := onlyN_loop F s hs F 0 (by omega) (by omega)
theorem onlyP_loop (F : Nat) (s : Bs) (hs : s.length ≤ 1000000) : ∀ (n i : Nat), s.length - i < n → i ≤ s.length → head_onlyP_L1 F s n (i : Int) = some ((s.drop i).all okb && !decide (s = [])) := by
  intro n
  induction n with
  | zero => intro i h; omega
  | succ n ih =>
    intro i hn hi
    show head_onlyP_B1 F s (head_onlyP_L1 F s n) (i : Int) = _
    unfold head_onlyP_B1 head_onlyP_j1
    by_cases h : i < s.length
    · have hd : s.drop i = s[i] :: s.drop (i + 1) := List.drop_eq_getElem_cons h
      have hc : head_plainC F s[i] = some (okb s[i]) := rfl
      rw [bT (by omega), grd_At (by omega), lt_eq, at_nat h, hc, bnd_some, hd, List.all_cons]
      cases hp : okb s[i] with
      | false => rfl
      | true => rw [Bool.not_true, cond_false, grd_I (by omega), cast_succ, ih (i + 1) (by omega) (by omega), Bool.true_and]
    · rw [bF (by omega), List.drop_eq_nil_of_le (by omega)]; simp
theorem onlyP_eq (F : Nat) (s : Bs) (hs : s.length ≤ 1000000) (hF : s.length < F) : head_onlyP F s = some (s.all okb && !decide (s = [])) := onlyP_loop F s hs F 0 (by omega) (by omega)
def nameB (s : Bs) : Bool := (s.all nameb && !decide (s = [])) && decide (s.length ≤ 40)
theorem name_eq (F : Nat) (s : Bs) (hs : s.length ≤ 1000000) (hF : s.length < F) : head_name F s = some (nameB s) := by
  unfold head_name nameB
  rw [onlyN_eq F s hs hF]
  by_cases h : s.length ≤ 40
  · rw [decide_eq_true (show (s.length : Int) ≤ 40 by omega), decide_eq_true h, bndc_t, bnd_some, Bool.true_and, Bool.and_true]
  · rw [decide_eq_false (show ¬ (s.length : Int) ≤ 40 by omega), decide_eq_false h, bndc_f, Bool.false_and, Bool.and_false]
theorem rname_loop (s : Bs) (hs : s.length ≤ 1000000) : ∀ (n i : Nat), s.length - i < n → i ≤ s.length → ref14_Name_L1 s n (i : Int) = some (bif (s.drop i).all nameb then (decide (1 ≤ (s.length : Int))) && (decide ((s.length : Int) ≤ 40)) else false) := by
  intro n
  induction n with
  | zero => intro i h; omega
  | succ n ih =>
    intro i hn hi
    show ref14_Name_B1 s (ref14_Name_L1 s n) (i : Int) = _
    unfold ref14_Name_B1 ref14_Name_j1
    by_cases h : i < s.length
    · have hd : s.drop i = s[i] :: s.drop (i + 1) := List.drop_eq_getElem_cons h
      rw [bT (by omega), grd_At (by omega), lt_eq, at_nat h, hd, List.all_cons]
      change (bif !(nameb s[i]) then _ else _) = _
      cases hp : nameb s[i] with
      | false => rfl
      | true => rw [Bool.not_true, cond_false, grd_I (by omega), cast_succ, ih (i + 1) (by omega) (by omega), Bool.true_and]
    · rw [bF (by omega), List.drop_eq_nil_of_le (by omega)]; rfl
theorem rname_eq (F : Nat) (s : Bs) (hs : s.length ≤ 1000000) (hF : s.length < F) : ref14_Name F s = some (nameB s) := by
  have := rname_loop s hs F 0 (by omega) (by omega)
  unfold ref14_Name
  refine Eq.trans this ?_
  rw [List.drop_zero]
  unfold nameB
  cases s.all nameb with
  | false => rfl
  | true =>
    rw [cond_true, Bool.true_and]
    congr 1
    by_cases h : s = []
    · subst h; rfl
    · have h1 := List.length_pos_iff.2 h
      rw [decide_eq_false h, decide_eq_true (show 1 ≤ (s.length : Int) by omega), Bool.not_false]
      congr 1
      exact decide_eq_decide.2 (by omega)
def bad (x y : UInt8) : Bool := (x == 32 && y == 32) || (x == 61 && y == 63)
def has2 (p : UInt8 → UInt8 → Bool) : Bs → Bool
  | x :: y :: r => p x y || has2 p (y :: r)
  | _ => false
theorem contains_cons (x : UInt8) (r sub : Bs) : Go.Lib.contains (x :: r) sub = (sub.isPrefixOf (x :: r) || Go.Lib.contains r sub) := by
  unfold Go.Lib.contains
  have hg := Go.Lib.index_ge r sub
  rw [Go.Lib.index]
  cases hp : sub.isPrefixOf (x :: r) with
  | true => simp
  | false =>
    rw [if_neg (by simp), Bool.false_or]
    by_cases h : Go.Lib.index r sub = -1
    · rw [h]; rfl
    · rw [if_neg (by simpa using h)]
      exact decide_eq_decide.2 (by omega)
theorem contains_two (a b : UInt8) : ∀ s : Bs, Go.Lib.contains s [a, b] = has2 (fun x y => x == a && y == b) s
  | [] => rfl
  | [x] => by rw [contains_cons]; simp [has2, List.isPrefixOf, Go.Lib.contains, Go.Lib.index]
  | x :: y :: r => by
    rw [contains_cons, contains_two a b (y :: r), has2]
    simp only [List.isPrefixOf, Bool.and_true]
    rw [Bool.beq_comm (a := x), Bool.beq_comm (a := y)]
theorem has2_or (p q : UInt8 → UInt8 → Bool) : ∀ s : Bs, has2 (fun x y => p x y || q x y) s = (has2 p s || has2 q s)
  | [] => rfl
  | [x] => rfl
  | x :: y :: r => by
    rw [has2, has2, has2, has2_or p q (y :: r)]
    cases p x y <;> cases q x y <;> cases has2 p (y :: r) <;> rfl
theorem dw_len (p : UInt8 → Bool) : ∀ s : Bs, (s.dropWhile p).length ≤ s.length
  | [] => Nat.le_refl _
  | x :: r => by
    rw [List.dropWhile_cons]
    have := dw_len p r
    split
    · simp; omega
    · exact Nat.le_refl _
theorem dw_id (c : UInt8) (s : Bs) : s.dropWhile (· == c) = s ↔ s.head? ≠ some c := by
  cases s with
  | nil => simp
  | cons x r =>
    rw [List.dropWhile_cons]
    have := dw_len (· == c) r
    by_cases h : x = c
    · subst h
      simp only [beq_self_eq_true, if_true, List.head?_cons, ne_eq, not_true_eq_false, iff_false]
      intro he
      rw [he] at this
      simp at this
      omega
    · simp [h]
theorem trim_id (c : UInt8) (s : Bs) : Go.Lib.trimB s c = s ↔ s.head? ≠ some c ∧ s.getLast? ≠ some c := by
  have hr : Go.Lib.trimRightB s c = s ↔ s.getLast? ≠ some c := by
    unfold Go.Lib.trimRightB
    rw [← List.head?_reverse, ← dw_id, ← List.reverse_inj, List.reverse_reverse]
  have hl : (Go.Lib.trimRightB s c).length ≤ s.length := by
    have := dw_len (· == c) s.reverse
    unfold Go.Lib.trimRightB
    simpa using this
  unfold Go.Lib.trimB
  constructor
  · intro h
    have h1 := dw_len (· == c) (Go.Lib.trimRightB s c)
    have h2 : (Go.Lib.trimRightB s c) = s := by
      have e : (Go.Lib.trimRightB s c).length = s.length := by
        have := congrArg List.length h
        unfold Go.Lib.trimLeftB at this
        omega
      have p : Go.Lib.trimRightB s c <+: s := by
        unfold Go.Lib.trimRightB
        rw [← List.reverse_suffix, List.reverse_reverse]
        exact List.dropWhile_suffix _
      exact p.eq_of_length e
    rw [h2] at h
    exact ⟨(dw_id c s).1 h, hr.1 h2⟩
  · intro ⟨h1, h2⟩
    rw [hr.2 h2]
    exact (dw_id c s).2 h1
def plainB (s : Bs) : Bool := (((s.all okb && !decide (s = [])) && (decide (s.head? ≠ some 32) && decide (s.getLast? ≠ some 32))) && !has2 bad s)
theorem Plain_eq (F : Nat) (s : Bs) (hs : s.length ≤ 1000000) (hF : s.length < F) : head_Plain F s = some (plainB s) := by
  unfold head_Plain
  have hS : ∀ (c : Bool) (k : Option Bool), grdc c (okS s.length) k = k := fun c k => by
    rw [show okS s.length = true from decide_eq_true (by omega)]; cases c <;> rfl
  rw [onlyP_eq F s hs hF, bnd_some, hS, lt_eq, hS, lt_eq, hS, lt_eq, contains_two, contains_two]
  have e1 : has2 bad s = (has2 (fun x y => x == 32 && y == 32) s || has2 (fun x y => x == 61 && y == 63) s) := has2_or _ _ s
  have e2 : decide (Go.Lib.trimB s 32 = s) = (decide (s.head? ≠ some 32) && decide (s.getLast? ≠ some 32)) := by
    rw [← Bool.decide_and]; exact decide_eq_decide.2 (trim_id 32 s)
  unfold plainB
  rw [e1, e2, Bool.not_or, Bool.and_assoc _ (!_) (!_)]
def chk (p : Option UInt8) : Bs → Bool
  | [] => true
  | c :: r => okb c && !(match p with | none => false | some x => bad x c) && chk (some c) r
theorem chk_some : ∀ (r : Bs) (p : UInt8), chk (some p) r = (r.all okb && !has2 bad (p :: r))
  | [], p => rfl
  | c :: r, p => by
    rw [chk, chk_some r c, has2, List.all_cons]
    cases okb c <;> cases bad p c <;> cases r.all okb <;> rfl
theorem chk_none (s : Bs) : chk none s = (s.all okb && !has2 bad s) := by
  cases s with
  | nil => rfl
  | cons c r => rw [chk, chk_some, List.all_cons]; cases okb c <;> cases r.all okb <;> rfl
theorem bq (a b : UInt8) : decide (a = b) = (a == b) := by by_cases h : a = b <;> simp [h]
theorem fand (x : Bool) : (false && x) = false := Eq.symm (Eq.symm rfl)
theorem tand (x : Bool) : (true && x) = x := Eq.symm (Eq.symm rfl)
theorem nfl : (!false) = true := Eq.symm (Eq.symm rfl)
theorem ntr : (!true) = false := Eq.symm (Eq.symm rfl)
theorem cfl {α : Type} (a b : α) : (bif false then a else b) = b := Eq.symm (Eq.symm rfl)
theorem ctr {α : Type} (a b : α) : (bif true then a else b) = a := Eq.symm (Eq.symm rfl)
def prev (s : Bs) (i : Nat) : Option UInt8 := if i = 0 then none else s[i - 1]?
theorem rplain_loop (s : Bs) (hs : s.length ≤ 1000000) : ∀ (n i : Nat), s.length - i < n → i ≤ s.length → ref14_Plain_L1 s n (i : Int) = bif chk (prev s i) (s.drop i) then ref14_Plain_j1 s else some false := by
  intro n
  induction n with
  | zero => intro i h; omega
  | succ n ih =>
    intro i hn hi
    show ref14_Plain_B1 s (ref14_Plain_L1 s n) (i : Int) = _
    unfold ref14_Plain_B1
    by_cases h : i < s.length
    · have hd : s.drop i = s[i] :: s.drop (i + 1) := List.drop_eq_getElem_cons h
      have hp : prev s (i + 1) = some s[i] := by simp [prev, h]
      have hA : ∀ (c : Bool) (k : Option Bool), grdc c (okAt (i : Int) s.length) k = k := fun c k => by
        rw [show okAt (i : Int) s.length = true from decide_eq_true (by omega)]; cases c <;> rfl
      have ok1 : okb s[i] = !((decide ((s[i].toNat : Int) < 32)) || (decide (126 < (s[i].toNat : Int)))) := by
        unfold okb
        by_cases h1 : (s[i].toNat : Int) < 32
        · rw [decide_eq_true h1, decide_eq_false (by omega)]; rfl
        · by_cases h2 : 126 < (s[i].toNat : Int)
          · rw [decide_eq_false h1, decide_eq_true h2, decide_eq_false (show ¬ (s[i].toNat : Int) < 127 by omega)]; cases decide (32 ≤ (s[i].toNat : Int)) <;> rfl
          · rw [decide_eq_false h1, decide_eq_false h2, decide_eq_true (show 32 ≤ (s[i].toNat : Int) by omega), decide_eq_true (show (s[i].toNat : Int) < 127 by omega)]; rfl
      rw [bT (by omega), grd_At (by omega), lt_eq, at_nat h, hA, lt_eq, hd]
      unfold chk
      rw [ok1]
      cases hk : (decide ((s[i].toNat : Int) < 32)) || (decide (126 < (s[i].toNat : Int))) with
      | true => rw [ctr, ntr, fand, fand, cfl]
      | false =>
        rw [cfl, hA, lt_eq]
        by_cases h0 : i = 0
        · have d0 : decide ((0 : Int) < (i : Int)) = false := decide_eq_false (by omega)
          have ep : prev s i = none := by unfold prev; rw [if_pos h0]
          simp only [d0, fand, grdc_f, lt_eq, cfl, ep, nfl, tand]
          rw [grd_I (by omega), cast_succ, ih (i + 1) (by omega) (by omega), hp]
        · have d0 : decide ((0 : Int) < (i : Int)) = true := decide_eq_true (by omega)
          have e1 : (i : Int) - 1 = ((i - 1 : Nat) : Int) := by omega
          have ep : prev s i = some s[i - 1] := by simp [prev, h0]
          have hB : ∀ (c : Bool) (k : Option Bool), grdc c (okAt ((i - 1 : Nat) : Int) s.length) k = k := fun c k => by
            rw [show okAt ((i - 1 : Nat) : Int) s.length = true from decide_eq_true (by omega)]; cases c <;> rfl
          have hI : ∀ (c : Bool) (k : Option Bool), grdc c (okI ((i - 1 : Nat) : Int)) k = k := fun c k => by
            rw [show okI ((i - 1 : Nat) : Int) = true from decide_eq_true (by omega)]; cases c <;> rfl
          simp only [e1, d0, tand, hA, hB, hI, lt_eq, ep, nfl, at_nat (show i - 1 < s.length by omega)]
          have hb : (((decide (s[i] = 32)) && (decide (s[i - 1] = 32))) || ((decide (s[i] = 63)) && (decide (s[i - 1] = 61)))) = bad s[i - 1] s[i] := by
            unfold bad
            rw [bq, bq, bq, bq, Bool.and_comm, Bool.and_comm (s[i] == 63)]
          rw [hb]
          cases bad s[i - 1] s[i] with
          | true => rw [ctr, ntr, fand, cfl]
          | false => rw [cfl, grd_I (by omega), cast_succ, ih (i + 1) (by omega) (by omega), hp, nfl, tand]
    · rw [bF (by omega), List.drop_eq_nil_of_le (by omega)]; rfl
theorem rPlain_eq (F : Nat) (s : Bs) (hs : s.length ≤ 1000000) (hF : s.length < F) : ref14_Plain F s = some (plainB s) := by
  have := rplain_loop s hs F 0 (by omega) (by omega)
  unfold ref14_Plain
  refine Eq.trans this ?_
  rw [List.drop_zero, show prev s 0 = none from rfl, chk_none]
  unfold plainB
  by_cases h : s = []
  · subst h; rfl
  · have h1 := List.length_pos_iff.2 h
    have hj : ref14_Plain_j1 s = some (decide (s.head? ≠ some 32) && decide (s.getLast? ≠ some 32)) := by
      have e1 : (s.length : Int) - 1 = ((s.length - 1 : Nat) : Int) := by omega
      have hA : ∀ (c : Bool) (i : Nat) (k : Option Bool), i < s.length → grdc c (okAt (i : Int) s.length) k = k := fun c i k hi => by
        rw [show okAt (i : Int) s.length = true from decide_eq_true (by omega)]; cases c <;> rfl
      have hI : ∀ (c : Bool) (k : Option Bool), grdc c (okI ((s.length - 1 : Nat) : Int)) k = k := fun c k => by
        rw [show okI ((s.length - 1 : Nat) : Int) = true from decide_eq_true (by omega)]; cases c <;> rfl
      unfold ref14_Plain_j1
      rw [show (0 : Int) = ((0 : Nat) : Int) from rfl]
      rw [hA _ 0 _ h1, lt_eq, e1, hI, hA _ (s.length - 1) _ (by omega), lt_eq, at_nat h1, at_nat (by omega), decide_eq_true (show ((0 : Nat) : Int) < s.length by omega), Bool.true_and]
      have x1 : s.head? = some s[0] := by rw [List.head?_eq_getElem?, List.getElem?_eq_getElem h1]
      have x2 : s.getLast? = some s[s.length - 1] := by rw [List.getLast?_eq_getElem?, List.getElem?_eq_getElem (by omega)]
      rw [x1, x2]
      simp
    rw [hj, decide_eq_false h]
    cases s.all okb <;> cases has2 bad s <;> simp
def insb (c : UInt8) : Bool := decide (Go.Av.shr8 c 6 = 2)
theorem insb_eq (c : UInt8) : ((decide ((c.toNat : Int) < 128)) || (decide (191 < (c.toNat : Int)))) = !insb c := by
  have := of_all8 (fun c => ((decide ((c.toNat : Int) < 128)) || (decide (191 < (c.toNat : Int)))) == !insb c) (by decide +kernel) c
  exact eq_of_beq this
def dn (s : Bs) : Nat → Nat
  | 0 => 45
  | k + 1 => bif insb (gb s (42 + k)) then dn s k else 42 + k
theorem gb_at {s : Bs} {i : Nat} (h : i < s.length) : gb s i = s[i] := by simp [gb, h]
theorem part_loop (F : Nat) (s : Bs) (hs : 45 < s.length) : ∀ (n k : Nat), k < n → k ≤ 4 → head_part_L1 F s n ((41 + k : Nat) : Int) = some ((dn s k : Nat) : Int) := by
  intro n
  induction n with
  | zero => intro k h; omega
  | succ n ih =>
    intro k hk h4
    show head_part_B1 F s (head_part_L1 F s n) ((41 + k : Nat) : Int) = _
    unfold head_part_B1
    cases k with
    | zero => rfl
    | succ k =>
      have e : 41 + (k + 1) = 42 + k := by omega
      have hb : head_inside F s[42 + k] = some (insb (gb s (42 + k))) := by rw [gb_at (by omega)]; rfl
      rw [e, decide_eq_true (show (41 : Int) < ((42 + k : Nat) : Int) by omega), grdc_t, grd_At (by omega), lt_eq, at_nat (by omega), hb, bndc_t, bnd_some, Bool.true_and]
      unfold dn
      cases insb (gb s (42 + k)) with
      | true =>
        have e2 : ((42 + k : Nat) : Int) - 1 = ((41 + k : Nat) : Int) := by omega
        rw [cond_true, cond_true, grd_I (by omega), e2, ih k (by omega) (by omega)]
      | false =>
        rw [cond_false, cond_false]
        unfold head_part_j1
        rw [bF (by omega)]
theorem rpart_loop (s : Bs) (hs : 45 < s.length) : ∀ (n k : Nat), k < n → k ≤ 4 → ref14_part_L1 s n ((41 + k : Nat) : Int) = some ((dn s k : Nat) : Int) := by
  intro n
  induction n with
  | zero => intro k h; omega
  | succ n ih =>
    intro k hk h4
    show ref14_part_B1 s (ref14_part_L1 s n) ((41 + k : Nat) : Int) = _
    unfold ref14_part_B1
    cases k with
    | zero => rw [bF (by omega)]; rfl
    | succ k =>
      have e : 41 + (k + 1) = 42 + k := by omega
      have hA : ∀ (c : Bool) (k' : Option Int), grdc c (okAt ((42 + k : Nat) : Int) s.length) k' = k' := fun c k' => by
        rw [show okAt ((42 + k : Nat) : Int) s.length = true from decide_eq_true (by omega)]; cases c <;> rfl
      rw [e, bT (by omega), grd_At (by omega), lt_eq, at_nat (by omega), hA, lt_eq, insb_eq, ← gb_at (show 42 + k < s.length by omega)]
      unfold dn
      cases insb (gb s (42 + k)) with
      | true =>
        have e2 : ((42 + k : Nat) : Int) - 1 = ((41 + k : Nat) : Int) := by omega
        rw [Bool.not_true, cond_false, cond_true, grd_I (by omega), e2, ih k (by omega) (by omega)]
      | false => rfl
def pt (s : Bs) : Nat := if s.length ≤ 45 then s.length else dn s 4
theorem dn_le (s : Bs) : ∀ k, k ≤ 4 → 42 ≤ dn s k ∧ dn s k ≤ 45
  | 0, _ => by simp [dn]
  | k + 1, h => by
    have := dn_le s k (by omega)
    unfold dn
    cases insb (gb s (42 + k)) with
    | true => exact this
    | false => rw [cond_false]; omega
theorem pt_le (s : Bs) : pt s ≤ s.length ∧ pt s ≤ 45 ∧ (s ≠ [] → 1 ≤ pt s) := by
  have := dn_le s 4 (by omega)
  unfold pt
  split
  · exact ⟨Nat.le_refl _, by omega, fun h => List.length_pos_iff.2 h⟩
  · exact ⟨by omega, by omega, fun h => by omega⟩
theorem part_eq (F : Nat) (hF : 5 ≤ F) (s : Bs) : head_part F s = some ((pt s : Nat) : Int) := by
  unfold head_part pt
  by_cases h : s.length ≤ 45
  · rw [bT (by omega), if_pos h]
  · rw [bF (by omega), if_neg h]; exact part_loop F s (by omega) F 4 (by omega) (by omega)
theorem rpart_eq (F : Nat) (hF : 5 ≤ F) (s : Bs) : ref14_part F s = some ((pt s : Nat) : Int) := by
  unfold ref14_part pt
  by_cases h : s.length ≤ 45
  · rw [bT (by omega), if_pos h]
  · rw [bF (by omega), if_neg h]; exact rpart_loop s (by omega) F 4 (by omega) (by omega)
def ahead : Bs := [61, 63, 117, 116, 102, 45, 56, 63, 66, 63]
def behind : Bs := [63, 61]
def word (p : Bs) : Bs := ahead ++ enc p ++ behind
def pcs : Nat → Bs → List Bs
  | 0, _ => []
  | n + 1, s => if s = [] then [] else word (s.take (pt s)) :: pcs n (s.drop (pt s))
theorem pcs_nil (n : Nat) : pcs n [] = [] := by cases n <;> rfl
theorem pcs_more : ∀ (n m : Nat) (s : Bs), s.length ≤ n → s.length ≤ m → pcs n s = pcs m s := by
  intro n
  induction n with
  | zero => intro m s h1 h2; have : s = [] := List.eq_nil_of_length_eq_zero (by omega); subst this; rw [pcs_nil, pcs_nil]
  | succ n ih =>
    intro m s h1 h2
    by_cases h : s = []
    · subst h; rw [pcs_nil, pcs_nil]
    · have hp := pt_le s
      have hl := List.length_pos_iff.2 h
      have h3 := hp.2.2 h
      obtain ⟨m, rfl⟩ : ∃ k, m = k + 1 := ⟨m - 1, by omega⟩
      rw [pcs, pcs, if_neg h, if_neg h, ih m (s.drop (pt s)) (by simp; omega) (by simp; omega)]
def pieces (s : Bs) : List Bs := pcs s.length s
theorem pieces_cons {s : Bs} (h : s ≠ []) : pieces s = word (s.take (pt s)) :: pieces (s.drop (pt s)) := by
  have hp := pt_le s
  have hl := List.length_pos_iff.2 h
  have h3 := hp.2.2 h
  unfold pieces
  obtain ⟨m, hm⟩ : ∃ k, s.length = k + 1 := ⟨s.length - 1, by omega⟩
  rw [hm, pcs, if_neg h, pcs_more m (s.drop (pt s)).length _ (by simp; omega) (by simp)]
theorem pieces_nil : pieces [] = [] := rfl
def wordsOf (s : Bs) : List Bs := bif plainB s then sp 32 s else pieces s
def fold1 {σ : Type} (k : σ → Bs → Option (σ × Bool)) (st : σ) (w : Bs) : Option σ := match k st w with
  | some (st', true) => some st'
  | _ => none
def foldK {σ : Type} (k : σ → Bs → Option (σ × Bool)) : σ → List Bs → Option σ
  | st, [] => some st
  | st, w :: ws => match fold1 k st w with
    | none => none
    | some st' => foldK k st' ws
theorem fold1_s {σ : Type} {k : σ → Bs → Option (σ × Bool)} {st st' : σ} {w : Bs} (h : fold1 k st w = some st') : k st w = some (st', true) := by
  unfold fold1 at h
  split at h
  · rename_i h1; cases h; exact h1
  · cases h
theorem foldK_s {σ : Type} {k : σ → Bs → Option (σ × Bool)} {st st' : σ} {w : Bs} {ws : List Bs} (h : foldK k st (w :: ws) = some st') : ∃ m, k st w = some (m, true) ∧ foldK k m ws = some st' := by
  rw [foldK] at h
  cases hf : fold1 k st w with
  | none => rw [hf] at h; cases h
  | some m => rw [hf] at h; exact ⟨m, fold1_s hf, h⟩
theorem wI_loop {σ : Type} (F : Nat) (k : σ → Bs → Option (σ × Bool)) (hF : 60 ≤ F) : ∀ (n : Nat) (s : Bs) (st st' : σ), s.length < n → s.length ≤ 1000000 → foldK k st (pieces s) = some st' → ∃ r, head_wordsI_L1 F k n (s, st) = some (st', r) := by
  intro n
  induction n with
  | zero => intro s st st' h; omega
  | succ n ih =>
    intro s st st' hn hs H
    have e : head_wordsI_L1 F k (n + 1) (s, st) = head_wordsI_B1 F k (head_wordsI_L1 F k n) s st := rfl
    rw [e]
    unfold head_wordsI_B1
    by_cases h : s = []
    · subst h
      cases H
      exact ⟨[], rfl⟩
    · have hp := pt_le s
      have hl := List.length_pos_iff.2 h
      have h3 := hp.2.2 h
      rw [pieces_cons h] at H
      obtain ⟨m, h1, h2⟩ := foldK_s H
      obtain ⟨r, hr⟩ := ih (s.drop (pt s)) m st' (by simp; omega) (by simp; omega) h2
      refine ⟨r, ?_⟩
      have he := enc_len (s.take (pt s))
      have ht : (s.take (pt s)).length ≤ 45 := by simp; omega
      rw [decide_eq_false h, Bool.not_false, cond_true, part_eq F (by omega), bnd_some, grd_To (by omega), lt_eq, to_nat, grd_Cat (by omega), Raw_eq F _ (by omega) (by omega), bnd_some]
      rw [grd_Cat (by simp; omega), lt_eq, grd_Cat (by simp; omega), lt_eq]
      have hk : k st (([61, 63, 117, 116, 102, 45, 56, 63, 66, 63] : Bs) ++ enc (s.take (pt s)) ++ [63, 61]) = some (m, true) := h1
      rw [hk, bnd2_some, Bool.not_true, cond_false, grd_To (by omega), lt_eq, from_nat]
      exact hr
theorem wS_loop {σ : Type} (a : Bs) (k : σ → Bs → Option (σ × Bool)) (l : List Bs) (hl : l.length ≤ 10000000) : ∀ (n i : Nat) (st st' : σ), l.length - i < n → i ≤ l.length → foldK k st (l.drop i) = some st' → head_wordsI_L2 a k l n ((i : Int), st) = some (st', a) := by
  intro n
  induction n with
  | zero => intro i st st' h; omega
  | succ n ih =>
    intro i st st' hn hi H
    have e : head_wordsI_L2 a k l (n + 1) ((i : Int), st) = head_wordsI_B2 a k l (head_wordsI_L2 a k l n) (i : Int) st := rfl
    rw [e]
    unfold head_wordsI_B2
    by_cases h : i < l.length
    · rw [List.drop_eq_getElem_cons h] at H
      obtain ⟨m, h1, h2⟩ := foldK_s H
      rw [bT (by omega), grd_At (by omega), lt_eq, at_nat h, h1, bnd2_some, Bool.not_true, cond_false, grd_I (by omega), cast_succ]
      exact ih (i + 1) m st' (by omega) (by omega) h2
    · rw [List.drop_eq_nil_of_le (by omega)] at H
      cases H
      rw [bF (by omega)]
theorem wordsI_eq {σ : Type} (F : Nat) (k : σ → Bs → Option (σ × Bool)) (s : Bs) (st st' : σ) (hs : s.length ≤ 1000000) (hF : s.length + 100 < F) (H : foldK k st (wordsOf s) = some st') : ∃ r, head_wordsI F k st s = some (st', r) := by
  unfold head_wordsI
  rw [Plain_eq F s hs (by omega), bnd_some]
  unfold wordsOf at H
  cases hp : plainB s with
  | true =>
    rw [hp, cond_true] at H
    have hl := sp_length 32 s
    rw [cond_true, grd_S (by omega), grd_D (by simp), lt_eq, split_one]
    exact ⟨s, wS_loop s k (sp 32 s) (by omega) F 0 st st' (by omega) (by omega) H⟩
  | false =>
    rw [hp, cond_false] at H
    rw [cond_false]
    exact wI_loop F k (by omega) F s st st' (by omega) hs H
theorem pieces_len (s : Bs) : ∀ n, s.length ≤ n → (pieces s).length ≤ s.length ∧ ∀ w ∈ pieces s, w.length ≤ 104 := by
  intro n
  induction n generalizing s with
  | zero => intro h; have : s = [] := List.eq_nil_of_length_eq_zero (by omega); subst this; simp [pieces_nil]
  | succ n ih =>
    intro h
    by_cases h0 : s = []
    · subst h0; simp [pieces_nil]
    · have hp := pt_le s
      have hl := List.length_pos_iff.2 h0
      have h3 := hp.2.2 h0
      have ⟨i1, i2⟩ := ih (s.drop (pt s)) (by simp; omega)
      have he := enc_len (s.take (pt s))
      have ht : (s.take (pt s)).length ≤ 45 := by simp; omega
      rw [pieces_cons h0]
      refine ⟨by simp at i1 ⊢; omega, fun w hw => ?_⟩
      rcases List.mem_cons.1 hw with rfl | hw
      · simp [word, ahead, behind]; omega
      · exact i2 w hw
theorem mem_total {l : List Bs} {w : Bs} (h : w ∈ l) : w.length ≤ Str.total l := by
  induction l with
  | nil => cases h
  | cons x r ih =>
    rcases List.mem_cons.1 h with rfl | h
    · simp [Str.total]
    · have := ih h; simp [Str.total]; omega
theorem wordsOf_len (s : Bs) : (wordsOf s).length ≤ s.length + 1 ∧ ∀ w ∈ wordsOf s, w.length ≤ s.length + 104 := by
  unfold wordsOf
  cases plainB s with
  | true =>
    rw [cond_true]
    have h1 := sp_total 32 s
    have h2 := sp_length 32 s
    exact ⟨h2, fun w hw => by have := mem_total hw; have := List.length_pos_iff.2 (List.ne_nil_of_mem hw); omega⟩
  | false =>
    rw [cond_false]
    have ⟨h1, h2⟩ := pieces_len s s.length (by omega)
    exact ⟨by omega, fun w hw => by have := h2 w hw; omega⟩
theorem rW_loop (F : Nat) (hF : 200 ≤ F) : ∀ (n : Nat) (s : Bs) (acc : List Bs), s.length < n → acc.length + s.length ≤ 1000000 → ref14_Words_L1 F n (s, acc) = some (acc ++ pieces s) := by
  intro n
  induction n with
  | zero => intro s acc h; omega
  | succ n ih =>
    intro s acc hn hs
    show ref14_Words_B1 F (ref14_Words_L1 F n) s acc = _
    unfold ref14_Words_B1
    by_cases h : s = []
    · subst h; rw [bF (by simp), pieces_nil, List.append_nil]; rfl
    · have hp := pt_le s
      have hl := List.length_pos_iff.2 h
      have h3 := hp.2.2 h
      have he := enc_len (s.take (pt s))
      have ht : (s.take (pt s)).length ≤ 45 := by simp; omega
      rw [bT (by omega), rpart_eq F (by omega), bnd_some, grd_To (by omega), lt_eq, to_nat, grd_Cat (by omega), rRaw_eq F _ (by omega) (by omega), bnd_some]
      rw [grd_Cat (by simp; omega), lt_eq, grd_Cat (by simp; omega), lt_eq, grd_Cat (by simp; omega), lt_eq, grd_To (by omega), lt_eq, from_nat, ih _ _ (by simp; omega) (by simp; omega), pieces_cons h, List.append_assoc]
      rfl
theorem rWords_eq (F : Nat) (s : Bs) (hs : s.length ≤ 1000000) (hF : s.length + 300 < F) : ref14_Words F s = some (wordsOf s) := by
  unfold ref14_Words wordsOf
  rw [rPlain_eq F s hs (by omega), bnd_some]
  cases plainB s with
  | true => rw [cond_true, cond_true, ref05_Split_eq F s 32 hs (by omega), bnd_some]
  | false =>
    rw [cond_false, cond_false]
    have := rW_loop F (by omega) F s [] (by omega) (by simp; omega)
    rw [List.nil_append] at this
    exact this
end Go.Hd
namespace Go.Hd
open Go.Pv Go.Av
def lnStep (st : Int × Bs) (x : Bs) : Int × Bs := if 76 < st.1 + 1 + (x.length : Int) then (0 + 1 + (x.length : Int), st.2 ++ [13, 10] ++ [32] ++ x) else (st.1 + 1 + (x.length : Int), st.2 ++ [32] ++ x)
def lineOf (a b : Bs) : Bs := ((wordsOf b).foldl lnStep (((a.length + 1 : Nat) : Int), a ++ [58])).2 ++ [13, 10]
theorem lnStep_len (st : Int × Bs) (x : Bs) : (lnStep st x).2.length ≤ st.2.length + x.length + 3 := by
  unfold lnStep; split <;> simp <;> omega
theorem lnStep_n (st : Int × Bs) (x : Bs) (h : 0 ≤ st.1) (hx : x.length ≤ 2000000) : 0 ≤ (lnStep st x).1 ∧ (lnStep st x).1 ≤ 2000001 := by
  unfold lnStep; split <;> simp <;> omega
theorem k1_eq (st : Int × Bs) (x : Bs) (h0 : 0 ≤ st.1) (h1 : st.1 ≤ 10000000) (hx : x.length ≤ 2000000) (ho : st.2.length + x.length + 3 ≤ 50000000000) :
    fold1 (fun s x => head_Line_k1 s.1 s.2 x) st x = some (lnStep st x) := by
  have hk : head_Line_k1 st.1 st.2 x = some (lnStep st x, true) := by
    unfold head_Line_k1 head_Line_j2 lnStep
    by_cases h : 76 < st.1 + 1 + (x.length : Int)
    · rw [bT h, if_pos h]
      simp (disch := (first | omega | (simp; omega))) only [grd_I, grd_Cat, lt_eq]
    · rw [bF h, if_neg h]
      simp (disch := (first | omega | (simp; omega))) only [grd_I, grd_Cat, lt_eq]
  unfold fold1
  simp only [hk]
theorem line_fold : ∀ (ws : List Bs) (st : Int × Bs), (∀ w ∈ ws, w.length ≤ 2000000) → 0 ≤ st.1 → st.1 ≤ 10000000 → st.2.length + ws.length * 2000003 ≤ 50000000000 →
    foldK (fun s x => head_Line_k1 s.1 s.2 x) st ws = some (ws.foldl lnStep st) ∧ (ws.foldl lnStep st).2.length ≤ st.2.length + ws.length * 2000003
  | [], st, _, _, _, _ => ⟨rfl, by simp⟩
  | w :: ws, st, hw, h0, h1, hl => by
    have hx := hw w (by simp)
    have hn := lnStep_n st w h0 hx
    have hs := lnStep_len st w
    simp only [List.length_cons] at hl
    have ⟨i1, i2⟩ := line_fold ws (lnStep st w) (fun v hv => hw v (by simp [hv])) hn.1 (by omega) (by omega)
    rw [foldK, k1_eq st w h0 h1 hx (by omega)]
    refine ⟨i1, ?_⟩
    rw [List.foldl_cons, List.length_cons]; omega
def okLine (a b : Bs) : Bool := nameB a && decide (b.length ≤ 4000)
theorem okLine_s {a b : Bs} (h : okLine a b = true) : nameB a = true ∧ b.length ≤ 4000 ∧ a.length ≤ 40 := by
  unfold okLine at h
  rw [Bool.and_eq_true] at h
  refine ⟨h.1, of_decide_eq_true h.2, ?_⟩
  have := h.1
  unfold nameB at this
  rw [Bool.and_eq_true] at this
  exact of_decide_eq_true this.2
theorem lineOf_len (a b : Bs) (h : okLine a b = true) : (lineOf a b).length ≤ 50000000000 ∧ (a.length : Int) + 1 + (wordsOf b).length ≤ 10000 := by
  have ⟨h1, h2, h3⟩ := okLine_s h
  have ⟨w1, w2⟩ := wordsOf_len b
  have := (line_fold (wordsOf b) (((a.length + 1 : Nat) : Int), a ++ [58]) (fun w hw => by have := w2 w hw; omega) (by simp; omega) (by simp; omega) (by simp; omega)).2
  refine ⟨?_, by omega⟩
  unfold lineOf
  simp at this ⊢; omega
theorem Line_eq (F : Nat) (a b : Bs) (ha : a.length ≤ 1000000) (hFa : a.length < F) (hF : 4200 < F) : head_Line F a b = some (if okLine a b = true then (lineOf a b, 0) else ([], 1)) := by
  unfold head_Line head_Line_j1
  rw [name_eq F a ha hFa, bnd_some]
  by_cases h : okLine a b = true
  · have ⟨h1, h2, h3⟩ := okLine_s h
    have ⟨w1, w2⟩ := wordsOf_len b
    have hlen := (lineOf_len a b h).1
    have ⟨f1, f2⟩ := line_fold (wordsOf b) (((a.length + 1 : Nat) : Int), a ++ [58]) (fun w hw => by have := w2 w hw; omega) (by simp; omega) (by simp; omega) (by simp; omega)
    obtain ⟨r, hr⟩ := wordsI_eq F _ b _ _ (by omega) (by omega) f1
    rw [if_pos h, h1, Bool.not_true, Bool.false_or, bF (by omega), grd_Cat (by simp; omega), lt_eq, grd_Cat (by simp; omega)]
    unfold head_words
    rw [bnd_some]
    have e : (((a ++ [58] : Bs).length : Int), a ++ [58]) = (((a.length + 1 : Nat) : Int), a ++ [58]) := by simp
    rw [e, hr, bnd2_some, grd_Cat (by simp at f2 ⊢; omega), lt_eq]
    rfl
  · rw [if_neg h]
    have : ((!nameB a) || (decide (4000 < (b.length : Int)))) = true := by
      unfold okLine at h
      cases hn : nameB a with
      | false => rfl
      | true =>
        rw [hn, Bool.true_and, decide_eq_true_eq] at h
        rw [decide_eq_true (show 4000 < (b.length : Int) by omega)]; rfl
    rw [this, cond_true]
theorem rLine_loop (l : List Bs) (hl : l.length ≤ 100000) (hw : ∀ w ∈ l, w.length ≤ 2000000) : ∀ (n i : Nat) (st : Int × Bs), l.length - i < n → i ≤ l.length → 0 ≤ st.1 → st.1 ≤ 10000000 → st.2.length + (l.length - i) * 2000003 ≤ 50000000000 →
    ref14_Line_L1 l n (st.2, st.1, (i : Int)) = some (((l.drop i).foldl lnStep st).2 ++ [13, 10], 0) := by
  intro n
  induction n with
  | zero => intro i st h; omega
  | succ n ih =>
    intro i st hn hi h0 h1 hb
    show ref14_Line_B1 l (ref14_Line_L1 l n) st.2 st.1 (i : Int) = _
    unfold ref14_Line_B1 ref14_Line_j2 ref14_Line_j1
    by_cases h : i < l.length
    · have hx := hw l[i] (List.getElem_mem h)
      have hs := lnStep_len st l[i]
      have hnn := lnStep_n st l[i] h0 hx
      have hm : (l.length - i) * 2000003 = (l.length - (i + 1)) * 2000003 + 2000003 := by
        rw [show l.length - i = (l.length - (i + 1)) + 1 by omega, Nat.add_mul]
      have := ih (i + 1) (lnStep st l[i]) (by omega) (by omega) hnn.1 (by omega) (by omega)
      rw [List.drop_eq_getElem_cons h, List.foldl_cons, ← this]
      rw [bT (by omega), grd_I (by omega), grd_At (by omega), lt_eq, at_nat h, grd_I (by omega)]
      unfold lnStep
      by_cases hc : 76 < st.1 + 1 + (l[i].length : Int)
      · rw [bT hc, if_pos hc]
        simp (disch := (first | omega | (simp; omega))) only [grd_I, grd_Cat, lt_eq, grd_At, at_nat h, cast_succ, List.append_assoc]
      · rw [bF hc, if_neg hc]
        simp (disch := (first | omega | (simp; omega))) only [grd_I, grd_Cat, lt_eq, grd_At, at_nat h, cast_succ, List.append_assoc]
    · rw [bF (by omega), List.drop_eq_nil_of_le (by omega), grd_Cat (by simp; omega), lt_eq]; rfl
theorem rLine_eq (F : Nat) (a b : Bs) (ha : a.length ≤ 1000000) (hFa : a.length < F) (hF : 4400 < F) : ref14_Line F a b = some (if okLine a b = true then (lineOf a b, 0) else ([], 1)) := by
  unfold ref14_Line
  rw [rname_eq F a ha hFa, bnd_some]
  by_cases h : okLine a b = true
  · have ⟨h1, h2, h3⟩ := okLine_s h
    have ⟨w1, w2⟩ := wordsOf_len b
    rw [if_pos h, h1, Bool.not_true, Bool.false_or, bF (by omega), grd_Cat (by simp; omega), lt_eq, grd_Cat (by simp; omega), rWords_eq F b (by omega) (by omega), bnd_some]
    have := rLine_loop (wordsOf b) (by omega) (fun w hw => by have := w2 w hw; omega) F 0 (((a.length + 1 : Nat) : Int), a ++ [58]) (by omega) (by omega) (by simp; omega) (by simp; omega) (by simp; omega)
    have e : (((a ++ [58] : Bs).length : Int)) = ((a.length + 1 : Nat) : Int) := by simp
    rw [e]
    exact this
  · rw [if_neg h]
    have : ((!nameB a) || (decide (4000 < (b.length : Int)))) = true := by
      unfold okLine at h
      cases hn : nameB a with
      | false => rfl
      | true =>
        rw [hn, Bool.true_and, decide_eq_true_eq] at h
        rw [decide_eq_true (show 4000 < (b.length : Int) by omega)]; rfl
    rw [this, cond_true]
end Go.Hd
namespace Go.Hd
open Go.Pv Go.Av
def spb (c : UInt8) : Bool := ((decide (c = 32)) || (decide (c = 13))) || (decide (c = 10))
def wf : Bs → Bs → List Bs
  | cur, [] => if cur = [] then [] else [cur]
  | cur, c :: r => if spb c = true then (if cur = [] then wf [] r else cur :: wf [] r) else wf (cur ++ [c]) r
theorem wf_run (r : Bs) : ∀ (p cur : Bs), (∀ c ∈ p, spb c = false) → wf cur (p ++ r) = wf (cur ++ p) r
  | [], cur, _ => by simp
  | c :: p, cur, h => by
    rw [List.cons_append, wf, if_neg (by rw [h c (by simp)]; simp), wf_run r p (cur ++ [c]) (fun x hx => h x (by simp [hx]))]
    simp
theorem spb_ascii (c : UInt8) (h : c.toNat < 128) : spB c.toNat = spb c := by
  have := of_all8 (fun c => decide (c.toNat < 128 → spB c.toNat = spb c)) (by decide +kernel) c
  exact of_decide_eq_true this h
theorem spb_high (c : UInt8) (h : 128 ≤ c.toNat) : spb c = false := by
  have := of_all8 (fun c => decide (128 ≤ c.toNat → spb c = false)) (by decide +kernel) c
  exact of_decide_eq_true this h
theorem spB_high (n : Nat) (h : 128 ≤ n) : spB n = false := by
  unfold spB
  rw [decide_eq_false (by omega), decide_eq_false (by omega), decide_eq_false (by omega)]; rfl
theorem ba_size (l : Bs) : (⟨l.toArray⟩ : ByteArray).size = l.length := by simp [ByteArray.size]
theorem ba_get (l : Bs) (i : Nat) (h : i < l.length) : (⟨l.toArray⟩ : ByteArray).get! i = l[i] := by
  simp [ByteArray.get!, h]
theorem ba_at (l : Bs) (i : Nat) (h : i < (⟨l.toArray⟩ : ByteArray).size) : (⟨l.toArray⟩ : ByteArray)[i]'h = l[i]'(by rwa [ba_size] at h) := rfl
theorem cover (l : Bs) (pos : Nat) (h : pos < l.length) (ha : 128 ≤ (l[pos]).toNat) :
    pos + (Utf8.decode ⟨l.toArray⟩ pos).2 ≤ l.length ∧ ∀ k, k < (Utf8.decode ⟨l.toArray⟩ pos).2 → 128 ≤ (gb l (pos + k)).toNat := by
  have hn : ¬ (l[pos]).toNat < 128 := by omega
  have e0 : (⟨l.toArray⟩ : ByteArray).get! (pos + 0) = l[pos] := ba_get l pos h
  have g0 : 128 ≤ (gb l (pos + 0)).toNat := by rw [Nat.add_zero, gb_at h]; exact ha
  have hg : ∀ k, pos + k < l.length → ((⟨l.toArray⟩ : ByteArray).get! (pos + k)).toNat / 64 = 2 → 128 ≤ (gb l (pos + k)).toNat := fun k hk he => by
    rw [ba_get l _ hk] at he; rw [gb_at hk]; omega
  have one : ∀ x : Nat × Nat, x.2 = 1 → pos + x.2 ≤ l.length ∧ ∀ k, k < x.2 → 128 ≤ (gb l (pos + k)).toNat := fun x hx => by
    rw [hx]; exact ⟨by omega, fun k hk => by obtain rfl : k = 0 := by omega
                                             exact g0⟩
  unfold Utf8.decode
  simp only [e0, ba_size]
  rw [if_neg hn]
  split
  · rename_i h1
    simp only [Bool.and_eq_true, beq_iff_eq, decide_eq_true_eq] at h1
    split
    · exact ⟨by dsimp only; omega, fun k hk => by
        dsimp only at hk
        rcases (show k = 0 ∨ k = 1 by omega) with rfl | rfl
        · exact g0
        · exact hg 1 h1.2.1 h1.2.2⟩
    · exact one _ rfl
  · split
    · rename_i h1
      simp only [Bool.and_eq_true, beq_iff_eq, decide_eq_true_eq] at h1
      split
      · exact ⟨by dsimp only; omega, fun k hk => by
          dsimp only at hk
          rcases (show k = 0 ∨ k = 1 ∨ k = 2 by omega) with rfl | rfl | rfl
          · exact g0
          · exact hg 1 h1.1.2.1 h1.1.2.2
          · exact hg 2 h1.2.1 h1.2.2⟩
      · exact one _ rfl
    · split
      · rename_i h1
        simp only [Bool.and_eq_true, beq_iff_eq, decide_eq_true_eq] at h1
        split
        · exact ⟨by dsimp only; omega, fun k hk => by
            dsimp only at hk
            rcases (show k = 0 ∨ k = 1 ∨ k = 2 ∨ k = 3 by omega) with rfl | rfl | rfl | rfl
            · exact g0
            · exact hg 1 h1.1.1.2.1 h1.1.1.2.2
            · exact hg 2 h1.1.2.1 h1.1.2.2
            · exact hg 3 h1.2.1 h1.2.2⟩
        · exact one _ rfl
      · exact one _ rfl
def opn (l : Bs) (st : Option Nat) (pos : Nat) : Bs := match st with
  | none => []
  | some a => (l.take pos).drop a
theorem opn_ne {l : Bs} {a pos : Nat} (h : a < pos) (hp : pos ≤ l.length) : (l.take pos).drop a ≠ [] := by
  intro h0
  have := congrArg List.length h0
  simp at this; omega
theorem ext_eq (l : Bs) (a b : Nat) : ((⟨l.toArray⟩ : ByteArray).extract a b).data.toList = (l.take b).drop a := by
  rw [Go.Lib.extract_data, ← List.drop_take]
theorem spans_wf (l : Bs) : ∀ (f pos : Nat) (st : Option Nat) (acc : List (Nat × Nat)), l.length - pos ≤ f → pos ≤ l.length → (∀ a, st = some a → a < pos) →
    (Go.Lib.closeSpans ⟨l.toArray⟩ (Go.Lib.spansFromP spB ⟨l.toArray⟩ f pos st acc)).map (fun x => (l.take x.2).drop x.1) = acc.map (fun x => (l.take x.2).drop x.1) ++ wf (opn l st pos) (l.drop pos) := by
  intro f
  induction f with
  | zero =>
    intro pos st acc hf hp hst
    have : pos = l.length := by omega
    subst this
    cases st with
    | none => simp [Go.Lib.spansFromP, Go.Lib.closeSpans, opn, wf]
    | some a =>
      have := opn_ne (hst a rfl) hp
      simp only [Go.Lib.spansFromP, Go.Lib.closeSpans, opn, ba_size, List.map_append, List.drop_length]
      rw [wf, if_neg this]; rfl
  | succ f ih =>
    intro pos st acc hf hp hst
    unfold Go.Lib.spansFromP
    by_cases h : pos < l.length
    · rw [if_pos (by rw [ba_size]; exact h)]
      have hd : l.drop pos = l[pos] :: l.drop (pos + 1) := List.drop_eq_getElem_cons h
      by_cases ha : (l[pos]).toNat < 128
      · have e := decode_ascii ⟨l.toArray⟩ pos (by rw [ba_size]; exact h) ha
        rw [ba_at] at e
        rw [e, spb_ascii _ ha, hd, wf]
        cases hs : spb l[pos] with
        | true =>
          rw [if_pos rfl, if_pos rfl]
          cases st with
          | none => 
            show (Go.Lib.closeSpans _ (Go.Lib.spansFromP spB _ f (pos + 1) none acc)).map _ = _
            rw [ih _ _ _ (by omega) (by omega) (fun a h => by cases h), if_pos (show opn l none pos = [] from rfl)]; rfl
          | some a =>
            have hn : opn l (some a) pos ≠ [] := opn_ne (hst a rfl) hp
            show (Go.Lib.closeSpans _ (Go.Lib.spansFromP spB _ f (pos + 1) none (acc ++ [(a, pos)]))).map _ = _
            rw [ih _ _ _ (by omega) (by omega) (fun a h => by cases h), if_neg hn, List.map_append, List.append_assoc]; rfl
        | false =>
          rw [if_neg (by simp), if_neg (by simp)]
          cases st with
          | none =>
            show (Go.Lib.closeSpans _ (Go.Lib.spansFromP spB _ f (pos + 1) (some pos) acc)).map _ = _
            rw [ih _ _ _ (by omega) (by omega) (fun a h => by cases h; omega)]
            have : opn l (some pos) (pos + 1) = opn l none pos ++ [l[pos]] := by
              show (l.take (pos + 1)).drop pos = _
              rw [List.take_succ_eq_append_getElem h, List.drop_left' (by simp; omega)]; rfl
            rw [this]
          | some a =>
            have hlt := hst a rfl
            show (Go.Lib.closeSpans _ (Go.Lib.spansFromP spB _ f (pos + 1) (some a) acc)).map _ = _
            rw [ih _ _ _ (by omega) (by omega) (fun b h => by cases h; omega)]
            have : opn l (some a) (pos + 1) = opn l (some a) pos ++ [l[pos]] := by
              show (l.take (pos + 1)).drop a = (l.take pos).drop a ++ _
              rw [List.take_succ_eq_append_getElem h, List.drop_append_of_le_length (by simp; omega)]
            rw [this]
      · have hb : 128 ≤ (l[pos]).toNat := by omega
        have ⟨d1, d2⟩ := decode_high ⟨l.toArray⟩ pos (by rw [ba_size]; exact h) hb
        have ⟨c1, c2⟩ := cover l pos h hb
        generalize Utf8.decode ⟨l.toArray⟩ pos = x at d1 d2 c1 c2
        obtain ⟨r, n⟩ := x
        dsimp only at d1 d2 c1 c2
        rw [spB_high _ d1, if_neg (by simp)]
        have hrun : l.drop pos = (l.take (pos + n)).drop pos ++ l.drop (pos + n) := by
          rw [← List.drop_append_of_le_length (by simp; omega), List.take_append_drop]
        have hall : ∀ c ∈ (l.take (pos + n)).drop pos, spb c = false := fun c hc => by
          obtain ⟨k, hk, rfl⟩ := List.mem_iff_getElem.1 hc
          simp at hk
          have := c2 k (by omega)
          rw [gb_at (by omega)] at this
          rw [List.getElem_drop, List.getElem_take]
          exact spb_high _ this
        rw [hrun, wf_run _ _ _ hall]
        cases st with
        | none =>
          show (Go.Lib.closeSpans _ (Go.Lib.spansFromP spB _ f (pos + n) (some pos) acc)).map _ = _
          rw [ih _ _ _ (by omega) c1 (fun a h => by cases h; omega)]; rfl
        | some a =>
          have hlt := hst a rfl
          show (Go.Lib.closeSpans _ (Go.Lib.spansFromP spB _ f (pos + n) (some a) acc)).map _ = _
          rw [ih _ _ _ (by omega) c1 (fun b h => by cases h; omega)]
          have : opn l (some a) (pos + n) = opn l (some a) pos ++ (l.take (pos + n)).drop pos := by
            show (l.take (pos + n)).drop a = (l.take pos).drop a ++ _
            have : l.take (pos + n) = l.take pos ++ (l.take (pos + n)).drop pos := by
              conv => lhs; rw [← List.take_append_drop pos (l.take (pos + n))]
              rw [List.take_take, Nat.min_eq_left (by omega)]
            rw [this, List.drop_append_of_le_length (by simp; omega)]
            congr 2
          rw [this]
    · have : pos = l.length := by omega
      subst this
      rw [if_neg (by rw [ba_size]; exact h)]
      cases st with
      | none => simp [Go.Lib.closeSpans, opn, wf]
      | some a =>
        have := opn_ne (hst a rfl) hp
        simp only [Go.Lib.closeSpans, opn, ba_size, List.map_append, List.drop_length]
        rw [wf, if_neg this]; rfl
theorem fields_eq (s : Bs) : fieldsP spB s = wf [] s := by
  have := spans_wf s (⟨s.toArray⟩ : ByteArray).size 0 none [] (by rw [ba_size]; omega) (by omega) (fun a h => by cases h)
  unfold fieldsP Go.Lib.goFieldsP Go.Lib.spansOfP
  rw [List.map_map]
  have e : ((fun x : ByteArray => x.data.toList) ∘ fun x : Nat × Nat => (⟨s.toArray⟩ : ByteArray).extract x.1 x.2) = fun x => (s.take x.2).drop x.1 := by
    funext x; exact ext_eq s x.1 x.2
  rw [e, this]; rfl
theorem wf_total : ∀ (s cur : Bs), Str.total (wf cur s) + (wf cur s).length ≤ cur.length + s.length + 1
  | [], cur => by
    rw [wf]; split
    · simp [Str.total]
    · simp [Str.total]
  | c :: r, cur => by
    rw [wf]
    split
    · have := wf_total r []
      split
      · simp at this ⊢; omega
      · simp [Str.total] at this ⊢; omega
    · have := wf_total r (cur ++ [c])
      simp at this ⊢; omega
end Go.Hd
