/-
  Texts in one (only what HeadLines needs): B64W, HeadAP, HeadAW, HeadBP, HeadBW, HeadLP, HeadLW, LHeadLinesP, LHeadLinesW, HeadRP, HdSp, HdA, HdD, HdR, HdW, HdL, HdF, HdV, HdB, HdK, HdLines, AvOpen.
-/
import Derived.Test.YtiahdbdkjjmfiaaDoorZHeadLines2
import Derived.Test.YtiahdbdkjjmfiaaDoorShelf
import Derived.Test.YtiahdbdkjjmfiaaDoorChecked
import Derived.Lib.SplitLaws
import Derived.Lib.IndexMore
import Derived.Lib.TrimByte
import Derived.Laws.RangeString
import Derived.Laws.RangeAny
import Derived.RowKit
import Derived.OpenShut
import Derived.ChangeSlices
import Derived.SliceStrings
set_option linter.unusedVariables false
set_option linter.unusedSimpArgs false
namespace Go.Proofs.YtiahdbdkjjmfiaaDoor
open Go.RowKit Go.Av Go.Pv
theorem en54_b64 : ∀ (args : Array Value) (w : World), (callFunc 54 args).run Tryd.prog w = .ok (.enter 54 args) w := fun _ _ => by kernel_rfl
theorem en59_b64 : ∀ (args : Array Value) (w : World), (callFunc 59 args).run Tryd.prog w = .ok (.enter 59 args) w := fun _ _ => by kernel_rfl
theorem en75_b64 : ∀ (args : Array Value) (w : World), (callFunc 75 args).run Tryd.prog w = .ok (.enter 75 args) w := fun _ _ => by kernel_rfl
theorem en76_b64 : ∀ (args : Array Value) (w : World), (callFunc 76 args).run Tryd.prog w = .ok (.enter 76 args) w := fun _ _ => by kernel_rfl
theorem en98_b64 : ∀ (args : Array Value) (w : World), (callFunc 98 args).run Tryd.prog w = .ok (.enter 98 args) w := fun _ _ => by kernel_rfl
set_option maxRecDepth 100000 in
set_option maxHeartbeats 1000000 in
theorem w_b64_group (F : Nat) (a1 : List UInt8) (q2 : Option Nat) (r3 : UInt8) (r4 : UInt8) (r5 : UInt8) (r6 : UInt8) (H : b64_group F a1 = some (r3, r4, r5, r6)) : ACalls Tryd.prog 75 [slE Enc.byte a1 q2] [] (Ret (.agg [u8 r3, u8 r4, u8 r5, u8 r6]) []) := by
 unfold b64_group at H
 refine ACalls.of_body Tryd.func75 rfl rfl ?_
 show AW _ _ 43 _ _ _
 refine AW.seq ?_
 refine AW.region ?_
 show AR _ _ _ _ _ [0] _
 refine sX rfl rfl rfl (opX_alloc (zs := [.int .u8 0, .int .u8 0, .int .u8 0, .int .u8 0]) (by kernel_rfl)) ?_
 rintro _ _ ⟨o7, rfl, rfl⟩
 refine AR.nil ?_
 show AW _ _ _ _ _ _
 refine AW.seq ?_
 refine AW.region ?_
 show AR _ _ _ _ _ [0] _
 refine sX rfl rfl rfl (opX_alloc (zs := [.int .u8 0, .int .u8 0, .int .u8 0]) (by kernel_rfl)) ?_
 rintro _ _ ⟨o8, rfl, rfl⟩
 refine AR.nil ?_
 show AW _ _ _ _ _ _
 refine AW.seq ?_
 obtain ⟨g9, H⟩ := grd_s H
 obtain ⟨x10, e11, H⟩ := lt_s H
 refine AW.region ?_
 show AR _ _ _ _ _ [0, 1, 2] _
 refine sS rfl rfl rfl (opS_slice_arr (k := 1) Tryd.underlying115 (by kernel_rfl) rfl) ?_
 refine sS rfl rfl rfl (opS_move (av := slE _ _ _) rfl) ?_
 refine sR rfl rfl rfl (g_copy_arr (l := ([0, 0, 0] : List UInt8)) (vs := [u8 (x10.getD 0 0), u8 (x10.getD 1 0), u8 (x10.getD 2 0)]) 0 Tryd.underlying24 (by kernel_rfl) rfl rfl rfl rfl rfl g9 e11 rfl) ?_
 refine AR.nil ?_
 show AW _ _ _ _ _ _
 refine AW.seq ?_
 obtain ⟨g12, H⟩ := grd_s H
 obtain ⟨g13, H⟩ := grd_s H
 refine AW.region ?_
 show AR _ _ _ _ _ [0, 1, 2, 3, 4, 5, 6, 7, 8, 9, 10, 11, 12, 13] _
 refine sS rfl rfl rfl (opS_indexAddr_arr (Ar := 0) (k := 1) (m := 0) Tryd.underlying115 (by kernel_rfl) rfl rfl rfl (by decide)) ?_
 refine sR rfl rfl rfl (opR_load_pt (i := 0) Tryd.underlying5 rfl rfl rfl rfl) ?_
 refine sS rfl rfl rfl (opS_conv_int (k' := .u8) (n := ((x10.getD 0 0).toNat : Int)) (by kernel_rfl) Tryd.underlying113 rfl) ?_
 refine sS rfl rfl rfl (opS_shl rfl rfl (of_decide_eq_true g12)) ?_
 refine sS rfl rfl rfl (opS_indexAddr_arr (Ar := 0) (k := 1) (m := 1) Tryd.underlying115 (by kernel_rfl) rfl rfl rfl (by decide)) ?_
 refine sR rfl rfl rfl (opR_load_pt (i := 0) Tryd.underlying5 rfl rfl rfl rfl) ?_
 refine sS rfl rfl rfl (opS_conv_int (k' := .u8) (n := ((x10.getD 1 0).toNat : Int)) (by kernel_rfl) Tryd.underlying113 rfl) ?_
 refine sS rfl rfl rfl (opS_shl rfl rfl (of_decide_eq_true g13)) ?_
 refine sS rfl rfl rfl (opS_or rfl rfl) ?_
 refine sS rfl rfl rfl (opS_indexAddr_arr (Ar := 0) (k := 1) (m := 2) Tryd.underlying115 (by kernel_rfl) rfl rfl rfl (by decide)) ?_
 refine sR rfl rfl rfl (opR_load_pt (i := 0) Tryd.underlying5 rfl rfl rfl rfl) ?_
 refine sS rfl rfl rfl (opS_conv_int (k' := .u8) (n := ((x10.getD 2 0).toNat : Int)) (by kernel_rfl) Tryd.underlying113 rfl) ?_
 refine sS rfl rfl rfl (opS_or rfl rfl) ?_
 refine sS rfl rfl rfl (asg rfl) ?_
 refine AR.nil ?_
 show AW _ _ _ _ _ _
 refine AW.seq ?_
 refine AW.region ?_
 show AR _ _ _ _ _ [0] _
 refine sX rfl rfl rfl (opX_alloc (zs := [.int .u8 0, .int .u8 0, .int .u8 0, .int .u8 0]) (by kernel_rfl)) ?_
 rintro _ _ ⟨o14, rfl, rfl⟩
 refine AR.nil ?_
 show AW _ _ _ _ _ _
 refine AW.cut (X := UInt8 × UInt8 × UInt8 × UInt8) (fun (y43, y44, y45, y46) => ⟨[(2, .pt o7 0), (5, .pt o14 0)], [], [.obj o14 [u8 y43, u8 y44, u8 y45, u8 y46], .obj o7 [u8 0, u8 0, u8 0, u8 0]]⟩) (fun (y43, y44, y45, y46) => b64_group_j1 y43 y44 y45 y46 = some (r3, r4, r5, r6)) ?_ ?_
 ·
  refine AW.seq ?_
  refine AW.region ?_
  show AR _ _ _ _ _ [0] _
  refine sS rfl rfl rfl (mv rfl) ?_
  refine AR.nil ?_
  show AW _ _ _ _ _ _
  refine AW.block ?_
  refine AW.rounds 6 ?_
  show AW _ _ _ _ _ _
  refine AW.seq ?_
  refine AW.region ?_
  show AR _ _ _ _ _ [0] _
  refine sS rfl rfl rfl (OpS.eq (av' := B true) (opS_lt rfl rfl) (B_congr (by decide))) ?_
  refine AR.nil ?_
  show AW _ _ _ _ _ _
  refine AW.seq ?_
  refine AW.cond rfl (fun _ => ?_) (fun hx => bool_no rfl hx)
  refine AW.skip ?_
  show AW _ _ _ _ _ _
  refine AW.cut (X := UInt8) (fun y20 => ⟨[(0, slE Enc.byte a1 q2), (2, .pt o7 0), (4, .v (.int .u64 (IntKind.u64.wrap ((BitVec.ofInt IntKind.u64.bits (IntKind.u64.wrap ((BitVec.ofInt IntKind.u64.bits (IntKind.u64.wrap ((IntKind.u64.wrap ((x10.getD 0 0).toNat : Int)) * 2 ^ min (Int.toNat 16) IntKind.u64.bits)) ||| BitVec.ofInt IntKind.u64.bits (IntKind.u64.wrap ((IntKind.u64.wrap ((x10.getD 1 0).toNat : Int)) * 2 ^ min (Int.toNat 8) IntKind.u64.bits))).toNat)) ||| BitVec.ofInt IntKind.u64.bits (IntKind.u64.wrap ((x10.getD 2 0).toNat : Int))).toNat)))), (5, .pt o14 0), (23, i64 0)], [], [.obj o14 [u8 y20, u8 0, u8 0, u8 0], .obj o7 [u8 0, u8 0, u8 0, u8 0]]⟩) (fun y20 => b64_group_j5 a1 x10 y20 = some (r3, r4, r5, r6)) ?_ ?_
  ·
   refine AW.block ?_
   refine AW.seq ?_
   refine AW.region ?_
   show AR _ _ _ _ _ [0, 1] _
   refine sS rfl rfl rfl (mv rfl) ?_
   refine sS rfl rfl rfl (asg rfl) ?_
   refine AR.nil ?_
   show AW _ _ _ _ _ _
   refine AW.seq ?_
   obtain ⟨g15, H⟩ := grd_s H
   obtain ⟨g16, H⟩ := grd_s H
   obtain ⟨x17, e18, H⟩ := lt_s H
   refine AW.region ?_
   show AR _ _ _ _ _ [0, 1, 2, 3, 4, 5, 6, 7, 8, 9] _
   refine sS rfl rfl rfl (mv rfl) ?_
   refine sS rfl rfl rfl (mv rfl) ?_
   refine sS rfl rfl rfl (mv rfl) ?_
   refine sS rfl rfl rfl (OpS.eq (av' := i64 0) (g_mul rfl rfl (by decide)) rfl) ?_
   refine sS rfl rfl rfl (OpS.eq (av' := i64 18) (g_sub rfl rfl (by decide)) rfl) ?_
   refine sS rfl rfl rfl (opS_shr rfl rfl (of_decide_eq_true g15)) ?_
   refine sS rfl rfl rfl (opS_and rfl rfl) ?_
   refine sS rfl rfl rfl (g_index_str Tryd.underlying9 rfl rfl g16 e18) ?_
   refine sS rfl rfl rfl (opS_indexAddr_arr (Ar := 0) (k := 1) (m := 0) Tryd.underlying102 (by kernel_rfl) rfl rfl rfl (by decide)) ?_
   refine s0 rfl rfl (opR_store_pt (i := 0) (c := .v _) (by kernel_rfl) rfl rfl rfl rfl (Nat.le_of_ble_eq_true rfl)) ?_
   refine AR.nil ?_
   show AW _ _ _ _ _ _
   refine AW.seq ?_
   refine AW.region ?_
   show AR _ _ _ _ _ [0, 1, 2, 3] _
   refine sS rfl rfl rfl (mv rfl) ?_
   refine sS rfl rfl rfl (opS_move (av := slE _ _ _) rfl) ?_
   refine sS rfl rfl rfl (opS_len_sl Tryd.underlying24 rfl) ?_
   refine sS rfl rfl rfl (opS_gt rfl rfl) ?_
   refine AR.nil ?_
   show AW _ _ _ _ _ _
   refine AW.cond rfl (fun c19 => ?_) (fun c19 => ?_)
   ·replace H := cnd_t c19 H
    refine AW.region ?_
    show AR _ _ _ _ _ [0, 1, 2] _
    refine sS rfl rfl rfl (mv rfl) ?_
    refine sS rfl rfl rfl (opS_indexAddr_arr (Ar := 0) (k := 1) (m := 0) Tryd.underlying102 (by kernel_rfl) rfl rfl rfl (by decide)) ?_
    refine s0 rfl rfl (opR_store_pt (i := 0) (c := .v _) (by kernel_rfl) rfl rfl rfl rfl (Nat.le_of_ble_eq_true rfl)) ?_
    refine AR.nil ?_
    exact Exists.intro 61 ⟨H, WK.at [0, 1] (.cons (.refl _) (.cons (.refl _) (.cons (.refl _) (.cons (.refl _) (.cons (.refl _) (.nil _)))))) rfl⟩
   ·replace H := cnd_f c19 H
    refine AW.skip ?_
    exact Exists.intro x17 ⟨H, WK.at [0, 1] (.cons (.refl _) (.cons (.refl _) (.cons (.refl _) (.cons (.refl _) (.cons (.refl _) (.nil _)))))) rfl⟩
  rintro y20 H
  replace H : b64_group_j5 a1 x10 y20 = some (r3, r4, r5, r6) := H
  unfold b64_group_j5 at H
  show AW _ _ _ _ _ _
  refine AW.region ?_
  show AR _ _ _ _ _ [0, 1] _
  refine sS rfl rfl rfl (OpS.eq (av' := i64 1) (g_add rfl rfl (by decide)) rfl) ?_
  refine sS rfl rfl rfl (mv rfl) ?_
  refine AR.nil ?_
  show AW _ _ _ _ _ _
  refine AW.seq ?_
  refine AW.region ?_
  show AR _ _ _ _ _ [0] _
  refine sS rfl rfl rfl (OpS.eq (av' := B true) (opS_lt rfl rfl) (B_congr (by decide))) ?_
  refine AR.nil ?_
  show AW _ _ _ _ _ _
  refine AW.seq ?_
  refine AW.cond rfl (fun _ => ?_) (fun hx => bool_no rfl hx)
  refine AW.skip ?_
  show AW _ _ _ _ _ _
  refine AW.cut (X := UInt8) (fun y27 => ⟨[(0, slE Enc.byte a1 q2), (2, .pt o7 0), (4, .v (.int .u64 (IntKind.u64.wrap ((BitVec.ofInt IntKind.u64.bits (IntKind.u64.wrap ((BitVec.ofInt IntKind.u64.bits (IntKind.u64.wrap ((IntKind.u64.wrap ((x10.getD 0 0).toNat : Int)) * 2 ^ min (Int.toNat 16) IntKind.u64.bits)) ||| BitVec.ofInt IntKind.u64.bits (IntKind.u64.wrap ((IntKind.u64.wrap ((x10.getD 1 0).toNat : Int)) * 2 ^ min (Int.toNat 8) IntKind.u64.bits))).toNat)) ||| BitVec.ofInt IntKind.u64.bits (IntKind.u64.wrap ((x10.getD 2 0).toNat : Int))).toNat)))), (5, .pt o14 0), (23, i64 1)], [], [.obj o14 [u8 y20, u8 y27, u8 0, u8 0], .obj o7 [u8 0, u8 0, u8 0, u8 0]]⟩) (fun y27 => b64_group_j4 a1 x10 y20 y27 = some (r3, r4, r5, r6)) ?_ ?_
  ·
   refine AW.block ?_
   refine AW.seq ?_
   refine AW.region ?_
   show AR _ _ _ _ _ [0, 1] _
   refine sS rfl rfl rfl (mv rfl) ?_
   refine sS rfl rfl rfl (asg rfl) ?_
   refine AR.nil ?_
   show AW _ _ _ _ _ _
   refine AW.seq ?_
   obtain ⟨g22, H⟩ := grd_s H
   obtain ⟨g23, H⟩ := grd_s H
   obtain ⟨x24, e25, H⟩ := lt_s H
   refine AW.region ?_
   show AR _ _ _ _ _ [0, 1, 2, 3, 4, 5, 6, 7, 8, 9] _
   refine sS rfl rfl rfl (mv rfl) ?_
   refine sS rfl rfl rfl (mv rfl) ?_
   refine sS rfl rfl rfl (mv rfl) ?_
   refine sS rfl rfl rfl (OpS.eq (av' := i64 6) (g_mul rfl rfl (by decide)) rfl) ?_
   refine sS rfl rfl rfl (OpS.eq (av' := i64 12) (g_sub rfl rfl (by decide)) rfl) ?_
   refine sS rfl rfl rfl (opS_shr rfl rfl (of_decide_eq_true g22)) ?_
   refine sS rfl rfl rfl (opS_and rfl rfl) ?_
   refine sS rfl rfl rfl (g_index_str Tryd.underlying9 rfl rfl g23 e25) ?_
   refine sS rfl rfl rfl (opS_indexAddr_arr (Ar := 0) (k := 1) (m := 1) Tryd.underlying102 (by kernel_rfl) rfl rfl rfl (by decide)) ?_
   refine s0 rfl rfl (opR_store_pt (i := 0) (c := .v _) (by kernel_rfl) rfl rfl rfl rfl (Nat.le_of_ble_eq_true rfl)) ?_
   refine AR.nil ?_
   show AW _ _ _ _ _ _
   refine AW.seq ?_
   refine AW.region ?_
   show AR _ _ _ _ _ [0, 1, 2, 3] _
   refine sS rfl rfl rfl (mv rfl) ?_
   refine sS rfl rfl rfl (opS_move (av := slE _ _ _) rfl) ?_
   refine sS rfl rfl rfl (opS_len_sl Tryd.underlying24 rfl) ?_
   refine sS rfl rfl rfl (opS_gt rfl rfl) ?_
   refine AR.nil ?_
   show AW _ _ _ _ _ _
   refine AW.cond rfl (fun c26 => ?_) (fun c26 => ?_)
   ·replace H := cnd_t c26 H
    refine AW.region ?_
    show AR _ _ _ _ _ [0, 1, 2] _
    refine sS rfl rfl rfl (mv rfl) ?_
    refine sS rfl rfl rfl (opS_indexAddr_arr (Ar := 0) (k := 1) (m := 1) Tryd.underlying102 (by kernel_rfl) rfl rfl rfl (by decide)) ?_
    refine s0 rfl rfl (opR_store_pt (i := 0) (c := .v _) (by kernel_rfl) rfl rfl rfl rfl (Nat.le_of_ble_eq_true rfl)) ?_
    refine AR.nil ?_
    exact Exists.intro 61 ⟨H, WK.at [0, 0] (.cons (.refl _) (.cons (.refl _) (.cons (.refl _) (.cons (.refl _) (.cons (.refl _) (.nil _)))))) rfl⟩
   ·replace H := cnd_f c26 H
    refine AW.skip ?_
    exact Exists.intro x24 ⟨H, WK.at [0, 0] (.cons (.refl _) (.cons (.refl _) (.cons (.refl _) (.cons (.refl _) (.cons (.refl _) (.nil _)))))) rfl⟩
  rintro y27 H
  replace H : b64_group_j4 a1 x10 y20 y27 = some (r3, r4, r5, r6) := H
  unfold b64_group_j4 at H
  show AW _ _ _ _ _ _
  refine AW.region ?_
  show AR _ _ _ _ _ [0, 1] _
  refine sS rfl rfl rfl (OpS.eq (av' := i64 2) (g_add rfl rfl (by decide)) rfl) ?_
  refine sS rfl rfl rfl (mv rfl) ?_
  refine AR.nil ?_
  show AW _ _ _ _ _ _
  refine AW.seq ?_
  refine AW.region ?_
  show AR _ _ _ _ _ [0] _
  refine sS rfl rfl rfl (OpS.eq (av' := B true) (opS_lt rfl rfl) (B_congr (by decide))) ?_
  refine AR.nil ?_
  show AW _ _ _ _ _ _
  refine AW.seq ?_
  refine AW.cond rfl (fun _ => ?_) (fun hx => bool_no rfl hx)
  refine AW.skip ?_
  show AW _ _ _ _ _ _
  refine AW.cut (X := UInt8) (fun y34 => ⟨[(0, slE Enc.byte a1 q2), (2, .pt o7 0), (4, .v (.int .u64 (IntKind.u64.wrap ((BitVec.ofInt IntKind.u64.bits (IntKind.u64.wrap ((BitVec.ofInt IntKind.u64.bits (IntKind.u64.wrap ((IntKind.u64.wrap ((x10.getD 0 0).toNat : Int)) * 2 ^ min (Int.toNat 16) IntKind.u64.bits)) ||| BitVec.ofInt IntKind.u64.bits (IntKind.u64.wrap ((IntKind.u64.wrap ((x10.getD 1 0).toNat : Int)) * 2 ^ min (Int.toNat 8) IntKind.u64.bits))).toNat)) ||| BitVec.ofInt IntKind.u64.bits (IntKind.u64.wrap ((x10.getD 2 0).toNat : Int))).toNat)))), (5, .pt o14 0), (23, i64 2)], [], [.obj o14 [u8 y20, u8 y27, u8 y34, u8 0], .obj o7 [u8 0, u8 0, u8 0, u8 0]]⟩) (fun y34 => b64_group_j3 a1 x10 y20 y27 y34 = some (r3, r4, r5, r6)) ?_ ?_
  ·
   refine AW.block ?_
   refine AW.seq ?_
   refine AW.region ?_
   show AR _ _ _ _ _ [0, 1] _
   refine sS rfl rfl rfl (mv rfl) ?_
   refine sS rfl rfl rfl (asg rfl) ?_
   refine AR.nil ?_
   show AW _ _ _ _ _ _
   refine AW.seq ?_
   obtain ⟨g29, H⟩ := grd_s H
   obtain ⟨g30, H⟩ := grd_s H
   obtain ⟨x31, e32, H⟩ := lt_s H
   refine AW.region ?_
   show AR _ _ _ _ _ [0, 1, 2, 3, 4, 5, 6, 7, 8, 9] _
   refine sS rfl rfl rfl (mv rfl) ?_
   refine sS rfl rfl rfl (mv rfl) ?_
   refine sS rfl rfl rfl (mv rfl) ?_
   refine sS rfl rfl rfl (OpS.eq (av' := i64 12) (g_mul rfl rfl (by decide)) rfl) ?_
   refine sS rfl rfl rfl (OpS.eq (av' := i64 6) (g_sub rfl rfl (by decide)) rfl) ?_
   refine sS rfl rfl rfl (opS_shr rfl rfl (of_decide_eq_true g29)) ?_
   refine sS rfl rfl rfl (opS_and rfl rfl) ?_
   refine sS rfl rfl rfl (g_index_str Tryd.underlying9 rfl rfl g30 e32) ?_
   refine sS rfl rfl rfl (opS_indexAddr_arr (Ar := 0) (k := 1) (m := 2) Tryd.underlying102 (by kernel_rfl) rfl rfl rfl (by decide)) ?_
   refine s0 rfl rfl (opR_store_pt (i := 0) (c := .v _) (by kernel_rfl) rfl rfl rfl rfl (Nat.le_of_ble_eq_true rfl)) ?_
   refine AR.nil ?_
   show AW _ _ _ _ _ _
   refine AW.seq ?_
   refine AW.region ?_
   show AR _ _ _ _ _ [0, 1, 2, 3] _
   refine sS rfl rfl rfl (mv rfl) ?_
   refine sS rfl rfl rfl (opS_move (av := slE _ _ _) rfl) ?_
   refine sS rfl rfl rfl (opS_len_sl Tryd.underlying24 rfl) ?_
   refine sS rfl rfl rfl (opS_gt rfl rfl) ?_
   refine AR.nil ?_
   show AW _ _ _ _ _ _
   refine AW.cond rfl (fun c33 => ?_) (fun c33 => ?_)
   ·replace H := cnd_t c33 H
    refine AW.region ?_
    show AR _ _ _ _ _ [0, 1, 2] _
    refine sS rfl rfl rfl (mv rfl) ?_
    refine sS rfl rfl rfl (opS_indexAddr_arr (Ar := 0) (k := 1) (m := 2) Tryd.underlying102 (by kernel_rfl) rfl rfl rfl (by decide)) ?_
    refine s0 rfl rfl (opR_store_pt (i := 0) (c := .v _) (by kernel_rfl) rfl rfl rfl rfl (Nat.le_of_ble_eq_true rfl)) ?_
    refine AR.nil ?_
    exact Exists.intro 61 ⟨H, WK.at [0, 0] (.cons (.refl _) (.cons (.refl _) (.cons (.refl _) (.cons (.refl _) (.cons (.refl _) (.nil _)))))) rfl⟩
   ·replace H := cnd_f c33 H
    refine AW.skip ?_
    exact Exists.intro x31 ⟨H, WK.at [0, 0] (.cons (.refl _) (.cons (.refl _) (.cons (.refl _) (.cons (.refl _) (.cons (.refl _) (.nil _)))))) rfl⟩
  rintro y34 H
  replace H : b64_group_j3 a1 x10 y20 y27 y34 = some (r3, r4, r5, r6) := H
  unfold b64_group_j3 at H
  show AW _ _ _ _ _ _
  refine AW.region ?_
  show AR _ _ _ _ _ [0, 1] _
  refine sS rfl rfl rfl (OpS.eq (av' := i64 3) (g_add rfl rfl (by decide)) rfl) ?_
  refine sS rfl rfl rfl (mv rfl) ?_
  refine AR.nil ?_
  show AW _ _ _ _ _ _
  refine AW.seq ?_
  refine AW.region ?_
  show AR _ _ _ _ _ [0] _
  refine sS rfl rfl rfl (OpS.eq (av' := B true) (opS_lt rfl rfl) (B_congr (by decide))) ?_
  refine AR.nil ?_
  show AW _ _ _ _ _ _
  refine AW.seq ?_
  refine AW.cond rfl (fun _ => ?_) (fun hx => bool_no rfl hx)
  refine AW.skip ?_
  show AW _ _ _ _ _ _
  refine AW.cut (X := UInt8) (fun y41 => ⟨[(0, slE Enc.byte a1 q2), (2, .pt o7 0), (4, .v (.int .u64 (IntKind.u64.wrap ((BitVec.ofInt IntKind.u64.bits (IntKind.u64.wrap ((BitVec.ofInt IntKind.u64.bits (IntKind.u64.wrap ((IntKind.u64.wrap ((x10.getD 0 0).toNat : Int)) * 2 ^ min (Int.toNat 16) IntKind.u64.bits)) ||| BitVec.ofInt IntKind.u64.bits (IntKind.u64.wrap ((IntKind.u64.wrap ((x10.getD 1 0).toNat : Int)) * 2 ^ min (Int.toNat 8) IntKind.u64.bits))).toNat)) ||| BitVec.ofInt IntKind.u64.bits (IntKind.u64.wrap ((x10.getD 2 0).toNat : Int))).toNat)))), (5, .pt o14 0), (23, i64 3)], [], [.obj o14 [u8 y20, u8 y27, u8 y34, u8 y41], .obj o7 [u8 0, u8 0, u8 0, u8 0]]⟩) (fun y41 => b64_group_j2 y20 y27 y34 y41 = some (r3, r4, r5, r6)) ?_ ?_
  ·
   refine AW.block ?_
   refine AW.seq ?_
   refine AW.region ?_
   show AR _ _ _ _ _ [0, 1] _
   refine sS rfl rfl rfl (mv rfl) ?_
   refine sS rfl rfl rfl (asg rfl) ?_
   refine AR.nil ?_
   show AW _ _ _ _ _ _
   refine AW.seq ?_
   obtain ⟨g36, H⟩ := grd_s H
   obtain ⟨g37, H⟩ := grd_s H
   obtain ⟨x38, e39, H⟩ := lt_s H
   refine AW.region ?_
   show AR _ _ _ _ _ [0, 1, 2, 3, 4, 5, 6, 7, 8, 9] _
   refine sS rfl rfl rfl (mv rfl) ?_
   refine sS rfl rfl rfl (mv rfl) ?_
   refine sS rfl rfl rfl (mv rfl) ?_
   refine sS rfl rfl rfl (OpS.eq (av' := i64 18) (g_mul rfl rfl (by decide)) rfl) ?_
   refine sS rfl rfl rfl (OpS.eq (av' := i64 0) (g_sub rfl rfl (by decide)) rfl) ?_
   refine sS rfl rfl rfl (opS_shr rfl rfl (of_decide_eq_true g36)) ?_
   refine sS rfl rfl rfl (opS_and rfl rfl) ?_
   refine sS rfl rfl rfl (g_index_str Tryd.underlying9 rfl rfl g37 e39) ?_
   refine sS rfl rfl rfl (opS_indexAddr_arr (Ar := 0) (k := 1) (m := 3) Tryd.underlying102 (by kernel_rfl) rfl rfl rfl (by decide)) ?_
   refine s0 rfl rfl (opR_store_pt (i := 0) (c := .v _) (by kernel_rfl) rfl rfl rfl rfl (Nat.le_of_ble_eq_true rfl)) ?_
   refine AR.nil ?_
   show AW _ _ _ _ _ _
   refine AW.seq ?_
   refine AW.region ?_
   show AR _ _ _ _ _ [0, 1, 2, 3] _
   refine sS rfl rfl rfl (mv rfl) ?_
   refine sS rfl rfl rfl (opS_move (av := slE _ _ _) rfl) ?_
   refine sS rfl rfl rfl (opS_len_sl Tryd.underlying24 rfl) ?_
   refine sS rfl rfl rfl (opS_gt rfl rfl) ?_
   refine AR.nil ?_
   show AW _ _ _ _ _ _
   refine AW.cond rfl (fun c40 => ?_) (fun c40 => ?_)
   ·replace H := cnd_t c40 H
    refine AW.region ?_
    show AR _ _ _ _ _ [0, 1, 2] _
    refine sS rfl rfl rfl (mv rfl) ?_
    refine sS rfl rfl rfl (opS_indexAddr_arr (Ar := 0) (k := 1) (m := 3) Tryd.underlying102 (by kernel_rfl) rfl rfl rfl (by decide)) ?_
    refine s0 rfl rfl (opR_store_pt (i := 0) (c := .v _) (by kernel_rfl) rfl rfl rfl rfl (Nat.le_of_ble_eq_true rfl)) ?_
    refine AR.nil ?_
    exact Exists.intro 61 ⟨H, WK.at [0, 0] (.cons (.refl _) (.cons (.refl _) (.cons (.refl _) (.cons (.refl _) (.cons (.refl _) (.nil _)))))) rfl⟩
   ·replace H := cnd_f c40 H
    refine AW.skip ?_
    exact Exists.intro x38 ⟨H, WK.at [0, 0] (.cons (.refl _) (.cons (.refl _) (.cons (.refl _) (.cons (.refl _) (.cons (.refl _) (.nil _)))))) rfl⟩
  rintro y41 H
  replace H : b64_group_j2 y20 y27 y34 y41 = some (r3, r4, r5, r6) := H
  unfold b64_group_j2 at H
  show AW _ _ _ _ _ _
  refine AW.region ?_
  show AR _ _ _ _ _ [0, 1] _
  refine sS rfl rfl rfl (OpS.eq (av' := i64 4) (g_add rfl rfl (by decide)) rfl) ?_
  refine sS rfl rfl rfl (mv rfl) ?_
  refine AR.nil ?_
  show AW _ _ _ _ _ _
  refine AW.seq ?_
  refine AW.region ?_
  show AR _ _ _ _ _ [0] _
  refine sS rfl rfl rfl (OpS.eq (av' := B false) (opS_lt rfl rfl) (B_congr (by decide))) ?_
  refine AR.nil ?_
  show AW _ _ _ _ _ _
  refine AW.seq ?_
  refine AW.cond rfl (fun hx => bool_no hx rfl) (fun _ => ?_)
  refine AW.exit ?_
  exact Exists.intro (y20, y27, y34, y41) ⟨H, WK.at [0, 0] (.cons (.refl _) (.cons (.refl _) (.nil _))) rfl⟩
 rintro ⟨y43, y44, y45, y46⟩ H
 replace H : b64_group_j1 y43 y44 y45 y46 = some (r3, r4, r5, r6) := H
 unfold b64_group_j1 at H
 show AW _ _ _ _ _ _
 refine AW.seq ?_
 refine AW.region ?_
 show AR _ _ _ _ _ [0, 1] _
 refine sR rfl rfl rfl (opR_load_agg (i := 0) (n := 4) Tryd.underlying102 rfl (by kernel_rfl) rfl rfl (Nat.le_of_ble_eq_true rfl)) ?_
 refine s0 rfl rfl (opR_store_agg (i := 1) (vs := [u8 y43, u8 y44, u8 y45, u8 y46]) (by kernel_rfl) rfl rfl (by simp [isCell, slE]) rfl (Nat.le_of_ble_eq_true rfl)) ?_
 refine AR.nil ?_
 show AW _ _ _ _ _ _
 refine AW.ret ?_
 obtain ⟨rfl, rfl, rfl, rfl⟩ := res4 H
 exact And.intro rfl (Exists.intro _ (Exists.intro _ ⟨ResT.resV (ResT.place1 rfl (CellV.agg (off := 0) (cs := [u8 y43, u8 y44, u8 y45, u8 y46]) (n := 4) 1 Tryd.underlying102 rfl (by kernel_rfl) rfl rfl (Nat.le_of_ble_eq_true rfl))), Sub.at [] rfl, rfl, rfl⟩))
set_option maxRecDepth 100000 in
set_option maxHeartbeats 1000000 in
theorem w_b64_Raw (F : Nat) (a1 : List UInt8) (q2 : Option Nat) (r3 : List UInt8) (H : b64_Raw F a1 = some r3) : ACalls Tryd.prog 54 [slE Enc.byte a1 q2] [] (Ret (S r3) []) := by
 unfold b64_Raw at H
 refine ACalls.of_body Tryd.func54 rfl rfl ?_
 show AW _ _ 23 _ _ _
 refine AW.seq ?_
 refine AW.region ?_
 show AR _ _ _ _ _ [0] _
 refine sS rfl rfl rfl (asg rfl) ?_
 refine AR.nil ?_
 show AW _ _ _ _ _ _
 refine AW.seq ?_
 refine AW.region ?_
 show AR _ _ _ _ _ [0] _
 refine sX rfl rfl rfl (opX_allocT (zs := [(.pointer none), .slice none 0 0]) (by kernel_rfl)) ?_
 rintro _ _ ⟨o4, rfl, rfl⟩
 refine AR.nil ?_
 show AW _ _ _ _ _ _
 refine AW.nil_objAt 0 1 1 5 rfl rfl fun t5 => ?_
 show AW _ _ _ _ _ ⟨_, _, [.tok t5 5, .obj o4 [.v (.pointer none), slE Enc.byte [] (some t5)], .ty o4 81]⟩
 refine AW.cut (X := AV × (List UInt8) × Nat) (fun (t29, y30, t31) => ⟨[(3, .pt o4 0)], [], [.obj o4 [t29, slE Enc.byte y30 (some t31)], .ty o4 81, .tok t31 5]⟩) (fun (t29, y30, t31) => b64_Raw_j1 y30 = some r3 ∧ (t29 = .v (.pointer none) ∨ t29 = .pt o4 0)) ?_ ?_
 ·
  refine AW.block ?_
  refine AW.loop (X := Nat × (List UInt8) × AV × (List UInt8) × Nat) (fun (n11, y6, t7, y8, t9) => ⟨[(0, slE Enc.byte y6 none), (3, .pt o4 0)], [], [.obj o4 [t7, slE Enc.byte y8 (some t9)], .ty o4 81, .tok t9 5]⟩) (fun (n11, y6, t7, y8, t9) => b64_Raw_L1 F n11 (y6, y8) = some r3 ∧ (t7 = .v (.pointer none) ∨ t7 = .pt o4 0)) (fun (n11, y6, t7, y8, t9) => n11) (F, a1, (.v (.pointer none)), [], t5) ⟨H, .inl rfl⟩ (WK.at [1, 1, 0] (.cons (.tok _ _ _) (.cons (.refl _) (.nil _))) rfl) ?_
  rintro ⟨n11, y6, t7, y8, t9⟩ ⟨H, ht7⟩
  obtain ⟨n11, rfl, H⟩ := loop_s H
  replace H : b64_Raw_B1 F (b64_Raw_L1 F n11) y6 y8 = some r3 := H
  unfold b64_Raw_B1 at H
  show AW _ _ _ _ _ _
  refine AW.seq ?_
  refine AW.seq ?_
  refine AW.region ?_
  show AR _ _ _ _ _ [0, 1, 2] _
  refine sS rfl rfl rfl (opS_move (av := slE _ _ _) rfl) ?_
  refine sS rfl rfl rfl (opS_len_sl Tryd.underlying24 rfl) ?_
  refine sS rfl rfl rfl (opS_gt rfl rfl) ?_
  refine AR.nil ?_
  show AW _ _ _ _ _ _
  refine AW.cond rfl (fun c12 => ?_) (fun c12 => ?_)
  ·replace H := cnd_t c12 H
   refine AW.skip ?_
   show AW _ _ _ _ _ _
   refine AW.block ?_
   refine AW.seq ?_
   refine AW.region ?_
   show AR _ _ _ _ _ [0, 1, 2, 3] _
   refine sS rfl rfl rfl (opS_move (av := slE _ _ _) rfl) ?_
   refine sS rfl rfl rfl (opS_len_sl Tryd.underlying24 rfl) ?_
   refine sS rfl rfl rfl (opS_min rfl rfl) ?_
   refine sS rfl rfl rfl (asg rfl) ?_
   refine AR.nil ?_
   show AW _ _ _ _ _ _
   refine AW.seq ?_
   obtain ⟨g13, H⟩ := grd_s H
   obtain ⟨x14, e15, H⟩ := lt_s H
   obtain ⟨x16, x17, x18, x19, e20, H⟩ := bnd4_s H
   refine AW.region ?_
   show AR _ _ _ _ _ [0, 1, 2, 3, 4, 5, 6] _
   refine sS rfl rfl rfl (opS_move (av := slE _ _ _) rfl) ?_
   refine sS rfl rfl rfl (mv rfl) ?_
   refine sS rfl rfl rfl (mv rfl) ?_
   refine sS rfl rfl rfl (g_slice3_to (E := Enc.byte) Tryd.underlying24 (by kernel_rfl) rfl rfl rfl g13 e15) ?_
   refine AR.run rfl rfl (AO.callp rfl en75_b64 rfl (w_b64_group F x14 none x16 x17 x18 x19 e20) ?_)
   refine sX rfl rfl rfl (opX_alloc (zs := [.int .u8 0, .int .u8 0, .int .u8 0, .int .u8 0]) (by kernel_rfl)) ?_
   rintro _ _ ⟨o21, rfl, rfl⟩
   refine s0 rfl rfl (opR_store_agg (i := 0) (vs := [u8 x16, u8 x17, u8 x18, u8 x19]) (by kernel_rfl) rfl rfl (by simp [isCell, slE]) rfl (Nat.le_of_ble_eq_true rfl)) ?_
   refine AR.freezeCp 5 0 rfl rfl ?_
   show AR _ _ _ _ _ _ ⟨_, _, [.obj o4 [t7, slE Enc.byte y8 (some t9)], .ty o4 81, .tok t9 5]⟩
   refine AR.nil ?_
   show AW _ _ _ _ _ _
   refine AW.seq ?_
   obtain ⟨g22, H⟩ := grd_s H
   obtain ⟨x23, e24, H⟩ := lt_s H
   refine AW.region ?_
   show AR _ _ _ _ _ [0, 1] _
   refine sS rfl rfl rfl (opS_slice_arr_cp (E := Enc.byte) (l := ([x16, x17, x18, x19] : List UInt8)) rfl Tryd.underlying102 (by kernel_rfl) rfl rfl rfl) ?_
   refine AR.run rfl rfl (AO.callAt [0, 0, 0] rfl en76_b64 rfl (Builder_Write0  o4 (t7) ht7 y8 ([x16, x17, x18, x19] : List UInt8) none t9 (okW_s g22)) rfl (fun c A' h => by cases h.1) ?_)
   rintro av A' ⟨h, t25, rfl⟩; cases h
   rw [e24]
   refine AR.nil ?_
   show AW _ _ _ _ _ _
   obtain ⟨g26, H⟩ := grd_s H
   obtain ⟨x27, e28, H⟩ := lt_s H
   refine AW.region ?_
   show AR _ _ _ _ _ [0, 1, 2, 3] _
   refine sS rfl rfl rfl (opS_move (av := slE _ _ _) rfl) ?_
   refine sS rfl rfl rfl (mv rfl) ?_
   refine sS rfl rfl rfl (g_from_sl (E := Enc.byte) Tryd.underlying24 (by kernel_rfl) rfl rfl g26 e28) ?_
   refine sS rfl rfl rfl (opS_assign (av := slE _ _ _) rfl) ?_
   refine AR.nil ?_
   exact Exists.intro (n11, x27, (.pt o4 0), x23, t25) ⟨⟨H, .inr rfl⟩, Nat.lt_succ_self _, WK.at [0, 0, 0] (.cons (.refl _) (.cons (.refl _) (.nil _))) rfl⟩
  ·replace H := cnd_f c12 H
   refine AW.exit ?_
   exact Exists.intro (t7, y8, t9) ⟨⟨H, ht7⟩, WK.at [0, 0, 0] (.cons (.refl _) (.nil _)) rfl⟩
 rintro ⟨t29, y30, t31⟩ ⟨H, ht29⟩
 replace H : b64_Raw_j1 y30 = some r3 := H
 unfold b64_Raw_j1 at H
 show AW _ _ _ _ _ _
 refine AW.seq ?_
 obtain ⟨g33, H⟩ := grd_s H
 refine AW.region ?_
 show AR _ _ _ _ _ [0, 1] _
 refine AR.run rfl rfl (AO.callAt [0, 1] rfl en59_b64 rfl (Builder_String0  o4 (t29) y30 t31 (okW0_s g33)) rfl (fun c A' h => by cases h.1) ?_)
 rintro av A' ⟨h, rfl⟩; cases h
 refine sS rfl rfl rfl (asg rfl) ?_
 refine AR.nil ?_
 show AW _ _ _ _ _ _
 refine AW.ret ?_
 obtain rfl := Option.some.inj H
 exact And.intro rfl (Exists.intro _ (Exists.intro _ ⟨ResV.oneW rfl (.refl _), Sub.at [] rfl, rfl, rfl⟩))
set_option maxRecDepth 100000 in
set_option maxHeartbeats 1000000 in
theorem w_b64_Bytes (F : Nat) (a1 : List UInt8) (r2 : List UInt8) (r3 : Int) (H : b64_Bytes F a1 = some (r2, r3)) : ACalls Tryd.prog 80 [S a1] [] (Ret (.tup [slE Enc.byte r2 none, i64 r3]) []) := by
 unfold b64_Bytes at H
 refine ACalls.of_body Tryd.func80 rfl rfl ?_
 show AW _ _ 61 _ _ _
 refine AW.seq ?_
 refine AW.region ?_
 show AR _ _ _ _ _ [0, 1] _
 refine sS rfl rfl rfl (asg rfl) ?_
 refine sS rfl rfl rfl (asg rfl) ?_
 refine AR.nil ?_
 show AW _ _ _ _ _ _
 refine AW.seq ?_
 refine AW.region ?_
 show AR _ _ _ _ _ [0] _
 refine sS rfl rfl rfl (asg rfl) ?_
 refine AR.nil ?_
 show AW _ _ _ _ _ _
 refine AW.nil_grows 4 1 5 rfl fun t4 => ?_
 show AW _ _ _ _ _ ⟨(4, slE Enc.byte [] (some t4)) :: _, _, _⟩
 refine AW.cut (X := (List UInt8) × Nat) (fun (y50, t51) => ⟨[(0, S a1), (4, slE Enc.byte y50 (some t51))], [], [.tok t51 5]⟩) (fun (y50, t51) => b64_Bytes_j1 F a1 y50 = some (r2, r3)) ?_ ?_
 ·
  refine AW.seq ?_
  refine AW.region ?_
  show AR _ _ _ _ _ [0, 1] _
  refine sS rfl rfl rfl (mv rfl) ?_
  refine sS rfl rfl rfl (asg rfl) ?_
  refine AR.nil ?_
  show AW _ _ _ _ _ _
  refine AW.block ?_
  refine AW.loop (X := Nat × (List UInt8) × Nat × (List UInt8)) (fun (n9, y5, t6, y7) => ⟨[(0, S a1), (4, slE Enc.byte y5 (some t6)), (5, S y7)], [], [.tok t6 5]⟩) (fun (n9, y5, t6, y7) => b64_Bytes_L2 F a1 n9 (y5, y7) = some (r2, r3)) (fun (n9, y5, t6, y7) => n9) (F, [], t4, a1) H (WK.at [0] (.cons (.refl _) (.cons (.refl _) (.cons (.refl _) (.nil _)))) rfl) ?_
  rintro ⟨n9, y5, t6, y7⟩ H
  obtain ⟨n9, rfl, H⟩ := loop_s H
  replace H : b64_Bytes_B2 F a1 (b64_Bytes_L2 F a1 n9) y5 y7 = some (r2, r3) := H
  unfold b64_Bytes_B2 at H
  show AW _ _ _ _ _ _
  refine AW.seq ?_
  refine AW.seq ?_
  refine AW.region ?_
  show AR _ _ _ _ _ [0, 1] _
  refine sS rfl rfl rfl (mv rfl) ?_
  refine sS rfl rfl rfl (opS_nes rfl rfl) ?_
  refine AR.nil ?_
  show AW _ _ _ _ _ _
  refine AW.cond rfl (fun c10 => ?_) (fun c10 => ?_)
  ·replace H := cnd_t c10 H
   refine AW.skip ?_
   show AW _ _ _ _ _ _
   refine AW.block ?_
   refine AW.seq ?_
   refine AW.seq ?_
   refine AW.region ?_
   show AR _ _ _ _ _ [0, 1, 2] _
   refine sS rfl rfl rfl (mv rfl) ?_
   refine sS rfl rfl rfl (opS_len_str Tryd.underlying9 rfl) ?_
   refine sS rfl rfl rfl (opS_lt rfl rfl) ?_
   refine AR.nil ?_
   show AW _ _ _ _ _ _
   refine AW.cond rfl (fun c11 => ?_) (fun c11 => ?_)
   ·replace H := cnd_t c11 H
    refine AW.seq ?_
    refine AW.region ?_
    show AR _ _ _ _ _ [0, 1] _
    refine sS rfl rfl rfl (asg rfl) ?_
    refine sS rfl rfl rfl (asg rfl) ?_
    refine AR.nil ?_
    show AW _ _ _ _ _ _
    refine AW.ret ?_
    obtain ⟨rfl, rfl⟩ := res2 H
    exact And.intro rfl (Exists.intro _ (Exists.intro _ ⟨ResV.twoW rfl (.nil _) (.refl _), Sub.at [] rfl, rfl, rfl⟩))
   ·replace H := cnd_f c11 H
    refine AW.skip ?_
    show AW _ _ _ _ _ _
    refine AW.seq ?_
    refine AW.region ?_
    show AR _ _ _ _ _ [0, 1] _
    refine sS rfl rfl rfl (asg rfl) ?_
    refine sS rfl rfl rfl (asg rfl) ?_
    refine AR.nil ?_
    show AW _ _ _ _ _ _
    refine AW.cut (X := Int × Int) (fun (y35, y36) => ⟨[(0, S a1), (4, slE Enc.byte y5 (some t6)), (5, S y7), (6, .v (.int .u64 y35)), (7, i64 y36)], [], [.tok t6 5]⟩) (fun (y35, y36) => b64_Bytes_j2 y5 y7 (b64_Bytes_L2 F a1 n9) y35 y36 = some (r2, r3)) ?_ ?_
    ·
     refine AW.seq ?_
     refine AW.region ?_
     show AR _ _ _ _ _ [0] _
     refine sS rfl rfl rfl (mv rfl) ?_
     refine AR.nil ?_
     show AW _ _ _ _ _ _
     refine AW.block ?_
     refine AW.loop (X := Nat × Int × Int × Int) (fun (n16, y12, y13, y14) => ⟨[(0, S a1), (4, slE Enc.byte y5 (some t6)), (5, S y7), (6, .v (.int .u64 y12)), (7, i64 y13), (16, i64 y14)], [], [.tok t6 5]⟩) (fun (n16, y12, y13, y14) => b64_Bytes_L1 y5 y7 (b64_Bytes_L2 F a1 n9) n16 (y12, y13, y14) = some (r2, r3)) (fun (n16, y12, y13, y14) => n16) (F, 0, 3, 0) H (WK.at [0] (.cons (.refl _) (.cons (.refl _) (.cons (.refl _) (.cons (.refl _) (.cons (.refl _) (.cons (.refl _) (.nil _))))))) rfl) ?_
     rintro ⟨n16, y12, y13, y14⟩ H
     obtain ⟨n16, rfl, H⟩ := loop_s H
     replace H : b64_Bytes_B1 y5 y7 (b64_Bytes_L2 F a1 n9) (b64_Bytes_L1 y5 y7 (b64_Bytes_L2 F a1 n9) n16) y12 y13 y14 = some (r2, r3) := H
     unfold b64_Bytes_B1 at H
     show AW _ _ _ _ _ _
     refine AW.seq ?_
     refine AW.region ?_
     show AR _ _ _ _ _ [0] _
     refine sS rfl rfl rfl (opS_lt rfl rfl) ?_
     refine AR.nil ?_
     show AW _ _ _ _ _ _
     refine AW.seq ?_
     refine AW.cond rfl (fun c17 => ?_) (fun c17 => ?_)
     ·replace H := cnd_t c17 H
      refine AW.skip ?_
      show AW _ _ _ _ _ _
      refine AW.seq ?_
      refine AW.block ?_
      refine AW.seq ?_
      refine AW.region ?_
      show AR _ _ _ _ _ [0, 1] _
      refine sS rfl rfl rfl (mv rfl) ?_
      refine sS rfl rfl rfl (asg rfl) ?_
      refine AR.nil ?_
      show AW _ _ _ _ _ _
      refine AW.seq ?_
      obtain ⟨g18, H⟩ := grd_s H
      obtain ⟨x19, e20, H⟩ := lt_s H
      obtain ⟨x21, e22, H⟩ := lt_s H
      refine AW.region ?_
      show AR _ _ _ _ _ [0, 1, 2, 3, 4] _
      refine sS rfl rfl rfl (mv rfl) ?_
      refine sS rfl rfl rfl (mv rfl) ?_
      refine sS rfl rfl rfl (g_index_str Tryd.underlying9 rfl rfl g18 e20) ?_
      refine AR.run rfl rfl (AO.callp rfl en98_b64 rfl (show ACalls _ _ _ [] (Ret (i64 x21) []) from by subst e22; exact lib_IndexByte b64_k1 x19) ?_)
      refine sS rfl rfl rfl (asg rfl) ?_
      refine AR.nil ?_
      show AW _ _ _ _ _ _
      refine AW.cut (X := Int × Int) (fun (y28, y29) => ⟨[(0, S a1), (4, slE Enc.byte y5 (some t6)), (5, S y7), (6, .v (.int .u64 y12)), (7, i64 y28), (9, i64 y29), (16, i64 y14)], [], [.tok t6 5]⟩) (fun (y28, y29) => b64_Bytes_j3 y12 y14 (b64_Bytes_L1 y5 y7 (b64_Bytes_L2 F a1 n9) n16) y28 y29 = some (r2, r3)) ?_ ?_
      ·
       refine AW.seq ?_
       obtain ⟨g23, H⟩ := grd_s H
       obtain ⟨x24, e25, H⟩ := lt_s H
       refine AW.region ?_
       show AR _ _ _ _ _ [0, 1, 2, 3] _
       refine sS rfl rfl rfl (mv rfl) ?_
       refine sS rfl rfl rfl (mv rfl) ?_
       refine sS rfl rfl rfl (g_index_str Tryd.underlying9 rfl rfl g23 e25) ?_
       refine sS rfl rfl rfl (g_eq8 (a := x24) (b := 61) rfl rfl) ?_
       refine AR.nil ?_
       show AW _ _ _ _ _ _
       refine AW.cond rfl (fun c26 => ?_) (fun c26 => ?_)
       ·replace H := cnd_t c26 H
        refine AW.seq ?_
        refine AW.region ?_
        show AR _ _ _ _ _ [0] _
        refine sS rfl rfl rfl (asg rfl) ?_
        refine AR.nil ?_
        show AW _ _ _ _ _ _
        obtain ⟨g27, H⟩ := grd_s H
        refine AW.region ?_
        show AR _ _ _ _ _ [0, 1, 2] _
        refine sS rfl rfl rfl (mv rfl) ?_
        refine sS rfl rfl rfl (g_sub rfl rfl g27) ?_
        refine sS rfl rfl rfl (asg rfl) ?_
        refine AR.nil ?_
        exact Exists.intro (y13 - 1, 0) ⟨H, WK.at [0] (.cons (.refl _) (.cons (.refl _) (.cons (.refl _) (.cons (.refl _) (.cons (.refl _) (.cons (.refl _) (.cons (.refl _) (.nil _)))))))) rfl⟩
       ·replace H := cnd_f c26 H
        refine AW.skip ?_
        exact Exists.intro (y13, x21) ⟨H, WK.at [0] (.cons (.refl _) (.cons (.refl _) (.cons (.refl _) (.cons (.refl _) (.cons (.refl _) (.cons (.refl _) (.cons (.refl _) (.nil _)))))))) rfl⟩
      rintro ⟨y28, y29⟩ H
      replace H : b64_Bytes_j3 y12 y14 (b64_Bytes_L1 y5 y7 (b64_Bytes_L2 F a1 n9) n16) y28 y29 = some (r2, r3) := H
      unfold b64_Bytes_j3 at H
      show AW _ _ _ _ _ _
      refine AW.seq ?_
      refine AW.seq ?_
      refine AW.region ?_
      show AR _ _ _ _ _ [0, 1, 2, 3, 4, 5] _
      refine sS rfl rfl rfl (mv rfl) ?_
      refine sS rfl rfl rfl (opS_lt rfl rfl) ?_
      refine sS rfl rfl rfl (mv rfl) ?_
      refine AR.meet (l := []) 34 (B ((decide (y29 < 0)) || (decide (y28 < 1)))) (fun K => ?_) ?_
      ·rcases Bool.eq_false_or_eq_true (decide (y29 < 0)) with h31 | h31
       ·
        refine gF h31 rfl rfl rfl rfl rfl ?_
        refine gF h31 rfl rfl rfl rfl rfl ?_
        refine sS rfl rfl rfl (opS_pick_t (av := .v _) rfl h31 rfl) ?_
        exact K _ 2 _ (B_congr (or_t h31)) rfl rfl
       ·
        refine gT h31 rfl rfl rfl rfl rfl rfl (AO.ops rfl rfl (mv rfl) ?_)
        refine gT h31 rfl rfl rfl rfl rfl rfl (AO.ops rfl rfl (opS_lt rfl rfl) ?_)
        refine sS rfl rfl rfl (opS_pick_f (av := .v _) rfl h31 rfl) ?_
        exact K _ 2 _ (B_congr (or_f h31)) rfl rfl
      refine AR.nil ?_
      show AW _ _ _ _ _ _
      refine AW.cond rfl (fun c32 => ?_) (fun c32 => ?_)
      ·replace H := cnd_t c32 H
       refine AW.seq ?_
       refine AW.region ?_
       show AR _ _ _ _ _ [0, 1] _
       refine sS rfl rfl rfl (asg rfl) ?_
       refine sS rfl rfl rfl (asg rfl) ?_
       refine AR.nil ?_
       show AW _ _ _ _ _ _
       refine AW.ret ?_
       obtain ⟨rfl, rfl⟩ := res2 H
       exact And.intro rfl (Exists.intro _ (Exists.intro _ ⟨ResV.twoW rfl (.nil _) (.refl _), Sub.at [] rfl, rfl, rfl⟩))
      ·replace H := cnd_f c32 H
       refine AW.skip ?_
       show AW _ _ _ _ _ _
       obtain ⟨g33, H⟩ := grd_s H
       refine AW.region ?_
       show AR _ _ _ _ _ [0, 1, 2, 3, 4, 5] _
       refine sS rfl rfl rfl (mv rfl) ?_
       refine sS rfl rfl rfl (opS_shl rfl rfl (of_decide_eq_true g33)) ?_
       refine sS rfl rfl rfl (mv rfl) ?_
       refine sS rfl rfl rfl (opS_conv_int (by kernel_rfl) Tryd.underlying113 rfl) ?_
       refine sS rfl rfl rfl (opS_or rfl rfl) ?_
       refine sS rfl rfl rfl (asg rfl) ?_
       refine AR.nil ?_
       show AW _ _ _ _ _ _
       obtain ⟨g34, H⟩ := grd_s H
       refine AW.region ?_
       show AR _ _ _ _ _ [0, 1] _
       refine sS rfl rfl rfl (g_add rfl rfl g34) ?_
       refine sS rfl rfl rfl (mv rfl) ?_
       refine AR.nil ?_
       exact Exists.intro (n16, IntKind.u64.wrap ((BitVec.ofInt IntKind.u64.bits (IntKind.u64.wrap (y12 * 2 ^ min (Int.toNat 6) IntKind.u64.bits)) ||| BitVec.ofInt IntKind.u64.bits (IntKind.u64.wrap y29)).toNat), y28, y14 + 1) ⟨H, Nat.lt_succ_self _, WK.at [0] (.cons (.refl _) (.cons (.refl _) (.cons (.refl _) (.cons (.refl _) (.cons (.refl _) (.cons (.refl _) (.nil _))))))) rfl⟩
     ·replace H := cnd_f c17 H
      refine AW.exit ?_
      exact Exists.intro (y12, y13) ⟨H, WK.at [0] (.cons (.refl _) (.cons (.refl _) (.cons (.refl _) (.cons (.refl _) (.cons (.refl _) (.nil _)))))) rfl⟩
    rintro ⟨y35, y36⟩ H
    replace H : b64_Bytes_j2 y5 y7 (b64_Bytes_L2 F a1 n9) y35 y36 = some (r2, r3) := H
    unfold b64_Bytes_j2 at H
    show AW _ _ _ _ _ _
    refine AW.seq ?_
    obtain ⟨g38, H⟩ := grd_s H
    obtain ⟨g39, H⟩ := grd_s H
    obtain ⟨g40, H⟩ := grd_s H
    obtain ⟨x41, e42, H⟩ := lt_s H
    obtain ⟨g44, H⟩ := grd_s H
    obtain ⟨x45, e46, H⟩ := lt_s H
    refine AW.region ?_
    show AR _ _ _ _ _ [0, 1, 2, 3, 4, 5, 6, 7, 8, 9, 10, 11, 12, 13] _
    refine sS rfl rfl rfl (opS_move (av := slE _ _ _) rfl) ?_
    refine sS rfl rfl rfl (mv rfl) ?_
    refine sS rfl rfl rfl (opS_shr rfl rfl (of_decide_eq_true g38)) ?_
    refine sS rfl rfl rfl (g_conv_to8 (by kernel_rfl) Tryd.underlying5 rfl) ?_
    refine sS rfl rfl rfl (mv rfl) ?_
    refine sS rfl rfl rfl (opS_shr rfl rfl (of_decide_eq_true g39)) ?_
    refine sS rfl rfl rfl (g_conv_to8 (by kernel_rfl) Tryd.underlying5 rfl) ?_
    refine sS rfl rfl rfl (mv rfl) ?_
    refine sS rfl rfl rfl (g_conv_to8 (by kernel_rfl) Tryd.underlying5 rfl) ?_
    refine sR rfl rfl rfl (opR_buildE (E := Enc.byte) (bytes := 1) (xs := [.tmp 44, .tmp 47, .tmp 49]) (l := ([Go.Av.toB (Int.fdiv y35 (2 ^ min (Int.toNat 16) IntKind.u64.bits)), Go.Av.toB (Int.fdiv y35 (2 ^ min (Int.toNat 8) IntKind.u64.bits)), Go.Av.toB y35] : List UInt8)) Tryd.underlying24 (by kernel_rfl) rfl rfl (by decide) rfl rfl) ?_
    refine sS rfl rfl rfl (mv rfl) ?_
    refine sS rfl rfl rfl (g_to_sl (E := Enc.byte) Tryd.underlying24 (by kernel_rfl) rfl rfl g40 e42) ?_
    refine sX rfl rfl rfl (g_append (E := Enc.byte) (bytes := 1) 0 Tryd.underlying24 Tryd.underlying24 rfl (by kernel_rfl) rfl rfl rfl rfl g44 e46) ?_
    rintro _ _ ⟨t43, rfl, rfl⟩
    refine sS rfl rfl rfl (opS_assign (av := slE _ _ _) rfl) ?_
    refine AR.nil ?_
    show AW _ _ _ _ _ _
    obtain ⟨g47, H⟩ := grd_s H
    obtain ⟨x48, e49, H⟩ := lt_s H
    refine AW.region ?_
    show AR _ _ _ _ _ [0, 1, 2] _
    refine sS rfl rfl rfl (mv rfl) ?_
    refine sS rfl rfl rfl (g_from_str Tryd.underlying9 rfl rfl g47 e49) ?_
    refine sS rfl rfl rfl (asg rfl) ?_
    refine AR.nil ?_
    exact Exists.intro (n9, x45, t43, x48) ⟨H, Nat.lt_succ_self _, WK.at [0] (.cons (.refl _) (.cons (.refl _) (.cons (.refl _) (.nil _)))) rfl⟩
  ·replace H := cnd_f c10 H
   refine AW.exit ?_
   exact Exists.intro (y5, t6) ⟨H, WK.at [0] (.cons (.refl _) (.cons (.refl _) (.nil _))) rfl⟩
 rintro ⟨y50, t51⟩ H
 replace H : b64_Bytes_j1 F a1 y50 = some (r2, r3) := H
 unfold b64_Bytes_j1 at H
 show AW _ _ _ _ _ _
 refine AW.seq ?_
 refine AW.seq ?_
 obtain ⟨x53, e54, H⟩ := bnd_s H
 refine AW.region ?_
 show AR _ _ _ _ _ [0, 1, 2, 3] _
 refine sS rfl rfl rfl (opS_move (av := slE _ _ _) rfl) ?_
 refine AR.run rfl rfl (AO.callp rfl en54_b64 rfl (w_b64_Raw F y50 (some t51) x53 e54) ?_)
 refine sS rfl rfl rfl (mv rfl) ?_
 refine sS rfl rfl rfl (opS_nes rfl rfl) ?_
 refine AR.nil ?_
 show AW _ _ _ _ _ _
 refine AW.cond rfl (fun c55 => ?_) (fun c55 => ?_)
 ·replace H := cnd_t c55 H
  refine AW.seq ?_
  refine AW.region ?_
  show AR _ _ _ _ _ [0, 1] _
  refine sS rfl rfl rfl (asg rfl) ?_
  refine sS rfl rfl rfl (asg rfl) ?_
  refine AR.nil ?_
  show AW _ _ _ _ _ _
  refine AW.ret ?_
  obtain ⟨rfl, rfl⟩ := res2 H
  exact And.intro rfl (Exists.intro _ (Exists.intro _ ⟨ResV.twoW rfl (.nil _) (.refl _), Sub.at [] rfl, rfl, rfl⟩))
 ·replace H := cnd_f c55 H
  refine AW.skip ?_
  show AW _ _ _ _ _ _
  refine AW.seq ?_
  refine AW.region ?_
  show AR _ _ _ _ _ [0, 1, 2] _
  refine sS rfl rfl rfl (opS_move (av := slE _ _ _) rfl) ?_
  refine sS rfl rfl rfl (opS_assign (av := slE _ _ _) rfl) ?_
  refine sS rfl rfl rfl (asg rfl) ?_
  refine AR.nil ?_
  show AW _ _ _ _ _ _
  refine AW.ret ?_
  obtain ⟨rfl, rfl⟩ := res2 H
  exact And.intro rfl (Exists.intro _ (Exists.intro _ ⟨ResV.twoW rfl (.tok _ _ _) (.refl _), Sub.at [] rfl, rfl, rfl⟩))
end Go.Proofs.YtiahdbdkjjmfiaaDoor
namespace Go.Pv
def head_nameC (F : Nat) (a1 : UInt8) : Option Bool :=
some (((((decide (97 ≤ (a1.toNat : Int))) && (decide ((a1.toNat : Int) ≤ 122))) || ((decide (65 ≤ (a1.toNat : Int))) && (decide ((a1.toNat : Int) ≤ 90)))) || ((decide (48 ≤ (a1.toNat : Int))) && (decide ((a1.toNat : Int) ≤ 57)))) || (decide (a1 = 45)))
def head_plainC (F : Nat) (a1 : UInt8) : Option Bool :=
some ((decide (32 ≤ (a1.toNat : Int))) && (decide ((a1.toNat : Int) < 127)))
def head_onlyN_j1 (a1 : List UInt8) : Option Bool :=
some (!decide (a1 = ([] : List UInt8)))
def head_onlyN_B1 (F : Nat) (a1 : List UInt8) (rec4 : Int → Option Bool) (y3 : Int) : Option Bool :=
bif decide (y3 < (a1.length : Int)) then
  grd (okAt y3 a1.length) <|
  lt (at_ a1 y3) fun x8 =>
  bnd (head_nameC F x8) fun x10 =>
  bif !x10 then
    some false
  else
    grd (okI (y3 + 1)) <|
    rec4 (y3 + 1)
else
  head_onlyN_j1 a1
def head_onlyN_L1 (F : Nat) (a1 : List UInt8) (n : Nat) : Int → Option Bool :=
  loop (fun rec x => head_onlyN_B1 F a1 rec x) n
def head_onlyN (F : Nat) (a1 : List UInt8) : Option Bool :=
head_onlyN_L1 F a1 F 0
def head_onlyP_j1 (a1 : List UInt8) : Option Bool :=
some (!decide (a1 = ([] : List UInt8)))
def head_onlyP_B1 (F : Nat) (a1 : List UInt8) (rec4 : Int → Option Bool) (y3 : Int) : Option Bool :=
bif decide (y3 < (a1.length : Int)) then
  grd (okAt y3 a1.length) <|
  lt (at_ a1 y3) fun x8 =>
  bnd (head_plainC F x8) fun x10 =>
  bif !x10 then
    some false
  else
    grd (okI (y3 + 1)) <|
    rec4 (y3 + 1)
else
  head_onlyP_j1 a1
def head_onlyP_L1 (F : Nat) (a1 : List UInt8) (n : Nat) : Int → Option Bool :=
  loop (fun rec x => head_onlyP_B1 F a1 rec x) n
def head_onlyP (F : Nat) (a1 : List UInt8) : Option Bool :=
head_onlyP_L1 F a1 F 0
def head_name (F : Nat) (a1 : List UInt8) : Option Bool :=
bndc (decide ((a1.length : Int) ≤ 40)) (head_onlyN F a1) fun x4 =>
some ((decide ((a1.length : Int) ≤ 40)) && x4)
def head_Plain (F : Nat) (a1 : List UInt8) : Option Bool :=
bnd (head_onlyP F a1) fun x3 =>
grdc x3 (okS a1.length) <|
lt (Go.Lib.trimB a1 32) fun x7 =>
grdc (x3 && (decide (x7 = a1))) (okS a1.length) <|
lt (Go.Lib.contains a1 ([32, 32] : List UInt8)) fun x11 =>
grdc ((x3 && (decide (x7 = a1))) && (!x11)) (okS a1.length) <|
lt (Go.Lib.contains a1 ([61, 63] : List UInt8)) fun x15 =>
some (((x3 && (decide (x7 = a1))) && (!x11)) && (!x15))
def head_inside (F : Nat) (a1 : UInt8) : Option Bool :=
some (decide (Go.Av.shr8 a1 6 = 2))
def head_part_j1 (y15 : Int) : Option Int :=
bif decide (y15 = 41) then
  some 45
else
  some y15
def head_part_B1 (F : Nat) (a1 : List UInt8) (rec5 : Int → Option Int) (y4 : Int) : Option Int :=
grdc (decide (41 < y4)) (okAt y4 a1.length) <|
lt (at_ a1 y4) fun x9 =>
bndc (decide (41 < y4)) (head_inside F x9) fun x11 =>
bif (decide (41 < y4)) && x11 then
  grd (okI (y4 - 1)) <|
  rec5 (y4 - 1)
else
  head_part_j1 y4
def head_part_L1 (F : Nat) (a1 : List UInt8) (n : Nat) : Int → Option Int :=
  loop (fun rec x => head_part_B1 F a1 rec x) n
def head_part (F : Nat) (a1 : List UInt8) : Option Int :=
bif decide ((a1.length : Int) ≤ 45) then
  some (a1.length : Int)
else
  head_part_L1 F a1 F 45
def head_wordsI_B1 {σ : Type} (F : Nat) (k : σ → (List UInt8) → Option (σ × Bool)) (rec30 : ((List UInt8) × σ) → Option (σ × (List UInt8))) (y27 : List UInt8) (y28 : σ) : Option (σ × (List UInt8)) :=
bif !decide (y27 = ([] : List UInt8)) then
  bnd (head_part F y27) fun x33 =>
  grd (okTo x33 y27.length) <|
  lt (to_ y27 x33) fun x36 =>
  grd (okCat x36.length) <|
  bnd (b64_Raw F x36) fun x40 =>
  grd (okCat (([61, 63, 117, 116, 102, 45, 56, 63, 66, 63] : List UInt8).length + x40.length)) <|
  lt (([61, 63, 117, 116, 102, 45, 56, 63, 66, 63] : List UInt8) ++ x40) fun x43 =>
  grd (okCat (x43.length + ([63, 61] : List UInt8).length)) <|
  lt (x43 ++ ([63, 61] : List UInt8)) fun x46 =>
  bnd2 (k y28 x46) fun x48 x49 =>
  bif !x49 then
    some (x48, y27)
  else
    grd (okTo x33 y27.length) <|
    lt (from_ y27 x33) fun x54 =>
    rec30 (x54, x48)
else
  some (y28, y27)
def head_wordsI_L1 {σ : Type} (F : Nat) (k : σ → (List UInt8) → Option (σ × Bool)) (n : Nat) : ((List UInt8) × σ) → Option (σ × (List UInt8)) :=
  loop (fun rec x => head_wordsI_B1 F k rec x.1 x.2) n
def head_wordsI_j1 {σ : Type} (F : Nat) (a2 : List UInt8) (k : σ → (List UInt8) → Option (σ × Bool)) (st0 : σ) : Option (σ × (List UInt8)) :=
head_wordsI_L1 F k F (a2, st0)
def head_wordsI_B2 {σ : Type} (a2 : List UInt8) (k : σ → (List UInt8) → Option (σ × Bool)) (x9 : List (List UInt8)) (rec14 : (Int × σ) → Option (σ × (List UInt8))) (y11 : Int) (y12 : σ) : Option (σ × (List UInt8)) :=
bif decide (y11 < (x9.length : Int)) then
  grd (okAt y11 x9.length) <|
  lt (at_ x9 y11) fun x18 =>
  bnd2 (k y12 x18) fun x20 x21 =>
  bif !x21 then
    some (x20, a2)
  else
    grd (okI (y11 + 1)) <|
    rec14 (y11 + 1, x20)
else
  some (y12, a2)
def head_wordsI_L2 {σ : Type} (a2 : List UInt8) (k : σ → (List UInt8) → Option (σ × Bool)) (x9 : List (List UInt8)) (n : Nat) : (Int × σ) → Option (σ × (List UInt8)) :=
  loop (fun rec x => head_wordsI_B2 a2 k x9 rec x.1 x.2) n
def head_wordsI (F : Nat) {σ : Type} (k : σ → (List UInt8) → Option (σ × Bool)) (st0 : σ) (a2 : List UInt8) : Option (σ × (List UInt8)) :=
bnd (head_Plain F a2) fun x4 =>
bif x4 then
  grd (okS a2.length) <|
  grd (decide (1 ≤ ([32] : List UInt8).length)) <|
  lt (Go.Lib.split a2 ([32] : List UInt8)) fun x9 =>
  head_wordsI_L2 a2 k x9 F (0, st0)
else
  head_wordsI_j1 F a2 k st0
def head_words (F : Nat) (a1 : List UInt8) : Option Unit :=
some ()
def head_Line_j1 (y66 : List UInt8) : Option ((List UInt8) × Int) :=
grd (okCat (y66.length + ([13, 10] : List UInt8).length)) <|
lt (y66 ++ ([13, 10] : List UInt8)) fun x71 =>
some (x71, 0)
def head_Line_j2 (x22 : List UInt8) (y30 : Int) (y31 : List UInt8) : Option ((Int × (List UInt8)) × Bool) :=
grd (okCat (y31.length + ([32] : List UInt8).length)) <|
lt (y31 ++ ([32] : List UInt8)) fun x36 =>
grd (okCat (x36.length + x22.length)) <|
lt (x36 ++ x22) fun x40 =>
grd (okI (y30 + 1)) <|
grd (okI ((y30 + 1) + (x22.length : Int))) <|
some (((y30 + 1) + (x22.length : Int), x40), true)
def head_Line_k1 (y18 : Int) (y19 : List UInt8) (x22 : List UInt8) : Option ((Int × (List UInt8)) × Bool) :=
grd (okI (y18 + 1)) <|
grd (okI ((y18 + 1) + (x22.length : Int))) <|
bif decide (76 < (y18 + 1) + (x22.length : Int)) then
  grd (okCat (y19.length + ([13, 10] : List UInt8).length)) <|
  lt (y19 ++ ([13, 10] : List UInt8)) fun x28 =>
  head_Line_j2 x22 0 x28
else
  head_Line_j2 x22 y18 y19
def head_Line (F : Nat) (a1 : List UInt8) (a2 : List UInt8) : Option ((List UInt8) × Int) :=
bnd (head_name F a1) fun x5 =>
bif (!x5) || (decide (4000 < (a2.length : Int))) then
  some ([], 1)
else
  grd (okCat (a1.length + ([58] : List UInt8).length)) <|
  lt (a1 ++ ([58] : List UInt8)) fun x10 =>
  grd (okCat x10.length) <|
  bnd (head_words F a2) fun _ =>
  bnd2 (head_wordsI F (fun s x => head_Line_k1 s.1 s.2 x) ((x10.length : Int), x10) a2) fun x60 x61 =>
  head_Line_j1 x60.2
end Go.Pv
namespace Go.Proofs.YtiahdbdkjjmfiaaDoor
open Go.RowKit Go.Av Go.Pv
theorem en18_heada : ∀ (args : Array Value) (w : World), (callFunc 18 args).run Tryd.prog w = .ok (.enter 18 args) w := fun _ _ => by kernel_rfl
theorem en26_heada : ∀ (args : Array Value) (w : World), (callFunc 26 args).run Tryd.prog w = .ok (.enter 26 args) w := fun _ _ => by kernel_rfl
theorem en27_heada : ∀ (args : Array Value) (w : World), (callFunc 27 args).run Tryd.prog w = .ok (.enter 27 args) w := fun _ _ => by kernel_rfl
theorem en38_heada : ∀ (args : Array Value) (w : World), (callFunc 38 args).run Tryd.prog w = .ok (.enter 38 args) w := fun _ _ => by kernel_rfl
theorem en39_heada : ∀ (args : Array Value) (w : World), (callFunc 39 args).run Tryd.prog w = .ok (.enter 39 args) w := fun _ _ => by kernel_rfl
theorem en40_heada : ∀ (args : Array Value) (w : World), (callFunc 40 args).run Tryd.prog w = .ok (.enter 40 args) w := fun _ _ => by kernel_rfl
theorem en41_heada : ∀ (args : Array Value) (w : World), (callFunc 41 args).run Tryd.prog w = .ok (.enter 41 args) w := fun _ _ => by kernel_rfl
theorem en50_heada : ∀ (args : Array Value) (w : World), (callFunc 50 args).run Tryd.prog w = .ok (.enter 50 args) w := fun _ _ => by kernel_rfl
theorem en51_heada : ∀ (args : Array Value) (w : World), (callFunc 51 args).run Tryd.prog w = .ok (.enter 51 args) w := fun _ _ => by kernel_rfl
theorem en52_heada : ∀ (args : Array Value) (w : World), (callFunc 52 args).run Tryd.prog w = .ok (.enter 52 args) w := fun _ _ => by kernel_rfl
theorem en53_heada : ∀ (args : Array Value) (w : World), (callFunc 53 args).run Tryd.prog w = .ok (.enter 53 args) w := fun _ _ => by kernel_rfl
theorem en54_heada : ∀ (args : Array Value) (w : World), (callFunc 54 args).run Tryd.prog w = .ok (.enter 54 args) w := fun _ _ => by kernel_rfl
theorem en74_heada : ∀ (args : Array Value) (w : World), (callFunc 74 args).run Tryd.prog w = .ok (.enter 74 args) w := fun _ _ => by kernel_rfl
set_option maxRecDepth 100000 in
set_option maxHeartbeats 1000000 in
theorem w_head_nameC (F : Nat) (a1 : UInt8) (r2 : Bool) (H : head_nameC F a1 = some r2) : ACalls Tryd.prog 50 [u8 a1] [] (Ret (B r2) []) := by
 unfold head_nameC at H
 refine ACalls.of_body Tryd.func50 rfl rfl ?_
 show AW _ _ 29 _ _ _
 refine AW.seq ?_
 refine AW.region ?_
 show AR _ _ _ _ _ [0] _
 refine sS rfl rfl rfl (asg rfl) ?_
 refine AR.nil ?_
 show AW _ _ _ _ _ _
 refine AW.seq ?_
 refine AW.region ?_
 show AR _ _ _ _ _ [0, 1, 2, 3, 4, 5, 6, 7, 8, 9, 10, 11, 12, 13, 14, 15, 16, 17, 18, 19, 20, 21, 22, 23, 24, 25, 26] _
 refine sS rfl rfl rfl (mv rfl) ?_
 refine sS rfl rfl rfl (opS_ge rfl rfl) ?_
 refine sS rfl rfl rfl (mv rfl) ?_
 refine AR.meet (l := [6, 7, 8, 9, 10, 11, 12, 13, 14, 15, 16, 17, 18, 19, 20, 21, 22, 23, 24, 25, 26]) 8 (B ((decide (97 ≤ (a1.toNat : Int))) && (decide ((a1.toNat : Int) ≤ 122)))) (fun K => ?_) ?_
 ·rcases Bool.eq_false_or_eq_true (decide (97 ≤ (a1.toNat : Int))) with h3 | h3
  ·
   refine gT h3 rfl rfl rfl rfl rfl rfl (AO.ops rfl rfl (mv rfl) ?_)
   refine gT h3 rfl rfl rfl rfl rfl rfl (AO.ops rfl rfl (opS_le rfl rfl) ?_)
   refine sS rfl rfl rfl (opS_pick_t (av := .v _) rfl h3 rfl) ?_
   exact K _ 2 _ (B_congr (and_t h3)) rfl rfl
  ·
   refine gF h3 rfl rfl rfl rfl rfl ?_
   refine gF h3 rfl rfl rfl rfl rfl ?_
   refine sS rfl rfl rfl (opS_pick_f (av := .v _) rfl h3 rfl) ?_
   exact K _ 2 _ (B_congr (and_f h3)) rfl rfl
 refine sS rfl rfl rfl (mv rfl) ?_
 refine AR.meet (l := [14, 15, 16, 17, 18, 19, 20, 21, 22, 23, 24, 25, 26]) 16 (B (((decide (97 ≤ (a1.toNat : Int))) && (decide ((a1.toNat : Int) ≤ 122))) || ((decide (65 ≤ (a1.toNat : Int))) && (decide ((a1.toNat : Int) ≤ 90))))) (fun K => ?_) ?_
 ·rcases Bool.eq_false_or_eq_true ((decide (97 ≤ (a1.toNat : Int))) && (decide ((a1.toNat : Int) ≤ 122))) with h4 | h4
  ·
   refine gF h4 rfl rfl rfl rfl rfl ?_
   refine gF h4 rfl rfl rfl rfl rfl ?_
   refine gF h4 rfl rfl rfl rfl rfl ?_
   refine gU rfl rfl rfl rfl rfl ?_
   refine gU rfl rfl rfl rfl rfl ?_
   refine gF h4 rfl rfl rfl rfl rfl ?_
   refine sS rfl rfl rfl (opS_pick_t (av := .v _) rfl h4 rfl) ?_
   exact K _ 6 _ (B_congr (or_t h4)) rfl rfl
  ·
   refine gT h4 rfl rfl rfl rfl rfl rfl (AO.ops rfl rfl (mv rfl) ?_)
   refine gT h4 rfl rfl rfl rfl rfl rfl (AO.ops rfl rfl (opS_ge rfl rfl) ?_)
   refine gT h4 rfl rfl rfl rfl rfl rfl (AO.ops rfl rfl (mv rfl) ?_)
   refine AR.meet (l := [13, 14, 15, 16, 17, 18, 19, 20, 21, 22, 23, 24, 25, 26]) 15 (B ((decide (65 ≤ (a1.toNat : Int))) && (decide ((a1.toNat : Int) ≤ 90)))) (fun K => ?_) ?_
   ·rcases Bool.eq_false_or_eq_true (decide (65 ≤ (a1.toNat : Int))) with h5 | h5
    ·
     refine gT h5 rfl rfl rfl rfl rfl rfl (AO.ops rfl rfl (mv rfl) ?_)
     refine gT h5 rfl rfl rfl rfl rfl rfl (AO.ops rfl rfl (opS_le rfl rfl) ?_)
     refine gT h4 rfl rfl rfl rfl rfl rfl (AO.ops rfl rfl (opS_pick_t (av := .v _) rfl h5 rfl) ?_)
     exact K _ 2 _ (B_congr (and_t h5)) rfl rfl
    ·
     refine gF h5 rfl rfl rfl rfl rfl ?_
     refine gF h5 rfl rfl rfl rfl rfl ?_
     refine gT h4 rfl rfl rfl rfl rfl rfl (AO.ops rfl rfl (opS_pick_f (av := .v _) rfl h5 rfl) ?_)
     exact K _ 2 _ (B_congr (and_f h5)) rfl rfl
   refine sS rfl rfl rfl (opS_pick_f (av := .v _) rfl h4 rfl) ?_
   exact K _ 4 _ (B_congr (or_f h4)) rfl rfl
 refine sS rfl rfl rfl (mv rfl) ?_
 refine AR.meet (l := [22, 23, 24, 25, 26]) 24 (B ((((decide (97 ≤ (a1.toNat : Int))) && (decide ((a1.toNat : Int) ≤ 122))) || ((decide (65 ≤ (a1.toNat : Int))) && (decide ((a1.toNat : Int) ≤ 90)))) || ((decide (48 ≤ (a1.toNat : Int))) && (decide ((a1.toNat : Int) ≤ 57))))) (fun K => ?_) ?_
 ·rcases Bool.eq_false_or_eq_true (((decide (97 ≤ (a1.toNat : Int))) && (decide ((a1.toNat : Int) ≤ 122))) || ((decide (65 ≤ (a1.toNat : Int))) && (decide ((a1.toNat : Int) ≤ 90)))) with h6 | h6
  ·
   refine gF h6 rfl rfl rfl rfl rfl ?_
   refine gF h6 rfl rfl rfl rfl rfl ?_
   refine gF h6 rfl rfl rfl rfl rfl ?_
   refine gU rfl rfl rfl rfl rfl ?_
   refine gU rfl rfl rfl rfl rfl ?_
   refine gF h6 rfl rfl rfl rfl rfl ?_
   refine sS rfl rfl rfl (opS_pick_t (av := .v _) rfl h6 rfl) ?_
   exact K _ 6 _ (B_congr (or_t h6)) rfl rfl
  ·
   refine gT h6 rfl rfl rfl rfl rfl rfl (AO.ops rfl rfl (mv rfl) ?_)
   refine gT h6 rfl rfl rfl rfl rfl rfl (AO.ops rfl rfl (opS_ge rfl rfl) ?_)
   refine gT h6 rfl rfl rfl rfl rfl rfl (AO.ops rfl rfl (mv rfl) ?_)
   refine AR.meet (l := [21, 22, 23, 24, 25, 26]) 23 (B ((decide (48 ≤ (a1.toNat : Int))) && (decide ((a1.toNat : Int) ≤ 57)))) (fun K => ?_) ?_
   ·rcases Bool.eq_false_or_eq_true (decide (48 ≤ (a1.toNat : Int))) with h7 | h7
    ·
     refine gT h7 rfl rfl rfl rfl rfl rfl (AO.ops rfl rfl (mv rfl) ?_)
     refine gT h7 rfl rfl rfl rfl rfl rfl (AO.ops rfl rfl (opS_le rfl rfl) ?_)
     refine gT h6 rfl rfl rfl rfl rfl rfl (AO.ops rfl rfl (opS_pick_t (av := .v _) rfl h7 rfl) ?_)
     exact K _ 2 _ (B_congr (and_t h7)) rfl rfl
    ·
     refine gF h7 rfl rfl rfl rfl rfl ?_
     refine gF h7 rfl rfl rfl rfl rfl ?_
     refine gT h6 rfl rfl rfl rfl rfl rfl (AO.ops rfl rfl (opS_pick_f (av := .v _) rfl h7 rfl) ?_)
     exact K _ 2 _ (B_congr (and_f h7)) rfl rfl
   refine sS rfl rfl rfl (opS_pick_f (av := .v _) rfl h6 rfl) ?_
   exact K _ 4 _ (B_congr (or_f h6)) rfl rfl
 refine sS rfl rfl rfl (mv rfl) ?_
 refine AR.meet (l := [26]) 28 (B (((((decide (97 ≤ (a1.toNat : Int))) && (decide ((a1.toNat : Int) ≤ 122))) || ((decide (65 ≤ (a1.toNat : Int))) && (decide ((a1.toNat : Int) ≤ 90)))) || ((decide (48 ≤ (a1.toNat : Int))) && (decide ((a1.toNat : Int) ≤ 57)))) || (decide (a1 = 45)))) (fun K => ?_) ?_
 ·rcases Bool.eq_false_or_eq_true ((((decide (97 ≤ (a1.toNat : Int))) && (decide ((a1.toNat : Int) ≤ 122))) || ((decide (65 ≤ (a1.toNat : Int))) && (decide ((a1.toNat : Int) ≤ 90)))) || ((decide (48 ≤ (a1.toNat : Int))) && (decide ((a1.toNat : Int) ≤ 57)))) with h8 | h8
  ·
   refine gF h8 rfl rfl rfl rfl rfl ?_
   refine gF h8 rfl rfl rfl rfl rfl ?_
   refine sS rfl rfl rfl (opS_pick_t (av := .v _) rfl h8 rfl) ?_
   exact K _ 2 _ (B_congr (or_t h8)) rfl rfl
  ·
   refine gT h8 rfl rfl rfl rfl rfl rfl (AO.ops rfl rfl (mv rfl) ?_)
   refine gT h8 rfl rfl rfl rfl rfl rfl (AO.ops rfl rfl (g_eq8 (a := a1) (b := 45) rfl rfl) ?_)
   refine sS rfl rfl rfl (opS_pick_f (av := .v _) rfl h8 rfl) ?_
   exact K _ 2 _ (B_congr (or_f h8)) rfl rfl
 refine sS rfl rfl rfl (asg rfl) ?_
 refine AR.nil ?_
 show AW _ _ _ _ _ _
 refine AW.ret ?_
 obtain rfl := Option.some.inj H
 exact And.intro rfl (Exists.intro _ (Exists.intro _ ⟨ResV.oneW rfl (.refl _), Sub.at [] rfl, rfl, rfl⟩))
set_option maxRecDepth 100000 in
set_option maxHeartbeats 1000000 in
theorem w_head_plainC (F : Nat) (a1 : UInt8) (r2 : Bool) (H : head_plainC F a1 = some r2) : ACalls Tryd.prog 39 [u8 a1] [] (Ret (B r2) []) := by
 unfold head_plainC at H
 refine ACalls.of_body Tryd.func39 rfl rfl ?_
 show AW _ _ 9 _ _ _
 refine AW.seq ?_
 refine AW.region ?_
 show AR _ _ _ _ _ [0] _
 refine sS rfl rfl rfl (asg rfl) ?_
 refine AR.nil ?_
 show AW _ _ _ _ _ _
 refine AW.seq ?_
 refine AW.region ?_
 show AR _ _ _ _ _ [0, 1, 2, 3, 4, 5, 6] _
 refine sS rfl rfl rfl (mv rfl) ?_
 refine sS rfl rfl rfl (opS_ge rfl rfl) ?_
 refine sS rfl rfl rfl (mv rfl) ?_
 refine AR.meet (l := [6]) 8 (B ((decide (32 ≤ (a1.toNat : Int))) && (decide ((a1.toNat : Int) < 127)))) (fun K => ?_) ?_
 ·rcases Bool.eq_false_or_eq_true (decide (32 ≤ (a1.toNat : Int))) with h3 | h3
  ·
   refine gT h3 rfl rfl rfl rfl rfl rfl (AO.ops rfl rfl (mv rfl) ?_)
   refine gT h3 rfl rfl rfl rfl rfl rfl (AO.ops rfl rfl (opS_lt rfl rfl) ?_)
   refine sS rfl rfl rfl (opS_pick_t (av := .v _) rfl h3 rfl) ?_
   exact K _ 2 _ (B_congr (and_t h3)) rfl rfl
  ·
   refine gF h3 rfl rfl rfl rfl rfl ?_
   refine gF h3 rfl rfl rfl rfl rfl ?_
   refine sS rfl rfl rfl (opS_pick_f (av := .v _) rfl h3 rfl) ?_
   exact K _ 2 _ (B_congr (and_f h3)) rfl rfl
 refine sS rfl rfl rfl (asg rfl) ?_
 refine AR.nil ?_
 show AW _ _ _ _ _ _
 refine AW.ret ?_
 obtain rfl := Option.some.inj H
 exact And.intro rfl (Exists.intro _ (Exists.intro _ ⟨ResV.oneW rfl (.refl _), Sub.at [] rfl, rfl, rfl⟩))
set_option maxRecDepth 100000 in
set_option maxHeartbeats 1000000 in
theorem w_head_onlyN (F : Nat) (a1 : List UInt8) (r2 : Bool) (H : head_onlyN F a1 = some r2) : ACalls Tryd.prog 38 [S a1, .v (.func (.func 50) #[] #[])] [] (Ret (B r2) []) := by
 unfold head_onlyN at H
 refine ACalls.of_body Tryd.func38 rfl rfl ?_
 show AW _ _ 20 _ _ _
 refine AW.seq ?_
 refine AW.region ?_
 show AR _ _ _ _ _ [0] _
 refine sS rfl rfl rfl (asg rfl) ?_
 refine AR.nil ?_
 show AW _ _ _ _ _ _
 refine AW.cut (X := Unit) (fun _ => ⟨[(0, S a1)], [], []⟩) (fun _ => head_onlyN_j1 a1 = some r2) ?_ ?_
 ·
  refine AW.seq ?_
  refine AW.region ?_
  show AR _ _ _ _ _ [0, 1, 2] _
  refine sS rfl rfl rfl (mv rfl) ?_
  refine sS rfl rfl rfl (opS_len_str Tryd.underlying9 rfl) ?_
  refine sS rfl rfl rfl (mv rfl) ?_
  refine AR.nil ?_
  show AW _ _ _ _ _ _
  refine AW.block ?_
  refine AW.loop (X := Nat × Int) (fun (n5, y3) => ⟨[(0, S a1), (1, .v (.func (.func 50) #[] #[])), (7, i64 (a1.length : Int)), (8, i64 y3)], [], []⟩) (fun (n5, y3) => head_onlyN_L1 F a1 n5 y3 = some r2) (fun (n5, y3) => n5) (F, 0) H (WK.at [] (.cons (.refl _) (.cons (.refl _) (.cons (.refl _) (.cons (.refl _) (.nil _))))) rfl) ?_
  rintro ⟨n5, y3⟩ H
  obtain ⟨n5, rfl, H⟩ := loop_s H
  replace H : head_onlyN_B1 F a1 (head_onlyN_L1 F a1 n5) y3 = some r2 := H
  unfold head_onlyN_B1 at H
  show AW _ _ _ _ _ _
  refine AW.seq ?_
  refine AW.region ?_
  show AR _ _ _ _ _ [0] _
  refine sS rfl rfl rfl (opS_lt rfl rfl) ?_
  refine AR.nil ?_
  show AW _ _ _ _ _ _
  refine AW.seq ?_
  refine AW.cond rfl (fun c6 => ?_) (fun c6 => ?_)
  ·replace H := cnd_t c6 H
   refine AW.skip ?_
   show AW _ _ _ _ _ _
   refine AW.seq ?_
   refine AW.block ?_
   refine AW.seq ?_
   refine AW.region ?_
   show AR _ _ _ _ _ [0, 1] _
   refine sS rfl rfl rfl (mv rfl) ?_
   refine sS rfl rfl rfl (asg rfl) ?_
   refine AR.nil ?_
   show AW _ _ _ _ _ _
   refine AW.seq ?_
   obtain ⟨g7, H⟩ := grd_s H
   obtain ⟨x8, e9, H⟩ := lt_s H
   obtain ⟨x10, e11, H⟩ := bnd_s H
   refine AW.region ?_
   show AR _ _ _ _ _ [0, 1, 2, 3, 4, 5] _
   refine sS rfl rfl rfl (mv rfl) ?_
   refine sS rfl rfl rfl (mv rfl) ?_
   refine sS rfl rfl rfl (mv rfl) ?_
   refine sS rfl rfl rfl (g_index_str Tryd.underlying9 rfl rfl g7 e9) ?_
   refine AR.run rfl rfl (AO.callFp rfl (.inr ⟨rfl, rfl, rfl⟩) en50_heada rfl (w_head_nameC F x8 x10 e11) ?_)
   refine sS rfl rfl rfl (opS_not rfl) ?_
   refine AR.nil ?_
   show AW _ _ _ _ _ _
   refine AW.cond rfl (fun c12 => ?_) (fun c12 => ?_)
   ·replace H := cnd_t c12 H
    refine AW.seq ?_
    refine AW.region ?_
    show AR _ _ _ _ _ [0] _
    refine sS rfl rfl rfl (asg rfl) ?_
    refine AR.nil ?_
    show AW _ _ _ _ _ _
    refine AW.ret ?_
    obtain rfl := Option.some.inj H
    exact And.intro rfl (Exists.intro _ (Exists.intro _ ⟨ResV.oneW rfl (.refl _), Sub.at [] rfl, rfl, rfl⟩))
   ·replace H := cnd_f c12 H
    refine AW.skip ?_
    show AW _ _ _ _ _ _
    obtain ⟨g13, H⟩ := grd_s H
    refine AW.region ?_
    show AR _ _ _ _ _ [0, 1] _
    refine sS rfl rfl rfl (g_add rfl rfl g13) ?_
    refine sS rfl rfl rfl (mv rfl) ?_
    refine AR.nil ?_
    exact Exists.intro (n5, y3 + 1) ⟨H, Nat.lt_succ_self _, WK.at [] (.cons (.refl _) (.cons (.refl _) (.cons (.refl _) (.cons (.refl _) (.nil _))))) rfl⟩
  ·replace H := cnd_f c6 H
   refine AW.exit ?_
   exact Exists.intro () ⟨H, WK.at [] (.cons (.refl _) (.nil _)) rfl⟩
 rintro _ H
 replace H : head_onlyN_j1 a1 = some r2 := H
 unfold head_onlyN_j1 at H
 show AW _ _ _ _ _ _
 refine AW.seq ?_
 refine AW.region ?_
 show AR _ _ _ _ _ [0, 1, 2] _
 refine sS rfl rfl rfl (mv rfl) ?_
 refine sS rfl rfl rfl (opS_nes rfl rfl) ?_
 refine sS rfl rfl rfl (asg rfl) ?_
 refine AR.nil ?_
 show AW _ _ _ _ _ _
 refine AW.ret ?_
 obtain rfl := Option.some.inj H
 exact And.intro rfl (Exists.intro _ (Exists.intro _ ⟨ResV.oneW rfl (.refl _), Sub.at [] rfl, rfl, rfl⟩))
set_option maxRecDepth 100000 in
set_option maxHeartbeats 1000000 in
theorem w_head_onlyP (F : Nat) (a1 : List UInt8) (r2 : Bool) (H : head_onlyP F a1 = some r2) : ACalls Tryd.prog 38 [S a1, .v (.func (.func 39) #[] #[])] [] (Ret (B r2) []) := by
 unfold head_onlyP at H
 refine ACalls.of_body Tryd.func38 rfl rfl ?_
 show AW _ _ 20 _ _ _
 refine AW.seq ?_
 refine AW.region ?_
 show AR _ _ _ _ _ [0] _
 refine sS rfl rfl rfl (asg rfl) ?_
 refine AR.nil ?_
 show AW _ _ _ _ _ _
 refine AW.cut (X := Unit) (fun _ => ⟨[(0, S a1)], [], []⟩) (fun _ => head_onlyP_j1 a1 = some r2) ?_ ?_
 ·
  refine AW.seq ?_
  refine AW.region ?_
  show AR _ _ _ _ _ [0, 1, 2] _
  refine sS rfl rfl rfl (mv rfl) ?_
  refine sS rfl rfl rfl (opS_len_str Tryd.underlying9 rfl) ?_
  refine sS rfl rfl rfl (mv rfl) ?_
  refine AR.nil ?_
  show AW _ _ _ _ _ _
  refine AW.block ?_
  refine AW.loop (X := Nat × Int) (fun (n5, y3) => ⟨[(0, S a1), (1, .v (.func (.func 39) #[] #[])), (7, i64 (a1.length : Int)), (8, i64 y3)], [], []⟩) (fun (n5, y3) => head_onlyP_L1 F a1 n5 y3 = some r2) (fun (n5, y3) => n5) (F, 0) H (WK.at [] (.cons (.refl _) (.cons (.refl _) (.cons (.refl _) (.cons (.refl _) (.nil _))))) rfl) ?_
  rintro ⟨n5, y3⟩ H
  obtain ⟨n5, rfl, H⟩ := loop_s H
  replace H : head_onlyP_B1 F a1 (head_onlyP_L1 F a1 n5) y3 = some r2 := H
  unfold head_onlyP_B1 at H
  show AW _ _ _ _ _ _
  refine AW.seq ?_
  refine AW.region ?_
  show AR _ _ _ _ _ [0] _
  refine sS rfl rfl rfl (opS_lt rfl rfl) ?_
  refine AR.nil ?_
  show AW _ _ _ _ _ _
  refine AW.seq ?_
  refine AW.cond rfl (fun c6 => ?_) (fun c6 => ?_)
  ·replace H := cnd_t c6 H
   refine AW.skip ?_
   show AW _ _ _ _ _ _
   refine AW.seq ?_
   refine AW.block ?_
   refine AW.seq ?_
   refine AW.region ?_
   show AR _ _ _ _ _ [0, 1] _
   refine sS rfl rfl rfl (mv rfl) ?_
   refine sS rfl rfl rfl (asg rfl) ?_
   refine AR.nil ?_
   show AW _ _ _ _ _ _
   refine AW.seq ?_
   obtain ⟨g7, H⟩ := grd_s H
   obtain ⟨x8, e9, H⟩ := lt_s H
   obtain ⟨x10, e11, H⟩ := bnd_s H
   refine AW.region ?_
   show AR _ _ _ _ _ [0, 1, 2, 3, 4, 5] _
   refine sS rfl rfl rfl (mv rfl) ?_
   refine sS rfl rfl rfl (mv rfl) ?_
   refine sS rfl rfl rfl (mv rfl) ?_
   refine sS rfl rfl rfl (g_index_str Tryd.underlying9 rfl rfl g7 e9) ?_
   refine AR.run rfl rfl (AO.callFp rfl (.inr ⟨rfl, rfl, rfl⟩) en39_heada rfl (w_head_plainC F x8 x10 e11) ?_)
   refine sS rfl rfl rfl (opS_not rfl) ?_
   refine AR.nil ?_
   show AW _ _ _ _ _ _
   refine AW.cond rfl (fun c12 => ?_) (fun c12 => ?_)
   ·replace H := cnd_t c12 H
    refine AW.seq ?_
    refine AW.region ?_
    show AR _ _ _ _ _ [0] _
    refine sS rfl rfl rfl (asg rfl) ?_
    refine AR.nil ?_
    show AW _ _ _ _ _ _
    refine AW.ret ?_
    obtain rfl := Option.some.inj H
    exact And.intro rfl (Exists.intro _ (Exists.intro _ ⟨ResV.oneW rfl (.refl _), Sub.at [] rfl, rfl, rfl⟩))
   ·replace H := cnd_f c12 H
    refine AW.skip ?_
    show AW _ _ _ _ _ _
    obtain ⟨g13, H⟩ := grd_s H
    refine AW.region ?_
    show AR _ _ _ _ _ [0, 1] _
    refine sS rfl rfl rfl (g_add rfl rfl g13) ?_
    refine sS rfl rfl rfl (mv rfl) ?_
    refine AR.nil ?_
    exact Exists.intro (n5, y3 + 1) ⟨H, Nat.lt_succ_self _, WK.at [] (.cons (.refl _) (.cons (.refl _) (.cons (.refl _) (.cons (.refl _) (.nil _))))) rfl⟩
  ·replace H := cnd_f c6 H
   refine AW.exit ?_
   exact Exists.intro () ⟨H, WK.at [] (.cons (.refl _) (.nil _)) rfl⟩
 rintro _ H
 replace H : head_onlyP_j1 a1 = some r2 := H
 unfold head_onlyP_j1 at H
 show AW _ _ _ _ _ _
 refine AW.seq ?_
 refine AW.region ?_
 show AR _ _ _ _ _ [0, 1, 2] _
 refine sS rfl rfl rfl (mv rfl) ?_
 refine sS rfl rfl rfl (opS_nes rfl rfl) ?_
 refine sS rfl rfl rfl (asg rfl) ?_
 refine AR.nil ?_
 show AW _ _ _ _ _ _
 refine AW.ret ?_
 obtain rfl := Option.some.inj H
 exact And.intro rfl (Exists.intro _ (Exists.intro _ ⟨ResV.oneW rfl (.refl _), Sub.at [] rfl, rfl, rfl⟩))
set_option maxRecDepth 100000 in
set_option maxHeartbeats 1000000 in
theorem w_head_name (F : Nat) (a1 : List UInt8) (r2 : Bool) (H : head_name F a1 = some r2) : ACalls Tryd.prog 26 [S a1] [] (Ret (B r2) []) := by
 unfold head_name at H
 refine ACalls.of_body Tryd.func26 rfl rfl ?_
 show AW _ _ 10 _ _ _
 refine AW.seq ?_
 refine AW.region ?_
 show AR _ _ _ _ _ [0] _
 refine sS rfl rfl rfl (asg rfl) ?_
 refine AR.nil ?_
 show AW _ _ _ _ _ _
 refine AW.seq ?_
 obtain ⟨x4, e5, H⟩ := bndc_s H
 refine AW.region ?_
 show AR _ _ _ _ _ [0, 1, 2, 3, 4, 5, 6, 7] _
 refine sS rfl rfl rfl (mv rfl) ?_
 refine sS rfl rfl rfl (opS_len_str Tryd.underlying9 rfl) ?_
 refine sS rfl rfl rfl (opS_le rfl rfl) ?_
 refine sS rfl rfl rfl (mv rfl) ?_
 refine AR.meet (l := [7]) 9 (B ((decide ((a1.length : Int) ≤ 40)) && x4)) (fun K => ?_) ?_
 ·rcases Bool.eq_false_or_eq_true (decide ((a1.length : Int) ≤ 40)) with h3 | h3
  ·
   refine gT h3 rfl rfl rfl rfl rfl rfl (AO.ops rfl rfl (mv rfl) ?_)
   refine gT h3 rfl rfl rfl rfl rfl rfl (AO.callp rfl en38_heada rfl (w_head_onlyN F a1 x4 (e5 h3)) ?_)
   refine sS rfl rfl rfl (opS_pick_t (av := .v _) rfl h3 rfl) ?_
   exact K _ 2 _ (B_congr (and_t h3)) rfl rfl
  ·
   refine gF h3 rfl rfl rfl rfl rfl ?_
   refine gF h3 rfl rfl rfl rfl rfl ?_
   refine sS rfl rfl rfl (opS_pick_f (av := .v _) rfl h3 rfl) ?_
   exact K _ 2 _ (B_congr (and_f h3)) rfl rfl
 refine sS rfl rfl rfl (asg rfl) ?_
 refine AR.nil ?_
 show AW _ _ _ _ _ _
 refine AW.ret ?_
 obtain rfl := Option.some.inj H
 exact And.intro rfl (Exists.intro _ (Exists.intro _ ⟨ResV.oneW rfl (.refl _), Sub.at [] rfl, rfl, rfl⟩))
set_option maxRecDepth 100000 in
set_option maxHeartbeats 1000000 in
theorem w_head_Plain (F : Nat) (a1 : List UInt8) (r2 : Bool) (H : head_Plain F a1 = some r2) : ACalls Tryd.prog 18 [S a1] [] (Ret (B r2) []) := by
 unfold head_Plain at H
 refine ACalls.of_body Tryd.func18 rfl rfl ?_
 show AW _ _ 21 _ _ _
 refine AW.seq ?_
 refine AW.region ?_
 show AR _ _ _ _ _ [0] _
 refine sS rfl rfl rfl (asg rfl) ?_
 refine AR.nil ?_
 show AW _ _ _ _ _ _
 refine AW.seq ?_
 obtain ⟨x3, e4, H⟩ := bnd_s H
 obtain ⟨g6, H⟩ := grdc_s H
 obtain ⟨x7, e8, H⟩ := lt_s H
 obtain ⟨g10, H⟩ := grdc_s H
 obtain ⟨x11, e12, H⟩ := lt_s H
 obtain ⟨g14, H⟩ := grdc_s H
 obtain ⟨x15, e16, H⟩ := lt_s H
 refine AW.region ?_
 show AR _ _ _ _ _ [0, 1, 2, 3, 4, 5, 6, 7, 8, 9, 10, 11, 12, 13, 14, 15, 16, 17, 18] _
 refine sS rfl rfl rfl (mv rfl) ?_
 refine AR.run rfl rfl (AO.callp rfl en38_heada rfl (w_head_onlyP F a1 x3 e4) ?_)
 refine sS rfl rfl rfl (mv rfl) ?_
 refine AR.meet (l := [8, 9, 10, 11, 12, 13, 14, 15, 16, 17, 18]) 10 (B (x3 && (decide (x7 = a1)))) (fun K => ?_) ?_
 ·rcases Bool.eq_false_or_eq_true x3 with h5 | h5
  ·
   refine gT h5 rfl rfl rfl rfl rfl rfl (AO.ops rfl rfl (mv rfl) ?_)
   refine gT h5 rfl rfl rfl rfl rfl rfl (AO.callp rfl en40_heada rfl (show ACalls _ _ _ [] (Ret (S x7) []) from by subst e8; exact lib_Trim1 a1 32 (by decide) (okS_s (g6 h5))) ?_)
   refine gT h5 rfl rfl rfl rfl rfl rfl (AO.ops rfl rfl (mv rfl) ?_)
   refine gT h5 rfl rfl rfl rfl rfl rfl (AO.ops rfl rfl (opS_eqs rfl rfl) ?_)
   refine sS rfl rfl rfl (opS_pick_t (av := .v _) rfl h5 rfl) ?_
   exact K _ 4 _ (B_congr (and_t h5)) rfl rfl
  ·
   refine gF h5 rfl rfl rfl rfl rfl ?_
   refine gF h5 rfl rfl rfl rfl rfl ?_
   refine gF h5 rfl rfl rfl rfl rfl ?_
   refine gF h5 rfl rfl rfl rfl rfl ?_
   refine sS rfl rfl rfl (opS_pick_f (av := .v _) rfl h5 rfl) ?_
   exact K _ 4 _ (B_congr (and_f h5)) rfl rfl
 refine sS rfl rfl rfl (mv rfl) ?_
 refine AR.meet (l := [13, 14, 15, 16, 17, 18]) 15 (B ((x3 && (decide (x7 = a1))) && (!x11))) (fun K => ?_) ?_
 ·rcases Bool.eq_false_or_eq_true (x3 && (decide (x7 = a1))) with h9 | h9
  ·
   refine gT h9 rfl rfl rfl rfl rfl rfl (AO.ops rfl rfl (mv rfl) ?_)
   refine gT h9 rfl rfl rfl rfl rfl rfl (AO.callp rfl en41_heada rfl (show ACalls _ _ _ [] (Ret (B x11) []) from by subst e12; exact lib_Contains a1 ([32, 32] : List UInt8) (okS_s (g10 h9))) ?_)
   refine gT h9 rfl rfl rfl rfl rfl rfl (AO.ops rfl rfl (opS_not rfl) ?_)
   refine sS rfl rfl rfl (opS_pick_t (av := .v _) rfl h9 rfl) ?_
   exact K _ 3 _ (B_congr (and_t h9)) rfl rfl
  ·
   refine gF h9 rfl rfl rfl rfl rfl ?_
   refine gF h9 rfl rfl rfl rfl rfl ?_
   refine gF h9 rfl rfl rfl rfl rfl ?_
   refine sS rfl rfl rfl (opS_pick_f (av := .v _) rfl h9 rfl) ?_
   exact K _ 3 _ (B_congr (and_f h9)) rfl rfl
 refine sS rfl rfl rfl (mv rfl) ?_
 refine AR.meet (l := [18]) 20 (B (((x3 && (decide (x7 = a1))) && (!x11)) && (!x15))) (fun K => ?_) ?_
 ·rcases Bool.eq_false_or_eq_true ((x3 && (decide (x7 = a1))) && (!x11)) with h13 | h13
  ·
   refine gT h13 rfl rfl rfl rfl rfl rfl (AO.ops rfl rfl (mv rfl) ?_)
   refine gT h13 rfl rfl rfl rfl rfl rfl (AO.callp rfl en41_heada rfl (show ACalls _ _ _ [] (Ret (B x15) []) from by subst e16; exact lib_Contains a1 ([61, 63] : List UInt8) (okS_s (g14 h13))) ?_)
   refine gT h13 rfl rfl rfl rfl rfl rfl (AO.ops rfl rfl (opS_not rfl) ?_)
   refine sS rfl rfl rfl (opS_pick_t (av := .v _) rfl h13 rfl) ?_
   exact K _ 3 _ (B_congr (and_t h13)) rfl rfl
  ·
   refine gF h13 rfl rfl rfl rfl rfl ?_
   refine gF h13 rfl rfl rfl rfl rfl ?_
   refine gF h13 rfl rfl rfl rfl rfl ?_
   refine sS rfl rfl rfl (opS_pick_f (av := .v _) rfl h13 rfl) ?_
   exact K _ 3 _ (B_congr (and_f h13)) rfl rfl
 refine sS rfl rfl rfl (asg rfl) ?_
 refine AR.nil ?_
 show AW _ _ _ _ _ _
 refine AW.ret ?_
 obtain rfl := Option.some.inj H
 exact And.intro rfl (Exists.intro _ (Exists.intro _ ⟨ResV.oneW rfl (.refl _), Sub.at [] rfl, rfl, rfl⟩))
set_option maxRecDepth 100000 in
set_option maxHeartbeats 1000000 in
theorem w_head_inside (F : Nat) (a1 : UInt8) (r2 : Bool) (H : head_inside F a1 = some r2) : ACalls Tryd.prog 74 [u8 a1] [] (Ret (B r2) []) := by
 unfold head_inside at H
 refine ACalls.of_body Tryd.func74 rfl rfl ?_
 show AW _ _ 6 _ _ _
 refine AW.seq ?_
 refine AW.region ?_
 show AR _ _ _ _ _ [0] _
 refine sS rfl rfl rfl (asg rfl) ?_
 refine AR.nil ?_
 show AW _ _ _ _ _ _
 refine AW.seq ?_
 refine AW.region ?_
 show AR _ _ _ _ _ [0, 1, 2, 3] _
 refine sS rfl rfl rfl (mv rfl) ?_
 refine sS rfl rfl rfl (g_shr8 (n := 6) rfl rfl rfl) ?_
 refine sS rfl rfl rfl (g_eq8 (a := Go.Av.shr8 a1 6) (b := 2) rfl rfl) ?_
 refine sS rfl rfl rfl (asg rfl) ?_
 refine AR.nil ?_
 show AW _ _ _ _ _ _
 refine AW.ret ?_
 obtain rfl := Option.some.inj H
 exact And.intro rfl (Exists.intro _ (Exists.intro _ ⟨ResV.oneW rfl (.refl _), Sub.at [] rfl, rfl, rfl⟩))
set_option maxRecDepth 100000 in
set_option maxHeartbeats 1000000 in
theorem w_head_part (F : Nat) (a1 : List UInt8) (r2 : Int) (H : head_part F a1 = some r2) : ACalls Tryd.prog 53 [S a1] [] (Ret (i64 r2) []) := by
 unfold head_part at H
 refine ACalls.of_body Tryd.func53 rfl rfl ?_
 show AW _ _ 22 _ _ _
 refine AW.seq ?_
 refine AW.region ?_
 show AR _ _ _ _ _ [0] _
 refine sS rfl rfl rfl (asg rfl) ?_
 refine AR.nil ?_
 show AW _ _ _ _ _ _
 refine AW.seq ?_
 refine AW.seq ?_
 refine AW.region ?_
 show AR _ _ _ _ _ [0, 1, 2] _
 refine sS rfl rfl rfl (mv rfl) ?_
 refine sS rfl rfl rfl (opS_len_str Tryd.underlying9 rfl) ?_
 refine sS rfl rfl rfl (opS_le rfl rfl) ?_
 refine AR.nil ?_
 show AW _ _ _ _ _ _
 refine AW.cond rfl (fun c3 => ?_) (fun c3 => ?_)
 ·replace H := cnd_t c3 H
  refine AW.seq ?_
  refine AW.region ?_
  show AR _ _ _ _ _ [0, 1, 2] _
  refine sS rfl rfl rfl (mv rfl) ?_
  refine sS rfl rfl rfl (opS_len_str Tryd.underlying9 rfl) ?_
  refine sS rfl rfl rfl (asg rfl) ?_
  refine AR.nil ?_
  show AW _ _ _ _ _ _
  refine AW.ret ?_
  obtain rfl := Option.some.inj H
  exact And.intro rfl (Exists.intro _ (Exists.intro _ ⟨ResV.oneW rfl (.refl _), Sub.at [] rfl, rfl, rfl⟩))
 ·replace H := cnd_f c3 H
  refine AW.skip ?_
  show AW _ _ _ _ _ _
  refine AW.seq ?_
  refine AW.region ?_
  show AR _ _ _ _ _ [0] _
  refine sS rfl rfl rfl (asg rfl) ?_
  refine AR.nil ?_
  show AW _ _ _ _ _ _
  refine AW.cut (X := Int) (fun y15 => ⟨[(3, i64 y15)], [], []⟩) (fun y15 => head_part_j1 y15 = some r2) ?_ ?_
  ·
   refine AW.block ?_
   refine AW.loop (X := Nat × Int) (fun (n6, y4) => ⟨[(0, S a1), (3, i64 y4)], [], []⟩) (fun (n6, y4) => head_part_L1 F a1 n6 y4 = some r2) (fun (n6, y4) => n6) (F, 45) H (WK.at [] (.cons (.refl _) (.cons (.refl _) (.nil _))) rfl) ?_
   rintro ⟨n6, y4⟩ H
   obtain ⟨n6, rfl, H⟩ := loop_s H
   replace H : head_part_B1 F a1 (head_part_L1 F a1 n6) y4 = some r2 := H
   unfold head_part_B1 at H
   show AW _ _ _ _ _ _
   refine AW.seq ?_
   refine AW.seq ?_
   obtain ⟨g8, H⟩ := grdc_s H
   obtain ⟨x9, e10, H⟩ := lt_s H
   obtain ⟨x11, e12, H⟩ := bndc_s H
   refine AW.region ?_
   show AR _ _ _ _ _ [0, 1, 2, 3, 4, 5, 6, 7] _
   refine sS rfl rfl rfl (mv rfl) ?_
   refine sS rfl rfl rfl (opS_gt rfl rfl) ?_
   refine sS rfl rfl rfl (mv rfl) ?_
   refine AR.meet (l := []) 16 (B ((decide (41 < y4)) && x11)) (fun K => ?_) ?_
   ·rcases Bool.eq_false_or_eq_true (decide (41 < y4)) with h7 | h7
    ·
     refine gT h7 rfl rfl rfl rfl rfl rfl (AO.ops rfl rfl (mv rfl) ?_)
     refine gT h7 rfl rfl rfl rfl rfl rfl (AO.ops rfl rfl (mv rfl) ?_)
     refine gT h7 rfl rfl rfl rfl rfl rfl (AO.ops rfl rfl (g_index_str Tryd.underlying9 rfl rfl (g8 h7) e10) ?_)
     refine gT h7 rfl rfl rfl rfl rfl rfl (AO.callp rfl en74_heada rfl (w_head_inside F x9 x11 (e12 h7)) ?_)
     refine sS rfl rfl rfl (opS_pick_t (av := .v _) rfl h7 rfl) ?_
     exact K _ 4 _ (B_congr (and_t h7)) rfl rfl
    ·
     refine gF h7 rfl rfl rfl rfl rfl ?_
     refine gF h7 rfl rfl rfl rfl rfl ?_
     refine gF h7 rfl rfl rfl rfl rfl ?_
     refine gF h7 rfl rfl rfl rfl rfl ?_
     refine sS rfl rfl rfl (opS_pick_f (av := .v _) rfl h7 rfl) ?_
     exact K _ 4 _ (B_congr (and_f h7)) rfl rfl
   refine AR.nil ?_
   show AW _ _ _ _ _ _
   refine AW.cond rfl (fun c13 => ?_) (fun c13 => ?_)
   ·replace H := cnd_t c13 H
    refine AW.skip ?_
    show AW _ _ _ _ _ _
    refine AW.block ?_
    obtain ⟨g14, H⟩ := grd_s H
    refine AW.region ?_
    show AR _ _ _ _ _ [0, 1, 2] _
    refine sS rfl rfl rfl (mv rfl) ?_
    refine sS rfl rfl rfl (g_sub rfl rfl g14) ?_
    refine sS rfl rfl rfl (asg rfl) ?_
    refine AR.nil ?_
    exact Exists.intro (n6, y4 - 1) ⟨H, Nat.lt_succ_self _, WK.at [] (.cons (.refl _) (.cons (.refl _) (.nil _))) rfl⟩
   ·replace H := cnd_f c13 H
    refine AW.exit ?_
    exact Exists.intro y4 ⟨H, WK.at [] (.cons (.refl _) (.nil _)) rfl⟩
  rintro y15 H
  replace H : head_part_j1 y15 = some r2 := H
  unfold head_part_j1 at H
  show AW _ _ _ _ _ _
  refine AW.seq ?_
  refine AW.seq ?_
  refine AW.region ?_
  show AR _ _ _ _ _ [0, 1] _
  refine sS rfl rfl rfl (mv rfl) ?_
  refine sS rfl rfl rfl (opS_eqi rfl rfl) ?_
  refine AR.nil ?_
  show AW _ _ _ _ _ _
  refine AW.cond rfl (fun c17 => ?_) (fun c17 => ?_)
  ·replace H := cnd_t c17 H
   refine AW.seq ?_
   refine AW.region ?_
   show AR _ _ _ _ _ [0] _
   refine sS rfl rfl rfl (asg rfl) ?_
   refine AR.nil ?_
   show AW _ _ _ _ _ _
   refine AW.ret ?_
   obtain rfl := Option.some.inj H
   exact And.intro rfl (Exists.intro _ (Exists.intro _ ⟨ResV.oneW rfl (.refl _), Sub.at [] rfl, rfl, rfl⟩))
  ·replace H := cnd_f c17 H
   refine AW.skip ?_
   show AW _ _ _ _ _ _
   refine AW.seq ?_
   refine AW.region ?_
   show AR _ _ _ _ _ [0, 1] _
   refine sS rfl rfl rfl (mv rfl) ?_
   refine sS rfl rfl rfl (asg rfl) ?_
   refine AR.nil ?_
   show AW _ _ _ _ _ _
   refine AW.ret ?_
   obtain rfl := Option.some.inj H
   exact And.intro rfl (Exists.intro _ (Exists.intro _ ⟨ResV.oneW rfl (.refl _), Sub.at [] rfl, rfl, rfl⟩))
set_option maxRecDepth 100000 in
set_option maxHeartbeats 1000000 in
theorem w_head_wordsI (F : Nat) {σ τ : Type} (T : σ → τ → List Chunk) (k : σ → (List UInt8) → Option (σ × Bool)) (o : Nat) (hY : ∀ (s : σ) (t : τ) (x : List UInt8) (rv : σ × Bool), k s x = some rv → AYields Tryd.prog o [S x] (T s t) fun ae A' => ∃ t', ae = .ret (.v (.bool rv.2)) ∧ A' = T rv.1 t') (st0 : σ) (tt0 : τ) (o1 : Nat) (a2 : List UInt8) (rs : σ) (r3 : List UInt8) (H : head_wordsI F k st0 a2 = some (rs, r3)) : ACalls Tryd.prog 51 [.yl o, .pt o1 0] ([.obj o1 [S a2]] ++ T st0 tt0) (fun e A' => ∃ tz, e = .ret (.tup []) ∧ A' = [.obj o1 [S r3]] ++ T rs tz) := by
 unfold head_wordsI at H
 refine ACalls.of_body Tryd.func51 rfl rfl ?_
 show AW _ _ 37 _ _ _
 refine AW.cut (X := Unit) (fun _ => ⟨[(0, .yl o), (1, .pt o1 0)], [], ([.obj o1 [S a2]] ++ T st0 tt0)⟩) (fun _ => head_wordsI_j1 F a2 k st0 = some (rs, r3)) ?_ ?_
 ·
  refine AW.seq ?_
  obtain ⟨x4, e5, H⟩ := bnd_s H
  refine AW.region ?_
  show AR _ _ _ _ _ [0, 1] _
  refine sR rfl rfl rfl (opR_load_pt (i := 0) Tryd.underlying9 rfl rfl rfl rfl) ?_
  refine AR.run rfl rfl (AO.callp rfl en18_heada rfl (w_head_Plain F a2 x4 e5) ?_)
  refine AR.nil ?_
  show AW _ _ _ _ _ _
  refine AW.cond rfl (fun c6 => ?_) (fun c6 => ?_)
  ·replace H := cnd_t c6 H
   refine AW.seq ?_
   refine AW.seq ?_
   obtain ⟨g7, H⟩ := grd_s H
   obtain ⟨g8, H⟩ := grd_s H
   obtain ⟨x9, e10, H⟩ := lt_s H
   refine AW.region ?_
   show AR _ _ _ _ _ [0, 1, 2, 3] _
   refine sR rfl rfl rfl (opR_load_pt (i := 0) Tryd.underlying9 rfl rfl rfl rfl) ?_
   refine AR.run rfl rfl (AO.callp rfl en52_heada rfl (show ACalls _ _ _ [] (Ret (slE Enc.str x9 none) []) from by subst e10; exact lib_Split a2 ([32] : List UInt8) (okS_s g7) (of_decide_eq_true g8)) ?_)
   refine sS rfl rfl rfl (opS_len_sl Tryd.underlying36 rfl) ?_
   refine sS rfl rfl rfl (mv rfl) ?_
   refine AR.nil ?_
   show AW _ _ _ _ _ _
   refine AW.block ?_
   refine AW.loop (X := Nat × Int × σ × τ) (fun (n15, y11, y12, t13) => ⟨[(0, .yl o), (9, slE Enc.str x9 none), (10, i64 (x9.length : Int)), (11, i64 y11)], [], ([.obj o1 [S a2]] ++ T y12 t13)⟩) (fun (n15, y11, y12, t13) => head_wordsI_L2 a2 k x9 n15 (y11, y12) = some (rs, r3)) (fun (n15, y11, y12, t13) => n15) (F, 0, st0, tt0) H (WK.atT 1 [0] (.cons (.refl _) (.cons (.refl _) (.cons (.refl _) (.cons (.refl _) (.nil _))))) rfl) ?_
   rintro ⟨n15, y11, y12, t13⟩ H
   obtain ⟨n15, rfl, H⟩ := loop_s H
   replace H : head_wordsI_B2 a2 k x9 (head_wordsI_L2 a2 k x9 n15) y11 y12 = some (rs, r3) := H
   unfold head_wordsI_B2 at H
   show AW _ _ _ _ _ _
   refine AW.seq ?_
   refine AW.region ?_
   show AR _ _ _ _ _ [0] _
   refine sS rfl rfl rfl (opS_lt rfl rfl) ?_
   refine AR.nil ?_
   show AW _ _ _ _ _ _
   refine AW.seq ?_
   refine AW.cond rfl (fun c16 => ?_) (fun c16 => ?_)
   ·replace H := cnd_t c16 H
    refine AW.skip ?_
    show AW _ _ _ _ _ _
    refine AW.seq ?_
    refine AW.block ?_
    refine AW.seq ?_
    obtain ⟨g17, H⟩ := grd_s H
    obtain ⟨x18, e19, H⟩ := lt_s H
    refine AW.region ?_
    show AR _ _ _ _ _ [0, 1, 2] _
    refine sS rfl rfl rfl (g_indexAddr (E := Enc.str) Tryd.underlying36 (by kernel_rfl) rfl rfl g17 e19) ?_
    refine sS rfl rfl rfl (opS_load_cp Tryd.underlying9 rfl rfl) ?_
    refine sS rfl rfl rfl (asg rfl) ?_
    refine AR.nil ?_
    show AW _ _ _ _ _ _
    refine AW.seq ?_
    obtain ⟨x20, x21, e22, H⟩ := bnd2_s H
    refine AW.region ?_
    show AR _ _ _ _ _ [0, 1, 2, 3] _
    refine sS rfl rfl rfl (opS_move (av := .yl _) rfl) ?_
    refine sS rfl rfl rfl (mv rfl) ?_
    refine AR.run rfl rfl (AO.yieldT (s' := x20) (b := x21) 1 rfl rfl rfl (hY _ _ _ _ e22) fun t23 => ?_)
    show AR _ _ _ _ _ _ ⟨_, _, ([.obj o1 [S a2]] ++ T x20 t23)⟩
    refine sS rfl rfl rfl (opS_not rfl) ?_
    refine AR.nil ?_
    show AW _ _ _ _ _ _
    refine AW.cond rfl (fun c24 => ?_) (fun c24 => ?_)
    ·replace H := cnd_t c24 H
     refine AW.ret ?_
     obtain ⟨rfl, rfl⟩ := res2 H
     exact And.intro rfl (Exists.intro _ (Exists.intro _ ⟨ResV.noneW rfl, Sub.atT 1 [0] rfl, t23, rfl, rfl⟩))
    ·replace H := cnd_f c24 H
     refine AW.skip ?_
     show AW _ _ _ _ _ _
     obtain ⟨g25, H⟩ := grd_s H
     refine AW.region ?_
     show AR _ _ _ _ _ [0, 1] _
     refine sS rfl rfl rfl (g_add rfl rfl g25) ?_
     refine sS rfl rfl rfl (mv rfl) ?_
     refine AR.nil ?_
     exact Exists.intro (n15, y11 + 1, x20, t23) ⟨H, Nat.lt_succ_self _, WK.atT 1 [0] (.cons (.refl _) (.cons (.refl _) (.cons (.refl _) (.cons (.refl _) (.nil _))))) rfl⟩
   ·replace H := cnd_f c16 H
    refine AW.exit ?_
    show AW _ _ _ _ _ _
    refine AW.ret ?_
    obtain ⟨rfl, rfl⟩ := res2 H
    exact And.intro rfl (Exists.intro _ (Exists.intro _ ⟨ResV.noneW rfl, Sub.atT 1 [0] rfl, t13, rfl, rfl⟩))
  ·replace H := cnd_f c6 H
   refine AW.skip ?_
   exact Exists.intro () ⟨H, WK.atT 1 [0] (.cons (.refl _) (.cons (.refl _) (.nil _))) rfl⟩
 rintro _ H
 replace H : head_wordsI_j1 F a2 k st0 = some (rs, r3) := H
 unfold head_wordsI_j1 at H
 show AW _ _ _ _ _ _
 refine AW.block ?_
 refine AW.loop (X := Nat × (List UInt8) × σ × τ) (fun (n31, y27, y28, t29) => ⟨[(0, .yl o), (1, .pt o1 0)], [], ([.obj o1 [S y27]] ++ T y28 t29)⟩) (fun (n31, y27, y28, t29) => head_wordsI_L1 F k n31 (y27, y28) = some (rs, r3)) (fun (n31, y27, y28, t29) => n31) (F, a2, st0, tt0) H (WK.atT 1 [0] (.cons (.refl _) (.cons (.refl _) (.nil _))) rfl) ?_
 rintro ⟨n31, y27, y28, t29⟩ H
 obtain ⟨n31, rfl, H⟩ := loop_s H
 replace H : head_wordsI_B1 F k (head_wordsI_L1 F k n31) y27 y28 = some (rs, r3) := H
 unfold head_wordsI_B1 at H
 show AW _ _ _ _ _ _
 refine AW.seq ?_
 refine AW.seq ?_
 refine AW.region ?_
 show AR _ _ _ _ _ [0, 1] _
 refine sR rfl rfl rfl (opR_load_pt (i := 0) Tryd.underlying9 rfl rfl rfl rfl) ?_
 refine sS rfl rfl rfl (opS_nes rfl rfl) ?_
 refine AR.nil ?_
 show AW _ _ _ _ _ _
 refine AW.cond rfl (fun c32 => ?_) (fun c32 => ?_)
 ·replace H := cnd_t c32 H
  refine AW.skip ?_
  show AW _ _ _ _ _ _
  refine AW.block ?_
  refine AW.seq ?_
  obtain ⟨x33, e34, H⟩ := bnd_s H
  refine AW.region ?_
  show AR _ _ _ _ _ [0, 1, 2] _
  refine sR rfl rfl rfl (opR_load_pt (i := 0) Tryd.underlying9 rfl rfl rfl rfl) ?_
  refine AR.run rfl rfl (AO.callp rfl en53_heada rfl (w_head_part F y27 x33 e34) ?_)
  refine sS rfl rfl rfl (asg rfl) ?_
  refine AR.nil ?_
  show AW _ _ _ _ _ _
  refine AW.seq ?_
  refine AW.seq ?_
  obtain ⟨g35, H⟩ := grd_s H
  obtain ⟨x36, e37, H⟩ := lt_s H
  obtain ⟨g38, H⟩ := grd_s H
  obtain ⟨x40, e41, H⟩ := bnd_s H
  obtain ⟨g42, H⟩ := grd_s H
  obtain ⟨x43, e44, H⟩ := lt_s H
  obtain ⟨g45, H⟩ := grd_s H
  obtain ⟨x46, e47, H⟩ := lt_s H
  obtain ⟨x48, x49, e50, H⟩ := bnd2_s H
  refine AW.region ?_
  show AR _ _ _ _ _ [0, 1, 2, 3, 4, 5, 6, 7, 8, 9] _
  refine sS rfl rfl rfl (opS_move (av := .yl _) rfl) ?_
  refine sR rfl rfl rfl (opR_load_pt (i := 0) Tryd.underlying9 rfl rfl rfl rfl) ?_
  refine sS rfl rfl rfl (mv rfl) ?_
  refine sS rfl rfl rfl (g_to_str Tryd.underlying9 rfl rfl g35 e37) ?_
  refine sX rfl rfl rfl (g_conv_str_bytes (bytes := 1) Tryd.underlying9 Tryd.underlying24 Tryd.underlying5 rfl g38) ?_
  rintro _ _ ⟨t39, rfl, rfl⟩
  refine AR.run rfl rfl (AO.callp rfl en54_heada rfl (w_b64_Raw F x36 (some t39) x40 e41) ?_)
  refine sS rfl rfl rfl (g_cat rfl rfl g42 e44) ?_
  refine sS rfl rfl rfl (g_cat rfl rfl g45 e47) ?_
  refine AR.run rfl rfl (AO.yieldT (s' := x48) (b := x49) 2 rfl rfl rfl (hY _ _ _ _ e50) fun t51 => ?_)
  show AR _ _ _ _ _ _ ⟨_, _, ([.tok t39 5, .obj o1 [S y27]] ++ T x48 t51)⟩
  refine sS rfl rfl rfl (opS_not rfl) ?_
  refine AR.nil ?_
  show AW _ _ _ _ _ _
  refine AW.cond rfl (fun c52 => ?_) (fun c52 => ?_)
  ·replace H := cnd_t c52 H
   refine AW.ret ?_
   obtain ⟨rfl, rfl⟩ := res2 H
   exact And.intro rfl (Exists.intro _ (Exists.intro _ ⟨ResV.noneW rfl, Sub.atT 2 [1] rfl, t51, rfl, rfl⟩))
  ·replace H := cnd_f c52 H
   refine AW.skip ?_
   show AW _ _ _ _ _ _
   obtain ⟨g53, H⟩ := grd_s H
   obtain ⟨x54, e55, H⟩ := lt_s H
   refine AW.region ?_
   show AR _ _ _ _ _ [0, 1, 2, 3] _
   refine sR rfl rfl rfl (opR_load_pt (i := 1) Tryd.underlying9 rfl rfl rfl rfl) ?_
   refine sS rfl rfl rfl (mv rfl) ?_
   refine sS rfl rfl rfl (g_from_str Tryd.underlying9 rfl rfl g53 e55) ?_
   refine s0 rfl rfl (opR_store_pt (i := 1) (c := .v _) (by kernel_rfl) rfl rfl rfl rfl (Nat.le_of_ble_eq_true rfl)) ?_
   refine AR.nil ?_
   exact Exists.intro (n31, x54, x48, t51) ⟨H, Nat.lt_succ_self _, WK.atT 2 [1] (.cons (.refl _) (.cons (.refl _) (.nil _))) rfl⟩
 ·replace H := cnd_f c32 H
  refine AW.exit ?_
  obtain ⟨rfl, rfl⟩ := res2 H
  exact And.intro rfl (Exists.intro _ (Exists.intro _ ⟨ResV.noneW rfl, Sub.atT 1 [0] rfl, t29, rfl, rfl⟩))
set_option maxRecDepth 100000 in
set_option maxHeartbeats 1000000 in
theorem w_head_words (F : Nat) (a1 : List UInt8) (H : head_words F a1 = some ()) : ACalls Tryd.prog 27 [S a1] [] (fun e A' => ∃ ob1 : Nat, e = .ret (.fn (.func 51) [] [.pt ob1 0]) ∧ A' = [.obj ob1 [S a1]]) := by
 unfold head_words at H
 refine ACalls.of_body Tryd.func27 rfl rfl ?_
 show AW _ _ 4 _ _ _
 refine AW.seq ?_
 refine AW.region ?_
 show AR _ _ _ _ _ [0, 1] _
 refine sX rfl rfl rfl (opX_box rfl (.inl rfl)) ?_
 rintro _ _ ⟨o2, rfl, rfl⟩
 refine sS rfl rfl rfl (asg rfl) ?_
 refine AR.nil ?_
 show AW _ _ _ _ _ _
 refine AW.seq ?_
 refine AW.region ?_
 show AR _ _ _ _ _ [0, 1] _
 refine sS rfl rfl rfl (opS_makeFunc rfl rfl) ?_
 refine sS rfl rfl rfl (opS_assign (av := .fn _ _ _) rfl) ?_
 refine AR.nil ?_
 show AW _ _ _ _ _ _
 refine AW.ret ?_
 exact And.intro rfl (Exists.intro _ (Exists.intro _ ⟨ResV.oneW rfl (.refl _), Sub.at [0] rfl, o2, rfl, rfl⟩))
set_option maxRecDepth 100000 in
set_option maxHeartbeats 1000000 in
theorem w_head_Line (F : Nat) (a1 : List UInt8) (a2 : List UInt8) (r3 : List UInt8) (r4 : Int) (H : head_Line F a1 a2 = some (r3, r4)) : ACalls Tryd.prog 11 [.agg [S a1, S a2]] [] (Ret (.tup [slE Enc.byte r3 none, i64 r4]) []) := by
 unfold head_Line at H
 refine ACalls.of_bodyM Tryd.func11 rfl rfl ?_
 show AW _ _ 47 _ _ _
 refine AW.seq ?_
 refine AW.region ?_
 show AR _ _ _ _ _ [0, 1, 2] _
 refine sR rfl rfl rfl (opR_boxCp rfl (.inr ⟨_, rfl⟩)) ?_
 refine sS rfl rfl rfl (asg rfl) ?_
 refine sS rfl rfl rfl (asg rfl) ?_
 refine AR.nil ?_
 show AW _ _ _ _ _ _
 refine AW.seq ?_
 refine AW.seq ?_
 obtain ⟨x5, e6, H⟩ := bnd_s H
 refine AW.region ?_
 show AR _ _ _ _ _ [0, 1, 2, 3, 4, 5, 6, 7, 8, 9] _
 refine sS rfl rfl rfl (opS_fieldAddr_cp (n := 0) (by kernel_rfl) rfl (Nat.le_of_ble_eq_true rfl)) ?_
 refine sS rfl rfl rfl (opS_load_cp Tryd.underlying9 rfl rfl) ?_
 refine AR.run rfl rfl (AO.callp rfl en26_heada rfl (w_head_name F a1 x5 e6) ?_)
 refine sS rfl rfl rfl (opS_not rfl) ?_
 refine sS rfl rfl rfl (mv rfl) ?_
 refine AR.meet (l := []) 16 (B ((!x5) || (decide (4000 < (a2.length : Int))))) (fun K => ?_) ?_
 ·rcases Bool.eq_false_or_eq_true (!x5) with h7 | h7
  ·
   refine gF h7 rfl rfl rfl rfl rfl ?_
   refine gF h7 rfl rfl rfl rfl rfl ?_
   refine gF h7 rfl rfl rfl rfl rfl ?_
   refine gF h7 rfl rfl rfl rfl rfl ?_
   refine sS rfl rfl rfl (opS_pick_t (av := .v _) rfl h7 rfl) ?_
   exact K _ 4 _ (B_congr (or_t h7)) rfl rfl
  ·
   refine gT h7 rfl rfl rfl rfl rfl rfl (AO.ops rfl rfl (opS_fieldAddr_cp (n := 1) (by kernel_rfl) rfl (Nat.le_of_ble_eq_true rfl)) ?_)
   refine gT h7 rfl rfl rfl rfl rfl rfl (AO.ops rfl rfl (opS_load_cp Tryd.underlying9 rfl rfl) ?_)
   refine gT h7 rfl rfl rfl rfl rfl rfl (AO.ops rfl rfl (opS_len_str Tryd.underlying9 rfl) ?_)
   refine gT h7 rfl rfl rfl rfl rfl rfl (AO.ops rfl rfl (opS_gt rfl rfl) ?_)
   refine sS rfl rfl rfl (opS_pick_f (av := .v _) rfl h7 rfl) ?_
   exact K _ 4 _ (B_congr (or_f h7)) rfl rfl
 refine AR.nil ?_
 show AW _ _ _ _ _ _
 refine AW.cond rfl (fun c8 => ?_) (fun c8 => ?_)
 ·replace H := cnd_t c8 H
  refine AW.seq ?_
  refine AW.region ?_
  show AR _ _ _ _ _ [0, 1] _
  refine sS rfl rfl rfl (asg rfl) ?_
  refine sS rfl rfl rfl (asg rfl) ?_
  refine AR.nil ?_
  show AW _ _ _ _ _ _
  refine AW.ret ?_
  obtain ⟨rfl, rfl⟩ := res2 H
  exact Exists.intro _ (And.intro (.nil _) (Exists.intro _ (Exists.intro _ ⟨ResV.twoW rfl (.nil _) (.refl _), Sub.at [] rfl, rfl, rfl⟩)))
 ·replace H := cnd_f c8 H
  refine AW.skip ?_
  show AW _ _ _ _ _ _
  refine AW.seq ?_
  obtain ⟨g9, H⟩ := grd_s H
  obtain ⟨x10, e11, H⟩ := lt_s H
  obtain ⟨g12, H⟩ := grd_s H
  refine AW.region ?_
  show AR _ _ _ _ _ [0, 1, 2, 3, 4, 5] _
  refine sS rfl rfl rfl (opS_fieldAddr_cp (n := 0) (by kernel_rfl) rfl (Nat.le_of_ble_eq_true rfl)) ?_
  refine sS rfl rfl rfl (opS_load_cp Tryd.underlying9 rfl rfl) ?_
  refine sS rfl rfl rfl (g_cat rfl rfl g9 e11) ?_
  refine sX rfl rfl rfl (g_conv_str_bytes (bytes := 1) Tryd.underlying9 Tryd.underlying24 Tryd.underlying5 rfl g12) ?_
  rintro _ _ ⟨t13, rfl, rfl⟩
  refine sX rfl rfl rfl (opX_alloc (zs := [.slice none 0 0]) (by kernel_rfl)) ?_
  rintro _ _ ⟨o14, rfl, rfl⟩
  refine s0 rfl rfl (opR_store_pt (i := 0) (c := slE _ _ _) (by kernel_rfl) rfl rfl rfl rfl (Nat.le_of_ble_eq_true rfl)) ?_
  refine AR.nil ?_
  show AW _ _ _ _ _ _
  refine AW.seq ?_
  refine AW.region ?_
  show AR _ _ _ _ _ [0, 1, 2, 3] _
  refine sR rfl rfl rfl (opR_load_pt (i := 0) Tryd.underlying24 rfl rfl rfl rfl) ?_
  refine sS rfl rfl rfl (opS_len_sl Tryd.underlying24 rfl) ?_
  refine sX rfl rfl rfl (opX_alloc (zs := [.int .i64 0]) (by kernel_rfl)) ?_
  rintro _ _ ⟨o15, rfl, rfl⟩
  refine s0 rfl rfl (opR_store_pt (i := 0) (c := .v _) (by kernel_rfl) rfl rfl rfl rfl (Nat.le_of_ble_eq_true rfl)) ?_
  refine AR.nil ?_
  show AW _ _ _ _ _ _
  refine AW.cut (X := Nat × (List UInt8) × Nat) (fun (t65, y66, t67) => ⟨[(4, .pt o14 0)], [.mark t65], [.obj o14 [slE Enc.byte y66 (some t67)], .tok t67 5, .db t65]⟩) (fun (t65, y66, t67) => head_Line_j1 y66 = some (r3, r4)) ?_ ?_
  ·
   refine AW.seq ?_
   obtain ⟨_, e16, H⟩ := bnd_s H
   refine AW.region ?_
   show AR _ _ _ _ _ [0, 1, 2] _
   refine sS rfl rfl rfl (opS_fieldAddr_cp (n := 1) (by kernel_rfl) rfl (Nat.le_of_ble_eq_true rfl)) ?_
   refine sS rfl rfl rfl (opS_load_cp Tryd.underlying9 rfl rfl) ?_
   refine AR.run rfl rfl (AO.callAt [] rfl en27_heada rfl (w_head_words F a2 e16) rfl (fun c A' h => by obtain ⟨_, h, _⟩ := h; cases h) ?_)
   rintro av A' ⟨o17, h, rfl⟩; cases h
   refine AR.nil ?_
   show AW _ _ _ _ _ _
   refine AW.block ?_
   obtain ⟨x60, x61, e62, H⟩ := bnd2_s H
   refine AW.rangeK (α := List UInt8) (σ := Int × (List UInt8)) (τ := Nat) (fun x => [S x]) (fun s t => [.obj o15 [i64 s.1], .obj o14 [slE Enc.byte s.2 (some t)], .tok t 5]) (fun _ => none) (fun s x => head_Line_k1 s.1 s.2 x) ((x10.length : Int), x10) t13 x60 [0] [0, 0, 0] rfl en51_heada (fun _ => rfl) (by decide) rfl rfl rfl (fun o T' hY => w_head_wordsI F T' _ o hY _ _ o17 a2 x60 x61 e62) ?_ ?_
   ·
    rintro l ⟨y18, y19⟩ t20 x22 rv H
    replace H : head_Line_k1 y18 y19 x22 = some rv := H
    unfold head_Line_k1 at H
    refine ⟨rfl, ?_⟩
    show AW _ _ _ _ _ ⟨(26, S x22) :: _, [], _⟩
    refine AW.region ?_
    show AR _ _ _ _ _ [0] _
    refine sS rfl rfl rfl (asg rfl) ?_
    refine AR.nil ?_
    show AW _ _ _ _ _ _
    refine AW.block ?_
    refine AW.cut (X := Int × (List UInt8) × Nat) (fun (y30, y31, t32) => ⟨[(4, .pt o14 0), (5, .pt o15 0), (6, S x22)], [], [.obj o15 [i64 y30], .obj o14 [slE Enc.byte y31 (some t32)], .tok t32 5]⟩) (fun (y30, y31, t32) => head_Line_j2 x22 y30 y31 = some rv) ?_ ?_
    ·
     refine AW.seq ?_
     obtain ⟨g23, H⟩ := grd_s H
     obtain ⟨g24, H⟩ := grd_s H
     refine AW.region ?_
     show AR _ _ _ _ _ [0, 1, 2, 3, 4, 5] _
     refine sR rfl rfl rfl (opR_load_pt (i := 0) Tryd.underlying3 rfl rfl rfl rfl) ?_
     refine sS rfl rfl rfl (g_add rfl rfl g23) ?_
     refine sS rfl rfl rfl (mv rfl) ?_
     refine sS rfl rfl rfl (opS_len_str Tryd.underlying9 rfl) ?_
     refine sS rfl rfl rfl (g_add rfl rfl g24) ?_
     refine sS rfl rfl rfl (opS_gt rfl rfl) ?_
     refine AR.nil ?_
     show AW _ _ _ _ _ _
     refine AW.cond rfl (fun c25 => ?_) (fun c25 => ?_)
     ·replace H := cnd_t c25 H
      obtain ⟨g27, H⟩ := grd_s H
      obtain ⟨x28, e29, H⟩ := lt_s H
      refine AW.region ?_
      show AR _ _ _ _ _ [0, 1, 2, 3] _
      refine sR rfl rfl rfl (opR_load_pt (i := 1) Tryd.underlying24 rfl rfl rfl rfl) ?_
      refine sX rfl rfl rfl (g_append_str (bytes := 1) 2 Tryd.underlying24 Tryd.underlying9 rfl (by kernel_rfl) rfl rfl rfl rfl g27 e29) ?_
      rintro _ _ ⟨t26, rfl, rfl⟩
      refine s0 rfl rfl (opR_store_pt (i := 1) (c := slE _ _ _) (by kernel_rfl) rfl rfl rfl rfl (Nat.le_of_ble_eq_true rfl)) ?_
      refine s0 rfl rfl (opR_store_pt (i := 0) (c := .v _) (by kernel_rfl) rfl rfl rfl rfl (Nat.le_of_ble_eq_true rfl)) ?_
      refine AR.nil ?_
      exact Exists.intro (0, x28, t26) ⟨H, WK.at [0, 0, 0] (.cons (.refl _) (.cons (.refl _) (.cons (.refl _) (.nil _)))) rfl⟩
     ·replace H := cnd_f c25 H
      refine AW.skip ?_
      exact Exists.intro (y18, y19, t20) ⟨H, WK.at [0, 0, 0] (.cons (.refl _) (.cons (.refl _) (.cons (.refl _) (.nil _)))) rfl⟩
    rintro ⟨y30, y31, t32⟩ H
    replace H : head_Line_j2 x22 y30 y31 = some rv := H
    unfold head_Line_j2 at H
    show AW _ _ _ _ _ _
    obtain ⟨g35, H⟩ := grd_s H
    obtain ⟨x36, e37, H⟩ := lt_s H
    obtain ⟨g39, H⟩ := grd_s H
    obtain ⟨x40, e41, H⟩ := lt_s H
    obtain ⟨g42, H⟩ := grd_s H
    obtain ⟨g43, H⟩ := grd_s H
    refine AW.region_drawR (by kernel_rfl) (by kernel_rfl) ?_
    show AI _ _ _ _ _ 12 (Array.replicate 12 false) _
    refine AI.take (i := 3) rfl rfl (by kernel_rfl) (by kernel_rfl) (by kernel_rfl) (fun _ _ h => h) (mv rfl) ?_
    show AI _ _ _ _ _ _ #[false, false, false, true, false, false, false, false, false, false, false, false] _
    refine AI.take (i := 7) rfl rfl (by kernel_rfl) (by kernel_rfl) (by kernel_rfl) (fun _ _ h => h) (mv rfl) ?_
    show AI _ _ _ _ _ _ #[false, false, false, true, false, false, false, true, false, false, false, false] _
    refine AI.take (i := 8) rfl rfl (by kernel_rfl) (by kernel_rfl) (by kernel_rfl) (fun _ _ h => h) (opS_len_str Tryd.underlying9 rfl) ?_
    show AI _ _ _ _ _ _ #[false, false, false, true, false, false, false, true, true, false, false, false] _
    refine AI.three (i := 0) (j := 1) (l := 5) (by kernel_rfl) rfl rfl rfl rfl rfl rfl ?_ ?_ ?_
    ·
     refine AIO.op rfl (opR_load_pt (i := 1) Tryd.underlying24 rfl rfl rfl rfl) ?_
     show AI _ _ _ _ _ _ #[true, false, false, true, false, false, false, true, true, false, false, false] _
     refine AI.two (i := 1) (j := 5) (by kernel_rfl) rfl rfl rfl rfl ?_ ?_
     ·
      refine AIO.op rfl (opR_buildE (E := Enc.byte) (bytes := 1) (xs := [.const _]) (l := ([32] : List UInt8)) Tryd.underlying24 (by kernel_rfl) rfl rfl (by decide) rfl rfl) ?_
      show AI _ _ _ _ _ _ #[true, true, false, true, false, false, false, true, true, false, false, false] _
      refine AI.two (i := 2) (j := 5) (by kernel_rfl) rfl rfl rfl rfl ?_ ?_
      ·
       refine AIO.opx rfl (g_append (E := Enc.byte) (bytes := 1) 2 Tryd.underlying24 Tryd.underlying24 rfl (by kernel_rfl) rfl rfl rfl rfl g35 e37) ?_
       rintro _ _ ⟨t34, rfl, rfl⟩
       show AI _ _ _ _ _ _ #[true, true, true, true, false, false, false, true, true, false, false, false] _
       refine AI.two (i := 4) (j := 5) (by kernel_rfl) rfl rfl rfl rfl ?_ ?_
       ·
        refine AIO.opx rfl (g_append_str (bytes := 1) 2 Tryd.underlying24 Tryd.underlying9 rfl (by kernel_rfl) rfl rfl rfl rfl g39 e41) ?_
        rintro _ _ ⟨t38, rfl, rfl⟩
        show AI _ _ _ _ _ _ #[true, true, true, true, true, false, false, true, true, false, false, false] _
        refine AI.two (i := 5) (j := 10) (by kernel_rfl) rfl rfl rfl rfl ?_ ?_
        ·
         refine AIO.op rfl (opR_load_pt (i := 0) Tryd.underlying3 rfl rfl rfl rfl) ?_
         show AI _ _ _ _ _ _ #[true, true, true, true, true, true, false, true, true, false, false, false] _
         refine AI.take (i := 6) rfl rfl (by kernel_rfl) (by kernel_rfl) (by kernel_rfl) (fun _ _ h => h) (g_add rfl rfl g42) ?_
         show AI _ _ _ _ _ _ #[true, true, true, true, true, true, true, true, true, false, false, false] _
         refine AI.take (i := 9) rfl rfl (by kernel_rfl) (by kernel_rfl) (by kernel_rfl) (fun _ _ h => h) (g_add rfl rfl g43) ?_
         show AI _ _ _ _ _ _ #[true, true, true, true, true, true, true, true, true, true, false, false] _
         refine AI.one (i := 10) (by kernel_rfl) rfl rfl ?_
         refine AIO.op0 (opR_store_pt (i := 1) (c := slE _ _ _) (by kernel_rfl) rfl rfl rfl rfl (Nat.le_of_ble_eq_true rfl)) ?_
         show AI _ _ _ _ _ _ #[true, true, true, true, true, true, true, true, true, true, true, false] _
         refine AI.one (i := 11) (by kernel_rfl) rfl rfl ?_
         refine AIO.op0 (opR_store_pt (i := 0) (c := .v _) (by kernel_rfl) rfl rfl rfl rfl (Nat.le_of_ble_eq_true rfl)) ?_
         show AI _ _ _ _ _ _ #[true, true, true, true, true, true, true, true, true, true, true, true] _
         refine AI.done rfl ?_
         obtain rfl := Option.some.inj H
         exact ⟨rfl, rfl, t38, Sub.at [0, 0, 0] rfl⟩
        ·
         refine AIO.op0 (opR_store_pt (i := 1) (c := slE _ _ _) (by kernel_rfl) rfl rfl rfl rfl (Nat.le_of_ble_eq_true rfl)) ?_
         show AI _ _ _ _ _ _ #[true, true, true, true, true, false, false, true, true, false, true, false] _
         refine AI.one (i := 5) (by kernel_rfl) rfl rfl ?_
         refine AIO.op rfl (opR_load_pt (i := 0) Tryd.underlying3 rfl rfl rfl rfl) ?_
         show AI _ _ _ _ _ _ #[true, true, true, true, true, true, false, true, true, false, true, false] _
         refine AI.take (i := 6) rfl rfl (by kernel_rfl) (by kernel_rfl) (by kernel_rfl) (fun _ _ h => h) (g_add rfl rfl g42) ?_
         show AI _ _ _ _ _ _ #[true, true, true, true, true, true, true, true, true, false, true, false] _
         refine AI.take (i := 9) rfl rfl (by kernel_rfl) (by kernel_rfl) (by kernel_rfl) (fun _ _ h => h) (g_add rfl rfl g43) ?_
         show AI _ _ _ _ _ _ #[true, true, true, true, true, true, true, true, true, true, true, false] _
         refine AI.one (i := 11) (by kernel_rfl) rfl rfl ?_
         refine AIO.op0 (opR_store_pt (i := 0) (c := .v _) (by kernel_rfl) rfl rfl rfl rfl (Nat.le_of_ble_eq_true rfl)) ?_
         show AI _ _ _ _ _ _ #[true, true, true, true, true, true, true, true, true, true, true, true] _
         refine AI.done rfl ?_
         obtain rfl := Option.some.inj H
         exact ⟨rfl, rfl, t38, Sub.at [0, 0, 0] rfl⟩
       ·
        refine AIO.op rfl (opR_load_pt (i := 0) Tryd.underlying3 rfl rfl rfl rfl) ?_
        show AI _ _ _ _ _ _ #[true, true, true, true, false, true, false, true, true, false, false, false] _
        refine AI.take (i := 6) rfl rfl (by kernel_rfl) (by kernel_rfl) (by kernel_rfl) (fun _ _ h => h) (g_add rfl rfl g42) ?_
        show AI _ _ _ _ _ _ #[true, true, true, true, false, true, true, true, true, false, false, false] _
        refine AI.take (i := 9) rfl rfl (by kernel_rfl) (by kernel_rfl) (by kernel_rfl) (fun _ _ h => h) (g_add rfl rfl g43) ?_
        show AI _ _ _ _ _ _ #[true, true, true, true, false, true, true, true, true, true, false, false] _
        refine AI.one (i := 4) (by kernel_rfl) rfl rfl ?_
        refine AIO.opx rfl (g_append_str (bytes := 1) 2 Tryd.underlying24 Tryd.underlying9 rfl (by kernel_rfl) rfl rfl rfl rfl g39 e41) ?_
        rintro _ _ ⟨t44, rfl, rfl⟩
        show AI _ _ _ _ _ _ #[true, true, true, true, true, true, true, true, true, true, false, false] _
        refine AI.one (i := 10) (by kernel_rfl) rfl rfl ?_
        refine AIO.op0 (opR_store_pt (i := 1) (c := slE _ _ _) (by kernel_rfl) rfl rfl rfl rfl (Nat.le_of_ble_eq_true rfl)) ?_
        show AI _ _ _ _ _ _ #[true, true, true, true, true, true, true, true, true, true, true, false] _
        refine AI.one (i := 11) (by kernel_rfl) rfl rfl ?_
        refine AIO.op0 (opR_store_pt (i := 0) (c := .v _) (by kernel_rfl) rfl rfl rfl rfl (Nat.le_of_ble_eq_true rfl)) ?_
        show AI _ _ _ _ _ _ #[true, true, true, true, true, true, true, true, true, true, true, true] _
        refine AI.done rfl ?_
        obtain rfl := Option.some.inj H
        exact ⟨rfl, rfl, t44, Sub.at [0, 0, 0] rfl⟩
      ·
       refine AIO.op rfl (opR_load_pt (i := 0) Tryd.underlying3 rfl rfl rfl rfl) ?_
       show AI _ _ _ _ _ _ #[true, true, false, true, false, true, false, true, true, false, false, false] _
       refine AI.take (i := 6) rfl rfl (by kernel_rfl) (by kernel_rfl) (by kernel_rfl) (fun _ _ h => h) (g_add rfl rfl g42) ?_
       show AI _ _ _ _ _ _ #[true, true, false, true, false, true, true, true, true, false, false, false] _
       refine AI.take (i := 9) rfl rfl (by kernel_rfl) (by kernel_rfl) (by kernel_rfl) (fun _ _ h => h) (g_add rfl rfl g43) ?_
       show AI _ _ _ _ _ _ #[true, true, false, true, false, true, true, true, true, true, false, false] _
       refine AI.one (i := 2) (by kernel_rfl) rfl rfl ?_
       refine AIO.opx rfl (g_append (E := Enc.byte) (bytes := 1) 2 Tryd.underlying24 Tryd.underlying24 rfl (by kernel_rfl) rfl rfl rfl rfl g35 e37) ?_
       rintro _ _ ⟨t45, rfl, rfl⟩
       show AI _ _ _ _ _ _ #[true, true, true, true, false, true, true, true, true, true, false, false] _
       refine AI.one (i := 4) (by kernel_rfl) rfl rfl ?_
       refine AIO.opx rfl (g_append_str (bytes := 1) 2 Tryd.underlying24 Tryd.underlying9 rfl (by kernel_rfl) rfl rfl rfl rfl g39 e41) ?_
       rintro _ _ ⟨t46, rfl, rfl⟩
       show AI _ _ _ _ _ _ #[true, true, true, true, true, true, true, true, true, true, false, false] _
       refine AI.one (i := 10) (by kernel_rfl) rfl rfl ?_
       refine AIO.op0 (opR_store_pt (i := 1) (c := slE _ _ _) (by kernel_rfl) rfl rfl rfl rfl (Nat.le_of_ble_eq_true rfl)) ?_
       show AI _ _ _ _ _ _ #[true, true, true, true, true, true, true, true, true, true, true, false] _
       refine AI.one (i := 11) (by kernel_rfl) rfl rfl ?_
       refine AIO.op0 (opR_store_pt (i := 0) (c := .v _) (by kernel_rfl) rfl rfl rfl rfl (Nat.le_of_ble_eq_true rfl)) ?_
       show AI _ _ _ _ _ _ #[true, true, true, true, true, true, true, true, true, true, true, true] _
       refine AI.done rfl ?_
       obtain rfl := Option.some.inj H
       exact ⟨rfl, rfl, t46, Sub.at [0, 0, 0] rfl⟩
     ·
      refine AIO.op rfl (opR_load_pt (i := 0) Tryd.underlying3 rfl rfl rfl rfl) ?_
      show AI _ _ _ _ _ _ #[true, false, false, true, false, true, false, true, true, false, false, false] _
      refine AI.take (i := 6) rfl rfl (by kernel_rfl) (by kernel_rfl) (by kernel_rfl) (fun _ _ h => h) (g_add rfl rfl g42) ?_
      show AI _ _ _ _ _ _ #[true, false, false, true, false, true, true, true, true, false, false, false] _
      refine AI.take (i := 9) rfl rfl (by kernel_rfl) (by kernel_rfl) (by kernel_rfl) (fun _ _ h => h) (g_add rfl rfl g43) ?_
      show AI _ _ _ _ _ _ #[true, false, false, true, false, true, true, true, true, true, false, false] _
      refine AI.one (i := 1) (by kernel_rfl) rfl rfl ?_
      refine AIO.op rfl (opR_buildE (E := Enc.byte) (bytes := 1) (xs := [.const _]) (l := ([32] : List UInt8)) Tryd.underlying24 (by kernel_rfl) rfl rfl (by decide) rfl rfl) ?_
      show AI _ _ _ _ _ _ #[true, true, false, true, false, true, true, true, true, true, false, false] _
      refine AI.one (i := 2) (by kernel_rfl) rfl rfl ?_
      refine AIO.opx rfl (g_append (E := Enc.byte) (bytes := 1) 2 Tryd.underlying24 Tryd.underlying24 rfl (by kernel_rfl) rfl rfl rfl rfl g35 e37) ?_
      rintro _ _ ⟨t47, rfl, rfl⟩
      show AI _ _ _ _ _ _ #[true, true, true, true, false, true, true, true, true, true, false, false] _
      refine AI.one (i := 4) (by kernel_rfl) rfl rfl ?_
      refine AIO.opx rfl (g_append_str (bytes := 1) 2 Tryd.underlying24 Tryd.underlying9 rfl (by kernel_rfl) rfl rfl rfl rfl g39 e41) ?_
      rintro _ _ ⟨t48, rfl, rfl⟩
      show AI _ _ _ _ _ _ #[true, true, true, true, true, true, true, true, true, true, false, false] _
      refine AI.one (i := 10) (by kernel_rfl) rfl rfl ?_
      refine AIO.op0 (opR_store_pt (i := 1) (c := slE _ _ _) (by kernel_rfl) rfl rfl rfl rfl (Nat.le_of_ble_eq_true rfl)) ?_
      show AI _ _ _ _ _ _ #[true, true, true, true, true, true, true, true, true, true, true, false] _
      refine AI.one (i := 11) (by kernel_rfl) rfl rfl ?_
      refine AIO.op0 (opR_store_pt (i := 0) (c := .v _) (by kernel_rfl) rfl rfl rfl rfl (Nat.le_of_ble_eq_true rfl)) ?_
      show AI _ _ _ _ _ _ #[true, true, true, true, true, true, true, true, true, true, true, true] _
      refine AI.done rfl ?_
      obtain rfl := Option.some.inj H
      exact ⟨rfl, rfl, t48, Sub.at [0, 0, 0] rfl⟩
    ·
     refine AIO.op rfl (opR_buildE (E := Enc.byte) (bytes := 1) (xs := [.const _]) (l := ([32] : List UInt8)) Tryd.underlying24 (by kernel_rfl) rfl rfl (by decide) rfl rfl) ?_
     show AI _ _ _ _ _ _ #[false, true, false, true, false, false, false, true, true, false, false, false] _
     refine AI.two (i := 0) (j := 5) (by kernel_rfl) rfl rfl rfl rfl ?_ ?_
     ·
      refine AIO.op rfl (opR_load_pt (i := 1) Tryd.underlying24 rfl rfl rfl rfl) ?_
      show AI _ _ _ _ _ _ #[true, true, false, true, false, false, false, true, true, false, false, false] _
      refine AI.two (i := 2) (j := 5) (by kernel_rfl) rfl rfl rfl rfl ?_ ?_
      ·
       refine AIO.opx rfl (g_append (E := Enc.byte) (bytes := 1) 2 Tryd.underlying24 Tryd.underlying24 rfl (by kernel_rfl) rfl rfl rfl rfl g35 e37) ?_
       rintro _ _ ⟨t49, rfl, rfl⟩
       show AI _ _ _ _ _ _ #[true, true, true, true, false, false, false, true, true, false, false, false] _
       refine AI.two (i := 4) (j := 5) (by kernel_rfl) rfl rfl rfl rfl ?_ ?_
       ·
        refine AIO.opx rfl (g_append_str (bytes := 1) 2 Tryd.underlying24 Tryd.underlying9 rfl (by kernel_rfl) rfl rfl rfl rfl g39 e41) ?_
        rintro _ _ ⟨t50, rfl, rfl⟩
        show AI _ _ _ _ _ _ #[true, true, true, true, true, false, false, true, true, false, false, false] _
        refine AI.two (i := 5) (j := 10) (by kernel_rfl) rfl rfl rfl rfl ?_ ?_
        ·
         refine AIO.op rfl (opR_load_pt (i := 0) Tryd.underlying3 rfl rfl rfl rfl) ?_
         show AI _ _ _ _ _ _ #[true, true, true, true, true, true, false, true, true, false, false, false] _
         refine AI.take (i := 6) rfl rfl (by kernel_rfl) (by kernel_rfl) (by kernel_rfl) (fun _ _ h => h) (g_add rfl rfl g42) ?_
         show AI _ _ _ _ _ _ #[true, true, true, true, true, true, true, true, true, false, false, false] _
         refine AI.take (i := 9) rfl rfl (by kernel_rfl) (by kernel_rfl) (by kernel_rfl) (fun _ _ h => h) (g_add rfl rfl g43) ?_
         show AI _ _ _ _ _ _ #[true, true, true, true, true, true, true, true, true, true, false, false] _
         refine AI.one (i := 10) (by kernel_rfl) rfl rfl ?_
         refine AIO.op0 (opR_store_pt (i := 1) (c := slE _ _ _) (by kernel_rfl) rfl rfl rfl rfl (Nat.le_of_ble_eq_true rfl)) ?_
         show AI _ _ _ _ _ _ #[true, true, true, true, true, true, true, true, true, true, true, false] _
         refine AI.one (i := 11) (by kernel_rfl) rfl rfl ?_
         refine AIO.op0 (opR_store_pt (i := 0) (c := .v _) (by kernel_rfl) rfl rfl rfl rfl (Nat.le_of_ble_eq_true rfl)) ?_
         show AI _ _ _ _ _ _ #[true, true, true, true, true, true, true, true, true, true, true, true] _
         refine AI.done rfl ?_
         obtain rfl := Option.some.inj H
         exact ⟨rfl, rfl, t50, Sub.at [0, 0, 0] rfl⟩
        ·
         refine AIO.op0 (opR_store_pt (i := 1) (c := slE _ _ _) (by kernel_rfl) rfl rfl rfl rfl (Nat.le_of_ble_eq_true rfl)) ?_
         show AI _ _ _ _ _ _ #[true, true, true, true, true, false, false, true, true, false, true, false] _
         refine AI.one (i := 5) (by kernel_rfl) rfl rfl ?_
         refine AIO.op rfl (opR_load_pt (i := 0) Tryd.underlying3 rfl rfl rfl rfl) ?_
         show AI _ _ _ _ _ _ #[true, true, true, true, true, true, false, true, true, false, true, false] _
         refine AI.take (i := 6) rfl rfl (by kernel_rfl) (by kernel_rfl) (by kernel_rfl) (fun _ _ h => h) (g_add rfl rfl g42) ?_
         show AI _ _ _ _ _ _ #[true, true, true, true, true, true, true, true, true, false, true, false] _
         refine AI.take (i := 9) rfl rfl (by kernel_rfl) (by kernel_rfl) (by kernel_rfl) (fun _ _ h => h) (g_add rfl rfl g43) ?_
         show AI _ _ _ _ _ _ #[true, true, true, true, true, true, true, true, true, true, true, false] _
         refine AI.one (i := 11) (by kernel_rfl) rfl rfl ?_
         refine AIO.op0 (opR_store_pt (i := 0) (c := .v _) (by kernel_rfl) rfl rfl rfl rfl (Nat.le_of_ble_eq_true rfl)) ?_
         show AI _ _ _ _ _ _ #[true, true, true, true, true, true, true, true, true, true, true, true] _
         refine AI.done rfl ?_
         obtain rfl := Option.some.inj H
         exact ⟨rfl, rfl, t50, Sub.at [0, 0, 0] rfl⟩
       ·
        refine AIO.op rfl (opR_load_pt (i := 0) Tryd.underlying3 rfl rfl rfl rfl) ?_
        show AI _ _ _ _ _ _ #[true, true, true, true, false, true, false, true, true, false, false, false] _
        refine AI.take (i := 6) rfl rfl (by kernel_rfl) (by kernel_rfl) (by kernel_rfl) (fun _ _ h => h) (g_add rfl rfl g42) ?_
        show AI _ _ _ _ _ _ #[true, true, true, true, false, true, true, true, true, false, false, false] _
        refine AI.take (i := 9) rfl rfl (by kernel_rfl) (by kernel_rfl) (by kernel_rfl) (fun _ _ h => h) (g_add rfl rfl g43) ?_
        show AI _ _ _ _ _ _ #[true, true, true, true, false, true, true, true, true, true, false, false] _
        refine AI.one (i := 4) (by kernel_rfl) rfl rfl ?_
        refine AIO.opx rfl (g_append_str (bytes := 1) 2 Tryd.underlying24 Tryd.underlying9 rfl (by kernel_rfl) rfl rfl rfl rfl g39 e41) ?_
        rintro _ _ ⟨t51, rfl, rfl⟩
        show AI _ _ _ _ _ _ #[true, true, true, true, true, true, true, true, true, true, false, false] _
        refine AI.one (i := 10) (by kernel_rfl) rfl rfl ?_
        refine AIO.op0 (opR_store_pt (i := 1) (c := slE _ _ _) (by kernel_rfl) rfl rfl rfl rfl (Nat.le_of_ble_eq_true rfl)) ?_
        show AI _ _ _ _ _ _ #[true, true, true, true, true, true, true, true, true, true, true, false] _
        refine AI.one (i := 11) (by kernel_rfl) rfl rfl ?_
        refine AIO.op0 (opR_store_pt (i := 0) (c := .v _) (by kernel_rfl) rfl rfl rfl rfl (Nat.le_of_ble_eq_true rfl)) ?_
        show AI _ _ _ _ _ _ #[true, true, true, true, true, true, true, true, true, true, true, true] _
        refine AI.done rfl ?_
        obtain rfl := Option.some.inj H
        exact ⟨rfl, rfl, t51, Sub.at [0, 0, 0] rfl⟩
      ·
       refine AIO.op rfl (opR_load_pt (i := 0) Tryd.underlying3 rfl rfl rfl rfl) ?_
       show AI _ _ _ _ _ _ #[true, true, false, true, false, true, false, true, true, false, false, false] _
       refine AI.take (i := 6) rfl rfl (by kernel_rfl) (by kernel_rfl) (by kernel_rfl) (fun _ _ h => h) (g_add rfl rfl g42) ?_
       show AI _ _ _ _ _ _ #[true, true, false, true, false, true, true, true, true, false, false, false] _
       refine AI.take (i := 9) rfl rfl (by kernel_rfl) (by kernel_rfl) (by kernel_rfl) (fun _ _ h => h) (g_add rfl rfl g43) ?_
       show AI _ _ _ _ _ _ #[true, true, false, true, false, true, true, true, true, true, false, false] _
       refine AI.one (i := 2) (by kernel_rfl) rfl rfl ?_
       refine AIO.opx rfl (g_append (E := Enc.byte) (bytes := 1) 2 Tryd.underlying24 Tryd.underlying24 rfl (by kernel_rfl) rfl rfl rfl rfl g35 e37) ?_
       rintro _ _ ⟨t52, rfl, rfl⟩
       show AI _ _ _ _ _ _ #[true, true, true, true, false, true, true, true, true, true, false, false] _
       refine AI.one (i := 4) (by kernel_rfl) rfl rfl ?_
       refine AIO.opx rfl (g_append_str (bytes := 1) 2 Tryd.underlying24 Tryd.underlying9 rfl (by kernel_rfl) rfl rfl rfl rfl g39 e41) ?_
       rintro _ _ ⟨t53, rfl, rfl⟩
       show AI _ _ _ _ _ _ #[true, true, true, true, true, true, true, true, true, true, false, false] _
       refine AI.one (i := 10) (by kernel_rfl) rfl rfl ?_
       refine AIO.op0 (opR_store_pt (i := 1) (c := slE _ _ _) (by kernel_rfl) rfl rfl rfl rfl (Nat.le_of_ble_eq_true rfl)) ?_
       show AI _ _ _ _ _ _ #[true, true, true, true, true, true, true, true, true, true, true, false] _
       refine AI.one (i := 11) (by kernel_rfl) rfl rfl ?_
       refine AIO.op0 (opR_store_pt (i := 0) (c := .v _) (by kernel_rfl) rfl rfl rfl rfl (Nat.le_of_ble_eq_true rfl)) ?_
       show AI _ _ _ _ _ _ #[true, true, true, true, true, true, true, true, true, true, true, true] _
       refine AI.done rfl ?_
       obtain rfl := Option.some.inj H
       exact ⟨rfl, rfl, t53, Sub.at [0, 0, 0] rfl⟩
     ·
      refine AIO.op rfl (opR_load_pt (i := 0) Tryd.underlying3 rfl rfl rfl rfl) ?_
      show AI _ _ _ _ _ _ #[false, true, false, true, false, true, false, true, true, false, false, false] _
      refine AI.take (i := 6) rfl rfl (by kernel_rfl) (by kernel_rfl) (by kernel_rfl) (fun _ _ h => h) (g_add rfl rfl g42) ?_
      show AI _ _ _ _ _ _ #[false, true, false, true, false, true, true, true, true, false, false, false] _
      refine AI.take (i := 9) rfl rfl (by kernel_rfl) (by kernel_rfl) (by kernel_rfl) (fun _ _ h => h) (g_add rfl rfl g43) ?_
      show AI _ _ _ _ _ _ #[false, true, false, true, false, true, true, true, true, true, false, false] _
      refine AI.one (i := 0) (by kernel_rfl) rfl rfl ?_
      refine AIO.op rfl (opR_load_pt (i := 1) Tryd.underlying24 rfl rfl rfl rfl) ?_
      show AI _ _ _ _ _ _ #[true, true, false, true, false, true, true, true, true, true, false, false] _
      refine AI.one (i := 2) (by kernel_rfl) rfl rfl ?_
      refine AIO.opx rfl (g_append (E := Enc.byte) (bytes := 1) 2 Tryd.underlying24 Tryd.underlying24 rfl (by kernel_rfl) rfl rfl rfl rfl g35 e37) ?_
      rintro _ _ ⟨t54, rfl, rfl⟩
      show AI _ _ _ _ _ _ #[true, true, true, true, false, true, true, true, true, true, false, false] _
      refine AI.one (i := 4) (by kernel_rfl) rfl rfl ?_
      refine AIO.opx rfl (g_append_str (bytes := 1) 2 Tryd.underlying24 Tryd.underlying9 rfl (by kernel_rfl) rfl rfl rfl rfl g39 e41) ?_
      rintro _ _ ⟨t55, rfl, rfl⟩
      show AI _ _ _ _ _ _ #[true, true, true, true, true, true, true, true, true, true, false, false] _
      refine AI.one (i := 10) (by kernel_rfl) rfl rfl ?_
      refine AIO.op0 (opR_store_pt (i := 1) (c := slE _ _ _) (by kernel_rfl) rfl rfl rfl rfl (Nat.le_of_ble_eq_true rfl)) ?_
      show AI _ _ _ _ _ _ #[true, true, true, true, true, true, true, true, true, true, true, false] _
      refine AI.one (i := 11) (by kernel_rfl) rfl rfl ?_
      refine AIO.op0 (opR_store_pt (i := 0) (c := .v _) (by kernel_rfl) rfl rfl rfl rfl (Nat.le_of_ble_eq_true rfl)) ?_
      show AI _ _ _ _ _ _ #[true, true, true, true, true, true, true, true, true, true, true, true] _
      refine AI.done rfl ?_
      obtain rfl := Option.some.inj H
      exact ⟨rfl, rfl, t55, Sub.at [0, 0, 0] rfl⟩
    ·
     refine AIO.op rfl (opR_load_pt (i := 0) Tryd.underlying3 rfl rfl rfl rfl) ?_
     show AI _ _ _ _ _ _ #[false, false, false, true, false, true, false, true, true, false, false, false] _
     refine AI.take (i := 6) rfl rfl (by kernel_rfl) (by kernel_rfl) (by kernel_rfl) (fun _ _ h => h) (g_add rfl rfl g42) ?_
     show AI _ _ _ _ _ _ #[false, false, false, true, false, true, true, true, true, false, false, false] _
     refine AI.take (i := 9) rfl rfl (by kernel_rfl) (by kernel_rfl) (by kernel_rfl) (fun _ _ h => h) (g_add rfl rfl g43) ?_
     show AI _ _ _ _ _ _ #[false, false, false, true, false, true, true, true, true, true, false, false] _
     refine AI.two (i := 0) (j := 1) (by kernel_rfl) rfl rfl rfl rfl ?_ ?_
     ·
      refine AIO.op rfl (opR_load_pt (i := 1) Tryd.underlying24 rfl rfl rfl rfl) ?_
      show AI _ _ _ _ _ _ #[true, false, false, true, false, true, true, true, true, true, false, false] _
      refine AI.one (i := 1) (by kernel_rfl) rfl rfl ?_
      refine AIO.op rfl (opR_buildE (E := Enc.byte) (bytes := 1) (xs := [.const _]) (l := ([32] : List UInt8)) Tryd.underlying24 (by kernel_rfl) rfl rfl (by decide) rfl rfl) ?_
      show AI _ _ _ _ _ _ #[true, true, false, true, false, true, true, true, true, true, false, false] _
      refine AI.one (i := 2) (by kernel_rfl) rfl rfl ?_
      refine AIO.opx rfl (g_append (E := Enc.byte) (bytes := 1) 2 Tryd.underlying24 Tryd.underlying24 rfl (by kernel_rfl) rfl rfl rfl rfl g35 e37) ?_
      rintro _ _ ⟨t56, rfl, rfl⟩
      show AI _ _ _ _ _ _ #[true, true, true, true, false, true, true, true, true, true, false, false] _
      refine AI.one (i := 4) (by kernel_rfl) rfl rfl ?_
      refine AIO.opx rfl (g_append_str (bytes := 1) 2 Tryd.underlying24 Tryd.underlying9 rfl (by kernel_rfl) rfl rfl rfl rfl g39 e41) ?_
      rintro _ _ ⟨t57, rfl, rfl⟩
      show AI _ _ _ _ _ _ #[true, true, true, true, true, true, true, true, true, true, false, false] _
      refine AI.one (i := 10) (by kernel_rfl) rfl rfl ?_
      refine AIO.op0 (opR_store_pt (i := 1) (c := slE _ _ _) (by kernel_rfl) rfl rfl rfl rfl (Nat.le_of_ble_eq_true rfl)) ?_
      show AI _ _ _ _ _ _ #[true, true, true, true, true, true, true, true, true, true, true, false] _
      refine AI.one (i := 11) (by kernel_rfl) rfl rfl ?_
      refine AIO.op0 (opR_store_pt (i := 0) (c := .v _) (by kernel_rfl) rfl rfl rfl rfl (Nat.le_of_ble_eq_true rfl)) ?_
      show AI _ _ _ _ _ _ #[true, true, true, true, true, true, true, true, true, true, true, true] _
      refine AI.done rfl ?_
      obtain rfl := Option.some.inj H
      exact ⟨rfl, rfl, t57, Sub.at [0, 0, 0] rfl⟩
     ·
      refine AIO.op rfl (opR_buildE (E := Enc.byte) (bytes := 1) (xs := [.const _]) (l := ([32] : List UInt8)) Tryd.underlying24 (by kernel_rfl) rfl rfl (by decide) rfl rfl) ?_
      show AI _ _ _ _ _ _ #[false, true, false, true, false, true, true, true, true, true, false, false] _
      refine AI.one (i := 0) (by kernel_rfl) rfl rfl ?_
      refine AIO.op rfl (opR_load_pt (i := 1) Tryd.underlying24 rfl rfl rfl rfl) ?_
      show AI _ _ _ _ _ _ #[true, true, false, true, false, true, true, true, true, true, false, false] _
      refine AI.one (i := 2) (by kernel_rfl) rfl rfl ?_
      refine AIO.opx rfl (g_append (E := Enc.byte) (bytes := 1) 2 Tryd.underlying24 Tryd.underlying24 rfl (by kernel_rfl) rfl rfl rfl rfl g35 e37) ?_
      rintro _ _ ⟨t58, rfl, rfl⟩
      show AI _ _ _ _ _ _ #[true, true, true, true, false, true, true, true, true, true, false, false] _
      refine AI.one (i := 4) (by kernel_rfl) rfl rfl ?_
      refine AIO.opx rfl (g_append_str (bytes := 1) 2 Tryd.underlying24 Tryd.underlying9 rfl (by kernel_rfl) rfl rfl rfl rfl g39 e41) ?_
      rintro _ _ ⟨t59, rfl, rfl⟩
      show AI _ _ _ _ _ _ #[true, true, true, true, true, true, true, true, true, true, false, false] _
      refine AI.one (i := 10) (by kernel_rfl) rfl rfl ?_
      refine AIO.op0 (opR_store_pt (i := 1) (c := slE _ _ _) (by kernel_rfl) rfl rfl rfl rfl (Nat.le_of_ble_eq_true rfl)) ?_
      show AI _ _ _ _ _ _ #[true, true, true, true, true, true, true, true, true, true, true, false] _
      refine AI.one (i := 11) (by kernel_rfl) rfl rfl ?_
      refine AIO.op0 (opR_store_pt (i := 0) (c := .v _) (by kernel_rfl) rfl rfl rfl rfl (Nat.le_of_ble_eq_true rfl)) ?_
      show AI _ _ _ _ _ _ #[true, true, true, true, true, true, true, true, true, true, true, true] _
      refine AI.done rfl ?_
      obtain rfl := Option.some.inj H
      exact ⟨rfl, rfl, t59, Sub.at [0, 0, 0] rfl⟩
   rintro o64 t63
   exact Exists.intro (o64, x60.2, t63) ⟨H, WK.at [3, 3, 0] (.cons (.refl _) (.nil _)) rfl⟩
  rintro ⟨t65, y66, t67⟩ H
  replace H : head_Line_j1 y66 = some (r3, r4) := H
  unfold head_Line_j1 at H
  show AW _ _ _ _ _ _
  refine AW.seq ?_
  obtain ⟨g70, H⟩ := grd_s H
  obtain ⟨x71, e72, H⟩ := lt_s H
  refine AW.region ?_
  show AR _ _ _ _ _ [0, 1, 2, 3] _
  refine sR rfl rfl rfl (opR_load_pt (i := 0) Tryd.underlying24 rfl rfl rfl rfl) ?_
  refine sX rfl rfl rfl (g_append_str (bytes := 1) 1 Tryd.underlying24 Tryd.underlying9 rfl (by kernel_rfl) rfl rfl rfl rfl g70 e72) ?_
  rintro _ _ ⟨t69, rfl, rfl⟩
  refine sS rfl rfl rfl (opS_assign (av := slE _ _ _) rfl) ?_
  refine sS rfl rfl rfl (asg rfl) ?_
  refine AR.nil ?_
  show AW _ _ _ _ _ _
  refine AW.ret ?_
  obtain ⟨rfl, rfl⟩ := res2 H
  exact Exists.intro _ (And.intro (Unmark.at 2 rfl (.nil _)) (Exists.intro _ (Exists.intro _ ⟨ResV.twoW rfl (.tok _ _ _) (.refl _), Sub.at [] rfl, rfl, rfl⟩)))
end Go.Proofs.YtiahdbdkjjmfiaaDoor
namespace Go.Pv
def spB (x : Nat) : Bool := (decide ((x : Int) = 32) || decide ((x : Int) = 13)) || decide ((x : Int) = 10)
def head_spC (F : Nat) (a1 : Int) : Option Bool :=
some (((decide (a1 = 32)) || (decide (a1 = 13))) || (decide (a1 = 10)))
def head_coded (F : Nat) (a1 : List UInt8) : Option ((List UInt8) × Bool) :=
lt (Go.Lib.trimPrefix a1 ([61, 63, 117, 116, 102, 45, 56, 63, 66, 63] : List UInt8), Go.Lib.hasPrefix a1 ([61, 63, 117, 116, 102, 45, 56, 63, 66, 63] : List UInt8)) fun x4 =>
bif !x4.2 then
  some (([] : List UInt8), false)
else
  grd (okS x4.1.length) <|
  lt (Go.Lib.trimSuffix x4.1 ([63, 61] : List UInt8), Go.Lib.hasSuffix x4.1 ([63, 61] : List UInt8)) fun x8 =>
  bnd2 (b64_Bytes F x8.1) fun x10 x11 =>
  some (x10, x8.2 && (decide (x11 = 0)))
def head_value_j1 (y29 : List UInt8) : Option ((List UInt8)) :=
grd (okW y29 []) <|
some y29
def head_value_B1 (F : Nat) (a1 : List (List UInt8)) (rec10 : (Int × (List UInt8)) → Option ((List UInt8))) (y6 : Int) (y8 : List UInt8) : Option ((List UInt8)) :=
bif decide (y6 < (a1.length : Int)) then
  grd (okAt y6 a1.length) <|
  lt (at_ a1 y6) fun x14 =>
  bnd2 (head_coded F x14) fun x16 x17 =>
  bif !x17 then
    grd (okJoin a1 ([32] : List UInt8)) <|
    lt (Go.Av.Str.join ([32] : List UInt8) a1) fun x21 =>
    some x21
  else
    grd (okW y8 x16) <|
    lt (y8 ++ x16) fun x24 =>
    grd (okI (y6 + 1)) <|
    rec10 (y6 + 1, x24)
else
  head_value_j1 y8
def head_value_L1 (F : Nat) (a1 : List (List UInt8)) (n : Nat) : (Int × (List UInt8)) → Option ((List UInt8)) :=
  loop (fun rec x => head_value_B1 F a1 rec x.1 x.2) n
def head_value (F : Nat) (a1 : List (List UInt8)) : Option ((List UInt8)) :=
head_value_L1 F a1 F (0, [])
def head_Read (F : Nat) (a1 : List UInt8) : Option ((List UInt8) × (List UInt8) × Int) :=
grd (okS a1.length) <|
lt (Go.Lib.cut a1 ([58] : List UInt8)) fun x8 =>
grd (okS x8.2.1.length) <|
lt (fieldsP spB x8.2.1) fun x11 =>
bnd (head_value F x11) fun x13 =>
bnd2 (head_Line F x8.1 x13) fun x16 x17 =>
lt (decide (x16 = a1)) fun x21 =>
bif ((!x8.2.2) || (!decide (x17 = 0))) || (!x21) then
  some (([] : List UInt8), ([] : List UInt8), 2)
else
  some (x8.1, x13, 0)
end Go.Pv
namespace Go.Proofs.YtiahdbdkjjmfiaaDoor
open Go.RowKit Go.Av Go.Pv
theorem en11_headb : ∀ (args : Array Value) (w : World), (callFunc 11 args).run Tryd.prog w = .ok (.enter 11 args) w := fun _ _ => by kernel_rfl
theorem en28_headb : ∀ (args : Array Value) (w : World), (callFunc 28 args).run Tryd.prog w = .ok (.enter 28 args) w := fun _ _ => by kernel_rfl
theorem en29_headb : ∀ (args : Array Value) (w : World), (callFunc 29 args).run Tryd.prog w = .ok (.enter 29 args) w := fun _ _ => by kernel_rfl
theorem en30_headb : ∀ (args : Array Value) (w : World), (callFunc 30 args).run Tryd.prog w = .ok (.enter 30 args) w := fun _ _ => by kernel_rfl
theorem en31_headb : ∀ (args : Array Value) (w : World), (callFunc 31 args).run Tryd.prog w = .ok (.enter 31 args) w := fun _ _ => by kernel_rfl
theorem en32_headb : ∀ (args : Array Value) (w : World), (callFunc 32 args).run Tryd.prog w = .ok (.enter 32 args) w := fun _ _ => by kernel_rfl
theorem en56_headb : ∀ (args : Array Value) (w : World), (callFunc 56 args).run Tryd.prog w = .ok (.enter 56 args) w := fun _ _ => by kernel_rfl
theorem en57_headb : ∀ (args : Array Value) (w : World), (callFunc 57 args).run Tryd.prog w = .ok (.enter 57 args) w := fun _ _ => by kernel_rfl
theorem en58_headb : ∀ (args : Array Value) (w : World), (callFunc 58 args).run Tryd.prog w = .ok (.enter 58 args) w := fun _ _ => by kernel_rfl
theorem en59_headb : ∀ (args : Array Value) (w : World), (callFunc 59 args).run Tryd.prog w = .ok (.enter 59 args) w := fun _ _ => by kernel_rfl
theorem en78_headb : ∀ (args : Array Value) (w : World), (callFunc 78 args).run Tryd.prog w = .ok (.enter 78 args) w := fun _ _ => by kernel_rfl
theorem en79_headb : ∀ (args : Array Value) (w : World), (callFunc 79 args).run Tryd.prog w = .ok (.enter 79 args) w := fun _ _ => by kernel_rfl
theorem en80_headb : ∀ (args : Array Value) (w : World), (callFunc 80 args).run Tryd.prog w = .ok (.enter 80 args) w := fun _ _ => by kernel_rfl
set_option maxRecDepth 100000 in
set_option maxHeartbeats 1000000 in
theorem w_head_spC (F : Nat) (a1 : Int) (r2 : Bool) (H : head_spC F a1 = some r2) : ACalls Tryd.prog 30 [.v (.int .i32 a1)] [] (Ret (B r2) []) := by
 unfold head_spC at H
 refine ACalls.of_body Tryd.func30 rfl rfl ?_
 show AW _ _ 13 _ _ _
 refine AW.seq ?_
 refine AW.region ?_
 show AR _ _ _ _ _ [0] _
 refine sS rfl rfl rfl (asg rfl) ?_
 refine AR.nil ?_
 show AW _ _ _ _ _ _
 refine AW.seq ?_
 refine AW.region ?_
 show AR _ _ _ _ _ [0, 1, 2, 3, 4, 5, 6, 7, 8, 9, 10] _
 refine sS rfl rfl rfl (mv rfl) ?_
 refine sS rfl rfl rfl (opS_eqi rfl rfl) ?_
 refine sS rfl rfl rfl (mv rfl) ?_
 refine AR.meet (l := [6, 7, 8, 9, 10]) 8 (B ((decide (a1 = 32)) || (decide (a1 = 13)))) (fun K => ?_) ?_
 ·rcases Bool.eq_false_or_eq_true (decide (a1 = 32)) with h3 | h3
  ·
   refine gF h3 rfl rfl rfl rfl rfl ?_
   refine gF h3 rfl rfl rfl rfl rfl ?_
   refine sS rfl rfl rfl (opS_pick_t (av := .v _) rfl h3 rfl) ?_
   exact K _ 2 _ (B_congr (or_t h3)) rfl rfl
  ·
   refine gT h3 rfl rfl rfl rfl rfl rfl (AO.ops rfl rfl (mv rfl) ?_)
   refine gT h3 rfl rfl rfl rfl rfl rfl (AO.ops rfl rfl (opS_eqi rfl rfl) ?_)
   refine sS rfl rfl rfl (opS_pick_f (av := .v _) rfl h3 rfl) ?_
   exact K _ 2 _ (B_congr (or_f h3)) rfl rfl
 refine sS rfl rfl rfl (mv rfl) ?_
 refine AR.meet (l := [10]) 12 (B (((decide (a1 = 32)) || (decide (a1 = 13))) || (decide (a1 = 10)))) (fun K => ?_) ?_
 ·rcases Bool.eq_false_or_eq_true ((decide (a1 = 32)) || (decide (a1 = 13))) with h4 | h4
  ·
   refine gF h4 rfl rfl rfl rfl rfl ?_
   refine gF h4 rfl rfl rfl rfl rfl ?_
   refine sS rfl rfl rfl (opS_pick_t (av := .v _) rfl h4 rfl) ?_
   exact K _ 2 _ (B_congr (or_t h4)) rfl rfl
  ·
   refine gT h4 rfl rfl rfl rfl rfl rfl (AO.ops rfl rfl (mv rfl) ?_)
   refine gT h4 rfl rfl rfl rfl rfl rfl (AO.ops rfl rfl (opS_eqi rfl rfl) ?_)
   refine sS rfl rfl rfl (opS_pick_f (av := .v _) rfl h4 rfl) ?_
   exact K _ 2 _ (B_congr (or_f h4)) rfl rfl
 refine sS rfl rfl rfl (asg rfl) ?_
 refine AR.nil ?_
 show AW _ _ _ _ _ _
 refine AW.ret ?_
 obtain rfl := Option.some.inj H
 exact And.intro rfl (Exists.intro _ (Exists.intro _ ⟨ResV.oneW rfl (.refl _), Sub.at [] rfl, rfl, rfl⟩))
theorem head_sp (x : Nat) (hx : x ≤ 1114111) : ACalls Tryd.prog 30 [.v (.int .i32 (x : Int))] [] (Ret (.v (.bool (spB x))) []) := w_head_spC 0 (x : Int) (spB x) rfl
set_option maxRecDepth 100000 in
set_option maxHeartbeats 1000000 in
theorem w_head_coded (F : Nat) (a1 : List UInt8) (r2 : List UInt8) (r3 : Bool) (H : head_coded F a1 = some (r2, r3)) : ACalls Tryd.prog 56 [S a1] [] (Ret (.tup [S r2, B r3]) []) := by
 unfold head_coded at H
 refine ACalls.of_body Tryd.func56 rfl rfl ?_
 show AW _ _ 32 _ _ _
 refine AW.seq ?_
 refine AW.region ?_
 show AR _ _ _ _ _ [0, 1] _
 refine sS rfl rfl rfl (asg rfl) ?_
 refine sS rfl rfl rfl (asg rfl) ?_
 refine AR.nil ?_
 show AW _ _ _ _ _ _
 refine AW.seq ?_
 obtain ⟨x4, e5, H⟩ := lt_s H
 refine AW.region ?_
 show AR _ _ _ _ _ [0, 1, 2, 3, 4, 5, 6] _
 refine sS rfl rfl rfl (mv rfl) ?_
 refine AR.run rfl rfl (AO.callp rfl en78_headb rfl (show ACalls _ _ _ [] (Ret (.tup [S x4.1, B x4.2]) []) from by subst e5; exact lib_CutPrefix a1 ([61, 63, 117, 116, 102, 45, 56, 63, 66, 63] : List UInt8)) ?_)
 refine sS rfl rfl rfl (opS_move (av := .tup _) rfl) ?_
 refine sS rfl rfl rfl (opS_extract (av := .v _) rfl rfl) ?_
 refine sS rfl rfl rfl (opS_extract (av := .v _) rfl rfl) ?_
 refine sS rfl rfl rfl (asg rfl) ?_
 refine sS rfl rfl rfl (asg rfl) ?_
 refine AR.nil ?_
 show AW _ _ _ _ _ _
 refine AW.seq ?_
 refine AW.seq ?_
 refine AW.region ?_
 show AR _ _ _ _ _ [0, 1] _
 refine sS rfl rfl rfl (mv rfl) ?_
 refine sS rfl rfl rfl (opS_not rfl) ?_
 refine AR.nil ?_
 show AW _ _ _ _ _ _
 refine AW.cond rfl (fun c6 => ?_) (fun c6 => ?_)
 ·replace H := cnd_t c6 H
  refine AW.seq ?_
  refine AW.region ?_
  show AR _ _ _ _ _ [0, 1] _
  refine sS rfl rfl rfl (asg rfl) ?_
  refine sS rfl rfl rfl (asg rfl) ?_
  refine AR.nil ?_
  show AW _ _ _ _ _ _
  refine AW.ret ?_
  obtain ⟨rfl, rfl⟩ := res2 H
  exact And.intro rfl (Exists.intro _ (Exists.intro _ ⟨ResV.twoW rfl (.refl _) (.refl _), Sub.at [] rfl, rfl, rfl⟩))
 ·replace H := cnd_f c6 H
  refine AW.skip ?_
  show AW _ _ _ _ _ _
  refine AW.seq ?_
  obtain ⟨g7, H⟩ := grd_s H
  obtain ⟨x8, e9, H⟩ := lt_s H
  refine AW.region ?_
  show AR _ _ _ _ _ [0, 1, 2, 3, 4, 5, 6] _
  refine sS rfl rfl rfl (mv rfl) ?_
  refine AR.run rfl rfl (AO.callp rfl en79_headb rfl (show ACalls _ _ _ [] (Ret (.tup [S x8.1, B x8.2]) []) from by subst e9; exact lib_CutSuffix x4.1 ([63, 61] : List UInt8) (okS_s g7)) ?_)
  refine sS rfl rfl rfl (opS_move (av := .tup _) rfl) ?_
  refine sS rfl rfl rfl (opS_extract (av := .v _) rfl rfl) ?_
  refine sS rfl rfl rfl (opS_extract (av := .v _) rfl rfl) ?_
  refine sS rfl rfl rfl (asg rfl) ?_
  refine sS rfl rfl rfl (asg rfl) ?_
  refine AR.nil ?_
  show AW _ _ _ _ _ _
  refine AW.seq ?_
  obtain ⟨x10, x11, e12, H⟩ := bnd2_s H
  refine AW.region ?_
  show AR _ _ _ _ _ [0, 1, 2, 3, 4, 5, 6] _
  refine sS rfl rfl rfl (mv rfl) ?_
  refine AR.run rfl rfl (AO.callp rfl en80_headb rfl (w_b64_Bytes F x8.1 x10 x11 e12) ?_)
  refine sS rfl rfl rfl (opS_move (av := .tup _) rfl) ?_
  refine sS rfl rfl rfl (opS_extract (av := slE _ _ _) rfl rfl) ?_
  refine sS rfl rfl rfl (opS_extract (av := .v _) rfl rfl) ?_
  refine sS rfl rfl rfl (opS_assign (av := slE _ _ _) rfl) ?_
  refine sS rfl rfl rfl (asg rfl) ?_
  refine AR.nil ?_
  show AW _ _ _ _ _ _
  refine AW.seq ?_
  refine AW.region ?_
  show AR _ _ _ _ _ [0, 1, 2, 3, 4, 5, 6, 7, 8] _
  refine sS rfl rfl rfl (opS_move (av := slE _ _ _) rfl) ?_
  refine sS rfl rfl rfl (opS_conv_bytes_str Tryd.underlying24 Tryd.underlying5 Tryd.underlying9 rfl) ?_
  refine sS rfl rfl rfl (mv rfl) ?_
  refine sS rfl rfl rfl (mv rfl) ?_
  refine AR.meet (l := [7, 8]) 31 (B (x8.2 && (decide (x11 = 0)))) (fun K => ?_) ?_
  ·rcases Bool.eq_false_or_eq_true x8.2 with h13 | h13
   ·
    refine gT h13 rfl rfl rfl rfl rfl rfl (AO.ops rfl rfl (mv rfl) ?_)
    refine gT h13 rfl rfl rfl rfl rfl rfl (AO.ops rfl rfl (opS_eqi rfl rfl) ?_)
    refine sS rfl rfl rfl (opS_pick_t (av := .v _) rfl h13 rfl) ?_
    exact K _ 2 _ (B_congr (and_t h13)) rfl rfl
   ·
    refine gF h13 rfl rfl rfl rfl rfl ?_
    refine gF h13 rfl rfl rfl rfl rfl ?_
    refine sS rfl rfl rfl (opS_pick_f (av := .v _) rfl h13 rfl) ?_
    exact K _ 2 _ (B_congr (and_f h13)) rfl rfl
  refine sS rfl rfl rfl (asg rfl) ?_
  refine sS rfl rfl rfl (asg rfl) ?_
  refine AR.nil ?_
  show AW _ _ _ _ _ _
  refine AW.ret ?_
  obtain ⟨rfl, rfl⟩ := res2 H
  exact And.intro rfl (Exists.intro _ (Exists.intro _ ⟨ResV.twoW rfl (.refl _) (.refl _), Sub.at [] rfl, rfl, rfl⟩))
set_option maxRecDepth 100000 in
set_option maxHeartbeats 1000000 in
theorem w_head_value (F : Nat) (a1 : List (List UInt8)) (q2 : Option Nat) (r3 : List UInt8) (H : head_value F a1 = some r3) : ACalls Tryd.prog 31 [slE Enc.str a1 q2] [] (Ret (S r3) []) := by
 unfold head_value at H
 refine ACalls.of_body Tryd.func31 rfl rfl ?_
 show AW _ _ 27 _ _ _
 refine AW.seq ?_
 refine AW.region ?_
 show AR _ _ _ _ _ [0] _
 refine sS rfl rfl rfl (asg rfl) ?_
 refine AR.nil ?_
 show AW _ _ _ _ _ _
 refine AW.seq ?_
 refine AW.region ?_
 show AR _ _ _ _ _ [0] _
 refine sX rfl rfl rfl (opX_allocT (zs := [(.pointer none), .slice none 0 0]) (by kernel_rfl)) ?_
 rintro _ _ ⟨o4, rfl, rfl⟩
 refine AR.nil ?_
 show AW _ _ _ _ _ _
 refine AW.nil_objAt 0 1 1 5 rfl rfl fun t5 => ?_
 show AW _ _ _ _ _ ⟨_, _, [.tok t5 5, .obj o4 [.v (.pointer none), slE Enc.byte [] (some t5)], .ty o4 81]⟩
 refine AW.cut (X := AV × (List UInt8) × Nat) (fun (t28, y29, t30) => ⟨[(3, .pt o4 0)], [], [.obj o4 [t28, slE Enc.byte y29 (some t30)], .ty o4 81, .tok t30 5]⟩) (fun (t28, y29, t30) => head_value_j1 y29 = some r3 ∧ (t28 = .v (.pointer none) ∨ t28 = .pt o4 0)) ?_ ?_
 ·
  refine AW.seq ?_
  refine AW.region ?_
  show AR _ _ _ _ _ [0, 1, 2] _
  refine sS rfl rfl rfl (opS_move (av := slE _ _ _) rfl) ?_
  refine sS rfl rfl rfl (opS_len_sl Tryd.underlying36 rfl) ?_
  refine sS rfl rfl rfl (mv rfl) ?_
  refine AR.nil ?_
  show AW _ _ _ _ _ _
  refine AW.block ?_
  refine AW.loop (X := Nat × Int × AV × (List UInt8) × Nat) (fun (n11, y6, t7, y8, t9) => ⟨[(0, slE Enc.str a1 q2), (3, .pt o4 0), (8, slE Enc.str a1 q2), (9, i64 (a1.length : Int)), (10, i64 y6)], [], [.obj o4 [t7, slE Enc.byte y8 (some t9)], .ty o4 81, .tok t9 5]⟩) (fun (n11, y6, t7, y8, t9) => head_value_L1 F a1 n11 (y6, y8) = some r3 ∧ (t7 = .v (.pointer none) ∨ t7 = .pt o4 0)) (fun (n11, y6, t7, y8, t9) => n11) (F, 0, (.v (.pointer none)), [], t5) ⟨H, .inl rfl⟩ (WK.at [1, 1, 0] (.cons (.refl _) (.cons (.refl _) (.cons (.refl _) (.cons (.refl _) (.cons (.refl _) (.nil _)))))) rfl) ?_
  rintro ⟨n11, y6, t7, y8, t9⟩ ⟨H, ht7⟩
  obtain ⟨n11, rfl, H⟩ := loop_s H
  replace H : head_value_B1 F a1 (head_value_L1 F a1 n11) y6 y8 = some r3 := H
  unfold head_value_B1 at H
  show AW _ _ _ _ _ _
  refine AW.seq ?_
  refine AW.region ?_
  show AR _ _ _ _ _ [0] _
  refine sS rfl rfl rfl (opS_lt rfl rfl) ?_
  refine AR.nil ?_
  show AW _ _ _ _ _ _
  refine AW.seq ?_
  refine AW.cond rfl (fun c12 => ?_) (fun c12 => ?_)
  ·replace H := cnd_t c12 H
   refine AW.skip ?_
   show AW _ _ _ _ _ _
   refine AW.seq ?_
   refine AW.block ?_
   refine AW.seq ?_
   obtain ⟨g13, H⟩ := grd_s H
   obtain ⟨x14, e15, H⟩ := lt_s H
   refine AW.region ?_
   show AR _ _ _ _ _ [0, 1, 2] _
   refine sS rfl rfl rfl (g_indexAddr (E := Enc.str) Tryd.underlying36 (by kernel_rfl) rfl rfl g13 e15) ?_
   refine sS rfl rfl rfl (opS_load_cp Tryd.underlying9 rfl rfl) ?_
   refine sS rfl rfl rfl (asg rfl) ?_
   refine AR.nil ?_
   show AW _ _ _ _ _ _
   refine AW.seq ?_
   obtain ⟨x16, x17, e18, H⟩ := bnd2_s H
   refine AW.region ?_
   show AR _ _ _ _ _ [0, 1, 2, 3, 4, 5, 6] _
   refine sS rfl rfl rfl (mv rfl) ?_
   refine AR.run rfl rfl (AO.callp rfl en56_headb rfl (w_head_coded F x14 x16 x17 e18) ?_)
   refine sS rfl rfl rfl (opS_move (av := .tup _) rfl) ?_
   refine sS rfl rfl rfl (opS_extract (av := .v _) rfl rfl) ?_
   refine sS rfl rfl rfl (opS_extract (av := .v _) rfl rfl) ?_
   refine sS rfl rfl rfl (asg rfl) ?_
   refine sS rfl rfl rfl (asg rfl) ?_
   refine AR.nil ?_
   show AW _ _ _ _ _ _
   refine AW.seq ?_
   refine AW.seq ?_
   refine AW.region ?_
   show AR _ _ _ _ _ [0, 1] _
   refine sS rfl rfl rfl (mv rfl) ?_
   refine sS rfl rfl rfl (opS_not rfl) ?_
   refine AR.nil ?_
   show AW _ _ _ _ _ _
   refine AW.cond rfl (fun c19 => ?_) (fun c19 => ?_)
   ·replace H := cnd_t c19 H
    refine AW.seq ?_
    obtain ⟨g20, H⟩ := grd_s H
    obtain ⟨x21, e22, H⟩ := lt_s H
    refine AW.region ?_
    show AR _ _ _ _ _ [0, 1, 2] _
    refine sS rfl rfl rfl (opS_move (av := slE _ _ _) rfl) ?_
    refine AR.run rfl rfl (AO.callp rfl en57_headb rfl (show ACalls _ _ _ [] (Ret (S x21) []) from by subst e22; exact strings_Join a1 ([32] : List UInt8) q2 (okJoin_s g20).1 (okJoin_s g20).2) ?_)
    refine sS rfl rfl rfl (asg rfl) ?_
    refine AR.nil ?_
    show AW _ _ _ _ _ _
    refine AW.ret ?_
    obtain rfl := Option.some.inj H
    exact And.intro rfl (Exists.intro _ (Exists.intro _ ⟨ResV.oneW rfl (.refl _), Sub.at [] rfl, rfl, rfl⟩))
   ·replace H := cnd_f c19 H
    refine AW.skip ?_
    show AW _ _ _ _ _ _
    obtain ⟨g23, H⟩ := grd_s H
    obtain ⟨x24, e25, H⟩ := lt_s H
    refine AW.region ?_
    show AR _ _ _ _ _ [0, 1] _
    refine sS rfl rfl rfl (mv rfl) ?_
    refine AR.run rfl rfl (AO.callAt [0, 0, 0] rfl en58_headb rfl (Builder_WriteString0  o4 (t7) ht7 y8 x16 t9 (okW_s g23)) rfl (fun c A' h => by cases h.1) ?_)
    rintro av A' ⟨h, t26, rfl⟩; cases h
    rw [e25]
    refine AR.nil ?_
    show AW _ _ _ _ _ _
    obtain ⟨g27, H⟩ := grd_s H
    refine AW.region ?_
    show AR _ _ _ _ _ [0, 1] _
    refine sS rfl rfl rfl (g_add rfl rfl g27) ?_
    refine sS rfl rfl rfl (mv rfl) ?_
    refine AR.nil ?_
    exact Exists.intro (n11, y6 + 1, (.pt o4 0), x24, t26) ⟨⟨H, .inr rfl⟩, Nat.lt_succ_self _, WK.at [0, 0, 0] (.cons (.refl _) (.cons (.refl _) (.cons (.refl _) (.cons (.refl _) (.cons (.refl _) (.nil _)))))) rfl⟩
  ·replace H := cnd_f c12 H
   refine AW.exit ?_
   exact Exists.intro (t7, y8, t9) ⟨⟨H, ht7⟩, WK.at [0, 0, 0] (.cons (.refl _) (.nil _)) rfl⟩
 rintro ⟨t28, y29, t30⟩ ⟨H, ht28⟩
 replace H : head_value_j1 y29 = some r3 := H
 unfold head_value_j1 at H
 show AW _ _ _ _ _ _
 refine AW.seq ?_
 obtain ⟨g32, H⟩ := grd_s H
 refine AW.region ?_
 show AR _ _ _ _ _ [0, 1] _
 refine AR.run rfl rfl (AO.callAt [0, 1] rfl en59_headb rfl (Builder_String0  o4 (t28) y29 t30 (okW0_s g32)) rfl (fun c A' h => by cases h.1) ?_)
 rintro av A' ⟨h, rfl⟩; cases h
 refine sS rfl rfl rfl (asg rfl) ?_
 refine AR.nil ?_
 show AW _ _ _ _ _ _
 refine AW.ret ?_
 obtain rfl := Option.some.inj H
 exact And.intro rfl (Exists.intro _ (Exists.intro _ ⟨ResV.oneW rfl (.refl _), Sub.at [] rfl, rfl, rfl⟩))
set_option maxRecDepth 100000 in
set_option maxHeartbeats 1000000 in
theorem w_head_Read (F : Nat) (a1 : List UInt8) (q2 : Option Nat) (r3 : List UInt8) (r4 : List UInt8) (r5 : Int) (H : head_Read F a1 = some (r3, r4, r5)) : ACalls Tryd.prog 12 [slE Enc.byte a1 q2] [] (Ret (.tup [.agg [S r3, S r4], i64 r5]) []) := by
 unfold head_Read at H
 refine ACalls.of_body Tryd.func12 rfl rfl ?_
 show AW _ _ 43 _ _ _
 refine AW.seq ?_
 refine AW.region ?_
 show AR _ _ _ _ _ [0, 1] _
 refine sX rfl rfl rfl (opX_alloc (zs := [.string ⟨#[]⟩, .string ⟨#[]⟩]) (by kernel_rfl)) ?_
 rintro _ _ ⟨o6, rfl, rfl⟩
 refine sS rfl rfl rfl (asg rfl) ?_
 refine AR.nil ?_
 show AW _ _ _ _ _ _
 refine AW.seq ?_
 obtain ⟨g7, H⟩ := grd_s H
 obtain ⟨x8, e9, H⟩ := lt_s H
 refine AW.region ?_
 show AR _ _ _ _ _ [0, 1, 2, 3, 4, 5, 6, 7, 8, 9] _
 refine sS rfl rfl rfl (opS_move (av := slE _ _ _) rfl) ?_
 refine sS rfl rfl rfl (opS_conv_bytes_str Tryd.underlying24 Tryd.underlying5 Tryd.underlying9 rfl) ?_
 refine AR.run rfl rfl (AO.callp rfl en28_headb rfl (show ACalls _ _ _ [] (Ret (.tup [S x8.1, S x8.2.1, B x8.2.2]) []) from by subst e9; exact lib_Cut a1 ([58] : List UInt8) (okS_s g7)) ?_)
 refine sS rfl rfl rfl (opS_move (av := .tup _) rfl) ?_
 refine sS rfl rfl rfl (opS_extract (av := .v _) rfl rfl) ?_
 refine sS rfl rfl rfl (opS_extract (av := .v _) rfl rfl) ?_
 refine sS rfl rfl rfl (opS_extract (av := .v _) rfl rfl) ?_
 refine sS rfl rfl rfl (asg rfl) ?_
 refine sS rfl rfl rfl (asg rfl) ?_
 refine sS rfl rfl rfl (asg rfl) ?_
 refine AR.nil ?_
 show AW _ _ _ _ _ _
 refine AW.seq ?_
 obtain ⟨g10, H⟩ := grd_s H
 obtain ⟨x11, e12, H⟩ := lt_s H
 refine AW.region ?_
 show AR _ _ _ _ _ [0, 1, 2] _
 refine sS rfl rfl rfl (mv rfl) ?_
 refine AR.run rfl rfl (AO.callp rfl en29_headb rfl (show ACalls _ _ _ [] (Ret (slE Enc.str x11 none) []) from by subst e12; exact lib_FieldsFunc 30 spB x8.2.1 en30_headb head_sp (okS_s g10)) ?_)
 refine sS rfl rfl rfl (opS_assign (av := slE _ _ _) rfl) ?_
 refine AR.nil ?_
 show AW _ _ _ _ _ _
 refine AW.seq ?_
 obtain ⟨x13, e14, H⟩ := bnd_s H
 refine AW.region ?_
 show AR _ _ _ _ _ [0, 1, 2, 3, 4, 5] _
 refine sS rfl rfl rfl (mv rfl) ?_
 refine sS rfl rfl rfl (opS_move (av := slE _ _ _) rfl) ?_
 refine AR.run rfl rfl (AO.callp rfl en31_headb rfl (w_head_value F x11 none x13 e14) ?_)
 refine sS rfl rfl rfl (g_build (zs := [.string ⟨#[]⟩, .string ⟨#[]⟩]) (ps := [(0, 1), (1, 1)]) (cs := [S x8.1, S x13]) (by kernel_rfl) rfl rfl) ?_
 refine sX rfl rfl rfl (opX_alloc (zs := [.string ⟨#[]⟩, .string ⟨#[]⟩]) (by kernel_rfl)) ?_
 rintro _ _ ⟨o15, rfl, rfl⟩
 refine s0 rfl rfl (opR_store_agg (i := 0) (vs := [S x8.1, S x13]) (by kernel_rfl) rfl rfl (by simp [isCell, slE]) rfl (Nat.le_of_ble_eq_true rfl)) ?_
 refine AR.freezeCp 8 0 rfl rfl ?_
 show AR _ _ _ _ _ _ ⟨_, _, [.obj o6 [S ([] : List UInt8), S ([] : List UInt8)]]⟩
 refine AR.nil ?_
 show AW _ _ _ _ _ _
 refine AW.seq ?_
 refine AW.seq ?_
 obtain ⟨x16, x17, e18, H⟩ := bnd2_s H
 refine AW.region ?_
 show AR _ _ _ _ _ [0, 1, 2, 3, 4, 5, 6] _
 refine sS rfl rfl rfl (opS_load_cp_agg Tryd.underlying23 rfl (n := 2) (by kernel_rfl) rfl (Nat.le_of_ble_eq_true rfl)) ?_
 refine AR.run rfl rfl (AO.callp rfl en11_headb rfl (w_head_Line F x8.1 x13 x16 x17 e18) ?_)
 refine sS rfl rfl rfl (opS_move (av := .tup _) rfl) ?_
 refine sS rfl rfl rfl (opS_extract (av := slE _ _ _) rfl rfl) ?_
 refine sS rfl rfl rfl (opS_extract (av := .v _) rfl rfl) ?_
 refine sS rfl rfl rfl (opS_assign (av := slE _ _ _) rfl) ?_
 refine sS rfl rfl rfl (asg rfl) ?_
 refine AR.nil ?_
 show AW _ _ _ _ _ _
 refine AW.seq ?_
 obtain ⟨x21, e22, H⟩ := lt_s H
 refine AW.region ?_
 show AR _ _ _ _ _ [0, 1, 2, 3, 4, 5, 6, 7, 8, 9, 10, 11] _
 refine sS rfl rfl rfl (mv rfl) ?_
 refine sS rfl rfl rfl (opS_not rfl) ?_
 refine sS rfl rfl rfl (mv rfl) ?_
 refine AR.meet (l := [6, 7, 8, 9, 10, 11]) 34 (B ((!x8.2.2) || (!decide (x17 = 0)))) (fun K => ?_) ?_
 ·rcases Bool.eq_false_or_eq_true (!x8.2.2) with h19 | h19
  ·
   refine gF h19 rfl rfl rfl rfl rfl ?_
   refine gF h19 rfl rfl rfl rfl rfl ?_
   refine sS rfl rfl rfl (opS_pick_t (av := .v _) rfl h19 rfl) ?_
   exact K _ 2 _ (B_congr (or_t h19)) rfl rfl
  ·
   refine gT h19 rfl rfl rfl rfl rfl rfl (AO.ops rfl rfl (mv rfl) ?_)
   refine gT h19 rfl rfl rfl rfl rfl rfl (AO.ops rfl rfl (opS_nei rfl rfl) ?_)
   refine sS rfl rfl rfl (opS_pick_f (av := .v _) rfl h19 rfl) ?_
   exact K _ 2 _ (B_congr (or_f h19)) rfl rfl
 refine sS rfl rfl rfl (mv rfl) ?_
 refine AR.meet (l := []) 40 (B (((!x8.2.2) || (!decide (x17 = 0))) || (!x21))) (fun K => ?_) ?_
 ·rcases Bool.eq_false_or_eq_true ((!x8.2.2) || (!decide (x17 = 0))) with h20 | h20
  ·
   refine gF h20 rfl rfl rfl rfl rfl ?_
   refine gF h20 rfl rfl rfl rfl rfl ?_
   refine gF h20 rfl rfl rfl rfl rfl ?_
   refine gF h20 rfl rfl rfl rfl rfl ?_
   refine sS rfl rfl rfl (opS_pick_t (av := .v _) rfl h20 rfl) ?_
   exact K _ 4 _ (B_congr (or_t h20)) rfl rfl
  ·
   refine gT h20 rfl rfl rfl rfl rfl rfl (AO.ops rfl rfl (opS_move (av := slE _ _ _) rfl) ?_)
   refine gT h20 rfl rfl rfl rfl rfl rfl (AO.ops rfl rfl (opS_move (av := slE _ _ _) rfl) ?_)
   refine gT h20 rfl rfl rfl rfl rfl rfl (AO.callp rfl en32_headb rfl (show ACalls _ _ _ [] (Ret (B x21) []) from by subst e22; exact lib_bytesEqual x16 a1 none q2) ?_)
   refine gT h20 rfl rfl rfl rfl rfl rfl (AO.ops rfl rfl (opS_not rfl) ?_)
   refine sS rfl rfl rfl (opS_pick_f (av := .v _) rfl h20 rfl) ?_
   exact K _ 4 _ (B_congr (or_f h20)) rfl rfl
 refine AR.nil ?_
 show AW _ _ _ _ _ _
 refine AW.cond rfl (fun c23 => ?_) (fun c23 => ?_)
 ·replace H := cnd_t c23 H
  refine AW.seq ?_
  refine AW.region ?_
  show AR _ _ _ _ _ [0, 1, 2] _
  refine sS rfl rfl rfl (g_build (zs := [.string ⟨#[]⟩, .string ⟨#[]⟩]) (ps := [(0, 1), (1, 1)]) (cs := [S ([] : List UInt8), S ([] : List UInt8)]) (by kernel_rfl) rfl rfl) ?_
  refine s0 rfl rfl (opR_store_agg (i := 0) (vs := [S ([] : List UInt8), S ([] : List UInt8)]) (by kernel_rfl) rfl rfl (by simp [isCell, slE]) rfl (Nat.le_of_ble_eq_true rfl)) ?_
  refine sS rfl rfl rfl (asg rfl) ?_
  refine AR.nil ?_
  show AW _ _ _ _ _ _
  refine AW.ret ?_
  obtain ⟨rfl, rfl, rfl⟩ := res3 H
  exact And.intro rfl (Exists.intro _ (Exists.intro _ ⟨ResT.resV (ResT.place2 rfl (CellV.agg (off := 0) (cs := [S ([] : List UInt8), S ([] : List UInt8)]) (n := 2) 0 Tryd.underlying23 rfl (by kernel_rfl) rfl rfl (Nat.le_of_ble_eq_true rfl)) ((show PlaceV _ _ _ (.tmp _) _ from (.refl _)))), Sub.at [] rfl, rfl, rfl⟩))
 ·replace H := cnd_f c23 H
  refine AW.skip ?_
  show AW _ _ _ _ _ _
  refine AW.seq ?_
  refine AW.region ?_
  show AR _ _ _ _ _ [0, 1, 2] _
  refine sS rfl rfl rfl (opS_load_cp_agg Tryd.underlying23 rfl (n := 2) (by kernel_rfl) rfl (Nat.le_of_ble_eq_true rfl)) ?_
  refine s0 rfl rfl (opR_store_agg (i := 0) (vs := [S x8.1, S x13]) (by kernel_rfl) rfl rfl (by simp [isCell, slE]) rfl (Nat.le_of_ble_eq_true rfl)) ?_
  refine sS rfl rfl rfl (asg rfl) ?_
  refine AR.nil ?_
  show AW _ _ _ _ _ _
  refine AW.ret ?_
  obtain ⟨rfl, rfl, rfl⟩ := res3 H
  exact And.intro rfl (Exists.intro _ (Exists.intro _ ⟨ResT.resV (ResT.place2 rfl (CellV.agg (off := 0) (cs := [S x8.1, S x13]) (n := 2) 0 Tryd.underlying23 rfl (by kernel_rfl) rfl rfl (Nat.le_of_ble_eq_true rfl)) ((show PlaceV _ _ _ (.tmp _) _ from (.refl _)))), Sub.at [] rfl, rfl, rfl⟩))
end Go.Proofs.YtiahdbdkjjmfiaaDoor
namespace Go.Pv
def headl_k1 : List UInt8 := [83, 117, 98, 106, 101, 99, 116, 58, 32, 61, 63, 117, 116, 102, 45, 56, 63, 66, 63, 119, 54, 107, 61, 63, 61, 13, 10]
def law14_awake (F : Nat) : Option Bool :=
bnd2 (head_Line F ([83, 117, 98, 106, 101, 99, 116] : List UInt8) ([195, 169] : List UInt8)) fun x2 x3 =>
bnd3 (head_Read F ([84, 111, 58, 32, 97, 32, 98, 13, 10] : List UInt8)) fun x6 x7 x8 =>
bndc ((((decide (x3 = 0)) && (decide (x8 = 0))) && (decide (x2 = headl_k1))) && ((decide (x6 = ([84, 111] : List UInt8))) && (decide (x7 = ([97, 32, 98] : List UInt8))))) (head_Plain F ([97, 32, 98] : List UInt8)) fun x15 =>
bndc (((((decide (x3 = 0)) && (decide (x8 = 0))) && (decide (x2 = headl_k1))) && ((decide (x6 = ([84, 111] : List UInt8))) && (decide (x7 = ([97, 32, 98] : List UInt8))))) && x15) (head_Plain F ([97, 32, 32, 98] : List UInt8)) fun x18 =>
some ((((((decide (x3 = 0)) && (decide (x8 = 0))) && (decide (x2 = headl_k1))) && ((decide (x6 = ([84, 111] : List UInt8))) && (decide (x7 = ([97, 32, 98] : List UInt8))))) && x15) && (!x18))
def law14_Few_j1 : Option Bool :=
some true
def law14_Few_B1 (a1 : List ((List UInt8) × List UInt8)) (rec7 : Int → Option Bool) (y6 : Int) : Option Bool :=
bif decide (y6 < (a1.length : Int)) then
  grd (okAt y6 a1.length) <|
  lt (at_ a1 y6) fun x11 =>
  grdc (!(decide (100 < (x11.1.length : Int)))) (okAt y6 a1.length) <|
  lt (at_ a1 y6) fun x15 =>
  bif (decide (100 < (x11.1.length : Int))) || (decide (600 < (x15.2.length : Int))) then
    some false
  else
    grd (okI (y6 + 1)) <|
    rec7 (y6 + 1)
else
  law14_Few_j1
def law14_Few_L1 (a1 : List ((List UInt8) × List UInt8)) (n : Nat) : Int → Option Bool :=
  loop (fun rec x => law14_Few_B1 a1 rec x) n
def law14_Few (F : Nat) (a1 : List ((List UInt8) × List UInt8)) (a3 : Int) : Option Bool :=
bif decide (a3 < (a1.length : Int)) then
  some false
else
  law14_Few_L1 a1 F 0
end Go.Pv
namespace Go.Proofs.YtiahdbdkjjmfiaaDoor
open Go.RowKit Go.Av Go.Pv
theorem en11_headl : ∀ (args : Array Value) (w : World), (callFunc 11 args).run Tryd.prog w = .ok (.enter 11 args) w := fun _ _ => by kernel_rfl
theorem en12_headl : ∀ (args : Array Value) (w : World), (callFunc 12 args).run Tryd.prog w = .ok (.enter 12 args) w := fun _ _ => by kernel_rfl
theorem en18_headl : ∀ (args : Array Value) (w : World), (callFunc 18 args).run Tryd.prog w = .ok (.enter 18 args) w := fun _ _ => by kernel_rfl
set_option maxRecDepth 100000 in
set_option maxHeartbeats 1000000 in
theorem w_law14_awake (F : Nat) (r1 : Bool) (H : law14_awake F = some r1) : ACalls Tryd.prog 9 [] [] (Ret (B r1) []) := by
 unfold law14_awake at H
 refine ACalls.of_body Tryd.func9 rfl rfl ?_
 show AW _ _ 39 _ _ _
 refine AW.seq ?_
 refine AW.region ?_
 show AR _ _ _ _ _ [0] _
 refine sS rfl rfl rfl (asg rfl) ?_
 refine AR.nil ?_
 show AW _ _ _ _ _ _
 refine AW.seq ?_
 obtain ⟨x2, x3, e4, H⟩ := bnd2_s H
 refine AW.region ?_
 show AR _ _ _ _ _ [0, 1, 2, 3, 4, 5, 6] _
 refine sS rfl rfl rfl (g_build (zs := [.string ⟨#[]⟩, .string ⟨#[]⟩]) (ps := [(0, 1), (1, 1)]) (cs := [S ([83, 117, 98, 106, 101, 99, 116] : List UInt8), S ([195, 169] : List UInt8)]) (by kernel_rfl) rfl rfl) ?_
 refine AR.run rfl rfl (AO.callp rfl en11_headl rfl (w_head_Line F ([83, 117, 98, 106, 101, 99, 116] : List UInt8) ([195, 169] : List UInt8) x2 x3 e4) ?_)
 refine sS rfl rfl rfl (opS_move (av := .tup _) rfl) ?_
 refine sS rfl rfl rfl (opS_extract (av := slE _ _ _) rfl rfl) ?_
 refine sS rfl rfl rfl (opS_extract (av := .v _) rfl rfl) ?_
 refine sS rfl rfl rfl (opS_assign (av := slE _ _ _) rfl) ?_
 refine sS rfl rfl rfl (asg rfl) ?_
 refine AR.nil ?_
 show AW _ _ _ _ _ _
 refine AW.seq ?_
 obtain ⟨x6, x7, x8, e9, H⟩ := bnd3_s H
 refine AW.region ?_
 show AR _ _ _ _ _ [0, 1, 2, 3, 4, 5, 6, 7, 8] _
 refine sX rfl rfl rfl (opX_buildE (E := Enc.byte) (bytes := 1) (xs := [.const _, .const _, .const _, .const _, .const _, .const _, .const _, .const _, .const _]) (l := ([84, 111, 58, 32, 97, 32, 98, 13, 10] : List UInt8)) Tryd.underlying24 (by kernel_rfl) rfl rfl (by decide) rfl rfl) ?_
 rintro _ _ ⟨t5, rfl, rfl⟩
 refine sR rfl rfl rfl (opR_conv_same 0 Tryd.underlying24 Tryd.underlying5 rfl (by simp) rfl) ?_
 refine AR.run rfl rfl (AO.callp rfl en12_headl rfl (w_head_Read F ([84, 111, 58, 32, 97, 32, 98, 13, 10] : List UInt8) (some t5) x6 x7 x8 e9) ?_)
 refine sS rfl rfl rfl (opS_move (av := .tup _) rfl) ?_
 refine sS rfl rfl rfl (opS_extract (av := .agg _) rfl rfl) ?_
 refine sS rfl rfl rfl (opS_extract (av := .v _) rfl rfl) ?_
 refine sX rfl rfl rfl (opX_alloc (zs := [.string ⟨#[]⟩, .string ⟨#[]⟩]) (by kernel_rfl)) ?_
 rintro _ _ ⟨o10, rfl, rfl⟩
 refine s0 rfl rfl (opR_store_agg (i := 0) (vs := [S x6, S x7]) (by kernel_rfl) rfl rfl (by simp [isCell, slE]) rfl (Nat.le_of_ble_eq_true rfl)) ?_
 refine AR.freezeCp 3 0 rfl rfl ?_
 show AR _ _ _ _ _ _ ⟨_, _, [.tok t5 5]⟩
 refine sS rfl rfl rfl (asg rfl) ?_
 refine AR.nil ?_
 show AW _ _ _ _ _ _
 refine AW.seq ?_
 obtain ⟨x15, e16, H⟩ := bndc_s H
 obtain ⟨x18, e19, H⟩ := bndc_s H
 refine AW.region ?_
 show AR _ _ _ _ _ [0, 1, 2, 3, 4, 5, 6, 7, 8, 9, 10, 11, 12, 13, 14, 15, 16, 17, 18, 19, 20, 21, 22, 23] _
 refine sS rfl rfl rfl (mv rfl) ?_
 refine sS rfl rfl rfl (opS_eqi rfl rfl) ?_
 refine sS rfl rfl rfl (mv rfl) ?_
 refine AR.meet (l := [6, 7, 8, 9, 10, 11, 12, 13, 14, 15, 16, 17, 18, 19, 20, 21, 22, 23]) 21 (B ((decide (x3 = 0)) && (decide (x8 = 0)))) (fun K => ?_) ?_
 ·rcases Bool.eq_false_or_eq_true (decide (x3 = 0)) with h11 | h11
  ·
   refine gT h11 rfl rfl rfl rfl rfl rfl (AO.ops rfl rfl (mv rfl) ?_)
   refine gT h11 rfl rfl rfl rfl rfl rfl (AO.ops rfl rfl (opS_eqi rfl rfl) ?_)
   refine sS rfl rfl rfl (opS_pick_t (av := .v _) rfl h11 rfl) ?_
   exact K _ 2 _ (B_congr (and_t h11)) rfl rfl
  ·
   refine gF h11 rfl rfl rfl rfl rfl ?_
   refine gF h11 rfl rfl rfl rfl rfl ?_
   refine sS rfl rfl rfl (opS_pick_f (av := .v _) rfl h11 rfl) ?_
   exact K _ 2 _ (B_congr (and_f h11)) rfl rfl
 refine sS rfl rfl rfl (mv rfl) ?_
 refine AR.meet (l := [11, 12, 13, 14, 15, 16, 17, 18, 19, 20, 21, 22, 23]) 26 (B (((decide (x3 = 0)) && (decide (x8 = 0))) && (decide (x2 = headl_k1)))) (fun K => ?_) ?_
 ·rcases Bool.eq_false_or_eq_true ((decide (x3 = 0)) && (decide (x8 = 0))) with h12 | h12
  ·
   refine gT h12 rfl rfl rfl rfl rfl rfl (AO.ops rfl rfl (opS_move (av := slE _ _ _) rfl) ?_)
   refine gT h12 rfl rfl rfl rfl rfl rfl (AO.ops rfl rfl (opS_conv_bytes_str Tryd.underlying24 Tryd.underlying5 Tryd.underlying9 rfl) ?_)
   refine gT h12 rfl rfl rfl rfl rfl rfl (AO.ops rfl rfl (opS_eqs rfl rfl) ?_)
   refine sS rfl rfl rfl (opS_pick_t (av := .v _) rfl h12 rfl) ?_
   exact K _ 3 _ (B_congr (and_t h12)) rfl rfl
  ·
   refine gF h12 rfl rfl rfl rfl rfl ?_
   refine gF h12 rfl rfl rfl rfl rfl ?_
   refine gF h12 rfl rfl rfl rfl rfl ?_
   refine sS rfl rfl rfl (opS_pick_f (av := .v _) rfl h12 rfl) ?_
   exact K _ 3 _ (B_congr (and_f h12)) rfl rfl
 refine sS rfl rfl rfl (mv rfl) ?_
 refine AR.meet (l := [16, 17, 18, 19, 20, 21, 22, 23]) 31 (B ((((decide (x3 = 0)) && (decide (x8 = 0))) && (decide (x2 = headl_k1))) && ((decide (x6 = ([84, 111] : List UInt8))) && (decide (x7 = ([97, 32, 98] : List UInt8)))))) (fun K => ?_) ?_
 ·rcases Bool.eq_false_or_eq_true (((decide (x3 = 0)) && (decide (x8 = 0))) && (decide (x2 = headl_k1))) with h13 | h13
  ·
   refine gT h13 rfl rfl rfl rfl rfl rfl (AO.ops rfl rfl (opS_load_cp_agg Tryd.underlying23 rfl (n := 2) (by kernel_rfl) rfl (Nat.le_of_ble_eq_true rfl)) ?_)
   refine gT h13 rfl rfl rfl rfl rfl rfl (AO.ops rfl rfl (g_build (zs := [.string ⟨#[]⟩, .string ⟨#[]⟩]) (ps := [(0, 1), (1, 1)]) (cs := [S ([84, 111] : List UInt8), S ([97, 32, 98] : List UInt8)]) (by kernel_rfl) rfl rfl) ?_)
   refine gT h13 rfl rfl rfl rfl rfl rfl (AO.ops rfl rfl (opS_eq_struct (r := (decide (x6 = ([84, 111] : List UInt8))) && (decide (x7 = ([97, 32, 98] : List UInt8)))) (.inl rfl) Tryd.underlying23 (by kernel_rfl) (by kernel_rfl) (by kernel_rfl) rfl rfl rfl (by simp only [List.all_cons, List.all_nil, id, str_beq, Bool.and_true])) ?_)
   refine sS rfl rfl rfl (opS_pick_t (av := .v _) rfl h13 rfl) ?_
   exact K _ 3 _ (B_congr (and_t h13)) rfl rfl
  ·
   refine gF h13 rfl rfl rfl rfl rfl ?_
   refine gF h13 rfl rfl rfl rfl rfl ?_
   refine gF h13 rfl rfl rfl rfl rfl ?_
   refine sS rfl rfl rfl (opS_pick_f (av := .v _) rfl h13 rfl) ?_
   exact K _ 3 _ (B_congr (and_f h13)) rfl rfl
 refine sS rfl rfl rfl (mv rfl) ?_
 refine AR.meet (l := [19, 20, 21, 22, 23]) 34 (B (((((decide (x3 = 0)) && (decide (x8 = 0))) && (decide (x2 = headl_k1))) && ((decide (x6 = ([84, 111] : List UInt8))) && (decide (x7 = ([97, 32, 98] : List UInt8))))) && x15)) (fun K => ?_) ?_
 ·rcases Bool.eq_false_or_eq_true ((((decide (x3 = 0)) && (decide (x8 = 0))) && (decide (x2 = headl_k1))) && ((decide (x6 = ([84, 111] : List UInt8))) && (decide (x7 = ([97, 32, 98] : List UInt8))))) with h14 | h14
  ·
   refine gT h14 rfl rfl rfl rfl rfl rfl (AO.callp rfl en18_headl rfl (w_head_Plain F ([97, 32, 98] : List UInt8) x15 (e16 h14)) ?_)
   refine sS rfl rfl rfl (opS_pick_t (av := .v _) rfl h14 rfl) ?_
   exact K _ 1 _ (B_congr (and_t h14)) rfl rfl
  ·
   refine gF h14 rfl rfl rfl rfl rfl ?_
   refine sS rfl rfl rfl (opS_pick_f (av := .v _) rfl h14 rfl) ?_
   exact K _ 1 _ (B_congr (and_f h14)) rfl rfl
 refine sS rfl rfl rfl (mv rfl) ?_
 refine AR.meet (l := [23]) 38 (B ((((((decide (x3 = 0)) && (decide (x8 = 0))) && (decide (x2 = headl_k1))) && ((decide (x6 = ([84, 111] : List UInt8))) && (decide (x7 = ([97, 32, 98] : List UInt8))))) && x15) && (!x18))) (fun K => ?_) ?_
 ·rcases Bool.eq_false_or_eq_true (((((decide (x3 = 0)) && (decide (x8 = 0))) && (decide (x2 = headl_k1))) && ((decide (x6 = ([84, 111] : List UInt8))) && (decide (x7 = ([97, 32, 98] : List UInt8))))) && x15) with h17 | h17
  ·
   refine gT h17 rfl rfl rfl rfl rfl rfl (AO.callp rfl en18_headl rfl (w_head_Plain F ([97, 32, 32, 98] : List UInt8) x18 (e19 h17)) ?_)
   refine gT h17 rfl rfl rfl rfl rfl rfl (AO.ops rfl rfl (opS_not rfl) ?_)
   refine sS rfl rfl rfl (opS_pick_t (av := .v _) rfl h17 rfl) ?_
   exact K _ 2 _ (B_congr (and_t h17)) rfl rfl
  ·
   refine gF h17 rfl rfl rfl rfl rfl ?_
   refine gF h17 rfl rfl rfl rfl rfl ?_
   refine sS rfl rfl rfl (opS_pick_f (av := .v _) rfl h17 rfl) ?_
   exact K _ 2 _ (B_congr (and_f h17)) rfl rfl
 refine sS rfl rfl rfl (asg rfl) ?_
 refine AR.nil ?_
 show AW _ _ _ _ _ _
 refine AW.ret ?_
 obtain rfl := Option.some.inj H
 exact And.intro rfl (Exists.intro _ (Exists.intro _ ⟨ResV.oneW rfl (.refl _), Sub.at [] rfl, rfl, rfl⟩))
set_option maxRecDepth 100000 in
set_option maxHeartbeats 1000000 in
theorem w_law14_Few (F : Nat) (a1 : List ((List UInt8) × List UInt8)) (q2 : Option Nat) (a3 : Int) (r4 : Bool) (H : law14_Few F a1 a3 = some r4) : ACalls Tryd.prog 10 [slE (Enc.prod Enc.str Enc.str) a1 q2, i64 a3] [] (Ret (B r4) []) := by
 unfold law14_Few at H
 refine ACalls.of_body Tryd.func10 rfl rfl ?_
 show AW _ _ 32 _ _ _
 refine AW.seq ?_
 refine AW.region ?_
 show AR _ _ _ _ _ [0] _
 refine sS rfl rfl rfl (asg rfl) ?_
 refine AR.nil ?_
 show AW _ _ _ _ _ _
 refine AW.seq ?_
 refine AW.seq ?_
 refine AW.region ?_
 show AR _ _ _ _ _ [0, 1, 2, 3] _
 refine sS rfl rfl rfl (opS_move (av := slE _ _ _) rfl) ?_
 refine sS rfl rfl rfl (opS_len_sl Tryd.underlying27 rfl) ?_
 refine sS rfl rfl rfl (mv rfl) ?_
 refine sS rfl rfl rfl (opS_gt rfl rfl) ?_
 refine AR.nil ?_
 show AW _ _ _ _ _ _
 refine AW.cond rfl (fun c5 => ?_) (fun c5 => ?_)
 ·replace H := cnd_t c5 H
  refine AW.seq ?_
  refine AW.region ?_
  show AR _ _ _ _ _ [0] _
  refine sS rfl rfl rfl (asg rfl) ?_
  refine AR.nil ?_
  show AW _ _ _ _ _ _
  refine AW.ret ?_
  obtain rfl := Option.some.inj H
  exact And.intro rfl (Exists.intro _ (Exists.intro _ ⟨ResV.oneW rfl (.refl _), Sub.at [] rfl, rfl, rfl⟩))
 ·replace H := cnd_f c5 H
  refine AW.skip ?_
  show AW _ _ _ _ _ _
  refine AW.cut (X := Unit) (fun _ => ⟨[], [], []⟩) (fun _ => law14_Few_j1 = some r4) ?_ ?_
  ·
   refine AW.seq ?_
   refine AW.region ?_
   show AR _ _ _ _ _ [0] _
   refine sS rfl rfl rfl (asg rfl) ?_
   refine AR.nil ?_
   show AW _ _ _ _ _ _
   refine AW.block ?_
   refine AW.loop (X := Nat × Int) (fun (n8, y6) => ⟨[(0, slE (Enc.prod Enc.str Enc.str) a1 q2), (5, i64 y6)], [], []⟩) (fun (n8, y6) => law14_Few_L1 a1 n8 y6 = some r4) (fun (n8, y6) => n8) (F, 0) H (WK.at [] (.cons (.refl _) (.cons (.refl _) (.nil _))) rfl) ?_
   rintro ⟨n8, y6⟩ H
   obtain ⟨n8, rfl, H⟩ := loop_s H
   replace H : law14_Few_B1 a1 (law14_Few_L1 a1 n8) y6 = some r4 := H
   unfold law14_Few_B1 at H
   show AW _ _ _ _ _ _
   refine AW.seq ?_
   refine AW.seq ?_
   refine AW.region ?_
   show AR _ _ _ _ _ [0, 1, 2, 3] _
   refine sS rfl rfl rfl (mv rfl) ?_
   refine sS rfl rfl rfl (opS_move (av := slE _ _ _) rfl) ?_
   refine sS rfl rfl rfl (opS_len_sl Tryd.underlying27 rfl) ?_
   refine sS rfl rfl rfl (opS_lt rfl rfl) ?_
   refine AR.nil ?_
   show AW _ _ _ _ _ _
   refine AW.cond rfl (fun c9 => ?_) (fun c9 => ?_)
   ·replace H := cnd_t c9 H
    refine AW.skip ?_
    show AW _ _ _ _ _ _
    refine AW.seq ?_
    refine AW.block ?_
    refine AW.seq ?_
    obtain ⟨g10, H⟩ := grd_s H
    obtain ⟨x11, e12, H⟩ := lt_s H
    obtain ⟨g14, H⟩ := grdc_s H
    obtain ⟨x15, e16, H⟩ := lt_s H
    refine AW.region ?_
    show AR _ _ _ _ _ [0, 1, 2, 3, 4, 5, 6, 7, 8, 9, 10, 11, 12, 13, 14, 15] _
    refine sS rfl rfl rfl (opS_move (av := slE _ _ _) rfl) ?_
    refine sS rfl rfl rfl (mv rfl) ?_
    refine sS rfl rfl rfl (g_indexAddr (E := (Enc.prod Enc.str Enc.str)) Tryd.underlying27 (by kernel_rfl) rfl rfl g10 e12) ?_
    refine sS rfl rfl rfl (opS_fieldAddr_cp (n := 0) (by kernel_rfl) rfl (Nat.le_of_ble_eq_true rfl)) ?_
    refine sS rfl rfl rfl (opS_load_cp Tryd.underlying9 rfl rfl) ?_
    refine sS rfl rfl rfl (opS_len_str Tryd.underlying9 rfl) ?_
    refine sS rfl rfl rfl (opS_gt rfl rfl) ?_
    refine sS rfl rfl rfl (mv rfl) ?_
    refine AR.meet (l := []) 31 (B ((decide (100 < (x11.1.length : Int))) || (decide (600 < (x15.2.length : Int))))) (fun K => ?_) ?_
    ·rcases Bool.eq_false_or_eq_true (decide (100 < (x11.1.length : Int))) with h13 | h13
     ·
      refine gF h13 rfl rfl rfl rfl rfl ?_
      refine gF h13 rfl rfl rfl rfl rfl ?_
      refine gF h13 rfl rfl rfl rfl rfl ?_
      refine gF h13 rfl rfl rfl rfl rfl ?_
      refine gF h13 rfl rfl rfl rfl rfl ?_
      refine gF h13 rfl rfl rfl rfl rfl ?_
      refine gF h13 rfl rfl rfl rfl rfl ?_
      refine sS rfl rfl rfl (opS_pick_t (av := .v _) rfl h13 rfl) ?_
      exact K _ 7 _ (B_congr (or_t h13)) rfl rfl
     ·
      refine gT h13 rfl rfl rfl rfl rfl rfl (AO.ops rfl rfl (opS_move (av := slE _ _ _) rfl) ?_)
      refine gT h13 rfl rfl rfl rfl rfl rfl (AO.ops rfl rfl (mv rfl) ?_)
      refine gT h13 rfl rfl rfl rfl rfl rfl (AO.ops rfl rfl (g_indexAddr (E := (Enc.prod Enc.str Enc.str)) Tryd.underlying27 (by kernel_rfl) rfl rfl (g14 (nf h13)) e16) ?_)
      refine gT h13 rfl rfl rfl rfl rfl rfl (AO.ops rfl rfl (opS_fieldAddr_cp (n := 1) (by kernel_rfl) rfl (Nat.le_of_ble_eq_true rfl)) ?_)
      refine gT h13 rfl rfl rfl rfl rfl rfl (AO.ops rfl rfl (opS_load_cp Tryd.underlying9 rfl rfl) ?_)
      refine gT h13 rfl rfl rfl rfl rfl rfl (AO.ops rfl rfl (opS_len_str Tryd.underlying9 rfl) ?_)
      refine gT h13 rfl rfl rfl rfl rfl rfl (AO.ops rfl rfl (opS_gt rfl rfl) ?_)
      refine sS rfl rfl rfl (opS_pick_f (av := .v _) rfl h13 rfl) ?_
      exact K _ 7 _ (B_congr (or_f h13)) rfl rfl
    refine AR.nil ?_
    show AW _ _ _ _ _ _
    refine AW.cond rfl (fun c17 => ?_) (fun c17 => ?_)
    ·replace H := cnd_t c17 H
     refine AW.seq ?_
     refine AW.region ?_
     show AR _ _ _ _ _ [0] _
     refine sS rfl rfl rfl (asg rfl) ?_
     refine AR.nil ?_
     show AW _ _ _ _ _ _
     refine AW.ret ?_
     obtain rfl := Option.some.inj H
     exact And.intro rfl (Exists.intro _ (Exists.intro _ ⟨ResV.oneW rfl (.refl _), Sub.at [] rfl, rfl, rfl⟩))
    ·replace H := cnd_f c17 H
     refine AW.skip ?_
     show AW _ _ _ _ _ _
     obtain ⟨g18, H⟩ := grd_s H
     refine AW.region ?_
     show AR _ _ _ _ _ [0, 1, 2] _
     refine sS rfl rfl rfl (mv rfl) ?_
     refine sS rfl rfl rfl (g_add rfl rfl g18) ?_
     refine sS rfl rfl rfl (asg rfl) ?_
     refine AR.nil ?_
     exact Exists.intro (n8, y6 + 1) ⟨H, Nat.lt_succ_self _, WK.at [] (.cons (.refl _) (.cons (.refl _) (.nil _))) rfl⟩
   ·replace H := cnd_f c9 H
    refine AW.exit ?_
    exact Exists.intro () ⟨H, WK.at [] (.nil _) rfl⟩
  rintro _ H
  replace H : law14_Few_j1 = some r4 := H
  unfold law14_Few_j1 at H
  show AW _ _ _ _ _ _
  refine AW.seq ?_
  refine AW.region ?_
  show AR _ _ _ _ _ [0] _
  refine sS rfl rfl rfl (asg rfl) ?_
  refine AR.nil ?_
  show AW _ _ _ _ _ _
  refine AW.ret ?_
  obtain rfl := Option.some.inj H
  exact And.intro rfl (Exists.intro _ (Exists.intro _ ⟨ResV.oneW rfl (.refl _), Sub.at [] rfl, rfl, rfl⟩))
end Go.Proofs.YtiahdbdkjjmfiaaDoor
namespace Go.Pv
def law14_HeadLines_j1 (x8 : List UInt8) (y65 : Int) : Option Bool :=
some ((decide (y65 = 0)) && (decide (2 ≤ (x8.length : Int))))
def law14_HeadLines_j2 (y17 : Int) (rec18 : (Int × Int × Bool × Int) → Option Bool) (y60 : Int) (y61 : Int) (y62 : Bool) : Option Bool :=
grd (okI (y17 + 1)) <|
rec18 (y60, y61, y62, y17 + 1)
def law14_HeadLines_j3 (y14 : Int) (y16 : Bool) (y17 : Int) (rec18 : (Int × Int × Bool × Int) → Option Bool) (y57 : Int) : Option Bool :=
grd (okI (y14 + 1)) <|
law14_HeadLines_j2 y17 rec18 (y14 + 1) y57 y16
def law14_HeadLines_B1 (x8 : List UInt8) (rec18 : (Int × Int × Bool × Int) → Option Bool) (y14 : Int) (y15 : Int) (y16 : Bool) (y17 : Int) : Option Bool :=
bif decide (y17 < (x8.length : Int)) then
  grd (okAt y17 x8.length) <|
  lt (at_ x8 y17) fun x22 =>
  bif decide (x22 = 13) then
    grd (okI (y17 + 1)) <|
    grdc (!(decide ((x8.length : Int) ≤ y17 + 1))) (okI (y17 + 1)) <|
    grdc (!(decide ((x8.length : Int) ≤ y17 + 1))) (okAt (y17 + 1) x8.length) <|
    lt (at_ x8 (y17 + 1)) fun x29 =>
    bif ((decide ((x8.length : Int) ≤ y17 + 1)) || (!decide (x29 = 10))) || ((decide (76 < y14)) && (decide (1 < y15))) then
      some false
    else
      law14_HeadLines_j2 y17 rec18 y14 y15 y16
  else
    grd (okAt y17 x8.length) <|
    lt (at_ x8 y17) fun x35 =>
    bif decide (x35 = 10) then
      law14_HeadLines_j2 y17 rec18 0 0 false
    else
      grd (okAt y17 x8.length) <|
      lt (at_ x8 y17) fun x39 =>
      grdc (!(decide ((x39.toNat : Int) < 32))) (okAt y17 x8.length) <|
      lt (at_ x8 y17) fun x43 =>
      grdc ((!((decide ((x39.toNat : Int) < 32)) || (decide (126 < (x43.toNat : Int))))) && ((decide (y14 = 0)) && (!y16))) (okAt y17 x8.length) <|
      lt (at_ x8 y17) fun x49 =>
      bif ((decide ((x39.toNat : Int) < 32)) || (decide (126 < (x43.toNat : Int)))) || (((decide (y14 = 0)) && (!y16)) && (!decide (x49 = 32))) then
        some false
      else
        grd (okAt y17 x8.length) <|
        lt (at_ x8 y17) fun x53 =>
        bif decide (x53 = 32) then
          grd (okI (y15 + 1)) <|
          law14_HeadLines_j3 y14 y16 y17 rec18 (y15 + 1)
        else
          law14_HeadLines_j3 y14 y16 y17 rec18 y15
else
  law14_HeadLines_j1 x8 y14
def law14_HeadLines_L1 (x8 : List UInt8) (n : Nat) : (Int × Int × Bool × Int) → Option Bool :=
  loop (fun rec x => law14_HeadLines_B1 x8 rec x.1 x.2.1 x.2.2.1 x.2.2.2) n
def law14_HeadLines (F : Nat) (a1 : List UInt8) (a2 : List UInt8) : Option Bool :=
bnd (law14_awake F) fun x4 =>
bnd (law14_Few F ([(a1, a2)] : List ((List UInt8) × List UInt8)) 1) fun x6 =>
bnd2 (head_Line F a1 a2) fun x8 x9 =>
bif ((!x4) || (!x6)) || (!decide (x9 = 0)) then
  some x4
else
  law14_HeadLines_L1 x8 F (0, 0, true, 0)
end Go.Pv
namespace Go.Proofs.YtiahdbdkjjmfiaaDoor
open Go.RowKit Go.Av Go.Pv
theorem en9_lheadlines : ∀ (args : Array Value) (w : World), (callFunc 9 args).run Tryd.prog w = .ok (.enter 9 args) w := fun _ _ => by kernel_rfl
theorem en10_lheadlines : ∀ (args : Array Value) (w : World), (callFunc 10 args).run Tryd.prog w = .ok (.enter 10 args) w := fun _ _ => by kernel_rfl
theorem en11_lheadlines : ∀ (args : Array Value) (w : World), (callFunc 11 args).run Tryd.prog w = .ok (.enter 11 args) w := fun _ _ => by kernel_rfl
set_option maxRecDepth 100000 in
set_option maxHeartbeats 1000000 in
theorem w_law14_HeadLines (F : Nat) (a1 : List UInt8) (a2 : List UInt8) (r3 : Bool) (H : law14_HeadLines F a1 a2 = some r3) : ACalls Tryd.prog 4 [.agg [S a1, S a2]] [] (Ret (B r3) []) := by
 unfold law14_HeadLines at H
 refine ACalls.of_body Tryd.func4 rfl rfl ?_
 show AW _ _ 111 _ _ _
 refine AW.seq ?_
 refine AW.region ?_
 show AR _ _ _ _ _ [0, 1] _
 refine sR rfl rfl rfl (opR_boxCp rfl (.inr ⟨_, rfl⟩)) ?_
 refine sS rfl rfl rfl (asg rfl) ?_
 refine AR.nil ?_
 show AW _ _ _ _ _ _
 refine AW.seq ?_
 obtain ⟨x4, e5, H⟩ := bnd_s H
 refine AW.region ?_
 show AR _ _ _ _ _ [0, 1] _
 refine AR.run rfl rfl (AO.callp rfl en9_lheadlines rfl (w_law14_awake F x4 e5) ?_)
 refine sS rfl rfl rfl (asg rfl) ?_
 refine AR.nil ?_
 show AW _ _ _ _ _ _
 refine AW.seq ?_
 obtain ⟨x6, e7, H⟩ := bnd_s H
 refine AW.region ?_
 show AR _ _ _ _ _ [0, 1, 2, 3] _
 refine sS rfl rfl rfl (opS_load_cp_agg Tryd.underlying23 rfl (n := 2) (by kernel_rfl) rfl (Nat.le_of_ble_eq_true rfl)) ?_
 refine sR rfl rfl rfl (opR_buildBig (E := (Enc.prod Enc.str Enc.str)) (bytes := 32) (zs := [.string ⟨#[]⟩, .string ⟨#[]⟩]) (l := ([(a1, a2)] : List ((List UInt8) × List UInt8))) Tryd.underlying27 (by kernel_rfl) (by kernel_rfl) rfl rfl rfl rfl rfl) ?_
 refine AR.run rfl rfl (AO.callp rfl en10_lheadlines rfl (w_law14_Few F ([(a1, a2)] : List ((List UInt8) × List UInt8)) none 1 x6 e7) ?_)
 refine sS rfl rfl rfl (asg rfl) ?_
 refine AR.nil ?_
 show AW _ _ _ _ _ _
 refine AW.seq ?_
 obtain ⟨x8, x9, e10, H⟩ := bnd2_s H
 refine AW.region ?_
 show AR _ _ _ _ _ [0, 1, 2, 3, 4, 5, 6] _
 refine sS rfl rfl rfl (opS_load_cp_agg Tryd.underlying23 rfl (n := 2) (by kernel_rfl) rfl (Nat.le_of_ble_eq_true rfl)) ?_
 refine AR.run rfl rfl (AO.callp rfl en11_lheadlines rfl (w_head_Line F a1 a2 x8 x9 e10) ?_)
 refine sS rfl rfl rfl (opS_move (av := .tup _) rfl) ?_
 refine sS rfl rfl rfl (opS_extract (av := slE _ _ _) rfl rfl) ?_
 refine sS rfl rfl rfl (opS_extract (av := .v _) rfl rfl) ?_
 refine sS rfl rfl rfl (opS_assign (av := slE _ _ _) rfl) ?_
 refine sS rfl rfl rfl (asg rfl) ?_
 refine AR.nil ?_
 show AW _ _ _ _ _ _
 refine AW.seq ?_
 refine AW.seq ?_
 refine AW.region ?_
 show AR _ _ _ _ _ [0, 1, 2, 3, 4, 5, 6, 7, 8, 9] _
 refine sS rfl rfl rfl (mv rfl) ?_
 refine sS rfl rfl rfl (opS_not rfl) ?_
 refine sS rfl rfl rfl (mv rfl) ?_
 refine AR.meet (l := [6, 7, 8, 9]) 25 (B ((!x4) || (!x6))) (fun K => ?_) ?_
 ·rcases Bool.eq_false_or_eq_true (!x4) with h11 | h11
  ·
   refine gF h11 rfl rfl rfl rfl rfl ?_
   refine gF h11 rfl rfl rfl rfl rfl ?_
   refine sS rfl rfl rfl (opS_pick_t (av := .v _) rfl h11 rfl) ?_
   exact K _ 2 _ (B_congr (or_t h11)) rfl rfl
  ·
   refine gT h11 rfl rfl rfl rfl rfl rfl (AO.ops rfl rfl (mv rfl) ?_)
   refine gT h11 rfl rfl rfl rfl rfl rfl (AO.ops rfl rfl (opS_not rfl) ?_)
   refine sS rfl rfl rfl (opS_pick_f (av := .v _) rfl h11 rfl) ?_
   exact K _ 2 _ (B_congr (or_f h11)) rfl rfl
 refine sS rfl rfl rfl (mv rfl) ?_
 refine AR.meet (l := []) 29 (B (((!x4) || (!x6)) || (!decide (x9 = 0)))) (fun K => ?_) ?_
 ·rcases Bool.eq_false_or_eq_true ((!x4) || (!x6)) with h12 | h12
  ·
   refine gF h12 rfl rfl rfl rfl rfl ?_
   refine gF h12 rfl rfl rfl rfl rfl ?_
   refine sS rfl rfl rfl (opS_pick_t (av := .v _) rfl h12 rfl) ?_
   exact K _ 2 _ (B_congr (or_t h12)) rfl rfl
  ·
   refine gT h12 rfl rfl rfl rfl rfl rfl (AO.ops rfl rfl (mv rfl) ?_)
   refine gT h12 rfl rfl rfl rfl rfl rfl (AO.ops rfl rfl (opS_nei rfl rfl) ?_)
   refine sS rfl rfl rfl (opS_pick_f (av := .v _) rfl h12 rfl) ?_
   exact K _ 2 _ (B_congr (or_f h12)) rfl rfl
 refine AR.nil ?_
 show AW _ _ _ _ _ _
 refine AW.cond rfl (fun c13 => ?_) (fun c13 => ?_)
 ·replace H := cnd_t c13 H
  refine AW.seq ?_
  refine AW.region ?_
  show AR _ _ _ _ _ [0, 1] _
  refine sS rfl rfl rfl (mv rfl) ?_
  refine sS rfl rfl rfl (asg rfl) ?_
  refine AR.nil ?_
  show AW _ _ _ _ _ _
  refine AW.ret ?_
  obtain rfl := Option.some.inj H
  exact And.intro rfl (Exists.intro _ (Exists.intro _ ⟨ResV.oneW rfl (.refl _), Sub.at [] rfl, rfl, rfl⟩))
 ·replace H := cnd_f c13 H
  refine AW.skip ?_
  show AW _ _ _ _ _ _
  refine AW.seq ?_
  refine AW.region ?_
  show AR _ _ _ _ _ [0] _
  refine sS rfl rfl rfl (asg rfl) ?_
  refine AR.nil ?_
  show AW _ _ _ _ _ _
  refine AW.seq ?_
  refine AW.region ?_
  show AR _ _ _ _ _ [0] _
  refine sS rfl rfl rfl (asg rfl) ?_
  refine AR.nil ?_
  show AW _ _ _ _ _ _
  refine AW.seq ?_
  refine AW.region ?_
  show AR _ _ _ _ _ [0] _
  refine sS rfl rfl rfl (asg rfl) ?_
  refine AR.nil ?_
  show AW _ _ _ _ _ _
  refine AW.cut (X := Int) (fun y65 => ⟨[(5, slE Enc.byte x8 none), (7, i64 y65)], [], []⟩) (fun y65 => law14_HeadLines_j1 x8 y65 = some r3) ?_ ?_
  ·
   refine AW.seq ?_
   refine AW.region ?_
   show AR _ _ _ _ _ [0] _
   refine sS rfl rfl rfl (asg rfl) ?_
   refine AR.nil ?_
   show AW _ _ _ _ _ _
   refine AW.block ?_
   refine AW.loop (X := Nat × Int × Int × Bool × Int) (fun (n19, y14, y15, y16, y17) => ⟨[(5, slE Enc.byte x8 none), (7, i64 y14), (8, i64 y15), (9, B y16), (10, i64 y17)], [], []⟩) (fun (n19, y14, y15, y16, y17) => law14_HeadLines_L1 x8 n19 (y14, y15, y16, y17) = some r3) (fun (n19, y14, y15, y16, y17) => n19) (F, 0, 0, true, 0) H (WK.at [] (.cons (.refl _) (.cons (.refl _) (.cons (.refl _) (.cons (.refl _) (.cons (.refl _) (.nil _)))))) rfl) ?_
   rintro ⟨n19, y14, y15, y16, y17⟩ H
   obtain ⟨n19, rfl, H⟩ := loop_s H
   replace H : law14_HeadLines_B1 x8 (law14_HeadLines_L1 x8 n19) y14 y15 y16 y17 = some r3 := H
   unfold law14_HeadLines_B1 at H
   show AW _ _ _ _ _ _
   refine AW.seq ?_
   refine AW.seq ?_
   refine AW.region ?_
   show AR _ _ _ _ _ [0, 1, 2, 3] _
   refine sS rfl rfl rfl (mv rfl) ?_
   refine sS rfl rfl rfl (opS_move (av := slE _ _ _) rfl) ?_
   refine sS rfl rfl rfl (opS_len_sl Tryd.underlying24 rfl) ?_
   refine sS rfl rfl rfl (opS_lt rfl rfl) ?_
   refine AR.nil ?_
   show AW _ _ _ _ _ _
   refine AW.cond rfl (fun c20 => ?_) (fun c20 => ?_)
   ·replace H := cnd_t c20 H
    refine AW.skip ?_
    show AW _ _ _ _ _ _
    refine AW.cut (X := Int × Int × Bool) (fun (y60, y61, y62) => ⟨[(5, slE Enc.byte x8 none), (7, i64 y60), (8, i64 y61), (9, B y62), (10, i64 y17)], [], []⟩) (fun (y60, y61, y62) => law14_HeadLines_j2 y17 (law14_HeadLines_L1 x8 n19) y60 y61 y62 = some r3) ?_ ?_
    ·
     refine AW.block ?_
     refine AW.seq ?_
     refine AW.seq ?_
     obtain ⟨g21, H⟩ := grd_s H
     obtain ⟨x22, e23, H⟩ := lt_s H
     refine AW.region ?_
     show AR _ _ _ _ _ [0, 1, 2, 3, 4] _
     refine sS rfl rfl rfl (opS_move (av := slE _ _ _) rfl) ?_
     refine sS rfl rfl rfl (mv rfl) ?_
     refine sS rfl rfl rfl (g_indexAddr (E := Enc.byte) Tryd.underlying24 (by kernel_rfl) rfl rfl g21 e23) ?_
     refine sS rfl rfl rfl (opS_load_cp Tryd.underlying5 rfl rfl) ?_
     refine sS rfl rfl rfl (g_eq8 (a := x22) (b := 13) rfl rfl) ?_
     refine AR.nil ?_
     show AW _ _ _ _ _ _
     refine AW.cond rfl (fun c24 => ?_) (fun c24 => ?_)
     ·replace H := cnd_t c24 H
      refine AW.seq ?_
      refine AW.seq ?_
      obtain ⟨g25, H⟩ := grd_s H
      obtain ⟨g27, H⟩ := grdc_s H
      obtain ⟨g28, H⟩ := grdc_s H
      obtain ⟨x29, e30, H⟩ := lt_s H
      refine AW.region ?_
      show AR _ _ _ _ _ [0, 1, 2, 3, 4, 5, 6, 7, 8, 9, 10, 11, 12, 13, 14, 15, 16, 17, 18, 19, 20] _
      refine sS rfl rfl rfl (mv rfl) ?_
      refine sS rfl rfl rfl (g_add rfl rfl g25) ?_
      refine sS rfl rfl rfl (opS_move (av := slE _ _ _) rfl) ?_
      refine sS rfl rfl rfl (opS_len_sl Tryd.underlying24 rfl) ?_
      refine sS rfl rfl rfl (opS_ge rfl rfl) ?_
      refine sS rfl rfl rfl (mv rfl) ?_
      refine AR.meet (l := [13, 14, 15, 16, 17, 18, 19, 20]) 54 (B ((decide ((x8.length : Int) ≤ y17 + 1)) || (!decide (x29 = 10)))) (fun K => ?_) ?_
      ·rcases Bool.eq_false_or_eq_true (decide ((x8.length : Int) ≤ y17 + 1)) with h26 | h26
       ·
        refine gF h26 rfl rfl rfl rfl rfl ?_
        refine gF h26 rfl rfl rfl rfl rfl ?_
        refine gF h26 rfl rfl rfl rfl rfl ?_
        refine gF h26 rfl rfl rfl rfl rfl ?_
        refine gF h26 rfl rfl rfl rfl rfl ?_
        refine gF h26 rfl rfl rfl rfl rfl ?_
        refine sS rfl rfl rfl (opS_pick_t (av := .v _) rfl h26 rfl) ?_
        exact K _ 6 _ (B_congr (or_t h26)) rfl rfl
       ·
        refine gT h26 rfl rfl rfl rfl rfl rfl (AO.ops rfl rfl (opS_move (av := slE _ _ _) rfl) ?_)
        refine gT h26 rfl rfl rfl rfl rfl rfl (AO.ops rfl rfl (mv rfl) ?_)
        refine gT h26 rfl rfl rfl rfl rfl rfl (AO.ops rfl rfl (g_add rfl rfl (g27 (nf h26))) ?_)
        refine gT h26 rfl rfl rfl rfl rfl rfl (AO.ops rfl rfl (g_indexAddr (E := Enc.byte) Tryd.underlying24 (by kernel_rfl) rfl rfl (g28 (nf h26)) e30) ?_)
        refine gT h26 rfl rfl rfl rfl rfl rfl (AO.ops rfl rfl (opS_load_cp Tryd.underlying5 rfl rfl) ?_)
        refine gT h26 rfl rfl rfl rfl rfl rfl (AO.ops rfl rfl (g_ne8 (a := x29) (b := 10) rfl rfl) ?_)
        refine sS rfl rfl rfl (opS_pick_f (av := .v _) rfl h26 rfl) ?_
        exact K _ 6 _ (B_congr (or_f h26)) rfl rfl
      refine sS rfl rfl rfl (mv rfl) ?_
      refine AR.meet (l := []) 62 (B (((decide ((x8.length : Int) ≤ y17 + 1)) || (!decide (x29 = 10))) || ((decide (76 < y14)) && (decide (1 < y15))))) (fun K => ?_) ?_
      ·rcases Bool.eq_false_or_eq_true ((decide ((x8.length : Int) ≤ y17 + 1)) || (!decide (x29 = 10))) with h31 | h31
       ·
        refine gF h31 rfl rfl rfl rfl rfl ?_
        refine gF h31 rfl rfl rfl rfl rfl ?_
        refine gF h31 rfl rfl rfl rfl rfl ?_
        refine gU rfl rfl rfl rfl rfl ?_
        refine gU rfl rfl rfl rfl rfl ?_
        refine gF h31 rfl rfl rfl rfl rfl ?_
        refine sS rfl rfl rfl (opS_pick_t (av := .v _) rfl h31 rfl) ?_
        exact K _ 6 _ (B_congr (or_t h31)) rfl rfl
       ·
        refine gT h31 rfl rfl rfl rfl rfl rfl (AO.ops rfl rfl (mv rfl) ?_)
        refine gT h31 rfl rfl rfl rfl rfl rfl (AO.ops rfl rfl (opS_gt rfl rfl) ?_)
        refine gT h31 rfl rfl rfl rfl rfl rfl (AO.ops rfl rfl (mv rfl) ?_)
        refine AR.meet (l := [20]) 61 (B ((decide (76 < y14)) && (decide (1 < y15)))) (fun K => ?_) ?_
        ·rcases Bool.eq_false_or_eq_true (decide (76 < y14)) with h32 | h32
         ·
          refine gT h32 rfl rfl rfl rfl rfl rfl (AO.ops rfl rfl (mv rfl) ?_)
          refine gT h32 rfl rfl rfl rfl rfl rfl (AO.ops rfl rfl (opS_gt rfl rfl) ?_)
          refine gT h31 rfl rfl rfl rfl rfl rfl (AO.ops rfl rfl (opS_pick_t (av := .v _) rfl h32 rfl) ?_)
          exact K _ 2 _ (B_congr (and_t h32)) rfl rfl
         ·
          refine gF h32 rfl rfl rfl rfl rfl ?_
          refine gF h32 rfl rfl rfl rfl rfl ?_
          refine gT h31 rfl rfl rfl rfl rfl rfl (AO.ops rfl rfl (opS_pick_f (av := .v _) rfl h32 rfl) ?_)
          exact K _ 2 _ (B_congr (and_f h32)) rfl rfl
        refine sS rfl rfl rfl (opS_pick_f (av := .v _) rfl h31 rfl) ?_
        exact K _ 4 _ (B_congr (or_f h31)) rfl rfl
      refine AR.nil ?_
      show AW _ _ _ _ _ _
      refine AW.cond rfl (fun c33 => ?_) (fun c33 => ?_)
      ·replace H := cnd_t c33 H
       refine AW.seq ?_
       refine AW.region ?_
       show AR _ _ _ _ _ [0] _
       refine sS rfl rfl rfl (asg rfl) ?_
       refine AR.nil ?_
       show AW _ _ _ _ _ _
       refine AW.ret ?_
       obtain rfl := Option.some.inj H
       exact And.intro rfl (Exists.intro _ (Exists.intro _ ⟨ResV.oneW rfl (.refl _), Sub.at [] rfl, rfl, rfl⟩))
      ·replace H := cnd_f c33 H
       refine AW.skip ?_
       show AW _ _ _ _ _ _
       refine AW.exit ?_
       exact Exists.intro (y14, y15, y16) ⟨H, WK.at [] (.cons (.refl _) (.cons (.refl _) (.cons (.refl _) (.cons (.refl _) (.cons (.refl _) (.nil _)))))) rfl⟩
     ·replace H := cnd_f c24 H
      refine AW.skip ?_
      show AW _ _ _ _ _ _
      refine AW.seq ?_
      refine AW.seq ?_
      obtain ⟨g34, H⟩ := grd_s H
      obtain ⟨x35, e36, H⟩ := lt_s H
      refine AW.region ?_
      show AR _ _ _ _ _ [0, 1, 2, 3, 4] _
      refine sS rfl rfl rfl (opS_move (av := slE _ _ _) rfl) ?_
      refine sS rfl rfl rfl (mv rfl) ?_
      refine sS rfl rfl rfl (g_indexAddr (E := Enc.byte) Tryd.underlying24 (by kernel_rfl) rfl rfl g34 e36) ?_
      refine sS rfl rfl rfl (opS_load_cp Tryd.underlying5 rfl rfl) ?_
      refine sS rfl rfl rfl (g_eq8 (a := x35) (b := 10) rfl rfl) ?_
      refine AR.nil ?_
      show AW _ _ _ _ _ _
      refine AW.cond rfl (fun c37 => ?_) (fun c37 => ?_)
      ·replace H := cnd_t c37 H
       refine AW.seq ?_
       refine AW.region ?_
       show AR _ _ _ _ _ [0] _
       refine sS rfl rfl rfl (asg rfl) ?_
       refine AR.nil ?_
       show AW _ _ _ _ _ _
       refine AW.seq ?_
       refine AW.region ?_
       show AR _ _ _ _ _ [0] _
       refine sS rfl rfl rfl (asg rfl) ?_
       refine AR.nil ?_
       show AW _ _ _ _ _ _
       refine AW.seq ?_
       refine AW.region ?_
       show AR _ _ _ _ _ [0] _
       refine sS rfl rfl rfl (asg rfl) ?_
       refine AR.nil ?_
       show AW _ _ _ _ _ _
       refine AW.exit ?_
       exact Exists.intro (0, 0, false) ⟨H, WK.at [] (.cons (.refl _) (.cons (.refl _) (.cons (.refl _) (.cons (.refl _) (.cons (.refl _) (.nil _)))))) rfl⟩
      ·replace H := cnd_f c37 H
       refine AW.skip ?_
       show AW _ _ _ _ _ _
       refine AW.seq ?_
       refine AW.seq ?_
       obtain ⟨g38, H⟩ := grd_s H
       obtain ⟨x39, e40, H⟩ := lt_s H
       obtain ⟨g42, H⟩ := grdc_s H
       obtain ⟨x43, e44, H⟩ := lt_s H
       obtain ⟨g48, H⟩ := grdc_s H
       obtain ⟨x49, e50, H⟩ := lt_s H
       refine AW.region ?_
       show AR _ _ _ _ _ [0, 1, 2, 3, 4, 5, 6, 7, 8, 9, 10, 11, 12, 13, 14, 15, 16, 17, 18, 19, 20, 21, 22, 23, 24, 25, 26] _
       refine sS rfl rfl rfl (opS_move (av := slE _ _ _) rfl) ?_
       refine sS rfl rfl rfl (mv rfl) ?_
       refine sS rfl rfl rfl (g_indexAddr (E := Enc.byte) Tryd.underlying24 (by kernel_rfl) rfl rfl g38 e40) ?_
       refine sS rfl rfl rfl (opS_load_cp Tryd.underlying5 rfl rfl) ?_
       refine sS rfl rfl rfl (opS_lt rfl rfl) ?_
       refine sS rfl rfl rfl (mv rfl) ?_
       refine AR.meet (l := [12, 13, 14, 15, 16, 17, 18, 19, 20, 21, 22, 23, 24, 25, 26]) 79 (B ((decide ((x39.toNat : Int) < 32)) || (decide (126 < (x43.toNat : Int))))) (fun K => ?_) ?_
       ·rcases Bool.eq_false_or_eq_true (decide ((x39.toNat : Int) < 32)) with h41 | h41
        ·
         refine gF h41 rfl rfl rfl rfl rfl ?_
         refine gF h41 rfl rfl rfl rfl rfl ?_
         refine gF h41 rfl rfl rfl rfl rfl ?_
         refine gF h41 rfl rfl rfl rfl rfl ?_
         refine gF h41 rfl rfl rfl rfl rfl ?_
         refine sS rfl rfl rfl (opS_pick_t (av := .v _) rfl h41 rfl) ?_
         exact K _ 5 _ (B_congr (or_t h41)) rfl rfl
        ·
         refine gT h41 rfl rfl rfl rfl rfl rfl (AO.ops rfl rfl (opS_move (av := slE _ _ _) rfl) ?_)
         refine gT h41 rfl rfl rfl rfl rfl rfl (AO.ops rfl rfl (mv rfl) ?_)
         refine gT h41 rfl rfl rfl rfl rfl rfl (AO.ops rfl rfl (g_indexAddr (E := Enc.byte) Tryd.underlying24 (by kernel_rfl) rfl rfl (g42 (nf h41)) e44) ?_)
         refine gT h41 rfl rfl rfl rfl rfl rfl (AO.ops rfl rfl (opS_load_cp Tryd.underlying5 rfl rfl) ?_)
         refine gT h41 rfl rfl rfl rfl rfl rfl (AO.ops rfl rfl (opS_gt rfl rfl) ?_)
         refine sS rfl rfl rfl (opS_pick_f (av := .v _) rfl h41 rfl) ?_
         exact K _ 5 _ (B_congr (or_f h41)) rfl rfl
       refine sS rfl rfl rfl (mv rfl) ?_
       refine AR.meet (l := []) 94 (B (((decide ((x39.toNat : Int) < 32)) || (decide (126 < (x43.toNat : Int)))) || (((decide (y14 = 0)) && (!y16)) && (!decide (x49 = 32))))) (fun K => ?_) ?_
       ·rcases Bool.eq_false_or_eq_true ((decide ((x39.toNat : Int) < 32)) || (decide (126 < (x43.toNat : Int)))) with h45 | h45
        ·
         refine gF h45 rfl rfl rfl rfl rfl ?_
         refine gF h45 rfl rfl rfl rfl rfl ?_
         refine gF h45 rfl rfl rfl rfl rfl ?_
         refine gU rfl rfl rfl rfl rfl ?_
         refine gU rfl rfl rfl rfl rfl ?_
         refine gF h45 rfl rfl rfl rfl rfl ?_
         refine gF h45 rfl rfl rfl rfl rfl ?_
         refine gU rfl rfl rfl rfl rfl ?_
         refine gU rfl rfl rfl rfl rfl ?_
         refine gU rfl rfl rfl rfl rfl ?_
         refine gU rfl rfl rfl rfl rfl ?_
         refine gU rfl rfl rfl rfl rfl ?_
         refine gF h45 rfl rfl rfl rfl rfl ?_
         refine sS rfl rfl rfl (opS_pick_t (av := .v _) rfl h45 rfl) ?_
         exact K _ 13 _ (B_congr (or_t h45)) rfl rfl
        ·
         refine gT h45 rfl rfl rfl rfl rfl rfl (AO.ops rfl rfl (mv rfl) ?_)
         refine gT h45 rfl rfl rfl rfl rfl rfl (AO.ops rfl rfl (opS_eqi rfl rfl) ?_)
         refine gT h45 rfl rfl rfl rfl rfl rfl (AO.ops rfl rfl (mv rfl) ?_)
         refine AR.meet (l := [19, 20, 21, 22, 23, 24, 25, 26]) 86 (B ((decide (y14 = 0)) && (!y16))) (fun K => ?_) ?_
         ·rcases Bool.eq_false_or_eq_true (decide (y14 = 0)) with h46 | h46
          ·
           refine gT h46 rfl rfl rfl rfl rfl rfl (AO.ops rfl rfl (mv rfl) ?_)
           refine gT h46 rfl rfl rfl rfl rfl rfl (AO.ops rfl rfl (opS_not rfl) ?_)
           refine gT h45 rfl rfl rfl rfl rfl rfl (AO.ops rfl rfl (opS_pick_t (av := .v _) rfl h46 rfl) ?_)
           exact K _ 2 _ (B_congr (and_t h46)) rfl rfl
          ·
           refine gF h46 rfl rfl rfl rfl rfl ?_
           refine gF h46 rfl rfl rfl rfl rfl ?_
           refine gT h45 rfl rfl rfl rfl rfl rfl (AO.ops rfl rfl (opS_pick_f (av := .v _) rfl h46 rfl) ?_)
           exact K _ 2 _ (B_congr (and_f h46)) rfl rfl
         refine gT h45 rfl rfl rfl rfl rfl rfl (AO.ops rfl rfl (mv rfl) ?_)
         refine AR.meet (l := [26]) 93 (B (((decide (y14 = 0)) && (!y16)) && (!decide (x49 = 32)))) (fun K => ?_) ?_
         ·rcases Bool.eq_false_or_eq_true ((decide (y14 = 0)) && (!y16)) with h47 | h47
          ·
           refine gT h47 rfl rfl rfl rfl rfl rfl (AO.ops rfl rfl (opS_move (av := slE _ _ _) rfl) ?_)
           refine gT h47 rfl rfl rfl rfl rfl rfl (AO.ops rfl rfl (mv rfl) ?_)
           refine gT h47 rfl rfl rfl rfl rfl rfl (AO.ops rfl rfl (g_indexAddr (E := Enc.byte) Tryd.underlying24 (by kernel_rfl) rfl rfl (g48 (and_tt (nf h45) h47)) e50) ?_)
           refine gT h47 rfl rfl rfl rfl rfl rfl (AO.ops rfl rfl (opS_load_cp Tryd.underlying5 rfl rfl) ?_)
           refine gT h47 rfl rfl rfl rfl rfl rfl (AO.ops rfl rfl (g_ne8 (a := x49) (b := 32) rfl rfl) ?_)
           refine gT h45 rfl rfl rfl rfl rfl rfl (AO.ops rfl rfl (opS_pick_t (av := .v _) rfl h47 rfl) ?_)
           exact K _ 5 _ (B_congr (and_t h47)) rfl rfl
          ·
           refine gF h47 rfl rfl rfl rfl rfl ?_
           refine gF h47 rfl rfl rfl rfl rfl ?_
           refine gF h47 rfl rfl rfl rfl rfl ?_
           refine gF h47 rfl rfl rfl rfl rfl ?_
           refine gF h47 rfl rfl rfl rfl rfl ?_
           refine gT h45 rfl rfl rfl rfl rfl rfl (AO.ops rfl rfl (opS_pick_f (av := .v _) rfl h47 rfl) ?_)
           exact K _ 5 _ (B_congr (and_f h47)) rfl rfl
         refine sS rfl rfl rfl (opS_pick_f (av := .v _) rfl h45 rfl) ?_
         exact K _ 6 _ (B_congr (or_f h45)) rfl rfl
       refine AR.nil ?_
       show AW _ _ _ _ _ _
       refine AW.cond rfl (fun c51 => ?_) (fun c51 => ?_)
       ·replace H := cnd_t c51 H
        refine AW.seq ?_
        refine AW.region ?_
        show AR _ _ _ _ _ [0] _
        refine sS rfl rfl rfl (asg rfl) ?_
        refine AR.nil ?_
        show AW _ _ _ _ _ _
        refine AW.ret ?_
        obtain rfl := Option.some.inj H
        exact And.intro rfl (Exists.intro _ (Exists.intro _ ⟨ResV.oneW rfl (.refl _), Sub.at [] rfl, rfl, rfl⟩))
       ·replace H := cnd_f c51 H
        refine AW.skip ?_
        show AW _ _ _ _ _ _
        refine AW.cut (X := Int) (fun y57 => ⟨[(5, slE Enc.byte x8 none), (7, i64 y14), (8, i64 y57), (9, B y16), (10, i64 y17)], [], []⟩) (fun y57 => law14_HeadLines_j3 y14 y16 y17 (law14_HeadLines_L1 x8 n19) y57 = some r3) ?_ ?_
        ·
         refine AW.seq ?_
         obtain ⟨g52, H⟩ := grd_s H
         obtain ⟨x53, e54, H⟩ := lt_s H
         refine AW.region ?_
         show AR _ _ _ _ _ [0, 1, 2, 3, 4] _
         refine sS rfl rfl rfl (opS_move (av := slE _ _ _) rfl) ?_
         refine sS rfl rfl rfl (mv rfl) ?_
         refine sS rfl rfl rfl (g_indexAddr (E := Enc.byte) Tryd.underlying24 (by kernel_rfl) rfl rfl g52 e54) ?_
         refine sS rfl rfl rfl (opS_load_cp Tryd.underlying5 rfl rfl) ?_
         refine sS rfl rfl rfl (g_eq8 (a := x53) (b := 32) rfl rfl) ?_
         refine AR.nil ?_
         show AW _ _ _ _ _ _
         refine AW.cond rfl (fun c55 => ?_) (fun c55 => ?_)
         ·replace H := cnd_t c55 H
          obtain ⟨g56, H⟩ := grd_s H
          refine AW.region ?_
          show AR _ _ _ _ _ [0, 1, 2] _
          refine sS rfl rfl rfl (mv rfl) ?_
          refine sS rfl rfl rfl (g_add rfl rfl g56) ?_
          refine sS rfl rfl rfl (asg rfl) ?_
          refine AR.nil ?_
          exact Exists.intro (y15 + 1) ⟨H, WK.at [] (.cons (.refl _) (.cons (.refl _) (.cons (.refl _) (.cons (.refl _) (.cons (.refl _) (.nil _)))))) rfl⟩
         ·replace H := cnd_f c55 H
          refine AW.skip ?_
          exact Exists.intro y15 ⟨H, WK.at [] (.cons (.refl _) (.cons (.refl _) (.cons (.refl _) (.cons (.refl _) (.cons (.refl _) (.nil _)))))) rfl⟩
        rintro y57 H
        replace H : law14_HeadLines_j3 y14 y16 y17 (law14_HeadLines_L1 x8 n19) y57 = some r3 := H
        unfold law14_HeadLines_j3 at H
        show AW _ _ _ _ _ _
        obtain ⟨g59, H⟩ := grd_s H
        refine AW.region ?_
        show AR _ _ _ _ _ [0, 1, 2] _
        refine sS rfl rfl rfl (mv rfl) ?_
        refine sS rfl rfl rfl (g_add rfl rfl g59) ?_
        refine sS rfl rfl rfl (asg rfl) ?_
        refine AR.nil ?_
        exact Exists.intro (y14 + 1, y57, y16) ⟨H, WK.at [] (.cons (.refl _) (.cons (.refl _) (.cons (.refl _) (.cons (.refl _) (.cons (.refl _) (.nil _)))))) rfl⟩
    rintro ⟨y60, y61, y62⟩ H
    replace H : law14_HeadLines_j2 y17 (law14_HeadLines_L1 x8 n19) y60 y61 y62 = some r3 := H
    unfold law14_HeadLines_j2 at H
    show AW _ _ _ _ _ _
    obtain ⟨g64, H⟩ := grd_s H
    refine AW.region ?_
    show AR _ _ _ _ _ [0, 1, 2] _
    refine sS rfl rfl rfl (mv rfl) ?_
    refine sS rfl rfl rfl (g_add rfl rfl g64) ?_
    refine sS rfl rfl rfl (asg rfl) ?_
    refine AR.nil ?_
    exact Exists.intro (n19, y60, y61, y62, y17 + 1) ⟨H, Nat.lt_succ_self _, WK.at [] (.cons (.refl _) (.cons (.refl _) (.cons (.refl _) (.cons (.refl _) (.cons (.refl _) (.nil _)))))) rfl⟩
   ·replace H := cnd_f c20 H
    refine AW.exit ?_
    exact Exists.intro y14 ⟨H, WK.at [] (.cons (.refl _) (.cons (.refl _) (.nil _))) rfl⟩
  rintro y65 H
  replace H : law14_HeadLines_j1 x8 y65 = some r3 := H
  unfold law14_HeadLines_j1 at H
  show AW _ _ _ _ _ _
  refine AW.seq ?_
  refine AW.region ?_
  show AR _ _ _ _ _ [0, 1, 2, 3, 4, 5, 6, 7] _
  refine sS rfl rfl rfl (mv rfl) ?_
  refine sS rfl rfl rfl (opS_eqi rfl rfl) ?_
  refine sS rfl rfl rfl (mv rfl) ?_
  refine AR.meet (l := [7]) 110 (B ((decide (y65 = 0)) && (decide (2 ≤ (x8.length : Int))))) (fun K => ?_) ?_
  ·rcases Bool.eq_false_or_eq_true (decide (y65 = 0)) with h67 | h67
   ·
    refine gT h67 rfl rfl rfl rfl rfl rfl (AO.ops rfl rfl (opS_move (av := slE _ _ _) rfl) ?_)
    refine gT h67 rfl rfl rfl rfl rfl rfl (AO.ops rfl rfl (opS_len_sl Tryd.underlying24 rfl) ?_)
    refine gT h67 rfl rfl rfl rfl rfl rfl (AO.ops rfl rfl (opS_ge rfl rfl) ?_)
    refine sS rfl rfl rfl (opS_pick_t (av := .v _) rfl h67 rfl) ?_
    exact K _ 3 _ (B_congr (and_t h67)) rfl rfl
   ·
    refine gF h67 rfl rfl rfl rfl rfl ?_
    refine gF h67 rfl rfl rfl rfl rfl ?_
    refine gF h67 rfl rfl rfl rfl rfl ?_
    refine sS rfl rfl rfl (opS_pick_f (av := .v _) rfl h67 rfl) ?_
    exact K _ 3 _ (B_congr (and_f h67)) rfl rfl
  refine sS rfl rfl rfl (asg rfl) ?_
  refine AR.nil ?_
  show AW _ _ _ _ _ _
  refine AW.ret ?_
  obtain rfl := Option.some.inj H
  exact And.intro rfl (Exists.intro _ (Exists.intro _ ⟨ResV.oneW rfl (.refl _), Sub.at [] rfl, rfl, rfl⟩))
end Go.Proofs.YtiahdbdkjjmfiaaDoor
namespace Go.Hd
open Go.Pv Go.Av
abbrev Bs := List UInt8
def sp (c : UInt8) : Bs → List Bs
  | [] => [[]]
  | b :: r => if b = c then [] :: sp c r else match sp c r with
    | [] => [[b]]
    | p :: ps => (b :: p) :: ps
theorem sp_ne (c : UInt8) (s : Bs) : sp c s ≠ [] := by
  cases s with
  | nil => simp [sp]
  | cons b r => unfold sp; split; simp; split <;> simp
theorem index_one_cons (b c : UInt8) (l : Bs) : Go.Lib.index (b :: l) [c] = if b = c then 0 else if Go.Lib.index l [c] = -1 then -1 else Go.Lib.index l [c] + 1 := by
  by_cases h : b = c
  · subst h; simp [Go.Lib.index]
  · simp [Go.Lib.index, h, Ne.symm h]
def prep (cur : Bs) : List Bs → List Bs
  | [] => [cur]
  | p :: ps => (cur ++ p) :: ps
theorem sp_cons_ne {b c : UInt8} (h : ¬ b = c) (r : Bs) : sp c (b :: r) = prep [b] (sp c r) := by
  simp only [sp, h, if_false]
  cases sp c r <;> rfl
theorem sp_cons_eq (c : UInt8) (r : Bs) : sp c (c :: r) = [] :: sp c r := by simp [sp]
theorem splitK_eq (c : UInt8) : ∀ (s : Bs), Go.Lib.splitK [c] 0 (s.count c) s = sp c s
  | [] => rfl
  | b :: l => by
    have ih := splitK_eq c l
    have hi := index_one_cons b c l
    have hge := Go.Lib.index_ge l [c]
    by_cases h : b = c
    · subst h
      rw [List.count_cons_self, sp_cons_eq, Go.Lib.splitK, hi]
      simp [ih]
    · rw [List.count_cons_of_ne h, sp_cons_ne h, ← ih]
      cases hk : l.count c with
      | zero => simp [Go.Lib.splitK, prep]
      | succ k =>
        rw [Go.Lib.splitK, Go.Lib.splitK, hi]
        simp only [h, if_false]
        by_cases hm : Go.Lib.index l [c] = -1
        · simp [hm, prep]
        · obtain ⟨j, hj⟩ := Int.eq_ofNat_of_zero_le (show 0 ≤ Go.Lib.index l [c] by omega)
          have h2 : ¬ (Go.Lib.index l [c] + 1 = -1) := by omega
          have h3 : (Go.Lib.index l [c] + 1).toNat = j + 1 := by omega
          have h4 : (Go.Lib.index l [c]).toNat = j := by omega
          simp [hm, h2, h3, h4, prep]
theorem split_one (s : Bs) (c : UInt8) : Go.Lib.split s [c] = sp c s := by
  unfold Go.Lib.split
  rw [Go.Lib.count_one, splitK_eq]
theorem sp_length (c : UInt8) (s : Bs) : (sp c s).length ≤ s.length + 1 := by
  induction s with
  | nil => simp [sp]
  | cons b r ih =>
    by_cases h : b = c
    · subst h; rw [sp_cons_eq]; simp; omega
    · rw [sp_cons_ne h]
      cases hs : sp c r with
      | nil => simp [prep]
      | cons p ps => rw [hs] at ih; simp [prep] at ih ⊢; omega
theorem sp_total (c : UInt8) (s : Bs) : Str.total (sp c s) + (sp c s).length = s.length + 1 := by
  induction s with
  | nil => simp [sp, Str.total]
  | cons b r ih =>
    by_cases h : b = c
    · subst h; rw [sp_cons_eq]; simp [Str.total]; omega
    · rw [sp_cons_ne h]
      cases hs : sp c r with
      | nil => exact absurd hs (sp_ne c r)
      | cons p ps => rw [hs] at ih; simp [prep, Str.total] at ih ⊢; omega
end Go.Hd
namespace Go.Hd
open Go.Pv Go.Av
theorem of_all8 (p : UInt8 → Bool) (h : ∀ k : Fin 256, p (UInt8.ofNat k.val) = true) (b : UInt8) : p b = true := by
  have := h ⟨b.toNat, b.toNat_lt⟩
  simpa using this
theorem u64_id (x : Int) (h0 : 0 ≤ x) (h1 : x < 18446744073709551616) : IntKind.u64.wrap x = x := by
  have : IntKind.u64.wrap x = x % 18446744073709551616 := rfl
  rw [this]; omega
theorem bvn (n : Nat) (h : n < 2 ^ 64) : (BitVec.ofInt 64 (n : Int)).toNat = n := by
  rw [BitVec.ofInt_natCast, BitVec.toNat_ofNat]; exact Nat.mod_eq_of_lt h
theorem or_two (a b k : Nat) (ha : a * 2 ^ k < 2 ^ 64) (hb : b < 2 ^ k) (hk : b < 2 ^ 64) : (BitVec.ofInt IntKind.u64.bits ((a * 2 ^ k : Nat) : Int) ||| BitVec.ofInt IntKind.u64.bits (b : Int)).toNat = a * 2 ^ k + b := by
  show (BitVec.ofInt 64 ((a * 2 ^ k : Nat) : Int) ||| BitVec.ofInt 64 (b : Int)).toNat = _
  rw [BitVec.toNat_or, bvn _ ha, bvn _ hk, ← Nat.shiftLeft_eq, Nat.shiftLeft_add_eq_or_of_lt hb]
theorem and_63 (a : Nat) (ha : a < 2 ^ 64) : (BitVec.ofInt IntKind.u64.bits (a : Int) &&& BitVec.ofInt IntKind.u64.bits 63).toNat = a % 64 := by
  show (BitVec.ofInt 64 (a : Int) &&& BitVec.ofInt 64 ((63 : Nat) : Int)).toNat = _
  rw [BitVec.toNat_and, bvn _ ha, bvn _ (by decide)]
  exact Nat.and_two_pow_sub_one_eq_mod a 6
def q3 (a b c : Nat) : Nat := a * 65536 + b * 256 + c
def ch (n : Nat) : UInt8 := b64_k1.getD n default
theorem val3 (a b c : UInt8) : IntKind.u64.wrap ((BitVec.ofInt IntKind.u64.bits (IntKind.u64.wrap ((BitVec.ofInt IntKind.u64.bits (IntKind.u64.wrap ((IntKind.u64.wrap (a.toNat : Int)) * 2 ^ min (Int.toNat 16) IntKind.u64.bits)) ||| BitVec.ofInt IntKind.u64.bits (IntKind.u64.wrap ((IntKind.u64.wrap (b.toNat : Int)) * 2 ^ min (Int.toNat 8) IntKind.u64.bits))).toNat)) ||| BitVec.ofInt IntKind.u64.bits (IntKind.u64.wrap (c.toNat : Int))).toNat) = (q3 a.toNat b.toNat c.toNat : Int) := by
  have ha := a.toNat_lt
  have hb := b.toNat_lt
  have hc := c.toNat_lt
  have e16 : (2 : Int) ^ min (Int.toNat 16) IntKind.u64.bits = 65536 := by decide +kernel
  have e8 : (2 : Int) ^ min (Int.toNat 8) IntKind.u64.bits = 256 := by decide +kernel
  rw [e16, e8, u64_id a.toNat (by omega) (by omega), u64_id b.toNat (by omega) (by omega), u64_id c.toNat (by omega) (by omega)]
  rw [u64_id ((a.toNat : Int) * 65536) (by omega) (by omega), u64_id ((b.toNat : Int) * 256) (by omega) (by omega)]
  have e1 : (a.toNat : Int) * 65536 = ((a.toNat * 2 ^ 16 : Nat) : Int) := by omega
  have e2 : (b.toNat : Int) * 256 = ((b.toNat * 256 : Nat) : Int) := by omega
  rw [e1, e2, or_two a.toNat (b.toNat * 256) 16 (by omega) (by omega) (by omega)]
  rw [u64_id ((a.toNat * 2 ^ 16 + b.toNat * 256 : Nat) : Int) (by omega) (by omega)]
  have e3 : a.toNat * 2 ^ 16 + b.toNat * 256 = (a.toNat * 256 + b.toNat) * 2 ^ 8 := by omega
  rw [e3, or_two (a.toNat * 256 + b.toNat) c.toNat 8 (by omega) (by omega) (by omega)]
  rw [u64_id (((a.toNat * 256 + b.toNat) * 2 ^ 8 + c.toNat : Nat) : Int) (by omega) (by omega)]
  unfold q3; omega
theorem idx6 (s : Nat) (v : Nat) (hv : v < 16777216) (hs : s ≤ 18) : IntKind.u64.wrap ((BitVec.ofInt IntKind.u64.bits (Int.fdiv (v : Int) (2 ^ min s IntKind.u64.bits)) &&& BitVec.ofInt IntKind.u64.bits 63).toNat) = ((v / 2 ^ s % 64 : Nat) : Int) := by
  have e : min s IntKind.u64.bits = s := by show min s 64 = s; omega
  have e2 : Int.fdiv (v : Int) (2 ^ s) = ((v / 2 ^ s : Nat) : Int) := by
    have : ((2 : Int) ^ s) = ((2 ^ s : Nat) : Int) := by simp
    rw [this, Int.fdiv_eq_ediv_of_nonneg _ (Int.natCast_nonneg _)]; rfl
  have h1 : v / 2 ^ s ≤ v := Nat.div_le_self _ _
  rw [e, e2, and_63 _ (by omega), u64_id _ (by omega) (by omega)]
theorem k1_len : b64_k1.length = 64 := by decide +kernel
theorem at_ch (n : Nat) : at_ b64_k1 (n : Int) = ch n := by
  unfold at_ ch; rw [Int.toNat_natCast]
def four (a b c : UInt8) : Bs := let v := q3 a.toNat b.toNat c.toNat; [ch (v / 262144), ch (v / 4096 % 64), ch (v / 64 % 64), ch (v % 64)]
def enc : Bs → Bs
  | a :: b :: c :: r => four a b c ++ enc r
  | [a, b] => (four a b 0).take 3 ++ [61]
  | [a] => (four a 0 0).take 2 ++ [61, 61]
  | [] => []
theorem enc_len : ∀ s : Bs, (enc s).length ≤ 2 * s.length + 2
  | a :: b :: c :: r => by
    have := enc_len r
    simp [enc, four]; omega
  | [a, b] => by simp [enc, four]
  | [a] => by simp [enc, four]
  | [] => by simp [enc]
theorem q3_lt (a b c : UInt8) : q3 a.toNat b.toNat c.toNat < 16777216 := by
  have ha := a.toNat_lt
  have hb := b.toNat_lt
  have hc := c.toNat_lt
  unfold q3; omega
theorem group_eq (F : Nat) (s : Bs) (a b c : UInt8) (hs : s.length ≤ 3) (h : cpyB [0, 0, 0] s = [a, b, c]) :
    b64_group F s = some (ch (q3 a.toNat b.toNat c.toNat / 262144), bif decide ((s.length : Int) < 1) then 61 else ch (q3 a.toNat b.toNat c.toNat / 4096 % 64), bif decide ((s.length : Int) < 2) then 61 else ch (q3 a.toNat b.toNat c.toNat / 64 % 64), bif decide ((s.length : Int) < 3) then 61 else ch (q3 a.toNat b.toNat c.toNat % 64)) := by
  have hq := q3_lt a b c
  unfold b64_group
  rw [grd_D hs, lt_eq, h]
  have g0 : ([a, b, c].getD 0 0) = a := rfl
  have g1 : ([a, b, c].getD 1 0) = b := rfl
  have g2 : ([a, b, c].getD 2 0) = c := rfl
  unfold b64_group_j5 b64_group_j4 b64_group_j3 b64_group_j2 b64_group_j1
  rw [g0, g1, g2, val3]
  have d16 : (decide ((0 : Int) ≤ 16)) = true := rfl
  have i18 := idx6 (Int.toNat 18) _ hq (by decide)
  have i12 := idx6 (Int.toNat 12) _ hq (by decide)
  have i6 := idx6 (Int.toNat 6) _ hq (by decide)
  have i0 := idx6 (Int.toNat 0) _ hq (by decide)
  rw [i18, i12, i6, i0]
  have k : ∀ n : Nat, okAt ((n % 64 : Nat) : Int) b64_k1.length = true := fun n => by rw [k1_len]; exact decide_eq_true (by omega)
  have e18 : q3 a.toNat b.toNat c.toNat / 2 ^ Int.toNat 18 % 64 = q3 a.toNat b.toNat c.toNat / 262144 := by
    show q3 a.toNat b.toNat c.toNat / 262144 % 64 = _; omega
  have e12 : q3 a.toNat b.toNat c.toNat / 2 ^ Int.toNat 12 % 64 = q3 a.toNat b.toNat c.toNat / 4096 % 64 := rfl
  have e6 : q3 a.toNat b.toNat c.toNat / 2 ^ Int.toNat 6 % 64 = q3 a.toNat b.toNat c.toNat / 64 % 64 := rfl
  have e0 : q3 a.toNat b.toNat c.toNat / 2 ^ Int.toNat 0 % 64 = q3 a.toNat b.toNat c.toNat % 64 := by
    show q3 a.toNat b.toNat c.toNat / 1 % 64 = _; omega
  have k2 : okAt ((q3 a.toNat b.toNat c.toNat / 262144 : Nat) : Int) b64_k1.length = true := by rw [k1_len]; exact decide_eq_true (by omega)
  simp (disch := first | omega | decide) only [grd_D, k, grd_t, lt_eq, at_ch, e18, e12, e6, e0, k2]
  rw [bF (by omega)]
  by_cases h1 : (s.length : Int) < 1
  · simp (disch := omega) only [bT]
  · by_cases h2 : (s.length : Int) < 2
    · simp (disch := omega) only [bT, bF]
    · by_cases h3 : (s.length : Int) < 3
      · simp (disch := omega) only [bT, bF]
      · simp (disch := omega) only [bF]
theorem raw_loop (F : Nat) : ∀ (n : Nat) (s out : Bs), s.length < n → out.length + 4 * s.length + 10 ≤ 100000000 → b64_Raw_L1 F n (s, out) = some (out ++ enc s) := by
  intro n
  induction n with
  | zero => intro s out h; omega
  | succ n ih =>
    intro s out hn hl
    show b64_Raw_B1 F (b64_Raw_L1 F n) s out = _
    unfold b64_Raw_B1
    have key : ∀ (p r g : Bs) (a b c : UInt8) (x y z w : UInt8), s = p ++ r → (min 3 (s.length : Int)) = (p.length : Int) → 1 ≤ p.length → p.length ≤ 3 → cpyB [0, 0, 0] p = [a, b, c] →
        b64_group F p = some (x, y, z, w) → enc s = [x, y, z, w] ++ enc r →
        (bif decide (0 < (s.length : Int)) then grd (okTo (min 3 (s.length : Int)) s.length) <| lt (to_ s (min 3 (s.length : Int))) fun x14 => bnd4 (b64_group F x14) fun x16 x17 x18 x19 => grd (okW out ([x16, x17, x18, x19] : List UInt8)) <| lt (out ++ ([x16, x17, x18, x19] : List UInt8)) fun x23 => grd (okTo (min 3 (s.length : Int)) s.length) <| lt (from_ s (min 3 (s.length : Int))) fun x27 => b64_Raw_L1 F n (x27, x23) else b64_Raw_j1 out) = some (out ++ enc s) := by
      intro p r g a b c x y z w hs hm h1 h3 hc hg he
      have hlen : s.length = p.length + r.length := by rw [hs]; simp
      rw [bT (by omega), grd_To (by omega), lt_eq, hm, to_nat]
      have e1 : s.take p.length = p := by rw [hs]; simp
      have e2 : s.drop p.length = r := by rw [hs]; simp
      rw [e1, hg]
      show grd (okW out [x, y, z, w]) _ = _
      rw [grd_W (by simp; omega), lt_eq, grd_To (by omega), lt_eq, from_nat, e2, ih _ _ (by omega) (by simp; omega), he]
      simp
    match s with
    | a :: b :: c :: r =>
      refine key [a, b, c] r [] a b c _ _ _ _ rfl (by simp; omega) (by simp) (by simp) rfl (group_eq F _ a b c (by simp) rfl) ?_
      rw [bF (by simp), bF (by simp), bF (by simp)]; rfl
    | [a, b] =>
      refine key [a, b] [] [] a b 0 _ _ _ _ rfl (by simp; try omega) (by simp) (by simp) rfl (group_eq F _ a b 0 (by simp) rfl) ?_
      rw [bF (by simp), bF (by simp), bT (by simp)]; rfl
    | [a] =>
      refine key [a] [] [] a 0 0 _ _ _ _ rfl (by simp; try omega) (by simp) (by simp) rfl (group_eq F _ a 0 0 (by simp) rfl) ?_
      rw [bF (by simp), bT (by simp), bT (by simp)]; rfl
    | [] =>
      rw [bF (by simp)]
      unfold b64_Raw_j1
      rw [grd_W (by simp at hl ⊢; omega)]; simp [enc]
theorem Raw_eq (F : Nat) (s : Bs) (hF : s.length < F) (hs : s.length ≤ 1000000) : b64_Raw F s = some (enc s) := by
  have := raw_loop F F s [] hF (by simp; omega)
  rw [List.nil_append] at this
  exact this
def gb (s : Bs) (i : Nat) : UInt8 := s.getD i 0
end Go.Hd
namespace Go.Hd
open Go.Pv Go.Av
theorem of_all64 (p : Nat → Bool) (h : ∀ k : Fin 64, p k.val = true) (n : Nat) (hn : n < 64) : p n = true := h ⟨n, hn⟩
def num (c : UInt8) : Int := if c = 61 then 0 else Go.Lib.indexByte b64_k1 c
def stp (acc n : Int) (c : UInt8) : Option (Int × Int) :=
  if num c < 0 ∨ (if c = 61 then n - 1 else n) < 1 then none
  else some (IntKind.u64.wrap ((BitVec.ofInt IntKind.u64.bits (IntKind.u64.wrap (acc * 2 ^ min (Int.toNat 6) IntKind.u64.bits)) ||| BitVec.ofInt IntKind.u64.bits (IntKind.u64.wrap (num c))).toNat), (if c = 61 then n - 1 else n))
def g4 (c0 c1 c2 c3 : UInt8) : Option (Int × Int) :=
  match stp 0 3 c0 with
  | none => none
  | some (a, n) => match stp a n c1 with
    | none => none
    | some (a, n) => match stp a n c2 with
      | none => none
      | some (a, n) => stp a n c3
def three (v n : Int) : Bs := to_ ([Go.Av.toB (Int.fdiv v (2 ^ min (Int.toNat 16) IntKind.u64.bits)), Go.Av.toB (Int.fdiv v (2 ^ min (Int.toNat 8) IntKind.u64.bits)), Go.Av.toB v] : Bs) n
theorem fd (v k : Nat) : Int.fdiv (v : Int) ((k : Nat) : Int) = ((v / k : Nat) : Int) := by
  rw [Int.fdiv_eq_ediv_of_nonneg _ (Int.natCast_nonneg _)]; rfl
end Go.Hd
namespace Go.Hd
open Go.Pv Go.Av
def nameb (c : UInt8) : Bool := ((((decide (97 ≤ (c.toNat : Int))) && (decide ((c.toNat : Int) ≤ 122))) || ((decide (65 ≤ (c.toNat : Int))) && (decide ((c.toNat : Int) ≤ 90)))) || ((decide (48 ≤ (c.toNat : Int))) && (decide ((c.toNat : Int) ≤ 57)))) || (decide (c = 45))
def okb (c : UInt8) : Bool := (decide (32 ≤ (c.toNat : Int))) && (decide ((c.toNat : Int) < 127))
theorem onlyN_loop (F : Nat) (s : Bs) (hs : s.length ≤ 1000000) : ∀ (n i : Nat), s.length - i < n → i ≤ s.length → head_onlyN_L1 F s n (i : Int) = some ((s.drop i).all nameb && !decide (s = [])) := by
  intro n
  induction n with
  | zero => intro i h; omega
  | succ n ih =>
    intro i hn hi
    show head_onlyN_B1 F s (head_onlyN_L1 F s n) (i : Int) = _
    unfold head_onlyN_B1 head_onlyN_j1
    by_cases h : i < s.length
    · have hd : s.drop i = s[i] :: s.drop (i + 1) := List.drop_eq_getElem_cons h
      have hc : head_nameC F s[i] = some (nameb s[i]) := rfl
      rw [bT (by omega), grd_At (by omega), lt_eq, at_nat h, hc, bnd_some, hd, List.all_cons]
      cases hp : nameb s[i] with
      | false => rfl
      | true => rw [Bool.not_true, cond_false, grd_I (by omega), cast_succ, ih (i + 1) (by omega) (by omega), Bool.true_and]
    · rw [bF (by omega), List.drop_eq_nil_of_le (by omega)]; simp
theorem onlyN_eq (F : Nat) (s : Bs) (hs : s.length ≤ 1000000) (hF : s.length < F) : head_onlyN F s = some (s.all nameb && !decide (s = [])) := onlyN_loop F s hs F 0 (by omega) (by omega)
theorem onlyP_loop (F : Nat) (s : Bs) (hs : s.length ≤ 1000000) : ∀ (n i : Nat), s.length - i < n → i ≤ s.length → head_onlyP_L1 F s n (i : Int) = some ((s.drop i).all okb && !decide (s = [])) := by
  intro n
  induction n with
  | zero => intro i h; omega
  | succ n ih =>
    intro i hn hi
    show head_onlyP_B1 F s (head_onlyP_L1 F s n) (i : Int) = _
    unfold head_onlyP_B1 head_onlyP_j1
    by_cases h : i < s.length
    · have hd : s.drop i = s[i] :: s.drop (i + 1) := List.drop_eq_getElem_cons h
      have hc : head_plainC F s[i] = some (okb s[i]) := rfl
      rw [bT (by omega), grd_At (by omega), lt_eq, at_nat h, hc, bnd_some, hd, List.all_cons]
      cases hp : okb s[i] with
      | false => rfl
      | true => rw [Bool.not_true, cond_false, grd_I (by omega), cast_succ, ih (i + 1) (by omega) (by omega), Bool.true_and]
    · rw [bF (by omega), List.drop_eq_nil_of_le (by omega)]; simp
theorem onlyP_eq (F : Nat) (s : Bs) (hs : s.length ≤ 1000000) (hF : s.length < F) : head_onlyP F s = some (s.all okb && !decide (s = [])) := onlyP_loop F s hs F 0 (by omega) (by omega)
def nameB (s : Bs) : Bool := (s.all nameb && !decide (s = [])) && decide (s.length ≤ 40)
theorem name_eq (F : Nat) (s : Bs) (hs : s.length ≤ 1000000) (hF : s.length < F) : head_name F s = some (nameB s) := by
  unfold head_name nameB
  rw [onlyN_eq F s hs hF]
  by_cases h : s.length ≤ 40
  · rw [decide_eq_true (show (s.length : Int) ≤ 40 by omega), decide_eq_true h, bndc_t, bnd_some, Bool.true_and, Bool.and_true]
  · rw [decide_eq_false (show ¬ (s.length : Int) ≤ 40 by omega), decide_eq_false h, bndc_f, Bool.false_and, Bool.and_false]
def bad (x y : UInt8) : Bool := (x == 32 && y == 32) || (x == 61 && y == 63)
def has2 (p : UInt8 → UInt8 → Bool) : Bs → Bool
  | x :: y :: r => p x y || has2 p (y :: r)
  | _ => false
theorem contains_cons (x : UInt8) (r sub : Bs) : Go.Lib.contains (x :: r) sub = (sub.isPrefixOf (x :: r) || Go.Lib.contains r sub) := by
  unfold Go.Lib.contains
  have hg := Go.Lib.index_ge r sub
  rw [Go.Lib.index]
  cases hp : sub.isPrefixOf (x :: r) with
  | true => simp
  | false =>
    rw [if_neg (by simp), Bool.false_or]
    by_cases h : Go.Lib.index r sub = -1
    · rw [h]; rfl
    · rw [if_neg (by simpa using h)]
      exact decide_eq_decide.2 (by omega)
theorem contains_two (a b : UInt8) : ∀ s : Bs, Go.Lib.contains s [a, b] = has2 (fun x y => x == a && y == b) s
  | [] => rfl
  | [x] => by rw [contains_cons]; simp [has2, List.isPrefixOf, Go.Lib.contains, Go.Lib.index]
  | x :: y :: r => by
    rw [contains_cons, contains_two a b (y :: r), has2]
    simp only [List.isPrefixOf, Bool.and_true]
    rw [Bool.beq_comm (a := x), Bool.beq_comm (a := y)]
theorem has2_or (p q : UInt8 → UInt8 → Bool) : ∀ s : Bs, has2 (fun x y => p x y || q x y) s = (has2 p s || has2 q s)
  | [] => rfl
  | [x] => rfl
  | x :: y :: r => by
    rw [has2, has2, has2, has2_or p q (y :: r)]
    cases p x y <;> cases q x y <;> cases has2 p (y :: r) <;> rfl
theorem dw_len (p : UInt8 → Bool) : ∀ s : Bs, (s.dropWhile p).length ≤ s.length
  | [] => Nat.le_refl _
  | x :: r => by
    rw [List.dropWhile_cons]
    have := dw_len p r
    split
    · simp; omega
    · exact Nat.le_refl _
theorem dw_id (c : UInt8) (s : Bs) : s.dropWhile (· == c) = s ↔ s.head? ≠ some c := by
  cases s with
  | nil => simp
  | cons x r =>
    rw [List.dropWhile_cons]
    have := dw_len (· == c) r
    by_cases h : x = c
    · subst h
      simp only [beq_self_eq_true, if_true, List.head?_cons, ne_eq, not_true_eq_false, iff_false]
      intro he
      rw [he] at this
      simp at this
      omega
    · simp [h]
theorem trim_id (c : UInt8) (s : Bs) : Go.Lib.trimB s c = s ↔ s.head? ≠ some c ∧ s.getLast? ≠ some c := by
  have hr : Go.Lib.trimRightB s c = s ↔ s.getLast? ≠ some c := by
    unfold Go.Lib.trimRightB
    rw [← List.head?_reverse, ← dw_id, ← List.reverse_inj, List.reverse_reverse]
  have hl : (Go.Lib.trimRightB s c).length ≤ s.length := by
    have := dw_len (· == c) s.reverse
    unfold Go.Lib.trimRightB
    simpa using this
  unfold Go.Lib.trimB
  constructor
  · intro h
    have h1 := dw_len (· == c) (Go.Lib.trimRightB s c)
    have h2 : (Go.Lib.trimRightB s c) = s := by
      have e : (Go.Lib.trimRightB s c).length = s.length := by
        have := congrArg List.length h
        unfold Go.Lib.trimLeftB at this
        omega
      have p : Go.Lib.trimRightB s c <+: s := by
        unfold Go.Lib.trimRightB
        rw [← List.reverse_suffix, List.reverse_reverse]
        exact List.dropWhile_suffix _
      exact p.eq_of_length e
    rw [h2] at h
    exact ⟨(dw_id c s).1 h, hr.1 h2⟩
  · intro ⟨h1, h2⟩
    rw [hr.2 h2]
    exact (dw_id c s).2 h1
def plainB (s : Bs) : Bool := (((s.all okb && !decide (s = [])) && (decide (s.head? ≠ some 32) && decide (s.getLast? ≠ some 32))) && !has2 bad s)
theorem Plain_eq (F : Nat) (s : Bs) (hs : s.length ≤ 1000000) (hF : s.length < F) : head_Plain F s = some (plainB s) := by
  unfold head_Plain
  have hS : ∀ (c : Bool) (k : Option Bool), grdc c (okS s.length) k = k := fun c k => by
    rw [show okS s.length = true from decide_eq_true (by omega)]; cases c <;> rfl
  rw [onlyP_eq F s hs hF, bnd_some, hS, lt_eq, hS, lt_eq, hS, lt_eq, contains_two, contains_two]
  have e1 : has2 bad s = (has2 (fun x y => x == 32 && y == 32) s || has2 (fun x y => x == 61 && y == 63) s) := has2_or _ _ s
  have e2 : decide (Go.Lib.trimB s 32 = s) = (decide (s.head? ≠ some 32) && decide (s.getLast? ≠ some 32)) := by
    rw [← Bool.decide_and]; exact decide_eq_decide.2 (trim_id 32 s)
  unfold plainB
  rw [e1, e2, Bool.not_or, Bool.and_assoc _ (!_) (!_)]
theorem fand (x : Bool) : (false && x) = false := Eq.symm (Eq.symm rfl)
theorem tand (x : Bool) : (true && x) = x := Eq.symm (Eq.symm rfl)
theorem nfl : (!false) = true := Eq.symm (Eq.symm rfl)
theorem ntr : (!true) = false := Eq.symm (Eq.symm rfl)
theorem cfl {α : Type} (a b : α) : (bif false then a else b) = b := Eq.symm (Eq.symm rfl)
theorem ctr {α : Type} (a b : α) : (bif true then a else b) = a := Eq.symm (Eq.symm rfl)
def insb (c : UInt8) : Bool := decide (Go.Av.shr8 c 6 = 2)
def dn (s : Bs) : Nat → Nat
  | 0 => 45
  | k + 1 => bif insb (gb s (42 + k)) then dn s k else 42 + k
theorem gb_at {s : Bs} {i : Nat} (h : i < s.length) : gb s i = s[i] := by simp [gb, h]
theorem part_loop (F : Nat) (s : Bs) (hs : 45 < s.length) : ∀ (n k : Nat), k < n → k ≤ 4 → head_part_L1 F s n ((41 + k : Nat) : Int) = some ((dn s k : Nat) : Int) := by
  intro n
  induction n with
  | zero => intro k h; omega
  | succ n ih =>
    intro k hk h4
    show head_part_B1 F s (head_part_L1 F s n) ((41 + k : Nat) : Int) = _
    unfold head_part_B1
    cases k with
    | zero => rfl
    | succ k =>
      have e : 41 + (k + 1) = 42 + k := by omega
      have hb : head_inside F s[42 + k] = some (insb (gb s (42 + k))) := by rw [gb_at (by omega)]; rfl
      rw [e, decide_eq_true (show (41 : Int) < ((42 + k : Nat) : Int) by omega), grdc_t, grd_At (by omega), lt_eq, at_nat (by omega), hb, bndc_t, bnd_some, Bool.true_and]
      unfold dn
      cases insb (gb s (42 + k)) with
      | true =>
        have e2 : ((42 + k : Nat) : Int) - 1 = ((41 + k : Nat) : Int) := by omega
        rw [cond_true, cond_true, grd_I (by omega), e2, ih k (by omega) (by omega)]
      | false =>
        rw [cond_false, cond_false]
        unfold head_part_j1
        rw [bF (by omega)]
def pt (s : Bs) : Nat := if s.length ≤ 45 then s.length else dn s 4
theorem dn_le (s : Bs) : ∀ k, k ≤ 4 → 42 ≤ dn s k ∧ dn s k ≤ 45
  | 0, _ => by simp [dn]
  | k + 1, h => by
    have := dn_le s k (by omega)
    unfold dn
    cases insb (gb s (42 + k)) with
    | true => exact this
    | false => rw [cond_false]; omega
theorem pt_le (s : Bs) : pt s ≤ s.length ∧ pt s ≤ 45 ∧ (s ≠ [] → 1 ≤ pt s) := by
  have := dn_le s 4 (by omega)
  unfold pt
  split
  · exact ⟨Nat.le_refl _, by omega, fun h => List.length_pos_iff.2 h⟩
  · exact ⟨by omega, by omega, fun h => by omega⟩
theorem part_eq (F : Nat) (hF : 5 ≤ F) (s : Bs) : head_part F s = some ((pt s : Nat) : Int) := by
  unfold head_part pt
  by_cases h : s.length ≤ 45
  · rw [bT (by omega), if_pos h]
  · rw [bF (by omega), if_neg h]; exact part_loop F s (by omega) F 4 (by omega) (by omega)
def ahead : Bs := [61, 63, 117, 116, 102, 45, 56, 63, 66, 63]
def behind : Bs := [63, 61]
def word (p : Bs) : Bs := ahead ++ enc p ++ behind
def pcs : Nat → Bs → List Bs
  | 0, _ => []
  | n + 1, s => if s = [] then [] else word (s.take (pt s)) :: pcs n (s.drop (pt s))
theorem pcs_nil (n : Nat) : pcs n [] = [] := by cases n <;> rfl
theorem pcs_more : ∀ (n m : Nat) (s : Bs), s.length ≤ n → s.length ≤ m → pcs n s = pcs m s := by
  intro n
  induction n with
  | zero => intro m s h1 h2; have : s = [] := List.eq_nil_of_length_eq_zero (by omega); subst this; rw [pcs_nil, pcs_nil]
  | succ n ih =>
    intro m s h1 h2
    by_cases h : s = []
    · subst h; rw [pcs_nil, pcs_nil]
    · have hp := pt_le s
      have hl := List.length_pos_iff.2 h
      have h3 := hp.2.2 h
      obtain ⟨m, rfl⟩ : ∃ k, m = k + 1 := ⟨m - 1, by omega⟩
      rw [pcs, pcs, if_neg h, if_neg h, ih m (s.drop (pt s)) (by simp; omega) (by simp; omega)]
def pieces (s : Bs) : List Bs := pcs s.length s
theorem pieces_cons {s : Bs} (h : s ≠ []) : pieces s = word (s.take (pt s)) :: pieces (s.drop (pt s)) := by
  have hp := pt_le s
  have hl := List.length_pos_iff.2 h
  have h3 := hp.2.2 h
  unfold pieces
  obtain ⟨m, hm⟩ : ∃ k, s.length = k + 1 := ⟨s.length - 1, by omega⟩
  rw [hm, pcs, if_neg h, pcs_more m (s.drop (pt s)).length _ (by simp; omega) (by simp)]
theorem pieces_nil : pieces [] = [] := rfl
def wordsOf (s : Bs) : List Bs := bif plainB s then sp 32 s else pieces s
def fold1 {σ : Type} (k : σ → Bs → Option (σ × Bool)) (st : σ) (w : Bs) : Option σ := match k st w with
  | some (st', true) => some st'
  | _ => none
def foldK {σ : Type} (k : σ → Bs → Option (σ × Bool)) : σ → List Bs → Option σ
  | st, [] => some st
  | st, w :: ws => match fold1 k st w with
    | none => none
    | some st' => foldK k st' ws
theorem fold1_s {σ : Type} {k : σ → Bs → Option (σ × Bool)} {st st' : σ} {w : Bs} (h : fold1 k st w = some st') : k st w = some (st', true) := by
  unfold fold1 at h
  split at h
  · rename_i h1; cases h; exact h1
  · cases h
theorem foldK_s {σ : Type} {k : σ → Bs → Option (σ × Bool)} {st st' : σ} {w : Bs} {ws : List Bs} (h : foldK k st (w :: ws) = some st') : ∃ m, k st w = some (m, true) ∧ foldK k m ws = some st' := by
  rw [foldK] at h
  cases hf : fold1 k st w with
  | none => rw [hf] at h; cases h
  | some m => rw [hf] at h; exact ⟨m, fold1_s hf, h⟩
theorem wI_loop {σ : Type} (F : Nat) (k : σ → Bs → Option (σ × Bool)) (hF : 60 ≤ F) : ∀ (n : Nat) (s : Bs) (st st' : σ), s.length < n → s.length ≤ 1000000 → foldK k st (pieces s) = some st' → ∃ r, head_wordsI_L1 F k n (s, st) = some (st', r) := by
  intro n
  induction n with
  | zero => intro s st st' h; omega
  | succ n ih =>
    intro s st st' hn hs H
    have e : head_wordsI_L1 F k (n + 1) (s, st) = head_wordsI_B1 F k (head_wordsI_L1 F k n) s st := rfl
    rw [e]
    unfold head_wordsI_B1
    by_cases h : s = []
    · subst h
      cases H
      exact ⟨[], rfl⟩
    · have hp := pt_le s
      have hl := List.length_pos_iff.2 h
      have h3 := hp.2.2 h
      rw [pieces_cons h] at H
      obtain ⟨m, h1, h2⟩ := foldK_s H
      obtain ⟨r, hr⟩ := ih (s.drop (pt s)) m st' (by simp; omega) (by simp; omega) h2
      refine ⟨r, ?_⟩
      have he := enc_len (s.take (pt s))
      have ht : (s.take (pt s)).length ≤ 45 := by simp; omega
      rw [decide_eq_false h, Bool.not_false, cond_true, part_eq F (by omega), bnd_some, grd_To (by omega), lt_eq, to_nat, grd_Cat (by omega), Raw_eq F _ (by omega) (by omega), bnd_some]
      rw [grd_Cat (by simp; omega), lt_eq, grd_Cat (by simp; omega), lt_eq]
      have hk : k st (([61, 63, 117, 116, 102, 45, 56, 63, 66, 63] : Bs) ++ enc (s.take (pt s)) ++ [63, 61]) = some (m, true) := h1
      rw [hk, bnd2_some, Bool.not_true, cond_false, grd_To (by omega), lt_eq, from_nat]
      exact hr
theorem wS_loop {σ : Type} (a : Bs) (k : σ → Bs → Option (σ × Bool)) (l : List Bs) (hl : l.length ≤ 10000000) : ∀ (n i : Nat) (st st' : σ), l.length - i < n → i ≤ l.length → foldK k st (l.drop i) = some st' → head_wordsI_L2 a k l n ((i : Int), st) = some (st', a) := by
  intro n
  induction n with
  | zero => intro i st st' h; omega
  | succ n ih =>
    intro i st st' hn hi H
    have e : head_wordsI_L2 a k l (n + 1) ((i : Int), st) = head_wordsI_B2 a k l (head_wordsI_L2 a k l n) (i : Int) st := rfl
    rw [e]
    unfold head_wordsI_B2
    by_cases h : i < l.length
    · rw [List.drop_eq_getElem_cons h] at H
      obtain ⟨m, h1, h2⟩ := foldK_s H
      rw [bT (by omega), grd_At (by omega), lt_eq, at_nat h, h1, bnd2_some, Bool.not_true, cond_false, grd_I (by omega), cast_succ]
      exact ih (i + 1) m st' (by omega) (by omega) h2
    · rw [List.drop_eq_nil_of_le (by omega)] at H
      cases H
      rw [bF (by omega)]
theorem wordsI_eq {σ : Type} (F : Nat) (k : σ → Bs → Option (σ × Bool)) (s : Bs) (st st' : σ) (hs : s.length ≤ 1000000) (hF : s.length + 100 < F) (H : foldK k st (wordsOf s) = some st') : ∃ r, head_wordsI F k st s = some (st', r) := by
  unfold head_wordsI
  rw [Plain_eq F s hs (by omega), bnd_some]
  unfold wordsOf at H
  cases hp : plainB s with
  | true =>
    rw [hp, cond_true] at H
    have hl := sp_length 32 s
    rw [cond_true, grd_S (by omega), grd_D (by simp), lt_eq, split_one]
    exact ⟨s, wS_loop s k (sp 32 s) (by omega) F 0 st st' (by omega) (by omega) H⟩
  | false =>
    rw [hp, cond_false] at H
    rw [cond_false]
    exact wI_loop F k (by omega) F s st st' (by omega) hs H
theorem pieces_len (s : Bs) : ∀ n, s.length ≤ n → (pieces s).length ≤ s.length ∧ ∀ w ∈ pieces s, w.length ≤ 104 := by
  intro n
  induction n generalizing s with
  | zero => intro h; have : s = [] := List.eq_nil_of_length_eq_zero (by omega); subst this; simp [pieces_nil]
  | succ n ih =>
    intro h
    by_cases h0 : s = []
    · subst h0; simp [pieces_nil]
    · have hp := pt_le s
      have hl := List.length_pos_iff.2 h0
      have h3 := hp.2.2 h0
      have ⟨i1, i2⟩ := ih (s.drop (pt s)) (by simp; omega)
      have he := enc_len (s.take (pt s))
      have ht : (s.take (pt s)).length ≤ 45 := by simp; omega
      rw [pieces_cons h0]
      refine ⟨by simp at i1 ⊢; omega, fun w hw => ?_⟩
      rcases List.mem_cons.1 hw with rfl | hw
      · simp [word, ahead, behind]; omega
      · exact i2 w hw
theorem mem_total {l : List Bs} {w : Bs} (h : w ∈ l) : w.length ≤ Str.total l := by
  induction l with
  | nil => cases h
  | cons x r ih =>
    rcases List.mem_cons.1 h with rfl | h
    · simp [Str.total]
    · have := ih h; simp [Str.total]; omega
theorem wordsOf_len (s : Bs) : (wordsOf s).length ≤ s.length + 1 ∧ ∀ w ∈ wordsOf s, w.length ≤ s.length + 104 := by
  unfold wordsOf
  cases plainB s with
  | true =>
    rw [cond_true]
    have h1 := sp_total 32 s
    have h2 := sp_length 32 s
    exact ⟨h2, fun w hw => by have := mem_total hw; have := List.length_pos_iff.2 (List.ne_nil_of_mem hw); omega⟩
  | false =>
    rw [cond_false]
    have ⟨h1, h2⟩ := pieces_len s s.length (by omega)
    exact ⟨by omega, fun w hw => by have := h2 w hw; omega⟩
end Go.Hd
namespace Go.Hd
open Go.Pv Go.Av
def lnStep (st : Int × Bs) (x : Bs) : Int × Bs := if 76 < st.1 + 1 + (x.length : Int) then (0 + 1 + (x.length : Int), st.2 ++ [13, 10] ++ [32] ++ x) else (st.1 + 1 + (x.length : Int), st.2 ++ [32] ++ x)
def lineOf (a b : Bs) : Bs := ((wordsOf b).foldl lnStep (((a.length + 1 : Nat) : Int), a ++ [58])).2 ++ [13, 10]
theorem lnStep_len (st : Int × Bs) (x : Bs) : (lnStep st x).2.length ≤ st.2.length + x.length + 3 := by
  unfold lnStep; split <;> simp <;> omega
theorem lnStep_n (st : Int × Bs) (x : Bs) (h : 0 ≤ st.1) (hx : x.length ≤ 2000000) : 0 ≤ (lnStep st x).1 ∧ (lnStep st x).1 ≤ 2000001 := by
  unfold lnStep; split <;> simp <;> omega
theorem k1_eq (st : Int × Bs) (x : Bs) (h0 : 0 ≤ st.1) (h1 : st.1 ≤ 10000000) (hx : x.length ≤ 2000000) (ho : st.2.length + x.length + 3 ≤ 50000000000) :
    fold1 (fun s x => head_Line_k1 s.1 s.2 x) st x = some (lnStep st x) := by
  have hk : head_Line_k1 st.1 st.2 x = some (lnStep st x, true) := by
    unfold head_Line_k1 head_Line_j2 lnStep
    by_cases h : 76 < st.1 + 1 + (x.length : Int)
    · rw [bT h, if_pos h]
      simp (disch := (first | omega | (simp; omega))) only [grd_I, grd_Cat, lt_eq]
    · rw [bF h, if_neg h]
      simp (disch := (first | omega | (simp; omega))) only [grd_I, grd_Cat, lt_eq]
  unfold fold1
  simp only [hk]
theorem line_fold : ∀ (ws : List Bs) (st : Int × Bs), (∀ w ∈ ws, w.length ≤ 2000000) → 0 ≤ st.1 → st.1 ≤ 10000000 → st.2.length + ws.length * 2000003 ≤ 50000000000 →
    foldK (fun s x => head_Line_k1 s.1 s.2 x) st ws = some (ws.foldl lnStep st) ∧ (ws.foldl lnStep st).2.length ≤ st.2.length + ws.length * 2000003
  | [], st, _, _, _, _ => ⟨rfl, by simp⟩
  | w :: ws, st, hw, h0, h1, hl => by
    have hx := hw w (by simp)
    have hn := lnStep_n st w h0 hx
    have hs := lnStep_len st w
    simp only [List.length_cons] at hl
    have ⟨i1, i2⟩ := line_fold ws (lnStep st w) (fun v hv => hw v (by simp [hv])) hn.1 (by omega) (by omega)
    rw [foldK, k1_eq st w h0 h1 hx (by omega)]
    refine ⟨i1, ?_⟩
    rw [List.foldl_cons, List.length_cons]; omega
def okLine (a b : Bs) : Bool := nameB a && decide (b.length ≤ 4000)
theorem okLine_s {a b : Bs} (h : okLine a b = true) : nameB a = true ∧ b.length ≤ 4000 ∧ a.length ≤ 40 := by
  unfold okLine at h
  rw [Bool.and_eq_true] at h
  refine ⟨h.1, of_decide_eq_true h.2, ?_⟩
  have := h.1
  unfold nameB at this
  rw [Bool.and_eq_true] at this
  exact of_decide_eq_true this.2
theorem lineOf_len (a b : Bs) (h : okLine a b = true) : (lineOf a b).length ≤ 50000000000 ∧ (a.length : Int) + 1 + (wordsOf b).length ≤ 10000 := by
  have ⟨h1, h2, h3⟩ := okLine_s h
  have ⟨w1, w2⟩ := wordsOf_len b
  have := (line_fold (wordsOf b) (((a.length + 1 : Nat) : Int), a ++ [58]) (fun w hw => by have := w2 w hw; omega) (by simp; omega) (by simp; omega) (by simp; omega)).2
  refine ⟨?_, by omega⟩
  unfold lineOf
  simp at this ⊢; omega
theorem Line_eq (F : Nat) (a b : Bs) (ha : a.length ≤ 1000000) (hFa : a.length < F) (hF : 4200 < F) : head_Line F a b = some (if okLine a b = true then (lineOf a b, 0) else ([], 1)) := by
  unfold head_Line head_Line_j1
  rw [name_eq F a ha hFa, bnd_some]
  by_cases h : okLine a b = true
  · have ⟨h1, h2, h3⟩ := okLine_s h
    have ⟨w1, w2⟩ := wordsOf_len b
    have hlen := (lineOf_len a b h).1
    have ⟨f1, f2⟩ := line_fold (wordsOf b) (((a.length + 1 : Nat) : Int), a ++ [58]) (fun w hw => by have := w2 w hw; omega) (by simp; omega) (by simp; omega) (by simp; omega)
    obtain ⟨r, hr⟩ := wordsI_eq F _ b _ _ (by omega) (by omega) f1
    rw [if_pos h, h1, Bool.not_true, Bool.false_or, bF (by omega), grd_Cat (by simp; omega), lt_eq, grd_Cat (by simp; omega)]
    unfold head_words
    rw [bnd_some]
    have e : (((a ++ [58] : Bs).length : Int), a ++ [58]) = (((a.length + 1 : Nat) : Int), a ++ [58]) := by simp
    rw [e, hr, bnd2_some, grd_Cat (by simp at f2 ⊢; omega), lt_eq]
    rfl
  · rw [if_neg h]
    have : ((!nameB a) || (decide (4000 < (b.length : Int)))) = true := by
      unfold okLine at h
      cases hn : nameB a with
      | false => rfl
      | true =>
        rw [hn, Bool.true_and, decide_eq_true_eq] at h
        rw [decide_eq_true (show 4000 < (b.length : Int) by omega)]; rfl
    rw [this, cond_true]
theorem few_loop (l : List (Bs × Bs)) (hl : l.length ≤ 1000000) : ∀ (n i : Nat), l.length - i < n → i ≤ l.length → ∃ b, law14_Few_L1 l n (i : Int) = some b ∧ (b = true → ∀ x ∈ l.drop i, x.1.length ≤ 100 ∧ x.2.length ≤ 600) := by
  intro n
  induction n with
  | zero => intro i h; omega
  | succ n ih =>
    intro i hn hi
    show ∃ b, law14_Few_B1 l (law14_Few_L1 l n) (i : Int) = some b ∧ _
    unfold law14_Few_B1 law14_Few_j1
    by_cases h : i < l.length
    · obtain ⟨b, h1, h2⟩ := ih (i + 1) (by omega) (by omega)
      have hA : ∀ (c : Bool) (k : Option Bool), grdc c (okAt (i : Int) l.length) k = k := fun c k => by
        rw [show okAt (i : Int) l.length = true from decide_eq_true (by omega)]; cases c <;> rfl
      rw [bT (by omega), grd_At (by omega), lt_eq, at_nat h, hA, lt_eq, List.drop_eq_getElem_cons h]
      cases hc : (decide (100 < (l[i].1.length : Int))) || (decide (600 < (l[i].2.length : Int))) with
      | true => exact ⟨false, rfl, fun h => by cases h⟩
      | false =>
        rw [Bool.or_eq_false_iff, decide_eq_false_iff_not, decide_eq_false_iff_not] at hc
        refine ⟨b, by rw [cond_false, grd_I (by omega), cast_succ, h1], fun hb x hx => ?_⟩
        rcases List.mem_cons.1 hx with rfl | hx
        · omega
        · exact h2 hb x hx
    · rw [bF (by omega), List.drop_eq_nil_of_le (by omega)]
      exact ⟨true, rfl, fun _ x hx => by cases hx⟩
theorem Few_eq (F : Nat) (l : List (Bs × Bs)) (m : Int) (hl : l.length ≤ 1000000) (hF : l.length < F) : ∃ b, law14_Few F l m = some b ∧ (b = true → (l.length : Int) ≤ m ∧ ∀ x ∈ l, x.1.length ≤ 100 ∧ x.2.length ≤ 600) := by
  unfold law14_Few
  by_cases h : m < (l.length : Int)
  · rw [bT h]; exact ⟨false, rfl, fun h => by cases h⟩
  · rw [bF h]
    obtain ⟨b, h1, h2⟩ := few_loop l hl F 0 (by omega) (by omega)
    exact ⟨b, h1, fun hb => ⟨by omega, by have := h2 hb; rwa [List.drop_zero] at this⟩⟩
end Go.Hd
namespace Go.Hd
open Go.Pv Go.Av
def tailOf : Int → List Bs → Bs
  | _, [] => [13, 10]
  | n, w :: ws => (lnStep (n, []) w).2 ++ tailOf (lnStep (n, []) w).1 ws
theorem lnStep_app (n : Int) (o : Bs) (w : Bs) : lnStep (n, o) w = ((lnStep (n, []) w).1, o ++ (lnStep (n, []) w).2) := by
  unfold lnStep
  by_cases h : 76 < n + 1 + (w.length : Int)
  · rw [if_pos h, if_pos h]; simp
  · rw [if_neg h, if_neg h]; simp
theorem fold_tail : ∀ (ws : List Bs) (n : Int) (o : Bs), (ws.foldl lnStep (n, o)).2 ++ [13, 10] = o ++ tailOf n ws
  | [], n, o => rfl
  | w :: ws, n, o => by
    rw [List.foldl_cons, lnStep_app n o w, fold_tail ws _ _, tailOf, List.append_assoc]
theorem lineOf_eq (a b : Bs) : lineOf a b = a ++ 58 :: tailOf ((a.length + 1 : Nat) : Int) (wordsOf b) := by
  unfold lineOf
  rw [fold_tail]; simp
theorem pieces_nosp (s : Bs) : ∀ n, s.length ≤ n → ∀ w ∈ pieces s, ∃ p, w = word p := by
  intro n
  induction n generalizing s with
  | zero => intro h; have : s = [] := List.eq_nil_of_length_eq_zero (by omega); subst this; simp [pieces_nil]
  | succ n ih =>
    intro h
    by_cases h0 : s = []
    · subst h0; simp [pieces_nil]
    · have hp := pt_le s
      have hl := List.length_pos_iff.2 h0
      have h3 := hp.2.2 h0
      rw [pieces_cons h0]
      intro w hw
      rcases List.mem_cons.1 hw with rfl | hw
      · exact ⟨_, rfl⟩
      · exact ih _ (by simp; omega) w hw
theorem mem_prep {cur w : Bs} {l : List Bs} (h : w ∈ prep cur l) : (∃ p ps, l = p :: ps ∧ w = cur ++ p) ∨ w ∈ l.drop 1 ∨ (l = [] ∧ w = cur) := by
  cases l with
  | nil => simp [prep] at h; exact .inr (.inr ⟨rfl, h⟩)
  | cons p ps =>
    simp only [prep, List.mem_cons] at h
    rcases h with h | h
    · exact .inl ⟨p, ps, rfl, h⟩
    · exact .inr (.inl h)
def wsum : List Bs → Nat
  | [] => 0
  | w :: ws => w.length + 3 + wsum ws
theorem fold_len : ∀ (ws : List Bs) (st : Int × Bs), (ws.foldl lnStep st).2.length ≤ st.2.length + wsum ws
  | [], st => by simp [wsum]
  | w :: ws, st => by
    have h1 := lnStep_len st w
    have h2 := fold_len ws (lnStep st w)
    rw [List.foldl_cons, wsum]; omega
theorem wsum_total : ∀ ws : List Bs, wsum ws = Str.total ws + 3 * ws.length
  | [] => rfl
  | w :: ws => by rw [wsum, wsum_total ws]; simp [Str.total]; omega
theorem pieces_few (s : Bs) : ∀ n, s.length ≤ n → 42 * (pieces s).length ≤ s.length + 42 := by
  intro n
  induction n generalizing s with
  | zero => intro h; have : s = [] := List.eq_nil_of_length_eq_zero (by omega); subst this; simp [pieces_nil]
  | succ n ih =>
    intro h
    by_cases h0 : s = []
    · subst h0; simp [pieces_nil]
    · have hp := pt_le s
      have hl := List.length_pos_iff.2 h0
      have h3 := hp.2.2 h0
      have hi := ih (s.drop (pt s)) (by simp; omega)
      rw [pieces_cons h0, List.length_cons]
      by_cases h45 : s.length ≤ 45
      · have : pt s = s.length := by unfold pt; rw [if_pos h45]
        rw [this, List.drop_length, pieces_nil]; simp
      · have h42 : 42 ≤ pt s := by unfold pt; rw [if_neg h45]; exact (dn_le s 4 (by omega)).1
        rw [List.length_drop] at hi
        omega
theorem wsum_pieces : ∀ l : List Bs, (∀ w ∈ l, w.length ≤ 104) → wsum l ≤ 107 * l.length
  | [], _ => by simp [wsum]
  | w :: ws, h => by
    have := wsum_pieces ws (fun x hx => h x (by simp [hx]))
    have := h w (by simp)
    rw [wsum, List.length_cons]; omega
theorem line_short (a b : Bs) (h : okLine a b = true) (hb : b.length ≤ 600) : (lineOf a b).length ≤ 1900 := by
  have ha := (okLine_s h).2.2
  have hf := fold_len (wordsOf b) (((a.length + 1 : Nat) : Int), a ++ [58])
  have hw : wsum (wordsOf b) ≤ 1803 := by
    unfold wordsOf
    cases plainB b with
    | true =>
      have h1 := sp_total 32 b
      rw [ctr, wsum_total]; omega
    | false =>
      have h1 := pieces_few b b.length (by omega)
      have h2 := wsum_pieces (pieces b) (pieces_len b b.length (by omega)).2
      rw [cfl]; omega
  unfold lineOf
  rw [List.length_append]
  simp at hf ⊢; omega
end Go.Hd
namespace Go.Hd
open Go.Pv Go.Av
theorem awake_eq : law14_awake 300000 = some true := by decide +kernel
def sc : Int → Int → Bool → Bs → Bool
  | n, sp, f, [] => decide (n = 0)
  | n, sp, f, c :: r => if c = 13 then (if r.head? = some 10 ∧ ¬ (76 < n ∧ 1 < sp) then sc n sp f r else false)
    else if c = 10 then sc 0 0 false r
    else if ((c.toNat : Int) < 32 ∨ 126 < (c.toNat : Int)) ∨ ((n = 0 ∧ f = false) ∧ c ≠ 32) then false
    else sc (n + 1) (if c = 32 then sp + 1 else sp) f r
theorem sc_loop (s : Bs) (hs : s.length ≤ 1000000) : ∀ (m i : Nat) (n sp : Int) (f : Bool), s.length - i < m → i ≤ s.length → 0 ≤ n → n ≤ i → 0 ≤ sp → sp ≤ i →
    law14_HeadLines_L1 s m (n, sp, f, (i : Int)) = some (sc n sp f (s.drop i) && decide (2 ≤ (s.length : Int))) := by
  intro m
  induction m with
  | zero => intro i n sp f h; omega
  | succ m ih =>
    intro i n sp f hm hi h0 h1 h2 h3
    show law14_HeadLines_B1 s (law14_HeadLines_L1 s m) n sp f (i : Int) = _
    unfold law14_HeadLines_B1 law14_HeadLines_j3 law14_HeadLines_j2 law14_HeadLines_j1
    by_cases h : i < s.length
    · have hd : s.drop i = s[i] :: s.drop (i + 1) := List.drop_eq_getElem_cons h
      have hA : ∀ (c : Bool) (k : Option Bool), grdc c (okAt (i : Int) s.length) k = k := fun c k => by
        rw [show okAt (i : Int) s.length = true from decide_eq_true (by omega)]; cases c <;> rfl
      rw [bT (by omega), grd_At (by omega), lt_eq, at_nat h, hd, sc]
      by_cases h13 : s[i] = 13
      · rw [bT h13, if_pos h13, grd_I (by omega)]
        by_cases hl : s.length ≤ i + 1
        · have e : s.drop (i + 1) = [] := List.drop_eq_nil_of_le (by omega)
          rw [decide_eq_true (show (s.length : Int) ≤ (i : Int) + 1 by omega), ntr, grdc_f, grdc_f, lt_eq, Bool.true_or, Bool.true_or, ctr, e, if_neg (fun h => by cases h.1), fand]
        · have hlt : i + 1 < s.length := by omega
          have e : s.drop (i + 1) = s[i + 1] :: s.drop (i + 2) := List.drop_eq_getElem_cons hlt
          rw [decide_eq_false (show ¬ (s.length : Int) ≤ (i : Int) + 1 by omega), nfl, grdc_t, grd_I (by omega), grdc_t, grd_At (by omega), lt_eq, cast_succ, at_nat hlt, Bool.false_or]
          have hh : (s.drop (i + 1)).head? = some s[i + 1] := by rw [e]; rfl
          rw [hh]
          by_cases hok : s[i + 1] = 10 ∧ ¬ (76 < n ∧ 1 < sp)
          · have : ((!decide (s[i + 1] = 10)) || ((decide (76 < n)) && (decide (1 < sp)))) = false := by
              rw [decide_eq_true hok.1, ntr, Bool.false_or, ← Bool.decide_and]; exact decide_eq_false hok.2
            rw [this, cfl, grd_I (by omega), if_pos ⟨by rw [hok.1], hok.2⟩, ih (i + 1) n sp f (by omega) (by omega) (by omega) (by omega) (by omega) (by omega)]
          · have : ((!decide (s[i + 1] = 10)) || ((decide (76 < n)) && (decide (1 < sp)))) = true := by
              by_cases h10 : s[i + 1] = 10
              · have : 76 < n ∧ 1 < sp := Classical.byContradiction fun h => hok ⟨h10, h⟩
                rw [decide_eq_true this.1, decide_eq_true this.2]; simp
              · rw [decide_eq_false h10]; rfl
            rw [this, ctr, if_neg (fun h => hok ⟨Option.some.inj h.1, h.2⟩), fand]
      · rw [bF h13, if_neg h13, grd_At (by omega), lt_eq]
        by_cases h10 : s[i] = 10
        · rw [bT h10, if_pos h10, grd_I (by omega), cast_succ, ih (i + 1) 0 0 false (by omega) (by omega) (by omega) (by omega) (by omega) (by omega)]
        · rw [bF h10, if_neg h10, grd_At (by omega), lt_eq, hA, lt_eq, hA, lt_eq]
          by_cases hb : ((s[i].toNat : Int) < 32 ∨ 126 < (s[i].toNat : Int)) ∨ ((n = 0 ∧ f = false) ∧ s[i] ≠ 32)
          · have : (((decide ((s[i].toNat : Int) < 32)) || (decide (126 < (s[i].toNat : Int)))) || (((decide (n = 0)) && (!f)) && (!decide (s[i] = 32)))) = true := by
              rcases hb with (hb | hb) | ⟨⟨hb1, hb2⟩, hb3⟩
              · rw [decide_eq_true hb]; rfl
              · rw [decide_eq_true hb]; simp
              · rw [decide_eq_true hb1, hb2, decide_eq_false hb3]; simp
            rw [this, ctr, if_pos hb, fand]
          · have : (((decide ((s[i].toNat : Int) < 32)) || (decide (126 < (s[i].toNat : Int)))) || (((decide (n = 0)) && (!f)) && (!decide (s[i] = 32)))) = false := by
              have hb1 : ¬ (s[i].toNat : Int) < 32 := fun h => hb (.inl (.inl h))
              have hb2 : ¬ 126 < (s[i].toNat : Int) := fun h => hb (.inl (.inr h))
              rw [decide_eq_false hb1, decide_eq_false hb2, Bool.false_or, Bool.false_or]
              by_cases hn : n = 0
              · cases f with
                | true => simp
                | false =>
                  have : s[i] = 32 := Classical.byContradiction fun h => hb (.inr ⟨⟨hn, rfl⟩, h⟩)
                  rw [decide_eq_true this]; simp
              · rw [decide_eq_false hn]; rfl
            rw [this, cfl, if_neg hb, grd_At (by omega), lt_eq]
            by_cases h32 : s[i] = 32
            · rw [bT h32, if_pos h32, grd_I (by omega), grd_I (by omega), grd_I (by omega), cast_succ, ih (i + 1) (n + 1) (sp + 1) f (by omega) (by omega) (by omega) (by omega) (by omega) (by omega)]
            · rw [bF h32, if_neg h32, grd_I (by omega), grd_I (by omega), cast_succ, ih (i + 1) (n + 1) sp f (by omega) (by omega) (by omega) (by omega) (by omega) (by omega)]
    · have hd : s.drop i = [] := List.drop_eq_nil_of_le (by omega)
      rw [bF (by omega), hd, sc]
def prn (c : UInt8) : Bool := decide (33 ≤ (c.toNat : Int)) && decide ((c.toNat : Int) ≤ 126)
theorem prn_s {c : UInt8} (h : prn c = true) : 33 ≤ (c.toNat : Int) ∧ (c.toNat : Int) ≤ 126 ∧ c ≠ 13 ∧ c ≠ 10 ∧ c ≠ 32 := by
  unfold prn at h
  simp only [Bool.and_eq_true, decide_eq_true_eq] at h
  refine ⟨h.1, h.2, ?_, ?_, ?_⟩ <;> (intro e; rw [e] at h; revert h; decide)
theorem sc_word (r : Bs) : ∀ (w : Bs) (n sp : Int) (f : Bool), (∀ c ∈ w, prn c = true) → (0 < n ∨ (n = 0 ∧ f = true)) → sc n sp f (w ++ r) = sc (n + w.length) sp f r
  | [], n, sp, f, _, _ => by simp
  | c :: w, n, sp, f, h, hn => by
    have ⟨p1, p2, p3, p4, p5⟩ := prn_s (h c (by simp))
    show sc n sp f (c :: (w ++ r)) = _
    rw [sc, if_neg p3, if_neg p4, if_neg (by
      intro hh
      rcases hh with (hh | hh) | ⟨⟨e1, e2⟩, _⟩
      · omega
      · omega
      · rcases hn with hn | ⟨_, hn⟩
        · omega
        · rw [hn] at e2; cases e2), if_neg p5, sc_word r w (n + 1) sp f (fun x hx => h x (by simp [hx])) (.inl (by omega))]
    rw [List.length_cons]
    congr 1; omega
theorem sc_crlf (n sp : Int) (f : Bool) (r : Bs) (h : n ≤ 76 ∨ sp ≤ 1) : sc n sp f (13 :: 10 :: r) = sc 0 0 false r := by
  rw [sc, if_pos rfl, if_pos ⟨rfl, by omega⟩, sc, if_neg (by decide), if_pos rfl]
theorem sc_sp (n sp : Int) (f : Bool) (r : Bs) : sc n sp f (32 :: r) = sc (n + 1) (sp + 1) f r := by
  rw [sc, if_neg (by decide), if_neg (by decide), if_neg (by
    intro hh
    rcases hh with hh | ⟨_, hh⟩
    · revert hh; decide
    · exact hh rfl), if_pos rfl]
theorem sc_tail : ∀ (ws : List Bs) (n sp : Int) (f : Bool), (∀ w ∈ ws, ∀ c ∈ w, prn c = true) → 0 ≤ n → (n ≤ 76 ∨ sp ≤ 1) → sc n sp f (tailOf n ws) = true
  | [], n, sp, f, _, h0, h => by
    show sc n sp f [13, 10] = true
    rw [sc_crlf n sp f [] h]; rfl
  | w :: ws, n, sp, f, hw, h0, h => by
    have hp := hw w (by simp)
    have ih := fun (m sp : Int) (f : Bool) => sc_tail ws m sp f (fun x hx => hw x (by simp [hx]))
    rw [tailOf]
    unfold lnStep
    by_cases hc : 76 < n + 1 + (w.length : Int)
    · rw [if_pos hc]
      dsimp only
      show sc n sp f (13 :: 10 :: 32 :: (w ++ _)) = _
      rw [sc_crlf n sp f _ h, sc_sp, sc_word _ w _ _ _ hp (.inl (by omega))]
      exact ih _ _ _ (by omega) (.inr (by omega))
    · rw [if_neg hc]
      dsimp only
      show sc n sp f (32 :: (w ++ _)) = _
      rw [sc_sp, sc_word _ w _ _ _ hp (.inl (by omega))]
      exact ih _ _ _ (by omega) (.inl (by omega))
theorem ch_prn (n : Nat) (h : n < 64) : prn (ch n) = true := by
  have := of_all64 (fun n => prn (ch n)) (by decide +kernel) n h
  exact this
theorem enc_prn : ∀ b : Bs, ∀ c ∈ enc b, prn c = true
  | a :: b :: c :: r => by
    have ih := enc_prn r
    have hq := q3_lt a b c
    intro x hx
    rw [enc] at hx
    rcases List.mem_append.1 hx with hx | hx
    · simp only [four, List.mem_cons, List.not_mem_nil, or_false] at hx
      rcases hx with rfl | rfl | rfl | rfl <;> exact ch_prn _ (by omega)
    · exact ih x hx
  | [a, b] => by
    have hq := q3_lt a b 0
    intro x hx
    simp only [enc, four, List.take, List.mem_append, List.mem_cons, List.not_mem_nil, or_false] at hx
    rcases hx with (rfl | rfl | rfl) | rfl
    · exact ch_prn _ (by omega)
    · exact ch_prn _ (by omega)
    · exact ch_prn _ (by omega)
    · rfl
  | [a] => by
    have hq := q3_lt a 0 0
    intro x hx
    simp only [enc, four, List.take, List.mem_append, List.mem_cons, List.not_mem_nil, or_false] at hx
    rcases hx with (rfl | rfl) | rfl | rfl
    · exact ch_prn _ (by omega)
    · exact ch_prn _ (by omega)
    · rfl
    · rfl
  | [] => fun x hx => by cases hx
theorem word_prn (p : Bs) : ∀ c ∈ word p, prn c = true := by
  intro c hc
  unfold word at hc
  rcases List.mem_append.1 hc with hc | hc
  · rcases List.mem_append.1 hc with hc | hc
    · have : ∀ c ∈ ahead, prn c = true := by decide
      exact this c hc
    · exact enc_prn p c hc
  · have : ∀ c ∈ behind, prn c = true := by decide
    exact this c hc
theorem okb_prn {x : UInt8} (h : okb x = true) (hc : x ≠ 32) : prn x = true := by
  have := of_all8 (fun x => decide (okb x = true → x ≠ 32 → prn x = true)) (by decide +kernel) x
  exact of_decide_eq_true this h hc
theorem sp_prn : ∀ s : Bs, (s.all okb = true) → ∀ w ∈ sp 32 s, ∀ c ∈ w, prn c = true
  | [], _, w, hw => by simp [sp] at hw; subst hw; exact fun c hc => by cases hc
  | c :: r, h, w, hw => by
    rw [List.all_cons, Bool.and_eq_true] at h
    have ih := sp_prn r h.2
    by_cases hc : c = 32
    · subst hc
      rw [sp_cons_eq] at hw
      rcases List.mem_cons.1 hw with rfl | hw
      · exact fun c hc => by cases hc
      · exact ih w hw
    · rw [sp_cons_ne hc] at hw
      rcases mem_prep hw with ⟨p, ps, e, rfl⟩ | h2 | ⟨e, _⟩
      · intro x hx
        rcases List.mem_append.1 hx with hx | hx
        · have : x = c := by simpa using hx
          subst this
          exact okb_prn h.1 hc
        · exact ih p (by rw [e]; simp) x hx
      · exact ih w (List.mem_of_mem_drop h2)
      · exact absurd e (sp_ne 32 r)
theorem words_prn (s : Bs) : ∀ w ∈ wordsOf s, ∀ c ∈ w, prn c = true := by
  unfold wordsOf
  cases hp : plainB s with
  | true =>
    rw [ctr]
    unfold plainB at hp
    simp only [Bool.and_eq_true] at hp
    exact sp_prn s hp.1.1.1
  | false =>
    rw [cfl]
    intro w hw
    obtain ⟨p, rfl⟩ := pieces_nosp s s.length (by omega) w hw
    exact word_prn p
theorem name_prn {a : Bs} (h : nameB a = true) : ∀ c ∈ a, prn c = true := by
  unfold nameB at h
  simp only [Bool.and_eq_true] at h
  intro c hc
  have h1 := List.all_eq_true.1 h.1.1 c hc
  have := of_all8 (fun x => decide (nameb x = true → prn x = true)) (by decide +kernel) c
  exact of_decide_eq_true this h1
theorem line_sc (a b : Bs) (h : okLine a b = true) : sc 0 0 true (lineOf a b) = true := by
  have ha := (okLine_s h).2.2
  have e : a ++ 58 :: tailOf ((a.length + 1 : Nat) : Int) (wordsOf b) = (a ++ [58]) ++ tailOf ((a.length + 1 : Nat) : Int) (wordsOf b) := by simp
  rw [lineOf_eq, e, sc_word _ (a ++ [58]) 0 0 true (by
    intro c hc
    rcases List.mem_append.1 hc with hc | hc
    · exact name_prn (okLine_s h).1 c hc
    · have : c = 58 := by simpa using hc
      rw [this]; rfl) (.inr ⟨rfl, rfl⟩)]
  have e2 : (0 : Int) + ((a ++ [58] : Bs).length : Int) = ((a.length + 1 : Nat) : Int) := by simp
  rw [e2]
  exact sc_tail (wordsOf b) _ 0 true (words_prn b) (by omega) (.inr (by omega))
theorem Line_all (F : Nat) (a b : Bs) (hF : 4200 < F) : head_Line F a b = some (if okLine a b = true then (lineOf a b, 0) else ([], 1)) := by
  by_cases h : a.length ≤ 40
  · exact Line_eq F a b (by omega) (by omega) hF
  · have hn : okLine a b ≠ true := fun ho => h (okLine_s ho).2.2
    unfold head_Line head_name
    rw [if_neg hn, decide_eq_false (show ¬ (a.length : Int) ≤ 40 by omega), bndc_f, fand, bnd_some]; rfl
theorem HeadLines_F (F : Nat) (hF : 200000 < F) (hw : law14_awake F = some true) (a b : Bs) : law14_HeadLines F a b = some true := by
  unfold law14_HeadLines
  obtain ⟨f, h1, h2⟩ := Few_eq F [(a, b)] 1 (by simp) (by simp; omega)
  rw [hw, bnd_some, h1, bnd_some, Line_all F a b (by omega)]
  cases f with
  | false =>
    generalize (if okLine a b = true then (lineOf a b, (0 : Int)) else ([], 1)) = r
    obtain ⟨x, y⟩ := r
    rw [bnd2_some]; rfl
  | true =>
    have ⟨ha, hb⟩ := (h2 rfl).2 (a, b) (by simp)
    dsimp only at ha hb
    by_cases ho : okLine a b = true
    · have hl := line_short a b ho (by omega)
      rw [if_pos ho, bnd2_some, decide_eq_true rfl, Bool.not_true, Bool.or_false, Bool.or_false, cond_false]
      have := sc_loop (lineOf a b) (by omega) F 0 0 0 true (by omega) (by omega) (by omega) (by omega) (by omega) (by omega)
      rw [List.drop_zero, line_sc a b ho, tand] at this
      refine Eq.trans this ?_
      rw [decide_eq_true]
      unfold lineOf
      rw [List.length_append]; simp; omega
    · rw [if_neg ho, bnd2_some]; rfl
theorem HeadLines_t (a b : Bs) : law14_HeadLines 300000 a b = some true := HeadLines_F 300000 (by omega) awake_eq a b
end Go.Hd
namespace Go.Av
open Go.RowKit Go.ChangeShapes Go.WideShapes
section
variable {H : Type} {enc : TypeId × Value → H} {P : Program} {w : World}
def Opens {H : Type} (enc : TypeId × Value → H) (P : Program) (w : World) (t : TypeId) {α : Type} (E : α → List AV) (p : α → Prop) : Prop :=
  ∀ fuel cs d, DataW.trod enc P w 0 (fun _ => true) true fuel t cs = some d → ∃ x, p x ∧ RelL (Info.start w) w (E x) cs
theorem opens_str {t : TypeId} (ht : P.underlying t = some .string) : Opens enc P w t (fun s : List UInt8 => [S s]) (fun s => s.length ≤ maxLen) := by
  intro fuel cs d h
  obtain ⟨s, rfl, _, hw⟩ := DataW.trod_string ht h
  refine ⟨s.data.toList, by simpa using hw, .cons (rel_string _ _ s) .nil⟩
def OpensF {H : Type} (enc : TypeId × Value → H) (P : Program) (w : World) (tot off : Nat) (fs : List Field) {α : Type} (E : α → List AV) (p : α → Prop) : Prop :=
  ∀ (n : Nat) (cs : List Value), cs.length = tot → (∀ f ∈ fs, ∃ d, DataW.trod enc P w 0 (fun _ => true) true n f.type ((cs.drop f.offset).take (P.cellsOf f.type)) = some d) → ∃ x, p x ∧ RelL (Info.start w) w (E x) (cs.drop off)
theorem opensF_nil {tot : Nat} : OpensF enc P w tot tot [] (fun _ : Unit => []) (fun _ => True) := fun n cs hl _ => ⟨(), trivial, by rw [List.drop_eq_nil_of_le (by omega)]; exact .nil⟩
theorem opensF_cons {tot off k : Nat} {f : Field} {fs : List Field} {α β : Type} {E : α → List AV} {p : α → Prop} {F : β → List AV} {q : β → Prop} (ho : f.offset = off) (hk : P.cellsOf f.type = k)
    (h : Opens enc P w f.type E p) (g : OpensF enc P w tot (off + k) fs F q) : OpensF enc P w tot off (f :: fs) (fun x : α × β => E x.1 ++ F x.2) (fun x => p x.1 ∧ q x.2) := by
  intro n cs hl H
  obtain ⟨d, hd⟩ := H f (by simp)
  obtain ⟨x, hx, rx⟩ := h _ _ _ hd
  obtain ⟨y, hy, ry⟩ := g n cs hl fun f' hf' => H f' (by simp [hf'])
  refine ⟨(x, y), ⟨hx, hy⟩, ?_⟩
  rw [ho, hk] at rx
  have := rx.append ry
  rwa [← List.drop_drop, List.take_append_drop] at this
theorem opens_struct {t : TypeId} {fs : Array Field} {tot : Nat} {α : Type} {E : α → List AV} {p : α → Prop} (ht : P.underlying t = some (.struct fs)) (hc : P.cellsOf t = tot) (h : OpensF enc P w tot 0 fs.toList E p) :
    Opens enc P w t E p := by
  intro fuel cs d hd
  obtain ⟨xs, n, _, _, hl, hlen, each⟩ := DataW.trod_struct ht hd
  obtain ⟨x, hx, rx⟩ := h n cs (by omega) fun f hf => by
    obtain ⟨i, hi, rfl⟩ := List.getElem_of_mem hf
    have hi' : i < fs.size := by simpa using hi
    rw [each i _ (by simp [hi'])]
    exact ⟨xs[i]'(by omega), List.getElem?_eq_getElem _⟩
  exact ⟨x, hx, by simpa using rx⟩
theorem open_agg {t : TypeId} {fs : Array Field} {r : Reach} {b0 : Nat} {v : Value} {d : DataW H} {ps : List MemPlace} {α : Type} {E : α → List AV} {p : α → Prop} (ht : P.underlying t = some (.struct fs))
    (hval : Value.okWide P w r b0 t v) (hd : DataW.Trod enc P w 0 (fun _ => true) true t v d ps) (h : Opens enc P w t E p) : ∃ x, p x ∧ Rel (Info.start w) w (.agg (E x)) v := by
  obtain ⟨cs, rfl, _⟩ := okWide_struct ht hval
  obtain ⟨fuel, hf⟩ := hd
  obtain ⟨x, hx, rx⟩ := h _ _ _ hf
  refine ⟨x, hx, ?_⟩
  have := Rel.agg _ _ rx.1 rx.2
  simpa [Value.cells] using this
end
end Go.Av
