/-
  Texts in one (only what HeadCoded needs): B64W, HeadAP, HeadAW, HeadBP, HeadBW, HeadLP, HeadLW, HeadRP, HeadRW, LHeadCodedP, LHeadCodedW, HdSp, HdA, HdD.
-/
import Derived.Test.YtiahdbdkjjmfiaaDoorZHeadCoded2
import Derived.Test.YtiahdbdkjjmfiaaDoorShelf
import Derived.Test.YtiahdbdkjjmfiaaDoorChecked
import Derived.Lib.SplitLaws
import Derived.Lib.IndexMore
set_option linter.unusedVariables false
set_option linter.unusedSimpArgs false
namespace Go.Proofs.YtiahdbdkjjmfiaaDoor
open Go.RowKit Go.Av Go.Pv
theorem en54_b64 : ∀ (args : Array Value) (w : World), (callFunc 54 args).run Tryd.prog w = .ok (.enter 54 args) w := fun _ _ => by kernel_rfl
theorem en59_b64 : ∀ (args : Array Value) (w : World), (callFunc 59 args).run Tryd.prog w = .ok (.enter 59 args) w := fun _ _ => by kernel_rfl
theorem en75_b64 : ∀ (args : Array Value) (w : World), (callFunc 75 args).run Tryd.prog w = .ok (.enter 75 args) w := fun _ _ => by kernel_rfl
theorem en76_b64 : ∀ (args : Array Value) (w : World), (callFunc 76 args).run Tryd.prog w = .ok (.enter 76 args) w := fun _ _ => by kernel_rfl
theorem en98_b64 : ∀ (args : Array Value) (w : World), (callFunc 98 args).run Tryd.prog w = .ok (.enter 98 args) w := fun _ _ => by kernel_rfl
set_option maxRecDepth 100000 in
set_option maxHeartbeats 1000000 in
theorem w_b64_group (F : Nat) (a1 : List UInt8) (q2 : Option Nat) (r3 : UInt8) (r4 : UInt8) (r5 : UInt8) (r6 : UInt8) (H : b64_group F a1 = some (r3, r4, r5, r6)) : ACalls Tryd.prog 75 [slE Enc.byte a1 q2] [] (Ret (.agg [u8 r3, u8 r4, u8 r5, u8 r6]) []) := by
 unfold b64_group at H
 refine ACalls.of_body Tryd.func75 rfl rfl ?_
 show AW _ _ 43 _ _ _
 refine AW.seq ?_
 refine AW.region ?_
 show AR _ _ _ _ _ [0] _
 refine sX rfl rfl rfl (opX_alloc (zs := [.int .u8 0, .int .u8 0, .int .u8 0, .int .u8 0]) (by kernel_rfl)) ?_
 rintro _ _ ⟨o7, rfl, rfl⟩
 refine AR.nil ?_
 show AW _ _ _ _ _ _
 refine AW.seq ?_
 refine AW.region ?_
 show AR _ _ _ _ _ [0] _
 refine sX rfl rfl rfl (opX_alloc (zs := [.int .u8 0, .int .u8 0, .int .u8 0]) (by kernel_rfl)) ?_
 rintro _ _ ⟨o8, rfl, rfl⟩
 refine AR.nil ?_
 show AW _ _ _ _ _ _
 refine AW.seq ?_
 obtain ⟨g9, H⟩ := grd_s H
 obtain ⟨x10, e11, H⟩ := lt_s H
 refine AW.region ?_
 show AR _ _ _ _ _ [0, 1, 2] _
 refine sS rfl rfl rfl (opS_slice_arr (k := 1) Tryd.underlying115 (by kernel_rfl) rfl) ?_
 refine sS rfl rfl rfl (opS_move (av := slE _ _ _) rfl) ?_
 refine sR rfl rfl rfl (g_copy_arr (l := ([0, 0, 0] : List UInt8)) (vs := [u8 (x10.getD 0 0), u8 (x10.getD 1 0), u8 (x10.getD 2 0)]) 0 Tryd.underlying24 (by kernel_rfl) rfl rfl rfl rfl rfl g9 e11 rfl) ?_
 refine AR.nil ?_
 show AW _ _ _ _ _ _
 refine AW.seq ?_
 obtain ⟨g12, H⟩ := grd_s H
 obtain ⟨g13, H⟩ := grd_s H
 refine AW.region ?_
 show AR _ _ _ _ _ [0, 1, 2, 3, 4, 5, 6, 7, 8, 9, 10, 11, 12, 13] _
 refine sS rfl rfl rfl (opS_indexAddr_arr (Ar := 0) (k := 1) (m := 0) Tryd.underlying115 (by kernel_rfl) rfl rfl rfl (by decide)) ?_
 refine sR rfl rfl rfl (opR_load_pt (i := 0) Tryd.underlying5 rfl rfl rfl rfl) ?_
 refine sS rfl rfl rfl (opS_conv_int (k' := .u8) (n := ((x10.getD 0 0).toNat : Int)) (by kernel_rfl) Tryd.underlying113 rfl) ?_
 refine sS rfl rfl rfl (opS_shl rfl rfl (of_decide_eq_true g12)) ?_
 refine sS rfl rfl rfl (opS_indexAddr_arr (Ar := 0) (k := 1) (m := 1) Tryd.underlying115 (by kernel_rfl) rfl rfl rfl (by decide)) ?_
 refine sR rfl rfl rfl (opR_load_pt (i := 0) Tryd.underlying5 rfl rfl rfl rfl) ?_
 refine sS rfl rfl rfl (opS_conv_int (k' := .u8) (n := ((x10.getD 1 0).toNat : Int)) (by kernel_rfl) Tryd.underlying113 rfl) ?_
 refine sS rfl rfl rfl (opS_shl rfl rfl (of_decide_eq_true g13)) ?_
 refine sS rfl rfl rfl (opS_or rfl rfl) ?_
 refine sS rfl rfl rfl (opS_indexAddr_arr (Ar := 0) (k := 1) (m := 2) Tryd.underlying115 (by kernel_rfl) rfl rfl rfl (by decide)) ?_
 refine sR rfl rfl rfl (opR_load_pt (i := 0) Tryd.underlying5 rfl rfl rfl rfl) ?_
 refine sS rfl rfl rfl (opS_conv_int (k' := .u8) (n := ((x10.getD 2 0).toNat : Int)) (by kernel_rfl) Tryd.underlying113 rfl) ?_
 refine sS rfl rfl rfl (opS_or rfl rfl) ?_
 refine sS rfl rfl rfl (asg rfl) ?_
 refine AR.nil ?_
 show AW _ _ _ _ _ _
 refine AW.seq ?_
 refine AW.region ?_
 show AR _ _ _ _ _ [0] _
 refine sX rfl rfl rfl (opX_alloc (zs := [.int .u8 0, .int .u8 0, .int .u8 0, .int .u8 0]) (by kernel_rfl)) ?_
 rintro _ _ ⟨o14, rfl, rfl⟩
 refine AR.nil ?_
 show AW _ _ _ _ _ _
 refine AW.cut (X := UInt8 × UInt8 × UInt8 × UInt8) (fun (y43, y44, y45, y46) => ⟨[(2, .pt o7 0), (5, .pt o14 0)], [], [.obj o14 [u8 y43, u8 y44, u8 y45, u8 y46], .obj o7 [u8 0, u8 0, u8 0, u8 0]]⟩) (fun (y43, y44, y45, y46) => b64_group_j1 y43 y44 y45 y46 = some (r3, r4, r5, r6)) ?_ ?_
 ·
  refine AW.seq ?_
  refine AW.region ?_
  show AR _ _ _ _ _ [0] _
  refine sS rfl rfl rfl (mv rfl) ?_
  refine AR.nil ?_
  show AW _ _ _ _ _ _
  refine AW.block ?_
  refine AW.rounds 6 ?_
  show AW _ _ _ _ _ _
  refine AW.seq ?_
  refine AW.region ?_
  show AR _ _ _ _ _ [0] _
  refine sS rfl rfl rfl (OpS.eq (av' := B true) (opS_lt rfl rfl) (B_congr (by decide))) ?_
  refine AR.nil ?_
  show AW _ _ _ _ _ _
  refine AW.seq ?_
  refine AW.cond rfl (fun _ => ?_) (fun hx => bool_no rfl hx)
  refine AW.skip ?_
  show AW _ _ _ _ _ _
  refine AW.cut (X := UInt8) (fun y20 => ⟨[(0, slE Enc.byte a1 q2), (2, .pt o7 0), (4, .v (.int .u64 (IntKind.u64.wrap ((BitVec.ofInt IntKind.u64.bits (IntKind.u64.wrap ((BitVec.ofInt IntKind.u64.bits (IntKind.u64.wrap ((IntKind.u64.wrap ((x10.getD 0 0).toNat : Int)) * 2 ^ min (Int.toNat 16) IntKind.u64.bits)) ||| BitVec.ofInt IntKind.u64.bits (IntKind.u64.wrap ((IntKind.u64.wrap ((x10.getD 1 0).toNat : Int)) * 2 ^ min (Int.toNat 8) IntKind.u64.bits))).toNat)) ||| BitVec.ofInt IntKind.u64.bits (IntKind.u64.wrap ((x10.getD 2 0).toNat : Int))).toNat)))), (5, .pt o14 0), (23, i64 0)], [], [.obj o14 [u8 y20, u8 0, u8 0, u8 0], .obj o7 [u8 0, u8 0, u8 0, u8 0]]⟩) (fun y20 => b64_group_j5 a1 x10 y20 = some (r3, r4, r5, r6)) ?_ ?_
  ·
   refine AW.block ?_
   refine AW.seq ?_
   refine AW.region ?_
   show AR _ _ _ _ _ [0, 1] _
   refine sS rfl rfl rfl (mv rfl) ?_
   refine sS rfl rfl rfl (asg rfl) ?_
   refine AR.nil ?_
   show AW _ _ _ _ _ _
   refine AW.seq ?_
   obtain ⟨g15, H⟩ := grd_s H
   obtain ⟨g16, H⟩ := grd_s H
   obtain ⟨x17, e18, H⟩ := lt_s H
   refine AW.region ?_
   show AR _ _ _ _ _ [0, 1, 2, 3, 4, 5, 6, 7, 8, 9] _
   refine sS rfl rfl rfl (mv rfl) ?_
   refine sS rfl rfl rfl (mv rfl) ?_
   refine sS rfl rfl rfl (mv rfl) ?_
   refine sS rfl rfl rfl (OpS.eq (av' := i64 0) (g_mul rfl rfl (by decide)) rfl) ?_
   refine sS rfl rfl rfl (OpS.eq (av' := i64 18) (g_sub rfl rfl (by decide)) rfl) ?_
   refine sS rfl rfl rfl (opS_shr rfl rfl (of_decide_eq_true g15)) ?_
   refine sS rfl rfl rfl (opS_and rfl rfl) ?_
   refine sS rfl rfl rfl (g_index_str Tryd.underlying9 rfl rfl g16 e18) ?_
   refine sS rfl rfl rfl (opS_indexAddr_arr (Ar := 0) (k := 1) (m := 0) Tryd.underlying102 (by kernel_rfl) rfl rfl rfl (by decide)) ?_
   refine s0 rfl rfl (opR_store_pt (i := 0) (c := .v _) (by kernel_rfl) rfl rfl rfl rfl (Nat.le_of_ble_eq_true rfl)) ?_
   refine AR.nil ?_
   show AW _ _ _ _ _ _
   refine AW.seq ?_
   refine AW.region ?_
   show AR _ _ _ _ _ [0, 1, 2, 3] _
   refine sS rfl rfl rfl (mv rfl) ?_
   refine sS rfl rfl rfl (opS_move (av := slE _ _ _) rfl) ?_
   refine sS rfl rfl rfl (opS_len_sl Tryd.underlying24 rfl) ?_
   refine sS rfl rfl rfl (opS_gt rfl rfl) ?_
   refine AR.nil ?_
   show AW _ _ _ _ _ _
   refine AW.cond rfl (fun c19 => ?_) (fun c19 => ?_)
   ·replace H := cnd_t c19 H
    refine AW.region ?_
    show AR _ _ _ _ _ [0, 1, 2] _
    refine sS rfl rfl rfl (mv rfl) ?_
    refine sS rfl rfl rfl (opS_indexAddr_arr (Ar := 0) (k := 1) (m := 0) Tryd.underlying102 (by kernel_rfl) rfl rfl rfl (by decide)) ?_
    refine s0 rfl rfl (opR_store_pt (i := 0) (c := .v _) (by kernel_rfl) rfl rfl rfl rfl (Nat.le_of_ble_eq_true rfl)) ?_
    refine AR.nil ?_
    exact Exists.intro 61 ⟨H, WK.at [0, 1] (.cons (.refl _) (.cons (.refl _) (.cons (.refl _) (.cons (.refl _) (.cons (.refl _) (.nil _)))))) rfl⟩
   ·replace H := cnd_f c19 H
    refine AW.skip ?_
    exact Exists.intro x17 ⟨H, WK.at [0, 1] (.cons (.refl _) (.cons (.refl _) (.cons (.refl _) (.cons (.refl _) (.cons (.refl _) (.nil _)))))) rfl⟩
  rintro y20 H
  replace H : b64_group_j5 a1 x10 y20 = some (r3, r4, r5, r6) := H
  unfold b64_group_j5 at H
  show AW _ _ _ _ _ _
  refine AW.region ?_
  show AR _ _ _ _ _ [0, 1] _
  refine sS rfl rfl rfl (OpS.eq (av' := i64 1) (g_add rfl rfl (by decide)) rfl) ?_
  refine sS rfl rfl rfl (mv rfl) ?_
  refine AR.nil ?_
  show AW _ _ _ _ _ _
  refine AW.seq ?_
  refine AW.region ?_
  show AR _ _ _ _ _ [0] _
  refine sS rfl rfl rfl (OpS.eq (av' := B true) (opS_lt rfl rfl) (B_congr (by decide))) ?_
  refine AR.nil ?_
  show AW _ _ _ _ _ _
  refine AW.seq ?_
  refine AW.cond rfl (fun _ => ?_) (fun hx => bool_no rfl hx)
  refine AW.skip ?_
  show AW _ _ _ _ _ _
  refine AW.cut (X := UInt8) (fun y27 => ⟨[(0, slE Enc.byte a1 q2), (2, .pt o7 0), (4, .v (.int .u64 (IntKind.u64.wrap ((BitVec.ofInt IntKind.u64.bits (IntKind.u64.wrap ((BitVec.ofInt IntKind.u64.bits (IntKind.u64.wrap ((IntKind.u64.wrap ((x10.getD 0 0).toNat : Int)) * 2 ^ min (Int.toNat 16) IntKind.u64.bits)) ||| BitVec.ofInt IntKind.u64.bits (IntKind.u64.wrap ((IntKind.u64.wrap ((x10.getD 1 0).toNat : Int)) * 2 ^ min (Int.toNat 8) IntKind.u64.bits))).toNat)) ||| BitVec.ofInt IntKind.u64.bits (IntKind.u64.wrap ((x10.getD 2 0).toNat : Int))).toNat)))), (5, .pt o14 0), (23, i64 1)], [], [.obj o14 [u8 y20, u8 y27, u8 0, u8 0], .obj o7 [u8 0, u8 0, u8 0, u8 0]]⟩) (fun y27 => b64_group_j4 a1 x10 y20 y27 = some (r3, r4, r5, r6)) ?_ ?_
  ·
   refine AW.block ?_
   refine AW.seq ?_
   refine AW.region ?_
   show AR _ _ _ _ _ [0, 1] _
   refine sS rfl rfl rfl (mv rfl) ?_
   refine sS rfl rfl rfl (asg rfl) ?_
   refine AR.nil ?_
   show AW _ _ _ _ _ _
   refine AW.seq ?_
   obtain ⟨g22, H⟩ := grd_s H
   obtain ⟨g23, H⟩ := grd_s H
   obtain ⟨x24, e25, H⟩ := lt_s H
   refine AW.region ?_
   show AR _ _ _ _ _ [0, 1, 2, 3, 4, 5, 6, 7, 8, 9] _
   refine sS rfl rfl rfl (mv rfl) ?_
   refine sS rfl rfl rfl (mv rfl) ?_
   refine sS rfl rfl rfl (mv rfl) ?_
   refine sS rfl rfl rfl (OpS.eq (av' := i64 6) (g_mul rfl rfl (by decide)) rfl) ?_
   refine sS rfl rfl rfl (OpS.eq (av' := i64 12) (g_sub rfl rfl (by decide)) rfl) ?_
   refine sS rfl rfl rfl (opS_shr rfl rfl (of_decide_eq_true g22)) ?_
   refine sS rfl rfl rfl (opS_and rfl rfl) ?_
   refine sS rfl rfl rfl (g_index_str Tryd.underlying9 rfl rfl g23 e25) ?_
   refine sS rfl rfl rfl (opS_indexAddr_arr (Ar := 0) (k := 1) (m := 1) Tryd.underlying102 (by kernel_rfl) rfl rfl rfl (by decide)) ?_
   refine s0 rfl rfl (opR_store_pt (i := 0) (c := .v _) (by kernel_rfl) rfl rfl rfl rfl (Nat.le_of_ble_eq_true rfl)) ?_
   refine AR.nil ?_
   show AW _ _ _ _ _ _
   refine AW.seq ?_
   refine AW.region ?_
   show AR _ _ _ _ _ [0, 1, 2, 3] _
   refine sS rfl rfl rfl (mv rfl) ?_
   refine sS rfl rfl rfl (opS_move (av := slE _ _ _) rfl) ?_
   refine sS rfl rfl rfl (opS_len_sl Tryd.underlying24 rfl) ?_
   refine sS rfl rfl rfl (opS_gt rfl rfl) ?_
   refine AR.nil ?_
   show AW _ _ _ _ _ _
   refine AW.cond rfl (fun c26 => ?_) (fun c26 => ?_)
   ·replace H := cnd_t c26 H
    refine AW.region ?_
    show AR _ _ _ _ _ [0, 1, 2] _
    refine sS rfl rfl rfl (mv rfl) ?_
    refine sS rfl rfl rfl (opS_indexAddr_arr (Ar := 0) (k := 1) (m := 1) Tryd.underlying102 (by kernel_rfl) rfl rfl rfl (by decide)) ?_
    refine s0 rfl rfl (opR_store_pt (i := 0) (c := .v _) (by kernel_rfl) rfl rfl rfl rfl (Nat.le_of_ble_eq_true rfl)) ?_
    refine AR.nil ?_
    exact Exists.intro 61 ⟨H, WK.at [0, 0] (.cons (.refl _) (.cons (.refl _) (.cons (.refl _) (.cons (.refl _) (.cons (.refl _) (.nil _)))))) rfl⟩
   ·replace H := cnd_f c26 H
    refine AW.skip ?_
    exact Exists.intro x24 ⟨H, WK.at [0, 0] (.cons (.refl _) (.cons (.refl _) (.cons (.refl _) (.cons (.refl _) (.cons (.refl _) (.nil _)))))) rfl⟩
  rintro y27 H
  replace H : b64_group_j4 a1 x10 y20 y27 = some (r3, r4, r5, r6) := H
  unfold b64_group_j4 at H
  show AW _ _ _ _ _ _
  refine AW.region ?_
  show AR _ _ _ _ _ [0, 1] _
  refine sS rfl rfl rfl (OpS.eq (av' := i64 2) (g_add rfl rfl (by decide)) rfl) ?_
  refine sS rfl rfl rfl (mv rfl) ?_
  refine AR.nil ?_
  show AW _ _ _ _ _ _
  refine AW.seq ?_
  refine AW.region ?_
  show AR _ _ _ _ _ [0] _
  refine sS rfl rfl rfl (OpS.eq (av' := B true) (opS_lt rfl rfl) (B_congr (by decide))) ?_
  refine AR.nil ?_
  show AW _ _ _ _ _ _
  refine AW.seq ?_
  refine AW.cond rfl (fun _ => ?_) (fun hx => bool_no rfl hx)
  refine AW.skip ?_
  show AW _ _ _ _ _ _
  refine AW.cut (X := UInt8) (fun y34 => ⟨[(0, slE Enc.byte a1 q2), (2, .pt o7 0), (4, .v (.int .u64 (IntKind.u64.wrap ((BitVec.ofInt IntKind.u64.bits (IntKind.u64.wrap ((BitVec.ofInt IntKind.u64.bits (IntKind.u64.wrap ((IntKind.u64.wrap ((x10.getD 0 0).toNat : Int)) * 2 ^ min (Int.toNat 16) IntKind.u64.bits)) ||| BitVec.ofInt IntKind.u64.bits (IntKind.u64.wrap ((IntKind.u64.wrap ((x10.getD 1 0).toNat : Int)) * 2 ^ min (Int.toNat 8) IntKind.u64.bits))).toNat)) ||| BitVec.ofInt IntKind.u64.bits (IntKind.u64.wrap ((x10.getD 2 0).toNat : Int))).toNat)))), (5, .pt o14 0), (23, i64 2)], [], [.obj o14 [u8 y20, u8 y27, u8 y34, u8 0], .obj o7 [u8 0, u8 0, u8 0, u8 0]]⟩) (fun y34 => b64_group_j3 a1 x10 y20 y27 y34 = some (r3, r4, r5, r6)) ?_ ?_
  ·
   refine AW.block ?_
   refine AW.seq ?_
   refine AW.region ?_
   show AR _ _ _ _ _ [0, 1] _
   refine sS rfl rfl rfl (mv rfl) ?_
   refine sS rfl rfl rfl (asg rfl) ?_
   refine AR.nil ?_
   show AW _ _ _ _ _ _
   refine AW.seq ?_
   obtain ⟨g29, H⟩ := grd_s H
   obtain ⟨g30, H⟩ := grd_s H
   obtain ⟨x31, e32, H⟩ := lt_s H
   refine AW.region ?_
   show AR _ _ _ _ _ [0, 1, 2, 3, 4, 5, 6, 7, 8, 9] _
   refine sS rfl rfl rfl (mv rfl) ?_
   refine sS rfl rfl rfl (mv rfl) ?_
   refine sS rfl rfl rfl (mv rfl) ?_
   refine sS rfl rfl rfl (OpS.eq (av' := i64 12) (g_mul rfl rfl (by decide)) rfl) ?_
   refine sS rfl rfl rfl (OpS.eq (av' := i64 6) (g_sub rfl rfl (by decide)) rfl) ?_
   refine sS rfl rfl rfl (opS_shr rfl rfl (of_decide_eq_true g29)) ?_
   refine sS rfl rfl rfl (opS_and rfl rfl) ?_
   refine sS rfl rfl rfl (g_index_str Tryd.underlying9 rfl rfl g30 e32) ?_
   refine sS rfl rfl rfl (opS_indexAddr_arr (Ar := 0) (k := 1) (m := 2) Tryd.underlying102 (by kernel_rfl) rfl rfl rfl (by decide)) ?_
   refine s0 rfl rfl (opR_store_pt (i := 0) (c := .v _) (by kernel_rfl) rfl rfl rfl rfl (Nat.le_of_ble_eq_true rfl)) ?_
   refine AR.nil ?_
   show AW _ _ _ _ _ _
   refine AW.seq ?_
   refine AW.region ?_
   show AR _ _ _ _ _ [0, 1, 2, 3] _
   refine sS rfl rfl rfl (mv rfl) ?_
   refine sS rfl rfl rfl (opS_move (av := slE _ _ _) rfl) ?_
   refine sS rfl rfl rfl (opS_len_sl Tryd.underlying24 rfl) ?_
   refine sS rfl rfl rfl (opS_gt rfl rfl) ?_
   refine AR.nil ?_
   show AW _ _ _ _ _ _
   refine AW.cond rfl (fun c33 => ?_) (fun c33 => ?_)
   ·replace H := cnd_t c33 H
    refine AW.region ?_
    show AR _ _ _ _ _ [0, 1, 2] _
    refine sS rfl rfl rfl (mv rfl) ?_
    refine sS rfl rfl rfl (opS_indexAddr_arr (Ar := 0) (k := 1) (m := 2) Tryd.underlying102 (by kernel_rfl) rfl rfl rfl (by decide)) ?_
    refine s0 rfl rfl (opR_store_pt (i := 0) (c := .v _) (by kernel_rfl) rfl rfl rfl rfl (Nat.le_of_ble_eq_true rfl)) ?_
    refine AR.nil ?_
    exact Exists.intro 61 ⟨H, WK.at [0, 0] (.cons (.refl _) (.cons (.refl _) (.cons (.refl _) (.cons (.refl _) (.cons (.refl _) (.nil _)))))) rfl⟩
   ·replace H := cnd_f c33 H
    refine AW.skip ?_
    exact Exists.intro x31 ⟨H, WK.at [0, 0] (.cons (.refl _) (.cons (.refl _) (.cons (.refl _) (.cons (.refl _) (.cons (.refl _) (.nil _)))))) rfl⟩
  rintro y34 H
  replace H : b64_group_j3 a1 x10 y20 y27 y34 = some (r3, r4, r5, r6) := H
  unfold b64_group_j3 at H
  show AW _ _ _ _ _ _
  refine AW.region ?_
  show AR _ _ _ _ _ [0, 1] _
  refine sS rfl rfl rfl (OpS.eq (av' := i64 3) (g_add rfl rfl (by decide)) rfl) ?_
  refine sS rfl rfl rfl (mv rfl) ?_
  refine AR.nil ?_
  show AW _ _ _ _ _ _
  refine AW.seq ?_
  refine AW.region ?_
  show AR _ _ _ _ _ [0] _
  refine sS rfl rfl rfl (OpS.eq (av' := B true) (opS_lt rfl rfl) (B_congr (by decide))) ?_
  refine AR.nil ?_
  show AW _ _ _ _ _ _
  refine AW.seq ?_
  refine AW.cond rfl (fun _ => ?_) (fun hx => bool_no rfl hx)
  refine AW.skip ?_
  show AW _ _ _ _ _ _
  refine AW.cut (X := UInt8) (fun y41 => ⟨[(0, slE Enc.byte a1 q2), (2, .pt o7 0), (4, .v (.int .u64 (IntKind.u64.wrap ((BitVec.ofInt IntKind.u64.bits (IntKind.u64.wrap ((BitVec.ofInt IntKind.u64.bits (IntKind.u64.wrap ((IntKind.u64.wrap ((x10.getD 0 0).toNat : Int)) * 2 ^ min (Int.toNat 16) IntKind.u64.bits)) ||| BitVec.ofInt IntKind.u64.bits (IntKind.u64.wrap ((IntKind.u64.wrap ((x10.getD 1 0).toNat : Int)) * 2 ^ min (Int.toNat 8) IntKind.u64.bits))).toNat)) ||| BitVec.ofInt IntKind.u64.bits (IntKind.u64.wrap ((x10.getD 2 0).toNat : Int))).toNat)))), (5, .pt o14 0), (23, i64 3)], [], [.obj o14 [u8 y20, u8 y27, u8 y34, u8 y41], .obj o7 [u8 0, u8 0, u8 0, u8 0]]⟩) (fun y41 => b64_group_j2 y20 y27 y34 y41 = some (r3, r4, r5, r6)) ?_ ?_
  ·
   refine AW.block ?_
   refine AW.seq ?_
   refine AW.region ?_
   show AR _ _ _ _ _ [0, 1] _
   refine sS rfl rfl rfl (mv rfl) ?_
   refine sS rfl rfl rfl (asg rfl) ?_
   refine AR.nil ?_
   show AW _ _ _ _ _ _
   refine AW.seq ?_
   obtain ⟨g36, H⟩ := grd_s H
   obtain ⟨g37, H⟩ := grd_s H
   obtain ⟨x38, e39, H⟩ := lt_s H
   refine AW.region ?_
   show AR _ _ _ _ _ [0, 1, 2, 3, 4, 5, 6, 7, 8, 9] _
   refine sS rfl rfl rfl (mv rfl) ?_
   refine sS rfl rfl rfl (mv rfl) ?_
   refine sS rfl rfl rfl (mv rfl) ?_
   refine sS rfl rfl rfl (OpS.eq (av' := i64 18) (g_mul rfl rfl (by decide)) rfl) ?_
   refine sS rfl rfl rfl (OpS.eq (av' := i64 0) (g_sub rfl rfl (by decide)) rfl) ?_
   refine sS rfl rfl rfl (opS_shr rfl rfl (of_decide_eq_true g36)) ?_
   refine sS rfl rfl rfl (opS_and rfl rfl) ?_
   refine sS rfl rfl rfl (g_index_str Tryd.underlying9 rfl rfl g37 e39) ?_
   refine sS rfl rfl rfl (opS_indexAddr_arr (Ar := 0) (k := 1) (m := 3) Tryd.underlying102 (by kernel_rfl) rfl rfl rfl (by decide)) ?_
   refine s0 rfl rfl (opR_store_pt (i := 0) (c := .v _) (by kernel_rfl) rfl rfl rfl rfl (Nat.le_of_ble_eq_true rfl)) ?_
   refine AR.nil ?_
   show AW _ _ _ _ _ _
   refine AW.seq ?_
   refine AW.region ?_
   show AR _ _ _ _ _ [0, 1, 2, 3] _
   refine sS rfl rfl rfl (mv rfl) ?_
   refine sS rfl rfl rfl (opS_move (av := slE _ _ _) rfl) ?_
   refine sS rfl rfl rfl (opS_len_sl Tryd.underlying24 rfl) ?_
   refine sS rfl rfl rfl (opS_gt rfl rfl) ?_
   refine AR.nil ?_
   show AW _ _ _ _ _ _
   refine AW.cond rfl (fun c40 => ?_) (fun c40 => ?_)
   ·replace H := cnd_t c40 H
    refine AW.region ?_
    show AR _ _ _ _ _ [0, 1, 2] _
    refine sS rfl rfl rfl (mv rfl) ?_
    refine sS rfl rfl rfl (opS_indexAddr_arr (Ar := 0) (k := 1) (m := 3) Tryd.underlying102 (by kernel_rfl) rfl rfl rfl (by decide)) ?_
    refine s0 rfl rfl (opR_store_pt (i := 0) (c := .v _) (by kernel_rfl) rfl rfl rfl rfl (Nat.le_of_ble_eq_true rfl)) ?_
    refine AR.nil ?_
    exact Exists.intro 61 ⟨H, WK.at [0, 0] (.cons (.refl _) (.cons (.refl _) (.cons (.refl _) (.cons (.refl _) (.cons (.refl _) (.nil _)))))) rfl⟩
   ·replace H := cnd_f c40 H
    refine AW.skip ?_
    exact Exists.intro x38 ⟨H, WK.at [0, 0] (.cons (.refl _) (.cons (.refl _) (.cons (.refl _) (.cons (.refl _) (.cons (.refl _) (.nil _)))))) rfl⟩
  rintro y41 H
  replace H : b64_group_j2 y20 y27 y34 y41 = some (r3, r4, r5, r6) := H
  unfold b64_group_j2 at H
  show AW _ _ _ _ _ _
  refine AW.region ?_
  show AR _ _ _ _ _ [0, 1] _
  refine sS rfl rfl rfl (OpS.eq (av' := i64 4) (g_add rfl rfl (by decide)) rfl) ?_
  refine sS rfl rfl rfl (mv rfl) ?_
  refine AR.nil ?_
  show AW _ _ _ _ _ _
  refine AW.seq ?_
  refine AW.region ?_
  show AR _ _ _ _ _ [0] _
  refine sS rfl rfl rfl (OpS.eq (av' := B false) (opS_lt rfl rfl) (B_congr (by decide))) ?_
  refine AR.nil ?_
  show AW _ _ _ _ _ _
  refine AW.seq ?_
  refine AW.cond rfl (fun hx => bool_no hx rfl) (fun _ => ?_)
  refine AW.exit ?_
  exact Exists.intro (y20, y27, y34, y41) ⟨H, WK.at [0, 0] (.cons (.refl _) (.cons (.refl _) (.nil _))) rfl⟩
 rintro ⟨y43, y44, y45, y46⟩ H
 replace H : b64_group_j1 y43 y44 y45 y46 = some (r3, r4, r5, r6) := H
 unfold b64_group_j1 at H
 show AW _ _ _ _ _ _
 refine AW.seq ?_
 refine AW.region ?_
 show AR _ _ _ _ _ [0, 1] _
 refine sR rfl rfl rfl (opR_load_agg (i := 0) (n := 4) Tryd.underlying102 rfl (by kernel_rfl) rfl rfl (Nat.le_of_ble_eq_true rfl)) ?_
 refine s0 rfl rfl (opR_store_agg (i := 1) (vs := [u8 y43, u8 y44, u8 y45, u8 y46]) (by kernel_rfl) rfl rfl (by simp [isCell, slE]) rfl (Nat.le_of_ble_eq_true rfl)) ?_
 refine AR.nil ?_
 show AW _ _ _ _ _ _
 refine AW.ret ?_
 obtain ⟨rfl, rfl, rfl, rfl⟩ := res4 H
 exact And.intro rfl (Exists.intro _ (Exists.intro _ ⟨ResT.resV (ResT.place1 rfl (CellV.agg (off := 0) (cs := [u8 y43, u8 y44, u8 y45, u8 y46]) (n := 4) 1 Tryd.underlying102 rfl (by kernel_rfl) rfl rfl (Nat.le_of_ble_eq_true rfl))), Sub.at [] rfl, rfl, rfl⟩))
set_option maxRecDepth 100000 in
set_option maxHeartbeats 1000000 in
theorem w_b64_Raw (F : Nat) (a1 : List UInt8) (q2 : Option Nat) (r3 : List UInt8) (H : b64_Raw F a1 = some r3) : ACalls Tryd.prog 54 [slE Enc.byte a1 q2] [] (Ret (S r3) []) := by
 unfold b64_Raw at H
 refine ACalls.of_body Tryd.func54 rfl rfl ?_
 show AW _ _ 23 _ _ _
 refine AW.seq ?_
 refine AW.region ?_
 show AR _ _ _ _ _ [0] _
 refine sS rfl rfl rfl (asg rfl) ?_
 refine AR.nil ?_
 show AW _ _ _ _ _ _
 refine AW.seq ?_
 refine AW.region ?_
 show AR _ _ _ _ _ [0] _
 refine sX rfl rfl rfl (opX_allocT (zs := [(.pointer none), .slice none 0 0]) (by kernel_rfl)) ?_
 rintro _ _ ⟨o4, rfl, rfl⟩
 refine AR.nil ?_
 show AW _ _ _ _ _ _
 refine AW.nil_objAt 0 1 1 5 rfl rfl fun t5 => ?_
 show AW _ _ _ _ _ ⟨_, _, [.tok t5 5, .obj o4 [.v (.pointer none), slE Enc.byte [] (some t5)], .ty o4 81]⟩
 refine AW.cut (X := AV × (List UInt8) × Nat) (fun (t29, y30, t31) => ⟨[(3, .pt o4 0)], [], [.obj o4 [t29, slE Enc.byte y30 (some t31)], .ty o4 81, .tok t31 5]⟩) (fun (t29, y30, t31) => b64_Raw_j1 y30 = some r3 ∧ (t29 = .v (.pointer none) ∨ t29 = .pt o4 0)) ?_ ?_
 ·
  refine AW.block ?_
  refine AW.loop (X := Nat × (List UInt8) × AV × (List UInt8) × Nat) (fun (n11, y6, t7, y8, t9) => ⟨[(0, slE Enc.byte y6 none), (3, .pt o4 0)], [], [.obj o4 [t7, slE Enc.byte y8 (some t9)], .ty o4 81, .tok t9 5]⟩) (fun (n11, y6, t7, y8, t9) => b64_Raw_L1 F n11 (y6, y8) = some r3 ∧ (t7 = .v (.pointer none) ∨ t7 = .pt o4 0)) (fun (n11, y6, t7, y8, t9) => n11) (F, a1, (.v (.pointer none)), [], t5) ⟨H, .inl rfl⟩ (WK.at [1, 1, 0] (.cons (.tok _ _ _) (.cons (.refl _) (.nil _))) rfl) ?_
  rintro ⟨n11, y6, t7, y8, t9⟩ ⟨H, ht7⟩
  obtain ⟨n11, rfl, H⟩ := loop_s H
  replace H : b64_Raw_B1 F (b64_Raw_L1 F n11) y6 y8 = some r3 := H
  unfold b64_Raw_B1 at H
  show AW _ _ _ _ _ _
  refine AW.seq ?_
  refine AW.seq ?_
  refine AW.region ?_
  show AR _ _ _ _ _ [0, 1, 2] _
  refine sS rfl rfl rfl (opS_move (av := slE _ _ _) rfl) ?_
  refine sS rfl rfl rfl (opS_len_sl Tryd.underlying24 rfl) ?_
  refine sS rfl rfl rfl (opS_gt rfl rfl) ?_
  refine AR.nil ?_
  show AW _ _ _ _ _ _
  refine AW.cond rfl (fun c12 => ?_) (fun c12 => ?_)
  ·replace H := cnd_t c12 H
   refine AW.skip ?_
   show AW _ _ _ _ _ _
   refine AW.block ?_
   refine AW.seq ?_
   refine AW.region ?_
   show AR _ _ _ _ _ [0, 1, 2, 3] _
   refine sS rfl rfl rfl (opS_move (av := slE _ _ _) rfl) ?_
   refine sS rfl rfl rfl (opS_len_sl Tryd.underlying24 rfl) ?_
   refine sS rfl rfl rfl (opS_min rfl rfl) ?_
   refine sS rfl rfl rfl (asg rfl) ?_
   refine AR.nil ?_
   show AW _ _ _ _ _ _
   refine AW.seq ?_
   obtain ⟨g13, H⟩ := grd_s H
   obtain ⟨x14, e15, H⟩ := lt_s H
   obtain ⟨x16, x17, x18, x19, e20, H⟩ := bnd4_s H
   refine AW.region ?_
   show AR _ _ _ _ _ [0, 1, 2, 3, 4, 5, 6] _
   refine sS rfl rfl rfl (opS_move (av := slE _ _ _) rfl) ?_
   refine sS rfl rfl rfl (mv rfl) ?_
   refine sS rfl rfl rfl (mv rfl) ?_
   refine sS rfl rfl rfl (g_slice3_to (E := Enc.byte) Tryd.underlying24 (by kernel_rfl) rfl rfl rfl g13 e15) ?_
   refine AR.run rfl rfl (AO.callp rfl en75_b64 rfl (w_b64_group F x14 none x16 x17 x18 x19 e20) ?_)
   refine sX rfl rfl rfl (opX_alloc (zs := [.int .u8 0, .int .u8 0, .int .u8 0, .int .u8 0]) (by kernel_rfl)) ?_
   rintro _ _ ⟨o21, rfl, rfl⟩
   refine s0 rfl rfl (opR_store_agg (i := 0) (vs := [u8 x16, u8 x17, u8 x18, u8 x19]) (by kernel_rfl) rfl rfl (by simp [isCell, slE]) rfl (Nat.le_of_ble_eq_true rfl)) ?_
   refine AR.freezeCp 5 0 rfl rfl ?_
   show AR _ _ _ _ _ _ ⟨_, _, [.obj o4 [t7, slE Enc.byte y8 (some t9)], .ty o4 81, .tok t9 5]⟩
   refine AR.nil ?_
   show AW _ _ _ _ _ _
   refine AW.seq ?_
   obtain ⟨g22, H⟩ := grd_s H
   obtain ⟨x23, e24, H⟩ := lt_s H
   refine AW.region ?_
   show AR _ _ _ _ _ [0, 1] _
   refine sS rfl rfl rfl (opS_slice_arr_cp (E := Enc.byte) (l := ([x16, x17, x18, x19] : List UInt8)) rfl Tryd.underlying102 (by kernel_rfl) rfl rfl rfl) ?_
   refine AR.run rfl rfl (AO.callAt [0, 0, 0] rfl en76_b64 rfl (Builder_Write0  o4 (t7) ht7 y8 ([x16, x17, x18, x19] : List UInt8) none t9 (okW_s g22)) rfl (fun c A' h => by cases h.1) ?_)
   rintro av A' ⟨h, t25, rfl⟩; cases h
   rw [e24]
   refine AR.nil ?_
   show AW _ _ _ _ _ _
   obtain ⟨g26, H⟩ := grd_s H
   obtain ⟨x27, e28, H⟩ := lt_s H
   refine AW.region ?_
   show AR _ _ _ _ _ [0, 1, 2, 3] _
   refine sS rfl rfl rfl (opS_move (av := slE _ _ _) rfl) ?_
   refine sS rfl rfl rfl (mv rfl) ?_
   refine sS rfl rfl rfl (g_from_sl (E := Enc.byte) Tryd.underlying24 (by kernel_rfl) rfl rfl g26 e28) ?_
   refine sS rfl rfl rfl (opS_assign (av := slE _ _ _) rfl) ?_
   refine AR.nil ?_
   exact Exists.intro (n11, x27, (.pt o4 0), x23, t25) ⟨⟨H, .inr rfl⟩, Nat.lt_succ_self _, WK.at [0, 0, 0] (.cons (.refl _) (.cons (.refl _) (.nil _))) rfl⟩
  ·replace H := cnd_f c12 H
   refine AW.exit ?_
   exact Exists.intro (t7, y8, t9) ⟨⟨H, ht7⟩, WK.at [0, 0, 0] (.cons (.refl _) (.nil _)) rfl⟩
 rintro ⟨t29, y30, t31⟩ ⟨H, ht29⟩
 replace H : b64_Raw_j1 y30 = some r3 := H
 unfold b64_Raw_j1 at H
 show AW _ _ _ _ _ _
 refine AW.seq ?_
 obtain ⟨g33, H⟩ := grd_s H
 refine AW.region ?_
 show AR _ _ _ _ _ [0, 1] _
 refine AR.run rfl rfl (AO.callAt [0, 1] rfl en59_b64 rfl (Builder_String0  o4 (t29) y30 t31 (okW0_s g33)) rfl (fun c A' h => by cases h.1) ?_)
 rintro av A' ⟨h, rfl⟩; cases h
 refine sS rfl rfl rfl (asg rfl) ?_
 refine AR.nil ?_
 show AW _ _ _ _ _ _
 refine AW.ret ?_
 obtain rfl := Option.some.inj H
 exact And.intro rfl (Exists.intro _ (Exists.intro _ ⟨ResV.oneW rfl (.refl _), Sub.at [] rfl, rfl, rfl⟩))
set_option maxRecDepth 100000 in
set_option maxHeartbeats 1000000 in
theorem w_b64_Bytes (F : Nat) (a1 : List UInt8) (r2 : List UInt8) (r3 : Int) (H : b64_Bytes F a1 = some (r2, r3)) : ACalls Tryd.prog 80 [S a1] [] (Ret (.tup [slE Enc.byte r2 none, i64 r3]) []) := by
 unfold b64_Bytes at H
 refine ACalls.of_body Tryd.func80 rfl rfl ?_
 show AW _ _ 61 _ _ _
 refine AW.seq ?_
 refine AW.region ?_
 show AR _ _ _ _ _ [0, 1] _
 refine sS rfl rfl rfl (asg rfl) ?_
 refine sS rfl rfl rfl (asg rfl) ?_
 refine AR.nil ?_
 show AW _ _ _ _ _ _
 refine AW.seq ?_
 refine AW.region ?_
 show AR _ _ _ _ _ [0] _
 refine sS rfl rfl rfl (asg rfl) ?_
 refine AR.nil ?_
 show AW _ _ _ _ _ _
 refine AW.nil_grows 4 1 5 rfl fun t4 => ?_
 show AW _ _ _ _ _ ⟨(4, slE Enc.byte [] (some t4)) :: _, _, _⟩
 refine AW.cut (X := (List UInt8) × Nat) (fun (y50, t51) => ⟨[(0, S a1), (4, slE Enc.byte y50 (some t51))], [], [.tok t51 5]⟩) (fun (y50, t51) => b64_Bytes_j1 F a1 y50 = some (r2, r3)) ?_ ?_
 ·
  refine AW.seq ?_
  refine AW.region ?_
  show AR _ _ _ _ _ [0, 1] _
  refine sS rfl rfl rfl (mv rfl) ?_
  refine sS rfl rfl rfl (asg rfl) ?_
  refine AR.nil ?_
  show AW _ _ _ _ _ _
  refine AW.block ?_
  refine AW.loop (X := Nat × (List UInt8) × Nat × (List UInt8)) (fun (n9, y5, t6, y7) => ⟨[(0, S a1), (4, slE Enc.byte y5 (some t6)), (5, S y7)], [], [.tok t6 5]⟩) (fun (n9, y5, t6, y7) => b64_Bytes_L2 F a1 n9 (y5, y7) = some (r2, r3)) (fun (n9, y5, t6, y7) => n9) (F, [], t4, a1) H (WK.at [0] (.cons (.refl _) (.cons (.refl _) (.cons (.refl _) (.nil _)))) rfl) ?_
  rintro ⟨n9, y5, t6, y7⟩ H
  obtain ⟨n9, rfl, H⟩ := loop_s H
  replace H : b64_Bytes_B2 F a1 (b64_Bytes_L2 F a1 n9) y5 y7 = some (r2, r3) := H
  unfold b64_Bytes_B2 at H
  show AW _ _ _ _ _ _
  refine AW.seq ?_
  refine AW.seq ?_
  refine AW.region ?_
  show AR _ _ _ _ _ [0, 1] _
  refine sS rfl rfl rfl (mv rfl) ?_
  refine sS rfl rfl rfl (opS_nes rfl rfl) ?_
  refine AR.nil ?_
  show AW _ _ _ _ _ _
  refine AW.cond rfl (fun c10 => ?_) (fun c10 => ?_)
  ·replace H := cnd_t c10 H
   refine AW.skip ?_
   show AW _ _ _ _ _ _
   refine AW.block ?_
   refine AW.seq ?_
   refine AW.seq ?_
   refine AW.region ?_
   show AR _ _ _ _ _ [0, 1, 2] _
   refine sS rfl rfl rfl (mv rfl) ?_
   refine sS rfl rfl rfl (opS_len_str Tryd.underlying9 rfl) ?_
   refine sS rfl rfl rfl (opS_lt rfl rfl) ?_
   refine AR.nil ?_
   show AW _ _ _ _ _ _
   refine AW.cond rfl (fun c11 => ?_) (fun c11 => ?_)
   ·replace H := cnd_t c11 H
    refine AW.seq ?_
    refine AW.region ?_
    show AR _ _ _ _ _ [0, 1] _
    refine sS rfl rfl rfl (asg rfl) ?_
    refine sS rfl rfl rfl (asg rfl) ?_
    refine AR.nil ?_
    show AW _ _ _ _ _ _
    refine AW.ret ?_
    obtain ⟨rfl, rfl⟩ := res2 H
    exact And.intro rfl (Exists.intro _ (Exists.intro _ ⟨ResV.twoW rfl (.nil _) (.refl _), Sub.at [] rfl, rfl, rfl⟩))
   ·replace H := cnd_f c11 H
    refine AW.skip ?_
    show AW _ _ _ _ _ _
    refine AW.seq ?_
    refine AW.region ?_
    show AR _ _ _ _ _ [0, 1] _
    refine sS rfl rfl rfl (asg rfl) ?_
    refine sS rfl rfl rfl (asg rfl) ?_
    refine AR.nil ?_
    show AW _ _ _ _ _ _
    refine AW.cut (X := Int × Int) (fun (y35, y36) => ⟨[(0, S a1), (4, slE Enc.byte y5 (some t6)), (5, S y7), (6, .v (.int .u64 y35)), (7, i64 y36)], [], [.tok t6 5]⟩) (fun (y35, y36) => b64_Bytes_j2 y5 y7 (b64_Bytes_L2 F a1 n9) y35 y36 = some (r2, r3)) ?_ ?_
    ·
     refine AW.seq ?_
     refine AW.region ?_
     show AR _ _ _ _ _ [0] _
     refine sS rfl rfl rfl (mv rfl) ?_
     refine AR.nil ?_
     show AW _ _ _ _ _ _
     refine AW.block ?_
     refine AW.loop (X := Nat × Int × Int × Int) (fun (n16, y12, y13, y14) => ⟨[(0, S a1), (4, slE Enc.byte y5 (some t6)), (5, S y7), (6, .v (.int .u64 y12)), (7, i64 y13), (16, i64 y14)], [], [.tok t6 5]⟩) (fun (n16, y12, y13, y14) => b64_Bytes_L1 y5 y7 (b64_Bytes_L2 F a1 n9) n16 (y12, y13, y14) = some (r2, r3)) (fun (n16, y12, y13, y14) => n16) (F, 0, 3, 0) H (WK.at [0] (.cons (.refl _) (.cons (.refl _) (.cons (.refl _) (.cons (.refl _) (.cons (.refl _) (.cons (.refl _) (.nil _))))))) rfl) ?_
     rintro ⟨n16, y12, y13, y14⟩ H
     obtain ⟨n16, rfl, H⟩ := loop_s H
     replace H : b64_Bytes_B1 y5 y7 (b64_Bytes_L2 F a1 n9) (b64_Bytes_L1 y5 y7 (b64_Bytes_L2 F a1 n9) n16) y12 y13 y14 = some (r2, r3) := H
     unfold b64_Bytes_B1 at H
     show AW _ _ _ _ _ _
     refine AW.seq ?_
     refine AW.region ?_
     show AR _ _ _ _ _ [0] _
     refine sS rfl rfl rfl (opS_lt rfl rfl) ?_
     refine AR.nil ?_
     show AW _ _ _ _ _ _
     refine AW.seq ?_
     refine AW.cond rfl (fun c17 => ?_) (fun c17 => ?_)
     ·replace H := cnd_t c17 H
      refine AW.skip ?_
      show AW _ _ _ _ _ _
      refine AW.seq ?_
      refine AW.block ?_
      refine AW.seq ?_
      refine AW.region ?_
      show AR _ _ _ _ _ [0, 1] _
      refine sS rfl rfl rfl (mv rfl) ?_
      refine sS rfl rfl rfl (asg rfl) ?_
      refine AR.nil ?_
      show AW _ _ _ _ _ _
      refine AW.seq ?_
      obtain ⟨g18, H⟩ := grd_s H
      obtain ⟨x19, e20, H⟩ := lt_s H
      obtain ⟨x21, e22, H⟩ := lt_s H
      refine AW.region ?_
      show AR _ _ _ _ _ [0, 1, 2, 3, 4] _
      refine sS rfl rfl rfl (mv rfl) ?_
      refine sS rfl rfl rfl (mv rfl) ?_
      refine sS rfl rfl rfl (g_index_str Tryd.underlying9 rfl rfl g18 e20) ?_
      refine AR.run rfl rfl (AO.callp rfl en98_b64 rfl (show ACalls _ _ _ [] (Ret (i64 x21) []) from by subst e22; exact lib_IndexByte b64_k1 x19) ?_)
      refine sS rfl rfl rfl (asg rfl) ?_
      refine AR.nil ?_
      show AW _ _ _ _ _ _
      refine AW.cut (X := Int × Int) (fun (y28, y29) => ⟨[(0, S a1), (4, slE Enc.byte y5 (some t6)), (5, S y7), (6, .v (.int .u64 y12)), (7, i64 y28), (9, i64 y29), (16, i64 y14)], [], [.tok t6 5]⟩) (fun (y28, y29) => b64_Bytes_j3 y12 y14 (b64_Bytes_L1 y5 y7 (b64_Bytes_L2 F a1 n9) n16) y28 y29 = some (r2, r3)) ?_ ?_
      ·
       refine AW.seq ?_
       obtain ⟨g23, H⟩ := grd_s H
       obtain ⟨x24, e25, H⟩ := lt_s H
       refine AW.region ?_
       show AR _ _ _ _ _ [0, 1, 2, 3] _
       refine sS rfl rfl rfl (mv rfl) ?_
       refine sS rfl rfl rfl (mv rfl) ?_
       refine sS rfl rfl rfl (g_index_str Tryd.underlying9 rfl rfl g23 e25) ?_
       refine sS rfl rfl rfl (g_eq8 (a := x24) (b := 61) rfl rfl) ?_
       refine AR.nil ?_
       show AW _ _ _ _ _ _
       refine AW.cond rfl (fun c26 => ?_) (fun c26 => ?_)
       ·replace H := cnd_t c26 H
        refine AW.seq ?_
        refine AW.region ?_
        show AR _ _ _ _ _ [0] _
        refine sS rfl rfl rfl (asg rfl) ?_
        refine AR.nil ?_
        show AW _ _ _ _ _ _
        obtain ⟨g27, H⟩ := grd_s H
        refine AW.region ?_
        show AR _ _ _ _ _ [0, 1, 2] _
        refine sS rfl rfl rfl (mv rfl) ?_
        refine sS rfl rfl rfl (g_sub rfl rfl g27) ?_
        refine sS rfl rfl rfl (asg rfl) ?_
        refine AR.nil ?_
        exact Exists.intro (y13 - 1, 0) ⟨H, WK.at [0] (.cons (.refl _) (.cons (.refl _) (.cons (.refl _) (.cons (.refl _) (.cons (.refl _) (.cons (.refl _) (.cons (.refl _) (.nil _)))))))) rfl⟩
       ·replace H := cnd_f c26 H
        refine AW.skip ?_
        exact Exists.intro (y13, x21) ⟨H, WK.at [0] (.cons (.refl _) (.cons (.refl _) (.cons (.refl _) (.cons (.refl _) (.cons (.refl _) (.cons (.refl _) (.cons (.refl _) (.nil _)))))))) rfl⟩
      rintro ⟨y28, y29⟩ H
      replace H : b64_Bytes_j3 y12 y14 (b64_Bytes_L1 y5 y7 (b64_Bytes_L2 F a1 n9) n16) y28 y29 = some (r2, r3) := H
      unfold b64_Bytes_j3 at H
      show AW _ _ _ _ _ _
      refine AW.seq ?_
      refine AW.seq ?_
      refine AW.region ?_
      show AR _ _ _ _ _ [0, 1, 2, 3, 4, 5] _
      refine sS rfl rfl rfl (mv rfl) ?_
      refine sS rfl rfl rfl (opS_lt rfl rfl) ?_
      refine sS rfl rfl rfl (mv rfl) ?_
      refine AR.meet (l := []) 34 (B ((decide (y29 < 0)) || (decide (y28 < 1)))) (fun K => ?_) ?_
      ·rcases Bool.eq_false_or_eq_true (decide (y29 < 0)) with h31 | h31
       ·
        refine gF h31 rfl rfl rfl rfl rfl ?_
        refine gF h31 rfl rfl rfl rfl rfl ?_
        refine sS rfl rfl rfl (opS_pick_t (av := .v _) rfl h31 rfl) ?_
        exact K _ 2 _ (B_congr (or_t h31)) rfl rfl
       ·
        refine gT h31 rfl rfl rfl rfl rfl rfl (AO.ops rfl rfl (mv rfl) ?_)
        refine gT h31 rfl rfl rfl rfl rfl rfl (AO.ops rfl rfl (opS_lt rfl rfl) ?_)
        refine sS rfl rfl rfl (opS_pick_f (av := .v _) rfl h31 rfl) ?_
        exact K _ 2 _ (B_congr (or_f h31)) rfl rfl
      refine AR.nil ?_
      show AW _ _ _ _ _ _
      refine AW.cond rfl (fun c32 => ?_) (fun c32 => ?_)
      ·replace H := cnd_t c32 H
       refine AW.seq ?_
       refine AW.region ?_
       show AR _ _ _ _ _ [0, 1] _
       refine sS rfl rfl rfl (asg rfl) ?_
       refine sS rfl rfl rfl (asg rfl) ?_
       refine AR.nil ?_
       show AW _ _ _ _ _ _
       refine AW.ret ?_
       obtain ⟨rfl, rfl⟩ := res2 H
       exact And.intro rfl (Exists.intro _ (Exists.intro _ ⟨ResV.twoW rfl (.nil _) (.refl _), Sub.at [] rfl, rfl, rfl⟩))
      ·replace H := cnd_f c32 H
       refine AW.skip ?_
       show AW _ _ _ _ _ _
       obtain ⟨g33, H⟩ := grd_s H
       refine AW.region ?_
       show AR _ _ _ _ _ [0, 1, 2, 3, 4, 5] _
       refine sS rfl rfl rfl (mv rfl) ?_
       refine sS rfl rfl rfl (opS_shl rfl rfl (of_decide_eq_true g33)) ?_
       refine sS rfl rfl rfl (mv rfl) ?_
       refine sS rfl rfl rfl (opS_conv_int (by kernel_rfl) Tryd.underlying113 rfl) ?_
       refine sS rfl rfl rfl (opS_or rfl rfl) ?_
       refine sS rfl rfl rfl (asg rfl) ?_
       refine AR.nil ?_
       show AW _ _ _ _ _ _
       obtain ⟨g34, H⟩ := grd_s H
       refine AW.region ?_
       show AR _ _ _ _ _ [0, 1] _
       refine sS rfl rfl rfl (g_add rfl rfl g34) ?_
       refine sS rfl rfl rfl (mv rfl) ?_
       refine AR.nil ?_
       exact Exists.intro (n16, IntKind.u64.wrap ((BitVec.ofInt IntKind.u64.bits (IntKind.u64.wrap (y12 * 2 ^ min (Int.toNat 6) IntKind.u64.bits)) ||| BitVec.ofInt IntKind.u64.bits (IntKind.u64.wrap y29)).toNat), y28, y14 + 1) ⟨H, Nat.lt_succ_self _, WK.at [0] (.cons (.refl _) (.cons (.refl _) (.cons (.refl _) (.cons (.refl _) (.cons (.refl _) (.cons (.refl _) (.nil _))))))) rfl⟩
     ·replace H := cnd_f c17 H
      refine AW.exit ?_
      exact Exists.intro (y12, y13) ⟨H, WK.at [0] (.cons (.refl _) (.cons (.refl _) (.cons (.refl _) (.cons (.refl _) (.cons (.refl _) (.nil _)))))) rfl⟩
    rintro ⟨y35, y36⟩ H
    replace H : b64_Bytes_j2 y5 y7 (b64_Bytes_L2 F a1 n9) y35 y36 = some (r2, r3) := H
    unfold b64_Bytes_j2 at H
    show AW _ _ _ _ _ _
    refine AW.seq ?_
    obtain ⟨g38, H⟩ := grd_s H
    obtain ⟨g39, H⟩ := grd_s H
    obtain ⟨g40, H⟩ := grd_s H
    obtain ⟨x41, e42, H⟩ := lt_s H
    obtain ⟨g44, H⟩ := grd_s H
    obtain ⟨x45, e46, H⟩ := lt_s H
    refine AW.region ?_
    show AR _ _ _ _ _ [0, 1, 2, 3, 4, 5, 6, 7, 8, 9, 10, 11, 12, 13] _
    refine sS rfl rfl rfl (opS_move (av := slE _ _ _) rfl) ?_
    refine sS rfl rfl rfl (mv rfl) ?_
    refine sS rfl rfl rfl (opS_shr rfl rfl (of_decide_eq_true g38)) ?_
    refine sS rfl rfl rfl (g_conv_to8 (by kernel_rfl) Tryd.underlying5 rfl) ?_
    refine sS rfl rfl rfl (mv rfl) ?_
    refine sS rfl rfl rfl (opS_shr rfl rfl (of_decide_eq_true g39)) ?_
    refine sS rfl rfl rfl (g_conv_to8 (by kernel_rfl) Tryd.underlying5 rfl) ?_
    refine sS rfl rfl rfl (mv rfl) ?_
    refine sS rfl rfl rfl (g_conv_to8 (by kernel_rfl) Tryd.underlying5 rfl) ?_
    refine sR rfl rfl rfl (opR_buildE (E := Enc.byte) (bytes := 1) (xs := [.tmp 44, .tmp 47, .tmp 49]) (l := ([Go.Av.toB (Int.fdiv y35 (2 ^ min (Int.toNat 16) IntKind.u64.bits)), Go.Av.toB (Int.fdiv y35 (2 ^ min (Int.toNat 8) IntKind.u64.bits)), Go.Av.toB y35] : List UInt8)) Tryd.underlying24 (by kernel_rfl) rfl rfl (by decide) rfl rfl) ?_
    refine sS rfl rfl rfl (mv rfl) ?_
    refine sS rfl rfl rfl (g_to_sl (E := Enc.byte) Tryd.underlying24 (by kernel_rfl) rfl rfl g40 e42) ?_
    refine sX rfl rfl rfl (g_append (E := Enc.byte) (bytes := 1) 0 Tryd.underlying24 Tryd.underlying24 rfl (by kernel_rfl) rfl rfl rfl rfl g44 e46) ?_
    rintro _ _ ⟨t43, rfl, rfl⟩
    refine sS rfl rfl rfl (opS_assign (av := slE _ _ _) rfl) ?_
    refine AR.nil ?_
    show AW _ _ _ _ _ _
    obtain ⟨g47, H⟩ := grd_s H
    obtain ⟨x48, e49, H⟩ := lt_s H
    refine AW.region ?_
    show AR _ _ _ _ _ [0, 1, 2] _
    refine sS rfl rfl rfl (mv rfl) ?_
    refine sS rfl rfl rfl (g_from_str Tryd.underlying9 rfl rfl g47 e49) ?_
    refine sS rfl rfl rfl (asg rfl) ?_
    refine AR.nil ?_
    exact Exists.intro (n9, x45, t43, x48) ⟨H, Nat.lt_succ_self _, WK.at [0] (.cons (.refl _) (.cons (.refl _) (.cons (.refl _) (.nil _)))) rfl⟩
  ·replace H := cnd_f c10 H
   refine AW.exit ?_
   exact Exists.intro (y5, t6) ⟨H, WK.at [0] (.cons (.refl _) (.cons (.refl _) (.nil _))) rfl⟩
 rintro ⟨y50, t51⟩ H
 replace H : b64_Bytes_j1 F a1 y50 = some (r2, r3) := H
 unfold b64_Bytes_j1 at H
 show AW _ _ _ _ _ _
 refine AW.seq ?_
 refine AW.seq ?_
 obtain ⟨x53, e54, H⟩ := bnd_s H
 refine AW.region ?_
 show AR _ _ _ _ _ [0, 1, 2, 3] _
 refine sS rfl rfl rfl (opS_move (av := slE _ _ _) rfl) ?_
 refine AR.run rfl rfl (AO.callp rfl en54_b64 rfl (w_b64_Raw F y50 (some t51) x53 e54) ?_)
 refine sS rfl rfl rfl (mv rfl) ?_
 refine sS rfl rfl rfl (opS_nes rfl rfl) ?_
 refine AR.nil ?_
 show AW _ _ _ _ _ _
 refine AW.cond rfl (fun c55 => ?_) (fun c55 => ?_)
 ·replace H := cnd_t c55 H
  refine AW.seq ?_
  refine AW.region ?_
  show AR _ _ _ _ _ [0, 1] _
  refine sS rfl rfl rfl (asg rfl) ?_
  refine sS rfl rfl rfl (asg rfl) ?_
  refine AR.nil ?_
  show AW _ _ _ _ _ _
  refine AW.ret ?_
  obtain ⟨rfl, rfl⟩ := res2 H
  exact And.intro rfl (Exists.intro _ (Exists.intro _ ⟨ResV.twoW rfl (.nil _) (.refl _), Sub.at [] rfl, rfl, rfl⟩))
 ·replace H := cnd_f c55 H
  refine AW.skip ?_
  show AW _ _ _ _ _ _
  refine AW.seq ?_
  refine AW.region ?_
  show AR _ _ _ _ _ [0, 1, 2] _
  refine sS rfl rfl rfl (opS_move (av := slE _ _ _) rfl) ?_
  refine sS rfl rfl rfl (opS_assign (av := slE _ _ _) rfl) ?_
  refine sS rfl rfl rfl (asg rfl) ?_
  refine AR.nil ?_
  show AW _ _ _ _ _ _
  refine AW.ret ?_
  obtain ⟨rfl, rfl⟩ := res2 H
  exact And.intro rfl (Exists.intro _ (Exists.intro _ ⟨ResV.twoW rfl (.tok _ _ _) (.refl _), Sub.at [] rfl, rfl, rfl⟩))
end Go.Proofs.YtiahdbdkjjmfiaaDoor
namespace Go.Pv
def head_nameC (F : Nat) (a1 : UInt8) : Option Bool :=
some (((((decide (97 ≤ (a1.toNat : Int))) && (decide ((a1.toNat : Int) ≤ 122))) || ((decide (65 ≤ (a1.toNat : Int))) && (decide ((a1.toNat : Int) ≤ 90)))) || ((decide (48 ≤ (a1.toNat : Int))) && (decide ((a1.toNat : Int) ≤ 57)))) || (decide (a1 = 45)))
def head_plainC (F : Nat) (a1 : UInt8) : Option Bool :=
some ((decide (32 ≤ (a1.toNat : Int))) && (decide ((a1.toNat : Int) < 127)))
def head_onlyN_j1 (a1 : List UInt8) : Option Bool :=
some (!decide (a1 = ([] : List UInt8)))
def head_onlyN_B1 (F : Nat) (a1 : List UInt8) (rec4 : Int → Option Bool) (y3 : Int) : Option Bool :=
bif decide (y3 < (a1.length : Int)) then
  grd (okAt y3 a1.length) <|
  lt (at_ a1 y3) fun x8 =>
  bnd (head_nameC F x8) fun x10 =>
  bif !x10 then
    some false
  else
    grd (okI (y3 + 1)) <|
    rec4 (y3 + 1)
else
  head_onlyN_j1 a1
def head_onlyN_L1 (F : Nat) (a1 : List UInt8) (n : Nat) : Int → Option Bool :=
  loop (fun rec x => head_onlyN_B1 F a1 rec x) n
def head_onlyN (F : Nat) (a1 : List UInt8) : Option Bool :=
head_onlyN_L1 F a1 F 0
def head_onlyP_j1 (a1 : List UInt8) : Option Bool :=
some (!decide (a1 = ([] : List UInt8)))
def head_onlyP_B1 (F : Nat) (a1 : List UInt8) (rec4 : Int → Option Bool) (y3 : Int) : Option Bool :=
bif decide (y3 < (a1.length : Int)) then
  grd (okAt y3 a1.length) <|
  lt (at_ a1 y3) fun x8 =>
  bnd (head_plainC F x8) fun x10 =>
  bif !x10 then
    some false
  else
    grd (okI (y3 + 1)) <|
    rec4 (y3 + 1)
else
  head_onlyP_j1 a1
def head_onlyP_L1 (F : Nat) (a1 : List UInt8) (n : Nat) : Int → Option Bool :=
  loop (fun rec x => head_onlyP_B1 F a1 rec x) n
def head_onlyP (F : Nat) (a1 : List UInt8) : Option Bool :=
head_onlyP_L1 F a1 F 0
def head_name (F : Nat) (a1 : List UInt8) : Option Bool :=
bndc (decide ((a1.length : Int) ≤ 40)) (head_onlyN F a1) fun x4 =>
some ((decide ((a1.length : Int) ≤ 40)) && x4)
def head_Plain (F : Nat) (a1 : List UInt8) : Option Bool :=
bnd (head_onlyP F a1) fun x3 =>
grdc x3 (okS a1.length) <|
lt (Go.Lib.trimB a1 32) fun x7 =>
grdc (x3 && (decide (x7 = a1))) (okS a1.length) <|
lt (Go.Lib.contains a1 ([32, 32] : List UInt8)) fun x11 =>
grdc ((x3 && (decide (x7 = a1))) && (!x11)) (okS a1.length) <|
lt (Go.Lib.contains a1 ([61, 63] : List UInt8)) fun x15 =>
some (((x3 && (decide (x7 = a1))) && (!x11)) && (!x15))
def head_inside (F : Nat) (a1 : UInt8) : Option Bool :=
some (decide (Go.Av.shr8 a1 6 = 2))
def head_part_j1 (y15 : Int) : Option Int :=
bif decide (y15 = 41) then
  some 45
else
  some y15
def head_part_B1 (F : Nat) (a1 : List UInt8) (rec5 : Int → Option Int) (y4 : Int) : Option Int :=
grdc (decide (41 < y4)) (okAt y4 a1.length) <|
lt (at_ a1 y4) fun x9 =>
bndc (decide (41 < y4)) (head_inside F x9) fun x11 =>
bif (decide (41 < y4)) && x11 then
  grd (okI (y4 - 1)) <|
  rec5 (y4 - 1)
else
  head_part_j1 y4
def head_part_L1 (F : Nat) (a1 : List UInt8) (n : Nat) : Int → Option Int :=
  loop (fun rec x => head_part_B1 F a1 rec x) n
def head_part (F : Nat) (a1 : List UInt8) : Option Int :=
bif decide ((a1.length : Int) ≤ 45) then
  some (a1.length : Int)
else
  head_part_L1 F a1 F 45
def head_wordsI_B1 {σ : Type} (F : Nat) (k : σ → (List UInt8) → Option (σ × Bool)) (rec30 : ((List UInt8) × σ) → Option (σ × (List UInt8))) (y27 : List UInt8) (y28 : σ) : Option (σ × (List UInt8)) :=
bif !decide (y27 = ([] : List UInt8)) then
  bnd (head_part F y27) fun x33 =>
  grd (okTo x33 y27.length) <|
  lt (to_ y27 x33) fun x36 =>
  grd (okCat x36.length) <|
  bnd (b64_Raw F x36) fun x40 =>
  grd (okCat (([61, 63, 117, 116, 102, 45, 56, 63, 66, 63] : List UInt8).length + x40.length)) <|
  lt (([61, 63, 117, 116, 102, 45, 56, 63, 66, 63] : List UInt8) ++ x40) fun x43 =>
  grd (okCat (x43.length + ([63, 61] : List UInt8).length)) <|
  lt (x43 ++ ([63, 61] : List UInt8)) fun x46 =>
  bnd2 (k y28 x46) fun x48 x49 =>
  bif !x49 then
    some (x48, y27)
  else
    grd (okTo x33 y27.length) <|
    lt (from_ y27 x33) fun x54 =>
    rec30 (x54, x48)
else
  some (y28, y27)
def head_wordsI_L1 {σ : Type} (F : Nat) (k : σ → (List UInt8) → Option (σ × Bool)) (n : Nat) : ((List UInt8) × σ) → Option (σ × (List UInt8)) :=
  loop (fun rec x => head_wordsI_B1 F k rec x.1 x.2) n
def head_wordsI_j1 {σ : Type} (F : Nat) (a2 : List UInt8) (k : σ → (List UInt8) → Option (σ × Bool)) (st0 : σ) : Option (σ × (List UInt8)) :=
head_wordsI_L1 F k F (a2, st0)
def head_wordsI_B2 {σ : Type} (a2 : List UInt8) (k : σ → (List UInt8) → Option (σ × Bool)) (x9 : List (List UInt8)) (rec14 : (Int × σ) → Option (σ × (List UInt8))) (y11 : Int) (y12 : σ) : Option (σ × (List UInt8)) :=
bif decide (y11 < (x9.length : Int)) then
  grd (okAt y11 x9.length) <|
  lt (at_ x9 y11) fun x18 =>
  bnd2 (k y12 x18) fun x20 x21 =>
  bif !x21 then
    some (x20, a2)
  else
    grd (okI (y11 + 1)) <|
    rec14 (y11 + 1, x20)
else
  some (y12, a2)
def head_wordsI_L2 {σ : Type} (a2 : List UInt8) (k : σ → (List UInt8) → Option (σ × Bool)) (x9 : List (List UInt8)) (n : Nat) : (Int × σ) → Option (σ × (List UInt8)) :=
  loop (fun rec x => head_wordsI_B2 a2 k x9 rec x.1 x.2) n
def head_wordsI (F : Nat) {σ : Type} (k : σ → (List UInt8) → Option (σ × Bool)) (st0 : σ) (a2 : List UInt8) : Option (σ × (List UInt8)) :=
bnd (head_Plain F a2) fun x4 =>
bif x4 then
  grd (okS a2.length) <|
  grd (decide (1 ≤ ([32] : List UInt8).length)) <|
  lt (Go.Lib.split a2 ([32] : List UInt8)) fun x9 =>
  head_wordsI_L2 a2 k x9 F (0, st0)
else
  head_wordsI_j1 F a2 k st0
def head_words (F : Nat) (a1 : List UInt8) : Option Unit :=
some ()
def head_AppendSeq_j1 (y21 : List UInt8) (y22 : List (List UInt8)) : Option ((List (List UInt8)) × (List UInt8)) :=
some (y22, y21)
def head_AppendSeq_k1 (y7 : List (List UInt8)) (x10 : List UInt8) : Option (((List (List UInt8))) × Bool) :=
grd (okCat (y7.length + ([x10] : List (List UInt8)).length)) <|
lt (y7 ++ ([x10] : List (List UInt8))) fun x13 =>
some (x13, true)
def head_AppendSeq (F : Nat) (a2 : List UInt8) : Option ((List (List UInt8)) × (List UInt8)) :=
bnd2 (head_wordsI F (fun s x => head_AppendSeq_k1 s x) [] a2) fun x15 x16 =>
head_AppendSeq_j1 x16 x15
def head_Collect (F : Nat) (a2 : List UInt8) : Option ((List (List UInt8)) × (List UInt8)) :=
bnd2 (head_AppendSeq F a2) fun x5 x6 =>
some (x5, x6)
def head_Words (F : Nat) (a1 : List UInt8) : Option ((List (List UInt8))) :=
bnd (head_words F a1) fun _ =>
bnd2 (head_Collect F a1) fun x5 x6 =>
some x5
def head_Line_j1 (y66 : List UInt8) : Option ((List UInt8) × Int) :=
grd (okCat (y66.length + ([13, 10] : List UInt8).length)) <|
lt (y66 ++ ([13, 10] : List UInt8)) fun x71 =>
some (x71, 0)
def head_Line_j2 (x22 : List UInt8) (y30 : Int) (y31 : List UInt8) : Option ((Int × (List UInt8)) × Bool) :=
grd (okCat (y31.length + ([32] : List UInt8).length)) <|
lt (y31 ++ ([32] : List UInt8)) fun x36 =>
grd (okCat (x36.length + x22.length)) <|
lt (x36 ++ x22) fun x40 =>
grd (okI (y30 + 1)) <|
grd (okI ((y30 + 1) + (x22.length : Int))) <|
some (((y30 + 1) + (x22.length : Int), x40), true)
def head_Line_k1 (y18 : Int) (y19 : List UInt8) (x22 : List UInt8) : Option ((Int × (List UInt8)) × Bool) :=
grd (okI (y18 + 1)) <|
grd (okI ((y18 + 1) + (x22.length : Int))) <|
bif decide (76 < (y18 + 1) + (x22.length : Int)) then
  grd (okCat (y19.length + ([13, 10] : List UInt8).length)) <|
  lt (y19 ++ ([13, 10] : List UInt8)) fun x28 =>
  head_Line_j2 x22 0 x28
else
  head_Line_j2 x22 y18 y19
def head_Line (F : Nat) (a1 : List UInt8) (a2 : List UInt8) : Option ((List UInt8) × Int) :=
bnd (head_name F a1) fun x5 =>
bif (!x5) || (decide (4000 < (a2.length : Int))) then
  some ([], 1)
else
  grd (okCat (a1.length + ([58] : List UInt8).length)) <|
  lt (a1 ++ ([58] : List UInt8)) fun x10 =>
  grd (okCat x10.length) <|
  bnd (head_words F a2) fun _ =>
  bnd2 (head_wordsI F (fun s x => head_Line_k1 s.1 s.2 x) ((x10.length : Int), x10) a2) fun x60 x61 =>
  head_Line_j1 x60.2
end Go.Pv
namespace Go.Proofs.YtiahdbdkjjmfiaaDoor
open Go.RowKit Go.Av Go.Pv
theorem en18_heada : ∀ (args : Array Value) (w : World), (callFunc 18 args).run Tryd.prog w = .ok (.enter 18 args) w := fun _ _ => by kernel_rfl
theorem en26_heada : ∀ (args : Array Value) (w : World), (callFunc 26 args).run Tryd.prog w = .ok (.enter 26 args) w := fun _ _ => by kernel_rfl
theorem en27_heada : ∀ (args : Array Value) (w : World), (callFunc 27 args).run Tryd.prog w = .ok (.enter 27 args) w := fun _ _ => by kernel_rfl
theorem en34_heada : ∀ (args : Array Value) (w : World), (callFunc 34 args).run Tryd.prog w = .ok (.enter 34 args) w := fun _ _ => by kernel_rfl
theorem en38_heada : ∀ (args : Array Value) (w : World), (callFunc 38 args).run Tryd.prog w = .ok (.enter 38 args) w := fun _ _ => by kernel_rfl
theorem en39_heada : ∀ (args : Array Value) (w : World), (callFunc 39 args).run Tryd.prog w = .ok (.enter 39 args) w := fun _ _ => by kernel_rfl
theorem en40_heada : ∀ (args : Array Value) (w : World), (callFunc 40 args).run Tryd.prog w = .ok (.enter 40 args) w := fun _ _ => by kernel_rfl
theorem en41_heada : ∀ (args : Array Value) (w : World), (callFunc 41 args).run Tryd.prog w = .ok (.enter 41 args) w := fun _ _ => by kernel_rfl
theorem en50_heada : ∀ (args : Array Value) (w : World), (callFunc 50 args).run Tryd.prog w = .ok (.enter 50 args) w := fun _ _ => by kernel_rfl
theorem en51_heada : ∀ (args : Array Value) (w : World), (callFunc 51 args).run Tryd.prog w = .ok (.enter 51 args) w := fun _ _ => by kernel_rfl
theorem en52_heada : ∀ (args : Array Value) (w : World), (callFunc 52 args).run Tryd.prog w = .ok (.enter 52 args) w := fun _ _ => by kernel_rfl
theorem en53_heada : ∀ (args : Array Value) (w : World), (callFunc 53 args).run Tryd.prog w = .ok (.enter 53 args) w := fun _ _ => by kernel_rfl
theorem en54_heada : ∀ (args : Array Value) (w : World), (callFunc 54 args).run Tryd.prog w = .ok (.enter 54 args) w := fun _ _ => by kernel_rfl
theorem en60_heada : ∀ (args : Array Value) (w : World), (callFunc 60 args).run Tryd.prog w = .ok (.enter 60 args) w := fun _ _ => by kernel_rfl
theorem en74_heada : ∀ (args : Array Value) (w : World), (callFunc 74 args).run Tryd.prog w = .ok (.enter 74 args) w := fun _ _ => by kernel_rfl
set_option maxRecDepth 100000 in
set_option maxHeartbeats 1000000 in
theorem w_head_nameC (F : Nat) (a1 : UInt8) (r2 : Bool) (H : head_nameC F a1 = some r2) : ACalls Tryd.prog 50 [u8 a1] [] (Ret (B r2) []) := by
 unfold head_nameC at H
 refine ACalls.of_body Tryd.func50 rfl rfl ?_
 show AW _ _ 29 _ _ _
 refine AW.seq ?_
 refine AW.region ?_
 show AR _ _ _ _ _ [0] _
 refine sS rfl rfl rfl (asg rfl) ?_
 refine AR.nil ?_
 show AW _ _ _ _ _ _
 refine AW.seq ?_
 refine AW.region ?_
 show AR _ _ _ _ _ [0, 1, 2, 3, 4, 5, 6, 7, 8, 9, 10, 11, 12, 13, 14, 15, 16, 17, 18, 19, 20, 21, 22, 23, 24, 25, 26] _
 refine sS rfl rfl rfl (mv rfl) ?_
 refine sS rfl rfl rfl (opS_ge rfl rfl) ?_
 refine sS rfl rfl rfl (mv rfl) ?_
 refine AR.meet (l := [6, 7, 8, 9, 10, 11, 12, 13, 14, 15, 16, 17, 18, 19, 20, 21, 22, 23, 24, 25, 26]) 8 (B ((decide (97 ≤ (a1.toNat : Int))) && (decide ((a1.toNat : Int) ≤ 122)))) (fun K => ?_) ?_
 ·rcases Bool.eq_false_or_eq_true (decide (97 ≤ (a1.toNat : Int))) with h3 | h3
  ·
   refine gT h3 rfl rfl rfl rfl rfl rfl (AO.ops rfl rfl (mv rfl) ?_)
   refine gT h3 rfl rfl rfl rfl rfl rfl (AO.ops rfl rfl (opS_le rfl rfl) ?_)
   refine sS rfl rfl rfl (opS_pick_t (av := .v _) rfl h3 rfl) ?_
   exact K _ 2 _ (B_congr (and_t h3)) rfl rfl
  ·
   refine gF h3 rfl rfl rfl rfl rfl ?_
   refine gF h3 rfl rfl rfl rfl rfl ?_
   refine sS rfl rfl rfl (opS_pick_f (av := .v _) rfl h3 rfl) ?_
   exact K _ 2 _ (B_congr (and_f h3)) rfl rfl
 refine sS rfl rfl rfl (mv rfl) ?_
 refine AR.meet (l := [14, 15, 16, 17, 18, 19, 20, 21, 22, 23, 24, 25, 26]) 16 (B (((decide (97 ≤ (a1.toNat : Int))) && (decide ((a1.toNat : Int) ≤ 122))) || ((decide (65 ≤ (a1.toNat : Int))) && (decide ((a1.toNat : Int) ≤ 90))))) (fun K => ?_) ?_
 ·rcases Bool.eq_false_or_eq_true ((decide (97 ≤ (a1.toNat : Int))) && (decide ((a1.toNat : Int) ≤ 122))) with h4 | h4
  ·
   refine gF h4 rfl rfl rfl rfl rfl ?_
   refine gF h4 rfl rfl rfl rfl rfl ?_
   refine gF h4 rfl rfl rfl rfl rfl ?_
   refine gU rfl rfl rfl rfl rfl ?_
   refine gU rfl rfl rfl rfl rfl ?_
   refine gF h4 rfl rfl rfl rfl rfl ?_
   refine sS rfl rfl rfl (opS_pick_t (av := .v _) rfl h4 rfl) ?_
   exact K _ 6 _ (B_congr (or_t h4)) rfl rfl
  ·
   refine gT h4 rfl rfl rfl rfl rfl rfl (AO.ops rfl rfl (mv rfl) ?_)
   refine gT h4 rfl rfl rfl rfl rfl rfl (AO.ops rfl rfl (opS_ge rfl rfl) ?_)
   refine gT h4 rfl rfl rfl rfl rfl rfl (AO.ops rfl rfl (mv rfl) ?_)
   refine AR.meet (l := [13, 14, 15, 16, 17, 18, 19, 20, 21, 22, 23, 24, 25, 26]) 15 (B ((decide (65 ≤ (a1.toNat : Int))) && (decide ((a1.toNat : Int) ≤ 90)))) (fun K => ?_) ?_
   ·rcases Bool.eq_false_or_eq_true (decide (65 ≤ (a1.toNat : Int))) with h5 | h5
    ·
     refine gT h5 rfl rfl rfl rfl rfl rfl (AO.ops rfl rfl (mv rfl) ?_)
     refine gT h5 rfl rfl rfl rfl rfl rfl (AO.ops rfl rfl (opS_le rfl rfl) ?_)
     refine gT h4 rfl rfl rfl rfl rfl rfl (AO.ops rfl rfl (opS_pick_t (av := .v _) rfl h5 rfl) ?_)
     exact K _ 2 _ (B_congr (and_t h5)) rfl rfl
    ·
     refine gF h5 rfl rfl rfl rfl rfl ?_
     refine gF h5 rfl rfl rfl rfl rfl ?_
     refine gT h4 rfl rfl rfl rfl rfl rfl (AO.ops rfl rfl (opS_pick_f (av := .v _) rfl h5 rfl) ?_)
     exact K _ 2 _ (B_congr (and_f h5)) rfl rfl
   refine sS rfl rfl rfl (opS_pick_f (av := .v _) rfl h4 rfl) ?_
   exact K _ 4 _ (B_congr (or_f h4)) rfl rfl
 refine sS rfl rfl rfl (mv rfl) ?_
 refine AR.meet (l := [22, 23, 24, 25, 26]) 24 (B ((((decide (97 ≤ (a1.toNat : Int))) && (decide ((a1.toNat : Int) ≤ 122))) || ((decide (65 ≤ (a1.toNat : Int))) && (decide ((a1.toNat : Int) ≤ 90)))) || ((decide (48 ≤ (a1.toNat : Int))) && (decide ((a1.toNat : Int) ≤ 57))))) (fun K => ?_) ?_
 ·rcases Bool.eq_false_or_eq_true (((decide (97 ≤ (a1.toNat : Int))) && (decide ((a1.toNat : Int) ≤ 122))) || ((decide (65 ≤ (a1.toNat : Int))) && (decide ((a1.toNat : Int) ≤ 90)))) with h6 | h6
  ·
   refine gF h6 rfl rfl rfl rfl rfl ?_
   refine gF h6 rfl rfl rfl rfl rfl ?_
   refine gF h6 rfl rfl rfl rfl rfl ?_
   refine gU rfl rfl rfl rfl rfl ?_
   refine gU rfl rfl rfl rfl rfl ?_
   refine gF h6 rfl rfl rfl rfl rfl ?_
   refine sS rfl rfl rfl (opS_pick_t (av := .v _) rfl h6 rfl) ?_
   exact K _ 6 _ (B_congr (or_t h6)) rfl rfl
  ·
   refine gT h6 rfl rfl rfl rfl rfl rfl (AO.ops rfl rfl (mv rfl) ?_)
   refine gT h6 rfl rfl rfl rfl rfl rfl (AO.ops rfl rfl (opS_ge rfl rfl) ?_)
   refine gT h6 rfl rfl rfl rfl rfl rfl (AO.ops rfl rfl (mv rfl) ?_)
   refine AR.meet (l := [21, 22, 23, 24, 25, 26]) 23 (B ((decide (48 ≤ (a1.toNat : Int))) && (decide ((a1.toNat : Int) ≤ 57)))) (fun K => ?_) ?_
   ·rcases Bool.eq_false_or_eq_true (decide (48 ≤ (a1.toNat : Int))) with h7 | h7
    ·
     refine gT h7 rfl rfl rfl rfl rfl rfl (AO.ops rfl rfl (mv rfl) ?_)
     refine gT h7 rfl rfl rfl rfl rfl rfl (AO.ops rfl rfl (opS_le rfl rfl) ?_)
     refine gT h6 rfl rfl rfl rfl rfl rfl (AO.ops rfl rfl (opS_pick_t (av := .v _) rfl h7 rfl) ?_)
     exact K _ 2 _ (B_congr (and_t h7)) rfl rfl
    ·
     refine gF h7 rfl rfl rfl rfl rfl ?_
     refine gF h7 rfl rfl rfl rfl rfl ?_
     refine gT h6 rfl rfl rfl rfl rfl rfl (AO.ops rfl rfl (opS_pick_f (av := .v _) rfl h7 rfl) ?_)
     exact K _ 2 _ (B_congr (and_f h7)) rfl rfl
   refine sS rfl rfl rfl (opS_pick_f (av := .v _) rfl h6 rfl) ?_
   exact K _ 4 _ (B_congr (or_f h6)) rfl rfl
 refine sS rfl rfl rfl (mv rfl) ?_
 refine AR.meet (l := [26]) 28 (B (((((decide (97 ≤ (a1.toNat : Int))) && (decide ((a1.toNat : Int) ≤ 122))) || ((decide (65 ≤ (a1.toNat : Int))) && (decide ((a1.toNat : Int) ≤ 90)))) || ((decide (48 ≤ (a1.toNat : Int))) && (decide ((a1.toNat : Int) ≤ 57)))) || (decide (a1 = 45)))) (fun K => ?_) ?_
 ·rcases Bool.eq_false_or_eq_true ((((decide (97 ≤ (a1.toNat : Int))) && (decide ((a1.toNat : Int) ≤ 122))) || ((decide (65 ≤ (a1.toNat : Int))) && (decide ((a1.toNat : Int) ≤ 90)))) || ((decide (48 ≤ (a1.toNat : Int))) && (decide ((a1.toNat : Int) ≤ 57)))) with h8 | h8
  ·
   refine gF h8 rfl rfl rfl rfl rfl ?_
   refine gF h8 rfl rfl rfl rfl rfl ?_
   refine sS rfl rfl rfl (opS_pick_t (av := .v _) rfl h8 rfl) ?_
   exact K _ 2 _ (B_congr (or_t h8)) rfl rfl
  ·
   refine gT h8 rfl rfl rfl rfl rfl rfl (AO.ops rfl rfl (mv rfl) ?_)
   refine gT h8 rfl rfl rfl rfl rfl rfl (AO.ops rfl rfl (g_eq8 (a := a1) (b := 45) rfl rfl) ?_)
   refine sS rfl rfl rfl (opS_pick_f (av := .v _) rfl h8 rfl) ?_
   exact K _ 2 _ (B_congr (or_f h8)) rfl rfl
 refine sS rfl rfl rfl (asg rfl) ?_
 refine AR.nil ?_
 show AW _ _ _ _ _ _
 refine AW.ret ?_
 obtain rfl := Option.some.inj H
 exact And.intro rfl (Exists.intro _ (Exists.intro _ ⟨ResV.oneW rfl (.refl _), Sub.at [] rfl, rfl, rfl⟩))
set_option maxRecDepth 100000 in
set_option maxHeartbeats 1000000 in
theorem w_head_plainC (F : Nat) (a1 : UInt8) (r2 : Bool) (H : head_plainC F a1 = some r2) : ACalls Tryd.prog 39 [u8 a1] [] (Ret (B r2) []) := by
 unfold head_plainC at H
 refine ACalls.of_body Tryd.func39 rfl rfl ?_
 show AW _ _ 9 _ _ _
 refine AW.seq ?_
 refine AW.region ?_
 show AR _ _ _ _ _ [0] _
 refine sS rfl rfl rfl (asg rfl) ?_
 refine AR.nil ?_
 show AW _ _ _ _ _ _
 refine AW.seq ?_
 refine AW.region ?_
 show AR _ _ _ _ _ [0, 1, 2, 3, 4, 5, 6] _
 refine sS rfl rfl rfl (mv rfl) ?_
 refine sS rfl rfl rfl (opS_ge rfl rfl) ?_
 refine sS rfl rfl rfl (mv rfl) ?_
 refine AR.meet (l := [6]) 8 (B ((decide (32 ≤ (a1.toNat : Int))) && (decide ((a1.toNat : Int) < 127)))) (fun K => ?_) ?_
 ·rcases Bool.eq_false_or_eq_true (decide (32 ≤ (a1.toNat : Int))) with h3 | h3
  ·
   refine gT h3 rfl rfl rfl rfl rfl rfl (AO.ops rfl rfl (mv rfl) ?_)
   refine gT h3 rfl rfl rfl rfl rfl rfl (AO.ops rfl rfl (opS_lt rfl rfl) ?_)
   refine sS rfl rfl rfl (opS_pick_t (av := .v _) rfl h3 rfl) ?_
   exact K _ 2 _ (B_congr (and_t h3)) rfl rfl
  ·
   refine gF h3 rfl rfl rfl rfl rfl ?_
   refine gF h3 rfl rfl rfl rfl rfl ?_
   refine sS rfl rfl rfl (opS_pick_f (av := .v _) rfl h3 rfl) ?_
   exact K _ 2 _ (B_congr (and_f h3)) rfl rfl
 refine sS rfl rfl rfl (asg rfl) ?_
 refine AR.nil ?_
 show AW _ _ _ _ _ _
 refine AW.ret ?_
 obtain rfl := Option.some.inj H
 exact And.intro rfl (Exists.intro _ (Exists.intro _ ⟨ResV.oneW rfl (.refl _), Sub.at [] rfl, rfl, rfl⟩))
set_option maxRecDepth 100000 in
set_option maxHeartbeats 1000000 in
theorem w_head_onlyN (F : Nat) (a1 : List UInt8) (r2 : Bool) (H : head_onlyN F a1 = some r2) : ACalls Tryd.prog 38 [S a1, .v (.func (.func 50) #[] #[])] [] (Ret (B r2) []) := by
 unfold head_onlyN at H
 refine ACalls.of_body Tryd.func38 rfl rfl ?_
 show AW _ _ 20 _ _ _
 refine AW.seq ?_
 refine AW.region ?_
 show AR _ _ _ _ _ [0] _
 refine sS rfl rfl rfl (asg rfl) ?_
 refine AR.nil ?_
 show AW _ _ _ _ _ _
 refine AW.cut (X := Unit) (fun _ => ⟨[(0, S a1)], [], []⟩) (fun _ => head_onlyN_j1 a1 = some r2) ?_ ?_
 ·
  refine AW.seq ?_
  refine AW.region ?_
  show AR _ _ _ _ _ [0, 1, 2] _
  refine sS rfl rfl rfl (mv rfl) ?_
  refine sS rfl rfl rfl (opS_len_str Tryd.underlying9 rfl) ?_
  refine sS rfl rfl rfl (mv rfl) ?_
  refine AR.nil ?_
  show AW _ _ _ _ _ _
  refine AW.block ?_
  refine AW.loop (X := Nat × Int) (fun (n5, y3) => ⟨[(0, S a1), (1, .v (.func (.func 50) #[] #[])), (7, i64 (a1.length : Int)), (8, i64 y3)], [], []⟩) (fun (n5, y3) => head_onlyN_L1 F a1 n5 y3 = some r2) (fun (n5, y3) => n5) (F, 0) H (WK.at [] (.cons (.refl _) (.cons (.refl _) (.cons (.refl _) (.cons (.refl _) (.nil _))))) rfl) ?_
  rintro ⟨n5, y3⟩ H
  obtain ⟨n5, rfl, H⟩ := loop_s H
  replace H : head_onlyN_B1 F a1 (head_onlyN_L1 F a1 n5) y3 = some r2 := H
  unfold head_onlyN_B1 at H
  show AW _ _ _ _ _ _
  refine AW.seq ?_
  refine AW.region ?_
  show AR _ _ _ _ _ [0] _
  refine sS rfl rfl rfl (opS_lt rfl rfl) ?_
  refine AR.nil ?_
  show AW _ _ _ _ _ _
  refine AW.seq ?_
  refine AW.cond rfl (fun c6 => ?_) (fun c6 => ?_)
  ·replace H := cnd_t c6 H
   refine AW.skip ?_
   show AW _ _ _ _ _ _
   refine AW.seq ?_
   refine AW.block ?_
   refine AW.seq ?_
   refine AW.region ?_
   show AR _ _ _ _ _ [0, 1] _
   refine sS rfl rfl rfl (mv rfl) ?_
   refine sS rfl rfl rfl (asg rfl) ?_
   refine AR.nil ?_
   show AW _ _ _ _ _ _
   refine AW.seq ?_
   obtain ⟨g7, H⟩ := grd_s H
   obtain ⟨x8, e9, H⟩ := lt_s H
   obtain ⟨x10, e11, H⟩ := bnd_s H
   refine AW.region ?_
   show AR _ _ _ _ _ [0, 1, 2, 3, 4, 5] _
   refine sS rfl rfl rfl (mv rfl) ?_
   refine sS rfl rfl rfl (mv rfl) ?_
   refine sS rfl rfl rfl (mv rfl) ?_
   refine sS rfl rfl rfl (g_index_str Tryd.underlying9 rfl rfl g7 e9) ?_
   refine AR.run rfl rfl (AO.callFp rfl (.inr ⟨rfl, rfl, rfl⟩) en50_heada rfl (w_head_nameC F x8 x10 e11) ?_)
   refine sS rfl rfl rfl (opS_not rfl) ?_
   refine AR.nil ?_
   show AW _ _ _ _ _ _
   refine AW.cond rfl (fun c12 => ?_) (fun c12 => ?_)
   ·replace H := cnd_t c12 H
    refine AW.seq ?_
    refine AW.region ?_
    show AR _ _ _ _ _ [0] _
    refine sS rfl rfl rfl (asg rfl) ?_
    refine AR.nil ?_
    show AW _ _ _ _ _ _
    refine AW.ret ?_
    obtain rfl := Option.some.inj H
    exact And.intro rfl (Exists.intro _ (Exists.intro _ ⟨ResV.oneW rfl (.refl _), Sub.at [] rfl, rfl, rfl⟩))
   ·replace H := cnd_f c12 H
    refine AW.skip ?_
    show AW _ _ _ _ _ _
    obtain ⟨g13, H⟩ := grd_s H
    refine AW.region ?_
    show AR _ _ _ _ _ [0, 1] _
    refine sS rfl rfl rfl (g_add rfl rfl g13) ?_
    refine sS rfl rfl rfl (mv rfl) ?_
    refine AR.nil ?_
    exact Exists.intro (n5, y3 + 1) ⟨H, Nat.lt_succ_self _, WK.at [] (.cons (.refl _) (.cons (.refl _) (.cons (.refl _) (.cons (.refl _) (.nil _))))) rfl⟩
  ·replace H := cnd_f c6 H
   refine AW.exit ?_
   exact Exists.intro () ⟨H, WK.at [] (.cons (.refl _) (.nil _)) rfl⟩
 rintro _ H
 replace H : head_onlyN_j1 a1 = some r2 := H
 unfold head_onlyN_j1 at H
 show AW _ _ _ _ _ _
 refine AW.seq ?_
 refine AW.region ?_
 show AR _ _ _ _ _ [0, 1, 2] _
 refine sS rfl rfl rfl (mv rfl) ?_
 refine sS rfl rfl rfl (opS_nes rfl rfl) ?_
 refine sS rfl rfl rfl (asg rfl) ?_
 refine AR.nil ?_
 show AW _ _ _ _ _ _
 refine AW.ret ?_
 obtain rfl := Option.some.inj H
 exact And.intro rfl (Exists.intro _ (Exists.intro _ ⟨ResV.oneW rfl (.refl _), Sub.at [] rfl, rfl, rfl⟩))
set_option maxRecDepth 100000 in
set_option maxHeartbeats 1000000 in
theorem w_head_onlyP (F : Nat) (a1 : List UInt8) (r2 : Bool) (H : head_onlyP F a1 = some r2) : ACalls Tryd.prog 38 [S a1, .v (.func (.func 39) #[] #[])] [] (Ret (B r2) []) := by
 unfold head_onlyP at H
 refine ACalls.of_body Tryd.func38 rfl rfl ?_
 show AW _ _ 20 _ _ _
 refine AW.seq ?_
 refine AW.region ?_
 show AR _ _ _ _ _ [0] _
 refine sS rfl rfl rfl (asg rfl) ?_
 refine AR.nil ?_
 show AW _ _ _ _ _ _
 refine AW.cut (X := Unit) (fun _ => ⟨[(0, S a1)], [], []⟩) (fun _ => head_onlyP_j1 a1 = some r2) ?_ ?_
 ·
  refine AW.seq ?_
  refine AW.region ?_
  show AR _ _ _ _ _ [0, 1, 2] _
  refine sS rfl rfl rfl (mv rfl) ?_
  refine sS rfl rfl rfl (opS_len_str Tryd.underlying9 rfl) ?_
  refine sS rfl rfl rfl (mv rfl) ?_
  refine AR.nil ?_
  show AW _ _ _ _ _ _
  refine AW.block ?_
  refine AW.loop (X := Nat × Int) (fun (n5, y3) => ⟨[(0, S a1), (1, .v (.func (.func 39) #[] #[])), (7, i64 (a1.length : Int)), (8, i64 y3)], [], []⟩) (fun (n5, y3) => head_onlyP_L1 F a1 n5 y3 = some r2) (fun (n5, y3) => n5) (F, 0) H (WK.at [] (.cons (.refl _) (.cons (.refl _) (.cons (.refl _) (.cons (.refl _) (.nil _))))) rfl) ?_
  rintro ⟨n5, y3⟩ H
  obtain ⟨n5, rfl, H⟩ := loop_s H
  replace H : head_onlyP_B1 F a1 (head_onlyP_L1 F a1 n5) y3 = some r2 := H
  unfold head_onlyP_B1 at H
  show AW _ _ _ _ _ _
  refine AW.seq ?_
  refine AW.region ?_
  show AR _ _ _ _ _ [0] _
  refine sS rfl rfl rfl (opS_lt rfl rfl) ?_
  refine AR.nil ?_
  show AW _ _ _ _ _ _
  refine AW.seq ?_
  refine AW.cond rfl (fun c6 => ?_) (fun c6 => ?_)
  ·replace H := cnd_t c6 H
   refine AW.skip ?_
   show AW _ _ _ _ _ _
   refine AW.seq ?_
   refine AW.block ?_
   refine AW.seq ?_
   refine AW.region ?_
   show AR _ _ _ _ _ [0, 1] _
   refine sS rfl rfl rfl (mv rfl) ?_
   refine sS rfl rfl rfl (asg rfl) ?_
   refine AR.nil ?_
   show AW _ _ _ _ _ _
   refine AW.seq ?_
   obtain ⟨g7, H⟩ := grd_s H
   obtain ⟨x8, e9, H⟩ := lt_s H
   obtain ⟨x10, e11, H⟩ := bnd_s H
   refine AW.region ?_
   show AR _ _ _ _ _ [0, 1, 2, 3, 4, 5] _
   refine sS rfl rfl rfl (mv rfl) ?_
   refine sS rfl rfl rfl (mv rfl) ?_
   refine sS rfl rfl rfl (mv rfl) ?_
   refine sS rfl rfl rfl (g_index_str Tryd.underlying9 rfl rfl g7 e9) ?_
   refine AR.run rfl rfl (AO.callFp rfl (.inr ⟨rfl, rfl, rfl⟩) en39_heada rfl (w_head_plainC F x8 x10 e11) ?_)
   refine sS rfl rfl rfl (opS_not rfl) ?_
   refine AR.nil ?_
   show AW _ _ _ _ _ _
   refine AW.cond rfl (fun c12 => ?_) (fun c12 => ?_)
   ·replace H := cnd_t c12 H
    refine AW.seq ?_
    refine AW.region ?_
    show AR _ _ _ _ _ [0] _
    refine sS rfl rfl rfl (asg rfl) ?_
    refine AR.nil ?_
    show AW _ _ _ _ _ _
    refine AW.ret ?_
    obtain rfl := Option.some.inj H
    exact And.intro rfl (Exists.intro _ (Exists.intro _ ⟨ResV.oneW rfl (.refl _), Sub.at [] rfl, rfl, rfl⟩))
   ·replace H := cnd_f c12 H
    refine AW.skip ?_
    show AW _ _ _ _ _ _
    obtain ⟨g13, H⟩ := grd_s H
    refine AW.region ?_
    show AR _ _ _ _ _ [0, 1] _
    refine sS rfl rfl rfl (g_add rfl rfl g13) ?_
    refine sS rfl rfl rfl (mv rfl) ?_
    refine AR.nil ?_
    exact Exists.intro (n5, y3 + 1) ⟨H, Nat.lt_succ_self _, WK.at [] (.cons (.refl _) (.cons (.refl _) (.cons (.refl _) (.cons (.refl _) (.nil _))))) rfl⟩
  ·replace H := cnd_f c6 H
   refine AW.exit ?_
   exact Exists.intro () ⟨H, WK.at [] (.cons (.refl _) (.nil _)) rfl⟩
 rintro _ H
 replace H : head_onlyP_j1 a1 = some r2 := H
 unfold head_onlyP_j1 at H
 show AW _ _ _ _ _ _
 refine AW.seq ?_
 refine AW.region ?_
 show AR _ _ _ _ _ [0, 1, 2] _
 refine sS rfl rfl rfl (mv rfl) ?_
 refine sS rfl rfl rfl (opS_nes rfl rfl) ?_
 refine sS rfl rfl rfl (asg rfl) ?_
 refine AR.nil ?_
 show AW _ _ _ _ _ _
 refine AW.ret ?_
 obtain rfl := Option.some.inj H
 exact And.intro rfl (Exists.intro _ (Exists.intro _ ⟨ResV.oneW rfl (.refl _), Sub.at [] rfl, rfl, rfl⟩))
set_option maxRecDepth 100000 in
set_option maxHeartbeats 1000000 in
theorem w_head_name (F : Nat) (a1 : List UInt8) (r2 : Bool) (H : head_name F a1 = some r2) : ACalls Tryd.prog 26 [S a1] [] (Ret (B r2) []) := by
 unfold head_name at H
 refine ACalls.of_body Tryd.func26 rfl rfl ?_
 show AW _ _ 10 _ _ _
 refine AW.seq ?_
 refine AW.region ?_
 show AR _ _ _ _ _ [0] _
 refine sS rfl rfl rfl (asg rfl) ?_
 refine AR.nil ?_
 show AW _ _ _ _ _ _
 refine AW.seq ?_
 obtain ⟨x4, e5, H⟩ := bndc_s H
 refine AW.region ?_
 show AR _ _ _ _ _ [0, 1, 2, 3, 4, 5, 6, 7] _
 refine sS rfl rfl rfl (mv rfl) ?_
 refine sS rfl rfl rfl (opS_len_str Tryd.underlying9 rfl) ?_
 refine sS rfl rfl rfl (opS_le rfl rfl) ?_
 refine sS rfl rfl rfl (mv rfl) ?_
 refine AR.meet (l := [7]) 9 (B ((decide ((a1.length : Int) ≤ 40)) && x4)) (fun K => ?_) ?_
 ·rcases Bool.eq_false_or_eq_true (decide ((a1.length : Int) ≤ 40)) with h3 | h3
  ·
   refine gT h3 rfl rfl rfl rfl rfl rfl (AO.ops rfl rfl (mv rfl) ?_)
   refine gT h3 rfl rfl rfl rfl rfl rfl (AO.callp rfl en38_heada rfl (w_head_onlyN F a1 x4 (e5 h3)) ?_)
   refine sS rfl rfl rfl (opS_pick_t (av := .v _) rfl h3 rfl) ?_
   exact K _ 2 _ (B_congr (and_t h3)) rfl rfl
  ·
   refine gF h3 rfl rfl rfl rfl rfl ?_
   refine gF h3 rfl rfl rfl rfl rfl ?_
   refine sS rfl rfl rfl (opS_pick_f (av := .v _) rfl h3 rfl) ?_
   exact K _ 2 _ (B_congr (and_f h3)) rfl rfl
 refine sS rfl rfl rfl (asg rfl) ?_
 refine AR.nil ?_
 show AW _ _ _ _ _ _
 refine AW.ret ?_
 obtain rfl := Option.some.inj H
 exact And.intro rfl (Exists.intro _ (Exists.intro _ ⟨ResV.oneW rfl (.refl _), Sub.at [] rfl, rfl, rfl⟩))
set_option maxRecDepth 100000 in
set_option maxHeartbeats 1000000 in
theorem w_head_Plain (F : Nat) (a1 : List UInt8) (r2 : Bool) (H : head_Plain F a1 = some r2) : ACalls Tryd.prog 18 [S a1] [] (Ret (B r2) []) := by
 unfold head_Plain at H
 refine ACalls.of_body Tryd.func18 rfl rfl ?_
 show AW _ _ 21 _ _ _
 refine AW.seq ?_
 refine AW.region ?_
 show AR _ _ _ _ _ [0] _
 refine sS rfl rfl rfl (asg rfl) ?_
 refine AR.nil ?_
 show AW _ _ _ _ _ _
 refine AW.seq ?_
 obtain ⟨x3, e4, H⟩ := bnd_s H
 obtain ⟨g6, H⟩ := grdc_s H
 obtain ⟨x7, e8, H⟩ := lt_s H
 obtain ⟨g10, H⟩ := grdc_s H
 obtain ⟨x11, e12, H⟩ := lt_s H
 obtain ⟨g14, H⟩ := grdc_s H
 obtain ⟨x15, e16, H⟩ := lt_s H
 refine AW.region ?_
 show AR _ _ _ _ _ [0, 1, 2, 3, 4, 5, 6, 7, 8, 9, 10, 11, 12, 13, 14, 15, 16, 17, 18] _
 refine sS rfl rfl rfl (mv rfl) ?_
 refine AR.run rfl rfl (AO.callp rfl en38_heada rfl (w_head_onlyP F a1 x3 e4) ?_)
 refine sS rfl rfl rfl (mv rfl) ?_
 refine AR.meet (l := [8, 9, 10, 11, 12, 13, 14, 15, 16, 17, 18]) 10 (B (x3 && (decide (x7 = a1)))) (fun K => ?_) ?_
 ·rcases Bool.eq_false_or_eq_true x3 with h5 | h5
  ·
   refine gT h5 rfl rfl rfl rfl rfl rfl (AO.ops rfl rfl (mv rfl) ?_)
   refine gT h5 rfl rfl rfl rfl rfl rfl (AO.callp rfl en40_heada rfl (show ACalls _ _ _ [] (Ret (S x7) []) from by subst e8; exact lib_Trim1 a1 32 (by decide) (okS_s (g6 h5))) ?_)
   refine gT h5 rfl rfl rfl rfl rfl rfl (AO.ops rfl rfl (mv rfl) ?_)
   refine gT h5 rfl rfl rfl rfl rfl rfl (AO.ops rfl rfl (opS_eqs rfl rfl) ?_)
   refine sS rfl rfl rfl (opS_pick_t (av := .v _) rfl h5 rfl) ?_
   exact K _ 4 _ (B_congr (and_t h5)) rfl rfl
  ·
   refine gF h5 rfl rfl rfl rfl rfl ?_
   refine gF h5 rfl rfl rfl rfl rfl ?_
   refine gF h5 rfl rfl rfl rfl rfl ?_
   refine gF h5 rfl rfl rfl rfl rfl ?_
   refine sS rfl rfl rfl (opS_pick_f (av := .v _) rfl h5 rfl) ?_
   exact K _ 4 _ (B_congr (and_f h5)) rfl rfl
 refine sS rfl rfl rfl (mv rfl) ?_
 refine AR.meet (l := [13, 14, 15, 16, 17, 18]) 15 (B ((x3 && (decide (x7 = a1))) && (!x11))) (fun K => ?_) ?_
 ·rcases Bool.eq_false_or_eq_true (x3 && (decide (x7 = a1))) with h9 | h9
  ·
   refine gT h9 rfl rfl rfl rfl rfl rfl (AO.ops rfl rfl (mv rfl) ?_)
   refine gT h9 rfl rfl rfl rfl rfl rfl (AO.callp rfl en41_heada rfl (show ACalls _ _ _ [] (Ret (B x11) []) from by subst e12; exact lib_Contains a1 ([32, 32] : List UInt8) (okS_s (g10 h9))) ?_)
   refine gT h9 rfl rfl rfl rfl rfl rfl (AO.ops rfl rfl (opS_not rfl) ?_)
   refine sS rfl rfl rfl (opS_pick_t (av := .v _) rfl h9 rfl) ?_
   exact K _ 3 _ (B_congr (and_t h9)) rfl rfl
  ·
   refine gF h9 rfl rfl rfl rfl rfl ?_
   refine gF h9 rfl rfl rfl rfl rfl ?_
   refine gF h9 rfl rfl rfl rfl rfl ?_
   refine sS rfl rfl rfl (opS_pick_f (av := .v _) rfl h9 rfl) ?_
   exact K _ 3 _ (B_congr (and_f h9)) rfl rfl
 refine sS rfl rfl rfl (mv rfl) ?_
 refine AR.meet (l := [18]) 20 (B (((x3 && (decide (x7 = a1))) && (!x11)) && (!x15))) (fun K => ?_) ?_
 ·rcases Bool.eq_false_or_eq_true ((x3 && (decide (x7 = a1))) && (!x11)) with h13 | h13
  ·
   refine gT h13 rfl rfl rfl rfl rfl rfl (AO.ops rfl rfl (mv rfl) ?_)
   refine gT h13 rfl rfl rfl rfl rfl rfl (AO.callp rfl en41_heada rfl (show ACalls _ _ _ [] (Ret (B x15) []) from by subst e16; exact lib_Contains a1 ([61, 63] : List UInt8) (okS_s (g14 h13))) ?_)
   refine gT h13 rfl rfl rfl rfl rfl rfl (AO.ops rfl rfl (opS_not rfl) ?_)
   refine sS rfl rfl rfl (opS_pick_t (av := .v _) rfl h13 rfl) ?_
   exact K _ 3 _ (B_congr (and_t h13)) rfl rfl
  ·
   refine gF h13 rfl rfl rfl rfl rfl ?_
   refine gF h13 rfl rfl rfl rfl rfl ?_
   refine gF h13 rfl rfl rfl rfl rfl ?_
   refine sS rfl rfl rfl (opS_pick_f (av := .v _) rfl h13 rfl) ?_
   exact K _ 3 _ (B_congr (and_f h13)) rfl rfl
 refine sS rfl rfl rfl (asg rfl) ?_
 refine AR.nil ?_
 show AW _ _ _ _ _ _
 refine AW.ret ?_
 obtain rfl := Option.some.inj H
 exact And.intro rfl (Exists.intro _ (Exists.intro _ ⟨ResV.oneW rfl (.refl _), Sub.at [] rfl, rfl, rfl⟩))
set_option maxRecDepth 100000 in
set_option maxHeartbeats 1000000 in
theorem w_head_inside (F : Nat) (a1 : UInt8) (r2 : Bool) (H : head_inside F a1 = some r2) : ACalls Tryd.prog 74 [u8 a1] [] (Ret (B r2) []) := by
 unfold head_inside at H
 refine ACalls.of_body Tryd.func74 rfl rfl ?_
 show AW _ _ 6 _ _ _
 refine AW.seq ?_
 refine AW.region ?_
 show AR _ _ _ _ _ [0] _
 refine sS rfl rfl rfl (asg rfl) ?_
 refine AR.nil ?_
 show AW _ _ _ _ _ _
 refine AW.seq ?_
 refine AW.region ?_
 show AR _ _ _ _ _ [0, 1, 2, 3] _
 refine sS rfl rfl rfl (mv rfl) ?_
 refine sS rfl rfl rfl (g_shr8 (n := 6) rfl rfl rfl) ?_
 refine sS rfl rfl rfl (g_eq8 (a := Go.Av.shr8 a1 6) (b := 2) rfl rfl) ?_
 refine sS rfl rfl rfl (asg rfl) ?_
 refine AR.nil ?_
 show AW _ _ _ _ _ _
 refine AW.ret ?_
 obtain rfl := Option.some.inj H
 exact And.intro rfl (Exists.intro _ (Exists.intro _ ⟨ResV.oneW rfl (.refl _), Sub.at [] rfl, rfl, rfl⟩))
set_option maxRecDepth 100000 in
set_option maxHeartbeats 1000000 in
theorem w_head_part (F : Nat) (a1 : List UInt8) (r2 : Int) (H : head_part F a1 = some r2) : ACalls Tryd.prog 53 [S a1] [] (Ret (i64 r2) []) := by
 unfold head_part at H
 refine ACalls.of_body Tryd.func53 rfl rfl ?_
 show AW _ _ 22 _ _ _
 refine AW.seq ?_
 refine AW.region ?_
 show AR _ _ _ _ _ [0] _
 refine sS rfl rfl rfl (asg rfl) ?_
 refine AR.nil ?_
 show AW _ _ _ _ _ _
 refine AW.seq ?_
 refine AW.seq ?_
 refine AW.region ?_
 show AR _ _ _ _ _ [0, 1, 2] _
 refine sS rfl rfl rfl (mv rfl) ?_
 refine sS rfl rfl rfl (opS_len_str Tryd.underlying9 rfl) ?_
 refine sS rfl rfl rfl (opS_le rfl rfl) ?_
 refine AR.nil ?_
 show AW _ _ _ _ _ _
 refine AW.cond rfl (fun c3 => ?_) (fun c3 => ?_)
 ·replace H := cnd_t c3 H
  refine AW.seq ?_
  refine AW.region ?_
  show AR _ _ _ _ _ [0, 1, 2] _
  refine sS rfl rfl rfl (mv rfl) ?_
  refine sS rfl rfl rfl (opS_len_str Tryd.underlying9 rfl) ?_
  refine sS rfl rfl rfl (asg rfl) ?_
  refine AR.nil ?_
  show AW _ _ _ _ _ _
  refine AW.ret ?_
  obtain rfl := Option.some.inj H
  exact And.intro rfl (Exists.intro _ (Exists.intro _ ⟨ResV.oneW rfl (.refl _), Sub.at [] rfl, rfl, rfl⟩))
 ·replace H := cnd_f c3 H
  refine AW.skip ?_
  show AW _ _ _ _ _ _
  refine AW.seq ?_
  refine AW.region ?_
  show AR _ _ _ _ _ [0] _
  refine sS rfl rfl rfl (asg rfl) ?_
  refine AR.nil ?_
  show AW _ _ _ _ _ _
  refine AW.cut (X := Int) (fun y15 => ⟨[(3, i64 y15)], [], []⟩) (fun y15 => head_part_j1 y15 = some r2) ?_ ?_
  ·
   refine AW.block ?_
   refine AW.loop (X := Nat × Int) (fun (n6, y4) => ⟨[(0, S a1), (3, i64 y4)], [], []⟩) (fun (n6, y4) => head_part_L1 F a1 n6 y4 = some r2) (fun (n6, y4) => n6) (F, 45) H (WK.at [] (.cons (.refl _) (.cons (.refl _) (.nil _))) rfl) ?_
   rintro ⟨n6, y4⟩ H
   obtain ⟨n6, rfl, H⟩ := loop_s H
   replace H : head_part_B1 F a1 (head_part_L1 F a1 n6) y4 = some r2 := H
   unfold head_part_B1 at H
   show AW _ _ _ _ _ _
   refine AW.seq ?_
   refine AW.seq ?_
   obtain ⟨g8, H⟩ := grdc_s H
   obtain ⟨x9, e10, H⟩ := lt_s H
   obtain ⟨x11, e12, H⟩ := bndc_s H
   refine AW.region ?_
   show AR _ _ _ _ _ [0, 1, 2, 3, 4, 5, 6, 7] _
   refine sS rfl rfl rfl (mv rfl) ?_
   refine sS rfl rfl rfl (opS_gt rfl rfl) ?_
   refine sS rfl rfl rfl (mv rfl) ?_
   refine AR.meet (l := []) 16 (B ((decide (41 < y4)) && x11)) (fun K => ?_) ?_
   ·rcases Bool.eq_false_or_eq_true (decide (41 < y4)) with h7 | h7
    ·
     refine gT h7 rfl rfl rfl rfl rfl rfl (AO.ops rfl rfl (mv rfl) ?_)
     refine gT h7 rfl rfl rfl rfl rfl rfl (AO.ops rfl rfl (mv rfl) ?_)
     refine gT h7 rfl rfl rfl rfl rfl rfl (AO.ops rfl rfl (g_index_str Tryd.underlying9 rfl rfl (g8 h7) e10) ?_)
     refine gT h7 rfl rfl rfl rfl rfl rfl (AO.callp rfl en74_heada rfl (w_head_inside F x9 x11 (e12 h7)) ?_)
     refine sS rfl rfl rfl (opS_pick_t (av := .v _) rfl h7 rfl) ?_
     exact K _ 4 _ (B_congr (and_t h7)) rfl rfl
    ·
     refine gF h7 rfl rfl rfl rfl rfl ?_
     refine gF h7 rfl rfl rfl rfl rfl ?_
     refine gF h7 rfl rfl rfl rfl rfl ?_
     refine gF h7 rfl rfl rfl rfl rfl ?_
     refine sS rfl rfl rfl (opS_pick_f (av := .v _) rfl h7 rfl) ?_
     exact K _ 4 _ (B_congr (and_f h7)) rfl rfl
   refine AR.nil ?_
   show AW _ _ _ _ _ _
   refine AW.cond rfl (fun c13 => ?_) (fun c13 => ?_)
   ·replace H := cnd_t c13 H
    refine AW.skip ?_
    show AW _ _ _ _ _ _
    refine AW.block ?_
    obtain ⟨g14, H⟩ := grd_s H
    refine AW.region ?_
    show AR _ _ _ _ _ [0, 1, 2] _
    refine sS rfl rfl rfl (mv rfl) ?_
    refine sS rfl rfl rfl (g_sub rfl rfl g14) ?_
    refine sS rfl rfl rfl (asg rfl) ?_
    refine AR.nil ?_
    exact Exists.intro (n6, y4 - 1) ⟨H, Nat.lt_succ_self _, WK.at [] (.cons (.refl _) (.cons (.refl _) (.nil _))) rfl⟩
   ·replace H := cnd_f c13 H
    refine AW.exit ?_
    exact Exists.intro y4 ⟨H, WK.at [] (.cons (.refl _) (.nil _)) rfl⟩
  rintro y15 H
  replace H : head_part_j1 y15 = some r2 := H
  unfold head_part_j1 at H
  show AW _ _ _ _ _ _
  refine AW.seq ?_
  refine AW.seq ?_
  refine AW.region ?_
  show AR _ _ _ _ _ [0, 1] _
  refine sS rfl rfl rfl (mv rfl) ?_
  refine sS rfl rfl rfl (opS_eqi rfl rfl) ?_
  refine AR.nil ?_
  show AW _ _ _ _ _ _
  refine AW.cond rfl (fun c17 => ?_) (fun c17 => ?_)
  ·replace H := cnd_t c17 H
   refine AW.seq ?_
   refine AW.region ?_
   show AR _ _ _ _ _ [0] _
   refine sS rfl rfl rfl (asg rfl) ?_
   refine AR.nil ?_
   show AW _ _ _ _ _ _
   refine AW.ret ?_
   obtain rfl := Option.some.inj H
   exact And.intro rfl (Exists.intro _ (Exists.intro _ ⟨ResV.oneW rfl (.refl _), Sub.at [] rfl, rfl, rfl⟩))
  ·replace H := cnd_f c17 H
   refine AW.skip ?_
   show AW _ _ _ _ _ _
   refine AW.seq ?_
   refine AW.region ?_
   show AR _ _ _ _ _ [0, 1] _
   refine sS rfl rfl rfl (mv rfl) ?_
   refine sS rfl rfl rfl (asg rfl) ?_
   refine AR.nil ?_
   show AW _ _ _ _ _ _
   refine AW.ret ?_
   obtain rfl := Option.some.inj H
   exact And.intro rfl (Exists.intro _ (Exists.intro _ ⟨ResV.oneW rfl (.refl _), Sub.at [] rfl, rfl, rfl⟩))
set_option maxRecDepth 100000 in
set_option maxHeartbeats 1000000 in
theorem w_head_wordsI (F : Nat) {σ τ : Type} (T : σ → τ → List Chunk) (k : σ → (List UInt8) → Option (σ × Bool)) (o : Nat) (hY : ∀ (s : σ) (t : τ) (x : List UInt8) (rv : σ × Bool), k s x = some rv → AYields Tryd.prog o [S x] (T s t) fun ae A' => ∃ t', ae = .ret (.v (.bool rv.2)) ∧ A' = T rv.1 t') (st0 : σ) (tt0 : τ) (o1 : Nat) (a2 : List UInt8) (rs : σ) (r3 : List UInt8) (H : head_wordsI F k st0 a2 = some (rs, r3)) : ACalls Tryd.prog 51 [.yl o, .pt o1 0] ([.obj o1 [S a2]] ++ T st0 tt0) (fun e A' => ∃ tz, e = .ret (.tup []) ∧ A' = [.obj o1 [S r3]] ++ T rs tz) := by
 unfold head_wordsI at H
 refine ACalls.of_body Tryd.func51 rfl rfl ?_
 show AW _ _ 37 _ _ _
 refine AW.cut (X := Unit) (fun _ => ⟨[(0, .yl o), (1, .pt o1 0)], [], ([.obj o1 [S a2]] ++ T st0 tt0)⟩) (fun _ => head_wordsI_j1 F a2 k st0 = some (rs, r3)) ?_ ?_
 ·
  refine AW.seq ?_
  obtain ⟨x4, e5, H⟩ := bnd_s H
  refine AW.region ?_
  show AR _ _ _ _ _ [0, 1] _
  refine sR rfl rfl rfl (opR_load_pt (i := 0) Tryd.underlying9 rfl rfl rfl rfl) ?_
  refine AR.run rfl rfl (AO.callp rfl en18_heada rfl (w_head_Plain F a2 x4 e5) ?_)
  refine AR.nil ?_
  show AW _ _ _ _ _ _
  refine AW.cond rfl (fun c6 => ?_) (fun c6 => ?_)
  ·replace H := cnd_t c6 H
   refine AW.seq ?_
   refine AW.seq ?_
   obtain ⟨g7, H⟩ := grd_s H
   obtain ⟨g8, H⟩ := grd_s H
   obtain ⟨x9, e10, H⟩ := lt_s H
   refine AW.region ?_
   show AR _ _ _ _ _ [0, 1, 2, 3] _
   refine sR rfl rfl rfl (opR_load_pt (i := 0) Tryd.underlying9 rfl rfl rfl rfl) ?_
   refine AR.run rfl rfl (AO.callp rfl en52_heada rfl (show ACalls _ _ _ [] (Ret (slE Enc.str x9 none) []) from by subst e10; exact lib_Split a2 ([32] : List UInt8) (okS_s g7) (of_decide_eq_true g8)) ?_)
   refine sS rfl rfl rfl (opS_len_sl Tryd.underlying36 rfl) ?_
   refine sS rfl rfl rfl (mv rfl) ?_
   refine AR.nil ?_
   show AW _ _ _ _ _ _
   refine AW.block ?_
   refine AW.loop (X := Nat × Int × σ × τ) (fun (n15, y11, y12, t13) => ⟨[(0, .yl o), (9, slE Enc.str x9 none), (10, i64 (x9.length : Int)), (11, i64 y11)], [], ([.obj o1 [S a2]] ++ T y12 t13)⟩) (fun (n15, y11, y12, t13) => head_wordsI_L2 a2 k x9 n15 (y11, y12) = some (rs, r3)) (fun (n15, y11, y12, t13) => n15) (F, 0, st0, tt0) H (WK.atT 1 [0] (.cons (.refl _) (.cons (.refl _) (.cons (.refl _) (.cons (.refl _) (.nil _))))) rfl) ?_
   rintro ⟨n15, y11, y12, t13⟩ H
   obtain ⟨n15, rfl, H⟩ := loop_s H
   replace H : head_wordsI_B2 a2 k x9 (head_wordsI_L2 a2 k x9 n15) y11 y12 = some (rs, r3) := H
   unfold head_wordsI_B2 at H
   show AW _ _ _ _ _ _
   refine AW.seq ?_
   refine AW.region ?_
   show AR _ _ _ _ _ [0] _
   refine sS rfl rfl rfl (opS_lt rfl rfl) ?_
   refine AR.nil ?_
   show AW _ _ _ _ _ _
   refine AW.seq ?_
   refine AW.cond rfl (fun c16 => ?_) (fun c16 => ?_)
   ·replace H := cnd_t c16 H
    refine AW.skip ?_
    show AW _ _ _ _ _ _
    refine AW.seq ?_
    refine AW.block ?_
    refine AW.seq ?_
    obtain ⟨g17, H⟩ := grd_s H
    obtain ⟨x18, e19, H⟩ := lt_s H
    refine AW.region ?_
    show AR _ _ _ _ _ [0, 1, 2] _
    refine sS rfl rfl rfl (g_indexAddr (E := Enc.str) Tryd.underlying36 (by kernel_rfl) rfl rfl g17 e19) ?_
    refine sS rfl rfl rfl (opS_load_cp Tryd.underlying9 rfl rfl) ?_
    refine sS rfl rfl rfl (asg rfl) ?_
    refine AR.nil ?_
    show AW _ _ _ _ _ _
    refine AW.seq ?_
    obtain ⟨x20, x21, e22, H⟩ := bnd2_s H
    refine AW.region ?_
    show AR _ _ _ _ _ [0, 1, 2, 3] _
    refine sS rfl rfl rfl (opS_move (av := .yl _) rfl) ?_
    refine sS rfl rfl rfl (mv rfl) ?_
    refine AR.run rfl rfl (AO.yieldT (s' := x20) (b := x21) 1 rfl rfl rfl (hY _ _ _ _ e22) fun t23 => ?_)
    show AR _ _ _ _ _ _ ⟨_, _, ([.obj o1 [S a2]] ++ T x20 t23)⟩
    refine sS rfl rfl rfl (opS_not rfl) ?_
    refine AR.nil ?_
    show AW _ _ _ _ _ _
    refine AW.cond rfl (fun c24 => ?_) (fun c24 => ?_)
    ·replace H := cnd_t c24 H
     refine AW.ret ?_
     obtain ⟨rfl, rfl⟩ := res2 H
     exact And.intro rfl (Exists.intro _ (Exists.intro _ ⟨ResV.noneW rfl, Sub.atT 1 [0] rfl, t23, rfl, rfl⟩))
    ·replace H := cnd_f c24 H
     refine AW.skip ?_
     show AW _ _ _ _ _ _
     obtain ⟨g25, H⟩ := grd_s H
     refine AW.region ?_
     show AR _ _ _ _ _ [0, 1] _
     refine sS rfl rfl rfl (g_add rfl rfl g25) ?_
     refine sS rfl rfl rfl (mv rfl) ?_
     refine AR.nil ?_
     exact Exists.intro (n15, y11 + 1, x20, t23) ⟨H, Nat.lt_succ_self _, WK.atT 1 [0] (.cons (.refl _) (.cons (.refl _) (.cons (.refl _) (.cons (.refl _) (.nil _))))) rfl⟩
   ·replace H := cnd_f c16 H
    refine AW.exit ?_
    show AW _ _ _ _ _ _
    refine AW.ret ?_
    obtain ⟨rfl, rfl⟩ := res2 H
    exact And.intro rfl (Exists.intro _ (Exists.intro _ ⟨ResV.noneW rfl, Sub.atT 1 [0] rfl, t13, rfl, rfl⟩))
  ·replace H := cnd_f c6 H
   refine AW.skip ?_
   exact Exists.intro () ⟨H, WK.atT 1 [0] (.cons (.refl _) (.cons (.refl _) (.nil _))) rfl⟩
 rintro _ H
 replace H : head_wordsI_j1 F a2 k st0 = some (rs, r3) := H
 unfold head_wordsI_j1 at H
 show AW _ _ _ _ _ _
 refine AW.block ?_
 refine AW.loop (X := Nat × (List UInt8) × σ × τ) (fun (n31, y27, y28, t29) => ⟨[(0, .yl o), (1, .pt o1 0)], [], ([.obj o1 [S y27]] ++ T y28 t29)⟩) (fun (n31, y27, y28, t29) => head_wordsI_L1 F k n31 (y27, y28) = some (rs, r3)) (fun (n31, y27, y28, t29) => n31) (F, a2, st0, tt0) H (WK.atT 1 [0] (.cons (.refl _) (.cons (.refl _) (.nil _))) rfl) ?_
 rintro ⟨n31, y27, y28, t29⟩ H
 obtain ⟨n31, rfl, H⟩ := loop_s H
 replace H : head_wordsI_B1 F k (head_wordsI_L1 F k n31) y27 y28 = some (rs, r3) := H
 unfold head_wordsI_B1 at H
 show AW _ _ _ _ _ _
 refine AW.seq ?_
 refine AW.seq ?_
 refine AW.region ?_
 show AR _ _ _ _ _ [0, 1] _
 refine sR rfl rfl rfl (opR_load_pt (i := 0) Tryd.underlying9 rfl rfl rfl rfl) ?_
 refine sS rfl rfl rfl (opS_nes rfl rfl) ?_
 refine AR.nil ?_
 show AW _ _ _ _ _ _
 refine AW.cond rfl (fun c32 => ?_) (fun c32 => ?_)
 ·replace H := cnd_t c32 H
  refine AW.skip ?_
  show AW _ _ _ _ _ _
  refine AW.block ?_
  refine AW.seq ?_
  obtain ⟨x33, e34, H⟩ := bnd_s H
  refine AW.region ?_
  show AR _ _ _ _ _ [0, 1, 2] _
  refine sR rfl rfl rfl (opR_load_pt (i := 0) Tryd.underlying9 rfl rfl rfl rfl) ?_
  refine AR.run rfl rfl (AO.callp rfl en53_heada rfl (w_head_part F y27 x33 e34) ?_)
  refine sS rfl rfl rfl (asg rfl) ?_
  refine AR.nil ?_
  show AW _ _ _ _ _ _
  refine AW.seq ?_
  refine AW.seq ?_
  obtain ⟨g35, H⟩ := grd_s H
  obtain ⟨x36, e37, H⟩ := lt_s H
  obtain ⟨g38, H⟩ := grd_s H
  obtain ⟨x40, e41, H⟩ := bnd_s H
  obtain ⟨g42, H⟩ := grd_s H
  obtain ⟨x43, e44, H⟩ := lt_s H
  obtain ⟨g45, H⟩ := grd_s H
  obtain ⟨x46, e47, H⟩ := lt_s H
  obtain ⟨x48, x49, e50, H⟩ := bnd2_s H
  refine AW.region ?_
  show AR _ _ _ _ _ [0, 1, 2, 3, 4, 5, 6, 7, 8, 9] _
  refine sS rfl rfl rfl (opS_move (av := .yl _) rfl) ?_
  refine sR rfl rfl rfl (opR_load_pt (i := 0) Tryd.underlying9 rfl rfl rfl rfl) ?_
  refine sS rfl rfl rfl (mv rfl) ?_
  refine sS rfl rfl rfl (g_to_str Tryd.underlying9 rfl rfl g35 e37) ?_
  refine sX rfl rfl rfl (g_conv_str_bytes (bytes := 1) Tryd.underlying9 Tryd.underlying24 Tryd.underlying5 rfl g38) ?_
  rintro _ _ ⟨t39, rfl, rfl⟩
  refine AR.run rfl rfl (AO.callp rfl en54_heada rfl (w_b64_Raw F x36 (some t39) x40 e41) ?_)
  refine sS rfl rfl rfl (g_cat rfl rfl g42 e44) ?_
  refine sS rfl rfl rfl (g_cat rfl rfl g45 e47) ?_
  refine AR.run rfl rfl (AO.yieldT (s' := x48) (b := x49) 2 rfl rfl rfl (hY _ _ _ _ e50) fun t51 => ?_)
  show AR _ _ _ _ _ _ ⟨_, _, ([.tok t39 5, .obj o1 [S y27]] ++ T x48 t51)⟩
  refine sS rfl rfl rfl (opS_not rfl) ?_
  refine AR.nil ?_
  show AW _ _ _ _ _ _
  refine AW.cond rfl (fun c52 => ?_) (fun c52 => ?_)
  ·replace H := cnd_t c52 H
   refine AW.ret ?_
   obtain ⟨rfl, rfl⟩ := res2 H
   exact And.intro rfl (Exists.intro _ (Exists.intro _ ⟨ResV.noneW rfl, Sub.atT 2 [1] rfl, t51, rfl, rfl⟩))
  ·replace H := cnd_f c52 H
   refine AW.skip ?_
   show AW _ _ _ _ _ _
   obtain ⟨g53, H⟩ := grd_s H
   obtain ⟨x54, e55, H⟩ := lt_s H
   refine AW.region ?_
   show AR _ _ _ _ _ [0, 1, 2, 3] _
   refine sR rfl rfl rfl (opR_load_pt (i := 1) Tryd.underlying9 rfl rfl rfl rfl) ?_
   refine sS rfl rfl rfl (mv rfl) ?_
   refine sS rfl rfl rfl (g_from_str Tryd.underlying9 rfl rfl g53 e55) ?_
   refine s0 rfl rfl (opR_store_pt (i := 1) (c := .v _) (by kernel_rfl) rfl rfl rfl rfl (Nat.le_of_ble_eq_true rfl)) ?_
   refine AR.nil ?_
   exact Exists.intro (n31, x54, x48, t51) ⟨H, Nat.lt_succ_self _, WK.atT 2 [1] (.cons (.refl _) (.cons (.refl _) (.nil _))) rfl⟩
 ·replace H := cnd_f c32 H
  refine AW.exit ?_
  obtain ⟨rfl, rfl⟩ := res2 H
  exact And.intro rfl (Exists.intro _ (Exists.intro _ ⟨ResV.noneW rfl, Sub.atT 1 [0] rfl, t29, rfl, rfl⟩))
set_option maxRecDepth 100000 in
set_option maxHeartbeats 1000000 in
theorem w_head_words (F : Nat) (a1 : List UInt8) (H : head_words F a1 = some ()) : ACalls Tryd.prog 27 [S a1] [] (fun e A' => ∃ ob1 : Nat, e = .ret (.fn (.func 51) [] [.pt ob1 0]) ∧ A' = [.obj ob1 [S a1]]) := by
 unfold head_words at H
 refine ACalls.of_body Tryd.func27 rfl rfl ?_
 show AW _ _ 4 _ _ _
 refine AW.seq ?_
 refine AW.region ?_
 show AR _ _ _ _ _ [0, 1] _
 refine sX rfl rfl rfl (opX_box rfl (.inl rfl)) ?_
 rintro _ _ ⟨o2, rfl, rfl⟩
 refine sS rfl rfl rfl (asg rfl) ?_
 refine AR.nil ?_
 show AW _ _ _ _ _ _
 refine AW.seq ?_
 refine AW.region ?_
 show AR _ _ _ _ _ [0, 1] _
 refine sS rfl rfl rfl (opS_makeFunc rfl rfl) ?_
 refine sS rfl rfl rfl (opS_assign (av := .fn _ _ _) rfl) ?_
 refine AR.nil ?_
 show AW _ _ _ _ _ _
 refine AW.ret ?_
 exact And.intro rfl (Exists.intro _ (Exists.intro _ ⟨ResV.oneW rfl (.refl _), Sub.at [0] rfl, o2, rfl, rfl⟩))
set_option maxRecDepth 100000 in
set_option maxHeartbeats 1000000 in
theorem w_head_AppendSeq (F : Nat) (o1 : Nat) (a2 : List UInt8) (r3 : List (List UInt8)) (r4 : List UInt8) (H : head_AppendSeq F a2 = some (r3, r4)) : ACalls Tryd.prog 60 [nilS, .fn (.func 51) [] [.pt o1 0]] [.obj o1 [S a2]] (fun e A' => e = .ret (slE Enc.str r3 none) ∧ A' = [.obj o1 [S r4]]) := by
 unfold head_AppendSeq at H
 refine ACalls.of_bodyM Tryd.func60 rfl rfl ?_
 show AW _ _ 13 _ _ _
 refine AW.seq ?_
 refine AW.region ?_
 show AR _ _ _ _ _ [0, 1] _
 refine sX rfl rfl rfl (opX_box rfl (.inl rfl)) ?_
 rintro _ _ ⟨o5, rfl, rfl⟩
 refine sS rfl rfl rfl (asg rfl) ?_
 refine AR.nil ?_
 show AW _ _ _ _ _ _
 refine AW.nil_objAt 0 0 1 9 rfl rfl fun t6 => ?_
 show AW _ _ _ _ _ ⟨_, _, [.tok t6 9, .obj o5 [slE Enc.str [] (some t6)], .obj o1 [S a2]]⟩
 refine AW.cut (X := Nat × (List UInt8) × (List (List UInt8)) × Nat) (fun (t20, y21, y22, t23) => ⟨[(2, .pt o5 0)], [.mark t20], [.obj o1 [S y21], .obj o5 [slE Enc.str y22 (some t23)], .tok t23 9, .db t20]⟩) (fun (t20, y21, y22, t23) => head_AppendSeq_j1 y21 y22 = some (r3, r4)) ?_ ?_
 ·
  refine AW.seq ?_
  refine AW.region ?_
  show AR _ _ _ _ _ [0] _
  refine sS rfl rfl rfl (opS_move (av := .fn _ _ _) rfl) ?_
  refine AR.nil ?_
  show AW _ _ _ _ _ _
  refine AW.block ?_
  obtain ⟨x15, x16, e17, H⟩ := bnd2_s H
  refine AW.rangeK (α := List UInt8) (σ := (List (List UInt8))) (τ := Nat) (fun x => [S x]) (fun s t => [.obj o5 [slE Enc.str s (some t)], .tok t 9]) (fun _ => none) (fun s x => head_AppendSeq_k1 s x) [] t6 x15 [2] [1, 0] rfl en51_heada (fun _ => rfl) (by decide) rfl rfl rfl (fun o T' hY => w_head_wordsI F T' _ o hY _ _ o1 a2 x15 x16 e17) ?_ ?_
  ·
   rintro l y7 t8 x10 rv H
   replace H : head_AppendSeq_k1 y7 x10 = some rv := H
   unfold head_AppendSeq_k1 at H
   refine ⟨rfl, ?_⟩
   show AW _ _ _ _ _ ⟨(7, S x10) :: _, [], _⟩
   refine AW.region ?_
   show AR _ _ _ _ _ [0] _
   refine sS rfl rfl rfl (asg rfl) ?_
   refine AR.nil ?_
   show AW _ _ _ _ _ _
   refine AW.block ?_
   obtain ⟨g12, H⟩ := grd_s H
   obtain ⟨x13, e14, H⟩ := lt_s H
   refine AW.region ?_
   show AR _ _ _ _ _ [0, 1, 2, 3, 4] _
   refine sR rfl rfl rfl (opR_load_pt (i := 0) Tryd.underlying36 rfl rfl rfl rfl) ?_
   refine sS rfl rfl rfl (mv rfl) ?_
   refine sR rfl rfl rfl (opR_buildE (E := Enc.str) (bytes := 16) (xs := [.tmp 9]) (l := ([x10] : List (List UInt8))) Tryd.underlying36 (by kernel_rfl) rfl rfl (by decide) rfl rfl) ?_
   refine sX rfl rfl rfl (g_append (E := Enc.str) (bytes := 16) 1 Tryd.underlying36 Tryd.underlying36 rfl (by kernel_rfl) rfl rfl rfl rfl g12 e14) ?_
   rintro _ _ ⟨t11, rfl, rfl⟩
   refine s0 rfl rfl (opR_store_pt (i := 0) (c := slE _ _ _) (by kernel_rfl) rfl rfl rfl rfl (Nat.le_of_ble_eq_true rfl)) ?_
   refine AR.nil ?_
   obtain rfl := Option.some.inj H
   exact ⟨rfl, rfl, t11, Sub.at [0, 0] rfl⟩
  rintro o19 t18
  exact Exists.intro (o19, x16, x15, t18) ⟨H, WK.at [1, 1, 1, 0] (.cons (.refl _) (.nil _)) rfl⟩
 rintro ⟨t20, y21, y22, t23⟩ H
 replace H : head_AppendSeq_j1 y21 y22 = some (r3, r4) := H
 unfold head_AppendSeq_j1 at H
 show AW _ _ _ _ _ _
 refine AW.seq ?_
 refine AW.region ?_
 show AR _ _ _ _ _ [0, 1] _
 refine sR rfl rfl rfl (opR_load_pt (i := 1) Tryd.underlying36 rfl rfl rfl rfl) ?_
 refine sS rfl rfl rfl (opS_assign (av := slE _ _ _) rfl) ?_
 refine AR.nil ?_
 show AW _ _ _ _ _ _
 refine AW.ret ?_
 obtain ⟨rfl, rfl⟩ := res2 H
 exact Exists.intro _ (And.intro (Unmark.at 3 rfl (.nil _)) (Exists.intro _ (Exists.intro _ ⟨ResV.oneW rfl (.tok _ _ _), Sub.at [0] rfl, rfl, rfl⟩)))
set_option maxRecDepth 100000 in
set_option maxHeartbeats 1000000 in
theorem w_head_Collect (F : Nat) (o1 : Nat) (a2 : List UInt8) (r3 : List (List UInt8)) (r4 : List UInt8) (H : head_Collect F a2 = some (r3, r4)) : ACalls Tryd.prog 34 [.fn (.func 51) [] [.pt o1 0]] [.obj o1 [S a2]] (fun e A' => e = .ret (slE Enc.str r3 none) ∧ A' = [.obj o1 [S r4]]) := by
 unfold head_Collect at H
 refine ACalls.of_body Tryd.func34 rfl rfl ?_
 show AW _ _ 5 _ _ _
 refine AW.seq ?_
 refine AW.region ?_
 show AR _ _ _ _ _ [0] _
 refine sS rfl rfl rfl (asg rfl) ?_
 refine AR.nil ?_
 show AW _ _ _ _ _ _
 refine AW.seq ?_
 obtain ⟨x5, x6, e7, H⟩ := bnd2_s H
 refine AW.region ?_
 show AR _ _ _ _ _ [0, 1, 2] _
 refine sS rfl rfl rfl (opS_move (av := .fn _ _ _) rfl) ?_
 refine AR.run rfl rfl (AO.callAt [0] rfl en60_heada rfl (w_head_AppendSeq F o1 a2 x5 x6 e7) rfl (fun c A' h => by cases h.1) ?_)
 rintro av A' ⟨h, rfl⟩; cases h
 refine sS rfl rfl rfl (opS_assign (av := slE _ _ _) rfl) ?_
 refine AR.nil ?_
 show AW _ _ _ _ _ _
 refine AW.ret ?_
 obtain ⟨rfl, rfl⟩ := res2 H
 exact And.intro rfl (Exists.intro _ (Exists.intro _ ⟨ResV.oneW rfl (.refl _), Sub.at [0] rfl, rfl, rfl⟩))
set_option maxRecDepth 100000 in
set_option maxHeartbeats 1000000 in
theorem w_head_Words (F : Nat) (a1 : List UInt8) (r2 : List (List UInt8)) (H : head_Words F a1 = some r2) : ACalls Tryd.prog 15 [S a1] [] (Ret (slE Enc.str r2 none) []) := by
 unfold head_Words at H
 refine ACalls.of_body Tryd.func15 rfl rfl ?_
 show AW _ _ 6 _ _ _
 refine AW.seq ?_
 refine AW.region ?_
 show AR _ _ _ _ _ [0] _
 refine sS rfl rfl rfl (asg rfl) ?_
 refine AR.nil ?_
 show AW _ _ _ _ _ _
 refine AW.seq ?_
 obtain ⟨_, e3, H⟩ := bnd_s H
 obtain ⟨x5, x6, e7, H⟩ := bnd2_s H
 refine AW.region ?_
 show AR _ _ _ _ _ [0, 1, 2, 3] _
 refine sS rfl rfl rfl (mv rfl) ?_
 refine AR.run rfl rfl (AO.callAt [] rfl en27_heada rfl (w_head_words F a1 e3) rfl (fun c A' h => by obtain ⟨_, h, _⟩ := h; cases h) ?_)
 rintro av A' ⟨o4, h, rfl⟩; cases h
 refine AR.run rfl rfl (AO.callAt [0] rfl en34_heada rfl (w_head_Collect F o4 a1 x5 x6 e7) rfl (fun c A' h => by cases h.1) ?_)
 rintro av A' ⟨h, rfl⟩; cases h
 refine sS rfl rfl rfl (opS_assign (av := slE _ _ _) rfl) ?_
 refine AR.nil ?_
 show AW _ _ _ _ _ _
 refine AW.ret ?_
 obtain rfl := Option.some.inj H
 exact And.intro rfl (Exists.intro _ (Exists.intro _ ⟨ResV.oneW rfl (.refl _), Sub.at [] rfl, rfl, rfl⟩))
set_option maxRecDepth 100000 in
set_option maxHeartbeats 1000000 in
theorem w_head_Line (F : Nat) (a1 : List UInt8) (a2 : List UInt8) (r3 : List UInt8) (r4 : Int) (H : head_Line F a1 a2 = some (r3, r4)) : ACalls Tryd.prog 11 [.agg [S a1, S a2]] [] (Ret (.tup [slE Enc.byte r3 none, i64 r4]) []) := by
 unfold head_Line at H
 refine ACalls.of_bodyM Tryd.func11 rfl rfl ?_
 show AW _ _ 47 _ _ _
 refine AW.seq ?_
 refine AW.region ?_
 show AR _ _ _ _ _ [0, 1, 2] _
 refine sR rfl rfl rfl (opR_boxCp rfl (.inr ⟨_, rfl⟩)) ?_
 refine sS rfl rfl rfl (asg rfl) ?_
 refine sS rfl rfl rfl (asg rfl) ?_
 refine AR.nil ?_
 show AW _ _ _ _ _ _
 refine AW.seq ?_
 refine AW.seq ?_
 obtain ⟨x5, e6, H⟩ := bnd_s H
 refine AW.region ?_
 show AR _ _ _ _ _ [0, 1, 2, 3, 4, 5, 6, 7, 8, 9] _
 refine sS rfl rfl rfl (opS_fieldAddr_cp (n := 0) (by kernel_rfl) rfl (Nat.le_of_ble_eq_true rfl)) ?_
 refine sS rfl rfl rfl (opS_load_cp Tryd.underlying9 rfl rfl) ?_
 refine AR.run rfl rfl (AO.callp rfl en26_heada rfl (w_head_name F a1 x5 e6) ?_)
 refine sS rfl rfl rfl (opS_not rfl) ?_
 refine sS rfl rfl rfl (mv rfl) ?_
 refine AR.meet (l := []) 16 (B ((!x5) || (decide (4000 < (a2.length : Int))))) (fun K => ?_) ?_
 ·rcases Bool.eq_false_or_eq_true (!x5) with h7 | h7
  ·
   refine gF h7 rfl rfl rfl rfl rfl ?_
   refine gF h7 rfl rfl rfl rfl rfl ?_
   refine gF h7 rfl rfl rfl rfl rfl ?_
   refine gF h7 rfl rfl rfl rfl rfl ?_
   refine sS rfl rfl rfl (opS_pick_t (av := .v _) rfl h7 rfl) ?_
   exact K _ 4 _ (B_congr (or_t h7)) rfl rfl
  ·
   refine gT h7 rfl rfl rfl rfl rfl rfl (AO.ops rfl rfl (opS_fieldAddr_cp (n := 1) (by kernel_rfl) rfl (Nat.le_of_ble_eq_true rfl)) ?_)
   refine gT h7 rfl rfl rfl rfl rfl rfl (AO.ops rfl rfl (opS_load_cp Tryd.underlying9 rfl rfl) ?_)
   refine gT h7 rfl rfl rfl rfl rfl rfl (AO.ops rfl rfl (opS_len_str Tryd.underlying9 rfl) ?_)
   refine gT h7 rfl rfl rfl rfl rfl rfl (AO.ops rfl rfl (opS_gt rfl rfl) ?_)
   refine sS rfl rfl rfl (opS_pick_f (av := .v _) rfl h7 rfl) ?_
   exact K _ 4 _ (B_congr (or_f h7)) rfl rfl
 refine AR.nil ?_
 show AW _ _ _ _ _ _
 refine AW.cond rfl (fun c8 => ?_) (fun c8 => ?_)
 ·replace H := cnd_t c8 H
  refine AW.seq ?_
  refine AW.region ?_
  show AR _ _ _ _ _ [0, 1] _
  refine sS rfl rfl rfl (asg rfl) ?_
  refine sS rfl rfl rfl (asg rfl) ?_
  refine AR.nil ?_
  show AW _ _ _ _ _ _
  refine AW.ret ?_
  obtain ⟨rfl, rfl⟩ := res2 H
  exact Exists.intro _ (And.intro (.nil _) (Exists.intro _ (Exists.intro _ ⟨ResV.twoW rfl (.nil _) (.refl _), Sub.at [] rfl, rfl, rfl⟩)))
 ·replace H := cnd_f c8 H
  refine AW.skip ?_
  show AW _ _ _ _ _ _
  refine AW.seq ?_
  obtain ⟨g9, H⟩ := grd_s H
  obtain ⟨x10, e11, H⟩ := lt_s H
  obtain ⟨g12, H⟩ := grd_s H
  refine AW.region ?_
  show AR _ _ _ _ _ [0, 1, 2, 3, 4, 5] _
  refine sS rfl rfl rfl (opS_fieldAddr_cp (n := 0) (by kernel_rfl) rfl (Nat.le_of_ble_eq_true rfl)) ?_
  refine sS rfl rfl rfl (opS_load_cp Tryd.underlying9 rfl rfl) ?_
  refine sS rfl rfl rfl (g_cat rfl rfl g9 e11) ?_
  refine sX rfl rfl rfl (g_conv_str_bytes (bytes := 1) Tryd.underlying9 Tryd.underlying24 Tryd.underlying5 rfl g12) ?_
  rintro _ _ ⟨t13, rfl, rfl⟩
  refine sX rfl rfl rfl (opX_alloc (zs := [.slice none 0 0]) (by kernel_rfl)) ?_
  rintro _ _ ⟨o14, rfl, rfl⟩
  refine s0 rfl rfl (opR_store_pt (i := 0) (c := slE _ _ _) (by kernel_rfl) rfl rfl rfl rfl (Nat.le_of_ble_eq_true rfl)) ?_
  refine AR.nil ?_
  show AW _ _ _ _ _ _
  refine AW.seq ?_
  refine AW.region ?_
  show AR _ _ _ _ _ [0, 1, 2, 3] _
  refine sR rfl rfl rfl (opR_load_pt (i := 0) Tryd.underlying24 rfl rfl rfl rfl) ?_
  refine sS rfl rfl rfl (opS_len_sl Tryd.underlying24 rfl) ?_
  refine sX rfl rfl rfl (opX_alloc (zs := [.int .i64 0]) (by kernel_rfl)) ?_
  rintro _ _ ⟨o15, rfl, rfl⟩
  refine s0 rfl rfl (opR_store_pt (i := 0) (c := .v _) (by kernel_rfl) rfl rfl rfl rfl (Nat.le_of_ble_eq_true rfl)) ?_
  refine AR.nil ?_
  show AW _ _ _ _ _ _
  refine AW.cut (X := Nat × (List UInt8) × Nat) (fun (t65, y66, t67) => ⟨[(4, .pt o14 0)], [.mark t65], [.obj o14 [slE Enc.byte y66 (some t67)], .tok t67 5, .db t65]⟩) (fun (t65, y66, t67) => head_Line_j1 y66 = some (r3, r4)) ?_ ?_
  ·
   refine AW.seq ?_
   obtain ⟨_, e16, H⟩ := bnd_s H
   refine AW.region ?_
   show AR _ _ _ _ _ [0, 1, 2] _
   refine sS rfl rfl rfl (opS_fieldAddr_cp (n := 1) (by kernel_rfl) rfl (Nat.le_of_ble_eq_true rfl)) ?_
   refine sS rfl rfl rfl (opS_load_cp Tryd.underlying9 rfl rfl) ?_
   refine AR.run rfl rfl (AO.callAt [] rfl en27_heada rfl (w_head_words F a2 e16) rfl (fun c A' h => by obtain ⟨_, h, _⟩ := h; cases h) ?_)
   rintro av A' ⟨o17, h, rfl⟩; cases h
   refine AR.nil ?_
   show AW _ _ _ _ _ _
   refine AW.block ?_
   obtain ⟨x60, x61, e62, H⟩ := bnd2_s H
   refine AW.rangeK (α := List UInt8) (σ := Int × (List UInt8)) (τ := Nat) (fun x => [S x]) (fun s t => [.obj o15 [i64 s.1], .obj o14 [slE Enc.byte s.2 (some t)], .tok t 5]) (fun _ => none) (fun s x => head_Line_k1 s.1 s.2 x) ((x10.length : Int), x10) t13 x60 [0] [0, 0, 0] rfl en51_heada (fun _ => rfl) (by decide) rfl rfl rfl (fun o T' hY => w_head_wordsI F T' _ o hY _ _ o17 a2 x60 x61 e62) ?_ ?_
   ·
    rintro l ⟨y18, y19⟩ t20 x22 rv H
    replace H : head_Line_k1 y18 y19 x22 = some rv := H
    unfold head_Line_k1 at H
    refine ⟨rfl, ?_⟩
    show AW _ _ _ _ _ ⟨(26, S x22) :: _, [], _⟩
    refine AW.region ?_
    show AR _ _ _ _ _ [0] _
    refine sS rfl rfl rfl (asg rfl) ?_
    refine AR.nil ?_
    show AW _ _ _ _ _ _
    refine AW.block ?_
    refine AW.cut (X := Int × (List UInt8) × Nat) (fun (y30, y31, t32) => ⟨[(4, .pt o14 0), (5, .pt o15 0), (6, S x22)], [], [.obj o15 [i64 y30], .obj o14 [slE Enc.byte y31 (some t32)], .tok t32 5]⟩) (fun (y30, y31, t32) => head_Line_j2 x22 y30 y31 = some rv) ?_ ?_
    ·
     refine AW.seq ?_
     obtain ⟨g23, H⟩ := grd_s H
     obtain ⟨g24, H⟩ := grd_s H
     refine AW.region ?_
     show AR _ _ _ _ _ [0, 1, 2, 3, 4, 5] _
     refine sR rfl rfl rfl (opR_load_pt (i := 0) Tryd.underlying3 rfl rfl rfl rfl) ?_
     refine sS rfl rfl rfl (g_add rfl rfl g23) ?_
     refine sS rfl rfl rfl (mv rfl) ?_
     refine sS rfl rfl rfl (opS_len_str Tryd.underlying9 rfl) ?_
     refine sS rfl rfl rfl (g_add rfl rfl g24) ?_
     refine sS rfl rfl rfl (opS_gt rfl rfl) ?_
     refine AR.nil ?_
     show AW _ _ _ _ _ _
     refine AW.cond rfl (fun c25 => ?_) (fun c25 => ?_)
     ·replace H := cnd_t c25 H
      obtain ⟨g27, H⟩ := grd_s H
      obtain ⟨x28, e29, H⟩ := lt_s H
      refine AW.region ?_
      show AR _ _ _ _ _ [0, 1, 2, 3] _
      refine sR rfl rfl rfl (opR_load_pt (i := 1) Tryd.underlying24 rfl rfl rfl rfl) ?_
      refine sX rfl rfl rfl (g_append_str (bytes := 1) 2 Tryd.underlying24 Tryd.underlying9 rfl (by kernel_rfl) rfl rfl rfl rfl g27 e29) ?_
      rintro _ _ ⟨t26, rfl, rfl⟩
      refine s0 rfl rfl (opR_store_pt (i := 1) (c := slE _ _ _) (by kernel_rfl) rfl rfl rfl rfl (Nat.le_of_ble_eq_true rfl)) ?_
      refine s0 rfl rfl (opR_store_pt (i := 0) (c := .v _) (by kernel_rfl) rfl rfl rfl rfl (Nat.le_of_ble_eq_true rfl)) ?_
      refine AR.nil ?_
      exact Exists.intro (0, x28, t26) ⟨H, WK.at [0, 0, 0] (.cons (.refl _) (.cons (.refl _) (.cons (.refl _) (.nil _)))) rfl⟩
     ·replace H := cnd_f c25 H
      refine AW.skip ?_
      exact Exists.intro (y18, y19, t20) ⟨H, WK.at [0, 0, 0] (.cons (.refl _) (.cons (.refl _) (.cons (.refl _) (.nil _)))) rfl⟩
    rintro ⟨y30, y31, t32⟩ H
    replace H : head_Line_j2 x22 y30 y31 = some rv := H
    unfold head_Line_j2 at H
    show AW _ _ _ _ _ _
    obtain ⟨g35, H⟩ := grd_s H
    obtain ⟨x36, e37, H⟩ := lt_s H
    obtain ⟨g39, H⟩ := grd_s H
    obtain ⟨x40, e41, H⟩ := lt_s H
    obtain ⟨g42, H⟩ := grd_s H
    obtain ⟨g43, H⟩ := grd_s H
    refine AW.region_drawR (by kernel_rfl) (by kernel_rfl) ?_
    show AI _ _ _ _ _ 12 (Array.replicate 12 false) _
    refine AI.take (i := 3) rfl rfl (by kernel_rfl) (by kernel_rfl) (by kernel_rfl) (fun _ _ h => h) (mv rfl) ?_
    show AI _ _ _ _ _ _ #[false, false, false, true, false, false, false, false, false, false, false, false] _
    refine AI.take (i := 7) rfl rfl (by kernel_rfl) (by kernel_rfl) (by kernel_rfl) (fun _ _ h => h) (mv rfl) ?_
    show AI _ _ _ _ _ _ #[false, false, false, true, false, false, false, true, false, false, false, false] _
    refine AI.take (i := 8) rfl rfl (by kernel_rfl) (by kernel_rfl) (by kernel_rfl) (fun _ _ h => h) (opS_len_str Tryd.underlying9 rfl) ?_
    show AI _ _ _ _ _ _ #[false, false, false, true, false, false, false, true, true, false, false, false] _
    refine AI.three (i := 0) (j := 1) (l := 5) (by kernel_rfl) rfl rfl rfl rfl rfl rfl ?_ ?_ ?_
    ·
     refine AIO.op rfl (opR_load_pt (i := 1) Tryd.underlying24 rfl rfl rfl rfl) ?_
     show AI _ _ _ _ _ _ #[true, false, false, true, false, false, false, true, true, false, false, false] _
     refine AI.two (i := 1) (j := 5) (by kernel_rfl) rfl rfl rfl rfl ?_ ?_
     ·
      refine AIO.op rfl (opR_buildE (E := Enc.byte) (bytes := 1) (xs := [.const _]) (l := ([32] : List UInt8)) Tryd.underlying24 (by kernel_rfl) rfl rfl (by decide) rfl rfl) ?_
      show AI _ _ _ _ _ _ #[true, true, false, true, false, false, false, true, true, false, false, false] _
      refine AI.two (i := 2) (j := 5) (by kernel_rfl) rfl rfl rfl rfl ?_ ?_
      ·
       refine AIO.opx rfl (g_append (E := Enc.byte) (bytes := 1) 2 Tryd.underlying24 Tryd.underlying24 rfl (by kernel_rfl) rfl rfl rfl rfl g35 e37) ?_
       rintro _ _ ⟨t34, rfl, rfl⟩
       show AI _ _ _ _ _ _ #[true, true, true, true, false, false, false, true, true, false, false, false] _
       refine AI.two (i := 4) (j := 5) (by kernel_rfl) rfl rfl rfl rfl ?_ ?_
       ·
        refine AIO.opx rfl (g_append_str (bytes := 1) 2 Tryd.underlying24 Tryd.underlying9 rfl (by kernel_rfl) rfl rfl rfl rfl g39 e41) ?_
        rintro _ _ ⟨t38, rfl, rfl⟩
        show AI _ _ _ _ _ _ #[true, true, true, true, true, false, false, true, true, false, false, false] _
        refine AI.two (i := 5) (j := 10) (by kernel_rfl) rfl rfl rfl rfl ?_ ?_
        ·
         refine AIO.op rfl (opR_load_pt (i := 0) Tryd.underlying3 rfl rfl rfl rfl) ?_
         show AI _ _ _ _ _ _ #[true, true, true, true, true, true, false, true, true, false, false, false] _
         refine AI.take (i := 6) rfl rfl (by kernel_rfl) (by kernel_rfl) (by kernel_rfl) (fun _ _ h => h) (g_add rfl rfl g42) ?_
         show AI _ _ _ _ _ _ #[true, true, true, true, true, true, true, true, true, false, false, false] _
         refine AI.take (i := 9) rfl rfl (by kernel_rfl) (by kernel_rfl) (by kernel_rfl) (fun _ _ h => h) (g_add rfl rfl g43) ?_
         show AI _ _ _ _ _ _ #[true, true, true, true, true, true, true, true, true, true, false, false] _
         refine AI.one (i := 10) (by kernel_rfl) rfl rfl ?_
         refine AIO.op0 (opR_store_pt (i := 1) (c := slE _ _ _) (by kernel_rfl) rfl rfl rfl rfl (Nat.le_of_ble_eq_true rfl)) ?_
         show AI _ _ _ _ _ _ #[true, true, true, true, true, true, true, true, true, true, true, false] _
         refine AI.one (i := 11) (by kernel_rfl) rfl rfl ?_
         refine AIO.op0 (opR_store_pt (i := 0) (c := .v _) (by kernel_rfl) rfl rfl rfl rfl (Nat.le_of_ble_eq_true rfl)) ?_
         show AI _ _ _ _ _ _ #[true, true, true, true, true, true, true, true, true, true, true, true] _
         refine AI.done rfl ?_
         obtain rfl := Option.some.inj H
         exact ⟨rfl, rfl, t38, Sub.at [0, 0, 0] rfl⟩
        ·
         refine AIO.op0 (opR_store_pt (i := 1) (c := slE _ _ _) (by kernel_rfl) rfl rfl rfl rfl (Nat.le_of_ble_eq_true rfl)) ?_
         show AI _ _ _ _ _ _ #[true, true, true, true, true, false, false, true, true, false, true, false] _
         refine AI.one (i := 5) (by kernel_rfl) rfl rfl ?_
         refine AIO.op rfl (opR_load_pt (i := 0) Tryd.underlying3 rfl rfl rfl rfl) ?_
         show AI _ _ _ _ _ _ #[true, true, true, true, true, true, false, true, true, false, true, false] _
         refine AI.take (i := 6) rfl rfl (by kernel_rfl) (by kernel_rfl) (by kernel_rfl) (fun _ _ h => h) (g_add rfl rfl g42) ?_
         show AI _ _ _ _ _ _ #[true, true, true, true, true, true, true, true, true, false, true, false] _
         refine AI.take (i := 9) rfl rfl (by kernel_rfl) (by kernel_rfl) (by kernel_rfl) (fun _ _ h => h) (g_add rfl rfl g43) ?_
         show AI _ _ _ _ _ _ #[true, true, true, true, true, true, true, true, true, true, true, false] _
         refine AI.one (i := 11) (by kernel_rfl) rfl rfl ?_
         refine AIO.op0 (opR_store_pt (i := 0) (c := .v _) (by kernel_rfl) rfl rfl rfl rfl (Nat.le_of_ble_eq_true rfl)) ?_
         show AI _ _ _ _ _ _ #[true, true, true, true, true, true, true, true, true, true, true, true] _
         refine AI.done rfl ?_
         obtain rfl := Option.some.inj H
         exact ⟨rfl, rfl, t38, Sub.at [0, 0, 0] rfl⟩
       ·
        refine AIO.op rfl (opR_load_pt (i := 0) Tryd.underlying3 rfl rfl rfl rfl) ?_
        show AI _ _ _ _ _ _ #[true, true, true, true, false, true, false, true, true, false, false, false] _
        refine AI.take (i := 6) rfl rfl (by kernel_rfl) (by kernel_rfl) (by kernel_rfl) (fun _ _ h => h) (g_add rfl rfl g42) ?_
        show AI _ _ _ _ _ _ #[true, true, true, true, false, true, true, true, true, false, false, false] _
        refine AI.take (i := 9) rfl rfl (by kernel_rfl) (by kernel_rfl) (by kernel_rfl) (fun _ _ h => h) (g_add rfl rfl g43) ?_
        show AI _ _ _ _ _ _ #[true, true, true, true, false, true, true, true, true, true, false, false] _
        refine AI.one (i := 4) (by kernel_rfl) rfl rfl ?_
        refine AIO.opx rfl (g_append_str (bytes := 1) 2 Tryd.underlying24 Tryd.underlying9 rfl (by kernel_rfl) rfl rfl rfl rfl g39 e41) ?_
        rintro _ _ ⟨t44, rfl, rfl⟩
        show AI _ _ _ _ _ _ #[true, true, true, true, true, true, true, true, true, true, false, false] _
        refine AI.one (i := 10) (by kernel_rfl) rfl rfl ?_
        refine AIO.op0 (opR_store_pt (i := 1) (c := slE _ _ _) (by kernel_rfl) rfl rfl rfl rfl (Nat.le_of_ble_eq_true rfl)) ?_
        show AI _ _ _ _ _ _ #[true, true, true, true, true, true, true, true, true, true, true, false] _
        refine AI.one (i := 11) (by kernel_rfl) rfl rfl ?_
        refine AIO.op0 (opR_store_pt (i := 0) (c := .v _) (by kernel_rfl) rfl rfl rfl rfl (Nat.le_of_ble_eq_true rfl)) ?_
        show AI _ _ _ _ _ _ #[true, true, true, true, true, true, true, true, true, true, true, true] _
        refine AI.done rfl ?_
        obtain rfl := Option.some.inj H
        exact ⟨rfl, rfl, t44, Sub.at [0, 0, 0] rfl⟩
      ·
       refine AIO.op rfl (opR_load_pt (i := 0) Tryd.underlying3 rfl rfl rfl rfl) ?_
       show AI _ _ _ _ _ _ #[true, true, false, true, false, true, false, true, true, false, false, false] _
       refine AI.take (i := 6) rfl rfl (by kernel_rfl) (by kernel_rfl) (by kernel_rfl) (fun _ _ h => h) (g_add rfl rfl g42) ?_
       show AI _ _ _ _ _ _ #[true, true, false, true, false, true, true, true, true, false, false, false] _
       refine AI.take (i := 9) rfl rfl (by kernel_rfl) (by kernel_rfl) (by kernel_rfl) (fun _ _ h => h) (g_add rfl rfl g43) ?_
       show AI _ _ _ _ _ _ #[true, true, false, true, false, true, true, true, true, true, false, false] _
       refine AI.one (i := 2) (by kernel_rfl) rfl rfl ?_
       refine AIO.opx rfl (g_append (E := Enc.byte) (bytes := 1) 2 Tryd.underlying24 Tryd.underlying24 rfl (by kernel_rfl) rfl rfl rfl rfl g35 e37) ?_
       rintro _ _ ⟨t45, rfl, rfl⟩
       show AI _ _ _ _ _ _ #[true, true, true, true, false, true, true, true, true, true, false, false] _
       refine AI.one (i := 4) (by kernel_rfl) rfl rfl ?_
       refine AIO.opx rfl (g_append_str (bytes := 1) 2 Tryd.underlying24 Tryd.underlying9 rfl (by kernel_rfl) rfl rfl rfl rfl g39 e41) ?_
       rintro _ _ ⟨t46, rfl, rfl⟩
       show AI _ _ _ _ _ _ #[true, true, true, true, true, true, true, true, true, true, false, false] _
       refine AI.one (i := 10) (by kernel_rfl) rfl rfl ?_
       refine AIO.op0 (opR_store_pt (i := 1) (c := slE _ _ _) (by kernel_rfl) rfl rfl rfl rfl (Nat.le_of_ble_eq_true rfl)) ?_
       show AI _ _ _ _ _ _ #[true, true, true, true, true, true, true, true, true, true, true, false] _
       refine AI.one (i := 11) (by kernel_rfl) rfl rfl ?_
       refine AIO.op0 (opR_store_pt (i := 0) (c := .v _) (by kernel_rfl) rfl rfl rfl rfl (Nat.le_of_ble_eq_true rfl)) ?_
       show AI _ _ _ _ _ _ #[true, true, true, true, true, true, true, true, true, true, true, true] _
       refine AI.done rfl ?_
       obtain rfl := Option.some.inj H
       exact ⟨rfl, rfl, t46, Sub.at [0, 0, 0] rfl⟩
     ·
      refine AIO.op rfl (opR_load_pt (i := 0) Tryd.underlying3 rfl rfl rfl rfl) ?_
      show AI _ _ _ _ _ _ #[true, false, false, true, false, true, false, true, true, false, false, false] _
      refine AI.take (i := 6) rfl rfl (by kernel_rfl) (by kernel_rfl) (by kernel_rfl) (fun _ _ h => h) (g_add rfl rfl g42) ?_
      show AI _ _ _ _ _ _ #[true, false, false, true, false, true, true, true, true, false, false, false] _
      refine AI.take (i := 9) rfl rfl (by kernel_rfl) (by kernel_rfl) (by kernel_rfl) (fun _ _ h => h) (g_add rfl rfl g43) ?_
      show AI _ _ _ _ _ _ #[true, false, false, true, false, true, true, true, true, true, false, false] _
      refine AI.one (i := 1) (by kernel_rfl) rfl rfl ?_
      refine AIO.op rfl (opR_buildE (E := Enc.byte) (bytes := 1) (xs := [.const _]) (l := ([32] : List UInt8)) Tryd.underlying24 (by kernel_rfl) rfl rfl (by decide) rfl rfl) ?_
      show AI _ _ _ _ _ _ #[true, true, false, true, false, true, true, true, true, true, false, false] _
      refine AI.one (i := 2) (by kernel_rfl) rfl rfl ?_
      refine AIO.opx rfl (g_append (E := Enc.byte) (bytes := 1) 2 Tryd.underlying24 Tryd.underlying24 rfl (by kernel_rfl) rfl rfl rfl rfl g35 e37) ?_
      rintro _ _ ⟨t47, rfl, rfl⟩
      show AI _ _ _ _ _ _ #[true, true, true, true, false, true, true, true, true, true, false, false] _
      refine AI.one (i := 4) (by kernel_rfl) rfl rfl ?_
      refine AIO.opx rfl (g_append_str (bytes := 1) 2 Tryd.underlying24 Tryd.underlying9 rfl (by kernel_rfl) rfl rfl rfl rfl g39 e41) ?_
      rintro _ _ ⟨t48, rfl, rfl⟩
      show AI _ _ _ _ _ _ #[true, true, true, true, true, true, true, true, true, true, false, false] _
      refine AI.one (i := 10) (by kernel_rfl) rfl rfl ?_
      refine AIO.op0 (opR_store_pt (i := 1) (c := slE _ _ _) (by kernel_rfl) rfl rfl rfl rfl (Nat.le_of_ble_eq_true rfl)) ?_
      show AI _ _ _ _ _ _ #[true, true, true, true, true, true, true, true, true, true, true, false] _
      refine AI.one (i := 11) (by kernel_rfl) rfl rfl ?_
      refine AIO.op0 (opR_store_pt (i := 0) (c := .v _) (by kernel_rfl) rfl rfl rfl rfl (Nat.le_of_ble_eq_true rfl)) ?_
      show AI _ _ _ _ _ _ #[true, true, true, true, true, true, true, true, true, true, true, true] _
      refine AI.done rfl ?_
      obtain rfl := Option.some.inj H
      exact ⟨rfl, rfl, t48, Sub.at [0, 0, 0] rfl⟩
    ·
     refine AIO.op rfl (opR_buildE (E := Enc.byte) (bytes := 1) (xs := [.const _]) (l := ([32] : List UInt8)) Tryd.underlying24 (by kernel_rfl) rfl rfl (by decide) rfl rfl) ?_
     show AI _ _ _ _ _ _ #[false, true, false, true, false, false, false, true, true, false, false, false] _
     refine AI.two (i := 0) (j := 5) (by kernel_rfl) rfl rfl rfl rfl ?_ ?_
     ·
      refine AIO.op rfl (opR_load_pt (i := 1) Tryd.underlying24 rfl rfl rfl rfl) ?_
      show AI _ _ _ _ _ _ #[true, true, false, true, false, false, false, true, true, false, false, false] _
      refine AI.two (i := 2) (j := 5) (by kernel_rfl) rfl rfl rfl rfl ?_ ?_
      ·
       refine AIO.opx rfl (g_append (E := Enc.byte) (bytes := 1) 2 Tryd.underlying24 Tryd.underlying24 rfl (by kernel_rfl) rfl rfl rfl rfl g35 e37) ?_
       rintro _ _ ⟨t49, rfl, rfl⟩
       show AI _ _ _ _ _ _ #[true, true, true, true, false, false, false, true, true, false, false, false] _
       refine AI.two (i := 4) (j := 5) (by kernel_rfl) rfl rfl rfl rfl ?_ ?_
       ·
        refine AIO.opx rfl (g_append_str (bytes := 1) 2 Tryd.underlying24 Tryd.underlying9 rfl (by kernel_rfl) rfl rfl rfl rfl g39 e41) ?_
        rintro _ _ ⟨t50, rfl, rfl⟩
        show AI _ _ _ _ _ _ #[true, true, true, true, true, false, false, true, true, false, false, false] _
        refine AI.two (i := 5) (j := 10) (by kernel_rfl) rfl rfl rfl rfl ?_ ?_
        ·
         refine AIO.op rfl (opR_load_pt (i := 0) Tryd.underlying3 rfl rfl rfl rfl) ?_
         show AI _ _ _ _ _ _ #[true, true, true, true, true, true, false, true, true, false, false, false] _
         refine AI.take (i := 6) rfl rfl (by kernel_rfl) (by kernel_rfl) (by kernel_rfl) (fun _ _ h => h) (g_add rfl rfl g42) ?_
         show AI _ _ _ _ _ _ #[true, true, true, true, true, true, true, true, true, false, false, false] _
         refine AI.take (i := 9) rfl rfl (by kernel_rfl) (by kernel_rfl) (by kernel_rfl) (fun _ _ h => h) (g_add rfl rfl g43) ?_
         show AI _ _ _ _ _ _ #[true, true, true, true, true, true, true, true, true, true, false, false] _
         refine AI.one (i := 10) (by kernel_rfl) rfl rfl ?_
         refine AIO.op0 (opR_store_pt (i := 1) (c := slE _ _ _) (by kernel_rfl) rfl rfl rfl rfl (Nat.le_of_ble_eq_true rfl)) ?_
         show AI _ _ _ _ _ _ #[true, true, true, true, true, true, true, true, true, true, true, false] _
         refine AI.one (i := 11) (by kernel_rfl) rfl rfl ?_
         refine AIO.op0 (opR_store_pt (i := 0) (c := .v _) (by kernel_rfl) rfl rfl rfl rfl (Nat.le_of_ble_eq_true rfl)) ?_
         show AI _ _ _ _ _ _ #[true, true, true, true, true, true, true, true, true, true, true, true] _
         refine AI.done rfl ?_
         obtain rfl := Option.some.inj H
         exact ⟨rfl, rfl, t50, Sub.at [0, 0, 0] rfl⟩
        ·
         refine AIO.op0 (opR_store_pt (i := 1) (c := slE _ _ _) (by kernel_rfl) rfl rfl rfl rfl (Nat.le_of_ble_eq_true rfl)) ?_
         show AI _ _ _ _ _ _ #[true, true, true, true, true, false, false, true, true, false, true, false] _
         refine AI.one (i := 5) (by kernel_rfl) rfl rfl ?_
         refine AIO.op rfl (opR_load_pt (i := 0) Tryd.underlying3 rfl rfl rfl rfl) ?_
         show AI _ _ _ _ _ _ #[true, true, true, true, true, true, false, true, true, false, true, false] _
         refine AI.take (i := 6) rfl rfl (by kernel_rfl) (by kernel_rfl) (by kernel_rfl) (fun _ _ h => h) (g_add rfl rfl g42) ?_
         show AI _ _ _ _ _ _ #[true, true, true, true, true, true, true, true, true, false, true, false] _
         refine AI.take (i := 9) rfl rfl (by kernel_rfl) (by kernel_rfl) (by kernel_rfl) (fun _ _ h => h) (g_add rfl rfl g43) ?_
         show AI _ _ _ _ _ _ #[true, true, true, true, true, true, true, true, true, true, true, false] _
         refine AI.one (i := 11) (by kernel_rfl) rfl rfl ?_
         refine AIO.op0 (opR_store_pt (i := 0) (c := .v _) (by kernel_rfl) rfl rfl rfl rfl (Nat.le_of_ble_eq_true rfl)) ?_
         show AI _ _ _ _ _ _ #[true, true, true, true, true, true, true, true, true, true, true, true] _
         refine AI.done rfl ?_
         obtain rfl := Option.some.inj H
         exact ⟨rfl, rfl, t50, Sub.at [0, 0, 0] rfl⟩
       ·
        refine AIO.op rfl (opR_load_pt (i := 0) Tryd.underlying3 rfl rfl rfl rfl) ?_
        show AI _ _ _ _ _ _ #[true, true, true, true, false, true, false, true, true, false, false, false] _
        refine AI.take (i := 6) rfl rfl (by kernel_rfl) (by kernel_rfl) (by kernel_rfl) (fun _ _ h => h) (g_add rfl rfl g42) ?_
        show AI _ _ _ _ _ _ #[true, true, true, true, false, true, true, true, true, false, false, false] _
        refine AI.take (i := 9) rfl rfl (by kernel_rfl) (by kernel_rfl) (by kernel_rfl) (fun _ _ h => h) (g_add rfl rfl g43) ?_
        show AI _ _ _ _ _ _ #[true, true, true, true, false, true, true, true, true, true, false, false] _
        refine AI.one (i := 4) (by kernel_rfl) rfl rfl ?_
        refine AIO.opx rfl (g_append_str (bytes := 1) 2 Tryd.underlying24 Tryd.underlying9 rfl (by kernel_rfl) rfl rfl rfl rfl g39 e41) ?_
        rintro _ _ ⟨t51, rfl, rfl⟩
        show AI _ _ _ _ _ _ #[true, true, true, true, true, true, true, true, true, true, false, false] _
        refine AI.one (i := 10) (by kernel_rfl) rfl rfl ?_
        refine AIO.op0 (opR_store_pt (i := 1) (c := slE _ _ _) (by kernel_rfl) rfl rfl rfl rfl (Nat.le_of_ble_eq_true rfl)) ?_
        show AI _ _ _ _ _ _ #[true, true, true, true, true, true, true, true, true, true, true, false] _
        refine AI.one (i := 11) (by kernel_rfl) rfl rfl ?_
        refine AIO.op0 (opR_store_pt (i := 0) (c := .v _) (by kernel_rfl) rfl rfl rfl rfl (Nat.le_of_ble_eq_true rfl)) ?_
        show AI _ _ _ _ _ _ #[true, true, true, true, true, true, true, true, true, true, true, true] _
        refine AI.done rfl ?_
        obtain rfl := Option.some.inj H
        exact ⟨rfl, rfl, t51, Sub.at [0, 0, 0] rfl⟩
      ·
       refine AIO.op rfl (opR_load_pt (i := 0) Tryd.underlying3 rfl rfl rfl rfl) ?_
       show AI _ _ _ _ _ _ #[true, true, false, true, false, true, false, true, true, false, false, false] _
       refine AI.take (i := 6) rfl rfl (by kernel_rfl) (by kernel_rfl) (by kernel_rfl) (fun _ _ h => h) (g_add rfl rfl g42) ?_
       show AI _ _ _ _ _ _ #[true, true, false, true, false, true, true, true, true, false, false, false] _
       refine AI.take (i := 9) rfl rfl (by kernel_rfl) (by kernel_rfl) (by kernel_rfl) (fun _ _ h => h) (g_add rfl rfl g43) ?_
       show AI _ _ _ _ _ _ #[true, true, false, true, false, true, true, true, true, true, false, false] _
       refine AI.one (i := 2) (by kernel_rfl) rfl rfl ?_
       refine AIO.opx rfl (g_append (E := Enc.byte) (bytes := 1) 2 Tryd.underlying24 Tryd.underlying24 rfl (by kernel_rfl) rfl rfl rfl rfl g35 e37) ?_
       rintro _ _ ⟨t52, rfl, rfl⟩
       show AI _ _ _ _ _ _ #[true, true, true, true, false, true, true, true, true, true, false, false] _
       refine AI.one (i := 4) (by kernel_rfl) rfl rfl ?_
       refine AIO.opx rfl (g_append_str (bytes := 1) 2 Tryd.underlying24 Tryd.underlying9 rfl (by kernel_rfl) rfl rfl rfl rfl g39 e41) ?_
       rintro _ _ ⟨t53, rfl, rfl⟩
       show AI _ _ _ _ _ _ #[true, true, true, true, true, true, true, true, true, true, false, false] _
       refine AI.one (i := 10) (by kernel_rfl) rfl rfl ?_
       refine AIO.op0 (opR_store_pt (i := 1) (c := slE _ _ _) (by kernel_rfl) rfl rfl rfl rfl (Nat.le_of_ble_eq_true rfl)) ?_
       show AI _ _ _ _ _ _ #[true, true, true, true, true, true, true, true, true, true, true, false] _
       refine AI.one (i := 11) (by kernel_rfl) rfl rfl ?_
       refine AIO.op0 (opR_store_pt (i := 0) (c := .v _) (by kernel_rfl) rfl rfl rfl rfl (Nat.le_of_ble_eq_true rfl)) ?_
       show AI _ _ _ _ _ _ #[true, true, true, true, true, true, true, true, true, true, true, true] _
       refine AI.done rfl ?_
       obtain rfl := Option.some.inj H
       exact ⟨rfl, rfl, t53, Sub.at [0, 0, 0] rfl⟩
     ·
      refine AIO.op rfl (opR_load_pt (i := 0) Tryd.underlying3 rfl rfl rfl rfl) ?_
      show AI _ _ _ _ _ _ #[false, true, false, true, false, true, false, true, true, false, false, false] _
      refine AI.take (i := 6) rfl rfl (by kernel_rfl) (by kernel_rfl) (by kernel_rfl) (fun _ _ h => h) (g_add rfl rfl g42) ?_
      show AI _ _ _ _ _ _ #[false, true, false, true, false, true, true, true, true, false, false, false] _
      refine AI.take (i := 9) rfl rfl (by kernel_rfl) (by kernel_rfl) (by kernel_rfl) (fun _ _ h => h) (g_add rfl rfl g43) ?_
      show AI _ _ _ _ _ _ #[false, true, false, true, false, true, true, true, true, true, false, false] _
      refine AI.one (i := 0) (by kernel_rfl) rfl rfl ?_
      refine AIO.op rfl (opR_load_pt (i := 1) Tryd.underlying24 rfl rfl rfl rfl) ?_
      show AI _ _ _ _ _ _ #[true, true, false, true, false, true, true, true, true, true, false, false] _
      refine AI.one (i := 2) (by kernel_rfl) rfl rfl ?_
      refine AIO.opx rfl (g_append (E := Enc.byte) (bytes := 1) 2 Tryd.underlying24 Tryd.underlying24 rfl (by kernel_rfl) rfl rfl rfl rfl g35 e37) ?_
      rintro _ _ ⟨t54, rfl, rfl⟩
      show AI _ _ _ _ _ _ #[true, true, true, true, false, true, true, true, true, true, false, false] _
      refine AI.one (i := 4) (by kernel_rfl) rfl rfl ?_
      refine AIO.opx rfl (g_append_str (bytes := 1) 2 Tryd.underlying24 Tryd.underlying9 rfl (by kernel_rfl) rfl rfl rfl rfl g39 e41) ?_
      rintro _ _ ⟨t55, rfl, rfl⟩
      show AI _ _ _ _ _ _ #[true, true, true, true, true, true, true, true, true, true, false, false] _
      refine AI.one (i := 10) (by kernel_rfl) rfl rfl ?_
      refine AIO.op0 (opR_store_pt (i := 1) (c := slE _ _ _) (by kernel_rfl) rfl rfl rfl rfl (Nat.le_of_ble_eq_true rfl)) ?_
      show AI _ _ _ _ _ _ #[true, true, true, true, true, true, true, true, true, true, true, false] _
      refine AI.one (i := 11) (by kernel_rfl) rfl rfl ?_
      refine AIO.op0 (opR_store_pt (i := 0) (c := .v _) (by kernel_rfl) rfl rfl rfl rfl (Nat.le_of_ble_eq_true rfl)) ?_
      show AI _ _ _ _ _ _ #[true, true, true, true, true, true, true, true, true, true, true, true] _
      refine AI.done rfl ?_
      obtain rfl := Option.some.inj H
      exact ⟨rfl, rfl, t55, Sub.at [0, 0, 0] rfl⟩
    ·
     refine AIO.op rfl (opR_load_pt (i := 0) Tryd.underlying3 rfl rfl rfl rfl) ?_
     show AI _ _ _ _ _ _ #[false, false, false, true, false, true, false, true, true, false, false, false] _
     refine AI.take (i := 6) rfl rfl (by kernel_rfl) (by kernel_rfl) (by kernel_rfl) (fun _ _ h => h) (g_add rfl rfl g42) ?_
     show AI _ _ _ _ _ _ #[false, false, false, true, false, true, true, true, true, false, false, false] _
     refine AI.take (i := 9) rfl rfl (by kernel_rfl) (by kernel_rfl) (by kernel_rfl) (fun _ _ h => h) (g_add rfl rfl g43) ?_
     show AI _ _ _ _ _ _ #[false, false, false, true, false, true, true, true, true, true, false, false] _
     refine AI.two (i := 0) (j := 1) (by kernel_rfl) rfl rfl rfl rfl ?_ ?_
     ·
      refine AIO.op rfl (opR_load_pt (i := 1) Tryd.underlying24 rfl rfl rfl rfl) ?_
      show AI _ _ _ _ _ _ #[true, false, false, true, false, true, true, true, true, true, false, false] _
      refine AI.one (i := 1) (by kernel_rfl) rfl rfl ?_
      refine AIO.op rfl (opR_buildE (E := Enc.byte) (bytes := 1) (xs := [.const _]) (l := ([32] : List UInt8)) Tryd.underlying24 (by kernel_rfl) rfl rfl (by decide) rfl rfl) ?_
      show AI _ _ _ _ _ _ #[true, true, false, true, false, true, true, true, true, true, false, false] _
      refine AI.one (i := 2) (by kernel_rfl) rfl rfl ?_
      refine AIO.opx rfl (g_append (E := Enc.byte) (bytes := 1) 2 Tryd.underlying24 Tryd.underlying24 rfl (by kernel_rfl) rfl rfl rfl rfl g35 e37) ?_
      rintro _ _ ⟨t56, rfl, rfl⟩
      show AI _ _ _ _ _ _ #[true, true, true, true, false, true, true, true, true, true, false, false] _
      refine AI.one (i := 4) (by kernel_rfl) rfl rfl ?_
      refine AIO.opx rfl (g_append_str (bytes := 1) 2 Tryd.underlying24 Tryd.underlying9 rfl (by kernel_rfl) rfl rfl rfl rfl g39 e41) ?_
      rintro _ _ ⟨t57, rfl, rfl⟩
      show AI _ _ _ _ _ _ #[true, true, true, true, true, true, true, true, true, true, false, false] _
      refine AI.one (i := 10) (by kernel_rfl) rfl rfl ?_
      refine AIO.op0 (opR_store_pt (i := 1) (c := slE _ _ _) (by kernel_rfl) rfl rfl rfl rfl (Nat.le_of_ble_eq_true rfl)) ?_
      show AI _ _ _ _ _ _ #[true, true, true, true, true, true, true, true, true, true, true, false] _
      refine AI.one (i := 11) (by kernel_rfl) rfl rfl ?_
      refine AIO.op0 (opR_store_pt (i := 0) (c := .v _) (by kernel_rfl) rfl rfl rfl rfl (Nat.le_of_ble_eq_true rfl)) ?_
      show AI _ _ _ _ _ _ #[true, true, true, true, true, true, true, true, true, true, true, true] _
      refine AI.done rfl ?_
      obtain rfl := Option.some.inj H
      exact ⟨rfl, rfl, t57, Sub.at [0, 0, 0] rfl⟩
     ·
      refine AIO.op rfl (opR_buildE (E := Enc.byte) (bytes := 1) (xs := [.const _]) (l := ([32] : List UInt8)) Tryd.underlying24 (by kernel_rfl) rfl rfl (by decide) rfl rfl) ?_
      show AI _ _ _ _ _ _ #[false, true, false, true, false, true, true, true, true, true, false, false] _
      refine AI.one (i := 0) (by kernel_rfl) rfl rfl ?_
      refine AIO.op rfl (opR_load_pt (i := 1) Tryd.underlying24 rfl rfl rfl rfl) ?_
      show AI _ _ _ _ _ _ #[true, true, false, true, false, true, true, true, true, true, false, false] _
      refine AI.one (i := 2) (by kernel_rfl) rfl rfl ?_
      refine AIO.opx rfl (g_append (E := Enc.byte) (bytes := 1) 2 Tryd.underlying24 Tryd.underlying24 rfl (by kernel_rfl) rfl rfl rfl rfl g35 e37) ?_
      rintro _ _ ⟨t58, rfl, rfl⟩
      show AI _ _ _ _ _ _ #[true, true, true, true, false, true, true, true, true, true, false, false] _
      refine AI.one (i := 4) (by kernel_rfl) rfl rfl ?_
      refine AIO.opx rfl (g_append_str (bytes := 1) 2 Tryd.underlying24 Tryd.underlying9 rfl (by kernel_rfl) rfl rfl rfl rfl g39 e41) ?_
      rintro _ _ ⟨t59, rfl, rfl⟩
      show AI _ _ _ _ _ _ #[true, true, true, true, true, true, true, true, true, true, false, false] _
      refine AI.one (i := 10) (by kernel_rfl) rfl rfl ?_
      refine AIO.op0 (opR_store_pt (i := 1) (c := slE _ _ _) (by kernel_rfl) rfl rfl rfl rfl (Nat.le_of_ble_eq_true rfl)) ?_
      show AI _ _ _ _ _ _ #[true, true, true, true, true, true, true, true, true, true, true, false] _
      refine AI.one (i := 11) (by kernel_rfl) rfl rfl ?_
      refine AIO.op0 (opR_store_pt (i := 0) (c := .v _) (by kernel_rfl) rfl rfl rfl rfl (Nat.le_of_ble_eq_true rfl)) ?_
      show AI _ _ _ _ _ _ #[true, true, true, true, true, true, true, true, true, true, true, true] _
      refine AI.done rfl ?_
      obtain rfl := Option.some.inj H
      exact ⟨rfl, rfl, t59, Sub.at [0, 0, 0] rfl⟩
   rintro o64 t63
   exact Exists.intro (o64, x60.2, t63) ⟨H, WK.at [3, 3, 0] (.cons (.refl _) (.nil _)) rfl⟩
  rintro ⟨t65, y66, t67⟩ H
  replace H : head_Line_j1 y66 = some (r3, r4) := H
  unfold head_Line_j1 at H
  show AW _ _ _ _ _ _
  refine AW.seq ?_
  obtain ⟨g70, H⟩ := grd_s H
  obtain ⟨x71, e72, H⟩ := lt_s H
  refine AW.region ?_
  show AR _ _ _ _ _ [0, 1, 2, 3] _
  refine sR rfl rfl rfl (opR_load_pt (i := 0) Tryd.underlying24 rfl rfl rfl rfl) ?_
  refine sX rfl rfl rfl (g_append_str (bytes := 1) 1 Tryd.underlying24 Tryd.underlying9 rfl (by kernel_rfl) rfl rfl rfl rfl g70 e72) ?_
  rintro _ _ ⟨t69, rfl, rfl⟩
  refine sS rfl rfl rfl (opS_assign (av := slE _ _ _) rfl) ?_
  refine sS rfl rfl rfl (asg rfl) ?_
  refine AR.nil ?_
  show AW _ _ _ _ _ _
  refine AW.ret ?_
  obtain ⟨rfl, rfl⟩ := res2 H
  exact Exists.intro _ (And.intro (Unmark.at 2 rfl (.nil _)) (Exists.intro _ (Exists.intro _ ⟨ResV.twoW rfl (.tok _ _ _) (.refl _), Sub.at [] rfl, rfl, rfl⟩)))
end Go.Proofs.YtiahdbdkjjmfiaaDoor
namespace Go.Pv
def spB (x : Nat) : Bool := (decide ((x : Int) = 32) || decide ((x : Int) = 13)) || decide ((x : Int) = 10)
def head_spC (F : Nat) (a1 : Int) : Option Bool :=
some (((decide (a1 = 32)) || (decide (a1 = 13))) || (decide (a1 = 10)))
def head_coded (F : Nat) (a1 : List UInt8) : Option ((List UInt8) × Bool) :=
lt (Go.Lib.trimPrefix a1 ([61, 63, 117, 116, 102, 45, 56, 63, 66, 63] : List UInt8), Go.Lib.hasPrefix a1 ([61, 63, 117, 116, 102, 45, 56, 63, 66, 63] : List UInt8)) fun x4 =>
bif !x4.2 then
  some (([] : List UInt8), false)
else
  grd (okS x4.1.length) <|
  lt (Go.Lib.trimSuffix x4.1 ([63, 61] : List UInt8), Go.Lib.hasSuffix x4.1 ([63, 61] : List UInt8)) fun x8 =>
  bnd2 (b64_Bytes F x8.1) fun x10 x11 =>
  some (x10, x8.2 && (decide (x11 = 0)))
def head_value_j1 (y29 : List UInt8) : Option ((List UInt8)) :=
grd (okW y29 []) <|
some y29
def head_value_B1 (F : Nat) (a1 : List (List UInt8)) (rec10 : (Int × (List UInt8)) → Option ((List UInt8))) (y6 : Int) (y8 : List UInt8) : Option ((List UInt8)) :=
bif decide (y6 < (a1.length : Int)) then
  grd (okAt y6 a1.length) <|
  lt (at_ a1 y6) fun x14 =>
  bnd2 (head_coded F x14) fun x16 x17 =>
  bif !x17 then
    grd (okJoin a1 ([32] : List UInt8)) <|
    lt (Go.Av.Str.join ([32] : List UInt8) a1) fun x21 =>
    some x21
  else
    grd (okW y8 x16) <|
    lt (y8 ++ x16) fun x24 =>
    grd (okI (y6 + 1)) <|
    rec10 (y6 + 1, x24)
else
  head_value_j1 y8
def head_value_L1 (F : Nat) (a1 : List (List UInt8)) (n : Nat) : (Int × (List UInt8)) → Option ((List UInt8)) :=
  loop (fun rec x => head_value_B1 F a1 rec x.1 x.2) n
def head_value (F : Nat) (a1 : List (List UInt8)) : Option ((List UInt8)) :=
head_value_L1 F a1 F (0, [])
def head_Read (F : Nat) (a1 : List UInt8) : Option ((List UInt8) × (List UInt8) × Int) :=
grd (okS a1.length) <|
lt (Go.Lib.cut a1 ([58] : List UInt8)) fun x8 =>
grd (okS x8.2.1.length) <|
lt (fieldsP spB x8.2.1) fun x11 =>
bnd (head_value F x11) fun x13 =>
bnd2 (head_Line F x8.1 x13) fun x16 x17 =>
lt (decide (x16 = a1)) fun x21 =>
bif ((!x8.2.2) || (!decide (x17 = 0))) || (!x21) then
  some (([] : List UInt8), ([] : List UInt8), 2)
else
  some (x8.1, x13, 0)
end Go.Pv
namespace Go.Proofs.YtiahdbdkjjmfiaaDoor
open Go.RowKit Go.Av Go.Pv
theorem en11_headb : ∀ (args : Array Value) (w : World), (callFunc 11 args).run Tryd.prog w = .ok (.enter 11 args) w := fun _ _ => by kernel_rfl
theorem en28_headb : ∀ (args : Array Value) (w : World), (callFunc 28 args).run Tryd.prog w = .ok (.enter 28 args) w := fun _ _ => by kernel_rfl
theorem en29_headb : ∀ (args : Array Value) (w : World), (callFunc 29 args).run Tryd.prog w = .ok (.enter 29 args) w := fun _ _ => by kernel_rfl
theorem en30_headb : ∀ (args : Array Value) (w : World), (callFunc 30 args).run Tryd.prog w = .ok (.enter 30 args) w := fun _ _ => by kernel_rfl
theorem en31_headb : ∀ (args : Array Value) (w : World), (callFunc 31 args).run Tryd.prog w = .ok (.enter 31 args) w := fun _ _ => by kernel_rfl
theorem en32_headb : ∀ (args : Array Value) (w : World), (callFunc 32 args).run Tryd.prog w = .ok (.enter 32 args) w := fun _ _ => by kernel_rfl
theorem en56_headb : ∀ (args : Array Value) (w : World), (callFunc 56 args).run Tryd.prog w = .ok (.enter 56 args) w := fun _ _ => by kernel_rfl
theorem en57_headb : ∀ (args : Array Value) (w : World), (callFunc 57 args).run Tryd.prog w = .ok (.enter 57 args) w := fun _ _ => by kernel_rfl
theorem en58_headb : ∀ (args : Array Value) (w : World), (callFunc 58 args).run Tryd.prog w = .ok (.enter 58 args) w := fun _ _ => by kernel_rfl
theorem en59_headb : ∀ (args : Array Value) (w : World), (callFunc 59 args).run Tryd.prog w = .ok (.enter 59 args) w := fun _ _ => by kernel_rfl
theorem en78_headb : ∀ (args : Array Value) (w : World), (callFunc 78 args).run Tryd.prog w = .ok (.enter 78 args) w := fun _ _ => by kernel_rfl
theorem en79_headb : ∀ (args : Array Value) (w : World), (callFunc 79 args).run Tryd.prog w = .ok (.enter 79 args) w := fun _ _ => by kernel_rfl
theorem en80_headb : ∀ (args : Array Value) (w : World), (callFunc 80 args).run Tryd.prog w = .ok (.enter 80 args) w := fun _ _ => by kernel_rfl
set_option maxRecDepth 100000 in
set_option maxHeartbeats 1000000 in
theorem w_head_spC (F : Nat) (a1 : Int) (r2 : Bool) (H : head_spC F a1 = some r2) : ACalls Tryd.prog 30 [.v (.int .i32 a1)] [] (Ret (B r2) []) := by
 unfold head_spC at H
 refine ACalls.of_body Tryd.func30 rfl rfl ?_
 show AW _ _ 13 _ _ _
 refine AW.seq ?_
 refine AW.region ?_
 show AR _ _ _ _ _ [0] _
 refine sS rfl rfl rfl (asg rfl) ?_
 refine AR.nil ?_
 show AW _ _ _ _ _ _
 refine AW.seq ?_
 refine AW.region ?_
 show AR _ _ _ _ _ [0, 1, 2, 3, 4, 5, 6, 7, 8, 9, 10] _
 refine sS rfl rfl rfl (mv rfl) ?_
 refine sS rfl rfl rfl (opS_eqi rfl rfl) ?_
 refine sS rfl rfl rfl (mv rfl) ?_
 refine AR.meet (l := [6, 7, 8, 9, 10]) 8 (B ((decide (a1 = 32)) || (decide (a1 = 13)))) (fun K => ?_) ?_
 ·rcases Bool.eq_false_or_eq_true (decide (a1 = 32)) with h3 | h3
  ·
   refine gF h3 rfl rfl rfl rfl rfl ?_
   refine gF h3 rfl rfl rfl rfl rfl ?_
   refine sS rfl rfl rfl (opS_pick_t (av := .v _) rfl h3 rfl) ?_
   exact K _ 2 _ (B_congr (or_t h3)) rfl rfl
  ·
   refine gT h3 rfl rfl rfl rfl rfl rfl (AO.ops rfl rfl (mv rfl) ?_)
   refine gT h3 rfl rfl rfl rfl rfl rfl (AO.ops rfl rfl (opS_eqi rfl rfl) ?_)
   refine sS rfl rfl rfl (opS_pick_f (av := .v _) rfl h3 rfl) ?_
   exact K _ 2 _ (B_congr (or_f h3)) rfl rfl
 refine sS rfl rfl rfl (mv rfl) ?_
 refine AR.meet (l := [10]) 12 (B (((decide (a1 = 32)) || (decide (a1 = 13))) || (decide (a1 = 10)))) (fun K => ?_) ?_
 ·rcases Bool.eq_false_or_eq_true ((decide (a1 = 32)) || (decide (a1 = 13))) with h4 | h4
  ·
   refine gF h4 rfl rfl rfl rfl rfl ?_
   refine gF h4 rfl rfl rfl rfl rfl ?_
   refine sS rfl rfl rfl (opS_pick_t (av := .v _) rfl h4 rfl) ?_
   exact K _ 2 _ (B_congr (or_t h4)) rfl rfl
  ·
   refine gT h4 rfl rfl rfl rfl rfl rfl (AO.ops rfl rfl (mv rfl) ?_)
   refine gT h4 rfl rfl rfl rfl rfl rfl (AO.ops rfl rfl (opS_eqi rfl rfl) ?_)
   refine sS rfl rfl rfl (opS_pick_f (av := .v _) rfl h4 rfl) ?_
   exact K _ 2 _ (B_congr (or_f h4)) rfl rfl
 refine sS rfl rfl rfl (asg rfl) ?_
 refine AR.nil ?_
 show AW _ _ _ _ _ _
 refine AW.ret ?_
 obtain rfl := Option.some.inj H
 exact And.intro rfl (Exists.intro _ (Exists.intro _ ⟨ResV.oneW rfl (.refl _), Sub.at [] rfl, rfl, rfl⟩))
theorem head_sp (x : Nat) (hx : x ≤ 1114111) : ACalls Tryd.prog 30 [.v (.int .i32 (x : Int))] [] (Ret (.v (.bool (spB x))) []) := w_head_spC 0 (x : Int) (spB x) rfl
set_option maxRecDepth 100000 in
set_option maxHeartbeats 1000000 in
theorem w_head_coded (F : Nat) (a1 : List UInt8) (r2 : List UInt8) (r3 : Bool) (H : head_coded F a1 = some (r2, r3)) : ACalls Tryd.prog 56 [S a1] [] (Ret (.tup [S r2, B r3]) []) := by
 unfold head_coded at H
 refine ACalls.of_body Tryd.func56 rfl rfl ?_
 show AW _ _ 32 _ _ _
 refine AW.seq ?_
 refine AW.region ?_
 show AR _ _ _ _ _ [0, 1] _
 refine sS rfl rfl rfl (asg rfl) ?_
 refine sS rfl rfl rfl (asg rfl) ?_
 refine AR.nil ?_
 show AW _ _ _ _ _ _
 refine AW.seq ?_
 obtain ⟨x4, e5, H⟩ := lt_s H
 refine AW.region ?_
 show AR _ _ _ _ _ [0, 1, 2, 3, 4, 5, 6] _
 refine sS rfl rfl rfl (mv rfl) ?_
 refine AR.run rfl rfl (AO.callp rfl en78_headb rfl (show ACalls _ _ _ [] (Ret (.tup [S x4.1, B x4.2]) []) from by subst e5; exact lib_CutPrefix a1 ([61, 63, 117, 116, 102, 45, 56, 63, 66, 63] : List UInt8)) ?_)
 refine sS rfl rfl rfl (opS_move (av := .tup _) rfl) ?_
 refine sS rfl rfl rfl (opS_extract (av := .v _) rfl rfl) ?_
 refine sS rfl rfl rfl (opS_extract (av := .v _) rfl rfl) ?_
 refine sS rfl rfl rfl (asg rfl) ?_
 refine sS rfl rfl rfl (asg rfl) ?_
 refine AR.nil ?_
 show AW _ _ _ _ _ _
 refine AW.seq ?_
 refine AW.seq ?_
 refine AW.region ?_
 show AR _ _ _ _ _ [0, 1] _
 refine sS rfl rfl rfl (mv rfl) ?_
 refine sS rfl rfl rfl (opS_not rfl) ?_
 refine AR.nil ?_
 show AW _ _ _ _ _ _
 refine AW.cond rfl (fun c6 => ?_) (fun c6 => ?_)
 ·replace H := cnd_t c6 H
  refine AW.seq ?_
  refine AW.region ?_
  show AR _ _ _ _ _ [0, 1] _
  refine sS rfl rfl rfl (asg rfl) ?_
  refine sS rfl rfl rfl (asg rfl) ?_
  refine AR.nil ?_
  show AW _ _ _ _ _ _
  refine AW.ret ?_
  obtain ⟨rfl, rfl⟩ := res2 H
  exact And.intro rfl (Exists.intro _ (Exists.intro _ ⟨ResV.twoW rfl (.refl _) (.refl _), Sub.at [] rfl, rfl, rfl⟩))
 ·replace H := cnd_f c6 H
  refine AW.skip ?_
  show AW _ _ _ _ _ _
  refine AW.seq ?_
  obtain ⟨g7, H⟩ := grd_s H
  obtain ⟨x8, e9, H⟩ := lt_s H
  refine AW.region ?_
  show AR _ _ _ _ _ [0, 1, 2, 3, 4, 5, 6] _
  refine sS rfl rfl rfl (mv rfl) ?_
  refine AR.run rfl rfl (AO.callp rfl en79_headb rfl (show ACalls _ _ _ [] (Ret (.tup [S x8.1, B x8.2]) []) from by subst e9; exact lib_CutSuffix x4.1 ([63, 61] : List UInt8) (okS_s g7)) ?_)
  refine sS rfl rfl rfl (opS_move (av := .tup _) rfl) ?_
  refine sS rfl rfl rfl (opS_extract (av := .v _) rfl rfl) ?_
  refine sS rfl rfl rfl (opS_extract (av := .v _) rfl rfl) ?_
  refine sS rfl rfl rfl (asg rfl) ?_
  refine sS rfl rfl rfl (asg rfl) ?_
  refine AR.nil ?_
  show AW _ _ _ _ _ _
  refine AW.seq ?_
  obtain ⟨x10, x11, e12, H⟩ := bnd2_s H
  refine AW.region ?_
  show AR _ _ _ _ _ [0, 1, 2, 3, 4, 5, 6] _
  refine sS rfl rfl rfl (mv rfl) ?_
  refine AR.run rfl rfl (AO.callp rfl en80_headb rfl (w_b64_Bytes F x8.1 x10 x11 e12) ?_)
  refine sS rfl rfl rfl (opS_move (av := .tup _) rfl) ?_
  refine sS rfl rfl rfl (opS_extract (av := slE _ _ _) rfl rfl) ?_
  refine sS rfl rfl rfl (opS_extract (av := .v _) rfl rfl) ?_
  refine sS rfl rfl rfl (opS_assign (av := slE _ _ _) rfl) ?_
  refine sS rfl rfl rfl (asg rfl) ?_
  refine AR.nil ?_
  show AW _ _ _ _ _ _
  refine AW.seq ?_
  refine AW.region ?_
  show AR _ _ _ _ _ [0, 1, 2, 3, 4, 5, 6, 7, 8] _
  refine sS rfl rfl rfl (opS_move (av := slE _ _ _) rfl) ?_
  refine sS rfl rfl rfl (opS_conv_bytes_str Tryd.underlying24 Tryd.underlying5 Tryd.underlying9 rfl) ?_
  refine sS rfl rfl rfl (mv rfl) ?_
  refine sS rfl rfl rfl (mv rfl) ?_
  refine AR.meet (l := [7, 8]) 31 (B (x8.2 && (decide (x11 = 0)))) (fun K => ?_) ?_
  ·rcases Bool.eq_false_or_eq_true x8.2 with h13 | h13
   ·
    refine gT h13 rfl rfl rfl rfl rfl rfl (AO.ops rfl rfl (mv rfl) ?_)
    refine gT h13 rfl rfl rfl rfl rfl rfl (AO.ops rfl rfl (opS_eqi rfl rfl) ?_)
    refine sS rfl rfl rfl (opS_pick_t (av := .v _) rfl h13 rfl) ?_
    exact K _ 2 _ (B_congr (and_t h13)) rfl rfl
   ·
    refine gF h13 rfl rfl rfl rfl rfl ?_
    refine gF h13 rfl rfl rfl rfl rfl ?_
    refine sS rfl rfl rfl (opS_pick_f (av := .v _) rfl h13 rfl) ?_
    exact K _ 2 _ (B_congr (and_f h13)) rfl rfl
  refine sS rfl rfl rfl (asg rfl) ?_
  refine sS rfl rfl rfl (asg rfl) ?_
  refine AR.nil ?_
  show AW _ _ _ _ _ _
  refine AW.ret ?_
  obtain ⟨rfl, rfl⟩ := res2 H
  exact And.intro rfl (Exists.intro _ (Exists.intro _ ⟨ResV.twoW rfl (.refl _) (.refl _), Sub.at [] rfl, rfl, rfl⟩))
set_option maxRecDepth 100000 in
set_option maxHeartbeats 1000000 in
theorem w_head_value (F : Nat) (a1 : List (List UInt8)) (q2 : Option Nat) (r3 : List UInt8) (H : head_value F a1 = some r3) : ACalls Tryd.prog 31 [slE Enc.str a1 q2] [] (Ret (S r3) []) := by
 unfold head_value at H
 refine ACalls.of_body Tryd.func31 rfl rfl ?_
 show AW _ _ 27 _ _ _
 refine AW.seq ?_
 refine AW.region ?_
 show AR _ _ _ _ _ [0] _
 refine sS rfl rfl rfl (asg rfl) ?_
 refine AR.nil ?_
 show AW _ _ _ _ _ _
 refine AW.seq ?_
 refine AW.region ?_
 show AR _ _ _ _ _ [0] _
 refine sX rfl rfl rfl (opX_allocT (zs := [(.pointer none), .slice none 0 0]) (by kernel_rfl)) ?_
 rintro _ _ ⟨o4, rfl, rfl⟩
 refine AR.nil ?_
 show AW _ _ _ _ _ _
 refine AW.nil_objAt 0 1 1 5 rfl rfl fun t5 => ?_
 show AW _ _ _ _ _ ⟨_, _, [.tok t5 5, .obj o4 [.v (.pointer none), slE Enc.byte [] (some t5)], .ty o4 81]⟩
 refine AW.cut (X := AV × (List UInt8) × Nat) (fun (t28, y29, t30) => ⟨[(3, .pt o4 0)], [], [.obj o4 [t28, slE Enc.byte y29 (some t30)], .ty o4 81, .tok t30 5]⟩) (fun (t28, y29, t30) => head_value_j1 y29 = some r3 ∧ (t28 = .v (.pointer none) ∨ t28 = .pt o4 0)) ?_ ?_
 ·
  refine AW.seq ?_
  refine AW.region ?_
  show AR _ _ _ _ _ [0, 1, 2] _
  refine sS rfl rfl rfl (opS_move (av := slE _ _ _) rfl) ?_
  refine sS rfl rfl rfl (opS_len_sl Tryd.underlying36 rfl) ?_
  refine sS rfl rfl rfl (mv rfl) ?_
  refine AR.nil ?_
  show AW _ _ _ _ _ _
  refine AW.block ?_
  refine AW.loop (X := Nat × Int × AV × (List UInt8) × Nat) (fun (n11, y6, t7, y8, t9) => ⟨[(0, slE Enc.str a1 q2), (3, .pt o4 0), (8, slE Enc.str a1 q2), (9, i64 (a1.length : Int)), (10, i64 y6)], [], [.obj o4 [t7, slE Enc.byte y8 (some t9)], .ty o4 81, .tok t9 5]⟩) (fun (n11, y6, t7, y8, t9) => head_value_L1 F a1 n11 (y6, y8) = some r3 ∧ (t7 = .v (.pointer none) ∨ t7 = .pt o4 0)) (fun (n11, y6, t7, y8, t9) => n11) (F, 0, (.v (.pointer none)), [], t5) ⟨H, .inl rfl⟩ (WK.at [1, 1, 0] (.cons (.refl _) (.cons (.refl _) (.cons (.refl _) (.cons (.refl _) (.cons (.refl _) (.nil _)))))) rfl) ?_
  rintro ⟨n11, y6, t7, y8, t9⟩ ⟨H, ht7⟩
  obtain ⟨n11, rfl, H⟩ := loop_s H
  replace H : head_value_B1 F a1 (head_value_L1 F a1 n11) y6 y8 = some r3 := H
  unfold head_value_B1 at H
  show AW _ _ _ _ _ _
  refine AW.seq ?_
  refine AW.region ?_
  show AR _ _ _ _ _ [0] _
  refine sS rfl rfl rfl (opS_lt rfl rfl) ?_
  refine AR.nil ?_
  show AW _ _ _ _ _ _
  refine AW.seq ?_
  refine AW.cond rfl (fun c12 => ?_) (fun c12 => ?_)
  ·replace H := cnd_t c12 H
   refine AW.skip ?_
   show AW _ _ _ _ _ _
   refine AW.seq ?_
   refine AW.block ?_
   refine AW.seq ?_
   obtain ⟨g13, H⟩ := grd_s H
   obtain ⟨x14, e15, H⟩ := lt_s H
   refine AW.region ?_
   show AR _ _ _ _ _ [0, 1, 2] _
   refine sS rfl rfl rfl (g_indexAddr (E := Enc.str) Tryd.underlying36 (by kernel_rfl) rfl rfl g13 e15) ?_
   refine sS rfl rfl rfl (opS_load_cp Tryd.underlying9 rfl rfl) ?_
   refine sS rfl rfl rfl (asg rfl) ?_
   refine AR.nil ?_
   show AW _ _ _ _ _ _
   refine AW.seq ?_
   obtain ⟨x16, x17, e18, H⟩ := bnd2_s H
   refine AW.region ?_
   show AR _ _ _ _ _ [0, 1, 2, 3, 4, 5, 6] _
   refine sS rfl rfl rfl (mv rfl) ?_
   refine AR.run rfl rfl (AO.callp rfl en56_headb rfl (w_head_coded F x14 x16 x17 e18) ?_)
   refine sS rfl rfl rfl (opS_move (av := .tup _) rfl) ?_
   refine sS rfl rfl rfl (opS_extract (av := .v _) rfl rfl) ?_
   refine sS rfl rfl rfl (opS_extract (av := .v _) rfl rfl) ?_
   refine sS rfl rfl rfl (asg rfl) ?_
   refine sS rfl rfl rfl (asg rfl) ?_
   refine AR.nil ?_
   show AW _ _ _ _ _ _
   refine AW.seq ?_
   refine AW.seq ?_
   refine AW.region ?_
   show AR _ _ _ _ _ [0, 1] _
   refine sS rfl rfl rfl (mv rfl) ?_
   refine sS rfl rfl rfl (opS_not rfl) ?_
   refine AR.nil ?_
   show AW _ _ _ _ _ _
   refine AW.cond rfl (fun c19 => ?_) (fun c19 => ?_)
   ·replace H := cnd_t c19 H
    refine AW.seq ?_
    obtain ⟨g20, H⟩ := grd_s H
    obtain ⟨x21, e22, H⟩ := lt_s H
    refine AW.region ?_
    show AR _ _ _ _ _ [0, 1, 2] _
    refine sS rfl rfl rfl (opS_move (av := slE _ _ _) rfl) ?_
    refine AR.run rfl rfl (AO.callp rfl en57_headb rfl (show ACalls _ _ _ [] (Ret (S x21) []) from by subst e22; exact strings_Join a1 ([32] : List UInt8) q2 (okJoin_s g20).1 (okJoin_s g20).2) ?_)
    refine sS rfl rfl rfl (asg rfl) ?_
    refine AR.nil ?_
    show AW _ _ _ _ _ _
    refine AW.ret ?_
    obtain rfl := Option.some.inj H
    exact And.intro rfl (Exists.intro _ (Exists.intro _ ⟨ResV.oneW rfl (.refl _), Sub.at [] rfl, rfl, rfl⟩))
   ·replace H := cnd_f c19 H
    refine AW.skip ?_
    show AW _ _ _ _ _ _
    obtain ⟨g23, H⟩ := grd_s H
    obtain ⟨x24, e25, H⟩ := lt_s H
    refine AW.region ?_
    show AR _ _ _ _ _ [0, 1] _
    refine sS rfl rfl rfl (mv rfl) ?_
    refine AR.run rfl rfl (AO.callAt [0, 0, 0] rfl en58_headb rfl (Builder_WriteString0  o4 (t7) ht7 y8 x16 t9 (okW_s g23)) rfl (fun c A' h => by cases h.1) ?_)
    rintro av A' ⟨h, t26, rfl⟩; cases h
    rw [e25]
    refine AR.nil ?_
    show AW _ _ _ _ _ _
    obtain ⟨g27, H⟩ := grd_s H
    refine AW.region ?_
    show AR _ _ _ _ _ [0, 1] _
    refine sS rfl rfl rfl (g_add rfl rfl g27) ?_
    refine sS rfl rfl rfl (mv rfl) ?_
    refine AR.nil ?_
    exact Exists.intro (n11, y6 + 1, (.pt o4 0), x24, t26) ⟨⟨H, .inr rfl⟩, Nat.lt_succ_self _, WK.at [0, 0, 0] (.cons (.refl _) (.cons (.refl _) (.cons (.refl _) (.cons (.refl _) (.cons (.refl _) (.nil _)))))) rfl⟩
  ·replace H := cnd_f c12 H
   refine AW.exit ?_
   exact Exists.intro (t7, y8, t9) ⟨⟨H, ht7⟩, WK.at [0, 0, 0] (.cons (.refl _) (.nil _)) rfl⟩
 rintro ⟨t28, y29, t30⟩ ⟨H, ht28⟩
 replace H : head_value_j1 y29 = some r3 := H
 unfold head_value_j1 at H
 show AW _ _ _ _ _ _
 refine AW.seq ?_
 obtain ⟨g32, H⟩ := grd_s H
 refine AW.region ?_
 show AR _ _ _ _ _ [0, 1] _
 refine AR.run rfl rfl (AO.callAt [0, 1] rfl en59_headb rfl (Builder_String0  o4 (t28) y29 t30 (okW0_s g32)) rfl (fun c A' h => by cases h.1) ?_)
 rintro av A' ⟨h, rfl⟩; cases h
 refine sS rfl rfl rfl (asg rfl) ?_
 refine AR.nil ?_
 show AW _ _ _ _ _ _
 refine AW.ret ?_
 obtain rfl := Option.some.inj H
 exact And.intro rfl (Exists.intro _ (Exists.intro _ ⟨ResV.oneW rfl (.refl _), Sub.at [] rfl, rfl, rfl⟩))
set_option maxRecDepth 100000 in
set_option maxHeartbeats 1000000 in
theorem w_head_Read (F : Nat) (a1 : List UInt8) (q2 : Option Nat) (r3 : List UInt8) (r4 : List UInt8) (r5 : Int) (H : head_Read F a1 = some (r3, r4, r5)) : ACalls Tryd.prog 12 [slE Enc.byte a1 q2] [] (Ret (.tup [.agg [S r3, S r4], i64 r5]) []) := by
 unfold head_Read at H
 refine ACalls.of_body Tryd.func12 rfl rfl ?_
 show AW _ _ 43 _ _ _
 refine AW.seq ?_
 refine AW.region ?_
 show AR _ _ _ _ _ [0, 1] _
 refine sX rfl rfl rfl (opX_alloc (zs := [.string ⟨#[]⟩, .string ⟨#[]⟩]) (by kernel_rfl)) ?_
 rintro _ _ ⟨o6, rfl, rfl⟩
 refine sS rfl rfl rfl (asg rfl) ?_
 refine AR.nil ?_
 show AW _ _ _ _ _ _
 refine AW.seq ?_
 obtain ⟨g7, H⟩ := grd_s H
 obtain ⟨x8, e9, H⟩ := lt_s H
 refine AW.region ?_
 show AR _ _ _ _ _ [0, 1, 2, 3, 4, 5, 6, 7, 8, 9] _
 refine sS rfl rfl rfl (opS_move (av := slE _ _ _) rfl) ?_
 refine sS rfl rfl rfl (opS_conv_bytes_str Tryd.underlying24 Tryd.underlying5 Tryd.underlying9 rfl) ?_
 refine AR.run rfl rfl (AO.callp rfl en28_headb rfl (show ACalls _ _ _ [] (Ret (.tup [S x8.1, S x8.2.1, B x8.2.2]) []) from by subst e9; exact lib_Cut a1 ([58] : List UInt8) (okS_s g7)) ?_)
 refine sS rfl rfl rfl (opS_move (av := .tup _) rfl) ?_
 refine sS rfl rfl rfl (opS_extract (av := .v _) rfl rfl) ?_
 refine sS rfl rfl rfl (opS_extract (av := .v _) rfl rfl) ?_
 refine sS rfl rfl rfl (opS_extract (av := .v _) rfl rfl) ?_
 refine sS rfl rfl rfl (asg rfl) ?_
 refine sS rfl rfl rfl (asg rfl) ?_
 refine sS rfl rfl rfl (asg rfl) ?_
 refine AR.nil ?_
 show AW _ _ _ _ _ _
 refine AW.seq ?_
 obtain ⟨g10, H⟩ := grd_s H
 obtain ⟨x11, e12, H⟩ := lt_s H
 refine AW.region ?_
 show AR _ _ _ _ _ [0, 1, 2] _
 refine sS rfl rfl rfl (mv rfl) ?_
 refine AR.run rfl rfl (AO.callp rfl en29_headb rfl (show ACalls _ _ _ [] (Ret (slE Enc.str x11 none) []) from by subst e12; exact lib_FieldsFunc 30 spB x8.2.1 en30_headb head_sp (okS_s g10)) ?_)
 refine sS rfl rfl rfl (opS_assign (av := slE _ _ _) rfl) ?_
 refine AR.nil ?_
 show AW _ _ _ _ _ _
 refine AW.seq ?_
 obtain ⟨x13, e14, H⟩ := bnd_s H
 refine AW.region ?_
 show AR _ _ _ _ _ [0, 1, 2, 3, 4, 5] _
 refine sS rfl rfl rfl (mv rfl) ?_
 refine sS rfl rfl rfl (opS_move (av := slE _ _ _) rfl) ?_
 refine AR.run rfl rfl (AO.callp rfl en31_headb rfl (w_head_value F x11 none x13 e14) ?_)
 refine sS rfl rfl rfl (g_build (zs := [.string ⟨#[]⟩, .string ⟨#[]⟩]) (ps := [(0, 1), (1, 1)]) (cs := [S x8.1, S x13]) (by kernel_rfl) rfl rfl) ?_
 refine sX rfl rfl rfl (opX_alloc (zs := [.string ⟨#[]⟩, .string ⟨#[]⟩]) (by kernel_rfl)) ?_
 rintro _ _ ⟨o15, rfl, rfl⟩
 refine s0 rfl rfl (opR_store_agg (i := 0) (vs := [S x8.1, S x13]) (by kernel_rfl) rfl rfl (by simp [isCell, slE]) rfl (Nat.le_of_ble_eq_true rfl)) ?_
 refine AR.freezeCp 8 0 rfl rfl ?_
 show AR _ _ _ _ _ _ ⟨_, _, [.obj o6 [S ([] : List UInt8), S ([] : List UInt8)]]⟩
 refine AR.nil ?_
 show AW _ _ _ _ _ _
 refine AW.seq ?_
 refine AW.seq ?_
 obtain ⟨x16, x17, e18, H⟩ := bnd2_s H
 refine AW.region ?_
 show AR _ _ _ _ _ [0, 1, 2, 3, 4, 5, 6] _
 refine sS rfl rfl rfl (opS_load_cp_agg Tryd.underlying23 rfl (n := 2) (by kernel_rfl) rfl (Nat.le_of_ble_eq_true rfl)) ?_
 refine AR.run rfl rfl (AO.callp rfl en11_headb rfl (w_head_Line F x8.1 x13 x16 x17 e18) ?_)
 refine sS rfl rfl rfl (opS_move (av := .tup _) rfl) ?_
 refine sS rfl rfl rfl (opS_extract (av := slE _ _ _) rfl rfl) ?_
 refine sS rfl rfl rfl (opS_extract (av := .v _) rfl rfl) ?_
 refine sS rfl rfl rfl (opS_assign (av := slE _ _ _) rfl) ?_
 refine sS rfl rfl rfl (asg rfl) ?_
 refine AR.nil ?_
 show AW _ _ _ _ _ _
 refine AW.seq ?_
 obtain ⟨x21, e22, H⟩ := lt_s H
 refine AW.region ?_
 show AR _ _ _ _ _ [0, 1, 2, 3, 4, 5, 6, 7, 8, 9, 10, 11] _
 refine sS rfl rfl rfl (mv rfl) ?_
 refine sS rfl rfl rfl (opS_not rfl) ?_
 refine sS rfl rfl rfl (mv rfl) ?_
 refine AR.meet (l := [6, 7, 8, 9, 10, 11]) 34 (B ((!x8.2.2) || (!decide (x17 = 0)))) (fun K => ?_) ?_
 ·rcases Bool.eq_false_or_eq_true (!x8.2.2) with h19 | h19
  ·
   refine gF h19 rfl rfl rfl rfl rfl ?_
   refine gF h19 rfl rfl rfl rfl rfl ?_
   refine sS rfl rfl rfl (opS_pick_t (av := .v _) rfl h19 rfl) ?_
   exact K _ 2 _ (B_congr (or_t h19)) rfl rfl
  ·
   refine gT h19 rfl rfl rfl rfl rfl rfl (AO.ops rfl rfl (mv rfl) ?_)
   refine gT h19 rfl rfl rfl rfl rfl rfl (AO.ops rfl rfl (opS_nei rfl rfl) ?_)
   refine sS rfl rfl rfl (opS_pick_f (av := .v _) rfl h19 rfl) ?_
   exact K _ 2 _ (B_congr (or_f h19)) rfl rfl
 refine sS rfl rfl rfl (mv rfl) ?_
 refine AR.meet (l := []) 40 (B (((!x8.2.2) || (!decide (x17 = 0))) || (!x21))) (fun K => ?_) ?_
 ·rcases Bool.eq_false_or_eq_true ((!x8.2.2) || (!decide (x17 = 0))) with h20 | h20
  ·
   refine gF h20 rfl rfl rfl rfl rfl ?_
   refine gF h20 rfl rfl rfl rfl rfl ?_
   refine gF h20 rfl rfl rfl rfl rfl ?_
   refine gF h20 rfl rfl rfl rfl rfl ?_
   refine sS rfl rfl rfl (opS_pick_t (av := .v _) rfl h20 rfl) ?_
   exact K _ 4 _ (B_congr (or_t h20)) rfl rfl
  ·
   refine gT h20 rfl rfl rfl rfl rfl rfl (AO.ops rfl rfl (opS_move (av := slE _ _ _) rfl) ?_)
   refine gT h20 rfl rfl rfl rfl rfl rfl (AO.ops rfl rfl (opS_move (av := slE _ _ _) rfl) ?_)
   refine gT h20 rfl rfl rfl rfl rfl rfl (AO.callp rfl en32_headb rfl (show ACalls _ _ _ [] (Ret (B x21) []) from by subst e22; exact lib_bytesEqual x16 a1 none q2) ?_)
   refine gT h20 rfl rfl rfl rfl rfl rfl (AO.ops rfl rfl (opS_not rfl) ?_)
   refine sS rfl rfl rfl (opS_pick_f (av := .v _) rfl h20 rfl) ?_
   exact K _ 4 _ (B_congr (or_f h20)) rfl rfl
 refine AR.nil ?_
 show AW _ _ _ _ _ _
 refine AW.cond rfl (fun c23 => ?_) (fun c23 => ?_)
 ·replace H := cnd_t c23 H
  refine AW.seq ?_
  refine AW.region ?_
  show AR _ _ _ _ _ [0, 1, 2] _
  refine sS rfl rfl rfl (g_build (zs := [.string ⟨#[]⟩, .string ⟨#[]⟩]) (ps := [(0, 1), (1, 1)]) (cs := [S ([] : List UInt8), S ([] : List UInt8)]) (by kernel_rfl) rfl rfl) ?_
  refine s0 rfl rfl (opR_store_agg (i := 0) (vs := [S ([] : List UInt8), S ([] : List UInt8)]) (by kernel_rfl) rfl rfl (by simp [isCell, slE]) rfl (Nat.le_of_ble_eq_true rfl)) ?_
  refine sS rfl rfl rfl (asg rfl) ?_
  refine AR.nil ?_
  show AW _ _ _ _ _ _
  refine AW.ret ?_
  obtain ⟨rfl, rfl, rfl⟩ := res3 H
  exact And.intro rfl (Exists.intro _ (Exists.intro _ ⟨ResT.resV (ResT.place2 rfl (CellV.agg (off := 0) (cs := [S ([] : List UInt8), S ([] : List UInt8)]) (n := 2) 0 Tryd.underlying23 rfl (by kernel_rfl) rfl rfl (Nat.le_of_ble_eq_true rfl)) ((show PlaceV _ _ _ (.tmp _) _ from (.refl _)))), Sub.at [] rfl, rfl, rfl⟩))
 ·replace H := cnd_f c23 H
  refine AW.skip ?_
  show AW _ _ _ _ _ _
  refine AW.seq ?_
  refine AW.region ?_
  show AR _ _ _ _ _ [0, 1, 2] _
  refine sS rfl rfl rfl (opS_load_cp_agg Tryd.underlying23 rfl (n := 2) (by kernel_rfl) rfl (Nat.le_of_ble_eq_true rfl)) ?_
  refine s0 rfl rfl (opR_store_agg (i := 0) (vs := [S x8.1, S x13]) (by kernel_rfl) rfl rfl (by simp [isCell, slE]) rfl (Nat.le_of_ble_eq_true rfl)) ?_
  refine sS rfl rfl rfl (asg rfl) ?_
  refine AR.nil ?_
  show AW _ _ _ _ _ _
  refine AW.ret ?_
  obtain ⟨rfl, rfl, rfl⟩ := res3 H
  exact And.intro rfl (Exists.intro _ (Exists.intro _ ⟨ResT.resV (ResT.place2 rfl (CellV.agg (off := 0) (cs := [S x8.1, S x13]) (n := 2) 0 Tryd.underlying23 rfl (by kernel_rfl) rfl rfl (Nat.le_of_ble_eq_true rfl)) ((show PlaceV _ _ _ (.tmp _) _ from (.refl _)))), Sub.at [] rfl, rfl, rfl⟩))
end Go.Proofs.YtiahdbdkjjmfiaaDoor
namespace Go.Pv
def headl_k1 : List UInt8 := [83, 117, 98, 106, 101, 99, 116, 58, 32, 61, 63, 117, 116, 102, 45, 56, 63, 66, 63, 119, 54, 107, 61, 63, 61, 13, 10]
def law14_awake (F : Nat) : Option Bool :=
bnd2 (head_Line F ([83, 117, 98, 106, 101, 99, 116] : List UInt8) ([195, 169] : List UInt8)) fun x2 x3 =>
bnd3 (head_Read F ([84, 111, 58, 32, 97, 32, 98, 13, 10] : List UInt8)) fun x6 x7 x8 =>
bndc ((((decide (x3 = 0)) && (decide (x8 = 0))) && (decide (x2 = headl_k1))) && ((decide (x6 = ([84, 111] : List UInt8))) && (decide (x7 = ([97, 32, 98] : List UInt8))))) (head_Plain F ([97, 32, 98] : List UInt8)) fun x15 =>
bndc (((((decide (x3 = 0)) && (decide (x8 = 0))) && (decide (x2 = headl_k1))) && ((decide (x6 = ([84, 111] : List UInt8))) && (decide (x7 = ([97, 32, 98] : List UInt8))))) && x15) (head_Plain F ([97, 32, 32, 98] : List UInt8)) fun x18 =>
some ((((((decide (x3 = 0)) && (decide (x8 = 0))) && (decide (x2 = headl_k1))) && ((decide (x6 = ([84, 111] : List UInt8))) && (decide (x7 = ([97, 32, 98] : List UInt8))))) && x15) && (!x18))
end Go.Pv
namespace Go.Proofs.YtiahdbdkjjmfiaaDoor
open Go.RowKit Go.Av Go.Pv
theorem en11_headl : ∀ (args : Array Value) (w : World), (callFunc 11 args).run Tryd.prog w = .ok (.enter 11 args) w := fun _ _ => by kernel_rfl
theorem en12_headl : ∀ (args : Array Value) (w : World), (callFunc 12 args).run Tryd.prog w = .ok (.enter 12 args) w := fun _ _ => by kernel_rfl
theorem en18_headl : ∀ (args : Array Value) (w : World), (callFunc 18 args).run Tryd.prog w = .ok (.enter 18 args) w := fun _ _ => by kernel_rfl
set_option maxRecDepth 100000 in
set_option maxHeartbeats 1000000 in
theorem w_law14_awake (F : Nat) (r1 : Bool) (H : law14_awake F = some r1) : ACalls Tryd.prog 9 [] [] (Ret (B r1) []) := by
 unfold law14_awake at H
 refine ACalls.of_body Tryd.func9 rfl rfl ?_
 show AW _ _ 39 _ _ _
 refine AW.seq ?_
 refine AW.region ?_
 show AR _ _ _ _ _ [0] _
 refine sS rfl rfl rfl (asg rfl) ?_
 refine AR.nil ?_
 show AW _ _ _ _ _ _
 refine AW.seq ?_
 obtain ⟨x2, x3, e4, H⟩ := bnd2_s H
 refine AW.region ?_
 show AR _ _ _ _ _ [0, 1, 2, 3, 4, 5, 6] _
 refine sS rfl rfl rfl (g_build (zs := [.string ⟨#[]⟩, .string ⟨#[]⟩]) (ps := [(0, 1), (1, 1)]) (cs := [S ([83, 117, 98, 106, 101, 99, 116] : List UInt8), S ([195, 169] : List UInt8)]) (by kernel_rfl) rfl rfl) ?_
 refine AR.run rfl rfl (AO.callp rfl en11_headl rfl (w_head_Line F ([83, 117, 98, 106, 101, 99, 116] : List UInt8) ([195, 169] : List UInt8) x2 x3 e4) ?_)
 refine sS rfl rfl rfl (opS_move (av := .tup _) rfl) ?_
 refine sS rfl rfl rfl (opS_extract (av := slE _ _ _) rfl rfl) ?_
 refine sS rfl rfl rfl (opS_extract (av := .v _) rfl rfl) ?_
 refine sS rfl rfl rfl (opS_assign (av := slE _ _ _) rfl) ?_
 refine sS rfl rfl rfl (asg rfl) ?_
 refine AR.nil ?_
 show AW _ _ _ _ _ _
 refine AW.seq ?_
 obtain ⟨x6, x7, x8, e9, H⟩ := bnd3_s H
 refine AW.region ?_
 show AR _ _ _ _ _ [0, 1, 2, 3, 4, 5, 6, 7, 8] _
 refine sX rfl rfl rfl (opX_buildE (E := Enc.byte) (bytes := 1) (xs := [.const _, .const _, .const _, .const _, .const _, .const _, .const _, .const _, .const _]) (l := ([84, 111, 58, 32, 97, 32, 98, 13, 10] : List UInt8)) Tryd.underlying24 (by kernel_rfl) rfl rfl (by decide) rfl rfl) ?_
 rintro _ _ ⟨t5, rfl, rfl⟩
 refine sR rfl rfl rfl (opR_conv_same 0 Tryd.underlying24 Tryd.underlying5 rfl (by simp) rfl) ?_
 refine AR.run rfl rfl (AO.callp rfl en12_headl rfl (w_head_Read F ([84, 111, 58, 32, 97, 32, 98, 13, 10] : List UInt8) (some t5) x6 x7 x8 e9) ?_)
 refine sS rfl rfl rfl (opS_move (av := .tup _) rfl) ?_
 refine sS rfl rfl rfl (opS_extract (av := .agg _) rfl rfl) ?_
 refine sS rfl rfl rfl (opS_extract (av := .v _) rfl rfl) ?_
 refine sX rfl rfl rfl (opX_alloc (zs := [.string ⟨#[]⟩, .string ⟨#[]⟩]) (by kernel_rfl)) ?_
 rintro _ _ ⟨o10, rfl, rfl⟩
 refine s0 rfl rfl (opR_store_agg (i := 0) (vs := [S x6, S x7]) (by kernel_rfl) rfl rfl (by simp [isCell, slE]) rfl (Nat.le_of_ble_eq_true rfl)) ?_
 refine AR.freezeCp 3 0 rfl rfl ?_
 show AR _ _ _ _ _ _ ⟨_, _, [.tok t5 5]⟩
 refine sS rfl rfl rfl (asg rfl) ?_
 refine AR.nil ?_
 show AW _ _ _ _ _ _
 refine AW.seq ?_
 obtain ⟨x15, e16, H⟩ := bndc_s H
 obtain ⟨x18, e19, H⟩ := bndc_s H
 refine AW.region ?_
 show AR _ _ _ _ _ [0, 1, 2, 3, 4, 5, 6, 7, 8, 9, 10, 11, 12, 13, 14, 15, 16, 17, 18, 19, 20, 21, 22, 23] _
 refine sS rfl rfl rfl (mv rfl) ?_
 refine sS rfl rfl rfl (opS_eqi rfl rfl) ?_
 refine sS rfl rfl rfl (mv rfl) ?_
 refine AR.meet (l := [6, 7, 8, 9, 10, 11, 12, 13, 14, 15, 16, 17, 18, 19, 20, 21, 22, 23]) 21 (B ((decide (x3 = 0)) && (decide (x8 = 0)))) (fun K => ?_) ?_
 ·rcases Bool.eq_false_or_eq_true (decide (x3 = 0)) with h11 | h11
  ·
   refine gT h11 rfl rfl rfl rfl rfl rfl (AO.ops rfl rfl (mv rfl) ?_)
   refine gT h11 rfl rfl rfl rfl rfl rfl (AO.ops rfl rfl (opS_eqi rfl rfl) ?_)
   refine sS rfl rfl rfl (opS_pick_t (av := .v _) rfl h11 rfl) ?_
   exact K _ 2 _ (B_congr (and_t h11)) rfl rfl
  ·
   refine gF h11 rfl rfl rfl rfl rfl ?_
   refine gF h11 rfl rfl rfl rfl rfl ?_
   refine sS rfl rfl rfl (opS_pick_f (av := .v _) rfl h11 rfl) ?_
   exact K _ 2 _ (B_congr (and_f h11)) rfl rfl
 refine sS rfl rfl rfl (mv rfl) ?_
 refine AR.meet (l := [11, 12, 13, 14, 15, 16, 17, 18, 19, 20, 21, 22, 23]) 26 (B (((decide (x3 = 0)) && (decide (x8 = 0))) && (decide (x2 = headl_k1)))) (fun K => ?_) ?_
 ·rcases Bool.eq_false_or_eq_true ((decide (x3 = 0)) && (decide (x8 = 0))) with h12 | h12
  ·
   refine gT h12 rfl rfl rfl rfl rfl rfl (AO.ops rfl rfl (opS_move (av := slE _ _ _) rfl) ?_)
   refine gT h12 rfl rfl rfl rfl rfl rfl (AO.ops rfl rfl (opS_conv_bytes_str Tryd.underlying24 Tryd.underlying5 Tryd.underlying9 rfl) ?_)
   refine gT h12 rfl rfl rfl rfl rfl rfl (AO.ops rfl rfl (opS_eqs rfl rfl) ?_)
   refine sS rfl rfl rfl (opS_pick_t (av := .v _) rfl h12 rfl) ?_
   exact K _ 3 _ (B_congr (and_t h12)) rfl rfl
  ·
   refine gF h12 rfl rfl rfl rfl rfl ?_
   refine gF h12 rfl rfl rfl rfl rfl ?_
   refine gF h12 rfl rfl rfl rfl rfl ?_
   refine sS rfl rfl rfl (opS_pick_f (av := .v _) rfl h12 rfl) ?_
   exact K _ 3 _ (B_congr (and_f h12)) rfl rfl
 refine sS rfl rfl rfl (mv rfl) ?_
 refine AR.meet (l := [16, 17, 18, 19, 20, 21, 22, 23]) 31 (B ((((decide (x3 = 0)) && (decide (x8 = 0))) && (decide (x2 = headl_k1))) && ((decide (x6 = ([84, 111] : List UInt8))) && (decide (x7 = ([97, 32, 98] : List UInt8)))))) (fun K => ?_) ?_
 ·rcases Bool.eq_false_or_eq_true (((decide (x3 = 0)) && (decide (x8 = 0))) && (decide (x2 = headl_k1))) with h13 | h13
  ·
   refine gT h13 rfl rfl rfl rfl rfl rfl (AO.ops rfl rfl (opS_load_cp_agg Tryd.underlying23 rfl (n := 2) (by kernel_rfl) rfl (Nat.le_of_ble_eq_true rfl)) ?_)
   refine gT h13 rfl rfl rfl rfl rfl rfl (AO.ops rfl rfl (g_build (zs := [.string ⟨#[]⟩, .string ⟨#[]⟩]) (ps := [(0, 1), (1, 1)]) (cs := [S ([84, 111] : List UInt8), S ([97, 32, 98] : List UInt8)]) (by kernel_rfl) rfl rfl) ?_)
   refine gT h13 rfl rfl rfl rfl rfl rfl (AO.ops rfl rfl (opS_eq_struct (r := (decide (x6 = ([84, 111] : List UInt8))) && (decide (x7 = ([97, 32, 98] : List UInt8)))) (.inl rfl) Tryd.underlying23 (by kernel_rfl) (by kernel_rfl) (by kernel_rfl) rfl rfl rfl (by simp only [List.all_cons, List.all_nil, id, str_beq, Bool.and_true])) ?_)
   refine sS rfl rfl rfl (opS_pick_t (av := .v _) rfl h13 rfl) ?_
   exact K _ 3 _ (B_congr (and_t h13)) rfl rfl
  ·
   refine gF h13 rfl rfl rfl rfl rfl ?_
   refine gF h13 rfl rfl rfl rfl rfl ?_
   refine gF h13 rfl rfl rfl rfl rfl ?_
   refine sS rfl rfl rfl (opS_pick_f (av := .v _) rfl h13 rfl) ?_
   exact K _ 3 _ (B_congr (and_f h13)) rfl rfl
 refine sS rfl rfl rfl (mv rfl) ?_
 refine AR.meet (l := [19, 20, 21, 22, 23]) 34 (B (((((decide (x3 = 0)) && (decide (x8 = 0))) && (decide (x2 = headl_k1))) && ((decide (x6 = ([84, 111] : List UInt8))) && (decide (x7 = ([97, 32, 98] : List UInt8))))) && x15)) (fun K => ?_) ?_
 ·rcases Bool.eq_false_or_eq_true ((((decide (x3 = 0)) && (decide (x8 = 0))) && (decide (x2 = headl_k1))) && ((decide (x6 = ([84, 111] : List UInt8))) && (decide (x7 = ([97, 32, 98] : List UInt8))))) with h14 | h14
  ·
   refine gT h14 rfl rfl rfl rfl rfl rfl (AO.callp rfl en18_headl rfl (w_head_Plain F ([97, 32, 98] : List UInt8) x15 (e16 h14)) ?_)
   refine sS rfl rfl rfl (opS_pick_t (av := .v _) rfl h14 rfl) ?_
   exact K _ 1 _ (B_congr (and_t h14)) rfl rfl
  ·
   refine gF h14 rfl rfl rfl rfl rfl ?_
   refine sS rfl rfl rfl (opS_pick_f (av := .v _) rfl h14 rfl) ?_
   exact K _ 1 _ (B_congr (and_f h14)) rfl rfl
 refine sS rfl rfl rfl (mv rfl) ?_
 refine AR.meet (l := [23]) 38 (B ((((((decide (x3 = 0)) && (decide (x8 = 0))) && (decide (x2 = headl_k1))) && ((decide (x6 = ([84, 111] : List UInt8))) && (decide (x7 = ([97, 32, 98] : List UInt8))))) && x15) && (!x18))) (fun K => ?_) ?_
 ·rcases Bool.eq_false_or_eq_true (((((decide (x3 = 0)) && (decide (x8 = 0))) && (decide (x2 = headl_k1))) && ((decide (x6 = ([84, 111] : List UInt8))) && (decide (x7 = ([97, 32, 98] : List UInt8))))) && x15) with h17 | h17
  ·
   refine gT h17 rfl rfl rfl rfl rfl rfl (AO.callp rfl en18_headl rfl (w_head_Plain F ([97, 32, 32, 98] : List UInt8) x18 (e19 h17)) ?_)
   refine gT h17 rfl rfl rfl rfl rfl rfl (AO.ops rfl rfl (opS_not rfl) ?_)
   refine sS rfl rfl rfl (opS_pick_t (av := .v _) rfl h17 rfl) ?_
   exact K _ 2 _ (B_congr (and_t h17)) rfl rfl
  ·
   refine gF h17 rfl rfl rfl rfl rfl ?_
   refine gF h17 rfl rfl rfl rfl rfl ?_
   refine sS rfl rfl rfl (opS_pick_f (av := .v _) rfl h17 rfl) ?_
   exact K _ 2 _ (B_congr (and_f h17)) rfl rfl
 refine sS rfl rfl rfl (asg rfl) ?_
 refine AR.nil ?_
 show AW _ _ _ _ _ _
 refine AW.ret ?_
 obtain rfl := Option.some.inj H
 exact And.intro rfl (Exists.intro _ (Exists.intro _ ⟨ResV.oneW rfl (.refl _), Sub.at [] rfl, rfl, rfl⟩))
end Go.Proofs.YtiahdbdkjjmfiaaDoor
namespace Go.Pv
def headr_k1 : List UInt8 := [65, 66, 67, 68, 69, 70, 71, 72, 73, 74, 75, 76, 77, 78, 79, 80, 81, 82, 83, 84, 85, 86, 87, 88, 89, 90, 97, 98, 99, 100, 101, 102, 103, 104, 105, 106, 107, 108, 109, 110, 111, 112, 113, 114, 115, 116, 117, 118, 119, 120, 121, 122, 48, 49, 50, 51, 52, 53, 54, 55, 56, 57, 43, 47]
def ref13_number_j1 : Option Int :=
some 0
def ref13_number_B1 (a1 : UInt8) (rec4 : Int → Option Int) (y3 : Int) : Option Int :=
bif decide (y3 < 64) then
  grd (okAt y3 headr_k1.length) <|
  lt (at_ headr_k1 y3) fun x8 =>
  bif decide (x8 = a1) then
    some y3
  else
    grd (okI (y3 + 1)) <|
    rec4 (y3 + 1)
else
  ref13_number_j1
def ref13_number_L1 (a1 : UInt8) (n : Nat) : Int → Option Int :=
  loop (fun rec x => ref13_number_B1 a1 rec x) n
def ref13_number (F : Nat) (a1 : UInt8) : Option Int :=
ref13_number_L1 a1 F 0
def ref13_Raw_j1 (y77 : List UInt8) : Option ((List UInt8)) :=
some y77
def ref13_Raw_j2 (y7 : Int) (rec8 : ((List UInt8) × Int) → Option ((List UInt8))) (y73 : List UInt8) : Option ((List UInt8)) :=
grd (okI (y7 + 3)) <|
rec8 (y73, y7 + 3)
def ref13_Raw_j3 (a1 : List UInt8) (y7 : Int) (y26 : Int) (rec8 : ((List UInt8) × Int) → Option ((List UInt8))) (y56 : List UInt8) : Option ((List UInt8)) :=
grd (okI (y7 + 2)) <|
bif decide (y7 + 2 < (a1.length : Int)) then
  grd (okDiv y26 64) <|
  grd (okAt (y26 % 64) headr_k1.length) <|
  lt (at_ headr_k1 (y26 % 64)) fun x63 =>
  grd (okCat (y56.length + ([x63] : List UInt8).length)) <|
  lt (y56 ++ ([x63] : List UInt8)) fun x67 =>
  ref13_Raw_j2 y7 rec8 x67
else
  grd (okCat (y56.length + ([61] : List UInt8).length)) <|
  lt (y56 ++ ([61] : List UInt8)) fun x71 =>
  ref13_Raw_j2 y7 rec8 x71
def ref13_Raw_j4 (a1 : List UInt8) (y5 : List UInt8) (y7 : Int) (rec8 : ((List UInt8) × Int) → Option ((List UInt8))) (y26 : Int) : Option ((List UInt8)) :=
grd (okDiv y26 262144) <|
grd (okAt (y26 / 262144) headr_k1.length) <|
lt (at_ headr_k1 (y26 / 262144)) fun x30 =>
grd (okDiv y26 4096) <|
grd (okDiv (y26 / 4096) 64) <|
grd (okAt ((y26 / 4096) % 64) headr_k1.length) <|
lt (at_ headr_k1 ((y26 / 4096) % 64)) fun x35 =>
grd (okCat (y5.length + ([x30, x35] : List UInt8).length)) <|
lt (y5 ++ ([x30, x35] : List UInt8)) fun x39 =>
grd (okI (y7 + 1)) <|
bif decide (y7 + 1 < (a1.length : Int)) then
  grd (okDiv y26 64) <|
  grd (okDiv (y26 / 64) 64) <|
  grd (okAt ((y26 / 64) % 64) headr_k1.length) <|
  lt (at_ headr_k1 ((y26 / 64) % 64)) fun x46 =>
  grd (okCat (x39.length + ([x46] : List UInt8).length)) <|
  lt (x39 ++ ([x46] : List UInt8)) fun x50 =>
  ref13_Raw_j3 a1 y7 y26 rec8 x50
else
  grd (okCat (x39.length + ([61] : List UInt8).length)) <|
  lt (x39 ++ ([61] : List UInt8)) fun x54 =>
  ref13_Raw_j3 a1 y7 y26 rec8 x54
def ref13_Raw_j5 (y12 : Int) (rec13 : (Int × Int) → Option ((List UInt8))) (y23 : Int) : Option ((List UInt8)) :=
grd (okI (y12 + 1)) <|
rec13 (y23, y12 + 1)
def ref13_Raw_B1 (a1 : List UInt8) (y5 : List UInt8) (y7 : Int) (rec8 : ((List UInt8) × Int) → Option ((List UInt8))) (rec13 : (Int × Int) → Option ((List UInt8))) (y11 : Int) (y12 : Int) : Option ((List UInt8)) :=
grd (okI (y7 + 3)) <|
bif decide (y12 < y7 + 3) then
  grd (okI (256 * y11)) <|
  bif decide (y12 < (a1.length : Int)) then
    grd (okAt y12 a1.length) <|
    lt (at_ a1 y12) fun x20 =>
    grd (okI ((256 * y11) + (x20.toNat : Int))) <|
    ref13_Raw_j5 y12 rec13 ((256 * y11) + (x20.toNat : Int))
  else
    ref13_Raw_j5 y12 rec13 (256 * y11)
else
  ref13_Raw_j4 a1 y5 y7 rec8 y11
def ref13_Raw_L1 (a1 : List UInt8) (y5 : List UInt8) (y7 : Int) (rec8 : ((List UInt8) × Int) → Option ((List UInt8))) (n : Nat) : (Int × Int) → Option ((List UInt8)) :=
  loop (fun rec x => ref13_Raw_B1 a1 y5 y7 rec8 rec x.1 x.2) n
def ref13_Raw_B2 (F : Nat) (a1 : List UInt8) (rec8 : ((List UInt8) × Int) → Option ((List UInt8))) (y5 : List UInt8) (y7 : Int) : Option ((List UInt8)) :=
bif decide (y7 < (a1.length : Int)) then
  ref13_Raw_L1 a1 y5 y7 rec8 F (0, y7)
else
  ref13_Raw_j1 y5
def ref13_Raw_L2 (F : Nat) (a1 : List UInt8) (n : Nat) : ((List UInt8) × Int) → Option ((List UInt8)) :=
  loop (fun rec x => ref13_Raw_B2 F a1 rec x.1 x.2) n
def ref13_Raw (F : Nat) (a1 : List UInt8) : Option ((List UInt8)) :=
ref13_Raw_L2 F a1 F ([], 0)
def ref13_Bytes_j1 (F : Nat) (a1 : List UInt8) (y66 : List UInt8) : Option ((List UInt8) × Int) :=
bnd (ref13_Raw F y66) fun x69 =>
bif !decide (x69 = a1) then
  some ([], 2)
else
  some (y66, 0)
def ref13_Bytes_j2 (y46 : Int) (rec47 : ((List UInt8) × Int) → Option ((List UInt8) × Int)) (y62 : List UInt8) : Option ((List UInt8) × Int) :=
grd (okI (y46 + 1)) <|
rec47 (y62, y46 + 1)
def ref13_Bytes_B1 (F : Nat) (a1 : List UInt8) (rec47 : ((List UInt8) × Int) → Option ((List UInt8) × Int)) (y44 : List UInt8) (y46 : Int) : Option ((List UInt8) × Int) :=
bif decide (y46 ≤ 2) then
  grdc (decide (y46 ≤ (a1.length : Int))) (okI ((a1.length : Int) - y46)) <|
  grdc (decide (y46 ≤ (a1.length : Int))) (okAt ((a1.length : Int) - y46) a1.length) <|
  lt (at_ a1 ((a1.length : Int) - y46)) fun x53 =>
  bif (decide (y46 ≤ (a1.length : Int))) && (decide (x53 = 61)) then
    grd (okI ((y44.length : Int) - 1)) <|
    grd (okTo ((y44.length : Int) - 1) y44.length) <|
    lt (to_ y44 ((y44.length : Int) - 1)) fun x58 =>
    grd (okCat x58.length) <|
    ref13_Bytes_j2 y46 rec47 x58
  else
    ref13_Bytes_j2 y46 rec47 y44
else
  ref13_Bytes_j1 F a1 y44
def ref13_Bytes_L1 (F : Nat) (a1 : List UInt8) (n : Nat) : ((List UInt8) × Int) → Option ((List UInt8) × Int) :=
  loop (fun rec x => ref13_Bytes_B1 F a1 rec x.1 x.2) n
def ref13_Bytes_j3 (F : Nat) (a1 : List UInt8) (y41 : List UInt8) : Option ((List UInt8) × Int) :=
ref13_Bytes_L1 F a1 F (y41, 1)
def ref13_Bytes_j4 (y9 : Int) (rec10 : ((List UInt8) × Int) → Option ((List UInt8) × Int)) (y37 : List UInt8) : Option ((List UInt8) × Int) :=
grd (okI (y9 + 4)) <|
rec10 (y37, y9 + 4)
def ref13_Bytes_j5 (y7 : List UInt8) (y9 : Int) (rec10 : ((List UInt8) × Int) → Option ((List UInt8) × Int)) (y27 : Int) : Option ((List UInt8) × Int) :=
grd (okDiv y27 65536) <|
grd (okDiv y27 256) <|
grd (okDiv (y27 / 256) 256) <|
grd (okDiv y27 256) <|
grd (okCat (y7.length + ([Go.Av.toB (y27 / 65536), Go.Av.toB ((y27 / 256) % 256), Go.Av.toB (y27 % 256)] : List UInt8).length)) <|
lt (y7 ++ ([Go.Av.toB (y27 / 65536), Go.Av.toB ((y27 / 256) % 256), Go.Av.toB (y27 % 256)] : List UInt8)) fun x35 =>
ref13_Bytes_j4 y9 rec10 x35
def ref13_Bytes_B2 (F : Nat) (a1 : List UInt8) (y7 : List UInt8) (y9 : Int) (rec10 : ((List UInt8) × Int) → Option ((List UInt8) × Int)) (rec15 : (Int × Int) → Option ((List UInt8) × Int)) (y13 : Int) (y14 : Int) : Option ((List UInt8) × Int) :=
grd (okI (y9 + 4)) <|
bif decide (y14 < y9 + 4) then
  grd (okI (64 * y13)) <|
  grd (okAt y14 a1.length) <|
  lt (at_ a1 y14) fun x21 =>
  bnd (ref13_number F x21) fun x23 =>
  grd (okI ((64 * y13) + x23)) <|
  grd (okI (y14 + 1)) <|
  rec15 ((64 * y13) + x23, y14 + 1)
else
  ref13_Bytes_j5 y7 y9 rec10 y13
def ref13_Bytes_L2 (F : Nat) (a1 : List UInt8) (y7 : List UInt8) (y9 : Int) (rec10 : ((List UInt8) × Int) → Option ((List UInt8) × Int)) (n : Nat) : (Int × Int) → Option ((List UInt8) × Int) :=
  loop (fun rec x => ref13_Bytes_B2 F a1 y7 y9 rec10 rec x.1 x.2) n
def ref13_Bytes_B3 (F : Nat) (a1 : List UInt8) (rec10 : ((List UInt8) × Int) → Option ((List UInt8) × Int)) (y7 : List UInt8) (y9 : Int) : Option ((List UInt8) × Int) :=
bif decide (y9 < (a1.length : Int)) then
  ref13_Bytes_L2 F a1 y7 y9 rec10 F (0, y9)
else
  ref13_Bytes_j3 F a1 y7
def ref13_Bytes_L3 (F : Nat) (a1 : List UInt8) (n : Nat) : ((List UInt8) × Int) → Option ((List UInt8) × Int) :=
  loop (fun rec x => ref13_Bytes_B3 F a1 rec x.1 x.2) n
def ref13_Bytes (F : Nat) (a1 : List UInt8) : Option ((List UInt8) × Int) :=
grd (okDiv (a1.length : Int) 4) <|
bif !decide ((a1.length : Int) % 4 = 0) then
  some ([], 2)
else
  ref13_Bytes_L3 F a1 F ([], 0)
end Go.Pv
namespace Go.Proofs.YtiahdbdkjjmfiaaDoor
open Go.RowKit Go.Av Go.Pv
theorem en37_headr : ∀ (args : Array Value) (w : World), (callFunc 37 args).run Tryd.prog w = .ok (.enter 37 args) w := fun _ _ => by kernel_rfl
theorem en42_headr : ∀ (args : Array Value) (w : World), (callFunc 42 args).run Tryd.prog w = .ok (.enter 42 args) w := fun _ _ => by kernel_rfl
set_option maxRecDepth 100000 in
set_option maxHeartbeats 1000000 in
theorem w_ref13_number (F : Nat) (a1 : UInt8) (r2 : Int) (H : ref13_number F a1 = some r2) : ACalls Tryd.prog 42 [u8 a1] [] (Ret (i64 r2) []) := by
 unfold ref13_number at H
 refine ACalls.of_body Tryd.func42 rfl rfl ?_
 show AW _ _ 13 _ _ _
 refine AW.seq ?_
 refine AW.region ?_
 show AR _ _ _ _ _ [0] _
 refine sS rfl rfl rfl (asg rfl) ?_
 refine AR.nil ?_
 show AW _ _ _ _ _ _
 refine AW.cut (X := Unit) (fun _ => ⟨[], [], []⟩) (fun _ => ref13_number_j1 = some r2) ?_ ?_
 ·
  refine AW.seq ?_
  refine AW.region ?_
  show AR _ _ _ _ _ [0] _
  refine sS rfl rfl rfl (asg rfl) ?_
  refine AR.nil ?_
  show AW _ _ _ _ _ _
  refine AW.block ?_
  refine AW.loop (X := Nat × Int) (fun (n5, y3) => ⟨[(0, u8 a1), (3, i64 y3)], [], []⟩) (fun (n5, y3) => ref13_number_L1 a1 n5 y3 = some r2) (fun (n5, y3) => n5) (F, 0) H (WK.at [] (.cons (.refl _) (.cons (.refl _) (.nil _))) rfl) ?_
  rintro ⟨n5, y3⟩ H
  obtain ⟨n5, rfl, H⟩ := loop_s H
  replace H : ref13_number_B1 a1 (ref13_number_L1 a1 n5) y3 = some r2 := H
  unfold ref13_number_B1 at H
  show AW _ _ _ _ _ _
  refine AW.seq ?_
  refine AW.seq ?_
  refine AW.region ?_
  show AR _ _ _ _ _ [0, 1] _
  refine sS rfl rfl rfl (mv rfl) ?_
  refine sS rfl rfl rfl (opS_lt rfl rfl) ?_
  refine AR.nil ?_
  show AW _ _ _ _ _ _
  refine AW.cond rfl (fun c6 => ?_) (fun c6 => ?_)
  ·replace H := cnd_t c6 H
   refine AW.skip ?_
   show AW _ _ _ _ _ _
   refine AW.seq ?_
   refine AW.block ?_
   refine AW.seq ?_
   obtain ⟨g7, H⟩ := grd_s H
   obtain ⟨x8, e9, H⟩ := lt_s H
   refine AW.region ?_
   show AR _ _ _ _ _ [0, 1, 2, 3] _
   refine sS rfl rfl rfl (mv rfl) ?_
   refine sS rfl rfl rfl (g_index_str Tryd.underlying9 rfl rfl g7 e9) ?_
   refine sS rfl rfl rfl (mv rfl) ?_
   refine sS rfl rfl rfl (g_eq8 (a := x8) (b := a1) rfl rfl) ?_
   refine AR.nil ?_
   show AW _ _ _ _ _ _
   refine AW.cond rfl (fun c10 => ?_) (fun c10 => ?_)
   ·replace H := cnd_t c10 H
    refine AW.seq ?_
    refine AW.region ?_
    show AR _ _ _ _ _ [0, 1] _
    refine sS rfl rfl rfl (mv rfl) ?_
    refine sS rfl rfl rfl (asg rfl) ?_
    refine AR.nil ?_
    show AW _ _ _ _ _ _
    refine AW.ret ?_
    obtain rfl := Option.some.inj H
    exact And.intro rfl (Exists.intro _ (Exists.intro _ ⟨ResV.oneW rfl (.refl _), Sub.at [] rfl, rfl, rfl⟩))
   ·replace H := cnd_f c10 H
    refine AW.skip ?_
    show AW _ _ _ _ _ _
    obtain ⟨g11, H⟩ := grd_s H
    refine AW.region ?_
    show AR _ _ _ _ _ [0, 1, 2] _
    refine sS rfl rfl rfl (mv rfl) ?_
    refine sS rfl rfl rfl (g_add rfl rfl g11) ?_
    refine sS rfl rfl rfl (asg rfl) ?_
    refine AR.nil ?_
    exact Exists.intro (n5, y3 + 1) ⟨H, Nat.lt_succ_self _, WK.at [] (.cons (.refl _) (.cons (.refl _) (.nil _))) rfl⟩
  ·replace H := cnd_f c6 H
   refine AW.exit ?_
   exact Exists.intro () ⟨H, WK.at [] (.nil _) rfl⟩
 rintro _ H
 replace H : ref13_number_j1 = some r2 := H
 unfold ref13_number_j1 at H
 show AW _ _ _ _ _ _
 refine AW.seq ?_
 refine AW.region ?_
 show AR _ _ _ _ _ [0] _
 refine sS rfl rfl rfl (asg rfl) ?_
 refine AR.nil ?_
 show AW _ _ _ _ _ _
 refine AW.ret ?_
 obtain rfl := Option.some.inj H
 exact And.intro rfl (Exists.intro _ (Exists.intro _ ⟨ResV.oneW rfl (.refl _), Sub.at [] rfl, rfl, rfl⟩))
set_option maxRecDepth 100000 in
set_option maxHeartbeats 1000000 in
theorem w_ref13_Raw (F : Nat) (a1 : List UInt8) (q2 : Option Nat) (r3 : List UInt8) (H : ref13_Raw F a1 = some r3) : ACalls Tryd.prog 37 [slE Enc.byte a1 q2] [] (Ret (S r3) []) := by
 unfold ref13_Raw at H
 refine ACalls.of_body Tryd.func37 rfl rfl ?_
 show AW _ _ 74 _ _ _
 refine AW.seq ?_
 refine AW.region ?_
 show AR _ _ _ _ _ [0] _
 refine sS rfl rfl rfl (asg rfl) ?_
 refine AR.nil ?_
 show AW _ _ _ _ _ _
 refine AW.seq ?_
 refine AW.region ?_
 show AR _ _ _ _ _ [0] _
 refine sS rfl rfl rfl (asg rfl) ?_
 refine AR.nil ?_
 show AW _ _ _ _ _ _
 refine AW.nil_grows 3 1 5 rfl fun t4 => ?_
 show AW _ _ _ _ _ ⟨(3, slE Enc.byte [] (some t4)) :: _, _, _⟩
 refine AW.cut (X := (List UInt8) × Nat) (fun (y77, t78) => ⟨[(3, slE Enc.byte y77 (some t78))], [], [.tok t78 5]⟩) (fun (y77, t78) => ref13_Raw_j1 y77 = some r3) ?_ ?_
 ·
  refine AW.seq ?_
  refine AW.region ?_
  show AR _ _ _ _ _ [0] _
  refine sS rfl rfl rfl (asg rfl) ?_
  refine AR.nil ?_
  show AW _ _ _ _ _ _
  refine AW.block ?_
  refine AW.loop (X := Nat × (List UInt8) × Nat × Int) (fun (n9, y5, t6, y7) => ⟨[(0, slE Enc.byte a1 q2), (3, slE Enc.byte y5 (some t6)), (4, i64 y7)], [], [.tok t6 5]⟩) (fun (n9, y5, t6, y7) => ref13_Raw_L2 F a1 n9 (y5, y7) = some r3) (fun (n9, y5, t6, y7) => n9) (F, [], t4, 0) H (WK.at [0] (.cons (.refl _) (.cons (.refl _) (.cons (.refl _) (.nil _)))) rfl) ?_
  rintro ⟨n9, y5, t6, y7⟩ H
  obtain ⟨n9, rfl, H⟩ := loop_s H
  replace H : ref13_Raw_B2 F a1 (ref13_Raw_L2 F a1 n9) y5 y7 = some r3 := H
  unfold ref13_Raw_B2 at H
  show AW _ _ _ _ _ _
  refine AW.seq ?_
  refine AW.seq ?_
  refine AW.region ?_
  show AR _ _ _ _ _ [0, 1, 2, 3] _
  refine sS rfl rfl rfl (mv rfl) ?_
  refine sS rfl rfl rfl (opS_move (av := slE _ _ _) rfl) ?_
  refine sS rfl rfl rfl (opS_len_sl Tryd.underlying24 rfl) ?_
  refine sS rfl rfl rfl (opS_lt rfl rfl) ?_
  refine AR.nil ?_
  show AW _ _ _ _ _ _
  refine AW.cond rfl (fun c10 => ?_) (fun c10 => ?_)
  ·replace H := cnd_t c10 H
   refine AW.skip ?_
   show AW _ _ _ _ _ _
   refine AW.cut (X := (List UInt8) × Nat) (fun (y73, t74) => ⟨[(0, slE Enc.byte a1 q2), (3, slE Enc.byte y73 (some t74)), (4, i64 y7)], [], [.tok t74 5]⟩) (fun (y73, t74) => ref13_Raw_j2 y7 (ref13_Raw_L2 F a1 n9) y73 = some r3) ?_ ?_
   ·
    refine AW.block ?_
    refine AW.seq ?_
    refine AW.region ?_
    show AR _ _ _ _ _ [0] _
    refine sS rfl rfl rfl (asg rfl) ?_
    refine AR.nil ?_
    show AW _ _ _ _ _ _
    refine AW.cut (X := Int) (fun y26 => ⟨[(0, slE Enc.byte a1 q2), (3, slE Enc.byte y5 (some t6)), (4, i64 y7), (5, i64 y26)], [], [.tok t6 5]⟩) (fun y26 => ref13_Raw_j4 a1 y5 y7 (ref13_Raw_L2 F a1 n9) y26 = some r3) ?_ ?_
    ·
     refine AW.seq ?_
     refine AW.region ?_
     show AR _ _ _ _ _ [0, 1] _
     refine sS rfl rfl rfl (mv rfl) ?_
     refine sS rfl rfl rfl (asg rfl) ?_
     refine AR.nil ?_
     show AW _ _ _ _ _ _
     refine AW.block ?_
     refine AW.loop (X := Nat × Int × Int) (fun (n14, y11, y12) => ⟨[(0, slE Enc.byte a1 q2), (3, slE Enc.byte y5 (some t6)), (4, i64 y7), (5, i64 y11), (6, i64 y12)], [], [.tok t6 5]⟩) (fun (n14, y11, y12) => ref13_Raw_L1 a1 y5 y7 (ref13_Raw_L2 F a1 n9) n14 (y11, y12) = some r3) (fun (n14, y11, y12) => n14) (F, 0, y7) H (WK.at [0] (.cons (.refl _) (.cons (.refl _) (.cons (.refl _) (.cons (.refl _) (.cons (.refl _) (.nil _)))))) rfl) ?_
     rintro ⟨n14, y11, y12⟩ H
     obtain ⟨n14, rfl, H⟩ := loop_s H
     replace H : ref13_Raw_B1 a1 y5 y7 (ref13_Raw_L2 F a1 n9) (ref13_Raw_L1 a1 y5 y7 (ref13_Raw_L2 F a1 n9) n14) y11 y12 = some r3 := H
     unfold ref13_Raw_B1 at H
     show AW _ _ _ _ _ _
     refine AW.seq ?_
     refine AW.seq ?_
     obtain ⟨g15, H⟩ := grd_s H
     refine AW.region ?_
     show AR _ _ _ _ _ [0, 1, 2, 3] _
     refine sS rfl rfl rfl (mv rfl) ?_
     refine sS rfl rfl rfl (mv rfl) ?_
     refine sS rfl rfl rfl (g_add rfl rfl g15) ?_
     refine sS rfl rfl rfl (opS_lt rfl rfl) ?_
     refine AR.nil ?_
     show AW _ _ _ _ _ _
     refine AW.cond rfl (fun c16 => ?_) (fun c16 => ?_)
     ·replace H := cnd_t c16 H
      refine AW.skip ?_
      show AW _ _ _ _ _ _
      refine AW.cut (X := Int) (fun y23 => ⟨[(0, slE Enc.byte a1 q2), (3, slE Enc.byte y5 (some t6)), (4, i64 y7), (5, i64 y23), (6, i64 y12)], [], [.tok t6 5]⟩) (fun y23 => ref13_Raw_j5 y12 (ref13_Raw_L1 a1 y5 y7 (ref13_Raw_L2 F a1 n9) n14) y23 = some r3) ?_ ?_
      ·
       refine AW.block ?_
       refine AW.seq ?_
       obtain ⟨g17, H⟩ := grd_s H
       refine AW.region ?_
       show AR _ _ _ _ _ [0, 1, 2] _
       refine sS rfl rfl rfl (mv rfl) ?_
       refine sS rfl rfl rfl (g_mul rfl rfl g17) ?_
       refine sS rfl rfl rfl (asg rfl) ?_
       refine AR.nil ?_
       show AW _ _ _ _ _ _
       refine AW.seq ?_
       refine AW.region ?_
       show AR _ _ _ _ _ [0, 1, 2, 3] _
       refine sS rfl rfl rfl (mv rfl) ?_
       refine sS rfl rfl rfl (opS_move (av := slE _ _ _) rfl) ?_
       refine sS rfl rfl rfl (opS_len_sl Tryd.underlying24 rfl) ?_
       refine sS rfl rfl rfl (opS_lt rfl rfl) ?_
       refine AR.nil ?_
       show AW _ _ _ _ _ _
       refine AW.cond rfl (fun c18 => ?_) (fun c18 => ?_)
       ·replace H := cnd_t c18 H
        obtain ⟨g19, H⟩ := grd_s H
        obtain ⟨x20, e21, H⟩ := lt_s H
        obtain ⟨g22, H⟩ := grd_s H
        refine AW.region ?_
        show AR _ _ _ _ _ [0, 1, 2, 3, 4, 5, 6, 7] _
        refine sS rfl rfl rfl (mv rfl) ?_
        refine sS rfl rfl rfl (opS_move (av := slE _ _ _) rfl) ?_
        refine sS rfl rfl rfl (mv rfl) ?_
        refine sS rfl rfl rfl (g_indexAddr (E := Enc.byte) Tryd.underlying24 (by kernel_rfl) rfl rfl g19 e21) ?_
        refine sS rfl rfl rfl (opS_load_cp Tryd.underlying5 rfl rfl) ?_
        refine sS rfl rfl rfl (opS_conv_u8 (c := x20) (by kernel_rfl) Tryd.underlying3 rfl) ?_
        refine sS rfl rfl rfl (g_add rfl rfl g22) ?_
        refine sS rfl rfl rfl (asg rfl) ?_
        refine AR.nil ?_
        exact Exists.intro ((256 * y11) + (x20.toNat : Int)) ⟨H, WK.at [0] (.cons (.refl _) (.cons (.refl _) (.cons (.refl _) (.cons (.refl _) (.cons (.refl _) (.nil _)))))) rfl⟩
       ·replace H := cnd_f c18 H
        refine AW.skip ?_
        exact Exists.intro (256 * y11) ⟨H, WK.at [0] (.cons (.refl _) (.cons (.refl _) (.cons (.refl _) (.cons (.refl _) (.cons (.refl _) (.nil _)))))) rfl⟩
      rintro y23 H
      replace H : ref13_Raw_j5 y12 (ref13_Raw_L1 a1 y5 y7 (ref13_Raw_L2 F a1 n9) n14) y23 = some r3 := H
      unfold ref13_Raw_j5 at H
      show AW _ _ _ _ _ _
      obtain ⟨g25, H⟩ := grd_s H
      refine AW.region ?_
      show AR _ _ _ _ _ [0, 1, 2] _
      refine sS rfl rfl rfl (mv rfl) ?_
      refine sS rfl rfl rfl (g_add rfl rfl g25) ?_
      refine sS rfl rfl rfl (asg rfl) ?_
      refine AR.nil ?_
      exact Exists.intro (n14, y23, y12 + 1) ⟨H, Nat.lt_succ_self _, WK.at [0] (.cons (.refl _) (.cons (.refl _) (.cons (.refl _) (.cons (.refl _) (.cons (.refl _) (.nil _)))))) rfl⟩
     ·replace H := cnd_f c16 H
      refine AW.exit ?_
      exact Exists.intro y11 ⟨H, WK.at [0] (.cons (.refl _) (.cons (.refl _) (.cons (.refl _) (.cons (.refl _) (.nil _))))) rfl⟩
    rintro y26 H
    replace H : ref13_Raw_j4 a1 y5 y7 (ref13_Raw_L2 F a1 n9) y26 = some r3 := H
    unfold ref13_Raw_j4 at H
    show AW _ _ _ _ _ _
    refine AW.seq ?_
    obtain ⟨g28, H⟩ := grd_s H
    obtain ⟨g29, H⟩ := grd_s H
    obtain ⟨x30, e31, H⟩ := lt_s H
    obtain ⟨g32, H⟩ := grd_s H
    obtain ⟨g33, H⟩ := grd_s H
    obtain ⟨g34, H⟩ := grd_s H
    obtain ⟨x35, e36, H⟩ := lt_s H
    obtain ⟨g38, H⟩ := grd_s H
    obtain ⟨x39, e40, H⟩ := lt_s H
    refine AW.region_draw (by kernel_rfl) ?_
    show AI _ _ _ _ _ 11 (Array.replicate 11 false) _
    refine AI.take (i := 0) rfl rfl (by kernel_rfl) (by kernel_rfl) (by kernel_rfl) (fun _ _ h => h) (opS_move (av := slE _ _ _) rfl) ?_
    show AI _ _ _ _ _ _ #[true, false, false, false, false, false, false, false, false, false, false] _
    refine AI.take (i := 1) rfl rfl (by kernel_rfl) (by kernel_rfl) (by kernel_rfl) (fun _ _ h => h) (mv rfl) ?_
    show AI _ _ _ _ _ _ #[true, true, false, false, false, false, false, false, false, false, false] _
    refine AI.take (i := 2) rfl rfl (by kernel_rfl) (by kernel_rfl) (by kernel_rfl) (fun _ _ h => h) (g_quo rfl rfl g28) ?_
    show AI _ _ _ _ _ _ #[true, true, true, false, false, false, false, false, false, false, false] _
    refine AI.take (i := 3) rfl rfl (by kernel_rfl) (by kernel_rfl) (by kernel_rfl) (fun _ _ h => h) (g_index_str Tryd.underlying9 rfl rfl g29 e31) ?_
    show AI _ _ _ _ _ _ #[true, true, true, true, false, false, false, false, false, false, false] _
    refine AI.take (i := 4) rfl rfl (by kernel_rfl) (by kernel_rfl) (by kernel_rfl) (fun _ _ h => h) (mv rfl) ?_
    show AI _ _ _ _ _ _ #[true, true, true, true, true, false, false, false, false, false, false] _
    refine AI.take (i := 5) rfl rfl (by kernel_rfl) (by kernel_rfl) (by kernel_rfl) (fun _ _ h => h) (g_quo rfl rfl g32) ?_
    show AI _ _ _ _ _ _ #[true, true, true, true, true, true, false, false, false, false, false] _
    refine AI.take (i := 6) rfl rfl (by kernel_rfl) (by kernel_rfl) (by kernel_rfl) (fun _ _ h => h) (g_rem rfl rfl g33) ?_
    show AI _ _ _ _ _ _ #[true, true, true, true, true, true, true, false, false, false, false] _
    refine AI.take (i := 7) rfl rfl (by kernel_rfl) (by kernel_rfl) (by kernel_rfl) (fun _ _ h => h) (g_index_str Tryd.underlying9 rfl rfl g34 e36) ?_
    show AI _ _ _ _ _ _ #[true, true, true, true, true, true, true, true, false, false, false] _
    refine AI.one (i := 8) (by kernel_rfl) rfl rfl ?_
    refine AIO.op rfl (opR_buildE (E := Enc.byte) (bytes := 1) (xs := [.tmp 36, .tmp 40]) (l := ([x30, x35] : List UInt8)) Tryd.underlying24 (by kernel_rfl) rfl rfl (by decide) rfl rfl) ?_
    show AI _ _ _ _ _ _ #[true, true, true, true, true, true, true, true, true, false, false] _
    refine AI.one (i := 9) (by kernel_rfl) rfl rfl ?_
    refine AIO.opx rfl (g_append (E := Enc.byte) (bytes := 1) 0 Tryd.underlying24 Tryd.underlying24 rfl (by kernel_rfl) rfl rfl rfl rfl g38 e40) ?_
    rintro _ _ ⟨t37, rfl, rfl⟩
    show AI _ _ _ _ _ _ #[true, true, true, true, true, true, true, true, true, true, false] _
    refine AI.take (i := 10) rfl rfl (by kernel_rfl) (by kernel_rfl) (by kernel_rfl) (fun _ _ h => h) (opS_assign (av := slE _ _ _) rfl) ?_
    show AI _ _ _ _ _ _ #[true, true, true, true, true, true, true, true, true, true, true] _
    refine AI.done rfl ?_
    show AW _ _ _ _ _ _
    refine AW.cut (X := (List UInt8) × Nat) (fun (y56, t57) => ⟨[(0, slE Enc.byte a1 q2), (3, slE Enc.byte y56 (some t57)), (4, i64 y7), (5, i64 y26)], [], [.tok t57 5]⟩) (fun (y56, t57) => ref13_Raw_j3 a1 y7 y26 (ref13_Raw_L2 F a1 n9) y56 = some r3) ?_ ?_
    ·
     refine AW.seq ?_
     obtain ⟨g41, H⟩ := grd_s H
     refine AW.region ?_
     show AR _ _ _ _ _ [0, 1, 2, 3, 4] _
     refine sS rfl rfl rfl (mv rfl) ?_
     refine sS rfl rfl rfl (g_add rfl rfl g41) ?_
     refine sS rfl rfl rfl (opS_move (av := slE _ _ _) rfl) ?_
     refine sS rfl rfl rfl (opS_len_sl Tryd.underlying24 rfl) ?_
     refine sS rfl rfl rfl (opS_lt rfl rfl) ?_
     refine AR.nil ?_
     show AW _ _ _ _ _ _
     refine AW.cond rfl (fun c42 => ?_) (fun c42 => ?_)
     ·replace H := cnd_t c42 H
      obtain ⟨g43, H⟩ := grd_s H
      obtain ⟨g44, H⟩ := grd_s H
      obtain ⟨g45, H⟩ := grd_s H
      obtain ⟨x46, e47, H⟩ := lt_s H
      obtain ⟨g49, H⟩ := grd_s H
      obtain ⟨x50, e51, H⟩ := lt_s H
      refine AW.region ?_
      show AR _ _ _ _ _ [0, 1, 2, 3, 4, 5, 6, 7] _
      refine sS rfl rfl rfl (opS_move (av := slE _ _ _) rfl) ?_
      refine sS rfl rfl rfl (mv rfl) ?_
      refine sS rfl rfl rfl (g_quo rfl rfl g43) ?_
      refine sS rfl rfl rfl (g_rem rfl rfl g44) ?_
      refine sS rfl rfl rfl (g_index_str Tryd.underlying9 rfl rfl g45 e47) ?_
      refine sR rfl rfl rfl (opR_buildE (E := Enc.byte) (bytes := 1) (xs := [.tmp 52]) (l := ([x46] : List UInt8)) Tryd.underlying24 (by kernel_rfl) rfl rfl (by decide) rfl rfl) ?_
      refine sX rfl rfl rfl (g_append (E := Enc.byte) (bytes := 1) 0 Tryd.underlying24 Tryd.underlying24 rfl (by kernel_rfl) rfl rfl rfl rfl g49 e51) ?_
      rintro _ _ ⟨t48, rfl, rfl⟩
      refine sS rfl rfl rfl (opS_assign (av := slE _ _ _) rfl) ?_
      refine AR.nil ?_
      exact Exists.intro (x50, t48) ⟨H, WK.at [0] (.cons (.refl _) (.cons (.refl _) (.cons (.refl _) (.cons (.refl _) (.nil _))))) rfl⟩
     ·replace H := cnd_f c42 H
      obtain ⟨g53, H⟩ := grd_s H
      obtain ⟨x54, e55, H⟩ := lt_s H
      refine AW.region ?_
      show AR _ _ _ _ _ [0, 1, 2, 3] _
      refine sS rfl rfl rfl (opS_move (av := slE _ _ _) rfl) ?_
      refine sR rfl rfl rfl (opR_buildE (E := Enc.byte) (bytes := 1) (xs := [.const _]) (l := ([61] : List UInt8)) Tryd.underlying24 (by kernel_rfl) rfl rfl (by decide) rfl rfl) ?_
      refine sX rfl rfl rfl (g_append (E := Enc.byte) (bytes := 1) 0 Tryd.underlying24 Tryd.underlying24 rfl (by kernel_rfl) rfl rfl rfl rfl g53 e55) ?_
      rintro _ _ ⟨t52, rfl, rfl⟩
      refine sS rfl rfl rfl (opS_assign (av := slE _ _ _) rfl) ?_
      refine AR.nil ?_
      exact Exists.intro (x54, t52) ⟨H, WK.at [0] (.cons (.refl _) (.cons (.refl _) (.cons (.refl _) (.cons (.refl _) (.nil _))))) rfl⟩
    rintro ⟨y56, t57⟩ H
    replace H : ref13_Raw_j3 a1 y7 y26 (ref13_Raw_L2 F a1 n9) y56 = some r3 := H
    unfold ref13_Raw_j3 at H
    show AW _ _ _ _ _ _
    refine AW.seq ?_
    obtain ⟨g59, H⟩ := grd_s H
    refine AW.region ?_
    show AR _ _ _ _ _ [0, 1, 2, 3, 4] _
    refine sS rfl rfl rfl (mv rfl) ?_
    refine sS rfl rfl rfl (g_add rfl rfl g59) ?_
    refine sS rfl rfl rfl (opS_move (av := slE _ _ _) rfl) ?_
    refine sS rfl rfl rfl (opS_len_sl Tryd.underlying24 rfl) ?_
    refine sS rfl rfl rfl (opS_lt rfl rfl) ?_
    refine AR.nil ?_
    show AW _ _ _ _ _ _
    refine AW.cond rfl (fun c60 => ?_) (fun c60 => ?_)
    ·replace H := cnd_t c60 H
     obtain ⟨g61, H⟩ := grd_s H
     obtain ⟨g62, H⟩ := grd_s H
     obtain ⟨x63, e64, H⟩ := lt_s H
     obtain ⟨g66, H⟩ := grd_s H
     obtain ⟨x67, e68, H⟩ := lt_s H
     refine AW.region ?_
     show AR _ _ _ _ _ [0, 1, 2, 3, 4, 5, 6] _
     refine sS rfl rfl rfl (opS_move (av := slE _ _ _) rfl) ?_
     refine sS rfl rfl rfl (mv rfl) ?_
     refine sS rfl rfl rfl (g_rem rfl rfl g61) ?_
     refine sS rfl rfl rfl (g_index_str Tryd.underlying9 rfl rfl g62 e64) ?_
     refine sR rfl rfl rfl (opR_buildE (E := Enc.byte) (bytes := 1) (xs := [.tmp 66]) (l := ([x63] : List UInt8)) Tryd.underlying24 (by kernel_rfl) rfl rfl (by decide) rfl rfl) ?_
     refine sX rfl rfl rfl (g_append (E := Enc.byte) (bytes := 1) 0 Tryd.underlying24 Tryd.underlying24 rfl (by kernel_rfl) rfl rfl rfl rfl g66 e68) ?_
     rintro _ _ ⟨t65, rfl, rfl⟩
     refine sS rfl rfl rfl (opS_assign (av := slE _ _ _) rfl) ?_
     refine AR.nil ?_
     exact Exists.intro (x67, t65) ⟨H, WK.at [0] (.cons (.refl _) (.cons (.refl _) (.cons (.refl _) (.nil _)))) rfl⟩
    ·replace H := cnd_f c60 H
     obtain ⟨g70, H⟩ := grd_s H
     obtain ⟨x71, e72, H⟩ := lt_s H
     refine AW.region ?_
     show AR _ _ _ _ _ [0, 1, 2, 3] _
     refine sS rfl rfl rfl (opS_move (av := slE _ _ _) rfl) ?_
     refine sR rfl rfl rfl (opR_buildE (E := Enc.byte) (bytes := 1) (xs := [.const _]) (l := ([61] : List UInt8)) Tryd.underlying24 (by kernel_rfl) rfl rfl (by decide) rfl rfl) ?_
     refine sX rfl rfl rfl (g_append (E := Enc.byte) (bytes := 1) 0 Tryd.underlying24 Tryd.underlying24 rfl (by kernel_rfl) rfl rfl rfl rfl g70 e72) ?_
     rintro _ _ ⟨t69, rfl, rfl⟩
     refine sS rfl rfl rfl (opS_assign (av := slE _ _ _) rfl) ?_
     refine AR.nil ?_
     exact Exists.intro (x71, t69) ⟨H, WK.at [0] (.cons (.refl _) (.cons (.refl _) (.cons (.refl _) (.nil _)))) rfl⟩
   rintro ⟨y73, t74⟩ H
   replace H : ref13_Raw_j2 y7 (ref13_Raw_L2 F a1 n9) y73 = some r3 := H
   unfold ref13_Raw_j2 at H
   show AW _ _ _ _ _ _
   obtain ⟨g76, H⟩ := grd_s H
   refine AW.region ?_
   show AR _ _ _ _ _ [0, 1, 2] _
   refine sS rfl rfl rfl (mv rfl) ?_
   refine sS rfl rfl rfl (g_add rfl rfl g76) ?_
   refine sS rfl rfl rfl (asg rfl) ?_
   refine AR.nil ?_
   exact Exists.intro (n9, y73, t74, y7 + 3) ⟨H, Nat.lt_succ_self _, WK.at [0] (.cons (.refl _) (.cons (.refl _) (.cons (.refl _) (.nil _)))) rfl⟩
  ·replace H := cnd_f c10 H
   refine AW.exit ?_
   exact Exists.intro (y5, t6) ⟨H, WK.at [0] (.cons (.refl _) (.nil _)) rfl⟩
 rintro ⟨y77, t78⟩ H
 replace H : ref13_Raw_j1 y77 = some r3 := H
 unfold ref13_Raw_j1 at H
 show AW _ _ _ _ _ _
 refine AW.seq ?_
 refine AW.region ?_
 show AR _ _ _ _ _ [0, 1, 2] _
 refine sS rfl rfl rfl (opS_move (av := slE _ _ _) rfl) ?_
 refine sS rfl rfl rfl (opS_conv_bytes_str Tryd.underlying24 Tryd.underlying5 Tryd.underlying9 rfl) ?_
 refine sS rfl rfl rfl (asg rfl) ?_
 refine AR.nil ?_
 show AW _ _ _ _ _ _
 refine AW.ret ?_
 obtain rfl := Option.some.inj H
 exact And.intro rfl (Exists.intro _ (Exists.intro _ ⟨ResV.oneW rfl (.refl _), Sub.at [] rfl, rfl, rfl⟩))
set_option maxRecDepth 100000 in
set_option maxHeartbeats 1000000 in
theorem w_ref13_Bytes (F : Nat) (a1 : List UInt8) (r2 : List UInt8) (r3 : Int) (H : ref13_Bytes F a1 = some (r2, r3)) : ACalls Tryd.prog 19 [S a1] [] (Ret (.tup [slE Enc.byte r2 none, i64 r3]) []) := by
 unfold ref13_Bytes at H
 refine ACalls.of_body Tryd.func19 rfl rfl ?_
 show AW _ _ 74 _ _ _
 refine AW.seq ?_
 refine AW.region ?_
 show AR _ _ _ _ _ [0, 1] _
 refine sS rfl rfl rfl (asg rfl) ?_
 refine sS rfl rfl rfl (asg rfl) ?_
 refine AR.nil ?_
 show AW _ _ _ _ _ _
 refine AW.seq ?_
 refine AW.seq ?_
 obtain ⟨g4, H⟩ := grd_s H
 refine AW.region ?_
 show AR _ _ _ _ _ [0, 1, 2, 3] _
 refine sS rfl rfl rfl (mv rfl) ?_
 refine sS rfl rfl rfl (opS_len_str Tryd.underlying9 rfl) ?_
 refine sS rfl rfl rfl (g_rem rfl rfl g4) ?_
 refine sS rfl rfl rfl (opS_nei rfl rfl) ?_
 refine AR.nil ?_
 show AW _ _ _ _ _ _
 refine AW.cond rfl (fun c5 => ?_) (fun c5 => ?_)
 ·replace H := cnd_t c5 H
  refine AW.seq ?_
  refine AW.region ?_
  show AR _ _ _ _ _ [0, 1] _
  refine sS rfl rfl rfl (asg rfl) ?_
  refine sS rfl rfl rfl (asg rfl) ?_
  refine AR.nil ?_
  show AW _ _ _ _ _ _
  refine AW.ret ?_
  obtain ⟨rfl, rfl⟩ := res2 H
  exact And.intro rfl (Exists.intro _ (Exists.intro _ ⟨ResV.twoW rfl (.nil _) (.refl _), Sub.at [] rfl, rfl, rfl⟩))
 ·replace H := cnd_f c5 H
  refine AW.skip ?_
  show AW _ _ _ _ _ _
  refine AW.seq ?_
  refine AW.region ?_
  show AR _ _ _ _ _ [0] _
  refine sS rfl rfl rfl (asg rfl) ?_
  refine AR.nil ?_
  show AW _ _ _ _ _ _
  refine AW.nil_grows 4 1 5 rfl fun t6 => ?_
  show AW _ _ _ _ _ ⟨(4, slE Enc.byte [] (some t6)) :: _, _, _⟩
  refine AW.cut (X := (List UInt8) × Nat) (fun (y41, t42) => ⟨[(0, S a1), (4, slE Enc.byte y41 (some t42))], [], [.tok t42 5]⟩) (fun (y41, t42) => ref13_Bytes_j3 F a1 y41 = some (r2, r3)) ?_ ?_
  ·
   refine AW.seq ?_
   refine AW.region ?_
   show AR _ _ _ _ _ [0] _
   refine sS rfl rfl rfl (asg rfl) ?_
   refine AR.nil ?_
   show AW _ _ _ _ _ _
   refine AW.block ?_
   refine AW.loop (X := Nat × (List UInt8) × Nat × Int) (fun (n11, y7, t8, y9) => ⟨[(0, S a1), (4, slE Enc.byte y7 (some t8)), (5, i64 y9)], [], [.tok t8 5]⟩) (fun (n11, y7, t8, y9) => ref13_Bytes_L3 F a1 n11 (y7, y9) = some (r2, r3)) (fun (n11, y7, t8, y9) => n11) (F, [], t6, 0) H (WK.at [0] (.cons (.refl _) (.cons (.refl _) (.cons (.refl _) (.nil _)))) rfl) ?_
   rintro ⟨n11, y7, t8, y9⟩ H
   obtain ⟨n11, rfl, H⟩ := loop_s H
   replace H : ref13_Bytes_B3 F a1 (ref13_Bytes_L3 F a1 n11) y7 y9 = some (r2, r3) := H
   unfold ref13_Bytes_B3 at H
   show AW _ _ _ _ _ _
   refine AW.seq ?_
   refine AW.seq ?_
   refine AW.region ?_
   show AR _ _ _ _ _ [0, 1, 2, 3] _
   refine sS rfl rfl rfl (mv rfl) ?_
   refine sS rfl rfl rfl (mv rfl) ?_
   refine sS rfl rfl rfl (opS_len_str Tryd.underlying9 rfl) ?_
   refine sS rfl rfl rfl (opS_lt rfl rfl) ?_
   refine AR.nil ?_
   show AW _ _ _ _ _ _
   refine AW.cond rfl (fun c12 => ?_) (fun c12 => ?_)
   ·replace H := cnd_t c12 H
    refine AW.skip ?_
    show AW _ _ _ _ _ _
    refine AW.cut (X := (List UInt8) × Nat) (fun (y37, t38) => ⟨[(0, S a1), (4, slE Enc.byte y37 (some t38)), (5, i64 y9)], [], [.tok t38 5]⟩) (fun (y37, t38) => ref13_Bytes_j4 y9 (ref13_Bytes_L3 F a1 n11) y37 = some (r2, r3)) ?_ ?_
    ·
     refine AW.block ?_
     refine AW.seq ?_
     refine AW.region ?_
     show AR _ _ _ _ _ [0] _
     refine sS rfl rfl rfl (asg rfl) ?_
     refine AR.nil ?_
     show AW _ _ _ _ _ _
     refine AW.cut (X := Int) (fun y27 => ⟨[(0, S a1), (4, slE Enc.byte y7 (some t8)), (5, i64 y9), (6, i64 y27)], [], [.tok t8 5]⟩) (fun y27 => ref13_Bytes_j5 y7 y9 (ref13_Bytes_L3 F a1 n11) y27 = some (r2, r3)) ?_ ?_
     ·
      refine AW.seq ?_
      refine AW.region ?_
      show AR _ _ _ _ _ [0, 1] _
      refine sS rfl rfl rfl (mv rfl) ?_
      refine sS rfl rfl rfl (asg rfl) ?_
      refine AR.nil ?_
      show AW _ _ _ _ _ _
      refine AW.block ?_
      refine AW.loop (X := Nat × Int × Int) (fun (n16, y13, y14) => ⟨[(0, S a1), (4, slE Enc.byte y7 (some t8)), (5, i64 y9), (6, i64 y13), (7, i64 y14)], [], [.tok t8 5]⟩) (fun (n16, y13, y14) => ref13_Bytes_L2 F a1 y7 y9 (ref13_Bytes_L3 F a1 n11) n16 (y13, y14) = some (r2, r3)) (fun (n16, y13, y14) => n16) (F, 0, y9) H (WK.at [0] (.cons (.refl _) (.cons (.refl _) (.cons (.refl _) (.cons (.refl _) (.cons (.refl _) (.nil _)))))) rfl) ?_
      rintro ⟨n16, y13, y14⟩ H
      obtain ⟨n16, rfl, H⟩ := loop_s H
      replace H : ref13_Bytes_B2 F a1 y7 y9 (ref13_Bytes_L3 F a1 n11) (ref13_Bytes_L2 F a1 y7 y9 (ref13_Bytes_L3 F a1 n11) n16) y13 y14 = some (r2, r3) := H
      unfold ref13_Bytes_B2 at H
      show AW _ _ _ _ _ _
      refine AW.seq ?_
      refine AW.seq ?_
      obtain ⟨g17, H⟩ := grd_s H
      refine AW.region ?_
      show AR _ _ _ _ _ [0, 1, 2, 3] _
      refine sS rfl rfl rfl (mv rfl) ?_
      refine sS rfl rfl rfl (mv rfl) ?_
      refine sS rfl rfl rfl (g_add rfl rfl g17) ?_
      refine sS rfl rfl rfl (opS_lt rfl rfl) ?_
      refine AR.nil ?_
      show AW _ _ _ _ _ _
      refine AW.cond rfl (fun c18 => ?_) (fun c18 => ?_)
      ·replace H := cnd_t c18 H
       refine AW.skip ?_
       show AW _ _ _ _ _ _
       refine AW.seq ?_
       refine AW.block ?_
       obtain ⟨g19, H⟩ := grd_s H
       obtain ⟨g20, H⟩ := grd_s H
       obtain ⟨x21, e22, H⟩ := lt_s H
       obtain ⟨x23, e24, H⟩ := bnd_s H
       obtain ⟨g25, H⟩ := grd_s H
       refine AW.region ?_
       show AR _ _ _ _ _ [0, 1, 2, 3, 4, 5, 6, 7] _
       refine sS rfl rfl rfl (mv rfl) ?_
       refine sS rfl rfl rfl (g_mul rfl rfl g19) ?_
       refine sS rfl rfl rfl (mv rfl) ?_
       refine sS rfl rfl rfl (mv rfl) ?_
       refine sS rfl rfl rfl (g_index_str Tryd.underlying9 rfl rfl g20 e22) ?_
       refine AR.run rfl rfl (AO.callp rfl en42_headr rfl (w_ref13_number F x21 x23 e24) ?_)
       refine sS rfl rfl rfl (g_add rfl rfl g25) ?_
       refine sS rfl rfl rfl (asg rfl) ?_
       refine AR.nil ?_
       show AW _ _ _ _ _ _
       obtain ⟨g26, H⟩ := grd_s H
       refine AW.region ?_
       show AR _ _ _ _ _ [0, 1, 2] _
       refine sS rfl rfl rfl (mv rfl) ?_
       refine sS rfl rfl rfl (g_add rfl rfl g26) ?_
       refine sS rfl rfl rfl (asg rfl) ?_
       refine AR.nil ?_
       exact Exists.intro (n16, (64 * y13) + x23, y14 + 1) ⟨H, Nat.lt_succ_self _, WK.at [0] (.cons (.refl _) (.cons (.refl _) (.cons (.refl _) (.cons (.refl _) (.cons (.refl _) (.nil _)))))) rfl⟩
      ·replace H := cnd_f c18 H
       refine AW.exit ?_
       exact Exists.intro y13 ⟨H, WK.at [0] (.cons (.refl _) (.cons (.refl _) (.cons (.refl _) (.cons (.refl _) (.nil _))))) rfl⟩
     rintro y27 H
     replace H : ref13_Bytes_j5 y7 y9 (ref13_Bytes_L3 F a1 n11) y27 = some (r2, r3) := H
     unfold ref13_Bytes_j5 at H
     show AW _ _ _ _ _ _
     obtain ⟨g29, H⟩ := grd_s H
     obtain ⟨g30, H⟩ := grd_s H
     obtain ⟨g31, H⟩ := grd_s H
     obtain ⟨g32, H⟩ := grd_s H
     obtain ⟨g34, H⟩ := grd_s H
     obtain ⟨x35, e36, H⟩ := lt_s H
     refine AW.region ?_
     show AR _ _ _ _ _ [0, 1, 2, 3, 4, 5, 6, 7, 8, 9, 10, 11, 12, 13] _
     refine sS rfl rfl rfl (opS_move (av := slE _ _ _) rfl) ?_
     refine sS rfl rfl rfl (mv rfl) ?_
     refine sS rfl rfl rfl (g_quo rfl rfl g29) ?_
     refine sS rfl rfl rfl (g_conv_to8 (by kernel_rfl) Tryd.underlying5 rfl) ?_
     refine sS rfl rfl rfl (mv rfl) ?_
     refine sS rfl rfl rfl (g_quo rfl rfl g30) ?_
     refine sS rfl rfl rfl (g_rem rfl rfl g31) ?_
     refine sS rfl rfl rfl (g_conv_to8 (by kernel_rfl) Tryd.underlying5 rfl) ?_
     refine sS rfl rfl rfl (mv rfl) ?_
     refine sS rfl rfl rfl (g_rem rfl rfl g32) ?_
     refine sS rfl rfl rfl (g_conv_to8 (by kernel_rfl) Tryd.underlying5 rfl) ?_
     refine sR rfl rfl rfl (opR_buildE (E := Enc.byte) (bytes := 1) (xs := [.tmp 36, .tmp 40, .tmp 43]) (l := ([Go.Av.toB (y27 / 65536), Go.Av.toB ((y27 / 256) % 256), Go.Av.toB (y27 % 256)] : List UInt8)) Tryd.underlying24 (by kernel_rfl) rfl rfl (by decide) rfl rfl) ?_
     refine sX rfl rfl rfl (g_append (E := Enc.byte) (bytes := 1) 0 Tryd.underlying24 Tryd.underlying24 rfl (by kernel_rfl) rfl rfl rfl rfl g34 e36) ?_
     rintro _ _ ⟨t33, rfl, rfl⟩
     refine sS rfl rfl rfl (opS_assign (av := slE _ _ _) rfl) ?_
     refine AR.nil ?_
     exact Exists.intro (x35, t33) ⟨H, WK.at [0] (.cons (.refl _) (.cons (.refl _) (.cons (.refl _) (.nil _)))) rfl⟩
    rintro ⟨y37, t38⟩ H
    replace H : ref13_Bytes_j4 y9 (ref13_Bytes_L3 F a1 n11) y37 = some (r2, r3) := H
    unfold ref13_Bytes_j4 at H
    show AW _ _ _ _ _ _
    obtain ⟨g40, H⟩ := grd_s H
    refine AW.region ?_
    show AR _ _ _ _ _ [0, 1, 2] _
    refine sS rfl rfl rfl (mv rfl) ?_
    refine sS rfl rfl rfl (g_add rfl rfl g40) ?_
    refine sS rfl rfl rfl (asg rfl) ?_
    refine AR.nil ?_
    exact Exists.intro (n11, y37, t38, y9 + 4) ⟨H, Nat.lt_succ_self _, WK.at [0] (.cons (.refl _) (.cons (.refl _) (.cons (.refl _) (.nil _)))) rfl⟩
   ·replace H := cnd_f c12 H
    refine AW.exit ?_
    exact Exists.intro (y7, t8) ⟨H, WK.at [0] (.cons (.refl _) (.cons (.refl _) (.nil _))) rfl⟩
  rintro ⟨y41, t42⟩ H
  replace H : ref13_Bytes_j3 F a1 y41 = some (r2, r3) := H
  unfold ref13_Bytes_j3 at H
  show AW _ _ _ _ _ _
  refine AW.cut (X := (List UInt8) × Nat) (fun (y66, t67) => ⟨[(0, S a1), (4, slE Enc.byte y66 (some t67))], [], [.tok t67 5]⟩) (fun (y66, t67) => ref13_Bytes_j1 F a1 y66 = some (r2, r3)) ?_ ?_
  ·
   refine AW.seq ?_
   refine AW.region ?_
   show AR _ _ _ _ _ [0] _
   refine sS rfl rfl rfl (asg rfl) ?_
   refine AR.nil ?_
   show AW _ _ _ _ _ _
   refine AW.block ?_
   refine AW.loop (X := Nat × (List UInt8) × Nat × Int) (fun (n48, y44, t45, y46) => ⟨[(0, S a1), (4, slE Enc.byte y44 (some t45)), (8, i64 y46)], [], [.tok t45 5]⟩) (fun (n48, y44, t45, y46) => ref13_Bytes_L1 F a1 n48 (y44, y46) = some (r2, r3)) (fun (n48, y44, t45, y46) => n48) (F, y41, t42, 1) H (WK.at [0] (.cons (.refl _) (.cons (.refl _) (.cons (.refl _) (.nil _)))) rfl) ?_
   rintro ⟨n48, y44, t45, y46⟩ H
   obtain ⟨n48, rfl, H⟩ := loop_s H
   replace H : ref13_Bytes_B1 F a1 (ref13_Bytes_L1 F a1 n48) y44 y46 = some (r2, r3) := H
   unfold ref13_Bytes_B1 at H
   show AW _ _ _ _ _ _
   refine AW.seq ?_
   refine AW.seq ?_
   refine AW.region ?_
   show AR _ _ _ _ _ [0, 1] _
   refine sS rfl rfl rfl (mv rfl) ?_
   refine sS rfl rfl rfl (opS_le rfl rfl) ?_
   refine AR.nil ?_
   show AW _ _ _ _ _ _
   refine AW.cond rfl (fun c49 => ?_) (fun c49 => ?_)
   ·replace H := cnd_t c49 H
    refine AW.skip ?_
    show AW _ _ _ _ _ _
    refine AW.cut (X := (List UInt8) × Nat) (fun (y62, t63) => ⟨[(0, S a1), (4, slE Enc.byte y62 (some t63)), (8, i64 y46)], [], [.tok t63 5]⟩) (fun (y62, t63) => ref13_Bytes_j2 y46 (ref13_Bytes_L1 F a1 n48) y62 = some (r2, r3)) ?_ ?_
    ·
     refine AW.block ?_
     refine AW.seq ?_
     obtain ⟨g51, H⟩ := grdc_s H
     obtain ⟨g52, H⟩ := grdc_s H
     obtain ⟨x53, e54, H⟩ := lt_s H
     refine AW.region ?_
     show AR _ _ _ _ _ [0, 1, 2, 3, 4, 5, 6, 7, 8, 9, 10, 11, 12] _
     refine sS rfl rfl rfl (mv rfl) ?_
     refine sS rfl rfl rfl (opS_len_str Tryd.underlying9 rfl) ?_
     refine sS rfl rfl rfl (mv rfl) ?_
     refine sS rfl rfl rfl (opS_ge rfl rfl) ?_
     refine sS rfl rfl rfl (mv rfl) ?_
     refine AR.meet (l := []) 62 (B ((decide (y46 ≤ (a1.length : Int))) && (decide (x53 = 61)))) (fun K => ?_) ?_
     ·rcases Bool.eq_false_or_eq_true (decide (y46 ≤ (a1.length : Int))) with h50 | h50
      ·
       refine gT h50 rfl rfl rfl rfl rfl rfl (AO.ops rfl rfl (mv rfl) ?_)
       refine gT h50 rfl rfl rfl rfl rfl rfl (AO.ops rfl rfl (mv rfl) ?_)
       refine gT h50 rfl rfl rfl rfl rfl rfl (AO.ops rfl rfl (opS_len_str Tryd.underlying9 rfl) ?_)
       refine gT h50 rfl rfl rfl rfl rfl rfl (AO.ops rfl rfl (mv rfl) ?_)
       refine gT h50 rfl rfl rfl rfl rfl rfl (AO.ops rfl rfl (g_sub rfl rfl (g51 h50)) ?_)
       refine gT h50 rfl rfl rfl rfl rfl rfl (AO.ops rfl rfl (g_index_str Tryd.underlying9 rfl rfl (g52 h50) e54) ?_)
       refine gT h50 rfl rfl rfl rfl rfl rfl (AO.ops rfl rfl (g_eq8 (a := x53) (b := 61) rfl rfl) ?_)
       refine sS rfl rfl rfl (opS_pick_t (av := .v _) rfl h50 rfl) ?_
       exact K _ 7 _ (B_congr (and_t h50)) rfl rfl
      ·
       refine gF h50 rfl rfl rfl rfl rfl ?_
       refine gF h50 rfl rfl rfl rfl rfl ?_
       refine gF h50 rfl rfl rfl rfl rfl ?_
       refine gF h50 rfl rfl rfl rfl rfl ?_
       refine gF h50 rfl rfl rfl rfl rfl ?_
       refine gF h50 rfl rfl rfl rfl rfl ?_
       refine gF h50 rfl rfl rfl rfl rfl ?_
       refine sS rfl rfl rfl (opS_pick_f (av := .v _) rfl h50 rfl) ?_
       exact K _ 7 _ (B_congr (and_f h50)) rfl rfl
     refine AR.nil ?_
     show AW _ _ _ _ _ _
     refine AW.cond rfl (fun c55 => ?_) (fun c55 => ?_)
     ·replace H := cnd_t c55 H
      obtain ⟨g56, H⟩ := grd_s H
      obtain ⟨g57, H⟩ := grd_s H
      obtain ⟨x58, e59, H⟩ := lt_s H
      obtain ⟨g61, H⟩ := grd_s H
      refine AW.region ?_
      show AR _ _ _ _ _ [0, 1, 2, 3, 4, 5, 6] _
      refine sS rfl rfl rfl (opS_move (av := slE _ _ _) rfl) ?_
      refine sS rfl rfl rfl (opS_move (av := slE _ _ _) rfl) ?_
      refine sS rfl rfl rfl (opS_len_sl Tryd.underlying24 rfl) ?_
      refine sS rfl rfl rfl (g_sub rfl rfl g56) ?_
      refine sS rfl rfl rfl (g_to_sl (E := Enc.byte) Tryd.underlying24 (by kernel_rfl) rfl rfl g57 e59) ?_
      refine sX rfl rfl rfl (g_append_nil (E := Enc.byte) (bytes := 1) Tryd.underlying24 Tryd.underlying24 rfl (by kernel_rfl) rfl rfl rfl g61) ?_
      rintro _ _ ⟨t60, rfl, rfl⟩
      refine sS rfl rfl rfl (opS_assign (av := slE _ _ _) rfl) ?_
      refine AR.nil ?_
      exact Exists.intro (x58, t60) ⟨H, WK.at [0] (.cons (.refl _) (.cons (.refl _) (.cons (.refl _) (.nil _)))) rfl⟩
     ·replace H := cnd_f c55 H
      refine AW.skip ?_
      exact Exists.intro (y44, t45) ⟨H, WK.at [0] (.cons (.refl _) (.cons (.refl _) (.cons (.refl _) (.nil _)))) rfl⟩
    rintro ⟨y62, t63⟩ H
    replace H : ref13_Bytes_j2 y46 (ref13_Bytes_L1 F a1 n48) y62 = some (r2, r3) := H
    unfold ref13_Bytes_j2 at H
    show AW _ _ _ _ _ _
    obtain ⟨g65, H⟩ := grd_s H
    refine AW.region ?_
    show AR _ _ _ _ _ [0, 1, 2] _
    refine sS rfl rfl rfl (mv rfl) ?_
    refine sS rfl rfl rfl (g_add rfl rfl g65) ?_
    refine sS rfl rfl rfl (asg rfl) ?_
    refine AR.nil ?_
    exact Exists.intro (n48, y62, t63, y46 + 1) ⟨H, Nat.lt_succ_self _, WK.at [0] (.cons (.refl _) (.cons (.refl _) (.cons (.refl _) (.nil _)))) rfl⟩
   ·replace H := cnd_f c49 H
    refine AW.exit ?_
    exact Exists.intro (y44, t45) ⟨H, WK.at [0] (.cons (.refl _) (.cons (.refl _) (.nil _))) rfl⟩
  rintro ⟨y66, t67⟩ H
  replace H : ref13_Bytes_j1 F a1 y66 = some (r2, r3) := H
  unfold ref13_Bytes_j1 at H
  show AW _ _ _ _ _ _
  refine AW.seq ?_
  refine AW.seq ?_
  obtain ⟨x69, e70, H⟩ := bnd_s H
  refine AW.region ?_
  show AR _ _ _ _ _ [0, 1, 2, 3] _
  refine sS rfl rfl rfl (opS_move (av := slE _ _ _) rfl) ?_
  refine AR.run rfl rfl (AO.callp rfl en37_headr rfl (w_ref13_Raw F y66 (some t67) x69 e70) ?_)
  refine sS rfl rfl rfl (mv rfl) ?_
  refine sS rfl rfl rfl (opS_nes rfl rfl) ?_
  refine AR.nil ?_
  show AW _ _ _ _ _ _
  refine AW.cond rfl (fun c71 => ?_) (fun c71 => ?_)
  ·replace H := cnd_t c71 H
   refine AW.seq ?_
   refine AW.region ?_
   show AR _ _ _ _ _ [0, 1] _
   refine sS rfl rfl rfl (asg rfl) ?_
   refine sS rfl rfl rfl (asg rfl) ?_
   refine AR.nil ?_
   show AW _ _ _ _ _ _
   refine AW.ret ?_
   obtain ⟨rfl, rfl⟩ := res2 H
   exact And.intro rfl (Exists.intro _ (Exists.intro _ ⟨ResV.twoW rfl (.nil _) (.refl _), Sub.at [] rfl, rfl, rfl⟩))
  ·replace H := cnd_f c71 H
   refine AW.skip ?_
   show AW _ _ _ _ _ _
   refine AW.seq ?_
   refine AW.region ?_
   show AR _ _ _ _ _ [0, 1, 2] _
   refine sS rfl rfl rfl (opS_move (av := slE _ _ _) rfl) ?_
   refine sS rfl rfl rfl (opS_assign (av := slE _ _ _) rfl) ?_
   refine sS rfl rfl rfl (asg rfl) ?_
   refine AR.nil ?_
   show AW _ _ _ _ _ _
   refine AW.ret ?_
   obtain ⟨rfl, rfl⟩ := res2 H
   exact And.intro rfl (Exists.intro _ (Exists.intro _ ⟨ResV.twoW rfl (.tok _ _ _) (.refl _), Sub.at [] rfl, rfl, rfl⟩))
end Go.Proofs.YtiahdbdkjjmfiaaDoor
namespace Go.Pv
def law14_HeadCoded_j1 (y31 : List UInt8) (y70 : Int) : Option Bool :=
some (decide (y70 = (y31.length : Int)))
def law14_HeadCoded_B1 (F : Nat) (y31 : List UInt8) (x33 : List (List UInt8)) (rec37 : (Int × Int) → Option Bool) (y35 : Int) (y36 : Int) : Option Bool :=
bif decide (y36 < (x33.length : Int)) then
  grd (okAt y36 x33.length) <|
  lt (at_ x33 y36) fun x41 =>
  grdc (!(decide ((x41.length : Int) < 12))) (okAt y36 x33.length) <|
  lt (at_ x33 y36) fun x45 =>
  bif (decide ((x41.length : Int) < 12)) || (decide (72 < (x45.length : Int))) then
    some false
  else
    grd (okAt y36 x33.length) <|
    lt (at_ x33 y36) fun x49 =>
    grd (okAt y36 x33.length) <|
    lt (at_ x33 y36) fun x52 =>
    grd (okI ((x52.length : Int) - 2)) <|
    grd (okSub 10 ((x52.length : Int) - 2) x49.length) <|
    lt (sub x49 10 ((x52.length : Int) - 2)) fun x56 =>
    bnd2 (ref13_Bytes F x56) fun x58 x59 =>
    grd (okI (y35 + (x58.length : Int))) <|
    grdc ((!((!decide (x59 = 0)) || (decide ((x58.length : Int) = 0)))) && (decide (y35 + (x58.length : Int) < (y31.length : Int)))) (okAt (y35 + (x58.length : Int)) y31.length) <|
    lt (at_ y31 (y35 + (x58.length : Int))) fun x66 =>
    bif ((!decide (x59 = 0)) || (decide ((x58.length : Int) = 0))) || ((decide (y35 + (x58.length : Int) < (y31.length : Int))) && (decide (x66 = 169))) then
      some false
    else
      grd (okI (y36 + 1)) <|
      rec37 (y35 + (x58.length : Int), y36 + 1)
else
  law14_HeadCoded_j1 y31 y35
def law14_HeadCoded_L1 (F : Nat) (y31 : List UInt8) (x33 : List (List UInt8)) (n : Nat) : (Int × Int) → Option Bool :=
  loop (fun rec x => law14_HeadCoded_B1 F y31 x33 rec x.1 x.2) n
def law14_HeadCoded_j2 (F : Nat) (y31 : List UInt8) : Option Bool :=
bnd (head_Words F y31) fun x33 =>
law14_HeadCoded_L1 F y31 x33 F (0, 0)
def law14_HeadCoded_B2 (F : Nat) (a2 : Int) (rec24 : ((List UInt8) × Int) → Option Bool) (y22 : List UInt8) (y23 : Int) : Option Bool :=
bif decide (y23 < a2) then
  grd (okCat (y22.length + ([195, 169] : List UInt8).length)) <|
  lt (y22 ++ ([195, 169] : List UInt8)) fun x28 =>
  grd (okI (y23 + 1)) <|
  rec24 (x28, y23 + 1)
else
  law14_HeadCoded_j2 F y22
def law14_HeadCoded_L2 (F : Nat) (a2 : Int) (n : Nat) : ((List UInt8) × Int) → Option Bool :=
  loop (fun rec x => law14_HeadCoded_B2 F a2 rec x.1 x.2) n
def law14_HeadCoded_j3 (F : Nat) (a2 : Int) (y20 : List UInt8) : Option Bool :=
law14_HeadCoded_L2 F a2 F (y20, 0)
def law14_HeadCoded_B3 (F : Nat) (a1 : Int) (a2 : Int) (rec13 : ((List UInt8) × Int) → Option Bool) (y11 : List UInt8) (y12 : Int) : Option Bool :=
bif decide (y12 < a1) then
  grd (okCat (y11.length + ([97] : List UInt8).length)) <|
  lt (y11 ++ ([97] : List UInt8)) fun x17 =>
  grd (okI (y12 + 1)) <|
  rec13 (x17, y12 + 1)
else
  law14_HeadCoded_j3 F a2 y11
def law14_HeadCoded_L3 (F : Nat) (a1 : Int) (a2 : Int) (n : Nat) : ((List UInt8) × Int) → Option Bool :=
  loop (fun rec x => law14_HeadCoded_B3 F a1 a2 rec x.1 x.2) n
def law14_HeadCoded (F : Nat) (a1 : Int) (a2 : Int) : Option Bool :=
bnd (law14_awake F) fun x4 =>
bif ((((!x4) || (decide (a1 < 0))) || (decide (50 < a1))) || (decide (a2 < 1))) || (decide (100 < a2)) then
  some x4
else
  law14_HeadCoded_L3 F a1 a2 F (([] : List UInt8), 0)
end Go.Pv
namespace Go.Proofs.YtiahdbdkjjmfiaaDoor
open Go.RowKit Go.Av Go.Pv
theorem en9_lheadcoded : ∀ (args : Array Value) (w : World), (callFunc 9 args).run Tryd.prog w = .ok (.enter 9 args) w := fun _ _ => by kernel_rfl
theorem en15_lheadcoded : ∀ (args : Array Value) (w : World), (callFunc 15 args).run Tryd.prog w = .ok (.enter 15 args) w := fun _ _ => by kernel_rfl
theorem en19_lheadcoded : ∀ (args : Array Value) (w : World), (callFunc 19 args).run Tryd.prog w = .ok (.enter 19 args) w := fun _ _ => by kernel_rfl
set_option maxRecDepth 100000 in
set_option maxHeartbeats 1000000 in
theorem w_law14_HeadCoded (F : Nat) (a1 : Int) (a2 : Int) (r3 : Bool) (H : law14_HeadCoded F a1 a2 = some r3) : ACalls Tryd.prog 6 [i64 a1, i64 a2] [] (Ret (B r3) []) := by
 unfold law14_HeadCoded at H
 refine ACalls.of_body Tryd.func6 rfl rfl ?_
 show AW _ _ 112 _ _ _
 refine AW.seq ?_
 refine AW.region ?_
 show AR _ _ _ _ _ [0] _
 refine sS rfl rfl rfl (asg rfl) ?_
 refine AR.nil ?_
 show AW _ _ _ _ _ _
 refine AW.seq ?_
 obtain ⟨x4, e5, H⟩ := bnd_s H
 refine AW.region ?_
 show AR _ _ _ _ _ [0, 1] _
 refine AR.run rfl rfl (AO.callp rfl en9_lheadcoded rfl (w_law14_awake F x4 e5) ?_)
 refine sS rfl rfl rfl (asg rfl) ?_
 refine AR.nil ?_
 show AW _ _ _ _ _ _
 refine AW.seq ?_
 refine AW.seq ?_
 refine AW.region ?_
 show AR _ _ _ _ _ [0, 1, 2, 3, 4, 5, 6, 7, 8, 9, 10, 11, 12, 13, 14, 15, 16, 17] _
 refine sS rfl rfl rfl (mv rfl) ?_
 refine sS rfl rfl rfl (opS_not rfl) ?_
 refine sS rfl rfl rfl (mv rfl) ?_
 refine AR.meet (l := [6, 7, 8, 9, 10, 11, 12, 13, 14, 15, 16, 17]) 20 (B ((!x4) || (decide (a1 < 0)))) (fun K => ?_) ?_
 ·rcases Bool.eq_false_or_eq_true (!x4) with h6 | h6
  ·
   refine gF h6 rfl rfl rfl rfl rfl ?_
   refine gF h6 rfl rfl rfl rfl rfl ?_
   refine sS rfl rfl rfl (opS_pick_t (av := .v _) rfl h6 rfl) ?_
   exact K _ 2 _ (B_congr (or_t h6)) rfl rfl
  ·
   refine gT h6 rfl rfl rfl rfl rfl rfl (AO.ops rfl rfl (mv rfl) ?_)
   refine gT h6 rfl rfl rfl rfl rfl rfl (AO.ops rfl rfl (opS_lt rfl rfl) ?_)
   refine sS rfl rfl rfl (opS_pick_f (av := .v _) rfl h6 rfl) ?_
   exact K _ 2 _ (B_congr (or_f h6)) rfl rfl
 refine sS rfl rfl rfl (mv rfl) ?_
 refine AR.meet (l := [10, 11, 12, 13, 14, 15, 16, 17]) 24 (B (((!x4) || (decide (a1 < 0))) || (decide (50 < a1)))) (fun K => ?_) ?_
 ·rcases Bool.eq_false_or_eq_true ((!x4) || (decide (a1 < 0))) with h7 | h7
  ·
   refine gF h7 rfl rfl rfl rfl rfl ?_
   refine gF h7 rfl rfl rfl rfl rfl ?_
   refine sS rfl rfl rfl (opS_pick_t (av := .v _) rfl h7 rfl) ?_
   exact K _ 2 _ (B_congr (or_t h7)) rfl rfl
  ·
   refine gT h7 rfl rfl rfl rfl rfl rfl (AO.ops rfl rfl (mv rfl) ?_)
   refine gT h7 rfl rfl rfl rfl rfl rfl (AO.ops rfl rfl (opS_gt rfl rfl) ?_)
   refine sS rfl rfl rfl (opS_pick_f (av := .v _) rfl h7 rfl) ?_
   exact K _ 2 _ (B_congr (or_f h7)) rfl rfl
 refine sS rfl rfl rfl (mv rfl) ?_
 refine AR.meet (l := [14, 15, 16, 17]) 28 (B ((((!x4) || (decide (a1 < 0))) || (decide (50 < a1))) || (decide (a2 < 1)))) (fun K => ?_) ?_
 ·rcases Bool.eq_false_or_eq_true (((!x4) || (decide (a1 < 0))) || (decide (50 < a1))) with h8 | h8
  ·
   refine gF h8 rfl rfl rfl rfl rfl ?_
   refine gF h8 rfl rfl rfl rfl rfl ?_
   refine sS rfl rfl rfl (opS_pick_t (av := .v _) rfl h8 rfl) ?_
   exact K _ 2 _ (B_congr (or_t h8)) rfl rfl
  ·
   refine gT h8 rfl rfl rfl rfl rfl rfl (AO.ops rfl rfl (mv rfl) ?_)
   refine gT h8 rfl rfl rfl rfl rfl rfl (AO.ops rfl rfl (opS_lt rfl rfl) ?_)
   refine sS rfl rfl rfl (opS_pick_f (av := .v _) rfl h8 rfl) ?_
   exact K _ 2 _ (B_congr (or_f h8)) rfl rfl
 refine sS rfl rfl rfl (mv rfl) ?_
 refine AR.meet (l := []) 32 (B (((((!x4) || (decide (a1 < 0))) || (decide (50 < a1))) || (decide (a2 < 1))) || (decide (100 < a2)))) (fun K => ?_) ?_
 ·rcases Bool.eq_false_or_eq_true ((((!x4) || (decide (a1 < 0))) || (decide (50 < a1))) || (decide (a2 < 1))) with h9 | h9
  ·
   refine gF h9 rfl rfl rfl rfl rfl ?_
   refine gF h9 rfl rfl rfl rfl rfl ?_
   refine sS rfl rfl rfl (opS_pick_t (av := .v _) rfl h9 rfl) ?_
   exact K _ 2 _ (B_congr (or_t h9)) rfl rfl
  ·
   refine gT h9 rfl rfl rfl rfl rfl rfl (AO.ops rfl rfl (mv rfl) ?_)
   refine gT h9 rfl rfl rfl rfl rfl rfl (AO.ops rfl rfl (opS_gt rfl rfl) ?_)
   refine sS rfl rfl rfl (opS_pick_f (av := .v _) rfl h9 rfl) ?_
   exact K _ 2 _ (B_congr (or_f h9)) rfl rfl
 refine AR.nil ?_
 show AW _ _ _ _ _ _
 refine AW.cond rfl (fun c10 => ?_) (fun c10 => ?_)
 ·replace H := cnd_t c10 H
  refine AW.seq ?_
  refine AW.region ?_
  show AR _ _ _ _ _ [0, 1] _
  refine sS rfl rfl rfl (mv rfl) ?_
  refine sS rfl rfl rfl (asg rfl) ?_
  refine AR.nil ?_
  show AW _ _ _ _ _ _
  refine AW.ret ?_
  obtain rfl := Option.some.inj H
  exact And.intro rfl (Exists.intro _ (Exists.intro _ ⟨ResV.oneW rfl (.refl _), Sub.at [] rfl, rfl, rfl⟩))
 ·replace H := cnd_f c10 H
  refine AW.skip ?_
  show AW _ _ _ _ _ _
  refine AW.seq ?_
  refine AW.region ?_
  show AR _ _ _ _ _ [0] _
  refine sS rfl rfl rfl (asg rfl) ?_
  refine AR.nil ?_
  show AW _ _ _ _ _ _
  refine AW.cut (X := (List UInt8)) (fun y20 => ⟨[(1, i64 a2), (6, S y20)], [], []⟩) (fun y20 => law14_HeadCoded_j3 F a2 y20 = some r3) ?_ ?_
  ·
   refine AW.seq ?_
   refine AW.region ?_
   show AR _ _ _ _ _ [0] _
   refine sS rfl rfl rfl (asg rfl) ?_
   refine AR.nil ?_
   show AW _ _ _ _ _ _
   refine AW.block ?_
   refine AW.loop (X := Nat × (List UInt8) × Int) (fun (n14, y11, y12) => ⟨[(0, i64 a1), (1, i64 a2), (6, S y11), (7, i64 y12)], [], []⟩) (fun (n14, y11, y12) => law14_HeadCoded_L3 F a1 a2 n14 (y11, y12) = some r3) (fun (n14, y11, y12) => n14) (F, ([] : List UInt8), 0) H (WK.at [] (.cons (.refl _) (.cons (.refl _) (.cons (.refl _) (.cons (.refl _) (.nil _))))) rfl) ?_
   rintro ⟨n14, y11, y12⟩ H
   obtain ⟨n14, rfl, H⟩ := loop_s H
   replace H : law14_HeadCoded_B3 F a1 a2 (law14_HeadCoded_L3 F a1 a2 n14) y11 y12 = some r3 := H
   unfold law14_HeadCoded_B3 at H
   show AW _ _ _ _ _ _
   refine AW.seq ?_
   refine AW.seq ?_
   refine AW.region ?_
   show AR _ _ _ _ _ [0, 1, 2] _
   refine sS rfl rfl rfl (mv rfl) ?_
   refine sS rfl rfl rfl (mv rfl) ?_
   refine sS rfl rfl rfl (opS_lt rfl rfl) ?_
   refine AR.nil ?_
   show AW _ _ _ _ _ _
   refine AW.cond rfl (fun c15 => ?_) (fun c15 => ?_)
   ·replace H := cnd_t c15 H
    refine AW.skip ?_
    show AW _ _ _ _ _ _
    refine AW.seq ?_
    refine AW.block ?_
    obtain ⟨g16, H⟩ := grd_s H
    obtain ⟨x17, e18, H⟩ := lt_s H
    refine AW.region ?_
    show AR _ _ _ _ _ [0, 1, 2] _
    refine sS rfl rfl rfl (mv rfl) ?_
    refine sS rfl rfl rfl (g_cat rfl rfl g16 e18) ?_
    refine sS rfl rfl rfl (asg rfl) ?_
    refine AR.nil ?_
    show AW _ _ _ _ _ _
    obtain ⟨g19, H⟩ := grd_s H
    refine AW.region ?_
    show AR _ _ _ _ _ [0, 1, 2] _
    refine sS rfl rfl rfl (mv rfl) ?_
    refine sS rfl rfl rfl (g_add rfl rfl g19) ?_
    refine sS rfl rfl rfl (asg rfl) ?_
    refine AR.nil ?_
    exact Exists.intro (n14, x17, y12 + 1) ⟨H, Nat.lt_succ_self _, WK.at [] (.cons (.refl _) (.cons (.refl _) (.cons (.refl _) (.cons (.refl _) (.nil _))))) rfl⟩
   ·replace H := cnd_f c15 H
    refine AW.exit ?_
    exact Exists.intro y11 ⟨H, WK.at [] (.cons (.refl _) (.cons (.refl _) (.nil _))) rfl⟩
  rintro y20 H
  replace H : law14_HeadCoded_j3 F a2 y20 = some r3 := H
  unfold law14_HeadCoded_j3 at H
  show AW _ _ _ _ _ _
  refine AW.cut (X := (List UInt8)) (fun y31 => ⟨[(6, S y31)], [], []⟩) (fun y31 => law14_HeadCoded_j2 F y31 = some r3) ?_ ?_
  ·
   refine AW.seq ?_
   refine AW.region ?_
   show AR _ _ _ _ _ [0] _
   refine sS rfl rfl rfl (asg rfl) ?_
   refine AR.nil ?_
   show AW _ _ _ _ _ _
   refine AW.block ?_
   refine AW.loop (X := Nat × (List UInt8) × Int) (fun (n25, y22, y23) => ⟨[(1, i64 a2), (6, S y22), (8, i64 y23)], [], []⟩) (fun (n25, y22, y23) => law14_HeadCoded_L2 F a2 n25 (y22, y23) = some r3) (fun (n25, y22, y23) => n25) (F, y20, 0) H (WK.at [] (.cons (.refl _) (.cons (.refl _) (.cons (.refl _) (.nil _)))) rfl) ?_
   rintro ⟨n25, y22, y23⟩ H
   obtain ⟨n25, rfl, H⟩ := loop_s H
   replace H : law14_HeadCoded_B2 F a2 (law14_HeadCoded_L2 F a2 n25) y22 y23 = some r3 := H
   unfold law14_HeadCoded_B2 at H
   show AW _ _ _ _ _ _
   refine AW.seq ?_
   refine AW.seq ?_
   refine AW.region ?_
   show AR _ _ _ _ _ [0, 1, 2] _
   refine sS rfl rfl rfl (mv rfl) ?_
   refine sS rfl rfl rfl (mv rfl) ?_
   refine sS rfl rfl rfl (opS_lt rfl rfl) ?_
   refine AR.nil ?_
   show AW _ _ _ _ _ _
   refine AW.cond rfl (fun c26 => ?_) (fun c26 => ?_)
   ·replace H := cnd_t c26 H
    refine AW.skip ?_
    show AW _ _ _ _ _ _
    refine AW.seq ?_
    refine AW.block ?_
    obtain ⟨g27, H⟩ := grd_s H
    obtain ⟨x28, e29, H⟩ := lt_s H
    refine AW.region ?_
    show AR _ _ _ _ _ [0, 1, 2] _
    refine sS rfl rfl rfl (mv rfl) ?_
    refine sS rfl rfl rfl (g_cat rfl rfl g27 e29) ?_
    refine sS rfl rfl rfl (asg rfl) ?_
    refine AR.nil ?_
    show AW _ _ _ _ _ _
    obtain ⟨g30, H⟩ := grd_s H
    refine AW.region ?_
    show AR _ _ _ _ _ [0, 1, 2] _
    refine sS rfl rfl rfl (mv rfl) ?_
    refine sS rfl rfl rfl (g_add rfl rfl g30) ?_
    refine sS rfl rfl rfl (asg rfl) ?_
    refine AR.nil ?_
    exact Exists.intro (n25, x28, y23 + 1) ⟨H, Nat.lt_succ_self _, WK.at [] (.cons (.refl _) (.cons (.refl _) (.cons (.refl _) (.nil _)))) rfl⟩
   ·replace H := cnd_f c26 H
    refine AW.exit ?_
    exact Exists.intro y22 ⟨H, WK.at [] (.cons (.refl _) (.nil _)) rfl⟩
  rintro y31 H
  replace H : law14_HeadCoded_j2 F y31 = some r3 := H
  unfold law14_HeadCoded_j2 at H
  show AW _ _ _ _ _ _
  refine AW.seq ?_
  obtain ⟨x33, e34, H⟩ := bnd_s H
  refine AW.region ?_
  show AR _ _ _ _ _ [0, 1, 2] _
  refine sS rfl rfl rfl (mv rfl) ?_
  refine AR.run rfl rfl (AO.callp rfl en15_lheadcoded rfl (w_head_Words F y31 x33 e34) ?_)
  refine sS rfl rfl rfl (opS_assign (av := slE _ _ _) rfl) ?_
  refine AR.nil ?_
  show AW _ _ _ _ _ _
  refine AW.seq ?_
  refine AW.region ?_
  show AR _ _ _ _ _ [0] _
  refine sS rfl rfl rfl (asg rfl) ?_
  refine AR.nil ?_
  show AW _ _ _ _ _ _
  refine AW.cut (X := Int) (fun y70 => ⟨[(6, S y31), (10, i64 y70)], [], []⟩) (fun y70 => law14_HeadCoded_j1 y31 y70 = some r3) ?_ ?_
  ·
   refine AW.seq ?_
   refine AW.region ?_
   show AR _ _ _ _ _ [0] _
   refine sS rfl rfl rfl (asg rfl) ?_
   refine AR.nil ?_
   show AW _ _ _ _ _ _
   refine AW.block ?_
   refine AW.loop (X := Nat × Int × Int) (fun (n38, y35, y36) => ⟨[(6, S y31), (9, slE Enc.str x33 none), (10, i64 y35), (11, i64 y36)], [], []⟩) (fun (n38, y35, y36) => law14_HeadCoded_L1 F y31 x33 n38 (y35, y36) = some r3) (fun (n38, y35, y36) => n38) (F, 0, 0) H (WK.at [] (.cons (.refl _) (.cons (.refl _) (.cons (.refl _) (.cons (.refl _) (.nil _))))) rfl) ?_
   rintro ⟨n38, y35, y36⟩ H
   obtain ⟨n38, rfl, H⟩ := loop_s H
   replace H : law14_HeadCoded_B1 F y31 x33 (law14_HeadCoded_L1 F y31 x33 n38) y35 y36 = some r3 := H
   unfold law14_HeadCoded_B1 at H
   show AW _ _ _ _ _ _
   refine AW.seq ?_
   refine AW.seq ?_
   refine AW.region ?_
   show AR _ _ _ _ _ [0, 1, 2, 3] _
   refine sS rfl rfl rfl (mv rfl) ?_
   refine sS rfl rfl rfl (opS_move (av := slE _ _ _) rfl) ?_
   refine sS rfl rfl rfl (opS_len_sl Tryd.underlying36 rfl) ?_
   refine sS rfl rfl rfl (opS_lt rfl rfl) ?_
   refine AR.nil ?_
   show AW _ _ _ _ _ _
   refine AW.cond rfl (fun c39 => ?_) (fun c39 => ?_)
   ·replace H := cnd_t c39 H
    refine AW.skip ?_
    show AW _ _ _ _ _ _
    refine AW.seq ?_
    refine AW.block ?_
    refine AW.seq ?_
    refine AW.seq ?_
    obtain ⟨g40, H⟩ := grd_s H
    obtain ⟨x41, e42, H⟩ := lt_s H
    obtain ⟨g44, H⟩ := grdc_s H
    obtain ⟨x45, e46, H⟩ := lt_s H
    refine AW.region ?_
    show AR _ _ _ _ _ [0, 1, 2, 3, 4, 5, 6, 7, 8, 9, 10, 11, 12, 13] _
    refine sS rfl rfl rfl (opS_move (av := slE _ _ _) rfl) ?_
    refine sS rfl rfl rfl (mv rfl) ?_
    refine sS rfl rfl rfl (g_indexAddr (E := Enc.str) Tryd.underlying36 (by kernel_rfl) rfl rfl g40 e42) ?_
    refine sS rfl rfl rfl (opS_load_cp Tryd.underlying9 rfl rfl) ?_
    refine sS rfl rfl rfl (opS_len_str Tryd.underlying9 rfl) ?_
    refine sS rfl rfl rfl (opS_lt rfl rfl) ?_
    refine sS rfl rfl rfl (mv rfl) ?_
    refine AR.meet (l := []) 69 (B ((decide ((x41.length : Int) < 12)) || (decide (72 < (x45.length : Int))))) (fun K => ?_) ?_
    ·rcases Bool.eq_false_or_eq_true (decide ((x41.length : Int) < 12)) with h43 | h43
     ·
      refine gF h43 rfl rfl rfl rfl rfl ?_
      refine gF h43 rfl rfl rfl rfl rfl ?_
      refine gF h43 rfl rfl rfl rfl rfl ?_
      refine gF h43 rfl rfl rfl rfl rfl ?_
      refine gF h43 rfl rfl rfl rfl rfl ?_
      refine gF h43 rfl rfl rfl rfl rfl ?_
      refine sS rfl rfl rfl (opS_pick_t (av := .v _) rfl h43 rfl) ?_
      exact K _ 6 _ (B_congr (or_t h43)) rfl rfl
     ·
      refine gT h43 rfl rfl rfl rfl rfl rfl (AO.ops rfl rfl (opS_move (av := slE _ _ _) rfl) ?_)
      refine gT h43 rfl rfl rfl rfl rfl rfl (AO.ops rfl rfl (mv rfl) ?_)
      refine gT h43 rfl rfl rfl rfl rfl rfl (AO.ops rfl rfl (g_indexAddr (E := Enc.str) Tryd.underlying36 (by kernel_rfl) rfl rfl (g44 (nf h43)) e46) ?_)
      refine gT h43 rfl rfl rfl rfl rfl rfl (AO.ops rfl rfl (opS_load_cp Tryd.underlying9 rfl rfl) ?_)
      refine gT h43 rfl rfl rfl rfl rfl rfl (AO.ops rfl rfl (opS_len_str Tryd.underlying9 rfl) ?_)
      refine gT h43 rfl rfl rfl rfl rfl rfl (AO.ops rfl rfl (opS_gt rfl rfl) ?_)
      refine sS rfl rfl rfl (opS_pick_f (av := .v _) rfl h43 rfl) ?_
      exact K _ 6 _ (B_congr (or_f h43)) rfl rfl
    refine AR.nil ?_
    show AW _ _ _ _ _ _
    refine AW.cond rfl (fun c47 => ?_) (fun c47 => ?_)
    ·replace H := cnd_t c47 H
     refine AW.seq ?_
     refine AW.region ?_
     show AR _ _ _ _ _ [0] _
     refine sS rfl rfl rfl (asg rfl) ?_
     refine AR.nil ?_
     show AW _ _ _ _ _ _
     refine AW.ret ?_
     obtain rfl := Option.some.inj H
     exact And.intro rfl (Exists.intro _ (Exists.intro _ ⟨ResV.oneW rfl (.refl _), Sub.at [] rfl, rfl, rfl⟩))
    ·replace H := cnd_f c47 H
     refine AW.skip ?_
     show AW _ _ _ _ _ _
     refine AW.seq ?_
     obtain ⟨g48, H⟩ := grd_s H
     obtain ⟨x49, e50, H⟩ := lt_s H
     obtain ⟨g51, H⟩ := grd_s H
     obtain ⟨x52, e53, H⟩ := lt_s H
     obtain ⟨g54, H⟩ := grd_s H
     obtain ⟨g55, H⟩ := grd_s H
     obtain ⟨x56, e57, H⟩ := lt_s H
     obtain ⟨x58, x59, e60, H⟩ := bnd2_s H
     refine AW.region_draw (by kernel_rfl) ?_
     show AI _ _ _ _ _ 17 (Array.replicate 17 false) _
     refine AI.take (i := 0) rfl rfl (by kernel_rfl) (by kernel_rfl) (by kernel_rfl) (fun _ _ h => h) (opS_move (av := slE _ _ _) rfl) ?_
     show AI _ _ _ _ _ _ #[true, false, false, false, false, false, false, false, false, false, false, false, false, false, false, false, false] _
     refine AI.take (i := 1) rfl rfl (by kernel_rfl) (by kernel_rfl) (by kernel_rfl) (fun _ _ h => h) (mv rfl) ?_
     show AI _ _ _ _ _ _ #[true, true, false, false, false, false, false, false, false, false, false, false, false, false, false, false, false] _
     refine AI.take (i := 2) rfl rfl (by kernel_rfl) (by kernel_rfl) (by kernel_rfl) (fun _ _ h => h) (g_indexAddr (E := Enc.str) Tryd.underlying36 (by kernel_rfl) rfl rfl g48 e50) ?_
     show AI _ _ _ _ _ _ #[true, true, true, false, false, false, false, false, false, false, false, false, false, false, false, false, false] _
     refine AI.take (i := 3) rfl rfl (by kernel_rfl) (by kernel_rfl) (by kernel_rfl) (fun _ _ h => h) (opS_load_cp Tryd.underlying9 rfl rfl) ?_
     show AI _ _ _ _ _ _ #[true, true, true, true, false, false, false, false, false, false, false, false, false, false, false, false, false] _
     refine AI.take (i := 4) rfl rfl (by kernel_rfl) (by kernel_rfl) (by kernel_rfl) (fun _ _ h => h) (opS_move (av := slE _ _ _) rfl) ?_
     show AI _ _ _ _ _ _ #[true, true, true, true, true, false, false, false, false, false, false, false, false, false, false, false, false] _
     refine AI.take (i := 5) rfl rfl (by kernel_rfl) (by kernel_rfl) (by kernel_rfl) (fun _ _ h => h) (mv rfl) ?_
     show AI _ _ _ _ _ _ #[true, true, true, true, true, true, false, false, false, false, false, false, false, false, false, false, false] _
     refine AI.take (i := 6) rfl rfl (by kernel_rfl) (by kernel_rfl) (by kernel_rfl) (fun _ _ h => h) (g_indexAddr (E := Enc.str) Tryd.underlying36 (by kernel_rfl) rfl rfl g51 e53) ?_
     show AI _ _ _ _ _ _ #[true, true, true, true, true, true, true, false, false, false, false, false, false, false, false, false, false] _
     refine AI.take (i := 7) rfl rfl (by kernel_rfl) (by kernel_rfl) (by kernel_rfl) (fun _ _ h => h) (opS_load_cp Tryd.underlying9 rfl rfl) ?_
     show AI _ _ _ _ _ _ #[true, true, true, true, true, true, true, true, false, false, false, false, false, false, false, false, false] _
     refine AI.take (i := 8) rfl rfl (by kernel_rfl) (by kernel_rfl) (by kernel_rfl) (fun _ _ h => h) (opS_len_str Tryd.underlying9 rfl) ?_
     show AI _ _ _ _ _ _ #[true, true, true, true, true, true, true, true, true, false, false, false, false, false, false, false, false] _
     refine AI.take (i := 9) rfl rfl (by kernel_rfl) (by kernel_rfl) (by kernel_rfl) (fun _ _ h => h) (g_sub rfl rfl g54) ?_
     show AI _ _ _ _ _ _ #[true, true, true, true, true, true, true, true, true, true, false, false, false, false, false, false, false] _
     refine AI.take (i := 10) rfl rfl (by kernel_rfl) (by kernel_rfl) (by kernel_rfl) (fun _ _ h => h) (g_slice_str Tryd.underlying9 rfl rfl rfl g55 e57) ?_
     show AI _ _ _ _ _ _ #[true, true, true, true, true, true, true, true, true, true, true, false, false, false, false, false, false] _
     refine AI.one (i := 11) (by kernel_rfl) rfl rfl ?_
     refine AIO.callp rfl en19_lheadcoded rfl (w_ref13_Bytes F x56 x58 x59 e60) ?_
     show AI _ _ _ _ _ _ #[true, true, true, true, true, true, true, true, true, true, true, true, false, false, false, false, false] _
     refine AI.take (i := 12) rfl rfl (by kernel_rfl) (by kernel_rfl) (by kernel_rfl) (fun _ _ h => h) (opS_move (av := .tup _) rfl) ?_
     show AI _ _ _ _ _ _ #[true, true, true, true, true, true, true, true, true, true, true, true, true, false, false, false, false] _
     refine AI.take (i := 13) rfl rfl (by kernel_rfl) (by kernel_rfl) (by kernel_rfl) (fun _ _ h => h) (opS_extract (av := slE _ _ _) rfl rfl) ?_
     show AI _ _ _ _ _ _ #[true, true, true, true, true, true, true, true, true, true, true, true, true, true, false, false, false] _
     refine AI.take (i := 14) rfl rfl (by kernel_rfl) (by kernel_rfl) (by kernel_rfl) (fun _ _ h => h) (opS_extract (av := .v _) rfl rfl) ?_
     show AI _ _ _ _ _ _ #[true, true, true, true, true, true, true, true, true, true, true, true, true, true, true, false, false] _
     refine AI.take (i := 15) rfl rfl (by kernel_rfl) (by kernel_rfl) (by kernel_rfl) (fun _ _ h => h) (opS_assign (av := slE _ _ _) rfl) ?_
     show AI _ _ _ _ _ _ #[true, true, true, true, true, true, true, true, true, true, true, true, true, true, true, true, false] _
     refine AI.take (i := 16) rfl rfl (by kernel_rfl) (by kernel_rfl) (by kernel_rfl) (fun _ _ h => h) (asg rfl) ?_
     show AI _ _ _ _ _ _ #[true, true, true, true, true, true, true, true, true, true, true, true, true, true, true, true, true] _
     refine AI.done rfl ?_
     show AW _ _ _ _ _ _
     refine AW.seq ?_
     obtain ⟨g61, H⟩ := grd_s H
     refine AW.region ?_
     show AR _ _ _ _ _ [0, 1, 2, 3, 4] _
     refine sS rfl rfl rfl (mv rfl) ?_
     refine sS rfl rfl rfl (opS_move (av := slE _ _ _) rfl) ?_
     refine sS rfl rfl rfl (opS_len_sl Tryd.underlying24 rfl) ?_
     refine sS rfl rfl rfl (g_add rfl rfl g61) ?_
     refine sS rfl rfl rfl (asg rfl) ?_
     refine AR.nil ?_
     show AW _ _ _ _ _ _
     refine AW.seq ?_
     obtain ⟨g65, H⟩ := grdc_s H
     obtain ⟨x66, e67, H⟩ := lt_s H
     refine AW.region ?_
     show AR _ _ _ _ _ [0, 1, 2, 3, 4, 5, 6, 7, 8, 9, 10, 11, 12, 13, 14, 15, 16, 17, 18] _
     refine sS rfl rfl rfl (mv rfl) ?_
     refine sS rfl rfl rfl (opS_nei rfl rfl) ?_
     refine sS rfl rfl rfl (mv rfl) ?_
     refine AR.meet (l := [7, 8, 9, 10, 11, 12, 13, 14, 15, 16, 17, 18]) 95 (B ((!decide (x59 = 0)) || (decide ((x58.length : Int) = 0)))) (fun K => ?_) ?_
     ·rcases Bool.eq_false_or_eq_true (!decide (x59 = 0)) with h62 | h62
      ·
       refine gF h62 rfl rfl rfl rfl rfl ?_
       refine gF h62 rfl rfl rfl rfl rfl ?_
       refine gF h62 rfl rfl rfl rfl rfl ?_
       refine sS rfl rfl rfl (opS_pick_t (av := .v _) rfl h62 rfl) ?_
       exact K _ 3 _ (B_congr (or_t h62)) rfl rfl
      ·
       refine gT h62 rfl rfl rfl rfl rfl rfl (AO.ops rfl rfl (opS_move (av := slE _ _ _) rfl) ?_)
       refine gT h62 rfl rfl rfl rfl rfl rfl (AO.ops rfl rfl (opS_len_sl Tryd.underlying24 rfl) ?_)
       refine gT h62 rfl rfl rfl rfl rfl rfl (AO.ops rfl rfl (opS_eqi rfl rfl) ?_)
       refine sS rfl rfl rfl (opS_pick_f (av := .v _) rfl h62 rfl) ?_
       exact K _ 3 _ (B_congr (or_f h62)) rfl rfl
     refine sS rfl rfl rfl (mv rfl) ?_
     refine AR.meet (l := []) 107 (B (((!decide (x59 = 0)) || (decide ((x58.length : Int) = 0))) || ((decide (y35 + (x58.length : Int) < (y31.length : Int))) && (decide (x66 = 169))))) (fun K => ?_) ?_
     ·rcases Bool.eq_false_or_eq_true ((!decide (x59 = 0)) || (decide ((x58.length : Int) = 0))) with h63 | h63
      ·
       refine gF h63 rfl rfl rfl rfl rfl ?_
       refine gF h63 rfl rfl rfl rfl rfl ?_
       refine gF h63 rfl rfl rfl rfl rfl ?_
       refine gF h63 rfl rfl rfl rfl rfl ?_
       refine gF h63 rfl rfl rfl rfl rfl ?_
       refine gU rfl rfl rfl rfl rfl ?_
       refine gU rfl rfl rfl rfl rfl ?_
       refine gU rfl rfl rfl rfl rfl ?_
       refine gU rfl rfl rfl rfl rfl ?_
       refine gF h63 rfl rfl rfl rfl rfl ?_
       refine sS rfl rfl rfl (opS_pick_t (av := .v _) rfl h63 rfl) ?_
       exact K _ 10 _ (B_congr (or_t h63)) rfl rfl
      ·
       refine gT h63 rfl rfl rfl rfl rfl rfl (AO.ops rfl rfl (mv rfl) ?_)
       refine gT h63 rfl rfl rfl rfl rfl rfl (AO.ops rfl rfl (mv rfl) ?_)
       refine gT h63 rfl rfl rfl rfl rfl rfl (AO.ops rfl rfl (opS_len_str Tryd.underlying9 rfl) ?_)
       refine gT h63 rfl rfl rfl rfl rfl rfl (AO.ops rfl rfl (opS_lt rfl rfl) ?_)
       refine gT h63 rfl rfl rfl rfl rfl rfl (AO.ops rfl rfl (mv rfl) ?_)
       refine AR.meet (l := [18]) 106 (B ((decide (y35 + (x58.length : Int) < (y31.length : Int))) && (decide (x66 = 169)))) (fun K => ?_) ?_
       ·rcases Bool.eq_false_or_eq_true (decide (y35 + (x58.length : Int) < (y31.length : Int))) with h64 | h64
        ·
         refine gT h64 rfl rfl rfl rfl rfl rfl (AO.ops rfl rfl (mv rfl) ?_)
         refine gT h64 rfl rfl rfl rfl rfl rfl (AO.ops rfl rfl (mv rfl) ?_)
         refine gT h64 rfl rfl rfl rfl rfl rfl (AO.ops rfl rfl (g_index_str Tryd.underlying9 rfl rfl (g65 (and_tt (nf h63) h64)) e67) ?_)
         refine gT h64 rfl rfl rfl rfl rfl rfl (AO.ops rfl rfl (g_eq8 (a := x66) (b := 169) rfl rfl) ?_)
         refine gT h63 rfl rfl rfl rfl rfl rfl (AO.ops rfl rfl (opS_pick_t (av := .v _) rfl h64 rfl) ?_)
         exact K _ 4 _ (B_congr (and_t h64)) rfl rfl
        ·
         refine gF h64 rfl rfl rfl rfl rfl ?_
         refine gF h64 rfl rfl rfl rfl rfl ?_
         refine gF h64 rfl rfl rfl rfl rfl ?_
         refine gF h64 rfl rfl rfl rfl rfl ?_
         refine gT h63 rfl rfl rfl rfl rfl rfl (AO.ops rfl rfl (opS_pick_f (av := .v _) rfl h64 rfl) ?_)
         exact K _ 4 _ (B_congr (and_f h64)) rfl rfl
       refine sS rfl rfl rfl (opS_pick_f (av := .v _) rfl h63 rfl) ?_
       exact K _ 6 _ (B_congr (or_f h63)) rfl rfl
     refine AR.nil ?_
     show AW _ _ _ _ _ _
     refine AW.cond rfl (fun c68 => ?_) (fun c68 => ?_)
     ·replace H := cnd_t c68 H
      refine AW.seq ?_
      refine AW.region ?_
      show AR _ _ _ _ _ [0] _
      refine sS rfl rfl rfl (asg rfl) ?_
      refine AR.nil ?_
      show AW _ _ _ _ _ _
      refine AW.ret ?_
      obtain rfl := Option.some.inj H
      exact And.intro rfl (Exists.intro _ (Exists.intro _ ⟨ResV.oneW rfl (.refl _), Sub.at [] rfl, rfl, rfl⟩))
     ·replace H := cnd_f c68 H
      refine AW.skip ?_
      show AW _ _ _ _ _ _
      obtain ⟨g69, H⟩ := grd_s H
      refine AW.region ?_
      show AR _ _ _ _ _ [0, 1, 2] _
      refine sS rfl rfl rfl (mv rfl) ?_
      refine sS rfl rfl rfl (g_add rfl rfl g69) ?_
      refine sS rfl rfl rfl (asg rfl) ?_
      refine AR.nil ?_
      exact Exists.intro (n38, y35 + (x58.length : Int), y36 + 1) ⟨H, Nat.lt_succ_self _, WK.at [] (.cons (.refl _) (.cons (.refl _) (.cons (.refl _) (.cons (.refl _) (.nil _))))) rfl⟩
   ·replace H := cnd_f c39 H
    refine AW.exit ?_
    exact Exists.intro y35 ⟨H, WK.at [] (.cons (.refl _) (.cons (.refl _) (.nil _))) rfl⟩
  rintro y70 H
  replace H : law14_HeadCoded_j1 y31 y70 = some r3 := H
  unfold law14_HeadCoded_j1 at H
  show AW _ _ _ _ _ _
  refine AW.seq ?_
  refine AW.region ?_
  show AR _ _ _ _ _ [0, 1, 2, 3, 4] _
  refine sS rfl rfl rfl (mv rfl) ?_
  refine sS rfl rfl rfl (mv rfl) ?_
  refine sS rfl rfl rfl (opS_len_str Tryd.underlying9 rfl) ?_
  refine sS rfl rfl rfl (opS_eqi rfl rfl) ?_
  refine sS rfl rfl rfl (asg rfl) ?_
  refine AR.nil ?_
  show AW _ _ _ _ _ _
  refine AW.ret ?_
  obtain rfl := Option.some.inj H
  exact And.intro rfl (Exists.intro _ (Exists.intro _ ⟨ResV.oneW rfl (.refl _), Sub.at [] rfl, rfl, rfl⟩))
end Go.Proofs.YtiahdbdkjjmfiaaDoor
namespace Go.Hd
open Go.Pv Go.Av
abbrev Bs := List UInt8
def sp (c : UInt8) : Bs → List Bs
  | [] => [[]]
  | b :: r => if b = c then [] :: sp c r else match sp c r with
    | [] => [[b]]
    | p :: ps => (b :: p) :: ps
theorem sp_ne (c : UInt8) (s : Bs) : sp c s ≠ [] := by
  cases s with
  | nil => simp [sp]
  | cons b r => unfold sp; split; simp; split <;> simp
theorem index_one_cons (b c : UInt8) (l : Bs) : Go.Lib.index (b :: l) [c] = if b = c then 0 else if Go.Lib.index l [c] = -1 then -1 else Go.Lib.index l [c] + 1 := by
  by_cases h : b = c
  · subst h; simp [Go.Lib.index]
  · simp [Go.Lib.index, h, Ne.symm h]
def prep (cur : Bs) : List Bs → List Bs
  | [] => [cur]
  | p :: ps => (cur ++ p) :: ps
theorem sp_cons_ne {b c : UInt8} (h : ¬ b = c) (r : Bs) : sp c (b :: r) = prep [b] (sp c r) := by
  simp only [sp, h, if_false]
  cases sp c r <;> rfl
theorem sp_cons_eq (c : UInt8) (r : Bs) : sp c (c :: r) = [] :: sp c r := by simp [sp]
theorem splitK_eq (c : UInt8) : ∀ (s : Bs), Go.Lib.splitK [c] 0 (s.count c) s = sp c s
  | [] => rfl
  | b :: l => by
    have ih := splitK_eq c l
    have hi := index_one_cons b c l
    have hge := Go.Lib.index_ge l [c]
    by_cases h : b = c
    · subst h
      rw [List.count_cons_self, sp_cons_eq, Go.Lib.splitK, hi]
      simp [ih]
    · rw [List.count_cons_of_ne h, sp_cons_ne h, ← ih]
      cases hk : l.count c with
      | zero => simp [Go.Lib.splitK, prep]
      | succ k =>
        rw [Go.Lib.splitK, Go.Lib.splitK, hi]
        simp only [h, if_false]
        by_cases hm : Go.Lib.index l [c] = -1
        · simp [hm, prep]
        · obtain ⟨j, hj⟩ := Int.eq_ofNat_of_zero_le (show 0 ≤ Go.Lib.index l [c] by omega)
          have h2 : ¬ (Go.Lib.index l [c] + 1 = -1) := by omega
          have h3 : (Go.Lib.index l [c] + 1).toNat = j + 1 := by omega
          have h4 : (Go.Lib.index l [c]).toNat = j := by omega
          simp [hm, h2, h3, h4, prep]
theorem split_one (s : Bs) (c : UInt8) : Go.Lib.split s [c] = sp c s := by
  unfold Go.Lib.split
  rw [Go.Lib.count_one, splitK_eq]
theorem sp_length (c : UInt8) (s : Bs) : (sp c s).length ≤ s.length + 1 := by
  induction s with
  | nil => simp [sp]
  | cons b r ih =>
    by_cases h : b = c
    · subst h; rw [sp_cons_eq]; simp; omega
    · rw [sp_cons_ne h]
      cases hs : sp c r with
      | nil => simp [prep]
      | cons p ps => rw [hs] at ih; simp [prep] at ih ⊢; omega
theorem sp_total (c : UInt8) (s : Bs) : Str.total (sp c s) + (sp c s).length = s.length + 1 := by
  induction s with
  | nil => simp [sp, Str.total]
  | cons b r ih =>
    by_cases h : b = c
    · subst h; rw [sp_cons_eq]; simp [Str.total]; omega
    · rw [sp_cons_ne h]
      cases hs : sp c r with
      | nil => exact absurd hs (sp_ne c r)
      | cons p ps => rw [hs] at ih; simp [prep, Str.total] at ih ⊢; omega
end Go.Hd
namespace Go.Hd
open Go.Pv Go.Av
theorem of_all8 (p : UInt8 → Bool) (h : ∀ k : Fin 256, p (UInt8.ofNat k.val) = true) (b : UInt8) : p b = true := by
  have := h ⟨b.toNat, b.toNat_lt⟩
  simpa using this
theorem u64_id (x : Int) (h0 : 0 ≤ x) (h1 : x < 18446744073709551616) : IntKind.u64.wrap x = x := by
  have : IntKind.u64.wrap x = x % 18446744073709551616 := rfl
  rw [this]; omega
theorem bvn (n : Nat) (h : n < 2 ^ 64) : (BitVec.ofInt 64 (n : Int)).toNat = n := by
  rw [BitVec.ofInt_natCast, BitVec.toNat_ofNat]; exact Nat.mod_eq_of_lt h
theorem or_two (a b k : Nat) (ha : a * 2 ^ k < 2 ^ 64) (hb : b < 2 ^ k) (hk : b < 2 ^ 64) : (BitVec.ofInt IntKind.u64.bits ((a * 2 ^ k : Nat) : Int) ||| BitVec.ofInt IntKind.u64.bits (b : Int)).toNat = a * 2 ^ k + b := by
  show (BitVec.ofInt 64 ((a * 2 ^ k : Nat) : Int) ||| BitVec.ofInt 64 (b : Int)).toNat = _
  rw [BitVec.toNat_or, bvn _ ha, bvn _ hk, ← Nat.shiftLeft_eq, Nat.shiftLeft_add_eq_or_of_lt hb]
theorem and_63 (a : Nat) (ha : a < 2 ^ 64) : (BitVec.ofInt IntKind.u64.bits (a : Int) &&& BitVec.ofInt IntKind.u64.bits 63).toNat = a % 64 := by
  show (BitVec.ofInt 64 (a : Int) &&& BitVec.ofInt 64 ((63 : Nat) : Int)).toNat = _
  rw [BitVec.toNat_and, bvn _ ha, bvn _ (by decide)]
  exact Nat.and_two_pow_sub_one_eq_mod a 6
def q3 (a b c : Nat) : Nat := a * 65536 + b * 256 + c
def ch (n : Nat) : UInt8 := b64_k1.getD n default
theorem val3 (a b c : UInt8) : IntKind.u64.wrap ((BitVec.ofInt IntKind.u64.bits (IntKind.u64.wrap ((BitVec.ofInt IntKind.u64.bits (IntKind.u64.wrap ((IntKind.u64.wrap (a.toNat : Int)) * 2 ^ min (Int.toNat 16) IntKind.u64.bits)) ||| BitVec.ofInt IntKind.u64.bits (IntKind.u64.wrap ((IntKind.u64.wrap (b.toNat : Int)) * 2 ^ min (Int.toNat 8) IntKind.u64.bits))).toNat)) ||| BitVec.ofInt IntKind.u64.bits (IntKind.u64.wrap (c.toNat : Int))).toNat) = (q3 a.toNat b.toNat c.toNat : Int) := by
  have ha := a.toNat_lt
  have hb := b.toNat_lt
  have hc := c.toNat_lt
  have e16 : (2 : Int) ^ min (Int.toNat 16) IntKind.u64.bits = 65536 := by decide +kernel
  have e8 : (2 : Int) ^ min (Int.toNat 8) IntKind.u64.bits = 256 := by decide +kernel
  rw [e16, e8, u64_id a.toNat (by omega) (by omega), u64_id b.toNat (by omega) (by omega), u64_id c.toNat (by omega) (by omega)]
  rw [u64_id ((a.toNat : Int) * 65536) (by omega) (by omega), u64_id ((b.toNat : Int) * 256) (by omega) (by omega)]
  have e1 : (a.toNat : Int) * 65536 = ((a.toNat * 2 ^ 16 : Nat) : Int) := by omega
  have e2 : (b.toNat : Int) * 256 = ((b.toNat * 256 : Nat) : Int) := by omega
  rw [e1, e2, or_two a.toNat (b.toNat * 256) 16 (by omega) (by omega) (by omega)]
  rw [u64_id ((a.toNat * 2 ^ 16 + b.toNat * 256 : Nat) : Int) (by omega) (by omega)]
  have e3 : a.toNat * 2 ^ 16 + b.toNat * 256 = (a.toNat * 256 + b.toNat) * 2 ^ 8 := by omega
  rw [e3, or_two (a.toNat * 256 + b.toNat) c.toNat 8 (by omega) (by omega) (by omega)]
  rw [u64_id (((a.toNat * 256 + b.toNat) * 2 ^ 8 + c.toNat : Nat) : Int) (by omega) (by omega)]
  unfold q3; omega
theorem idx6 (s : Nat) (v : Nat) (hv : v < 16777216) (hs : s ≤ 18) : IntKind.u64.wrap ((BitVec.ofInt IntKind.u64.bits (Int.fdiv (v : Int) (2 ^ min s IntKind.u64.bits)) &&& BitVec.ofInt IntKind.u64.bits 63).toNat) = ((v / 2 ^ s % 64 : Nat) : Int) := by
  have e : min s IntKind.u64.bits = s := by show min s 64 = s; omega
  have e2 : Int.fdiv (v : Int) (2 ^ s) = ((v / 2 ^ s : Nat) : Int) := by
    have : ((2 : Int) ^ s) = ((2 ^ s : Nat) : Int) := by simp
    rw [this, Int.fdiv_eq_ediv_of_nonneg _ (Int.natCast_nonneg _)]; rfl
  have h1 : v / 2 ^ s ≤ v := Nat.div_le_self _ _
  rw [e, e2, and_63 _ (by omega), u64_id _ (by omega) (by omega)]
theorem k1_len : b64_k1.length = 64 := by decide +kernel
theorem rk_eq : headr_k1 = b64_k1 := by decide +kernel
theorem at_ch (n : Nat) : at_ b64_k1 (n : Int) = ch n := by
  unfold at_ ch; rw [Int.toNat_natCast]
def four (a b c : UInt8) : Bs := let v := q3 a.toNat b.toNat c.toNat; [ch (v / 262144), ch (v / 4096 % 64), ch (v / 64 % 64), ch (v % 64)]
def enc : Bs → Bs
  | a :: b :: c :: r => four a b c ++ enc r
  | [a, b] => (four a b 0).take 3 ++ [61]
  | [a] => (four a 0 0).take 2 ++ [61, 61]
  | [] => []
theorem enc_len : ∀ s : Bs, (enc s).length ≤ 2 * s.length + 2
  | a :: b :: c :: r => by
    have := enc_len r
    simp [enc, four]; omega
  | [a, b] => by simp [enc, four]
  | [a] => by simp [enc, four]
  | [] => by simp [enc]
theorem q3_lt (a b c : UInt8) : q3 a.toNat b.toNat c.toNat < 16777216 := by
  have ha := a.toNat_lt
  have hb := b.toNat_lt
  have hc := c.toNat_lt
  unfold q3; omega
theorem group_eq (F : Nat) (s : Bs) (a b c : UInt8) (hs : s.length ≤ 3) (h : cpyB [0, 0, 0] s = [a, b, c]) :
    b64_group F s = some (ch (q3 a.toNat b.toNat c.toNat / 262144), bif decide ((s.length : Int) < 1) then 61 else ch (q3 a.toNat b.toNat c.toNat / 4096 % 64), bif decide ((s.length : Int) < 2) then 61 else ch (q3 a.toNat b.toNat c.toNat / 64 % 64), bif decide ((s.length : Int) < 3) then 61 else ch (q3 a.toNat b.toNat c.toNat % 64)) := by
  have hq := q3_lt a b c
  unfold b64_group
  rw [grd_D hs, lt_eq, h]
  have g0 : ([a, b, c].getD 0 0) = a := rfl
  have g1 : ([a, b, c].getD 1 0) = b := rfl
  have g2 : ([a, b, c].getD 2 0) = c := rfl
  unfold b64_group_j5 b64_group_j4 b64_group_j3 b64_group_j2 b64_group_j1
  rw [g0, g1, g2, val3]
  have d16 : (decide ((0 : Int) ≤ 16)) = true := rfl
  have i18 := idx6 (Int.toNat 18) _ hq (by decide)
  have i12 := idx6 (Int.toNat 12) _ hq (by decide)
  have i6 := idx6 (Int.toNat 6) _ hq (by decide)
  have i0 := idx6 (Int.toNat 0) _ hq (by decide)
  rw [i18, i12, i6, i0]
  have k : ∀ n : Nat, okAt ((n % 64 : Nat) : Int) b64_k1.length = true := fun n => by rw [k1_len]; exact decide_eq_true (by omega)
  have e18 : q3 a.toNat b.toNat c.toNat / 2 ^ Int.toNat 18 % 64 = q3 a.toNat b.toNat c.toNat / 262144 := by
    show q3 a.toNat b.toNat c.toNat / 262144 % 64 = _; omega
  have e12 : q3 a.toNat b.toNat c.toNat / 2 ^ Int.toNat 12 % 64 = q3 a.toNat b.toNat c.toNat / 4096 % 64 := rfl
  have e6 : q3 a.toNat b.toNat c.toNat / 2 ^ Int.toNat 6 % 64 = q3 a.toNat b.toNat c.toNat / 64 % 64 := rfl
  have e0 : q3 a.toNat b.toNat c.toNat / 2 ^ Int.toNat 0 % 64 = q3 a.toNat b.toNat c.toNat % 64 := by
    show q3 a.toNat b.toNat c.toNat / 1 % 64 = _; omega
  have k2 : okAt ((q3 a.toNat b.toNat c.toNat / 262144 : Nat) : Int) b64_k1.length = true := by rw [k1_len]; exact decide_eq_true (by omega)
  simp (disch := first | omega | decide) only [grd_D, k, grd_t, lt_eq, at_ch, e18, e12, e6, e0, k2]
  rw [bF (by omega)]
  by_cases h1 : (s.length : Int) < 1
  · simp (disch := omega) only [bT]
  · by_cases h2 : (s.length : Int) < 2
    · simp (disch := omega) only [bT, bF]
    · by_cases h3 : (s.length : Int) < 3
      · simp (disch := omega) only [bT, bF]
      · simp (disch := omega) only [bF]
theorem raw_loop (F : Nat) : ∀ (n : Nat) (s out : Bs), s.length < n → out.length + 4 * s.length + 10 ≤ 100000000 → b64_Raw_L1 F n (s, out) = some (out ++ enc s) := by
  intro n
  induction n with
  | zero => intro s out h; omega
  | succ n ih =>
    intro s out hn hl
    show b64_Raw_B1 F (b64_Raw_L1 F n) s out = _
    unfold b64_Raw_B1
    have key : ∀ (p r g : Bs) (a b c : UInt8) (x y z w : UInt8), s = p ++ r → (min 3 (s.length : Int)) = (p.length : Int) → 1 ≤ p.length → p.length ≤ 3 → cpyB [0, 0, 0] p = [a, b, c] →
        b64_group F p = some (x, y, z, w) → enc s = [x, y, z, w] ++ enc r →
        (bif decide (0 < (s.length : Int)) then grd (okTo (min 3 (s.length : Int)) s.length) <| lt (to_ s (min 3 (s.length : Int))) fun x14 => bnd4 (b64_group F x14) fun x16 x17 x18 x19 => grd (okW out ([x16, x17, x18, x19] : List UInt8)) <| lt (out ++ ([x16, x17, x18, x19] : List UInt8)) fun x23 => grd (okTo (min 3 (s.length : Int)) s.length) <| lt (from_ s (min 3 (s.length : Int))) fun x27 => b64_Raw_L1 F n (x27, x23) else b64_Raw_j1 out) = some (out ++ enc s) := by
      intro p r g a b c x y z w hs hm h1 h3 hc hg he
      have hlen : s.length = p.length + r.length := by rw [hs]; simp
      rw [bT (by omega), grd_To (by omega), lt_eq, hm, to_nat]
      have e1 : s.take p.length = p := by rw [hs]; simp
      have e2 : s.drop p.length = r := by rw [hs]; simp
      rw [e1, hg]
      show grd (okW out [x, y, z, w]) _ = _
      rw [grd_W (by simp; omega), lt_eq, grd_To (by omega), lt_eq, from_nat, e2, ih _ _ (by omega) (by simp; omega), he]
      simp
    match s with
    | a :: b :: c :: r =>
      refine key [a, b, c] r [] a b c _ _ _ _ rfl (by simp; omega) (by simp) (by simp) rfl (group_eq F _ a b c (by simp) rfl) ?_
      rw [bF (by simp), bF (by simp), bF (by simp)]; rfl
    | [a, b] =>
      refine key [a, b] [] [] a b 0 _ _ _ _ rfl (by simp; try omega) (by simp) (by simp) rfl (group_eq F _ a b 0 (by simp) rfl) ?_
      rw [bF (by simp), bF (by simp), bT (by simp)]; rfl
    | [a] =>
      refine key [a] [] [] a 0 0 _ _ _ _ rfl (by simp; try omega) (by simp) (by simp) rfl (group_eq F _ a 0 0 (by simp) rfl) ?_
      rw [bF (by simp), bT (by simp), bT (by simp)]; rfl
    | [] =>
      rw [bF (by simp)]
      unfold b64_Raw_j1
      rw [grd_W (by simp at hl ⊢; omega)]; simp [enc]
theorem Raw_eq (F : Nat) (s : Bs) (hF : s.length < F) (hs : s.length ≤ 1000000) : b64_Raw F s = some (enc s) := by
  have := raw_loop F F s [] hF (by simp; omega)
  rw [List.nil_append] at this
  exact this
theorem rat_ch (n : Nat) : at_ headr_k1 (n : Int) = ch n := by rw [rk_eq]; exact at_ch n
theorem rk_len : headr_k1.length = 64 := by rw [rk_eq]; exact k1_len
theorem okc (n : Nat) (h : n < 64) : okAt (n : Int) headr_k1.length = true := by rw [rk_len]; exact decide_eq_true (by omega)
def gb (s : Bs) (i : Nat) : UInt8 := s.getD i 0
theorem j4_eq (s out : Bs) (i v : Nat) (rec8 : (Bs × Int) → Option Bs) (hs : s.length ≤ 1000000) (hi : i < s.length) (hv : v < 16777216) (ho : out.length ≤ 100000000) :
    ref13_Raw_j4 s out (i : Int) rec8 (v : Int) = rec8 (out ++ [ch (v / 262144), ch (v / 4096 % 64), bif decide (i + 1 < s.length) then ch (v / 64 % 64) else 61, bif decide (i + 2 < s.length) then ch (v % 64) else 61], ((i + 3 : Nat) : Int)) := by
  unfold ref13_Raw_j4
  have a1 : ((v : Int) / 262144) = ((v / 262144 : Nat) : Int) := by omega
  have a2 : ((v : Int) / 4096 % 64) = ((v / 4096 % 64 : Nat) : Int) := by omega
  have a3 : ((v : Int) / 64 % 64) = ((v / 64 % 64 : Nat) : Int) := by omega
  have a4 : ((v : Int) % 64) = ((v % 64 : Nat) : Int) := by omega
  have a5 : ((i : Int) + 3) = ((i + 3 : Nat) : Int) := by omega
  have hq : ∀ n : Nat, okAt ((n % 64 : Nat) : Int) headr_k1.length = true := fun n => okc _ (by omega)
  rw [grd_Div (by omega), a1, okc _ (by omega), grd_t, lt_eq, rat_ch, grd_Div (by omega), grd_Div (by omega), a2, hq, grd_t, lt_eq, rat_ch, grd_Cat (by simp; omega), lt_eq, grd_I (by omega)]
  unfold ref13_Raw_j3 ref13_Raw_j2
  by_cases h1 : i + 1 < s.length
  · rw [bT (show (i : Int) + 1 < s.length by omega), bT h1, grd_Div (by omega), grd_Div (by omega), a3, hq, grd_t, lt_eq, rat_ch, grd_Cat (by simp; omega), lt_eq, grd_I (by omega)]
    by_cases h2 : i + 2 < s.length
    · rw [bT (show (i : Int) + 2 < s.length by omega), bT h2, grd_Div (by omega), a4, hq, grd_t, lt_eq, rat_ch, grd_Cat (by simp; omega), lt_eq, grd_I (by omega), a5]
      simp
    · rw [bF (show ¬ (i : Int) + 2 < s.length by omega), bF h2, grd_Cat (by simp; omega), lt_eq, grd_I (by omega), a5]
      simp
  · rw [bF (show ¬ (i : Int) + 1 < s.length by omega), bF h1, grd_Cat (by simp; omega), lt_eq, grd_I (by omega)]
    rw [bF (show ¬ (i : Int) + 2 < s.length by omega), bF (show ¬ i + 2 < s.length by omega), grd_Cat (by simp; omega), lt_eq, grd_I (by omega), a5]
    simp
theorem rL1s (s out : Bs) (i : Int) (m : Nat) (rec8 : (Bs × Int) → Option Bs) (x : Int × Int) : ref13_Raw_L1 s out i rec8 (m + 1) x = ref13_Raw_B1 s out i rec8 (ref13_Raw_L1 s out i rec8 m) x.1 x.2 := rfl
theorem in_step (s out : Bs) (i j v m : Nat) (rec8 : (Bs × Int) → Option Bs) (hs : s.length ≤ 1000000) (hi : i < s.length) (hj : j < i + 3) (hv : v < 16777216) :
    ref13_Raw_L1 s out (i : Int) rec8 (m + 1) ((v : Int), (j : Int)) = ref13_Raw_L1 s out (i : Int) rec8 m (((256 * v + (gb s j).toNat : Nat) : Int), ((j + 1 : Nat) : Int)) := by
  show ref13_Raw_B1 s out (i : Int) rec8 (ref13_Raw_L1 s out (i : Int) rec8 m) (v : Int) (j : Int) = _
  unfold ref13_Raw_B1 ref13_Raw_j5
  rw [grd_I (by omega), bT (by omega), grd_I (by omega)]
  by_cases h : j < s.length
  · have h8 := s[j].toNat_lt
    rw [bT (by omega), grd_At (by omega), lt_eq, at_nat h, grd_I (by omega), grd_I (by omega)]
    have : gb s j = s[j] := by simp [gb, h]
    rw [this]; rfl
  · rw [bF (by omega), grd_I (by omega)]
    have : gb s j = 0 := by simp [gb, List.getD, List.getElem?_eq_none (show s.length ≤ j by omega)]
    rw [this]; rfl
theorem in_three (s out : Bs) (i m : Nat) (rec8 : (Bs × Int) → Option Bs) (hs : s.length ≤ 1000000) (hi : i < s.length) :
    ref13_Raw_L1 s out (i : Int) rec8 (m + 3) (((0 : Nat) : Int), (i : Int)) = ref13_Raw_L1 s out (i : Int) rec8 m (((q3 (gb s i).toNat (gb s (i + 1)).toNat (gb s (i + 2)).toNat : Nat) : Int), ((i + 3 : Nat) : Int)) := by
  have h0 := (gb s i).toNat_lt
  have h1 := (gb s (i + 1)).toNat_lt
  have h2 := (gb s (i + 2)).toNat_lt
  refine (in_step s out i i 0 (m + 2) rec8 hs hi (by omega) (by omega)).trans ?_
  refine (in_step s out i (i + 1) (256 * 0 + (gb s i).toNat) (m + 1) rec8 hs hi (by omega) (by omega)).trans ?_
  refine (in_step s out i (i + 2) (256 * (256 * 0 + (gb s i).toNat) + (gb s (i + 1)).toNat) m rec8 hs hi (by omega) (by omega)).trans ?_
  have e : 256 * (256 * (256 * 0 + (gb s i).toNat) + (gb s (i + 1)).toNat) + (gb s (i + 2)).toNat = q3 (gb s i).toNat (gb s (i + 1)).toNat (gb s (i + 2)).toNat := by unfold q3; omega
  rw [e]
theorem enc_drop (s : Bs) (i : Nat) (h : i < s.length) : enc (s.drop i) = [ch (q3 (gb s i).toNat (gb s (i + 1)).toNat (gb s (i + 2)).toNat / 262144), ch (q3 (gb s i).toNat (gb s (i + 1)).toNat (gb s (i + 2)).toNat / 4096 % 64), bif decide (i + 1 < s.length) then ch (q3 (gb s i).toNat (gb s (i + 1)).toNat (gb s (i + 2)).toNat / 64 % 64) else 61, bif decide (i + 2 < s.length) then ch (q3 (gb s i).toNat (gb s (i + 1)).toNat (gb s (i + 2)).toNat % 64) else 61] ++ enc (s.drop (i + 3)) := by
  have g : ∀ k, gb s (i + k) = (s.drop i).getD k 0 := by intro k; simp [gb, List.getD]
  have g0 := g 0
  have g1 := g 1
  have g2 := g 2
  have hl : (s.drop i).length = s.length - i := by simp
  have hd : s.drop (i + 3) = (s.drop i).drop 3 := by simp
  rw [Nat.add_zero] at g0
  rw [g0, g1, g2, hd]
  match hm : s.drop i with
  | a :: b :: c :: r => rw [hm] at hl; simp at hl; rw [bT (by omega), bT (by omega)]; rfl
  | [a, b] => rw [hm] at hl; simp at hl; rw [bT (by omega), bF (by omega)]; rfl
  | [a] => rw [hm] at hl; simp at hl; rw [bF (by omega), bF (by omega)]; rfl
  | [] => rw [hm] at hl; simp at hl; omega
theorem rraw_loop (F : Nat) (hF : 4 ≤ F) (s : Bs) (hs : s.length ≤ 1000000) : ∀ (n i : Nat) (out : Bs), s.length - i < n → i ≤ s.length + 3 → out.length ≤ 4 * i → ref13_Raw_L2 F s n (out, (i : Int)) = some (out ++ enc (s.drop i)) := by
  intro n
  induction n with
  | zero => intro i out h; omega
  | succ n ih =>
    intro i out hn hi ho
    show ref13_Raw_B2 F s (ref13_Raw_L2 F s n) out (i : Int) = _
    unfold ref13_Raw_B2
    by_cases h : i < s.length
    · obtain ⟨m, rfl⟩ : ∃ m, F = m + 4 := ⟨F - 4, by omega⟩
      have hq := q3_lt (gb s i) (gb s (i + 1)) (gb s (i + 2))
      rw [bT (by omega)]
      have h3 := in_three s out i (m + 1) (ref13_Raw_L2 (m + 4) s n) hs h
      refine h3.trans ?_
      rw [rL1s]
      unfold ref13_Raw_B1
      rw [grd_I (by omega), bF (by omega), j4_eq s out i _ _ hs h (by omega) (by omega), ih _ _ (by omega) (by omega) (by simp; omega), enc_drop s i h, List.append_assoc]
    · have hd : s.drop i = [] := List.drop_eq_nil_of_le (by omega)
      rw [bF (by omega), hd]
      unfold ref13_Raw_j1; simp [enc]
theorem rRaw_eq (F : Nat) (s : Bs) (hF : s.length + 4 < F) (hs : s.length ≤ 1000000) : ref13_Raw F s = some (enc s) := by
  have := rraw_loop F (by omega) s hs F 0 [] (by omega) (by omega) (by simp)
  rw [List.nil_append, List.drop_zero] at this
  exact this
end Go.Hd
namespace Go.Hd
open Go.Pv Go.Av
theorem of_all64 (p : Nat → Bool) (h : ∀ k : Fin 64, p k.val = true) (n : Nat) (hn : n < 64) : p n = true := h ⟨n, hn⟩
def num (c : UInt8) : Int := if c = 61 then 0 else Go.Lib.indexByte b64_k1 c
theorem num_ch (n : Nat) (h : n < 64) : num (ch n) = n ∧ ch n ≠ 61 := by
  have := of_all64 (fun n => decide (num (ch n) = n ∧ ch n ≠ 61)) (by decide +kernel) n h
  exact of_decide_eq_true this
def stp (acc n : Int) (c : UInt8) : Option (Int × Int) :=
  if num c < 0 ∨ (if c = 61 then n - 1 else n) < 1 then none
  else some (IntKind.u64.wrap ((BitVec.ofInt IntKind.u64.bits (IntKind.u64.wrap (acc * 2 ^ min (Int.toNat 6) IntKind.u64.bits)) ||| BitVec.ofInt IntKind.u64.bits (IntKind.u64.wrap (num c))).toNat), (if c = 61 then n - 1 else n))
theorem stp_ch (acc : Nat) (n : Int) (k : Nat) (ha : acc < 262144) (hk : k < 64) (hn : 1 ≤ n) : stp (acc : Int) n (ch k) = some (((acc * 64 + k : Nat) : Int), n) := by
  have ⟨h1, h2⟩ := num_ch k hk
  have e6 : (2 : Int) ^ min (Int.toNat 6) IntKind.u64.bits = 64 := by decide +kernel
  have e7 : (acc : Int) * 64 = ((acc * 2 ^ 6 : Nat) : Int) := by omega
  unfold stp
  rw [if_neg h2, if_neg (by omega), h1, e6, u64_id ((acc : Int) * 64) (by omega) (by omega), u64_id (k : Int) (by omega) (by omega), e7, or_two acc k 6 (by omega) (by omega) (by omega), u64_id ((acc * 2 ^ 6 + k : Nat) : Int) (by omega) (by omega)]
theorem stp_pad (acc : Nat) (n : Int) (ha : acc < 262144) (hn : 2 ≤ n) : stp (acc : Int) n 61 = some (((acc * 64 : Nat) : Int), n - 1) := by
  have e6 : (2 : Int) ^ min (Int.toNat 6) IntKind.u64.bits = 64 := by decide +kernel
  have e7 : (acc : Int) * 64 = ((acc * 2 ^ 6 : Nat) : Int) := by omega
  have e8 : num 61 = ((0 : Nat) : Int) := rfl
  unfold stp
  rw [if_pos rfl, if_neg (by rw [e8]; omega), e8, e6, u64_id ((acc : Int) * 64) (by omega) (by omega), u64_id ((0 : Nat) : Int) (by omega) (by omega), e7, or_two acc 0 6 (by omega) (by omega) (by omega), u64_id ((acc * 2 ^ 6 + 0 : Nat) : Int) (by omega) (by omega), Nat.add_zero]
def g4 (c0 c1 c2 c3 : UInt8) : Option (Int × Int) :=
  match stp 0 3 c0 with
  | none => none
  | some (a, n) => match stp a n c1 with
    | none => none
    | some (a, n) => match stp a n c2 with
      | none => none
      | some (a, n) => stp a n c3
def three (v n : Int) : Bs := to_ ([Go.Av.toB (Int.fdiv v (2 ^ min (Int.toNat 16) IntKind.u64.bits)), Go.Av.toB (Int.fdiv v (2 ^ min (Int.toNat 8) IntKind.u64.bits)), Go.Av.toB v] : Bs) n
def decP : Bs → Option Bs
  | [] => some []
  | c0 :: c1 :: c2 :: c3 :: r => match g4 c0 c1 c2 c3 with
    | none => none
    | some (v, n) => match decP r with
      | none => none
      | some d => some (three v n ++ d)
  | _ => none
theorem toB_v (v : Nat) (b : UInt8) (h : v % 256 = b.toNat) : Go.Av.toB (v : Int) = b := by
  have e : ((v : Int) % 256).toNat = b.toNat := by omega
  unfold Go.Av.toB
  rw [e]; simp
theorem fd (v k : Nat) : Int.fdiv (v : Int) ((k : Nat) : Int) = ((v / k : Nat) : Int) := by
  rw [Int.fdiv_eq_ediv_of_nonneg _ (Int.natCast_nonneg _)]; rfl
theorem three_q (a b c : UInt8) (n : Nat) : three (q3 a.toNat b.toNat c.toNat : Int) (n : Int) = [a, b, c].take n := by
  have ha := a.toNat_lt
  have hb := b.toNat_lt
  have hc := c.toNat_lt
  have e16 : (2 : Int) ^ min (Int.toNat 16) IntKind.u64.bits = ((65536 : Nat) : Int) := by decide +kernel
  have e8 : (2 : Int) ^ min (Int.toNat 8) IntKind.u64.bits = ((256 : Nat) : Int) := by decide +kernel
  unfold three
  rw [e16, e8, fd, fd, toB_v _ a (by unfold q3; omega), toB_v _ b (by unfold q3; omega), toB_v _ c (by unfold q3; omega), to_nat]
theorem g4_full (a b c : UInt8) : g4 (ch (q3 a.toNat b.toNat c.toNat / 262144)) (ch (q3 a.toNat b.toNat c.toNat / 4096 % 64)) (ch (q3 a.toNat b.toNat c.toNat / 64 % 64)) (ch (q3 a.toNat b.toNat c.toNat % 64)) = some (((q3 a.toNat b.toNat c.toNat : Nat) : Int), 3) := by
  have hq := q3_lt a b c
  generalize q3 a.toNat b.toNat c.toNat = v at hq
  have h0 := stp_ch 0 3 (v / 262144) (by omega) (by omega) (by omega)
  have h1 := stp_ch (0 * 64 + v / 262144) 3 (v / 4096 % 64) (by omega) (by omega) (by omega)
  have h2 := stp_ch ((0 * 64 + v / 262144) * 64 + v / 4096 % 64) 3 (v / 64 % 64) (by omega) (by omega) (by omega)
  have h3 := stp_ch (((0 * 64 + v / 262144) * 64 + v / 4096 % 64) * 64 + v / 64 % 64) 3 (v % 64) (by omega) (by omega) (by omega)
  have e : (((0 * 64 + v / 262144) * 64 + v / 4096 % 64) * 64 + v / 64 % 64) * 64 + v % 64 = v := by omega
  rw [e] at h3
  unfold g4
  rw [show (0 : Int) = ((0 : Nat) : Int) from rfl, h0]
  simp only [h1, h2, h3]
theorem g4_two (a b : UInt8) : g4 (ch (q3 a.toNat b.toNat 0 / 262144)) (ch (q3 a.toNat b.toNat 0 / 4096 % 64)) (ch (q3 a.toNat b.toNat 0 / 64 % 64)) 61 = some (((q3 a.toNat b.toNat 0 : Nat) : Int), 2) := by
  have hq := q3_lt a b 0
  have hv : q3 a.toNat b.toNat 0 % 64 = 0 := by unfold q3; omega
  have hz : (0 : UInt8).toNat = 0 := rfl
  rw [hz] at hq
  generalize q3 a.toNat b.toNat 0 = v at hq hv
  have h0 := stp_ch 0 3 (v / 262144) (by omega) (by omega) (by omega)
  have h1 := stp_ch (0 * 64 + v / 262144) 3 (v / 4096 % 64) (by omega) (by omega) (by omega)
  have h2 := stp_ch ((0 * 64 + v / 262144) * 64 + v / 4096 % 64) 3 (v / 64 % 64) (by omega) (by omega) (by omega)
  have h3 := stp_pad (((0 * 64 + v / 262144) * 64 + v / 4096 % 64) * 64 + v / 64 % 64) 3 (by omega) (by omega)
  have e : (((0 * 64 + v / 262144) * 64 + v / 4096 % 64) * 64 + v / 64 % 64) * 64 = v := by omega
  rw [e] at h3
  unfold g4
  rw [show (0 : Int) = ((0 : Nat) : Int) from rfl, h0]
  simp only [h1, h2, h3]; rfl
theorem g4_one (a : UInt8) : g4 (ch (q3 a.toNat 0 0 / 262144)) (ch (q3 a.toNat 0 0 / 4096 % 64)) 61 61 = some (((q3 a.toNat 0 0 : Nat) : Int), 1) := by
  have hq := q3_lt a 0 0
  have hv : q3 a.toNat 0 0 % 4096 = 0 := by unfold q3; omega
  have hz : (0 : UInt8).toNat = 0 := rfl
  rw [hz] at hq
  generalize q3 a.toNat 0 0 = v at hq hv
  have h0 := stp_ch 0 3 (v / 262144) (by omega) (by omega) (by omega)
  have h1 := stp_ch (0 * 64 + v / 262144) 3 (v / 4096 % 64) (by omega) (by omega) (by omega)
  have h2 := stp_pad ((0 * 64 + v / 262144) * 64 + v / 4096 % 64) 3 (by omega) (by omega)
  have h3 := stp_pad (((0 * 64 + v / 262144) * 64 + v / 4096 % 64) * 64) (3 - 1) (by omega) (by omega)
  have e : (((0 * 64 + v / 262144) * 64 + v / 4096 % 64) * 64) * 64 = v := by omega
  rw [e] at h3
  unfold g4
  rw [show (0 : Int) = ((0 : Nat) : Int) from rfl, h0]
  simp only [h1, h2, h3]; rfl
theorem decP_enc : ∀ b : Bs, decP (enc b) = some b
  | a :: b :: c :: r => by
    have ih := decP_enc r
    show decP (_ :: _ :: _ :: _ :: enc r) = _
    unfold decP
    rw [g4_full, ih]
    show some (three (q3 a.toNat b.toNat c.toNat : Int) ((3 : Nat) : Int) ++ r) = _
    rw [three_q]; rfl
  | [a, b] => by
    show decP (_ :: _ :: _ :: _ :: []) = _
    unfold decP
    rw [show (0 : UInt8).toNat = 0 from rfl, g4_two]
    show some (three (q3 a.toNat b.toNat (0 : UInt8).toNat : Int) ((2 : Nat) : Int) ++ []) = _
    rw [three_q]; rfl
  | [a] => by
    show decP (_ :: _ :: _ :: _ :: []) = _
    unfold decP
    rw [show (0 : UInt8).toNat = 0 from rfl, g4_one]
    show some (three (q3 a.toNat (0 : UInt8).toNat (0 : UInt8).toNat : Int) ((1 : Nat) : Int) ++ []) = _
    rw [three_q]; rfl
  | [] => rfl
theorem enc_inj {a b : Bs} (h : enc a = enc b) : a = b := by
  have := decP_enc a
  rw [h, decP_enc] at this
  exact (Option.some.inj this).symm
open Classical in
noncomputable def dec (s : Bs) : Bs × Int := if h : ∃ b, enc b = s then (h.choose, 0) else ([], 2)
theorem dec_enc (b : Bs) : dec (enc b) = (b, 0) := by
  have h : ∃ x, enc x = enc b := ⟨b, rfl⟩
  unfold dec
  rw [dif_pos h]
  exact Prod.ext (enc_inj h.choose_spec) rfl
theorem dec_no {s : Bs} (h : ¬ ∃ b, enc b = s) : dec s = ([], 2) := by unfold dec; rw [dif_neg h]
end Go.Hd
