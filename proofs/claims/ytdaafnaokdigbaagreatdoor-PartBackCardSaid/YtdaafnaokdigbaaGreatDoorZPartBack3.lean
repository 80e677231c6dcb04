/-
  Texts in one (only what PartBack needs): QpP, QpW, B64P, B64W, HeadAP, HeadAW, HeadBP, HeadBW.
-/
import Derived.Test.YtdaafnaokdigbaaGreatDoorZPartBack2
import Derived.Test.YtdaafnaokdigbaaGreatDoorShelf
import Derived.Test.YtdaafnaokdigbaaGreatDoorChecked
set_option linter.unusedVariables false
set_option linter.unusedSimpArgs false
namespace Go.Pv
def qp_code (F : Nat) (a1 : UInt8) (a2 : List UInt8) : Option ((List UInt8)) :=
grdc (((decide (a1 = 32)) || (decide (a1 = 9))) && (decide (0 < (a2.length : Int)))) (okAt 0 a2.length) <|
lt (at_ a2 0) fun x9 =>
bif ((((decide (a1 = 32)) || (decide (a1 = 9))) && (decide (0 < (a2.length : Int)))) && (!decide (x9 = 10))) || (((decide (32 < (a1.toNat : Int))) && (decide ((a1.toNat : Int) < 127))) && (!decide (a1 = 61))) then
  some ([a1] : List UInt8)
else
  grd (okAt ((Go.Av.shr8 a1 4).toNat : Int) ([48, 49, 50, 51, 52, 53, 54, 55, 56, 57, 65, 66, 67, 68, 69, 70] : List UInt8).length) <|
  lt (at_ ([48, 49, 50, 51, 52, 53, 54, 55, 56, 57, 65, 66, 67, 68, 69, 70] : List UInt8) ((Go.Av.shr8 a1 4).toNat : Int)) fun x16 =>
  grd (okAt ((a1 &&& 15).toNat : Int) ([48, 49, 50, 51, 52, 53, 54, 55, 56, 57, 65, 66, 67, 68, 69, 70] : List UInt8).length) <|
  lt (at_ ([48, 49, 50, 51, 52, 53, 54, 55, 56, 57, 65, 66, 67, 68, 69, 70] : List UInt8) ((a1 &&& 15).toNat : Int)) fun x19 =>
  some ([61, x16, x19] : List UInt8)
def qp_digit_j1 (y6 : UInt8) : Option (UInt8 × Bool) :=
lt (Go.Lib.indexByte ([48, 49, 50, 51, 52, 53, 54, 55, 56, 57, 65, 66, 67, 68, 69, 70] : List UInt8) y6) fun x8 =>
some (Go.Av.toB (max x8 0), decide (0 ≤ x8))
def qp_digit (F : Nat) (a1 : UInt8) : Option (UInt8 × Bool) :=
bif (decide (97 ≤ (a1.toNat : Int))) && (decide ((a1.toNat : Int) ≤ 102)) then
  qp_digit_j1 (a1 - 32)
else
  qp_digit_j1 a1
def qp_Decode_j1 (y62 : List UInt8) : Option ((List UInt8) × Int) :=
some (y62, 0)
def qp_Decode_j2 (y6 : List UInt8) (rec9 : ((List UInt8) × (List UInt8)) → Option ((List UInt8) × Int)) (y55 : List UInt8) (y57 : Int) : Option ((List UInt8) × Int) :=
grd (okTo y57 y6.length) <|
lt (from_ y6 y57) fun x60 =>
rec9 (x60, y55)
def qp_Decode_B1 (F : Nat) (rec9 : ((List UInt8) × (List UInt8)) → Option ((List UInt8) × Int)) (y6 : List UInt8) (y7 : List UInt8) : Option ((List UInt8) × Int) :=
bif decide (0 < (y6.length : Int)) then
  grd (okAt 0 y6.length) <|
  lt (at_ y6 0) fun x13 =>
  lt (Go.Lib.hasPrefix y6 ([13, 10] : List UInt8)) fun x16 =>
  bif x16 then
    grd (okCat (y7.length + ([10] : List UInt8).length)) <|
    lt (y7 ++ ([10] : List UInt8)) fun x21 =>
    qp_Decode_j2 y6 rec9 x21 2
  else
    lt (Go.Lib.hasPrefix y6 ([61, 13, 10] : List UInt8)) fun x24 =>
    bif x24 then
      qp_Decode_j2 y6 rec9 y7 3
    else
      bif (decide (x13 = 61)) && (decide (2 < (y6.length : Int))) then
        grd (okAt 1 y6.length) <|
        lt (at_ y6 1) fun x30 =>
        bnd2 (qp_digit F x30) fun x32 x33 =>
        grd (okAt 2 y6.length) <|
        lt (at_ y6 2) fun x36 =>
        bnd2 (qp_digit F x36) fun x38 x39 =>
        bif (!x33) || (!x39) then
          some ([], 2)
        else
          grd (okCat (y7.length + ([(Go.Av.shl8 x32 4) ||| x38] : List UInt8).length)) <|
          lt (y7 ++ ([(Go.Av.shl8 x32 4) ||| x38] : List UInt8)) fun x45 =>
          qp_Decode_j2 y6 rec9 x45 3
      else
        bif (!decide (x13 = 61)) && (((decide (32 ≤ (x13.toNat : Int))) && (decide ((x13.toNat : Int) < 127))) || (decide (x13 = 9))) then
          grd (okCat (y7.length + ([x13] : List UInt8).length)) <|
          lt (y7 ++ ([x13] : List UInt8)) fun x53 =>
          qp_Decode_j2 y6 rec9 x53 1
        else
          some ([], 2)
else
  qp_Decode_j1 y7
def qp_Decode_L1 (F : Nat) (n : Nat) : ((List UInt8) × (List UInt8)) → Option ((List UInt8) × Int) :=
  loop (fun rec x => qp_Decode_B1 F rec x.1 x.2) n
def qp_Decode (F : Nat) (a1 : List UInt8) : Option ((List UInt8) × Int) :=
qp_Decode_L1 F F (a1, [])
def qp_put_j1 (a5 : List UInt8) (y15 : List UInt8) (y17 : Int) : Option ((List UInt8) × Int) :=
grd (okCat (y15.length + a5.length)) <|
lt (y15 ++ a5) fun x21 =>
grd (okI (y17 + (a5.length : Int))) <|
some (x21, y17 + (a5.length : Int))
def qp_put (F : Nat) (a2 : List UInt8) (a4 : Int) (a5 : List UInt8) : Option ((List UInt8) × Int) :=
grd (okI (a4 + (a5.length : Int))) <|
bif decide (75 < a4 + (a5.length : Int)) then
  grd (okCat (a2.length + ([61, 13, 10] : List UInt8).length)) <|
  lt (a2 ++ ([61, 13, 10] : List UInt8)) fun x13 =>
  qp_put_j1 a5 x13 0
else
  qp_put_j1 a5 a2 a4
def qp_Encode_j1 (y36 : List UInt8) (y38 : Int) : Option ((List UInt8)) :=
some y36
def qp_Encode_j2 (y6 : Int) (rec10 : (Int × (List UInt8) × Int) → Option ((List UInt8))) (y31 : List UInt8) (y33 : Int) : Option ((List UInt8)) :=
grd (okI (y6 + 1)) <|
rec10 (y6 + 1, y31, y33)
def qp_Encode_B1 (F : Nat) (a1 : List UInt8) (rec10 : (Int × (List UInt8) × Int) → Option ((List UInt8))) (y6 : Int) (y7 : List UInt8) (y9 : Int) : Option ((List UInt8)) :=
bif decide (y6 < (a1.length : Int)) then
  grd (okAt y6 a1.length) <|
  lt (at_ a1 y6) fun x14 =>
  bif decide (x14 = 10) then
    grd (okCat (y7.length + ([13, 10] : List UInt8).length)) <|
    lt (y7 ++ ([13, 10] : List UInt8)) fun x19 =>
    qp_Encode_j2 y6 rec10 x19 0
  else
    grd (okI (y6 + 1)) <|
    grd (okTo (y6 + 1) a1.length) <|
    lt (from_ a1 (y6 + 1)) fun x23 =>
    bnd (qp_code F x14 x23) fun x25 =>
    bnd2 (qp_put F y7 y9 x25) fun x27 x28 =>
    qp_Encode_j2 y6 rec10 x27 x28
else
  qp_Encode_j1 y7 y9
def qp_Encode_L1 (F : Nat) (a1 : List UInt8) (n : Nat) : (Int × (List UInt8) × Int) → Option ((List UInt8)) :=
  loop (fun rec x => qp_Encode_B1 F a1 rec x.1 x.2.1 x.2.2) n
def qp_Encode (F : Nat) (a1 : List UInt8) : Option ((List UInt8)) :=
qp_Encode_L1 F a1 F (0, [], 0)
end Go.Pv
namespace Go.Proofs.YtdaafnaokdigbaaGreatDoor
open Go.RowKit Go.Av Go.Pv
theorem en41_qp : ∀ (args : Array Value) (w : World), (callFunc 41 args).run Tryz.prog w = .ok (.enter 41 args) w := fun _ _ => by kernel_rfl
theorem en44_qp : ∀ (args : Array Value) (w : World), (callFunc 44 args).run Tryz.prog w = .ok (.enter 44 args) w := fun _ _ => by kernel_rfl
theorem en45_qp : ∀ (args : Array Value) (w : World), (callFunc 45 args).run Tryz.prog w = .ok (.enter 45 args) w := fun _ _ => by kernel_rfl
theorem en50_qp : ∀ (args : Array Value) (w : World), (callFunc 50 args).run Tryz.prog w = .ok (.enter 50 args) w := fun _ _ => by kernel_rfl
theorem en79_qp : ∀ (args : Array Value) (w : World), (callFunc 79 args).run Tryz.prog w = .ok (.enter 79 args) w := fun _ _ => by kernel_rfl
set_option maxRecDepth 100000 in
set_option maxHeartbeats 1000000 in
theorem w_qp_code (F : Nat) (a1 : UInt8) (a2 : List UInt8) (q3 : Option Nat) (r4 : List UInt8) (H : qp_code F a1 a2 = some r4) : ACalls Tryz.prog 45 [u8 a1, slE Enc.byte a2 q3] [] (Ret (S r4) []) := by
 unfold qp_code at H
 refine ACalls.of_body Tryz.func45 rfl rfl ?_
 show AW _ _ 47 _ _ _
 refine AW.seq ?_
 refine AW.region ?_
 show AR _ _ _ _ _ [0] _
 refine sS rfl rfl rfl (asg rfl) ?_
 refine AR.nil ?_
 show AW _ _ _ _ _ _
 refine AW.seq ?_
 refine AW.region ?_
 show AR _ _ _ _ _ [0, 1, 2, 3, 4, 5, 6] _
 refine sS rfl rfl rfl (mv rfl) ?_
 refine sS rfl rfl rfl (g_eq8 (a := a1) (b := 32) rfl rfl) ?_
 refine sS rfl rfl rfl (mv rfl) ?_
 refine AR.meet (l := [6]) 11 (B ((decide (a1 = 32)) || (decide (a1 = 9)))) (fun K => ?_) ?_
 ·rcases Bool.eq_false_or_eq_true (decide (a1 = 32)) with h5 | h5
  ·
   refine gF h5 rfl rfl rfl rfl rfl ?_
   refine gF h5 rfl rfl rfl rfl rfl ?_
   refine sS rfl rfl rfl (opS_pick_t (av := .v _) rfl h5 rfl) ?_
   exact K _ 2 _ (B_congr (or_t h5)) rfl rfl
  ·
   refine gT h5 rfl rfl rfl rfl rfl rfl (AO.ops rfl rfl (mv rfl) ?_)
   refine gT h5 rfl rfl rfl rfl rfl rfl (AO.ops rfl rfl (g_eq8 (a := a1) (b := 9) rfl rfl) ?_)
   refine sS rfl rfl rfl (opS_pick_f (av := .v _) rfl h5 rfl) ?_
   exact K _ 2 _ (B_congr (or_f h5)) rfl rfl
 refine sS rfl rfl rfl (asg rfl) ?_
 refine AR.nil ?_
 show AW _ _ _ _ _ _
 refine AW.seq ?_
 refine AW.seq ?_
 obtain ⟨g8, H⟩ := grdc_s H
 obtain ⟨x9, e10, H⟩ := lt_s H
 refine AW.region ?_
 show AR _ _ _ _ _ [0, 1, 2, 3, 4, 5, 6, 7, 8, 9, 10, 11, 12, 13, 14, 15, 16, 17, 18, 19, 20, 21, 22, 23] _
 refine sS rfl rfl rfl (mv rfl) ?_
 refine sS rfl rfl rfl (mv rfl) ?_
 refine AR.meet (l := [6, 7, 8, 9, 10, 11, 12, 13, 14, 15, 16, 17, 18, 19, 20, 21, 22, 23]) 17 (B (((decide (a1 = 32)) || (decide (a1 = 9))) && (decide (0 < (a2.length : Int))))) (fun K => ?_) ?_
 ·rcases Bool.eq_false_or_eq_true ((decide (a1 = 32)) || (decide (a1 = 9))) with h6 | h6
  ·
   refine gT h6 rfl rfl rfl rfl rfl rfl (AO.ops rfl rfl (opS_move (av := slE _ _ _) rfl) ?_)
   refine gT h6 rfl rfl rfl rfl rfl rfl (AO.ops rfl rfl (opS_len_sl Tryz.underlying26 rfl) ?_)
   refine gT h6 rfl rfl rfl rfl rfl rfl (AO.ops rfl rfl (opS_gt rfl rfl) ?_)
   refine sS rfl rfl rfl (opS_pick_t (av := .v _) rfl h6 rfl) ?_
   exact K _ 3 _ (B_congr (and_t h6)) rfl rfl
  ·
   refine gF h6 rfl rfl rfl rfl rfl ?_
   refine gF h6 rfl rfl rfl rfl rfl ?_
   refine gF h6 rfl rfl rfl rfl rfl ?_
   refine sS rfl rfl rfl (opS_pick_f (av := .v _) rfl h6 rfl) ?_
   exact K _ 3 _ (B_congr (and_f h6)) rfl rfl
 refine sS rfl rfl rfl (mv rfl) ?_
 refine AR.meet (l := [12, 13, 14, 15, 16, 17, 18, 19, 20, 21, 22, 23]) 23 (B ((((decide (a1 = 32)) || (decide (a1 = 9))) && (decide (0 < (a2.length : Int)))) && (!decide (x9 = 10)))) (fun K => ?_) ?_
 ·rcases Bool.eq_false_or_eq_true (((decide (a1 = 32)) || (decide (a1 = 9))) && (decide (0 < (a2.length : Int)))) with h7 | h7
  ·
   refine gT h7 rfl rfl rfl rfl rfl rfl (AO.ops rfl rfl (opS_move (av := slE _ _ _) rfl) ?_)
   refine gT h7 rfl rfl rfl rfl rfl rfl (AO.ops rfl rfl (g_indexAddr (E := Enc.byte) Tryz.underlying26 (by kernel_rfl) rfl rfl (g8 h7) e10) ?_)
   refine gT h7 rfl rfl rfl rfl rfl rfl (AO.ops rfl rfl (opS_load_cp Tryz.underlying5 rfl rfl) ?_)
   refine gT h7 rfl rfl rfl rfl rfl rfl (AO.ops rfl rfl (g_ne8 (a := x9) (b := 10) rfl rfl) ?_)
   refine sS rfl rfl rfl (opS_pick_t (av := .v _) rfl h7 rfl) ?_
   exact K _ 4 _ (B_congr (and_t h7)) rfl rfl
  ·
   refine gF h7 rfl rfl rfl rfl rfl ?_
   refine gF h7 rfl rfl rfl rfl rfl ?_
   refine gF h7 rfl rfl rfl rfl rfl ?_
   refine gF h7 rfl rfl rfl rfl rfl ?_
   refine sS rfl rfl rfl (opS_pick_f (av := .v _) rfl h7 rfl) ?_
   exact K _ 4 _ (B_congr (and_f h7)) rfl rfl
 refine sS rfl rfl rfl (mv rfl) ?_
 refine AR.meet (l := []) 35 (B (((((decide (a1 = 32)) || (decide (a1 = 9))) && (decide (0 < (a2.length : Int)))) && (!decide (x9 = 10))) || (((decide (32 < (a1.toNat : Int))) && (decide ((a1.toNat : Int) < 127))) && (!decide (a1 = 61))))) (fun K => ?_) ?_
 ·rcases Bool.eq_false_or_eq_true ((((decide (a1 = 32)) || (decide (a1 = 9))) && (decide (0 < (a2.length : Int)))) && (!decide (x9 = 10))) with h11 | h11
  ·
   refine gF h11 rfl rfl rfl rfl rfl ?_
   refine gF h11 rfl rfl rfl rfl rfl ?_
   refine gF h11 rfl rfl rfl rfl rfl ?_
   refine gU rfl rfl rfl rfl rfl ?_
   refine gU rfl rfl rfl rfl rfl ?_
   refine gF h11 rfl rfl rfl rfl rfl ?_
   refine gF h11 rfl rfl rfl rfl rfl ?_
   refine gU rfl rfl rfl rfl rfl ?_
   refine gU rfl rfl rfl rfl rfl ?_
   refine gF h11 rfl rfl rfl rfl rfl ?_
   refine sS rfl rfl rfl (opS_pick_t (av := .v _) rfl h11 rfl) ?_
   exact K _ 10 _ (B_congr (or_t h11)) rfl rfl
  ·
   refine gT h11 rfl rfl rfl rfl rfl rfl (AO.ops rfl rfl (mv rfl) ?_)
   refine gT h11 rfl rfl rfl rfl rfl rfl (AO.ops rfl rfl (opS_gt rfl rfl) ?_)
   refine gT h11 rfl rfl rfl rfl rfl rfl (AO.ops rfl rfl (mv rfl) ?_)
   refine AR.meet (l := [19, 20, 21, 22, 23]) 30 (B ((decide (32 < (a1.toNat : Int))) && (decide ((a1.toNat : Int) < 127)))) (fun K => ?_) ?_
   ·rcases Bool.eq_false_or_eq_true (decide (32 < (a1.toNat : Int))) with h12 | h12
    ·
     refine gT h12 rfl rfl rfl rfl rfl rfl (AO.ops rfl rfl (mv rfl) ?_)
     refine gT h12 rfl rfl rfl rfl rfl rfl (AO.ops rfl rfl (opS_lt rfl rfl) ?_)
     refine gT h11 rfl rfl rfl rfl rfl rfl (AO.ops rfl rfl (opS_pick_t (av := .v _) rfl h12 rfl) ?_)
     exact K _ 2 _ (B_congr (and_t h12)) rfl rfl
    ·
     refine gF h12 rfl rfl rfl rfl rfl ?_
     refine gF h12 rfl rfl rfl rfl rfl ?_
     refine gT h11 rfl rfl rfl rfl rfl rfl (AO.ops rfl rfl (opS_pick_f (av := .v _) rfl h12 rfl) ?_)
     exact K _ 2 _ (B_congr (and_f h12)) rfl rfl
   refine gT h11 rfl rfl rfl rfl rfl rfl (AO.ops rfl rfl (mv rfl) ?_)
   refine AR.meet (l := [23]) 34 (B (((decide (32 < (a1.toNat : Int))) && (decide ((a1.toNat : Int) < 127))) && (!decide (a1 = 61)))) (fun K => ?_) ?_
   ·rcases Bool.eq_false_or_eq_true ((decide (32 < (a1.toNat : Int))) && (decide ((a1.toNat : Int) < 127))) with h13 | h13
    ·
     refine gT h13 rfl rfl rfl rfl rfl rfl (AO.ops rfl rfl (mv rfl) ?_)
     refine gT h13 rfl rfl rfl rfl rfl rfl (AO.ops rfl rfl (g_ne8 (a := a1) (b := 61) rfl rfl) ?_)
     refine gT h11 rfl rfl rfl rfl rfl rfl (AO.ops rfl rfl (opS_pick_t (av := .v _) rfl h13 rfl) ?_)
     exact K _ 2 _ (B_congr (and_t h13)) rfl rfl
    ·
     refine gF h13 rfl rfl rfl rfl rfl ?_
     refine gF h13 rfl rfl rfl rfl rfl ?_
     refine gT h11 rfl rfl rfl rfl rfl rfl (AO.ops rfl rfl (opS_pick_f (av := .v _) rfl h13 rfl) ?_)
     exact K _ 2 _ (B_congr (and_f h13)) rfl rfl
   refine sS rfl rfl rfl (opS_pick_f (av := .v _) rfl h11 rfl) ?_
   exact K _ 6 _ (B_congr (or_f h11)) rfl rfl
 refine AR.nil ?_
 show AW _ _ _ _ _ _
 refine AW.cond rfl (fun c14 => ?_) (fun c14 => ?_)
 ·replace H := cnd_t c14 H
  refine AW.seq ?_
  refine AW.region ?_
  show AR _ _ _ _ _ [0, 1, 2, 3] _
  refine sS rfl rfl rfl (mv rfl) ?_
  refine sR rfl rfl rfl (opR_buildE (E := Enc.byte) (bytes := 1) (xs := [.tmp 36]) (l := ([a1] : List UInt8)) Tryz.underlying26 (by kernel_rfl) rfl rfl (by decide) rfl rfl) ?_
  refine sS rfl rfl rfl (opS_conv_bytes_str Tryz.underlying26 Tryz.underlying5 Tryz.underlying9 rfl) ?_
  refine sS rfl rfl rfl (asg rfl) ?_
  refine AR.nil ?_
  show AW _ _ _ _ _ _
  refine AW.ret ?_
  obtain rfl := Option.some.inj H
  exact And.intro rfl (Exists.intro _ (Exists.intro _ ⟨ResV.oneW rfl (.refl _), Sub.at [] rfl, rfl, rfl⟩))
 ·replace H := cnd_f c14 H
  refine AW.skip ?_
  show AW _ _ _ _ _ _
  refine AW.seq ?_
  obtain ⟨g15, H⟩ := grd_s H
  obtain ⟨x16, e17, H⟩ := lt_s H
  obtain ⟨g18, H⟩ := grd_s H
  obtain ⟨x19, e20, H⟩ := lt_s H
  refine AW.region_draw (by kernel_rfl) ?_
  show AI _ _ _ _ _ 9 (Array.replicate 9 false) _
  refine AI.take (i := 0) rfl rfl (by kernel_rfl) (by kernel_rfl) (by kernel_rfl) (fun _ _ h => h) (mv rfl) ?_
  show AI _ _ _ _ _ _ #[true, false, false, false, false, false, false, false, false] _
  refine AI.take (i := 1) rfl rfl (by kernel_rfl) (by kernel_rfl) (by kernel_rfl) (fun _ _ h => h) (g_shr8 (n := 4) rfl rfl rfl) ?_
  show AI _ _ _ _ _ _ #[true, true, false, false, false, false, false, false, false] _
  refine AI.take (i := 2) rfl rfl (by kernel_rfl) (by kernel_rfl) (by kernel_rfl) (fun _ _ h => h) (g_index_str Tryz.underlying9 rfl rfl g15 e17) ?_
  show AI _ _ _ _ _ _ #[true, true, true, false, false, false, false, false, false] _
  refine AI.take (i := 3) rfl rfl (by kernel_rfl) (by kernel_rfl) (by kernel_rfl) (fun _ _ h => h) (mv rfl) ?_
  show AI _ _ _ _ _ _ #[true, true, true, true, false, false, false, false, false] _
  refine AI.take (i := 4) rfl rfl (by kernel_rfl) (by kernel_rfl) (by kernel_rfl) (fun _ _ h => h) (g_and8 (a := a1) (b := 15) rfl rfl) ?_
  show AI _ _ _ _ _ _ #[true, true, true, true, true, false, false, false, false] _
  refine AI.take (i := 5) rfl rfl (by kernel_rfl) (by kernel_rfl) (by kernel_rfl) (fun _ _ h => h) (g_index_str Tryz.underlying9 rfl rfl g18 e20) ?_
  show AI _ _ _ _ _ _ #[true, true, true, true, true, true, false, false, false] _
  refine AI.one (i := 6) (by kernel_rfl) rfl rfl ?_
  refine AIO.op rfl (opR_buildE (E := Enc.byte) (bytes := 1) (xs := [.const _, .tmp 41, .tmp 44]) (l := ([61, x16, x19] : List UInt8)) Tryz.underlying26 (by kernel_rfl) rfl rfl (by decide) rfl rfl) ?_
  show AI _ _ _ _ _ _ #[true, true, true, true, true, true, true, false, false] _
  refine AI.take (i := 7) rfl rfl (by kernel_rfl) (by kernel_rfl) (by kernel_rfl) (fun _ _ h => h) (opS_conv_bytes_str Tryz.underlying26 Tryz.underlying5 Tryz.underlying9 rfl) ?_
  show AI _ _ _ _ _ _ #[true, true, true, true, true, true, true, true, false] _
  refine AI.take (i := 8) rfl rfl (by kernel_rfl) (by kernel_rfl) (by kernel_rfl) (fun _ _ h => h) (asg rfl) ?_
  show AI _ _ _ _ _ _ #[true, true, true, true, true, true, true, true, true] _
  refine AI.done rfl ?_
  show AW _ _ _ _ _ _
  refine AW.ret ?_
  obtain rfl := Option.some.inj H
  exact And.intro rfl (Exists.intro _ (Exists.intro _ ⟨ResV.oneW rfl (.refl _), Sub.at [] rfl, rfl, rfl⟩))
set_option maxRecDepth 100000 in
set_option maxHeartbeats 1000000 in
theorem w_qp_digit (F : Nat) (a1 : UInt8) (r2 : UInt8) (r3 : Bool) (H : qp_digit F a1 = some (r2, r3)) : ACalls Tryz.prog 79 [u8 a1] [] (Ret (.tup [u8 r2, B r3]) []) := by
 unfold qp_digit at H
 refine ACalls.of_body Tryz.func79 rfl rfl ?_
 show AW _ _ 20 _ _ _
 refine AW.seq ?_
 refine AW.region ?_
 show AR _ _ _ _ _ [0, 1] _
 refine sS rfl rfl rfl (asg rfl) ?_
 refine sS rfl rfl rfl (asg rfl) ?_
 refine AR.nil ?_
 show AW _ _ _ _ _ _
 refine AW.cut (X := UInt8) (fun y6 => ⟨[(0, u8 y6)], [], []⟩) (fun y6 => qp_digit_j1 y6 = some (r2, r3)) ?_ ?_
 ·
  refine AW.seq ?_
  refine AW.region ?_
  show AR _ _ _ _ _ [0, 1, 2, 3, 4, 5] _
  refine sS rfl rfl rfl (mv rfl) ?_
  refine sS rfl rfl rfl (opS_ge rfl rfl) ?_
  refine sS rfl rfl rfl (mv rfl) ?_
  refine AR.meet (l := []) 10 (B ((decide (97 ≤ (a1.toNat : Int))) && (decide ((a1.toNat : Int) ≤ 102)))) (fun K => ?_) ?_
  ·rcases Bool.eq_false_or_eq_true (decide (97 ≤ (a1.toNat : Int))) with h4 | h4
   ·
    refine gT h4 rfl rfl rfl rfl rfl rfl (AO.ops rfl rfl (mv rfl) ?_)
    refine gT h4 rfl rfl rfl rfl rfl rfl (AO.ops rfl rfl (opS_le rfl rfl) ?_)
    refine sS rfl rfl rfl (opS_pick_t (av := .v _) rfl h4 rfl) ?_
    exact K _ 2 _ (B_congr (and_t h4)) rfl rfl
   ·
    refine gF h4 rfl rfl rfl rfl rfl ?_
    refine gF h4 rfl rfl rfl rfl rfl ?_
    refine sS rfl rfl rfl (opS_pick_f (av := .v _) rfl h4 rfl) ?_
    exact K _ 2 _ (B_congr (and_f h4)) rfl rfl
  refine AR.nil ?_
  show AW _ _ _ _ _ _
  refine AW.cond rfl (fun c5 => ?_) (fun c5 => ?_)
  ·replace H := cnd_t c5 H
   refine AW.region ?_
   show AR _ _ _ _ _ [0, 1, 2] _
   refine sS rfl rfl rfl (mv rfl) ?_
   refine sS rfl rfl rfl (g_sub8 (a := a1) (b := 32) rfl rfl) ?_
   refine sS rfl rfl rfl (asg rfl) ?_
   refine AR.nil ?_
   exact Exists.intro (a1 - 32) ⟨H, WK.at [] (.cons (.refl _) (.nil _)) rfl⟩
  ·replace H := cnd_f c5 H
   refine AW.skip ?_
   exact Exists.intro a1 ⟨H, WK.at [] (.cons (.refl _) (.nil _)) rfl⟩
 rintro y6 H
 replace H : qp_digit_j1 y6 = some (r2, r3) := H
 unfold qp_digit_j1 at H
 show AW _ _ _ _ _ _
 refine AW.seq ?_
 obtain ⟨x8, e9, H⟩ := lt_s H
 refine AW.region ?_
 show AR _ _ _ _ _ [0, 1, 2] _
 refine sS rfl rfl rfl (mv rfl) ?_
 refine AR.run rfl rfl (AO.callp rfl en41_qp rfl (show ACalls _ _ _ [] (Ret (i64 x8) []) from by subst e9; exact lib_IndexByte ([48, 49, 50, 51, 52, 53, 54, 55, 56, 57, 65, 66, 67, 68, 69, 70] : List UInt8) y6) ?_)
 refine sS rfl rfl rfl (asg rfl) ?_
 refine AR.nil ?_
 show AW _ _ _ _ _ _
 refine AW.seq ?_
 refine AW.region ?_
 show AR _ _ _ _ _ [0, 1, 2, 3, 4, 5, 6] _
 refine sS rfl rfl rfl (mv rfl) ?_
 refine sS rfl rfl rfl (opS_max rfl rfl) ?_
 refine sS rfl rfl rfl (g_conv_to8 (by kernel_rfl) Tryz.underlying5 rfl) ?_
 refine sS rfl rfl rfl (mv rfl) ?_
 refine sS rfl rfl rfl (opS_ge rfl rfl) ?_
 refine sS rfl rfl rfl (asg rfl) ?_
 refine sS rfl rfl rfl (asg rfl) ?_
 refine AR.nil ?_
 show AW _ _ _ _ _ _
 refine AW.ret ?_
 obtain ⟨rfl, rfl⟩ := res2 H
 exact And.intro rfl (Exists.intro _ (Exists.intro _ ⟨ResV.twoW rfl (.refl _) (.refl _), Sub.at [] rfl, rfl, rfl⟩))
set_option maxRecDepth 100000 in
set_option maxHeartbeats 1000000 in
theorem w_qp_Decode (F : Nat) (a1 : List UInt8) (q2 : Option Nat) (r3 : List UInt8) (r4 : Int) (H : qp_Decode F a1 = some (r3, r4)) : ACalls Tryz.prog 56 [slE Enc.byte a1 q2] [] (Ret (.tup [slE Enc.byte r3 none, i64 r4]) []) := by
 unfold qp_Decode at H
 refine ACalls.of_body Tryz.func56 rfl rfl ?_
 show AW _ _ 88 _ _ _
 refine AW.seq ?_
 refine AW.region ?_
 show AR _ _ _ _ _ [0, 1] _
 refine sS rfl rfl rfl (asg rfl) ?_
 refine sS rfl rfl rfl (asg rfl) ?_
 refine AR.nil ?_
 show AW _ _ _ _ _ _
 refine AW.seq ?_
 refine AW.region ?_
 show AR _ _ _ _ _ [0] _
 refine sS rfl rfl rfl (asg rfl) ?_
 refine AR.nil ?_
 show AW _ _ _ _ _ _
 refine AW.nil_grows 4 1 5 rfl fun t5 => ?_
 show AW _ _ _ _ _ ⟨(4, slE Enc.byte [] (some t5)) :: _, _, _⟩
 refine AW.cut (X := (List UInt8) × Nat) (fun (y62, t63) => ⟨[(4, slE Enc.byte y62 (some t63))], [], [.tok t63 5]⟩) (fun (y62, t63) => qp_Decode_j1 y62 = some (r3, r4)) ?_ ?_
 ·
  refine AW.block ?_
  refine AW.loop (X := Nat × (List UInt8) × (List UInt8) × Nat) (fun (n10, y6, y7, t8) => ⟨[(0, slE Enc.byte y6 none), (4, slE Enc.byte y7 (some t8))], [], [.tok t8 5]⟩) (fun (n10, y6, y7, t8) => qp_Decode_L1 F n10 (y6, y7) = some (r3, r4)) (fun (n10, y6, y7, t8) => n10) (F, a1, [], t5) H (WK.at [0] (.cons (.tok _ _ _) (.cons (.refl _) (.nil _))) rfl) ?_
  rintro ⟨n10, y6, y7, t8⟩ H
  obtain ⟨n10, rfl, H⟩ := loop_s H
  replace H : qp_Decode_B1 F (qp_Decode_L1 F n10) y6 y7 = some (r3, r4) := H
  unfold qp_Decode_B1 at H
  show AW _ _ _ _ _ _
  refine AW.seq ?_
  refine AW.seq ?_
  refine AW.region ?_
  show AR _ _ _ _ _ [0, 1, 2] _
  refine sS rfl rfl rfl (opS_move (av := slE _ _ _) rfl) ?_
  refine sS rfl rfl rfl (opS_len_sl Tryz.underlying26 rfl) ?_
  refine sS rfl rfl rfl (opS_gt rfl rfl) ?_
  refine AR.nil ?_
  show AW _ _ _ _ _ _
  refine AW.cond rfl (fun c11 => ?_) (fun c11 => ?_)
  ·replace H := cnd_t c11 H
   refine AW.skip ?_
   show AW _ _ _ _ _ _
   refine AW.block ?_
   refine AW.scope ?_
   refine AW.seq ?_
   refine AW.region ?_
   show AR _ _ _ _ _ [0] _
   refine sS rfl rfl rfl (asg rfl) ?_
   refine AR.nil ?_
   show AW _ _ _ _ _ _
   refine AW.seq ?_
   refine AW.label ?_
   show AW _ _ _ _ _ _
   refine AW.cut (X := (List UInt8) × Nat × Int) (fun (y55, t56, y57) => ⟨[(0, slE Enc.byte y6 none), (4, slE Enc.byte y55 (some t56)), (5, i64 y57)], [], [.tok t56 5]⟩) (fun (y55, t56, y57) => qp_Decode_j2 y6 (qp_Decode_L1 F n10) y55 y57 = some (r3, r4)) ?_ ?_
   ·
    refine AW.seq ?_
    obtain ⟨g12, H⟩ := grd_s H
    obtain ⟨x13, e14, H⟩ := lt_s H
    refine AW.region ?_
    show AR _ _ _ _ _ [0, 1, 2, 3] _
    refine sS rfl rfl rfl (opS_move (av := slE _ _ _) rfl) ?_
    refine sS rfl rfl rfl (g_indexAddr (E := Enc.byte) Tryz.underlying26 (by kernel_rfl) rfl rfl g12 e14) ?_
    refine sS rfl rfl rfl (opS_load_cp Tryz.underlying5 rfl rfl) ?_
    refine sS rfl rfl rfl (asg rfl) ?_
    refine AR.nil ?_
    show AW _ _ _ _ _ _
    refine AW.block ?_
    refine AW.seq ?_
    obtain ⟨x16, e17, H⟩ := lt_s H
    refine AW.region ?_
    show AR _ _ _ _ _ [0, 1, 2, 3, 4] _
    refine sS rfl rfl rfl (opS_move (av := slE _ _ _) rfl) ?_
    refine sX rfl rfl rfl (opX_buildE (E := Enc.byte) (bytes := 1) (xs := [.const _, .const _]) (l := ([13, 10] : List UInt8)) Tryz.underlying26 (by kernel_rfl) rfl rfl (by decide) rfl rfl) ?_
    rintro _ _ ⟨t15, rfl, rfl⟩
    refine sR rfl rfl rfl (opR_conv_same 0 Tryz.underlying26 Tryz.underlying5 rfl (by simp) rfl) ?_
    refine AR.run rfl rfl (AO.callp rfl en50_qp rfl (show ACalls _ _ _ [] (Ret (B x16) []) from by subst e17; exact lib_bytesHasPrefix y6 ([13, 10] : List UInt8) none (some t15)) ?_)
    refine sS rfl rfl rfl (asg rfl) ?_
    refine AR.nil ?_
    show AW _ _ _ _ _ _
    refine AW.cond rfl (fun c18 => ?_) (fun c18 => ?_)
    ·replace H := cnd_t c18 H
     obtain ⟨g20, H⟩ := grd_s H
     obtain ⟨x21, e22, H⟩ := lt_s H
     refine AW.region ?_
     show AR _ _ _ _ _ [0, 1, 2, 3, 4] _
     refine sS rfl rfl rfl (opS_move (av := slE _ _ _) rfl) ?_
     refine sR rfl rfl rfl (opR_buildE (E := Enc.byte) (bytes := 1) (xs := [.const _]) (l := ([10] : List UInt8)) Tryz.underlying26 (by kernel_rfl) rfl rfl (by decide) rfl rfl) ?_
     refine sX rfl rfl rfl (g_append (E := Enc.byte) (bytes := 1) 1 Tryz.underlying26 Tryz.underlying26 rfl (by kernel_rfl) rfl rfl rfl rfl g20 e22) ?_
     rintro _ _ ⟨t19, rfl, rfl⟩
     refine sS rfl rfl rfl (opS_assign (av := slE _ _ _) rfl) ?_
     refine sS rfl rfl rfl (asg rfl) ?_
     refine AR.nil ?_
     exact Exists.intro (x21, t19, 2) ⟨H, WK.at [1] (.cons (.refl _) (.cons (.refl _) (.cons (.refl _) (.nil _)))) rfl⟩
    ·replace H := cnd_f c18 H
     refine AW.seq ?_
     obtain ⟨x24, e25, H⟩ := lt_s H
     refine AW.region ?_
     show AR _ _ _ _ _ [0, 1, 2, 3, 4] _
     refine sS rfl rfl rfl (opS_move (av := slE _ _ _) rfl) ?_
     refine sX rfl rfl rfl (opX_buildE (E := Enc.byte) (bytes := 1) (xs := [.const _, .const _, .const _]) (l := ([61, 13, 10] : List UInt8)) Tryz.underlying26 (by kernel_rfl) rfl rfl (by decide) rfl rfl) ?_
     rintro _ _ ⟨t23, rfl, rfl⟩
     refine sR rfl rfl rfl (opR_conv_same 0 Tryz.underlying26 Tryz.underlying5 rfl (by simp) rfl) ?_
     refine AR.run rfl rfl (AO.callp rfl en50_qp rfl (show ACalls _ _ _ [] (Ret (B x24) []) from by subst e25; exact lib_bytesHasPrefix y6 ([61, 13, 10] : List UInt8) none (some t23)) ?_)
     refine sS rfl rfl rfl (asg rfl) ?_
     refine AR.nil ?_
     show AW _ _ _ _ _ _
     refine AW.cond rfl (fun c26 => ?_) (fun c26 => ?_)
     ·replace H := cnd_t c26 H
      refine AW.seq ?_
      refine AW.region ?_
      show AR _ _ _ _ _ [0] _
      refine sS rfl rfl rfl (asg rfl) ?_
      refine AR.nil ?_
      show AW _ _ _ _ _ _
      refine AW.exit ?_
      exact Exists.intro (y7, t8, 3) ⟨H, WK.at [2] (.cons (.refl _) (.cons (.refl _) (.cons (.refl _) (.nil _)))) rfl⟩
     ·replace H := cnd_f c26 H
      refine AW.seq ?_
      refine AW.region ?_
      show AR _ _ _ _ _ [0, 1, 2, 3, 4, 5, 6, 7] _
      refine sS rfl rfl rfl (mv rfl) ?_
      refine sS rfl rfl rfl (g_eq8 (a := x13) (b := 61) rfl rfl) ?_
      refine sS rfl rfl rfl (mv rfl) ?_
      refine AR.meet (l := [7]) 37 (B ((decide (x13 = 61)) && (decide (2 < (y6.length : Int))))) (fun K => ?_) ?_
      ·rcases Bool.eq_false_or_eq_true (decide (x13 = 61)) with h27 | h27
       ·
        refine gT h27 rfl rfl rfl rfl rfl rfl (AO.ops rfl rfl (opS_move (av := slE _ _ _) rfl) ?_)
        refine gT h27 rfl rfl rfl rfl rfl rfl (AO.ops rfl rfl (opS_len_sl Tryz.underlying26 rfl) ?_)
        refine gT h27 rfl rfl rfl rfl rfl rfl (AO.ops rfl rfl (opS_gt rfl rfl) ?_)
        refine sS rfl rfl rfl (opS_pick_t (av := .v _) rfl h27 rfl) ?_
        exact K _ 3 _ (B_congr (and_t h27)) rfl rfl
       ·
        refine gF h27 rfl rfl rfl rfl rfl ?_
        refine gF h27 rfl rfl rfl rfl rfl ?_
        refine gF h27 rfl rfl rfl rfl rfl ?_
        refine sS rfl rfl rfl (opS_pick_f (av := .v _) rfl h27 rfl) ?_
        exact K _ 3 _ (B_congr (and_f h27)) rfl rfl
      refine sS rfl rfl rfl (asg rfl) ?_
      refine AR.nil ?_
      show AW _ _ _ _ _ _
      refine AW.cond rfl (fun c28 => ?_) (fun c28 => ?_)
      ·replace H := cnd_t c28 H
       refine AW.seq ?_
       obtain ⟨g29, H⟩ := grd_s H
       obtain ⟨x30, e31, H⟩ := lt_s H
       obtain ⟨x32, x33, e34, H⟩ := bnd2_s H
       refine AW.region ?_
       show AR _ _ _ _ _ [0, 1, 2, 3, 4, 5, 6, 7, 8] _
       refine sS rfl rfl rfl (opS_move (av := slE _ _ _) rfl) ?_
       refine sS rfl rfl rfl (g_indexAddr (E := Enc.byte) Tryz.underlying26 (by kernel_rfl) rfl rfl g29 e31) ?_
       refine sS rfl rfl rfl (opS_load_cp Tryz.underlying5 rfl rfl) ?_
       refine AR.run rfl rfl (AO.callp rfl en79_qp rfl (w_qp_digit F x30 x32 x33 e34) ?_)
       refine sS rfl rfl rfl (opS_move (av := .tup _) rfl) ?_
       refine sS rfl rfl rfl (opS_extract (av := .v _) rfl rfl) ?_
       refine sS rfl rfl rfl (opS_extract (av := .v _) rfl rfl) ?_
       refine sS rfl rfl rfl (asg rfl) ?_
       refine sS rfl rfl rfl (asg rfl) ?_
       refine AR.nil ?_
       show AW _ _ _ _ _ _
       refine AW.seq ?_
       obtain ⟨g35, H⟩ := grd_s H
       obtain ⟨x36, e37, H⟩ := lt_s H
       obtain ⟨x38, x39, e40, H⟩ := bnd2_s H
       refine AW.region ?_
       show AR _ _ _ _ _ [0, 1, 2, 3, 4, 5, 6, 7, 8] _
       refine sS rfl rfl rfl (opS_move (av := slE _ _ _) rfl) ?_
       refine sS rfl rfl rfl (g_indexAddr (E := Enc.byte) Tryz.underlying26 (by kernel_rfl) rfl rfl g35 e37) ?_
       refine sS rfl rfl rfl (opS_load_cp Tryz.underlying5 rfl rfl) ?_
       refine AR.run rfl rfl (AO.callp rfl en79_qp rfl (w_qp_digit F x36 x38 x39 e40) ?_)
       refine sS rfl rfl rfl (opS_move (av := .tup _) rfl) ?_
       refine sS rfl rfl rfl (opS_extract (av := .v _) rfl rfl) ?_
       refine sS rfl rfl rfl (opS_extract (av := .v _) rfl rfl) ?_
       refine sS rfl rfl rfl (asg rfl) ?_
       refine sS rfl rfl rfl (asg rfl) ?_
       refine AR.nil ?_
       show AW _ _ _ _ _ _
       refine AW.seq ?_
       refine AW.seq ?_
       refine AW.region ?_
       show AR _ _ _ _ _ [0, 1, 2, 3, 4, 5] _
       refine sS rfl rfl rfl (mv rfl) ?_
       refine sS rfl rfl rfl (opS_not rfl) ?_
       refine sS rfl rfl rfl (mv rfl) ?_
       refine AR.meet (l := []) 57 (B ((!x33) || (!x39))) (fun K => ?_) ?_
       ·rcases Bool.eq_false_or_eq_true (!x33) with h41 | h41
        ·
         refine gF h41 rfl rfl rfl rfl rfl ?_
         refine gF h41 rfl rfl rfl rfl rfl ?_
         refine sS rfl rfl rfl (opS_pick_t (av := .v _) rfl h41 rfl) ?_
         exact K _ 2 _ (B_congr (or_t h41)) rfl rfl
        ·
         refine gT h41 rfl rfl rfl rfl rfl rfl (AO.ops rfl rfl (mv rfl) ?_)
         refine gT h41 rfl rfl rfl rfl rfl rfl (AO.ops rfl rfl (opS_not rfl) ?_)
         refine sS rfl rfl rfl (opS_pick_f (av := .v _) rfl h41 rfl) ?_
         exact K _ 2 _ (B_congr (or_f h41)) rfl rfl
       refine AR.nil ?_
       show AW _ _ _ _ _ _
       refine AW.cond rfl (fun c42 => ?_) (fun c42 => ?_)
       ·replace H := cnd_t c42 H
        refine AW.seq ?_
        refine AW.region ?_
        show AR _ _ _ _ _ [0, 1] _
        refine sS rfl rfl rfl (asg rfl) ?_
        refine sS rfl rfl rfl (asg rfl) ?_
        refine AR.nil ?_
        show AW _ _ _ _ _ _
        refine AW.ret ?_
        obtain ⟨rfl, rfl⟩ := res2 H
        exact And.intro rfl (Exists.intro _ (Exists.intro _ ⟨ResV.twoW rfl (.nil _) (.refl _), Sub.at [] rfl, rfl, rfl⟩))
       ·replace H := cnd_f c42 H
        refine AW.skip ?_
        show AW _ _ _ _ _ _
        obtain ⟨g44, H⟩ := grd_s H
        obtain ⟨x45, e46, H⟩ := lt_s H
        refine AW.region ?_
        show AR _ _ _ _ _ [0, 1, 2, 3, 4, 5, 6, 7, 8] _
        refine sS rfl rfl rfl (opS_move (av := slE _ _ _) rfl) ?_
        refine sS rfl rfl rfl (mv rfl) ?_
        refine sS rfl rfl rfl (g_shl8 (n := 4) rfl rfl rfl) ?_
        refine sS rfl rfl rfl (mv rfl) ?_
        refine sS rfl rfl rfl (g_or8 (a := Go.Av.shl8 x32 4) (b := x38) rfl rfl) ?_
        refine sR rfl rfl rfl (opR_buildE (E := Enc.byte) (bytes := 1) (xs := [.tmp 62]) (l := ([(Go.Av.shl8 x32 4) ||| x38] : List UInt8)) Tryz.underlying26 (by kernel_rfl) rfl rfl (by decide) rfl rfl) ?_
        refine sX rfl rfl rfl (g_append (E := Enc.byte) (bytes := 1) 2 Tryz.underlying26 Tryz.underlying26 rfl (by kernel_rfl) rfl rfl rfl rfl g44 e46) ?_
        rintro _ _ ⟨t43, rfl, rfl⟩
        refine sS rfl rfl rfl (opS_assign (av := slE _ _ _) rfl) ?_
        refine sS rfl rfl rfl (asg rfl) ?_
        refine AR.nil ?_
        exact Exists.intro (x45, t43, 3) ⟨H, WK.at [2] (.cons (.refl _) (.cons (.refl _) (.cons (.refl _) (.nil _)))) rfl⟩
      ·replace H := cnd_f c28 H
       refine AW.seq ?_
       refine AW.region ?_
       show AR _ _ _ _ _ [0, 1, 2, 3, 4, 5, 6, 7, 8, 9, 10, 11, 12, 13, 14] _
       refine sS rfl rfl rfl (mv rfl) ?_
       refine sS rfl rfl rfl (g_ne8 (a := x13) (b := 61) rfl rfl) ?_
       refine sS rfl rfl rfl (mv rfl) ?_
       refine AR.meet (l := [14]) 79 (B ((!decide (x13 = 61)) && (((decide (32 ≤ (x13.toNat : Int))) && (decide ((x13.toNat : Int) < 127))) || (decide (x13 = 9))))) (fun K => ?_) ?_
       ·rcases Bool.eq_false_or_eq_true (!decide (x13 = 61)) with h47 | h47
        ·
         refine gT h47 rfl rfl rfl rfl rfl rfl (AO.ops rfl rfl (mv rfl) ?_)
         refine gT h47 rfl rfl rfl rfl rfl rfl (AO.ops rfl rfl (opS_ge rfl rfl) ?_)
         refine gT h47 rfl rfl rfl rfl rfl rfl (AO.ops rfl rfl (mv rfl) ?_)
         refine AR.meet (l := [9, 10, 11, 12, 13, 14]) 74 (B ((decide (32 ≤ (x13.toNat : Int))) && (decide ((x13.toNat : Int) < 127)))) (fun K => ?_) ?_
         ·rcases Bool.eq_false_or_eq_true (decide (32 ≤ (x13.toNat : Int))) with h48 | h48
          ·
           refine gT h48 rfl rfl rfl rfl rfl rfl (AO.ops rfl rfl (mv rfl) ?_)
           refine gT h48 rfl rfl rfl rfl rfl rfl (AO.ops rfl rfl (opS_lt rfl rfl) ?_)
           refine gT h47 rfl rfl rfl rfl rfl rfl (AO.ops rfl rfl (opS_pick_t (av := .v _) rfl h48 rfl) ?_)
           exact K _ 2 _ (B_congr (and_t h48)) rfl rfl
          ·
           refine gF h48 rfl rfl rfl rfl rfl ?_
           refine gF h48 rfl rfl rfl rfl rfl ?_
           refine gT h47 rfl rfl rfl rfl rfl rfl (AO.ops rfl rfl (opS_pick_f (av := .v _) rfl h48 rfl) ?_)
           exact K _ 2 _ (B_congr (and_f h48)) rfl rfl
         refine gT h47 rfl rfl rfl rfl rfl rfl (AO.ops rfl rfl (mv rfl) ?_)
         refine AR.meet (l := [13, 14]) 78 (B (((decide (32 ≤ (x13.toNat : Int))) && (decide ((x13.toNat : Int) < 127))) || (decide (x13 = 9)))) (fun K => ?_) ?_
         ·rcases Bool.eq_false_or_eq_true ((decide (32 ≤ (x13.toNat : Int))) && (decide ((x13.toNat : Int) < 127))) with h49 | h49
          ·
           refine gF h49 rfl rfl rfl rfl rfl ?_
           refine gF h49 rfl rfl rfl rfl rfl ?_
           refine gT h47 rfl rfl rfl rfl rfl rfl (AO.ops rfl rfl (opS_pick_t (av := .v _) rfl h49 rfl) ?_)
           exact K _ 2 _ (B_congr (or_t h49)) rfl rfl
          ·
           refine gT h49 rfl rfl rfl rfl rfl rfl (AO.ops rfl rfl (mv rfl) ?_)
           refine gT h49 rfl rfl rfl rfl rfl rfl (AO.ops rfl rfl (g_eq8 (a := x13) (b := 9) rfl rfl) ?_)
           refine gT h47 rfl rfl rfl rfl rfl rfl (AO.ops rfl rfl (opS_pick_f (av := .v _) rfl h49 rfl) ?_)
           exact K _ 2 _ (B_congr (or_f h49)) rfl rfl
         refine sS rfl rfl rfl (opS_pick_t (av := .v _) rfl h47 rfl) ?_
         exact K _ 6 _ (B_congr (and_t h47)) rfl rfl
        ·
         refine gF h47 rfl rfl rfl rfl rfl ?_
         refine gF h47 rfl rfl rfl rfl rfl ?_
         refine gF h47 rfl rfl rfl rfl rfl ?_
         refine gU rfl rfl rfl rfl rfl ?_
         refine gU rfl rfl rfl rfl rfl ?_
         refine gF h47 rfl rfl rfl rfl rfl ?_
         refine gF h47 rfl rfl rfl rfl rfl ?_
         refine gU rfl rfl rfl rfl rfl ?_
         refine gU rfl rfl rfl rfl rfl ?_
         refine gF h47 rfl rfl rfl rfl rfl ?_
         refine sS rfl rfl rfl (opS_pick_f (av := .v _) rfl h47 rfl) ?_
         exact K _ 10 _ (B_congr (and_f h47)) rfl rfl
       refine sS rfl rfl rfl (asg rfl) ?_
       refine AR.nil ?_
       show AW _ _ _ _ _ _
       refine AW.cond rfl (fun c50 => ?_) (fun c50 => ?_)
       ·replace H := cnd_t c50 H
        obtain ⟨g52, H⟩ := grd_s H
        obtain ⟨x53, e54, H⟩ := lt_s H
        refine AW.region ?_
        show AR _ _ _ _ _ [0, 1, 2, 3, 4] _
        refine sS rfl rfl rfl (opS_move (av := slE _ _ _) rfl) ?_
        refine sS rfl rfl rfl (mv rfl) ?_
        refine sR rfl rfl rfl (opR_buildE (E := Enc.byte) (bytes := 1) (xs := [.tmp 81]) (l := ([x13] : List UInt8)) Tryz.underlying26 (by kernel_rfl) rfl rfl (by decide) rfl rfl) ?_
        refine sX rfl rfl rfl (g_append (E := Enc.byte) (bytes := 1) 2 Tryz.underlying26 Tryz.underlying26 rfl (by kernel_rfl) rfl rfl rfl rfl g52 e54) ?_
        rintro _ _ ⟨t51, rfl, rfl⟩
        refine sS rfl rfl rfl (opS_assign (av := slE _ _ _) rfl) ?_
        refine AR.nil ?_
        exact Exists.intro (x53, t51, 1) ⟨H, WK.at [2] (.cons (.refl _) (.cons (.refl _) (.cons (.refl _) (.nil _)))) rfl⟩
       ·replace H := cnd_f c50 H
        refine AW.seq ?_
        refine AW.region ?_
        show AR _ _ _ _ _ [0, 1] _
        refine sS rfl rfl rfl (asg rfl) ?_
        refine sS rfl rfl rfl (asg rfl) ?_
        refine AR.nil ?_
        show AW _ _ _ _ _ _
        refine AW.ret ?_
        obtain ⟨rfl, rfl⟩ := res2 H
        exact And.intro rfl (Exists.intro _ (Exists.intro _ ⟨ResV.twoW rfl (.nil _) (.refl _), Sub.at [] rfl, rfl, rfl⟩))
   rintro ⟨y55, t56, y57⟩ H
   replace H : qp_Decode_j2 y6 (qp_Decode_L1 F n10) y55 y57 = some (r3, r4) := H
   unfold qp_Decode_j2 at H
   show AW _ _ _ _ _ _
   obtain ⟨g59, H⟩ := grd_s H
   obtain ⟨x60, e61, H⟩ := lt_s H
   refine AW.region ?_
   show AR _ _ _ _ _ [0, 1, 2, 3] _
   refine sS rfl rfl rfl (opS_move (av := slE _ _ _) rfl) ?_
   refine sS rfl rfl rfl (mv rfl) ?_
   refine sS rfl rfl rfl (g_from_sl (E := Enc.byte) Tryz.underlying26 (by kernel_rfl) rfl rfl g59 e61) ?_
   refine sS rfl rfl rfl (opS_assign (av := slE _ _ _) rfl) ?_
   refine AR.nil ?_
   exact Exists.intro (n10, x60, y55, t56) ⟨H, Nat.lt_succ_self _, WK.at [0] (.cons (.refl _) (.cons (.refl _) (.nil _))) rfl⟩
  ·replace H := cnd_f c11 H
   refine AW.exit ?_
   exact Exists.intro (y7, t8) ⟨H, WK.at [0] (.cons (.refl _) (.nil _)) rfl⟩
 rintro ⟨y62, t63⟩ H
 replace H : qp_Decode_j1 y62 = some (r3, r4) := H
 unfold qp_Decode_j1 at H
 show AW _ _ _ _ _ _
 refine AW.seq ?_
 refine AW.region ?_
 show AR _ _ _ _ _ [0, 1, 2] _
 refine sS rfl rfl rfl (opS_move (av := slE _ _ _) rfl) ?_
 refine sS rfl rfl rfl (opS_assign (av := slE _ _ _) rfl) ?_
 refine sS rfl rfl rfl (asg rfl) ?_
 refine AR.nil ?_
 show AW _ _ _ _ _ _
 refine AW.ret ?_
 obtain ⟨rfl, rfl⟩ := res2 H
 exact And.intro rfl (Exists.intro _ (Exists.intro _ ⟨ResV.twoW rfl (.tok _ _ _) (.refl _), Sub.at [] rfl, rfl, rfl⟩))
set_option maxRecDepth 100000 in
set_option maxHeartbeats 1000000 in
theorem w_qp_put (F : Nat) (o1 : Nat) (a2 : List UInt8) (t3 : Nat) (a4 : Int) (a5 : List UInt8) (r6 : List UInt8) (r8 : Int) (H : qp_put F a2 a4 a5 = some (r6, r8)) : ACalls Tryz.prog 44 [.pt o1 0, S a5] [.obj o1 [slE Enc.byte a2 (some t3), i64 a4], .tok t3 5] (fun e A' => e = .ret (.tup []) ∧ ∃ t7, A' = [.obj o1 [slE Enc.byte r6 (some t7), i64 r8], .tok t7 5]) := by
 unfold qp_put at H
 refine ACalls.of_body Tryz.func44 rfl rfl ?_
 show AW _ _ 42 _ _ _
 refine AW.cut (X := (List UInt8) × Nat × Int) (fun (y15, t16, y17) => ⟨[(0, .pt o1 0), (1, S a5)], [], [.obj o1 [slE Enc.byte y15 (some t16), i64 y17], .tok t16 5]⟩) (fun (y15, t16, y17) => qp_put_j1 a5 y15 y17 = some (r6, r8)) ?_ ?_
 ·
  refine AW.seq ?_
  obtain ⟨g9, H⟩ := grd_s H
  refine AW.region ?_
  show AR _ _ _ _ _ [0, 1, 2, 3, 4, 5, 6, 7] _
  refine sS rfl rfl rfl (opS_move (av := .pt _ _) rfl) ?_
  refine sS rfl rfl rfl (opS_nilCheck_pt rfl) ?_
  refine sS rfl rfl rfl (opS_fieldAddr_pt (n := 1) (by kernel_rfl) rfl) ?_
  refine sR rfl rfl rfl (opR_load_pt (i := 0) Tryz.underlying3 rfl rfl rfl rfl) ?_
  refine sS rfl rfl rfl (mv rfl) ?_
  refine sS rfl rfl rfl (opS_len_str Tryz.underlying9 rfl) ?_
  refine sS rfl rfl rfl (g_add rfl rfl g9) ?_
  refine sS rfl rfl rfl (opS_gt rfl rfl) ?_
  refine AR.nil ?_
  show AW _ _ _ _ _ _
  refine AW.cond rfl (fun c10 => ?_) (fun c10 => ?_)
  ·replace H := cnd_t c10 H
   obtain ⟨g12, H⟩ := grd_s H
   obtain ⟨x13, e14, H⟩ := lt_s H
   refine AW.region ?_
   show AR _ _ _ _ _ [0, 1, 2, 3, 4, 5, 6, 7, 8, 9, 10, 11, 12] _
   refine sS rfl rfl rfl (opS_move (av := .pt _ _) rfl) ?_
   refine sS rfl rfl rfl (opS_move (av := .pt _ _) rfl) ?_
   refine sS rfl rfl rfl (opS_move (av := .pt _ _) rfl) ?_
   refine sS rfl rfl rfl (opS_nilCheck_pt rfl) ?_
   refine sS rfl rfl rfl (opS_fieldAddr_pt (n := 0) (by kernel_rfl) rfl) ?_
   refine sR rfl rfl rfl (opR_load_pt (i := 0) Tryz.underlying26 rfl rfl rfl rfl) ?_
   refine sX rfl rfl rfl (g_append_str (bytes := 1) 1 Tryz.underlying26 Tryz.underlying9 rfl (by kernel_rfl) rfl rfl rfl rfl g12 e14) ?_
   rintro _ _ ⟨t11, rfl, rfl⟩
   refine sS rfl rfl rfl (opS_nilCheck_pt rfl) ?_
   refine sS rfl rfl rfl (opS_fieldAddr_pt (n := 0) (by kernel_rfl) rfl) ?_
   refine s0 rfl rfl (opR_store_pt (i := 0) (c := slE _ _ _) (by kernel_rfl) rfl rfl rfl rfl (Nat.le_of_ble_eq_true rfl)) ?_
   refine sS rfl rfl rfl (opS_nilCheck_pt rfl) ?_
   refine sS rfl rfl rfl (opS_fieldAddr_pt (n := 1) (by kernel_rfl) rfl) ?_
   refine s0 rfl rfl (opR_store_pt (i := 0) (c := .v _) (by kernel_rfl) rfl rfl rfl rfl (Nat.le_of_ble_eq_true rfl)) ?_
   refine AR.nil ?_
   exact Exists.intro (x13, t11, 0) ⟨H, WK.at [0, 0] (.cons (.refl _) (.cons (.refl _) (.nil _))) rfl⟩
  ·replace H := cnd_f c10 H
   refine AW.skip ?_
   exact Exists.intro (a2, t3, a4) ⟨H, WK.at [0, 0] (.cons (.refl _) (.cons (.refl _) (.nil _))) rfl⟩
 rintro ⟨y15, t16, y17⟩ H
 replace H : qp_put_j1 a5 y15 y17 = some (r6, r8) := H
 unfold qp_put_j1 at H
 show AW _ _ _ _ _ _
 obtain ⟨g20, H⟩ := grd_s H
 obtain ⟨x21, e22, H⟩ := lt_s H
 obtain ⟨g23, H⟩ := grd_s H
 refine AW.region_draw (by kernel_rfl) ?_
 show AI _ _ _ _ _ 21 (Array.replicate 21 false) _
 refine AI.take (i := 0) rfl rfl (by kernel_rfl) (by kernel_rfl) (by kernel_rfl) (fun _ _ h => h) (opS_move (av := .pt _ _) rfl) ?_
 show AI _ _ _ _ _ _ #[true, false, false, false, false, false, false, false, false, false, false, false, false, false, false, false, false, false, false, false, false] _
 refine AI.take (i := 1) rfl rfl (by kernel_rfl) (by kernel_rfl) (by kernel_rfl) (fun _ _ h => h) (opS_move (av := .pt _ _) rfl) ?_
 show AI _ _ _ _ _ _ #[true, true, false, false, false, false, false, false, false, false, false, false, false, false, false, false, false, false, false, false, false] _
 refine AI.take (i := 2) rfl rfl (by kernel_rfl) (by kernel_rfl) (by kernel_rfl) (fun _ _ h => h) (opS_move (av := .pt _ _) rfl) ?_
 show AI _ _ _ _ _ _ #[true, true, true, false, false, false, false, false, false, false, false, false, false, false, false, false, false, false, false, false, false] _
 refine AI.take (i := 3) rfl rfl (by kernel_rfl) (by kernel_rfl) (by kernel_rfl) (fun _ _ h => h) (opS_nilCheck_pt rfl) ?_
 show AI _ _ _ _ _ _ #[true, true, true, true, false, false, false, false, false, false, false, false, false, false, false, false, false, false, false, false, false] _
 refine AI.take (i := 4) rfl rfl (by kernel_rfl) (by kernel_rfl) (by kernel_rfl) (fun _ _ h => h) (opS_fieldAddr_pt (n := 0) (by kernel_rfl) rfl) ?_
 show AI _ _ _ _ _ _ #[true, true, true, true, true, false, false, false, false, false, false, false, false, false, false, false, false, false, false, false, false] _
 refine AI.take (i := 6) rfl rfl (by kernel_rfl) (by kernel_rfl) (by kernel_rfl) (fun _ _ h => h) (mv rfl) ?_
 show AI _ _ _ _ _ _ #[true, true, true, true, true, false, true, false, false, false, false, false, false, false, false, false, false, false, false, false, false] _
 refine AI.take (i := 8) rfl rfl (by kernel_rfl) (by kernel_rfl) (by kernel_rfl) (fun _ _ h => h) (opS_move (av := .pt _ _) rfl) ?_
 show AI _ _ _ _ _ _ #[true, true, true, true, true, false, true, false, true, false, false, false, false, false, false, false, false, false, false, false, false] _
 refine AI.take (i := 9) rfl rfl (by kernel_rfl) (by kernel_rfl) (by kernel_rfl) (fun _ _ h => h) (opS_nilCheck_pt rfl) ?_
 show AI _ _ _ _ _ _ #[true, true, true, true, true, false, true, false, true, true, false, false, false, false, false, false, false, false, false, false, false] _
 refine AI.take (i := 10) rfl rfl (by kernel_rfl) (by kernel_rfl) (by kernel_rfl) (fun _ _ h => h) (opS_fieldAddr_pt (n := 1) (by kernel_rfl) rfl) ?_
 show AI _ _ _ _ _ _ #[true, true, true, true, true, false, true, false, true, true, true, false, false, false, false, false, false, false, false, false, false] _
 refine AI.take (i := 12) rfl rfl (by kernel_rfl) (by kernel_rfl) (by kernel_rfl) (fun _ _ h => h) (mv rfl) ?_
 show AI _ _ _ _ _ _ #[true, true, true, true, true, false, true, false, true, true, true, false, true, false, false, false, false, false, false, false, false] _
 refine AI.take (i := 13) rfl rfl (by kernel_rfl) (by kernel_rfl) (by kernel_rfl) (fun _ _ h => h) (opS_len_str Tryz.underlying9 rfl) ?_
 show AI _ _ _ _ _ _ #[true, true, true, true, true, false, true, false, true, true, true, false, true, true, false, false, false, false, false, false, false] _
 refine AI.two (i := 5) (j := 11) (by kernel_rfl) rfl rfl rfl rfl ?_ ?_
 ·
  refine AIO.op rfl (opR_load_pt (i := 0) Tryz.underlying26 rfl rfl rfl rfl) ?_
  show AI _ _ _ _ _ _ #[true, true, true, true, true, true, true, false, true, true, true, false, true, true, false, false, false, false, false, false, false] _
  refine AI.two (i := 7) (j := 11) (by kernel_rfl) rfl rfl rfl rfl ?_ ?_
  ·
   refine AIO.opx rfl (g_append_str (bytes := 1) 1 Tryz.underlying26 Tryz.underlying9 rfl (by kernel_rfl) rfl rfl rfl rfl g20 e22) ?_
   rintro _ _ ⟨t19, rfl, rfl⟩
   show AI _ _ _ _ _ _ #[true, true, true, true, true, true, true, true, true, true, true, false, true, true, false, false, false, false, false, false, false] _
   refine AI.one (i := 11) (by kernel_rfl) rfl rfl ?_
   refine AIO.op rfl (opR_load_pt (i := 0) Tryz.underlying3 rfl rfl rfl rfl) ?_
   show AI _ _ _ _ _ _ #[true, true, true, true, true, true, true, true, true, true, true, true, true, true, false, false, false, false, false, false, false] _
   refine AI.take (i := 14) rfl rfl (by kernel_rfl) (by kernel_rfl) (by kernel_rfl) (fun _ _ h => h) (g_add rfl rfl g23) ?_
   show AI _ _ _ _ _ _ #[true, true, true, true, true, true, true, true, true, true, true, true, true, true, true, false, false, false, false, false, false] _
   refine AI.take (i := 15) rfl rfl (by kernel_rfl) (by kernel_rfl) (by kernel_rfl) (fun _ _ h => h) (opS_nilCheck_pt rfl) ?_
   show AI _ _ _ _ _ _ #[true, true, true, true, true, true, true, true, true, true, true, true, true, true, true, true, false, false, false, false, false] _
   refine AI.take (i := 16) rfl rfl (by kernel_rfl) (by kernel_rfl) (by kernel_rfl) (fun _ _ h => h) (opS_fieldAddr_pt (n := 0) (by kernel_rfl) rfl) ?_
   show AI _ _ _ _ _ _ #[true, true, true, true, true, true, true, true, true, true, true, true, true, true, true, true, true, false, false, false, false] _
   refine AI.one (i := 17) (by kernel_rfl) rfl rfl ?_
   refine AIO.op0 (opR_store_pt (i := 0) (c := slE _ _ _) (by kernel_rfl) rfl rfl rfl rfl (Nat.le_of_ble_eq_true rfl)) ?_
   show AI _ _ _ _ _ _ #[true, true, true, true, true, true, true, true, true, true, true, true, true, true, true, true, true, true, false, false, false] _
   refine AI.take (i := 18) rfl rfl (by kernel_rfl) (by kernel_rfl) (by kernel_rfl) (fun _ _ h => h) (opS_nilCheck_pt rfl) ?_
   show AI _ _ _ _ _ _ #[true, true, true, true, true, true, true, true, true, true, true, true, true, true, true, true, true, true, true, false, false] _
   refine AI.take (i := 19) rfl rfl (by kernel_rfl) (by kernel_rfl) (by kernel_rfl) (fun _ _ h => h) (opS_fieldAddr_pt (n := 1) (by kernel_rfl) rfl) ?_
   show AI _ _ _ _ _ _ #[true, true, true, true, true, true, true, true, true, true, true, true, true, true, true, true, true, true, true, true, false] _
   refine AI.one (i := 20) (by kernel_rfl) rfl rfl ?_
   refine AIO.op0 (opR_store_pt (i := 0) (c := .v _) (by kernel_rfl) rfl rfl rfl rfl (Nat.le_of_ble_eq_true rfl)) ?_
   show AI _ _ _ _ _ _ #[true, true, true, true, true, true, true, true, true, true, true, true, true, true, true, true, true, true, true, true, true] _
   refine AI.done rfl ?_
   obtain ⟨rfl, rfl⟩ := res2 H
   exact And.intro rfl (Exists.intro _ (Exists.intro _ ⟨ResV.noneW rfl, Sub.at [0, 0] rfl, rfl, t19, rfl⟩))
  ·
   refine AIO.op rfl (opR_load_pt (i := 0) Tryz.underlying3 rfl rfl rfl rfl) ?_
   show AI _ _ _ _ _ _ #[true, true, true, true, true, true, true, false, true, true, true, true, true, true, false, false, false, false, false, false, false] _
   refine AI.take (i := 14) rfl rfl (by kernel_rfl) (by kernel_rfl) (by kernel_rfl) (fun _ _ h => h) (g_add rfl rfl g23) ?_
   show AI _ _ _ _ _ _ #[true, true, true, true, true, true, true, false, true, true, true, true, true, true, true, false, false, false, false, false, false] _
   refine AI.one (i := 7) (by kernel_rfl) rfl rfl ?_
   refine AIO.opx rfl (g_append_str (bytes := 1) 1 Tryz.underlying26 Tryz.underlying9 rfl (by kernel_rfl) rfl rfl rfl rfl g20 e22) ?_
   rintro _ _ ⟨t24, rfl, rfl⟩
   show AI _ _ _ _ _ _ #[true, true, true, true, true, true, true, true, true, true, true, true, true, true, true, false, false, false, false, false, false] _
   refine AI.take (i := 15) rfl rfl (by kernel_rfl) (by kernel_rfl) (by kernel_rfl) (fun _ _ h => h) (opS_nilCheck_pt rfl) ?_
   show AI _ _ _ _ _ _ #[true, true, true, true, true, true, true, true, true, true, true, true, true, true, true, true, false, false, false, false, false] _
   refine AI.take (i := 16) rfl rfl (by kernel_rfl) (by kernel_rfl) (by kernel_rfl) (fun _ _ h => h) (opS_fieldAddr_pt (n := 0) (by kernel_rfl) rfl) ?_
   show AI _ _ _ _ _ _ #[true, true, true, true, true, true, true, true, true, true, true, true, true, true, true, true, true, false, false, false, false] _
   refine AI.one (i := 17) (by kernel_rfl) rfl rfl ?_
   refine AIO.op0 (opR_store_pt (i := 0) (c := slE _ _ _) (by kernel_rfl) rfl rfl rfl rfl (Nat.le_of_ble_eq_true rfl)) ?_
   show AI _ _ _ _ _ _ #[true, true, true, true, true, true, true, true, true, true, true, true, true, true, true, true, true, true, false, false, false] _
   refine AI.take (i := 18) rfl rfl (by kernel_rfl) (by kernel_rfl) (by kernel_rfl) (fun _ _ h => h) (opS_nilCheck_pt rfl) ?_
   show AI _ _ _ _ _ _ #[true, true, true, true, true, true, true, true, true, true, true, true, true, true, true, true, true, true, true, false, false] _
   refine AI.take (i := 19) rfl rfl (by kernel_rfl) (by kernel_rfl) (by kernel_rfl) (fun _ _ h => h) (opS_fieldAddr_pt (n := 1) (by kernel_rfl) rfl) ?_
   show AI _ _ _ _ _ _ #[true, true, true, true, true, true, true, true, true, true, true, true, true, true, true, true, true, true, true, true, false] _
   refine AI.one (i := 20) (by kernel_rfl) rfl rfl ?_
   refine AIO.op0 (opR_store_pt (i := 0) (c := .v _) (by kernel_rfl) rfl rfl rfl rfl (Nat.le_of_ble_eq_true rfl)) ?_
   show AI _ _ _ _ _ _ #[true, true, true, true, true, true, true, true, true, true, true, true, true, true, true, true, true, true, true, true, true] _
   refine AI.done rfl ?_
   obtain ⟨rfl, rfl⟩ := res2 H
   exact And.intro rfl (Exists.intro _ (Exists.intro _ ⟨ResV.noneW rfl, Sub.at [0, 0] rfl, rfl, t24, rfl⟩))
 ·
  refine AIO.op rfl (opR_load_pt (i := 0) Tryz.underlying3 rfl rfl rfl rfl) ?_
  show AI _ _ _ _ _ _ #[true, true, true, true, true, false, true, false, true, true, true, true, true, true, false, false, false, false, false, false, false] _
  refine AI.take (i := 14) rfl rfl (by kernel_rfl) (by kernel_rfl) (by kernel_rfl) (fun _ _ h => h) (g_add rfl rfl g23) ?_
  show AI _ _ _ _ _ _ #[true, true, true, true, true, false, true, false, true, true, true, true, true, true, true, false, false, false, false, false, false] _
  refine AI.one (i := 5) (by kernel_rfl) rfl rfl ?_
  refine AIO.op rfl (opR_load_pt (i := 0) Tryz.underlying26 rfl rfl rfl rfl) ?_
  show AI _ _ _ _ _ _ #[true, true, true, true, true, true, true, false, true, true, true, true, true, true, true, false, false, false, false, false, false] _
  refine AI.one (i := 7) (by kernel_rfl) rfl rfl ?_
  refine AIO.opx rfl (g_append_str (bytes := 1) 1 Tryz.underlying26 Tryz.underlying9 rfl (by kernel_rfl) rfl rfl rfl rfl g20 e22) ?_
  rintro _ _ ⟨t25, rfl, rfl⟩
  show AI _ _ _ _ _ _ #[true, true, true, true, true, true, true, true, true, true, true, true, true, true, true, false, false, false, false, false, false] _
  refine AI.take (i := 15) rfl rfl (by kernel_rfl) (by kernel_rfl) (by kernel_rfl) (fun _ _ h => h) (opS_nilCheck_pt rfl) ?_
  show AI _ _ _ _ _ _ #[true, true, true, true, true, true, true, true, true, true, true, true, true, true, true, true, false, false, false, false, false] _
  refine AI.take (i := 16) rfl rfl (by kernel_rfl) (by kernel_rfl) (by kernel_rfl) (fun _ _ h => h) (opS_fieldAddr_pt (n := 0) (by kernel_rfl) rfl) ?_
  show AI _ _ _ _ _ _ #[true, true, true, true, true, true, true, true, true, true, true, true, true, true, true, true, true, false, false, false, false] _
  refine AI.one (i := 17) (by kernel_rfl) rfl rfl ?_
  refine AIO.op0 (opR_store_pt (i := 0) (c := slE _ _ _) (by kernel_rfl) rfl rfl rfl rfl (Nat.le_of_ble_eq_true rfl)) ?_
  show AI _ _ _ _ _ _ #[true, true, true, true, true, true, true, true, true, true, true, true, true, true, true, true, true, true, false, false, false] _
  refine AI.take (i := 18) rfl rfl (by kernel_rfl) (by kernel_rfl) (by kernel_rfl) (fun _ _ h => h) (opS_nilCheck_pt rfl) ?_
  show AI _ _ _ _ _ _ #[true, true, true, true, true, true, true, true, true, true, true, true, true, true, true, true, true, true, true, false, false] _
  refine AI.take (i := 19) rfl rfl (by kernel_rfl) (by kernel_rfl) (by kernel_rfl) (fun _ _ h => h) (opS_fieldAddr_pt (n := 1) (by kernel_rfl) rfl) ?_
  show AI _ _ _ _ _ _ #[true, true, true, true, true, true, true, true, true, true, true, true, true, true, true, true, true, true, true, true, false] _
  refine AI.one (i := 20) (by kernel_rfl) rfl rfl ?_
  refine AIO.op0 (opR_store_pt (i := 0) (c := .v _) (by kernel_rfl) rfl rfl rfl rfl (Nat.le_of_ble_eq_true rfl)) ?_
  show AI _ _ _ _ _ _ #[true, true, true, true, true, true, true, true, true, true, true, true, true, true, true, true, true, true, true, true, true] _
  refine AI.done rfl ?_
  obtain ⟨rfl, rfl⟩ := res2 H
  exact And.intro rfl (Exists.intro _ (Exists.intro _ ⟨ResV.noneW rfl, Sub.at [0, 0] rfl, rfl, t25, rfl⟩))
set_option maxRecDepth 100000 in
set_option maxHeartbeats 1000000 in
theorem w_qp_Encode (F : Nat) (a1 : List UInt8) (q2 : Option Nat) (r3 : List UInt8) (H : qp_Encode F a1 = some r3) : ACalls Tryz.prog 23 [slE Enc.byte a1 q2] [] (Ret (slE Enc.byte r3 none) []) := by
 unfold qp_Encode at H
 refine ACalls.of_body Tryz.func23 rfl rfl ?_
 show AW _ _ 41 _ _ _
 refine AW.seq ?_
 refine AW.region ?_
 show AR _ _ _ _ _ [0] _
 refine sS rfl rfl rfl (asg rfl) ?_
 refine AR.nil ?_
 show AW _ _ _ _ _ _
 refine AW.seq ?_
 refine AW.region ?_
 show AR _ _ _ _ _ [0, 1, 2] _
 refine sS rfl rfl rfl (g_build (zs := [.slice none 0 0, .int .i64 0]) (ps := [(0, 1), (1, 1)]) (cs := [nilS, i64 0]) (by kernel_rfl) rfl rfl) ?_
 refine sX rfl rfl rfl (opX_box rfl (.inr ⟨_, rfl⟩)) ?_
 rintro _ _ ⟨o4, rfl, rfl⟩
 refine sS rfl rfl rfl (opS_assign (av := .pt _ _) rfl) ?_
 refine AR.nil ?_
 show AW _ _ _ _ _ _
 refine AW.nil_objAt 0 0 1 5 rfl rfl fun t5 => ?_
 show AW _ _ _ _ _ ⟨_, _, [.tok t5 5, .obj o4 [slE Enc.byte [] (some t5), i64 0]]⟩
 refine AW.cut (X := (List UInt8) × Nat × Int) (fun (y36, t37, y38) => ⟨[(3, .pt o4 0)], [], [.obj o4 [slE Enc.byte y36 (some t37), i64 y38], .tok t37 5]⟩) (fun (y36, t37, y38) => qp_Encode_j1 y36 y38 = some r3) ?_ ?_
 ·
  refine AW.seq ?_
  refine AW.region ?_
  show AR _ _ _ _ _ [0, 1, 2] _
  refine sS rfl rfl rfl (opS_move (av := slE _ _ _) rfl) ?_
  refine sS rfl rfl rfl (opS_len_sl Tryz.underlying26 rfl) ?_
  refine sS rfl rfl rfl (mv rfl) ?_
  refine AR.nil ?_
  show AW _ _ _ _ _ _
  refine AW.block ?_
  refine AW.loop (X := Nat × Int × (List UInt8) × Nat × Int) (fun (n11, y6, y7, t8, y9) => ⟨[(0, slE Enc.byte a1 q2), (3, .pt o4 0), (8, slE Enc.byte a1 q2), (9, i64 (a1.length : Int)), (10, i64 y6)], [], [.obj o4 [slE Enc.byte y7 (some t8), i64 y9], .tok t8 5]⟩) (fun (n11, y6, y7, t8, y9) => qp_Encode_L1 F a1 n11 (y6, y7, y9) = some r3) (fun (n11, y6, y7, t8, y9) => n11) (F, 0, [], t5, 0) H (WK.at [1, 0] (.cons (.refl _) (.cons (.refl _) (.cons (.refl _) (.cons (.refl _) (.cons (.refl _) (.nil _)))))) rfl) ?_
  rintro ⟨n11, y6, y7, t8, y9⟩ H
  obtain ⟨n11, rfl, H⟩ := loop_s H
  replace H : qp_Encode_B1 F a1 (qp_Encode_L1 F a1 n11) y6 y7 y9 = some r3 := H
  unfold qp_Encode_B1 at H
  show AW _ _ _ _ _ _
  refine AW.seq ?_
  refine AW.region ?_
  show AR _ _ _ _ _ [0] _
  refine sS rfl rfl rfl (opS_lt rfl rfl) ?_
  refine AR.nil ?_
  show AW _ _ _ _ _ _
  refine AW.seq ?_
  refine AW.cond rfl (fun c12 => ?_) (fun c12 => ?_)
  ·replace H := cnd_t c12 H
   refine AW.skip ?_
   show AW _ _ _ _ _ _
   refine AW.cut (X := (List UInt8) × Nat × Int) (fun (y31, t32, y33) => ⟨[(0, slE Enc.byte a1 q2), (3, .pt o4 0), (8, slE Enc.byte a1 q2), (9, i64 (a1.length : Int)), (10, i64 y6)], [], [.obj o4 [slE Enc.byte y31 (some t32), i64 y33], .tok t32 5]⟩) (fun (y31, t32, y33) => qp_Encode_j2 y6 (qp_Encode_L1 F a1 n11) y31 y33 = some r3) ?_ ?_
   ·
    refine AW.block ?_
    refine AW.seq ?_
    obtain ⟨g13, H⟩ := grd_s H
    obtain ⟨x14, e15, H⟩ := lt_s H
    refine AW.region ?_
    show AR _ _ _ _ _ [0, 1, 2, 3, 4] _
    refine sS rfl rfl rfl (mv rfl) ?_
    refine sS rfl rfl rfl (g_indexAddr (E := Enc.byte) Tryz.underlying26 (by kernel_rfl) rfl rfl g13 e15) ?_
    refine sS rfl rfl rfl (opS_load_cp Tryz.underlying5 rfl rfl) ?_
    refine sS rfl rfl rfl (asg rfl) ?_
    refine sS rfl rfl rfl (asg rfl) ?_
    refine AR.nil ?_
    show AW _ _ _ _ _ _
    refine AW.seq ?_
    refine AW.seq ?_
    refine AW.region ?_
    show AR _ _ _ _ _ [0, 1] _
    refine sS rfl rfl rfl (mv rfl) ?_
    refine sS rfl rfl rfl (g_eq8 (a := x14) (b := 10) rfl rfl) ?_
    refine AR.nil ?_
    show AW _ _ _ _ _ _
    refine AW.cond rfl (fun c16 => ?_) (fun c16 => ?_)
    ·replace H := cnd_t c16 H
     refine AW.seq ?_
     obtain ⟨g18, H⟩ := grd_s H
     obtain ⟨x19, e20, H⟩ := lt_s H
     refine AW.region ?_
     show AR _ _ _ _ _ [0, 1, 2, 3, 4, 5, 6, 7, 8, 9, 10, 11, 12] _
     refine sS rfl rfl rfl (opS_move (av := .pt _ _) rfl) ?_
     refine sS rfl rfl rfl (opS_move (av := .pt _ _) rfl) ?_
     refine sS rfl rfl rfl (opS_move (av := .pt _ _) rfl) ?_
     refine sS rfl rfl rfl (opS_nilCheck_pt rfl) ?_
     refine sS rfl rfl rfl (opS_fieldAddr_pt (n := 0) (by kernel_rfl) rfl) ?_
     refine sR rfl rfl rfl (opR_load_pt (i := 0) Tryz.underlying26 rfl rfl rfl rfl) ?_
     refine sX rfl rfl rfl (g_append_str (bytes := 1) 1 Tryz.underlying26 Tryz.underlying9 rfl (by kernel_rfl) rfl rfl rfl rfl g18 e20) ?_
     rintro _ _ ⟨t17, rfl, rfl⟩
     refine sS rfl rfl rfl (opS_nilCheck_pt rfl) ?_
     refine sS rfl rfl rfl (opS_fieldAddr_pt (n := 0) (by kernel_rfl) rfl) ?_
     refine s0 rfl rfl (opR_store_pt (i := 0) (c := slE _ _ _) (by kernel_rfl) rfl rfl rfl rfl (Nat.le_of_ble_eq_true rfl)) ?_
     refine sS rfl rfl rfl (opS_nilCheck_pt rfl) ?_
     refine sS rfl rfl rfl (opS_fieldAddr_pt (n := 1) (by kernel_rfl) rfl) ?_
     refine s0 rfl rfl (opR_store_pt (i := 0) (c := .v _) (by kernel_rfl) rfl rfl rfl rfl (Nat.le_of_ble_eq_true rfl)) ?_
     refine AR.nil ?_
     show AW _ _ _ _ _ _
     refine AW.exit ?_
     exact Exists.intro (x19, t17, 0) ⟨H, WK.at [0, 0] (.cons (.refl _) (.cons (.refl _) (.cons (.refl _) (.cons (.refl _) (.cons (.refl _) (.nil _)))))) rfl⟩
    ·replace H := cnd_f c16 H
     refine AW.skip ?_
     show AW _ _ _ _ _ _
     obtain ⟨g21, H⟩ := grd_s H
     obtain ⟨g22, H⟩ := grd_s H
     obtain ⟨x23, e24, H⟩ := lt_s H
     obtain ⟨x25, e26, H⟩ := bnd_s H
     obtain ⟨x27, x28, e29, H⟩ := bnd2_s H
     refine AW.region ?_
     show AR _ _ _ _ _ [0, 1, 2, 3, 4, 5, 6, 7] _
     refine sS rfl rfl rfl (opS_move (av := .pt _ _) rfl) ?_
     refine sS rfl rfl rfl (mv rfl) ?_
     refine sS rfl rfl rfl (opS_move (av := slE _ _ _) rfl) ?_
     refine sS rfl rfl rfl (mv rfl) ?_
     refine sS rfl rfl rfl (g_add rfl rfl g21) ?_
     refine sS rfl rfl rfl (g_from_sl (E := Enc.byte) Tryz.underlying26 (by kernel_rfl) rfl rfl g22 e24) ?_
     refine AR.run rfl rfl (AO.callp rfl en45_qp rfl (w_qp_code F x14 x23 none x25 e26) ?_)
     refine AR.run rfl rfl (AO.callAt [0, 0] rfl en44_qp rfl (w_qp_put F o4 y7 t8 y9 x25 x27 x28 e29) rfl (fun c A' h => by cases h.1) ?_)
     rintro av A' ⟨h, t30, rfl⟩; cases h
     refine AR.nil ?_
     exact Exists.intro (x27, t30, x28) ⟨H, WK.at [0, 0] (.cons (.refl _) (.cons (.refl _) (.cons (.refl _) (.cons (.refl _) (.cons (.refl _) (.nil _)))))) rfl⟩
   rintro ⟨y31, t32, y33⟩ H
   replace H : qp_Encode_j2 y6 (qp_Encode_L1 F a1 n11) y31 y33 = some r3 := H
   unfold qp_Encode_j2 at H
   show AW _ _ _ _ _ _
   obtain ⟨g35, H⟩ := grd_s H
   refine AW.region ?_
   show AR _ _ _ _ _ [0, 1] _
   refine sS rfl rfl rfl (g_add rfl rfl g35) ?_
   refine sS rfl rfl rfl (mv rfl) ?_
   refine AR.nil ?_
   exact Exists.intro (n11, y6 + 1, y31, t32, y33) ⟨H, Nat.lt_succ_self _, WK.at [0, 0] (.cons (.refl _) (.cons (.refl _) (.cons (.refl _) (.cons (.refl _) (.cons (.refl _) (.nil _)))))) rfl⟩
  ·replace H := cnd_f c12 H
   refine AW.exit ?_
   exact Exists.intro (y7, t8, y9) ⟨H, WK.at [0, 0] (.cons (.refl _) (.nil _)) rfl⟩
 rintro ⟨y36, t37, y38⟩ H
 replace H : qp_Encode_j1 y36 y38 = some r3 := H
 unfold qp_Encode_j1 at H
 show AW _ _ _ _ _ _
 refine AW.seq ?_
 refine AW.region ?_
 show AR _ _ _ _ _ [0, 1, 2, 3, 4] _
 refine sS rfl rfl rfl (opS_move (av := .pt _ _) rfl) ?_
 refine sS rfl rfl rfl (opS_nilCheck_pt rfl) ?_
 refine sS rfl rfl rfl (opS_fieldAddr_pt (n := 0) (by kernel_rfl) rfl) ?_
 refine sR rfl rfl rfl (opR_load_pt (i := 0) Tryz.underlying26 rfl rfl rfl rfl) ?_
 refine sS rfl rfl rfl (opS_assign (av := slE _ _ _) rfl) ?_
 refine AR.nil ?_
 show AW _ _ _ _ _ _
 refine AW.ret ?_
 obtain rfl := Option.some.inj H
 exact And.intro rfl (Exists.intro _ (Exists.intro _ ⟨ResV.oneW rfl (.tok _ _ _), Sub.at [] rfl, rfl, rfl⟩))
end Go.Proofs.YtdaafnaokdigbaaGreatDoor
namespace Go.Pv
def b64_k1 : List UInt8 := [65, 66, 67, 68, 69, 70, 71, 72, 73, 74, 75, 76, 77, 78, 79, 80, 81, 82, 83, 84, 85, 86, 87, 88, 89, 90, 97, 98, 99, 100, 101, 102, 103, 104, 105, 106, 107, 108, 109, 110, 111, 112, 113, 114, 115, 116, 117, 118, 119, 120, 121, 122, 48, 49, 50, 51, 52, 53, 54, 55, 56, 57, 43, 47]
def b64_group_j1 (y43 : UInt8) (y44 : UInt8) (y45 : UInt8) (y46 : UInt8) : Option (UInt8 × UInt8 × UInt8 × UInt8) :=
some (y43, y44, y45, y46)
def b64_group_j2 (y20 : UInt8) (y27 : UInt8) (y34 : UInt8) (y41 : UInt8) : Option (UInt8 × UInt8 × UInt8 × UInt8) :=
b64_group_j1 y20 y27 y34 y41
def b64_group_j3 (a1 : List UInt8) (x10 : List UInt8) (y20 : UInt8) (y27 : UInt8) (y34 : UInt8) : Option (UInt8 × UInt8 × UInt8 × UInt8) :=
grd (decide (0 ≤ 0)) <|
grd (okAt (IntKind.u64.wrap ((BitVec.ofInt IntKind.u64.bits (Int.fdiv (IntKind.u64.wrap ((BitVec.ofInt IntKind.u64.bits (IntKind.u64.wrap ((BitVec.ofInt IntKind.u64.bits (IntKind.u64.wrap ((IntKind.u64.wrap ((x10.getD 0 0).toNat : Int)) * 2 ^ min (Int.toNat 16) IntKind.u64.bits)) ||| BitVec.ofInt IntKind.u64.bits (IntKind.u64.wrap ((IntKind.u64.wrap ((x10.getD 1 0).toNat : Int)) * 2 ^ min (Int.toNat 8) IntKind.u64.bits))).toNat)) ||| BitVec.ofInt IntKind.u64.bits (IntKind.u64.wrap ((x10.getD 2 0).toNat : Int))).toNat)) (2 ^ min (Int.toNat 0) IntKind.u64.bits)) &&& BitVec.ofInt IntKind.u64.bits 63).toNat)) b64_k1.length) <|
lt (at_ b64_k1 (IntKind.u64.wrap ((BitVec.ofInt IntKind.u64.bits (Int.fdiv (IntKind.u64.wrap ((BitVec.ofInt IntKind.u64.bits (IntKind.u64.wrap ((BitVec.ofInt IntKind.u64.bits (IntKind.u64.wrap ((IntKind.u64.wrap ((x10.getD 0 0).toNat : Int)) * 2 ^ min (Int.toNat 16) IntKind.u64.bits)) ||| BitVec.ofInt IntKind.u64.bits (IntKind.u64.wrap ((IntKind.u64.wrap ((x10.getD 1 0).toNat : Int)) * 2 ^ min (Int.toNat 8) IntKind.u64.bits))).toNat)) ||| BitVec.ofInt IntKind.u64.bits (IntKind.u64.wrap ((x10.getD 2 0).toNat : Int))).toNat)) (2 ^ min (Int.toNat 0) IntKind.u64.bits)) &&& BitVec.ofInt IntKind.u64.bits 63).toNat))) fun x38 =>
bif decide ((a1.length : Int) < 3) then
  b64_group_j2 y20 y27 y34 61
else
  b64_group_j2 y20 y27 y34 x38
def b64_group_j4 (a1 : List UInt8) (x10 : List UInt8) (y20 : UInt8) (y27 : UInt8) : Option (UInt8 × UInt8 × UInt8 × UInt8) :=
grd (decide (0 ≤ 6)) <|
grd (okAt (IntKind.u64.wrap ((BitVec.ofInt IntKind.u64.bits (Int.fdiv (IntKind.u64.wrap ((BitVec.ofInt IntKind.u64.bits (IntKind.u64.wrap ((BitVec.ofInt IntKind.u64.bits (IntKind.u64.wrap ((IntKind.u64.wrap ((x10.getD 0 0).toNat : Int)) * 2 ^ min (Int.toNat 16) IntKind.u64.bits)) ||| BitVec.ofInt IntKind.u64.bits (IntKind.u64.wrap ((IntKind.u64.wrap ((x10.getD 1 0).toNat : Int)) * 2 ^ min (Int.toNat 8) IntKind.u64.bits))).toNat)) ||| BitVec.ofInt IntKind.u64.bits (IntKind.u64.wrap ((x10.getD 2 0).toNat : Int))).toNat)) (2 ^ min (Int.toNat 6) IntKind.u64.bits)) &&& BitVec.ofInt IntKind.u64.bits 63).toNat)) b64_k1.length) <|
lt (at_ b64_k1 (IntKind.u64.wrap ((BitVec.ofInt IntKind.u64.bits (Int.fdiv (IntKind.u64.wrap ((BitVec.ofInt IntKind.u64.bits (IntKind.u64.wrap ((BitVec.ofInt IntKind.u64.bits (IntKind.u64.wrap ((IntKind.u64.wrap ((x10.getD 0 0).toNat : Int)) * 2 ^ min (Int.toNat 16) IntKind.u64.bits)) ||| BitVec.ofInt IntKind.u64.bits (IntKind.u64.wrap ((IntKind.u64.wrap ((x10.getD 1 0).toNat : Int)) * 2 ^ min (Int.toNat 8) IntKind.u64.bits))).toNat)) ||| BitVec.ofInt IntKind.u64.bits (IntKind.u64.wrap ((x10.getD 2 0).toNat : Int))).toNat)) (2 ^ min (Int.toNat 6) IntKind.u64.bits)) &&& BitVec.ofInt IntKind.u64.bits 63).toNat))) fun x31 =>
bif decide ((a1.length : Int) < 2) then
  b64_group_j3 a1 x10 y20 y27 61
else
  b64_group_j3 a1 x10 y20 y27 x31
def b64_group_j5 (a1 : List UInt8) (x10 : List UInt8) (y20 : UInt8) : Option (UInt8 × UInt8 × UInt8 × UInt8) :=
grd (decide (0 ≤ 12)) <|
grd (okAt (IntKind.u64.wrap ((BitVec.ofInt IntKind.u64.bits (Int.fdiv (IntKind.u64.wrap ((BitVec.ofInt IntKind.u64.bits (IntKind.u64.wrap ((BitVec.ofInt IntKind.u64.bits (IntKind.u64.wrap ((IntKind.u64.wrap ((x10.getD 0 0).toNat : Int)) * 2 ^ min (Int.toNat 16) IntKind.u64.bits)) ||| BitVec.ofInt IntKind.u64.bits (IntKind.u64.wrap ((IntKind.u64.wrap ((x10.getD 1 0).toNat : Int)) * 2 ^ min (Int.toNat 8) IntKind.u64.bits))).toNat)) ||| BitVec.ofInt IntKind.u64.bits (IntKind.u64.wrap ((x10.getD 2 0).toNat : Int))).toNat)) (2 ^ min (Int.toNat 12) IntKind.u64.bits)) &&& BitVec.ofInt IntKind.u64.bits 63).toNat)) b64_k1.length) <|
lt (at_ b64_k1 (IntKind.u64.wrap ((BitVec.ofInt IntKind.u64.bits (Int.fdiv (IntKind.u64.wrap ((BitVec.ofInt IntKind.u64.bits (IntKind.u64.wrap ((BitVec.ofInt IntKind.u64.bits (IntKind.u64.wrap ((IntKind.u64.wrap ((x10.getD 0 0).toNat : Int)) * 2 ^ min (Int.toNat 16) IntKind.u64.bits)) ||| BitVec.ofInt IntKind.u64.bits (IntKind.u64.wrap ((IntKind.u64.wrap ((x10.getD 1 0).toNat : Int)) * 2 ^ min (Int.toNat 8) IntKind.u64.bits))).toNat)) ||| BitVec.ofInt IntKind.u64.bits (IntKind.u64.wrap ((x10.getD 2 0).toNat : Int))).toNat)) (2 ^ min (Int.toNat 12) IntKind.u64.bits)) &&& BitVec.ofInt IntKind.u64.bits 63).toNat))) fun x24 =>
bif decide ((a1.length : Int) < 1) then
  b64_group_j4 a1 x10 y20 61
else
  b64_group_j4 a1 x10 y20 x24
def b64_group (F : Nat) (a1 : List UInt8) : Option (UInt8 × UInt8 × UInt8 × UInt8) :=
grd (decide (a1.length ≤ 3)) <|
lt (cpyB ([0, 0, 0] : List UInt8) a1) fun x10 =>
grd (decide (0 ≤ 16)) <|
grd (decide (0 ≤ 8)) <|
grd (decide (0 ≤ 18)) <|
grd (okAt (IntKind.u64.wrap ((BitVec.ofInt IntKind.u64.bits (Int.fdiv (IntKind.u64.wrap ((BitVec.ofInt IntKind.u64.bits (IntKind.u64.wrap ((BitVec.ofInt IntKind.u64.bits (IntKind.u64.wrap ((IntKind.u64.wrap ((x10.getD 0 0).toNat : Int)) * 2 ^ min (Int.toNat 16) IntKind.u64.bits)) ||| BitVec.ofInt IntKind.u64.bits (IntKind.u64.wrap ((IntKind.u64.wrap ((x10.getD 1 0).toNat : Int)) * 2 ^ min (Int.toNat 8) IntKind.u64.bits))).toNat)) ||| BitVec.ofInt IntKind.u64.bits (IntKind.u64.wrap ((x10.getD 2 0).toNat : Int))).toNat)) (2 ^ min (Int.toNat 18) IntKind.u64.bits)) &&& BitVec.ofInt IntKind.u64.bits 63).toNat)) b64_k1.length) <|
lt (at_ b64_k1 (IntKind.u64.wrap ((BitVec.ofInt IntKind.u64.bits (Int.fdiv (IntKind.u64.wrap ((BitVec.ofInt IntKind.u64.bits (IntKind.u64.wrap ((BitVec.ofInt IntKind.u64.bits (IntKind.u64.wrap ((IntKind.u64.wrap ((x10.getD 0 0).toNat : Int)) * 2 ^ min (Int.toNat 16) IntKind.u64.bits)) ||| BitVec.ofInt IntKind.u64.bits (IntKind.u64.wrap ((IntKind.u64.wrap ((x10.getD 1 0).toNat : Int)) * 2 ^ min (Int.toNat 8) IntKind.u64.bits))).toNat)) ||| BitVec.ofInt IntKind.u64.bits (IntKind.u64.wrap ((x10.getD 2 0).toNat : Int))).toNat)) (2 ^ min (Int.toNat 18) IntKind.u64.bits)) &&& BitVec.ofInt IntKind.u64.bits 63).toNat))) fun x17 =>
bif decide ((a1.length : Int) < 0) then
  b64_group_j5 a1 x10 61
else
  b64_group_j5 a1 x10 x17
def b64_Raw_j1 (y30 : List UInt8) : Option ((List UInt8)) :=
grd (okW y30 []) <|
some y30
def b64_Raw_B1 (F : Nat) (rec10 : ((List UInt8) × (List UInt8)) → Option ((List UInt8))) (y6 : List UInt8) (y8 : List UInt8) : Option ((List UInt8)) :=
bif decide (0 < (y6.length : Int)) then
  grd (okTo (min 3 (y6.length : Int)) y6.length) <|
  lt (to_ y6 (min 3 (y6.length : Int))) fun x14 =>
  bnd4 (b64_group F x14) fun x16 x17 x18 x19 =>
  grd (okW y8 ([x16, x17, x18, x19] : List UInt8)) <|
  lt (y8 ++ ([x16, x17, x18, x19] : List UInt8)) fun x23 =>
  grd (okTo (min 3 (y6.length : Int)) y6.length) <|
  lt (from_ y6 (min 3 (y6.length : Int))) fun x27 =>
  rec10 (x27, x23)
else
  b64_Raw_j1 y8
def b64_Raw_L1 (F : Nat) (n : Nat) : ((List UInt8) × (List UInt8)) → Option ((List UInt8)) :=
  loop (fun rec x => b64_Raw_B1 F rec x.1 x.2) n
def b64_Raw (F : Nat) (a1 : List UInt8) : Option ((List UInt8)) :=
b64_Raw_L1 F F (a1, [])
def b64_Bytes_j1 (F : Nat) (a1 : List UInt8) (y50 : List UInt8) : Option ((List UInt8) × Int) :=
bnd (b64_Raw F y50) fun x53 =>
bif !decide (x53 = a1) then
  some ([], 2)
else
  some (y50, 0)
def b64_Bytes_j2 (y5 : List UInt8) (y7 : List UInt8) (rec8 : ((List UInt8) × (List UInt8)) → Option ((List UInt8) × Int)) (y35 : Int) (y36 : Int) : Option ((List UInt8) × Int) :=
grd (decide (0 ≤ 16)) <|
grd (decide (0 ≤ 8)) <|
grd (okTo y36 ([Go.Av.toB (Int.fdiv y35 (2 ^ min (Int.toNat 16) IntKind.u64.bits)), Go.Av.toB (Int.fdiv y35 (2 ^ min (Int.toNat 8) IntKind.u64.bits)), Go.Av.toB y35] : List UInt8).length) <|
lt (to_ ([Go.Av.toB (Int.fdiv y35 (2 ^ min (Int.toNat 16) IntKind.u64.bits)), Go.Av.toB (Int.fdiv y35 (2 ^ min (Int.toNat 8) IntKind.u64.bits)), Go.Av.toB y35] : List UInt8) y36) fun x41 =>
grd (okCat (y5.length + x41.length)) <|
lt (y5 ++ x41) fun x45 =>
grd (okTo 4 y7.length) <|
lt (from_ y7 4) fun x48 =>
rec8 (x45, x48)
def b64_Bytes_j3 (y12 : Int) (y14 : Int) (rec15 : (Int × Int × Int) → Option ((List UInt8) × Int)) (y28 : Int) (y29 : Int) : Option ((List UInt8) × Int) :=
bif (decide (y29 < 0)) || (decide (y28 < 1)) then
  some ([], 2)
else
  grd (decide (0 ≤ 6)) <|
  grd (okI (y14 + 1)) <|
  rec15 (IntKind.u64.wrap ((BitVec.ofInt IntKind.u64.bits (IntKind.u64.wrap (y12 * 2 ^ min (Int.toNat 6) IntKind.u64.bits)) ||| BitVec.ofInt IntKind.u64.bits (IntKind.u64.wrap y29)).toNat), y28, y14 + 1)
def b64_Bytes_B1 (y5 : List UInt8) (y7 : List UInt8) (rec8 : ((List UInt8) × (List UInt8)) → Option ((List UInt8) × Int)) (rec15 : (Int × Int × Int) → Option ((List UInt8) × Int)) (y12 : Int) (y13 : Int) (y14 : Int) : Option ((List UInt8) × Int) :=
bif decide (y14 < 4) then
  grd (okAt y14 y7.length) <|
  lt (at_ y7 y14) fun x19 =>
  lt (Go.Lib.indexByte b64_k1 x19) fun x21 =>
  grd (okAt y14 y7.length) <|
  lt (at_ y7 y14) fun x24 =>
  bif decide (x24 = 61) then
    grd (okI (y13 - 1)) <|
    b64_Bytes_j3 y12 y14 rec15 (y13 - 1) 0
  else
    b64_Bytes_j3 y12 y14 rec15 y13 x21
else
  b64_Bytes_j2 y5 y7 rec8 y12 y13
def b64_Bytes_L1 (y5 : List UInt8) (y7 : List UInt8) (rec8 : ((List UInt8) × (List UInt8)) → Option ((List UInt8) × Int)) (n : Nat) : (Int × Int × Int) → Option ((List UInt8) × Int) :=
  loop (fun rec x => b64_Bytes_B1 y5 y7 rec8 rec x.1 x.2.1 x.2.2) n
def b64_Bytes_B2 (F : Nat) (a1 : List UInt8) (rec8 : ((List UInt8) × (List UInt8)) → Option ((List UInt8) × Int)) (y5 : List UInt8) (y7 : List UInt8) : Option ((List UInt8) × Int) :=
bif !decide (y7 = ([] : List UInt8)) then
  bif decide ((y7.length : Int) < 4) then
    some ([], 2)
  else
    b64_Bytes_L1 y5 y7 rec8 F (0, 3, 0)
else
  b64_Bytes_j1 F a1 y5
def b64_Bytes_L2 (F : Nat) (a1 : List UInt8) (n : Nat) : ((List UInt8) × (List UInt8)) → Option ((List UInt8) × Int) :=
  loop (fun rec x => b64_Bytes_B2 F a1 rec x.1 x.2) n
def b64_Bytes (F : Nat) (a1 : List UInt8) : Option ((List UInt8) × Int) :=
b64_Bytes_L2 F a1 F ([], a1)
end Go.Pv
namespace Go.Proofs.YtdaafnaokdigbaaGreatDoor
open Go.RowKit Go.Av Go.Pv
theorem en41_b64 : ∀ (args : Array Value) (w : World), (callFunc 41 args).run Tryz.prog w = .ok (.enter 41 args) w := fun _ _ => by kernel_rfl
theorem en114_b64 : ∀ (args : Array Value) (w : World), (callFunc 114 args).run Tryz.prog w = .ok (.enter 114 args) w := fun _ _ => by kernel_rfl
theorem en128_b64 : ∀ (args : Array Value) (w : World), (callFunc 128 args).run Tryz.prog w = .ok (.enter 128 args) w := fun _ _ => by kernel_rfl
theorem en135_b64 : ∀ (args : Array Value) (w : World), (callFunc 135 args).run Tryz.prog w = .ok (.enter 135 args) w := fun _ _ => by kernel_rfl
theorem en136_b64 : ∀ (args : Array Value) (w : World), (callFunc 136 args).run Tryz.prog w = .ok (.enter 136 args) w := fun _ _ => by kernel_rfl
set_option maxRecDepth 100000 in
set_option maxHeartbeats 1000000 in
theorem w_b64_group (F : Nat) (a1 : List UInt8) (q2 : Option Nat) (r3 : UInt8) (r4 : UInt8) (r5 : UInt8) (r6 : UInt8) (H : b64_group F a1 = some (r3, r4, r5, r6)) : ACalls Tryz.prog 135 [slE Enc.byte a1 q2] [] (Ret (.agg [u8 r3, u8 r4, u8 r5, u8 r6]) []) := by
 unfold b64_group at H
 refine ACalls.of_body Tryz.func135 rfl rfl ?_
 show AW _ _ 43 _ _ _
 refine AW.seq ?_
 refine AW.region ?_
 show AR _ _ _ _ _ [0] _
 refine sX rfl rfl rfl (opX_alloc (zs := [.int .u8 0, .int .u8 0, .int .u8 0, .int .u8 0]) (by kernel_rfl)) ?_
 rintro _ _ ⟨o7, rfl, rfl⟩
 refine AR.nil ?_
 show AW _ _ _ _ _ _
 refine AW.seq ?_
 refine AW.region ?_
 show AR _ _ _ _ _ [0] _
 refine sX rfl rfl rfl (opX_alloc (zs := [.int .u8 0, .int .u8 0, .int .u8 0]) (by kernel_rfl)) ?_
 rintro _ _ ⟨o8, rfl, rfl⟩
 refine AR.nil ?_
 show AW _ _ _ _ _ _
 refine AW.seq ?_
 obtain ⟨g9, H⟩ := grd_s H
 obtain ⟨x10, e11, H⟩ := lt_s H
 refine AW.region ?_
 show AR _ _ _ _ _ [0, 1, 2] _
 refine sS rfl rfl rfl (opS_slice_arr (k := 1) Tryz.underlying166 (by kernel_rfl) rfl) ?_
 refine sS rfl rfl rfl (opS_move (av := slE _ _ _) rfl) ?_
 refine sR rfl rfl rfl (g_copy_arr (l := ([0, 0, 0] : List UInt8)) (vs := [u8 (x10.getD 0 0), u8 (x10.getD 1 0), u8 (x10.getD 2 0)]) 0 Tryz.underlying26 (by kernel_rfl) rfl rfl rfl rfl rfl g9 e11 rfl) ?_
 refine AR.nil ?_
 show AW _ _ _ _ _ _
 refine AW.seq ?_
 obtain ⟨g12, H⟩ := grd_s H
 obtain ⟨g13, H⟩ := grd_s H
 refine AW.region ?_
 show AR _ _ _ _ _ [0, 1, 2, 3, 4, 5, 6, 7, 8, 9, 10, 11, 12, 13] _
 refine sS rfl rfl rfl (opS_indexAddr_arr (Ar := 0) (k := 1) (m := 0) Tryz.underlying166 (by kernel_rfl) rfl rfl rfl (by decide)) ?_
 refine sR rfl rfl rfl (opR_load_pt (i := 0) Tryz.underlying5 rfl rfl rfl rfl) ?_
 refine sS rfl rfl rfl (opS_conv_int (k' := .u8) (n := ((x10.getD 0 0).toNat : Int)) (by kernel_rfl) Tryz.underlying76 rfl) ?_
 refine sS rfl rfl rfl (opS_shl rfl rfl (of_decide_eq_true g12)) ?_
 refine sS rfl rfl rfl (opS_indexAddr_arr (Ar := 0) (k := 1) (m := 1) Tryz.underlying166 (by kernel_rfl) rfl rfl rfl (by decide)) ?_
 refine sR rfl rfl rfl (opR_load_pt (i := 0) Tryz.underlying5 rfl rfl rfl rfl) ?_
 refine sS rfl rfl rfl (opS_conv_int (k' := .u8) (n := ((x10.getD 1 0).toNat : Int)) (by kernel_rfl) Tryz.underlying76 rfl) ?_
 refine sS rfl rfl rfl (opS_shl rfl rfl (of_decide_eq_true g13)) ?_
 refine sS rfl rfl rfl (opS_or rfl rfl) ?_
 refine sS rfl rfl rfl (opS_indexAddr_arr (Ar := 0) (k := 1) (m := 2) Tryz.underlying166 (by kernel_rfl) rfl rfl rfl (by decide)) ?_
 refine sR rfl rfl rfl (opR_load_pt (i := 0) Tryz.underlying5 rfl rfl rfl rfl) ?_
 refine sS rfl rfl rfl (opS_conv_int (k' := .u8) (n := ((x10.getD 2 0).toNat : Int)) (by kernel_rfl) Tryz.underlying76 rfl) ?_
 refine sS rfl rfl rfl (opS_or rfl rfl) ?_
 refine sS rfl rfl rfl (asg rfl) ?_
 refine AR.nil ?_
 show AW _ _ _ _ _ _
 refine AW.seq ?_
 refine AW.region ?_
 show AR _ _ _ _ _ [0] _
 refine sX rfl rfl rfl (opX_alloc (zs := [.int .u8 0, .int .u8 0, .int .u8 0, .int .u8 0]) (by kernel_rfl)) ?_
 rintro _ _ ⟨o14, rfl, rfl⟩
 refine AR.nil ?_
 show AW _ _ _ _ _ _
 refine AW.cut (X := UInt8 × UInt8 × UInt8 × UInt8) (fun (y43, y44, y45, y46) => ⟨[(2, .pt o7 0), (5, .pt o14 0)], [], [.obj o14 [u8 y43, u8 y44, u8 y45, u8 y46], .obj o7 [u8 0, u8 0, u8 0, u8 0]]⟩) (fun (y43, y44, y45, y46) => b64_group_j1 y43 y44 y45 y46 = some (r3, r4, r5, r6)) ?_ ?_
 ·
  refine AW.seq ?_
  refine AW.region ?_
  show AR _ _ _ _ _ [0] _
  refine sS rfl rfl rfl (mv rfl) ?_
  refine AR.nil ?_
  show AW _ _ _ _ _ _
  refine AW.block ?_
  refine AW.rounds 6 ?_
  show AW _ _ _ _ _ _
  refine AW.seq ?_
  refine AW.region ?_
  show AR _ _ _ _ _ [0] _
  refine sS rfl rfl rfl (OpS.eq (av' := B true) (opS_lt rfl rfl) (B_congr (by decide))) ?_
  refine AR.nil ?_
  show AW _ _ _ _ _ _
  refine AW.seq ?_
  refine AW.cond rfl (fun _ => ?_) (fun hx => bool_no rfl hx)
  refine AW.skip ?_
  show AW _ _ _ _ _ _
  refine AW.cut (X := UInt8) (fun y20 => ⟨[(0, slE Enc.byte a1 q2), (2, .pt o7 0), (4, .v (.int .u64 (IntKind.u64.wrap ((BitVec.ofInt IntKind.u64.bits (IntKind.u64.wrap ((BitVec.ofInt IntKind.u64.bits (IntKind.u64.wrap ((IntKind.u64.wrap ((x10.getD 0 0).toNat : Int)) * 2 ^ min (Int.toNat 16) IntKind.u64.bits)) ||| BitVec.ofInt IntKind.u64.bits (IntKind.u64.wrap ((IntKind.u64.wrap ((x10.getD 1 0).toNat : Int)) * 2 ^ min (Int.toNat 8) IntKind.u64.bits))).toNat)) ||| BitVec.ofInt IntKind.u64.bits (IntKind.u64.wrap ((x10.getD 2 0).toNat : Int))).toNat)))), (5, .pt o14 0), (23, i64 0)], [], [.obj o14 [u8 y20, u8 0, u8 0, u8 0], .obj o7 [u8 0, u8 0, u8 0, u8 0]]⟩) (fun y20 => b64_group_j5 a1 x10 y20 = some (r3, r4, r5, r6)) ?_ ?_
  ·
   refine AW.block ?_
   refine AW.seq ?_
   refine AW.region ?_
   show AR _ _ _ _ _ [0, 1] _
   refine sS rfl rfl rfl (mv rfl) ?_
   refine sS rfl rfl rfl (asg rfl) ?_
   refine AR.nil ?_
   show AW _ _ _ _ _ _
   refine AW.seq ?_
   obtain ⟨g15, H⟩ := grd_s H
   obtain ⟨g16, H⟩ := grd_s H
   obtain ⟨x17, e18, H⟩ := lt_s H
   refine AW.region ?_
   show AR _ _ _ _ _ [0, 1, 2, 3, 4, 5, 6, 7, 8, 9] _
   refine sS rfl rfl rfl (mv rfl) ?_
   refine sS rfl rfl rfl (mv rfl) ?_
   refine sS rfl rfl rfl (mv rfl) ?_
   refine sS rfl rfl rfl (OpS.eq (av' := i64 0) (g_mul rfl rfl (by decide)) rfl) ?_
   refine sS rfl rfl rfl (OpS.eq (av' := i64 18) (g_sub rfl rfl (by decide)) rfl) ?_
   refine sS rfl rfl rfl (opS_shr rfl rfl (of_decide_eq_true g15)) ?_
   refine sS rfl rfl rfl (opS_and rfl rfl) ?_
   refine sS rfl rfl rfl (g_index_str Tryz.underlying9 rfl rfl g16 e18) ?_
   refine sS rfl rfl rfl (opS_indexAddr_arr (Ar := 0) (k := 1) (m := 0) Tryz.underlying157 (by kernel_rfl) rfl rfl rfl (by decide)) ?_
   refine s0 rfl rfl (opR_store_pt (i := 0) (c := .v _) (by kernel_rfl) rfl rfl rfl rfl (Nat.le_of_ble_eq_true rfl)) ?_
   refine AR.nil ?_
   show AW _ _ _ _ _ _
   refine AW.seq ?_
   refine AW.region ?_
   show AR _ _ _ _ _ [0, 1, 2, 3] _
   refine sS rfl rfl rfl (mv rfl) ?_
   refine sS rfl rfl rfl (opS_move (av := slE _ _ _) rfl) ?_
   refine sS rfl rfl rfl (opS_len_sl Tryz.underlying26 rfl) ?_
   refine sS rfl rfl rfl (opS_gt rfl rfl) ?_
   refine AR.nil ?_
   show AW _ _ _ _ _ _
   refine AW.cond rfl (fun c19 => ?_) (fun c19 => ?_)
   ·replace H := cnd_t c19 H
    refine AW.region ?_
    show AR _ _ _ _ _ [0, 1, 2] _
    refine sS rfl rfl rfl (mv rfl) ?_
    refine sS rfl rfl rfl (opS_indexAddr_arr (Ar := 0) (k := 1) (m := 0) Tryz.underlying157 (by kernel_rfl) rfl rfl rfl (by decide)) ?_
    refine s0 rfl rfl (opR_store_pt (i := 0) (c := .v _) (by kernel_rfl) rfl rfl rfl rfl (Nat.le_of_ble_eq_true rfl)) ?_
    refine AR.nil ?_
    exact Exists.intro 61 ⟨H, WK.at [0, 1] (.cons (.refl _) (.cons (.refl _) (.cons (.refl _) (.cons (.refl _) (.cons (.refl _) (.nil _)))))) rfl⟩
   ·replace H := cnd_f c19 H
    refine AW.skip ?_
    exact Exists.intro x17 ⟨H, WK.at [0, 1] (.cons (.refl _) (.cons (.refl _) (.cons (.refl _) (.cons (.refl _) (.cons (.refl _) (.nil _)))))) rfl⟩
  rintro y20 H
  replace H : b64_group_j5 a1 x10 y20 = some (r3, r4, r5, r6) := H
  unfold b64_group_j5 at H
  show AW _ _ _ _ _ _
  refine AW.region ?_
  show AR _ _ _ _ _ [0, 1] _
  refine sS rfl rfl rfl (OpS.eq (av' := i64 1) (g_add rfl rfl (by decide)) rfl) ?_
  refine sS rfl rfl rfl (mv rfl) ?_
  refine AR.nil ?_
  show AW _ _ _ _ _ _
  refine AW.seq ?_
  refine AW.region ?_
  show AR _ _ _ _ _ [0] _
  refine sS rfl rfl rfl (OpS.eq (av' := B true) (opS_lt rfl rfl) (B_congr (by decide))) ?_
  refine AR.nil ?_
  show AW _ _ _ _ _ _
  refine AW.seq ?_
  refine AW.cond rfl (fun _ => ?_) (fun hx => bool_no rfl hx)
  refine AW.skip ?_
  show AW _ _ _ _ _ _
  refine AW.cut (X := UInt8) (fun y27 => ⟨[(0, slE Enc.byte a1 q2), (2, .pt o7 0), (4, .v (.int .u64 (IntKind.u64.wrap ((BitVec.ofInt IntKind.u64.bits (IntKind.u64.wrap ((BitVec.ofInt IntKind.u64.bits (IntKind.u64.wrap ((IntKind.u64.wrap ((x10.getD 0 0).toNat : Int)) * 2 ^ min (Int.toNat 16) IntKind.u64.bits)) ||| BitVec.ofInt IntKind.u64.bits (IntKind.u64.wrap ((IntKind.u64.wrap ((x10.getD 1 0).toNat : Int)) * 2 ^ min (Int.toNat 8) IntKind.u64.bits))).toNat)) ||| BitVec.ofInt IntKind.u64.bits (IntKind.u64.wrap ((x10.getD 2 0).toNat : Int))).toNat)))), (5, .pt o14 0), (23, i64 1)], [], [.obj o14 [u8 y20, u8 y27, u8 0, u8 0], .obj o7 [u8 0, u8 0, u8 0, u8 0]]⟩) (fun y27 => b64_group_j4 a1 x10 y20 y27 = some (r3, r4, r5, r6)) ?_ ?_
  ·
   refine AW.block ?_
   refine AW.seq ?_
   refine AW.region ?_
   show AR _ _ _ _ _ [0, 1] _
   refine sS rfl rfl rfl (mv rfl) ?_
   refine sS rfl rfl rfl (asg rfl) ?_
   refine AR.nil ?_
   show AW _ _ _ _ _ _
   refine AW.seq ?_
   obtain ⟨g22, H⟩ := grd_s H
   obtain ⟨g23, H⟩ := grd_s H
   obtain ⟨x24, e25, H⟩ := lt_s H
   refine AW.region ?_
   show AR _ _ _ _ _ [0, 1, 2, 3, 4, 5, 6, 7, 8, 9] _
   refine sS rfl rfl rfl (mv rfl) ?_
   refine sS rfl rfl rfl (mv rfl) ?_
   refine sS rfl rfl rfl (mv rfl) ?_
   refine sS rfl rfl rfl (OpS.eq (av' := i64 6) (g_mul rfl rfl (by decide)) rfl) ?_
   refine sS rfl rfl rfl (OpS.eq (av' := i64 12) (g_sub rfl rfl (by decide)) rfl) ?_
   refine sS rfl rfl rfl (opS_shr rfl rfl (of_decide_eq_true g22)) ?_
   refine sS rfl rfl rfl (opS_and rfl rfl) ?_
   refine sS rfl rfl rfl (g_index_str Tryz.underlying9 rfl rfl g23 e25) ?_
   refine sS rfl rfl rfl (opS_indexAddr_arr (Ar := 0) (k := 1) (m := 1) Tryz.underlying157 (by kernel_rfl) rfl rfl rfl (by decide)) ?_
   refine s0 rfl rfl (opR_store_pt (i := 0) (c := .v _) (by kernel_rfl) rfl rfl rfl rfl (Nat.le_of_ble_eq_true rfl)) ?_
   refine AR.nil ?_
   show AW _ _ _ _ _ _
   refine AW.seq ?_
   refine AW.region ?_
   show AR _ _ _ _ _ [0, 1, 2, 3] _
   refine sS rfl rfl rfl (mv rfl) ?_
   refine sS rfl rfl rfl (opS_move (av := slE _ _ _) rfl) ?_
   refine sS rfl rfl rfl (opS_len_sl Tryz.underlying26 rfl) ?_
   refine sS rfl rfl rfl (opS_gt rfl rfl) ?_
   refine AR.nil ?_
   show AW _ _ _ _ _ _
   refine AW.cond rfl (fun c26 => ?_) (fun c26 => ?_)
   ·replace H := cnd_t c26 H
    refine AW.region ?_
    show AR _ _ _ _ _ [0, 1, 2] _
    refine sS rfl rfl rfl (mv rfl) ?_
    refine sS rfl rfl rfl (opS_indexAddr_arr (Ar := 0) (k := 1) (m := 1) Tryz.underlying157 (by kernel_rfl) rfl rfl rfl (by decide)) ?_
    refine s0 rfl rfl (opR_store_pt (i := 0) (c := .v _) (by kernel_rfl) rfl rfl rfl rfl (Nat.le_of_ble_eq_true rfl)) ?_
    refine AR.nil ?_
    exact Exists.intro 61 ⟨H, WK.at [0, 0] (.cons (.refl _) (.cons (.refl _) (.cons (.refl _) (.cons (.refl _) (.cons (.refl _) (.nil _)))))) rfl⟩
   ·replace H := cnd_f c26 H
    refine AW.skip ?_
    exact Exists.intro x24 ⟨H, WK.at [0, 0] (.cons (.refl _) (.cons (.refl _) (.cons (.refl _) (.cons (.refl _) (.cons (.refl _) (.nil _)))))) rfl⟩
  rintro y27 H
  replace H : b64_group_j4 a1 x10 y20 y27 = some (r3, r4, r5, r6) := H
  unfold b64_group_j4 at H
  show AW _ _ _ _ _ _
  refine AW.region ?_
  show AR _ _ _ _ _ [0, 1] _
  refine sS rfl rfl rfl (OpS.eq (av' := i64 2) (g_add rfl rfl (by decide)) rfl) ?_
  refine sS rfl rfl rfl (mv rfl) ?_
  refine AR.nil ?_
  show AW _ _ _ _ _ _
  refine AW.seq ?_
  refine AW.region ?_
  show AR _ _ _ _ _ [0] _
  refine sS rfl rfl rfl (OpS.eq (av' := B true) (opS_lt rfl rfl) (B_congr (by decide))) ?_
  refine AR.nil ?_
  show AW _ _ _ _ _ _
  refine AW.seq ?_
  refine AW.cond rfl (fun _ => ?_) (fun hx => bool_no rfl hx)
  refine AW.skip ?_
  show AW _ _ _ _ _ _
  refine AW.cut (X := UInt8) (fun y34 => ⟨[(0, slE Enc.byte a1 q2), (2, .pt o7 0), (4, .v (.int .u64 (IntKind.u64.wrap ((BitVec.ofInt IntKind.u64.bits (IntKind.u64.wrap ((BitVec.ofInt IntKind.u64.bits (IntKind.u64.wrap ((IntKind.u64.wrap ((x10.getD 0 0).toNat : Int)) * 2 ^ min (Int.toNat 16) IntKind.u64.bits)) ||| BitVec.ofInt IntKind.u64.bits (IntKind.u64.wrap ((IntKind.u64.wrap ((x10.getD 1 0).toNat : Int)) * 2 ^ min (Int.toNat 8) IntKind.u64.bits))).toNat)) ||| BitVec.ofInt IntKind.u64.bits (IntKind.u64.wrap ((x10.getD 2 0).toNat : Int))).toNat)))), (5, .pt o14 0), (23, i64 2)], [], [.obj o14 [u8 y20, u8 y27, u8 y34, u8 0], .obj o7 [u8 0, u8 0, u8 0, u8 0]]⟩) (fun y34 => b64_group_j3 a1 x10 y20 y27 y34 = some (r3, r4, r5, r6)) ?_ ?_
  ·
   refine AW.block ?_
   refine AW.seq ?_
   refine AW.region ?_
   show AR _ _ _ _ _ [0, 1] _
   refine sS rfl rfl rfl (mv rfl) ?_
   refine sS rfl rfl rfl (asg rfl) ?_
   refine AR.nil ?_
   show AW _ _ _ _ _ _
   refine AW.seq ?_
   obtain ⟨g29, H⟩ := grd_s H
   obtain ⟨g30, H⟩ := grd_s H
   obtain ⟨x31, e32, H⟩ := lt_s H
   refine AW.region ?_
   show AR _ _ _ _ _ [0, 1, 2, 3, 4, 5, 6, 7, 8, 9] _
   refine sS rfl rfl rfl (mv rfl) ?_
   refine sS rfl rfl rfl (mv rfl) ?_
   refine sS rfl rfl rfl (mv rfl) ?_
   refine sS rfl rfl rfl (OpS.eq (av' := i64 12) (g_mul rfl rfl (by decide)) rfl) ?_
   refine sS rfl rfl rfl (OpS.eq (av' := i64 6) (g_sub rfl rfl (by decide)) rfl) ?_
   refine sS rfl rfl rfl (opS_shr rfl rfl (of_decide_eq_true g29)) ?_
   refine sS rfl rfl rfl (opS_and rfl rfl) ?_
   refine sS rfl rfl rfl (g_index_str Tryz.underlying9 rfl rfl g30 e32) ?_
   refine sS rfl rfl rfl (opS_indexAddr_arr (Ar := 0) (k := 1) (m := 2) Tryz.underlying157 (by kernel_rfl) rfl rfl rfl (by decide)) ?_
   refine s0 rfl rfl (opR_store_pt (i := 0) (c := .v _) (by kernel_rfl) rfl rfl rfl rfl (Nat.le_of_ble_eq_true rfl)) ?_
   refine AR.nil ?_
   show AW _ _ _ _ _ _
   refine AW.seq ?_
   refine AW.region ?_
   show AR _ _ _ _ _ [0, 1, 2, 3] _
   refine sS rfl rfl rfl (mv rfl) ?_
   refine sS rfl rfl rfl (opS_move (av := slE _ _ _) rfl) ?_
   refine sS rfl rfl rfl (opS_len_sl Tryz.underlying26 rfl) ?_
   refine sS rfl rfl rfl (opS_gt rfl rfl) ?_
   refine AR.nil ?_
   show AW _ _ _ _ _ _
   refine AW.cond rfl (fun c33 => ?_) (fun c33 => ?_)
   ·replace H := cnd_t c33 H
    refine AW.region ?_
    show AR _ _ _ _ _ [0, 1, 2] _
    refine sS rfl rfl rfl (mv rfl) ?_
    refine sS rfl rfl rfl (opS_indexAddr_arr (Ar := 0) (k := 1) (m := 2) Tryz.underlying157 (by kernel_rfl) rfl rfl rfl (by decide)) ?_
    refine s0 rfl rfl (opR_store_pt (i := 0) (c := .v _) (by kernel_rfl) rfl rfl rfl rfl (Nat.le_of_ble_eq_true rfl)) ?_
    refine AR.nil ?_
    exact Exists.intro 61 ⟨H, WK.at [0, 0] (.cons (.refl _) (.cons (.refl _) (.cons (.refl _) (.cons (.refl _) (.cons (.refl _) (.nil _)))))) rfl⟩
   ·replace H := cnd_f c33 H
    refine AW.skip ?_
    exact Exists.intro x31 ⟨H, WK.at [0, 0] (.cons (.refl _) (.cons (.refl _) (.cons (.refl _) (.cons (.refl _) (.cons (.refl _) (.nil _)))))) rfl⟩
  rintro y34 H
  replace H : b64_group_j3 a1 x10 y20 y27 y34 = some (r3, r4, r5, r6) := H
  unfold b64_group_j3 at H
  show AW _ _ _ _ _ _
  refine AW.region ?_
  show AR _ _ _ _ _ [0, 1] _
  refine sS rfl rfl rfl (OpS.eq (av' := i64 3) (g_add rfl rfl (by decide)) rfl) ?_
  refine sS rfl rfl rfl (mv rfl) ?_
  refine AR.nil ?_
  show AW _ _ _ _ _ _
  refine AW.seq ?_
  refine AW.region ?_
  show AR _ _ _ _ _ [0] _
  refine sS rfl rfl rfl (OpS.eq (av' := B true) (opS_lt rfl rfl) (B_congr (by decide))) ?_
  refine AR.nil ?_
  show AW _ _ _ _ _ _
  refine AW.seq ?_
  refine AW.cond rfl (fun _ => ?_) (fun hx => bool_no rfl hx)
  refine AW.skip ?_
  show AW _ _ _ _ _ _
  refine AW.cut (X := UInt8) (fun y41 => ⟨[(0, slE Enc.byte a1 q2), (2, .pt o7 0), (4, .v (.int .u64 (IntKind.u64.wrap ((BitVec.ofInt IntKind.u64.bits (IntKind.u64.wrap ((BitVec.ofInt IntKind.u64.bits (IntKind.u64.wrap ((IntKind.u64.wrap ((x10.getD 0 0).toNat : Int)) * 2 ^ min (Int.toNat 16) IntKind.u64.bits)) ||| BitVec.ofInt IntKind.u64.bits (IntKind.u64.wrap ((IntKind.u64.wrap ((x10.getD 1 0).toNat : Int)) * 2 ^ min (Int.toNat 8) IntKind.u64.bits))).toNat)) ||| BitVec.ofInt IntKind.u64.bits (IntKind.u64.wrap ((x10.getD 2 0).toNat : Int))).toNat)))), (5, .pt o14 0), (23, i64 3)], [], [.obj o14 [u8 y20, u8 y27, u8 y34, u8 y41], .obj o7 [u8 0, u8 0, u8 0, u8 0]]⟩) (fun y41 => b64_group_j2 y20 y27 y34 y41 = some (r3, r4, r5, r6)) ?_ ?_
  ·
   refine AW.block ?_
   refine AW.seq ?_
   refine AW.region ?_
   show AR _ _ _ _ _ [0, 1] _
   refine sS rfl rfl rfl (mv rfl) ?_
   refine sS rfl rfl rfl (asg rfl) ?_
   refine AR.nil ?_
   show AW _ _ _ _ _ _
   refine AW.seq ?_
   obtain ⟨g36, H⟩ := grd_s H
   obtain ⟨g37, H⟩ := grd_s H
   obtain ⟨x38, e39, H⟩ := lt_s H
   refine AW.region ?_
   show AR _ _ _ _ _ [0, 1, 2, 3, 4, 5, 6, 7, 8, 9] _
   refine sS rfl rfl rfl (mv rfl) ?_
   refine sS rfl rfl rfl (mv rfl) ?_
   refine sS rfl rfl rfl (mv rfl) ?_
   refine sS rfl rfl rfl (OpS.eq (av' := i64 18) (g_mul rfl rfl (by decide)) rfl) ?_
   refine sS rfl rfl rfl (OpS.eq (av' := i64 0) (g_sub rfl rfl (by decide)) rfl) ?_
   refine sS rfl rfl rfl (opS_shr rfl rfl (of_decide_eq_true g36)) ?_
   refine sS rfl rfl rfl (opS_and rfl rfl) ?_
   refine sS rfl rfl rfl (g_index_str Tryz.underlying9 rfl rfl g37 e39) ?_
   refine sS rfl rfl rfl (opS_indexAddr_arr (Ar := 0) (k := 1) (m := 3) Tryz.underlying157 (by kernel_rfl) rfl rfl rfl (by decide)) ?_
   refine s0 rfl rfl (opR_store_pt (i := 0) (c := .v _) (by kernel_rfl) rfl rfl rfl rfl (Nat.le_of_ble_eq_true rfl)) ?_
   refine AR.nil ?_
   show AW _ _ _ _ _ _
   refine AW.seq ?_
   refine AW.region ?_
   show AR _ _ _ _ _ [0, 1, 2, 3] _
   refine sS rfl rfl rfl (mv rfl) ?_
   refine sS rfl rfl rfl (opS_move (av := slE _ _ _) rfl) ?_
   refine sS rfl rfl rfl (opS_len_sl Tryz.underlying26 rfl) ?_
   refine sS rfl rfl rfl (opS_gt rfl rfl) ?_
   refine AR.nil ?_
   show AW _ _ _ _ _ _
   refine AW.cond rfl (fun c40 => ?_) (fun c40 => ?_)
   ·replace H := cnd_t c40 H
    refine AW.region ?_
    show AR _ _ _ _ _ [0, 1, 2] _
    refine sS rfl rfl rfl (mv rfl) ?_
    refine sS rfl rfl rfl (opS_indexAddr_arr (Ar := 0) (k := 1) (m := 3) Tryz.underlying157 (by kernel_rfl) rfl rfl rfl (by decide)) ?_
    refine s0 rfl rfl (opR_store_pt (i := 0) (c := .v _) (by kernel_rfl) rfl rfl rfl rfl (Nat.le_of_ble_eq_true rfl)) ?_
    refine AR.nil ?_
    exact Exists.intro 61 ⟨H, WK.at [0, 0] (.cons (.refl _) (.cons (.refl _) (.cons (.refl _) (.cons (.refl _) (.cons (.refl _) (.nil _)))))) rfl⟩
   ·replace H := cnd_f c40 H
    refine AW.skip ?_
    exact Exists.intro x38 ⟨H, WK.at [0, 0] (.cons (.refl _) (.cons (.refl _) (.cons (.refl _) (.cons (.refl _) (.cons (.refl _) (.nil _)))))) rfl⟩
  rintro y41 H
  replace H : b64_group_j2 y20 y27 y34 y41 = some (r3, r4, r5, r6) := H
  unfold b64_group_j2 at H
  show AW _ _ _ _ _ _
  refine AW.region ?_
  show AR _ _ _ _ _ [0, 1] _
  refine sS rfl rfl rfl (OpS.eq (av' := i64 4) (g_add rfl rfl (by decide)) rfl) ?_
  refine sS rfl rfl rfl (mv rfl) ?_
  refine AR.nil ?_
  show AW _ _ _ _ _ _
  refine AW.seq ?_
  refine AW.region ?_
  show AR _ _ _ _ _ [0] _
  refine sS rfl rfl rfl (OpS.eq (av' := B false) (opS_lt rfl rfl) (B_congr (by decide))) ?_
  refine AR.nil ?_
  show AW _ _ _ _ _ _
  refine AW.seq ?_
  refine AW.cond rfl (fun hx => bool_no hx rfl) (fun _ => ?_)
  refine AW.exit ?_
  exact Exists.intro (y20, y27, y34, y41) ⟨H, WK.at [0, 0] (.cons (.refl _) (.cons (.refl _) (.nil _))) rfl⟩
 rintro ⟨y43, y44, y45, y46⟩ H
 replace H : b64_group_j1 y43 y44 y45 y46 = some (r3, r4, r5, r6) := H
 unfold b64_group_j1 at H
 show AW _ _ _ _ _ _
 refine AW.seq ?_
 refine AW.region ?_
 show AR _ _ _ _ _ [0, 1] _
 refine sR rfl rfl rfl (opR_load_agg (i := 0) (n := 4) Tryz.underlying157 rfl (by kernel_rfl) rfl rfl (Nat.le_of_ble_eq_true rfl)) ?_
 refine s0 rfl rfl (opR_store_agg (i := 1) (vs := [u8 y43, u8 y44, u8 y45, u8 y46]) (by kernel_rfl) rfl rfl (by simp [isCell, slE]) rfl (Nat.le_of_ble_eq_true rfl)) ?_
 refine AR.nil ?_
 show AW _ _ _ _ _ _
 refine AW.ret ?_
 obtain ⟨rfl, rfl, rfl, rfl⟩ := res4 H
 exact And.intro rfl (Exists.intro _ (Exists.intro _ ⟨ResT.resV (ResT.place1 rfl (CellV.agg (off := 0) (cs := [u8 y43, u8 y44, u8 y45, u8 y46]) (n := 4) 1 Tryz.underlying157 rfl (by kernel_rfl) rfl rfl (Nat.le_of_ble_eq_true rfl))), Sub.at [] rfl, rfl, rfl⟩))
set_option maxRecDepth 100000 in
set_option maxHeartbeats 1000000 in
theorem w_b64_Raw (F : Nat) (a1 : List UInt8) (q2 : Option Nat) (r3 : List UInt8) (H : b64_Raw F a1 = some r3) : ACalls Tryz.prog 114 [slE Enc.byte a1 q2] [] (Ret (S r3) []) := by
 unfold b64_Raw at H
 refine ACalls.of_body Tryz.func114 rfl rfl ?_
 show AW _ _ 23 _ _ _
 refine AW.seq ?_
 refine AW.region ?_
 show AR _ _ _ _ _ [0] _
 refine sS rfl rfl rfl (asg rfl) ?_
 refine AR.nil ?_
 show AW _ _ _ _ _ _
 refine AW.seq ?_
 refine AW.region ?_
 show AR _ _ _ _ _ [0] _
 refine sX rfl rfl rfl (opX_allocT (zs := [(.pointer none), .slice none 0 0]) (by kernel_rfl)) ?_
 rintro _ _ ⟨o4, rfl, rfl⟩
 refine AR.nil ?_
 show AW _ _ _ _ _ _
 refine AW.nil_objAt 0 1 1 5 rfl rfl fun t5 => ?_
 show AW _ _ _ _ _ ⟨_, _, [.tok t5 5, .obj o4 [.v (.pointer none), slE Enc.byte [] (some t5)], .ty o4 142]⟩
 refine AW.cut (X := AV × (List UInt8) × Nat) (fun (t29, y30, t31) => ⟨[(3, .pt o4 0)], [], [.obj o4 [t29, slE Enc.byte y30 (some t31)], .ty o4 142, .tok t31 5]⟩) (fun (t29, y30, t31) => b64_Raw_j1 y30 = some r3 ∧ (t29 = .v (.pointer none) ∨ t29 = .pt o4 0)) ?_ ?_
 ·
  refine AW.block ?_
  refine AW.loop (X := Nat × (List UInt8) × AV × (List UInt8) × Nat) (fun (n11, y6, t7, y8, t9) => ⟨[(0, slE Enc.byte y6 none), (3, .pt o4 0)], [], [.obj o4 [t7, slE Enc.byte y8 (some t9)], .ty o4 142, .tok t9 5]⟩) (fun (n11, y6, t7, y8, t9) => b64_Raw_L1 F n11 (y6, y8) = some r3 ∧ (t7 = .v (.pointer none) ∨ t7 = .pt o4 0)) (fun (n11, y6, t7, y8, t9) => n11) (F, a1, (.v (.pointer none)), [], t5) ⟨H, .inl rfl⟩ (WK.at [1, 1, 0] (.cons (.tok _ _ _) (.cons (.refl _) (.nil _))) rfl) ?_
  rintro ⟨n11, y6, t7, y8, t9⟩ ⟨H, ht7⟩
  obtain ⟨n11, rfl, H⟩ := loop_s H
  replace H : b64_Raw_B1 F (b64_Raw_L1 F n11) y6 y8 = some r3 := H
  unfold b64_Raw_B1 at H
  show AW _ _ _ _ _ _
  refine AW.seq ?_
  refine AW.seq ?_
  refine AW.region ?_
  show AR _ _ _ _ _ [0, 1, 2] _
  refine sS rfl rfl rfl (opS_move (av := slE _ _ _) rfl) ?_
  refine sS rfl rfl rfl (opS_len_sl Tryz.underlying26 rfl) ?_
  refine sS rfl rfl rfl (opS_gt rfl rfl) ?_
  refine AR.nil ?_
  show AW _ _ _ _ _ _
  refine AW.cond rfl (fun c12 => ?_) (fun c12 => ?_)
  ·replace H := cnd_t c12 H
   refine AW.skip ?_
   show AW _ _ _ _ _ _
   refine AW.block ?_
   refine AW.seq ?_
   refine AW.region ?_
   show AR _ _ _ _ _ [0, 1, 2, 3] _
   refine sS rfl rfl rfl (opS_move (av := slE _ _ _) rfl) ?_
   refine sS rfl rfl rfl (opS_len_sl Tryz.underlying26 rfl) ?_
   refine sS rfl rfl rfl (opS_min rfl rfl) ?_
   refine sS rfl rfl rfl (asg rfl) ?_
   refine AR.nil ?_
   show AW _ _ _ _ _ _
   refine AW.seq ?_
   obtain ⟨g13, H⟩ := grd_s H
   obtain ⟨x14, e15, H⟩ := lt_s H
   obtain ⟨x16, x17, x18, x19, e20, H⟩ := bnd4_s H
   refine AW.region ?_
   show AR _ _ _ _ _ [0, 1, 2, 3, 4, 5, 6] _
   refine sS rfl rfl rfl (opS_move (av := slE _ _ _) rfl) ?_
   refine sS rfl rfl rfl (mv rfl) ?_
   refine sS rfl rfl rfl (mv rfl) ?_
   refine sS rfl rfl rfl (g_slice3_to (E := Enc.byte) Tryz.underlying26 (by kernel_rfl) rfl rfl rfl g13 e15) ?_
   refine AR.run rfl rfl (AO.callp rfl en135_b64 rfl (w_b64_group F x14 none x16 x17 x18 x19 e20) ?_)
   refine sX rfl rfl rfl (opX_alloc (zs := [.int .u8 0, .int .u8 0, .int .u8 0, .int .u8 0]) (by kernel_rfl)) ?_
   rintro _ _ ⟨o21, rfl, rfl⟩
   refine s0 rfl rfl (opR_store_agg (i := 0) (vs := [u8 x16, u8 x17, u8 x18, u8 x19]) (by kernel_rfl) rfl rfl (by simp [isCell, slE]) rfl (Nat.le_of_ble_eq_true rfl)) ?_
   refine AR.freezeCp 5 0 rfl rfl ?_
   show AR _ _ _ _ _ _ ⟨_, _, [.obj o4 [t7, slE Enc.byte y8 (some t9)], .ty o4 142, .tok t9 5]⟩
   refine AR.nil ?_
   show AW _ _ _ _ _ _
   refine AW.seq ?_
   obtain ⟨g22, H⟩ := grd_s H
   obtain ⟨x23, e24, H⟩ := lt_s H
   refine AW.region ?_
   show AR _ _ _ _ _ [0, 1] _
   refine sS rfl rfl rfl (opS_slice_arr_cp (E := Enc.byte) (l := ([x16, x17, x18, x19] : List UInt8)) rfl Tryz.underlying157 (by kernel_rfl) rfl rfl rfl) ?_
   refine AR.run rfl rfl (AO.callAt [0, 0, 0] rfl en136_b64 rfl (Builder_Write0  o4 (t7) ht7 y8 ([x16, x17, x18, x19] : List UInt8) none t9 (okW_s g22)) rfl (fun c A' h => by cases h.1) ?_)
   rintro av A' ⟨h, t25, rfl⟩; cases h
   rw [e24]
   refine AR.nil ?_
   show AW _ _ _ _ _ _
   obtain ⟨g26, H⟩ := grd_s H
   obtain ⟨x27, e28, H⟩ := lt_s H
   refine AW.region ?_
   show AR _ _ _ _ _ [0, 1, 2, 3] _
   refine sS rfl rfl rfl (opS_move (av := slE _ _ _) rfl) ?_
   refine sS rfl rfl rfl (mv rfl) ?_
   refine sS rfl rfl rfl (g_from_sl (E := Enc.byte) Tryz.underlying26 (by kernel_rfl) rfl rfl g26 e28) ?_
   refine sS rfl rfl rfl (opS_assign (av := slE _ _ _) rfl) ?_
   refine AR.nil ?_
   exact Exists.intro (n11, x27, (.pt o4 0), x23, t25) ⟨⟨H, .inr rfl⟩, Nat.lt_succ_self _, WK.at [0, 0, 0] (.cons (.refl _) (.cons (.refl _) (.nil _))) rfl⟩
  ·replace H := cnd_f c12 H
   refine AW.exit ?_
   exact Exists.intro (t7, y8, t9) ⟨⟨H, ht7⟩, WK.at [0, 0, 0] (.cons (.refl _) (.nil _)) rfl⟩
 rintro ⟨t29, y30, t31⟩ ⟨H, ht29⟩
 replace H : b64_Raw_j1 y30 = some r3 := H
 unfold b64_Raw_j1 at H
 show AW _ _ _ _ _ _
 refine AW.seq ?_
 obtain ⟨g33, H⟩ := grd_s H
 refine AW.region ?_
 show AR _ _ _ _ _ [0, 1] _
 refine AR.run rfl rfl (AO.callAt [0, 1] rfl en128_b64 rfl (Builder_String0  o4 (t29) y30 t31 (okW0_s g33)) rfl (fun c A' h => by cases h.1) ?_)
 rintro av A' ⟨h, rfl⟩; cases h
 refine sS rfl rfl rfl (asg rfl) ?_
 refine AR.nil ?_
 show AW _ _ _ _ _ _
 refine AW.ret ?_
 obtain rfl := Option.some.inj H
 exact And.intro rfl (Exists.intro _ (Exists.intro _ ⟨ResV.oneW rfl (.refl _), Sub.at [] rfl, rfl, rfl⟩))
set_option maxRecDepth 100000 in
set_option maxHeartbeats 1000000 in
theorem w_b64_Bytes (F : Nat) (a1 : List UInt8) (r2 : List UInt8) (r3 : Int) (H : b64_Bytes F a1 = some (r2, r3)) : ACalls Tryz.prog 141 [S a1] [] (Ret (.tup [slE Enc.byte r2 none, i64 r3]) []) := by
 unfold b64_Bytes at H
 refine ACalls.of_body Tryz.func141 rfl rfl ?_
 show AW _ _ 61 _ _ _
 refine AW.seq ?_
 refine AW.region ?_
 show AR _ _ _ _ _ [0, 1] _
 refine sS rfl rfl rfl (asg rfl) ?_
 refine sS rfl rfl rfl (asg rfl) ?_
 refine AR.nil ?_
 show AW _ _ _ _ _ _
 refine AW.seq ?_
 refine AW.region ?_
 show AR _ _ _ _ _ [0] _
 refine sS rfl rfl rfl (asg rfl) ?_
 refine AR.nil ?_
 show AW _ _ _ _ _ _
 refine AW.nil_grows 4 1 5 rfl fun t4 => ?_
 show AW _ _ _ _ _ ⟨(4, slE Enc.byte [] (some t4)) :: _, _, _⟩
 refine AW.cut (X := (List UInt8) × Nat) (fun (y50, t51) => ⟨[(0, S a1), (4, slE Enc.byte y50 (some t51))], [], [.tok t51 5]⟩) (fun (y50, t51) => b64_Bytes_j1 F a1 y50 = some (r2, r3)) ?_ ?_
 ·
  refine AW.seq ?_
  refine AW.region ?_
  show AR _ _ _ _ _ [0, 1] _
  refine sS rfl rfl rfl (mv rfl) ?_
  refine sS rfl rfl rfl (asg rfl) ?_
  refine AR.nil ?_
  show AW _ _ _ _ _ _
  refine AW.block ?_
  refine AW.loop (X := Nat × (List UInt8) × Nat × (List UInt8)) (fun (n9, y5, t6, y7) => ⟨[(0, S a1), (4, slE Enc.byte y5 (some t6)), (5, S y7)], [], [.tok t6 5]⟩) (fun (n9, y5, t6, y7) => b64_Bytes_L2 F a1 n9 (y5, y7) = some (r2, r3)) (fun (n9, y5, t6, y7) => n9) (F, [], t4, a1) H (WK.at [0] (.cons (.refl _) (.cons (.refl _) (.cons (.refl _) (.nil _)))) rfl) ?_
  rintro ⟨n9, y5, t6, y7⟩ H
  obtain ⟨n9, rfl, H⟩ := loop_s H
  replace H : b64_Bytes_B2 F a1 (b64_Bytes_L2 F a1 n9) y5 y7 = some (r2, r3) := H
  unfold b64_Bytes_B2 at H
  show AW _ _ _ _ _ _
  refine AW.seq ?_
  refine AW.seq ?_
  refine AW.region ?_
  show AR _ _ _ _ _ [0, 1] _
  refine sS rfl rfl rfl (mv rfl) ?_
  refine sS rfl rfl rfl (opS_nes rfl rfl) ?_
  refine AR.nil ?_
  show AW _ _ _ _ _ _
  refine AW.cond rfl (fun c10 => ?_) (fun c10 => ?_)
  ·replace H := cnd_t c10 H
   refine AW.skip ?_
   show AW _ _ _ _ _ _
   refine AW.block ?_
   refine AW.seq ?_
   refine AW.seq ?_
   refine AW.region ?_
   show AR _ _ _ _ _ [0, 1, 2] _
   refine sS rfl rfl rfl (mv rfl) ?_
   refine sS rfl rfl rfl (opS_len_str Tryz.underlying9 rfl) ?_
   refine sS rfl rfl rfl (opS_lt rfl rfl) ?_
   refine AR.nil ?_
   show AW _ _ _ _ _ _
   refine AW.cond rfl (fun c11 => ?_) (fun c11 => ?_)
   ·replace H := cnd_t c11 H
    refine AW.seq ?_
    refine AW.region ?_
    show AR _ _ _ _ _ [0, 1] _
    refine sS rfl rfl rfl (asg rfl) ?_
    refine sS rfl rfl rfl (asg rfl) ?_
    refine AR.nil ?_
    show AW _ _ _ _ _ _
    refine AW.ret ?_
    obtain ⟨rfl, rfl⟩ := res2 H
    exact And.intro rfl (Exists.intro _ (Exists.intro _ ⟨ResV.twoW rfl (.nil _) (.refl _), Sub.at [] rfl, rfl, rfl⟩))
   ·replace H := cnd_f c11 H
    refine AW.skip ?_
    show AW _ _ _ _ _ _
    refine AW.seq ?_
    refine AW.region ?_
    show AR _ _ _ _ _ [0, 1] _
    refine sS rfl rfl rfl (asg rfl) ?_
    refine sS rfl rfl rfl (asg rfl) ?_
    refine AR.nil ?_
    show AW _ _ _ _ _ _
    refine AW.cut (X := Int × Int) (fun (y35, y36) => ⟨[(0, S a1), (4, slE Enc.byte y5 (some t6)), (5, S y7), (6, .v (.int .u64 y35)), (7, i64 y36)], [], [.tok t6 5]⟩) (fun (y35, y36) => b64_Bytes_j2 y5 y7 (b64_Bytes_L2 F a1 n9) y35 y36 = some (r2, r3)) ?_ ?_
    ·
     refine AW.seq ?_
     refine AW.region ?_
     show AR _ _ _ _ _ [0] _
     refine sS rfl rfl rfl (mv rfl) ?_
     refine AR.nil ?_
     show AW _ _ _ _ _ _
     refine AW.block ?_
     refine AW.loop (X := Nat × Int × Int × Int) (fun (n16, y12, y13, y14) => ⟨[(0, S a1), (4, slE Enc.byte y5 (some t6)), (5, S y7), (6, .v (.int .u64 y12)), (7, i64 y13), (16, i64 y14)], [], [.tok t6 5]⟩) (fun (n16, y12, y13, y14) => b64_Bytes_L1 y5 y7 (b64_Bytes_L2 F a1 n9) n16 (y12, y13, y14) = some (r2, r3)) (fun (n16, y12, y13, y14) => n16) (F, 0, 3, 0) H (WK.at [0] (.cons (.refl _) (.cons (.refl _) (.cons (.refl _) (.cons (.refl _) (.cons (.refl _) (.cons (.refl _) (.nil _))))))) rfl) ?_
     rintro ⟨n16, y12, y13, y14⟩ H
     obtain ⟨n16, rfl, H⟩ := loop_s H
     replace H : b64_Bytes_B1 y5 y7 (b64_Bytes_L2 F a1 n9) (b64_Bytes_L1 y5 y7 (b64_Bytes_L2 F a1 n9) n16) y12 y13 y14 = some (r2, r3) := H
     unfold b64_Bytes_B1 at H
     show AW _ _ _ _ _ _
     refine AW.seq ?_
     refine AW.region ?_
     show AR _ _ _ _ _ [0] _
     refine sS rfl rfl rfl (opS_lt rfl rfl) ?_
     refine AR.nil ?_
     show AW _ _ _ _ _ _
     refine AW.seq ?_
     refine AW.cond rfl (fun c17 => ?_) (fun c17 => ?_)
     ·replace H := cnd_t c17 H
      refine AW.skip ?_
      show AW _ _ _ _ _ _
      refine AW.seq ?_
      refine AW.block ?_
      refine AW.seq ?_
      refine AW.region ?_
      show AR _ _ _ _ _ [0, 1] _
      refine sS rfl rfl rfl (mv rfl) ?_
      refine sS rfl rfl rfl (asg rfl) ?_
      refine AR.nil ?_
      show AW _ _ _ _ _ _
      refine AW.seq ?_
      obtain ⟨g18, H⟩ := grd_s H
      obtain ⟨x19, e20, H⟩ := lt_s H
      obtain ⟨x21, e22, H⟩ := lt_s H
      refine AW.region ?_
      show AR _ _ _ _ _ [0, 1, 2, 3, 4] _
      refine sS rfl rfl rfl (mv rfl) ?_
      refine sS rfl rfl rfl (mv rfl) ?_
      refine sS rfl rfl rfl (g_index_str Tryz.underlying9 rfl rfl g18 e20) ?_
      refine AR.run rfl rfl (AO.callp rfl en41_b64 rfl (show ACalls _ _ _ [] (Ret (i64 x21) []) from by subst e22; exact lib_IndexByte b64_k1 x19) ?_)
      refine sS rfl rfl rfl (asg rfl) ?_
      refine AR.nil ?_
      show AW _ _ _ _ _ _
      refine AW.cut (X := Int × Int) (fun (y28, y29) => ⟨[(0, S a1), (4, slE Enc.byte y5 (some t6)), (5, S y7), (6, .v (.int .u64 y12)), (7, i64 y28), (9, i64 y29), (16, i64 y14)], [], [.tok t6 5]⟩) (fun (y28, y29) => b64_Bytes_j3 y12 y14 (b64_Bytes_L1 y5 y7 (b64_Bytes_L2 F a1 n9) n16) y28 y29 = some (r2, r3)) ?_ ?_
      ·
       refine AW.seq ?_
       obtain ⟨g23, H⟩ := grd_s H
       obtain ⟨x24, e25, H⟩ := lt_s H
       refine AW.region ?_
       show AR _ _ _ _ _ [0, 1, 2, 3] _
       refine sS rfl rfl rfl (mv rfl) ?_
       refine sS rfl rfl rfl (mv rfl) ?_
       refine sS rfl rfl rfl (g_index_str Tryz.underlying9 rfl rfl g23 e25) ?_
       refine sS rfl rfl rfl (g_eq8 (a := x24) (b := 61) rfl rfl) ?_
       refine AR.nil ?_
       show AW _ _ _ _ _ _
       refine AW.cond rfl (fun c26 => ?_) (fun c26 => ?_)
       ·replace H := cnd_t c26 H
        refine AW.seq ?_
        refine AW.region ?_
        show AR _ _ _ _ _ [0] _
        refine sS rfl rfl rfl (asg rfl) ?_
        refine AR.nil ?_
        show AW _ _ _ _ _ _
        obtain ⟨g27, H⟩ := grd_s H
        refine AW.region ?_
        show AR _ _ _ _ _ [0, 1, 2] _
        refine sS rfl rfl rfl (mv rfl) ?_
        refine sS rfl rfl rfl (g_sub rfl rfl g27) ?_
        refine sS rfl rfl rfl (asg rfl) ?_
        refine AR.nil ?_
        exact Exists.intro (y13 - 1, 0) ⟨H, WK.at [0] (.cons (.refl _) (.cons (.refl _) (.cons (.refl _) (.cons (.refl _) (.cons (.refl _) (.cons (.refl _) (.cons (.refl _) (.nil _)))))))) rfl⟩
       ·replace H := cnd_f c26 H
        refine AW.skip ?_
        exact Exists.intro (y13, x21) ⟨H, WK.at [0] (.cons (.refl _) (.cons (.refl _) (.cons (.refl _) (.cons (.refl _) (.cons (.refl _) (.cons (.refl _) (.cons (.refl _) (.nil _)))))))) rfl⟩
      rintro ⟨y28, y29⟩ H
      replace H : b64_Bytes_j3 y12 y14 (b64_Bytes_L1 y5 y7 (b64_Bytes_L2 F a1 n9) n16) y28 y29 = some (r2, r3) := H
      unfold b64_Bytes_j3 at H
      show AW _ _ _ _ _ _
      refine AW.seq ?_
      refine AW.seq ?_
      refine AW.region ?_
      show AR _ _ _ _ _ [0, 1, 2, 3, 4, 5] _
      refine sS rfl rfl rfl (mv rfl) ?_
      refine sS rfl rfl rfl (opS_lt rfl rfl) ?_
      refine sS rfl rfl rfl (mv rfl) ?_
      refine AR.meet (l := []) 34 (B ((decide (y29 < 0)) || (decide (y28 < 1)))) (fun K => ?_) ?_
      ·rcases Bool.eq_false_or_eq_true (decide (y29 < 0)) with h31 | h31
       ·
        refine gF h31 rfl rfl rfl rfl rfl ?_
        refine gF h31 rfl rfl rfl rfl rfl ?_
        refine sS rfl rfl rfl (opS_pick_t (av := .v _) rfl h31 rfl) ?_
        exact K _ 2 _ (B_congr (or_t h31)) rfl rfl
       ·
        refine gT h31 rfl rfl rfl rfl rfl rfl (AO.ops rfl rfl (mv rfl) ?_)
        refine gT h31 rfl rfl rfl rfl rfl rfl (AO.ops rfl rfl (opS_lt rfl rfl) ?_)
        refine sS rfl rfl rfl (opS_pick_f (av := .v _) rfl h31 rfl) ?_
        exact K _ 2 _ (B_congr (or_f h31)) rfl rfl
      refine AR.nil ?_
      show AW _ _ _ _ _ _
      refine AW.cond rfl (fun c32 => ?_) (fun c32 => ?_)
      ·replace H := cnd_t c32 H
       refine AW.seq ?_
       refine AW.region ?_
       show AR _ _ _ _ _ [0, 1] _
       refine sS rfl rfl rfl (asg rfl) ?_
       refine sS rfl rfl rfl (asg rfl) ?_
       refine AR.nil ?_
       show AW _ _ _ _ _ _
       refine AW.ret ?_
       obtain ⟨rfl, rfl⟩ := res2 H
       exact And.intro rfl (Exists.intro _ (Exists.intro _ ⟨ResV.twoW rfl (.nil _) (.refl _), Sub.at [] rfl, rfl, rfl⟩))
      ·replace H := cnd_f c32 H
       refine AW.skip ?_
       show AW _ _ _ _ _ _
       obtain ⟨g33, H⟩ := grd_s H
       refine AW.region ?_
       show AR _ _ _ _ _ [0, 1, 2, 3, 4, 5] _
       refine sS rfl rfl rfl (mv rfl) ?_
       refine sS rfl rfl rfl (opS_shl rfl rfl (of_decide_eq_true g33)) ?_
       refine sS rfl rfl rfl (mv rfl) ?_
       refine sS rfl rfl rfl (opS_conv_int (by kernel_rfl) Tryz.underlying76 rfl) ?_
       refine sS rfl rfl rfl (opS_or rfl rfl) ?_
       refine sS rfl rfl rfl (asg rfl) ?_
       refine AR.nil ?_
       show AW _ _ _ _ _ _
       obtain ⟨g34, H⟩ := grd_s H
       refine AW.region ?_
       show AR _ _ _ _ _ [0, 1] _
       refine sS rfl rfl rfl (g_add rfl rfl g34) ?_
       refine sS rfl rfl rfl (mv rfl) ?_
       refine AR.nil ?_
       exact Exists.intro (n16, IntKind.u64.wrap ((BitVec.ofInt IntKind.u64.bits (IntKind.u64.wrap (y12 * 2 ^ min (Int.toNat 6) IntKind.u64.bits)) ||| BitVec.ofInt IntKind.u64.bits (IntKind.u64.wrap y29)).toNat), y28, y14 + 1) ⟨H, Nat.lt_succ_self _, WK.at [0] (.cons (.refl _) (.cons (.refl _) (.cons (.refl _) (.cons (.refl _) (.cons (.refl _) (.cons (.refl _) (.nil _))))))) rfl⟩
     ·replace H := cnd_f c17 H
      refine AW.exit ?_
      exact Exists.intro (y12, y13) ⟨H, WK.at [0] (.cons (.refl _) (.cons (.refl _) (.cons (.refl _) (.cons (.refl _) (.cons (.refl _) (.nil _)))))) rfl⟩
    rintro ⟨y35, y36⟩ H
    replace H : b64_Bytes_j2 y5 y7 (b64_Bytes_L2 F a1 n9) y35 y36 = some (r2, r3) := H
    unfold b64_Bytes_j2 at H
    show AW _ _ _ _ _ _
    refine AW.seq ?_
    obtain ⟨g38, H⟩ := grd_s H
    obtain ⟨g39, H⟩ := grd_s H
    obtain ⟨g40, H⟩ := grd_s H
    obtain ⟨x41, e42, H⟩ := lt_s H
    obtain ⟨g44, H⟩ := grd_s H
    obtain ⟨x45, e46, H⟩ := lt_s H
    refine AW.region ?_
    show AR _ _ _ _ _ [0, 1, 2, 3, 4, 5, 6, 7, 8, 9, 10, 11, 12, 13] _
    refine sS rfl rfl rfl (opS_move (av := slE _ _ _) rfl) ?_
    refine sS rfl rfl rfl (mv rfl) ?_
    refine sS rfl rfl rfl (opS_shr rfl rfl (of_decide_eq_true g38)) ?_
    refine sS rfl rfl rfl (g_conv_to8 (by kernel_rfl) Tryz.underlying5 rfl) ?_
    refine sS rfl rfl rfl (mv rfl) ?_
    refine sS rfl rfl rfl (opS_shr rfl rfl (of_decide_eq_true g39)) ?_
    refine sS rfl rfl rfl (g_conv_to8 (by kernel_rfl) Tryz.underlying5 rfl) ?_
    refine sS rfl rfl rfl (mv rfl) ?_
    refine sS rfl rfl rfl (g_conv_to8 (by kernel_rfl) Tryz.underlying5 rfl) ?_
    refine sR rfl rfl rfl (opR_buildE (E := Enc.byte) (bytes := 1) (xs := [.tmp 44, .tmp 47, .tmp 49]) (l := ([Go.Av.toB (Int.fdiv y35 (2 ^ min (Int.toNat 16) IntKind.u64.bits)), Go.Av.toB (Int.fdiv y35 (2 ^ min (Int.toNat 8) IntKind.u64.bits)), Go.Av.toB y35] : List UInt8)) Tryz.underlying26 (by kernel_rfl) rfl rfl (by decide) rfl rfl) ?_
    refine sS rfl rfl rfl (mv rfl) ?_
    refine sS rfl rfl rfl (g_to_sl (E := Enc.byte) Tryz.underlying26 (by kernel_rfl) rfl rfl g40 e42) ?_
    refine sX rfl rfl rfl (g_append (E := Enc.byte) (bytes := 1) 0 Tryz.underlying26 Tryz.underlying26 rfl (by kernel_rfl) rfl rfl rfl rfl g44 e46) ?_
    rintro _ _ ⟨t43, rfl, rfl⟩
    refine sS rfl rfl rfl (opS_assign (av := slE _ _ _) rfl) ?_
    refine AR.nil ?_
    show AW _ _ _ _ _ _
    obtain ⟨g47, H⟩ := grd_s H
    obtain ⟨x48, e49, H⟩ := lt_s H
    refine AW.region ?_
    show AR _ _ _ _ _ [0, 1, 2] _
    refine sS rfl rfl rfl (mv rfl) ?_
    refine sS rfl rfl rfl (g_from_str Tryz.underlying9 rfl rfl g47 e49) ?_
    refine sS rfl rfl rfl (asg rfl) ?_
    refine AR.nil ?_
    exact Exists.intro (n9, x45, t43, x48) ⟨H, Nat.lt_succ_self _, WK.at [0] (.cons (.refl _) (.cons (.refl _) (.cons (.refl _) (.nil _)))) rfl⟩
  ·replace H := cnd_f c10 H
   refine AW.exit ?_
   exact Exists.intro (y5, t6) ⟨H, WK.at [0] (.cons (.refl _) (.cons (.refl _) (.nil _))) rfl⟩
 rintro ⟨y50, t51⟩ H
 replace H : b64_Bytes_j1 F a1 y50 = some (r2, r3) := H
 unfold b64_Bytes_j1 at H
 show AW _ _ _ _ _ _
 refine AW.seq ?_
 refine AW.seq ?_
 obtain ⟨x53, e54, H⟩ := bnd_s H
 refine AW.region ?_
 show AR _ _ _ _ _ [0, 1, 2, 3] _
 refine sS rfl rfl rfl (opS_move (av := slE _ _ _) rfl) ?_
 refine AR.run rfl rfl (AO.callp rfl en114_b64 rfl (w_b64_Raw F y50 (some t51) x53 e54) ?_)
 refine sS rfl rfl rfl (mv rfl) ?_
 refine sS rfl rfl rfl (opS_nes rfl rfl) ?_
 refine AR.nil ?_
 show AW _ _ _ _ _ _
 refine AW.cond rfl (fun c55 => ?_) (fun c55 => ?_)
 ·replace H := cnd_t c55 H
  refine AW.seq ?_
  refine AW.region ?_
  show AR _ _ _ _ _ [0, 1] _
  refine sS rfl rfl rfl (asg rfl) ?_
  refine sS rfl rfl rfl (asg rfl) ?_
  refine AR.nil ?_
  show AW _ _ _ _ _ _
  refine AW.ret ?_
  obtain ⟨rfl, rfl⟩ := res2 H
  exact And.intro rfl (Exists.intro _ (Exists.intro _ ⟨ResV.twoW rfl (.nil _) (.refl _), Sub.at [] rfl, rfl, rfl⟩))
 ·replace H := cnd_f c55 H
  refine AW.skip ?_
  show AW _ _ _ _ _ _
  refine AW.seq ?_
  refine AW.region ?_
  show AR _ _ _ _ _ [0, 1, 2] _
  refine sS rfl rfl rfl (opS_move (av := slE _ _ _) rfl) ?_
  refine sS rfl rfl rfl (opS_assign (av := slE _ _ _) rfl) ?_
  refine sS rfl rfl rfl (asg rfl) ?_
  refine AR.nil ?_
  show AW _ _ _ _ _ _
  refine AW.ret ?_
  obtain ⟨rfl, rfl⟩ := res2 H
  exact And.intro rfl (Exists.intro _ (Exists.intro _ ⟨ResV.twoW rfl (.tok _ _ _) (.refl _), Sub.at [] rfl, rfl, rfl⟩))
end Go.Proofs.YtdaafnaokdigbaaGreatDoor
namespace Go.Pv
def head_nameC (F : Nat) (a1 : UInt8) : Option Bool :=
some (((((decide (97 ≤ (a1.toNat : Int))) && (decide ((a1.toNat : Int) ≤ 122))) || ((decide (65 ≤ (a1.toNat : Int))) && (decide ((a1.toNat : Int) ≤ 90)))) || ((decide (48 ≤ (a1.toNat : Int))) && (decide ((a1.toNat : Int) ≤ 57)))) || (decide (a1 = 45)))
def head_plainC (F : Nat) (a1 : UInt8) : Option Bool :=
some ((decide (32 ≤ (a1.toNat : Int))) && (decide ((a1.toNat : Int) < 127)))
def head_onlyN_j1 (a1 : List UInt8) : Option Bool :=
some (!decide (a1 = ([] : List UInt8)))
def head_onlyN_B1 (F : Nat) (a1 : List UInt8) (rec4 : Int → Option Bool) (y3 : Int) : Option Bool :=
bif decide (y3 < (a1.length : Int)) then
  grd (okAt y3 a1.length) <|
  lt (at_ a1 y3) fun x8 =>
  bnd (head_nameC F x8) fun x10 =>
  bif !x10 then
    some false
  else
    grd (okI (y3 + 1)) <|
    rec4 (y3 + 1)
else
  head_onlyN_j1 a1
def head_onlyN_L1 (F : Nat) (a1 : List UInt8) (n : Nat) : Int → Option Bool :=
  loop (fun rec x => head_onlyN_B1 F a1 rec x) n
def head_onlyN (F : Nat) (a1 : List UInt8) : Option Bool :=
head_onlyN_L1 F a1 F 0
def head_onlyP_j1 (a1 : List UInt8) : Option Bool :=
some (!decide (a1 = ([] : List UInt8)))
def head_onlyP_B1 (F : Nat) (a1 : List UInt8) (rec4 : Int → Option Bool) (y3 : Int) : Option Bool :=
bif decide (y3 < (a1.length : Int)) then
  grd (okAt y3 a1.length) <|
  lt (at_ a1 y3) fun x8 =>
  bnd (head_plainC F x8) fun x10 =>
  bif !x10 then
    some false
  else
    grd (okI (y3 + 1)) <|
    rec4 (y3 + 1)
else
  head_onlyP_j1 a1
def head_onlyP_L1 (F : Nat) (a1 : List UInt8) (n : Nat) : Int → Option Bool :=
  loop (fun rec x => head_onlyP_B1 F a1 rec x) n
def head_onlyP (F : Nat) (a1 : List UInt8) : Option Bool :=
head_onlyP_L1 F a1 F 0
def head_name (F : Nat) (a1 : List UInt8) : Option Bool :=
bndc (decide ((a1.length : Int) ≤ 40)) (head_onlyN F a1) fun x4 =>
some ((decide ((a1.length : Int) ≤ 40)) && x4)
def head_Plain (F : Nat) (a1 : List UInt8) : Option Bool :=
bnd (head_onlyP F a1) fun x3 =>
grdc x3 (okS a1.length) <|
lt (Go.Lib.trimB a1 32) fun x7 =>
grdc (x3 && (decide (x7 = a1))) (okS a1.length) <|
lt (Go.Lib.contains a1 ([32, 32] : List UInt8)) fun x11 =>
grdc ((x3 && (decide (x7 = a1))) && (!x11)) (okS a1.length) <|
lt (Go.Lib.contains a1 ([61, 63] : List UInt8)) fun x15 =>
some (((x3 && (decide (x7 = a1))) && (!x11)) && (!x15))
def head_inside (F : Nat) (a1 : UInt8) : Option Bool :=
some (decide (Go.Av.shr8 a1 6 = 2))
def head_part_j1 (y15 : Int) : Option Int :=
bif decide (y15 = 41) then
  some 45
else
  some y15
def head_part_B1 (F : Nat) (a1 : List UInt8) (rec5 : Int → Option Int) (y4 : Int) : Option Int :=
grdc (decide (41 < y4)) (okAt y4 a1.length) <|
lt (at_ a1 y4) fun x9 =>
bndc (decide (41 < y4)) (head_inside F x9) fun x11 =>
bif (decide (41 < y4)) && x11 then
  grd (okI (y4 - 1)) <|
  rec5 (y4 - 1)
else
  head_part_j1 y4
def head_part_L1 (F : Nat) (a1 : List UInt8) (n : Nat) : Int → Option Int :=
  loop (fun rec x => head_part_B1 F a1 rec x) n
def head_part (F : Nat) (a1 : List UInt8) : Option Int :=
bif decide ((a1.length : Int) ≤ 45) then
  some (a1.length : Int)
else
  head_part_L1 F a1 F 45
def head_wordsI_B1 {σ : Type} (F : Nat) (k : σ → (List UInt8) → Option (σ × Bool)) (rec30 : ((List UInt8) × σ) → Option (σ × (List UInt8))) (y27 : List UInt8) (y28 : σ) : Option (σ × (List UInt8)) :=
bif !decide (y27 = ([] : List UInt8)) then
  bnd (head_part F y27) fun x33 =>
  grd (okTo x33 y27.length) <|
  lt (to_ y27 x33) fun x36 =>
  grd (okCat x36.length) <|
  bnd (b64_Raw F x36) fun x40 =>
  grd (okCat (([61, 63, 117, 116, 102, 45, 56, 63, 66, 63] : List UInt8).length + x40.length)) <|
  lt (([61, 63, 117, 116, 102, 45, 56, 63, 66, 63] : List UInt8) ++ x40) fun x43 =>
  grd (okCat (x43.length + ([63, 61] : List UInt8).length)) <|
  lt (x43 ++ ([63, 61] : List UInt8)) fun x46 =>
  bnd2 (k y28 x46) fun x48 x49 =>
  bif !x49 then
    some (x48, y27)
  else
    grd (okTo x33 y27.length) <|
    lt (from_ y27 x33) fun x54 =>
    rec30 (x54, x48)
else
  some (y28, y27)
def head_wordsI_L1 {σ : Type} (F : Nat) (k : σ → (List UInt8) → Option (σ × Bool)) (n : Nat) : ((List UInt8) × σ) → Option (σ × (List UInt8)) :=
  loop (fun rec x => head_wordsI_B1 F k rec x.1 x.2) n
def head_wordsI_j1 {σ : Type} (F : Nat) (a2 : List UInt8) (k : σ → (List UInt8) → Option (σ × Bool)) (st0 : σ) : Option (σ × (List UInt8)) :=
head_wordsI_L1 F k F (a2, st0)
def head_wordsI_B2 {σ : Type} (a2 : List UInt8) (k : σ → (List UInt8) → Option (σ × Bool)) (x9 : List (List UInt8)) (rec14 : (Int × σ) → Option (σ × (List UInt8))) (y11 : Int) (y12 : σ) : Option (σ × (List UInt8)) :=
bif decide (y11 < (x9.length : Int)) then
  grd (okAt y11 x9.length) <|
  lt (at_ x9 y11) fun x18 =>
  bnd2 (k y12 x18) fun x20 x21 =>
  bif !x21 then
    some (x20, a2)
  else
    grd (okI (y11 + 1)) <|
    rec14 (y11 + 1, x20)
else
  some (y12, a2)
def head_wordsI_L2 {σ : Type} (a2 : List UInt8) (k : σ → (List UInt8) → Option (σ × Bool)) (x9 : List (List UInt8)) (n : Nat) : (Int × σ) → Option (σ × (List UInt8)) :=
  loop (fun rec x => head_wordsI_B2 a2 k x9 rec x.1 x.2) n
def head_wordsI (F : Nat) {σ : Type} (k : σ → (List UInt8) → Option (σ × Bool)) (st0 : σ) (a2 : List UInt8) : Option (σ × (List UInt8)) :=
bnd (head_Plain F a2) fun x4 =>
bif x4 then
  grd (okS a2.length) <|
  grd (decide (1 ≤ ([32] : List UInt8).length)) <|
  lt (Go.Lib.split a2 ([32] : List UInt8)) fun x9 =>
  head_wordsI_L2 a2 k x9 F (0, st0)
else
  head_wordsI_j1 F a2 k st0
def head_words (F : Nat) (a1 : List UInt8) : Option Unit :=
some ()
def head_Line_j1 (y66 : List UInt8) : Option ((List UInt8) × Int) :=
grd (okCat (y66.length + ([13, 10] : List UInt8).length)) <|
lt (y66 ++ ([13, 10] : List UInt8)) fun x71 =>
some (x71, 0)
def head_Line_j2 (x22 : List UInt8) (y30 : Int) (y31 : List UInt8) : Option ((Int × (List UInt8)) × Bool) :=
grd (okCat (y31.length + ([32] : List UInt8).length)) <|
lt (y31 ++ ([32] : List UInt8)) fun x36 =>
grd (okCat (x36.length + x22.length)) <|
lt (x36 ++ x22) fun x40 =>
grd (okI (y30 + 1)) <|
grd (okI ((y30 + 1) + (x22.length : Int))) <|
some (((y30 + 1) + (x22.length : Int), x40), true)
def head_Line_k1 (y18 : Int) (y19 : List UInt8) (x22 : List UInt8) : Option ((Int × (List UInt8)) × Bool) :=
grd (okI (y18 + 1)) <|
grd (okI ((y18 + 1) + (x22.length : Int))) <|
bif decide (76 < (y18 + 1) + (x22.length : Int)) then
  grd (okCat (y19.length + ([13, 10] : List UInt8).length)) <|
  lt (y19 ++ ([13, 10] : List UInt8)) fun x28 =>
  head_Line_j2 x22 0 x28
else
  head_Line_j2 x22 y18 y19
def head_Line (F : Nat) (a1 : List UInt8) (a2 : List UInt8) : Option ((List UInt8) × Int) :=
bnd (head_name F a1) fun x5 =>
bif (!x5) || (decide (4000 < (a2.length : Int))) then
  some ([], 1)
else
  grd (okCat (a1.length + ([58] : List UInt8).length)) <|
  lt (a1 ++ ([58] : List UInt8)) fun x10 =>
  grd (okCat x10.length) <|
  bnd (head_words F a2) fun _ =>
  bnd2 (head_wordsI F (fun s x => head_Line_k1 s.1 s.2 x) ((x10.length : Int), x10) a2) fun x60 x61 =>
  head_Line_j1 x60.2
end Go.Pv
namespace Go.Proofs.YtdaafnaokdigbaaGreatDoor
open Go.RowKit Go.Av Go.Pv
theorem en42_heada : ∀ (args : Array Value) (w : World), (callFunc 42 args).run Tryz.prog w = .ok (.enter 42 args) w := fun _ _ => by kernel_rfl
theorem en43_heada : ∀ (args : Array Value) (w : World), (callFunc 43 args).run Tryz.prog w = .ok (.enter 43 args) w := fun _ _ => by kernel_rfl
theorem en89_heada : ∀ (args : Array Value) (w : World), (callFunc 89 args).run Tryz.prog w = .ok (.enter 89 args) w := fun _ _ => by kernel_rfl
theorem en90_heada : ∀ (args : Array Value) (w : World), (callFunc 90 args).run Tryz.prog w = .ok (.enter 90 args) w := fun _ _ => by kernel_rfl
theorem en108_heada : ∀ (args : Array Value) (w : World), (callFunc 108 args).run Tryz.prog w = .ok (.enter 108 args) w := fun _ _ => by kernel_rfl
theorem en109_heada : ∀ (args : Array Value) (w : World), (callFunc 109 args).run Tryz.prog w = .ok (.enter 109 args) w := fun _ _ => by kernel_rfl
theorem en110_heada : ∀ (args : Array Value) (w : World), (callFunc 110 args).run Tryz.prog w = .ok (.enter 110 args) w := fun _ _ => by kernel_rfl
theorem en111_heada : ∀ (args : Array Value) (w : World), (callFunc 111 args).run Tryz.prog w = .ok (.enter 111 args) w := fun _ _ => by kernel_rfl
theorem en112_heada : ∀ (args : Array Value) (w : World), (callFunc 112 args).run Tryz.prog w = .ok (.enter 112 args) w := fun _ _ => by kernel_rfl
theorem en113_heada : ∀ (args : Array Value) (w : World), (callFunc 113 args).run Tryz.prog w = .ok (.enter 113 args) w := fun _ _ => by kernel_rfl
theorem en114_heada : ∀ (args : Array Value) (w : World), (callFunc 114 args).run Tryz.prog w = .ok (.enter 114 args) w := fun _ _ => by kernel_rfl
theorem en132_heada : ∀ (args : Array Value) (w : World), (callFunc 132 args).run Tryz.prog w = .ok (.enter 132 args) w := fun _ _ => by kernel_rfl
theorem en134_heada : ∀ (args : Array Value) (w : World), (callFunc 134 args).run Tryz.prog w = .ok (.enter 134 args) w := fun _ _ => by kernel_rfl
set_option maxRecDepth 100000 in
set_option maxHeartbeats 1000000 in
theorem w_head_nameC (F : Nat) (a1 : UInt8) (r2 : Bool) (H : head_nameC F a1 = some r2) : ACalls Tryz.prog 109 [u8 a1] [] (Ret (B r2) []) := by
 unfold head_nameC at H
 refine ACalls.of_body Tryz.func109 rfl rfl ?_
 show AW _ _ 29 _ _ _
 refine AW.seq ?_
 refine AW.region ?_
 show AR _ _ _ _ _ [0] _
 refine sS rfl rfl rfl (asg rfl) ?_
 refine AR.nil ?_
 show AW _ _ _ _ _ _
 refine AW.seq ?_
 refine AW.region ?_
 show AR _ _ _ _ _ [0, 1, 2, 3, 4, 5, 6, 7, 8, 9, 10, 11, 12, 13, 14, 15, 16, 17, 18, 19, 20, 21, 22, 23, 24, 25, 26] _
 refine sS rfl rfl rfl (mv rfl) ?_
 refine sS rfl rfl rfl (opS_ge rfl rfl) ?_
 refine sS rfl rfl rfl (mv rfl) ?_
 refine AR.meet (l := [6, 7, 8, 9, 10, 11, 12, 13, 14, 15, 16, 17, 18, 19, 20, 21, 22, 23, 24, 25, 26]) 8 (B ((decide (97 ≤ (a1.toNat : Int))) && (decide ((a1.toNat : Int) ≤ 122)))) (fun K => ?_) ?_
 ·rcases Bool.eq_false_or_eq_true (decide (97 ≤ (a1.toNat : Int))) with h3 | h3
  ·
   refine gT h3 rfl rfl rfl rfl rfl rfl (AO.ops rfl rfl (mv rfl) ?_)
   refine gT h3 rfl rfl rfl rfl rfl rfl (AO.ops rfl rfl (opS_le rfl rfl) ?_)
   refine sS rfl rfl rfl (opS_pick_t (av := .v _) rfl h3 rfl) ?_
   exact K _ 2 _ (B_congr (and_t h3)) rfl rfl
  ·
   refine gF h3 rfl rfl rfl rfl rfl ?_
   refine gF h3 rfl rfl rfl rfl rfl ?_
   refine sS rfl rfl rfl (opS_pick_f (av := .v _) rfl h3 rfl) ?_
   exact K _ 2 _ (B_congr (and_f h3)) rfl rfl
 refine sS rfl rfl rfl (mv rfl) ?_
 refine AR.meet (l := [14, 15, 16, 17, 18, 19, 20, 21, 22, 23, 24, 25, 26]) 16 (B (((decide (97 ≤ (a1.toNat : Int))) && (decide ((a1.toNat : Int) ≤ 122))) || ((decide (65 ≤ (a1.toNat : Int))) && (decide ((a1.toNat : Int) ≤ 90))))) (fun K => ?_) ?_
 ·rcases Bool.eq_false_or_eq_true ((decide (97 ≤ (a1.toNat : Int))) && (decide ((a1.toNat : Int) ≤ 122))) with h4 | h4
  ·
   refine gF h4 rfl rfl rfl rfl rfl ?_
   refine gF h4 rfl rfl rfl rfl rfl ?_
   refine gF h4 rfl rfl rfl rfl rfl ?_
   refine gU rfl rfl rfl rfl rfl ?_
   refine gU rfl rfl rfl rfl rfl ?_
   refine gF h4 rfl rfl rfl rfl rfl ?_
   refine sS rfl rfl rfl (opS_pick_t (av := .v _) rfl h4 rfl) ?_
   exact K _ 6 _ (B_congr (or_t h4)) rfl rfl
  ·
   refine gT h4 rfl rfl rfl rfl rfl rfl (AO.ops rfl rfl (mv rfl) ?_)
   refine gT h4 rfl rfl rfl rfl rfl rfl (AO.ops rfl rfl (opS_ge rfl rfl) ?_)
   refine gT h4 rfl rfl rfl rfl rfl rfl (AO.ops rfl rfl (mv rfl) ?_)
   refine AR.meet (l := [13, 14, 15, 16, 17, 18, 19, 20, 21, 22, 23, 24, 25, 26]) 15 (B ((decide (65 ≤ (a1.toNat : Int))) && (decide ((a1.toNat : Int) ≤ 90)))) (fun K => ?_) ?_
   ·rcases Bool.eq_false_or_eq_true (decide (65 ≤ (a1.toNat : Int))) with h5 | h5
    ·
     refine gT h5 rfl rfl rfl rfl rfl rfl (AO.ops rfl rfl (mv rfl) ?_)
     refine gT h5 rfl rfl rfl rfl rfl rfl (AO.ops rfl rfl (opS_le rfl rfl) ?_)
     refine gT h4 rfl rfl rfl rfl rfl rfl (AO.ops rfl rfl (opS_pick_t (av := .v _) rfl h5 rfl) ?_)
     exact K _ 2 _ (B_congr (and_t h5)) rfl rfl
    ·
     refine gF h5 rfl rfl rfl rfl rfl ?_
     refine gF h5 rfl rfl rfl rfl rfl ?_
     refine gT h4 rfl rfl rfl rfl rfl rfl (AO.ops rfl rfl (opS_pick_f (av := .v _) rfl h5 rfl) ?_)
     exact K _ 2 _ (B_congr (and_f h5)) rfl rfl
   refine sS rfl rfl rfl (opS_pick_f (av := .v _) rfl h4 rfl) ?_
   exact K _ 4 _ (B_congr (or_f h4)) rfl rfl
 refine sS rfl rfl rfl (mv rfl) ?_
 refine AR.meet (l := [22, 23, 24, 25, 26]) 24 (B ((((decide (97 ≤ (a1.toNat : Int))) && (decide ((a1.toNat : Int) ≤ 122))) || ((decide (65 ≤ (a1.toNat : Int))) && (decide ((a1.toNat : Int) ≤ 90)))) || ((decide (48 ≤ (a1.toNat : Int))) && (decide ((a1.toNat : Int) ≤ 57))))) (fun K => ?_) ?_
 ·rcases Bool.eq_false_or_eq_true (((decide (97 ≤ (a1.toNat : Int))) && (decide ((a1.toNat : Int) ≤ 122))) || ((decide (65 ≤ (a1.toNat : Int))) && (decide ((a1.toNat : Int) ≤ 90)))) with h6 | h6
  ·
   refine gF h6 rfl rfl rfl rfl rfl ?_
   refine gF h6 rfl rfl rfl rfl rfl ?_
   refine gF h6 rfl rfl rfl rfl rfl ?_
   refine gU rfl rfl rfl rfl rfl ?_
   refine gU rfl rfl rfl rfl rfl ?_
   refine gF h6 rfl rfl rfl rfl rfl ?_
   refine sS rfl rfl rfl (opS_pick_t (av := .v _) rfl h6 rfl) ?_
   exact K _ 6 _ (B_congr (or_t h6)) rfl rfl
  ·
   refine gT h6 rfl rfl rfl rfl rfl rfl (AO.ops rfl rfl (mv rfl) ?_)
   refine gT h6 rfl rfl rfl rfl rfl rfl (AO.ops rfl rfl (opS_ge rfl rfl) ?_)
   refine gT h6 rfl rfl rfl rfl rfl rfl (AO.ops rfl rfl (mv rfl) ?_)
   refine AR.meet (l := [21, 22, 23, 24, 25, 26]) 23 (B ((decide (48 ≤ (a1.toNat : Int))) && (decide ((a1.toNat : Int) ≤ 57)))) (fun K => ?_) ?_
   ·rcases Bool.eq_false_or_eq_true (decide (48 ≤ (a1.toNat : Int))) with h7 | h7
    ·
     refine gT h7 rfl rfl rfl rfl rfl rfl (AO.ops rfl rfl (mv rfl) ?_)
     refine gT h7 rfl rfl rfl rfl rfl rfl (AO.ops rfl rfl (opS_le rfl rfl) ?_)
     refine gT h6 rfl rfl rfl rfl rfl rfl (AO.ops rfl rfl (opS_pick_t (av := .v _) rfl h7 rfl) ?_)
     exact K _ 2 _ (B_congr (and_t h7)) rfl rfl
    ·
     refine gF h7 rfl rfl rfl rfl rfl ?_
     refine gF h7 rfl rfl rfl rfl rfl ?_
     refine gT h6 rfl rfl rfl rfl rfl rfl (AO.ops rfl rfl (opS_pick_f (av := .v _) rfl h7 rfl) ?_)
     exact K _ 2 _ (B_congr (and_f h7)) rfl rfl
   refine sS rfl rfl rfl (opS_pick_f (av := .v _) rfl h6 rfl) ?_
   exact K _ 4 _ (B_congr (or_f h6)) rfl rfl
 refine sS rfl rfl rfl (mv rfl) ?_
 refine AR.meet (l := [26]) 28 (B (((((decide (97 ≤ (a1.toNat : Int))) && (decide ((a1.toNat : Int) ≤ 122))) || ((decide (65 ≤ (a1.toNat : Int))) && (decide ((a1.toNat : Int) ≤ 90)))) || ((decide (48 ≤ (a1.toNat : Int))) && (decide ((a1.toNat : Int) ≤ 57)))) || (decide (a1 = 45)))) (fun K => ?_) ?_
 ·rcases Bool.eq_false_or_eq_true ((((decide (97 ≤ (a1.toNat : Int))) && (decide ((a1.toNat : Int) ≤ 122))) || ((decide (65 ≤ (a1.toNat : Int))) && (decide ((a1.toNat : Int) ≤ 90)))) || ((decide (48 ≤ (a1.toNat : Int))) && (decide ((a1.toNat : Int) ≤ 57)))) with h8 | h8
  ·
   refine gF h8 rfl rfl rfl rfl rfl ?_
   refine gF h8 rfl rfl rfl rfl rfl ?_
   refine sS rfl rfl rfl (opS_pick_t (av := .v _) rfl h8 rfl) ?_
   exact K _ 2 _ (B_congr (or_t h8)) rfl rfl
  ·
   refine gT h8 rfl rfl rfl rfl rfl rfl (AO.ops rfl rfl (mv rfl) ?_)
   refine gT h8 rfl rfl rfl rfl rfl rfl (AO.ops rfl rfl (g_eq8 (a := a1) (b := 45) rfl rfl) ?_)
   refine sS rfl rfl rfl (opS_pick_f (av := .v _) rfl h8 rfl) ?_
   exact K _ 2 _ (B_congr (or_f h8)) rfl rfl
 refine sS rfl rfl rfl (asg rfl) ?_
 refine AR.nil ?_
 show AW _ _ _ _ _ _
 refine AW.ret ?_
 obtain rfl := Option.some.inj H
 exact And.intro rfl (Exists.intro _ (Exists.intro _ ⟨ResV.oneW rfl (.refl _), Sub.at [] rfl, rfl, rfl⟩))
set_option maxRecDepth 100000 in
set_option maxHeartbeats 1000000 in
theorem w_head_plainC (F : Nat) (a1 : UInt8) (r2 : Bool) (H : head_plainC F a1 = some r2) : ACalls Tryz.prog 132 [u8 a1] [] (Ret (B r2) []) := by
 unfold head_plainC at H
 refine ACalls.of_body Tryz.func132 rfl rfl ?_
 show AW _ _ 9 _ _ _
 refine AW.seq ?_
 refine AW.region ?_
 show AR _ _ _ _ _ [0] _
 refine sS rfl rfl rfl (asg rfl) ?_
 refine AR.nil ?_
 show AW _ _ _ _ _ _
 refine AW.seq ?_
 refine AW.region ?_
 show AR _ _ _ _ _ [0, 1, 2, 3, 4, 5, 6] _
 refine sS rfl rfl rfl (mv rfl) ?_
 refine sS rfl rfl rfl (opS_ge rfl rfl) ?_
 refine sS rfl rfl rfl (mv rfl) ?_
 refine AR.meet (l := [6]) 8 (B ((decide (32 ≤ (a1.toNat : Int))) && (decide ((a1.toNat : Int) < 127)))) (fun K => ?_) ?_
 ·rcases Bool.eq_false_or_eq_true (decide (32 ≤ (a1.toNat : Int))) with h3 | h3
  ·
   refine gT h3 rfl rfl rfl rfl rfl rfl (AO.ops rfl rfl (mv rfl) ?_)
   refine gT h3 rfl rfl rfl rfl rfl rfl (AO.ops rfl rfl (opS_lt rfl rfl) ?_)
   refine sS rfl rfl rfl (opS_pick_t (av := .v _) rfl h3 rfl) ?_
   exact K _ 2 _ (B_congr (and_t h3)) rfl rfl
  ·
   refine gF h3 rfl rfl rfl rfl rfl ?_
   refine gF h3 rfl rfl rfl rfl rfl ?_
   refine sS rfl rfl rfl (opS_pick_f (av := .v _) rfl h3 rfl) ?_
   exact K _ 2 _ (B_congr (and_f h3)) rfl rfl
 refine sS rfl rfl rfl (asg rfl) ?_
 refine AR.nil ?_
 show AW _ _ _ _ _ _
 refine AW.ret ?_
 obtain rfl := Option.some.inj H
 exact And.intro rfl (Exists.intro _ (Exists.intro _ ⟨ResV.oneW rfl (.refl _), Sub.at [] rfl, rfl, rfl⟩))
set_option maxRecDepth 100000 in
set_option maxHeartbeats 1000000 in
theorem w_head_onlyN (F : Nat) (a1 : List UInt8) (r2 : Bool) (H : head_onlyN F a1 = some r2) : ACalls Tryz.prog 108 [S a1, .v (.func (.func 109) #[] #[])] [] (Ret (B r2) []) := by
 unfold head_onlyN at H
 refine ACalls.of_body Tryz.func108 rfl rfl ?_
 show AW _ _ 20 _ _ _
 refine AW.seq ?_
 refine AW.region ?_
 show AR _ _ _ _ _ [0] _
 refine sS rfl rfl rfl (asg rfl) ?_
 refine AR.nil ?_
 show AW _ _ _ _ _ _
 refine AW.cut (X := Unit) (fun _ => ⟨[(0, S a1)], [], []⟩) (fun _ => head_onlyN_j1 a1 = some r2) ?_ ?_
 ·
  refine AW.seq ?_
  refine AW.region ?_
  show AR _ _ _ _ _ [0, 1, 2] _
  refine sS rfl rfl rfl (mv rfl) ?_
  refine sS rfl rfl rfl (opS_len_str Tryz.underlying9 rfl) ?_
  refine sS rfl rfl rfl (mv rfl) ?_
  refine AR.nil ?_
  show AW _ _ _ _ _ _
  refine AW.block ?_
  refine AW.loop (X := Nat × Int) (fun (n5, y3) => ⟨[(0, S a1), (1, .v (.func (.func 109) #[] #[])), (7, i64 (a1.length : Int)), (8, i64 y3)], [], []⟩) (fun (n5, y3) => head_onlyN_L1 F a1 n5 y3 = some r2) (fun (n5, y3) => n5) (F, 0) H (WK.at [] (.cons (.refl _) (.cons (.refl _) (.cons (.refl _) (.cons (.refl _) (.nil _))))) rfl) ?_
  rintro ⟨n5, y3⟩ H
  obtain ⟨n5, rfl, H⟩ := loop_s H
  replace H : head_onlyN_B1 F a1 (head_onlyN_L1 F a1 n5) y3 = some r2 := H
  unfold head_onlyN_B1 at H
  show AW _ _ _ _ _ _
  refine AW.seq ?_
  refine AW.region ?_
  show AR _ _ _ _ _ [0] _
  refine sS rfl rfl rfl (opS_lt rfl rfl) ?_
  refine AR.nil ?_
  show AW _ _ _ _ _ _
  refine AW.seq ?_
  refine AW.cond rfl (fun c6 => ?_) (fun c6 => ?_)
  ·replace H := cnd_t c6 H
   refine AW.skip ?_
   show AW _ _ _ _ _ _
   refine AW.seq ?_
   refine AW.block ?_
   refine AW.seq ?_
   refine AW.region ?_
   show AR _ _ _ _ _ [0, 1] _
   refine sS rfl rfl rfl (mv rfl) ?_
   refine sS rfl rfl rfl (asg rfl) ?_
   refine AR.nil ?_
   show AW _ _ _ _ _ _
   refine AW.seq ?_
   obtain ⟨g7, H⟩ := grd_s H
   obtain ⟨x8, e9, H⟩ := lt_s H
   obtain ⟨x10, e11, H⟩ := bnd_s H
   refine AW.region ?_
   show AR _ _ _ _ _ [0, 1, 2, 3, 4, 5] _
   refine sS rfl rfl rfl (mv rfl) ?_
   refine sS rfl rfl rfl (mv rfl) ?_
   refine sS rfl rfl rfl (mv rfl) ?_
   refine sS rfl rfl rfl (g_index_str Tryz.underlying9 rfl rfl g7 e9) ?_
   refine AR.run rfl rfl (AO.callFp rfl (.inr ⟨rfl, rfl, rfl⟩) en109_heada rfl (w_head_nameC F x8 x10 e11) ?_)
   refine sS rfl rfl rfl (opS_not rfl) ?_
   refine AR.nil ?_
   show AW _ _ _ _ _ _
   refine AW.cond rfl (fun c12 => ?_) (fun c12 => ?_)
   ·replace H := cnd_t c12 H
    refine AW.seq ?_
    refine AW.region ?_
    show AR _ _ _ _ _ [0] _
    refine sS rfl rfl rfl (asg rfl) ?_
    refine AR.nil ?_
    show AW _ _ _ _ _ _
    refine AW.ret ?_
    obtain rfl := Option.some.inj H
    exact And.intro rfl (Exists.intro _ (Exists.intro _ ⟨ResV.oneW rfl (.refl _), Sub.at [] rfl, rfl, rfl⟩))
   ·replace H := cnd_f c12 H
    refine AW.skip ?_
    show AW _ _ _ _ _ _
    obtain ⟨g13, H⟩ := grd_s H
    refine AW.region ?_
    show AR _ _ _ _ _ [0, 1] _
    refine sS rfl rfl rfl (g_add rfl rfl g13) ?_
    refine sS rfl rfl rfl (mv rfl) ?_
    refine AR.nil ?_
    exact Exists.intro (n5, y3 + 1) ⟨H, Nat.lt_succ_self _, WK.at [] (.cons (.refl _) (.cons (.refl _) (.cons (.refl _) (.cons (.refl _) (.nil _))))) rfl⟩
  ·replace H := cnd_f c6 H
   refine AW.exit ?_
   exact Exists.intro () ⟨H, WK.at [] (.cons (.refl _) (.nil _)) rfl⟩
 rintro _ H
 replace H : head_onlyN_j1 a1 = some r2 := H
 unfold head_onlyN_j1 at H
 show AW _ _ _ _ _ _
 refine AW.seq ?_
 refine AW.region ?_
 show AR _ _ _ _ _ [0, 1, 2] _
 refine sS rfl rfl rfl (mv rfl) ?_
 refine sS rfl rfl rfl (opS_nes rfl rfl) ?_
 refine sS rfl rfl rfl (asg rfl) ?_
 refine AR.nil ?_
 show AW _ _ _ _ _ _
 refine AW.ret ?_
 obtain rfl := Option.some.inj H
 exact And.intro rfl (Exists.intro _ (Exists.intro _ ⟨ResV.oneW rfl (.refl _), Sub.at [] rfl, rfl, rfl⟩))
set_option maxRecDepth 100000 in
set_option maxHeartbeats 1000000 in
theorem w_head_onlyP (F : Nat) (a1 : List UInt8) (r2 : Bool) (H : head_onlyP F a1 = some r2) : ACalls Tryz.prog 108 [S a1, .v (.func (.func 132) #[] #[])] [] (Ret (B r2) []) := by
 unfold head_onlyP at H
 refine ACalls.of_body Tryz.func108 rfl rfl ?_
 show AW _ _ 20 _ _ _
 refine AW.seq ?_
 refine AW.region ?_
 show AR _ _ _ _ _ [0] _
 refine sS rfl rfl rfl (asg rfl) ?_
 refine AR.nil ?_
 show AW _ _ _ _ _ _
 refine AW.cut (X := Unit) (fun _ => ⟨[(0, S a1)], [], []⟩) (fun _ => head_onlyP_j1 a1 = some r2) ?_ ?_
 ·
  refine AW.seq ?_
  refine AW.region ?_
  show AR _ _ _ _ _ [0, 1, 2] _
  refine sS rfl rfl rfl (mv rfl) ?_
  refine sS rfl rfl rfl (opS_len_str Tryz.underlying9 rfl) ?_
  refine sS rfl rfl rfl (mv rfl) ?_
  refine AR.nil ?_
  show AW _ _ _ _ _ _
  refine AW.block ?_
  refine AW.loop (X := Nat × Int) (fun (n5, y3) => ⟨[(0, S a1), (1, .v (.func (.func 132) #[] #[])), (7, i64 (a1.length : Int)), (8, i64 y3)], [], []⟩) (fun (n5, y3) => head_onlyP_L1 F a1 n5 y3 = some r2) (fun (n5, y3) => n5) (F, 0) H (WK.at [] (.cons (.refl _) (.cons (.refl _) (.cons (.refl _) (.cons (.refl _) (.nil _))))) rfl) ?_
  rintro ⟨n5, y3⟩ H
  obtain ⟨n5, rfl, H⟩ := loop_s H
  replace H : head_onlyP_B1 F a1 (head_onlyP_L1 F a1 n5) y3 = some r2 := H
  unfold head_onlyP_B1 at H
  show AW _ _ _ _ _ _
  refine AW.seq ?_
  refine AW.region ?_
  show AR _ _ _ _ _ [0] _
  refine sS rfl rfl rfl (opS_lt rfl rfl) ?_
  refine AR.nil ?_
  show AW _ _ _ _ _ _
  refine AW.seq ?_
  refine AW.cond rfl (fun c6 => ?_) (fun c6 => ?_)
  ·replace H := cnd_t c6 H
   refine AW.skip ?_
   show AW _ _ _ _ _ _
   refine AW.seq ?_
   refine AW.block ?_
   refine AW.seq ?_
   refine AW.region ?_
   show AR _ _ _ _ _ [0, 1] _
   refine sS rfl rfl rfl (mv rfl) ?_
   refine sS rfl rfl rfl (asg rfl) ?_
   refine AR.nil ?_
   show AW _ _ _ _ _ _
   refine AW.seq ?_
   obtain ⟨g7, H⟩ := grd_s H
   obtain ⟨x8, e9, H⟩ := lt_s H
   obtain ⟨x10, e11, H⟩ := bnd_s H
   refine AW.region ?_
   show AR _ _ _ _ _ [0, 1, 2, 3, 4, 5] _
   refine sS rfl rfl rfl (mv rfl) ?_
   refine sS rfl rfl rfl (mv rfl) ?_
   refine sS rfl rfl rfl (mv rfl) ?_
   refine sS rfl rfl rfl (g_index_str Tryz.underlying9 rfl rfl g7 e9) ?_
   refine AR.run rfl rfl (AO.callFp rfl (.inr ⟨rfl, rfl, rfl⟩) en132_heada rfl (w_head_plainC F x8 x10 e11) ?_)
   refine sS rfl rfl rfl (opS_not rfl) ?_
   refine AR.nil ?_
   show AW _ _ _ _ _ _
   refine AW.cond rfl (fun c12 => ?_) (fun c12 => ?_)
   ·replace H := cnd_t c12 H
    refine AW.seq ?_
    refine AW.region ?_
    show AR _ _ _ _ _ [0] _
    refine sS rfl rfl rfl (asg rfl) ?_
    refine AR.nil ?_
    show AW _ _ _ _ _ _
    refine AW.ret ?_
    obtain rfl := Option.some.inj H
    exact And.intro rfl (Exists.intro _ (Exists.intro _ ⟨ResV.oneW rfl (.refl _), Sub.at [] rfl, rfl, rfl⟩))
   ·replace H := cnd_f c12 H
    refine AW.skip ?_
    show AW _ _ _ _ _ _
    obtain ⟨g13, H⟩ := grd_s H
    refine AW.region ?_
    show AR _ _ _ _ _ [0, 1] _
    refine sS rfl rfl rfl (g_add rfl rfl g13) ?_
    refine sS rfl rfl rfl (mv rfl) ?_
    refine AR.nil ?_
    exact Exists.intro (n5, y3 + 1) ⟨H, Nat.lt_succ_self _, WK.at [] (.cons (.refl _) (.cons (.refl _) (.cons (.refl _) (.cons (.refl _) (.nil _))))) rfl⟩
  ·replace H := cnd_f c6 H
   refine AW.exit ?_
   exact Exists.intro () ⟨H, WK.at [] (.cons (.refl _) (.nil _)) rfl⟩
 rintro _ H
 replace H : head_onlyP_j1 a1 = some r2 := H
 unfold head_onlyP_j1 at H
 show AW _ _ _ _ _ _
 refine AW.seq ?_
 refine AW.region ?_
 show AR _ _ _ _ _ [0, 1, 2] _
 refine sS rfl rfl rfl (mv rfl) ?_
 refine sS rfl rfl rfl (opS_nes rfl rfl) ?_
 refine sS rfl rfl rfl (asg rfl) ?_
 refine AR.nil ?_
 show AW _ _ _ _ _ _
 refine AW.ret ?_
 obtain rfl := Option.some.inj H
 exact And.intro rfl (Exists.intro _ (Exists.intro _ ⟨ResV.oneW rfl (.refl _), Sub.at [] rfl, rfl, rfl⟩))
set_option maxRecDepth 100000 in
set_option maxHeartbeats 1000000 in
theorem w_head_name (F : Nat) (a1 : List UInt8) (r2 : Bool) (H : head_name F a1 = some r2) : ACalls Tryz.prog 89 [S a1] [] (Ret (B r2) []) := by
 unfold head_name at H
 refine ACalls.of_body Tryz.func89 rfl rfl ?_
 show AW _ _ 10 _ _ _
 refine AW.seq ?_
 refine AW.region ?_
 show AR _ _ _ _ _ [0] _
 refine sS rfl rfl rfl (asg rfl) ?_
 refine AR.nil ?_
 show AW _ _ _ _ _ _
 refine AW.seq ?_
 obtain ⟨x4, e5, H⟩ := bndc_s H
 refine AW.region ?_
 show AR _ _ _ _ _ [0, 1, 2, 3, 4, 5, 6, 7] _
 refine sS rfl rfl rfl (mv rfl) ?_
 refine sS rfl rfl rfl (opS_len_str Tryz.underlying9 rfl) ?_
 refine sS rfl rfl rfl (opS_le rfl rfl) ?_
 refine sS rfl rfl rfl (mv rfl) ?_
 refine AR.meet (l := [7]) 9 (B ((decide ((a1.length : Int) ≤ 40)) && x4)) (fun K => ?_) ?_
 ·rcases Bool.eq_false_or_eq_true (decide ((a1.length : Int) ≤ 40)) with h3 | h3
  ·
   refine gT h3 rfl rfl rfl rfl rfl rfl (AO.ops rfl rfl (mv rfl) ?_)
   refine gT h3 rfl rfl rfl rfl rfl rfl (AO.callp rfl en108_heada rfl (w_head_onlyN F a1 x4 (e5 h3)) ?_)
   refine sS rfl rfl rfl (opS_pick_t (av := .v _) rfl h3 rfl) ?_
   exact K _ 2 _ (B_congr (and_t h3)) rfl rfl
  ·
   refine gF h3 rfl rfl rfl rfl rfl ?_
   refine gF h3 rfl rfl rfl rfl rfl ?_
   refine sS rfl rfl rfl (opS_pick_f (av := .v _) rfl h3 rfl) ?_
   exact K _ 2 _ (B_congr (and_f h3)) rfl rfl
 refine sS rfl rfl rfl (asg rfl) ?_
 refine AR.nil ?_
 show AW _ _ _ _ _ _
 refine AW.ret ?_
 obtain rfl := Option.some.inj H
 exact And.intro rfl (Exists.intro _ (Exists.intro _ ⟨ResV.oneW rfl (.refl _), Sub.at [] rfl, rfl, rfl⟩))
set_option maxRecDepth 100000 in
set_option maxHeartbeats 1000000 in
theorem w_head_Plain (F : Nat) (a1 : List UInt8) (r2 : Bool) (H : head_Plain F a1 = some r2) : ACalls Tryz.prog 111 [S a1] [] (Ret (B r2) []) := by
 unfold head_Plain at H
 refine ACalls.of_body Tryz.func111 rfl rfl ?_
 show AW _ _ 21 _ _ _
 refine AW.seq ?_
 refine AW.region ?_
 show AR _ _ _ _ _ [0] _
 refine sS rfl rfl rfl (asg rfl) ?_
 refine AR.nil ?_
 show AW _ _ _ _ _ _
 refine AW.seq ?_
 obtain ⟨x3, e4, H⟩ := bnd_s H
 obtain ⟨g6, H⟩ := grdc_s H
 obtain ⟨x7, e8, H⟩ := lt_s H
 obtain ⟨g10, H⟩ := grdc_s H
 obtain ⟨x11, e12, H⟩ := lt_s H
 obtain ⟨g14, H⟩ := grdc_s H
 obtain ⟨x15, e16, H⟩ := lt_s H
 refine AW.region ?_
 show AR _ _ _ _ _ [0, 1, 2, 3, 4, 5, 6, 7, 8, 9, 10, 11, 12, 13, 14, 15, 16, 17, 18] _
 refine sS rfl rfl rfl (mv rfl) ?_
 refine AR.run rfl rfl (AO.callp rfl en108_heada rfl (w_head_onlyP F a1 x3 e4) ?_)
 refine sS rfl rfl rfl (mv rfl) ?_
 refine AR.meet (l := [8, 9, 10, 11, 12, 13, 14, 15, 16, 17, 18]) 10 (B (x3 && (decide (x7 = a1)))) (fun K => ?_) ?_
 ·rcases Bool.eq_false_or_eq_true x3 with h5 | h5
  ·
   refine gT h5 rfl rfl rfl rfl rfl rfl (AO.ops rfl rfl (mv rfl) ?_)
   refine gT h5 rfl rfl rfl rfl rfl rfl (AO.callp rfl en42_heada rfl (show ACalls _ _ _ [] (Ret (S x7) []) from by subst e8; exact lib_Trim1 a1 32 (by decide) (okS_s (g6 h5))) ?_)
   refine gT h5 rfl rfl rfl rfl rfl rfl (AO.ops rfl rfl (mv rfl) ?_)
   refine gT h5 rfl rfl rfl rfl rfl rfl (AO.ops rfl rfl (opS_eqs rfl rfl) ?_)
   refine sS rfl rfl rfl (opS_pick_t (av := .v _) rfl h5 rfl) ?_
   exact K _ 4 _ (B_congr (and_t h5)) rfl rfl
  ·
   refine gF h5 rfl rfl rfl rfl rfl ?_
   refine gF h5 rfl rfl rfl rfl rfl ?_
   refine gF h5 rfl rfl rfl rfl rfl ?_
   refine gF h5 rfl rfl rfl rfl rfl ?_
   refine sS rfl rfl rfl (opS_pick_f (av := .v _) rfl h5 rfl) ?_
   exact K _ 4 _ (B_congr (and_f h5)) rfl rfl
 refine sS rfl rfl rfl (mv rfl) ?_
 refine AR.meet (l := [13, 14, 15, 16, 17, 18]) 15 (B ((x3 && (decide (x7 = a1))) && (!x11))) (fun K => ?_) ?_
 ·rcases Bool.eq_false_or_eq_true (x3 && (decide (x7 = a1))) with h9 | h9
  ·
   refine gT h9 rfl rfl rfl rfl rfl rfl (AO.ops rfl rfl (mv rfl) ?_)
   refine gT h9 rfl rfl rfl rfl rfl rfl (AO.callp rfl en43_heada rfl (show ACalls _ _ _ [] (Ret (B x11) []) from by subst e12; exact lib_Contains a1 ([32, 32] : List UInt8) (okS_s (g10 h9))) ?_)
   refine gT h9 rfl rfl rfl rfl rfl rfl (AO.ops rfl rfl (opS_not rfl) ?_)
   refine sS rfl rfl rfl (opS_pick_t (av := .v _) rfl h9 rfl) ?_
   exact K _ 3 _ (B_congr (and_t h9)) rfl rfl
  ·
   refine gF h9 rfl rfl rfl rfl rfl ?_
   refine gF h9 rfl rfl rfl rfl rfl ?_
   refine gF h9 rfl rfl rfl rfl rfl ?_
   refine sS rfl rfl rfl (opS_pick_f (av := .v _) rfl h9 rfl) ?_
   exact K _ 3 _ (B_congr (and_f h9)) rfl rfl
 refine sS rfl rfl rfl (mv rfl) ?_
 refine AR.meet (l := [18]) 20 (B (((x3 && (decide (x7 = a1))) && (!x11)) && (!x15))) (fun K => ?_) ?_
 ·rcases Bool.eq_false_or_eq_true ((x3 && (decide (x7 = a1))) && (!x11)) with h13 | h13
  ·
   refine gT h13 rfl rfl rfl rfl rfl rfl (AO.ops rfl rfl (mv rfl) ?_)
   refine gT h13 rfl rfl rfl rfl rfl rfl (AO.callp rfl en43_heada rfl (show ACalls _ _ _ [] (Ret (B x15) []) from by subst e16; exact lib_Contains a1 ([61, 63] : List UInt8) (okS_s (g14 h13))) ?_)
   refine gT h13 rfl rfl rfl rfl rfl rfl (AO.ops rfl rfl (opS_not rfl) ?_)
   refine sS rfl rfl rfl (opS_pick_t (av := .v _) rfl h13 rfl) ?_
   exact K _ 3 _ (B_congr (and_t h13)) rfl rfl
  ·
   refine gF h13 rfl rfl rfl rfl rfl ?_
   refine gF h13 rfl rfl rfl rfl rfl ?_
   refine gF h13 rfl rfl rfl rfl rfl ?_
   refine sS rfl rfl rfl (opS_pick_f (av := .v _) rfl h13 rfl) ?_
   exact K _ 3 _ (B_congr (and_f h13)) rfl rfl
 refine sS rfl rfl rfl (asg rfl) ?_
 refine AR.nil ?_
 show AW _ _ _ _ _ _
 refine AW.ret ?_
 obtain rfl := Option.some.inj H
 exact And.intro rfl (Exists.intro _ (Exists.intro _ ⟨ResV.oneW rfl (.refl _), Sub.at [] rfl, rfl, rfl⟩))
set_option maxRecDepth 100000 in
set_option maxHeartbeats 1000000 in
theorem w_head_inside (F : Nat) (a1 : UInt8) (r2 : Bool) (H : head_inside F a1 = some r2) : ACalls Tryz.prog 134 [u8 a1] [] (Ret (B r2) []) := by
 unfold head_inside at H
 refine ACalls.of_body Tryz.func134 rfl rfl ?_
 show AW _ _ 6 _ _ _
 refine AW.seq ?_
 refine AW.region ?_
 show AR _ _ _ _ _ [0] _
 refine sS rfl rfl rfl (asg rfl) ?_
 refine AR.nil ?_
 show AW _ _ _ _ _ _
 refine AW.seq ?_
 refine AW.region ?_
 show AR _ _ _ _ _ [0, 1, 2, 3] _
 refine sS rfl rfl rfl (mv rfl) ?_
 refine sS rfl rfl rfl (g_shr8 (n := 6) rfl rfl rfl) ?_
 refine sS rfl rfl rfl (g_eq8 (a := Go.Av.shr8 a1 6) (b := 2) rfl rfl) ?_
 refine sS rfl rfl rfl (asg rfl) ?_
 refine AR.nil ?_
 show AW _ _ _ _ _ _
 refine AW.ret ?_
 obtain rfl := Option.some.inj H
 exact And.intro rfl (Exists.intro _ (Exists.intro _ ⟨ResV.oneW rfl (.refl _), Sub.at [] rfl, rfl, rfl⟩))
set_option maxRecDepth 100000 in
set_option maxHeartbeats 1000000 in
theorem w_head_part (F : Nat) (a1 : List UInt8) (r2 : Int) (H : head_part F a1 = some r2) : ACalls Tryz.prog 113 [S a1] [] (Ret (i64 r2) []) := by
 unfold head_part at H
 refine ACalls.of_body Tryz.func113 rfl rfl ?_
 show AW _ _ 22 _ _ _
 refine AW.seq ?_
 refine AW.region ?_
 show AR _ _ _ _ _ [0] _
 refine sS rfl rfl rfl (asg rfl) ?_
 refine AR.nil ?_
 show AW _ _ _ _ _ _
 refine AW.seq ?_
 refine AW.seq ?_
 refine AW.region ?_
 show AR _ _ _ _ _ [0, 1, 2] _
 refine sS rfl rfl rfl (mv rfl) ?_
 refine sS rfl rfl rfl (opS_len_str Tryz.underlying9 rfl) ?_
 refine sS rfl rfl rfl (opS_le rfl rfl) ?_
 refine AR.nil ?_
 show AW _ _ _ _ _ _
 refine AW.cond rfl (fun c3 => ?_) (fun c3 => ?_)
 ·replace H := cnd_t c3 H
  refine AW.seq ?_
  refine AW.region ?_
  show AR _ _ _ _ _ [0, 1, 2] _
  refine sS rfl rfl rfl (mv rfl) ?_
  refine sS rfl rfl rfl (opS_len_str Tryz.underlying9 rfl) ?_
  refine sS rfl rfl rfl (asg rfl) ?_
  refine AR.nil ?_
  show AW _ _ _ _ _ _
  refine AW.ret ?_
  obtain rfl := Option.some.inj H
  exact And.intro rfl (Exists.intro _ (Exists.intro _ ⟨ResV.oneW rfl (.refl _), Sub.at [] rfl, rfl, rfl⟩))
 ·replace H := cnd_f c3 H
  refine AW.skip ?_
  show AW _ _ _ _ _ _
  refine AW.seq ?_
  refine AW.region ?_
  show AR _ _ _ _ _ [0] _
  refine sS rfl rfl rfl (asg rfl) ?_
  refine AR.nil ?_
  show AW _ _ _ _ _ _
  refine AW.cut (X := Int) (fun y15 => ⟨[(3, i64 y15)], [], []⟩) (fun y15 => head_part_j1 y15 = some r2) ?_ ?_
  ·
   refine AW.block ?_
   refine AW.loop (X := Nat × Int) (fun (n6, y4) => ⟨[(0, S a1), (3, i64 y4)], [], []⟩) (fun (n6, y4) => head_part_L1 F a1 n6 y4 = some r2) (fun (n6, y4) => n6) (F, 45) H (WK.at [] (.cons (.refl _) (.cons (.refl _) (.nil _))) rfl) ?_
   rintro ⟨n6, y4⟩ H
   obtain ⟨n6, rfl, H⟩ := loop_s H
   replace H : head_part_B1 F a1 (head_part_L1 F a1 n6) y4 = some r2 := H
   unfold head_part_B1 at H
   show AW _ _ _ _ _ _
   refine AW.seq ?_
   refine AW.seq ?_
   obtain ⟨g8, H⟩ := grdc_s H
   obtain ⟨x9, e10, H⟩ := lt_s H
   obtain ⟨x11, e12, H⟩ := bndc_s H
   refine AW.region ?_
   show AR _ _ _ _ _ [0, 1, 2, 3, 4, 5, 6, 7] _
   refine sS rfl rfl rfl (mv rfl) ?_
   refine sS rfl rfl rfl (opS_gt rfl rfl) ?_
   refine sS rfl rfl rfl (mv rfl) ?_
   refine AR.meet (l := []) 16 (B ((decide (41 < y4)) && x11)) (fun K => ?_) ?_
   ·rcases Bool.eq_false_or_eq_true (decide (41 < y4)) with h7 | h7
    ·
     refine gT h7 rfl rfl rfl rfl rfl rfl (AO.ops rfl rfl (mv rfl) ?_)
     refine gT h7 rfl rfl rfl rfl rfl rfl (AO.ops rfl rfl (mv rfl) ?_)
     refine gT h7 rfl rfl rfl rfl rfl rfl (AO.ops rfl rfl (g_index_str Tryz.underlying9 rfl rfl (g8 h7) e10) ?_)
     refine gT h7 rfl rfl rfl rfl rfl rfl (AO.callp rfl en134_heada rfl (w_head_inside F x9 x11 (e12 h7)) ?_)
     refine sS rfl rfl rfl (opS_pick_t (av := .v _) rfl h7 rfl) ?_
     exact K _ 4 _ (B_congr (and_t h7)) rfl rfl
    ·
     refine gF h7 rfl rfl rfl rfl rfl ?_
     refine gF h7 rfl rfl rfl rfl rfl ?_
     refine gF h7 rfl rfl rfl rfl rfl ?_
     refine gF h7 rfl rfl rfl rfl rfl ?_
     refine sS rfl rfl rfl (opS_pick_f (av := .v _) rfl h7 rfl) ?_
     exact K _ 4 _ (B_congr (and_f h7)) rfl rfl
   refine AR.nil ?_
   show AW _ _ _ _ _ _
   refine AW.cond rfl (fun c13 => ?_) (fun c13 => ?_)
   ·replace H := cnd_t c13 H
    refine AW.skip ?_
    show AW _ _ _ _ _ _
    refine AW.block ?_
    obtain ⟨g14, H⟩ := grd_s H
    refine AW.region ?_
    show AR _ _ _ _ _ [0, 1, 2] _
    refine sS rfl rfl rfl (mv rfl) ?_
    refine sS rfl rfl rfl (g_sub rfl rfl g14) ?_
    refine sS rfl rfl rfl (asg rfl) ?_
    refine AR.nil ?_
    exact Exists.intro (n6, y4 - 1) ⟨H, Nat.lt_succ_self _, WK.at [] (.cons (.refl _) (.cons (.refl _) (.nil _))) rfl⟩
   ·replace H := cnd_f c13 H
    refine AW.exit ?_
    exact Exists.intro y4 ⟨H, WK.at [] (.cons (.refl _) (.nil _)) rfl⟩
  rintro y15 H
  replace H : head_part_j1 y15 = some r2 := H
  unfold head_part_j1 at H
  show AW _ _ _ _ _ _
  refine AW.seq ?_
  refine AW.seq ?_
  refine AW.region ?_
  show AR _ _ _ _ _ [0, 1] _
  refine sS rfl rfl rfl (mv rfl) ?_
  refine sS rfl rfl rfl (opS_eqi rfl rfl) ?_
  refine AR.nil ?_
  show AW _ _ _ _ _ _
  refine AW.cond rfl (fun c17 => ?_) (fun c17 => ?_)
  ·replace H := cnd_t c17 H
   refine AW.seq ?_
   refine AW.region ?_
   show AR _ _ _ _ _ [0] _
   refine sS rfl rfl rfl (asg rfl) ?_
   refine AR.nil ?_
   show AW _ _ _ _ _ _
   refine AW.ret ?_
   obtain rfl := Option.some.inj H
   exact And.intro rfl (Exists.intro _ (Exists.intro _ ⟨ResV.oneW rfl (.refl _), Sub.at [] rfl, rfl, rfl⟩))
  ·replace H := cnd_f c17 H
   refine AW.skip ?_
   show AW _ _ _ _ _ _
   refine AW.seq ?_
   refine AW.region ?_
   show AR _ _ _ _ _ [0, 1] _
   refine sS rfl rfl rfl (mv rfl) ?_
   refine sS rfl rfl rfl (asg rfl) ?_
   refine AR.nil ?_
   show AW _ _ _ _ _ _
   refine AW.ret ?_
   obtain rfl := Option.some.inj H
   exact And.intro rfl (Exists.intro _ (Exists.intro _ ⟨ResV.oneW rfl (.refl _), Sub.at [] rfl, rfl, rfl⟩))
set_option maxRecDepth 100000 in
set_option maxHeartbeats 1000000 in
theorem w_head_wordsI (F : Nat) {σ τ : Type} (T : σ → τ → List Chunk) (k : σ → (List UInt8) → Option (σ × Bool)) (o : Nat) (hY : ∀ (s : σ) (t : τ) (x : List UInt8) (rv : σ × Bool), k s x = some rv → AYields Tryz.prog o [S x] (T s t) fun ae A' => ∃ t', ae = .ret (.v (.bool rv.2)) ∧ A' = T rv.1 t') (st0 : σ) (tt0 : τ) (o1 : Nat) (a2 : List UInt8) (rs : σ) (r3 : List UInt8) (H : head_wordsI F k st0 a2 = some (rs, r3)) : ACalls Tryz.prog 110 [.yl o, .pt o1 0] ([.obj o1 [S a2]] ++ T st0 tt0) (fun e A' => ∃ tz, e = .ret (.tup []) ∧ A' = [.obj o1 [S r3]] ++ T rs tz) := by
 unfold head_wordsI at H
 refine ACalls.of_body Tryz.func110 rfl rfl ?_
 show AW _ _ 37 _ _ _
 refine AW.cut (X := Unit) (fun _ => ⟨[(0, .yl o), (1, .pt o1 0)], [], ([.obj o1 [S a2]] ++ T st0 tt0)⟩) (fun _ => head_wordsI_j1 F a2 k st0 = some (rs, r3)) ?_ ?_
 ·
  refine AW.seq ?_
  obtain ⟨x4, e5, H⟩ := bnd_s H
  refine AW.region ?_
  show AR _ _ _ _ _ [0, 1] _
  refine sR rfl rfl rfl (opR_load_pt (i := 0) Tryz.underlying9 rfl rfl rfl rfl) ?_
  refine AR.run rfl rfl (AO.callp rfl en111_heada rfl (w_head_Plain F a2 x4 e5) ?_)
  refine AR.nil ?_
  show AW _ _ _ _ _ _
  refine AW.cond rfl (fun c6 => ?_) (fun c6 => ?_)
  ·replace H := cnd_t c6 H
   refine AW.seq ?_
   refine AW.seq ?_
   obtain ⟨g7, H⟩ := grd_s H
   obtain ⟨g8, H⟩ := grd_s H
   obtain ⟨x9, e10, H⟩ := lt_s H
   refine AW.region ?_
   show AR _ _ _ _ _ [0, 1, 2, 3] _
   refine sR rfl rfl rfl (opR_load_pt (i := 0) Tryz.underlying9 rfl rfl rfl rfl) ?_
   refine AR.run rfl rfl (AO.callp rfl en112_heada rfl (show ACalls _ _ _ [] (Ret (slE Enc.str x9 none) []) from by subst e10; exact lib_Split a2 ([32] : List UInt8) (okS_s g7) (of_decide_eq_true g8)) ?_)
   refine sS rfl rfl rfl (opS_len_sl Tryz.underlying22 rfl) ?_
   refine sS rfl rfl rfl (mv rfl) ?_
   refine AR.nil ?_
   show AW _ _ _ _ _ _
   refine AW.block ?_
   refine AW.loop (X := Nat × Int × σ × τ) (fun (n15, y11, y12, t13) => ⟨[(0, .yl o), (9, slE Enc.str x9 none), (10, i64 (x9.length : Int)), (11, i64 y11)], [], ([.obj o1 [S a2]] ++ T y12 t13)⟩) (fun (n15, y11, y12, t13) => head_wordsI_L2 a2 k x9 n15 (y11, y12) = some (rs, r3)) (fun (n15, y11, y12, t13) => n15) (F, 0, st0, tt0) H (WK.atT 1 [0] (.cons (.refl _) (.cons (.refl _) (.cons (.refl _) (.cons (.refl _) (.nil _))))) rfl) ?_
   rintro ⟨n15, y11, y12, t13⟩ H
   obtain ⟨n15, rfl, H⟩ := loop_s H
   replace H : head_wordsI_B2 a2 k x9 (head_wordsI_L2 a2 k x9 n15) y11 y12 = some (rs, r3) := H
   unfold head_wordsI_B2 at H
   show AW _ _ _ _ _ _
   refine AW.seq ?_
   refine AW.region ?_
   show AR _ _ _ _ _ [0] _
   refine sS rfl rfl rfl (opS_lt rfl rfl) ?_
   refine AR.nil ?_
   show AW _ _ _ _ _ _
   refine AW.seq ?_
   refine AW.cond rfl (fun c16 => ?_) (fun c16 => ?_)
   ·replace H := cnd_t c16 H
    refine AW.skip ?_
    show AW _ _ _ _ _ _
    refine AW.seq ?_
    refine AW.block ?_
    refine AW.seq ?_
    obtain ⟨g17, H⟩ := grd_s H
    obtain ⟨x18, e19, H⟩ := lt_s H
    refine AW.region ?_
    show AR _ _ _ _ _ [0, 1, 2] _
    refine sS rfl rfl rfl (g_indexAddr (E := Enc.str) Tryz.underlying22 (by kernel_rfl) rfl rfl g17 e19) ?_
    refine sS rfl rfl rfl (opS_load_cp Tryz.underlying9 rfl rfl) ?_
    refine sS rfl rfl rfl (asg rfl) ?_
    refine AR.nil ?_
    show AW _ _ _ _ _ _
    refine AW.seq ?_
    obtain ⟨x20, x21, e22, H⟩ := bnd2_s H
    refine AW.region ?_
    show AR _ _ _ _ _ [0, 1, 2, 3] _
    refine sS rfl rfl rfl (opS_move (av := .yl _) rfl) ?_
    refine sS rfl rfl rfl (mv rfl) ?_
    refine AR.run rfl rfl (AO.yieldT (s' := x20) (b := x21) 1 rfl rfl rfl (hY _ _ _ _ e22) fun t23 => ?_)
    show AR _ _ _ _ _ _ ⟨_, _, ([.obj o1 [S a2]] ++ T x20 t23)⟩
    refine sS rfl rfl rfl (opS_not rfl) ?_
    refine AR.nil ?_
    show AW _ _ _ _ _ _
    refine AW.cond rfl (fun c24 => ?_) (fun c24 => ?_)
    ·replace H := cnd_t c24 H
     refine AW.ret ?_
     obtain ⟨rfl, rfl⟩ := res2 H
     exact And.intro rfl (Exists.intro _ (Exists.intro _ ⟨ResV.noneW rfl, Sub.atT 1 [0] rfl, t23, rfl, rfl⟩))
    ·replace H := cnd_f c24 H
     refine AW.skip ?_
     show AW _ _ _ _ _ _
     obtain ⟨g25, H⟩ := grd_s H
     refine AW.region ?_
     show AR _ _ _ _ _ [0, 1] _
     refine sS rfl rfl rfl (g_add rfl rfl g25) ?_
     refine sS rfl rfl rfl (mv rfl) ?_
     refine AR.nil ?_
     exact Exists.intro (n15, y11 + 1, x20, t23) ⟨H, Nat.lt_succ_self _, WK.atT 1 [0] (.cons (.refl _) (.cons (.refl _) (.cons (.refl _) (.cons (.refl _) (.nil _))))) rfl⟩
   ·replace H := cnd_f c16 H
    refine AW.exit ?_
    show AW _ _ _ _ _ _
    refine AW.ret ?_
    obtain ⟨rfl, rfl⟩ := res2 H
    exact And.intro rfl (Exists.intro _ (Exists.intro _ ⟨ResV.noneW rfl, Sub.atT 1 [0] rfl, t13, rfl, rfl⟩))
  ·replace H := cnd_f c6 H
   refine AW.skip ?_
   exact Exists.intro () ⟨H, WK.atT 1 [0] (.cons (.refl _) (.cons (.refl _) (.nil _))) rfl⟩
 rintro _ H
 replace H : head_wordsI_j1 F a2 k st0 = some (rs, r3) := H
 unfold head_wordsI_j1 at H
 show AW _ _ _ _ _ _
 refine AW.block ?_
 refine AW.loop (X := Nat × (List UInt8) × σ × τ) (fun (n31, y27, y28, t29) => ⟨[(0, .yl o), (1, .pt o1 0)], [], ([.obj o1 [S y27]] ++ T y28 t29)⟩) (fun (n31, y27, y28, t29) => head_wordsI_L1 F k n31 (y27, y28) = some (rs, r3)) (fun (n31, y27, y28, t29) => n31) (F, a2, st0, tt0) H (WK.atT 1 [0] (.cons (.refl _) (.cons (.refl _) (.nil _))) rfl) ?_
 rintro ⟨n31, y27, y28, t29⟩ H
 obtain ⟨n31, rfl, H⟩ := loop_s H
 replace H : head_wordsI_B1 F k (head_wordsI_L1 F k n31) y27 y28 = some (rs, r3) := H
 unfold head_wordsI_B1 at H
 show AW _ _ _ _ _ _
 refine AW.seq ?_
 refine AW.seq ?_
 refine AW.region ?_
 show AR _ _ _ _ _ [0, 1] _
 refine sR rfl rfl rfl (opR_load_pt (i := 0) Tryz.underlying9 rfl rfl rfl rfl) ?_
 refine sS rfl rfl rfl (opS_nes rfl rfl) ?_
 refine AR.nil ?_
 show AW _ _ _ _ _ _
 refine AW.cond rfl (fun c32 => ?_) (fun c32 => ?_)
 ·replace H := cnd_t c32 H
  refine AW.skip ?_
  show AW _ _ _ _ _ _
  refine AW.block ?_
  refine AW.seq ?_
  obtain ⟨x33, e34, H⟩ := bnd_s H
  refine AW.region ?_
  show AR _ _ _ _ _ [0, 1, 2] _
  refine sR rfl rfl rfl (opR_load_pt (i := 0) Tryz.underlying9 rfl rfl rfl rfl) ?_
  refine AR.run rfl rfl (AO.callp rfl en113_heada rfl (w_head_part F y27 x33 e34) ?_)
  refine sS rfl rfl rfl (asg rfl) ?_
  refine AR.nil ?_
  show AW _ _ _ _ _ _
  refine AW.seq ?_
  refine AW.seq ?_
  obtain ⟨g35, H⟩ := grd_s H
  obtain ⟨x36, e37, H⟩ := lt_s H
  obtain ⟨g38, H⟩ := grd_s H
  obtain ⟨x40, e41, H⟩ := bnd_s H
  obtain ⟨g42, H⟩ := grd_s H
  obtain ⟨x43, e44, H⟩ := lt_s H
  obtain ⟨g45, H⟩ := grd_s H
  obtain ⟨x46, e47, H⟩ := lt_s H
  obtain ⟨x48, x49, e50, H⟩ := bnd2_s H
  refine AW.region ?_
  show AR _ _ _ _ _ [0, 1, 2, 3, 4, 5, 6, 7, 8, 9] _
  refine sS rfl rfl rfl (opS_move (av := .yl _) rfl) ?_
  refine sR rfl rfl rfl (opR_load_pt (i := 0) Tryz.underlying9 rfl rfl rfl rfl) ?_
  refine sS rfl rfl rfl (mv rfl) ?_
  refine sS rfl rfl rfl (g_to_str Tryz.underlying9 rfl rfl g35 e37) ?_
  refine sX rfl rfl rfl (g_conv_str_bytes (bytes := 1) Tryz.underlying9 Tryz.underlying26 Tryz.underlying5 rfl g38) ?_
  rintro _ _ ⟨t39, rfl, rfl⟩
  refine AR.run rfl rfl (AO.callp rfl en114_heada rfl (w_b64_Raw F x36 (some t39) x40 e41) ?_)
  refine sS rfl rfl rfl (g_cat rfl rfl g42 e44) ?_
  refine sS rfl rfl rfl (g_cat rfl rfl g45 e47) ?_
  refine AR.run rfl rfl (AO.yieldT (s' := x48) (b := x49) 2 rfl rfl rfl (hY _ _ _ _ e50) fun t51 => ?_)
  show AR _ _ _ _ _ _ ⟨_, _, ([.tok t39 5, .obj o1 [S y27]] ++ T x48 t51)⟩
  refine sS rfl rfl rfl (opS_not rfl) ?_
  refine AR.nil ?_
  show AW _ _ _ _ _ _
  refine AW.cond rfl (fun c52 => ?_) (fun c52 => ?_)
  ·replace H := cnd_t c52 H
   refine AW.ret ?_
   obtain ⟨rfl, rfl⟩ := res2 H
   exact And.intro rfl (Exists.intro _ (Exists.intro _ ⟨ResV.noneW rfl, Sub.atT 2 [1] rfl, t51, rfl, rfl⟩))
  ·replace H := cnd_f c52 H
   refine AW.skip ?_
   show AW _ _ _ _ _ _
   obtain ⟨g53, H⟩ := grd_s H
   obtain ⟨x54, e55, H⟩ := lt_s H
   refine AW.region ?_
   show AR _ _ _ _ _ [0, 1, 2, 3] _
   refine sR rfl rfl rfl (opR_load_pt (i := 1) Tryz.underlying9 rfl rfl rfl rfl) ?_
   refine sS rfl rfl rfl (mv rfl) ?_
   refine sS rfl rfl rfl (g_from_str Tryz.underlying9 rfl rfl g53 e55) ?_
   refine s0 rfl rfl (opR_store_pt (i := 1) (c := .v _) (by kernel_rfl) rfl rfl rfl rfl (Nat.le_of_ble_eq_true rfl)) ?_
   refine AR.nil ?_
   exact Exists.intro (n31, x54, x48, t51) ⟨H, Nat.lt_succ_self _, WK.atT 2 [1] (.cons (.refl _) (.cons (.refl _) (.nil _))) rfl⟩
 ·replace H := cnd_f c32 H
  refine AW.exit ?_
  obtain ⟨rfl, rfl⟩ := res2 H
  exact And.intro rfl (Exists.intro _ (Exists.intro _ ⟨ResV.noneW rfl, Sub.atT 1 [0] rfl, t29, rfl, rfl⟩))
set_option maxRecDepth 100000 in
set_option maxHeartbeats 1000000 in
theorem w_head_words (F : Nat) (a1 : List UInt8) (H : head_words F a1 = some ()) : ACalls Tryz.prog 90 [S a1] [] (fun e A' => ∃ ob1 : Nat, e = .ret (.fn (.func 110) [] [.pt ob1 0]) ∧ A' = [.obj ob1 [S a1]]) := by
 unfold head_words at H
 refine ACalls.of_body Tryz.func90 rfl rfl ?_
 show AW _ _ 4 _ _ _
 refine AW.seq ?_
 refine AW.region ?_
 show AR _ _ _ _ _ [0, 1] _
 refine sX rfl rfl rfl (opX_box rfl (.inl rfl)) ?_
 rintro _ _ ⟨o2, rfl, rfl⟩
 refine sS rfl rfl rfl (asg rfl) ?_
 refine AR.nil ?_
 show AW _ _ _ _ _ _
 refine AW.seq ?_
 refine AW.region ?_
 show AR _ _ _ _ _ [0, 1] _
 refine sS rfl rfl rfl (opS_makeFunc rfl rfl) ?_
 refine sS rfl rfl rfl (opS_assign (av := .fn _ _ _) rfl) ?_
 refine AR.nil ?_
 show AW _ _ _ _ _ _
 refine AW.ret ?_
 exact And.intro rfl (Exists.intro _ (Exists.intro _ ⟨ResV.oneW rfl (.refl _), Sub.at [0] rfl, o2, rfl, rfl⟩))
set_option maxRecDepth 100000 in
set_option maxHeartbeats 1000000 in
theorem w_head_Line (F : Nat) (a1 : List UInt8) (a2 : List UInt8) (r3 : List UInt8) (r4 : Int) (H : head_Line F a1 a2 = some (r3, r4)) : ACalls Tryz.prog 69 [.agg [S a1, S a2]] [] (Ret (.tup [slE Enc.byte r3 none, i64 r4]) []) := by
 unfold head_Line at H
 refine ACalls.of_bodyM Tryz.func69 rfl rfl ?_
 show AW _ _ 47 _ _ _
 refine AW.seq ?_
 refine AW.region ?_
 show AR _ _ _ _ _ [0, 1, 2] _
 refine sR rfl rfl rfl (opR_boxCp rfl (.inr ⟨_, rfl⟩)) ?_
 refine sS rfl rfl rfl (asg rfl) ?_
 refine sS rfl rfl rfl (asg rfl) ?_
 refine AR.nil ?_
 show AW _ _ _ _ _ _
 refine AW.seq ?_
 refine AW.seq ?_
 obtain ⟨x5, e6, H⟩ := bnd_s H
 refine AW.region ?_
 show AR _ _ _ _ _ [0, 1, 2, 3, 4, 5, 6, 7, 8, 9] _
 refine sS rfl rfl rfl (opS_fieldAddr_cp (n := 0) (by kernel_rfl) rfl (Nat.le_of_ble_eq_true rfl)) ?_
 refine sS rfl rfl rfl (opS_load_cp Tryz.underlying9 rfl rfl) ?_
 refine AR.run rfl rfl (AO.callp rfl en89_heada rfl (w_head_name F a1 x5 e6) ?_)
 refine sS rfl rfl rfl (opS_not rfl) ?_
 refine sS rfl rfl rfl (mv rfl) ?_
 refine AR.meet (l := []) 16 (B ((!x5) || (decide (4000 < (a2.length : Int))))) (fun K => ?_) ?_
 ·rcases Bool.eq_false_or_eq_true (!x5) with h7 | h7
  ·
   refine gF h7 rfl rfl rfl rfl rfl ?_
   refine gF h7 rfl rfl rfl rfl rfl ?_
   refine gF h7 rfl rfl rfl rfl rfl ?_
   refine gF h7 rfl rfl rfl rfl rfl ?_
   refine sS rfl rfl rfl (opS_pick_t (av := .v _) rfl h7 rfl) ?_
   exact K _ 4 _ (B_congr (or_t h7)) rfl rfl
  ·
   refine gT h7 rfl rfl rfl rfl rfl rfl (AO.ops rfl rfl (opS_fieldAddr_cp (n := 1) (by kernel_rfl) rfl (Nat.le_of_ble_eq_true rfl)) ?_)
   refine gT h7 rfl rfl rfl rfl rfl rfl (AO.ops rfl rfl (opS_load_cp Tryz.underlying9 rfl rfl) ?_)
   refine gT h7 rfl rfl rfl rfl rfl rfl (AO.ops rfl rfl (opS_len_str Tryz.underlying9 rfl) ?_)
   refine gT h7 rfl rfl rfl rfl rfl rfl (AO.ops rfl rfl (opS_gt rfl rfl) ?_)
   refine sS rfl rfl rfl (opS_pick_f (av := .v _) rfl h7 rfl) ?_
   exact K _ 4 _ (B_congr (or_f h7)) rfl rfl
 refine AR.nil ?_
 show AW _ _ _ _ _ _
 refine AW.cond rfl (fun c8 => ?_) (fun c8 => ?_)
 ·replace H := cnd_t c8 H
  refine AW.seq ?_
  refine AW.region ?_
  show AR _ _ _ _ _ [0, 1] _
  refine sS rfl rfl rfl (asg rfl) ?_
  refine sS rfl rfl rfl (asg rfl) ?_
  refine AR.nil ?_
  show AW _ _ _ _ _ _
  refine AW.ret ?_
  obtain ⟨rfl, rfl⟩ := res2 H
  exact Exists.intro _ (And.intro (.nil _) (Exists.intro _ (Exists.intro _ ⟨ResV.twoW rfl (.nil _) (.refl _), Sub.at [] rfl, rfl, rfl⟩)))
 ·replace H := cnd_f c8 H
  refine AW.skip ?_
  show AW _ _ _ _ _ _
  refine AW.seq ?_
  obtain ⟨g9, H⟩ := grd_s H
  obtain ⟨x10, e11, H⟩ := lt_s H
  obtain ⟨g12, H⟩ := grd_s H
  refine AW.region ?_
  show AR _ _ _ _ _ [0, 1, 2, 3, 4, 5] _
  refine sS rfl rfl rfl (opS_fieldAddr_cp (n := 0) (by kernel_rfl) rfl (Nat.le_of_ble_eq_true rfl)) ?_
  refine sS rfl rfl rfl (opS_load_cp Tryz.underlying9 rfl rfl) ?_
  refine sS rfl rfl rfl (g_cat rfl rfl g9 e11) ?_
  refine sX rfl rfl rfl (g_conv_str_bytes (bytes := 1) Tryz.underlying9 Tryz.underlying26 Tryz.underlying5 rfl g12) ?_
  rintro _ _ ⟨t13, rfl, rfl⟩
  refine sX rfl rfl rfl (opX_alloc (zs := [.slice none 0 0]) (by kernel_rfl)) ?_
  rintro _ _ ⟨o14, rfl, rfl⟩
  refine s0 rfl rfl (opR_store_pt (i := 0) (c := slE _ _ _) (by kernel_rfl) rfl rfl rfl rfl (Nat.le_of_ble_eq_true rfl)) ?_
  refine AR.nil ?_
  show AW _ _ _ _ _ _
  refine AW.seq ?_
  refine AW.region ?_
  show AR _ _ _ _ _ [0, 1, 2, 3] _
  refine sR rfl rfl rfl (opR_load_pt (i := 0) Tryz.underlying26 rfl rfl rfl rfl) ?_
  refine sS rfl rfl rfl (opS_len_sl Tryz.underlying26 rfl) ?_
  refine sX rfl rfl rfl (opX_alloc (zs := [.int .i64 0]) (by kernel_rfl)) ?_
  rintro _ _ ⟨o15, rfl, rfl⟩
  refine s0 rfl rfl (opR_store_pt (i := 0) (c := .v _) (by kernel_rfl) rfl rfl rfl rfl (Nat.le_of_ble_eq_true rfl)) ?_
  refine AR.nil ?_
  show AW _ _ _ _ _ _
  refine AW.cut (X := Nat × (List UInt8) × Nat) (fun (t65, y66, t67) => ⟨[(4, .pt o14 0)], [.mark t65], [.obj o14 [slE Enc.byte y66 (some t67)], .tok t67 5, .db t65]⟩) (fun (t65, y66, t67) => head_Line_j1 y66 = some (r3, r4)) ?_ ?_
  ·
   refine AW.seq ?_
   obtain ⟨_, e16, H⟩ := bnd_s H
   refine AW.region ?_
   show AR _ _ _ _ _ [0, 1, 2] _
   refine sS rfl rfl rfl (opS_fieldAddr_cp (n := 1) (by kernel_rfl) rfl (Nat.le_of_ble_eq_true rfl)) ?_
   refine sS rfl rfl rfl (opS_load_cp Tryz.underlying9 rfl rfl) ?_
   refine AR.run rfl rfl (AO.callAt [] rfl en90_heada rfl (w_head_words F a2 e16) rfl (fun c A' h => by obtain ⟨_, h, _⟩ := h; cases h) ?_)
   rintro av A' ⟨o17, h, rfl⟩; cases h
   refine AR.nil ?_
   show AW _ _ _ _ _ _
   refine AW.block ?_
   obtain ⟨x60, x61, e62, H⟩ := bnd2_s H
   refine AW.rangeK (α := List UInt8) (σ := Int × (List UInt8)) (τ := Nat) (fun x => [S x]) (fun s t => [.obj o15 [i64 s.1], .obj o14 [slE Enc.byte s.2 (some t)], .tok t 5]) (fun _ => none) (fun s x => head_Line_k1 s.1 s.2 x) ((x10.length : Int), x10) t13 x60 [0] [0, 0, 0] rfl en110_heada (fun _ => rfl) (by decide) rfl rfl rfl (fun o T' hY => w_head_wordsI F T' _ o hY _ _ o17 a2 x60 x61 e62) ?_ ?_
   ·
    rintro l ⟨y18, y19⟩ t20 x22 rv H
    replace H : head_Line_k1 y18 y19 x22 = some rv := H
    unfold head_Line_k1 at H
    refine ⟨rfl, ?_⟩
    show AW _ _ _ _ _ ⟨(26, S x22) :: _, [], _⟩
    refine AW.region ?_
    show AR _ _ _ _ _ [0] _
    refine sS rfl rfl rfl (asg rfl) ?_
    refine AR.nil ?_
    show AW _ _ _ _ _ _
    refine AW.block ?_
    refine AW.cut (X := Int × (List UInt8) × Nat) (fun (y30, y31, t32) => ⟨[(4, .pt o14 0), (5, .pt o15 0), (6, S x22)], [], [.obj o15 [i64 y30], .obj o14 [slE Enc.byte y31 (some t32)], .tok t32 5]⟩) (fun (y30, y31, t32) => head_Line_j2 x22 y30 y31 = some rv) ?_ ?_
    ·
     refine AW.seq ?_
     obtain ⟨g23, H⟩ := grd_s H
     obtain ⟨g24, H⟩ := grd_s H
     refine AW.region ?_
     show AR _ _ _ _ _ [0, 1, 2, 3, 4, 5] _
     refine sR rfl rfl rfl (opR_load_pt (i := 0) Tryz.underlying3 rfl rfl rfl rfl) ?_
     refine sS rfl rfl rfl (g_add rfl rfl g23) ?_
     refine sS rfl rfl rfl (mv rfl) ?_
     refine sS rfl rfl rfl (opS_len_str Tryz.underlying9 rfl) ?_
     refine sS rfl rfl rfl (g_add rfl rfl g24) ?_
     refine sS rfl rfl rfl (opS_gt rfl rfl) ?_
     refine AR.nil ?_
     show AW _ _ _ _ _ _
     refine AW.cond rfl (fun c25 => ?_) (fun c25 => ?_)
     ·replace H := cnd_t c25 H
      obtain ⟨g27, H⟩ := grd_s H
      obtain ⟨x28, e29, H⟩ := lt_s H
      refine AW.region ?_
      show AR _ _ _ _ _ [0, 1, 2, 3] _
      refine sR rfl rfl rfl (opR_load_pt (i := 1) Tryz.underlying26 rfl rfl rfl rfl) ?_
      refine sX rfl rfl rfl (g_append_str (bytes := 1) 2 Tryz.underlying26 Tryz.underlying9 rfl (by kernel_rfl) rfl rfl rfl rfl g27 e29) ?_
      rintro _ _ ⟨t26, rfl, rfl⟩
      refine s0 rfl rfl (opR_store_pt (i := 1) (c := slE _ _ _) (by kernel_rfl) rfl rfl rfl rfl (Nat.le_of_ble_eq_true rfl)) ?_
      refine s0 rfl rfl (opR_store_pt (i := 0) (c := .v _) (by kernel_rfl) rfl rfl rfl rfl (Nat.le_of_ble_eq_true rfl)) ?_
      refine AR.nil ?_
      exact Exists.intro (0, x28, t26) ⟨H, WK.at [0, 0, 0] (.cons (.refl _) (.cons (.refl _) (.cons (.refl _) (.nil _)))) rfl⟩
     ·replace H := cnd_f c25 H
      refine AW.skip ?_
      exact Exists.intro (y18, y19, t20) ⟨H, WK.at [0, 0, 0] (.cons (.refl _) (.cons (.refl _) (.cons (.refl _) (.nil _)))) rfl⟩
    rintro ⟨y30, y31, t32⟩ H
    replace H : head_Line_j2 x22 y30 y31 = some rv := H
    unfold head_Line_j2 at H
    show AW _ _ _ _ _ _
    obtain ⟨g35, H⟩ := grd_s H
    obtain ⟨x36, e37, H⟩ := lt_s H
    obtain ⟨g39, H⟩ := grd_s H
    obtain ⟨x40, e41, H⟩ := lt_s H
    obtain ⟨g42, H⟩ := grd_s H
    obtain ⟨g43, H⟩ := grd_s H
    refine AW.region_drawR (by kernel_rfl) (by kernel_rfl) ?_
    show AI _ _ _ _ _ 12 (Array.replicate 12 false) _
    refine AI.take (i := 3) rfl rfl (by kernel_rfl) (by kernel_rfl) (by kernel_rfl) (fun _ _ h => h) (mv rfl) ?_
    show AI _ _ _ _ _ _ #[false, false, false, true, false, false, false, false, false, false, false, false] _
    refine AI.take (i := 7) rfl rfl (by kernel_rfl) (by kernel_rfl) (by kernel_rfl) (fun _ _ h => h) (mv rfl) ?_
    show AI _ _ _ _ _ _ #[false, false, false, true, false, false, false, true, false, false, false, false] _
    refine AI.take (i := 8) rfl rfl (by kernel_rfl) (by kernel_rfl) (by kernel_rfl) (fun _ _ h => h) (opS_len_str Tryz.underlying9 rfl) ?_
    show AI _ _ _ _ _ _ #[false, false, false, true, false, false, false, true, true, false, false, false] _
    refine AI.three (i := 0) (j := 1) (l := 5) (by kernel_rfl) rfl rfl rfl rfl rfl rfl ?_ ?_ ?_
    ·
     refine AIO.op rfl (opR_load_pt (i := 1) Tryz.underlying26 rfl rfl rfl rfl) ?_
     show AI _ _ _ _ _ _ #[true, false, false, true, false, false, false, true, true, false, false, false] _
     refine AI.two (i := 1) (j := 5) (by kernel_rfl) rfl rfl rfl rfl ?_ ?_
     ·
      refine AIO.op rfl (opR_buildE (E := Enc.byte) (bytes := 1) (xs := [.const _]) (l := ([32] : List UInt8)) Tryz.underlying26 (by kernel_rfl) rfl rfl (by decide) rfl rfl) ?_
      show AI _ _ _ _ _ _ #[true, true, false, true, false, false, false, true, true, false, false, false] _
      refine AI.two (i := 2) (j := 5) (by kernel_rfl) rfl rfl rfl rfl ?_ ?_
      ·
       refine AIO.opx rfl (g_append (E := Enc.byte) (bytes := 1) 2 Tryz.underlying26 Tryz.underlying26 rfl (by kernel_rfl) rfl rfl rfl rfl g35 e37) ?_
       rintro _ _ ⟨t34, rfl, rfl⟩
       show AI _ _ _ _ _ _ #[true, true, true, true, false, false, false, true, true, false, false, false] _
       refine AI.two (i := 4) (j := 5) (by kernel_rfl) rfl rfl rfl rfl ?_ ?_
       ·
        refine AIO.opx rfl (g_append_str (bytes := 1) 2 Tryz.underlying26 Tryz.underlying9 rfl (by kernel_rfl) rfl rfl rfl rfl g39 e41) ?_
        rintro _ _ ⟨t38, rfl, rfl⟩
        show AI _ _ _ _ _ _ #[true, true, true, true, true, false, false, true, true, false, false, false] _
        refine AI.two (i := 5) (j := 10) (by kernel_rfl) rfl rfl rfl rfl ?_ ?_
        ·
         refine AIO.op rfl (opR_load_pt (i := 0) Tryz.underlying3 rfl rfl rfl rfl) ?_
         show AI _ _ _ _ _ _ #[true, true, true, true, true, true, false, true, true, false, false, false] _
         refine AI.take (i := 6) rfl rfl (by kernel_rfl) (by kernel_rfl) (by kernel_rfl) (fun _ _ h => h) (g_add rfl rfl g42) ?_
         show AI _ _ _ _ _ _ #[true, true, true, true, true, true, true, true, true, false, false, false] _
         refine AI.take (i := 9) rfl rfl (by kernel_rfl) (by kernel_rfl) (by kernel_rfl) (fun _ _ h => h) (g_add rfl rfl g43) ?_
         show AI _ _ _ _ _ _ #[true, true, true, true, true, true, true, true, true, true, false, false] _
         refine AI.one (i := 10) (by kernel_rfl) rfl rfl ?_
         refine AIO.op0 (opR_store_pt (i := 1) (c := slE _ _ _) (by kernel_rfl) rfl rfl rfl rfl (Nat.le_of_ble_eq_true rfl)) ?_
         show AI _ _ _ _ _ _ #[true, true, true, true, true, true, true, true, true, true, true, false] _
         refine AI.one (i := 11) (by kernel_rfl) rfl rfl ?_
         refine AIO.op0 (opR_store_pt (i := 0) (c := .v _) (by kernel_rfl) rfl rfl rfl rfl (Nat.le_of_ble_eq_true rfl)) ?_
         show AI _ _ _ _ _ _ #[true, true, true, true, true, true, true, true, true, true, true, true] _
         refine AI.done rfl ?_
         obtain rfl := Option.some.inj H
         exact ⟨rfl, rfl, t38, Sub.at [0, 0, 0] rfl⟩
        ·
         refine AIO.op0 (opR_store_pt (i := 1) (c := slE _ _ _) (by kernel_rfl) rfl rfl rfl rfl (Nat.le_of_ble_eq_true rfl)) ?_
         show AI _ _ _ _ _ _ #[true, true, true, true, true, false, false, true, true, false, true, false] _
         refine AI.one (i := 5) (by kernel_rfl) rfl rfl ?_
         refine AIO.op rfl (opR_load_pt (i := 0) Tryz.underlying3 rfl rfl rfl rfl) ?_
         show AI _ _ _ _ _ _ #[true, true, true, true, true, true, false, true, true, false, true, false] _
         refine AI.take (i := 6) rfl rfl (by kernel_rfl) (by kernel_rfl) (by kernel_rfl) (fun _ _ h => h) (g_add rfl rfl g42) ?_
         show AI _ _ _ _ _ _ #[true, true, true, true, true, true, true, true, true, false, true, false] _
         refine AI.take (i := 9) rfl rfl (by kernel_rfl) (by kernel_rfl) (by kernel_rfl) (fun _ _ h => h) (g_add rfl rfl g43) ?_
         show AI _ _ _ _ _ _ #[true, true, true, true, true, true, true, true, true, true, true, false] _
         refine AI.one (i := 11) (by kernel_rfl) rfl rfl ?_
         refine AIO.op0 (opR_store_pt (i := 0) (c := .v _) (by kernel_rfl) rfl rfl rfl rfl (Nat.le_of_ble_eq_true rfl)) ?_
         show AI _ _ _ _ _ _ #[true, true, true, true, true, true, true, true, true, true, true, true] _
         refine AI.done rfl ?_
         obtain rfl := Option.some.inj H
         exact ⟨rfl, rfl, t38, Sub.at [0, 0, 0] rfl⟩
       ·
        refine AIO.op rfl (opR_load_pt (i := 0) Tryz.underlying3 rfl rfl rfl rfl) ?_
        show AI _ _ _ _ _ _ #[true, true, true, true, false, true, false, true, true, false, false, false] _
        refine AI.take (i := 6) rfl rfl (by kernel_rfl) (by kernel_rfl) (by kernel_rfl) (fun _ _ h => h) (g_add rfl rfl g42) ?_
        show AI _ _ _ _ _ _ #[true, true, true, true, false, true, true, true, true, false, false, false] _
        refine AI.take (i := 9) rfl rfl (by kernel_rfl) (by kernel_rfl) (by kernel_rfl) (fun _ _ h => h) (g_add rfl rfl g43) ?_
        show AI _ _ _ _ _ _ #[true, true, true, true, false, true, true, true, true, true, false, false] _
        refine AI.one (i := 4) (by kernel_rfl) rfl rfl ?_
        refine AIO.opx rfl (g_append_str (bytes := 1) 2 Tryz.underlying26 Tryz.underlying9 rfl (by kernel_rfl) rfl rfl rfl rfl g39 e41) ?_
        rintro _ _ ⟨t44, rfl, rfl⟩
        show AI _ _ _ _ _ _ #[true, true, true, true, true, true, true, true, true, true, false, false] _
        refine AI.one (i := 10) (by kernel_rfl) rfl rfl ?_
        refine AIO.op0 (opR_store_pt (i := 1) (c := slE _ _ _) (by kernel_rfl) rfl rfl rfl rfl (Nat.le_of_ble_eq_true rfl)) ?_
        show AI _ _ _ _ _ _ #[true, true, true, true, true, true, true, true, true, true, true, false] _
        refine AI.one (i := 11) (by kernel_rfl) rfl rfl ?_
        refine AIO.op0 (opR_store_pt (i := 0) (c := .v _) (by kernel_rfl) rfl rfl rfl rfl (Nat.le_of_ble_eq_true rfl)) ?_
        show AI _ _ _ _ _ _ #[true, true, true, true, true, true, true, true, true, true, true, true] _
        refine AI.done rfl ?_
        obtain rfl := Option.some.inj H
        exact ⟨rfl, rfl, t44, Sub.at [0, 0, 0] rfl⟩
      ·
       refine AIO.op rfl (opR_load_pt (i := 0) Tryz.underlying3 rfl rfl rfl rfl) ?_
       show AI _ _ _ _ _ _ #[true, true, false, true, false, true, false, true, true, false, false, false] _
       refine AI.take (i := 6) rfl rfl (by kernel_rfl) (by kernel_rfl) (by kernel_rfl) (fun _ _ h => h) (g_add rfl rfl g42) ?_
       show AI _ _ _ _ _ _ #[true, true, false, true, false, true, true, true, true, false, false, false] _
       refine AI.take (i := 9) rfl rfl (by kernel_rfl) (by kernel_rfl) (by kernel_rfl) (fun _ _ h => h) (g_add rfl rfl g43) ?_
       show AI _ _ _ _ _ _ #[true, true, false, true, false, true, true, true, true, true, false, false] _
       refine AI.one (i := 2) (by kernel_rfl) rfl rfl ?_
       refine AIO.opx rfl (g_append (E := Enc.byte) (bytes := 1) 2 Tryz.underlying26 Tryz.underlying26 rfl (by kernel_rfl) rfl rfl rfl rfl g35 e37) ?_
       rintro _ _ ⟨t45, rfl, rfl⟩
       show AI _ _ _ _ _ _ #[true, true, true, true, false, true, true, true, true, true, false, false] _
       refine AI.one (i := 4) (by kernel_rfl) rfl rfl ?_
       refine AIO.opx rfl (g_append_str (bytes := 1) 2 Tryz.underlying26 Tryz.underlying9 rfl (by kernel_rfl) rfl rfl rfl rfl g39 e41) ?_
       rintro _ _ ⟨t46, rfl, rfl⟩
       show AI _ _ _ _ _ _ #[true, true, true, true, true, true, true, true, true, true, false, false] _
       refine AI.one (i := 10) (by kernel_rfl) rfl rfl ?_
       refine AIO.op0 (opR_store_pt (i := 1) (c := slE _ _ _) (by kernel_rfl) rfl rfl rfl rfl (Nat.le_of_ble_eq_true rfl)) ?_
       show AI _ _ _ _ _ _ #[true, true, true, true, true, true, true, true, true, true, true, false] _
       refine AI.one (i := 11) (by kernel_rfl) rfl rfl ?_
       refine AIO.op0 (opR_store_pt (i := 0) (c := .v _) (by kernel_rfl) rfl rfl rfl rfl (Nat.le_of_ble_eq_true rfl)) ?_
       show AI _ _ _ _ _ _ #[true, true, true, true, true, true, true, true, true, true, true, true] _
       refine AI.done rfl ?_
       obtain rfl := Option.some.inj H
       exact ⟨rfl, rfl, t46, Sub.at [0, 0, 0] rfl⟩
     ·
      refine AIO.op rfl (opR_load_pt (i := 0) Tryz.underlying3 rfl rfl rfl rfl) ?_
      show AI _ _ _ _ _ _ #[true, false, false, true, false, true, false, true, true, false, false, false] _
      refine AI.take (i := 6) rfl rfl (by kernel_rfl) (by kernel_rfl) (by kernel_rfl) (fun _ _ h => h) (g_add rfl rfl g42) ?_
      show AI _ _ _ _ _ _ #[true, false, false, true, false, true, true, true, true, false, false, false] _
      refine AI.take (i := 9) rfl rfl (by kernel_rfl) (by kernel_rfl) (by kernel_rfl) (fun _ _ h => h) (g_add rfl rfl g43) ?_
      show AI _ _ _ _ _ _ #[true, false, false, true, false, true, true, true, true, true, false, false] _
      refine AI.one (i := 1) (by kernel_rfl) rfl rfl ?_
      refine AIO.op rfl (opR_buildE (E := Enc.byte) (bytes := 1) (xs := [.const _]) (l := ([32] : List UInt8)) Tryz.underlying26 (by kernel_rfl) rfl rfl (by decide) rfl rfl) ?_
      show AI _ _ _ _ _ _ #[true, true, false, true, false, true, true, true, true, true, false, false] _
      refine AI.one (i := 2) (by kernel_rfl) rfl rfl ?_
      refine AIO.opx rfl (g_append (E := Enc.byte) (bytes := 1) 2 Tryz.underlying26 Tryz.underlying26 rfl (by kernel_rfl) rfl rfl rfl rfl g35 e37) ?_
      rintro _ _ ⟨t47, rfl, rfl⟩
      show AI _ _ _ _ _ _ #[true, true, true, true, false, true, true, true, true, true, false, false] _
      refine AI.one (i := 4) (by kernel_rfl) rfl rfl ?_
      refine AIO.opx rfl (g_append_str (bytes := 1) 2 Tryz.underlying26 Tryz.underlying9 rfl (by kernel_rfl) rfl rfl rfl rfl g39 e41) ?_
      rintro _ _ ⟨t48, rfl, rfl⟩
      show AI _ _ _ _ _ _ #[true, true, true, true, true, true, true, true, true, true, false, false] _
      refine AI.one (i := 10) (by kernel_rfl) rfl rfl ?_
      refine AIO.op0 (opR_store_pt (i := 1) (c := slE _ _ _) (by kernel_rfl) rfl rfl rfl rfl (Nat.le_of_ble_eq_true rfl)) ?_
      show AI _ _ _ _ _ _ #[true, true, true, true, true, true, true, true, true, true, true, false] _
      refine AI.one (i := 11) (by kernel_rfl) rfl rfl ?_
      refine AIO.op0 (opR_store_pt (i := 0) (c := .v _) (by kernel_rfl) rfl rfl rfl rfl (Nat.le_of_ble_eq_true rfl)) ?_
      show AI _ _ _ _ _ _ #[true, true, true, true, true, true, true, true, true, true, true, true] _
      refine AI.done rfl ?_
      obtain rfl := Option.some.inj H
      exact ⟨rfl, rfl, t48, Sub.at [0, 0, 0] rfl⟩
    ·
     refine AIO.op rfl (opR_buildE (E := Enc.byte) (bytes := 1) (xs := [.const _]) (l := ([32] : List UInt8)) Tryz.underlying26 (by kernel_rfl) rfl rfl (by decide) rfl rfl) ?_
     show AI _ _ _ _ _ _ #[false, true, false, true, false, false, false, true, true, false, false, false] _
     refine AI.two (i := 0) (j := 5) (by kernel_rfl) rfl rfl rfl rfl ?_ ?_
     ·
      refine AIO.op rfl (opR_load_pt (i := 1) Tryz.underlying26 rfl rfl rfl rfl) ?_
      show AI _ _ _ _ _ _ #[true, true, false, true, false, false, false, true, true, false, false, false] _
      refine AI.two (i := 2) (j := 5) (by kernel_rfl) rfl rfl rfl rfl ?_ ?_
      ·
       refine AIO.opx rfl (g_append (E := Enc.byte) (bytes := 1) 2 Tryz.underlying26 Tryz.underlying26 rfl (by kernel_rfl) rfl rfl rfl rfl g35 e37) ?_
       rintro _ _ ⟨t49, rfl, rfl⟩
       show AI _ _ _ _ _ _ #[true, true, true, true, false, false, false, true, true, false, false, false] _
       refine AI.two (i := 4) (j := 5) (by kernel_rfl) rfl rfl rfl rfl ?_ ?_
       ·
        refine AIO.opx rfl (g_append_str (bytes := 1) 2 Tryz.underlying26 Tryz.underlying9 rfl (by kernel_rfl) rfl rfl rfl rfl g39 e41) ?_
        rintro _ _ ⟨t50, rfl, rfl⟩
        show AI _ _ _ _ _ _ #[true, true, true, true, true, false, false, true, true, false, false, false] _
        refine AI.two (i := 5) (j := 10) (by kernel_rfl) rfl rfl rfl rfl ?_ ?_
        ·
         refine AIO.op rfl (opR_load_pt (i := 0) Tryz.underlying3 rfl rfl rfl rfl) ?_
         show AI _ _ _ _ _ _ #[true, true, true, true, true, true, false, true, true, false, false, false] _
         refine AI.take (i := 6) rfl rfl (by kernel_rfl) (by kernel_rfl) (by kernel_rfl) (fun _ _ h => h) (g_add rfl rfl g42) ?_
         show AI _ _ _ _ _ _ #[true, true, true, true, true, true, true, true, true, false, false, false] _
         refine AI.take (i := 9) rfl rfl (by kernel_rfl) (by kernel_rfl) (by kernel_rfl) (fun _ _ h => h) (g_add rfl rfl g43) ?_
         show AI _ _ _ _ _ _ #[true, true, true, true, true, true, true, true, true, true, false, false] _
         refine AI.one (i := 10) (by kernel_rfl) rfl rfl ?_
         refine AIO.op0 (opR_store_pt (i := 1) (c := slE _ _ _) (by kernel_rfl) rfl rfl rfl rfl (Nat.le_of_ble_eq_true rfl)) ?_
         show AI _ _ _ _ _ _ #[true, true, true, true, true, true, true, true, true, true, true, false] _
         refine AI.one (i := 11) (by kernel_rfl) rfl rfl ?_
         refine AIO.op0 (opR_store_pt (i := 0) (c := .v _) (by kernel_rfl) rfl rfl rfl rfl (Nat.le_of_ble_eq_true rfl)) ?_
         show AI _ _ _ _ _ _ #[true, true, true, true, true, true, true, true, true, true, true, true] _
         refine AI.done rfl ?_
         obtain rfl := Option.some.inj H
         exact ⟨rfl, rfl, t50, Sub.at [0, 0, 0] rfl⟩
        ·
         refine AIO.op0 (opR_store_pt (i := 1) (c := slE _ _ _) (by kernel_rfl) rfl rfl rfl rfl (Nat.le_of_ble_eq_true rfl)) ?_
         show AI _ _ _ _ _ _ #[true, true, true, true, true, false, false, true, true, false, true, false] _
         refine AI.one (i := 5) (by kernel_rfl) rfl rfl ?_
         refine AIO.op rfl (opR_load_pt (i := 0) Tryz.underlying3 rfl rfl rfl rfl) ?_
         show AI _ _ _ _ _ _ #[true, true, true, true, true, true, false, true, true, false, true, false] _
         refine AI.take (i := 6) rfl rfl (by kernel_rfl) (by kernel_rfl) (by kernel_rfl) (fun _ _ h => h) (g_add rfl rfl g42) ?_
         show AI _ _ _ _ _ _ #[true, true, true, true, true, true, true, true, true, false, true, false] _
         refine AI.take (i := 9) rfl rfl (by kernel_rfl) (by kernel_rfl) (by kernel_rfl) (fun _ _ h => h) (g_add rfl rfl g43) ?_
         show AI _ _ _ _ _ _ #[true, true, true, true, true, true, true, true, true, true, true, false] _
         refine AI.one (i := 11) (by kernel_rfl) rfl rfl ?_
         refine AIO.op0 (opR_store_pt (i := 0) (c := .v _) (by kernel_rfl) rfl rfl rfl rfl (Nat.le_of_ble_eq_true rfl)) ?_
         show AI _ _ _ _ _ _ #[true, true, true, true, true, true, true, true, true, true, true, true] _
         refine AI.done rfl ?_
         obtain rfl := Option.some.inj H
         exact ⟨rfl, rfl, t50, Sub.at [0, 0, 0] rfl⟩
       ·
        refine AIO.op rfl (opR_load_pt (i := 0) Tryz.underlying3 rfl rfl rfl rfl) ?_
        show AI _ _ _ _ _ _ #[true, true, true, true, false, true, false, true, true, false, false, false] _
        refine AI.take (i := 6) rfl rfl (by kernel_rfl) (by kernel_rfl) (by kernel_rfl) (fun _ _ h => h) (g_add rfl rfl g42) ?_
        show AI _ _ _ _ _ _ #[true, true, true, true, false, true, true, true, true, false, false, false] _
        refine AI.take (i := 9) rfl rfl (by kernel_rfl) (by kernel_rfl) (by kernel_rfl) (fun _ _ h => h) (g_add rfl rfl g43) ?_
        show AI _ _ _ _ _ _ #[true, true, true, true, false, true, true, true, true, true, false, false] _
        refine AI.one (i := 4) (by kernel_rfl) rfl rfl ?_
        refine AIO.opx rfl (g_append_str (bytes := 1) 2 Tryz.underlying26 Tryz.underlying9 rfl (by kernel_rfl) rfl rfl rfl rfl g39 e41) ?_
        rintro _ _ ⟨t51, rfl, rfl⟩
        show AI _ _ _ _ _ _ #[true, true, true, true, true, true, true, true, true, true, false, false] _
        refine AI.one (i := 10) (by kernel_rfl) rfl rfl ?_
        refine AIO.op0 (opR_store_pt (i := 1) (c := slE _ _ _) (by kernel_rfl) rfl rfl rfl rfl (Nat.le_of_ble_eq_true rfl)) ?_
        show AI _ _ _ _ _ _ #[true, true, true, true, true, true, true, true, true, true, true, false] _
        refine AI.one (i := 11) (by kernel_rfl) rfl rfl ?_
        refine AIO.op0 (opR_store_pt (i := 0) (c := .v _) (by kernel_rfl) rfl rfl rfl rfl (Nat.le_of_ble_eq_true rfl)) ?_
        show AI _ _ _ _ _ _ #[true, true, true, true, true, true, true, true, true, true, true, true] _
        refine AI.done rfl ?_
        obtain rfl := Option.some.inj H
        exact ⟨rfl, rfl, t51, Sub.at [0, 0, 0] rfl⟩
      ·
       refine AIO.op rfl (opR_load_pt (i := 0) Tryz.underlying3 rfl rfl rfl rfl) ?_
       show AI _ _ _ _ _ _ #[true, true, false, true, false, true, false, true, true, false, false, false] _
       refine AI.take (i := 6) rfl rfl (by kernel_rfl) (by kernel_rfl) (by kernel_rfl) (fun _ _ h => h) (g_add rfl rfl g42) ?_
       show AI _ _ _ _ _ _ #[true, true, false, true, false, true, true, true, true, false, false, false] _
       refine AI.take (i := 9) rfl rfl (by kernel_rfl) (by kernel_rfl) (by kernel_rfl) (fun _ _ h => h) (g_add rfl rfl g43) ?_
       show AI _ _ _ _ _ _ #[true, true, false, true, false, true, true, true, true, true, false, false] _
       refine AI.one (i := 2) (by kernel_rfl) rfl rfl ?_
       refine AIO.opx rfl (g_append (E := Enc.byte) (bytes := 1) 2 Tryz.underlying26 Tryz.underlying26 rfl (by kernel_rfl) rfl rfl rfl rfl g35 e37) ?_
       rintro _ _ ⟨t52, rfl, rfl⟩
       show AI _ _ _ _ _ _ #[true, true, true, true, false, true, true, true, true, true, false, false] _
       refine AI.one (i := 4) (by kernel_rfl) rfl rfl ?_
       refine AIO.opx rfl (g_append_str (bytes := 1) 2 Tryz.underlying26 Tryz.underlying9 rfl (by kernel_rfl) rfl rfl rfl rfl g39 e41) ?_
       rintro _ _ ⟨t53, rfl, rfl⟩
       show AI _ _ _ _ _ _ #[true, true, true, true, true, true, true, true, true, true, false, false] _
       refine AI.one (i := 10) (by kernel_rfl) rfl rfl ?_
       refine AIO.op0 (opR_store_pt (i := 1) (c := slE _ _ _) (by kernel_rfl) rfl rfl rfl rfl (Nat.le_of_ble_eq_true rfl)) ?_
       show AI _ _ _ _ _ _ #[true, true, true, true, true, true, true, true, true, true, true, false] _
       refine AI.one (i := 11) (by kernel_rfl) rfl rfl ?_
       refine AIO.op0 (opR_store_pt (i := 0) (c := .v _) (by kernel_rfl) rfl rfl rfl rfl (Nat.le_of_ble_eq_true rfl)) ?_
       show AI _ _ _ _ _ _ #[true, true, true, true, true, true, true, true, true, true, true, true] _
       refine AI.done rfl ?_
       obtain rfl := Option.some.inj H
       exact ⟨rfl, rfl, t53, Sub.at [0, 0, 0] rfl⟩
     ·
      refine AIO.op rfl (opR_load_pt (i := 0) Tryz.underlying3 rfl rfl rfl rfl) ?_
      show AI _ _ _ _ _ _ #[false, true, false, true, false, true, false, true, true, false, false, false] _
      refine AI.take (i := 6) rfl rfl (by kernel_rfl) (by kernel_rfl) (by kernel_rfl) (fun _ _ h => h) (g_add rfl rfl g42) ?_
      show AI _ _ _ _ _ _ #[false, true, false, true, false, true, true, true, true, false, false, false] _
      refine AI.take (i := 9) rfl rfl (by kernel_rfl) (by kernel_rfl) (by kernel_rfl) (fun _ _ h => h) (g_add rfl rfl g43) ?_
      show AI _ _ _ _ _ _ #[false, true, false, true, false, true, true, true, true, true, false, false] _
      refine AI.one (i := 0) (by kernel_rfl) rfl rfl ?_
      refine AIO.op rfl (opR_load_pt (i := 1) Tryz.underlying26 rfl rfl rfl rfl) ?_
      show AI _ _ _ _ _ _ #[true, true, false, true, false, true, true, true, true, true, false, false] _
      refine AI.one (i := 2) (by kernel_rfl) rfl rfl ?_
      refine AIO.opx rfl (g_append (E := Enc.byte) (bytes := 1) 2 Tryz.underlying26 Tryz.underlying26 rfl (by kernel_rfl) rfl rfl rfl rfl g35 e37) ?_
      rintro _ _ ⟨t54, rfl, rfl⟩
      show AI _ _ _ _ _ _ #[true, true, true, true, false, true, true, true, true, true, false, false] _
      refine AI.one (i := 4) (by kernel_rfl) rfl rfl ?_
      refine AIO.opx rfl (g_append_str (bytes := 1) 2 Tryz.underlying26 Tryz.underlying9 rfl (by kernel_rfl) rfl rfl rfl rfl g39 e41) ?_
      rintro _ _ ⟨t55, rfl, rfl⟩
      show AI _ _ _ _ _ _ #[true, true, true, true, true, true, true, true, true, true, false, false] _
      refine AI.one (i := 10) (by kernel_rfl) rfl rfl ?_
      refine AIO.op0 (opR_store_pt (i := 1) (c := slE _ _ _) (by kernel_rfl) rfl rfl rfl rfl (Nat.le_of_ble_eq_true rfl)) ?_
      show AI _ _ _ _ _ _ #[true, true, true, true, true, true, true, true, true, true, true, false] _
      refine AI.one (i := 11) (by kernel_rfl) rfl rfl ?_
      refine AIO.op0 (opR_store_pt (i := 0) (c := .v _) (by kernel_rfl) rfl rfl rfl rfl (Nat.le_of_ble_eq_true rfl)) ?_
      show AI _ _ _ _ _ _ #[true, true, true, true, true, true, true, true, true, true, true, true] _
      refine AI.done rfl ?_
      obtain rfl := Option.some.inj H
      exact ⟨rfl, rfl, t55, Sub.at [0, 0, 0] rfl⟩
    ·
     refine AIO.op rfl (opR_load_pt (i := 0) Tryz.underlying3 rfl rfl rfl rfl) ?_
     show AI _ _ _ _ _ _ #[false, false, false, true, false, true, false, true, true, false, false, false] _
     refine AI.take (i := 6) rfl rfl (by kernel_rfl) (by kernel_rfl) (by kernel_rfl) (fun _ _ h => h) (g_add rfl rfl g42) ?_
     show AI _ _ _ _ _ _ #[false, false, false, true, false, true, true, true, true, false, false, false] _
     refine AI.take (i := 9) rfl rfl (by kernel_rfl) (by kernel_rfl) (by kernel_rfl) (fun _ _ h => h) (g_add rfl rfl g43) ?_
     show AI _ _ _ _ _ _ #[false, false, false, true, false, true, true, true, true, true, false, false] _
     refine AI.two (i := 0) (j := 1) (by kernel_rfl) rfl rfl rfl rfl ?_ ?_
     ·
      refine AIO.op rfl (opR_load_pt (i := 1) Tryz.underlying26 rfl rfl rfl rfl) ?_
      show AI _ _ _ _ _ _ #[true, false, false, true, false, true, true, true, true, true, false, false] _
      refine AI.one (i := 1) (by kernel_rfl) rfl rfl ?_
      refine AIO.op rfl (opR_buildE (E := Enc.byte) (bytes := 1) (xs := [.const _]) (l := ([32] : List UInt8)) Tryz.underlying26 (by kernel_rfl) rfl rfl (by decide) rfl rfl) ?_
      show AI _ _ _ _ _ _ #[true, true, false, true, false, true, true, true, true, true, false, false] _
      refine AI.one (i := 2) (by kernel_rfl) rfl rfl ?_
      refine AIO.opx rfl (g_append (E := Enc.byte) (bytes := 1) 2 Tryz.underlying26 Tryz.underlying26 rfl (by kernel_rfl) rfl rfl rfl rfl g35 e37) ?_
      rintro _ _ ⟨t56, rfl, rfl⟩
      show AI _ _ _ _ _ _ #[true, true, true, true, false, true, true, true, true, true, false, false] _
      refine AI.one (i := 4) (by kernel_rfl) rfl rfl ?_
      refine AIO.opx rfl (g_append_str (bytes := 1) 2 Tryz.underlying26 Tryz.underlying9 rfl (by kernel_rfl) rfl rfl rfl rfl g39 e41) ?_
      rintro _ _ ⟨t57, rfl, rfl⟩
      show AI _ _ _ _ _ _ #[true, true, true, true, true, true, true, true, true, true, false, false] _
      refine AI.one (i := 10) (by kernel_rfl) rfl rfl ?_
      refine AIO.op0 (opR_store_pt (i := 1) (c := slE _ _ _) (by kernel_rfl) rfl rfl rfl rfl (Nat.le_of_ble_eq_true rfl)) ?_
      show AI _ _ _ _ _ _ #[true, true, true, true, true, true, true, true, true, true, true, false] _
      refine AI.one (i := 11) (by kernel_rfl) rfl rfl ?_
      refine AIO.op0 (opR_store_pt (i := 0) (c := .v _) (by kernel_rfl) rfl rfl rfl rfl (Nat.le_of_ble_eq_true rfl)) ?_
      show AI _ _ _ _ _ _ #[true, true, true, true, true, true, true, true, true, true, true, true] _
      refine AI.done rfl ?_
      obtain rfl := Option.some.inj H
      exact ⟨rfl, rfl, t57, Sub.at [0, 0, 0] rfl⟩
     ·
      refine AIO.op rfl (opR_buildE (E := Enc.byte) (bytes := 1) (xs := [.const _]) (l := ([32] : List UInt8)) Tryz.underlying26 (by kernel_rfl) rfl rfl (by decide) rfl rfl) ?_
      show AI _ _ _ _ _ _ #[false, true, false, true, false, true, true, true, true, true, false, false] _
      refine AI.one (i := 0) (by kernel_rfl) rfl rfl ?_
      refine AIO.op rfl (opR_load_pt (i := 1) Tryz.underlying26 rfl rfl rfl rfl) ?_
      show AI _ _ _ _ _ _ #[true, true, false, true, false, true, true, true, true, true, false, false] _
      refine AI.one (i := 2) (by kernel_rfl) rfl rfl ?_
      refine AIO.opx rfl (g_append (E := Enc.byte) (bytes := 1) 2 Tryz.underlying26 Tryz.underlying26 rfl (by kernel_rfl) rfl rfl rfl rfl g35 e37) ?_
      rintro _ _ ⟨t58, rfl, rfl⟩
      show AI _ _ _ _ _ _ #[true, true, true, true, false, true, true, true, true, true, false, false] _
      refine AI.one (i := 4) (by kernel_rfl) rfl rfl ?_
      refine AIO.opx rfl (g_append_str (bytes := 1) 2 Tryz.underlying26 Tryz.underlying9 rfl (by kernel_rfl) rfl rfl rfl rfl g39 e41) ?_
      rintro _ _ ⟨t59, rfl, rfl⟩
      show AI _ _ _ _ _ _ #[true, true, true, true, true, true, true, true, true, true, false, false] _
      refine AI.one (i := 10) (by kernel_rfl) rfl rfl ?_
      refine AIO.op0 (opR_store_pt (i := 1) (c := slE _ _ _) (by kernel_rfl) rfl rfl rfl rfl (Nat.le_of_ble_eq_true rfl)) ?_
      show AI _ _ _ _ _ _ #[true, true, true, true, true, true, true, true, true, true, true, false] _
      refine AI.one (i := 11) (by kernel_rfl) rfl rfl ?_
      refine AIO.op0 (opR_store_pt (i := 0) (c := .v _) (by kernel_rfl) rfl rfl rfl rfl (Nat.le_of_ble_eq_true rfl)) ?_
      show AI _ _ _ _ _ _ #[true, true, true, true, true, true, true, true, true, true, true, true] _
      refine AI.done rfl ?_
      obtain rfl := Option.some.inj H
      exact ⟨rfl, rfl, t59, Sub.at [0, 0, 0] rfl⟩
   rintro o64 t63
   exact Exists.intro (o64, x60.2, t63) ⟨H, WK.at [3, 3, 0] (.cons (.refl _) (.nil _)) rfl⟩
  rintro ⟨t65, y66, t67⟩ H
  replace H : head_Line_j1 y66 = some (r3, r4) := H
  unfold head_Line_j1 at H
  show AW _ _ _ _ _ _
  refine AW.seq ?_
  obtain ⟨g70, H⟩ := grd_s H
  obtain ⟨x71, e72, H⟩ := lt_s H
  refine AW.region ?_
  show AR _ _ _ _ _ [0, 1, 2, 3] _
  refine sR rfl rfl rfl (opR_load_pt (i := 0) Tryz.underlying26 rfl rfl rfl rfl) ?_
  refine sX rfl rfl rfl (g_append_str (bytes := 1) 1 Tryz.underlying26 Tryz.underlying9 rfl (by kernel_rfl) rfl rfl rfl rfl g70 e72) ?_
  rintro _ _ ⟨t69, rfl, rfl⟩
  refine sS rfl rfl rfl (opS_assign (av := slE _ _ _) rfl) ?_
  refine sS rfl rfl rfl (asg rfl) ?_
  refine AR.nil ?_
  show AW _ _ _ _ _ _
  refine AW.ret ?_
  obtain ⟨rfl, rfl⟩ := res2 H
  exact Exists.intro _ (And.intro (Unmark.at 2 rfl (.nil _)) (Exists.intro _ (Exists.intro _ ⟨ResV.twoW rfl (.tok _ _ _) (.refl _), Sub.at [] rfl, rfl, rfl⟩)))
end Go.Proofs.YtdaafnaokdigbaaGreatDoor
namespace Go.Pv
def spB (x : Nat) : Bool := (decide ((x : Int) = 32) || decide ((x : Int) = 13)) || decide ((x : Int) = 10)
def head_spC (F : Nat) (a1 : Int) : Option Bool :=
some (((decide (a1 = 32)) || (decide (a1 = 13))) || (decide (a1 = 10)))
def head_coded (F : Nat) (a1 : List UInt8) : Option ((List UInt8) × Bool) :=
lt (Go.Lib.trimPrefix a1 ([61, 63, 117, 116, 102, 45, 56, 63, 66, 63] : List UInt8), Go.Lib.hasPrefix a1 ([61, 63, 117, 116, 102, 45, 56, 63, 66, 63] : List UInt8)) fun x4 =>
bif !x4.2 then
  some (([] : List UInt8), false)
else
  grd (okS x4.1.length) <|
  lt (Go.Lib.trimSuffix x4.1 ([63, 61] : List UInt8), Go.Lib.hasSuffix x4.1 ([63, 61] : List UInt8)) fun x8 =>
  bnd2 (b64_Bytes F x8.1) fun x10 x11 =>
  some (x10, x8.2 && (decide (x11 = 0)))
def head_value_j1 (y29 : List UInt8) : Option ((List UInt8)) :=
grd (okW y29 []) <|
some y29
def head_value_B1 (F : Nat) (a1 : List (List UInt8)) (rec10 : (Int × (List UInt8)) → Option ((List UInt8))) (y6 : Int) (y8 : List UInt8) : Option ((List UInt8)) :=
bif decide (y6 < (a1.length : Int)) then
  grd (okAt y6 a1.length) <|
  lt (at_ a1 y6) fun x14 =>
  bnd2 (head_coded F x14) fun x16 x17 =>
  bif !x17 then
    grd (okJoin a1 ([32] : List UInt8)) <|
    lt (Go.Av.Str.join ([32] : List UInt8) a1) fun x21 =>
    some x21
  else
    grd (okW y8 x16) <|
    lt (y8 ++ x16) fun x24 =>
    grd (okI (y6 + 1)) <|
    rec10 (y6 + 1, x24)
else
  head_value_j1 y8
def head_value_L1 (F : Nat) (a1 : List (List UInt8)) (n : Nat) : (Int × (List UInt8)) → Option ((List UInt8)) :=
  loop (fun rec x => head_value_B1 F a1 rec x.1 x.2) n
def head_value (F : Nat) (a1 : List (List UInt8)) : Option ((List UInt8)) :=
head_value_L1 F a1 F (0, [])
def head_Read (F : Nat) (a1 : List UInt8) : Option ((List UInt8) × (List UInt8) × Int) :=
grd (okS a1.length) <|
lt (Go.Lib.cut a1 ([58] : List UInt8)) fun x8 =>
grd (okS x8.2.1.length) <|
lt (fieldsP spB x8.2.1) fun x11 =>
bnd (head_value F x11) fun x13 =>
bnd2 (head_Line F x8.1 x13) fun x16 x17 =>
lt (decide (x16 = a1)) fun x21 =>
bif ((!x8.2.2) || (!decide (x17 = 0))) || (!x21) then
  some (([] : List UInt8), ([] : List UInt8), 2)
else
  some (x8.1, x13, 0)
def head_eachR_j1 (y26 : List ((List UInt8) × List UInt8)) : Option ((List ((List UInt8) × List UInt8)) × Int) :=
some (y26, 0)
def head_eachR_B1 (F : Nat) (a1 : List (List UInt8)) (rec9 : ((List ((List UInt8) × List UInt8)) × Int) → Option ((List ((List UInt8) × List UInt8)) × Int)) (y6 : List ((List UInt8) × List UInt8)) (y8 : Int) : Option ((List ((List UInt8) × List UInt8)) × Int) :=
bif decide (y8 < (a1.length : Int)) then
  grd (okAt y8 a1.length) <|
  lt (at_ a1 y8) fun x13 =>
  bnd3 (head_Read F x13) fun x15 x16 x17 =>
  bif !decide (x17 = 0) then
    some ([], x17)
  else
    grd (okCat (y6.length + ([(x15, x16)] : List ((List UInt8) × List UInt8)).length)) <|
    lt (y6 ++ ([(x15, x16)] : List ((List UInt8) × List UInt8))) fun x23 =>
    grd (okI (y8 + 1)) <|
    rec9 (x23, y8 + 1)
else
  head_eachR_j1 y6
def head_eachR_L1 (F : Nat) (a1 : List (List UInt8)) (n : Nat) : ((List ((List UInt8) × List UInt8)) × Int) → Option ((List ((List UInt8) × List UInt8)) × Int) :=
  loop (fun rec x => head_eachR_B1 F a1 rec x.1 x.2) n
def head_eachR (F : Nat) (a1 : List (List UInt8)) : Option ((List ((List UInt8) × List UInt8)) × Int) :=
head_eachR_L1 F a1 F ([], 0)
def head_eachL_j1 (y25 : List (List UInt8)) : Option ((List (List UInt8)) × Int) :=
some (y25, 0)
def head_eachL_B1 (F : Nat) (a1 : List ((List UInt8) × List UInt8)) (rec9 : ((List (List UInt8)) × Int) → Option ((List (List UInt8)) × Int)) (y6 : List (List UInt8)) (y8 : Int) : Option ((List (List UInt8)) × Int) :=
bif decide (y8 < (a1.length : Int)) then
  grd (okAt y8 a1.length) <|
  lt (at_ a1 y8) fun x13 =>
  bnd2 (head_Line F x13.1 x13.2) fun x16 x17 =>
  bif !decide (x17 = 0) then
    some ([], x17)
  else
    grd (okCat (y6.length + ([x16] : List (List UInt8)).length)) <|
    lt (y6 ++ ([x16] : List (List UInt8))) fun x22 =>
    grd (okI (y8 + 1)) <|
    rec9 (x22, y8 + 1)
else
  head_eachL_j1 y6
def head_eachL_L1 (F : Nat) (a1 : List ((List UInt8) × List UInt8)) (n : Nat) : ((List (List UInt8)) × Int) → Option ((List (List UInt8)) × Int) :=
  loop (fun rec x => head_eachL_B1 F a1 rec x.1 x.2) n
def head_eachL (F : Nat) (a1 : List ((List UInt8) × List UInt8)) : Option ((List (List UInt8)) × Int) :=
head_eachL_L1 F a1 F ([], 0)
def head_All (F : Nat) (a1 : List ((List UInt8) × List UInt8)) : Option ((List UInt8) × Int) :=
bif decide (50 < (a1.length : Int)) then
  some ([], 4)
else
  bnd2 (head_eachL F a1) fun x6 x7 =>
  bif !decide (x7 = 0) then
    some ([], x7)
  else
    grd (okJoin0 x6) <|
    lt (List.flatten x6) fun x11 =>
    grd (okCat (x11.length + ([13, 10] : List UInt8).length)) <|
    lt (x11 ++ ([13, 10] : List UInt8)) fun x16 =>
    some (x16, 0)
def head_lines_j1 (y50 : List UInt8) (y51 : List (List UInt8)) : Option ((List (List UInt8)) × (List UInt8) × Bool) :=
grd (okTo 2 y50.length) <|
lt (from_ y50 2) fun x55 =>
some (y51, x55, decide ((y51.length : Int) ≤ 50))
def head_lines_j2 (y7 : List UInt8) (y8 : List (List UInt8)) (rec10 : ((List UInt8) × (List (List UInt8))) → Option ((List (List UInt8)) × (List UInt8) × Bool)) (y38 : Int) : Option ((List (List UInt8)) × (List UInt8) × Bool) :=
grd (okTo y38 y7.length) <|
lt (to_ y7 y38) fun x41 =>
grd (okTo y38 y7.length) <|
lt (from_ y7 y38) fun x44 =>
grd (okCat (y8.length + ([x41] : List (List UInt8)).length)) <|
lt (y8 ++ ([x41] : List (List UInt8))) fun x48 =>
rec10 (x44, x48)
def head_lines_B1 (y7 : List UInt8) (y8 : List (List UInt8)) (rec10 : ((List UInt8) × (List (List UInt8))) → Option ((List (List UInt8)) × (List UInt8) × Bool)) (rec17 : Int → Option ((List (List UInt8)) × (List UInt8) × Bool)) (y16 : Int) : Option ((List (List UInt8)) × (List UInt8) × Bool) :=
grdc ((!(decide (y16 = 0))) && (decide (y16 < (y7.length : Int)))) (okAt y16 y7.length) <|
lt (at_ y7 y16) fun x22 =>
bif (decide (y16 = 0)) || ((decide (y16 < (y7.length : Int))) && (decide (x22 = 32))) then
  grd (okTo y16 y7.length) <|
  lt (from_ y7 y16) fun x26 =>
  grd (okS x26.length) <|
  grd (decide (2 ≤ ([13, 10] : List UInt8).length)) <|
  grd (okS ([13, 10] : List UInt8).length) <|
  lt (Go.Lib.index x26 ([13, 10] : List UInt8)) fun x32 =>
  bif decide (x32 < 0) then
    some ([], [], false)
  else
    grd (okI (x32 + 2)) <|
    grd (okI (y16 + (x32 + 2))) <|
    rec17 (y16 + (x32 + 2))
else
  head_lines_j2 y7 y8 rec10 y16
def head_lines_L1 (y7 : List UInt8) (y8 : List (List UInt8)) (rec10 : ((List UInt8) × (List (List UInt8))) → Option ((List (List UInt8)) × (List UInt8) × Bool)) (n : Nat) : Int → Option ((List (List UInt8)) × (List UInt8) × Bool) :=
  loop (fun rec x => head_lines_B1 y7 y8 rec10 rec x) n
def head_lines_B2 (F : Nat) (rec10 : ((List UInt8) × (List (List UInt8))) → Option ((List (List UInt8)) × (List UInt8) × Bool)) (y7 : List UInt8) (y8 : List (List UInt8)) : Option ((List (List UInt8)) × (List UInt8) × Bool) :=
lt (Go.Lib.hasPrefix y7 ([13, 10] : List UInt8)) fun x13 =>
bif !x13 then
  head_lines_L1 y7 y8 rec10 F 0
else
  head_lines_j1 y7 y8
def head_lines_L2 (F : Nat) (n : Nat) : ((List UInt8) × (List (List UInt8))) → Option ((List (List UInt8)) × (List UInt8) × Bool) :=
  loop (fun rec x => head_lines_B2 F rec x.1 x.2) n
def head_lines (F : Nat) (a1 : List UInt8) : Option ((List (List UInt8)) × (List UInt8) × Bool) :=
head_lines_L2 F F (a1, [])
def head_Cut (F : Nat) (a1 : List UInt8) : Option ((List ((List UInt8) × List UInt8)) × (List UInt8) × Int) :=
bnd3 (head_lines F a1) fun x6 x7 x8 =>
bif !x8 then
  some ([], [], 2)
else
  bnd2 (head_eachR F x6) fun x11 x12 =>
  bif !decide (x12 = 0) then
    some ([], [], 2)
  else
    grd (okS x7.length) <|
    lt x7 fun x16 =>
    some (x11, x16, 0)
end Go.Pv
namespace Go.Proofs.YtdaafnaokdigbaaGreatDoor
open Go.RowKit Go.Av Go.Pv
theorem en34_headb : ∀ (args : Array Value) (w : World), (callFunc 34 args).run Tryz.prog w = .ok (.enter 34 args) w := fun _ _ => by kernel_rfl
theorem en36_headb : ∀ (args : Array Value) (w : World), (callFunc 36 args).run Tryz.prog w = .ok (.enter 36 args) w := fun _ _ => by kernel_rfl
theorem en50_headb : ∀ (args : Array Value) (w : World), (callFunc 50 args).run Tryz.prog w = .ok (.enter 50 args) w := fun _ _ => by kernel_rfl
theorem en68_headb : ∀ (args : Array Value) (w : World), (callFunc 68 args).run Tryz.prog w = .ok (.enter 68 args) w := fun _ _ => by kernel_rfl
theorem en69_headb : ∀ (args : Array Value) (w : World), (callFunc 69 args).run Tryz.prog w = .ok (.enter 69 args) w := fun _ _ => by kernel_rfl
theorem en70_headb : ∀ (args : Array Value) (w : World), (callFunc 70 args).run Tryz.prog w = .ok (.enter 70 args) w := fun _ _ => by kernel_rfl
theorem en75_headb : ∀ (args : Array Value) (w : World), (callFunc 75 args).run Tryz.prog w = .ok (.enter 75 args) w := fun _ _ => by kernel_rfl
theorem en76_headb : ∀ (args : Array Value) (w : World), (callFunc 76 args).run Tryz.prog w = .ok (.enter 76 args) w := fun _ _ => by kernel_rfl
theorem en77_headb : ∀ (args : Array Value) (w : World), (callFunc 77 args).run Tryz.prog w = .ok (.enter 77 args) w := fun _ _ => by kernel_rfl
theorem en78_headb : ∀ (args : Array Value) (w : World), (callFunc 78 args).run Tryz.prog w = .ok (.enter 78 args) w := fun _ _ => by kernel_rfl
theorem en98_headb : ∀ (args : Array Value) (w : World), (callFunc 98 args).run Tryz.prog w = .ok (.enter 98 args) w := fun _ _ => by kernel_rfl
theorem en99_headb : ∀ (args : Array Value) (w : World), (callFunc 99 args).run Tryz.prog w = .ok (.enter 99 args) w := fun _ _ => by kernel_rfl
theorem en100_headb : ∀ (args : Array Value) (w : World), (callFunc 100 args).run Tryz.prog w = .ok (.enter 100 args) w := fun _ _ => by kernel_rfl
theorem en101_headb : ∀ (args : Array Value) (w : World), (callFunc 101 args).run Tryz.prog w = .ok (.enter 101 args) w := fun _ _ => by kernel_rfl
theorem en125_headb : ∀ (args : Array Value) (w : World), (callFunc 125 args).run Tryz.prog w = .ok (.enter 125 args) w := fun _ _ => by kernel_rfl
theorem en126_headb : ∀ (args : Array Value) (w : World), (callFunc 126 args).run Tryz.prog w = .ok (.enter 126 args) w := fun _ _ => by kernel_rfl
theorem en127_headb : ∀ (args : Array Value) (w : World), (callFunc 127 args).run Tryz.prog w = .ok (.enter 127 args) w := fun _ _ => by kernel_rfl
theorem en128_headb : ∀ (args : Array Value) (w : World), (callFunc 128 args).run Tryz.prog w = .ok (.enter 128 args) w := fun _ _ => by kernel_rfl
theorem en139_headb : ∀ (args : Array Value) (w : World), (callFunc 139 args).run Tryz.prog w = .ok (.enter 139 args) w := fun _ _ => by kernel_rfl
theorem en140_headb : ∀ (args : Array Value) (w : World), (callFunc 140 args).run Tryz.prog w = .ok (.enter 140 args) w := fun _ _ => by kernel_rfl
theorem en141_headb : ∀ (args : Array Value) (w : World), (callFunc 141 args).run Tryz.prog w = .ok (.enter 141 args) w := fun _ _ => by kernel_rfl
set_option maxRecDepth 100000 in
set_option maxHeartbeats 1000000 in
theorem w_head_spC (F : Nat) (a1 : Int) (r2 : Bool) (H : head_spC F a1 = some r2) : ACalls Tryz.prog 100 [.v (.int .i32 a1)] [] (Ret (B r2) []) := by
 unfold head_spC at H
 refine ACalls.of_body Tryz.func100 rfl rfl ?_
 show AW _ _ 13 _ _ _
 refine AW.seq ?_
 refine AW.region ?_
 show AR _ _ _ _ _ [0] _
 refine sS rfl rfl rfl (asg rfl) ?_
 refine AR.nil ?_
 show AW _ _ _ _ _ _
 refine AW.seq ?_
 refine AW.region ?_
 show AR _ _ _ _ _ [0, 1, 2, 3, 4, 5, 6, 7, 8, 9, 10] _
 refine sS rfl rfl rfl (mv rfl) ?_
 refine sS rfl rfl rfl (opS_eqi rfl rfl) ?_
 refine sS rfl rfl rfl (mv rfl) ?_
 refine AR.meet (l := [6, 7, 8, 9, 10]) 8 (B ((decide (a1 = 32)) || (decide (a1 = 13)))) (fun K => ?_) ?_
 ·rcases Bool.eq_false_or_eq_true (decide (a1 = 32)) with h3 | h3
  ·
   refine gF h3 rfl rfl rfl rfl rfl ?_
   refine gF h3 rfl rfl rfl rfl rfl ?_
   refine sS rfl rfl rfl (opS_pick_t (av := .v _) rfl h3 rfl) ?_
   exact K _ 2 _ (B_congr (or_t h3)) rfl rfl
  ·
   refine gT h3 rfl rfl rfl rfl rfl rfl (AO.ops rfl rfl (mv rfl) ?_)
   refine gT h3 rfl rfl rfl rfl rfl rfl (AO.ops rfl rfl (opS_eqi rfl rfl) ?_)
   refine sS rfl rfl rfl (opS_pick_f (av := .v _) rfl h3 rfl) ?_
   exact K _ 2 _ (B_congr (or_f h3)) rfl rfl
 refine sS rfl rfl rfl (mv rfl) ?_
 refine AR.meet (l := [10]) 12 (B (((decide (a1 = 32)) || (decide (a1 = 13))) || (decide (a1 = 10)))) (fun K => ?_) ?_
 ·rcases Bool.eq_false_or_eq_true ((decide (a1 = 32)) || (decide (a1 = 13))) with h4 | h4
  ·
   refine gF h4 rfl rfl rfl rfl rfl ?_
   refine gF h4 rfl rfl rfl rfl rfl ?_
   refine sS rfl rfl rfl (opS_pick_t (av := .v _) rfl h4 rfl) ?_
   exact K _ 2 _ (B_congr (or_t h4)) rfl rfl
  ·
   refine gT h4 rfl rfl rfl rfl rfl rfl (AO.ops rfl rfl (mv rfl) ?_)
   refine gT h4 rfl rfl rfl rfl rfl rfl (AO.ops rfl rfl (opS_eqi rfl rfl) ?_)
   refine sS rfl rfl rfl (opS_pick_f (av := .v _) rfl h4 rfl) ?_
   exact K _ 2 _ (B_congr (or_f h4)) rfl rfl
 refine sS rfl rfl rfl (asg rfl) ?_
 refine AR.nil ?_
 show AW _ _ _ _ _ _
 refine AW.ret ?_
 obtain rfl := Option.some.inj H
 exact And.intro rfl (Exists.intro _ (Exists.intro _ ⟨ResV.oneW rfl (.refl _), Sub.at [] rfl, rfl, rfl⟩))
theorem head_sp (x : Nat) (hx : x ≤ 1114111) : ACalls Tryz.prog 100 [.v (.int .i32 (x : Int))] [] (Ret (.v (.bool (spB x))) []) := w_head_spC 0 (x : Int) (spB x) rfl
set_option maxRecDepth 100000 in
set_option maxHeartbeats 1000000 in
theorem w_head_coded (F : Nat) (a1 : List UInt8) (r2 : List UInt8) (r3 : Bool) (H : head_coded F a1 = some (r2, r3)) : ACalls Tryz.prog 125 [S a1] [] (Ret (.tup [S r2, B r3]) []) := by
 unfold head_coded at H
 refine ACalls.of_body Tryz.func125 rfl rfl ?_
 show AW _ _ 32 _ _ _
 refine AW.seq ?_
 refine AW.region ?_
 show AR _ _ _ _ _ [0, 1] _
 refine sS rfl rfl rfl (asg rfl) ?_
 refine sS rfl rfl rfl (asg rfl) ?_
 refine AR.nil ?_
 show AW _ _ _ _ _ _
 refine AW.seq ?_
 obtain ⟨x4, e5, H⟩ := lt_s H
 refine AW.region ?_
 show AR _ _ _ _ _ [0, 1, 2, 3, 4, 5, 6] _
 refine sS rfl rfl rfl (mv rfl) ?_
 refine AR.run rfl rfl (AO.callp rfl en139_headb rfl (show ACalls _ _ _ [] (Ret (.tup [S x4.1, B x4.2]) []) from by subst e5; exact lib_CutPrefix a1 ([61, 63, 117, 116, 102, 45, 56, 63, 66, 63] : List UInt8)) ?_)
 refine sS rfl rfl rfl (opS_move (av := .tup _) rfl) ?_
 refine sS rfl rfl rfl (opS_extract (av := .v _) rfl rfl) ?_
 refine sS rfl rfl rfl (opS_extract (av := .v _) rfl rfl) ?_
 refine sS rfl rfl rfl (asg rfl) ?_
 refine sS rfl rfl rfl (asg rfl) ?_
 refine AR.nil ?_
 show AW _ _ _ _ _ _
 refine AW.seq ?_
 refine AW.seq ?_
 refine AW.region ?_
 show AR _ _ _ _ _ [0, 1] _
 refine sS rfl rfl rfl (mv rfl) ?_
 refine sS rfl rfl rfl (opS_not rfl) ?_
 refine AR.nil ?_
 show AW _ _ _ _ _ _
 refine AW.cond rfl (fun c6 => ?_) (fun c6 => ?_)
 ·replace H := cnd_t c6 H
  refine AW.seq ?_
  refine AW.region ?_
  show AR _ _ _ _ _ [0, 1] _
  refine sS rfl rfl rfl (asg rfl) ?_
  refine sS rfl rfl rfl (asg rfl) ?_
  refine AR.nil ?_
  show AW _ _ _ _ _ _
  refine AW.ret ?_
  obtain ⟨rfl, rfl⟩ := res2 H
  exact And.intro rfl (Exists.intro _ (Exists.intro _ ⟨ResV.twoW rfl (.refl _) (.refl _), Sub.at [] rfl, rfl, rfl⟩))
 ·replace H := cnd_f c6 H
  refine AW.skip ?_
  show AW _ _ _ _ _ _
  refine AW.seq ?_
  obtain ⟨g7, H⟩ := grd_s H
  obtain ⟨x8, e9, H⟩ := lt_s H
  refine AW.region ?_
  show AR _ _ _ _ _ [0, 1, 2, 3, 4, 5, 6] _
  refine sS rfl rfl rfl (mv rfl) ?_
  refine AR.run rfl rfl (AO.callp rfl en140_headb rfl (show ACalls _ _ _ [] (Ret (.tup [S x8.1, B x8.2]) []) from by subst e9; exact lib_CutSuffix x4.1 ([63, 61] : List UInt8) (okS_s g7)) ?_)
  refine sS rfl rfl rfl (opS_move (av := .tup _) rfl) ?_
  refine sS rfl rfl rfl (opS_extract (av := .v _) rfl rfl) ?_
  refine sS rfl rfl rfl (opS_extract (av := .v _) rfl rfl) ?_
  refine sS rfl rfl rfl (asg rfl) ?_
  refine sS rfl rfl rfl (asg rfl) ?_
  refine AR.nil ?_
  show AW _ _ _ _ _ _
  refine AW.seq ?_
  obtain ⟨x10, x11, e12, H⟩ := bnd2_s H
  refine AW.region ?_
  show AR _ _ _ _ _ [0, 1, 2, 3, 4, 5, 6] _
  refine sS rfl rfl rfl (mv rfl) ?_
  refine AR.run rfl rfl (AO.callp rfl en141_headb rfl (w_b64_Bytes F x8.1 x10 x11 e12) ?_)
  refine sS rfl rfl rfl (opS_move (av := .tup _) rfl) ?_
  refine sS rfl rfl rfl (opS_extract (av := slE _ _ _) rfl rfl) ?_
  refine sS rfl rfl rfl (opS_extract (av := .v _) rfl rfl) ?_
  refine sS rfl rfl rfl (opS_assign (av := slE _ _ _) rfl) ?_
  refine sS rfl rfl rfl (asg rfl) ?_
  refine AR.nil ?_
  show AW _ _ _ _ _ _
  refine AW.seq ?_
  refine AW.region ?_
  show AR _ _ _ _ _ [0, 1, 2, 3, 4, 5, 6, 7, 8] _
  refine sS rfl rfl rfl (opS_move (av := slE _ _ _) rfl) ?_
  refine sS rfl rfl rfl (opS_conv_bytes_str Tryz.underlying26 Tryz.underlying5 Tryz.underlying9 rfl) ?_
  refine sS rfl rfl rfl (mv rfl) ?_
  refine sS rfl rfl rfl (mv rfl) ?_
  refine AR.meet (l := [7, 8]) 31 (B (x8.2 && (decide (x11 = 0)))) (fun K => ?_) ?_
  ·rcases Bool.eq_false_or_eq_true x8.2 with h13 | h13
   ·
    refine gT h13 rfl rfl rfl rfl rfl rfl (AO.ops rfl rfl (mv rfl) ?_)
    refine gT h13 rfl rfl rfl rfl rfl rfl (AO.ops rfl rfl (opS_eqi rfl rfl) ?_)
    refine sS rfl rfl rfl (opS_pick_t (av := .v _) rfl h13 rfl) ?_
    exact K _ 2 _ (B_congr (and_t h13)) rfl rfl
   ·
    refine gF h13 rfl rfl rfl rfl rfl ?_
    refine gF h13 rfl rfl rfl rfl rfl ?_
    refine sS rfl rfl rfl (opS_pick_f (av := .v _) rfl h13 rfl) ?_
    exact K _ 2 _ (B_congr (and_f h13)) rfl rfl
  refine sS rfl rfl rfl (asg rfl) ?_
  refine sS rfl rfl rfl (asg rfl) ?_
  refine AR.nil ?_
  show AW _ _ _ _ _ _
  refine AW.ret ?_
  obtain ⟨rfl, rfl⟩ := res2 H
  exact And.intro rfl (Exists.intro _ (Exists.intro _ ⟨ResV.twoW rfl (.refl _) (.refl _), Sub.at [] rfl, rfl, rfl⟩))
set_option maxRecDepth 100000 in
set_option maxHeartbeats 1000000 in
theorem w_head_value (F : Nat) (a1 : List (List UInt8)) (q2 : Option Nat) (r3 : List UInt8) (H : head_value F a1 = some r3) : ACalls Tryz.prog 101 [slE Enc.str a1 q2] [] (Ret (S r3) []) := by
 unfold head_value at H
 refine ACalls.of_body Tryz.func101 rfl rfl ?_
 show AW _ _ 27 _ _ _
 refine AW.seq ?_
 refine AW.region ?_
 show AR _ _ _ _ _ [0] _
 refine sS rfl rfl rfl (asg rfl) ?_
 refine AR.nil ?_
 show AW _ _ _ _ _ _
 refine AW.seq ?_
 refine AW.region ?_
 show AR _ _ _ _ _ [0] _
 refine sX rfl rfl rfl (opX_allocT (zs := [(.pointer none), .slice none 0 0]) (by kernel_rfl)) ?_
 rintro _ _ ⟨o4, rfl, rfl⟩
 refine AR.nil ?_
 show AW _ _ _ _ _ _
 refine AW.nil_objAt 0 1 1 5 rfl rfl fun t5 => ?_
 show AW _ _ _ _ _ ⟨_, _, [.tok t5 5, .obj o4 [.v (.pointer none), slE Enc.byte [] (some t5)], .ty o4 142]⟩
 refine AW.cut (X := AV × (List UInt8) × Nat) (fun (t28, y29, t30) => ⟨[(3, .pt o4 0)], [], [.obj o4 [t28, slE Enc.byte y29 (some t30)], .ty o4 142, .tok t30 5]⟩) (fun (t28, y29, t30) => head_value_j1 y29 = some r3 ∧ (t28 = .v (.pointer none) ∨ t28 = .pt o4 0)) ?_ ?_
 ·
  refine AW.seq ?_
  refine AW.region ?_
  show AR _ _ _ _ _ [0, 1, 2] _
  refine sS rfl rfl rfl (opS_move (av := slE _ _ _) rfl) ?_
  refine sS rfl rfl rfl (opS_len_sl Tryz.underlying22 rfl) ?_
  refine sS rfl rfl rfl (mv rfl) ?_
  refine AR.nil ?_
  show AW _ _ _ _ _ _
  refine AW.block ?_
  refine AW.loop (X := Nat × Int × AV × (List UInt8) × Nat) (fun (n11, y6, t7, y8, t9) => ⟨[(0, slE Enc.str a1 q2), (3, .pt o4 0), (8, slE Enc.str a1 q2), (9, i64 (a1.length : Int)), (10, i64 y6)], [], [.obj o4 [t7, slE Enc.byte y8 (some t9)], .ty o4 142, .tok t9 5]⟩) (fun (n11, y6, t7, y8, t9) => head_value_L1 F a1 n11 (y6, y8) = some r3 ∧ (t7 = .v (.pointer none) ∨ t7 = .pt o4 0)) (fun (n11, y6, t7, y8, t9) => n11) (F, 0, (.v (.pointer none)), [], t5) ⟨H, .inl rfl⟩ (WK.at [1, 1, 0] (.cons (.refl _) (.cons (.refl _) (.cons (.refl _) (.cons (.refl _) (.cons (.refl _) (.nil _)))))) rfl) ?_
  rintro ⟨n11, y6, t7, y8, t9⟩ ⟨H, ht7⟩
  obtain ⟨n11, rfl, H⟩ := loop_s H
  replace H : head_value_B1 F a1 (head_value_L1 F a1 n11) y6 y8 = some r3 := H
  unfold head_value_B1 at H
  show AW _ _ _ _ _ _
  refine AW.seq ?_
  refine AW.region ?_
  show AR _ _ _ _ _ [0] _
  refine sS rfl rfl rfl (opS_lt rfl rfl) ?_
  refine AR.nil ?_
  show AW _ _ _ _ _ _
  refine AW.seq ?_
  refine AW.cond rfl (fun c12 => ?_) (fun c12 => ?_)
  ·replace H := cnd_t c12 H
   refine AW.skip ?_
   show AW _ _ _ _ _ _
   refine AW.seq ?_
   refine AW.block ?_
   refine AW.seq ?_
   obtain ⟨g13, H⟩ := grd_s H
   obtain ⟨x14, e15, H⟩ := lt_s H
   refine AW.region ?_
   show AR _ _ _ _ _ [0, 1, 2] _
   refine sS rfl rfl rfl (g_indexAddr (E := Enc.str) Tryz.underlying22 (by kernel_rfl) rfl rfl g13 e15) ?_
   refine sS rfl rfl rfl (opS_load_cp Tryz.underlying9 rfl rfl) ?_
   refine sS rfl rfl rfl (asg rfl) ?_
   refine AR.nil ?_
   show AW _ _ _ _ _ _
   refine AW.seq ?_
   obtain ⟨x16, x17, e18, H⟩ := bnd2_s H
   refine AW.region ?_
   show AR _ _ _ _ _ [0, 1, 2, 3, 4, 5, 6] _
   refine sS rfl rfl rfl (mv rfl) ?_
   refine AR.run rfl rfl (AO.callp rfl en125_headb rfl (w_head_coded F x14 x16 x17 e18) ?_)
   refine sS rfl rfl rfl (opS_move (av := .tup _) rfl) ?_
   refine sS rfl rfl rfl (opS_extract (av := .v _) rfl rfl) ?_
   refine sS rfl rfl rfl (opS_extract (av := .v _) rfl rfl) ?_
   refine sS rfl rfl rfl (asg rfl) ?_
   refine sS rfl rfl rfl (asg rfl) ?_
   refine AR.nil ?_
   show AW _ _ _ _ _ _
   refine AW.seq ?_
   refine AW.seq ?_
   refine AW.region ?_
   show AR _ _ _ _ _ [0, 1] _
   refine sS rfl rfl rfl (mv rfl) ?_
   refine sS rfl rfl rfl (opS_not rfl) ?_
   refine AR.nil ?_
   show AW _ _ _ _ _ _
   refine AW.cond rfl (fun c19 => ?_) (fun c19 => ?_)
   ·replace H := cnd_t c19 H
    refine AW.seq ?_
    obtain ⟨g20, H⟩ := grd_s H
    obtain ⟨x21, e22, H⟩ := lt_s H
    refine AW.region ?_
    show AR _ _ _ _ _ [0, 1, 2] _
    refine sS rfl rfl rfl (opS_move (av := slE _ _ _) rfl) ?_
    refine AR.run rfl rfl (AO.callp rfl en126_headb rfl (show ACalls _ _ _ [] (Ret (S x21) []) from by subst e22; exact strings_Join a1 ([32] : List UInt8) q2 (okJoin_s g20).1 (okJoin_s g20).2) ?_)
    refine sS rfl rfl rfl (asg rfl) ?_
    refine AR.nil ?_
    show AW _ _ _ _ _ _
    refine AW.ret ?_
    obtain rfl := Option.some.inj H
    exact And.intro rfl (Exists.intro _ (Exists.intro _ ⟨ResV.oneW rfl (.refl _), Sub.at [] rfl, rfl, rfl⟩))
   ·replace H := cnd_f c19 H
    refine AW.skip ?_
    show AW _ _ _ _ _ _
    obtain ⟨g23, H⟩ := grd_s H
    obtain ⟨x24, e25, H⟩ := lt_s H
    refine AW.region ?_
    show AR _ _ _ _ _ [0, 1] _
    refine sS rfl rfl rfl (mv rfl) ?_
    refine AR.run rfl rfl (AO.callAt [0, 0, 0] rfl en127_headb rfl (Builder_WriteString0  o4 (t7) ht7 y8 x16 t9 (okW_s g23)) rfl (fun c A' h => by cases h.1) ?_)
    rintro av A' ⟨h, t26, rfl⟩; cases h
    rw [e25]
    refine AR.nil ?_
    show AW _ _ _ _ _ _
    obtain ⟨g27, H⟩ := grd_s H
    refine AW.region ?_
    show AR _ _ _ _ _ [0, 1] _
    refine sS rfl rfl rfl (g_add rfl rfl g27) ?_
    refine sS rfl rfl rfl (mv rfl) ?_
    refine AR.nil ?_
    exact Exists.intro (n11, y6 + 1, (.pt o4 0), x24, t26) ⟨⟨H, .inr rfl⟩, Nat.lt_succ_self _, WK.at [0, 0, 0] (.cons (.refl _) (.cons (.refl _) (.cons (.refl _) (.cons (.refl _) (.cons (.refl _) (.nil _)))))) rfl⟩
  ·replace H := cnd_f c12 H
   refine AW.exit ?_
   exact Exists.intro (t7, y8, t9) ⟨⟨H, ht7⟩, WK.at [0, 0, 0] (.cons (.refl _) (.nil _)) rfl⟩
 rintro ⟨t28, y29, t30⟩ ⟨H, ht28⟩
 replace H : head_value_j1 y29 = some r3 := H
 unfold head_value_j1 at H
 show AW _ _ _ _ _ _
 refine AW.seq ?_
 obtain ⟨g32, H⟩ := grd_s H
 refine AW.region ?_
 show AR _ _ _ _ _ [0, 1] _
 refine AR.run rfl rfl (AO.callAt [0, 1] rfl en128_headb rfl (Builder_String0  o4 (t28) y29 t30 (okW0_s g32)) rfl (fun c A' h => by cases h.1) ?_)
 rintro av A' ⟨h, rfl⟩; cases h
 refine sS rfl rfl rfl (asg rfl) ?_
 refine AR.nil ?_
 show AW _ _ _ _ _ _
 refine AW.ret ?_
 obtain rfl := Option.some.inj H
 exact And.intro rfl (Exists.intro _ (Exists.intro _ ⟨ResV.oneW rfl (.refl _), Sub.at [] rfl, rfl, rfl⟩))
set_option maxRecDepth 100000 in
set_option maxHeartbeats 1000000 in
theorem w_head_Read (F : Nat) (a1 : List UInt8) (q2 : Option Nat) (r3 : List UInt8) (r4 : List UInt8) (r5 : Int) (H : head_Read F a1 = some (r3, r4, r5)) : ACalls Tryz.prog 77 [slE Enc.byte a1 q2] [] (Ret (.tup [.agg [S r3, S r4], i64 r5]) []) := by
 unfold head_Read at H
 refine ACalls.of_body Tryz.func77 rfl rfl ?_
 show AW _ _ 43 _ _ _
 refine AW.seq ?_
 refine AW.region ?_
 show AR _ _ _ _ _ [0, 1] _
 refine sX rfl rfl rfl (opX_alloc (zs := [.string ⟨#[]⟩, .string ⟨#[]⟩]) (by kernel_rfl)) ?_
 rintro _ _ ⟨o6, rfl, rfl⟩
 refine sS rfl rfl rfl (asg rfl) ?_
 refine AR.nil ?_
 show AW _ _ _ _ _ _
 refine AW.seq ?_
 obtain ⟨g7, H⟩ := grd_s H
 obtain ⟨x8, e9, H⟩ := lt_s H
 refine AW.region ?_
 show AR _ _ _ _ _ [0, 1, 2, 3, 4, 5, 6, 7, 8, 9] _
 refine sS rfl rfl rfl (opS_move (av := slE _ _ _) rfl) ?_
 refine sS rfl rfl rfl (opS_conv_bytes_str Tryz.underlying26 Tryz.underlying5 Tryz.underlying9 rfl) ?_
 refine AR.run rfl rfl (AO.callp rfl en98_headb rfl (show ACalls _ _ _ [] (Ret (.tup [S x8.1, S x8.2.1, B x8.2.2]) []) from by subst e9; exact lib_Cut a1 ([58] : List UInt8) (okS_s g7)) ?_)
 refine sS rfl rfl rfl (opS_move (av := .tup _) rfl) ?_
 refine sS rfl rfl rfl (opS_extract (av := .v _) rfl rfl) ?_
 refine sS rfl rfl rfl (opS_extract (av := .v _) rfl rfl) ?_
 refine sS rfl rfl rfl (opS_extract (av := .v _) rfl rfl) ?_
 refine sS rfl rfl rfl (asg rfl) ?_
 refine sS rfl rfl rfl (asg rfl) ?_
 refine sS rfl rfl rfl (asg rfl) ?_
 refine AR.nil ?_
 show AW _ _ _ _ _ _
 refine AW.seq ?_
 obtain ⟨g10, H⟩ := grd_s H
 obtain ⟨x11, e12, H⟩ := lt_s H
 refine AW.region ?_
 show AR _ _ _ _ _ [0, 1, 2] _
 refine sS rfl rfl rfl (mv rfl) ?_
 refine AR.run rfl rfl (AO.callp rfl en99_headb rfl (show ACalls _ _ _ [] (Ret (slE Enc.str x11 none) []) from by subst e12; exact lib_FieldsFunc 100 spB x8.2.1 en100_headb head_sp (okS_s g10)) ?_)
 refine sS rfl rfl rfl (opS_assign (av := slE _ _ _) rfl) ?_
 refine AR.nil ?_
 show AW _ _ _ _ _ _
 refine AW.seq ?_
 obtain ⟨x13, e14, H⟩ := bnd_s H
 refine AW.region ?_
 show AR _ _ _ _ _ [0, 1, 2, 3, 4, 5] _
 refine sS rfl rfl rfl (mv rfl) ?_
 refine sS rfl rfl rfl (opS_move (av := slE _ _ _) rfl) ?_
 refine AR.run rfl rfl (AO.callp rfl en101_headb rfl (w_head_value F x11 none x13 e14) ?_)
 refine sS rfl rfl rfl (g_build (zs := [.string ⟨#[]⟩, .string ⟨#[]⟩]) (ps := [(0, 1), (1, 1)]) (cs := [S x8.1, S x13]) (by kernel_rfl) rfl rfl) ?_
 refine sX rfl rfl rfl (opX_alloc (zs := [.string ⟨#[]⟩, .string ⟨#[]⟩]) (by kernel_rfl)) ?_
 rintro _ _ ⟨o15, rfl, rfl⟩
 refine s0 rfl rfl (opR_store_agg (i := 0) (vs := [S x8.1, S x13]) (by kernel_rfl) rfl rfl (by simp [isCell, slE]) rfl (Nat.le_of_ble_eq_true rfl)) ?_
 refine AR.freezeCp 8 0 rfl rfl ?_
 show AR _ _ _ _ _ _ ⟨_, _, [.obj o6 [S ([] : List UInt8), S ([] : List UInt8)]]⟩
 refine AR.nil ?_
 show AW _ _ _ _ _ _
 refine AW.seq ?_
 refine AW.seq ?_
 obtain ⟨x16, x17, e18, H⟩ := bnd2_s H
 refine AW.region ?_
 show AR _ _ _ _ _ [0, 1, 2, 3, 4, 5, 6] _
 refine sS rfl rfl rfl (opS_load_cp_agg Tryz.underlying71 rfl (n := 2) (by kernel_rfl) rfl (Nat.le_of_ble_eq_true rfl)) ?_
 refine AR.run rfl rfl (AO.callp rfl en69_headb rfl (w_head_Line F x8.1 x13 x16 x17 e18) ?_)
 refine sS rfl rfl rfl (opS_move (av := .tup _) rfl) ?_
 refine sS rfl rfl rfl (opS_extract (av := slE _ _ _) rfl rfl) ?_
 refine sS rfl rfl rfl (opS_extract (av := .v _) rfl rfl) ?_
 refine sS rfl rfl rfl (opS_assign (av := slE _ _ _) rfl) ?_
 refine sS rfl rfl rfl (asg rfl) ?_
 refine AR.nil ?_
 show AW _ _ _ _ _ _
 refine AW.seq ?_
 obtain ⟨x21, e22, H⟩ := lt_s H
 refine AW.region ?_
 show AR _ _ _ _ _ [0, 1, 2, 3, 4, 5, 6, 7, 8, 9, 10, 11] _
 refine sS rfl rfl rfl (mv rfl) ?_
 refine sS rfl rfl rfl (opS_not rfl) ?_
 refine sS rfl rfl rfl (mv rfl) ?_
 refine AR.meet (l := [6, 7, 8, 9, 10, 11]) 34 (B ((!x8.2.2) || (!decide (x17 = 0)))) (fun K => ?_) ?_
 ·rcases Bool.eq_false_or_eq_true (!x8.2.2) with h19 | h19
  ·
   refine gF h19 rfl rfl rfl rfl rfl ?_
   refine gF h19 rfl rfl rfl rfl rfl ?_
   refine sS rfl rfl rfl (opS_pick_t (av := .v _) rfl h19 rfl) ?_
   exact K _ 2 _ (B_congr (or_t h19)) rfl rfl
  ·
   refine gT h19 rfl rfl rfl rfl rfl rfl (AO.ops rfl rfl (mv rfl) ?_)
   refine gT h19 rfl rfl rfl rfl rfl rfl (AO.ops rfl rfl (opS_nei rfl rfl) ?_)
   refine sS rfl rfl rfl (opS_pick_f (av := .v _) rfl h19 rfl) ?_
   exact K _ 2 _ (B_congr (or_f h19)) rfl rfl
 refine sS rfl rfl rfl (mv rfl) ?_
 refine AR.meet (l := []) 40 (B (((!x8.2.2) || (!decide (x17 = 0))) || (!x21))) (fun K => ?_) ?_
 ·rcases Bool.eq_false_or_eq_true ((!x8.2.2) || (!decide (x17 = 0))) with h20 | h20
  ·
   refine gF h20 rfl rfl rfl rfl rfl ?_
   refine gF h20 rfl rfl rfl rfl rfl ?_
   refine gF h20 rfl rfl rfl rfl rfl ?_
   refine gF h20 rfl rfl rfl rfl rfl ?_
   refine sS rfl rfl rfl (opS_pick_t (av := .v _) rfl h20 rfl) ?_
   exact K _ 4 _ (B_congr (or_t h20)) rfl rfl
  ·
   refine gT h20 rfl rfl rfl rfl rfl rfl (AO.ops rfl rfl (opS_move (av := slE _ _ _) rfl) ?_)
   refine gT h20 rfl rfl rfl rfl rfl rfl (AO.ops rfl rfl (opS_move (av := slE _ _ _) rfl) ?_)
   refine gT h20 rfl rfl rfl rfl rfl rfl (AO.callp rfl en36_headb rfl (show ACalls _ _ _ [] (Ret (B x21) []) from by subst e22; exact lib_bytesEqual x16 a1 none q2) ?_)
   refine gT h20 rfl rfl rfl rfl rfl rfl (AO.ops rfl rfl (opS_not rfl) ?_)
   refine sS rfl rfl rfl (opS_pick_f (av := .v _) rfl h20 rfl) ?_
   exact K _ 4 _ (B_congr (or_f h20)) rfl rfl
 refine AR.nil ?_
 show AW _ _ _ _ _ _
 refine AW.cond rfl (fun c23 => ?_) (fun c23 => ?_)
 ·replace H := cnd_t c23 H
  refine AW.seq ?_
  refine AW.region ?_
  show AR _ _ _ _ _ [0, 1, 2] _
  refine sS rfl rfl rfl (g_build (zs := [.string ⟨#[]⟩, .string ⟨#[]⟩]) (ps := [(0, 1), (1, 1)]) (cs := [S ([] : List UInt8), S ([] : List UInt8)]) (by kernel_rfl) rfl rfl) ?_
  refine s0 rfl rfl (opR_store_agg (i := 0) (vs := [S ([] : List UInt8), S ([] : List UInt8)]) (by kernel_rfl) rfl rfl (by simp [isCell, slE]) rfl (Nat.le_of_ble_eq_true rfl)) ?_
  refine sS rfl rfl rfl (asg rfl) ?_
  refine AR.nil ?_
  show AW _ _ _ _ _ _
  refine AW.ret ?_
  obtain ⟨rfl, rfl, rfl⟩ := res3 H
  exact And.intro rfl (Exists.intro _ (Exists.intro _ ⟨ResT.resV (ResT.place2 rfl (CellV.agg (off := 0) (cs := [S ([] : List UInt8), S ([] : List UInt8)]) (n := 2) 0 Tryz.underlying71 rfl (by kernel_rfl) rfl rfl (Nat.le_of_ble_eq_true rfl)) ((show PlaceV _ _ _ (.tmp _) _ from (.refl _)))), Sub.at [] rfl, rfl, rfl⟩))
 ·replace H := cnd_f c23 H
  refine AW.skip ?_
  show AW _ _ _ _ _ _
  refine AW.seq ?_
  refine AW.region ?_
  show AR _ _ _ _ _ [0, 1, 2] _
  refine sS rfl rfl rfl (opS_load_cp_agg Tryz.underlying71 rfl (n := 2) (by kernel_rfl) rfl (Nat.le_of_ble_eq_true rfl)) ?_
  refine s0 rfl rfl (opR_store_agg (i := 0) (vs := [S x8.1, S x13]) (by kernel_rfl) rfl rfl (by simp [isCell, slE]) rfl (Nat.le_of_ble_eq_true rfl)) ?_
  refine sS rfl rfl rfl (asg rfl) ?_
  refine AR.nil ?_
  show AW _ _ _ _ _ _
  refine AW.ret ?_
  obtain ⟨rfl, rfl, rfl⟩ := res3 H
  exact And.intro rfl (Exists.intro _ (Exists.intro _ ⟨ResT.resV (ResT.place2 rfl (CellV.agg (off := 0) (cs := [S x8.1, S x13]) (n := 2) 0 Tryz.underlying71 rfl (by kernel_rfl) rfl rfl (Nat.le_of_ble_eq_true rfl)) ((show PlaceV _ _ _ (.tmp _) _ from (.refl _)))), Sub.at [] rfl, rfl, rfl⟩))
set_option maxRecDepth 100000 in
set_option maxHeartbeats 1000000 in
theorem w_head_eachR (F : Nat) (a1 : List (List UInt8)) (q2 : Option Nat) (r3 : List ((List UInt8) × List UInt8)) (r4 : Int) (H : head_eachR F a1 = some (r3, r4)) : ACalls Tryz.prog 76 [slE (Enc.sl Enc.byte) a1 q2, .v (.func (.func 77) #[] #[])] [] (Ret (.tup [slE (Enc.prod Enc.str Enc.str) r3 none, i64 r4]) []) := by
 unfold head_eachR at H
 refine ACalls.of_body Tryz.func76 rfl rfl ?_
 show AW _ _ 32 _ _ _
 refine AW.seq ?_
 refine AW.region ?_
 show AR _ _ _ _ _ [0, 1] _
 refine sS rfl rfl rfl (asg rfl) ?_
 refine sS rfl rfl rfl (asg rfl) ?_
 refine AR.nil ?_
 show AW _ _ _ _ _ _
 refine AW.seq ?_
 refine AW.region ?_
 show AR _ _ _ _ _ [0] _
 refine sS rfl rfl rfl (asg rfl) ?_
 refine AR.nil ?_
 show AW _ _ _ _ _ _
 refine AW.nil_grows 6 2 71 rfl fun t5 => ?_
 show AW _ _ _ _ _ ⟨(6, slE (Enc.prod Enc.str Enc.str) [] (some t5)) :: _, _, _⟩
 refine AW.cut (X := (List ((List UInt8) × List UInt8)) × Nat) (fun (y26, t27) => ⟨[(6, slE (Enc.prod Enc.str Enc.str) y26 (some t27))], [], [.tok t27 71]⟩) (fun (y26, t27) => head_eachR_j1 y26 = some (r3, r4)) ?_ ?_
 ·
  refine AW.seq ?_
  refine AW.region ?_
  show AR _ _ _ _ _ [0, 1, 2] _
  refine sS rfl rfl rfl (opS_move (av := slE _ _ _) rfl) ?_
  refine sS rfl rfl rfl (opS_len_sl Tryz.underlying23 rfl) ?_
  refine sS rfl rfl rfl (mv rfl) ?_
  refine AR.nil ?_
  show AW _ _ _ _ _ _
  refine AW.block ?_
  refine AW.loop (X := Nat × (List ((List UInt8) × List UInt8)) × Nat × Int) (fun (n10, y6, t7, y8) => ⟨[(1, .v (.func (.func 77) #[] #[])), (6, slE (Enc.prod Enc.str Enc.str) y6 (some t7)), (11, slE (Enc.sl Enc.byte) a1 q2), (12, i64 (a1.length : Int)), (13, i64 y8)], [], [.tok t7 71]⟩) (fun (n10, y6, t7, y8) => head_eachR_L1 F a1 n10 (y6, y8) = some (r3, r4)) (fun (n10, y6, t7, y8) => n10) (F, [], t5, 0) H (WK.at [0] (.cons (.refl _) (.cons (.refl _) (.cons (.refl _) (.cons (.refl _) (.cons (.refl _) (.nil _)))))) rfl) ?_
  rintro ⟨n10, y6, t7, y8⟩ H
  obtain ⟨n10, rfl, H⟩ := loop_s H
  replace H : head_eachR_B1 F a1 (head_eachR_L1 F a1 n10) y6 y8 = some (r3, r4) := H
  unfold head_eachR_B1 at H
  show AW _ _ _ _ _ _
  refine AW.seq ?_
  refine AW.region ?_
  show AR _ _ _ _ _ [0] _
  refine sS rfl rfl rfl (opS_lt rfl rfl) ?_
  refine AR.nil ?_
  show AW _ _ _ _ _ _
  refine AW.seq ?_
  refine AW.cond rfl (fun c11 => ?_) (fun c11 => ?_)
  ·replace H := cnd_t c11 H
   refine AW.skip ?_
   show AW _ _ _ _ _ _
   refine AW.seq ?_
   refine AW.block ?_
   refine AW.seq ?_
   obtain ⟨g12, H⟩ := grd_s H
   obtain ⟨x13, e14, H⟩ := lt_s H
   refine AW.region ?_
   show AR _ _ _ _ _ [0, 1, 2] _
   refine sS rfl rfl rfl (g_indexAddr (E := (Enc.sl Enc.byte)) Tryz.underlying23 (by kernel_rfl) rfl rfl g12 e14) ?_
   refine sS rfl rfl rfl (opS_load_cp Tryz.underlying26 rfl rfl) ?_
   refine sS rfl rfl rfl (opS_assign (av := slE _ _ _) rfl) ?_
   refine AR.nil ?_
   show AW _ _ _ _ _ _
   refine AW.seq ?_
   obtain ⟨x15, x16, x17, e18, H⟩ := bnd3_s H
   refine AW.region ?_
   show AR _ _ _ _ _ [0, 1, 2, 3, 4, 5, 6, 7, 8] _
   refine sS rfl rfl rfl (mv rfl) ?_
   refine sS rfl rfl rfl (opS_move (av := slE _ _ _) rfl) ?_
   refine AR.run rfl rfl (AO.callFp rfl (.inr ⟨rfl, rfl, rfl⟩) en77_headb rfl (w_head_Read F x13 none x15 x16 x17 e18) ?_)
   refine sS rfl rfl rfl (opS_move (av := .tup _) rfl) ?_
   refine sS rfl rfl rfl (opS_extract (av := .agg _) rfl rfl) ?_
   refine sS rfl rfl rfl (opS_extract (av := .v _) rfl rfl) ?_
   refine sX rfl rfl rfl (opX_alloc (zs := [.string ⟨#[]⟩, .string ⟨#[]⟩]) (by kernel_rfl)) ?_
   rintro _ _ ⟨o19, rfl, rfl⟩
   refine s0 rfl rfl (opR_store_agg (i := 0) (vs := [S x15, S x16]) (by kernel_rfl) rfl rfl (by simp [isCell, slE]) rfl (Nat.le_of_ble_eq_true rfl)) ?_
   refine AR.freezeCp 9 0 rfl rfl ?_
   show AR _ _ _ _ _ _ ⟨_, _, [.tok t7 71]⟩
   refine sS rfl rfl rfl (asg rfl) ?_
   refine AR.nil ?_
   show AW _ _ _ _ _ _
   refine AW.seq ?_
   refine AW.seq ?_
   refine AW.region ?_
   show AR _ _ _ _ _ [0, 1] _
   refine sS rfl rfl rfl (mv rfl) ?_
   refine sS rfl rfl rfl (opS_nei rfl rfl) ?_
   refine AR.nil ?_
   show AW _ _ _ _ _ _
   refine AW.cond rfl (fun c20 => ?_) (fun c20 => ?_)
   ·replace H := cnd_t c20 H
    refine AW.seq ?_
    refine AW.region ?_
    show AR _ _ _ _ _ [0, 1, 2] _
    refine sS rfl rfl rfl (mv rfl) ?_
    refine sS rfl rfl rfl (asg rfl) ?_
    refine sS rfl rfl rfl (asg rfl) ?_
    refine AR.nil ?_
    show AW _ _ _ _ _ _
    refine AW.ret ?_
    obtain ⟨rfl, rfl⟩ := res2 H
    exact And.intro rfl (Exists.intro _ (Exists.intro _ ⟨ResV.twoW rfl (.nil _) (.refl _), Sub.at [] rfl, rfl, rfl⟩))
   ·replace H := cnd_f c20 H
    refine AW.skip ?_
    show AW _ _ _ _ _ _
    obtain ⟨g22, H⟩ := grd_s H
    obtain ⟨x23, e24, H⟩ := lt_s H
    refine AW.region ?_
    show AR _ _ _ _ _ [0, 1, 2, 3, 4] _
    refine sS rfl rfl rfl (opS_move (av := slE _ _ _) rfl) ?_
    refine sS rfl rfl rfl (opS_load_cp_agg Tryz.underlying71 rfl (n := 2) (by kernel_rfl) rfl (Nat.le_of_ble_eq_true rfl)) ?_
    refine sR rfl rfl rfl (opR_buildBig (E := (Enc.prod Enc.str Enc.str)) (bytes := 32) (zs := [.string ⟨#[]⟩, .string ⟨#[]⟩]) (l := ([(x15, x16)] : List ((List UInt8) × List UInt8))) Tryz.underlying72 (by kernel_rfl) (by kernel_rfl) rfl rfl rfl rfl rfl) ?_
    refine sX rfl rfl rfl (g_append (E := (Enc.prod Enc.str Enc.str)) (bytes := 32) 0 Tryz.underlying72 Tryz.underlying72 rfl (by kernel_rfl) rfl rfl rfl rfl g22 e24) ?_
    rintro _ _ ⟨t21, rfl, rfl⟩
    refine sS rfl rfl rfl (opS_assign (av := slE _ _ _) rfl) ?_
    refine AR.nil ?_
    show AW _ _ _ _ _ _
    obtain ⟨g25, H⟩ := grd_s H
    refine AW.region ?_
    show AR _ _ _ _ _ [0, 1] _
    refine sS rfl rfl rfl (g_add rfl rfl g25) ?_
    refine sS rfl rfl rfl (mv rfl) ?_
    refine AR.nil ?_
    exact Exists.intro (n10, x23, t21, y8 + 1) ⟨H, Nat.lt_succ_self _, WK.at [0] (.cons (.refl _) (.cons (.refl _) (.cons (.refl _) (.cons (.refl _) (.cons (.refl _) (.nil _)))))) rfl⟩
  ·replace H := cnd_f c11 H
   refine AW.exit ?_
   exact Exists.intro (y6, t7) ⟨H, WK.at [0] (.cons (.refl _) (.nil _)) rfl⟩
 rintro ⟨y26, t27⟩ H
 replace H : head_eachR_j1 y26 = some (r3, r4) := H
 unfold head_eachR_j1 at H
 show AW _ _ _ _ _ _
 refine AW.seq ?_
 refine AW.region ?_
 show AR _ _ _ _ _ [0, 1, 2] _
 refine sS rfl rfl rfl (opS_move (av := slE _ _ _) rfl) ?_
 refine sS rfl rfl rfl (opS_assign (av := slE _ _ _) rfl) ?_
 refine sS rfl rfl rfl (asg rfl) ?_
 refine AR.nil ?_
 show AW _ _ _ _ _ _
 refine AW.ret ?_
 obtain ⟨rfl, rfl⟩ := res2 H
 exact And.intro rfl (Exists.intro _ (Exists.intro _ ⟨ResV.twoW rfl (.tok _ _ _) (.refl _), Sub.at [] rfl, rfl, rfl⟩))
set_option maxRecDepth 100000 in
set_option maxHeartbeats 1000000 in
theorem w_head_eachL (F : Nat) (a1 : List ((List UInt8) × List UInt8)) (q2 : Option Nat) (r3 : List (List UInt8)) (r4 : Int) (H : head_eachL F a1 = some (r3, r4)) : ACalls Tryz.prog 68 [slE (Enc.prod Enc.str Enc.str) a1 q2, .v (.func (.func 69) #[] #[])] [] (Ret (.tup [slE (Enc.sl Enc.byte) r3 none, i64 r4]) []) := by
 unfold head_eachL at H
 refine ACalls.of_body Tryz.func68 rfl rfl ?_
 show AW _ _ 32 _ _ _
 refine AW.seq ?_
 refine AW.region ?_
 show AR _ _ _ _ _ [0, 1] _
 refine sS rfl rfl rfl (asg rfl) ?_
 refine sS rfl rfl rfl (asg rfl) ?_
 refine AR.nil ?_
 show AW _ _ _ _ _ _
 refine AW.seq ?_
 refine AW.region ?_
 show AR _ _ _ _ _ [0] _
 refine sS rfl rfl rfl (asg rfl) ?_
 refine AR.nil ?_
 show AW _ _ _ _ _ _
 refine AW.nil_grows 6 1 26 rfl fun t5 => ?_
 show AW _ _ _ _ _ ⟨(6, slE (Enc.sl Enc.byte) [] (some t5)) :: _, _, _⟩
 refine AW.cut (X := (List (List UInt8)) × Nat) (fun (y25, t26) => ⟨[(6, slE (Enc.sl Enc.byte) y25 (some t26))], [], [.tok t26 26]⟩) (fun (y25, t26) => head_eachL_j1 y25 = some (r3, r4)) ?_ ?_
 ·
  refine AW.seq ?_
  refine AW.region ?_
  show AR _ _ _ _ _ [0, 1, 2] _
  refine sS rfl rfl rfl (opS_move (av := slE _ _ _) rfl) ?_
  refine sS rfl rfl rfl (opS_len_sl Tryz.underlying72 rfl) ?_
  refine sS rfl rfl rfl (mv rfl) ?_
  refine AR.nil ?_
  show AW _ _ _ _ _ _
  refine AW.block ?_
  refine AW.loop (X := Nat × (List (List UInt8)) × Nat × Int) (fun (n10, y6, t7, y8) => ⟨[(1, .v (.func (.func 69) #[] #[])), (6, slE (Enc.sl Enc.byte) y6 (some t7)), (11, slE (Enc.prod Enc.str Enc.str) a1 q2), (12, i64 (a1.length : Int)), (13, i64 y8)], [], [.tok t7 26]⟩) (fun (n10, y6, t7, y8) => head_eachL_L1 F a1 n10 (y6, y8) = some (r3, r4)) (fun (n10, y6, t7, y8) => n10) (F, [], t5, 0) H (WK.at [0] (.cons (.refl _) (.cons (.refl _) (.cons (.refl _) (.cons (.refl _) (.cons (.refl _) (.nil _)))))) rfl) ?_
  rintro ⟨n10, y6, t7, y8⟩ H
  obtain ⟨n10, rfl, H⟩ := loop_s H
  replace H : head_eachL_B1 F a1 (head_eachL_L1 F a1 n10) y6 y8 = some (r3, r4) := H
  unfold head_eachL_B1 at H
  show AW _ _ _ _ _ _
  refine AW.seq ?_
  refine AW.region ?_
  show AR _ _ _ _ _ [0] _
  refine sS rfl rfl rfl (opS_lt rfl rfl) ?_
  refine AR.nil ?_
  show AW _ _ _ _ _ _
  refine AW.seq ?_
  refine AW.cond rfl (fun c11 => ?_) (fun c11 => ?_)
  ·replace H := cnd_t c11 H
   refine AW.skip ?_
   show AW _ _ _ _ _ _
   refine AW.seq ?_
   refine AW.block ?_
   refine AW.seq ?_
   obtain ⟨g12, H⟩ := grd_s H
   obtain ⟨x13, e14, H⟩ := lt_s H
   refine AW.region ?_
   show AR _ _ _ _ _ [0, 1, 2, 3] _
   refine sS rfl rfl rfl (g_indexAddr (E := (Enc.prod Enc.str Enc.str)) Tryz.underlying72 (by kernel_rfl) rfl rfl g12 e14) ?_
   refine sS rfl rfl rfl (opS_load_cp_agg Tryz.underlying71 rfl (n := 2) (by kernel_rfl) rfl (Nat.le_of_ble_eq_true rfl)) ?_
   refine sX rfl rfl rfl (opX_alloc (zs := [.string ⟨#[]⟩, .string ⟨#[]⟩]) (by kernel_rfl)) ?_
   rintro _ _ ⟨o15, rfl, rfl⟩
   refine s0 rfl rfl (opR_store_agg (i := 0) (vs := [S x13.1, S x13.2]) (by kernel_rfl) rfl rfl (by simp [isCell, slE]) rfl (Nat.le_of_ble_eq_true rfl)) ?_
   refine AR.freezeCp 8 0 rfl rfl ?_
   show AR _ _ _ _ _ _ ⟨_, _, [.tok t7 26]⟩
   refine AR.nil ?_
   show AW _ _ _ _ _ _
   refine AW.seq ?_
   obtain ⟨x16, x17, e18, H⟩ := bnd2_s H
   refine AW.region ?_
   show AR _ _ _ _ _ [0, 1, 2, 3, 4, 5, 6, 7] _
   refine sS rfl rfl rfl (mv rfl) ?_
   refine sS rfl rfl rfl (opS_load_cp_agg Tryz.underlying71 rfl (n := 2) (by kernel_rfl) rfl (Nat.le_of_ble_eq_true rfl)) ?_
   refine AR.run rfl rfl (AO.callFp rfl (.inr ⟨rfl, rfl, rfl⟩) en69_headb rfl (w_head_Line F x13.1 x13.2 x16 x17 e18) ?_)
   refine sS rfl rfl rfl (opS_move (av := .tup _) rfl) ?_
   refine sS rfl rfl rfl (opS_extract (av := slE _ _ _) rfl rfl) ?_
   refine sS rfl rfl rfl (opS_extract (av := .v _) rfl rfl) ?_
   refine sS rfl rfl rfl (opS_assign (av := slE _ _ _) rfl) ?_
   refine sS rfl rfl rfl (asg rfl) ?_
   refine AR.nil ?_
   show AW _ _ _ _ _ _
   refine AW.seq ?_
   refine AW.seq ?_
   refine AW.region ?_
   show AR _ _ _ _ _ [0, 1] _
   refine sS rfl rfl rfl (mv rfl) ?_
   refine sS rfl rfl rfl (opS_nei rfl rfl) ?_
   refine AR.nil ?_
   show AW _ _ _ _ _ _
   refine AW.cond rfl (fun c19 => ?_) (fun c19 => ?_)
   ·replace H := cnd_t c19 H
    refine AW.seq ?_
    refine AW.region ?_
    show AR _ _ _ _ _ [0, 1, 2] _
    refine sS rfl rfl rfl (mv rfl) ?_
    refine sS rfl rfl rfl (asg rfl) ?_
    refine sS rfl rfl rfl (asg rfl) ?_
    refine AR.nil ?_
    show AW _ _ _ _ _ _
    refine AW.ret ?_
    obtain ⟨rfl, rfl⟩ := res2 H
    exact And.intro rfl (Exists.intro _ (Exists.intro _ ⟨ResV.twoW rfl (.nil _) (.refl _), Sub.at [] rfl, rfl, rfl⟩))
   ·replace H := cnd_f c19 H
    refine AW.skip ?_
    show AW _ _ _ _ _ _
    obtain ⟨g21, H⟩ := grd_s H
    obtain ⟨x22, e23, H⟩ := lt_s H
    refine AW.region ?_
    show AR _ _ _ _ _ [0, 1, 2, 3, 4] _
    refine sS rfl rfl rfl (opS_move (av := slE _ _ _) rfl) ?_
    refine sS rfl rfl rfl (opS_move (av := slE _ _ _) rfl) ?_
    refine sR rfl rfl rfl (opR_buildE (E := (Enc.sl Enc.byte)) (bytes := 24) (xs := [.tmp 27]) (l := ([x16] : List (List UInt8))) Tryz.underlying23 (by kernel_rfl) rfl rfl (by decide) rfl rfl) ?_
    refine sX rfl rfl rfl (g_append (E := (Enc.sl Enc.byte)) (bytes := 24) 0 Tryz.underlying23 Tryz.underlying23 rfl (by kernel_rfl) rfl rfl rfl rfl g21 e23) ?_
    rintro _ _ ⟨t20, rfl, rfl⟩
    refine sS rfl rfl rfl (opS_assign (av := slE _ _ _) rfl) ?_
    refine AR.nil ?_
    show AW _ _ _ _ _ _
    obtain ⟨g24, H⟩ := grd_s H
    refine AW.region ?_
    show AR _ _ _ _ _ [0, 1] _
    refine sS rfl rfl rfl (g_add rfl rfl g24) ?_
    refine sS rfl rfl rfl (mv rfl) ?_
    refine AR.nil ?_
    exact Exists.intro (n10, x22, t20, y8 + 1) ⟨H, Nat.lt_succ_self _, WK.at [0] (.cons (.refl _) (.cons (.refl _) (.cons (.refl _) (.cons (.refl _) (.cons (.refl _) (.nil _)))))) rfl⟩
  ·replace H := cnd_f c11 H
   refine AW.exit ?_
   exact Exists.intro (y6, t7) ⟨H, WK.at [0] (.cons (.refl _) (.nil _)) rfl⟩
 rintro ⟨y25, t26⟩ H
 replace H : head_eachL_j1 y25 = some (r3, r4) := H
 unfold head_eachL_j1 at H
 show AW _ _ _ _ _ _
 refine AW.seq ?_
 refine AW.region ?_
 show AR _ _ _ _ _ [0, 1, 2] _
 refine sS rfl rfl rfl (opS_move (av := slE _ _ _) rfl) ?_
 refine sS rfl rfl rfl (opS_assign (av := slE _ _ _) rfl) ?_
 refine sS rfl rfl rfl (asg rfl) ?_
 refine AR.nil ?_
 show AW _ _ _ _ _ _
 refine AW.ret ?_
 obtain ⟨rfl, rfl⟩ := res2 H
 exact And.intro rfl (Exists.intro _ (Exists.intro _ ⟨ResV.twoW rfl (.tok _ _ _) (.refl _), Sub.at [] rfl, rfl, rfl⟩))
set_option maxRecDepth 100000 in
set_option maxHeartbeats 1000000 in
theorem w_head_All (F : Nat) (a1 : List ((List UInt8) × List UInt8)) (q2 : Option Nat) (r3 : List UInt8) (r4 : Int) (H : head_All F a1 = some (r3, r4)) : ACalls Tryz.prog 46 [slE (Enc.prod Enc.str Enc.str) a1 q2] [] (Ret (.tup [slE Enc.byte r3 none, i64 r4]) []) := by
 unfold head_All at H
 refine ACalls.of_body Tryz.func46 rfl rfl ?_
 show AW _ _ 20 _ _ _
 refine AW.seq ?_
 refine AW.region ?_
 show AR _ _ _ _ _ [0, 1] _
 refine sS rfl rfl rfl (asg rfl) ?_
 refine sS rfl rfl rfl (asg rfl) ?_
 refine AR.nil ?_
 show AW _ _ _ _ _ _
 refine AW.seq ?_
 refine AW.seq ?_
 refine AW.region ?_
 show AR _ _ _ _ _ [0, 1, 2] _
 refine sS rfl rfl rfl (opS_move (av := slE _ _ _) rfl) ?_
 refine sS rfl rfl rfl (opS_len_sl Tryz.underlying72 rfl) ?_
 refine sS rfl rfl rfl (opS_gt rfl rfl) ?_
 refine AR.nil ?_
 show AW _ _ _ _ _ _
 refine AW.cond rfl (fun c5 => ?_) (fun c5 => ?_)
 ·replace H := cnd_t c5 H
  refine AW.seq ?_
  refine AW.region ?_
  show AR _ _ _ _ _ [0, 1] _
  refine sS rfl rfl rfl (asg rfl) ?_
  refine sS rfl rfl rfl (asg rfl) ?_
  refine AR.nil ?_
  show AW _ _ _ _ _ _
  refine AW.ret ?_
  obtain ⟨rfl, rfl⟩ := res2 H
  exact And.intro rfl (Exists.intro _ (Exists.intro _ ⟨ResV.twoW rfl (.nil _) (.refl _), Sub.at [] rfl, rfl, rfl⟩))
 ·replace H := cnd_f c5 H
  refine AW.skip ?_
  show AW _ _ _ _ _ _
  refine AW.seq ?_
  obtain ⟨x6, x7, e8, H⟩ := bnd2_s H
  refine AW.region ?_
  show AR _ _ _ _ _ [0, 1, 2, 3, 4, 5, 6] _
  refine sS rfl rfl rfl (opS_move (av := slE _ _ _) rfl) ?_
  refine AR.run rfl rfl (AO.callp rfl en68_headb rfl (w_head_eachL F a1 q2 x6 x7 e8) ?_)
  refine sS rfl rfl rfl (opS_move (av := .tup _) rfl) ?_
  refine sS rfl rfl rfl (opS_extract (av := slE _ _ _) rfl rfl) ?_
  refine sS rfl rfl rfl (opS_extract (av := .v _) rfl rfl) ?_
  refine sS rfl rfl rfl (opS_assign (av := slE _ _ _) rfl) ?_
  refine sS rfl rfl rfl (asg rfl) ?_
  refine AR.nil ?_
  show AW _ _ _ _ _ _
  refine AW.seq ?_
  refine AW.seq ?_
  refine AW.region ?_
  show AR _ _ _ _ _ [0, 1] _
  refine sS rfl rfl rfl (mv rfl) ?_
  refine sS rfl rfl rfl (opS_nei rfl rfl) ?_
  refine AR.nil ?_
  show AW _ _ _ _ _ _
  refine AW.cond rfl (fun c9 => ?_) (fun c9 => ?_)
  ·replace H := cnd_t c9 H
   refine AW.seq ?_
   refine AW.region ?_
   show AR _ _ _ _ _ [0, 1, 2] _
   refine sS rfl rfl rfl (mv rfl) ?_
   refine sS rfl rfl rfl (asg rfl) ?_
   refine sS rfl rfl rfl (asg rfl) ?_
   refine AR.nil ?_
   show AW _ _ _ _ _ _
   refine AW.ret ?_
   obtain ⟨rfl, rfl⟩ := res2 H
   exact And.intro rfl (Exists.intro _ (Exists.intro _ ⟨ResV.twoW rfl (.nil _) (.refl _), Sub.at [] rfl, rfl, rfl⟩))
  ·replace H := cnd_f c9 H
   refine AW.skip ?_
   show AW _ _ _ _ _ _
   refine AW.seq ?_
   obtain ⟨g10, H⟩ := grd_s H
   obtain ⟨x11, e12, H⟩ := lt_s H
   obtain ⟨g15, H⟩ := grd_s H
   obtain ⟨x16, e17, H⟩ := lt_s H
   refine AW.region ?_
   show AR _ _ _ _ _ [0, 1, 2, 3, 4] _
   refine sS rfl rfl rfl (opS_move (av := slE _ _ _) rfl) ?_
   refine AR.run rfl rfl (AO.callAt [] rfl en70_headb rfl (lib_bytesJoin0 x6 none g10) rfl (fun c A' h => by obtain ⟨_, h, _⟩ := h; cases h) ?_)
   rintro av A' ⟨t13, h, rfl⟩; cases h; rw [e12]
   refine sX rfl rfl rfl (g_append_strW (bytes := 1) 0 Tryz.underlying26 Tryz.underlying9 rfl (by kernel_rfl) rfl rfl rfl rfl g15 e17) ?_
   rintro _ _ ⟨t14, rfl, rfl⟩
   refine sS rfl rfl rfl (opS_assign (av := slE _ _ _) rfl) ?_
   refine sS rfl rfl rfl (asg rfl) ?_
   refine AR.nil ?_
   show AW _ _ _ _ _ _
   refine AW.ret ?_
   obtain ⟨rfl, rfl⟩ := res2 H
   exact And.intro rfl (Exists.intro _ (Exists.intro _ ⟨ResV.twoW rfl (.tok _ _ _) (.refl _), Sub.at [] rfl, rfl, rfl⟩))
set_option maxRecDepth 100000 in
set_option maxHeartbeats 1000000 in
theorem w_head_lines (F : Nat) (a1 : List UInt8) (q2 : Option Nat) (r3 : List (List UInt8)) (r4 : List UInt8) (r5 : Bool) (H : head_lines F a1 = some (r3, r4, r5)) : ACalls Tryz.prog 75 [slE Enc.byte a1 q2] [] (Ret (.tup [slE (Enc.sl Enc.byte) r3 none, slE Enc.byte r4 none, B r5]) []) := by
 unfold head_lines at H
 refine ACalls.of_body Tryz.func75 rfl rfl ?_
 show AW _ _ 54 _ _ _
 refine AW.seq ?_
 refine AW.region ?_
 show AR _ _ _ _ _ [0, 1, 2] _
 refine sS rfl rfl rfl (asg rfl) ?_
 refine sS rfl rfl rfl (asg rfl) ?_
 refine sS rfl rfl rfl (asg rfl) ?_
 refine AR.nil ?_
 show AW _ _ _ _ _ _
 refine AW.nil_grows 2 1 26 rfl fun t6 => ?_
 show AW _ _ _ _ _ ⟨(2, slE (Enc.sl Enc.byte) [] (some t6)) :: _, _, _⟩
 refine AW.cut (X := (List UInt8) × (List (List UInt8)) × Nat) (fun (y50, y51, t52) => ⟨[(0, slE Enc.byte y50 none), (2, slE (Enc.sl Enc.byte) y51 (some t52))], [], [.tok t52 26]⟩) (fun (y50, y51, t52) => head_lines_j1 y50 y51 = some (r3, r4, r5)) ?_ ?_
 ·
  refine AW.block ?_
  refine AW.loop (X := Nat × (List UInt8) × (List (List UInt8)) × Nat) (fun (n11, y7, y8, t9) => ⟨[(0, slE Enc.byte y7 none), (2, slE (Enc.sl Enc.byte) y8 (some t9))], [], [.tok t9 26]⟩) (fun (n11, y7, y8, t9) => head_lines_L2 F n11 (y7, y8) = some (r3, r4, r5)) (fun (n11, y7, y8, t9) => n11) (F, a1, [], t6) H (WK.at [0] (.cons (.tok _ _ _) (.cons (.refl _) (.nil _))) rfl) ?_
  rintro ⟨n11, y7, y8, t9⟩ H
  obtain ⟨n11, rfl, H⟩ := loop_s H
  replace H : head_lines_B2 F (head_lines_L2 F n11) y7 y8 = some (r3, r4, r5) := H
  unfold head_lines_B2 at H
  show AW _ _ _ _ _ _
  refine AW.seq ?_
  refine AW.seq ?_
  obtain ⟨x13, e14, H⟩ := lt_s H
  refine AW.region ?_
  show AR _ _ _ _ _ [0, 1, 2, 3, 4] _
  refine sS rfl rfl rfl (opS_move (av := slE _ _ _) rfl) ?_
  refine sX rfl rfl rfl (opX_buildE (E := Enc.byte) (bytes := 1) (xs := [.const _, .const _]) (l := ([13, 10] : List UInt8)) Tryz.underlying26 (by kernel_rfl) rfl rfl (by decide) rfl rfl) ?_
  rintro _ _ ⟨t12, rfl, rfl⟩
  refine sR rfl rfl rfl (opR_conv_same 0 Tryz.underlying26 Tryz.underlying5 rfl (by simp) rfl) ?_
  refine AR.run rfl rfl (AO.callp rfl en50_headb rfl (show ACalls _ _ _ [] (Ret (B x13) []) from by subst e14; exact lib_bytesHasPrefix y7 ([13, 10] : List UInt8) none (some t12)) ?_)
  refine sS rfl rfl rfl (opS_not rfl) ?_
  refine AR.nil ?_
  show AW _ _ _ _ _ _
  refine AW.cond rfl (fun c15 => ?_) (fun c15 => ?_)
  ·replace H := cnd_t c15 H
   refine AW.skip ?_
   show AW _ _ _ _ _ _
   refine AW.block ?_
   refine AW.seq ?_
   refine AW.region ?_
   show AR _ _ _ _ _ [0] _
   refine sS rfl rfl rfl (asg rfl) ?_
   refine AR.nil ?_
   show AW _ _ _ _ _ _
   refine AW.cut (X := Int) (fun y38 => ⟨[(0, slE Enc.byte y7 none), (2, slE (Enc.sl Enc.byte) y8 (some t9)), (5, i64 y38)], [], [.tok t9 26]⟩) (fun y38 => head_lines_j2 y7 y8 (head_lines_L2 F n11) y38 = some (r3, r4, r5)) ?_ ?_
   ·
    refine AW.block ?_
    refine AW.loop (X := Nat × Int) (fun (n18, y16) => ⟨[(0, slE Enc.byte y7 none), (2, slE (Enc.sl Enc.byte) y8 (some t9)), (5, i64 y16)], [], [.tok t9 26]⟩) (fun (n18, y16) => head_lines_L1 y7 y8 (head_lines_L2 F n11) n18 y16 = some (r3, r4, r5)) (fun (n18, y16) => n18) (F, 0) H (WK.at [1] (.cons (.refl _) (.cons (.refl _) (.cons (.refl _) (.nil _)))) rfl) ?_
    rintro ⟨n18, y16⟩ H
    obtain ⟨n18, rfl, H⟩ := loop_s H
    replace H : head_lines_B1 y7 y8 (head_lines_L2 F n11) (head_lines_L1 y7 y8 (head_lines_L2 F n11) n18) y16 = some (r3, r4, r5) := H
    unfold head_lines_B1 at H
    show AW _ _ _ _ _ _
    refine AW.seq ?_
    refine AW.seq ?_
    obtain ⟨g21, H⟩ := grdc_s H
    obtain ⟨x22, e23, H⟩ := lt_s H
    refine AW.region ?_
    show AR _ _ _ _ _ [0, 1, 2, 3, 4, 5, 6, 7, 8, 9, 10, 11, 12, 13, 14] _
    refine sS rfl rfl rfl (mv rfl) ?_
    refine sS rfl rfl rfl (opS_eqi rfl rfl) ?_
    refine sS rfl rfl rfl (mv rfl) ?_
    refine AR.meet (l := []) 26 (B ((decide (y16 = 0)) || ((decide (y16 < (y7.length : Int))) && (decide (x22 = 32))))) (fun K => ?_) ?_
    ·rcases Bool.eq_false_or_eq_true (decide (y16 = 0)) with h19 | h19
     ·
      refine gF h19 rfl rfl rfl rfl rfl ?_
      refine gF h19 rfl rfl rfl rfl rfl ?_
      refine gF h19 rfl rfl rfl rfl rfl ?_
      refine gF h19 rfl rfl rfl rfl rfl ?_
      refine gF h19 rfl rfl rfl rfl rfl ?_
      refine gU rfl rfl rfl rfl rfl ?_
      refine gU rfl rfl rfl rfl rfl ?_
      refine gU rfl rfl rfl rfl rfl ?_
      refine gU rfl rfl rfl rfl rfl ?_
      refine gU rfl rfl rfl rfl rfl ?_
      refine gF h19 rfl rfl rfl rfl rfl ?_
      refine sS rfl rfl rfl (opS_pick_t (av := .v _) rfl h19 rfl) ?_
      exact K _ 11 _ (B_congr (or_t h19)) rfl rfl
     ·
      refine gT h19 rfl rfl rfl rfl rfl rfl (AO.ops rfl rfl (mv rfl) ?_)
      refine gT h19 rfl rfl rfl rfl rfl rfl (AO.ops rfl rfl (opS_move (av := slE _ _ _) rfl) ?_)
      refine gT h19 rfl rfl rfl rfl rfl rfl (AO.ops rfl rfl (opS_len_sl Tryz.underlying26 rfl) ?_)
      refine gT h19 rfl rfl rfl rfl rfl rfl (AO.ops rfl rfl (opS_lt rfl rfl) ?_)
      refine gT h19 rfl rfl rfl rfl rfl rfl (AO.ops rfl rfl (mv rfl) ?_)
      refine AR.meet (l := [14]) 25 (B ((decide (y16 < (y7.length : Int))) && (decide (x22 = 32)))) (fun K => ?_) ?_
      ·rcases Bool.eq_false_or_eq_true (decide (y16 < (y7.length : Int))) with h20 | h20
       ·
        refine gT h20 rfl rfl rfl rfl rfl rfl (AO.ops rfl rfl (opS_move (av := slE _ _ _) rfl) ?_)
        refine gT h20 rfl rfl rfl rfl rfl rfl (AO.ops rfl rfl (mv rfl) ?_)
        refine gT h20 rfl rfl rfl rfl rfl rfl (AO.ops rfl rfl (g_indexAddr (E := Enc.byte) Tryz.underlying26 (by kernel_rfl) rfl rfl (g21 (and_tt (nf h19) h20)) e23) ?_)
        refine gT h20 rfl rfl rfl rfl rfl rfl (AO.ops rfl rfl (opS_load_cp Tryz.underlying5 rfl rfl) ?_)
        refine gT h20 rfl rfl rfl rfl rfl rfl (AO.ops rfl rfl (g_eq8 (a := x22) (b := 32) rfl rfl) ?_)
        refine gT h19 rfl rfl rfl rfl rfl rfl (AO.ops rfl rfl (opS_pick_t (av := .v _) rfl h20 rfl) ?_)
        exact K _ 5 _ (B_congr (and_t h20)) rfl rfl
       ·
        refine gF h20 rfl rfl rfl rfl rfl ?_
        refine gF h20 rfl rfl rfl rfl rfl ?_
        refine gF h20 rfl rfl rfl rfl rfl ?_
        refine gF h20 rfl rfl rfl rfl rfl ?_
        refine gF h20 rfl rfl rfl rfl rfl ?_
        refine gT h19 rfl rfl rfl rfl rfl rfl (AO.ops rfl rfl (opS_pick_f (av := .v _) rfl h20 rfl) ?_)
        exact K _ 5 _ (B_congr (and_f h20)) rfl rfl
      refine sS rfl rfl rfl (opS_pick_f (av := .v _) rfl h19 rfl) ?_
      exact K _ 6 _ (B_congr (or_f h19)) rfl rfl
    refine AR.nil ?_
    show AW _ _ _ _ _ _
    refine AW.cond rfl (fun c24 => ?_) (fun c24 => ?_)
    ·replace H := cnd_t c24 H
     refine AW.skip ?_
     show AW _ _ _ _ _ _
     refine AW.block ?_
     refine AW.seq ?_
     obtain ⟨g25, H⟩ := grd_s H
     obtain ⟨x26, e27, H⟩ := lt_s H
     obtain ⟨g29, H⟩ := grd_s H
     obtain ⟨g30, H⟩ := grd_s H
     obtain ⟨g31, H⟩ := grd_s H
     obtain ⟨x32, e33, H⟩ := lt_s H
     refine AW.region ?_
     show AR _ _ _ _ _ [0, 1, 2, 3, 4, 5, 6] _
     refine sS rfl rfl rfl (opS_move (av := slE _ _ _) rfl) ?_
     refine sS rfl rfl rfl (mv rfl) ?_
     refine sS rfl rfl rfl (g_from_sl (E := Enc.byte) Tryz.underlying26 (by kernel_rfl) rfl rfl g25 e27) ?_
     refine sX rfl rfl rfl (opX_buildE (E := Enc.byte) (bytes := 1) (xs := [.const _, .const _]) (l := ([13, 10] : List UInt8)) Tryz.underlying26 (by kernel_rfl) rfl rfl (by decide) rfl rfl) ?_
     rintro _ _ ⟨t28, rfl, rfl⟩
     refine sR rfl rfl rfl (opR_conv_same 0 Tryz.underlying26 Tryz.underlying5 rfl (by simp) rfl) ?_
     refine AR.run rfl rfl (AO.callp rfl en34_headb rfl (show ACalls _ _ _ [] (Ret (i64 x32) []) from by subst e33; exact lib_bytesIndex x26 ([13, 10] : List UInt8) none (some t28) (okS_s g29) (of_decide_eq_true g30) (okS_s g31)) ?_)
     refine sS rfl rfl rfl (asg rfl) ?_
     refine AR.nil ?_
     show AW _ _ _ _ _ _
     refine AW.seq ?_
     refine AW.seq ?_
     refine AW.region ?_
     show AR _ _ _ _ _ [0, 1] _
     refine sS rfl rfl rfl (mv rfl) ?_
     refine sS rfl rfl rfl (opS_lt rfl rfl) ?_
     refine AR.nil ?_
     show AW _ _ _ _ _ _
     refine AW.cond rfl (fun c34 => ?_) (fun c34 => ?_)
     ·replace H := cnd_t c34 H
      refine AW.seq ?_
      refine AW.region ?_
      show AR _ _ _ _ _ [0, 1, 2] _
      refine sS rfl rfl rfl (asg rfl) ?_
      refine sS rfl rfl rfl (asg rfl) ?_
      refine sS rfl rfl rfl (asg rfl) ?_
      refine AR.nil ?_
      show AW _ _ _ _ _ _
      refine AW.nil_grows 2 1 26 rfl fun t35 => ?_
      show AW _ _ _ _ _ ⟨(2, slE (Enc.sl Enc.byte) [] (some t35)) :: _, _, _⟩
      refine AW.ret ?_
      obtain ⟨rfl, rfl, rfl⟩ := res3 H
      exact And.intro rfl (Exists.intro _ (Exists.intro _ ⟨ResV.threeW rfl (.tok _ _ _) (.nil _) (.refl _), Sub.at [] rfl, rfl, rfl⟩))
     ·replace H := cnd_f c34 H
      refine AW.skip ?_
      show AW _ _ _ _ _ _
      obtain ⟨g36, H⟩ := grd_s H
      obtain ⟨g37, H⟩ := grd_s H
      refine AW.region ?_
      show AR _ _ _ _ _ [0, 1, 2, 3, 4] _
      refine sS rfl rfl rfl (mv rfl) ?_
      refine sS rfl rfl rfl (mv rfl) ?_
      refine sS rfl rfl rfl (g_add rfl rfl g36) ?_
      refine sS rfl rfl rfl (g_add rfl rfl g37) ?_
      refine sS rfl rfl rfl (asg rfl) ?_
      refine AR.nil ?_
      exact Exists.intro (n18, y16 + (x32 + 2)) ⟨H, Nat.lt_succ_self _, WK.at [1] (.cons (.refl _) (.cons (.refl _) (.cons (.refl _) (.nil _)))) rfl⟩
    ·replace H := cnd_f c24 H
     refine AW.exit ?_
     exact Exists.intro y16 ⟨H, WK.at [0] (.cons (.refl _) (.cons (.refl _) (.cons (.refl _) (.nil _)))) rfl⟩
   rintro y38 H
   replace H : head_lines_j2 y7 y8 (head_lines_L2 F n11) y38 = some (r3, r4, r5) := H
   unfold head_lines_j2 at H
   show AW _ _ _ _ _ _
   obtain ⟨g40, H⟩ := grd_s H
   obtain ⟨x41, e42, H⟩ := lt_s H
   obtain ⟨g43, H⟩ := grd_s H
   obtain ⟨x44, e45, H⟩ := lt_s H
   obtain ⟨g47, H⟩ := grd_s H
   obtain ⟨x48, e49, H⟩ := lt_s H
   refine AW.region_draw (by kernel_rfl) ?_
   show AI _ _ _ _ _ 11 (Array.replicate 11 false) _
   refine AI.take (i := 0) rfl rfl (by kernel_rfl) (by kernel_rfl) (by kernel_rfl) (fun _ _ h => h) (opS_move (av := slE _ _ _) rfl) ?_
   show AI _ _ _ _ _ _ #[true, false, false, false, false, false, false, false, false, false, false] _
   refine AI.take (i := 1) rfl rfl (by kernel_rfl) (by kernel_rfl) (by kernel_rfl) (fun _ _ h => h) (opS_move (av := slE _ _ _) rfl) ?_
   show AI _ _ _ _ _ _ #[true, true, false, false, false, false, false, false, false, false, false] _
   refine AI.take (i := 2) rfl rfl (by kernel_rfl) (by kernel_rfl) (by kernel_rfl) (fun _ _ h => h) (mv rfl) ?_
   show AI _ _ _ _ _ _ #[true, true, true, false, false, false, false, false, false, false, false] _
   refine AI.take (i := 3) rfl rfl (by kernel_rfl) (by kernel_rfl) (by kernel_rfl) (fun _ _ h => h) (g_to_sl (E := Enc.byte) Tryz.underlying26 (by kernel_rfl) rfl rfl g40 e42) ?_
   show AI _ _ _ _ _ _ #[true, true, true, true, false, false, false, false, false, false, false] _
   refine AI.take (i := 6) rfl rfl (by kernel_rfl) (by kernel_rfl) (by kernel_rfl) (fun _ _ h => h) (opS_move (av := slE _ _ _) rfl) ?_
   show AI _ _ _ _ _ _ #[true, true, true, true, false, false, true, false, false, false, false] _
   refine AI.take (i := 7) rfl rfl (by kernel_rfl) (by kernel_rfl) (by kernel_rfl) (fun _ _ h => h) (mv rfl) ?_
   show AI _ _ _ _ _ _ #[true, true, true, true, false, false, true, true, false, false, false] _
   refine AI.take (i := 8) rfl rfl (by kernel_rfl) (by kernel_rfl) (by kernel_rfl) (fun _ _ h => h) (g_from_sl (E := Enc.byte) Tryz.underlying26 (by kernel_rfl) rfl rfl g43 e45) ?_
   show AI _ _ _ _ _ _ #[true, true, true, true, false, false, true, true, true, false, false] _
   refine AI.one (i := 4) (by kernel_rfl) rfl rfl ?_
   refine AIO.op rfl (opR_buildE (E := (Enc.sl Enc.byte)) (bytes := 24) (xs := [.tmp 42]) (l := ([x41] : List (List UInt8))) Tryz.underlying23 (by kernel_rfl) rfl rfl (by decide) rfl rfl) ?_
   show AI _ _ _ _ _ _ #[true, true, true, true, true, false, true, true, true, false, false] _
   refine AI.one (i := 5) (by kernel_rfl) rfl rfl ?_
   refine AIO.opx rfl (g_append (E := (Enc.sl Enc.byte)) (bytes := 24) 0 Tryz.underlying23 Tryz.underlying23 rfl (by kernel_rfl) rfl rfl rfl rfl g47 e49) ?_
   rintro _ _ ⟨t46, rfl, rfl⟩
   show AI _ _ _ _ _ _ #[true, true, true, true, true, true, true, true, true, false, false] _
   refine AI.take (i := 9) rfl rfl (by kernel_rfl) (by kernel_rfl) (by kernel_rfl) (fun _ _ h => h) (opS_assign (av := slE _ _ _) rfl) ?_
   show AI _ _ _ _ _ _ #[true, true, true, true, true, true, true, true, true, true, false] _
   refine AI.take (i := 10) rfl rfl (by kernel_rfl) (by kernel_rfl) (by kernel_rfl) (fun _ _ h => h) (opS_assign (av := slE _ _ _) rfl) ?_
   show AI _ _ _ _ _ _ #[true, true, true, true, true, true, true, true, true, true, true] _
   refine AI.done rfl ?_
   exact Exists.intro (n11, x44, x48, t46) ⟨H, Nat.lt_succ_self _, WK.at [0] (.cons (.refl _) (.cons (.refl _) (.nil _))) rfl⟩
  ·replace H := cnd_f c15 H
   refine AW.exit ?_
   exact Exists.intro (y7, y8, t9) ⟨H, WK.at [1] (.cons (.refl _) (.cons (.refl _) (.nil _))) rfl⟩
 rintro ⟨y50, y51, t52⟩ H
 replace H : head_lines_j1 y50 y51 = some (r3, r4, r5) := H
 unfold head_lines_j1 at H
 show AW _ _ _ _ _ _
 refine AW.seq ?_
 obtain ⟨g54, H⟩ := grd_s H
 obtain ⟨x55, e56, H⟩ := lt_s H
 refine AW.region_draw (by kernel_rfl) ?_
 show AI _ _ _ _ _ 9 (Array.replicate 9 false) _
 refine AI.take (i := 0) rfl rfl (by kernel_rfl) (by kernel_rfl) (by kernel_rfl) (fun _ _ h => h) (opS_move (av := slE _ _ _) rfl) ?_
 show AI _ _ _ _ _ _ #[true, false, false, false, false, false, false, false, false] _
 refine AI.take (i := 1) rfl rfl (by kernel_rfl) (by kernel_rfl) (by kernel_rfl) (fun _ _ h => h) (opS_move (av := slE _ _ _) rfl) ?_
 show AI _ _ _ _ _ _ #[true, true, false, false, false, false, false, false, false] _
 refine AI.take (i := 2) rfl rfl (by kernel_rfl) (by kernel_rfl) (by kernel_rfl) (fun _ _ h => h) (g_from_sl (E := Enc.byte) Tryz.underlying26 (by kernel_rfl) rfl rfl g54 e56) ?_
 show AI _ _ _ _ _ _ #[true, true, true, false, false, false, false, false, false] _
 refine AI.take (i := 3) rfl rfl (by kernel_rfl) (by kernel_rfl) (by kernel_rfl) (fun _ _ h => h) (opS_move (av := slE _ _ _) rfl) ?_
 show AI _ _ _ _ _ _ #[true, true, true, true, false, false, false, false, false] _
 refine AI.take (i := 4) rfl rfl (by kernel_rfl) (by kernel_rfl) (by kernel_rfl) (fun _ _ h => h) (opS_len_sl Tryz.underlying23 rfl) ?_
 show AI _ _ _ _ _ _ #[true, true, true, true, true, false, false, false, false] _
 refine AI.take (i := 5) rfl rfl (by kernel_rfl) (by kernel_rfl) (by kernel_rfl) (fun _ _ h => h) (opS_le rfl rfl) ?_
 show AI _ _ _ _ _ _ #[true, true, true, true, true, true, false, false, false] _
 refine AI.take (i := 6) rfl rfl (by kernel_rfl) (by kernel_rfl) (by kernel_rfl) (fun _ _ h => h) (opS_assign (av := slE _ _ _) rfl) ?_
 show AI _ _ _ _ _ _ #[true, true, true, true, true, true, true, false, false] _
 refine AI.take (i := 7) rfl rfl (by kernel_rfl) (by kernel_rfl) (by kernel_rfl) (fun _ _ h => h) (opS_assign (av := slE _ _ _) rfl) ?_
 show AI _ _ _ _ _ _ #[true, true, true, true, true, true, true, true, false] _
 refine AI.take (i := 8) rfl rfl (by kernel_rfl) (by kernel_rfl) (by kernel_rfl) (fun _ _ h => h) (asg rfl) ?_
 show AI _ _ _ _ _ _ #[true, true, true, true, true, true, true, true, true] _
 refine AI.done rfl ?_
 show AW _ _ _ _ _ _
 refine AW.ret ?_
 obtain ⟨rfl, rfl, rfl⟩ := res3 H
 exact And.intro rfl (Exists.intro _ (Exists.intro _ ⟨ResV.threeW rfl (.tok _ _ _) (.refl _) (.refl _), Sub.at [] rfl, rfl, rfl⟩))
set_option maxRecDepth 100000 in
set_option maxHeartbeats 1000000 in
theorem w_head_Cut (F : Nat) (a1 : List UInt8) (q2 : Option Nat) (r3 : List ((List UInt8) × List UInt8)) (r4 : List UInt8) (r5 : Int) (H : head_Cut F a1 = some (r3, r4, r5)) : ACalls Tryz.prog 55 [slE Enc.byte a1 q2] [] (Ret (.tup [slE (Enc.prod Enc.str Enc.str) r3 none, slE Enc.byte r4 none, i64 r5]) []) := by
 unfold head_Cut at H
 refine ACalls.of_body Tryz.func55 rfl rfl ?_
 show AW _ _ 28 _ _ _
 refine AW.seq ?_
 refine AW.region ?_
 show AR _ _ _ _ _ [0, 1, 2] _
 refine sS rfl rfl rfl (asg rfl) ?_
 refine sS rfl rfl rfl (asg rfl) ?_
 refine sS rfl rfl rfl (asg rfl) ?_
 refine AR.nil ?_
 show AW _ _ _ _ _ _
 refine AW.seq ?_
 obtain ⟨x6, x7, x8, e9, H⟩ := bnd3_s H
 refine AW.region ?_
 show AR _ _ _ _ _ [0, 1, 2, 3, 4, 5, 6, 7, 8] _
 refine sS rfl rfl rfl (opS_move (av := slE _ _ _) rfl) ?_
 refine AR.run rfl rfl (AO.callp rfl en75_headb rfl (w_head_lines F a1 q2 x6 x7 x8 e9) ?_)
 refine sS rfl rfl rfl (opS_move (av := .tup _) rfl) ?_
 refine sS rfl rfl rfl (opS_extract (av := slE _ _ _) rfl rfl) ?_
 refine sS rfl rfl rfl (opS_extract (av := slE _ _ _) rfl rfl) ?_
 refine sS rfl rfl rfl (opS_extract (av := .v _) rfl rfl) ?_
 refine sS rfl rfl rfl (opS_assign (av := slE _ _ _) rfl) ?_
 refine sS rfl rfl rfl (opS_assign (av := slE _ _ _) rfl) ?_
 refine sS rfl rfl rfl (asg rfl) ?_
 refine AR.nil ?_
 show AW _ _ _ _ _ _
 refine AW.seq ?_
 refine AW.seq ?_
 refine AW.region ?_
 show AR _ _ _ _ _ [0, 1] _
 refine sS rfl rfl rfl (mv rfl) ?_
 refine sS rfl rfl rfl (opS_not rfl) ?_
 refine AR.nil ?_
 show AW _ _ _ _ _ _
 refine AW.cond rfl (fun c10 => ?_) (fun c10 => ?_)
 ·replace H := cnd_t c10 H
  refine AW.seq ?_
  refine AW.region ?_
  show AR _ _ _ _ _ [0, 1, 2] _
  refine sS rfl rfl rfl (asg rfl) ?_
  refine sS rfl rfl rfl (asg rfl) ?_
  refine sS rfl rfl rfl (asg rfl) ?_
  refine AR.nil ?_
  show AW _ _ _ _ _ _
  refine AW.ret ?_
  obtain ⟨rfl, rfl, rfl⟩ := res3 H
  exact And.intro rfl (Exists.intro _ (Exists.intro _ ⟨ResV.threeW rfl (.nil _) (.nil _) (.refl _), Sub.at [] rfl, rfl, rfl⟩))
 ·replace H := cnd_f c10 H
  refine AW.skip ?_
  show AW _ _ _ _ _ _
  refine AW.seq ?_
  obtain ⟨x11, x12, e13, H⟩ := bnd2_s H
  refine AW.region ?_
  show AR _ _ _ _ _ [0, 1, 2, 3, 4, 5, 6] _
  refine sS rfl rfl rfl (opS_move (av := slE _ _ _) rfl) ?_
  refine AR.run rfl rfl (AO.callp rfl en76_headb rfl (w_head_eachR F x6 none x11 x12 e13) ?_)
  refine sS rfl rfl rfl (opS_move (av := .tup _) rfl) ?_
  refine sS rfl rfl rfl (opS_extract (av := slE _ _ _) rfl rfl) ?_
  refine sS rfl rfl rfl (opS_extract (av := .v _) rfl rfl) ?_
  refine sS rfl rfl rfl (opS_assign (av := slE _ _ _) rfl) ?_
  refine sS rfl rfl rfl (asg rfl) ?_
  refine AR.nil ?_
  show AW _ _ _ _ _ _
  refine AW.seq ?_
  refine AW.seq ?_
  refine AW.region ?_
  show AR _ _ _ _ _ [0, 1] _
  refine sS rfl rfl rfl (mv rfl) ?_
  refine sS rfl rfl rfl (opS_nei rfl rfl) ?_
  refine AR.nil ?_
  show AW _ _ _ _ _ _
  refine AW.cond rfl (fun c14 => ?_) (fun c14 => ?_)
  ·replace H := cnd_t c14 H
   refine AW.seq ?_
   refine AW.region ?_
   show AR _ _ _ _ _ [0, 1, 2] _
   refine sS rfl rfl rfl (asg rfl) ?_
   refine sS rfl rfl rfl (asg rfl) ?_
   refine sS rfl rfl rfl (asg rfl) ?_
   refine AR.nil ?_
   show AW _ _ _ _ _ _
   refine AW.ret ?_
   obtain ⟨rfl, rfl, rfl⟩ := res3 H
   exact And.intro rfl (Exists.intro _ (Exists.intro _ ⟨ResV.threeW rfl (.nil _) (.nil _) (.refl _), Sub.at [] rfl, rfl, rfl⟩))
  ·replace H := cnd_f c14 H
   refine AW.skip ?_
   show AW _ _ _ _ _ _
   refine AW.seq ?_
   obtain ⟨g15, H⟩ := grd_s H
   obtain ⟨x16, e17, H⟩ := lt_s H
   refine AW.region ?_
   show AR _ _ _ _ _ [0, 1, 2, 3, 4, 5] _
   refine sS rfl rfl rfl (opS_move (av := slE _ _ _) rfl) ?_
   refine sS rfl rfl rfl (opS_move (av := slE _ _ _) rfl) ?_
   refine AR.run rfl rfl (AO.callp rfl en78_headb rfl (show ACalls _ _ _ [] (Ret (slE Enc.byte x16 none) []) from by subst e17; exact lib_bytesClone x7 none (okS_s g15)) ?_)
   refine sS rfl rfl rfl (opS_assign (av := slE _ _ _) rfl) ?_
   refine sS rfl rfl rfl (opS_assign (av := slE _ _ _) rfl) ?_
   refine sS rfl rfl rfl (asg rfl) ?_
   refine AR.nil ?_
   show AW _ _ _ _ _ _
   refine AW.ret ?_
   obtain ⟨rfl, rfl, rfl⟩ := res3 H
   exact And.intro rfl (Exists.intro _ (Exists.intro _ ⟨ResV.threeW rfl (.refl _) (.refl _) (.refl _), Sub.at [] rfl, rfl, rfl⟩))
end Go.Proofs.YtdaafnaokdigbaaGreatDoor
