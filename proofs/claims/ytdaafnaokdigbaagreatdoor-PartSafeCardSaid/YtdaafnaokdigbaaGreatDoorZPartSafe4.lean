/-
  Texts in one (only what PartSafe needs): PartAP, PartAW, PartLP, PartLW, LPartSafeP, LPartSafeW, HeadRP, HdSp, HdA, HdD, HdR, HdW, HdL, HdF, HdV, QpPure, QpMore, PartRP, PtQ, HdB, HdK, HdC, PtB, PtSafe, AvOpen.
-/
import Derived.Test.YtdaafnaokdigbaaGreatDoorZPartSafe3
import Derived.Lib.ItoaNum
import Derived.Test.YtdaafnaokdigbaaGreatDoorShelf
import Derived.Test.YtdaafnaokdigbaaGreatDoorChecked
import Derived.Lib.SplitLaws
import Derived.Lib.IndexMore
import Derived.Lib.TrimByte
import Derived.Laws.RangeString
import Derived.Laws.RangeAny
import Derived.RowKit
import Derived.OpenShut
import Derived.ChangeSlices
import Derived.SliceStrings
set_option linter.unusedVariables false
set_option linter.unusedSimpArgs false
namespace Go.Pv
def parta_k1 : List UInt8 := [97, 98, 99, 100, 101, 102, 103, 104, 105, 106, 107, 108, 109, 110, 111, 112, 113, 114, 115, 116, 117, 118, 119, 120, 121, 122, 48, 49, 50, 51, 52, 53, 54, 55, 56, 57, 47, 45, 61, 59, 32]
def parta_k2 : List UInt8 := [67, 111, 110, 116, 101, 110, 116, 45, 84, 114, 97, 110, 115, 102, 101, 114, 45, 69, 110, 99, 111, 100, 105, 110, 103]
def part_hasC (F : Nat) (a1 : List UInt8) (a4 : List UInt8) : Option Bool :=
grd (okCat a4.length) <|
grd (okS a1.length) <|
grd (decide (2 ≤ a4.length)) <|
grd (okS a4.length) <|
lt (Go.Lib.contains a1 a4) fun x11 =>
some x11
def part_IndexB_j1 : Option Int :=
some (-1)
def part_IndexB_B1 (F : Nat) (a1 : List (List UInt8)) (a4 : List UInt8) (rec7 : Int → Option Int) (y6 : Int) : Option Int :=
bif decide (y6 < (a1.length : Int)) then
  grd (okAt y6 a1.length) <|
  lt (at_ a1 y6) fun x11 =>
  bnd (part_hasC F x11 a4) fun x13 =>
  bif x13 then
    some y6
  else
    grd (okI (y6 + 1)) <|
    rec7 (y6 + 1)
else
  part_IndexB_j1
def part_IndexB_L1 (F : Nat) (a1 : List (List UInt8)) (a4 : List UInt8) (n : Nat) : Int → Option Int :=
  loop (fun rec x => part_IndexB_B1 F a1 a4 rec x) n
def part_IndexB (F : Nat) (a1 : List (List UInt8)) (a4 : List UInt8) : Option Int :=
part_IndexB_L1 F a1 a4 F 0
def part_ContainsB (F : Nat) (a1 : List (List UInt8)) (a4 : List UInt8) : Option Bool :=
bnd (part_IndexB F a1 a4) fun x6 =>
some (decide (0 ≤ x6))
def part_Boundary_B1 (F : Nat) (a1 : List (List UInt8)) (rec5 : Int → Option ((List UInt8))) (y4 : Int) : Option ((List UInt8)) :=
grd (okI y4) <|
lt (Go.Lib.itoa y4) fun x8 =>
grd (okCat (([61, 95] : List UInt8).length + x8.length)) <|
lt (([61, 95] : List UInt8) ++ x8) fun x11 =>
bnd (part_ContainsB F a1 x11) fun x14 =>
bif !x14 then
  some x11
else
  grd (okI (y4 + 1)) <|
  rec5 (y4 + 1)
def part_Boundary_L1 (F : Nat) (a1 : List (List UInt8)) (n : Nat) : Int → Option ((List UInt8)) :=
  loop (fun rec x => part_Boundary_B1 F a1 rec x) n
def part_Boundary (F : Nat) (a1 : List (List UInt8)) : Option ((List UInt8)) :=
part_Boundary_L1 F a1 F 0
def part_kind_j1 (a1 : List UInt8) : Option Bool :=
grdc ((!decide (a1 = ([] : List UInt8))) && (decide ((a1.length : Int) ≤ 60))) (okS a1.length) <|
lt (Go.Lib.trimB a1 32) fun x18 =>
grdc (((!decide (a1 = ([] : List UInt8))) && (decide ((a1.length : Int) ≤ 60))) && (decide (x18 = a1))) (okS a1.length) <|
lt (Go.Lib.contains a1 ([32, 32] : List UInt8)) fun x22 =>
some ((((!decide (a1 = ([] : List UInt8))) && (decide ((a1.length : Int) ≤ 60))) && (decide (x18 = a1))) && (!x22))
def part_kind_B1 (a1 : List UInt8) (rec4 : Int → Option Bool) (y3 : Int) : Option Bool :=
bif decide (y3 < (a1.length : Int)) then
  grd (okAt y3 a1.length) <|
  lt (at_ a1 y3) fun x8 =>
  lt (Go.Lib.indexByte parta_k1 x8) fun x10 =>
  bif decide (x10 < 0) then
    some false
  else
    grd (okI (y3 + 1)) <|
    rec4 (y3 + 1)
else
  part_kind_j1 a1
def part_kind_L1 (a1 : List UInt8) (n : Nat) : Int → Option Bool :=
  loop (fun rec x => part_kind_B1 a1 rec x) n
def part_kind (F : Nat) (a1 : List UInt8) : Option Bool :=
part_kind_L1 a1 F 0
def part_notC (F : Nat) (a1 : List UInt8) : Option Bool :=
bnd (part_kind F a1) fun x3 =>
some (!x3)
def part_IndexK_j1 : Option Int :=
some (-1)
def part_IndexK_B1 (F : Nat) (a1 : List (List UInt8)) (rec5 : Int → Option Int) (y4 : Int) : Option Int :=
bif decide (y4 < (a1.length : Int)) then
  grd (okAt y4 a1.length) <|
  lt (at_ a1 y4) fun x9 =>
  bnd (part_notC F x9) fun x11 =>
  bif x11 then
    some y4
  else
    grd (okI (y4 + 1)) <|
    rec5 (y4 + 1)
else
  part_IndexK_j1
def part_IndexK_L1 (F : Nat) (a1 : List (List UInt8)) (n : Nat) : Int → Option Int :=
  loop (fun rec x => part_IndexK_B1 F a1 rec x) n
def part_IndexK (F : Nat) (a1 : List (List UInt8)) : Option Int :=
part_IndexK_L1 F a1 F 0
def part_ContainsK (F : Nat) (a1 : List (List UInt8)) : Option Bool :=
bnd (part_IndexK F a1) fun x4 =>
some (decide (0 ≤ x4))
def part_put_j1 (a6 : List UInt8) (x10 : List UInt8) (y24 : List UInt8) : Option ((List UInt8)) :=
grd (okCat (y24.length + x10.length)) <|
lt (y24 ++ x10) fun x29 =>
grd (okCat (x29.length + a6.length)) <|
lt (x29 ++ a6) fun x33 =>
grd (okCat (x33.length + ([13, 10] : List UInt8).length)) <|
lt (x33 ++ ([13, 10] : List UInt8)) fun x37 =>
some x37
def part_put (F : Nat) (a2 : List UInt8) (a4 : List UInt8) (a5 : List UInt8) (a6 : List UInt8) : Option ((List UInt8)) :=
bnd2 (head_All F ([(([67, 111, 110, 116, 101, 110, 116, 45, 84, 121, 112, 101] : List UInt8), a5), (parta_k2, ([113, 117, 111, 116, 101, 100, 45, 112, 114, 105, 110, 116, 97, 98, 108, 101] : List UInt8))] : List ((List UInt8) × List UInt8))) fun x10 x11 =>
grd (okCat (([45, 45] : List UInt8).length + a4.length)) <|
lt (([45, 45] : List UInt8) ++ a4) fun x14 =>
grd (okCat (x14.length + ([13, 10] : List UInt8).length)) <|
lt (x14 ++ ([13, 10] : List UInt8)) fun x17 =>
grd (okCat (a2.length + x17.length)) <|
lt (a2 ++ x17) fun x21 =>
part_put_j1 a6 x10 x21
def part_Join_j1 (x34 : List UInt8) (y54 : List UInt8) : Option ((List UInt8) × (List UInt8) × Int) :=
grd (okCat (([45, 45] : List UInt8).length + x34.length)) <|
lt (([45, 45] : List UInt8) ++ x34) fun x58 =>
grd (okCat (x58.length + ([45, 45] : List UInt8).length)) <|
lt (x58 ++ ([45, 45] : List UInt8)) fun x61 =>
grd (okCat (x61.length + ([13, 10] : List UInt8).length)) <|
lt (x61 ++ ([13, 10] : List UInt8)) fun x64 =>
grd (okCat (y54.length + x64.length)) <|
lt (y54 ++ x64) fun x68 =>
some (x68, x34, 0)
def part_Join_B1 (F : Nat) (a1 : List (List UInt8)) (y31 : List (List UInt8)) (x34 : List UInt8) (rec41 : (Int × (List UInt8)) → Option ((List UInt8) × (List UInt8) × Int)) (y38 : Int) (y39 : List UInt8) : Option ((List UInt8) × (List UInt8) × Int) :=
bif decide (y38 < (y31.length : Int)) then
  grd (okAt y38 y31.length) <|
  lt (at_ y31 y38) fun x45 =>
  grd (okAt y38 a1.length) <|
  lt (at_ a1 y38) fun x48 =>
  bnd (part_put F y39 x34 x48 x45) fun x50 =>
  grd (okI (y38 + 1)) <|
  rec41 (y38 + 1, x50)
else
  part_Join_j1 x34 y39
def part_Join_L1 (F : Nat) (a1 : List (List UInt8)) (y31 : List (List UInt8)) (x34 : List UInt8) (n : Nat) : (Int × (List UInt8)) → Option ((List UInt8) × (List UInt8) × Int) :=
  loop (fun rec x => part_Join_B1 F a1 y31 x34 rec x.1 x.2) n
def part_Join_j2 (F : Nat) (a1 : List (List UInt8)) (y31 : List (List UInt8)) : Option ((List UInt8) × (List UInt8) × Int) :=
bnd (part_Boundary F y31) fun x34 =>
part_Join_L1 F a1 y31 x34 F (0, [])
def part_Join_B2 (F : Nat) (a1 : List (List UInt8)) (a3 : List (List UInt8)) (rec18 : ((List (List UInt8)) × Int) → Option ((List UInt8) × (List UInt8) × Int)) (y15 : List (List UInt8)) (y17 : Int) : Option ((List UInt8) × (List UInt8) × Int) :=
bif decide (y17 < (a3.length : Int)) then
  grd (okAt y17 a3.length) <|
  lt (at_ a3 y17) fun x22 =>
  bnd (qp_Encode F x22) fun x24 =>
  grd (okCat (y15.length + ([x24] : List (List UInt8)).length)) <|
  lt (y15 ++ ([x24] : List (List UInt8))) fun x28 =>
  grd (okI (y17 + 1)) <|
  rec18 (x28, y17 + 1)
else
  part_Join_j2 F a1 y15
def part_Join_L2 (F : Nat) (a1 : List (List UInt8)) (a3 : List (List UInt8)) (n : Nat) : ((List (List UInt8)) × Int) → Option ((List UInt8) × (List UInt8) × Int) :=
  loop (fun rec x => part_Join_B2 F a1 a3 rec x.1 x.2) n
def part_Join (F : Nat) (a1 : List (List UInt8)) (a3 : List (List UInt8)) : Option ((List UInt8) × (List UInt8) × Int) :=
bndc (!(((!decide ((a1.length : Int) = (a3.length : Int))) || (decide ((a3.length : Int) = 0))) || (decide (8 < (a3.length : Int))))) (part_ContainsK F a1) fun x11 =>
bif (((!decide ((a1.length : Int) = (a3.length : Int))) || (decide ((a3.length : Int) = 0))) || (decide (8 < (a3.length : Int)))) || x11 then
  some ([], ([] : List UInt8), 1)
else
  part_Join_L2 F a1 a3 F ([], 0)
def part_one (F : Nat) (a1 : List UInt8) : Option ((List UInt8) × (List UInt8) × Bool) :=
bnd3 (head_Cut F a1) fun x6 x7 x8 =>
bif ((!decide (x8 = 0)) || (!decide ((x6.length : Int) = 2))) || (decide ((x7.length : Int) < 2)) then
  some (([] : List UInt8), [], false)
else
  grd (okI ((x7.length : Int) - 2)) <|
  grd (okTo ((x7.length : Int) - 2) x7.length) <|
  lt (to_ x7 ((x7.length : Int) - 2)) fun x15 =>
  bnd2 (qp_Decode F x15) fun x17 x18 =>
  grd (okAt 0 x6.length) <|
  lt (at_ x6 0) fun x21 =>
  some (x21.2, x17, decide (x18 = 0))
def part_Split_j1 (F : Nat) (a1 : List UInt8) (a3 : List UInt8) (y63 : List (List UInt8)) (y65 : List (List UInt8)) : Option ((List (List UInt8)) × (List (List UInt8)) × Int) :=
bnd3 (part_Join F y63 y65) fun x68 x69 x70 =>
lt (decide (x68 = a1)) fun x74 =>
bif ((!decide (x70 = 0)) || (!decide (x69 = a3))) || (!x74) then
  some ([], [], 2)
else
  some (y63, y65, 0)
def part_Split_B1 (F : Nat) (a1 : List UInt8) (a3 : List UInt8) (rec14 : ((List (List UInt8)) × (List (List UInt8)) × (List UInt8)) → Option ((List (List UInt8)) × (List (List UInt8)) × Int)) (y9 : List (List UInt8)) (y11 : List (List UInt8)) (y13 : List UInt8) : Option ((List (List UInt8)) × (List (List UInt8)) × Int) :=
bif decide ((y11.length : Int) ≤ 8) then
  grd (okCat (([45, 45] : List UInt8).length + a3.length)) <|
  lt (([45, 45] : List UInt8) ++ a3) fun x18 =>
  grd (okCat (x18.length + ([13, 10] : List UInt8).length)) <|
  lt (x18 ++ ([13, 10] : List UInt8)) fun x21 =>
  grd (okCat x21.length) <|
  grd (decide (1 ≤ x21.length)) <|
  lt (Go.Lib.trimPrefix y13 x21, Go.Lib.hasPrefix y13 x21) fun x26 =>
  bif !x26.2 then
    part_Split_j1 F a1 a3 y9 y11
  else
    grd (okCat (([45, 45] : List UInt8).length + a3.length)) <|
    lt (([45, 45] : List UInt8) ++ a3) fun x30 =>
    grd (okCat x30.length) <|
    grd (okS x26.1.length) <|
    grd (decide (2 ≤ x30.length)) <|
    grd (okS x30.length) <|
    lt (Go.Lib.index x26.1 x30) fun x37 =>
    bif decide (x37 < 0) then
      some ([], [], 2)
    else
      grd (okTo x37 x26.1.length) <|
      lt (to_ x26.1 x37) fun x41 =>
      bnd3 (part_one F x41) fun x43 x44 x45 =>
      bif !x45 then
        some ([], [], 2)
      else
        grd (okTo x37 x26.1.length) <|
        lt (from_ x26.1 x37) fun x49 =>
        grd (okCat (y9.length + ([x43] : List (List UInt8)).length)) <|
        lt (y9 ++ ([x43] : List (List UInt8))) fun x53 =>
        grd (okCat (y11.length + ([x44] : List (List UInt8)).length)) <|
        lt (y11 ++ ([x44] : List (List UInt8))) fun x57 =>
        rec14 (x53, x57, x49)
else
  part_Split_j1 F a1 a3 y9 y11
def part_Split_L1 (F : Nat) (a1 : List UInt8) (a3 : List UInt8) (n : Nat) : ((List (List UInt8)) × (List (List UInt8)) × (List UInt8)) → Option ((List (List UInt8)) × (List (List UInt8)) × Int) :=
  loop (fun rec x => part_Split_B1 F a1 a3 rec x.1 x.2.1 x.2.2) n
def part_Split (F : Nat) (a1 : List UInt8) (a3 : List UInt8) : Option ((List (List UInt8)) × (List (List UInt8)) × Int) :=
part_Split_L1 F a1 a3 F ([], [], a1)
end Go.Pv
namespace Go.Proofs.YtdaafnaokdigbaaGreatDoor
open Go.RowKit Go.Av Go.Pv
theorem en10_parta : ∀ (args : Array Value) (w : World), (callFunc 10 args).run Tryz.prog w = .ok (.enter 10 args) w := fun _ _ => by kernel_rfl
theorem en12_parta : ∀ (args : Array Value) (w : World), (callFunc 12 args).run Tryz.prog w = .ok (.enter 12 args) w := fun _ _ => by kernel_rfl
theorem en20_parta : ∀ (args : Array Value) (w : World), (callFunc 20 args).run Tryz.prog w = .ok (.enter 20 args) w := fun _ _ => by kernel_rfl
theorem en21_parta : ∀ (args : Array Value) (w : World), (callFunc 21 args).run Tryz.prog w = .ok (.enter 21 args) w := fun _ _ => by kernel_rfl
theorem en22_parta : ∀ (args : Array Value) (w : World), (callFunc 22 args).run Tryz.prog w = .ok (.enter 22 args) w := fun _ _ => by kernel_rfl
theorem en23_parta : ∀ (args : Array Value) (w : World), (callFunc 23 args).run Tryz.prog w = .ok (.enter 23 args) w := fun _ _ => by kernel_rfl
theorem en24_parta : ∀ (args : Array Value) (w : World), (callFunc 24 args).run Tryz.prog w = .ok (.enter 24 args) w := fun _ _ => by kernel_rfl
theorem en27_parta : ∀ (args : Array Value) (w : World), (callFunc 27 args).run Tryz.prog w = .ok (.enter 27 args) w := fun _ _ => by kernel_rfl
theorem en28_parta : ∀ (args : Array Value) (w : World), (callFunc 28 args).run Tryz.prog w = .ok (.enter 28 args) w := fun _ _ => by kernel_rfl
theorem en29_parta : ∀ (args : Array Value) (w : World), (callFunc 29 args).run Tryz.prog w = .ok (.enter 29 args) w := fun _ _ => by kernel_rfl
theorem en30_parta : ∀ (args : Array Value) (w : World), (callFunc 30 args).run Tryz.prog w = .ok (.enter 30 args) w := fun _ _ => by kernel_rfl
theorem en33_parta : ∀ (args : Array Value) (w : World), (callFunc 33 args).run Tryz.prog w = .ok (.enter 33 args) w := fun _ _ => by kernel_rfl
theorem en34_parta : ∀ (args : Array Value) (w : World), (callFunc 34 args).run Tryz.prog w = .ok (.enter 34 args) w := fun _ _ => by kernel_rfl
theorem en35_parta : ∀ (args : Array Value) (w : World), (callFunc 35 args).run Tryz.prog w = .ok (.enter 35 args) w := fun _ _ => by kernel_rfl
theorem en36_parta : ∀ (args : Array Value) (w : World), (callFunc 36 args).run Tryz.prog w = .ok (.enter 36 args) w := fun _ _ => by kernel_rfl
theorem en40_parta : ∀ (args : Array Value) (w : World), (callFunc 40 args).run Tryz.prog w = .ok (.enter 40 args) w := fun _ _ => by kernel_rfl
theorem en41_parta : ∀ (args : Array Value) (w : World), (callFunc 41 args).run Tryz.prog w = .ok (.enter 41 args) w := fun _ _ => by kernel_rfl
theorem en42_parta : ∀ (args : Array Value) (w : World), (callFunc 42 args).run Tryz.prog w = .ok (.enter 42 args) w := fun _ _ => by kernel_rfl
theorem en43_parta : ∀ (args : Array Value) (w : World), (callFunc 43 args).run Tryz.prog w = .ok (.enter 43 args) w := fun _ _ => by kernel_rfl
theorem en46_parta : ∀ (args : Array Value) (w : World), (callFunc 46 args).run Tryz.prog w = .ok (.enter 46 args) w := fun _ _ => by kernel_rfl
theorem en49_parta : ∀ (args : Array Value) (w : World), (callFunc 49 args).run Tryz.prog w = .ok (.enter 49 args) w := fun _ _ => by kernel_rfl
theorem en55_parta : ∀ (args : Array Value) (w : World), (callFunc 55 args).run Tryz.prog w = .ok (.enter 55 args) w := fun _ _ => by kernel_rfl
theorem en56_parta : ∀ (args : Array Value) (w : World), (callFunc 56 args).run Tryz.prog w = .ok (.enter 56 args) w := fun _ _ => by kernel_rfl
set_option maxRecDepth 100000 in
set_option maxHeartbeats 1000000 in
theorem w_part_hasC (F : Nat) (a1 : List UInt8) (q2 : Option Nat) (o3 : Nat) (a4 : List UInt8) (r5 : Bool) (H : part_hasC F a1 a4 = some r5) : ACalls Tryz.prog 29 [slE Enc.byte a1 q2, .pt o3 0] [.obj o3 [S a4]] (fun e A' => e = .ret (B r5) ∧ A' = [.obj o3 [S a4]]) := by
 unfold part_hasC at H
 refine ACalls.of_body Tryz.func29 rfl rfl ?_
 show AW _ _ 8 _ _ _
 refine AW.seq ?_
 refine AW.region ?_
 show AR _ _ _ _ _ [0] _
 refine sS rfl rfl rfl (asg rfl) ?_
 refine AR.nil ?_
 show AW _ _ _ _ _ _
 refine AW.seq ?_
 obtain ⟨g6, H⟩ := grd_s H
 obtain ⟨g8, H⟩ := grd_s H
 obtain ⟨g9, H⟩ := grd_s H
 obtain ⟨g10, H⟩ := grd_s H
 obtain ⟨x11, e12, H⟩ := lt_s H
 refine AW.region ?_
 show AR _ _ _ _ _ [0, 1, 2, 3, 4] _
 refine sS rfl rfl rfl (opS_move (av := slE _ _ _) rfl) ?_
 refine sR rfl rfl rfl (opR_load_pt (i := 0) Tryz.underlying9 rfl rfl rfl rfl) ?_
 refine sX rfl rfl rfl (g_conv_str_bytes (bytes := 1) Tryz.underlying9 Tryz.underlying26 Tryz.underlying5 rfl g6) ?_
 rintro _ _ ⟨t7, rfl, rfl⟩
 refine AR.run rfl rfl (AO.callp rfl en30_parta rfl (show ACalls _ _ _ [] (Ret (B x11) []) from by subst e12; exact lib_bytesContains a1 a4 q2 (some t7) (okS_s g8) (of_decide_eq_true g9) (okS_s g10)) ?_)
 refine sS rfl rfl rfl (asg rfl) ?_
 refine AR.nil ?_
 show AW _ _ _ _ _ _
 refine AW.ret ?_
 obtain rfl := Option.some.inj H
 exact And.intro rfl (Exists.intro _ (Exists.intro _ ⟨ResV.oneW rfl (.refl _), Sub.at [1] rfl, rfl, rfl⟩))
set_option maxRecDepth 100000 in
set_option maxHeartbeats 1000000 in
theorem w_part_IndexB (F : Nat) (a1 : List (List UInt8)) (q2 : Option Nat) (o3 : Nat) (a4 : List UInt8) (r5 : Int) (H : part_IndexB F a1 a4 = some r5) : ACalls Tryz.prog 49 [slE (Enc.sl Enc.byte) a1 q2, .fn (.func 29) [] [.pt o3 0]] [.obj o3 [S a4]] (fun e A' => e = .ret (i64 r5) ∧ A' = [.obj o3 [S a4]]) := by
 unfold part_IndexB at H
 refine ACalls.of_body Tryz.func49 rfl rfl ?_
 show AW _ _ 19 _ _ _
 refine AW.seq ?_
 refine AW.region ?_
 show AR _ _ _ _ _ [0] _
 refine sS rfl rfl rfl (asg rfl) ?_
 refine AR.nil ?_
 show AW _ _ _ _ _ _
 refine AW.cut (X := Unit) (fun _ => ⟨[], [], [.obj o3 [S a4]]⟩) (fun _ => part_IndexB_j1 = some r5) ?_ ?_
 ·
  refine AW.seq ?_
  refine AW.region ?_
  show AR _ _ _ _ _ [0, 1, 2] _
  refine sS rfl rfl rfl (opS_move (av := slE _ _ _) rfl) ?_
  refine sS rfl rfl rfl (opS_len_sl Tryz.underlying23 rfl) ?_
  refine sS rfl rfl rfl (mv rfl) ?_
  refine AR.nil ?_
  show AW _ _ _ _ _ _
  refine AW.block ?_
  refine AW.loop (X := Nat × Int) (fun (n8, y6) => ⟨[(0, slE (Enc.sl Enc.byte) a1 q2), (1, .fn (.func 29) [] [.pt o3 0]), (7, i64 (a1.length : Int)), (8, i64 y6)], [], [.obj o3 [S a4]]⟩) (fun (n8, y6) => part_IndexB_L1 F a1 a4 n8 y6 = some r5) (fun (n8, y6) => n8) (F, 0) H (WK.at [0] (.cons (.refl _) (.cons (.refl _) (.cons (.refl _) (.cons (.refl _) (.nil _))))) rfl) ?_
  rintro ⟨n8, y6⟩ H
  obtain ⟨n8, rfl, H⟩ := loop_s H
  replace H : part_IndexB_B1 F a1 a4 (part_IndexB_L1 F a1 a4 n8) y6 = some r5 := H
  unfold part_IndexB_B1 at H
  show AW _ _ _ _ _ _
  refine AW.seq ?_
  refine AW.region ?_
  show AR _ _ _ _ _ [0] _
  refine sS rfl rfl rfl (opS_lt rfl rfl) ?_
  refine AR.nil ?_
  show AW _ _ _ _ _ _
  refine AW.seq ?_
  refine AW.cond rfl (fun c9 => ?_) (fun c9 => ?_)
  ·replace H := cnd_t c9 H
   refine AW.skip ?_
   show AW _ _ _ _ _ _
   refine AW.seq ?_
   refine AW.block ?_
   refine AW.seq ?_
   refine AW.region ?_
   show AR _ _ _ _ _ [0, 1] _
   refine sS rfl rfl rfl (mv rfl) ?_
   refine sS rfl rfl rfl (asg rfl) ?_
   refine AR.nil ?_
   show AW _ _ _ _ _ _
   refine AW.seq ?_
   obtain ⟨g10, H⟩ := grd_s H
   obtain ⟨x11, e12, H⟩ := lt_s H
   obtain ⟨x13, e14, H⟩ := bnd_s H
   refine AW.region ?_
   show AR _ _ _ _ _ [0, 1, 2, 3, 4, 5] _
   refine sS rfl rfl rfl (opS_move (av := .fn _ _ _) rfl) ?_
   refine sS rfl rfl rfl (opS_move (av := slE _ _ _) rfl) ?_
   refine sS rfl rfl rfl (mv rfl) ?_
   refine sS rfl rfl rfl (g_indexAddr (E := (Enc.sl Enc.byte)) Tryz.underlying23 (by kernel_rfl) rfl rfl g10 e12) ?_
   refine sS rfl rfl rfl (opS_load_cp Tryz.underlying26 rfl rfl) ?_
   refine AR.run rfl rfl (AO.callFAt [0] rfl (.inl rfl) en29_parta rfl (w_part_hasC F x11 none o3 a4 x13 e14) rfl (fun c A' h => by cases h.1) ?_)
   rintro av A' ⟨h, rfl⟩; cases h
   refine AR.nil ?_
   show AW _ _ _ _ _ _
   refine AW.cond rfl (fun c15 => ?_) (fun c15 => ?_)
   ·replace H := cnd_t c15 H
    refine AW.seq ?_
    refine AW.region ?_
    show AR _ _ _ _ _ [0, 1] _
    refine sS rfl rfl rfl (mv rfl) ?_
    refine sS rfl rfl rfl (asg rfl) ?_
    refine AR.nil ?_
    show AW _ _ _ _ _ _
    refine AW.ret ?_
    obtain rfl := Option.some.inj H
    exact And.intro rfl (Exists.intro _ (Exists.intro _ ⟨ResV.oneW rfl (.refl _), Sub.at [0] rfl, rfl, rfl⟩))
   ·replace H := cnd_f c15 H
    refine AW.skip ?_
    show AW _ _ _ _ _ _
    obtain ⟨g16, H⟩ := grd_s H
    refine AW.region ?_
    show AR _ _ _ _ _ [0, 1] _
    refine sS rfl rfl rfl (g_add rfl rfl g16) ?_
    refine sS rfl rfl rfl (mv rfl) ?_
    refine AR.nil ?_
    exact Exists.intro (n8, y6 + 1) ⟨H, Nat.lt_succ_self _, WK.at [0] (.cons (.refl _) (.cons (.refl _) (.cons (.refl _) (.cons (.refl _) (.nil _))))) rfl⟩
  ·replace H := cnd_f c9 H
   refine AW.exit ?_
   exact Exists.intro () ⟨H, WK.at [0] (.nil _) rfl⟩
 rintro _ H
 replace H : part_IndexB_j1 = some r5 := H
 unfold part_IndexB_j1 at H
 show AW _ _ _ _ _ _
 refine AW.seq ?_
 refine AW.region ?_
 show AR _ _ _ _ _ [0] _
 refine sS rfl rfl rfl (asg rfl) ?_
 refine AR.nil ?_
 show AW _ _ _ _ _ _
 refine AW.ret ?_
 obtain rfl := Option.some.inj H
 exact And.intro rfl (Exists.intro _ (Exists.intro _ ⟨ResV.oneW rfl (.refl _), Sub.at [0] rfl, rfl, rfl⟩))
set_option maxRecDepth 100000 in
set_option maxHeartbeats 1000000 in
theorem w_part_ContainsB (F : Nat) (a1 : List (List UInt8)) (q2 : Option Nat) (o3 : Nat) (a4 : List UInt8) (r5 : Bool) (H : part_ContainsB F a1 a4 = some r5) : ACalls Tryz.prog 28 [slE (Enc.sl Enc.byte) a1 q2, .fn (.func 29) [] [.pt o3 0]] [.obj o3 [S a4]] (fun e A' => e = .ret (B r5) ∧ A' = [.obj o3 [S a4]]) := by
 unfold part_ContainsB at H
 refine ACalls.of_body Tryz.func28 rfl rfl ?_
 show AW _ _ 9 _ _ _
 refine AW.seq ?_
 refine AW.region ?_
 show AR _ _ _ _ _ [0] _
 refine sS rfl rfl rfl (asg rfl) ?_
 refine AR.nil ?_
 show AW _ _ _ _ _ _
 refine AW.seq ?_
 obtain ⟨x6, e7, H⟩ := bnd_s H
 refine AW.region ?_
 show AR _ _ _ _ _ [0, 1, 2, 3, 4] _
 refine sS rfl rfl rfl (opS_move (av := slE _ _ _) rfl) ?_
 refine sS rfl rfl rfl (opS_move (av := .fn _ _ _) rfl) ?_
 refine AR.run rfl rfl (AO.callAt [0] rfl en49_parta rfl (w_part_IndexB F a1 q2 o3 a4 x6 e7) rfl (fun c A' h => by cases h.1) ?_)
 rintro av A' ⟨h, rfl⟩; cases h
 refine sS rfl rfl rfl (opS_ge rfl rfl) ?_
 refine sS rfl rfl rfl (asg rfl) ?_
 refine AR.nil ?_
 show AW _ _ _ _ _ _
 refine AW.ret ?_
 obtain rfl := Option.some.inj H
 exact And.intro rfl (Exists.intro _ (Exists.intro _ ⟨ResV.oneW rfl (.refl _), Sub.at [0] rfl, rfl, rfl⟩))
set_option maxRecDepth 100000 in
set_option maxHeartbeats 1000000 in
theorem w_part_Boundary (F : Nat) (a1 : List (List UInt8)) (q2 : Option Nat) (r3 : List UInt8) (H : part_Boundary F a1 = some r3) : ACalls Tryz.prog 12 [slE (Enc.sl Enc.byte) a1 q2] [] (Ret (S r3) []) := by
 unfold part_Boundary at H
 refine ACalls.of_body Tryz.func12 rfl rfl ?_
 show AW _ _ 15 _ _ _
 refine AW.seq ?_
 refine AW.region ?_
 show AR _ _ _ _ _ [0] _
 refine sS rfl rfl rfl (asg rfl) ?_
 refine AR.nil ?_
 show AW _ _ _ _ _ _
 refine AW.seq ?_
 refine AW.region ?_
 show AR _ _ _ _ _ [0] _
 refine sS rfl rfl rfl (asg rfl) ?_
 refine AR.nil ?_
 show AW _ _ _ _ _ _
 refine AW.block ?_
 refine AW.loop (X := Nat × Int) (fun (n6, y4) => ⟨[(0, slE (Enc.sl Enc.byte) a1 q2), (3, i64 y4)], [], []⟩) (fun (n6, y4) => part_Boundary_L1 F a1 n6 y4 = some r3) (fun (n6, y4) => n6) (F, 0) H (WK.at [] (.cons (.refl _) (.cons (.refl _) (.nil _))) rfl) ?_
 rintro ⟨n6, y4⟩ H
 obtain ⟨n6, rfl, H⟩ := loop_s H
 replace H : part_Boundary_B1 F a1 (part_Boundary_L1 F a1 n6) y4 = some r3 := H
 unfold part_Boundary_B1 at H
 show AW _ _ _ _ _ _
 refine AW.seq ?_
 refine AW.block ?_
 refine AW.seq ?_
 obtain ⟨g7, H⟩ := grd_s H
 obtain ⟨x8, e9, H⟩ := lt_s H
 obtain ⟨g10, H⟩ := grd_s H
 obtain ⟨x11, e12, H⟩ := lt_s H
 refine AW.region ?_
 show AR _ _ _ _ _ [0, 1, 2, 3, 4] _
 refine sS rfl rfl rfl (mv rfl) ?_
 refine AR.run rfl rfl (AO.callp rfl en27_parta rfl (show ACalls _ _ _ [] (Ret (S x8) []) from by subst e9; exact lib_ItoaAll y4 (okI_s g7)) ?_)
 refine sS rfl rfl rfl (g_cat rfl rfl g10 e12) ?_
 refine sX rfl rfl rfl (opX_alloc (zs := [.string ⟨#[]⟩]) (by kernel_rfl)) ?_
 rintro _ _ ⟨o13, rfl, rfl⟩
 refine s0 rfl rfl (opR_store_pt (i := 0) (c := .v _) (by kernel_rfl) rfl rfl rfl rfl (Nat.le_of_ble_eq_true rfl)) ?_
 refine AR.nil ?_
 show AW _ _ _ _ _ _
 refine AW.seq ?_
 obtain ⟨x14, e15, H⟩ := bnd_s H
 refine AW.region ?_
 show AR _ _ _ _ _ [0, 1, 2, 3] _
 refine sS rfl rfl rfl (opS_move (av := slE _ _ _) rfl) ?_
 refine sS rfl rfl rfl (opS_makeFunc rfl rfl) ?_
 refine AR.run rfl rfl (AO.callAt [0] rfl en28_parta rfl (w_part_ContainsB F a1 q2 o13 x11 x14 e15) rfl (fun c A' h => by cases h.1) ?_)
 rintro av A' ⟨h, rfl⟩; cases h
 refine sS rfl rfl rfl (opS_not rfl) ?_
 refine AR.nil ?_
 show AW _ _ _ _ _ _
 refine AW.cond rfl (fun c16 => ?_) (fun c16 => ?_)
 ·replace H := cnd_t c16 H
  refine AW.seq ?_
  refine AW.region ?_
  show AR _ _ _ _ _ [0, 1] _
  refine sR rfl rfl rfl (opR_load_pt (i := 0) Tryz.underlying9 rfl rfl rfl rfl) ?_
  refine sS rfl rfl rfl (asg rfl) ?_
  refine AR.nil ?_
  show AW _ _ _ _ _ _
  refine AW.ret ?_
  obtain rfl := Option.some.inj H
  exact And.intro rfl (Exists.intro _ (Exists.intro _ ⟨ResV.oneW rfl (.refl _), Sub.at [] rfl, rfl, rfl⟩))
 ·replace H := cnd_f c16 H
  refine AW.skip ?_
  show AW _ _ _ _ _ _
  obtain ⟨g17, H⟩ := grd_s H
  refine AW.region ?_
  show AR _ _ _ _ _ [0, 1, 2] _
  refine sS rfl rfl rfl (mv rfl) ?_
  refine sS rfl rfl rfl (g_add rfl rfl g17) ?_
  refine sS rfl rfl rfl (asg rfl) ?_
  refine AR.nil ?_
  exact Exists.intro (n6, y4 + 1) ⟨H, Nat.lt_succ_self _, WK.at [] (.cons (.refl _) (.cons (.refl _) (.nil _))) rfl⟩
set_option maxRecDepth 100000 in
set_option maxHeartbeats 1000000 in
theorem w_part_kind (F : Nat) (a1 : List UInt8) (r2 : Bool) (H : part_kind F a1 = some r2) : ACalls Tryz.prog 22 [S a1] [] (Ret (B r2) []) := by
 unfold part_kind at H
 refine ACalls.of_body Tryz.func22 rfl rfl ?_
 show AW _ _ 33 _ _ _
 refine AW.seq ?_
 refine AW.region ?_
 show AR _ _ _ _ _ [0] _
 refine sS rfl rfl rfl (asg rfl) ?_
 refine AR.nil ?_
 show AW _ _ _ _ _ _
 refine AW.cut (X := Unit) (fun _ => ⟨[(0, S a1)], [], []⟩) (fun _ => part_kind_j1 a1 = some r2) ?_ ?_
 ·
  refine AW.seq ?_
  refine AW.region ?_
  show AR _ _ _ _ _ [0, 1, 2] _
  refine sS rfl rfl rfl (mv rfl) ?_
  refine sS rfl rfl rfl (opS_len_str Tryz.underlying9 rfl) ?_
  refine sS rfl rfl rfl (mv rfl) ?_
  refine AR.nil ?_
  show AW _ _ _ _ _ _
  refine AW.block ?_
  refine AW.loop (X := Nat × Int) (fun (n5, y3) => ⟨[(0, S a1), (5, i64 (a1.length : Int)), (6, i64 y3)], [], []⟩) (fun (n5, y3) => part_kind_L1 a1 n5 y3 = some r2) (fun (n5, y3) => n5) (F, 0) H (WK.at [] (.cons (.refl _) (.cons (.refl _) (.cons (.refl _) (.nil _)))) rfl) ?_
  rintro ⟨n5, y3⟩ H
  obtain ⟨n5, rfl, H⟩ := loop_s H
  replace H : part_kind_B1 a1 (part_kind_L1 a1 n5) y3 = some r2 := H
  unfold part_kind_B1 at H
  show AW _ _ _ _ _ _
  refine AW.seq ?_
  refine AW.region ?_
  show AR _ _ _ _ _ [0] _
  refine sS rfl rfl rfl (opS_lt rfl rfl) ?_
  refine AR.nil ?_
  show AW _ _ _ _ _ _
  refine AW.seq ?_
  refine AW.cond rfl (fun c6 => ?_) (fun c6 => ?_)
  ·replace H := cnd_t c6 H
   refine AW.skip ?_
   show AW _ _ _ _ _ _
   refine AW.seq ?_
   refine AW.block ?_
   refine AW.seq ?_
   refine AW.region ?_
   show AR _ _ _ _ _ [0, 1] _
   refine sS rfl rfl rfl (mv rfl) ?_
   refine sS rfl rfl rfl (asg rfl) ?_
   refine AR.nil ?_
   show AW _ _ _ _ _ _
   refine AW.seq ?_
   obtain ⟨g7, H⟩ := grd_s H
   obtain ⟨x8, e9, H⟩ := lt_s H
   obtain ⟨x10, e11, H⟩ := lt_s H
   refine AW.region ?_
   show AR _ _ _ _ _ [0, 1, 2, 3, 4] _
   refine sS rfl rfl rfl (mv rfl) ?_
   refine sS rfl rfl rfl (mv rfl) ?_
   refine sS rfl rfl rfl (g_index_str Tryz.underlying9 rfl rfl g7 e9) ?_
   refine AR.run rfl rfl (AO.callp rfl en41_parta rfl (show ACalls _ _ _ [] (Ret (i64 x10) []) from by subst e11; exact lib_IndexByte parta_k1 x8) ?_)
   refine sS rfl rfl rfl (opS_lt rfl rfl) ?_
   refine AR.nil ?_
   show AW _ _ _ _ _ _
   refine AW.cond rfl (fun c12 => ?_) (fun c12 => ?_)
   ·replace H := cnd_t c12 H
    refine AW.seq ?_
    refine AW.region ?_
    show AR _ _ _ _ _ [0] _
    refine sS rfl rfl rfl (asg rfl) ?_
    refine AR.nil ?_
    show AW _ _ _ _ _ _
    refine AW.ret ?_
    obtain rfl := Option.some.inj H
    exact And.intro rfl (Exists.intro _ (Exists.intro _ ⟨ResV.oneW rfl (.refl _), Sub.at [] rfl, rfl, rfl⟩))
   ·replace H := cnd_f c12 H
    refine AW.skip ?_
    show AW _ _ _ _ _ _
    obtain ⟨g13, H⟩ := grd_s H
    refine AW.region ?_
    show AR _ _ _ _ _ [0, 1] _
    refine sS rfl rfl rfl (g_add rfl rfl g13) ?_
    refine sS rfl rfl rfl (mv rfl) ?_
    refine AR.nil ?_
    exact Exists.intro (n5, y3 + 1) ⟨H, Nat.lt_succ_self _, WK.at [] (.cons (.refl _) (.cons (.refl _) (.cons (.refl _) (.nil _)))) rfl⟩
  ·replace H := cnd_f c6 H
   refine AW.exit ?_
   exact Exists.intro () ⟨H, WK.at [] (.cons (.refl _) (.nil _)) rfl⟩
 rintro _ H
 replace H : part_kind_j1 a1 = some r2 := H
 unfold part_kind_j1 at H
 show AW _ _ _ _ _ _
 refine AW.seq ?_
 obtain ⟨g17, H⟩ := grdc_s H
 obtain ⟨x18, e19, H⟩ := lt_s H
 obtain ⟨g21, H⟩ := grdc_s H
 obtain ⟨x22, e23, H⟩ := lt_s H
 refine AW.region ?_
 show AR _ _ _ _ _ [0, 1, 2, 3, 4, 5, 6, 7, 8, 9, 10, 11, 12, 13, 14, 15, 16, 17, 18] _
 refine sS rfl rfl rfl (mv rfl) ?_
 refine sS rfl rfl rfl (opS_nes rfl rfl) ?_
 refine sS rfl rfl rfl (mv rfl) ?_
 refine AR.meet (l := [7, 8, 9, 10, 11, 12, 13, 14, 15, 16, 17, 18]) 21 (B ((!decide (a1 = ([] : List UInt8))) && (decide ((a1.length : Int) ≤ 60)))) (fun K => ?_) ?_
 ·rcases Bool.eq_false_or_eq_true (!decide (a1 = ([] : List UInt8))) with h15 | h15
  ·
   refine gT h15 rfl rfl rfl rfl rfl rfl (AO.ops rfl rfl (mv rfl) ?_)
   refine gT h15 rfl rfl rfl rfl rfl rfl (AO.ops rfl rfl (opS_len_str Tryz.underlying9 rfl) ?_)
   refine gT h15 rfl rfl rfl rfl rfl rfl (AO.ops rfl rfl (opS_le rfl rfl) ?_)
   refine sS rfl rfl rfl (opS_pick_t (av := .v _) rfl h15 rfl) ?_
   exact K _ 3 _ (B_congr (and_t h15)) rfl rfl
  ·
   refine gF h15 rfl rfl rfl rfl rfl ?_
   refine gF h15 rfl rfl rfl rfl rfl ?_
   refine gF h15 rfl rfl rfl rfl rfl ?_
   refine sS rfl rfl rfl (opS_pick_f (av := .v _) rfl h15 rfl) ?_
   exact K _ 3 _ (B_congr (and_f h15)) rfl rfl
 refine sS rfl rfl rfl (mv rfl) ?_
 refine AR.meet (l := [13, 14, 15, 16, 17, 18]) 27 (B (((!decide (a1 = ([] : List UInt8))) && (decide ((a1.length : Int) ≤ 60))) && (decide (x18 = a1)))) (fun K => ?_) ?_
 ·rcases Bool.eq_false_or_eq_true ((!decide (a1 = ([] : List UInt8))) && (decide ((a1.length : Int) ≤ 60))) with h16 | h16
  ·
   refine gT h16 rfl rfl rfl rfl rfl rfl (AO.ops rfl rfl (mv rfl) ?_)
   refine gT h16 rfl rfl rfl rfl rfl rfl (AO.callp rfl en42_parta rfl (show ACalls _ _ _ [] (Ret (S x18) []) from by subst e19; exact lib_Trim1 a1 32 (by decide) (okS_s (g17 h16))) ?_)
   refine gT h16 rfl rfl rfl rfl rfl rfl (AO.ops rfl rfl (mv rfl) ?_)
   refine gT h16 rfl rfl rfl rfl rfl rfl (AO.ops rfl rfl (opS_eqs rfl rfl) ?_)
   refine sS rfl rfl rfl (opS_pick_t (av := .v _) rfl h16 rfl) ?_
   exact K _ 4 _ (B_congr (and_t h16)) rfl rfl
  ·
   refine gF h16 rfl rfl rfl rfl rfl ?_
   refine gF h16 rfl rfl rfl rfl rfl ?_
   refine gF h16 rfl rfl rfl rfl rfl ?_
   refine gF h16 rfl rfl rfl rfl rfl ?_
   refine sS rfl rfl rfl (opS_pick_f (av := .v _) rfl h16 rfl) ?_
   exact K _ 4 _ (B_congr (and_f h16)) rfl rfl
 refine sS rfl rfl rfl (mv rfl) ?_
 refine AR.meet (l := [18]) 32 (B ((((!decide (a1 = ([] : List UInt8))) && (decide ((a1.length : Int) ≤ 60))) && (decide (x18 = a1))) && (!x22))) (fun K => ?_) ?_
 ·rcases Bool.eq_false_or_eq_true (((!decide (a1 = ([] : List UInt8))) && (decide ((a1.length : Int) ≤ 60))) && (decide (x18 = a1))) with h20 | h20
  ·
   refine gT h20 rfl rfl rfl rfl rfl rfl (AO.ops rfl rfl (mv rfl) ?_)
   refine gT h20 rfl rfl rfl rfl rfl rfl (AO.callp rfl en43_parta rfl (show ACalls _ _ _ [] (Ret (B x22) []) from by subst e23; exact lib_Contains a1 ([32, 32] : List UInt8) (okS_s (g21 h20))) ?_)
   refine gT h20 rfl rfl rfl rfl rfl rfl (AO.ops rfl rfl (opS_not rfl) ?_)
   refine sS rfl rfl rfl (opS_pick_t (av := .v _) rfl h20 rfl) ?_
   exact K _ 3 _ (B_congr (and_t h20)) rfl rfl
  ·
   refine gF h20 rfl rfl rfl rfl rfl ?_
   refine gF h20 rfl rfl rfl rfl rfl ?_
   refine gF h20 rfl rfl rfl rfl rfl ?_
   refine sS rfl rfl rfl (opS_pick_f (av := .v _) rfl h20 rfl) ?_
   exact K _ 3 _ (B_congr (and_f h20)) rfl rfl
 refine sS rfl rfl rfl (asg rfl) ?_
 refine AR.nil ?_
 show AW _ _ _ _ _ _
 refine AW.ret ?_
 obtain rfl := Option.some.inj H
 exact And.intro rfl (Exists.intro _ (Exists.intro _ ⟨ResV.oneW rfl (.refl _), Sub.at [] rfl, rfl, rfl⟩))
set_option maxRecDepth 100000 in
set_option maxHeartbeats 1000000 in
theorem w_part_notC (F : Nat) (a1 : List UInt8) (r2 : Bool) (H : part_notC F a1 = some r2) : ACalls Tryz.prog 21 [S a1] [] (Ret (B r2) []) := by
 unfold part_notC at H
 refine ACalls.of_body Tryz.func21 rfl rfl ?_
 show AW _ _ 6 _ _ _
 refine AW.seq ?_
 refine AW.region ?_
 show AR _ _ _ _ _ [0] _
 refine sS rfl rfl rfl (asg rfl) ?_
 refine AR.nil ?_
 show AW _ _ _ _ _ _
 refine AW.seq ?_
 obtain ⟨x3, e4, H⟩ := bnd_s H
 refine AW.region ?_
 show AR _ _ _ _ _ [0, 1, 2, 3] _
 refine sS rfl rfl rfl (mv rfl) ?_
 refine AR.run rfl rfl (AO.callp rfl en22_parta rfl (w_part_kind F a1 x3 e4) ?_)
 refine sS rfl rfl rfl (opS_not rfl) ?_
 refine sS rfl rfl rfl (asg rfl) ?_
 refine AR.nil ?_
 show AW _ _ _ _ _ _
 refine AW.ret ?_
 obtain rfl := Option.some.inj H
 exact And.intro rfl (Exists.intro _ (Exists.intro _ ⟨ResV.oneW rfl (.refl _), Sub.at [] rfl, rfl, rfl⟩))
set_option maxRecDepth 100000 in
set_option maxHeartbeats 1000000 in
theorem w_part_IndexK (F : Nat) (a1 : List (List UInt8)) (q2 : Option Nat) (r3 : Int) (H : part_IndexK F a1 = some r3) : ACalls Tryz.prog 40 [slE Enc.str a1 q2, .v (.func (.func 21) #[] #[])] [] (Ret (i64 r3) []) := by
 unfold part_IndexK at H
 refine ACalls.of_body Tryz.func40 rfl rfl ?_
 show AW _ _ 19 _ _ _
 refine AW.seq ?_
 refine AW.region ?_
 show AR _ _ _ _ _ [0] _
 refine sS rfl rfl rfl (asg rfl) ?_
 refine AR.nil ?_
 show AW _ _ _ _ _ _
 refine AW.cut (X := Unit) (fun _ => ⟨[], [], []⟩) (fun _ => part_IndexK_j1 = some r3) ?_ ?_
 ·
  refine AW.seq ?_
  refine AW.region ?_
  show AR _ _ _ _ _ [0, 1, 2] _
  refine sS rfl rfl rfl (opS_move (av := slE _ _ _) rfl) ?_
  refine sS rfl rfl rfl (opS_len_sl Tryz.underlying22 rfl) ?_
  refine sS rfl rfl rfl (mv rfl) ?_
  refine AR.nil ?_
  show AW _ _ _ _ _ _
  refine AW.block ?_
  refine AW.loop (X := Nat × Int) (fun (n6, y4) => ⟨[(0, slE Enc.str a1 q2), (1, .v (.func (.func 21) #[] #[])), (7, i64 (a1.length : Int)), (8, i64 y4)], [], []⟩) (fun (n6, y4) => part_IndexK_L1 F a1 n6 y4 = some r3) (fun (n6, y4) => n6) (F, 0) H (WK.at [] (.cons (.refl _) (.cons (.refl _) (.cons (.refl _) (.cons (.refl _) (.nil _))))) rfl) ?_
  rintro ⟨n6, y4⟩ H
  obtain ⟨n6, rfl, H⟩ := loop_s H
  replace H : part_IndexK_B1 F a1 (part_IndexK_L1 F a1 n6) y4 = some r3 := H
  unfold part_IndexK_B1 at H
  show AW _ _ _ _ _ _
  refine AW.seq ?_
  refine AW.region ?_
  show AR _ _ _ _ _ [0] _
  refine sS rfl rfl rfl (opS_lt rfl rfl) ?_
  refine AR.nil ?_
  show AW _ _ _ _ _ _
  refine AW.seq ?_
  refine AW.cond rfl (fun c7 => ?_) (fun c7 => ?_)
  ·replace H := cnd_t c7 H
   refine AW.skip ?_
   show AW _ _ _ _ _ _
   refine AW.seq ?_
   refine AW.block ?_
   refine AW.seq ?_
   refine AW.region ?_
   show AR _ _ _ _ _ [0, 1] _
   refine sS rfl rfl rfl (mv rfl) ?_
   refine sS rfl rfl rfl (asg rfl) ?_
   refine AR.nil ?_
   show AW _ _ _ _ _ _
   refine AW.seq ?_
   obtain ⟨g8, H⟩ := grd_s H
   obtain ⟨x9, e10, H⟩ := lt_s H
   obtain ⟨x11, e12, H⟩ := bnd_s H
   refine AW.region ?_
   show AR _ _ _ _ _ [0, 1, 2, 3, 4, 5] _
   refine sS rfl rfl rfl (mv rfl) ?_
   refine sS rfl rfl rfl (opS_move (av := slE _ _ _) rfl) ?_
   refine sS rfl rfl rfl (mv rfl) ?_
   refine sS rfl rfl rfl (g_indexAddr (E := Enc.str) Tryz.underlying22 (by kernel_rfl) rfl rfl g8 e10) ?_
   refine sS rfl rfl rfl (opS_load_cp Tryz.underlying9 rfl rfl) ?_
   refine AR.run rfl rfl (AO.callFp rfl (.inr ⟨rfl, rfl, rfl⟩) en21_parta rfl (w_part_notC F x9 x11 e12) ?_)
   refine AR.nil ?_
   show AW _ _ _ _ _ _
   refine AW.cond rfl (fun c13 => ?_) (fun c13 => ?_)
   ·replace H := cnd_t c13 H
    refine AW.seq ?_
    refine AW.region ?_
    show AR _ _ _ _ _ [0, 1] _
    refine sS rfl rfl rfl (mv rfl) ?_
    refine sS rfl rfl rfl (asg rfl) ?_
    refine AR.nil ?_
    show AW _ _ _ _ _ _
    refine AW.ret ?_
    obtain rfl := Option.some.inj H
    exact And.intro rfl (Exists.intro _ (Exists.intro _ ⟨ResV.oneW rfl (.refl _), Sub.at [] rfl, rfl, rfl⟩))
   ·replace H := cnd_f c13 H
    refine AW.skip ?_
    show AW _ _ _ _ _ _
    obtain ⟨g14, H⟩ := grd_s H
    refine AW.region ?_
    show AR _ _ _ _ _ [0, 1] _
    refine sS rfl rfl rfl (g_add rfl rfl g14) ?_
    refine sS rfl rfl rfl (mv rfl) ?_
    refine AR.nil ?_
    exact Exists.intro (n6, y4 + 1) ⟨H, Nat.lt_succ_self _, WK.at [] (.cons (.refl _) (.cons (.refl _) (.cons (.refl _) (.cons (.refl _) (.nil _))))) rfl⟩
  ·replace H := cnd_f c7 H
   refine AW.exit ?_
   exact Exists.intro () ⟨H, WK.at [] (.nil _) rfl⟩
 rintro _ H
 replace H : part_IndexK_j1 = some r3 := H
 unfold part_IndexK_j1 at H
 show AW _ _ _ _ _ _
 refine AW.seq ?_
 refine AW.region ?_
 show AR _ _ _ _ _ [0] _
 refine sS rfl rfl rfl (asg rfl) ?_
 refine AR.nil ?_
 show AW _ _ _ _ _ _
 refine AW.ret ?_
 obtain rfl := Option.some.inj H
 exact And.intro rfl (Exists.intro _ (Exists.intro _ ⟨ResV.oneW rfl (.refl _), Sub.at [] rfl, rfl, rfl⟩))
set_option maxRecDepth 100000 in
set_option maxHeartbeats 1000000 in
theorem w_part_ContainsK (F : Nat) (a1 : List (List UInt8)) (q2 : Option Nat) (r3 : Bool) (H : part_ContainsK F a1 = some r3) : ACalls Tryz.prog 20 [slE Enc.str a1 q2, .v (.func (.func 21) #[] #[])] [] (Ret (B r3) []) := by
 unfold part_ContainsK at H
 refine ACalls.of_body Tryz.func20 rfl rfl ?_
 show AW _ _ 9 _ _ _
 refine AW.seq ?_
 refine AW.region ?_
 show AR _ _ _ _ _ [0] _
 refine sS rfl rfl rfl (asg rfl) ?_
 refine AR.nil ?_
 show AW _ _ _ _ _ _
 refine AW.seq ?_
 obtain ⟨x4, e5, H⟩ := bnd_s H
 refine AW.region ?_
 show AR _ _ _ _ _ [0, 1, 2, 3, 4] _
 refine sS rfl rfl rfl (opS_move (av := slE _ _ _) rfl) ?_
 refine sS rfl rfl rfl (mv rfl) ?_
 refine AR.run rfl rfl (AO.callp rfl en40_parta rfl (w_part_IndexK F a1 q2 x4 e5) ?_)
 refine sS rfl rfl rfl (opS_ge rfl rfl) ?_
 refine sS rfl rfl rfl (asg rfl) ?_
 refine AR.nil ?_
 show AW _ _ _ _ _ _
 refine AW.ret ?_
 obtain rfl := Option.some.inj H
 exact And.intro rfl (Exists.intro _ (Exists.intro _ ⟨ResV.oneW rfl (.refl _), Sub.at [] rfl, rfl, rfl⟩))
set_option maxRecDepth 100000 in
set_option maxHeartbeats 1000000 in
theorem w_part_put (F : Nat) (o1 : Nat) (a2 : List UInt8) (t3 : Nat) (a4 : List UInt8) (a5 : List UInt8) (a6 : List UInt8) (q7 : Option Nat) (r8 : List UInt8) (H : part_put F a2 a4 a5 a6 = some r8) : ACalls Tryz.prog 24 [.pt o1 0, S a5, slE Enc.byte a6 q7] [.obj o1 [slE Enc.byte a2 (some t3), S a4], .tok t3 5] (fun e A' => e = .ret (.tup []) ∧ ∃ t9, A' = [.obj o1 [slE Enc.byte r8 (some t9), S a4], .tok t9 5]) := by
 unfold part_put at H
 refine ACalls.of_body Tryz.func24 rfl rfl ?_
 show AW _ _ 42 _ _ _
 refine AW.seq ?_
 obtain ⟨x10, x11, e12, H⟩ := bnd2_s H
 refine AW.region ?_
 show AR _ _ _ _ _ [0, 1, 2, 3, 4, 5, 6, 7, 8, 9] _
 refine sS rfl rfl rfl (mv rfl) ?_
 refine sS rfl rfl rfl (g_build (zs := [.string ⟨#[]⟩, .string ⟨#[]⟩]) (ps := [(0, 1), (1, 1)]) (cs := [S ([67, 111, 110, 116, 101, 110, 116, 45, 84, 121, 112, 101] : List UInt8), S a5]) (by kernel_rfl) rfl rfl) ?_
 refine sS rfl rfl rfl (g_build (zs := [.string ⟨#[]⟩, .string ⟨#[]⟩]) (ps := [(0, 1), (1, 1)]) (cs := [S parta_k2, S ([113, 117, 111, 116, 101, 100, 45, 112, 114, 105, 110, 116, 97, 98, 108, 101] : List UInt8)]) (by kernel_rfl) rfl rfl) ?_
 refine sR rfl rfl rfl (opR_buildBig (E := (Enc.prod Enc.str Enc.str)) (bytes := 32) (zs := [.string ⟨#[]⟩, .string ⟨#[]⟩]) (l := ([(([67, 111, 110, 116, 101, 110, 116, 45, 84, 121, 112, 101] : List UInt8), a5), (parta_k2, ([113, 117, 111, 116, 101, 100, 45, 112, 114, 105, 110, 116, 97, 98, 108, 101] : List UInt8))] : List ((List UInt8) × List UInt8))) Tryz.underlying72 (by kernel_rfl) (by kernel_rfl) rfl rfl rfl rfl rfl) ?_
 refine AR.run rfl rfl (AO.callp rfl en46_parta rfl (w_head_All F ([(([67, 111, 110, 116, 101, 110, 116, 45, 84, 121, 112, 101] : List UInt8), a5), (parta_k2, ([113, 117, 111, 116, 101, 100, 45, 112, 114, 105, 110, 116, 97, 98, 108, 101] : List UInt8))] : List ((List UInt8) × List UInt8)) none x10 x11 e12) ?_)
 refine sS rfl rfl rfl (opS_move (av := .tup _) rfl) ?_
 refine sS rfl rfl rfl (opS_extract (av := slE _ _ _) rfl rfl) ?_
 refine sS rfl rfl rfl (opS_extract (av := .v _) rfl rfl) ?_
 refine sS rfl rfl rfl (opS_assign (av := slE _ _ _) rfl) ?_
 refine sS rfl rfl rfl (asg rfl) ?_
 refine AR.nil ?_
 show AW _ _ _ _ _ _
 refine AW.cut (X := (List UInt8) × Nat) (fun (y24, t25) => ⟨[(0, .pt o1 0), (2, slE Enc.byte a6 q7), (6, slE Enc.byte x10 none)], [], [.obj o1 [slE Enc.byte y24 (some t25), S a4], .tok t25 5]⟩) (fun (y24, t25) => part_put_j1 a6 x10 y24 = some r8) ?_ ?_
 ·
  obtain ⟨g13, H⟩ := grd_s H
  obtain ⟨x14, e15, H⟩ := lt_s H
  obtain ⟨g16, H⟩ := grd_s H
  obtain ⟨x17, e18, H⟩ := lt_s H
  obtain ⟨g20, H⟩ := grd_s H
  obtain ⟨x21, e22, H⟩ := lt_s H
  refine AW.region_draw (by kernel_rfl) ?_
  show AI _ _ _ _ _ 15 (Array.replicate 15 false) _
  refine AI.take (i := 0) rfl rfl (by kernel_rfl) (by kernel_rfl) (by kernel_rfl) (fun _ _ h => h) (opS_move (av := .pt _ _) rfl) ?_
  show AI _ _ _ _ _ _ #[true, false, false, false, false, false, false, false, false, false, false, false, false, false, false] _
  refine AI.take (i := 1) rfl rfl (by kernel_rfl) (by kernel_rfl) (by kernel_rfl) (fun _ _ h => h) (opS_move (av := .pt _ _) rfl) ?_
  show AI _ _ _ _ _ _ #[true, true, false, false, false, false, false, false, false, false, false, false, false, false, false] _
  refine AI.take (i := 2) rfl rfl (by kernel_rfl) (by kernel_rfl) (by kernel_rfl) (fun _ _ h => h) (opS_nilCheck_pt rfl) ?_
  show AI _ _ _ _ _ _ #[true, true, true, false, false, false, false, false, false, false, false, false, false, false, false] _
  refine AI.take (i := 3) rfl rfl (by kernel_rfl) (by kernel_rfl) (by kernel_rfl) (fun _ _ h => h) (opS_fieldAddr_pt (n := 0) (by kernel_rfl) rfl) ?_
  show AI _ _ _ _ _ _ #[true, true, true, true, false, false, false, false, false, false, false, false, false, false, false] _
  refine AI.take (i := 5) rfl rfl (by kernel_rfl) (by kernel_rfl) (by kernel_rfl) (fun _ _ h => h) (opS_move (av := .pt _ _) rfl) ?_
  show AI _ _ _ _ _ _ #[true, true, true, true, false, true, false, false, false, false, false, false, false, false, false] _
  refine AI.take (i := 6) rfl rfl (by kernel_rfl) (by kernel_rfl) (by kernel_rfl) (fun _ _ h => h) (opS_nilCheck_pt rfl) ?_
  show AI _ _ _ _ _ _ #[true, true, true, true, false, true, true, false, false, false, false, false, false, false, false] _
  refine AI.take (i := 7) rfl rfl (by kernel_rfl) (by kernel_rfl) (by kernel_rfl) (fun _ _ h => h) (opS_fieldAddr_pt (n := 1) (by kernel_rfl) rfl) ?_
  show AI _ _ _ _ _ _ #[true, true, true, true, false, true, true, true, false, false, false, false, false, false, false] _
  refine AI.two (i := 4) (j := 8) (by kernel_rfl) rfl rfl rfl rfl ?_ ?_
  ·
   refine AIO.op rfl (opR_load_pt (i := 0) Tryz.underlying26 rfl rfl rfl rfl) ?_
   show AI _ _ _ _ _ _ #[true, true, true, true, true, true, true, true, false, false, false, false, false, false, false] _
   refine AI.one (i := 8) (by kernel_rfl) rfl rfl ?_
   refine AIO.op rfl (opR_load_pt (i := 0) Tryz.underlying9 rfl rfl rfl rfl) ?_
   show AI _ _ _ _ _ _ #[true, true, true, true, true, true, true, true, true, false, false, false, false, false, false] _
   refine AI.take (i := 9) rfl rfl (by kernel_rfl) (by kernel_rfl) (by kernel_rfl) (fun _ _ h => h) (g_cat rfl rfl g13 e15) ?_
   show AI _ _ _ _ _ _ #[true, true, true, true, true, true, true, true, true, true, false, false, false, false, false] _
   refine AI.take (i := 10) rfl rfl (by kernel_rfl) (by kernel_rfl) (by kernel_rfl) (fun _ _ h => h) (g_cat rfl rfl g16 e18) ?_
   show AI _ _ _ _ _ _ #[true, true, true, true, true, true, true, true, true, true, true, false, false, false, false] _
   refine AI.one (i := 11) (by kernel_rfl) rfl rfl ?_
   refine AIO.opx rfl (g_append_str (bytes := 1) 1 Tryz.underlying26 Tryz.underlying9 rfl (by kernel_rfl) rfl rfl rfl rfl g20 e22) ?_
   rintro _ _ ⟨t19, rfl, rfl⟩
   show AI _ _ _ _ _ _ #[true, true, true, true, true, true, true, true, true, true, true, true, false, false, false] _
   refine AI.take (i := 12) rfl rfl (by kernel_rfl) (by kernel_rfl) (by kernel_rfl) (fun _ _ h => h) (opS_nilCheck_pt rfl) ?_
   show AI _ _ _ _ _ _ #[true, true, true, true, true, true, true, true, true, true, true, true, true, false, false] _
   refine AI.take (i := 13) rfl rfl (by kernel_rfl) (by kernel_rfl) (by kernel_rfl) (fun _ _ h => h) (opS_fieldAddr_pt (n := 0) (by kernel_rfl) rfl) ?_
   show AI _ _ _ _ _ _ #[true, true, true, true, true, true, true, true, true, true, true, true, true, true, false] _
   refine AI.one (i := 14) (by kernel_rfl) rfl rfl ?_
   refine AIO.op0 (opR_store_pt (i := 0) (c := slE _ _ _) (by kernel_rfl) rfl rfl rfl rfl (Nat.le_of_ble_eq_true rfl)) ?_
   show AI _ _ _ _ _ _ #[true, true, true, true, true, true, true, true, true, true, true, true, true, true, true] _
   refine AI.done rfl ?_
   exact Exists.intro (x21, t19) ⟨H, WK.at [0, 0] (.cons (.refl _) (.cons (.refl _) (.cons (.refl _) (.nil _)))) rfl⟩
  ·
   refine AIO.op rfl (opR_load_pt (i := 0) Tryz.underlying9 rfl rfl rfl rfl) ?_
   show AI _ _ _ _ _ _ #[true, true, true, true, false, true, true, true, true, false, false, false, false, false, false] _
   refine AI.take (i := 9) rfl rfl (by kernel_rfl) (by kernel_rfl) (by kernel_rfl) (fun _ _ h => h) (g_cat rfl rfl g13 e15) ?_
   show AI _ _ _ _ _ _ #[true, true, true, true, false, true, true, true, true, true, false, false, false, false, false] _
   refine AI.take (i := 10) rfl rfl (by kernel_rfl) (by kernel_rfl) (by kernel_rfl) (fun _ _ h => h) (g_cat rfl rfl g16 e18) ?_
   show AI _ _ _ _ _ _ #[true, true, true, true, false, true, true, true, true, true, true, false, false, false, false] _
   refine AI.one (i := 4) (by kernel_rfl) rfl rfl ?_
   refine AIO.op rfl (opR_load_pt (i := 0) Tryz.underlying26 rfl rfl rfl rfl) ?_
   show AI _ _ _ _ _ _ #[true, true, true, true, true, true, true, true, true, true, true, false, false, false, false] _
   refine AI.one (i := 11) (by kernel_rfl) rfl rfl ?_
   refine AIO.opx rfl (g_append_str (bytes := 1) 1 Tryz.underlying26 Tryz.underlying9 rfl (by kernel_rfl) rfl rfl rfl rfl g20 e22) ?_
   rintro _ _ ⟨t23, rfl, rfl⟩
   show AI _ _ _ _ _ _ #[true, true, true, true, true, true, true, true, true, true, true, true, false, false, false] _
   refine AI.take (i := 12) rfl rfl (by kernel_rfl) (by kernel_rfl) (by kernel_rfl) (fun _ _ h => h) (opS_nilCheck_pt rfl) ?_
   show AI _ _ _ _ _ _ #[true, true, true, true, true, true, true, true, true, true, true, true, true, false, false] _
   refine AI.take (i := 13) rfl rfl (by kernel_rfl) (by kernel_rfl) (by kernel_rfl) (fun _ _ h => h) (opS_fieldAddr_pt (n := 0) (by kernel_rfl) rfl) ?_
   show AI _ _ _ _ _ _ #[true, true, true, true, true, true, true, true, true, true, true, true, true, true, false] _
   refine AI.one (i := 14) (by kernel_rfl) rfl rfl ?_
   refine AIO.op0 (opR_store_pt (i := 0) (c := slE _ _ _) (by kernel_rfl) rfl rfl rfl rfl (Nat.le_of_ble_eq_true rfl)) ?_
   show AI _ _ _ _ _ _ #[true, true, true, true, true, true, true, true, true, true, true, true, true, true, true] _
   refine AI.done rfl ?_
   exact Exists.intro (x21, t23) ⟨H, WK.at [0, 0] (.cons (.refl _) (.cons (.refl _) (.cons (.refl _) (.nil _)))) rfl⟩
 rintro ⟨y24, t25⟩ H
 replace H : part_put_j1 a6 x10 y24 = some r8 := H
 unfold part_put_j1 at H
 show AW _ _ _ _ _ _
 obtain ⟨g28, H⟩ := grd_s H
 obtain ⟨x29, e30, H⟩ := lt_s H
 obtain ⟨g32, H⟩ := grd_s H
 obtain ⟨x33, e34, H⟩ := lt_s H
 obtain ⟨g36, H⟩ := grd_s H
 obtain ⟨x37, e38, H⟩ := lt_s H
 refine AW.region ?_
 show AR _ _ _ _ _ [0, 1, 2, 3, 4, 5, 6, 7, 8, 9, 10, 11, 12] _
 refine sS rfl rfl rfl (opS_move (av := .pt _ _) rfl) ?_
 refine sS rfl rfl rfl (opS_move (av := .pt _ _) rfl) ?_
 refine sS rfl rfl rfl (opS_nilCheck_pt rfl) ?_
 refine sS rfl rfl rfl (opS_fieldAddr_pt (n := 0) (by kernel_rfl) rfl) ?_
 refine sR rfl rfl rfl (opR_load_pt (i := 0) Tryz.underlying26 rfl rfl rfl rfl) ?_
 refine sS rfl rfl rfl (opS_move (av := slE _ _ _) rfl) ?_
 refine sX rfl rfl rfl (g_append (E := Enc.byte) (bytes := 1) 1 Tryz.underlying26 Tryz.underlying26 rfl (by kernel_rfl) rfl rfl rfl rfl g28 e30) ?_
 rintro _ _ ⟨t27, rfl, rfl⟩
 refine sS rfl rfl rfl (opS_move (av := slE _ _ _) rfl) ?_
 refine sX rfl rfl rfl (g_append (E := Enc.byte) (bytes := 1) 1 Tryz.underlying26 Tryz.underlying26 rfl (by kernel_rfl) rfl rfl rfl rfl g32 e34) ?_
 rintro _ _ ⟨t31, rfl, rfl⟩
 refine sX rfl rfl rfl (g_append_str (bytes := 1) 1 Tryz.underlying26 Tryz.underlying9 rfl (by kernel_rfl) rfl rfl rfl rfl g36 e38) ?_
 rintro _ _ ⟨t35, rfl, rfl⟩
 refine sS rfl rfl rfl (opS_nilCheck_pt rfl) ?_
 refine sS rfl rfl rfl (opS_fieldAddr_pt (n := 0) (by kernel_rfl) rfl) ?_
 refine s0 rfl rfl (opR_store_pt (i := 0) (c := slE _ _ _) (by kernel_rfl) rfl rfl rfl rfl (Nat.le_of_ble_eq_true rfl)) ?_
 refine AR.nil ?_
 obtain rfl := Option.some.inj H
 exact And.intro rfl (Exists.intro _ (Exists.intro _ ⟨ResV.noneW rfl, Sub.at [0, 0] rfl, rfl, t35, rfl⟩))
set_option maxRecDepth 100000 in
set_option maxHeartbeats 1000000 in
theorem w_part_Join (F : Nat) (a1 : List (List UInt8)) (q2 : Option Nat) (a3 : List (List UInt8)) (q4 : Option Nat) (r5 : List UInt8) (r6 : List UInt8) (r7 : Int) (H : part_Join F a1 a3 = some (r5, r6, r7)) : ACalls Tryz.prog 10 [slE Enc.str a1 q2, slE (Enc.sl Enc.byte) a3 q4] [] (Ret (.tup [slE Enc.byte r5 none, S r6, i64 r7]) []) := by
 unfold part_Join at H
 refine ACalls.of_body Tryz.func10 rfl rfl ?_
 show AW _ _ 82 _ _ _
 refine AW.seq ?_
 refine AW.region ?_
 show AR _ _ _ _ _ [0, 1, 2] _
 refine sS rfl rfl rfl (asg rfl) ?_
 refine sS rfl rfl rfl (asg rfl) ?_
 refine sS rfl rfl rfl (asg rfl) ?_
 refine AR.nil ?_
 show AW _ _ _ _ _ _
 refine AW.seq ?_
 refine AW.seq ?_
 obtain ⟨x11, e12, H⟩ := bndc_s H
 refine AW.region ?_
 show AR _ _ _ _ _ [0, 1, 2, 3, 4, 5, 6, 7, 8, 9, 10, 11, 12, 13, 14, 15, 16, 17, 18] _
 refine sS rfl rfl rfl (opS_move (av := slE _ _ _) rfl) ?_
 refine sS rfl rfl rfl (opS_len_sl Tryz.underlying22 rfl) ?_
 refine sS rfl rfl rfl (opS_move (av := slE _ _ _) rfl) ?_
 refine sS rfl rfl rfl (opS_len_sl Tryz.underlying23 rfl) ?_
 refine sS rfl rfl rfl (opS_nei rfl rfl) ?_
 refine sS rfl rfl rfl (mv rfl) ?_
 refine AR.meet (l := [10, 11, 12, 13, 14, 15, 16, 17, 18]) 23 (B ((!decide ((a1.length : Int) = (a3.length : Int))) || (decide ((a3.length : Int) = 0)))) (fun K => ?_) ?_
 ·rcases Bool.eq_false_or_eq_true (!decide ((a1.length : Int) = (a3.length : Int))) with h8 | h8
  ·
   refine gF h8 rfl rfl rfl rfl rfl ?_
   refine gF h8 rfl rfl rfl rfl rfl ?_
   refine gF h8 rfl rfl rfl rfl rfl ?_
   refine sS rfl rfl rfl (opS_pick_t (av := .v _) rfl h8 rfl) ?_
   exact K _ 3 _ (B_congr (or_t h8)) rfl rfl
  ·
   refine gT h8 rfl rfl rfl rfl rfl rfl (AO.ops rfl rfl (opS_move (av := slE _ _ _) rfl) ?_)
   refine gT h8 rfl rfl rfl rfl rfl rfl (AO.ops rfl rfl (opS_len_sl Tryz.underlying23 rfl) ?_)
   refine gT h8 rfl rfl rfl rfl rfl rfl (AO.ops rfl rfl (opS_eqi rfl rfl) ?_)
   refine sS rfl rfl rfl (opS_pick_f (av := .v _) rfl h8 rfl) ?_
   exact K _ 3 _ (B_congr (or_f h8)) rfl rfl
 refine sS rfl rfl rfl (mv rfl) ?_
 refine AR.meet (l := [15, 16, 17, 18]) 28 (B (((!decide ((a1.length : Int) = (a3.length : Int))) || (decide ((a3.length : Int) = 0))) || (decide (8 < (a3.length : Int))))) (fun K => ?_) ?_
 ·rcases Bool.eq_false_or_eq_true ((!decide ((a1.length : Int) = (a3.length : Int))) || (decide ((a3.length : Int) = 0))) with h9 | h9
  ·
   refine gF h9 rfl rfl rfl rfl rfl ?_
   refine gF h9 rfl rfl rfl rfl rfl ?_
   refine gF h9 rfl rfl rfl rfl rfl ?_
   refine sS rfl rfl rfl (opS_pick_t (av := .v _) rfl h9 rfl) ?_
   exact K _ 3 _ (B_congr (or_t h9)) rfl rfl
  ·
   refine gT h9 rfl rfl rfl rfl rfl rfl (AO.ops rfl rfl (opS_move (av := slE _ _ _) rfl) ?_)
   refine gT h9 rfl rfl rfl rfl rfl rfl (AO.ops rfl rfl (opS_len_sl Tryz.underlying23 rfl) ?_)
   refine gT h9 rfl rfl rfl rfl rfl rfl (AO.ops rfl rfl (opS_gt rfl rfl) ?_)
   refine sS rfl rfl rfl (opS_pick_f (av := .v _) rfl h9 rfl) ?_
   exact K _ 3 _ (B_congr (or_f h9)) rfl rfl
 refine sS rfl rfl rfl (mv rfl) ?_
 refine AR.meet (l := []) 32 (B ((((!decide ((a1.length : Int) = (a3.length : Int))) || (decide ((a3.length : Int) = 0))) || (decide (8 < (a3.length : Int)))) || x11)) (fun K => ?_) ?_
 ·rcases Bool.eq_false_or_eq_true (((!decide ((a1.length : Int) = (a3.length : Int))) || (decide ((a3.length : Int) = 0))) || (decide (8 < (a3.length : Int)))) with h10 | h10
  ·
   refine gF h10 rfl rfl rfl rfl rfl ?_
   refine gF h10 rfl rfl rfl rfl rfl ?_
   refine sS rfl rfl rfl (opS_pick_t (av := .v _) rfl h10 rfl) ?_
   exact K _ 2 _ (B_congr (or_t h10)) rfl rfl
  ·
   refine gT h10 rfl rfl rfl rfl rfl rfl (AO.ops rfl rfl (opS_move (av := slE _ _ _) rfl) ?_)
   refine gT h10 rfl rfl rfl rfl rfl rfl (AO.callp rfl en20_parta rfl (w_part_ContainsK F a1 q2 x11 (e12 (nf h10))) ?_)
   refine sS rfl rfl rfl (opS_pick_f (av := .v _) rfl h10 rfl) ?_
   exact K _ 2 _ (B_congr (or_f h10)) rfl rfl
 refine AR.nil ?_
 show AW _ _ _ _ _ _
 refine AW.cond rfl (fun c13 => ?_) (fun c13 => ?_)
 ·replace H := cnd_t c13 H
  refine AW.seq ?_
  refine AW.region ?_
  show AR _ _ _ _ _ [0, 1, 2] _
  refine sS rfl rfl rfl (asg rfl) ?_
  refine sS rfl rfl rfl (asg rfl) ?_
  refine sS rfl rfl rfl (asg rfl) ?_
  refine AR.nil ?_
  show AW _ _ _ _ _ _
  refine AW.ret ?_
  obtain ⟨rfl, rfl, rfl⟩ := res3 H
  exact And.intro rfl (Exists.intro _ (Exists.intro _ ⟨ResV.threeW rfl (.nil _) (.refl _) (.refl _), Sub.at [] rfl, rfl, rfl⟩))
 ·replace H := cnd_f c13 H
  refine AW.skip ?_
  show AW _ _ _ _ _ _
  refine AW.seq ?_
  refine AW.region ?_
  show AR _ _ _ _ _ [0] _
  refine sS rfl rfl rfl (asg rfl) ?_
  refine AR.nil ?_
  show AW _ _ _ _ _ _
  refine AW.nil_grows 7 1 26 rfl fun t14 => ?_
  show AW _ _ _ _ _ ⟨(7, slE (Enc.sl Enc.byte) [] (some t14)) :: _, _, _⟩
  refine AW.cut (X := (List (List UInt8)) × Nat) (fun (y31, t32) => ⟨[(0, slE Enc.str a1 q2), (7, slE (Enc.sl Enc.byte) y31 (some t32))], [], [.tok t32 26]⟩) (fun (y31, t32) => part_Join_j2 F a1 y31 = some (r5, r6, r7)) ?_ ?_
  ·
   refine AW.seq ?_
   refine AW.region ?_
   show AR _ _ _ _ _ [0, 1, 2] _
   refine sS rfl rfl rfl (opS_move (av := slE _ _ _) rfl) ?_
   refine sS rfl rfl rfl (opS_len_sl Tryz.underlying23 rfl) ?_
   refine sS rfl rfl rfl (mv rfl) ?_
   refine AR.nil ?_
   show AW _ _ _ _ _ _
   refine AW.block ?_
   refine AW.loop (X := Nat × (List (List UInt8)) × Nat × Int) (fun (n19, y15, t16, y17) => ⟨[(0, slE Enc.str a1 q2), (7, slE (Enc.sl Enc.byte) y15 (some t16)), (33, slE (Enc.sl Enc.byte) a3 q4), (34, i64 (a3.length : Int)), (35, i64 y17)], [], [.tok t16 26]⟩) (fun (n19, y15, t16, y17) => part_Join_L2 F a1 a3 n19 (y15, y17) = some (r5, r6, r7)) (fun (n19, y15, t16, y17) => n19) (F, [], t14, 0) H (WK.at [0] (.cons (.refl _) (.cons (.refl _) (.cons (.refl _) (.cons (.refl _) (.cons (.refl _) (.nil _)))))) rfl) ?_
   rintro ⟨n19, y15, t16, y17⟩ H
   obtain ⟨n19, rfl, H⟩ := loop_s H
   replace H : part_Join_B2 F a1 a3 (part_Join_L2 F a1 a3 n19) y15 y17 = some (r5, r6, r7) := H
   unfold part_Join_B2 at H
   show AW _ _ _ _ _ _
   refine AW.seq ?_
   refine AW.region ?_
   show AR _ _ _ _ _ [0] _
   refine sS rfl rfl rfl (opS_lt rfl rfl) ?_
   refine AR.nil ?_
   show AW _ _ _ _ _ _
   refine AW.seq ?_
   refine AW.cond rfl (fun c20 => ?_) (fun c20 => ?_)
   ·replace H := cnd_t c20 H
    refine AW.skip ?_
    show AW _ _ _ _ _ _
    refine AW.seq ?_
    refine AW.block ?_
    refine AW.seq ?_
    obtain ⟨g21, H⟩ := grd_s H
    obtain ⟨x22, e23, H⟩ := lt_s H
    refine AW.region ?_
    show AR _ _ _ _ _ [0, 1, 2] _
    refine sS rfl rfl rfl (g_indexAddr (E := (Enc.sl Enc.byte)) Tryz.underlying23 (by kernel_rfl) rfl rfl g21 e23) ?_
    refine sS rfl rfl rfl (opS_load_cp Tryz.underlying26 rfl rfl) ?_
    refine sS rfl rfl rfl (opS_assign (av := slE _ _ _) rfl) ?_
    refine AR.nil ?_
    show AW _ _ _ _ _ _
    obtain ⟨x24, e25, H⟩ := bnd_s H
    obtain ⟨g27, H⟩ := grd_s H
    obtain ⟨x28, e29, H⟩ := lt_s H
    refine AW.region ?_
    show AR _ _ _ _ _ [0, 1, 2, 3, 4, 5] _
    refine sS rfl rfl rfl (opS_move (av := slE _ _ _) rfl) ?_
    refine sS rfl rfl rfl (opS_move (av := slE _ _ _) rfl) ?_
    refine AR.run rfl rfl (AO.callp rfl en23_parta rfl (w_qp_Encode F x22 none x24 e25) ?_)
    refine sR rfl rfl rfl (opR_buildE (E := (Enc.sl Enc.byte)) (bytes := 24) (xs := [.tmp 41]) (l := ([x24] : List (List UInt8))) Tryz.underlying23 (by kernel_rfl) rfl rfl (by decide) rfl rfl) ?_
    refine sX rfl rfl rfl (g_append (E := (Enc.sl Enc.byte)) (bytes := 24) 0 Tryz.underlying23 Tryz.underlying23 rfl (by kernel_rfl) rfl rfl rfl rfl g27 e29) ?_
    rintro _ _ ⟨t26, rfl, rfl⟩
    refine sS rfl rfl rfl (opS_assign (av := slE _ _ _) rfl) ?_
    refine AR.nil ?_
    show AW _ _ _ _ _ _
    obtain ⟨g30, H⟩ := grd_s H
    refine AW.region ?_
    show AR _ _ _ _ _ [0, 1] _
    refine sS rfl rfl rfl (g_add rfl rfl g30) ?_
    refine sS rfl rfl rfl (mv rfl) ?_
    refine AR.nil ?_
    exact Exists.intro (n19, x28, t26, y17 + 1) ⟨H, Nat.lt_succ_self _, WK.at [0] (.cons (.refl _) (.cons (.refl _) (.cons (.refl _) (.cons (.refl _) (.cons (.refl _) (.nil _)))))) rfl⟩
   ·replace H := cnd_f c20 H
    refine AW.exit ?_
    exact Exists.intro (y15, t16) ⟨H, WK.at [0] (.cons (.refl _) (.cons (.refl _) (.nil _))) rfl⟩
  rintro ⟨y31, t32⟩ H
  replace H : part_Join_j2 F a1 y31 = some (r5, r6, r7) := H
  unfold part_Join_j2 at H
  show AW _ _ _ _ _ _
  refine AW.seq ?_
  obtain ⟨x34, e35, H⟩ := bnd_s H
  refine AW.region ?_
  show AR _ _ _ _ _ [0, 1, 2, 3, 4] _
  refine sS rfl rfl rfl (opS_move (av := slE _ _ _) rfl) ?_
  refine AR.run rfl rfl (AO.callp rfl en12_parta rfl (w_part_Boundary F y31 (some t32) x34 e35) ?_)
  refine sS rfl rfl rfl (g_build (zs := [.slice none 0 0, .string ⟨#[]⟩]) (ps := [(0, 1), (1, 1)]) (cs := [nilS, S x34]) (by kernel_rfl) rfl rfl) ?_
  refine sX rfl rfl rfl (opX_box rfl (.inr ⟨_, rfl⟩)) ?_
  rintro _ _ ⟨o36, rfl, rfl⟩
  refine sS rfl rfl rfl (opS_assign (av := .pt _ _) rfl) ?_
  refine AR.nil ?_
  show AW _ _ _ _ _ _
  refine AW.nil_objAt 0 0 1 5 rfl rfl fun t37 => ?_
  show AW _ _ _ _ _ ⟨_, _, [.tok t37 5, .obj o36 [slE Enc.byte [] (some t37), S x34], .tok t32 26]⟩
  refine AW.seq ?_
  refine AW.region ?_
  show AR _ _ _ _ _ [0, 1, 2] _
  refine sS rfl rfl rfl (opS_move (av := .pt _ _) rfl) ?_
  refine sS rfl rfl rfl (opS_makeFunc rfl rfl) ?_
  refine sS rfl rfl rfl (opS_assign (av := .fn _ _ _) rfl) ?_
  refine AR.nil ?_
  show AW _ _ _ _ _ _
  refine AW.cut (X := (List UInt8) × Nat) (fun (y54, t55) => ⟨[(10, .pt o36 0)], [], [.obj o36 [slE Enc.byte y54 (some t55), S x34], .tok t55 5]⟩) (fun (y54, t55) => part_Join_j1 x34 y54 = some (r5, r6, r7)) ?_ ?_
  ·
   refine AW.seq ?_
   refine AW.region ?_
   show AR _ _ _ _ _ [0, 1, 2] _
   refine sS rfl rfl rfl (opS_move (av := slE _ _ _) rfl) ?_
   refine sS rfl rfl rfl (opS_len_sl Tryz.underlying23 rfl) ?_
   refine sS rfl rfl rfl (mv rfl) ?_
   refine AR.nil ?_
   show AW _ _ _ _ _ _
   refine AW.block ?_
   refine AW.loop (X := Nat × Int × (List UInt8) × Nat) (fun (n42, y38, y39, t40) => ⟨[(0, slE Enc.str a1 q2), (10, .pt o36 0), (11, .fn (.func 24) [.pt o36 0] []), (51, slE (Enc.sl Enc.byte) y31 (some t32)), (52, i64 (y31.length : Int)), (53, i64 y38)], [], [.obj o36 [slE Enc.byte y39 (some t40), S x34], .tok t32 26, .tok t40 5]⟩) (fun (n42, y38, y39, t40) => part_Join_L1 F a1 y31 x34 n42 (y38, y39) = some (r5, r6, r7)) (fun (n42, y38, y39, t40) => n42) (F, 0, [], t37) H (WK.at [1, 1, 0] (.cons (.refl _) (.cons (.refl _) (.cons (.refl _) (.cons (.refl _) (.cons (.refl _) (.cons (.refl _) (.nil _))))))) rfl) ?_
   rintro ⟨n42, y38, y39, t40⟩ H
   obtain ⟨n42, rfl, H⟩ := loop_s H
   replace H : part_Join_B1 F a1 y31 x34 (part_Join_L1 F a1 y31 x34 n42) y38 y39 = some (r5, r6, r7) := H
   unfold part_Join_B1 at H
   show AW _ _ _ _ _ _
   refine AW.seq ?_
   refine AW.region ?_
   show AR _ _ _ _ _ [0] _
   refine sS rfl rfl rfl (opS_lt rfl rfl) ?_
   refine AR.nil ?_
   show AW _ _ _ _ _ _
   refine AW.seq ?_
   refine AW.cond rfl (fun c43 => ?_) (fun c43 => ?_)
   ·replace H := cnd_t c43 H
    refine AW.skip ?_
    show AW _ _ _ _ _ _
    refine AW.seq ?_
    refine AW.block ?_
    refine AW.seq ?_
    obtain ⟨g44, H⟩ := grd_s H
    obtain ⟨x45, e46, H⟩ := lt_s H
    refine AW.region ?_
    show AR _ _ _ _ _ [0, 1, 2, 3, 4] _
    refine sS rfl rfl rfl (mv rfl) ?_
    refine sS rfl rfl rfl (g_indexAddr (E := (Enc.sl Enc.byte)) Tryz.underlying23 (by kernel_rfl) rfl rfl g44 e46) ?_
    refine sS rfl rfl rfl (opS_load_cp Tryz.underlying26 rfl rfl) ?_
    refine sS rfl rfl rfl (asg rfl) ?_
    refine sS rfl rfl rfl (opS_assign (av := slE _ _ _) rfl) ?_
    refine AR.nil ?_
    show AW _ _ _ _ _ _
    obtain ⟨g47, H⟩ := grd_s H
    obtain ⟨x48, e49, H⟩ := lt_s H
    obtain ⟨x50, e51, H⟩ := bnd_s H
    refine AW.region ?_
    show AR _ _ _ _ _ [0, 1, 2, 3, 4, 5, 6] _
    refine sS rfl rfl rfl (opS_move (av := .fn _ _ _) rfl) ?_
    refine sS rfl rfl rfl (opS_move (av := slE _ _ _) rfl) ?_
    refine sS rfl rfl rfl (mv rfl) ?_
    refine sS rfl rfl rfl (g_indexAddr (E := Enc.str) Tryz.underlying22 (by kernel_rfl) rfl rfl g47 e49) ?_
    refine sS rfl rfl rfl (opS_load_cp Tryz.underlying9 rfl rfl) ?_
    refine sS rfl rfl rfl (opS_move (av := slE _ _ _) rfl) ?_
    refine AR.run rfl rfl (AO.callFAt [0, 1] rfl (.inl rfl) en24_parta rfl (w_part_put F o36 y39 t40 x34 x48 x45 none x50 e51) rfl (fun c A' h => by cases h.1) ?_)
    rintro av A' ⟨h, t52, rfl⟩; cases h
    refine AR.nil ?_
    show AW _ _ _ _ _ _
    obtain ⟨g53, H⟩ := grd_s H
    refine AW.region ?_
    show AR _ _ _ _ _ [0, 1] _
    refine sS rfl rfl rfl (g_add rfl rfl g53) ?_
    refine sS rfl rfl rfl (mv rfl) ?_
    refine AR.nil ?_
    exact Exists.intro (n42, y38 + 1, x50, t52) ⟨H, Nat.lt_succ_self _, WK.at [0, 1, 0] (.cons (.refl _) (.cons (.refl _) (.cons (.refl _) (.cons (.refl _) (.cons (.refl _) (.cons (.refl _) (.nil _))))))) rfl⟩
   ·replace H := cnd_f c43 H
    refine AW.exit ?_
    exact Exists.intro (y39, t40) ⟨H, WK.at [0, 1] (.cons (.refl _) (.nil _)) rfl⟩
  rintro ⟨y54, t55⟩ H
  replace H : part_Join_j1 x34 y54 = some (r5, r6, r7) := H
  unfold part_Join_j1 at H
  show AW _ _ _ _ _ _
  refine AW.seq ?_
  obtain ⟨g57, H⟩ := grd_s H
  obtain ⟨x58, e59, H⟩ := lt_s H
  obtain ⟨g60, H⟩ := grd_s H
  obtain ⟨x61, e62, H⟩ := lt_s H
  obtain ⟨g63, H⟩ := grd_s H
  obtain ⟨x64, e65, H⟩ := lt_s H
  obtain ⟨g67, H⟩ := grd_s H
  obtain ⟨x68, e69, H⟩ := lt_s H
  refine AW.region_draw (by kernel_rfl) ?_
  show AI _ _ _ _ _ 19 (Array.replicate 19 false) _
  refine AI.take (i := 0) rfl rfl (by kernel_rfl) (by kernel_rfl) (by kernel_rfl) (fun _ _ h => h) (opS_move (av := .pt _ _) rfl) ?_
  show AI _ _ _ _ _ _ #[true, false, false, false, false, false, false, false, false, false, false, false, false, false, false, false, false, false, false] _
  refine AI.take (i := 1) rfl rfl (by kernel_rfl) (by kernel_rfl) (by kernel_rfl) (fun _ _ h => h) (opS_nilCheck_pt rfl) ?_
  show AI _ _ _ _ _ _ #[true, true, false, false, false, false, false, false, false, false, false, false, false, false, false, false, false, false, false] _
  refine AI.take (i := 2) rfl rfl (by kernel_rfl) (by kernel_rfl) (by kernel_rfl) (fun _ _ h => h) (opS_fieldAddr_pt (n := 0) (by kernel_rfl) rfl) ?_
  show AI _ _ _ _ _ _ #[true, true, true, false, false, false, false, false, false, false, false, false, false, false, false, false, false, false, false] _
  refine AI.take (i := 4) rfl rfl (by kernel_rfl) (by kernel_rfl) (by kernel_rfl) (fun _ _ h => h) (opS_move (av := .pt _ _) rfl) ?_
  show AI _ _ _ _ _ _ #[true, true, true, false, true, false, false, false, false, false, false, false, false, false, false, false, false, false, false] _
  refine AI.take (i := 5) rfl rfl (by kernel_rfl) (by kernel_rfl) (by kernel_rfl) (fun _ _ h => h) (opS_nilCheck_pt rfl) ?_
  show AI _ _ _ _ _ _ #[true, true, true, false, true, true, false, false, false, false, false, false, false, false, false, false, false, false, false] _
  refine AI.take (i := 6) rfl rfl (by kernel_rfl) (by kernel_rfl) (by kernel_rfl) (fun _ _ h => h) (opS_fieldAddr_pt (n := 1) (by kernel_rfl) rfl) ?_
  show AI _ _ _ _ _ _ #[true, true, true, false, true, true, true, false, false, false, false, false, false, false, false, false, false, false, false] _
  refine AI.take (i := 12) rfl rfl (by kernel_rfl) (by kernel_rfl) (by kernel_rfl) (fun _ _ h => h) (opS_move (av := .pt _ _) rfl) ?_
  show AI _ _ _ _ _ _ #[true, true, true, false, true, true, true, false, false, false, false, false, true, false, false, false, false, false, false] _
  refine AI.take (i := 13) rfl rfl (by kernel_rfl) (by kernel_rfl) (by kernel_rfl) (fun _ _ h => h) (opS_nilCheck_pt rfl) ?_
  show AI _ _ _ _ _ _ #[true, true, true, false, true, true, true, false, false, false, false, false, true, true, false, false, false, false, false] _
  refine AI.take (i := 14) rfl rfl (by kernel_rfl) (by kernel_rfl) (by kernel_rfl) (fun _ _ h => h) (opS_fieldAddr_pt (n := 1) (by kernel_rfl) rfl) ?_
  show AI _ _ _ _ _ _ #[true, true, true, false, true, true, true, false, false, false, false, false, true, true, true, false, false, false, false] _
  refine AI.three (i := 3) (j := 7) (l := 15) (by kernel_rfl) rfl rfl rfl rfl rfl rfl ?_ ?_ ?_
  ·
   refine AIO.op rfl (opR_load_pt (i := 0) Tryz.underlying26 rfl rfl rfl rfl) ?_
   show AI _ _ _ _ _ _ #[true, true, true, true, true, true, true, false, false, false, false, false, true, true, true, false, false, false, false] _
   refine AI.two (i := 7) (j := 15) (by kernel_rfl) rfl rfl rfl rfl ?_ ?_
   ·
    refine AIO.op rfl (opR_load_pt (i := 0) Tryz.underlying9 rfl rfl rfl rfl) ?_
    show AI _ _ _ _ _ _ #[true, true, true, true, true, true, true, true, false, false, false, false, true, true, true, false, false, false, false] _
    refine AI.take (i := 8) rfl rfl (by kernel_rfl) (by kernel_rfl) (by kernel_rfl) (fun _ _ h => h) (g_cat rfl rfl g57 e59) ?_
    show AI _ _ _ _ _ _ #[true, true, true, true, true, true, true, true, true, false, false, false, true, true, true, false, false, false, false] _
    refine AI.take (i := 9) rfl rfl (by kernel_rfl) (by kernel_rfl) (by kernel_rfl) (fun _ _ h => h) (g_cat rfl rfl g60 e62) ?_
    show AI _ _ _ _ _ _ #[true, true, true, true, true, true, true, true, true, true, false, false, true, true, true, false, false, false, false] _
    refine AI.take (i := 10) rfl rfl (by kernel_rfl) (by kernel_rfl) (by kernel_rfl) (fun _ _ h => h) (g_cat rfl rfl g63 e65) ?_
    show AI _ _ _ _ _ _ #[true, true, true, true, true, true, true, true, true, true, true, false, true, true, true, false, false, false, false] _
    refine AI.two (i := 11) (j := 15) (by kernel_rfl) rfl rfl rfl rfl ?_ ?_
    ·
     refine AIO.opx rfl (g_append_str (bytes := 1) 1 Tryz.underlying26 Tryz.underlying9 rfl (by kernel_rfl) rfl rfl rfl rfl g67 e69) ?_
     rintro _ _ ⟨t66, rfl, rfl⟩
     show AI _ _ _ _ _ _ #[true, true, true, true, true, true, true, true, true, true, true, true, true, true, true, false, false, false, false] _
     refine AI.take (i := 16) rfl rfl (by kernel_rfl) (by kernel_rfl) (by kernel_rfl) (fun _ _ h => h) (opS_assign (av := slE _ _ _) rfl) ?_
     show AI _ _ _ _ _ _ #[true, true, true, true, true, true, true, true, true, true, true, true, true, true, true, false, true, false, false] _
     refine AI.one (i := 15) (by kernel_rfl) rfl rfl ?_
     refine AIO.op rfl (opR_load_pt (i := 0) Tryz.underlying9 rfl rfl rfl rfl) ?_
     show AI _ _ _ _ _ _ #[true, true, true, true, true, true, true, true, true, true, true, true, true, true, true, true, true, false, false] _
     refine AI.take (i := 17) rfl rfl (by kernel_rfl) (by kernel_rfl) (by kernel_rfl) (fun _ _ h => h) (asg rfl) ?_
     show AI _ _ _ _ _ _ #[true, true, true, true, true, true, true, true, true, true, true, true, true, true, true, true, true, true, false] _
     refine AI.take (i := 18) rfl rfl (by kernel_rfl) (by kernel_rfl) (by kernel_rfl) (fun _ _ h => h) (asg rfl) ?_
     show AI _ _ _ _ _ _ #[true, true, true, true, true, true, true, true, true, true, true, true, true, true, true, true, true, true, true] _
     refine AI.done rfl ?_
     show AW _ _ _ _ _ _
     refine AW.ret ?_
     obtain ⟨rfl, rfl, rfl⟩ := res3 H
     exact And.intro rfl (Exists.intro _ (Exists.intro _ ⟨ResV.threeW rfl (.tok _ _ _) (.refl _) (.refl _), Sub.at [] rfl, rfl, rfl⟩))
    ·
     refine AIO.op rfl (opR_load_pt (i := 0) Tryz.underlying9 rfl rfl rfl rfl) ?_
     show AI _ _ _ _ _ _ #[true, true, true, true, true, true, true, true, true, true, true, false, true, true, true, true, false, false, false] _
     refine AI.one (i := 11) (by kernel_rfl) rfl rfl ?_
     refine AIO.opx rfl (g_append_str (bytes := 1) 1 Tryz.underlying26 Tryz.underlying9 rfl (by kernel_rfl) rfl rfl rfl rfl g67 e69) ?_
     rintro _ _ ⟨t70, rfl, rfl⟩
     show AI _ _ _ _ _ _ #[true, true, true, true, true, true, true, true, true, true, true, true, true, true, true, true, false, false, false] _
     refine AI.take (i := 16) rfl rfl (by kernel_rfl) (by kernel_rfl) (by kernel_rfl) (fun _ _ h => h) (opS_assign (av := slE _ _ _) rfl) ?_
     show AI _ _ _ _ _ _ #[true, true, true, true, true, true, true, true, true, true, true, true, true, true, true, true, true, false, false] _
     refine AI.take (i := 17) rfl rfl (by kernel_rfl) (by kernel_rfl) (by kernel_rfl) (fun _ _ h => h) (asg rfl) ?_
     show AI _ _ _ _ _ _ #[true, true, true, true, true, true, true, true, true, true, true, true, true, true, true, true, true, true, false] _
     refine AI.take (i := 18) rfl rfl (by kernel_rfl) (by kernel_rfl) (by kernel_rfl) (fun _ _ h => h) (asg rfl) ?_
     show AI _ _ _ _ _ _ #[true, true, true, true, true, true, true, true, true, true, true, true, true, true, true, true, true, true, true] _
     refine AI.done rfl ?_
     show AW _ _ _ _ _ _
     refine AW.ret ?_
     obtain ⟨rfl, rfl, rfl⟩ := res3 H
     exact And.intro rfl (Exists.intro _ (Exists.intro _ ⟨ResV.threeW rfl (.tok _ _ _) (.refl _) (.refl _), Sub.at [] rfl, rfl, rfl⟩))
   ·
    refine AIO.op rfl (opR_load_pt (i := 0) Tryz.underlying9 rfl rfl rfl rfl) ?_
    show AI _ _ _ _ _ _ #[true, true, true, true, true, true, true, false, false, false, false, false, true, true, true, true, false, false, false] _
    refine AI.one (i := 7) (by kernel_rfl) rfl rfl ?_
    refine AIO.op rfl (opR_load_pt (i := 0) Tryz.underlying9 rfl rfl rfl rfl) ?_
    show AI _ _ _ _ _ _ #[true, true, true, true, true, true, true, true, false, false, false, false, true, true, true, true, false, false, false] _
    refine AI.take (i := 8) rfl rfl (by kernel_rfl) (by kernel_rfl) (by kernel_rfl) (fun _ _ h => h) (g_cat rfl rfl g57 e59) ?_
    show AI _ _ _ _ _ _ #[true, true, true, true, true, true, true, true, true, false, false, false, true, true, true, true, false, false, false] _
    refine AI.take (i := 9) rfl rfl (by kernel_rfl) (by kernel_rfl) (by kernel_rfl) (fun _ _ h => h) (g_cat rfl rfl g60 e62) ?_
    show AI _ _ _ _ _ _ #[true, true, true, true, true, true, true, true, true, true, false, false, true, true, true, true, false, false, false] _
    refine AI.take (i := 10) rfl rfl (by kernel_rfl) (by kernel_rfl) (by kernel_rfl) (fun _ _ h => h) (g_cat rfl rfl g63 e65) ?_
    show AI _ _ _ _ _ _ #[true, true, true, true, true, true, true, true, true, true, true, false, true, true, true, true, false, false, false] _
    refine AI.one (i := 11) (by kernel_rfl) rfl rfl ?_
    refine AIO.opx rfl (g_append_str (bytes := 1) 1 Tryz.underlying26 Tryz.underlying9 rfl (by kernel_rfl) rfl rfl rfl rfl g67 e69) ?_
    rintro _ _ ⟨t71, rfl, rfl⟩
    show AI _ _ _ _ _ _ #[true, true, true, true, true, true, true, true, true, true, true, true, true, true, true, true, false, false, false] _
    refine AI.take (i := 16) rfl rfl (by kernel_rfl) (by kernel_rfl) (by kernel_rfl) (fun _ _ h => h) (opS_assign (av := slE _ _ _) rfl) ?_
    show AI _ _ _ _ _ _ #[true, true, true, true, true, true, true, true, true, true, true, true, true, true, true, true, true, false, false] _
    refine AI.take (i := 17) rfl rfl (by kernel_rfl) (by kernel_rfl) (by kernel_rfl) (fun _ _ h => h) (asg rfl) ?_
    show AI _ _ _ _ _ _ #[true, true, true, true, true, true, true, true, true, true, true, true, true, true, true, true, true, true, false] _
    refine AI.take (i := 18) rfl rfl (by kernel_rfl) (by kernel_rfl) (by kernel_rfl) (fun _ _ h => h) (asg rfl) ?_
    show AI _ _ _ _ _ _ #[true, true, true, true, true, true, true, true, true, true, true, true, true, true, true, true, true, true, true] _
    refine AI.done rfl ?_
    show AW _ _ _ _ _ _
    refine AW.ret ?_
    obtain ⟨rfl, rfl, rfl⟩ := res3 H
    exact And.intro rfl (Exists.intro _ (Exists.intro _ ⟨ResV.threeW rfl (.tok _ _ _) (.refl _) (.refl _), Sub.at [] rfl, rfl, rfl⟩))
  ·
   refine AIO.op rfl (opR_load_pt (i := 0) Tryz.underlying9 rfl rfl rfl rfl) ?_
   show AI _ _ _ _ _ _ #[true, true, true, false, true, true, true, true, false, false, false, false, true, true, true, false, false, false, false] _
   refine AI.take (i := 8) rfl rfl (by kernel_rfl) (by kernel_rfl) (by kernel_rfl) (fun _ _ h => h) (g_cat rfl rfl g57 e59) ?_
   show AI _ _ _ _ _ _ #[true, true, true, false, true, true, true, true, true, false, false, false, true, true, true, false, false, false, false] _
   refine AI.take (i := 9) rfl rfl (by kernel_rfl) (by kernel_rfl) (by kernel_rfl) (fun _ _ h => h) (g_cat rfl rfl g60 e62) ?_
   show AI _ _ _ _ _ _ #[true, true, true, false, true, true, true, true, true, true, false, false, true, true, true, false, false, false, false] _
   refine AI.take (i := 10) rfl rfl (by kernel_rfl) (by kernel_rfl) (by kernel_rfl) (fun _ _ h => h) (g_cat rfl rfl g63 e65) ?_
   show AI _ _ _ _ _ _ #[true, true, true, false, true, true, true, true, true, true, true, false, true, true, true, false, false, false, false] _
   refine AI.two (i := 3) (j := 15) (by kernel_rfl) rfl rfl rfl rfl ?_ ?_
   ·
    refine AIO.op rfl (opR_load_pt (i := 0) Tryz.underlying26 rfl rfl rfl rfl) ?_
    show AI _ _ _ _ _ _ #[true, true, true, true, true, true, true, true, true, true, true, false, true, true, true, false, false, false, false] _
    refine AI.two (i := 11) (j := 15) (by kernel_rfl) rfl rfl rfl rfl ?_ ?_
    ·
     refine AIO.opx rfl (g_append_str (bytes := 1) 1 Tryz.underlying26 Tryz.underlying9 rfl (by kernel_rfl) rfl rfl rfl rfl g67 e69) ?_
     rintro _ _ ⟨t72, rfl, rfl⟩
     show AI _ _ _ _ _ _ #[true, true, true, true, true, true, true, true, true, true, true, true, true, true, true, false, false, false, false] _
     refine AI.take (i := 16) rfl rfl (by kernel_rfl) (by kernel_rfl) (by kernel_rfl) (fun _ _ h => h) (opS_assign (av := slE _ _ _) rfl) ?_
     show AI _ _ _ _ _ _ #[true, true, true, true, true, true, true, true, true, true, true, true, true, true, true, false, true, false, false] _
     refine AI.one (i := 15) (by kernel_rfl) rfl rfl ?_
     refine AIO.op rfl (opR_load_pt (i := 0) Tryz.underlying9 rfl rfl rfl rfl) ?_
     show AI _ _ _ _ _ _ #[true, true, true, true, true, true, true, true, true, true, true, true, true, true, true, true, true, false, false] _
     refine AI.take (i := 17) rfl rfl (by kernel_rfl) (by kernel_rfl) (by kernel_rfl) (fun _ _ h => h) (asg rfl) ?_
     show AI _ _ _ _ _ _ #[true, true, true, true, true, true, true, true, true, true, true, true, true, true, true, true, true, true, false] _
     refine AI.take (i := 18) rfl rfl (by kernel_rfl) (by kernel_rfl) (by kernel_rfl) (fun _ _ h => h) (asg rfl) ?_
     show AI _ _ _ _ _ _ #[true, true, true, true, true, true, true, true, true, true, true, true, true, true, true, true, true, true, true] _
     refine AI.done rfl ?_
     show AW _ _ _ _ _ _
     refine AW.ret ?_
     obtain ⟨rfl, rfl, rfl⟩ := res3 H
     exact And.intro rfl (Exists.intro _ (Exists.intro _ ⟨ResV.threeW rfl (.tok _ _ _) (.refl _) (.refl _), Sub.at [] rfl, rfl, rfl⟩))
    ·
     refine AIO.op rfl (opR_load_pt (i := 0) Tryz.underlying9 rfl rfl rfl rfl) ?_
     show AI _ _ _ _ _ _ #[true, true, true, true, true, true, true, true, true, true, true, false, true, true, true, true, false, false, false] _
     refine AI.one (i := 11) (by kernel_rfl) rfl rfl ?_
     refine AIO.opx rfl (g_append_str (bytes := 1) 1 Tryz.underlying26 Tryz.underlying9 rfl (by kernel_rfl) rfl rfl rfl rfl g67 e69) ?_
     rintro _ _ ⟨t73, rfl, rfl⟩
     show AI _ _ _ _ _ _ #[true, true, true, true, true, true, true, true, true, true, true, true, true, true, true, true, false, false, false] _
     refine AI.take (i := 16) rfl rfl (by kernel_rfl) (by kernel_rfl) (by kernel_rfl) (fun _ _ h => h) (opS_assign (av := slE _ _ _) rfl) ?_
     show AI _ _ _ _ _ _ #[true, true, true, true, true, true, true, true, true, true, true, true, true, true, true, true, true, false, false] _
     refine AI.take (i := 17) rfl rfl (by kernel_rfl) (by kernel_rfl) (by kernel_rfl) (fun _ _ h => h) (asg rfl) ?_
     show AI _ _ _ _ _ _ #[true, true, true, true, true, true, true, true, true, true, true, true, true, true, true, true, true, true, false] _
     refine AI.take (i := 18) rfl rfl (by kernel_rfl) (by kernel_rfl) (by kernel_rfl) (fun _ _ h => h) (asg rfl) ?_
     show AI _ _ _ _ _ _ #[true, true, true, true, true, true, true, true, true, true, true, true, true, true, true, true, true, true, true] _
     refine AI.done rfl ?_
     show AW _ _ _ _ _ _
     refine AW.ret ?_
     obtain ⟨rfl, rfl, rfl⟩ := res3 H
     exact And.intro rfl (Exists.intro _ (Exists.intro _ ⟨ResV.threeW rfl (.tok _ _ _) (.refl _) (.refl _), Sub.at [] rfl, rfl, rfl⟩))
   ·
    refine AIO.op rfl (opR_load_pt (i := 0) Tryz.underlying9 rfl rfl rfl rfl) ?_
    show AI _ _ _ _ _ _ #[true, true, true, false, true, true, true, true, true, true, true, false, true, true, true, true, false, false, false] _
    refine AI.one (i := 3) (by kernel_rfl) rfl rfl ?_
    refine AIO.op rfl (opR_load_pt (i := 0) Tryz.underlying26 rfl rfl rfl rfl) ?_
    show AI _ _ _ _ _ _ #[true, true, true, true, true, true, true, true, true, true, true, false, true, true, true, true, false, false, false] _
    refine AI.one (i := 11) (by kernel_rfl) rfl rfl ?_
    refine AIO.opx rfl (g_append_str (bytes := 1) 1 Tryz.underlying26 Tryz.underlying9 rfl (by kernel_rfl) rfl rfl rfl rfl g67 e69) ?_
    rintro _ _ ⟨t74, rfl, rfl⟩
    show AI _ _ _ _ _ _ #[true, true, true, true, true, true, true, true, true, true, true, true, true, true, true, true, false, false, false] _
    refine AI.take (i := 16) rfl rfl (by kernel_rfl) (by kernel_rfl) (by kernel_rfl) (fun _ _ h => h) (opS_assign (av := slE _ _ _) rfl) ?_
    show AI _ _ _ _ _ _ #[true, true, true, true, true, true, true, true, true, true, true, true, true, true, true, true, true, false, false] _
    refine AI.take (i := 17) rfl rfl (by kernel_rfl) (by kernel_rfl) (by kernel_rfl) (fun _ _ h => h) (asg rfl) ?_
    show AI _ _ _ _ _ _ #[true, true, true, true, true, true, true, true, true, true, true, true, true, true, true, true, true, true, false] _
    refine AI.take (i := 18) rfl rfl (by kernel_rfl) (by kernel_rfl) (by kernel_rfl) (fun _ _ h => h) (asg rfl) ?_
    show AI _ _ _ _ _ _ #[true, true, true, true, true, true, true, true, true, true, true, true, true, true, true, true, true, true, true] _
    refine AI.done rfl ?_
    show AW _ _ _ _ _ _
    refine AW.ret ?_
    obtain ⟨rfl, rfl, rfl⟩ := res3 H
    exact And.intro rfl (Exists.intro _ (Exists.intro _ ⟨ResV.threeW rfl (.tok _ _ _) (.refl _) (.refl _), Sub.at [] rfl, rfl, rfl⟩))
  ·
   refine AIO.op rfl (opR_load_pt (i := 0) Tryz.underlying9 rfl rfl rfl rfl) ?_
   show AI _ _ _ _ _ _ #[true, true, true, false, true, true, true, false, false, false, false, false, true, true, true, true, false, false, false] _
   refine AI.two (i := 3) (j := 7) (by kernel_rfl) rfl rfl rfl rfl ?_ ?_
   ·
    refine AIO.op rfl (opR_load_pt (i := 0) Tryz.underlying26 rfl rfl rfl rfl) ?_
    show AI _ _ _ _ _ _ #[true, true, true, true, true, true, true, false, false, false, false, false, true, true, true, true, false, false, false] _
    refine AI.one (i := 7) (by kernel_rfl) rfl rfl ?_
    refine AIO.op rfl (opR_load_pt (i := 0) Tryz.underlying9 rfl rfl rfl rfl) ?_
    show AI _ _ _ _ _ _ #[true, true, true, true, true, true, true, true, false, false, false, false, true, true, true, true, false, false, false] _
    refine AI.take (i := 8) rfl rfl (by kernel_rfl) (by kernel_rfl) (by kernel_rfl) (fun _ _ h => h) (g_cat rfl rfl g57 e59) ?_
    show AI _ _ _ _ _ _ #[true, true, true, true, true, true, true, true, true, false, false, false, true, true, true, true, false, false, false] _
    refine AI.take (i := 9) rfl rfl (by kernel_rfl) (by kernel_rfl) (by kernel_rfl) (fun _ _ h => h) (g_cat rfl rfl g60 e62) ?_
    show AI _ _ _ _ _ _ #[true, true, true, true, true, true, true, true, true, true, false, false, true, true, true, true, false, false, false] _
    refine AI.take (i := 10) rfl rfl (by kernel_rfl) (by kernel_rfl) (by kernel_rfl) (fun _ _ h => h) (g_cat rfl rfl g63 e65) ?_
    show AI _ _ _ _ _ _ #[true, true, true, true, true, true, true, true, true, true, true, false, true, true, true, true, false, false, false] _
    refine AI.one (i := 11) (by kernel_rfl) rfl rfl ?_
    refine AIO.opx rfl (g_append_str (bytes := 1) 1 Tryz.underlying26 Tryz.underlying9 rfl (by kernel_rfl) rfl rfl rfl rfl g67 e69) ?_
    rintro _ _ ⟨t75, rfl, rfl⟩
    show AI _ _ _ _ _ _ #[true, true, true, true, true, true, true, true, true, true, true, true, true, true, true, true, false, false, false] _
    refine AI.take (i := 16) rfl rfl (by kernel_rfl) (by kernel_rfl) (by kernel_rfl) (fun _ _ h => h) (opS_assign (av := slE _ _ _) rfl) ?_
    show AI _ _ _ _ _ _ #[true, true, true, true, true, true, true, true, true, true, true, true, true, true, true, true, true, false, false] _
    refine AI.take (i := 17) rfl rfl (by kernel_rfl) (by kernel_rfl) (by kernel_rfl) (fun _ _ h => h) (asg rfl) ?_
    show AI _ _ _ _ _ _ #[true, true, true, true, true, true, true, true, true, true, true, true, true, true, true, true, true, true, false] _
    refine AI.take (i := 18) rfl rfl (by kernel_rfl) (by kernel_rfl) (by kernel_rfl) (fun _ _ h => h) (asg rfl) ?_
    show AI _ _ _ _ _ _ #[true, true, true, true, true, true, true, true, true, true, true, true, true, true, true, true, true, true, true] _
    refine AI.done rfl ?_
    show AW _ _ _ _ _ _
    refine AW.ret ?_
    obtain ⟨rfl, rfl, rfl⟩ := res3 H
    exact And.intro rfl (Exists.intro _ (Exists.intro _ ⟨ResV.threeW rfl (.tok _ _ _) (.refl _) (.refl _), Sub.at [] rfl, rfl, rfl⟩))
   ·
    refine AIO.op rfl (opR_load_pt (i := 0) Tryz.underlying9 rfl rfl rfl rfl) ?_
    show AI _ _ _ _ _ _ #[true, true, true, false, true, true, true, true, false, false, false, false, true, true, true, true, false, false, false] _
    refine AI.take (i := 8) rfl rfl (by kernel_rfl) (by kernel_rfl) (by kernel_rfl) (fun _ _ h => h) (g_cat rfl rfl g57 e59) ?_
    show AI _ _ _ _ _ _ #[true, true, true, false, true, true, true, true, true, false, false, false, true, true, true, true, false, false, false] _
    refine AI.take (i := 9) rfl rfl (by kernel_rfl) (by kernel_rfl) (by kernel_rfl) (fun _ _ h => h) (g_cat rfl rfl g60 e62) ?_
    show AI _ _ _ _ _ _ #[true, true, true, false, true, true, true, true, true, true, false, false, true, true, true, true, false, false, false] _
    refine AI.take (i := 10) rfl rfl (by kernel_rfl) (by kernel_rfl) (by kernel_rfl) (fun _ _ h => h) (g_cat rfl rfl g63 e65) ?_
    show AI _ _ _ _ _ _ #[true, true, true, false, true, true, true, true, true, true, true, false, true, true, true, true, false, false, false] _
    refine AI.one (i := 3) (by kernel_rfl) rfl rfl ?_
    refine AIO.op rfl (opR_load_pt (i := 0) Tryz.underlying26 rfl rfl rfl rfl) ?_
    show AI _ _ _ _ _ _ #[true, true, true, true, true, true, true, true, true, true, true, false, true, true, true, true, false, false, false] _
    refine AI.one (i := 11) (by kernel_rfl) rfl rfl ?_
    refine AIO.opx rfl (g_append_str (bytes := 1) 1 Tryz.underlying26 Tryz.underlying9 rfl (by kernel_rfl) rfl rfl rfl rfl g67 e69) ?_
    rintro _ _ ⟨t76, rfl, rfl⟩
    show AI _ _ _ _ _ _ #[true, true, true, true, true, true, true, true, true, true, true, true, true, true, true, true, false, false, false] _
    refine AI.take (i := 16) rfl rfl (by kernel_rfl) (by kernel_rfl) (by kernel_rfl) (fun _ _ h => h) (opS_assign (av := slE _ _ _) rfl) ?_
    show AI _ _ _ _ _ _ #[true, true, true, true, true, true, true, true, true, true, true, true, true, true, true, true, true, false, false] _
    refine AI.take (i := 17) rfl rfl (by kernel_rfl) (by kernel_rfl) (by kernel_rfl) (fun _ _ h => h) (asg rfl) ?_
    show AI _ _ _ _ _ _ #[true, true, true, true, true, true, true, true, true, true, true, true, true, true, true, true, true, true, false] _
    refine AI.take (i := 18) rfl rfl (by kernel_rfl) (by kernel_rfl) (by kernel_rfl) (fun _ _ h => h) (asg rfl) ?_
    show AI _ _ _ _ _ _ #[true, true, true, true, true, true, true, true, true, true, true, true, true, true, true, true, true, true, true] _
    refine AI.done rfl ?_
    show AW _ _ _ _ _ _
    refine AW.ret ?_
    obtain ⟨rfl, rfl, rfl⟩ := res3 H
    exact And.intro rfl (Exists.intro _ (Exists.intro _ ⟨ResV.threeW rfl (.tok _ _ _) (.refl _) (.refl _), Sub.at [] rfl, rfl, rfl⟩))
set_option maxRecDepth 100000 in
set_option maxHeartbeats 1000000 in
theorem w_part_one (F : Nat) (a1 : List UInt8) (q2 : Option Nat) (r3 : List UInt8) (r4 : List UInt8) (r5 : Bool) (H : part_one F a1 = some (r3, r4, r5)) : ACalls Tryz.prog 35 [slE Enc.byte a1 q2] [] (Ret (.tup [S r3, slE Enc.byte r4 none, B r5]) []) := by
 unfold part_one at H
 refine ACalls.of_body Tryz.func35 rfl rfl ?_
 show AW _ _ 43 _ _ _
 refine AW.seq ?_
 refine AW.region ?_
 show AR _ _ _ _ _ [0, 1, 2] _
 refine sS rfl rfl rfl (asg rfl) ?_
 refine sS rfl rfl rfl (asg rfl) ?_
 refine sS rfl rfl rfl (asg rfl) ?_
 refine AR.nil ?_
 show AW _ _ _ _ _ _
 refine AW.seq ?_
 obtain ⟨x6, x7, x8, e9, H⟩ := bnd3_s H
 refine AW.region ?_
 show AR _ _ _ _ _ [0, 1, 2, 3, 4, 5, 6, 7, 8] _
 refine sS rfl rfl rfl (opS_move (av := slE _ _ _) rfl) ?_
 refine AR.run rfl rfl (AO.callp rfl en55_parta rfl (w_head_Cut F a1 q2 x6 x7 x8 e9) ?_)
 refine sS rfl rfl rfl (opS_move (av := .tup _) rfl) ?_
 refine sS rfl rfl rfl (opS_extract (av := slE _ _ _) rfl rfl) ?_
 refine sS rfl rfl rfl (opS_extract (av := slE _ _ _) rfl rfl) ?_
 refine sS rfl rfl rfl (opS_extract (av := .v _) rfl rfl) ?_
 refine sS rfl rfl rfl (opS_assign (av := slE _ _ _) rfl) ?_
 refine sS rfl rfl rfl (opS_assign (av := slE _ _ _) rfl) ?_
 refine sS rfl rfl rfl (asg rfl) ?_
 refine AR.nil ?_
 show AW _ _ _ _ _ _
 refine AW.seq ?_
 refine AW.seq ?_
 refine AW.region ?_
 show AR _ _ _ _ _ [0, 1, 2, 3, 4, 5, 6, 7, 8, 9, 10, 11] _
 refine sS rfl rfl rfl (mv rfl) ?_
 refine sS rfl rfl rfl (opS_nei rfl rfl) ?_
 refine sS rfl rfl rfl (mv rfl) ?_
 refine AR.meet (l := [7, 8, 9, 10, 11]) 21 (B ((!decide (x8 = 0)) || (!decide ((x6.length : Int) = 2)))) (fun K => ?_) ?_
 ·rcases Bool.eq_false_or_eq_true (!decide (x8 = 0)) with h10 | h10
  ·
   refine gF h10 rfl rfl rfl rfl rfl ?_
   refine gF h10 rfl rfl rfl rfl rfl ?_
   refine gF h10 rfl rfl rfl rfl rfl ?_
   refine sS rfl rfl rfl (opS_pick_t (av := .v _) rfl h10 rfl) ?_
   exact K _ 3 _ (B_congr (or_t h10)) rfl rfl
  ·
   refine gT h10 rfl rfl rfl rfl rfl rfl (AO.ops rfl rfl (opS_move (av := slE _ _ _) rfl) ?_)
   refine gT h10 rfl rfl rfl rfl rfl rfl (AO.ops rfl rfl (opS_len_sl Tryz.underlying72 rfl) ?_)
   refine gT h10 rfl rfl rfl rfl rfl rfl (AO.ops rfl rfl (opS_nei rfl rfl) ?_)
   refine sS rfl rfl rfl (opS_pick_f (av := .v _) rfl h10 rfl) ?_
   exact K _ 3 _ (B_congr (or_f h10)) rfl rfl
 refine sS rfl rfl rfl (mv rfl) ?_
 refine AR.meet (l := []) 26 (B (((!decide (x8 = 0)) || (!decide ((x6.length : Int) = 2))) || (decide ((x7.length : Int) < 2)))) (fun K => ?_) ?_
 ·rcases Bool.eq_false_or_eq_true ((!decide (x8 = 0)) || (!decide ((x6.length : Int) = 2))) with h11 | h11
  ·
   refine gF h11 rfl rfl rfl rfl rfl ?_
   refine gF h11 rfl rfl rfl rfl rfl ?_
   refine gF h11 rfl rfl rfl rfl rfl ?_
   refine sS rfl rfl rfl (opS_pick_t (av := .v _) rfl h11 rfl) ?_
   exact K _ 3 _ (B_congr (or_t h11)) rfl rfl
  ·
   refine gT h11 rfl rfl rfl rfl rfl rfl (AO.ops rfl rfl (opS_move (av := slE _ _ _) rfl) ?_)
   refine gT h11 rfl rfl rfl rfl rfl rfl (AO.ops rfl rfl (opS_len_sl Tryz.underlying26 rfl) ?_)
   refine gT h11 rfl rfl rfl rfl rfl rfl (AO.ops rfl rfl (opS_lt rfl rfl) ?_)
   refine sS rfl rfl rfl (opS_pick_f (av := .v _) rfl h11 rfl) ?_
   exact K _ 3 _ (B_congr (or_f h11)) rfl rfl
 refine AR.nil ?_
 show AW _ _ _ _ _ _
 refine AW.cond rfl (fun c12 => ?_) (fun c12 => ?_)
 ·replace H := cnd_t c12 H
  refine AW.seq ?_
  refine AW.region ?_
  show AR _ _ _ _ _ [0, 1, 2] _
  refine sS rfl rfl rfl (asg rfl) ?_
  refine sS rfl rfl rfl (asg rfl) ?_
  refine sS rfl rfl rfl (asg rfl) ?_
  refine AR.nil ?_
  show AW _ _ _ _ _ _
  refine AW.ret ?_
  obtain ⟨rfl, rfl, rfl⟩ := res3 H
  exact And.intro rfl (Exists.intro _ (Exists.intro _ ⟨ResV.threeW rfl (.refl _) (.nil _) (.refl _), Sub.at [] rfl, rfl, rfl⟩))
 ·replace H := cnd_f c12 H
  refine AW.skip ?_
  show AW _ _ _ _ _ _
  refine AW.seq ?_
  obtain ⟨g13, H⟩ := grd_s H
  obtain ⟨g14, H⟩ := grd_s H
  obtain ⟨x15, e16, H⟩ := lt_s H
  obtain ⟨x17, x18, e19, H⟩ := bnd2_s H
  refine AW.region ?_
  show AR _ _ _ _ _ [0, 1, 2, 3, 4, 5, 6, 7, 8, 9, 10] _
  refine sS rfl rfl rfl (opS_move (av := slE _ _ _) rfl) ?_
  refine sS rfl rfl rfl (opS_move (av := slE _ _ _) rfl) ?_
  refine sS rfl rfl rfl (opS_len_sl Tryz.underlying26 rfl) ?_
  refine sS rfl rfl rfl (g_sub rfl rfl g13) ?_
  refine sS rfl rfl rfl (g_to_sl (E := Enc.byte) Tryz.underlying26 (by kernel_rfl) rfl rfl g14 e16) ?_
  refine AR.run rfl rfl (AO.callp rfl en56_parta rfl (w_qp_Decode F x15 none x17 x18 e19) ?_)
  refine sS rfl rfl rfl (opS_move (av := .tup _) rfl) ?_
  refine sS rfl rfl rfl (opS_extract (av := slE _ _ _) rfl rfl) ?_
  refine sS rfl rfl rfl (opS_extract (av := .v _) rfl rfl) ?_
  refine sS rfl rfl rfl (opS_assign (av := slE _ _ _) rfl) ?_
  refine sS rfl rfl rfl (asg rfl) ?_
  refine AR.nil ?_
  show AW _ _ _ _ _ _
  refine AW.seq ?_
  obtain ⟨g20, H⟩ := grd_s H
  obtain ⟨x21, e22, H⟩ := lt_s H
  refine AW.region ?_
  show AR _ _ _ _ _ [0, 1, 2, 3, 4, 5, 6, 7, 8, 9] _
  refine sS rfl rfl rfl (opS_move (av := slE _ _ _) rfl) ?_
  refine sS rfl rfl rfl (g_indexAddr (E := (Enc.prod Enc.str Enc.str)) Tryz.underlying72 (by kernel_rfl) rfl rfl g20 e22) ?_
  refine sS rfl rfl rfl (opS_fieldAddr_cp (n := 1) (by kernel_rfl) rfl (Nat.le_of_ble_eq_true rfl)) ?_
  refine sS rfl rfl rfl (opS_load_cp Tryz.underlying9 rfl rfl) ?_
  refine sS rfl rfl rfl (opS_move (av := slE _ _ _) rfl) ?_
  refine sS rfl rfl rfl (mv rfl) ?_
  refine sS rfl rfl rfl (opS_eqi rfl rfl) ?_
  refine sS rfl rfl rfl (asg rfl) ?_
  refine sS rfl rfl rfl (opS_assign (av := slE _ _ _) rfl) ?_
  refine sS rfl rfl rfl (asg rfl) ?_
  refine AR.nil ?_
  show AW _ _ _ _ _ _
  refine AW.ret ?_
  obtain ⟨rfl, rfl, rfl⟩ := res3 H
  exact And.intro rfl (Exists.intro _ (Exists.intro _ ⟨ResV.threeW rfl (.refl _) (.refl _) (.refl _), Sub.at [] rfl, rfl, rfl⟩))
set_option maxRecDepth 100000 in
set_option maxHeartbeats 1000000 in
theorem w_part_Split (F : Nat) (a1 : List UInt8) (q2 : Option Nat) (a3 : List UInt8) (r4 : List (List UInt8)) (r5 : List (List UInt8)) (r6 : Int) (H : part_Split F a1 a3 = some (r4, r5, r6)) : ACalls Tryz.prog 14 [slE Enc.byte a1 q2, S a3] [] (Ret (.tup [slE Enc.str r4 none, slE (Enc.sl Enc.byte) r5 none, i64 r6]) []) := by
 unfold part_Split at H
 refine ACalls.of_body Tryz.func14 rfl rfl ?_
 show AW _ _ 83 _ _ _
 refine AW.seq ?_
 refine AW.region ?_
 show AR _ _ _ _ _ [0, 1, 2] _
 refine sS rfl rfl rfl (asg rfl) ?_
 refine sS rfl rfl rfl (asg rfl) ?_
 refine sS rfl rfl rfl (asg rfl) ?_
 refine AR.nil ?_
 show AW _ _ _ _ _ _
 refine AW.seq ?_
 refine AW.region ?_
 show AR _ _ _ _ _ [0] _
 refine sS rfl rfl rfl (asg rfl) ?_
 refine AR.nil ?_
 show AW _ _ _ _ _ _
 refine AW.nil_grows 7 1 9 rfl fun t7 => ?_
 show AW _ _ _ _ _ ⟨(7, slE Enc.str [] (some t7)) :: _, _, _⟩
 refine AW.seq ?_
 refine AW.region ?_
 show AR _ _ _ _ _ [0] _
 refine sS rfl rfl rfl (asg rfl) ?_
 refine AR.nil ?_
 show AW _ _ _ _ _ _
 refine AW.nil_grows 8 1 26 rfl fun t8 => ?_
 show AW _ _ _ _ _ ⟨(8, slE (Enc.sl Enc.byte) [] (some t8)) :: _, _, _⟩
 refine AW.cut (X := (List (List UInt8)) × Nat × (List (List UInt8)) × Nat) (fun (y63, t64, y65, t66) => ⟨[(0, slE Enc.byte a1 q2), (1, S a3), (7, slE Enc.str y63 (some t64)), (8, slE (Enc.sl Enc.byte) y65 (some t66))], [], [.tok t64 9, .tok t66 26]⟩) (fun (y63, t64, y65, t66) => part_Split_j1 F a1 a3 y63 y65 = some (r4, r5, r6)) ?_ ?_
 ·
  refine AW.seq ?_
  refine AW.region ?_
  show AR _ _ _ _ _ [0, 1] _
  refine sS rfl rfl rfl (opS_move (av := slE _ _ _) rfl) ?_
  refine sS rfl rfl rfl (opS_assign (av := slE _ _ _) rfl) ?_
  refine AR.nil ?_
  show AW _ _ _ _ _ _
  refine AW.block ?_
  refine AW.loop (X := Nat × (List (List UInt8)) × Nat × (List (List UInt8)) × Nat × (List UInt8)) (fun (n15, y9, t10, y11, t12, y13) => ⟨[(0, slE Enc.byte a1 q2), (1, S a3), (7, slE Enc.str y9 (some t10)), (8, slE (Enc.sl Enc.byte) y11 (some t12)), (9, slE Enc.byte y13 none)], [], [.tok t10 9, .tok t12 26]⟩) (fun (n15, y9, t10, y11, t12, y13) => part_Split_L1 F a1 a3 n15 (y9, y11, y13) = some (r4, r5, r6)) (fun (n15, y9, t10, y11, t12, y13) => n15) (F, [], t7, [], t8, a1) H (WK.at [1, 0] (.cons (.refl _) (.cons (.refl _) (.cons (.refl _) (.cons (.refl _) (.cons (.tok _ _ _) (.nil _)))))) rfl) ?_
  rintro ⟨n15, y9, t10, y11, t12, y13⟩ H
  obtain ⟨n15, rfl, H⟩ := loop_s H
  replace H : part_Split_B1 F a1 a3 (part_Split_L1 F a1 a3 n15) y9 y11 y13 = some (r4, r5, r6) := H
  unfold part_Split_B1 at H
  show AW _ _ _ _ _ _
  refine AW.seq ?_
  refine AW.seq ?_
  refine AW.region ?_
  show AR _ _ _ _ _ [0, 1, 2] _
  refine sS rfl rfl rfl (opS_move (av := slE _ _ _) rfl) ?_
  refine sS rfl rfl rfl (opS_len_sl Tryz.underlying23 rfl) ?_
  refine sS rfl rfl rfl (opS_le rfl rfl) ?_
  refine AR.nil ?_
  show AW _ _ _ _ _ _
  refine AW.cond rfl (fun c16 => ?_) (fun c16 => ?_)
  ·replace H := cnd_t c16 H
   refine AW.skip ?_
   show AW _ _ _ _ _ _
   refine AW.block ?_
   refine AW.seq ?_
   obtain ⟨g17, H⟩ := grd_s H
   obtain ⟨x18, e19, H⟩ := lt_s H
   obtain ⟨g20, H⟩ := grd_s H
   obtain ⟨x21, e22, H⟩ := lt_s H
   obtain ⟨g23, H⟩ := grd_s H
   obtain ⟨g25, H⟩ := grd_s H
   obtain ⟨x26, e27, H⟩ := lt_s H
   refine AW.region ?_
   show AR _ _ _ _ _ [0, 1, 2, 3, 4, 5, 6, 7, 8, 9, 10] _
   refine sS rfl rfl rfl (opS_move (av := slE _ _ _) rfl) ?_
   refine sS rfl rfl rfl (mv rfl) ?_
   refine sS rfl rfl rfl (g_cat rfl rfl g17 e19) ?_
   refine sS rfl rfl rfl (g_cat rfl rfl g20 e22) ?_
   refine sX rfl rfl rfl (g_conv_str_bytes (bytes := 1) Tryz.underlying9 Tryz.underlying26 Tryz.underlying5 rfl g23) ?_
   rintro _ _ ⟨t24, rfl, rfl⟩
   refine AR.run rfl rfl (AO.callp rfl en33_parta rfl (show ACalls _ _ _ [] (Ret (.tup [slE Enc.byte x26.1 none, B x26.2]) []) from by subst e27; exact lib_bytesCutPrefix y13 x21 none (some t24) (of_decide_eq_true g25)) ?_)
   refine sS rfl rfl rfl (opS_move (av := .tup _) rfl) ?_
   refine sS rfl rfl rfl (opS_extract (av := slE _ _ _) rfl rfl) ?_
   refine sS rfl rfl rfl (opS_extract (av := .v _) rfl rfl) ?_
   refine sS rfl rfl rfl (opS_assign (av := slE _ _ _) rfl) ?_
   refine sS rfl rfl rfl (asg rfl) ?_
   refine AR.nil ?_
   show AW _ _ _ _ _ _
   refine AW.seq ?_
   refine AW.seq ?_
   refine AW.region ?_
   show AR _ _ _ _ _ [0, 1] _
   refine sS rfl rfl rfl (mv rfl) ?_
   refine sS rfl rfl rfl (opS_not rfl) ?_
   refine AR.nil ?_
   show AW _ _ _ _ _ _
   refine AW.cond rfl (fun c28 => ?_) (fun c28 => ?_)
   ·replace H := cnd_t c28 H
    refine AW.exit ?_
    exact Exists.intro (y9, t10, y11, t12) ⟨H, WK.at [1, 1] (.cons (.refl _) (.cons (.refl _) (.cons (.refl _) (.cons (.refl _) (.nil _))))) rfl⟩
   ·replace H := cnd_f c28 H
    refine AW.skip ?_
    show AW _ _ _ _ _ _
    refine AW.seq ?_
    obtain ⟨g29, H⟩ := grd_s H
    obtain ⟨x30, e31, H⟩ := lt_s H
    obtain ⟨g32, H⟩ := grd_s H
    obtain ⟨g34, H⟩ := grd_s H
    obtain ⟨g35, H⟩ := grd_s H
    obtain ⟨g36, H⟩ := grd_s H
    obtain ⟨x37, e38, H⟩ := lt_s H
    refine AW.region ?_
    show AR _ _ _ _ _ [0, 1, 2, 3, 4, 5] _
    refine sS rfl rfl rfl (opS_move (av := slE _ _ _) rfl) ?_
    refine sS rfl rfl rfl (mv rfl) ?_
    refine sS rfl rfl rfl (g_cat rfl rfl g29 e31) ?_
    refine sX rfl rfl rfl (g_conv_str_bytes (bytes := 1) Tryz.underlying9 Tryz.underlying26 Tryz.underlying5 rfl g32) ?_
    rintro _ _ ⟨t33, rfl, rfl⟩
    refine AR.run rfl rfl (AO.callp rfl en34_parta rfl (show ACalls _ _ _ [] (Ret (i64 x37) []) from by subst e38; exact lib_bytesIndex x26.1 x30 none (some t33) (okS_s g34) (of_decide_eq_true g35) (okS_s g36)) ?_)
    refine sS rfl rfl rfl (asg rfl) ?_
    refine AR.nil ?_
    show AW _ _ _ _ _ _
    refine AW.seq ?_
    refine AW.seq ?_
    refine AW.region ?_
    show AR _ _ _ _ _ [0, 1] _
    refine sS rfl rfl rfl (mv rfl) ?_
    refine sS rfl rfl rfl (opS_lt rfl rfl) ?_
    refine AR.nil ?_
    show AW _ _ _ _ _ _
    refine AW.cond rfl (fun c39 => ?_) (fun c39 => ?_)
    ·replace H := cnd_t c39 H
     refine AW.seq ?_
     refine AW.region ?_
     show AR _ _ _ _ _ [0, 1, 2] _
     refine sS rfl rfl rfl (asg rfl) ?_
     refine sS rfl rfl rfl (asg rfl) ?_
     refine sS rfl rfl rfl (asg rfl) ?_
     refine AR.nil ?_
     show AW _ _ _ _ _ _
     refine AW.ret ?_
     obtain ⟨rfl, rfl, rfl⟩ := res3 H
     exact And.intro rfl (Exists.intro _ (Exists.intro _ ⟨ResV.threeW rfl (.nil _) (.nil _) (.refl _), Sub.at [] rfl, rfl, rfl⟩))
    ·replace H := cnd_f c39 H
     refine AW.skip ?_
     show AW _ _ _ _ _ _
     refine AW.seq ?_
     obtain ⟨g40, H⟩ := grd_s H
     obtain ⟨x41, e42, H⟩ := lt_s H
     obtain ⟨x43, x44, x45, e46, H⟩ := bnd3_s H
     refine AW.region ?_
     show AR _ _ _ _ _ [0, 1, 2, 3, 4, 5, 6, 7, 8, 9, 10] _
     refine sS rfl rfl rfl (opS_move (av := slE _ _ _) rfl) ?_
     refine sS rfl rfl rfl (mv rfl) ?_
     refine sS rfl rfl rfl (g_to_sl (E := Enc.byte) Tryz.underlying26 (by kernel_rfl) rfl rfl g40 e42) ?_
     refine AR.run rfl rfl (AO.callp rfl en35_parta rfl (w_part_one F x41 none x43 x44 x45 e46) ?_)
     refine sS rfl rfl rfl (opS_move (av := .tup _) rfl) ?_
     refine sS rfl rfl rfl (opS_extract (av := .v _) rfl rfl) ?_
     refine sS rfl rfl rfl (opS_extract (av := slE _ _ _) rfl rfl) ?_
     refine sS rfl rfl rfl (opS_extract (av := .v _) rfl rfl) ?_
     refine sS rfl rfl rfl (asg rfl) ?_
     refine sS rfl rfl rfl (opS_assign (av := slE _ _ _) rfl) ?_
     refine sS rfl rfl rfl (asg rfl) ?_
     refine AR.nil ?_
     show AW _ _ _ _ _ _
     refine AW.seq ?_
     refine AW.seq ?_
     refine AW.region ?_
     show AR _ _ _ _ _ [0, 1] _
     refine sS rfl rfl rfl (mv rfl) ?_
     refine sS rfl rfl rfl (opS_not rfl) ?_
     refine AR.nil ?_
     show AW _ _ _ _ _ _
     refine AW.cond rfl (fun c47 => ?_) (fun c47 => ?_)
     ·replace H := cnd_t c47 H
      refine AW.seq ?_
      refine AW.region ?_
      show AR _ _ _ _ _ [0, 1, 2] _
      refine sS rfl rfl rfl (asg rfl) ?_
      refine sS rfl rfl rfl (asg rfl) ?_
      refine sS rfl rfl rfl (asg rfl) ?_
      refine AR.nil ?_
      show AW _ _ _ _ _ _
      refine AW.ret ?_
      obtain ⟨rfl, rfl, rfl⟩ := res3 H
      exact And.intro rfl (Exists.intro _ (Exists.intro _ ⟨ResV.threeW rfl (.nil _) (.nil _) (.refl _), Sub.at [] rfl, rfl, rfl⟩))
     ·replace H := cnd_f c47 H
      refine AW.skip ?_
      show AW _ _ _ _ _ _
      obtain ⟨g48, H⟩ := grd_s H
      obtain ⟨x49, e50, H⟩ := lt_s H
      obtain ⟨g52, H⟩ := grd_s H
      obtain ⟨x53, e54, H⟩ := lt_s H
      obtain ⟨g56, H⟩ := grd_s H
      obtain ⟨x57, e58, H⟩ := lt_s H
      refine AW.region_draw (by kernel_rfl) ?_
      show AI _ _ _ _ _ 14 (Array.replicate 14 false) _
      refine AI.take (i := 0) rfl rfl (by kernel_rfl) (by kernel_rfl) (by kernel_rfl) (fun _ _ h => h) (opS_move (av := slE _ _ _) rfl) ?_
      show AI _ _ _ _ _ _ #[true, false, false, false, false, false, false, false, false, false, false, false, false, false] _
      refine AI.take (i := 1) rfl rfl (by kernel_rfl) (by kernel_rfl) (by kernel_rfl) (fun _ _ h => h) (mv rfl) ?_
      show AI _ _ _ _ _ _ #[true, true, false, false, false, false, false, false, false, false, false, false, false, false] _
      refine AI.take (i := 4) rfl rfl (by kernel_rfl) (by kernel_rfl) (by kernel_rfl) (fun _ _ h => h) (opS_move (av := slE _ _ _) rfl) ?_
      show AI _ _ _ _ _ _ #[true, true, false, false, true, false, false, false, false, false, false, false, false, false] _
      refine AI.take (i := 5) rfl rfl (by kernel_rfl) (by kernel_rfl) (by kernel_rfl) (fun _ _ h => h) (opS_move (av := slE _ _ _) rfl) ?_
      show AI _ _ _ _ _ _ #[true, true, false, false, true, true, false, false, false, false, false, false, false, false] _
      refine AI.take (i := 8) rfl rfl (by kernel_rfl) (by kernel_rfl) (by kernel_rfl) (fun _ _ h => h) (opS_move (av := slE _ _ _) rfl) ?_
      show AI _ _ _ _ _ _ #[true, true, false, false, true, true, false, false, true, false, false, false, false, false] _
      refine AI.take (i := 9) rfl rfl (by kernel_rfl) (by kernel_rfl) (by kernel_rfl) (fun _ _ h => h) (mv rfl) ?_
      show AI _ _ _ _ _ _ #[true, true, false, false, true, true, false, false, true, true, false, false, false, false] _
      refine AI.take (i := 10) rfl rfl (by kernel_rfl) (by kernel_rfl) (by kernel_rfl) (fun _ _ h => h) (g_from_sl (E := Enc.byte) Tryz.underlying26 (by kernel_rfl) rfl rfl g48 e50) ?_
      show AI _ _ _ _ _ _ #[true, true, false, false, true, true, false, false, true, true, true, false, false, false] _
      refine AI.two (i := 2) (j := 6) (by kernel_rfl) rfl rfl rfl rfl ?_ ?_
      ·
       refine AIO.op rfl (opR_buildE (E := Enc.str) (bytes := 16) (xs := [.tmp 51]) (l := ([x43] : List (List UInt8))) Tryz.underlying22 (by kernel_rfl) rfl rfl (by decide) rfl rfl) ?_
       show AI _ _ _ _ _ _ #[true, true, true, false, true, true, false, false, true, true, true, false, false, false] _
       refine AI.two (i := 3) (j := 6) (by kernel_rfl) rfl rfl rfl rfl ?_ ?_
       ·
        refine AIO.opx rfl (g_append (E := Enc.str) (bytes := 16) 2 Tryz.underlying22 Tryz.underlying22 rfl (by kernel_rfl) rfl rfl rfl rfl g52 e54) ?_
        rintro _ _ ⟨t51, rfl, rfl⟩
        show AI _ _ _ _ _ _ #[true, true, true, true, true, true, false, false, true, true, true, false, false, false] _
        refine AI.one (i := 6) (by kernel_rfl) rfl rfl ?_
        refine AIO.op rfl (opR_buildE (E := (Enc.sl Enc.byte)) (bytes := 24) (xs := [.tmp 55]) (l := ([x44] : List (List UInt8))) Tryz.underlying23 (by kernel_rfl) rfl rfl (by decide) rfl rfl) ?_
        show AI _ _ _ _ _ _ #[true, true, true, true, true, true, true, false, true, true, true, false, false, false] _
        refine AI.one (i := 7) (by kernel_rfl) rfl rfl ?_
        refine AIO.opx rfl (g_append (E := (Enc.sl Enc.byte)) (bytes := 24) 3 Tryz.underlying23 Tryz.underlying23 rfl (by kernel_rfl) rfl rfl rfl rfl g56 e58) ?_
        rintro _ _ ⟨t55, rfl, rfl⟩
        show AI _ _ _ _ _ _ #[true, true, true, true, true, true, true, true, true, true, true, false, false, false] _
        refine AI.take (i := 11) rfl rfl (by kernel_rfl) (by kernel_rfl) (by kernel_rfl) (fun _ _ h => h) (opS_assign (av := slE _ _ _) rfl) ?_
        show AI _ _ _ _ _ _ #[true, true, true, true, true, true, true, true, true, true, true, true, false, false] _
        refine AI.take (i := 12) rfl rfl (by kernel_rfl) (by kernel_rfl) (by kernel_rfl) (fun _ _ h => h) (opS_assign (av := slE _ _ _) rfl) ?_
        show AI _ _ _ _ _ _ #[true, true, true, true, true, true, true, true, true, true, true, true, true, false] _
        refine AI.take (i := 13) rfl rfl (by kernel_rfl) (by kernel_rfl) (by kernel_rfl) (fun _ _ h => h) (opS_assign (av := slE _ _ _) rfl) ?_
        show AI _ _ _ _ _ _ #[true, true, true, true, true, true, true, true, true, true, true, true, true, true] _
        refine AI.done rfl ?_
        exact Exists.intro (n15, x53, t51, x57, t55, x49) ⟨H, Nat.lt_succ_self _, WK.at [2, 2] (.cons (.refl _) (.cons (.refl _) (.cons (.refl _) (.cons (.refl _) (.cons (.refl _) (.nil _)))))) rfl⟩
       ·
        refine AIO.op rfl (opR_buildE (E := (Enc.sl Enc.byte)) (bytes := 24) (xs := [.tmp 55]) (l := ([x44] : List (List UInt8))) Tryz.underlying23 (by kernel_rfl) rfl rfl (by decide) rfl rfl) ?_
        show AI _ _ _ _ _ _ #[true, true, true, false, true, true, true, false, true, true, true, false, false, false] _
        refine AI.one (i := 3) (by kernel_rfl) rfl rfl ?_
        refine AIO.opx rfl (g_append (E := Enc.str) (bytes := 16) 2 Tryz.underlying22 Tryz.underlying22 rfl (by kernel_rfl) rfl rfl rfl rfl g52 e54) ?_
        rintro _ _ ⟨t59, rfl, rfl⟩
        show AI _ _ _ _ _ _ #[true, true, true, true, true, true, true, false, true, true, true, false, false, false] _
        refine AI.one (i := 7) (by kernel_rfl) rfl rfl ?_
        refine AIO.opx rfl (g_append (E := (Enc.sl Enc.byte)) (bytes := 24) 3 Tryz.underlying23 Tryz.underlying23 rfl (by kernel_rfl) rfl rfl rfl rfl g56 e58) ?_
        rintro _ _ ⟨t60, rfl, rfl⟩
        show AI _ _ _ _ _ _ #[true, true, true, true, true, true, true, true, true, true, true, false, false, false] _
        refine AI.take (i := 11) rfl rfl (by kernel_rfl) (by kernel_rfl) (by kernel_rfl) (fun _ _ h => h) (opS_assign (av := slE _ _ _) rfl) ?_
        show AI _ _ _ _ _ _ #[true, true, true, true, true, true, true, true, true, true, true, true, false, false] _
        refine AI.take (i := 12) rfl rfl (by kernel_rfl) (by kernel_rfl) (by kernel_rfl) (fun _ _ h => h) (opS_assign (av := slE _ _ _) rfl) ?_
        show AI _ _ _ _ _ _ #[true, true, true, true, true, true, true, true, true, true, true, true, true, false] _
        refine AI.take (i := 13) rfl rfl (by kernel_rfl) (by kernel_rfl) (by kernel_rfl) (fun _ _ h => h) (opS_assign (av := slE _ _ _) rfl) ?_
        show AI _ _ _ _ _ _ #[true, true, true, true, true, true, true, true, true, true, true, true, true, true] _
        refine AI.done rfl ?_
        exact Exists.intro (n15, x53, t59, x57, t60, x49) ⟨H, Nat.lt_succ_self _, WK.at [2, 2] (.cons (.refl _) (.cons (.refl _) (.cons (.refl _) (.cons (.refl _) (.cons (.refl _) (.nil _)))))) rfl⟩
      ·
       refine AIO.op rfl (opR_buildE (E := (Enc.sl Enc.byte)) (bytes := 24) (xs := [.tmp 55]) (l := ([x44] : List (List UInt8))) Tryz.underlying23 (by kernel_rfl) rfl rfl (by decide) rfl rfl) ?_
       show AI _ _ _ _ _ _ #[true, true, false, false, true, true, true, false, true, true, true, false, false, false] _
       refine AI.one (i := 2) (by kernel_rfl) rfl rfl ?_
       refine AIO.op rfl (opR_buildE (E := Enc.str) (bytes := 16) (xs := [.tmp 51]) (l := ([x43] : List (List UInt8))) Tryz.underlying22 (by kernel_rfl) rfl rfl (by decide) rfl rfl) ?_
       show AI _ _ _ _ _ _ #[true, true, true, false, true, true, true, false, true, true, true, false, false, false] _
       refine AI.one (i := 3) (by kernel_rfl) rfl rfl ?_
       refine AIO.opx rfl (g_append (E := Enc.str) (bytes := 16) 2 Tryz.underlying22 Tryz.underlying22 rfl (by kernel_rfl) rfl rfl rfl rfl g52 e54) ?_
       rintro _ _ ⟨t61, rfl, rfl⟩
       show AI _ _ _ _ _ _ #[true, true, true, true, true, true, true, false, true, true, true, false, false, false] _
       refine AI.one (i := 7) (by kernel_rfl) rfl rfl ?_
       refine AIO.opx rfl (g_append (E := (Enc.sl Enc.byte)) (bytes := 24) 3 Tryz.underlying23 Tryz.underlying23 rfl (by kernel_rfl) rfl rfl rfl rfl g56 e58) ?_
       rintro _ _ ⟨t62, rfl, rfl⟩
       show AI _ _ _ _ _ _ #[true, true, true, true, true, true, true, true, true, true, true, false, false, false] _
       refine AI.take (i := 11) rfl rfl (by kernel_rfl) (by kernel_rfl) (by kernel_rfl) (fun _ _ h => h) (opS_assign (av := slE _ _ _) rfl) ?_
       show AI _ _ _ _ _ _ #[true, true, true, true, true, true, true, true, true, true, true, true, false, false] _
       refine AI.take (i := 12) rfl rfl (by kernel_rfl) (by kernel_rfl) (by kernel_rfl) (fun _ _ h => h) (opS_assign (av := slE _ _ _) rfl) ?_
       show AI _ _ _ _ _ _ #[true, true, true, true, true, true, true, true, true, true, true, true, true, false] _
       refine AI.take (i := 13) rfl rfl (by kernel_rfl) (by kernel_rfl) (by kernel_rfl) (fun _ _ h => h) (opS_assign (av := slE _ _ _) rfl) ?_
       show AI _ _ _ _ _ _ #[true, true, true, true, true, true, true, true, true, true, true, true, true, true] _
       refine AI.done rfl ?_
       exact Exists.intro (n15, x53, t61, x57, t62, x49) ⟨H, Nat.lt_succ_self _, WK.at [2, 2] (.cons (.refl _) (.cons (.refl _) (.cons (.refl _) (.cons (.refl _) (.cons (.refl _) (.nil _)))))) rfl⟩
  ·replace H := cnd_f c16 H
   refine AW.exit ?_
   exact Exists.intro (y9, t10, y11, t12) ⟨H, WK.at [0, 0] (.cons (.refl _) (.cons (.refl _) (.cons (.refl _) (.cons (.refl _) (.nil _))))) rfl⟩
 rintro ⟨y63, t64, y65, t66⟩ H
 replace H : part_Split_j1 F a1 a3 y63 y65 = some (r4, r5, r6) := H
 unfold part_Split_j1 at H
 show AW _ _ _ _ _ _
 refine AW.seq ?_
 refine AW.seq ?_
 obtain ⟨x68, x69, x70, e71, H⟩ := bnd3_s H
 refine AW.region ?_
 show AR _ _ _ _ _ [0, 1, 2, 3, 4, 5, 6, 7, 8, 9] _
 refine sS rfl rfl rfl (opS_move (av := slE _ _ _) rfl) ?_
 refine sS rfl rfl rfl (opS_move (av := slE _ _ _) rfl) ?_
 refine AR.run rfl rfl (AO.callp rfl en10_parta rfl (w_part_Join F y63 (some t64) y65 (some t66) x68 x69 x70 e71) ?_)
 refine sS rfl rfl rfl (opS_move (av := .tup _) rfl) ?_
 refine sS rfl rfl rfl (opS_extract (av := slE _ _ _) rfl rfl) ?_
 refine sS rfl rfl rfl (opS_extract (av := .v _) rfl rfl) ?_
 refine sS rfl rfl rfl (opS_extract (av := .v _) rfl rfl) ?_
 refine sS rfl rfl rfl (opS_assign (av := slE _ _ _) rfl) ?_
 refine sS rfl rfl rfl (asg rfl) ?_
 refine sS rfl rfl rfl (asg rfl) ?_
 refine AR.nil ?_
 show AW _ _ _ _ _ _
 refine AW.seq ?_
 obtain ⟨x74, e75, H⟩ := lt_s H
 refine AW.region ?_
 show AR _ _ _ _ _ [0, 1, 2, 3, 4, 5, 6, 7, 8, 9, 10, 11, 12] _
 refine sS rfl rfl rfl (mv rfl) ?_
 refine sS rfl rfl rfl (opS_nei rfl rfl) ?_
 refine sS rfl rfl rfl (mv rfl) ?_
 refine AR.meet (l := [7, 8, 9, 10, 11, 12]) 74 (B ((!decide (x70 = 0)) || (!decide (x69 = a3)))) (fun K => ?_) ?_
 ·rcases Bool.eq_false_or_eq_true (!decide (x70 = 0)) with h72 | h72
  ·
   refine gF h72 rfl rfl rfl rfl rfl ?_
   refine gF h72 rfl rfl rfl rfl rfl ?_
   refine gF h72 rfl rfl rfl rfl rfl ?_
   refine sS rfl rfl rfl (opS_pick_t (av := .v _) rfl h72 rfl) ?_
   exact K _ 3 _ (B_congr (or_t h72)) rfl rfl
  ·
   refine gT h72 rfl rfl rfl rfl rfl rfl (AO.ops rfl rfl (mv rfl) ?_)
   refine gT h72 rfl rfl rfl rfl rfl rfl (AO.ops rfl rfl (mv rfl) ?_)
   refine gT h72 rfl rfl rfl rfl rfl rfl (AO.ops rfl rfl (opS_nes rfl rfl) ?_)
   refine sS rfl rfl rfl (opS_pick_f (av := .v _) rfl h72 rfl) ?_
   exact K _ 3 _ (B_congr (or_f h72)) rfl rfl
 refine sS rfl rfl rfl (mv rfl) ?_
 refine AR.meet (l := []) 80 (B (((!decide (x70 = 0)) || (!decide (x69 = a3))) || (!x74))) (fun K => ?_) ?_
 ·rcases Bool.eq_false_or_eq_true ((!decide (x70 = 0)) || (!decide (x69 = a3))) with h73 | h73
  ·
   refine gF h73 rfl rfl rfl rfl rfl ?_
   refine gF h73 rfl rfl rfl rfl rfl ?_
   refine gF h73 rfl rfl rfl rfl rfl ?_
   refine gF h73 rfl rfl rfl rfl rfl ?_
   refine sS rfl rfl rfl (opS_pick_t (av := .v _) rfl h73 rfl) ?_
   exact K _ 4 _ (B_congr (or_t h73)) rfl rfl
  ·
   refine gT h73 rfl rfl rfl rfl rfl rfl (AO.ops rfl rfl (opS_move (av := slE _ _ _) rfl) ?_)
   refine gT h73 rfl rfl rfl rfl rfl rfl (AO.ops rfl rfl (opS_move (av := slE _ _ _) rfl) ?_)
   refine gT h73 rfl rfl rfl rfl rfl rfl (AO.callp rfl en36_parta rfl (show ACalls _ _ _ [] (Ret (B x74) []) from by subst e75; exact lib_bytesEqual x68 a1 none q2) ?_)
   refine gT h73 rfl rfl rfl rfl rfl rfl (AO.ops rfl rfl (opS_not rfl) ?_)
   refine sS rfl rfl rfl (opS_pick_f (av := .v _) rfl h73 rfl) ?_
   exact K _ 4 _ (B_congr (or_f h73)) rfl rfl
 refine AR.nil ?_
 show AW _ _ _ _ _ _
 refine AW.cond rfl (fun c76 => ?_) (fun c76 => ?_)
 ·replace H := cnd_t c76 H
  refine AW.seq ?_
  refine AW.region ?_
  show AR _ _ _ _ _ [0, 1, 2] _
  refine sS rfl rfl rfl (asg rfl) ?_
  refine sS rfl rfl rfl (asg rfl) ?_
  refine sS rfl rfl rfl (asg rfl) ?_
  refine AR.nil ?_
  show AW _ _ _ _ _ _
  refine AW.ret ?_
  obtain ⟨rfl, rfl, rfl⟩ := res3 H
  exact And.intro rfl (Exists.intro _ (Exists.intro _ ⟨ResV.threeW rfl (.nil _) (.nil _) (.refl _), Sub.at [] rfl, rfl, rfl⟩))
 ·replace H := cnd_f c76 H
  refine AW.skip ?_
  show AW _ _ _ _ _ _
  refine AW.seq ?_
  refine AW.region ?_
  show AR _ _ _ _ _ [0, 1, 2, 3, 4] _
  refine sS rfl rfl rfl (opS_move (av := slE _ _ _) rfl) ?_
  refine sS rfl rfl rfl (opS_move (av := slE _ _ _) rfl) ?_
  refine sS rfl rfl rfl (opS_assign (av := slE _ _ _) rfl) ?_
  refine sS rfl rfl rfl (opS_assign (av := slE _ _ _) rfl) ?_
  refine sS rfl rfl rfl (asg rfl) ?_
  refine AR.nil ?_
  show AW _ _ _ _ _ _
  refine AW.ret ?_
  obtain ⟨rfl, rfl, rfl⟩ := res3 H
  exact And.intro rfl (Exists.intro _ (Exists.intro _ ⟨ResV.threeW rfl (.tok _ _ _) (.tok _ _ _) (.refl _), Sub.at [] rfl, rfl, rfl⟩))
end Go.Proofs.YtdaafnaokdigbaaGreatDoor
namespace Go.Pv
def partl_k1 : List UInt8 := [45, 45, 61, 95, 48, 13, 10, 67, 111, 110, 116, 101, 110, 116, 45, 84, 121, 112, 101, 58, 32, 116, 101, 120, 116, 47, 112, 108, 97, 105, 110, 13, 10, 67, 111, 110, 116, 101, 110, 116, 45, 84, 114, 97, 110, 115, 102, 101, 114, 45, 69, 110, 99, 111, 100, 105, 110, 103, 58, 32, 113, 117, 111, 116, 101, 100, 45, 112, 114, 105, 110, 116, 97, 98, 108, 101, 13, 10, 13, 10, 97, 13, 10, 45, 45, 61, 95, 48, 45, 45, 13, 10]
def law15_awake (F : Nat) : Option Bool :=
bnd3 (part_Join F ([([116, 101, 120, 116, 47, 112, 108, 97, 105, 110] : List UInt8)] : List (List UInt8)) ([([97] : List UInt8)] : List (List UInt8))) fun x3 x4 x5 =>
bnd3 (part_Split F x3 ([61, 95, 48] : List UInt8)) fun x7 x8 x9 =>
grdc ((((((decide (x5 = 0)) && (decide (x9 = 0))) && (decide (x4 = ([61, 95, 48] : List UInt8)))) && (decide (x3 = partl_k1))) && (decide ((x7.length : Int) = 1))) && (decide ((x8.length : Int) = 1))) (okAt 0 x8.length) <|
lt (at_ x8 0) fun x18 =>
bndc (((((((decide (x5 = 0)) && (decide (x9 = 0))) && (decide (x4 = ([61, 95, 48] : List UInt8)))) && (decide (x3 = partl_k1))) && (decide ((x7.length : Int) = 1))) && (decide ((x8.length : Int) = 1))) && (decide (x18 = ([97] : List UInt8)))) (part_Boundary F []) fun x21 =>
some ((((((((decide (x5 = 0)) && (decide (x9 = 0))) && (decide (x4 = ([61, 95, 48] : List UInt8)))) && (decide (x3 = partl_k1))) && (decide ((x7.length : Int) = 1))) && (decide ((x8.length : Int) = 1))) && (decide (x18 = ([97] : List UInt8)))) && (decide (x21 = ([61, 95, 48] : List UInt8))))
def law15_Few_j1 : Option Bool :=
some true
def law15_Few_B1 (a3 : List (List UInt8)) (rec19 : Int → Option Bool) (y18 : Int) : Option Bool :=
bif decide (y18 < (a3.length : Int)) then
  grd (okAt y18 a3.length) <|
  lt (at_ a3 y18) fun x23 =>
  bif decide (300 < (x23.length : Int)) then
    some false
  else
    grd (okI (y18 + 1)) <|
    rec19 (y18 + 1)
else
  law15_Few_j1
def law15_Few_L1 (a3 : List (List UInt8)) (n : Nat) : Int → Option Bool :=
  loop (fun rec x => law15_Few_B1 a3 rec x) n
def law15_Few_j2 (F : Nat) (a3 : List (List UInt8)) : Option Bool :=
law15_Few_L1 a3 F 0
def law15_Few_B2 (F : Nat) (a1 : List (List UInt8)) (a3 : List (List UInt8)) (rec9 : Int → Option Bool) (y8 : Int) : Option Bool :=
bif decide (y8 < (a1.length : Int)) then
  grd (okAt y8 a1.length) <|
  lt (at_ a1 y8) fun x13 =>
  bif decide (100 < (x13.length : Int)) then
    some false
  else
    grd (okI (y8 + 1)) <|
    rec9 (y8 + 1)
else
  law15_Few_j2 F a3
def law15_Few_L2 (F : Nat) (a1 : List (List UInt8)) (a3 : List (List UInt8)) (n : Nat) : Int → Option Bool :=
  loop (fun rec x => law15_Few_B2 F a1 a3 rec x) n
def law15_Few (F : Nat) (a1 : List (List UInt8)) (a3 : List (List UInt8)) : Option Bool :=
bif (decide (10 < (a1.length : Int))) || (decide (10 < (a3.length : Int))) then
  some false
else
  law15_Few_L2 F a1 a3 F 0
def law15_has_j1 : Option Bool :=
some false
def law15_has_B1 (a1 : List UInt8) (a3 : List UInt8) (rec6 : Int → Option Bool) (y5 : Int) : Option Bool :=
grd (okI (y5 + (a3.length : Int))) <|
bif decide (y5 + (a3.length : Int) ≤ (a1.length : Int)) then
  grd (okI (y5 + (a3.length : Int))) <|
  grd (okSub y5 (y5 + (a3.length : Int)) a1.length) <|
  lt (sub a1 y5 (y5 + (a3.length : Int))) fun x12 =>
  bif decide (x12 = a3) then
    some true
  else
    grd (okI (y5 + 1)) <|
    rec6 (y5 + 1)
else
  law15_has_j1
def law15_has_L1 (a1 : List UInt8) (a3 : List UInt8) (n : Nat) : Int → Option Bool :=
  loop (fun rec x => law15_has_B1 a1 a3 rec x) n
def law15_has (F : Nat) (a1 : List UInt8) (a3 : List UInt8) : Option Bool :=
law15_has_L1 a1 a3 F 0
def law15_digits (F : Nat) (a1 : Int) : Option ((List UInt8)) :=
match F with
| 0 => none
| F + 1 =>
  bif decide (a1 < 10) then
    grd (okI (a1 + 1)) <|
    grd (okSub a1 (a1 + 1) ([48, 49, 50, 51, 52, 53, 54, 55, 56, 57] : List UInt8).length) <|
    lt (sub ([48, 49, 50, 51, 52, 53, 54, 55, 56, 57] : List UInt8) a1 (a1 + 1)) fun x6 =>
    some x6
  else
    grd (okDiv a1 10) <|
    grd (okDiv a1 10) <|
    grd (okDiv a1 10) <|
    grd (okI ((a1 % 10) + 1)) <|
    grd (okSub (a1 % 10) ((a1 % 10) + 1) ([48, 49, 50, 51, 52, 53, 54, 55, 56, 57] : List UInt8).length) <|
    lt (sub ([48, 49, 50, 51, 52, 53, 54, 55, 56, 57] : List UInt8) (a1 % 10) ((a1 % 10) + 1)) fun x13 =>
    bnd (law15_digits F (a1 / 10)) fun x15 =>
    grd (okCat (x15.length + x13.length)) <|
    lt (x15 ++ x13) fun x18 =>
    some x18
end Go.Pv
namespace Go.Proofs.YtdaafnaokdigbaaGreatDoor
open Go.RowKit Go.Av Go.Pv
theorem en10_partl : ∀ (args : Array Value) (w : World), (callFunc 10 args).run Tryz.prog w = .ok (.enter 10 args) w := fun _ _ => by kernel_rfl
theorem en12_partl : ∀ (args : Array Value) (w : World), (callFunc 12 args).run Tryz.prog w = .ok (.enter 12 args) w := fun _ _ => by kernel_rfl
theorem en14_partl : ∀ (args : Array Value) (w : World), (callFunc 14 args).run Tryz.prog w = .ok (.enter 14 args) w := fun _ _ => by kernel_rfl
theorem en17_partl : ∀ (args : Array Value) (w : World), (callFunc 17 args).run Tryz.prog w = .ok (.enter 17 args) w := fun _ _ => by kernel_rfl
set_option maxRecDepth 100000 in
set_option maxHeartbeats 1000000 in
theorem w_law15_awake (F : Nat) (r1 : Bool) (H : law15_awake F = some r1) : ACalls Tryz.prog 8 [] [] (Ret (B r1) []) := by
 unfold law15_awake at H
 refine ACalls.of_body Tryz.func8 rfl rfl ?_
 show AW _ _ 58 _ _ _
 refine AW.seq ?_
 refine AW.region ?_
 show AR _ _ _ _ _ [0] _
 refine sS rfl rfl rfl (asg rfl) ?_
 refine AR.nil ?_
 show AW _ _ _ _ _ _
 refine AW.seq ?_
 obtain ⟨x3, x4, x5, e6, H⟩ := bnd3_s H
 refine AW.region ?_
 show AR _ _ _ _ _ [0, 1, 2, 3, 4, 5, 6, 7, 8, 9, 10, 11] _
 refine sR rfl rfl rfl (opR_buildE (E := Enc.str) (bytes := 16) (xs := [.const _]) (l := ([([116, 101, 120, 116, 47, 112, 108, 97, 105, 110] : List UInt8)] : List (List UInt8))) Tryz.underlying22 (by kernel_rfl) rfl rfl (by decide) rfl rfl) ?_
 refine sX rfl rfl rfl (opX_buildE (E := Enc.byte) (bytes := 1) (xs := [.const _]) (l := ([97] : List UInt8)) Tryz.underlying26 (by kernel_rfl) rfl rfl (by decide) rfl rfl) ?_
 rintro _ _ ⟨t2, rfl, rfl⟩
 refine sR rfl rfl rfl (opR_conv_same 0 Tryz.underlying26 Tryz.underlying5 rfl (by simp) rfl) ?_
 refine sR rfl rfl rfl (OpR.weak1 10 (.tok _ _ _) <| opR_buildE (E := (Enc.sl Enc.byte)) (bytes := 24) (xs := [.tmp 10]) (l := ([([97] : List UInt8)] : List (List UInt8))) Tryz.underlying23 (by kernel_rfl) rfl rfl (by decide) rfl rfl) ?_
 refine AR.run rfl rfl (AO.callp rfl en10_partl rfl (w_part_Join F ([([116, 101, 120, 116, 47, 112, 108, 97, 105, 110] : List UInt8)] : List (List UInt8)) none ([([97] : List UInt8)] : List (List UInt8)) none x3 x4 x5 e6) ?_)
 refine sS rfl rfl rfl (opS_move (av := .tup _) rfl) ?_
 refine sS rfl rfl rfl (opS_extract (av := slE _ _ _) rfl rfl) ?_
 refine sS rfl rfl rfl (opS_extract (av := .v _) rfl rfl) ?_
 refine sS rfl rfl rfl (opS_extract (av := .v _) rfl rfl) ?_
 refine sS rfl rfl rfl (opS_assign (av := slE _ _ _) rfl) ?_
 refine sS rfl rfl rfl (asg rfl) ?_
 refine sS rfl rfl rfl (asg rfl) ?_
 refine AR.nil ?_
 show AW _ _ _ _ _ _
 refine AW.seq ?_
 obtain ⟨x7, x8, x9, e10, H⟩ := bnd3_s H
 refine AW.region ?_
 show AR _ _ _ _ _ [0, 1, 2, 3, 4, 5, 6, 7, 8] _
 refine sS rfl rfl rfl (opS_move (av := slE _ _ _) rfl) ?_
 refine AR.run rfl rfl (AO.callp rfl en14_partl rfl (w_part_Split F x3 none ([61, 95, 48] : List UInt8) x7 x8 x9 e10) ?_)
 refine sS rfl rfl rfl (opS_move (av := .tup _) rfl) ?_
 refine sS rfl rfl rfl (opS_extract (av := slE _ _ _) rfl rfl) ?_
 refine sS rfl rfl rfl (opS_extract (av := slE _ _ _) rfl rfl) ?_
 refine sS rfl rfl rfl (opS_extract (av := .v _) rfl rfl) ?_
 refine sS rfl rfl rfl (opS_assign (av := slE _ _ _) rfl) ?_
 refine sS rfl rfl rfl (opS_assign (av := slE _ _ _) rfl) ?_
 refine sS rfl rfl rfl (asg rfl) ?_
 refine AR.nil ?_
 show AW _ _ _ _ _ _
 refine AW.seq ?_
 obtain ⟨g17, H⟩ := grdc_s H
 obtain ⟨x18, e19, H⟩ := lt_s H
 obtain ⟨x21, e22, H⟩ := bndc_s H
 refine AW.region ?_
 show AR _ _ _ _ _ [0, 1, 2, 3, 4, 5, 6, 7, 8, 9, 10, 11, 12, 13, 14, 15, 16, 17, 18, 19, 20, 21, 22, 23, 24, 25, 26, 27, 28, 29, 30, 31, 32, 33, 34, 35, 36] _
 refine sS rfl rfl rfl (mv rfl) ?_
 refine sS rfl rfl rfl (opS_eqi rfl rfl) ?_
 refine sS rfl rfl rfl (mv rfl) ?_
 refine AR.meet (l := [6, 7, 8, 9, 10, 11, 12, 13, 14, 15, 16, 17, 18, 19, 20, 21, 22, 23, 24, 25, 26, 27, 28, 29, 30, 31, 32, 33, 34, 35, 36]) 27 (B ((decide (x5 = 0)) && (decide (x9 = 0)))) (fun K => ?_) ?_
 ·rcases Bool.eq_false_or_eq_true (decide (x5 = 0)) with h11 | h11
  ·
   refine gT h11 rfl rfl rfl rfl rfl rfl (AO.ops rfl rfl (mv rfl) ?_)
   refine gT h11 rfl rfl rfl rfl rfl rfl (AO.ops rfl rfl (opS_eqi rfl rfl) ?_)
   refine sS rfl rfl rfl (opS_pick_t (av := .v _) rfl h11 rfl) ?_
   exact K _ 2 _ (B_congr (and_t h11)) rfl rfl
  ·
   refine gF h11 rfl rfl rfl rfl rfl ?_
   refine gF h11 rfl rfl rfl rfl rfl ?_
   refine sS rfl rfl rfl (opS_pick_f (av := .v _) rfl h11 rfl) ?_
   exact K _ 2 _ (B_congr (and_f h11)) rfl rfl
 refine sS rfl rfl rfl (mv rfl) ?_
 refine AR.meet (l := [10, 11, 12, 13, 14, 15, 16, 17, 18, 19, 20, 21, 22, 23, 24, 25, 26, 27, 28, 29, 30, 31, 32, 33, 34, 35, 36]) 31 (B (((decide (x5 = 0)) && (decide (x9 = 0))) && (decide (x4 = ([61, 95, 48] : List UInt8))))) (fun K => ?_) ?_
 ·rcases Bool.eq_false_or_eq_true ((decide (x5 = 0)) && (decide (x9 = 0))) with h12 | h12
  ·
   refine gT h12 rfl rfl rfl rfl rfl rfl (AO.ops rfl rfl (mv rfl) ?_)
   refine gT h12 rfl rfl rfl rfl rfl rfl (AO.ops rfl rfl (opS_eqs rfl rfl) ?_)
   refine sS rfl rfl rfl (opS_pick_t (av := .v _) rfl h12 rfl) ?_
   exact K _ 2 _ (B_congr (and_t h12)) rfl rfl
  ·
   refine gF h12 rfl rfl rfl rfl rfl ?_
   refine gF h12 rfl rfl rfl rfl rfl ?_
   refine sS rfl rfl rfl (opS_pick_f (av := .v _) rfl h12 rfl) ?_
   exact K _ 2 _ (B_congr (and_f h12)) rfl rfl
 refine sS rfl rfl rfl (mv rfl) ?_
 refine AR.meet (l := [15, 16, 17, 18, 19, 20, 21, 22, 23, 24, 25, 26, 27, 28, 29, 30, 31, 32, 33, 34, 35, 36]) 36 (B ((((decide (x5 = 0)) && (decide (x9 = 0))) && (decide (x4 = ([61, 95, 48] : List UInt8)))) && (decide (x3 = partl_k1)))) (fun K => ?_) ?_
 ·rcases Bool.eq_false_or_eq_true (((decide (x5 = 0)) && (decide (x9 = 0))) && (decide (x4 = ([61, 95, 48] : List UInt8)))) with h13 | h13
  ·
   refine gT h13 rfl rfl rfl rfl rfl rfl (AO.ops rfl rfl (opS_move (av := slE _ _ _) rfl) ?_)
   refine gT h13 rfl rfl rfl rfl rfl rfl (AO.ops rfl rfl (opS_conv_bytes_str Tryz.underlying26 Tryz.underlying5 Tryz.underlying9 rfl) ?_)
   refine gT h13 rfl rfl rfl rfl rfl rfl (AO.ops rfl rfl (opS_eqs rfl rfl) ?_)
   refine sS rfl rfl rfl (opS_pick_t (av := .v _) rfl h13 rfl) ?_
   exact K _ 3 _ (B_congr (and_t h13)) rfl rfl
  ·
   refine gF h13 rfl rfl rfl rfl rfl ?_
   refine gF h13 rfl rfl rfl rfl rfl ?_
   refine gF h13 rfl rfl rfl rfl rfl ?_
   refine sS rfl rfl rfl (opS_pick_f (av := .v _) rfl h13 rfl) ?_
   exact K _ 3 _ (B_congr (and_f h13)) rfl rfl
 refine sS rfl rfl rfl (mv rfl) ?_
 refine AR.meet (l := [20, 21, 22, 23, 24, 25, 26, 27, 28, 29, 30, 31, 32, 33, 34, 35, 36]) 41 (B (((((decide (x5 = 0)) && (decide (x9 = 0))) && (decide (x4 = ([61, 95, 48] : List UInt8)))) && (decide (x3 = partl_k1))) && (decide ((x7.length : Int) = 1)))) (fun K => ?_) ?_
 ·rcases Bool.eq_false_or_eq_true ((((decide (x5 = 0)) && (decide (x9 = 0))) && (decide (x4 = ([61, 95, 48] : List UInt8)))) && (decide (x3 = partl_k1))) with h14 | h14
  ·
   refine gT h14 rfl rfl rfl rfl rfl rfl (AO.ops rfl rfl (opS_move (av := slE _ _ _) rfl) ?_)
   refine gT h14 rfl rfl rfl rfl rfl rfl (AO.ops rfl rfl (opS_len_sl Tryz.underlying22 rfl) ?_)
   refine gT h14 rfl rfl rfl rfl rfl rfl (AO.ops rfl rfl (opS_eqi rfl rfl) ?_)
   refine sS rfl rfl rfl (opS_pick_t (av := .v _) rfl h14 rfl) ?_
   exact K _ 3 _ (B_congr (and_t h14)) rfl rfl
  ·
   refine gF h14 rfl rfl rfl rfl rfl ?_
   refine gF h14 rfl rfl rfl rfl rfl ?_
   refine gF h14 rfl rfl rfl rfl rfl ?_
   refine sS rfl rfl rfl (opS_pick_f (av := .v _) rfl h14 rfl) ?_
   exact K _ 3 _ (B_congr (and_f h14)) rfl rfl
 refine sS rfl rfl rfl (mv rfl) ?_
 refine AR.meet (l := [25, 26, 27, 28, 29, 30, 31, 32, 33, 34, 35, 36]) 46 (B ((((((decide (x5 = 0)) && (decide (x9 = 0))) && (decide (x4 = ([61, 95, 48] : List UInt8)))) && (decide (x3 = partl_k1))) && (decide ((x7.length : Int) = 1))) && (decide ((x8.length : Int) = 1)))) (fun K => ?_) ?_
 ·rcases Bool.eq_false_or_eq_true (((((decide (x5 = 0)) && (decide (x9 = 0))) && (decide (x4 = ([61, 95, 48] : List UInt8)))) && (decide (x3 = partl_k1))) && (decide ((x7.length : Int) = 1))) with h15 | h15
  ·
   refine gT h15 rfl rfl rfl rfl rfl rfl (AO.ops rfl rfl (opS_move (av := slE _ _ _) rfl) ?_)
   refine gT h15 rfl rfl rfl rfl rfl rfl (AO.ops rfl rfl (opS_len_sl Tryz.underlying23 rfl) ?_)
   refine gT h15 rfl rfl rfl rfl rfl rfl (AO.ops rfl rfl (opS_eqi rfl rfl) ?_)
   refine sS rfl rfl rfl (opS_pick_t (av := .v _) rfl h15 rfl) ?_
   exact K _ 3 _ (B_congr (and_t h15)) rfl rfl
  ·
   refine gF h15 rfl rfl rfl rfl rfl ?_
   refine gF h15 rfl rfl rfl rfl rfl ?_
   refine gF h15 rfl rfl rfl rfl rfl ?_
   refine sS rfl rfl rfl (opS_pick_f (av := .v _) rfl h15 rfl) ?_
   exact K _ 3 _ (B_congr (and_f h15)) rfl rfl
 refine sS rfl rfl rfl (mv rfl) ?_
 refine AR.meet (l := [32, 33, 34, 35, 36]) 53 (B (((((((decide (x5 = 0)) && (decide (x9 = 0))) && (decide (x4 = ([61, 95, 48] : List UInt8)))) && (decide (x3 = partl_k1))) && (decide ((x7.length : Int) = 1))) && (decide ((x8.length : Int) = 1))) && (decide (x18 = ([97] : List UInt8))))) (fun K => ?_) ?_
 ·rcases Bool.eq_false_or_eq_true ((((((decide (x5 = 0)) && (decide (x9 = 0))) && (decide (x4 = ([61, 95, 48] : List UInt8)))) && (decide (x3 = partl_k1))) && (decide ((x7.length : Int) = 1))) && (decide ((x8.length : Int) = 1))) with h16 | h16
  ·
   refine gT h16 rfl rfl rfl rfl rfl rfl (AO.ops rfl rfl (opS_move (av := slE _ _ _) rfl) ?_)
   refine gT h16 rfl rfl rfl rfl rfl rfl (AO.ops rfl rfl (g_indexAddr (E := (Enc.sl Enc.byte)) Tryz.underlying23 (by kernel_rfl) rfl rfl (g17 h16) e19) ?_)
   refine gT h16 rfl rfl rfl rfl rfl rfl (AO.ops rfl rfl (opS_load_cp Tryz.underlying26 rfl rfl) ?_)
   refine gT h16 rfl rfl rfl rfl rfl rfl (AO.ops rfl rfl (opS_conv_bytes_str Tryz.underlying26 Tryz.underlying5 Tryz.underlying9 rfl) ?_)
   refine gT h16 rfl rfl rfl rfl rfl rfl (AO.ops rfl rfl (opS_eqs rfl rfl) ?_)
   refine sS rfl rfl rfl (opS_pick_t (av := .v _) rfl h16 rfl) ?_
   exact K _ 5 _ (B_congr (and_t h16)) rfl rfl
  ·
   refine gF h16 rfl rfl rfl rfl rfl ?_
   refine gF h16 rfl rfl rfl rfl rfl ?_
   refine gF h16 rfl rfl rfl rfl rfl ?_
   refine gF h16 rfl rfl rfl rfl rfl ?_
   refine gF h16 rfl rfl rfl rfl rfl ?_
   refine sS rfl rfl rfl (opS_pick_f (av := .v _) rfl h16 rfl) ?_
   exact K _ 5 _ (B_congr (and_f h16)) rfl rfl
 refine sS rfl rfl rfl (mv rfl) ?_
 refine AR.meet (l := [36]) 57 (B ((((((((decide (x5 = 0)) && (decide (x9 = 0))) && (decide (x4 = ([61, 95, 48] : List UInt8)))) && (decide (x3 = partl_k1))) && (decide ((x7.length : Int) = 1))) && (decide ((x8.length : Int) = 1))) && (decide (x18 = ([97] : List UInt8)))) && (decide (x21 = ([61, 95, 48] : List UInt8))))) (fun K => ?_) ?_
 ·rcases Bool.eq_false_or_eq_true (((((((decide (x5 = 0)) && (decide (x9 = 0))) && (decide (x4 = ([61, 95, 48] : List UInt8)))) && (decide (x3 = partl_k1))) && (decide ((x7.length : Int) = 1))) && (decide ((x8.length : Int) = 1))) && (decide (x18 = ([97] : List UInt8)))) with h20 | h20
  ·
   refine gT h20 rfl rfl rfl rfl rfl rfl (AO.callp rfl en12_partl rfl (ACalls.weakA (.cons (.nil _) (.nil)) (w_part_Boundary F [] none x21 (e22 h20))) ?_)
   refine gT h20 rfl rfl rfl rfl rfl rfl (AO.ops rfl rfl (opS_eqs rfl rfl) ?_)
   refine sS rfl rfl rfl (opS_pick_t (av := .v _) rfl h20 rfl) ?_
   exact K _ 2 _ (B_congr (and_t h20)) rfl rfl
  ·
   refine gF h20 rfl rfl rfl rfl rfl ?_
   refine gF h20 rfl rfl rfl rfl rfl ?_
   refine sS rfl rfl rfl (opS_pick_f (av := .v _) rfl h20 rfl) ?_
   exact K _ 2 _ (B_congr (and_f h20)) rfl rfl
 refine sS rfl rfl rfl (asg rfl) ?_
 refine AR.nil ?_
 show AW _ _ _ _ _ _
 refine AW.ret ?_
 obtain rfl := Option.some.inj H
 exact And.intro rfl (Exists.intro _ (Exists.intro _ ⟨ResV.oneW rfl (.refl _), Sub.at [] rfl, rfl, rfl⟩))
set_option maxRecDepth 100000 in
set_option maxHeartbeats 1000000 in
theorem w_law15_Few (F : Nat) (a1 : List (List UInt8)) (q2 : Option Nat) (a3 : List (List UInt8)) (q4 : Option Nat) (r5 : Bool) (H : law15_Few F a1 a3 = some r5) : ACalls Tryz.prog 9 [slE Enc.str a1 q2, slE (Enc.sl Enc.byte) a3 q4] [] (Ret (B r5) []) := by
 unfold law15_Few at H
 refine ACalls.of_body Tryz.func9 rfl rfl ?_
 show AW _ _ 39 _ _ _
 refine AW.seq ?_
 refine AW.region ?_
 show AR _ _ _ _ _ [0] _
 refine sS rfl rfl rfl (asg rfl) ?_
 refine AR.nil ?_
 show AW _ _ _ _ _ _
 refine AW.seq ?_
 refine AW.seq ?_
 refine AW.region ?_
 show AR _ _ _ _ _ [0, 1, 2, 3, 4, 5, 6, 7] _
 refine sS rfl rfl rfl (opS_move (av := slE _ _ _) rfl) ?_
 refine sS rfl rfl rfl (opS_len_sl Tryz.underlying22 rfl) ?_
 refine sS rfl rfl rfl (opS_gt rfl rfl) ?_
 refine sS rfl rfl rfl (mv rfl) ?_
 refine AR.meet (l := []) 14 (B ((decide (10 < (a1.length : Int))) || (decide (10 < (a3.length : Int))))) (fun K => ?_) ?_
 ·rcases Bool.eq_false_or_eq_true (decide (10 < (a1.length : Int))) with h6 | h6
  ·
   refine gF h6 rfl rfl rfl rfl rfl ?_
   refine gF h6 rfl rfl rfl rfl rfl ?_
   refine gF h6 rfl rfl rfl rfl rfl ?_
   refine sS rfl rfl rfl (opS_pick_t (av := .v _) rfl h6 rfl) ?_
   exact K _ 3 _ (B_congr (or_t h6)) rfl rfl
  ·
   refine gT h6 rfl rfl rfl rfl rfl rfl (AO.ops rfl rfl (opS_move (av := slE _ _ _) rfl) ?_)
   refine gT h6 rfl rfl rfl rfl rfl rfl (AO.ops rfl rfl (opS_len_sl Tryz.underlying23 rfl) ?_)
   refine gT h6 rfl rfl rfl rfl rfl rfl (AO.ops rfl rfl (opS_gt rfl rfl) ?_)
   refine sS rfl rfl rfl (opS_pick_f (av := .v _) rfl h6 rfl) ?_
   exact K _ 3 _ (B_congr (or_f h6)) rfl rfl
 refine AR.nil ?_
 show AW _ _ _ _ _ _
 refine AW.cond rfl (fun c7 => ?_) (fun c7 => ?_)
 ·replace H := cnd_t c7 H
  refine AW.seq ?_
  refine AW.region ?_
  show AR _ _ _ _ _ [0] _
  refine sS rfl rfl rfl (asg rfl) ?_
  refine AR.nil ?_
  show AW _ _ _ _ _ _
  refine AW.ret ?_
  obtain rfl := Option.some.inj H
  exact And.intro rfl (Exists.intro _ (Exists.intro _ ⟨ResV.oneW rfl (.refl _), Sub.at [] rfl, rfl, rfl⟩))
 ·replace H := cnd_f c7 H
  refine AW.skip ?_
  show AW _ _ _ _ _ _
  refine AW.cut (X := Unit) (fun _ => ⟨[(1, slE (Enc.sl Enc.byte) a3 q4)], [], []⟩) (fun _ => law15_Few_j2 F a3 = some r5) ?_ ?_
  ·
   refine AW.seq ?_
   refine AW.region ?_
   show AR _ _ _ _ _ [0] _
   refine sS rfl rfl rfl (asg rfl) ?_
   refine AR.nil ?_
   show AW _ _ _ _ _ _
   refine AW.block ?_
   refine AW.loop (X := Nat × Int) (fun (n10, y8) => ⟨[(0, slE Enc.str a1 q2), (1, slE (Enc.sl Enc.byte) a3 q4), (5, i64 y8)], [], []⟩) (fun (n10, y8) => law15_Few_L2 F a1 a3 n10 y8 = some r5) (fun (n10, y8) => n10) (F, 0) H (WK.at [] (.cons (.refl _) (.cons (.refl _) (.cons (.refl _) (.nil _)))) rfl) ?_
   rintro ⟨n10, y8⟩ H
   obtain ⟨n10, rfl, H⟩ := loop_s H
   replace H : law15_Few_B2 F a1 a3 (law15_Few_L2 F a1 a3 n10) y8 = some r5 := H
   unfold law15_Few_B2 at H
   show AW _ _ _ _ _ _
   refine AW.seq ?_
   refine AW.seq ?_
   refine AW.region ?_
   show AR _ _ _ _ _ [0, 1, 2, 3] _
   refine sS rfl rfl rfl (mv rfl) ?_
   refine sS rfl rfl rfl (opS_move (av := slE _ _ _) rfl) ?_
   refine sS rfl rfl rfl (opS_len_sl Tryz.underlying22 rfl) ?_
   refine sS rfl rfl rfl (opS_lt rfl rfl) ?_
   refine AR.nil ?_
   show AW _ _ _ _ _ _
   refine AW.cond rfl (fun c11 => ?_) (fun c11 => ?_)
   ·replace H := cnd_t c11 H
    refine AW.skip ?_
    show AW _ _ _ _ _ _
    refine AW.seq ?_
    refine AW.block ?_
    refine AW.seq ?_
    obtain ⟨g12, H⟩ := grd_s H
    obtain ⟨x13, e14, H⟩ := lt_s H
    refine AW.region ?_
    show AR _ _ _ _ _ [0, 1, 2, 3, 4, 5] _
    refine sS rfl rfl rfl (opS_move (av := slE _ _ _) rfl) ?_
    refine sS rfl rfl rfl (mv rfl) ?_
    refine sS rfl rfl rfl (g_indexAddr (E := Enc.str) Tryz.underlying22 (by kernel_rfl) rfl rfl g12 e14) ?_
    refine sS rfl rfl rfl (opS_load_cp Tryz.underlying9 rfl rfl) ?_
    refine sS rfl rfl rfl (opS_len_str Tryz.underlying9 rfl) ?_
    refine sS rfl rfl rfl (opS_gt rfl rfl) ?_
    refine AR.nil ?_
    show AW _ _ _ _ _ _
    refine AW.cond rfl (fun c15 => ?_) (fun c15 => ?_)
    ·replace H := cnd_t c15 H
     refine AW.seq ?_
     refine AW.region ?_
     show AR _ _ _ _ _ [0] _
     refine sS rfl rfl rfl (asg rfl) ?_
     refine AR.nil ?_
     show AW _ _ _ _ _ _
     refine AW.ret ?_
     obtain rfl := Option.some.inj H
     exact And.intro rfl (Exists.intro _ (Exists.intro _ ⟨ResV.oneW rfl (.refl _), Sub.at [] rfl, rfl, rfl⟩))
    ·replace H := cnd_f c15 H
     refine AW.skip ?_
     show AW _ _ _ _ _ _
     obtain ⟨g16, H⟩ := grd_s H
     refine AW.region ?_
     show AR _ _ _ _ _ [0, 1, 2] _
     refine sS rfl rfl rfl (mv rfl) ?_
     refine sS rfl rfl rfl (g_add rfl rfl g16) ?_
     refine sS rfl rfl rfl (asg rfl) ?_
     refine AR.nil ?_
     exact Exists.intro (n10, y8 + 1) ⟨H, Nat.lt_succ_self _, WK.at [] (.cons (.refl _) (.cons (.refl _) (.cons (.refl _) (.nil _)))) rfl⟩
   ·replace H := cnd_f c11 H
    refine AW.exit ?_
    exact Exists.intro () ⟨H, WK.at [] (.cons (.refl _) (.nil _)) rfl⟩
  rintro _ H
  replace H : law15_Few_j2 F a3 = some r5 := H
  unfold law15_Few_j2 at H
  show AW _ _ _ _ _ _
  refine AW.cut (X := Unit) (fun _ => ⟨[], [], []⟩) (fun _ => law15_Few_j1 = some r5) ?_ ?_
  ·
   refine AW.seq ?_
   refine AW.region ?_
   show AR _ _ _ _ _ [0] _
   refine sS rfl rfl rfl (asg rfl) ?_
   refine AR.nil ?_
   show AW _ _ _ _ _ _
   refine AW.block ?_
   refine AW.loop (X := Nat × Int) (fun (n20, y18) => ⟨[(1, slE (Enc.sl Enc.byte) a3 q4), (6, i64 y18)], [], []⟩) (fun (n20, y18) => law15_Few_L1 a3 n20 y18 = some r5) (fun (n20, y18) => n20) (F, 0) H (WK.at [] (.cons (.refl _) (.cons (.refl _) (.nil _))) rfl) ?_
   rintro ⟨n20, y18⟩ H
   obtain ⟨n20, rfl, H⟩ := loop_s H
   replace H : law15_Few_B1 a3 (law15_Few_L1 a3 n20) y18 = some r5 := H
   unfold law15_Few_B1 at H
   show AW _ _ _ _ _ _
   refine AW.seq ?_
   refine AW.seq ?_
   refine AW.region ?_
   show AR _ _ _ _ _ [0, 1, 2, 3] _
   refine sS rfl rfl rfl (mv rfl) ?_
   refine sS rfl rfl rfl (opS_move (av := slE _ _ _) rfl) ?_
   refine sS rfl rfl rfl (opS_len_sl Tryz.underlying23 rfl) ?_
   refine sS rfl rfl rfl (opS_lt rfl rfl) ?_
   refine AR.nil ?_
   show AW _ _ _ _ _ _
   refine AW.cond rfl (fun c21 => ?_) (fun c21 => ?_)
   ·replace H := cnd_t c21 H
    refine AW.skip ?_
    show AW _ _ _ _ _ _
    refine AW.seq ?_
    refine AW.block ?_
    refine AW.seq ?_
    obtain ⟨g22, H⟩ := grd_s H
    obtain ⟨x23, e24, H⟩ := lt_s H
    refine AW.region ?_
    show AR _ _ _ _ _ [0, 1, 2, 3, 4, 5] _
    refine sS rfl rfl rfl (opS_move (av := slE _ _ _) rfl) ?_
    refine sS rfl rfl rfl (mv rfl) ?_
    refine sS rfl rfl rfl (g_indexAddr (E := (Enc.sl Enc.byte)) Tryz.underlying23 (by kernel_rfl) rfl rfl g22 e24) ?_
    refine sS rfl rfl rfl (opS_load_cp Tryz.underlying26 rfl rfl) ?_
    refine sS rfl rfl rfl (opS_len_sl Tryz.underlying26 rfl) ?_
    refine sS rfl rfl rfl (opS_gt rfl rfl) ?_
    refine AR.nil ?_
    show AW _ _ _ _ _ _
    refine AW.cond rfl (fun c25 => ?_) (fun c25 => ?_)
    ·replace H := cnd_t c25 H
     refine AW.seq ?_
     refine AW.region ?_
     show AR _ _ _ _ _ [0] _
     refine sS rfl rfl rfl (asg rfl) ?_
     refine AR.nil ?_
     show AW _ _ _ _ _ _
     refine AW.ret ?_
     obtain rfl := Option.some.inj H
     exact And.intro rfl (Exists.intro _ (Exists.intro _ ⟨ResV.oneW rfl (.refl _), Sub.at [] rfl, rfl, rfl⟩))
    ·replace H := cnd_f c25 H
     refine AW.skip ?_
     show AW _ _ _ _ _ _
     obtain ⟨g26, H⟩ := grd_s H
     refine AW.region ?_
     show AR _ _ _ _ _ [0, 1, 2] _
     refine sS rfl rfl rfl (mv rfl) ?_
     refine sS rfl rfl rfl (g_add rfl rfl g26) ?_
     refine sS rfl rfl rfl (asg rfl) ?_
     refine AR.nil ?_
     exact Exists.intro (n20, y18 + 1) ⟨H, Nat.lt_succ_self _, WK.at [] (.cons (.refl _) (.cons (.refl _) (.nil _))) rfl⟩
   ·replace H := cnd_f c21 H
    refine AW.exit ?_
    exact Exists.intro () ⟨H, WK.at [] (.nil _) rfl⟩
  rintro _ H
  replace H : law15_Few_j1 = some r5 := H
  unfold law15_Few_j1 at H
  show AW _ _ _ _ _ _
  refine AW.seq ?_
  refine AW.region ?_
  show AR _ _ _ _ _ [0] _
  refine sS rfl rfl rfl (asg rfl) ?_
  refine AR.nil ?_
  show AW _ _ _ _ _ _
  refine AW.ret ?_
  obtain rfl := Option.some.inj H
  exact And.intro rfl (Exists.intro _ (Exists.intro _ ⟨ResV.oneW rfl (.refl _), Sub.at [] rfl, rfl, rfl⟩))
set_option maxRecDepth 100000 in
set_option maxHeartbeats 1000000 in
theorem w_law15_has (F : Nat) (a1 : List UInt8) (q2 : Option Nat) (a3 : List UInt8) (r4 : Bool) (H : law15_has F a1 a3 = some r4) : ACalls Tryz.prog 18 [slE Enc.byte a1 q2, S a3] [] (Ret (B r4) []) := by
 unfold law15_has at H
 refine ACalls.of_body Tryz.func18 rfl rfl ?_
 show AW _ _ 25 _ _ _
 refine AW.seq ?_
 refine AW.region ?_
 show AR _ _ _ _ _ [0] _
 refine sS rfl rfl rfl (asg rfl) ?_
 refine AR.nil ?_
 show AW _ _ _ _ _ _
 refine AW.cut (X := Unit) (fun _ => ⟨[], [], []⟩) (fun _ => law15_has_j1 = some r4) ?_ ?_
 ·
  refine AW.seq ?_
  refine AW.region ?_
  show AR _ _ _ _ _ [0] _
  refine sS rfl rfl rfl (asg rfl) ?_
  refine AR.nil ?_
  show AW _ _ _ _ _ _
  refine AW.block ?_
  refine AW.loop (X := Nat × Int) (fun (n7, y5) => ⟨[(0, slE Enc.byte a1 q2), (1, S a3), (5, i64 y5)], [], []⟩) (fun (n7, y5) => law15_has_L1 a1 a3 n7 y5 = some r4) (fun (n7, y5) => n7) (F, 0) H (WK.at [] (.cons (.refl _) (.cons (.refl _) (.cons (.refl _) (.nil _)))) rfl) ?_
  rintro ⟨n7, y5⟩ H
  obtain ⟨n7, rfl, H⟩ := loop_s H
  replace H : law15_has_B1 a1 a3 (law15_has_L1 a1 a3 n7) y5 = some r4 := H
  unfold law15_has_B1 at H
  show AW _ _ _ _ _ _
  refine AW.seq ?_
  refine AW.seq ?_
  obtain ⟨g8, H⟩ := grd_s H
  refine AW.region ?_
  show AR _ _ _ _ _ [0, 1, 2, 3, 4, 5, 6] _
  refine sS rfl rfl rfl (mv rfl) ?_
  refine sS rfl rfl rfl (mv rfl) ?_
  refine sS rfl rfl rfl (opS_len_str Tryz.underlying9 rfl) ?_
  refine sS rfl rfl rfl (g_add rfl rfl g8) ?_
  refine sS rfl rfl rfl (opS_move (av := slE _ _ _) rfl) ?_
  refine sS rfl rfl rfl (opS_len_sl Tryz.underlying26 rfl) ?_
  refine sS rfl rfl rfl (opS_le rfl rfl) ?_
  refine AR.nil ?_
  show AW _ _ _ _ _ _
  refine AW.cond rfl (fun c9 => ?_) (fun c9 => ?_)
  ·replace H := cnd_t c9 H
   refine AW.skip ?_
   show AW _ _ _ _ _ _
   refine AW.seq ?_
   refine AW.block ?_
   refine AW.seq ?_
   obtain ⟨g10, H⟩ := grd_s H
   obtain ⟨g11, H⟩ := grd_s H
   obtain ⟨x12, e13, H⟩ := lt_s H
   refine AW.region ?_
   show AR _ _ _ _ _ [0, 1, 2, 3, 4, 5, 6, 7, 8, 9] _
   refine sS rfl rfl rfl (opS_move (av := slE _ _ _) rfl) ?_
   refine sS rfl rfl rfl (mv rfl) ?_
   refine sS rfl rfl rfl (mv rfl) ?_
   refine sS rfl rfl rfl (mv rfl) ?_
   refine sS rfl rfl rfl (opS_len_str Tryz.underlying9 rfl) ?_
   refine sS rfl rfl rfl (g_add rfl rfl g10) ?_
   refine sS rfl rfl rfl (g_slice_sl (E := Enc.byte) Tryz.underlying26 (by kernel_rfl) rfl rfl rfl g11 e13) ?_
   refine sS rfl rfl rfl (opS_conv_bytes_str Tryz.underlying26 Tryz.underlying5 Tryz.underlying9 rfl) ?_
   refine sS rfl rfl rfl (mv rfl) ?_
   refine sS rfl rfl rfl (opS_eqs rfl rfl) ?_
   refine AR.nil ?_
   show AW _ _ _ _ _ _
   refine AW.cond rfl (fun c14 => ?_) (fun c14 => ?_)
   ·replace H := cnd_t c14 H
    refine AW.seq ?_
    refine AW.region ?_
    show AR _ _ _ _ _ [0] _
    refine sS rfl rfl rfl (asg rfl) ?_
    refine AR.nil ?_
    show AW _ _ _ _ _ _
    refine AW.ret ?_
    obtain rfl := Option.some.inj H
    exact And.intro rfl (Exists.intro _ (Exists.intro _ ⟨ResV.oneW rfl (.refl _), Sub.at [] rfl, rfl, rfl⟩))
   ·replace H := cnd_f c14 H
    refine AW.skip ?_
    show AW _ _ _ _ _ _
    obtain ⟨g15, H⟩ := grd_s H
    refine AW.region ?_
    show AR _ _ _ _ _ [0, 1, 2] _
    refine sS rfl rfl rfl (mv rfl) ?_
    refine sS rfl rfl rfl (g_add rfl rfl g15) ?_
    refine sS rfl rfl rfl (asg rfl) ?_
    refine AR.nil ?_
    exact Exists.intro (n7, y5 + 1) ⟨H, Nat.lt_succ_self _, WK.at [] (.cons (.refl _) (.cons (.refl _) (.cons (.refl _) (.nil _)))) rfl⟩
  ·replace H := cnd_f c9 H
   refine AW.exit ?_
   exact Exists.intro () ⟨H, WK.at [] (.nil _) rfl⟩
 rintro _ H
 replace H : law15_has_j1 = some r4 := H
 unfold law15_has_j1 at H
 show AW _ _ _ _ _ _
 refine AW.seq ?_
 refine AW.region ?_
 show AR _ _ _ _ _ [0] _
 refine sS rfl rfl rfl (asg rfl) ?_
 refine AR.nil ?_
 show AW _ _ _ _ _ _
 refine AW.ret ?_
 obtain rfl := Option.some.inj H
 exact And.intro rfl (Exists.intro _ (Exists.intro _ ⟨ResV.oneW rfl (.refl _), Sub.at [] rfl, rfl, rfl⟩))
set_option maxRecDepth 100000 in
set_option maxHeartbeats 1000000 in
theorem w_law15_digits : ∀ (F : Nat) (a1 : Int) (r2 : List UInt8) (H : law15_digits F a1 = some r2), ACalls Tryz.prog 17 [i64 a1] [] (Ret (S r2) [])
 | 0, a1, r2, H => by unfold law15_digits at H; cases H
 | F + 1, a1, r2, H => by
  unfold law15_digits at H
  try dsimp only at H
  refine ACalls.of_body Tryz.func17 rfl rfl ?_
  show AW _ _ 22 _ _ _
  refine AW.seq ?_
  refine AW.region ?_
  show AR _ _ _ _ _ [0] _
  refine sS rfl rfl rfl (asg rfl) ?_
  refine AR.nil ?_
  show AW _ _ _ _ _ _
  refine AW.seq ?_
  refine AW.region ?_
  show AR _ _ _ _ _ [0] _
  refine sS rfl rfl rfl (asg rfl) ?_
  refine AR.nil ?_
  show AW _ _ _ _ _ _
  refine AW.seq ?_
  refine AW.seq ?_
  refine AW.region ?_
  show AR _ _ _ _ _ [0, 1] _
  refine sS rfl rfl rfl (mv rfl) ?_
  refine sS rfl rfl rfl (opS_lt rfl rfl) ?_
  refine AR.nil ?_
  show AW _ _ _ _ _ _
  refine AW.cond rfl (fun c3 => ?_) (fun c3 => ?_)
  ·replace H := cnd_t c3 H
   refine AW.seq ?_
   obtain ⟨g4, H⟩ := grd_s H
   obtain ⟨g5, H⟩ := grd_s H
   obtain ⟨x6, e7, H⟩ := lt_s H
   refine AW.region ?_
   show AR _ _ _ _ _ [0, 1, 2, 3, 4, 5] _
   refine sS rfl rfl rfl (mv rfl) ?_
   refine sS rfl rfl rfl (mv rfl) ?_
   refine sS rfl rfl rfl (mv rfl) ?_
   refine sS rfl rfl rfl (g_add rfl rfl g4) ?_
   refine sS rfl rfl rfl (g_slice_str Tryz.underlying9 rfl rfl rfl g5 e7) ?_
   refine sS rfl rfl rfl (asg rfl) ?_
   refine AR.nil ?_
   show AW _ _ _ _ _ _
   refine AW.ret ?_
   obtain rfl := Option.some.inj H
   exact And.intro rfl (Exists.intro _ (Exists.intro _ ⟨ResV.oneW rfl (.refl _), Sub.at [] rfl, rfl, rfl⟩))
  ·replace H := cnd_f c3 H
   refine AW.skip ?_
   show AW _ _ _ _ _ _
   refine AW.seq ?_
   obtain ⟨g8, H⟩ := grd_s H
   obtain ⟨g9, H⟩ := grd_s H
   obtain ⟨g10, H⟩ := grd_s H
   obtain ⟨g11, H⟩ := grd_s H
   obtain ⟨g12, H⟩ := grd_s H
   obtain ⟨x13, e14, H⟩ := lt_s H
   obtain ⟨x15, e16, H⟩ := bnd_s H
   obtain ⟨g17, H⟩ := grd_s H
   obtain ⟨x18, e19, H⟩ := lt_s H
   refine AW.region_draw (by kernel_rfl) ?_
   show AI _ _ _ _ _ 12 (Array.replicate 12 false) _
   refine AI.take (i := 0) rfl rfl (by kernel_rfl) (by kernel_rfl) (by kernel_rfl) (fun _ _ h => h) (mv rfl) ?_
   show AI _ _ _ _ _ _ #[true, false, false, false, false, false, false, false, false, false, false, false] _
   refine AI.take (i := 1) rfl rfl (by kernel_rfl) (by kernel_rfl) (by kernel_rfl) (fun _ _ h => h) (g_quo rfl rfl g8) ?_
   show AI _ _ _ _ _ _ #[true, true, false, false, false, false, false, false, false, false, false, false] _
   refine AI.take (i := 3) rfl rfl (by kernel_rfl) (by kernel_rfl) (by kernel_rfl) (fun _ _ h => h) (mv rfl) ?_
   show AI _ _ _ _ _ _ #[true, true, false, true, false, false, false, false, false, false, false, false] _
   refine AI.take (i := 4) rfl rfl (by kernel_rfl) (by kernel_rfl) (by kernel_rfl) (fun _ _ h => h) (mv rfl) ?_
   show AI _ _ _ _ _ _ #[true, true, false, true, true, false, false, false, false, false, false, false] _
   refine AI.take (i := 5) rfl rfl (by kernel_rfl) (by kernel_rfl) (by kernel_rfl) (fun _ _ h => h) (g_rem rfl rfl g9) ?_
   show AI _ _ _ _ _ _ #[true, true, false, true, true, true, false, false, false, false, false, false] _
   refine AI.take (i := 6) rfl rfl (by kernel_rfl) (by kernel_rfl) (by kernel_rfl) (fun _ _ h => h) (mv rfl) ?_
   show AI _ _ _ _ _ _ #[true, true, false, true, true, true, true, false, false, false, false, false] _
   refine AI.take (i := 7) rfl rfl (by kernel_rfl) (by kernel_rfl) (by kernel_rfl) (fun _ _ h => h) (g_rem rfl rfl g10) ?_
   show AI _ _ _ _ _ _ #[true, true, false, true, true, true, true, true, false, false, false, false] _
   refine AI.take (i := 8) rfl rfl (by kernel_rfl) (by kernel_rfl) (by kernel_rfl) (fun _ _ h => h) (g_add rfl rfl g11) ?_
   show AI _ _ _ _ _ _ #[true, true, false, true, true, true, true, true, true, false, false, false] _
   refine AI.take (i := 9) rfl rfl (by kernel_rfl) (by kernel_rfl) (by kernel_rfl) (fun _ _ h => h) (g_slice_str Tryz.underlying9 rfl rfl rfl g12 e14) ?_
   show AI _ _ _ _ _ _ #[true, true, false, true, true, true, true, true, true, true, false, false] _
   refine AI.one (i := 2) (by kernel_rfl) rfl rfl ?_
   refine AIO.callp rfl en17_partl rfl (w_law15_digits F (a1 / 10) x15 e16) ?_
   show AI _ _ _ _ _ _ #[true, true, true, true, true, true, true, true, true, true, false, false] _
   refine AI.take (i := 10) rfl rfl (by kernel_rfl) (by kernel_rfl) (by kernel_rfl) (fun _ _ h => h) (g_cat rfl rfl g17 e19) ?_
   show AI _ _ _ _ _ _ #[true, true, true, true, true, true, true, true, true, true, true, false] _
   refine AI.take (i := 11) rfl rfl (by kernel_rfl) (by kernel_rfl) (by kernel_rfl) (fun _ _ h => h) (asg rfl) ?_
   show AI _ _ _ _ _ _ #[true, true, true, true, true, true, true, true, true, true, true, true] _
   refine AI.done rfl ?_
   show AW _ _ _ _ _ _
   refine AW.ret ?_
   obtain rfl := Option.some.inj H
   exact And.intro rfl (Exists.intro _ (Exists.intro _ ⟨ResV.oneW rfl (.refl _), Sub.at [] rfl, rfl, rfl⟩))
end Go.Proofs.YtdaafnaokdigbaaGreatDoor
namespace Go.Pv
def law15_PartSafe_j1 (y43 : Int) : Option Bool :=
some (decide (y43 < 4000))
def law15_PartSafe_B1 (F : Nat) (a1 : List (List UInt8)) (x10 : List UInt8) (y43 : Int) (rec46 : Int → Option Bool) (y45 : Int) : Option Bool :=
bif decide (y45 < (a1.length : Int)) then
  grd (okAt y45 a1.length) <|
  lt (at_ a1 y45) fun x50 =>
  bnd (law15_has F x50 x10) fun x52 =>
  bif x52 then
    some false
  else
    grd (okI (y45 + 1)) <|
    rec46 (y45 + 1)
else
  law15_PartSafe_j1 y43
def law15_PartSafe_L1 (F : Nat) (a1 : List (List UInt8)) (x10 : List UInt8) (y43 : Int) (n : Nat) : Int → Option Bool :=
  loop (fun rec x => law15_PartSafe_B1 F a1 x10 y43 rec x) n
def law15_PartSafe_j2 (F : Nat) (a1 : List (List UInt8)) (x10 : List UInt8) (y43 : Int) : Option Bool :=
law15_PartSafe_L1 F a1 x10 y43 F 0
def law15_PartSafe_j3 (y12 : Int) (rec13 : Int → Option Bool) (y39 : Bool) : Option Bool :=
bif !y39 then
  some false
else
  grd (okI (y12 + 1)) <|
  rec13 (y12 + 1)
def law15_PartSafe_B2 (F : Nat) (a1 : List (List UInt8)) (y12 : Int) (rec13 : Int → Option Bool) (rec24 : (Bool × Int) → Option Bool) (y22 : Bool) (y23 : Int) : Option Bool :=
bif decide (y23 < (a1.length : Int)) then
  grd (okAt y23 a1.length) <|
  lt (at_ a1 y23) fun x28 =>
  bnd (law15_digits F y12) fun x30 =>
  grd (okCat (([61, 95] : List UInt8).length + x30.length)) <|
  lt (([61, 95] : List UInt8) ++ x30) fun x33 =>
  bnd (law15_has F x28 x33) fun x35 =>
  grd (okI (y23 + 1)) <|
  rec24 (y22 || x35, y23 + 1)
else
  law15_PartSafe_j3 y12 rec13 y22
def law15_PartSafe_L2 (F : Nat) (a1 : List (List UInt8)) (y12 : Int) (rec13 : Int → Option Bool) (n : Nat) : (Bool × Int) → Option Bool :=
  loop (fun rec x => law15_PartSafe_B2 F a1 y12 rec13 rec x.1 x.2) n
def law15_PartSafe_B3 (F : Nat) (a1 : List (List UInt8)) (x10 : List UInt8) (rec13 : Int → Option Bool) (y12 : Int) : Option Bool :=
bndc (decide (y12 < 4000)) (law15_digits F y12) fun x16 =>
grdc (decide (y12 < 4000)) (okCat (([61, 95] : List UInt8).length + x16.length)) <|
lt (([61, 95] : List UInt8) ++ x16) fun x19 =>
bif (decide (y12 < 4000)) && (!decide (x19 = x10)) then
  law15_PartSafe_L2 F a1 y12 rec13 F (false, 0)
else
  law15_PartSafe_j2 F a1 x10 y12
def law15_PartSafe_L3 (F : Nat) (a1 : List (List UInt8)) (x10 : List UInt8) (n : Nat) : Int → Option Bool :=
  loop (fun rec x => law15_PartSafe_B3 F a1 x10 rec x) n
def law15_PartSafe (F : Nat) (a1 : List (List UInt8)) : Option Bool :=
bnd (law15_awake F) fun x4 =>
bnd (law15_Few F [] a1) fun x6 =>
bif (!x4) || (!x6) then
  some x4
else
  bnd (part_Boundary F a1) fun x10 =>
  law15_PartSafe_L3 F a1 x10 F 0
end Go.Pv
namespace Go.Proofs.YtdaafnaokdigbaaGreatDoor
open Go.RowKit Go.Av Go.Pv
theorem en8_lpartsafe : ∀ (args : Array Value) (w : World), (callFunc 8 args).run Tryz.prog w = .ok (.enter 8 args) w := fun _ _ => by kernel_rfl
theorem en9_lpartsafe : ∀ (args : Array Value) (w : World), (callFunc 9 args).run Tryz.prog w = .ok (.enter 9 args) w := fun _ _ => by kernel_rfl
theorem en12_lpartsafe : ∀ (args : Array Value) (w : World), (callFunc 12 args).run Tryz.prog w = .ok (.enter 12 args) w := fun _ _ => by kernel_rfl
theorem en17_lpartsafe : ∀ (args : Array Value) (w : World), (callFunc 17 args).run Tryz.prog w = .ok (.enter 17 args) w := fun _ _ => by kernel_rfl
theorem en18_lpartsafe : ∀ (args : Array Value) (w : World), (callFunc 18 args).run Tryz.prog w = .ok (.enter 18 args) w := fun _ _ => by kernel_rfl
set_option maxRecDepth 100000 in
set_option maxHeartbeats 1000000 in
theorem w_law15_PartSafe (F : Nat) (a1 : List (List UInt8)) (q2 : Option Nat) (r3 : Bool) (H : law15_PartSafe F a1 = some r3) : ACalls Tryz.prog 6 [slE (Enc.sl Enc.byte) a1 q2] [] (Ret (B r3) []) := by
 unfold law15_PartSafe at H
 refine ACalls.of_body Tryz.func6 rfl rfl ?_
 show AW _ _ 70 _ _ _
 refine AW.seq ?_
 refine AW.region ?_
 show AR _ _ _ _ _ [0] _
 refine sS rfl rfl rfl (asg rfl) ?_
 refine AR.nil ?_
 show AW _ _ _ _ _ _
 refine AW.seq ?_
 obtain ⟨x4, e5, H⟩ := bnd_s H
 refine AW.region ?_
 show AR _ _ _ _ _ [0, 1] _
 refine AR.run rfl rfl (AO.callp rfl en8_lpartsafe rfl (w_law15_awake F x4 e5) ?_)
 refine sS rfl rfl rfl (asg rfl) ?_
 refine AR.nil ?_
 show AW _ _ _ _ _ _
 refine AW.seq ?_
 obtain ⟨x6, e7, H⟩ := bnd_s H
 refine AW.region ?_
 show AR _ _ _ _ _ [0, 1, 2] _
 refine sS rfl rfl rfl (opS_move (av := slE _ _ _) rfl) ?_
 refine AR.run rfl rfl (AO.callp rfl en9_lpartsafe rfl (ACalls.weakA (.cons (.nil _) (.cons (.refl _) (.nil))) (w_law15_Few F [] none a1 q2 x6 e7)) ?_)
 refine sS rfl rfl rfl (asg rfl) ?_
 refine AR.nil ?_
 show AW _ _ _ _ _ _
 refine AW.seq ?_
 refine AW.seq ?_
 refine AW.region ?_
 show AR _ _ _ _ _ [0, 1, 2, 3, 4, 5] _
 refine sS rfl rfl rfl (mv rfl) ?_
 refine sS rfl rfl rfl (opS_not rfl) ?_
 refine sS rfl rfl rfl (mv rfl) ?_
 refine AR.meet (l := []) 20 (B ((!x4) || (!x6))) (fun K => ?_) ?_
 ·rcases Bool.eq_false_or_eq_true (!x4) with h8 | h8
  ·
   refine gF h8 rfl rfl rfl rfl rfl ?_
   refine gF h8 rfl rfl rfl rfl rfl ?_
   refine sS rfl rfl rfl (opS_pick_t (av := .v _) rfl h8 rfl) ?_
   exact K _ 2 _ (B_congr (or_t h8)) rfl rfl
  ·
   refine gT h8 rfl rfl rfl rfl rfl rfl (AO.ops rfl rfl (mv rfl) ?_)
   refine gT h8 rfl rfl rfl rfl rfl rfl (AO.ops rfl rfl (opS_not rfl) ?_)
   refine sS rfl rfl rfl (opS_pick_f (av := .v _) rfl h8 rfl) ?_
   exact K _ 2 _ (B_congr (or_f h8)) rfl rfl
 refine AR.nil ?_
 show AW _ _ _ _ _ _
 refine AW.cond rfl (fun c9 => ?_) (fun c9 => ?_)
 ·replace H := cnd_t c9 H
  refine AW.seq ?_
  refine AW.region ?_
  show AR _ _ _ _ _ [0, 1] _
  refine sS rfl rfl rfl (mv rfl) ?_
  refine sS rfl rfl rfl (asg rfl) ?_
  refine AR.nil ?_
  show AW _ _ _ _ _ _
  refine AW.ret ?_
  obtain rfl := Option.some.inj H
  exact And.intro rfl (Exists.intro _ (Exists.intro _ ⟨ResV.oneW rfl (.refl _), Sub.at [] rfl, rfl, rfl⟩))
 ·replace H := cnd_f c9 H
  refine AW.skip ?_
  show AW _ _ _ _ _ _
  refine AW.seq ?_
  obtain ⟨x10, e11, H⟩ := bnd_s H
  refine AW.region ?_
  show AR _ _ _ _ _ [0, 1, 2] _
  refine sS rfl rfl rfl (opS_move (av := slE _ _ _) rfl) ?_
  refine AR.run rfl rfl (AO.callp rfl en12_lpartsafe rfl (w_part_Boundary F a1 q2 x10 e11) ?_)
  refine sS rfl rfl rfl (asg rfl) ?_
  refine AR.nil ?_
  show AW _ _ _ _ _ _
  refine AW.seq ?_
  refine AW.region ?_
  show AR _ _ _ _ _ [0] _
  refine sS rfl rfl rfl (asg rfl) ?_
  refine AR.nil ?_
  show AW _ _ _ _ _ _
  refine AW.cut (X := Int) (fun y43 => ⟨[(0, slE (Enc.sl Enc.byte) a1 q2), (5, S x10), (6, i64 y43)], [], []⟩) (fun y43 => law15_PartSafe_j2 F a1 x10 y43 = some r3) ?_ ?_
  ·
   refine AW.block ?_
   refine AW.loop (X := Nat × Int) (fun (n14, y12) => ⟨[(0, slE (Enc.sl Enc.byte) a1 q2), (5, S x10), (6, i64 y12)], [], []⟩) (fun (n14, y12) => law15_PartSafe_L3 F a1 x10 n14 y12 = some r3) (fun (n14, y12) => n14) (F, 0) H (WK.at [] (.cons (.refl _) (.cons (.refl _) (.cons (.refl _) (.nil _)))) rfl) ?_
   rintro ⟨n14, y12⟩ H
   obtain ⟨n14, rfl, H⟩ := loop_s H
   replace H : law15_PartSafe_B3 F a1 x10 (law15_PartSafe_L3 F a1 x10 n14) y12 = some r3 := H
   unfold law15_PartSafe_B3 at H
   show AW _ _ _ _ _ _
   refine AW.seq ?_
   refine AW.seq ?_
   obtain ⟨x16, e17, H⟩ := bndc_s H
   obtain ⟨g18, H⟩ := grdc_s H
   obtain ⟨x19, e20, H⟩ := lt_s H
   refine AW.region ?_
   show AR _ _ _ _ _ [0, 1, 2, 3, 4, 5, 6, 7, 8] _
   refine sS rfl rfl rfl (mv rfl) ?_
   refine sS rfl rfl rfl (opS_lt rfl rfl) ?_
   refine sS rfl rfl rfl (mv rfl) ?_
   refine AR.meet (l := []) 32 (B ((decide (y12 < 4000)) && (!decide (x19 = x10)))) (fun K => ?_) ?_
   ·rcases Bool.eq_false_or_eq_true (decide (y12 < 4000)) with h15 | h15
    ·
     refine gT h15 rfl rfl rfl rfl rfl rfl (AO.ops rfl rfl (mv rfl) ?_)
     refine gT h15 rfl rfl rfl rfl rfl rfl (AO.callp rfl en17_lpartsafe rfl (w_law15_digits F y12 x16 (e17 h15)) ?_)
     refine gT h15 rfl rfl rfl rfl rfl rfl (AO.ops rfl rfl (g_cat rfl rfl (g18 h15) e20) ?_)
     refine gT h15 rfl rfl rfl rfl rfl rfl (AO.ops rfl rfl (mv rfl) ?_)
     refine gT h15 rfl rfl rfl rfl rfl rfl (AO.ops rfl rfl (opS_nes rfl rfl) ?_)
     refine sS rfl rfl rfl (opS_pick_t (av := .v _) rfl h15 rfl) ?_
     exact K _ 5 _ (B_congr (and_t h15)) rfl rfl
    ·
     refine gF h15 rfl rfl rfl rfl rfl ?_
     refine gF h15 rfl rfl rfl rfl rfl ?_
     refine gF h15 rfl rfl rfl rfl rfl ?_
     refine gF h15 rfl rfl rfl rfl rfl ?_
     refine gF h15 rfl rfl rfl rfl rfl ?_
     refine sS rfl rfl rfl (opS_pick_f (av := .v _) rfl h15 rfl) ?_
     exact K _ 5 _ (B_congr (and_f h15)) rfl rfl
   refine AR.nil ?_
   show AW _ _ _ _ _ _
   refine AW.cond rfl (fun c21 => ?_) (fun c21 => ?_)
   ·replace H := cnd_t c21 H
    refine AW.skip ?_
    show AW _ _ _ _ _ _
    refine AW.block ?_
    refine AW.seq ?_
    refine AW.region ?_
    show AR _ _ _ _ _ [0] _
    refine sS rfl rfl rfl (asg rfl) ?_
    refine AR.nil ?_
    show AW _ _ _ _ _ _
    refine AW.cut (X := Bool) (fun y39 => ⟨[(0, slE (Enc.sl Enc.byte) a1 q2), (5, S x10), (6, i64 y12), (7, B y39)], [], []⟩) (fun y39 => law15_PartSafe_j3 y12 (law15_PartSafe_L3 F a1 x10 n14) y39 = some r3) ?_ ?_
    ·
     refine AW.seq ?_
     refine AW.region ?_
     show AR _ _ _ _ _ [0] _
     refine sS rfl rfl rfl (asg rfl) ?_
     refine AR.nil ?_
     show AW _ _ _ _ _ _
     refine AW.block ?_
     refine AW.loop (X := Nat × Bool × Int) (fun (n25, y22, y23) => ⟨[(0, slE (Enc.sl Enc.byte) a1 q2), (5, S x10), (6, i64 y12), (7, B y22), (8, i64 y23)], [], []⟩) (fun (n25, y22, y23) => law15_PartSafe_L2 F a1 y12 (law15_PartSafe_L3 F a1 x10 n14) n25 (y22, y23) = some r3) (fun (n25, y22, y23) => n25) (F, false, 0) H (WK.at [] (.cons (.refl _) (.cons (.refl _) (.cons (.refl _) (.cons (.refl _) (.cons (.refl _) (.nil _)))))) rfl) ?_
     rintro ⟨n25, y22, y23⟩ H
     obtain ⟨n25, rfl, H⟩ := loop_s H
     replace H : law15_PartSafe_B2 F a1 y12 (law15_PartSafe_L3 F a1 x10 n14) (law15_PartSafe_L2 F a1 y12 (law15_PartSafe_L3 F a1 x10 n14) n25) y22 y23 = some r3 := H
     unfold law15_PartSafe_B2 at H
     show AW _ _ _ _ _ _
     refine AW.seq ?_
     refine AW.seq ?_
     refine AW.region ?_
     show AR _ _ _ _ _ [0, 1, 2, 3] _
     refine sS rfl rfl rfl (mv rfl) ?_
     refine sS rfl rfl rfl (opS_move (av := slE _ _ _) rfl) ?_
     refine sS rfl rfl rfl (opS_len_sl Tryz.underlying23 rfl) ?_
     refine sS rfl rfl rfl (opS_lt rfl rfl) ?_
     refine AR.nil ?_
     show AW _ _ _ _ _ _
     refine AW.cond rfl (fun c26 => ?_) (fun c26 => ?_)
     ·replace H := cnd_t c26 H
      refine AW.skip ?_
      show AW _ _ _ _ _ _
      refine AW.seq ?_
      refine AW.block ?_
      refine AW.seq ?_
      obtain ⟨g27, H⟩ := grd_s H
      obtain ⟨x28, e29, H⟩ := lt_s H
      obtain ⟨x30, e31, H⟩ := bnd_s H
      obtain ⟨g32, H⟩ := grd_s H
      obtain ⟨x33, e34, H⟩ := lt_s H
      obtain ⟨x35, e36, H⟩ := bnd_s H
      refine AW.region_draw (by kernel_rfl) ?_
      show AI _ _ _ _ _ 9 (Array.replicate 9 false) _
      refine AI.take (i := 0) rfl rfl (by kernel_rfl) (by kernel_rfl) (by kernel_rfl) (fun _ _ h => h) (opS_move (av := slE _ _ _) rfl) ?_
      show AI _ _ _ _ _ _ #[true, false, false, false, false, false, false, false, false] _
      refine AI.take (i := 1) rfl rfl (by kernel_rfl) (by kernel_rfl) (by kernel_rfl) (fun _ _ h => h) (mv rfl) ?_
      show AI _ _ _ _ _ _ #[true, true, false, false, false, false, false, false, false] _
      refine AI.take (i := 2) rfl rfl (by kernel_rfl) (by kernel_rfl) (by kernel_rfl) (fun _ _ h => h) (g_indexAddr (E := (Enc.sl Enc.byte)) Tryz.underlying23 (by kernel_rfl) rfl rfl g27 e29) ?_
      show AI _ _ _ _ _ _ #[true, true, true, false, false, false, false, false, false] _
      refine AI.take (i := 3) rfl rfl (by kernel_rfl) (by kernel_rfl) (by kernel_rfl) (fun _ _ h => h) (opS_load_cp Tryz.underlying26 rfl rfl) ?_
      show AI _ _ _ _ _ _ #[true, true, true, true, false, false, false, false, false] _
      refine AI.take (i := 4) rfl rfl (by kernel_rfl) (by kernel_rfl) (by kernel_rfl) (fun _ _ h => h) (mv rfl) ?_
      show AI _ _ _ _ _ _ #[true, true, true, true, true, false, false, false, false] _
      refine AI.one (i := 5) (by kernel_rfl) rfl rfl ?_
      refine AIO.callp rfl en17_lpartsafe rfl (w_law15_digits F y12 x30 e31) ?_
      show AI _ _ _ _ _ _ #[true, true, true, true, true, true, false, false, false] _
      refine AI.take (i := 6) rfl rfl (by kernel_rfl) (by kernel_rfl) (by kernel_rfl) (fun _ _ h => h) (g_cat rfl rfl g32 e34) ?_
      show AI _ _ _ _ _ _ #[true, true, true, true, true, true, true, false, false] _
      refine AI.one (i := 7) (by kernel_rfl) rfl rfl ?_
      refine AIO.callp rfl en18_lpartsafe rfl (w_law15_has F x28 none x33 x35 e36) ?_
      show AI _ _ _ _ _ _ #[true, true, true, true, true, true, true, true, false] _
      refine AI.take (i := 8) rfl rfl (by kernel_rfl) (by kernel_rfl) (by kernel_rfl) (fun _ _ h => h) (asg rfl) ?_
      show AI _ _ _ _ _ _ #[true, true, true, true, true, true, true, true, true] _
      refine AI.done rfl ?_
      show AW _ _ _ _ _ _
      refine AW.region ?_
      show AR _ _ _ _ _ [0, 1, 2, 3, 4] _
      refine sS rfl rfl rfl (mv rfl) ?_
      refine sS rfl rfl rfl (mv rfl) ?_
      refine AR.meet (l := [4]) 50 (B (y22 || x35)) (fun K => ?_) ?_
      ·rcases Bool.eq_false_or_eq_true y22 with h37 | h37
       ·
        refine gF h37 rfl rfl rfl rfl rfl ?_
        refine sS rfl rfl rfl (opS_pick_t (av := .v _) rfl h37 rfl) ?_
        exact K _ 1 _ (B_congr (or_t h37)) rfl rfl
       ·
        refine gT h37 rfl rfl rfl rfl rfl rfl (AO.ops rfl rfl (mv rfl) ?_)
        refine sS rfl rfl rfl (opS_pick_f (av := .v _) rfl h37 rfl) ?_
        exact K _ 1 _ (B_congr (or_f h37)) rfl rfl
      refine sS rfl rfl rfl (asg rfl) ?_
      refine AR.nil ?_
      show AW _ _ _ _ _ _
      obtain ⟨g38, H⟩ := grd_s H
      refine AW.region ?_
      show AR _ _ _ _ _ [0, 1, 2] _
      refine sS rfl rfl rfl (mv rfl) ?_
      refine sS rfl rfl rfl (g_add rfl rfl g38) ?_
      refine sS rfl rfl rfl (asg rfl) ?_
      refine AR.nil ?_
      exact Exists.intro (n25, y22 || x35, y23 + 1) ⟨H, Nat.lt_succ_self _, WK.at [] (.cons (.refl _) (.cons (.refl _) (.cons (.refl _) (.cons (.refl _) (.cons (.refl _) (.nil _)))))) rfl⟩
     ·replace H := cnd_f c26 H
      refine AW.exit ?_
      exact Exists.intro y22 ⟨H, WK.at [] (.cons (.refl _) (.cons (.refl _) (.cons (.refl _) (.cons (.refl _) (.nil _))))) rfl⟩
    rintro y39 H
    replace H : law15_PartSafe_j3 y12 (law15_PartSafe_L3 F a1 x10 n14) y39 = some r3 := H
    unfold law15_PartSafe_j3 at H
    show AW _ _ _ _ _ _
    refine AW.seq ?_
    refine AW.seq ?_
    refine AW.region ?_
    show AR _ _ _ _ _ [0, 1] _
    refine sS rfl rfl rfl (mv rfl) ?_
    refine sS rfl rfl rfl (opS_not rfl) ?_
    refine AR.nil ?_
    show AW _ _ _ _ _ _
    refine AW.cond rfl (fun c41 => ?_) (fun c41 => ?_)
    ·replace H := cnd_t c41 H
     refine AW.seq ?_
     refine AW.region ?_
     show AR _ _ _ _ _ [0] _
     refine sS rfl rfl rfl (asg rfl) ?_
     refine AR.nil ?_
     show AW _ _ _ _ _ _
     refine AW.ret ?_
     obtain rfl := Option.some.inj H
     exact And.intro rfl (Exists.intro _ (Exists.intro _ ⟨ResV.oneW rfl (.refl _), Sub.at [] rfl, rfl, rfl⟩))
    ·replace H := cnd_f c41 H
     refine AW.skip ?_
     show AW _ _ _ _ _ _
     obtain ⟨g42, H⟩ := grd_s H
     refine AW.region ?_
     show AR _ _ _ _ _ [0, 1, 2] _
     refine sS rfl rfl rfl (mv rfl) ?_
     refine sS rfl rfl rfl (g_add rfl rfl g42) ?_
     refine sS rfl rfl rfl (asg rfl) ?_
     refine AR.nil ?_
     exact Exists.intro (n14, y12 + 1) ⟨H, Nat.lt_succ_self _, WK.at [] (.cons (.refl _) (.cons (.refl _) (.cons (.refl _) (.nil _)))) rfl⟩
   ·replace H := cnd_f c21 H
    refine AW.exit ?_
    exact Exists.intro y12 ⟨H, WK.at [] (.cons (.refl _) (.cons (.refl _) (.cons (.refl _) (.nil _)))) rfl⟩
  rintro y43 H
  replace H : law15_PartSafe_j2 F a1 x10 y43 = some r3 := H
  unfold law15_PartSafe_j2 at H
  show AW _ _ _ _ _ _
  refine AW.cut (X := Unit) (fun _ => ⟨[(6, i64 y43)], [], []⟩) (fun _ => law15_PartSafe_j1 y43 = some r3) ?_ ?_
  ·
   refine AW.seq ?_
   refine AW.region ?_
   show AR _ _ _ _ _ [0] _
   refine sS rfl rfl rfl (asg rfl) ?_
   refine AR.nil ?_
   show AW _ _ _ _ _ _
   refine AW.block ?_
   refine AW.loop (X := Nat × Int) (fun (n47, y45) => ⟨[(0, slE (Enc.sl Enc.byte) a1 q2), (5, S x10), (6, i64 y43), (10, i64 y45)], [], []⟩) (fun (n47, y45) => law15_PartSafe_L1 F a1 x10 y43 n47 y45 = some r3) (fun (n47, y45) => n47) (F, 0) H (WK.at [] (.cons (.refl _) (.cons (.refl _) (.cons (.refl _) (.cons (.refl _) (.nil _))))) rfl) ?_
   rintro ⟨n47, y45⟩ H
   obtain ⟨n47, rfl, H⟩ := loop_s H
   replace H : law15_PartSafe_B1 F a1 x10 y43 (law15_PartSafe_L1 F a1 x10 y43 n47) y45 = some r3 := H
   unfold law15_PartSafe_B1 at H
   show AW _ _ _ _ _ _
   refine AW.seq ?_
   refine AW.seq ?_
   refine AW.region ?_
   show AR _ _ _ _ _ [0, 1, 2, 3] _
   refine sS rfl rfl rfl (mv rfl) ?_
   refine sS rfl rfl rfl (opS_move (av := slE _ _ _) rfl) ?_
   refine sS rfl rfl rfl (opS_len_sl Tryz.underlying23 rfl) ?_
   refine sS rfl rfl rfl (opS_lt rfl rfl) ?_
   refine AR.nil ?_
   show AW _ _ _ _ _ _
   refine AW.cond rfl (fun c48 => ?_) (fun c48 => ?_)
   ·replace H := cnd_t c48 H
    refine AW.skip ?_
    show AW _ _ _ _ _ _
    refine AW.seq ?_
    refine AW.block ?_
    refine AW.seq ?_
    obtain ⟨g49, H⟩ := grd_s H
    obtain ⟨x50, e51, H⟩ := lt_s H
    obtain ⟨x52, e53, H⟩ := bnd_s H
    refine AW.region ?_
    show AR _ _ _ _ _ [0, 1, 2, 3, 4, 5, 6] _
    refine sS rfl rfl rfl (opS_move (av := slE _ _ _) rfl) ?_
    refine sS rfl rfl rfl (mv rfl) ?_
    refine sS rfl rfl rfl (g_indexAddr (E := (Enc.sl Enc.byte)) Tryz.underlying23 (by kernel_rfl) rfl rfl g49 e51) ?_
    refine sS rfl rfl rfl (opS_load_cp Tryz.underlying26 rfl rfl) ?_
    refine sS rfl rfl rfl (mv rfl) ?_
    refine AR.run rfl rfl (AO.callp rfl en18_lpartsafe rfl (w_law15_has F x50 none x10 x52 e53) ?_)
    refine sS rfl rfl rfl (asg rfl) ?_
    refine AR.nil ?_
    show AW _ _ _ _ _ _
    refine AW.seq ?_
    refine AW.region ?_
    show AR _ _ _ _ _ [0] _
    refine sS rfl rfl rfl (mv rfl) ?_
    refine AR.nil ?_
    show AW _ _ _ _ _ _
    refine AW.cond rfl (fun c54 => ?_) (fun c54 => ?_)
    ·replace H := cnd_t c54 H
     refine AW.seq ?_
     refine AW.region ?_
     show AR _ _ _ _ _ [0] _
     refine sS rfl rfl rfl (asg rfl) ?_
     refine AR.nil ?_
     show AW _ _ _ _ _ _
     refine AW.ret ?_
     obtain rfl := Option.some.inj H
     exact And.intro rfl (Exists.intro _ (Exists.intro _ ⟨ResV.oneW rfl (.refl _), Sub.at [] rfl, rfl, rfl⟩))
    ·replace H := cnd_f c54 H
     refine AW.skip ?_
     show AW _ _ _ _ _ _
     obtain ⟨g55, H⟩ := grd_s H
     refine AW.region ?_
     show AR _ _ _ _ _ [0, 1, 2] _
     refine sS rfl rfl rfl (mv rfl) ?_
     refine sS rfl rfl rfl (g_add rfl rfl g55) ?_
     refine sS rfl rfl rfl (asg rfl) ?_
     refine AR.nil ?_
     exact Exists.intro (n47, y45 + 1) ⟨H, Nat.lt_succ_self _, WK.at [] (.cons (.refl _) (.cons (.refl _) (.cons (.refl _) (.cons (.refl _) (.nil _))))) rfl⟩
   ·replace H := cnd_f c48 H
    refine AW.exit ?_
    exact Exists.intro () ⟨H, WK.at [] (.cons (.refl _) (.nil _)) rfl⟩
  rintro _ H
  replace H : law15_PartSafe_j1 y43 = some r3 := H
  unfold law15_PartSafe_j1 at H
  show AW _ _ _ _ _ _
  refine AW.seq ?_
  refine AW.region ?_
  show AR _ _ _ _ _ [0, 1, 2] _
  refine sS rfl rfl rfl (mv rfl) ?_
  refine sS rfl rfl rfl (opS_lt rfl rfl) ?_
  refine sS rfl rfl rfl (asg rfl) ?_
  refine AR.nil ?_
  show AW _ _ _ _ _ _
  refine AW.ret ?_
  obtain rfl := Option.some.inj H
  exact And.intro rfl (Exists.intro _ (Exists.intro _ ⟨ResV.oneW rfl (.refl _), Sub.at [] rfl, rfl, rfl⟩))
end Go.Proofs.YtdaafnaokdigbaaGreatDoor
namespace Go.Hd
open Go.Pv Go.Av
abbrev Bs := List UInt8
end Go.Hd
namespace Go.Hd
open Go.Pv Go.Av
theorem of_all8 (p : UInt8 → Bool) (h : ∀ k : Fin 256, p (UInt8.ofNat k.val) = true) (b : UInt8) : p b = true := by
  have := h ⟨b.toNat, b.toNat_lt⟩
  simpa using this
def q3 (a b c : Nat) : Nat := a * 65536 + b * 256 + c
def ch (n : Nat) : UInt8 := b64_k1.getD n default
def four (a b c : UInt8) : Bs := let v := q3 a.toNat b.toNat c.toNat; [ch (v / 262144), ch (v / 4096 % 64), ch (v / 64 % 64), ch (v % 64)]
def enc : Bs → Bs
  | a :: b :: c :: r => four a b c ++ enc r
  | [a, b] => (four a b 0).take 3 ++ [61]
  | [a] => (four a 0 0).take 2 ++ [61, 61]
  | [] => []
def gb (s : Bs) (i : Nat) : UInt8 := s.getD i 0
end Go.Hd
namespace Go.Hd
open Go.Pv Go.Av
def num (c : UInt8) : Int := if c = 61 then 0 else Go.Lib.indexByte b64_k1 c
def stp (acc n : Int) (c : UInt8) : Option (Int × Int) :=
  if num c < 0 ∨ (if c = 61 then n - 1 else n) < 1 then none
  else some (IntKind.u64.wrap ((BitVec.ofInt IntKind.u64.bits (IntKind.u64.wrap (acc * 2 ^ min (Int.toNat 6) IntKind.u64.bits)) ||| BitVec.ofInt IntKind.u64.bits (IntKind.u64.wrap (num c))).toNat), (if c = 61 then n - 1 else n))
def g4 (c0 c1 c2 c3 : UInt8) : Option (Int × Int) :=
  match stp 0 3 c0 with
  | none => none
  | some (a, n) => match stp a n c1 with
    | none => none
    | some (a, n) => match stp a n c2 with
      | none => none
      | some (a, n) => stp a n c3
def three (v n : Int) : Bs := to_ ([Go.Av.toB (Int.fdiv v (2 ^ min (Int.toNat 16) IntKind.u64.bits)), Go.Av.toB (Int.fdiv v (2 ^ min (Int.toNat 8) IntKind.u64.bits)), Go.Av.toB v] : Bs) n
theorem fd (v k : Nat) : Int.fdiv (v : Int) ((k : Nat) : Int) = ((v / k : Nat) : Int) := by
  rw [Int.fdiv_eq_ediv_of_nonneg _ (Int.natCast_nonneg _)]; rfl
open Classical in
noncomputable def dec (s : Bs) : Bs × Int := if h : ∃ b, enc b = s then (h.choose, 0) else ([], 2)
end Go.Hd
namespace Go.Hd
open Go.Pv Go.Av
def okb (c : UInt8) : Bool := (decide (32 ≤ (c.toNat : Int))) && (decide ((c.toNat : Int) < 127))
def bad (x y : UInt8) : Bool := (x == 32 && y == 32) || (x == 61 && y == 63)
def has2 (p : UInt8 → UInt8 → Bool) : Bs → Bool
  | x :: y :: r => p x y || has2 p (y :: r)
  | _ => false
theorem contains_cons (x : UInt8) (r sub : Bs) : Go.Lib.contains (x :: r) sub = (sub.isPrefixOf (x :: r) || Go.Lib.contains r sub) := by
  unfold Go.Lib.contains
  have hg := Go.Lib.index_ge r sub
  rw [Go.Lib.index]
  cases hp : sub.isPrefixOf (x :: r) with
  | true => simp
  | false =>
    rw [if_neg (by simp), Bool.false_or]
    by_cases h : Go.Lib.index r sub = -1
    · rw [h]; rfl
    · rw [if_neg (by simpa using h)]
      exact decide_eq_decide.2 (by omega)
def plainB (s : Bs) : Bool := (((s.all okb && !decide (s = [])) && (decide (s.head? ≠ some 32) && decide (s.getLast? ≠ some 32))) && !has2 bad s)
theorem bq (a b : UInt8) : decide (a = b) = (a == b) := by by_cases h : a = b <;> simp [h]
theorem fand (x : Bool) : (false && x) = false := Eq.symm (Eq.symm rfl)
theorem tand (x : Bool) : (true && x) = x := Eq.symm (Eq.symm rfl)
theorem nfl : (!false) = true := Eq.symm (Eq.symm rfl)
theorem ntr : (!true) = false := Eq.symm (Eq.symm rfl)
theorem cfl {α : Type} (a b : α) : (bif false then a else b) = b := Eq.symm (Eq.symm rfl)
theorem ctr {α : Type} (a b : α) : (bif true then a else b) = a := Eq.symm (Eq.symm rfl)
def insb (c : UInt8) : Bool := decide (Go.Av.shr8 c 6 = 2)
def dn (s : Bs) : Nat → Nat
  | 0 => 45
  | k + 1 => bif insb (gb s (42 + k)) then dn s k else 42 + k
def pt (s : Bs) : Nat := if s.length ≤ 45 then s.length else dn s 4
end Go.Hd
namespace Go.Hd
open Go.Pv Go.Av
def spb (c : UInt8) : Bool := ((decide (c = 32)) || (decide (c = 13))) || (decide (c = 10))
def wf : Bs → Bs → List Bs
  | cur, [] => if cur = [] then [] else [cur]
  | cur, c :: r => if spb c = true then (if cur = [] then wf [] r else cur :: wf [] r) else wf (cur ++ [c]) r
end Go.Hd
namespace Go.Hd
open Go.Pv Go.Av
theorem bql (a b : Bs) : decide (a = b) = (a == b) := by by_cases h : a = b <;> simp [h]
theorem hp_take {w p : Bs} : Go.Lib.hasPrefix w p = (decide (p.length ≤ w.length) && decide (w.take p.length = p)) := by
  rw [← Go.Lib.hasPrefix_of_take, bql]
end Go.Hd
namespace Go.Av.Qp
def dg (n : Nat) : UInt8 := [48, 49, 50, 51, 52, 53, 54, 55, 56, 57, 65, 66, 67, 68, 69, 70].getD n 0
def plainB (c : UInt8) (r : List UInt8) : Bool :=
  if c.toNat = 32 ∨ c.toNat = 9 then (match r with | [] => false | d :: _ => decide (d.toNat ≠ 10)) else decide (33 ≤ c.toNat ∧ c.toNat ≤ 126 ∧ c.toNat ≠ 61)
theorem plainB_nil (c : UInt8) : plainB c [] = decide (c.toNat ≠ 32 ∧ c.toNat ≠ 9 ∧ 33 ≤ c.toNat ∧ c.toNat ≤ 126 ∧ c.toNat ≠ 61) := by
  unfold plainB; split
  · rename_i h; rw [eq_comm, decide_eq_false_iff_not]; omega
  · rename_i h; rw [decide_eq_decide]; omega
theorem plainB_cons (c d : UInt8) (r : List UInt8) : plainB c (d :: r) = decide (((c.toNat = 32 ∨ c.toNat = 9) ∧ d.toNat ≠ 10) ∨ (c.toNat ≠ 32 ∧ c.toNat ≠ 9 ∧ 33 ≤ c.toNat ∧ c.toNat ≤ 126 ∧ c.toNat ≠ 61)) := by
  unfold plainB; split
  · rename_i h; simp only; rw [decide_eq_decide]; omega
  · rename_i h; rw [decide_eq_decide]; omega
def code (c : UInt8) (r : List UInt8) : List UInt8 := if plainB c r then [c] else [61, dg (c.toNat / 16), dg (c.toNat % 16)]
def put (line : Nat) (s : List UInt8) : List UInt8 × Nat := if line + s.length > 75 then ([61, 13, 10] ++ s, s.length) else (s, line + s.length)
def enc : Nat → List UInt8 → List UInt8
  | _, [] => []
  | n, c :: r => if c.toNat = 10 then [13, 10] ++ enc 0 r else (put n (code c r)).1 ++ enc (put n (code c r)).2 r
def dig (c : UInt8) : Option Nat :=
  if 48 ≤ c.toNat ∧ c.toNat ≤ 57 then some (c.toNat - 48) else if 65 ≤ c.toNat ∧ c.toNat ≤ 70 then some (c.toNat - 55) else if 97 ≤ c.toNat ∧ c.toNat ≤ 102 then some (c.toNat - 87) else none
def tok : List UInt8 → Option (List UInt8 × Nat)
  | [] => none
  | c :: r =>
    if c.toNat = 13 ∧ (r.map UInt8.toNat).head? = some 10 then some ([10], 2)
    else if c.toNat = 61 then
      (match r with
       | a :: b :: _ => if a.toNat = 13 ∧ b.toNat = 10 then some ([], 3) else (match dig a, dig b with | some x, some y => some ([UInt8.ofNat (16 * x + y)], 3) | _, _ => none)
       | _ => none)
    else if c.toNat = 9 ∨ (32 ≤ c.toNat ∧ c.toNat ≤ 126) then some ([c], 1) else none
def dec : Nat → List UInt8 → Option (List UInt8)
  | _, [] => some []
  | 0, _ :: _ => none
  | k + 1, b => match tok b with
    | none => none
    | some (x, n) => (dec k (b.drop n)).map (x ++ ·)
theorem tok_pos {b x : List UInt8} {n : Nat} (h : tok b = some (x, n)) : 1 ≤ n ∧ n ≤ b.length ∧ x.length ≤ 1 := by
  unfold tok at h
  cases b with
  | nil => cases h
  | cons c r =>
    simp only at h
    split at h
    · rename_i h1
      cases h
      have : r ≠ [] := by intro e; subst e; simp at h1
      have := List.length_pos_iff.2 this
      simp; omega
    · split at h
      · split at h
        · rename_i a b' r'
          split at h
          · cases h; simp
          · split at h
            · cases h; simp
            · cases h
        · cases h
      · split at h
        · cases h; simp
        · cases h
def decode (b : List UInt8) : Option (List UInt8) := dec b.length b
theorem dec_more : ∀ (k : Nat) (b : List UInt8), b.length ≤ k → dec k b = dec b.length b := by
  intro k
  induction k using Nat.strongRecOn with
  | _ k ih =>
    intro b hb
    cases b with
    | nil => cases k <;> rfl
    | cons c r =>
      obtain ⟨k, rfl⟩ : ∃ m, k = m + 1 := ⟨k - 1, by simp at hb; omega⟩
      simp only [dec, List.length_cons]
      cases ht : tok (c :: r) with
      | none => rfl
      | some p =>
        obtain ⟨x, n⟩ := p
        obtain ⟨h1, h2, _⟩ := tok_pos ht
        simp only
        simp at hb h2
        have hl : ((c :: r).drop n).length ≤ r.length := by simp; omega
        rw [ih k (by omega) _ (by omega)]
        by_cases hk : r.length < k + 1
        · rw [ih r.length hk _ hl]
        · omega
theorem decode_step {b : List UInt8} (hb : b ≠ []) : decode b = match tok b with
    | none => none
    | some (x, n) => (decode (b.drop n)).map (x ++ ·) := by
  cases b with
  | nil => exact absurd rfl hb
  | cons c r =>
    unfold decode
    simp only [List.length_cons, dec]
    cases ht : tok (c :: r) with
    | none => rfl
    | some p =>
      obtain ⟨x, n⟩ := p
      obtain ⟨h1, h2, _⟩ := tok_pos ht
      simp only
      simp at h2
      rw [dec_more r.length _ (by simp; omega)]
theorem nat10 {c : UInt8} : c = 10 ↔ c.toNat = 10 := ⟨fun h => by rw [h]; rfl, fun h => UInt8.toNat_inj.1 h⟩
theorem decode_some {b x : List UInt8} {n : Nat} (h0 : 0 < b.length) (h : tok b = some (x, n)) : decode b = (decode (b.drop n)).map (x ++ ·) := by
  rw [decode_step (by intro e; subst e; simp at h0), h]
end Go.Av.Qp
namespace Go.Av.Qp
theorem soft_ahead (b : List UInt8) : decode ([61, 13, 10] ++ b) = decode b := by
  rw [decode_some (x := []) (n := 3) (by simp) (by rfl)]
  simp
theorem dig_dg : ∀ n : Nat, n < 16 → dig (dg n) = some n ∧ (dg n).toNat ≠ 13 ∧ (dg n).toNat ≠ 10 ∧ 48 ≤ (dg n).toNat ∧ (dg n).toNat ≤ 70 := by decide +kernel
theorem dg_byte : ∀ n : Nat, n < 256 → UInt8.ofNat (16 * (n / 16) + n % 16) = UInt8.ofNat n := by decide +kernel
theorem code_cases (c : UInt8) (r : List UInt8) : (plainB c r = true ∧ code c r = [c] ∧ c.toNat ≠ 61 ∧ c.toNat ≠ 13 ∧ c.toNat ≠ 10 ∧ (c.toNat = 9 ∨ (32 ≤ c.toNat ∧ c.toNat ≤ 126))) ∨ code c r = [61, dg (c.toNat / 16), dg (c.toNat % 16)] := by
  unfold code
  by_cases h : plainB c r = true
  · left
    rw [if_pos h]
    refine ⟨h, rfl, ?_⟩
    cases r with
    | nil => rw [plainB_nil] at h; simp at h; omega
    | cons d r => rw [plainB_cons] at h; simp at h; omega
  · right; rw [if_neg h]
theorem back_code (c : UInt8) (r x : List UInt8) : decode (code c r ++ x) = (decode x).map ([c] ++ ·) := by
  rcases code_cases c r with ⟨_, h, h1, h2, h3, h4⟩ | h
  · rw [h, decode_some (x := [c]) (n := 1) (by simp) (by simp only [List.cons_append, tok]; rw [if_neg (by omega), if_neg h1, if_pos h4])]
    rfl
  · rw [h]
    have a1 := dig_dg (c.toNat / 16) (by have := c.toNat_lt; omega)
    have a2 := dig_dg (c.toNat % 16) (by omega)
    have ht : tok ([61, dg (c.toNat / 16), dg (c.toNat % 16)] ++ x) = some ([c], 3) := by
      simp only [List.cons_append, tok]
      have e : (61 : UInt8).toNat = 61 := rfl
      rw [if_neg (by rw [e]; omega), if_pos e, if_neg (by omega), a1.1, a2.1]
      simp only
      rw [dg_byte _ c.toNat_lt, UInt8.ofNat_toNat]
    rw [decode_some (by simp) ht]
    rfl
theorem back : ∀ (b : List UInt8) (n : Nat), decode (enc n b) = some b := by
  intro b
  induction b with
  | nil => intro n; rfl
  | cons c r ih =>
    intro n
    unfold enc
    by_cases h : c.toNat = 10
    · rw [if_pos h, decode_some (x := [10]) (n := 2) (by simp) (by rfl)]
      show (decode (enc 0 r)).map ([10] ++ ·) = _; rw [ih]
      have : c = 10 := nat10.2 h
      rw [this]; rfl
    · rw [if_neg h]
      unfold put
      split
      · simp only [List.append_assoc]
        rw [soft_ahead, back_code, ih]; rfl
      · simp only
        rw [back_code, ih]; rfl
end Go.Av.Qp
namespace Go.Pt
open Go.Pv Go.Av
open Go.Hd (fand tand nfl ntr cfl ctr bq of_all8 Bs hp_take)
theorem fo (x : Bool) : (false || x) = x := Eq.symm (Eq.symm rfl)
end Go.Pt
namespace Go.Hd
open Go.Pv Go.Av
def en : Bs → Option Nat
  | [] => none
  | c :: r => if (c = 13 ∧ r.head? = some 10) ∧ (r.drop 1).head? ≠ some 32 then some 2 else match en r with
    | none => none
    | some n => some (n + 1)
theorem index_cons (x : UInt8) (r sub : Bs) : Go.Lib.index (x :: r) sub = if sub.isPrefixOf (x :: r) = true then 0 else if Go.Lib.index r sub = -1 then -1 else Go.Lib.index r sub + 1 := by
  rw [Go.Lib.index]
  simp only [beq_iff_eq]
theorem fo (x : Bool) : (false || x) = x := Eq.symm (Eq.symm rfl)
end Go.Hd
namespace Go.Pt
open Go.Pv Go.Av
open Go.Hd (fand tand nfl ntr cfl ctr bq of_all8 Bs hp_take index_cons contains_cons)
open Go.Lib (decDigits)
theorem dd_small {n : Nat} (h : n < 10) : decDigits n = [UInt8.ofNat (48 + n)] := by rw [decDigits, dif_pos h]
theorem dd_big {n : Nat} (h : ¬ n < 10) : decDigits n = decDigits (n / 10) ++ [UInt8.ofNat (48 + n % 10)] := by rw [decDigits, dif_neg h]
theorem dg_sub (k : Nat) (h : k < 10) : sub ([48, 49, 50, 51, 52, 53, 54, 55, 56, 57] : Bs) (k : Int) ((k : Int) + 1) = [UInt8.ofNat (48 + k)] := by
  have : ∀ k : Fin 10, sub ([48, 49, 50, 51, 52, 53, 54, 55, 56, 57] : Bs) (k.val : Int) ((k.val : Int) + 1) = [UInt8.ofNat (48 + k.val)] := by decide +kernel
  exact this ⟨k, h⟩
theorem dd_len : ∀ (m n : Nat), n < m → (decDigits n).length ≤ n + 1 := by
  intro m
  induction m with
  | zero => intro n h; omega
  | succ m ih =>
    intro n h
    by_cases hn : n < 10
    · rw [dd_small hn]; simp
    · have := ih (n / 10) (by omega)
      rw [dd_big hn, List.length_append, List.length_singleton]; omega
theorem digits_eq : ∀ (F n : Nat), n < F → n ≤ 1000000 → law15_digits F (n : Int) = some (decDigits n) := by
  intro F
  induction F with
  | zero => intro n h; omega
  | succ F ih =>
    intro n hF hn
    have e1 : (n : Int) % 10 = ((n % 10 : Nat) : Int) := by omega
    have e2 : (n : Int) / 10 = ((n / 10 : Nat) : Int) := by omega
    have hl : ([48, 49, 50, 51, 52, 53, 54, 55, 56, 57] : Bs).length = 10 := rfl
    unfold law15_digits
    by_cases h10 : n < 10
    · rw [bT (by omega), grd_I (by omega), hl, grd_Sub (by omega), lt_eq, dg_sub n h10, dd_small h10]
    · have hdl := dd_len (n / 10 + 1) (n / 10) (by omega)
      rw [bF (by omega), grd_Div (by omega), grd_Div (by omega), grd_Div (by omega), e1, grd_I (by omega), hl, grd_Sub (by omega), lt_eq, dg_sub _ (by omega), e2, ih (n / 10) (by omega) (by omega), bnd_some, grd_Cat (by simp; omega), lt_eq, dd_big h10]
theorem itoa_eq (n : Nat) : Go.Lib.itoa (n : Int) = decDigits n := by
  unfold Go.Lib.itoa
  rw [if_neg (by omega), Int.toNat_natCast]
theorem idx_short {r x : Bs} (h : r.length < x.length) : Go.Lib.index r x = -1 := Go.Lib.index_long (Nat.le_of_lt h) (fun e => by rw [e] at h; omega)
theorem pre_take (x r : Bs) (h : x.length ≤ r.length) : x.isPrefixOf r = decide (r.take x.length = x) := by
  have := hp_take (w := r) (p := x)
  rw [decide_eq_true h, tand] at this
  exact this
theorem has_loop (s x : Bs) (hs : s.length ≤ 1000000) (hx : 1 ≤ x.length) (hx2 : x.length ≤ 1000000) : ∀ (m i : Nat), s.length - i < m → i ≤ s.length + 1 → law15_has_L1 s x m (i : Int) = some (Go.Lib.contains (s.drop i) x) := by
  intro m
  induction m with
  | zero => intro i h; omega
  | succ m ih =>
    intro i hm hi
    show law15_has_B1 s x (law15_has_L1 s x m) (i : Int) = _
    unfold law15_has_B1 law15_has_j1
    have e1 : (i : Int) + (x.length : Int) = ((i + x.length : Nat) : Int) := by omega
    rw [e1, grd_I (by omega)]
    by_cases h : i + x.length ≤ s.length
    · have hd : s.drop i = s[i]'(by omega) :: s.drop (i + 1) := List.drop_eq_getElem_cons (by omega)
      have hsub : (s.take (i + x.length)).drop i = (s.drop i).take x.length := by rw [List.drop_take]; congr 1; omega
      have hp := pre_take x (s.drop i) (by simp; omega)
      have hct := contains_cons (s[i]'(by omega)) (s.drop (i + 1)) x
      rw [← hd, hp] at hct
      rw [bT (by omega), grd_I (by omega), grd_Sub (by omega), lt_eq, sub_nat, hsub, hct]
      by_cases hc : (s.drop i).take x.length = x
      · rw [bT hc, decide_eq_true hc]; rfl
      · rw [bF hc, decide_eq_false hc, fo, grd_I (by omega), cast_succ, ih (i + 1) (by omega) (by omega)]
    · have : Go.Lib.index (s.drop i) x = -1 := idx_short (by simp; omega)
      rw [bF (by omega)]
      unfold Go.Lib.contains
      rw [this]; rfl
theorem has_eq (F : Nat) (s x : Bs) (hs : s.length ≤ 1000000) (hx : 1 ≤ x.length) (hx2 : x.length ≤ 1000000) (hF : s.length < F) : law15_has F s x = some (Go.Lib.contains s x) := by
  have := has_loop s x hs hx hx2 F 0 (by omega) (by omega)
  rw [List.drop_zero] at this
  exact this
def bd (n : Nat) : Bs := [61, 95] ++ decDigits n
def fnd (l : List Bs) (n : Nat) : Bool := l.any fun b => Go.Lib.contains b (bd n)
theorem bd_len (n : Nat) (h : n ≤ 100000) : 2 ≤ (bd n).length ∧ (bd n).length ≤ 200000 := by
  have := dd_len (n + 1) n (by omega)
  unfold bd
  rw [List.length_append]
  constructor
  · simp
  · simp; omega
theorem hasC_eq (F : Nat) (b x : Bs) (hb : b.length ≤ 1000000) (h2 : 2 ≤ x.length) (hx : x.length ≤ 1000000) : part_hasC F b x = some (Go.Lib.contains b x) := by
  unfold part_hasC
  rw [grd_Cat (by omega), grd_S (by omega), grd_D h2, grd_S (by omega), lt_eq]
theorem idxB_loop (F : Nat) (l : List Bs) (x : Bs) (hl : l.length ≤ 1000000) (hb : ∀ b ∈ l, b.length ≤ 1000000) (h2 : 2 ≤ x.length) (hx : x.length ≤ 1000000) : ∀ (m i : Nat), l.length - i < m → i ≤ l.length →
    ∃ r : Int, part_IndexB_L1 F l x m (i : Int) = some r ∧ decide (0 ≤ r) = (l.drop i).any (fun b => Go.Lib.contains b x) := by
  intro m
  induction m with
  | zero => intro i h; omega
  | succ m ih =>
    intro i hm hi
    show ∃ r : Int, part_IndexB_B1 F l x (part_IndexB_L1 F l x m) (i : Int) = some r ∧ _
    unfold part_IndexB_B1 part_IndexB_j1
    by_cases h : i < l.length
    · have hd : l.drop i = l[i] :: l.drop (i + 1) := List.drop_eq_getElem_cons h
      rw [bT (by omega), grd_At (by omega), lt_eq, at_nat h, hasC_eq F _ x (hb _ (List.getElem_mem h)) h2 hx, bnd_some, hd, List.any_cons]
      cases hc : Go.Lib.contains l[i] x with
      | true => exact ⟨(i : Int), rfl, by rw [decide_eq_true (by omega)]; rfl⟩
      | false =>
        obtain ⟨r, h1, h3⟩ := ih (i + 1) (by omega) (by omega)
        exact ⟨r, by rw [cfl, grd_I (by omega), cast_succ, h1], by rw [h3, fo]⟩
    · rw [bF (by omega), List.drop_eq_nil_of_le (by omega)]
      exact ⟨-1, rfl, rfl⟩
theorem ContainsB_eq (F : Nat) (l : List Bs) (x : Bs) (hl : l.length ≤ 1000000) (hF : l.length < F) (hb : ∀ b ∈ l, b.length ≤ 1000000) (h2 : 2 ≤ x.length) (hx : x.length ≤ 1000000) : part_ContainsB F l x = some (l.any fun b => Go.Lib.contains b x) := by
  obtain ⟨r, h1, h3⟩ := idxB_loop F l x hl hb h2 hx F 0 (by omega) (by omega)
  rw [List.drop_zero] at h3
  unfold part_ContainsB
  have h1' : part_IndexB F l x = some r := h1
  rw [h1', bnd_some, h3]
theorem bnd_loop (F : Nat) (l : List Bs) (hl : l.length ≤ 1000000) (hF : l.length < F) (hb : ∀ b ∈ l, b.length ≤ 1000000) (N : Nat) (hN : N ≤ 100000) (h0 : fnd l N = false) : ∀ (m i : Nat), N - i < m → i ≤ N → (∀ k, i ≤ k → k < N → fnd l k = true) → part_Boundary_L1 F l m (i : Int) = some (bd N) := by
  intro m
  induction m with
  | zero => intro i h; omega
  | succ m ih =>
    intro i hm hi hk
    show part_Boundary_B1 F l (part_Boundary_L1 F l m) (i : Int) = _
    unfold part_Boundary_B1
    have ⟨b1, b2⟩ := bd_len i (by omega)
    have hd := dd_len (i + 1) i (by omega)
    rw [grd_I (by omega), lt_eq, itoa_eq, grd_Cat (by simp; omega), lt_eq]
    show bnd (part_ContainsB F l (bd i)) _ = _
    rw [ContainsB_eq F l (bd i) hl hF hb b1 (by omega), bnd_some]
    show (bif !(fnd l i) then some (bd i) else _) = _
    by_cases he : i = N
    · subst he; rw [h0]; rfl
    · rw [hk i (by omega) (by omega), ntr, cfl, grd_I (by omega), cast_succ, ih (i + 1) (by omega) (by omega) (fun k h1 h2 => hk k (by omega) h2)]
theorem Boundary_eq (F : Nat) (l : List Bs) (hl : l.length ≤ 1000000) (hF : l.length < F) (hb : ∀ b ∈ l, b.length ≤ 1000000) (N : Nat) (hN : N ≤ 100000) (hNF : N < F) (h0 : fnd l N = false) (hk : ∀ k, k < N → fnd l k = true) : part_Boundary F l = some (bd N) :=
  bnd_loop F l hl hF hb N hN h0 F 0 (by omega) (by omega) (fun k _ h => hk k h)
theorem nodup_le {α : Type} [DecidableEq α] : ∀ (a b : List α), a.Nodup → (∀ x ∈ a, x ∈ b) → a.length ≤ b.length
  | [], b, _, _ => by simp
  | x :: a, b, hn, h => by
    have hx := h x (by simp)
    have := nodup_le a (b.erase x) (List.nodup_cons.1 hn).2 (fun y hy => by
      have hne : y ≠ x := fun e => (List.nodup_cons.1 hn).1 (e ▸ hy)
      exact (List.mem_erase_of_ne hne).2 (h y (by simp [hy])))
    rw [List.length_erase_of_mem hx] at this
    have := List.length_pos_of_mem hx
    rw [List.length_cons]; omega
theorem nodup_map {α β : Type} {f : α → β} (hf : ∀ a b, f a = f b → a = b) : ∀ l : List α, l.Nodup → (l.map f).Nodup
  | [], _ => List.nodup_nil
  | x :: l, h => by
    rw [List.map_cons, List.nodup_cons]
    refine ⟨fun hm => ?_, nodup_map hf l (List.nodup_cons.1 h).2⟩
    obtain ⟨y, hy, e⟩ := List.mem_map.1 hm
    exact (List.nodup_cons.1 h).1 (hf _ _ e ▸ hy)
def val (l : Bs) : Nat := l.foldl (fun a c => 10 * a + (c.toNat - 48)) 0
theorem val_dd : ∀ (m n : Nat), n < m → val (decDigits n) = n := by
  intro m
  induction m with
  | zero => intro n h; omega
  | succ m ih =>
    intro n h
    have hd : ∀ k, k < 10 → (UInt8.ofNat (48 + k)).toNat - 48 = k := by decide +kernel
    by_cases hn : n < 10
    · rw [dd_small hn]
      show 10 * 0 + ((UInt8.ofNat (48 + n)).toNat - 48) = n
      rw [hd n hn]; omega
    · have := ih (n / 10) (by omega)
      unfold val at this ⊢
      rw [dd_big hn, List.foldl_append, this]
      show 10 * (n / 10) + ((UInt8.ofNat (48 + n % 10)).toNat - 48) = n
      rw [hd (n % 10) (by omega)]; omega
theorem bd_inj {a b : Nat} (h : bd a = bd b) : a = b := by
  unfold bd at h
  have := List.append_cancel_left h
  have e1 := val_dd (a + 1) a (by omega)
  have e2 := val_dd (b + 1) b (by omega)
  rw [this] at e1
  omega
theorem dd_four (n : Nat) (h1 : 1000 ≤ n) (h2 : n < 10000) : (bd n).length = 6 := by
  unfold bd
  rw [dd_big (by omega), dd_big (by omega), dd_big (by omega), dd_small (by omega)]
  simp
def wins (l : List Bs) : List Bs := l.flatMap fun b => (List.range (b.length - 5)).map fun p => (b.drop p).take 6
theorem wins_len (l : List Bs) (h : ∀ b ∈ l, b.length ≤ 300) : (wins l).length ≤ 295 * l.length := by
  induction l with
  | nil => simp [wins]
  | cons b l ih =>
    have e : wins (b :: l) = ((List.range (b.length - 5)).map fun p => (b.drop p).take 6) ++ wins l := by unfold wins; rw [List.flatMap_cons]
    have := ih (fun c hc => h c (by simp [hc]))
    have hb := h b (by simp)
    rw [e, List.length_append, List.length_map, List.length_range, List.length_cons]; omega
theorem cont_at : ∀ (b x : Bs), 1 ≤ x.length → Go.Lib.contains b x = true → ∃ p, p < b.length ∧ (b.drop p).take x.length = x
  | [], x, hx, h => by
    unfold Go.Lib.contains at h
    rw [idx_short (r := []) (show ([] : Bs).length < x.length by simp; omega)] at h
    cases h
  | c :: r, x, hx, h => by
    rw [contains_cons, Bool.or_eq_true] at h
    rcases h with h | h
    · exact ⟨0, by simp, by rw [List.drop_zero]; exact (List.prefix_iff_eq_take.1 (List.isPrefixOf_iff_prefix.1 h)).symm⟩
    · obtain ⟨p, h1, h2⟩ := cont_at r x hx h
      exact ⟨p + 1, by simpa using h1, by simpa using h2⟩
theorem exists_free (l : List Bs) (hl : l.length ≤ 10) (h : ∀ b ∈ l, b.length ≤ 300) : ∃ n, 1000 ≤ n ∧ n < 4000 ∧ fnd l n = false := by
  refine Classical.byContradiction fun hno => ?_
  have hall : ∀ n, 1000 ≤ n → n < 4000 → fnd l n = true := fun n h1 h2 => by
    cases hf : fnd l n with
    | true => rfl
    | false => exact absurd ⟨n, h1, h2, hf⟩ hno
  have := nodup_le ((List.range 3000).map fun k => bd (1000 + k)) (wins l)
    (by
      exact nodup_map (fun a b hab => by have := bd_inj hab; omega) _ List.nodup_range)
    (fun x hx => by
      obtain ⟨k, hk, rfl⟩ := List.mem_map.1 hx
      have hk := List.mem_range.1 hk
      have hf := hall (1000 + k) (by omega) (by omega)
      unfold fnd at hf
      obtain ⟨b, hb, hc⟩ := List.any_eq_true.1 hf
      obtain ⟨p, h1, h2⟩ := cont_at b _ (by have := dd_four (1000 + k) (by omega) (by omega); omega) hc
      rw [dd_four (1000 + k) (by omega) (by omega)] at h2
      have hl6 := congrArg List.length h2
      rw [dd_four (1000 + k) (by omega) (by omega), List.length_take, List.length_drop] at hl6
      exact List.mem_flatMap.2 ⟨b, hb, List.mem_map.2 ⟨p, List.mem_range.2 (by omega), h2⟩⟩)
  have hw := wins_len l h
  rw [List.length_map, List.length_range] at this
  omega
theorem least (p : Nat → Bool) : ∀ n, p n = false → ∃ N, N ≤ n ∧ p N = false ∧ ∀ k, k < N → p k = true := by
  intro n
  induction n using Nat.strongRecOn with
  | _ n ih =>
    intro h
    by_cases hk : ∃ k, k < n ∧ p k = false
    · obtain ⟨k, h1, h2⟩ := hk
      obtain ⟨N, a, b, c⟩ := ih k h1 h2
      exact ⟨N, by omega, b, c⟩
    · refine ⟨n, Nat.le_refl _, h, fun k h1 => ?_⟩
      cases hp : p k with
      | true => rfl
      | false => exact absurd ⟨k, h1, hp⟩ hk
end Go.Pt
namespace Go.Pt
open Go.Pv Go.Av
open Go.Hd (fand tand nfl ntr cfl ctr Bs)
theorem few_in (l : List Bs) (hl : l.length ≤ 10) : ∀ (n i : Nat), l.length - i < n → i ≤ l.length → ∃ b, law15_Few_L1 l n (i : Int) = some b ∧ (b = true → ∀ x ∈ l.drop i, x.length ≤ 300) := by
  intro n
  induction n with
  | zero => intro i h; omega
  | succ n ih =>
    intro i hn hi
    show ∃ b, law15_Few_B1 l (law15_Few_L1 l n) (i : Int) = some b ∧ _
    unfold law15_Few_B1 law15_Few_j1
    by_cases h : i < l.length
    · obtain ⟨b, h1, h2⟩ := ih (i + 1) (by omega) (by omega)
      rw [bT (by omega), grd_At (by omega), lt_eq, at_nat h, List.drop_eq_getElem_cons h]
      by_cases hc : 300 < (l[i].length : Int)
      · rw [bT hc]; exact ⟨false, rfl, fun h => by cases h⟩
      · rw [bF hc]
        refine ⟨b, by rw [grd_I (by omega), cast_succ, h1], fun hb x hx => ?_⟩
        rcases List.mem_cons.1 hx with rfl | hx
        · omega
        · exact h2 hb x hx
    · rw [bF (by omega), List.drop_eq_nil_of_le (by omega)]
      exact ⟨true, rfl, fun _ x hx => by cases hx⟩
theorem few_out (F : Nat) (hF : 100 < F) (k l : List Bs) (hk : k.length ≤ 10) (hl : l.length ≤ 10) : ∀ (n i : Nat), k.length - i < n → i ≤ k.length → ∃ b, law15_Few_L2 F k l n (i : Int) = some b ∧ (b = true → (∀ x ∈ k.drop i, x.length ≤ 100) ∧ ∀ x ∈ l, x.length ≤ 300) := by
  intro n
  induction n with
  | zero => intro i h; omega
  | succ n ih =>
    intro i hn hi
    show ∃ b, law15_Few_B2 F k l (law15_Few_L2 F k l n) (i : Int) = some b ∧ _
    unfold law15_Few_B2 law15_Few_j2
    by_cases h : i < k.length
    · obtain ⟨b, h1, h2⟩ := ih (i + 1) (by omega) (by omega)
      rw [bT (by omega), grd_At (by omega), lt_eq, at_nat h, List.drop_eq_getElem_cons h]
      by_cases hc : 100 < (k[i].length : Int)
      · rw [bT hc]; exact ⟨false, rfl, fun h => by cases h⟩
      · rw [bF hc]
        refine ⟨b, by rw [grd_I (by omega), cast_succ, h1], fun hb => ⟨fun x hx => ?_, (h2 hb).2⟩⟩
        rcases List.mem_cons.1 hx with rfl | hx
        · omega
        · exact (h2 hb).1 x hx
    · rw [bF (by omega), List.drop_eq_nil_of_le (by omega)]
      obtain ⟨b, h1, h2⟩ := few_in l hl F 0 (by omega) (by omega)
      rw [List.drop_zero] at h2
      exact ⟨b, h1, fun hb => ⟨fun x hx => (by cases hx), h2 hb⟩⟩
theorem Few_eq (F : Nat) (hF : 100 < F) (k l : List Bs) : ∃ b, law15_Few F k l = some b ∧ (b = true → (k.length ≤ 10 ∧ l.length ≤ 10) ∧ (∀ x ∈ k, x.length ≤ 100) ∧ ∀ x ∈ l, x.length ≤ 300) := by
  unfold law15_Few
  by_cases h : k.length ≤ 10 ∧ l.length ≤ 10
  · obtain ⟨b, h1, h2⟩ := few_out F hF k l h.1 h.2 F 0 (by omega) (by omega)
    rw [decide_eq_false (show ¬ 10 < (k.length : Int) by omega), decide_eq_false (show ¬ 10 < (l.length : Int) by omega), fo, cfl]
    rw [List.drop_zero] at h2
    exact ⟨b, h1, fun hb => ⟨h, h2 hb⟩⟩
  · have : ((decide (10 < (k.length : Int))) || (decide (10 < (l.length : Int)))) = true := by
      simp only [Bool.or_eq_true, decide_eq_true_eq]; omega
    rw [this, ctr]
    exact ⟨false, rfl, fun h => by cases h⟩
theorem safe1 (F : Nat) (hF : 1000 < F) (l : List Bs) (N : Nat) (hN : N < 4000) (hl : l.length ≤ 10) (hb : ∀ b ∈ l, b.length ≤ 300) (h0 : fnd l N = false) : ∀ (m i : Nat), l.length - i < m → i ≤ l.length → law15_PartSafe_L1 F l (bd N) (N : Int) m (i : Int) = some true := by
  intro m
  induction m with
  | zero => intro i h; omega
  | succ m ih =>
    intro i hm hi
    show law15_PartSafe_B1 F l (bd N) (N : Int) (law15_PartSafe_L1 F l (bd N) (N : Int) m) (i : Int) = _
    unfold law15_PartSafe_B1 law15_PartSafe_j1
    by_cases h : i < l.length
    · have hmem := List.getElem_mem h
      have := hb _ hmem
      have ⟨b1, b2⟩ := bd_len N (by omega)
      have hc : Go.Lib.contains l[i] (bd N) = false := by
        cases hh : Go.Lib.contains l[i] (bd N) with
        | false => rfl
        | true =>
          have : fnd l N = true := List.any_eq_true.2 ⟨_, hmem, hh⟩
          rw [h0] at this; cases this
      rw [bT (by omega), grd_At (by omega), lt_eq, at_nat h, has_eq F _ _ (by omega) (by omega) (by omega) (by omega), bnd_some, hc, cfl, grd_I (by omega), cast_succ, ih (i + 1) (by omega) (by omega)]
    · rw [bF (by omega), decide_eq_true (show (N : Int) < 4000 by omega)]
theorem safe2 (F : Nat) (hF : 10000 < F) (l : List Bs) (n : Nat) (rec13 : Int → Option Bool) (hn : n < 4000) (hl : l.length ≤ 10) (hb : ∀ b ∈ l, b.length ≤ 300) : ∀ (m i : Nat) (f : Bool), l.length - i < m → i ≤ l.length → law15_PartSafe_L2 F l (n : Int) rec13 m (f, (i : Int)) = law15_PartSafe_j3 (n : Int) rec13 (f || (l.drop i).any (fun b => Go.Lib.contains b (bd n))) := by
  intro m
  induction m with
  | zero => intro i f h; omega
  | succ m ih =>
    intro i f hm hi
    show law15_PartSafe_B2 F l (n : Int) rec13 (law15_PartSafe_L2 F l (n : Int) rec13 m) f (i : Int) = _
    unfold law15_PartSafe_B2
    by_cases h : i < l.length
    · have hd : l.drop i = l[i] :: l.drop (i + 1) := List.drop_eq_getElem_cons h
      have := hb _ (List.getElem_mem h)
      have ⟨b1, b2⟩ := bd_len n (by omega)
      have hdd := dd_len (n + 1) n (by omega)
      have hh := has_eq F l[i] (bd n) (by omega) (by omega) (by omega) (by omega)
      rw [bT (by omega), grd_At (by omega), lt_eq, at_nat h, digits_eq F n (by omega) (by omega), bnd_some, grd_Cat (by simp; omega), lt_eq]
      show bnd (law15_has F l[i] (bd n)) _ = _
      rw [hh, bnd_some, grd_I (by omega), cast_succ, ih (i + 1) _ (by omega) (by omega), hd, List.any_cons, Bool.or_assoc]
    · rw [bF (by omega), List.drop_eq_nil_of_le (by omega)]
      simp
theorem safe3 (F : Nat) (hF : 10000 < F) (l : List Bs) (N : Nat) (hN : N < 4000) (hl : l.length ≤ 10) (hb : ∀ b ∈ l, b.length ≤ 300) (h0 : fnd l N = false) (hk : ∀ k, k < N → fnd l k = true) : ∀ (m i : Nat), N - i < m → i ≤ N → law15_PartSafe_L3 F l (bd N) m (i : Int) = some true := by
  intro m
  induction m with
  | zero => intro i h; omega
  | succ m ih =>
    intro i hm hi
    show law15_PartSafe_B3 F l (bd N) (law15_PartSafe_L3 F l (bd N) m) (i : Int) = _
    unfold law15_PartSafe_B3 law15_PartSafe_j2
    have hdd := dd_len (i + 1) i (by omega)
    have hx : ([61, 95] : Bs) ++ Go.Lib.decDigits i = bd i := rfl
    rw [decide_eq_true (show (i : Int) < 4000 by omega), digits_eq F i (by omega) (by omega), bndc_t, bnd_some, grdc_t, grd_Cat (by simp; omega), lt_eq, tand, hx]
    by_cases he : i = N
    · subst he
      rw [decide_eq_true rfl, ntr, cfl]
      exact safe1 F (by omega) l i hN hl hb h0 F 0 (by omega) (by omega)
    · have hne : ¬ bd i = bd N := fun e => he (bd_inj e)
      have := safe2 F hF l i (law15_PartSafe_L3 F l (bd N) m) (by omega) hl hb F 0 false (by omega) (by omega)
      rw [List.drop_zero, fo] at this
      rw [decide_eq_false hne, nfl, ctr]
      refine Eq.trans this ?_
      show law15_PartSafe_j3 (i : Int) _ (fnd l i) = _
      unfold law15_PartSafe_j3
      rw [hk i (by omega), ntr, cfl, grd_I (by omega), cast_succ, ih (i + 1) (by omega) (by omega)]
theorem awake_eq : law15_awake 1000000 = some true := by decide +kernel
theorem PartSafe_F (F : Nat) (hF : 100000 < F) (hw : law15_awake F = some true) (l : List Bs) : law15_PartSafe F l = some true := by
  unfold law15_PartSafe
  obtain ⟨f, h1, h2⟩ := Few_eq F (by omega) [] l
  rw [hw, bnd_some, h1, bnd_some]
  cases f with
  | false => rfl
  | true =>
    obtain ⟨⟨_, hl⟩, _, hb⟩ := h2 rfl
    obtain ⟨n, _, hn, h0⟩ := exists_free l hl hb
    obtain ⟨N, hN, h0, hk⟩ := least (fnd l) n h0
    rw [ntr, fo, cfl, Boundary_eq F l (by omega) (by omega) (fun b h => by have := hb b h; omega) N (by omega) (by omega) h0 hk, bnd_some]
    exact safe3 F (by omega) l N (by omega) hl hb h0 hk F 0 (by omega) (by omega)
theorem PartSafe_t (l : List Bs) : law15_PartSafe 1000000 l = some true := PartSafe_F 1000000 (by omega) awake_eq l
end Go.Pt
namespace Go.Av
open Go.RowKit Go.ChangeShapes Go.WideShapes
section
variable {H : Type} {enc : TypeId × Value → H} {P : Program} {w : World}
def Opens {H : Type} (enc : TypeId × Value → H) (P : Program) (w : World) (t : TypeId) {α : Type} (E : α → List AV) (p : α → Prop) : Prop :=
  ∀ fuel cs d, DataW.trod enc P w 0 (fun _ => true) true fuel t cs = some d → ∃ x, p x ∧ RelL (Info.start w) w (E x) cs
theorem opens_bytes {t e : TypeId} (ht : P.underlying t = some (.slice e)) (he : P.underlying e = some (.int .u8)) (hc : P.cellsOf e = 1) :
    Opens enc P w t (fun l : List UInt8 => [slE Enc.byte l none]) (fun l => l.length ≤ maxLen) := by
  intro fuel cs d h
  rcases open_ints ht he hc h with ⟨rfl, _⟩ | ⟨x, len, cap, zs, rfl, _, hl, hm, hz, _, hcell, hw⟩
  · exact ⟨[], by simp, .cons (.slz _ _ _) .nil⟩
  · simp only [if_true] at hz
    obtain ⟨l, hl', hm', r⟩ := rel_bytes (w := w) (a := some x) (len := len) (cap := cap) (zs := zs) (.inr ⟨x, rfl, hl, hm, hz, hcell, hw⟩)
    exact ⟨l, by omega, .cons r .nil⟩
theorem add_add (a : Addr) (m r : Nat) : (a.add m).add r = a.add (m + r) := by
  unfold Addr.add
  by_cases hm : m = 0
  · subst hm; simp
  · by_cases hr : r = 0
    · subst hr; simp
    · simp [hm, hr, Nat.add_assoc]
theorem opens_slice {t e : TypeId} {α β : Type} {E : α → List AV} {p : α → Prop} (G : Enc β) (g : α → β) (ht : P.underlying t = some (.slice e)) (hc : P.cellsOf e = G.k)
    (h : Opens enc P w e E p) (hg : ∀ x, E x = G.f (g x)) : Opens enc P w t (fun l : List β => [slE G l none]) (fun l => l.length ≤ maxLen ∧ ∀ y ∈ l, ∃ x, g x = y ∧ p x) := by
  intro fuel cs d hd
  rcases DataW.trod_slice ht hd with ⟨rfl, _⟩ | ⟨a, len, cap, elems, rest, n, _, rfl, _, _, hl, hm, hlen, hel, _, _⟩
  · exact ⟨[], ⟨by simp, by simp⟩, .cons (.slz _ _ _) .nil⟩
  · have go : ∀ r i, i + r = len → ∃ (l : List β) (vs : List Value), (l.length = r ∧ ∀ y ∈ l, ∃ x, g x = y ∧ p x) ∧ RelL (Info.start w) w (G.fl l) vs ∧ ∀ j, j < vs.length → w.cell? (a.add (i * G.k + j)) = vs[j]? := by
      intro r
      induction r with
      | zero => intro i hi; exact ⟨[], [], ⟨rfl, by simp⟩, .nil, fun j hj => by simp at hj⟩
      | succ r ih =>
        intro i hi
        have hb := hel i (by omega)
        rw [List.getElem?_eq_getElem (by omega), Option.bind_eq_some_iff] at hb
        obtain ⟨cs', hcs, hy⟩ := hb
        rw [hc] at hcs
        obtain ⟨_, hcl, hce⟩ := World.cells?_some hcs
        obtain ⟨x, hx, rx⟩ := h _ _ _ hy
        rw [hg] at rx
        obtain ⟨l, vs, ⟨l1, l2⟩, rl, hv⟩ := ih (i + 1) (by omega)
        refine ⟨g x :: l, cs' ++ vs, ⟨by simp [l1], fun y hy => ?_⟩, by rw [G.fl_cons]; exact rx.append rl, fun j hj => ?_⟩
        · rcases List.mem_cons.1 hy with rfl | hy
          · exact ⟨x, rfl, hx⟩
          · exact l2 y hy
        · by_cases hjk : j < G.k
          · have := hce j hjk
            rw [add_add] at this
            rw [this, List.getElem?_append_left (by omega)]
          · have := hv (j - G.k) (by simp at hj; omega)
            rw [List.getElem?_append_right (by omega), hcl, ← this, Nat.succ_mul]
            congr 2; omega
    obtain ⟨l, vs, ⟨l1, l2⟩, rl, hv⟩ := go len 0 (by omega)
    refine ⟨l, ⟨by omega, l2⟩, .cons ?_ .nil⟩
    by_cases h0 : l = []
    · subst h0
      simp at l1
      subst l1
      exact .slz _ _ _
    · have hlp := List.length_pos_iff.2 h0
      have hvl : vs.length = len * G.k := by rw [rl.1, G.fl_length, l1]
      have hpos := G.pos
      have hv0 : 0 < vs.length := by rw [hvl]; exact Nat.mul_pos (by omega) hpos
      have hx0 := hv 0 hv0
      rw [List.getElem?_eq_getElem hv0, Nat.zero_mul] at hx0
      obtain ⟨hb, hs⟩ := cell_lt hx0
      have hx : a = ⟨a.block, a.off, none⟩ := by
        have : a.add (0 + 0) = a := rfl
        rw [this] at hs
        cases a; simp at hs; subst hs; rfl
      have hb' : a.block < w.heap.size := hb
      rw [hx]
      have hadd : ∀ i, w.cell? ⟨a.block, a.off + i, none⟩ = w.cell? (a.add i) := fun i => by
        unfold Addr.add
        by_cases h : i = 0
        · rw [if_pos h]; subst h; rw [Nat.add_zero, ← hx]
        · rw [if_neg h]
      unfold slE
      have hfl : (G.fl l).length = vs.length := rl.1.symm
      refine .sl G.k (G.fl l) none a.block a.off len cap (fun j => vs.getD j undef) G.pos (by rw [hfl, hvl]) hl (stab_start hb') ?_ ?_ (fun _ h => by cases h)
      · intro j hj
        have := hv j (by omega)
        rw [Nat.zero_mul, Nat.zero_add] at this
        rw [hadd j, this, List.getElem?_eq_getElem (by omega)]
        simp [List.getD, show j < vs.length by omega]
      · intro j hj
        have := rl.2 j hj
        simpa [List.getD, show j < vs.length by omega] using this
theorem one_of {t : TypeId} {v : Value} {d : DataW H} {ps : List MemPlace} {α : Type} {E : α → AV} {p : α → Prop} (hv : v.cells = #[v]) (hd : DataW.Trod enc P w 0 (fun _ => true) true t v d ps) (h : Opens enc P w t (fun x => [E x]) p) :
    ∃ x, p x ∧ Rel (Info.start w) w (E x) v := by
  obtain ⟨fuel, hf⟩ := hd
  obtain ⟨x, hx, rx⟩ := h _ _ _ hf
  rw [hv] at rx
  exact ⟨x, hx, rx.head⟩
end
end Go.Av
